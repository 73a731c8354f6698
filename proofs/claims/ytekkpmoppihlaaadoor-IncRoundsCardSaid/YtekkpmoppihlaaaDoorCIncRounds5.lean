/- The functions that the law IncRounds reaches, told as plain functions, with what is proved of them, and the words they need (part 5). -/
import Derived.Test.YtekkpmoppihlaaaDoorCIncRounds0
import Derived.Test.YtekkpmoppihlaaaDoorCIncRounds1
import Derived.Test.YtekkpmoppihlaaaDoorCIncRounds2
import Derived.Test.YtekkpmoppihlaaaDoorCIncRounds4
import Derived.Test.YtekkpmoppihlaaaDoorCIncRounds3
import Derived.SizedLaws
import Derived.ChangeSlices
import Derived.LaidMore
import Derived.LaidHandle
import Derived.LaidSub
import Derived.OpenShut
import Derived.ChangeSame
import Derived.Lay
import Derived.Lib.LaidTab
import Derived.Test.YtekkpmoppihlaaaDoorRows
import Derived.Stop.LaidErr
import Derived.Lib.SmallJoins
import Derived.ChangeMaps5
set_option linter.unusedVariables false
set_option linter.unusedSimpArgs false
section
namespace Go.Proofs.YtekkpmoppihlaaaDoor.Px
open Fig Go.RowKit Go.Proofs.YtekkpmoppihlaaaDoorW.PrintWords Go.Proofs.YtekkpmoppihlaaaDoorW.PrintLast Go.Proofs.YtekkpmoppihlaaaDoorW.PrintMore
attribute [local go_sem] max2_int min2_int max_two min_two max_three min_three max_four min_four   -- for this text's walks alone
attribute [local go_sem] fieldA23_0 fieldA23_1 fieldA23_2
theorem numP {s : ByteArray} (h : dB s = true) (hne : s.size ≠ 0) (hs : s.size ≤ 140737488351232) : ten_Number.f s = some (limbs (vB s), true) := by
  unfold ten_Number.f; rw [if_pos hs, if_pos ⟨h, hne⟩]
end Go.Proofs.YtekkpmoppihlaaaDoor.Px
end
section
namespace Go.Proofs.YtekkpmoppihlaaaDoor.Px
open Fig Go.RowKit Go.Proofs.YtekkpmoppihlaaaDoorW.PrintWords Go.Proofs.YtekkpmoppihlaaaDoorW.PrintLast Go.Proofs.YtekkpmoppihlaaaDoorW.PrintMore
attribute [local go_sem] max2_int min2_int max_two min_two max_three min_three max_four min_four   -- for this text's walks alone
attribute [local go_sem] fieldA23_0 fieldA23_1 fieldA23_2
theorem coefP {b : Bool} {s : ByteArray} {e : Int} (h : OkD s e) : dec_Coef.f b s e = some (limbs (vB s)) := by
  have := h.sz
  unfold dec_Coef.f; rw [numP h.d h.ne (by omega)]; rfl
theorem coef_len {s : ByteArray} {e : Int} (h : OkD s e) : (limbs (vB s)).length ≤ 100000 := by
  have := limbs_len_digB (vB s)
  have := h.val
  have := h.sz
  omega
theorem shiftP {l : List Int} {n : Int} (g : goodL l = true) (hl : l.length ≤ 500000) (hn : n ≤ 1000000) : ten_Shift.f l n = some (limbs (valL l * 10 ^ n.toNat)) := by unfold ten_Shift.f; rw [if_pos ⟨g, hl, hn⟩]
end Go.Proofs.YtekkpmoppihlaaaDoor.Px
end
section
namespace Go.Proofs.YtekkpmoppihlaaaDoor.Px
open Fig Go.RowKit Go.Proofs.YtekkpmoppihlaaaDoorW.PrintWords Go.Proofs.YtekkpmoppihlaaaDoorW.PrintLast Go.Proofs.YtekkpmoppihlaaaDoorW.PrintMore
attribute [local go_sem] max2_int min2_int max_two min_two max_three min_three max_four min_four   -- for this text's walks alone
attribute [local go_sem] fieldA23_0 fieldA23_1 fieldA23_2
theorem w_add (e : Int) (p : Nat) (h1 : -1000000 ≤ e) (h2 : e ≤ 1000000) (hp : p ≤ 1000000) : wrap64 (e + (p : Int)) = e + (p : Int) := w64 (by omega) (by omega)
theorem w_norm (e : Int) (p q : Nat) (h1 : -1000000 ≤ e) (h2 : e ≤ 1000000) (hp : p ≤ 1000000) (hq : q ≤ 1000000) : wrap64 (wrap64 (e + (p : Int)) - (q : Int)) = e + (p : Int) - (q : Int) := by rw [w_add e p h1 h2 hp, w64 (by omega) (by omega)]
theorem normP {b : Bool} {s : ByteArray} {e : Int} (h : OkD s e) : dec_Norm.f b s e = some (b, nD (vB s), nE (vB s) e) := by
  have hz := h.val
  have h1 := h.sz
  have h2 := h.lo
  have h3 := h.hi
  unfold dec_Norm.f
  rw [show strings_TrimLeft.f s (⟨#[48]⟩ : ByteArray) = some (digB (vB s)) by unfold strings_TrimLeft.f; rw [if_pos rfl, stripB_eq h.d]]
  simp only [Option.bind_some]
  by_cases h0 : vB s = 0
  · rw [if_pos (digB_toList_nil.2 h0), h0]; rfl
  · rw [if_neg (fun hh => h0 (digB_toList_nil.1 hh))]
    have hl := digB_len_core h0
    have ht : strings_TrimRight.f (digB (vB s)) (⟨#[48]⟩ : ByteArray) = some (digB (core (vB s))) := by
      unfold strings_TrimRight.f
      rw [if_pos ⟨rfl, by omega⟩]
      show some (⟨(Lib.trimRightB (digs (vB s)) 48).toArray⟩ : ByteArray) = _
      unfold Lib.trimRightB; rw [trimR_digs h0]; rfl
    rw [ht]
    simp only [Option.bind_some]
    rw [w_norm e _ _ (by omega) (by omega) (by omega) (by omega)]
    unfold nD nE
    rw [if_neg h0, if_neg h0, show e + ((digB (vB s)).size : Int) - ((digB (core (vB s))).size : Int) = e + (tz (vB s) : Int) by omega]
end Go.Proofs.YtekkpmoppihlaaaDoor.Px
end
section
namespace Go.Proofs.YtekkpmoppihlaaaDoor.Px
open Fig Go.RowKit Go.Proofs.YtekkpmoppihlaaaDoorW.PrintWords Go.Proofs.YtekkpmoppihlaaaDoorW.PrintLast Go.Proofs.YtekkpmoppihlaaaDoorW.PrintMore
attribute [local go_sem] max2_int min2_int max_two min_two max_three min_three max_four min_four   -- for this text's walks alone
attribute [local go_sem] fieldA23_0 fieldA23_1 fieldA23_2
theorem away_up (m : Int) (neg odd : Bool) (half : Int) : mode_Away.f m neg odd half = some (upB m neg odd half) := rfl
end Go.Proofs.YtekkpmoppihlaaaDoor.Px
end
section
namespace Go.Proofs.YtekkpmoppihlaaaDoor.Px
open Fig Go.RowKit Go.Proofs.YtekkpmoppihlaaaDoorW.PrintWords Go.Proofs.YtekkpmoppihlaaaDoorW.PrintLast Go.Proofs.YtekkpmoppihlaaaDoorW.PrintMore
attribute [local go_sem] max2_int min2_int max_two min_two max_three min_three max_four min_four   -- for this text's walks alone
attribute [local go_sem] fieldA23_0 fieldA23_1 fieldA23_2
theorem Mul_loop (a b : List Int) (ga : goodL a = true) (gb : goodL b = true) (la : a.length ≤ 1000000) (lb : b.length ≤ 1000000) : ∀ (d n : Nat) (x : List Int), b.length - n = d → n ≤ b.length → goodL x = true → x.length = a.length + b.length + 1 → valL x = valL a * valL (b.take n) →
    Ev (fun k => mul_Mul.l0 k a x b (b.length : Int) (n : Int)) (limbs (valL a * valL b))
  | 0, n, x, h1, h2, gx, hx, hv => by
    refine evDone (r' := limbs (valL x)) (fun k => ?_) ?_
    · simp only [mul_Mul.l0, nat_Trim.f]; rw [if_neg (by omega), trimF_eq gx (by omega)]; rfl
    · rw [hv, List.take_of_length_le (by omega)]
  | d + 1, n, x, h1, h2, gx, hx, hv => by
    have hnb : n < b.length := by omega
    have pb := goodL_iff.1 gb _ (List.getElem_mem hnb)
    obtain ⟨y, hy⟩ : ∃ v : Nat, b[n] = (v : Int) := ⟨b[n].toNat, by omega⟩
    have e : valL (b.take (n + 1)) = valL (b.take n) + 1000000000 ^ n * y := by
      rw [List.take_succ_eq_append_getElem hnb, valL_snoc, hy, Int.toNat_natCast, List.length_take, Nat.min_eq_left (by omega)]
    have key : valL x + 1000000000 ^ n * (valL a * y) = valL a * valL (b.take (n + 1)) := by
      rw [hv, e, Nat.mul_add, Nat.mul_left_comm (1000000000 ^ n)]
    have hlt : valL x + 1000000000 ^ n * (valL a * y) < 1000000000 ^ x.length := by
      rw [key, hx]
      have va := valL_lt ga
      have vb := valL_lt (goodL_take gb (n + 1))
      have h3 := Nat.mul_lt_mul'' va vb
      rw [← Nat.pow_add] at h3
      exact Nat.lt_of_lt_of_le h3 (Nat.pow_le_pow_right (by omega) (by rw [List.length_take]; omega))
    obtain ⟨r, hr, g1, g2, g3⟩ := row_ev (p := n) gx ga (show y < 1000000000 by omega) (by omega) (by omega) hlt
    refine Ev.step (f := fun k => (mul_row.f k x a (y : Int) (n : Int)).bind fun t => mul_Mul.l0 k a t b (b.length : Int) ((n + 1 : Nat) : Int)) (fun k => ?_) (Ev.bind hr (Mul_loop a b ga gb la lb d (n + 1) r (by omega) (by omega) g1 (by omega) (by rw [g3, key])))
    simp only [mul_Mul.l0]; rw [if_pos (by omega), if_pos (by omega), if_pos (by omega), rd_get hnb, hy, succ64 _ (by omega)]
theorem Mul_ev {a b : List Int} (ga : goodL a = true) (gb : goodL b = true) (la : a.length ≤ 1000000) (lb : b.length ≤ 1000000) : Ev (fun k => mul_Mul.f k a b) (limbs (valL a * valL b)) := by
  unfold mul_Mul.f
  rw [times_len _ _ la lb]
  have c1 : (0 : Int) ≤ ((a.length + b.length + 1 : Nat) : Int) := by omega
  have c2 : a.length + b.length + 1 ≤ 70368744177664 := by omega
  simp only [Int.toNat_natCast, c1, c2, if_true]
  exact Mul_loop a b ga gb la lb b.length 0 _ rfl (by omega) (goodL_replicate _) (by simp) (by rw [valL_replicate]; simp [valL])
end Go.Proofs.YtekkpmoppihlaaaDoor.Px
end
section
namespace Go.Proofs.YtekkpmoppihlaaaDoor.Px
open Fig Go.RowKit Go.Proofs.YtekkpmoppihlaaaDoorW.PrintWords Go.Proofs.YtekkpmoppihlaaaDoorW.PrintLast Go.Proofs.YtekkpmoppihlaaaDoorW.PrintMore
attribute [local go_sem] max2_int min2_int max_two min_two max_three min_three max_four min_four   -- for this text's walks alone
attribute [local go_sem] fieldA23_0 fieldA23_1 fieldA23_2
theorem mnP (a b : Int) : mn a b = min b a := by unfold mn; split <;> omega
theorem inc_head {q : Nat} (h : q ≠ 0) : (limbs q).length > 0 ∧ rd (limbs q) 0 = ((q % 1000000000 : Nat) : Int) := by
  have hv := limbs_val q
  have hg := limbs_good q
  rcases hl : limbs q with _ | ⟨x, l⟩
  · exact absurd (limbs_nil_iff.1 hl) h
  · rw [hl] at hv hg
    obtain ⟨hx, _⟩ := goodL_cons.1 hg
    simp only [valL] at hv
    refine ⟨by simp, ?_⟩
    show x = _
    omega
theorem inc_zeroB (v : Nat) : dB (zeroB v) = true ∧ (zeroB v).size ≠ 0 ∧ vB (zeroB v) = v := by
  unfold zeroB
  by_cases h : v = 0
  · rw [if_pos h, h]; exact ⟨rfl, by decide, rfl⟩
  · rw [if_neg h]; exact ⟨dB_digB v, fun e => h (digB_empty_iff.1 e), vB_digB v⟩
theorem inc_zeroB_size {v k : Nat} (h : (digB v).size ≤ k) (hk : 1 ≤ k) : (zeroB v).size ≤ k := by
  unfold zeroB
  by_cases h0 : v = 0
  · rw [if_pos h0]; exact hk
  · rw [if_neg h0]; exact h
theorem inc_digits {v k : Nat} (h : (digB v).size ≤ k) (hk : k ≤ 1000000) : ten_Digits.f (limbs v) = some (zeroB v) := by
  have := limbs_len_digB v
  unfold ten_Digits.f; rw [if_pos ⟨limbs_good v, by omega⟩, limbs_val]
theorem inc_end {b : Bool} {v : Nat} {p : Int} (hz : (digB v).size ≤ 100000) (h1 : -100000 ≤ p) (h2 : p ≤ 100000) : ((ten_Digits.f (limbs v)).bind fun t => (dec_Norm.f b t p).bind fun u => some (u.1, u.2.1, u.2.2, (0 : Int))) = some (b, nD v, nE v p, 0) := by
  obtain ⟨d1, d2, d3⟩ := inc_zeroB v
  have d4 := inc_zeroB_size (k := 100000) hz (by decide)
  rw [inc_digits hz (by decide)]
  simp only [Option.bind_some]
  rw [normP ⟨d1, d2, by omega, h1, h2⟩, d3]; rfl
theorem inc_add {q : Nat} (h : (digB q).size ≤ 1000000) : nat_Add.f (limbs q) ([1] : List Int) = some (limbs (q + 1)) := by
  have hl := limbs_len_digB q
  have h1 : ([1] : List Int).length ≤ 1000000000000 := by show 1 ≤ 1000000000000; omega
  have := addF_eq (limbs_good q) (b := [1]) (by decide) (by omega) h1
  rwa [limbs_val, show valL [1] = 1 from rfl] at this
theorem inc_j1 {b : Bool} {s : ByteArray} {e E : Int} {q B : Nat} {u : Bool} (hz : (digB q).size ≤ 40000) (hB : (digB B).size ≤ 40000) (h1 : -100000 ≤ E) (h2 : E ≤ 100000) : Ev (fun k => inc_Round.j1 k (limbs B) E (limbs q) u b s e) (b, nD ((q + if u = true then 1 else 0) * B), nE ((q + if u = true then 1 else 0) * B) E, 0) := by
  have lB := limbs_len_digB B
  cases u
  · have lq := limbs_len_digB q
    have hm := digB_mul_le hz hB
    have := Mul_ev (limbs_good q) (limbs_good B) (by omega) (by omega)
    rw [limbs_val, limbs_val] at this
    refine Ev.step (fun k => by simp only [inc_Round.j1, Bool.false_eq_true, if_false]; rfl) (Ev.bind this (evSome fun _ => ?_))
    simp only [Bool.false_eq_true, if_false, Nat.add_zero]
    exact inc_end (by omega) h1 h2
  · have ha := inc_add (q := q) (by omega)
    have h3 := digB_add_le (m := q) (n := 1) (p := 40000) hz (by rw [digB_one_size]; omega)
    have lq := limbs_len_digB (q + 1)
    have hm := digB_mul_le h3 hB
    have := Mul_ev (limbs_good (q + 1)) (limbs_good B) (by omega) (by omega)
    rw [limbs_val, limbs_val] at this
    refine Ev.step (fun k => by simp only [inc_Round.j1, if_true]; rfl) (evE ha (Ev.bind this (evSome fun _ => ?_)))
    simp only [if_true]
    exact inc_end (by omega) h1 h2
theorem inc_err (m p : Int) (l : List Int) (b : Bool) (s : ByteArray) (e : Int) : Ev (fun k => inc_Round.j0 k m p l true b s e) (false, (⟨#[]⟩ : ByteArray), 0, 1) :=
  evDone (r' := (false, (⟨#[]⟩ : ByteArray), 0, 1)) (fun k => by simp only [inc_Round.j0, if_true]) rfl
theorem inc_j0 {m : Int} {b : Bool} {s : ByteArray} {e p : Int} {S : Nat} (h : OkS s e) (hS0 : S ≠ 0) (hS : (digB S).size ≤ 1000) (h1 : -10000 ≤ p) (h2 : p ≤ 10000) : Ev (fun k => inc_Round.j0 k m p (limbs S) false b s e) (roundD m b (vB s) e S p) := by
  have hv := h.ok.val
  have hz := h.sz
  have hlo := h.lo
  have hhi := h.hi
  have hc := coef_len h.ok
  have lS := limbs_len_digB S
  obtain ⟨E, hE⟩ : ∃ E, E = mn e p := ⟨_, rfl⟩
  have hE2 : E = min e p := by rw [hE, mnP]; omega
  have sB : ten_Shift.f (limbs S) (wrap64 (p - E)) = some (limbs (atE S p E)) := by
    rw [w64 (x := p - E) (by omega) (by omega), shiftP (limbs_good _) (by omega) (by omega), limbs_val]; rfl
  have sN : ten_Shift.f (limbs (vB s)) (wrap64 (e - E)) = some (limbs (atE (vB s) e E)) := by
    rw [w64 (x := e - E) (by omega) (by omega), shiftP (limbs_good _) (by omega) (by omega), limbs_val]; rfl
  have zB : (digB (atE S p E)).size ≤ 30000 := by
    unfold atE; rw [digB_len_pow hS0]; omega
  have zN := size_vZ b (n := vB s) (p := 10000) e E (by omega)
  rw [vZ_natAbs] at zN
  have hB0 := atE_pos hS0 p E
  refine Ev.step (fun k => by simp only [inc_Round.j0, Bool.false_eq_true, if_false, ← hE]; rfl) ?_
  refine evE sB (evE (coefP h.ok) (evE sN ?_))
  obtain ⟨N, hN⟩ : ∃ N, N = atE (vB s) e E := ⟨_, rfl⟩
  obtain ⟨B, hBB⟩ : ∃ B, B = atE S p E := ⟨_, rfl⟩
  rw [← hN, ← hBB]
  rw [← hN] at zN
  rw [← hBB] at zB hB0
  have zN2 : (digB N).size ≤ 30000 := by omega
  have zr := digB_mono (Nat.mod_le N B) zN2
  have zq := digB_mono (Nat.div_le_self N B) zN2
  have lN := limbs_len_digB N
  have lB := limbs_len_digB B
  have lr := limbs_len_digB (N % B)
  have z2 := digB_add_le zr zr
  have l2 := limbs_len_digB (N % B + N % B)
  have hd := DivMod_ev (limbs_good N) (limbs_good B) (by omega) (by omega) (by rw [limbs_val]; exact hB0)
  rw [limbs_val, limbs_val] at hd
  refine Ev.bind hd ?_
  dsimp only
  by_cases hf : N % B = 0
  · have hf2 : atE (vB s) e (min e p) % atE S p (min e p) = 0 := by rw [← hE2, ← hN, ← hBB]; exact hf
    rw [roundD_fit hf2]
    exact evT (by rw [hf, limbs_zero]; rfl) (evE (normP h.ok) (Ev.now _))
  have hf2 : ¬ atE (vB s) e (min e p) % atE S p (min e p) = 0 := by rw [← hE2, ← hN, ← hBB]; exact hf
  refine evF (fun hh => hf (limbs_nil_iff.1 (List.eq_nil_of_length_eq_zero (by omega)))) ?_
  by_cases h7 : m = 7
  · subst h7
    rw [roundD_exact hf2]
    exact evT rfl (Ev.now _)
  refine evF h7 ?_
  have ha : nat_Add.f (limbs (N % B)) (limbs (N % B)) = some (limbs (N % B + N % B)) := by
    have := addF_eq (limbs_good (N % B)) (limbs_good (N % B)) (by omega) (by omega)
    rwa [limbs_val] at this
  have hcm : nat_Cmp.f (limbs (N % B + N % B)) (limbs B) = some (cmpN (N % B + N % B) B) := by
    have := cmpF_eq (limbs_good (N % B + N % B)) (limbs_good B) (by omega) (by omega)
    rwa [limbs_val, limbs_val] at this
  have hres : roundD m b (vB s) e S p = (b, nD ((N / B + if upB m b (N / B % 2 == 1) (cmpN (N % B + N % B) B) = true then 1 else 0) * B), nE ((N / B + if upB m b (N / B % 2 == 1) (cmpN (N % B + N % B) B) = true then 1 else 0) * B) E, 0) := by
    rw [roundD_ok h7, ← hE2]
    unfold rv0
    rw [← hN, ← hBB]
    have hq : rq m b N B = N / B + if upB m b (N / B % 2 == 1) (cmpN (N % B + N % B) B) = true then 1 else 0 := by
      unfold rq; simp only [ne_eq, hf, not_false_eq_true, true_and]
    rw [hq]
  rw [hres]
  by_cases hq0 : N / B = 0
  · refine evF (by rw [hq0, limbs_zero]; decide) (evE ha (evE hcm (evE (away_up _ _ _ _) ?_)))
    have : (N / B % 2 == 1) = false := by rw [hq0]; rfl
    rw [this]
    exact inc_j1 (by omega) (by omega) (by omega) (by omega)
  · obtain ⟨g1, g2⟩ := inc_head hq0
    refine evT (by omega) (evT (by omega) (evE ha (evE hcm ?_)))
    have : (Int.tmod (rd (limbs (N / B)) 0) 2 == 1) = (N / B % 2 == 1) := by
      rw [g2, Int.tmod_eq_emod_of_nonneg (by omega), Bool.eq_iff_iff, beq_iff_eq, beq_iff_eq]; omega
    rw [this]
    refine evE (away_up _ _ _ _) ?_
    exact inc_j1 (by omega) (by omega) (by omega) (by omega)
theorem inc_num {st : ByteArray} (hst : st.size ≤ 140737488351232) : ten_Number.f st = some (if dB st = true ∧ st.size ≠ 0 then (limbs (vB st), true) else ([], false)) := by unfold ten_Number.f; rw [if_pos hst]
theorem incRound_bad {m : Int} {b : Bool} {s st : ByteArray} {e p : Int} (hst : st.size ≤ 140737488351232) (h : m < 0 ∨ 7 < m ∨ ¬ (dB st = true ∧ st.size ≠ 0) ∨ 40 < st.size ∨ vB st = 0) : Ev (fun k => inc_Round.f k m b s e st p) (false, (⟨#[]⟩ : ByteArray), 0, 1) := by
  unfold inc_Round.f
  refine evE (inc_num hst) (evE (modeP m) ?_)
  by_cases hg : 0 ≤ m ∧ m < 8
  · refine evT (decide_eq_true hg) ?_
    by_cases hd : dB st = true ∧ st.size ≠ 0
    · rw [if_pos hd]
      refine evT rfl ?_
      by_cases hz : (st.size : Int) > 40
      · exact evT hz (inc_err _ _ _ _ _ _)
      · refine evF hz ?_
        have hv : vB st = 0 := by
          rcases h with h | h | h | h | h
          · omega
          · omega
          · exact absurd hd h
          · omega
          · exact h
        have : (((limbs (vB st)).length : Int) == 0) = true := by rw [hv, limbs_zero]; rfl
        dsimp only
        rw [this]; exact inc_err _ _ _ _ _ _
    · rw [if_neg hd]
      exact evF (by decide) (inc_err _ _ _ _ _ _)
  · exact evF (by simpa using hg) (inc_err _ _ _ _ _ _)
theorem incRound_ev {m : Int} {b : Bool} {s st : ByteArray} {e p : Int} (hm : 0 ≤ m) (hm7 : m ≤ 7) (h : OkS s e) (hd : dB st = true) (hs0 : vB st ≠ 0) (hsz : st.size ≤ 40) (h1 : -10000 ≤ p) (h2 : p ≤ 10000) : Ev (fun k => inc_Round.f k m b s e st p) (roundD m b (vB s) e (vB st) p) := by
  have hn0 : st.size ≠ 0 := by
    intro h0
    rw [ByteArray.size_eq_zero_iff.1 h0] at hs0; exact hs0 rfl
  have hst := digs_size_lt (vB_lt hd)
  unfold inc_Round.f
  refine evE (inc_num (by omega)) (evE (modeP m) (evT (by simp; omega) ?_))
  rw [if_pos ⟨hd, hn0⟩]
  refine evT rfl (evF (by omega) ?_)
  have : (((limbs (vB st)).length : Int) == 0) = false := by
    rw [beq_eq_false_iff_ne]
    intro hh
    exact hs0 (limbs_nil_iff.1 (List.eq_nil_of_length_eq_zero (by omega)))
  dsimp only
  rw [this]
  exact inc_j0 h hs0 (by omega) h1 h2
end Go.Proofs.YtekkpmoppihlaaaDoor.Px
end
section
namespace Go.Proofs.YtekkpmoppihlaaaDoor.Px
open Fig Go.RowKit Go.Proofs.YtekkpmoppihlaaaDoorW.PrintWords Go.Proofs.YtekkpmoppihlaaaDoorW.PrintLast Go.Proofs.YtekkpmoppihlaaaDoorW.PrintMore
attribute [local go_sem] max2_int min2_int max_two min_two max_three min_three max_four min_four   -- for this text's walks alone
attribute [local go_sem] fieldA23_0 fieldA23_1 fieldA23_2
theorem nD_lit10 {n m k : Nat} {s : ByteArray} (h : n = m * 10 ^ k) (hm : m % 10 ≠ 0) (hd : dB s = true) (hv : vB s = m) (hs : stripB s = s) : nD n = s := by
  rw [h, nD_pow, nD_of hm, ← hv, ← stripB_eq hd, hs]
theorem nE_lit10 {n m k : Nat} {e : Int} (h : n = m * 10 ^ k) (hm : m % 10 ≠ 0) : nE n e = e + (k : Int) := by rw [h, nE_pow, nE_of hm]
theorem answers10_ev : Ev (fun k => figureheadlaw10_answers.f k) true := by
  have ok1 : OkS (⟨#[52]⟩ : ByteArray) (-1) := OkS.of_good (by decide)
  have v1 : vB (⟨#[52]⟩ : ByteArray) = 4 := by decide
  have v2 : vB (⟨#[50, 53]⟩ : ByteArray) = 25 := by decide
  have n50 : nD 50 = (⟨#[53]⟩ : ByteArray) := nD_lit10 (m := 5) (k := 1) (by decide) (by decide) (by decide) (by decide) (by decide)
  have e50 : nE 50 (-2) = -1 := by rw [nE_lit10 (m := 5) (k := 1) (by decide) (by decide)]; decide
  have r1 : roundD 5 false 4 (-1) 25 (-2) = (false, (⟨#[53]⟩ : ByteArray), -1, 0) := by
    rw [roundD_ok (by decide), show rv0 5 false 4 (-1) 25 (-2) (min (-1) (-2)) = 50 by decide, n50, show min (-1 : Int) (-2) = -2 by decide, e50]
  unfold figureheadlaw10_answers.f
  refine Ev.bind (incRound_ev (by decide) (by decide) ok1 (by decide) (by decide) (by decide) (by decide) (by decide)) ?_
  rw [v1, v2, r1]
  refine Ev.bind (incRound_bad (by decide) (.inr (.inr (.inr (.inr (by decide)))))) ?_
  exact evT rfl (evT (by simp [ByteArray.toList_eq]) (evIs (Ev.now _) (by decide)))
end Go.Proofs.YtekkpmoppihlaaaDoor.Px
end
section
namespace Go.Proofs.YtekkpmoppihlaaaDoor.Px
open Fig Go.RowKit Go.Proofs.YtekkpmoppihlaaaDoorW.PrintWords Go.Proofs.YtekkpmoppihlaaaDoorW.PrintLast Go.Proofs.YtekkpmoppihlaaaDoorW.PrintMore
attribute [local go_sem] max2_int min2_int max_two min_two max_three min_three max_four min_four   -- for this text's walks alone
attribute [local go_sem] fieldA23_0 fieldA23_1 fieldA23_2
theorem over_rv (l : List UInt8) : l.any (fun c => decide (48 < c.toNat)) = decide (rv l ≠ 0) := by
  induction l with
  | nil => rfl
  | cons c l ih =>
    rw [List.any_cons, ih, Bool.eq_iff_iff]
    rw [Bool.or_eq_true, decide_eq_true_eq, decide_eq_true_eq, decide_eq_true_eq]
    show _ ↔ c.toNat - 48 + 10 * rv l ≠ 0
    omega
theorem over_vB (s : ByteArray) : s.data.toList.any (fun c => decide (48 < c.toNat)) = decide (vB s ≠ 0) := by
  unfold vB; rw [← over_rv, List.any_reverse]
def mayB (s : ByteArray) : Bool := dB s && decide (vB s ≠ 0) && decide (s.size ≤ 40)
theorem mayB_iff {s : ByteArray} : mayB s = true ↔ dB s = true ∧ vB s ≠ 0 ∧ s.size ≤ 40 := by
  unfold mayB; simp only [Bool.and_eq_true, decide_eq_true_eq, and_assoc]
theorem may_loop (s : ByteArray) (hs : s.size ≤ 4611686018427387904) : ∀ (d n : Nat) (o : Bool), s.size - n = d → n ≤ s.size → Ev (fun k => figureheadlaw10_may.l0 k s o (n : Int)) (digL (s.data.toList.drop n) && (o || (s.data.toList.drop n).any (fun c => decide (48 < c.toNat))) && decide (s.size ≤ 40))
  | 0, n, o, hd, hn => by
    rw [List.drop_of_length_le (by rw [← size_eq]; omega)]
    refine evDone (r' := o && decide (s.size ≤ 40)) (fun k => ?_) (by simp [digL])
    simp only [figureheadlaw10_may.l0]; rw [if_neg (by omega)]
    cases o
    · rfl
    · simp only [if_true, Bool.true_and, Option.some.injEq]
      rw [decide_eq_decide]; omega
  | d + 1, n, o, hd, hn => by
    have hlt : n < s.size := by omega
    have hbt := bt_get hlt
    have hc := List.drop_eq_getElem_cons (l := s.data.toList) (i := n) (by rw [← size_eq]; exact hlt)
    rw [hc]
    generalize hx : s.data.toList[n]'(by rw [← size_eq]; exact hlt) = c at hbt
    by_cases h1 : c.toNat < 48
    · refine evDone (r' := false) (fun k => ?_) ?_
      · simp only [figureheadlaw10_may.l0]; rw [if_pos (by omega), if_pos (by omega), hbt, if_pos (by omega)]
      · have : isD c = false := by unfold isD; simp; omega
        simp [digL, this]
    · by_cases h2 : c.toNat > 57
      · refine evDone (r' := false) (fun k => ?_) ?_
        · simp only [figureheadlaw10_may.l0]; rw [if_pos (by omega), if_pos (by omega), hbt, if_neg (by omega), if_pos (by omega)]
        · have : isD c = false := by unfold isD; simp; omega
          simp [digL, this]
      · have hd1 : isD c = true := isD_iff.2 ⟨by omega, by omega⟩
        refine evIs (Ev.step (f := fun k => figureheadlaw10_may.l0 k s (o || decide (48 < c.toNat)) ((n + 1 : Nat) : Int)) (fun k => ?_) (may_loop s hs d (n + 1) _ (by omega) (by omega))) ?_
        · simp only [figureheadlaw10_may.l0]; rw [if_pos (by omega), if_pos (by omega), hbt, if_neg (by omega), if_neg (by omega), succ64 _ (by omega)]
          cases o
          · rw [if_neg (by decide), show decide ((c.toNat : Int) > 48) = (false || decide (48 < c.toNat)) by rw [Bool.false_or, decide_eq_decide]; show ((48 : Nat) : Int) < _ ↔ _; rw [Int.ofNat_lt]]
          · rw [if_pos rfl, Bool.true_or]
        · simp [digL, hd1, Bool.or_assoc]
theorem may_ev {s : ByteArray} (hs : s.size ≤ 4611686018427387904) : Ev (fun k => figureheadlaw10_may.f k s) (mayB s) := by
  have := may_loop s hs s.size 0 false (by omega) (by omega)
  rw [List.drop_zero, Bool.false_or, over_vB] at this
  exact this
end Go.Proofs.YtekkpmoppihlaaaDoor.Px
end
section
namespace Go.Proofs.YtekkpmoppihlaaaDoor.Px
open Fig Go.RowKit Go.Proofs.YtekkpmoppihlaaaDoorW.PrintWords Go.Proofs.YtekkpmoppihlaaaDoorW.PrintLast Go.Proofs.YtekkpmoppihlaaaDoorW.PrintMore
attribute [local go_sem] max2_int min2_int max_two min_two max_three min_three max_four min_four   -- for this text's walks alone
attribute [local go_sem] fieldA23_0 fieldA23_1 fieldA23_2
theorem Zeros_loop (m : Nat) (hm : m ≤ 1000000) : ∀ (d n : Nat), m - n = d → n ≤ m → Ev (fun k => figureheadref01_Zeros.l0 k (m : Int) (List.replicate n 48) (n : Int)) (strOfNums (List.replicate m 48))
  | 0, n, hd, hn => by
    obtain rfl : n = m := by omega
    refine evDone (r' := strOfNums (List.replicate n 48)) (fun k => ?_) rfl
    simp only [figureheadref01_Zeros.l0]; rw [if_neg (by omega)]
  | d + 1, n, hd, hn => by
    refine Ev.step (f := fun k => figureheadref01_Zeros.l0 k (m : Int) (List.replicate (n + 1) 48) ((n + 1 : Nat) : Int)) (fun k => ?_) (Zeros_loop m hm d (n + 1) (by omega) (by omega))
    simp only [figureheadref01_Zeros.l0]
    rw [if_pos (by omega), if_pos (by rw [List.length_replicate]; omega), List.replicate_succ', w64 (by omega) (by omega)]; rfl
def zerosB (m : Nat) : ByteArray := strOfNums (List.replicate m 48)
theorem Zeros_ev {m : Nat} (hm : m ≤ 1000000) : Ev (fun k => figureheadref01_Zeros.f k (m : Int)) (zerosB m) := Zeros_loop m hm m 0 (by omega) (by omega)
theorem zerosB_list (m : Nat) : (zerosB m).data.toList = List.replicate m 48 := by rw [zerosB, B_nums, List.map_replicate]; rfl
theorem zerosB_size (m : Nat) : (zerosB m).size = m := by rw [size_eq, zerosB_list, List.length_replicate]
end Go.Proofs.YtekkpmoppihlaaaDoor.Px
end
section
namespace Go.Proofs.YtekkpmoppihlaaaDoor.Px
open Fig Go.RowKit Go.Proofs.YtekkpmoppihlaaaDoorW.PrintWords Go.Proofs.YtekkpmoppihlaaaDoorW.PrintLast Go.Proofs.YtekkpmoppihlaaaDoorW.PrintMore
attribute [local go_sem] max2_int min2_int max_two min_two max_three min_three max_four min_four   -- for this text's walks alone
attribute [local go_sem] fieldA23_0 fieldA23_1 fieldA23_2
theorem Less_eq (m n : Nat) : figureheadref01_Less.f (digB m) (digB n) = some (decide (m < n)) := by
  unfold figureheadref01_Less.f
  rw [digB_size, digB_size]
  by_cases h : (digs m).length = (digs n).length
  · rw [if_pos (by omega)]
    rw [ByteArray.toList_eq, ByteArray.toList_eq, digB_list, digB_list, less_same (digs_dig m) (digs_dig n) h, digs_val, digs_val]
  · rw [if_neg (by omega)]
    congr 1
    rw [decide_eq_decide]
    constructor
    · intro h1; exact digs_len_lt (by omega)
    · intro h1
      rcases Nat.lt_or_ge (digs m).length (digs n).length with h2 | h2
      · omega
      · have := digs_len_lt (m := n) (n := m) (by omega); omega
end Go.Proofs.YtekkpmoppihlaaaDoor.Px
end
section
namespace Go.Proofs.YtekkpmoppihlaaaDoor.Px
open Fig Go.RowKit Go.Proofs.YtekkpmoppihlaaaDoorW.PrintWords Go.Proofs.YtekkpmoppihlaaaDoorW.PrintLast Go.Proofs.YtekkpmoppihlaaaDoorW.PrintMore
attribute [local go_sem] max2_int min2_int max_two min_two max_three min_three max_four min_four   -- for this text's walks alone
attribute [local go_sem] fieldA23_0 fieldA23_1 fieldA23_2
theorem sub_step (p q c : Nat) (hp : p ≤ 9) (hq : q ≤ 9) (hc : c ≤ 1) : wrap64 (wrap64 ((p : Int) - (q : Int)) - (c : Int)) = (p : Int) - (q : Int) - (c : Int) := by
  rw [w64 (x := (p : Int) - (q : Int)) (by omega) (by omega), w64 (by omega) (by omega)]
theorem sub_neg (p q c : Nat) (hp : p ≤ 9) (hq : q ≤ 9) (hc : c ≤ 1) (h : p < q + c) : (wrap64 (48 + wrap64 ((p : Int) - (q : Int) - (c : Int) + 10))) % 256 = ((48 + (p + 10 - q - c) : Nat) : Int) := by
  rw [w64 (x := (p : Int) - (q : Int) - (c : Int) + 10) (by omega) (by omega), w64 (by omega) (by omega)]; omega
theorem sub_pos (p q c : Nat) (hp : p ≤ 9) (hq : q ≤ 9) (hc : c ≤ 1) (h : q + c ≤ p) : (wrap64 (48 + ((p : Int) - (q : Int) - (c : Int)))) % 256 = ((48 + (p - q - c) : Nat) : Int) := by
  rw [w64 (by omega) (by omega)]; omega
theorem Minus_loop (a b : ByteArray) (ha : dB a = true) (hb : dB b = true) (la : a.size ≤ 100000000000) (lb : b.size ≤ 100000000000) : ∀ (d k : Nat) (x : List Int) (c : Nat), a.size - k = d → k ≤ a.size → c ≤ 1 → x.length = k → digL (ob x) = true → c + rv ((rs b).drop k) ≤ rv ((rs a).drop k) →
    Ev (fun j => figureheadref01_Minus.l0 j a b x (c : Int) (k : Int)) (digB (rv (ob x) + 10 ^ k * (rv ((rs a).drop k) - rv ((rs b).drop k) - c)))
  | 0, k, x, c, h1, h2, hc, hx, hd, hle => by
    refine evIs (Ev.step (fun j => ?_) (turnedStrip_ev (l := x) (by omega) hd)) ?_
    · simp only [figureheadref01_Minus.l0]; rw [if_neg (by omega)]
    · rw [rv_rest_end (s := a) (by omega)]; simp
  | d + 1, k, x, c, h1, h2, hc, hx, hd, hle => by
    have da := dg_le ha k
    have db := dg_le hb k
    rw [rv_rest a k, rv_rest b k] at hle ⊢
    by_cases hneg : dg a k < dg b k + c
    · obtain ⟨o1, o2⟩ := ob_snoc x (c := dg a k + 10 - dg b k - c) (by omega) hd
      refine Ev.step (f := fun j => figureheadref01_Minus.l0 j a b (x ++ [((48 + (dg a k + 10 - dg b k - c) : Nat) : Int)]) ((1 : Nat) : Int) ((k + 1 : Nat) : Int)) (fun j => ?_) ?_
      · simp only [figureheadref01_Minus.l0]
        rw [if_pos (by omega), digit_eq ha (by omega) (by omega), digit_eq hb (by omega) (by omega)]
        simp only [Option.bind_some]
        rw [sub_step _ _ _ da db hc, if_pos (by omega), if_pos (by omega), sub_neg _ _ _ da db hc hneg, w64 (by omega) (by omega)]; rfl
      · refine evIs (Minus_loop a b ha hb la lb d (k + 1) _ 1 (by omega) (by omega) (by omega) (by simp [hx]) o1 (by omega)) ?_
        rw [o2, hx, Nat.pow_succ, Nat.mul_assoc, Nat.add_assoc, ← Nat.mul_add]
        congr 2; congr 1; omega
    · obtain ⟨o1, o2⟩ := ob_snoc x (c := dg a k - dg b k - c) (by omega) hd
      refine Ev.step (f := fun j => figureheadref01_Minus.l0 j a b (x ++ [((48 + (dg a k - dg b k - c) : Nat) : Int)]) ((0 : Nat) : Int) ((k + 1 : Nat) : Int)) (fun j => ?_) ?_
      · simp only [figureheadref01_Minus.l0]
        rw [if_pos (by omega), digit_eq ha (by omega) (by omega), digit_eq hb (by omega) (by omega)]
        simp only [Option.bind_some]
        rw [sub_step _ _ _ da db hc, if_neg (by omega), if_pos (by omega), sub_pos _ _ _ da db hc (by omega), w64 (by omega) (by omega)]; rfl
      · refine evIs (Minus_loop a b ha hb la lb d (k + 1) _ 0 (by omega) (by omega) (by omega) (by simp [hx]) o1 (by omega)) ?_
        rw [o2, hx, Nat.pow_succ, Nat.mul_assoc, Nat.add_assoc, ← Nat.mul_add]
        congr 2; congr 1; omega
theorem Minus_ev {a b : ByteArray} (ha : dB a = true) (hb : dB b = true) (la : a.size ≤ 100000000000) (lb : b.size ≤ 100000000000) (hle : vB b ≤ vB a) : Ev (fun k => figureheadref01_Minus.f k a b) (digB (vB a - vB b)) := by
  refine evIs (Minus_loop a b ha hb la lb a.size 0 [] 0 (by omega) (by omega) (by omega) rfl rfl (by simpa [rs, vB] using hle)) ?_
  simp [ob, rv, vB, rs]
end Go.Proofs.YtekkpmoppihlaaaDoor.Px
end
section
namespace Go.Proofs.YtekkpmoppihlaaaDoor.Px
open Fig Go.RowKit Go.Proofs.YtekkpmoppihlaaaDoorW.PrintWords Go.Proofs.YtekkpmoppihlaaaDoorW.PrintLast Go.Proofs.YtekkpmoppihlaaaDoorW.PrintMore
attribute [local go_sem] max2_int min2_int max_two min_two max_three min_three max_four min_four   -- for this text's walks alone
attribute [local go_sem] fieldA23_0 fieldA23_1 fieldA23_2
theorem code_one (j : Nat) (h : j ≤ 9) : (wrap64 (48 + (j : Int))) % 256 = ((48 + j : Nat) : Int) := by rw [w64 (by omega) (by omega)]; omega
theorem one_code {c : Nat} (h : c ≤ 9) : dB (strOfNums [((48 + c : Nat) : Int)]) = true ∧ vB (strOfNums [((48 + c : Nat) : Int)]) = c ∧ (strOfNums [((48 + c : Nat) : Int)]).size = 1 := by
  have e2 : (UInt8.ofNat (48 + c)).toNat = 48 + c := by rw [UInt8.toNat_ofNat']; omega
  refine ⟨?_, ?_, ?_⟩
  · unfold dB; rw [B_nums]; simp only [List.map_cons, List.map_nil, Int.toNat_natCast]; rw [digL_cons, isD_iff, e2]; exact ⟨by omega, rfl⟩
  · unfold vB; rw [B_nums]; simp only [List.map_cons, List.map_nil, Int.toNat_natCast, List.reverse_singleton, rv, e2]; omega
  · rw [strOfNums_size]; rfl
theorem Over_in (a : ByteArray) (n : Nat) (hn : 0 < n) (ln : (digB n).size ≤ 1000000) (q : ByteArray) (hq : q.size ≤ 1000000000000) (i : Nat) (hi : i < 1000000000000) (t : Nat) (ht : t < 10 * n) (r : ByteArray × ByteArray) : ∀ (d j : Nat), t / n - j = d → j ≤ t / n →
    Ev (fun k => figureheadref01_Over.l0 k a (digB n) (q ++ strOfNums [((48 + t / n : Nat) : Int)]) (digB (t % n)) ((i + 1 : Nat) : Int)) r → Ev (fun k => figureheadref01_Over.l1 k a (digB n) q (digB (t - j * n)) (i : Int) (j : Int)) r
  | 0, j, h1, h2, h => by
    have hj : j = t / n := by omega
    have hq9 : t / n ≤ 9 := by have : t / n < 10 := by rw [Nat.div_lt_iff_lt_mul hn]; exact ht
                               omega
    have e : t - j * n = t % n := by
      have := Nat.div_add_mod t n
      rw [← hj, Nat.mul_comm] at this; omega
    rw [e]
    refine Ev.step (fun k => ?_) h
    have hm := Nat.mod_lt t hn
    obtain ⟨c1, c2, c3⟩ := one_code hq9
    simp only [figureheadref01_Over.l1, Less_eq, hm, decide_true, Option.bind_some, if_true]
    rw [hj, code_one _ hq9, if_pos (by omega), succ64 _ (by omega)]
  | d + 1, j, h1, h2, h => by
    have hjn : j * n + n ≤ t := by
      have h3 : (j + 1) * n ≤ t / n * n := Nat.mul_le_mul_right _ (by omega)
      have := Nat.div_mul_le_self t n
      rw [Nat.add_mul] at h3; omega
    have hnl : ¬ t - j * n < n := by omega
    have lz : (digB (t - j * n)).size ≤ 1000001 := digB_ten ln (by omega)
    have hj9 : j ≤ 9 := by have : t / n < 10 := by rw [Nat.div_lt_iff_lt_mul hn]; exact ht
                           omega
    refine Ev.step (f := fun k => (figureheadref01_Minus.f k (digB (t - j * n)) (digB n)).bind fun t2 => figureheadref01_Over.l1 k a (digB n) q t2 (i : Int) ((j + 1 : Nat) : Int)) (fun k => ?_) (Ev.bind (Minus_ev (dB_digB _) (dB_digB _) (by omega) (by omega) (by rw [vB_digB, vB_digB]; omega)) ?_)
    · simp only [figureheadref01_Over.l1, Less_eq, hnl, decide_false, Option.bind_some, Bool.false_eq_true, if_false]
      rw [succ64 _ (by omega)]
    · rw [vB_digB, vB_digB, Nat.sub_sub, show j * n + n = (j + 1) * n by rw [Nat.add_mul]; omega]
      exact Over_in a n hn ln q hq i hi t ht r d (j + 1) (by omega) (by omega) h
theorem Over_loop (a : ByteArray) (ha : dB a = true) (la : a.size ≤ 1000000) (n : Nat) (hn : 0 < n) (ln : (digB n).size ≤ 1000000) : ∀ (d i : Nat) (q : ByteArray) (m : Nat), a.size - i = d → i ≤ a.size → dB q = true → q.size = i → m < n → vB q * n + m = vB (a.extract 0 i) →
    Ev (fun k => figureheadref01_Over.l0 k a (digB n) q (digB m) (i : Int)) (digB (vB a / n), digB (vB a % n))
  | 0, i, q, m, h1, h2, hq, zq, hm, hv => by
    have e0 : a.extract 0 i = a := by apply B_ext; rw [B_to, List.take_of_length_le (by rw [← size_eq]; omega)]
    rw [e0] at hv
    have e1 : vB q = vB a / n := by rw [← hv, Nat.mul_comm, Nat.mul_add_div hn, Nat.div_eq_of_lt hm]; rfl
    have e2 : m = vB a % n := by rw [← hv, Nat.mul_comm, Nat.mul_add_mod, Nat.mod_eq_of_lt hm]
    rw [← e1, ← e2]
    refine Ev.step (f := fun k => (figureheadref01_Strip.f k q).bind fun t => some (t, digB m)) (fun k => ?_) (Ev.bind (StripD_ev (by omega) hq) (Ev.now _))
    simp only [figureheadref01_Over.l0]; rw [if_neg (by omega)]
  | d + 1, i, q, m, h1, h2, hq, zq, hm, hv => by
    have hlt : i < a.size := by omega
    have hl : i < a.data.toList.length := by rw [← size_eq]; exact hlt
    have hdig := isD_iff.1 (digL_iff.1 ha _ (List.getElem_mem hl))
    have ec : (a.extract i (i + 1)).data.toList = [a.data.toList[i]] := by
      rw [B_extract, show i + 1 - i = 1 by omega, List.drop_eq_getElem_cons hl]; rfl
    have zc : (a.extract i (i + 1)).size = 1 := by rw [size_eq, ec]; rfl
    have dc : dB (a.extract i (i + 1)) = true := by unfold dB; rw [ec, digL_cons]; exact ⟨isD_iff.2 hdig, rfl⟩
    obtain ⟨c, hc⟩ : ∃ c, c = vB (a.extract i (i + 1)) := ⟨_, rfl⟩
    have hc9 : c ≤ 9 := by have := vB_lt dc; rw [zc, ← hc] at this; omega
    have hv2 : vB (a.extract 0 (i + 1)) = vB (a.extract 0 i) * 10 + c := by
      have : a.extract 0 (i + 1) = a.extract 0 i ++ a.extract i (i + 1) := by
        apply B_ext
        rw [B_append, B_to, B_to, ec, List.take_succ_eq_append_getElem hl]
      rw [this, vB_append, zc, ← hc, Nat.pow_one]
    have lm : (digB m).size ≤ 1000000 := digB_mono (by omega) ln
    have ht : m * 10 + c < 10 * n := by omega
    refine Ev.step (f := fun k => (figureheadref01_Strip.f k (digB m ++ a.extract i (i + 1))).bind fun t => figureheadref01_Over.l1 k a (digB n) q t (i : Int) ((0 : Nat) : Int)) (fun k => ?_) (Ev.bind (StripD_ev (by rw [ByteArray.size_append]; omega) (dB_append.2 ⟨dB_digB _, dc⟩)) ?_)
    · simp only [figureheadref01_Over.l0]
      rw [if_pos (by omega), if_pos (by omega), succ64 _ (by omega), if_pos (by omega), if_pos (by omega), Int.toNat_natCast, Int.toNat_natCast, if_pos (by omega)]; rfl
    · rw [vB_append, zc, vB_digB, Nat.pow_one, ← hc]
      have hq9 : (m * 10 + c) / n ≤ 9 := by have : (m * 10 + c) / n < 10 := by rw [Nat.div_lt_iff_lt_mul hn]; exact ht
                                            omega
      obtain ⟨c1, c2, c3⟩ := one_code hq9
      have := Over_in a n hn ln q (by omega) i (by omega) (m * 10 + c) ht _ _ 0 rfl (by omega) (Over_loop a ha la n hn ln d (i + 1) (q ++ strOfNums [((48 + (m * 10 + c) / n : Nat) : Int)]) ((m * 10 + c) % n) (by omega) (by omega) (dB_append.2 ⟨hq, c1⟩) (by rw [ByteArray.size_append]; omega) (Nat.mod_lt _ hn) ?_)
      · rwa [Nat.zero_mul, Nat.sub_zero] at this
      · rw [vB_append, c2, c3, hv2, ← hv, Nat.pow_one]
        have := Nat.div_add_mod (m * 10 + c) n
        rw [Nat.add_mul, Nat.mul_comm ((m * 10 + c) / n) n, Nat.add_mul, Nat.mul_right_comm (vB q) 10 n]; omega
theorem Over_ev {a : ByteArray} {n : Nat} (ha : dB a = true) (la : a.size ≤ 1000000) (hn : 0 < n) (ln : (digB n).size ≤ 1000000) : Ev (fun k => figureheadref01_Over.f k a (digB n)) (digB (vB a / n), digB (vB a % n)) := by
  have e0 : (⟨#[]⟩ : ByteArray) = digB 0 := digB_zero.symm
  have := Over_loop a ha la n hn ln a.size 0 (digB 0) 0 (by omega) (by omega) (dB_digB _) (by rw [digB_zero]; rfl) hn (by
    rw [vB_digB]
    have : (a.extract 0 0).data.toList = [] := by rw [B_to]; rfl
    unfold vB; rw [this]; simp [rv])
  unfold figureheadref01_Over.f
  rw [e0]; exact this
end Go.Proofs.YtekkpmoppihlaaaDoor.Px
end
section
namespace Go.Proofs.YtekkpmoppihlaaaDoor.Px
open Fig Go.RowKit Go.Proofs.YtekkpmoppihlaaaDoorW.PrintWords Go.Proofs.YtekkpmoppihlaaaDoorW.PrintLast Go.Proofs.YtekkpmoppihlaaaDoorW.PrintMore
attribute [local go_sem] max2_int min2_int max_two min_two max_three min_three max_four min_four   -- for this text's walks alone
attribute [local go_sem] fieldA23_0 fieldA23_1 fieldA23_2
theorem At05_ev {b : Bool} {s : ByteArray} {e x : Int} (h : OkD s e) (h1 : x ≤ e) (h2 : -100000 ≤ x) : Ev (fun k => figureheadref05_At.f k b s e x) (digB (atE (vB s) e x)) := by
  have hs := h.sz
  have hl := h.lo
  have hh := h.hi
  have hz := h.val
  unfold figureheadref05_At.f
  refine Ev.bind (StripD_ev (by omega) h.d) ?_
  by_cases h0 : vB s = 0
  · simp only [digB_toList_nil.2 h0, if_true]
    rw [h0, atE_zero, digB_zero]
    exact Ev.now _
  · have h3 : ¬ (digB (vB s)).toList = ([] : List UInt8) := fun hh => h0 (digB_toList_nil.1 hh)
    obtain ⟨m, hm⟩ : ∃ m : Nat, m = (e - x).toNat := ⟨_, rfl⟩
    have hw : wrap64 (e - x) = (m : Int) := by rw [w64 (by omega) (by omega)]; omega
    simp only [h3, if_false, hw]
    refine Ev.bind (Zeros_ev (by omega)) ?_
    have hc : (digB (vB s)).size + (zerosB m).size ≤ 9223372036854775807 := by rw [zerosB_size]; omega
    simp only [hc, if_true]
    refine evIs (Ev.now _) ?_
    apply B_ext
    rw [B_append, digB_list, digB_list, zerosB_list]
    unfold atE
    rw [digs_pow h0, ← hm]
end Go.Proofs.YtekkpmoppihlaaaDoor.Px
end
section
namespace Go.Proofs.YtekkpmoppihlaaaDoor.Px
open Fig Go.RowKit Go.Proofs.YtekkpmoppihlaaaDoorW.PrintWords Go.Proofs.YtekkpmoppihlaaaDoorW.PrintLast Go.Proofs.YtekkpmoppihlaaaDoorW.PrintMore
attribute [local go_sem] max2_int min2_int max_two min_two max_three min_three max_four min_four   -- for this text's walks alone
attribute [local go_sem] fieldA23_0 fieldA23_1 fieldA23_2
theorem digB_bt {n : Nat} (h : n ≠ 0) : bt (digB n) (((digB n).size : Int) - 1) = ((48 + n % 10 : Nat) : Int) := by
  have hs := digB_ten_size h
  have hl := digB_ten_last h
  have hlt : (digB (n / 10)).size < (digB n).size := by omega
  rw [show ((digB n).size : Int) - 1 = ((digB (n / 10)).size : Int) by omega, bt_get hlt]
  have hg := List.getElem?_eq_getElem (l := (digB n).data.toList) (i := (digB (n / 10)).size) (by rw [← size_eq]; exact hlt)
  rw [hl] at hg
  rw [← Option.some.inj hg, dig_toNat]
theorem Norm05_loop (b b2 : Bool) (s2 : ByteArray) (e2 : Int) : ∀ (d n : Nat) (e : Int), n ≠ 0 → n < d → (digB n).size ≤ 1000000 → -1000000 ≤ e → e + ((digB n).size : Int) ≤ 2000000 → Ev (fun k => figureheadref05_Norm.l0 k (digB n) e b s2 e2) (b, nD n, nE n e)
  | 0, n, e, h0, hd, hz, h1, h2 => absurd hd (by omega)
  | d + 1, n, e, h0, hd, hz, h1, h2 => by
    have hs := digB_ten_size h0
    have hb := digB_bt h0
    have hw : wrap64 (((digB n).size : Int) - 1) = ((digB n).size : Int) - 1 := w64 (by omega) (by omega)
    by_cases hm : n % 10 = 0
    · have h3 : n / 10 ≠ 0 := by omega
      have h4 : n / 10 < d := by have := div10_lt h0; omega
      have e1 : nD n = nD (n / 10) := by
        conv => lhs; rw [show n = n / 10 * 10 ^ 1 by omega]
        exact nD_pow _ _
      have e2' : nE n e = nE (n / 10) (e + 1) := by
        conv => lhs; rw [show n = n / 10 * 10 ^ 1 by omega]
        exact nE_pow _ _ _
      rw [e1, e2']
      refine Ev.step (f := fun k => figureheadref05_Norm.l0 k (digB (n / 10)) (e + 1) b s2 e2) (fun k => ?_) (Norm05_loop b b2 s2 e2 d (n / 10) (e + 1) h3 h4 (by omega) (by omega) (by omega))
      simp only [figureheadref05_Norm.l0]
      rw [hw, if_pos (by omega), if_pos (by omega), hb, if_pos (by omega), if_pos (by omega), w64 (x := e + 1) (by omega) (by omega)]
      rw [show (((digB n).size : Int) - 1).toNat = (digB (n / 10)).size by omega, digB_ten_init h0]
    · rw [nD_of hm, nE_of hm]
      refine evDone (r' := (b, digB n, e)) (fun k => ?_) rfl
      simp only [figureheadref05_Norm.l0]
      rw [hw, if_pos (by omega), if_pos (by omega), hb, if_neg (by omega)]
theorem Norm05_any {b : Bool} {s : ByteArray} {e : Int} (hd : dB s = true) (hz : s.size ≤ 1000000) (h1 : -1000000 ≤ e) (h2 : e ≤ 1000000) : Ev (fun k => figureheadref05_Norm.f k b s e) (b, nD (vB s), nE (vB s) e) := by
  have hv : (digB (vB s)).size ≤ s.size := digs_size_lt (vB_lt hd)
  unfold figureheadref05_Norm.f
  refine Ev.bind (StripD_ev (by omega) hd) ?_
  by_cases h0 : vB s = 0
  · simp only [digB_toList_nil.2 h0, if_true]
    rw [h0]
    exact Ev.now _
  · have h3 : ¬ (digB (vB s)).toList = ([] : List UInt8) := fun hh => h0 (digB_toList_nil.1 hh)
    simp only [h3, if_false]
    exact Norm05_loop b b s e (vB s + 1) (vB s) e h0 (by omega) (by omega) (by omega) (by omega)
theorem Norm05_ev {b : Bool} {s : ByteArray} {e : Int} (h : OkD s e) : Ev (fun k => figureheadref05_Norm.f k b s e) (b, nD (vB s), nE (vB s) e) := by
  have h1 := h.sz
  have h2 := h.lo
  have h3 := h.hi
  exact Norm05_any h.d (by omega) (by omega) (by omega)
end Go.Proofs.YtekkpmoppihlaaaDoor.Px
end
section
namespace Go.Proofs.YtekkpmoppihlaaaDoor.Px
open Fig Go.RowKit Go.Proofs.YtekkpmoppihlaaaDoorW.PrintWords Go.Proofs.YtekkpmoppihlaaaDoorW.PrintLast Go.Proofs.YtekkpmoppihlaaaDoorW.PrintMore
attribute [local go_sem] max2_int min2_int max_two min_two max_three min_three max_four min_four   -- for this text's walks alone
attribute [local go_sem] fieldA23_0 fieldA23_1 fieldA23_2
theorem Up_eq (m : Int) (neg odd : Bool) (half : Int) : figureheadref05_Up.f m neg odd half = some (awayB m neg odd half) := by
  unfold figureheadref05_Up.f awayB
  by_cases h0 : m = 0 <;> by_cases h1 : m = 1 <;> by_cases h2 : m = 2 <;> by_cases h3 : m = 3 <;> by_cases h4 : m = 4 <;> by_cases h5 : m = 5 <;> by_cases h6 : m = 6 <;> simp_all
  by_cases hp : 0 < half
  · simp [hp]
  · by_cases hz : half = 0 <;> simp [hp, hz]
end Go.Proofs.YtekkpmoppihlaaaDoor.Px
end
section
namespace Go.Proofs.YtekkpmoppihlaaaDoor.Px
open Fig Go.RowKit Go.Proofs.YtekkpmoppihlaaaDoorW.PrintWords Go.Proofs.YtekkpmoppihlaaaDoorW.PrintLast Go.Proofs.YtekkpmoppihlaaaDoorW.PrintMore
attribute [local go_sem] max2_int min2_int max_two min_two max_three min_three max_four min_four   -- for this text's walks alone
attribute [local go_sem] fieldA23_0 fieldA23_1 fieldA23_2
theorem vB_nought_append (s : ByteArray) : vB ((⟨#[48]⟩ : ByteArray) ++ s) = vB s := by
  rw [vB_append, show vB (⟨#[48]⟩ : ByteArray) = 0 from rfl, Nat.zero_mul, Nat.zero_add]
theorem Make_ev {b : Bool} {s : ByteArray} {e : Int} (hd : dB s = true) (hz : s.size ≤ 900000) (h1 : -1000000 ≤ e) (h2 : e ≤ 1000000) : Ev (fun k => figureheadref05_Make.f k b s e) (b, nD (vB s), nE (vB s) e) := by
  unfold figureheadref05_Make.f
  refine evT (by omega) ?_
  have hs : ((⟨#[48]⟩ : ByteArray) ++ s).size = 1 + s.size := by rw [ByteArray.size_append]; rfl
  have := Norm05_any (b := b) (s := (⟨#[48]⟩ : ByteArray) ++ s) (e := e) (dB_append.2 ⟨rfl, hd⟩) (by omega) h1 h2
  rw [vB_nought_append] at this
  exact Ev.bind this (Ev.now _)
theorem MakeD_ev {b : Bool} {n : Nat} {e : Int} (hz : (digB n).size ≤ 900000) (h1 : -1000000 ≤ e) (h2 : e ≤ 1000000) : Ev (fun k => figureheadref05_Make.f k b (digB n) e) (b, nD n, nE n e) := by
  have := Make_ev (b := b) (s := digB n) (e := e) (dB_digB n) hz h1 h2
  rwa [vB_digB] at this
end Go.Proofs.YtekkpmoppihlaaaDoor.Px
end
section
namespace Go.Proofs.YtekkpmoppihlaaaDoor.Px
open Fig Go.RowKit Go.Proofs.YtekkpmoppihlaaaDoorW.PrintWords Go.Proofs.YtekkpmoppihlaaaDoorW.PrintLast Go.Proofs.YtekkpmoppihlaaaDoorW.PrintMore
attribute [local go_sem] max2_int min2_int max_two min_two max_three min_three max_four min_four   -- for this text's walks alone
attribute [local go_sem] fieldA23_0 fieldA23_1 fieldA23_2
theorem digB_last_bt {n : Nat} (h : n ≠ 0) : bt (digB n) (((digB n).size : Int) - 1) = ((48 + n % 10 : Nat) : Int) := digB_bt h
theorem Round05_j3 {m : Int} {b : Bool} {s : ByteArray} {e E : Int} {B q : Nat} {half : Int} {odd : Bool} (hq : (digB q).size ≤ 100000) (hB : (digB B).size ≤ 100000) (h1 : -100000 ≤ E) (h2 : E ≤ 100000) : Ev (fun k => figureheadref05_Round.j3 k m E (digB B) (digB q) half odd b s e) (b, nD ((q + if upB m b odd half = true then 1 else 0) * B), nE ((q + if upB m b odd half = true then 1 else 0) * B) E, 0) := by
  have hu : figureheadref05_Up.f m b odd half = some (upB m b odd half) := (Up_eq m b odd half)
  refine Ev.step (fun k => by simp only [figureheadref05_Round.j3]; rfl) (evE hu ?_)
  cases upB m b odd half
  · refine evF (by decide) (Ev.bind (Times_ev (dB_digB _) (dB_digB _) (by omega) (by omega)) ?_)
    rw [vB_digB, vB_digB]
    have := digB_mul_le hq hB
    refine Ev.bind (MakeD_ev (by omega) (by omega) (by omega)) (evIs (Ev.now _) (by simp))
  · have d1 : dB (⟨#[49]⟩ : ByteArray) = true := by decide
    have v1 : vB (⟨#[49]⟩ : ByteArray) = 1 := by decide
    refine evT rfl (Ev.bind (Plus_ev (dB_digB q) d1 (by omega) (by decide)) ?_)
    rw [vB_digB, v1]
    have h3 := digB_add_le (m := q) (n := 1) (p := 100000) hq (by rw [digB_one_size]; omega)
    refine Ev.bind (Times_ev (dB_digB _) (dB_digB _) (by omega) (by omega)) ?_
    rw [vB_digB, vB_digB]
    have := digB_mul_le h3 hB
    refine Ev.bind (MakeD_ev (by omega) (by omega) (by omega)) (evIs (Ev.now _) (by simp))
theorem Round05_j2 {m : Int} {b : Bool} {s : ByteArray} {e E : Int} {B q : Nat} {half : Int} (hq : (digB q).size ≤ 100000) (hB : (digB B).size ≤ 100000) (h1 : -100000 ≤ E) (h2 : E ≤ 100000) : Ev (fun k => figureheadref05_Round.j2 k m E (digB B) (digB q) half b s e) (b, nD ((q + if upB m b (q % 2 == 1) half = true then 1 else 0) * B), nE ((q + if upB m b (q % 2 == 1) half = true then 1 else 0) * B) E, 0) := by
  by_cases h0 : q = 0
  · subst h0
    refine Ev.step (f := fun k => figureheadref05_Round.j3 k m E (digB B) (digB 0) half false b s e) (fun k => ?_) (Round05_j3 hq hB h1 h2)
    simp only [figureheadref05_Round.j2]
    rw [if_neg (by rw [digB_empty_iff.2 rfl]; decide)]
  · have hs := digB_ten_size h0
    refine Ev.step (f := fun k => figureheadref05_Round.j3 k m E (digB B) (digB q) half (q % 2 == 1) b s e) (fun k => ?_) (Round05_j3 hq hB h1 h2)
    simp only [figureheadref05_Round.j2]
    rw [if_pos (by omega), w64 (x := ((digB q).size : Int) - 1) (by omega) (by omega), if_pos (by omega), if_pos (by omega), digB_last_bt h0]
    congr 1
    rw [Bool.eq_iff_iff, beq_iff_eq, beq_iff_eq]; omega
theorem Round05_j1 {m : Int} {b : Bool} {s : ByteArray} {e E : Int} {B q t : Nat} {x : Int} (hx : x = if t < B then -1 else 0) (hq : (digB q).size ≤ 100000) (hB : (digB B).size ≤ 100000) (h1 : -100000 ≤ E) (h2 : E ≤ 100000) : Ev (fun k => figureheadref05_Round.j1 k m E (digB B) (digB q) (digB t) x b s e) (b, nD ((q + if upB m b (q % 2 == 1) (cmpN t B) = true then 1 else 0) * B), nE ((q + if upB m b (q % 2 == 1) (cmpN t B) = true then 1 else 0) * B) E, 0) := by
  refine Ev.step (fun k => by simp only [figureheadref05_Round.j1]; rfl) (evE (Less_eq B t) ?_)
  by_cases hl : B < t
  · have hc : cmpN t B = 1 := by unfold cmpN; rw [if_neg (by omega), if_pos hl]
    rw [hc]
    exact evT (decide_eq_true hl) (Round05_j2 hq hB h1 h2)
  · have hc : cmpN t B = x := by unfold cmpN; rw [hx]; split <;> simp [hl]
    rw [hc]
    exact evF (by simpa using hl) (Round05_j2 hq hB h1 h2)
theorem Round05_j0 {m : Int} {b : Bool} {s st : ByteArray} {e p E : Int} (h : OkS s e) (hd : dB st = true) (hs0 : vB st ≠ 0) (hsz : st.size ≤ 10000) (h1 : -10000 ≤ p) (h2 : p ≤ 10000) (hE : E = min e p) : Ev (fun k => figureheadref05_Round.j0 k m st p E b s e) (roundD m b (vB s) e (vB st) p) := by
  have hv := h.ok.val
  have hz := h.sz
  have hlo := h.lo
  have hhi := h.hi
  have hst := digs_size_lt (vB_lt hd)
  obtain ⟨u, hu⟩ : ∃ u : Nat, u = (p - E).toNat := ⟨_, rfl⟩
  have hw : wrap64 (p - E) = (u : Int) := by rw [w64 (by omega) (by omega)]; omega
  have hB : digB (vB st) ++ zerosB u = digB (atE (vB st) p E) := by
    apply B_ext
    rw [B_append, digB_list, digB_list, zerosB_list]
    unfold atE
    rw [digs_pow hs0, ← hu]
  have zB : (digB (atE (vB st) p E)).size ≤ 40000 := by
    unfold atE; rw [digB_len_pow hs0]; omega
  have zN := size_vZ b (n := vB s) (p := 10000) e E (by omega)
  rw [vZ_natAbs] at zN
  have hB0 := atE_pos hs0 p E
  refine Ev.step (fun k => by simp only [figureheadref05_Round.j0]; rfl) ?_
  refine Ev.bind (StripD_ev (by omega) hd) ?_
  rw [hw]
  refine Ev.bind (Zeros_ev (by omega)) (evT (by rw [zerosB_size]; omega) ?_)
  rw [hB]
  refine Ev.bind (At05_ev h.ok (by omega) (by omega)) (Ev.bind (Over_ev (dB_digB _) (by omega) hB0 (by omega)) ?_)
  rw [vB_digB]
  obtain ⟨N, hN⟩ : ∃ N, N = atE (vB s) e E := ⟨_, rfl⟩
  obtain ⟨B, hBB⟩ : ∃ B, B = atE (vB st) p E := ⟨_, rfl⟩
  rw [← hN, ← hBB]
  rw [← hN] at zN
  rw [← hBB] at zB hB0
  dsimp only
  have zN2 : (digB N).size ≤ 30000 := by omega
  have zr := digB_mono (Nat.mod_le N B) zN2
  have zq := digB_mono (Nat.div_le_self N B) zN2
  by_cases hf : N % B = 0
  · have hf2 : atE (vB s) e (min e p) % atE (vB st) p (min e p) = 0 := by rw [← hE, ← hN, ← hBB]; exact hf
    rw [roundD_fit hf2]
    exact evT (digB_toList_nil.2 hf) (Ev.bind (Norm05_ev h.ok) (Ev.now _))
  have hf2 : ¬ atE (vB s) e (min e p) % atE (vB st) p (min e p) = 0 := by rw [← hE, ← hN, ← hBB]; exact hf
  refine evF (fun hh => hf (digB_toList_nil.1 hh)) ?_
  by_cases h7 : m = 7
  · subst h7
    rw [roundD_exact hf2]
    exact evT rfl (Ev.now _)
  refine evF h7 (Ev.bind (Plus_ev (dB_digB _) (dB_digB _) (by omega) (by omega)) ?_)
  rw [vB_digB]
  have hres : roundD m b (vB s) e (vB st) p = (b, nD ((N / B + if upB m b (N / B % 2 == 1) (cmpN (N % B + N % B) B) = true then 1 else 0) * B), nE ((N / B + if upB m b (N / B % 2 == 1) (cmpN (N % B + N % B) B) = true then 1 else 0) * B) E, 0) := by
    rw [roundD_ok h7, ← hE]
    unfold rv0
    rw [← hN, ← hBB]
    have hq : rq m b N B = N / B + if upB m b (N / B % 2 == 1) (cmpN (N % B + N % B) B) = true then 1 else 0 := by
      unfold rq; simp only [ne_eq, hf, not_false_eq_true, true_and]
    rw [hq]
  rw [hres]
  refine evE (Less_eq _ _) ?_
  by_cases hl : N % B + N % B < B
  · exact evT (decide_eq_true hl) (Round05_j1 (by rw [if_pos hl]) (by omega) (by omega) (by omega) (by omega))
  · exact evF (by simpa using hl) (Round05_j1 (by rw [if_neg hl]) (by omega) (by omega) (by omega) (by omega))
theorem Round05_ev {m : Int} {b : Bool} {s st : ByteArray} {e p : Int} (h : OkS s e) (hd : dB st = true) (hs0 : vB st ≠ 0) (hsz : st.size ≤ 10000) (h1 : -10000 ≤ p) (h2 : p ≤ 10000) : Ev (fun k => figureheadref05_Round.f k m b s e st p) (roundD m b (vB s) e (vB st) p) := by
  unfold figureheadref05_Round.f
  by_cases hc : p < e
  · exact evT hc (Round05_j0 h hd hs0 hsz h1 h2 (by omega))
  · exact evF hc (Round05_j0 h hd hs0 hsz h1 h2 (by omega))
end Go.Proofs.YtekkpmoppihlaaaDoor.Px
end
section
namespace Go.Proofs.YtekkpmoppihlaaaDoor.Px
open Fig Go.RowKit Go.Proofs.YtekkpmoppihlaaaDoorW.PrintWords Go.Proofs.YtekkpmoppihlaaaDoorW.PrintLast Go.Proofs.YtekkpmoppihlaaaDoorW.PrintMore
attribute [local go_sem] max2_int min2_int max_two min_two max_three min_three max_four min_four   -- for this text's walks alone
attribute [local go_sem] fieldA23_0 fieldA23_1 fieldA23_2
theorem IncRounds_pure (a0 : Int) (a1_0 : Bool) (a1_1 : ByteArray) (a1_2 : Int) (a2 : ByteArray) (a3 : Int) (w0 : (Lit.int .i64 a0).wf = true) (w1_1 : a1_1.size ≤ 140737488351232) (w1_2 : (Lit.int .i64 a1_2).wf = true) (w2 : a2.size ≤ 140737488351232) (w3 : (Lit.int .i64 a3).wf = true) : ∃ k, figureheadlaw10_IncRounds.f k a0 a1_0 a1_1 a1_2 a2 a3 = some true := by
  refine Ev.rounds (g := fun k => figureheadlaw10_IncRounds.f k a0 a1_0 a1_1 a1_2 a2 a3) ?_
  unfold figureheadlaw10_IncRounds.f
  refine Ev.bind (good10_ev (by omega)) ?_
  cases hg : goodP10 a1_1 a1_2 a3
  · exact evF (by decide) (Ev.bind answers10_ev (Ev.now true))
  obtain ⟨ok, hz, hp1, hp2, he1, he2⟩ := goodP10_ok hg
  refine evT rfl ?_
  have hbad : ∀ r, r = (false, (⟨#[]⟩ : ByteArray), (0 : Int), (1 : Int)) → Ev (fun k => figureheadlaw10_IncRounds.j0 k a0 a2 a3 r.2.2.2 true a1_0 a1_1 a1_2 r.1 r.2.1 r.2.2.1) true := by
    rintro r rfl
    refine Ev.step (fun k => by simp only [figureheadlaw10_IncRounds.j0, if_true]; rfl) ?_
    exact Ev.bind answers10_ev (evT rfl (evIs (Ev.now _) (by simp [ByteArray.toList_eq])))
  by_cases h0 : a0 < 0
  · exact Ev.bind (incRound_bad w2 (.inl h0)) (evT h0 (hbad _ rfl))
  by_cases h7 : a0 > 7
  · exact Ev.bind (incRound_bad w2 (.inr (.inl h7))) (evF h0 (evT h7 (hbad _ rfl)))
  cases hm : mayB a2
  · have hn : ¬ (dB a2 = true ∧ a2.size ≠ 0) ∨ 40 < a2.size ∨ vB a2 = 0 := by
      by_cases h1 : dB a2 = true
      · by_cases h2 : vB a2 = 0
        · exact .inr (.inr h2)
        · by_cases h3 : a2.size ≤ 40
          · have := mayB_iff.2 ⟨h1, h2, h3⟩; rw [this] at hm; cases hm
          · exact .inr (.inl (by omega))
      · exact .inl (fun h => h1 h.1)
    refine Ev.bind (incRound_bad w2 (.inr (.inr hn))) (evF h0 (evF h7 (Ev.bind (may_ev (by omega)) ?_)))
    rw [hm]
    exact hbad _ rfl
  obtain ⟨hd, hs0, hsz⟩ := mayB_iff.1 hm
  refine Ev.bind (incRound_ev (by omega) (by omega) ok hd hs0 hsz (by omega) (by omega)) (evF h0 (evF h7 (Ev.bind (may_ev (by omega)) ?_)))
  rw [hm]
  refine Ev.step (fun k => by simp only [figureheadlaw10_IncRounds.j0, Bool.not_true, Bool.false_eq_true, if_false]; rfl) ?_
  refine Ev.bind (Round05_ev ok hd hs0 (by omega) (by omega) (by omega)) ?_
  exact Ev.bind answers10_ev (evT rfl (evT rfl (evIs (Ev.now _) (by simp))))
end Go.Proofs.YtekkpmoppihlaaaDoor.Px
end
section
namespace Go.Proofs.YtekkpmoppihlaaaDoorW.PrintWords
open Go.ChangeShapes Go.WideShapes
end Go.Proofs.YtekkpmoppihlaaaDoorW.PrintWords
end
section
namespace Fig
open Go Go.ChangeShapes
theorem one_cell {α : Type} {l : List α} {i n : Nat} (hl : l.length = n) (hi : i < n) : ∃ v, (l.drop i).take 1 = [v] ∧ l[i]? = some v := by
  refine ⟨l[i], ?_, List.getElem?_eq_getElem (by omega)⟩
  rw [List.drop_eq_getElem_cons (by omega)]; rfl
theorem func_cell {P : Program} {W : World} {name : String} {d : DataW Unit} (h : funcsAt P W name d) {g : Nat} {t e : TypeId} {n : Nat} {fld : Field} {ps rs : Array TypeId} {va : Bool}
    (hg : P.globalNamed name = some g) (hty : (P.globals[g]?).map (·.type) = some t) (ht : P.underlying t = some (.array n e)) (he : P.underlying e = some (.struct #[fld])) (hft : P.underlying fld.type = some (.func ps rs va))
    (ce : P.cellsOf e = 1) (cf : P.cellsOf fld.type = 1) (ho : fld.offset = 0) (ct : P.cellsOf t = n) {ds : List (DataW (List UInt8))} (hd : d.funcsOut = .agg ds)
    {i : Nat} (hi : i < n) {b : UInt8} {r : List UInt8} (hdi : ds[i]? = some (.agg [.held (b :: r)])) {f0 : FuncId}
    (hone : ((List.range P.funcs.size).filter fun f => (P.funcs[f]?).any (·.name.toUTF8.data.toList == b :: r)) = [f0]) : W.cell? ⟨g, i, none⟩ = some (.func (.func f0) #[] #[]) := by
  obtain ⟨g', t', cs, fuel, p, hg', ht', hv, hr⟩ := h
  obtain rfl := Option.some.inj (hg.symm.trans hg')
  obtain rfl := Option.some.inj (hty.symm.trans ht')
  obtain ⟨xs, m, _, ex, hcl, hl, hel⟩ := DataW.trod_array ht hr
  rw [hd] at ex
  have e3 : xs.map (·.1) = ds := (DataW.agg.inj (Prod.mk.inj ex).1).symm
  obtain ⟨v, hv1, hv2⟩ := one_cell (l := cs.toList) (n := n) (hcl.trans ct) hi
  have hE := hel i hi
  rw [ce, Nat.mul_one, hv1] at hE
  rw [← e3, List.getElem?_map] at hdi
  cases hx : xs[i]? with
  | none => rw [hx] at hdi; cases hdi
  | some x =>
    rw [hx] at hE hdi
    simp only [Option.map_some, Option.some.injEq] at hdi
    obtain ⟨y0, k, rfl, _, hy⟩ := trod_struct1 he hE
    rw [cf, ho, List.drop_zero] at hy
    have hy0 : y0.1 = .held (b :: r) := by simpa using hdi
    obtain ⟨y1, y2⟩ := y0
    subst hy0
    obtain rfl := func_of_trod hft hone (show DataW.trod _ P W 0 _ true k fld.type [v] = _ from hy)
    rw [World.var?_cell hg hv i]
    simpa using hv2
theorem setCells_os (g : Nat) : ∀ (l : List Value) (i : Nat) (w : World), ((l.zipIdx i).foldl (fun w x => w.setCell ⟨g, x.2, none⟩ x.1) w).os = w.os
  | [], _, _ => rfl
  | _ :: l, i, w => by rw [List.zipIdx_cons, List.foldl_cons, setCells_os g l (i + 1)]; rfl
end Fig
end
section
namespace Fig
open Go Go.Proofs Go.Proofs.YtekkpmoppihlaaaDoor
set_option maxRecDepth 100000
def plainL : List (String × DataW Unit) := [("unicode/utf8.acceptRanges", Rows.laid_unicode_utf8_acceptRanges), ("figurehead/ten.powers", Rows.laid_figurehead_ten_powers), ("unicode/utf8.first", Rows.laid_unicode_utf8_first)]
def laidL : List (String × DataW Unit) := [("figurehead/mode.ways", Rows.laid_figurehead_mode_ways), ("unicode/utf8.acceptRanges", Rows.laid_unicode_utf8_acceptRanges), ("figurehead/ten.powers", Rows.laid_figurehead_ten_powers), ("unicode/utf8.first", Rows.laid_unicode_utf8_first)]
def wayCells : List Value := [.func (.func 105) #[] #[], .func (.func 106) #[] #[], .func (.func 107) #[] #[], .func (.func 108) #[] #[], .func (.func 109) #[] #[], .func (.func 110) #[] #[], .func (.func 111) #[] #[], .func (.func 112) #[] #[]]
noncomputable def startW (os : Os) : World := (wayCells.zipIdx 0).foldl (fun w x => w.setCell ⟨1, x.2, none⟩ x.1) (World.laidAll Tryd.prog os plainL)
theorem startW_os (os : Os) : (startW os).os = os := (setCells_os _ _ _ _).trans (World.laidAll_os _ _ _)
theorem met (os : Os) (args : Array Value) : laidMetH Tryd.prog laidL ((startW os).forCall (fun _ _ => 0) ⟨#[], args, []⟩).memory :=
  laidMetH_of_parts3 (fuel := 8) (laidMet_of_run' 8 (by kernel_rfl) (by kernel_rfl)) (by kernel_rfl) (by kernel_rfl)
theorem plainFilter : (laidL.filter fun x => x.2.handleName?.isNone) = plainL := by kernel_rfl
theorem plain_of {W : World} (h : laidMetH Tryd.prog laidL W) : laidMet Tryd.prog plainL W := plainFilter ▸ (laidMetH_iff.1 h).1
theorem ways_of {W : World} (h : laidMetH Tryd.prog laidL W) : ∀ i f, ([105, 106, 107, 108, 109, 110, 111, 112] : List Nat)[i]? = some f → W.cell? ⟨1, i, none⟩ = some (.func (.func f) #[] #[]) := by
  have hF := h.funcs (n := "figurehead/mode.ways") (List.mem_cons_self)
  have gN : Tryd.prog.globalNamed "figurehead/mode.ways" = some 1 := by kernel_rfl
  have gT : (Tryd.prog.globals[1]?).map (·.type) = some 70 := by kernel_rfl
  have c1 : Tryd.prog.cellsOf 69 = 1 := by kernel_rfl
  have c2 : Tryd.prog.cellsOf 67 = 1 := by kernel_rfl
  have c3 : Tryd.prog.cellsOf 70 = 8 := by kernel_rfl
  intro i f hf
  have key : ∀ {b : UInt8} {r : List UInt8} {j : Nat} {f0 : FuncId}, j < 8 → _ → _ → W.cell? ⟨1, j, none⟩ = some (.func (.func f0) #[] #[]) := fun {b} {r} {j} {f0} hj hdi hone => func_cell (b := b) (r := r) hF gN gT Tryd.underlying70 Tryd.underlying69 Tryd.underlying67 c1 c2 rfl c3 rfl hj hdi hone
  match i, hf with
  | 0, hf => obtain rfl := Option.some.inj hf; exact key (b := 102) (r := [105, 103, 117, 114, 101, 104, 101, 97, 100, 47, 109, 111, 100, 101, 46, 119, 97, 121, 115, 36, 49]) (by decide) rfl (by kernel_rfl)
  | 1, hf => obtain rfl := Option.some.inj hf; exact key (b := 102) (r := [105, 103, 117, 114, 101, 104, 101, 97, 100, 47, 109, 111, 100, 101, 46, 119, 97, 121, 115, 36, 50]) (by decide) rfl (by kernel_rfl)
  | 2, hf => obtain rfl := Option.some.inj hf; exact key (b := 102) (r := [105, 103, 117, 114, 101, 104, 101, 97, 100, 47, 109, 111, 100, 101, 46, 119, 97, 121, 115, 36, 51]) (by decide) rfl (by kernel_rfl)
  | 3, hf => obtain rfl := Option.some.inj hf; exact key (b := 102) (r := [105, 103, 117, 114, 101, 104, 101, 97, 100, 47, 109, 111, 100, 101, 46, 119, 97, 121, 115, 36, 52]) (by decide) rfl (by kernel_rfl)
  | 4, hf => obtain rfl := Option.some.inj hf; exact key (b := 102) (r := [105, 103, 117, 114, 101, 104, 101, 97, 100, 47, 109, 111, 100, 101, 46, 119, 97, 121, 115, 36, 53]) (by decide) rfl (by kernel_rfl)
  | 5, hf => obtain rfl := Option.some.inj hf; exact key (b := 102) (r := [105, 103, 117, 114, 101, 104, 101, 97, 100, 47, 109, 111, 100, 101, 46, 119, 97, 121, 115, 36, 54]) (by decide) rfl (by kernel_rfl)
  | 6, hf => obtain rfl := Option.some.inj hf; exact key (b := 102) (r := [105, 103, 117, 114, 101, 104, 101, 97, 100, 47, 109, 111, 100, 101, 46, 119, 97, 121, 115, 36, 55]) (by decide) rfl (by kernel_rfl)
  | 7, hf => obtain rfl := Option.some.inj hf; exact key (b := 102) (r := [105, 103, 117, 114, 101, 104, 101, 97, 100, 47, 109, 111, 100, 101, 46, 119, 97, 121, 115, 36, 56]) (by decide) rfl (by kernel_rfl)
  | k + 8, hf => simp at hf
theorem pows_of {W : World} (h : laidMetH Tryd.prog laidL W) : ∀ i, i < 9 → W.cell? ⟨0, i, none⟩ = some (.int .u32 (([1, 10, 100, 1000, 10000, 100000, 1000000, 10000000, 100000000] : List Int).getD i 0)) := by
  have gN : Tryd.prog.globalNamed "figurehead/ten.powers" = some 0 := by kernel_rfl
  have gT : (Tryd.prog.globals[0]?).map (·.type) = some 64 := by kernel_rfl
  have hT := Lib.tabIs_of_head (k := .u32) (zs := [1, 10, 100, 1000, 10000, 100000, 1000000, 10000000, 100000000]) gN gT Tryd.underlying64 Tryd.underlying48 (by kernel_rfl) (by kernel_rfl) (laidMet.tail (plain_of h))
  exact fun i hi => hT.cell gN i hi
theorem of_laid {W : World} (h : laidMetH Tryd.prog laidL W) : Glob W := ⟨ways_of h, pows_of h⟩
end Fig
end
section
namespace Fig
open Go Go.ChangeShapes Go.WideShapes Go.RowKit Go.Deep Go.WideElems Go.Joins
theorem open_dec {H : Type} {enc : TypeId × Value → H} {P : Program} {w : World} {base : Nat} {spare : Nat → Bool} {held : Bool} {r : Reach} {b0 : Nat} {t : TypeId} {f0 f1 f2 : Field} {v : Value} {d : DataW H} {p : List MemPlace} {k : IntKind} (hs : P.underlying t = some (.struct #[f0, f1, f2])) (hone : oneCellFields P #[f0, f1, f2] = true) (hC : P.cellsOf t = 3)
    (u0 : P.underlying f0.type = some .bool) (u1 : P.underlying f1.type = some .string) (u2 : P.underlying f2.type = some (.int k)) (hv : Value.okWide P w r b0 t v) (h : DataW.Trod enc P w base spare held t v d p) :
    ∃ (x : Bool) (s : ByteArray) (n : Int), v = .agg #[.bool x, .string s, .int k n] ∧ d = .agg [.lit (.bool x), .lit (.string s.data.toList), .lit (.int k n)] ∧ p = [] ∧ s.size ≤ maxLen ∧ (Lit.int k n).wf = true := by
  obtain ⟨v0, v1, v2, y0, y1, y2, n, rfl, rfl, rfl, h0, h1, h2⟩ := open_agg3 hs hone hC hv h
  obtain ⟨x, e0, rfl⟩ := DataW.trod_bool u0 h0
  obtain ⟨s, e1, rfl, hl⟩ := DataW.trod_string u1 h1
  obtain ⟨m, e2, rfl, hw⟩ := DataW.trod_int u2 h2
  simp only [List.cons.injEq, and_true] at e0 e1 e2
  subst e0 e1 e2
  exact ⟨x, s, m, rfl, rfl, rfl, hl, hw⟩
theorem shut_dec {H : Type} {enc : TypeId × Value → H} {P : Program} {w : World} {base : Nat} {spare : Nat → Bool} {held : Bool} {t : TypeId} {f0 f1 f2 : Field} {k : IntKind} {x : Bool} {s : ByteArray} {n : Int} (hs : P.underlying t = some (.struct #[f0, f1, f2])) (hone : oneCellFields P #[f0, f1, f2] = true) (hC : P.cellsOf t = 3)
    (u0 : P.underlying f0.type = some .bool) (u1 : P.underlying f1.type = some .string) (u2 : P.underlying f2.type = some (.int k)) (hl : s.size ≤ maxLen) (hw : (Lit.int k n).wf = true) :
    DataW.Trod enc P w base spare held t (.agg #[.bool x, .string s, .int k n]) (.agg [.lit (.bool x), .lit (.string s.data.toList), .lit (.int k n)]) [] :=
  shut_agg3 (y0 := (.lit (.bool x), [])) (y1 := (.lit (.string s.data.toList), [])) (y2 := (.lit (.int k n), [])) hs hone hC ⟨1, by simp [DataW.trod, u0]⟩ ⟨1, by simp [DataW.trod, u1, hl]⟩ ⟨1, by simp [DataW.trod, u2, hw]⟩
theorem sized_dec {H : Type} {P : Program} {ts : List TypeId} {ds : List (DataW H)} (h : (DataW.weightsEach P ts ds).all (· ≤ reachBytes) = true) {j : Nat} {t : TypeId} {f0 f1 f2 : Field} {x y : DataW H} {bytes : List UInt8} (ht : ts[j]? = some t) (hd : ds[j]? = some (.agg [x, .lit (.string bytes), y])) (hs : P.underlying t = some (.struct #[f0, f1, f2])) : bytes.length ≤ reachBytes := by
  have := List.all_eq_true.1 h _ (DataW.weights_mem_each ht hd bytes.length (by simp [DataW.weights, DataW.weightsEach, hs]))
  simpa using this
end Fig
end
