/- The functions that the law PlaceRounds reaches, told as plain functions, with what is proved of them, and the words they need (part 4). -/
import Derived.Test.YtjpokifkbclkiaaDoorCPlaceRounds0
import Derived.Test.YtjpokifkbclkiaaDoorCPlaceRounds1
import Derived.Test.YtjpokifkbclkiaaDoorCPlaceRounds3
import Derived.Test.YtjpokifkbclkiaaDoorCPlaceRounds2
import Derived.SizedLaws
import Derived.ChangeSlices
import Derived.LaidMore
import Derived.LaidHandle
import Derived.LaidSub
import Derived.OpenShut
import Derived.ChangeSame
import Derived.Lay
import Derived.Lib.LaidTab
import Derived.Test.YtjpokifkbclkiaaDoorRows
import Derived.Stop.LaidErr
import Derived.Lib.SmallJoins
import Derived.ChangeMaps5
set_option linter.unusedVariables false
set_option linter.unusedSimpArgs false
section
namespace Go.Proofs.YtjpokifkbclkiaaDoor.Px
open Fig Go.RowKit Go.Proofs.YtjpokifkbclkiaaDoorW.PrintWords Go.Proofs.YtjpokifkbclkiaaDoorW.PrintLast Go.Proofs.YtjpokifkbclkiaaDoorW.PrintMore
attribute [local go_sem] max2_int min2_int max_two min_two max_three min_three max_four min_four   -- for this text's walks alone
attribute [local go_sem] fieldA23_0 fieldA23_1 fieldA23_2
theorem sub_step (p q c : Nat) (hp : p ≤ 9) (hq : q ≤ 9) (hc : c ≤ 1) : wrap64 (wrap64 ((p : Int) - (q : Int)) - (c : Int)) = (p : Int) - (q : Int) - (c : Int) := by
  rw [w64 (x := (p : Int) - (q : Int)) (by omega) (by omega), w64 (by omega) (by omega)]
theorem sub_neg (p q c : Nat) (hp : p ≤ 9) (hq : q ≤ 9) (hc : c ≤ 1) (h : p < q + c) : (wrap64 (48 + wrap64 ((p : Int) - (q : Int) - (c : Int) + 10))) % 256 = ((48 + (p + 10 - q - c) : Nat) : Int) := by
  rw [w64 (x := (p : Int) - (q : Int) - (c : Int) + 10) (by omega) (by omega), w64 (by omega) (by omega)]; omega
theorem sub_pos (p q c : Nat) (hp : p ≤ 9) (hq : q ≤ 9) (hc : c ≤ 1) (h : q + c ≤ p) : (wrap64 (48 + ((p : Int) - (q : Int) - (c : Int)))) % 256 = ((48 + (p - q - c) : Nat) : Int) := by
  rw [w64 (by omega) (by omega)]; omega
theorem Minus_loop (a b : ByteArray) (ha : dB a = true) (hb : dB b = true) (la : a.size ≤ 100000000000) (lb : b.size ≤ 100000000000) : ∀ (d k : Nat) (x : List Int) (c : Nat), a.size - k = d → k ≤ a.size → c ≤ 1 → x.length = k → digL (ob x) = true → c + rv ((rs b).drop k) ≤ rv ((rs a).drop k) →
    Ev (fun j => figureheadref01_Minus.l0 j a b x (c : Int) (k : Int)) (digB (rv (ob x) + 10 ^ k * (rv ((rs a).drop k) - rv ((rs b).drop k) - c)))
  | 0, k, x, c, h1, h2, hc, hx, hd, hle => by
    refine evIs (Ev.step (fun j => ?_) (turnedStrip_ev (l := x) (by omega) hd)) ?_
    · simp only [figureheadref01_Minus.l0]; rw [if_neg (by omega)]
    · rw [rv_rest_end (s := a) (by omega)]; simp
  | d + 1, k, x, c, h1, h2, hc, hx, hd, hle => by
    have da := dg_le ha k
    have db := dg_le hb k
    rw [rv_rest a k, rv_rest b k] at hle ⊢
    by_cases hneg : dg a k < dg b k + c
    · obtain ⟨o1, o2⟩ := ob_snoc x (c := dg a k + 10 - dg b k - c) (by omega) hd
      refine Ev.step (f := fun j => figureheadref01_Minus.l0 j a b (x ++ [((48 + (dg a k + 10 - dg b k - c) : Nat) : Int)]) ((1 : Nat) : Int) ((k + 1 : Nat) : Int)) (fun j => ?_) ?_
      · simp only [figureheadref01_Minus.l0]
        rw [if_pos (by omega), digit_eq ha (by omega) (by omega), digit_eq hb (by omega) (by omega)]
        simp only [Option.bind_some]
        rw [sub_step _ _ _ da db hc, if_pos (by omega), if_pos (by omega), sub_neg _ _ _ da db hc hneg, w64 (by omega) (by omega)]; rfl
      · refine evIs (Minus_loop a b ha hb la lb d (k + 1) _ 1 (by omega) (by omega) (by omega) (by simp [hx]) o1 (by omega)) ?_
        rw [o2, hx, Nat.pow_succ, Nat.mul_assoc, Nat.add_assoc, ← Nat.mul_add]
        congr 2; congr 1; omega
    · obtain ⟨o1, o2⟩ := ob_snoc x (c := dg a k - dg b k - c) (by omega) hd
      refine Ev.step (f := fun j => figureheadref01_Minus.l0 j a b (x ++ [((48 + (dg a k - dg b k - c) : Nat) : Int)]) ((0 : Nat) : Int) ((k + 1 : Nat) : Int)) (fun j => ?_) ?_
      · simp only [figureheadref01_Minus.l0]
        rw [if_pos (by omega), digit_eq ha (by omega) (by omega), digit_eq hb (by omega) (by omega)]
        simp only [Option.bind_some]
        rw [sub_step _ _ _ da db hc, if_neg (by omega), if_pos (by omega), sub_pos _ _ _ da db hc (by omega), w64 (by omega) (by omega)]; rfl
      · refine evIs (Minus_loop a b ha hb la lb d (k + 1) _ 0 (by omega) (by omega) (by omega) (by simp [hx]) o1 (by omega)) ?_
        rw [o2, hx, Nat.pow_succ, Nat.mul_assoc, Nat.add_assoc, ← Nat.mul_add]
        congr 2; congr 1; omega
theorem Minus_ev {a b : ByteArray} (ha : dB a = true) (hb : dB b = true) (la : a.size ≤ 100000000000) (lb : b.size ≤ 100000000000) (hle : vB b ≤ vB a) : Ev (fun k => figureheadref01_Minus.f k a b) (digB (vB a - vB b)) := by
  refine evIs (Minus_loop a b ha hb la lb a.size 0 [] 0 (by omega) (by omega) (by omega) rfl rfl (by simpa [rs, vB] using hle)) ?_
  simp [ob, rv, vB, rs]
end Go.Proofs.YtjpokifkbclkiaaDoor.Px
end
section
namespace Go.Proofs.YtjpokifkbclkiaaDoor.Px
open Fig Go.RowKit Go.Proofs.YtjpokifkbclkiaaDoorW.PrintWords Go.Proofs.YtjpokifkbclkiaaDoorW.PrintLast Go.Proofs.YtjpokifkbclkiaaDoorW.PrintMore
attribute [local go_sem] max2_int min2_int max_two min_two max_three min_three max_four min_four   -- for this text's walks alone
attribute [local go_sem] fieldA23_0 fieldA23_1 fieldA23_2
theorem code_one (j : Nat) (h : j ≤ 9) : (wrap64 (48 + (j : Int))) % 256 = ((48 + j : Nat) : Int) := by rw [w64 (by omega) (by omega)]; omega
theorem one_code {c : Nat} (h : c ≤ 9) : dB (strOfNums [((48 + c : Nat) : Int)]) = true ∧ vB (strOfNums [((48 + c : Nat) : Int)]) = c ∧ (strOfNums [((48 + c : Nat) : Int)]).size = 1 := by
  have e2 : (UInt8.ofNat (48 + c)).toNat = 48 + c := by rw [UInt8.toNat_ofNat']; omega
  refine ⟨?_, ?_, ?_⟩
  · unfold dB; rw [B_nums]; simp only [List.map_cons, List.map_nil, Int.toNat_natCast]; rw [digL_cons, isD_iff, e2]; exact ⟨by omega, rfl⟩
  · unfold vB; rw [B_nums]; simp only [List.map_cons, List.map_nil, Int.toNat_natCast, List.reverse_singleton, rv, e2]; omega
  · rw [strOfNums_size]; rfl
theorem Over_in (a : ByteArray) (n : Nat) (hn : 0 < n) (ln : (digB n).size ≤ 1000000) (q : ByteArray) (hq : q.size ≤ 1000000000000) (i : Nat) (hi : i < 1000000000000) (t : Nat) (ht : t < 10 * n) (r : ByteArray × ByteArray) : ∀ (d j : Nat), t / n - j = d → j ≤ t / n →
    Ev (fun k => figureheadref01_Over.l0 k a (digB n) (q ++ strOfNums [((48 + t / n : Nat) : Int)]) (digB (t % n)) ((i + 1 : Nat) : Int)) r → Ev (fun k => figureheadref01_Over.l1 k a (digB n) q (digB (t - j * n)) (i : Int) (j : Int)) r
  | 0, j, h1, h2, h => by
    have hj : j = t / n := by omega
    have hq9 : t / n ≤ 9 := by have : t / n < 10 := by rw [Nat.div_lt_iff_lt_mul hn]; exact ht
                               omega
    have e : t - j * n = t % n := by
      have := Nat.div_add_mod t n
      rw [← hj, Nat.mul_comm] at this; omega
    rw [e]
    refine Ev.step (fun k => ?_) h
    have hm := Nat.mod_lt t hn
    obtain ⟨c1, c2, c3⟩ := one_code hq9
    simp only [figureheadref01_Over.l1, Less_eq, hm, decide_true, Option.bind_some, if_true]
    rw [hj, code_one _ hq9, if_pos (by omega), succ64 _ (by omega)]
  | d + 1, j, h1, h2, h => by
    have hjn : j * n + n ≤ t := by
      have h3 : (j + 1) * n ≤ t / n * n := Nat.mul_le_mul_right _ (by omega)
      have := Nat.div_mul_le_self t n
      rw [Nat.add_mul] at h3; omega
    have hnl : ¬ t - j * n < n := by omega
    have lz : (digB (t - j * n)).size ≤ 1000001 := digB_ten ln (by omega)
    have hj9 : j ≤ 9 := by have : t / n < 10 := by rw [Nat.div_lt_iff_lt_mul hn]; exact ht
                           omega
    refine Ev.step (f := fun k => (figureheadref01_Minus.f k (digB (t - j * n)) (digB n)).bind fun t2 => figureheadref01_Over.l1 k a (digB n) q t2 (i : Int) ((j + 1 : Nat) : Int)) (fun k => ?_) (Ev.bind (Minus_ev (dB_digB _) (dB_digB _) (by omega) (by omega) (by rw [vB_digB, vB_digB]; omega)) ?_)
    · simp only [figureheadref01_Over.l1, Less_eq, hnl, decide_false, Option.bind_some, Bool.false_eq_true, if_false]
      rw [succ64 _ (by omega)]
    · rw [vB_digB, vB_digB, Nat.sub_sub, show j * n + n = (j + 1) * n by rw [Nat.add_mul]; omega]
      exact Over_in a n hn ln q hq i hi t ht r d (j + 1) (by omega) (by omega) h
theorem Over_loop (a : ByteArray) (ha : dB a = true) (la : a.size ≤ 1000000) (n : Nat) (hn : 0 < n) (ln : (digB n).size ≤ 1000000) : ∀ (d i : Nat) (q : ByteArray) (m : Nat), a.size - i = d → i ≤ a.size → dB q = true → q.size = i → m < n → vB q * n + m = vB (a.extract 0 i) →
    Ev (fun k => figureheadref01_Over.l0 k a (digB n) q (digB m) (i : Int)) (digB (vB a / n), digB (vB a % n))
  | 0, i, q, m, h1, h2, hq, zq, hm, hv => by
    have e0 : a.extract 0 i = a := by apply B_ext; rw [B_to, List.take_of_length_le (by rw [← size_eq]; omega)]
    rw [e0] at hv
    have e1 : vB q = vB a / n := by rw [← hv, Nat.mul_comm, Nat.mul_add_div hn, Nat.div_eq_of_lt hm]; rfl
    have e2 : m = vB a % n := by rw [← hv, Nat.mul_comm, Nat.mul_add_mod, Nat.mod_eq_of_lt hm]
    rw [← e1, ← e2]
    refine Ev.step (f := fun k => (figureheadref01_Strip.f k q).bind fun t => some (t, digB m)) (fun k => ?_) (Ev.bind (StripD_ev (by omega) hq) (Ev.now _))
    simp only [figureheadref01_Over.l0]; rw [if_neg (by omega)]
  | d + 1, i, q, m, h1, h2, hq, zq, hm, hv => by
    have hlt : i < a.size := by omega
    have hl : i < a.data.toList.length := by rw [← size_eq]; exact hlt
    have hdig := isD_iff.1 (digL_iff.1 ha _ (List.getElem_mem hl))
    have ec : (a.extract i (i + 1)).data.toList = [a.data.toList[i]] := by
      rw [B_extract, show i + 1 - i = 1 by omega, List.drop_eq_getElem_cons hl]; rfl
    have zc : (a.extract i (i + 1)).size = 1 := by rw [size_eq, ec]; rfl
    have dc : dB (a.extract i (i + 1)) = true := by unfold dB; rw [ec, digL_cons]; exact ⟨isD_iff.2 hdig, rfl⟩
    obtain ⟨c, hc⟩ : ∃ c, c = vB (a.extract i (i + 1)) := ⟨_, rfl⟩
    have hc9 : c ≤ 9 := by have := vB_lt dc; rw [zc, ← hc] at this; omega
    have hv2 : vB (a.extract 0 (i + 1)) = vB (a.extract 0 i) * 10 + c := by
      have : a.extract 0 (i + 1) = a.extract 0 i ++ a.extract i (i + 1) := by
        apply B_ext
        rw [B_append, B_to, B_to, ec, List.take_succ_eq_append_getElem hl]
      rw [this, vB_append, zc, ← hc, Nat.pow_one]
    have lm : (digB m).size ≤ 1000000 := digB_mono (by omega) ln
    have ht : m * 10 + c < 10 * n := by omega
    refine Ev.step (f := fun k => (figureheadref01_Strip.f k (digB m ++ a.extract i (i + 1))).bind fun t => figureheadref01_Over.l1 k a (digB n) q t (i : Int) ((0 : Nat) : Int)) (fun k => ?_) (Ev.bind (StripD_ev (by rw [ByteArray.size_append]; omega) (dB_append.2 ⟨dB_digB _, dc⟩)) ?_)
    · simp only [figureheadref01_Over.l0]
      rw [if_pos (by omega), if_pos (by omega), succ64 _ (by omega), if_pos (by omega), if_pos (by omega), Int.toNat_natCast, Int.toNat_natCast, if_pos (by omega)]; rfl
    · rw [vB_append, zc, vB_digB, Nat.pow_one, ← hc]
      have hq9 : (m * 10 + c) / n ≤ 9 := by have : (m * 10 + c) / n < 10 := by rw [Nat.div_lt_iff_lt_mul hn]; exact ht
                                            omega
      obtain ⟨c1, c2, c3⟩ := one_code hq9
      have := Over_in a n hn ln q (by omega) i (by omega) (m * 10 + c) ht _ _ 0 rfl (by omega) (Over_loop a ha la n hn ln d (i + 1) (q ++ strOfNums [((48 + (m * 10 + c) / n : Nat) : Int)]) ((m * 10 + c) % n) (by omega) (by omega) (dB_append.2 ⟨hq, c1⟩) (by rw [ByteArray.size_append]; omega) (Nat.mod_lt _ hn) ?_)
      · rwa [Nat.zero_mul, Nat.sub_zero] at this
      · rw [vB_append, c2, c3, hv2, ← hv, Nat.pow_one]
        have := Nat.div_add_mod (m * 10 + c) n
        rw [Nat.add_mul, Nat.mul_comm ((m * 10 + c) / n) n, Nat.add_mul, Nat.mul_right_comm (vB q) 10 n]; omega
theorem Over_ev {a : ByteArray} {n : Nat} (ha : dB a = true) (la : a.size ≤ 1000000) (hn : 0 < n) (ln : (digB n).size ≤ 1000000) : Ev (fun k => figureheadref01_Over.f k a (digB n)) (digB (vB a / n), digB (vB a % n)) := by
  have e0 : (⟨#[]⟩ : ByteArray) = digB 0 := digB_zero.symm
  have := Over_loop a ha la n hn ln a.size 0 (digB 0) 0 (by omega) (by omega) (dB_digB _) (by rw [digB_zero]; rfl) hn (by
    rw [vB_digB]
    have : (a.extract 0 0).data.toList = [] := by rw [B_to]; rfl
    unfold vB; rw [this]; simp [rv])
  unfold figureheadref01_Over.f
  rw [e0]; exact this
end Go.Proofs.YtjpokifkbclkiaaDoor.Px
end
section
namespace Go.Proofs.YtjpokifkbclkiaaDoor.Px
open Fig Go.RowKit Go.Proofs.YtjpokifkbclkiaaDoorW.PrintWords Go.Proofs.YtjpokifkbclkiaaDoorW.PrintLast Go.Proofs.YtjpokifkbclkiaaDoorW.PrintMore
attribute [local go_sem] max2_int min2_int max_two min_two max_three min_three max_four min_four   -- for this text's walks alone
attribute [local go_sem] fieldA23_0 fieldA23_1 fieldA23_2
theorem At05_ev {b : Bool} {s : ByteArray} {e x : Int} (h : OkD s e) (h1 : x ≤ e) (h2 : -100000 ≤ x) : Ev (fun k => figureheadref05_At.f k b s e x) (digB (atE (vB s) e x)) := by
  have hs := h.sz
  have hl := h.lo
  have hh := h.hi
  have hz := h.val
  unfold figureheadref05_At.f
  refine Ev.bind (StripD_ev (by omega) h.d) ?_
  by_cases h0 : vB s = 0
  · simp only [digB_toList_nil.2 h0, if_true]
    rw [h0, atE_zero, digB_zero]
    exact Ev.now _
  · have h3 : ¬ (digB (vB s)).toList = ([] : List UInt8) := fun hh => h0 (digB_toList_nil.1 hh)
    obtain ⟨m, hm⟩ : ∃ m : Nat, m = (e - x).toNat := ⟨_, rfl⟩
    have hw : wrap64 (e - x) = (m : Int) := by rw [w64 (by omega) (by omega)]; omega
    simp only [h3, if_false, hw]
    refine Ev.bind (Zeros_ev (by omega)) ?_
    have hc : (digB (vB s)).size + (zerosB m).size ≤ 9223372036854775807 := by rw [zerosB_size]; omega
    simp only [hc, if_true]
    refine evIs (Ev.now _) ?_
    apply B_ext
    rw [B_append, digB_list, digB_list, zerosB_list]
    unfold atE
    rw [digs_pow h0, ← hm]
end Go.Proofs.YtjpokifkbclkiaaDoor.Px
end
section
namespace Go.Proofs.YtjpokifkbclkiaaDoor.Px
open Fig Go.RowKit Go.Proofs.YtjpokifkbclkiaaDoorW.PrintWords Go.Proofs.YtjpokifkbclkiaaDoorW.PrintLast Go.Proofs.YtjpokifkbclkiaaDoorW.PrintMore
attribute [local go_sem] max2_int min2_int max_two min_two max_three min_three max_four min_four   -- for this text's walks alone
attribute [local go_sem] fieldA23_0 fieldA23_1 fieldA23_2
theorem Up_eq (m : Int) (neg odd : Bool) (half : Int) : figureheadref05_Up.f m neg odd half = some (awayB m neg odd half) := by
  unfold figureheadref05_Up.f awayB
  by_cases h0 : m = 0 <;> by_cases h1 : m = 1 <;> by_cases h2 : m = 2 <;> by_cases h3 : m = 3 <;> by_cases h4 : m = 4 <;> by_cases h5 : m = 5 <;> by_cases h6 : m = 6 <;> simp_all
  by_cases hp : 0 < half
  · simp [hp]
  · by_cases hz : half = 0 <;> simp [hp, hz]
end Go.Proofs.YtjpokifkbclkiaaDoor.Px
end
section
namespace Go.Proofs.YtjpokifkbclkiaaDoor.Px
open Fig Go.RowKit Go.Proofs.YtjpokifkbclkiaaDoorW.PrintWords Go.Proofs.YtjpokifkbclkiaaDoorW.PrintLast Go.Proofs.YtjpokifkbclkiaaDoorW.PrintMore
attribute [local go_sem] max2_int min2_int max_two min_two max_three min_three max_four min_four   -- for this text's walks alone
attribute [local go_sem] fieldA23_0 fieldA23_1 fieldA23_2
theorem vB_nought_append (s : ByteArray) : vB ((⟨#[48]⟩ : ByteArray) ++ s) = vB s := by
  rw [vB_append, show vB (⟨#[48]⟩ : ByteArray) = 0 from rfl, Nat.zero_mul, Nat.zero_add]
theorem Make_ev {b : Bool} {s : ByteArray} {e : Int} (hd : dB s = true) (hz : s.size ≤ 900000) (h1 : -1000000 ≤ e) (h2 : e ≤ 1000000) : Ev (fun k => figureheadref05_Make.f k b s e) (b, nD (vB s), nE (vB s) e) := by
  unfold figureheadref05_Make.f
  refine evT (by omega) ?_
  have hs : ((⟨#[48]⟩ : ByteArray) ++ s).size = 1 + s.size := by rw [ByteArray.size_append]; rfl
  have := Norm05_any (b := b) (s := (⟨#[48]⟩ : ByteArray) ++ s) (e := e) (dB_append.2 ⟨rfl, hd⟩) (by omega) h1 h2
  rw [vB_nought_append] at this
  exact Ev.bind this (Ev.now _)
theorem MakeD_ev {b : Bool} {n : Nat} {e : Int} (hz : (digB n).size ≤ 900000) (h1 : -1000000 ≤ e) (h2 : e ≤ 1000000) : Ev (fun k => figureheadref05_Make.f k b (digB n) e) (b, nD n, nE n e) := by
  have := Make_ev (b := b) (s := digB n) (e := e) (dB_digB n) hz h1 h2
  rwa [vB_digB] at this
end Go.Proofs.YtjpokifkbclkiaaDoor.Px
end
section
namespace Go.Proofs.YtjpokifkbclkiaaDoor.Px
open Fig Go.RowKit Go.Proofs.YtjpokifkbclkiaaDoorW.PrintWords Go.Proofs.YtjpokifkbclkiaaDoorW.PrintLast Go.Proofs.YtjpokifkbclkiaaDoorW.PrintMore
attribute [local go_sem] max2_int min2_int max_two min_two max_three min_three max_four min_four   -- for this text's walks alone
attribute [local go_sem] fieldA23_0 fieldA23_1 fieldA23_2
theorem digB_last_bt {n : Nat} (h : n ≠ 0) : bt (digB n) (((digB n).size : Int) - 1) = ((48 + n % 10 : Nat) : Int) := digB_bt h
theorem Round05_j3 {m : Int} {b : Bool} {s : ByteArray} {e E : Int} {B q : Nat} {half : Int} {odd : Bool} (hq : (digB q).size ≤ 100000) (hB : (digB B).size ≤ 100000) (h1 : -100000 ≤ E) (h2 : E ≤ 100000) : Ev (fun k => figureheadref05_Round.j3 k m E (digB B) (digB q) half odd b s e) (b, nD ((q + if upB m b odd half = true then 1 else 0) * B), nE ((q + if upB m b odd half = true then 1 else 0) * B) E, 0) := by
  have hu : figureheadref05_Up.f m b odd half = some (upB m b odd half) := (Up_eq m b odd half)
  refine Ev.step (fun k => by simp only [figureheadref05_Round.j3]; rfl) (evE hu ?_)
  cases upB m b odd half
  · refine evF (by decide) (Ev.bind (Times_ev (dB_digB _) (dB_digB _) (by omega) (by omega)) ?_)
    rw [vB_digB, vB_digB]
    have := digB_mul_le hq hB
    refine Ev.bind (MakeD_ev (by omega) (by omega) (by omega)) (evIs (Ev.now _) (by simp))
  · have d1 : dB (⟨#[49]⟩ : ByteArray) = true := by decide
    have v1 : vB (⟨#[49]⟩ : ByteArray) = 1 := by decide
    refine evT rfl (Ev.bind (Plus_ev (dB_digB q) d1 (by omega) (by decide)) ?_)
    rw [vB_digB, v1]
    have h3 := digB_add_le (m := q) (n := 1) (p := 100000) hq (by rw [digB_one_size]; omega)
    refine Ev.bind (Times_ev (dB_digB _) (dB_digB _) (by omega) (by omega)) ?_
    rw [vB_digB, vB_digB]
    have := digB_mul_le h3 hB
    refine Ev.bind (MakeD_ev (by omega) (by omega) (by omega)) (evIs (Ev.now _) (by simp))
theorem Round05_j2 {m : Int} {b : Bool} {s : ByteArray} {e E : Int} {B q : Nat} {half : Int} (hq : (digB q).size ≤ 100000) (hB : (digB B).size ≤ 100000) (h1 : -100000 ≤ E) (h2 : E ≤ 100000) : Ev (fun k => figureheadref05_Round.j2 k m E (digB B) (digB q) half b s e) (b, nD ((q + if upB m b (q % 2 == 1) half = true then 1 else 0) * B), nE ((q + if upB m b (q % 2 == 1) half = true then 1 else 0) * B) E, 0) := by
  by_cases h0 : q = 0
  · subst h0
    refine Ev.step (f := fun k => figureheadref05_Round.j3 k m E (digB B) (digB 0) half false b s e) (fun k => ?_) (Round05_j3 hq hB h1 h2)
    simp only [figureheadref05_Round.j2]
    rw [if_neg (by rw [digB_empty_iff.2 rfl]; decide)]
  · have hs := digB_ten_size h0
    refine Ev.step (f := fun k => figureheadref05_Round.j3 k m E (digB B) (digB q) half (q % 2 == 1) b s e) (fun k => ?_) (Round05_j3 hq hB h1 h2)
    simp only [figureheadref05_Round.j2]
    rw [if_pos (by omega), w64 (x := ((digB q).size : Int) - 1) (by omega) (by omega), if_pos (by omega), if_pos (by omega), digB_last_bt h0]
    congr 1
    rw [Bool.eq_iff_iff, beq_iff_eq, beq_iff_eq]; omega
theorem Round05_j1 {m : Int} {b : Bool} {s : ByteArray} {e E : Int} {B q t : Nat} {x : Int} (hx : x = if t < B then -1 else 0) (hq : (digB q).size ≤ 100000) (hB : (digB B).size ≤ 100000) (h1 : -100000 ≤ E) (h2 : E ≤ 100000) : Ev (fun k => figureheadref05_Round.j1 k m E (digB B) (digB q) (digB t) x b s e) (b, nD ((q + if upB m b (q % 2 == 1) (cmpN t B) = true then 1 else 0) * B), nE ((q + if upB m b (q % 2 == 1) (cmpN t B) = true then 1 else 0) * B) E, 0) := by
  refine Ev.step (fun k => by simp only [figureheadref05_Round.j1]; rfl) (evE (Less_eq B t) ?_)
  by_cases hl : B < t
  · have hc : cmpN t B = 1 := by unfold cmpN; rw [if_neg (by omega), if_pos hl]
    rw [hc]
    exact evT (decide_eq_true hl) (Round05_j2 hq hB h1 h2)
  · have hc : cmpN t B = x := by unfold cmpN; rw [hx]; split <;> simp [hl]
    rw [hc]
    exact evF (by simpa using hl) (Round05_j2 hq hB h1 h2)
theorem Round05_j0 {m : Int} {b : Bool} {s st : ByteArray} {e p E : Int} (h : OkS s e) (hd : dB st = true) (hs0 : vB st ≠ 0) (hsz : st.size ≤ 10000) (h1 : -10000 ≤ p) (h2 : p ≤ 10000) (hE : E = min e p) : Ev (fun k => figureheadref05_Round.j0 k m st p E b s e) (roundD m b (vB s) e (vB st) p) := by
  have hv := h.ok.val
  have hz := h.sz
  have hlo := h.lo
  have hhi := h.hi
  have hst := digs_size_lt (vB_lt hd)
  obtain ⟨u, hu⟩ : ∃ u : Nat, u = (p - E).toNat := ⟨_, rfl⟩
  have hw : wrap64 (p - E) = (u : Int) := by rw [w64 (by omega) (by omega)]; omega
  have hB : digB (vB st) ++ zerosB u = digB (atE (vB st) p E) := by
    apply B_ext
    rw [B_append, digB_list, digB_list, zerosB_list]
    unfold atE
    rw [digs_pow hs0, ← hu]
  have zB : (digB (atE (vB st) p E)).size ≤ 40000 := by
    unfold atE; rw [digB_len_pow hs0]; omega
  have zN := size_vZ b (n := vB s) (p := 10000) e E (by omega)
  rw [vZ_natAbs] at zN
  have hB0 := atE_pos hs0 p E
  refine Ev.step (fun k => by simp only [figureheadref05_Round.j0]; rfl) ?_
  refine Ev.bind (StripD_ev (by omega) hd) ?_
  rw [hw]
  refine Ev.bind (Zeros_ev (by omega)) (evT (by rw [zerosB_size]; omega) ?_)
  rw [hB]
  refine Ev.bind (At05_ev h.ok (by omega) (by omega)) (Ev.bind (Over_ev (dB_digB _) (by omega) hB0 (by omega)) ?_)
  rw [vB_digB]
  obtain ⟨N, hN⟩ : ∃ N, N = atE (vB s) e E := ⟨_, rfl⟩
  obtain ⟨B, hBB⟩ : ∃ B, B = atE (vB st) p E := ⟨_, rfl⟩
  rw [← hN, ← hBB]
  rw [← hN] at zN
  rw [← hBB] at zB hB0
  dsimp only
  have zN2 : (digB N).size ≤ 30000 := by omega
  have zr := digB_mono (Nat.mod_le N B) zN2
  have zq := digB_mono (Nat.div_le_self N B) zN2
  by_cases hf : N % B = 0
  · have hf2 : atE (vB s) e (min e p) % atE (vB st) p (min e p) = 0 := by rw [← hE, ← hN, ← hBB]; exact hf
    rw [roundD_fit hf2]
    exact evT (digB_toList_nil.2 hf) (Ev.bind (Norm05_ev h.ok) (Ev.now _))
  have hf2 : ¬ atE (vB s) e (min e p) % atE (vB st) p (min e p) = 0 := by rw [← hE, ← hN, ← hBB]; exact hf
  refine evF (fun hh => hf (digB_toList_nil.1 hh)) ?_
  by_cases h7 : m = 7
  · subst h7
    rw [roundD_exact hf2]
    exact evT rfl (Ev.now _)
  refine evF h7 (Ev.bind (Plus_ev (dB_digB _) (dB_digB _) (by omega) (by omega)) ?_)
  rw [vB_digB]
  have hres : roundD m b (vB s) e (vB st) p = (b, nD ((N / B + if upB m b (N / B % 2 == 1) (cmpN (N % B + N % B) B) = true then 1 else 0) * B), nE ((N / B + if upB m b (N / B % 2 == 1) (cmpN (N % B + N % B) B) = true then 1 else 0) * B) E, 0) := by
    rw [roundD_ok h7, ← hE]
    unfold rv0
    rw [← hN, ← hBB]
    have hq : rq m b N B = N / B + if upB m b (N / B % 2 == 1) (cmpN (N % B + N % B) B) = true then 1 else 0 := by
      unfold rq; simp only [ne_eq, hf, not_false_eq_true, true_and]
    rw [hq]
  rw [hres]
  refine evE (Less_eq _ _) ?_
  by_cases hl : N % B + N % B < B
  · exact evT (decide_eq_true hl) (Round05_j1 (by rw [if_pos hl]) (by omega) (by omega) (by omega) (by omega))
  · exact evF (by simpa using hl) (Round05_j1 (by rw [if_neg hl]) (by omega) (by omega) (by omega) (by omega))
theorem Round05_ev {m : Int} {b : Bool} {s st : ByteArray} {e p : Int} (h : OkS s e) (hd : dB st = true) (hs0 : vB st ≠ 0) (hsz : st.size ≤ 10000) (h1 : -10000 ≤ p) (h2 : p ≤ 10000) : Ev (fun k => figureheadref05_Round.f k m b s e st p) (roundD m b (vB s) e (vB st) p) := by
  unfold figureheadref05_Round.f
  by_cases hc : p < e
  · exact evT hc (Round05_j0 h hd hs0 hsz h1 h2 (by omega))
  · exact evF hc (Round05_j0 h hd hs0 hsz h1 h2 (by omega))
end Go.Proofs.YtjpokifkbclkiaaDoor.Px
end
section
namespace Go.Proofs.YtjpokifkbclkiaaDoor.Px
open Fig Go.RowKit Go.Proofs.YtjpokifkbclkiaaDoorW.PrintWords Go.Proofs.YtjpokifkbclkiaaDoorW.PrintLast Go.Proofs.YtjpokifkbclkiaaDoorW.PrintMore
attribute [local go_sem] max2_int min2_int max_two min_two max_three min_three max_four min_four   -- for this text's walks alone
attribute [local go_sem] fieldA23_0 fieldA23_1 fieldA23_2
theorem PlaceRounds_pure (a0 : Int) (a1_0 : Bool) (a1_1 : ByteArray) (a1_2 a2 : Int) (w0 : (Lit.int .i64 a0).wf = true) (w1_1 : a1_1.size ≤ 140737488351232) (w1_2 : (Lit.int .i64 a1_2).wf = true) (w2 : (Lit.int .i64 a2).wf = true) : ∃ k, figureheadlaw08_PlaceRounds.f k a0 a1_0 a1_1 a1_2 a2 = some true := by
  refine Ev.rounds (g := fun k => figureheadlaw08_PlaceRounds.f k a0 a1_0 a1_1 a1_2 a2) ?_
  unfold figureheadlaw08_PlaceRounds.f
  refine Ev.bind (good08_ev (by omega)) ?_
  cases hg : goodP8 a1_1 a1_2 a2
  · exact evF (by decide) (Ev.bind answers08_ev (Ev.now true))
  obtain ⟨ok, hz, hp1, hp2, he1, he2⟩ := goodP8_ok hg
  refine evT rfl ?_
  have hbad : ∀ r, r = (false, (⟨#[]⟩ : ByteArray), (0 : Int), (1 : Int)) → Ev (fun k => figureheadlaw08_PlaceRounds.j0 k a0 a2 r.2.2.2 true a1_0 a1_1 a1_2 r.1 r.2.1 r.2.2.1) true := by
    rintro r rfl
    refine Ev.step (fun k => by simp only [figureheadlaw08_PlaceRounds.j0, if_true]; rfl) ?_
    exact Ev.bind answers08_ev (evT rfl (evIs (Ev.now _) (by simp [ByteArray.toList_eq])))
  by_cases h0 : a0 < 0
  · exact Ev.bind (placeRound_bad (.inl h0)) (evT h0 (hbad _ rfl))
  by_cases h7 : a0 > 7
  · refine Ev.bind (placeRound_bad (.inr h7)) (evF h0 ?_)
    rw [decide_eq_true h7]
    exact hbad _ rfl
  refine Ev.bind (placeRound_ev (by omega) (by omega) ok (by omega) (by omega)) (evF h0 ?_)
  rw [decide_eq_false h7]
  refine Ev.step (fun k => by simp only [figureheadlaw08_PlaceRounds.j0, Bool.false_eq_true, if_false]; rfl) ?_
  have v1 : vB (⟨#[49]⟩ : ByteArray) = 1 := by decide
  refine Ev.bind (Round05_ev (st := (⟨#[49]⟩ : ByteArray)) ok (by decide) (by decide) (by decide) (by omega) (by omega)) ?_
  rw [v1]
  exact Ev.bind answers08_ev (evT rfl (evT rfl (evIs (Ev.now _) (by simp))))
end Go.Proofs.YtjpokifkbclkiaaDoor.Px
end
section
namespace Go.Proofs.YtjpokifkbclkiaaDoorW.PrintWords
open Go.ChangeShapes Go.WideShapes
end Go.Proofs.YtjpokifkbclkiaaDoorW.PrintWords
end
section
namespace Fig
open Go Go.ChangeShapes
theorem one_cell {α : Type} {l : List α} {i n : Nat} (hl : l.length = n) (hi : i < n) : ∃ v, (l.drop i).take 1 = [v] ∧ l[i]? = some v := by
  refine ⟨l[i], ?_, List.getElem?_eq_getElem (by omega)⟩
  rw [List.drop_eq_getElem_cons (by omega)]; rfl
theorem func_cell {P : Program} {W : World} {name : String} {d : DataW Unit} (h : funcsAt P W name d) {g : Nat} {t e : TypeId} {n : Nat} {fld : Field} {ps rs : Array TypeId} {va : Bool}
    (hg : P.globalNamed name = some g) (hty : (P.globals[g]?).map (·.type) = some t) (ht : P.underlying t = some (.array n e)) (he : P.underlying e = some (.struct #[fld])) (hft : P.underlying fld.type = some (.func ps rs va))
    (ce : P.cellsOf e = 1) (cf : P.cellsOf fld.type = 1) (ho : fld.offset = 0) (ct : P.cellsOf t = n) {ds : List (DataW (List UInt8))} (hd : d.funcsOut = .agg ds)
    {i : Nat} (hi : i < n) {b : UInt8} {r : List UInt8} (hdi : ds[i]? = some (.agg [.held (b :: r)])) {f0 : FuncId}
    (hone : ((List.range P.funcs.size).filter fun f => (P.funcs[f]?).any (·.name.toUTF8.data.toList == b :: r)) = [f0]) : W.cell? ⟨g, i, none⟩ = some (.func (.func f0) #[] #[]) := by
  obtain ⟨g', t', cs, fuel, p, hg', ht', hv, hr⟩ := h
  obtain rfl := Option.some.inj (hg.symm.trans hg')
  obtain rfl := Option.some.inj (hty.symm.trans ht')
  obtain ⟨xs, m, _, ex, hcl, hl, hel⟩ := DataW.trod_array ht hr
  rw [hd] at ex
  have e3 : xs.map (·.1) = ds := (DataW.agg.inj (Prod.mk.inj ex).1).symm
  obtain ⟨v, hv1, hv2⟩ := one_cell (l := cs.toList) (n := n) (hcl.trans ct) hi
  have hE := hel i hi
  rw [ce, Nat.mul_one, hv1] at hE
  rw [← e3, List.getElem?_map] at hdi
  cases hx : xs[i]? with
  | none => rw [hx] at hdi; cases hdi
  | some x =>
    rw [hx] at hE hdi
    simp only [Option.map_some, Option.some.injEq] at hdi
    obtain ⟨y0, k, rfl, _, hy⟩ := trod_struct1 he hE
    rw [cf, ho, List.drop_zero] at hy
    have hy0 : y0.1 = .held (b :: r) := by simpa using hdi
    obtain ⟨y1, y2⟩ := y0
    subst hy0
    obtain rfl := func_of_trod hft hone (show DataW.trod _ P W 0 _ true k fld.type [v] = _ from hy)
    rw [World.var?_cell hg hv i]
    simpa using hv2
theorem setCells_os (g : Nat) : ∀ (l : List Value) (i : Nat) (w : World), ((l.zipIdx i).foldl (fun w x => w.setCell ⟨g, x.2, none⟩ x.1) w).os = w.os
  | [], _, _ => rfl
  | _ :: l, i, w => by rw [List.zipIdx_cons, List.foldl_cons, setCells_os g l (i + 1)]; rfl
end Fig
end
section
namespace Fig
open Go Go.Proofs Go.Proofs.YtjpokifkbclkiaaDoor
set_option maxRecDepth 100000
def plainL : List (String × DataW Unit) := [("unicode/utf8.acceptRanges", Rows.laid_unicode_utf8_acceptRanges), ("figurehead/ten.powers", Rows.laid_figurehead_ten_powers), ("unicode/utf8.first", Rows.laid_unicode_utf8_first)]
def laidL : List (String × DataW Unit) := [("figurehead/mode.ways", Rows.laid_figurehead_mode_ways), ("unicode/utf8.acceptRanges", Rows.laid_unicode_utf8_acceptRanges), ("figurehead/ten.powers", Rows.laid_figurehead_ten_powers), ("unicode/utf8.first", Rows.laid_unicode_utf8_first)]
def wayCells : List Value := [.func (.func 112) #[] #[], .func (.func 113) #[] #[], .func (.func 114) #[] #[], .func (.func 115) #[] #[], .func (.func 116) #[] #[], .func (.func 117) #[] #[], .func (.func 118) #[] #[], .func (.func 119) #[] #[]]
noncomputable def startW (os : Os) : World := (wayCells.zipIdx 0).foldl (fun w x => w.setCell ⟨1, x.2, none⟩ x.1) (World.laidAll Tryd.prog os plainL)
theorem startW_os (os : Os) : (startW os).os = os := (setCells_os _ _ _ _).trans (World.laidAll_os _ _ _)
theorem met (os : Os) (args : Array Value) : laidMetH Tryd.prog laidL ((startW os).forCall (fun _ _ => 0) ⟨#[], args, []⟩).memory :=
  laidMetH_of_parts3 (fuel := 8) (laidMet_of_run' 8 (by kernel_rfl) (by kernel_rfl)) (by kernel_rfl) (by kernel_rfl)
theorem plainFilter : (laidL.filter fun x => x.2.handleName?.isNone) = plainL := by kernel_rfl
theorem plain_of {W : World} (h : laidMetH Tryd.prog laidL W) : laidMet Tryd.prog plainL W := plainFilter ▸ (laidMetH_iff.1 h).1
theorem ways_of {W : World} (h : laidMetH Tryd.prog laidL W) : ∀ i f, ([112, 113, 114, 115, 116, 117, 118, 119] : List Nat)[i]? = some f → W.cell? ⟨1, i, none⟩ = some (.func (.func f) #[] #[]) := by
  have hF := h.funcs (n := "figurehead/mode.ways") (List.mem_cons_self)
  have gN : Tryd.prog.globalNamed "figurehead/mode.ways" = some 1 := by kernel_rfl
  have gT : (Tryd.prog.globals[1]?).map (·.type) = some 73 := by kernel_rfl
  have c1 : Tryd.prog.cellsOf 72 = 1 := by kernel_rfl
  have c2 : Tryd.prog.cellsOf 70 = 1 := by kernel_rfl
  have c3 : Tryd.prog.cellsOf 73 = 8 := by kernel_rfl
  intro i f hf
  have key : ∀ {b : UInt8} {r : List UInt8} {j : Nat} {f0 : FuncId}, j < 8 → _ → _ → W.cell? ⟨1, j, none⟩ = some (.func (.func f0) #[] #[]) := fun {b} {r} {j} {f0} hj hdi hone => func_cell (b := b) (r := r) hF gN gT Tryd.underlying73 Tryd.underlying72 Tryd.underlying70 c1 c2 rfl c3 rfl hj hdi hone
  match i, hf with
  | 0, hf => obtain rfl := Option.some.inj hf; exact key (b := 102) (r := [105, 103, 117, 114, 101, 104, 101, 97, 100, 47, 109, 111, 100, 101, 46, 119, 97, 121, 115, 36, 49]) (by decide) rfl (by kernel_rfl)
  | 1, hf => obtain rfl := Option.some.inj hf; exact key (b := 102) (r := [105, 103, 117, 114, 101, 104, 101, 97, 100, 47, 109, 111, 100, 101, 46, 119, 97, 121, 115, 36, 50]) (by decide) rfl (by kernel_rfl)
  | 2, hf => obtain rfl := Option.some.inj hf; exact key (b := 102) (r := [105, 103, 117, 114, 101, 104, 101, 97, 100, 47, 109, 111, 100, 101, 46, 119, 97, 121, 115, 36, 51]) (by decide) rfl (by kernel_rfl)
  | 3, hf => obtain rfl := Option.some.inj hf; exact key (b := 102) (r := [105, 103, 117, 114, 101, 104, 101, 97, 100, 47, 109, 111, 100, 101, 46, 119, 97, 121, 115, 36, 52]) (by decide) rfl (by kernel_rfl)
  | 4, hf => obtain rfl := Option.some.inj hf; exact key (b := 102) (r := [105, 103, 117, 114, 101, 104, 101, 97, 100, 47, 109, 111, 100, 101, 46, 119, 97, 121, 115, 36, 53]) (by decide) rfl (by kernel_rfl)
  | 5, hf => obtain rfl := Option.some.inj hf; exact key (b := 102) (r := [105, 103, 117, 114, 101, 104, 101, 97, 100, 47, 109, 111, 100, 101, 46, 119, 97, 121, 115, 36, 54]) (by decide) rfl (by kernel_rfl)
  | 6, hf => obtain rfl := Option.some.inj hf; exact key (b := 102) (r := [105, 103, 117, 114, 101, 104, 101, 97, 100, 47, 109, 111, 100, 101, 46, 119, 97, 121, 115, 36, 55]) (by decide) rfl (by kernel_rfl)
  | 7, hf => obtain rfl := Option.some.inj hf; exact key (b := 102) (r := [105, 103, 117, 114, 101, 104, 101, 97, 100, 47, 109, 111, 100, 101, 46, 119, 97, 121, 115, 36, 56]) (by decide) rfl (by kernel_rfl)
  | k + 8, hf => simp at hf
theorem pows_of {W : World} (h : laidMetH Tryd.prog laidL W) : ∀ i, i < 9 → W.cell? ⟨0, i, none⟩ = some (.int .u32 (([1, 10, 100, 1000, 10000, 100000, 1000000, 10000000, 100000000] : List Int).getD i 0)) := by
  have gN : Tryd.prog.globalNamed "figurehead/ten.powers" = some 0 := by kernel_rfl
  have gT : (Tryd.prog.globals[0]?).map (·.type) = some 69 := by kernel_rfl
  have hT := Lib.tabIs_of_head (k := .u32) (zs := [1, 10, 100, 1000, 10000, 100000, 1000000, 10000000, 100000000]) gN gT Tryd.underlying69 Tryd.underlying50 (by kernel_rfl) (by kernel_rfl) (laidMet.tail (plain_of h))
  exact fun i hi => hT.cell gN i hi
theorem of_laid {W : World} (h : laidMetH Tryd.prog laidL W) : Glob W := ⟨ways_of h, pows_of h⟩
end Fig
end
section
namespace Fig
open Go Go.ChangeShapes Go.WideShapes Go.RowKit Go.Deep Go.WideElems Go.Joins
theorem open_dec {H : Type} {enc : TypeId × Value → H} {P : Program} {w : World} {base : Nat} {spare : Nat → Bool} {held : Bool} {r : Reach} {b0 : Nat} {t : TypeId} {f0 f1 f2 : Field} {v : Value} {d : DataW H} {p : List MemPlace} {k : IntKind} (hs : P.underlying t = some (.struct #[f0, f1, f2])) (hone : oneCellFields P #[f0, f1, f2] = true) (hC : P.cellsOf t = 3)
    (u0 : P.underlying f0.type = some .bool) (u1 : P.underlying f1.type = some .string) (u2 : P.underlying f2.type = some (.int k)) (hv : Value.okWide P w r b0 t v) (h : DataW.Trod enc P w base spare held t v d p) :
    ∃ (x : Bool) (s : ByteArray) (n : Int), v = .agg #[.bool x, .string s, .int k n] ∧ d = .agg [.lit (.bool x), .lit (.string s.data.toList), .lit (.int k n)] ∧ p = [] ∧ s.size ≤ maxLen ∧ (Lit.int k n).wf = true := by
  obtain ⟨v0, v1, v2, y0, y1, y2, n, rfl, rfl, rfl, h0, h1, h2⟩ := open_agg3 hs hone hC hv h
  obtain ⟨x, e0, rfl⟩ := DataW.trod_bool u0 h0
  obtain ⟨s, e1, rfl, hl⟩ := DataW.trod_string u1 h1
  obtain ⟨m, e2, rfl, hw⟩ := DataW.trod_int u2 h2
  simp only [List.cons.injEq, and_true] at e0 e1 e2
  subst e0 e1 e2
  exact ⟨x, s, m, rfl, rfl, rfl, hl, hw⟩
theorem shut_dec {H : Type} {enc : TypeId × Value → H} {P : Program} {w : World} {base : Nat} {spare : Nat → Bool} {held : Bool} {t : TypeId} {f0 f1 f2 : Field} {k : IntKind} {x : Bool} {s : ByteArray} {n : Int} (hs : P.underlying t = some (.struct #[f0, f1, f2])) (hone : oneCellFields P #[f0, f1, f2] = true) (hC : P.cellsOf t = 3)
    (u0 : P.underlying f0.type = some .bool) (u1 : P.underlying f1.type = some .string) (u2 : P.underlying f2.type = some (.int k)) (hl : s.size ≤ maxLen) (hw : (Lit.int k n).wf = true) :
    DataW.Trod enc P w base spare held t (.agg #[.bool x, .string s, .int k n]) (.agg [.lit (.bool x), .lit (.string s.data.toList), .lit (.int k n)]) [] :=
  shut_agg3 (y0 := (.lit (.bool x), [])) (y1 := (.lit (.string s.data.toList), [])) (y2 := (.lit (.int k n), [])) hs hone hC ⟨1, by simp [DataW.trod, u0]⟩ ⟨1, by simp [DataW.trod, u1, hl]⟩ ⟨1, by simp [DataW.trod, u2, hw]⟩
theorem sized_dec {H : Type} {P : Program} {ts : List TypeId} {ds : List (DataW H)} (h : (DataW.weightsEach P ts ds).all (· ≤ reachBytes) = true) {j : Nat} {t : TypeId} {f0 f1 f2 : Field} {x y : DataW H} {bytes : List UInt8} (ht : ts[j]? = some t) (hd : ds[j]? = some (.agg [x, .lit (.string bytes), y])) (hs : P.underlying t = some (.struct #[f0, f1, f2])) : bytes.length ≤ reachBytes := by
  have := List.all_eq_true.1 h _ (DataW.weights_mem_each ht hd bytes.length (by simp [DataW.weights, DataW.weightsEach, hs]))
  simpa using this
end Fig
end
