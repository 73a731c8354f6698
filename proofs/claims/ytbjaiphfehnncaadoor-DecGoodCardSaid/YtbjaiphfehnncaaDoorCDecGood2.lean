/- The functions that the law DecGood reaches, told as plain functions, with what is proved of them (part 2). -/
import Derived.Test.YtbjaiphfehnncaaDoorPx0
import Derived.Test.YtbjaiphfehnncaaDoorCDecGood1
import Derived.Test.YtbjaiphfehnncaaDoorCDecGood0
set_option linter.unusedVariables false
set_option linter.unusedSimpArgs false
namespace Go.Proofs.YtbjaiphfehnncaaDoor.Px
open Fig Go.RowKit Go.Proofs.YtbjaiphfehnncaaDoorW.PrintWords Go.Proofs.YtbjaiphfehnncaaDoorW.PrintLast Go.Proofs.YtbjaiphfehnncaaDoorW.PrintMore
attribute [local go_sem] max2_int min2_int max_two min_two max_three min_three max_four min_four   -- for this text's walks alone

attribute [local go_sem] fieldA23_0 fieldA23_1 fieldA23_2
/-! plain facts: dec_Ranged -/
theorem rangedP {b : Bool} {s : ByteArray} {e : Int} (h : OkD s e) (h2 : OkD (nD (vB s)) (nE (vB s) e)) : dec_Ranged.f b s e = some (rangedD (vB s) e) := by
  unfold dec_Ranged.f
  rw [normP h]
  simp only [Option.bind_some]
  unfold rangedD
  by_cases h0 : vB s = 0
  · rw [if_pos ((nD_toList _).2 h0)]; simp [h0]
  · rw [if_neg (fun hh => h0 ((nD_toList _).1 hh))]
    by_cases h1 : nE (vB s) e ≥ -300
    · rw [if_pos h1, topP h2, vB_nD, topD_norm]
      have h1' : -300 ≤ nE (vB s) e := h1
      simp only [Option.bind_some, h0, h1', false_or, true_and]
    · rw [if_neg h1]
      have h1' : ¬ -300 ≤ nE (vB s) e := h1
      simp [h0, h1']

end Go.Proofs.YtbjaiphfehnncaaDoor.Px

namespace Go.Proofs.YtbjaiphfehnncaaDoor.Px
open Fig Go.RowKit Go.Proofs.YtbjaiphfehnncaaDoorW.PrintWords Go.Proofs.YtbjaiphfehnncaaDoorW.PrintLast Go.Proofs.YtbjaiphfehnncaaDoorW.PrintMore
attribute [local go_sem] max2_int min2_int max_two min_two max_three min_three max_four min_four   -- for this text's walks alone

attribute [local go_sem] fieldA23_0 fieldA23_1 fieldA23_2
/-! plain facts: figureheadlaw05_answers -/
theorem okD_b {s : ByteArray} {e : Int} (h : goodD s e = true) : OkD s e := OkD.of_good h
theorem nD_is {n m k : Nat} (h : n = m * 10 ^ k) (hm : m % 10 ≠ 0) : nD n = digB m := by rw [h, nD_pow, nD_of hm]
theorem nE_is {n m k : Nat} {e : Int} (h : n = m * 10 ^ k) (hm : m % 10 ≠ 0) : nE n e = e + (k : Int) := by rw [h, nE_pow, nE_of hm]
theorem digB_is {s : ByteArray} {n : Nat} (hd : dB s = true) (hv : vB s = n) (hs : stripB s = s) : digB n = s := by rw [← hv, ← stripB_eq hd, hs]
theorem answers05_ev : Ev (fun k => figureheadlaw05_answers.f k) true := by
  have ok1 : OkD (⟨#[48, 49, 50, 48]⟩ : ByteArray) 2 := OkD.of_good (by decide)
  have ok2 : OkD (⟨#[49]⟩ : ByteArray) 0 := OkD.of_good (by decide)
  have v1 : vB (⟨#[48, 49, 50, 48]⟩ : ByteArray) = 120 := by decide
  have v2 : vB (⟨#[49]⟩ : ByteArray) = 1 := by decide
  have n1 : nD 120 = (⟨#[49, 50]⟩ : ByteArray) := by
    rw [nD_is (m := 12) (k := 1) (by decide) (by decide)]; exact digB_is (by decide) (by decide) (by decide)
  have e1 : nE 120 2 = 3 := by rw [nE_is (m := 12) (k := 1) (by decide) (by decide)]; decide
  have s1 : (digB 120).size = 3 := by
    rw [digB_is (s := (⟨#[49, 50, 48]⟩ : ByteArray)) (by decide) (by decide) (by decide)]; decide
  have t1 : topD 120 2 = 4 := by unfold topD; rw [if_neg (by decide), s1]; decide
  have ok3 : OkD (nD (vB (⟨#[48, 49, 50, 48]⟩ : ByteArray))) (nE (vB (⟨#[48, 49, 50, 48]⟩ : ByteArray)) 2) := by
    rw [v1, n1, e1]; exact OkD.of_good (by decide)
  have r1 : rangedD 120 2 = true := by unfold rangedD; rw [e1, t1]; decide
  have c1 : cmpD false 120 2 false 1 0 = 1 := by decide
  unfold figureheadlaw05_answers.f
  refine evE (normP ok1) ?_
  rw [v1, n1, e1]
  refine evT (by simp [ByteArray.toList_eq]) (evE (topP ok1) ?_)
  rw [v1, t1]
  refine evT (by decide) (evE (digitP ok1) ?_)
  rw [v1]
  refine evT (by decide) (evE (goodP (by decide)) ?_)
  refine evT (by decide) (evE (zeroP ok1) ?_)
  rw [v1]
  refine evF (by decide) (evE (rangedP ok1 ok3) ?_)
  rw [v1, r1]
  refine evT rfl (Ev.bind (cmpP ok1 ok2) ?_)
  rw [v1, v2, c1]
  exact Ev.now true

end Go.Proofs.YtbjaiphfehnncaaDoor.Px

namespace Go.Proofs.YtbjaiphfehnncaaDoor.Px
open Fig Go.RowKit Go.Proofs.YtbjaiphfehnncaaDoorW.PrintWords Go.Proofs.YtbjaiphfehnncaaDoorW.PrintLast Go.Proofs.YtbjaiphfehnncaaDoorW.PrintMore
attribute [local go_sem] max2_int min2_int max_two min_two max_three min_three max_four min_four   -- for this text's walks alone

attribute [local go_sem] fieldA23_0 fieldA23_1 fieldA23_2
/-! plain facts: figureheadref05_Norm -/
theorem digB_bt {n : Nat} (h : n ≠ 0) : bt (digB n) (((digB n).size : Int) - 1) = ((48 + n % 10 : Nat) : Int) := by
  have hs := digB_ten_size h
  have hl := digB_ten_last h
  have hlt : (digB (n / 10)).size < (digB n).size := by omega
  rw [show ((digB n).size : Int) - 1 = ((digB (n / 10)).size : Int) by omega, bt_get hlt]
  have hg := List.getElem?_eq_getElem (l := (digB n).data.toList) (i := (digB (n / 10)).size) (by rw [← size_eq]; exact hlt)
  rw [hl] at hg
  rw [← Option.some.inj hg, dig_toNat]
theorem Norm05_loop (b b2 : Bool) (s2 : ByteArray) (e2 : Int) : ∀ (d n : Nat) (e : Int), n ≠ 0 → n < d → (digB n).size ≤ 1000000 → -1000000 ≤ e → e + ((digB n).size : Int) ≤ 2000000 → Ev (fun k => figureheadref05_Norm.l0 k (digB n) e b s2 e2) (b, nD n, nE n e)
  | 0, n, e, h0, hd, hz, h1, h2 => absurd hd (by omega)
  | d + 1, n, e, h0, hd, hz, h1, h2 => by
    have hs := digB_ten_size h0
    have hb := digB_bt h0
    have hw : wrap64 (((digB n).size : Int) - 1) = ((digB n).size : Int) - 1 := w64 (by omega) (by omega)
    by_cases hm : n % 10 = 0
    · have h3 : n / 10 ≠ 0 := by omega
      have h4 : n / 10 < d := by have := div10_lt h0; omega
      have e1 : nD n = nD (n / 10) := by
        conv => lhs; rw [show n = n / 10 * 10 ^ 1 by omega]
        exact nD_pow _ _
      have e2' : nE n e = nE (n / 10) (e + 1) := by
        conv => lhs; rw [show n = n / 10 * 10 ^ 1 by omega]
        exact nE_pow _ _ _
      rw [e1, e2']
      refine Ev.step (f := fun k => figureheadref05_Norm.l0 k (digB (n / 10)) (e + 1) b s2 e2) (fun k => ?_) (Norm05_loop b b2 s2 e2 d (n / 10) (e + 1) h3 h4 (by omega) (by omega) (by omega))
      simp only [figureheadref05_Norm.l0]
      rw [hw, if_pos (by omega), if_pos (by omega), hb, if_pos (by omega), if_pos (by omega), w64 (x := e + 1) (by omega) (by omega)]
      rw [show (((digB n).size : Int) - 1).toNat = (digB (n / 10)).size by omega, digB_ten_init h0]
    · rw [nD_of hm, nE_of hm]
      refine evDone (r' := (b, digB n, e)) (fun k => ?_) rfl
      simp only [figureheadref05_Norm.l0]
      rw [hw, if_pos (by omega), if_pos (by omega), hb, if_neg (by omega)]
theorem Norm05_any {b : Bool} {s : ByteArray} {e : Int} (hd : dB s = true) (hz : s.size ≤ 1000000) (h1 : -1000000 ≤ e) (h2 : e ≤ 1000000) : Ev (fun k => figureheadref05_Norm.f k b s e) (b, nD (vB s), nE (vB s) e) := by
  have hv : (digB (vB s)).size ≤ s.size := digs_size_lt (vB_lt hd)
  unfold figureheadref05_Norm.f
  refine Ev.bind (StripD_ev (by omega) hd) ?_
  by_cases h0 : vB s = 0
  · simp only [digB_toList_nil.2 h0, if_true]
    rw [h0]
    exact Ev.now _
  · have h3 : ¬ (digB (vB s)).toList = ([] : List UInt8) := fun hh => h0 (digB_toList_nil.1 hh)
    simp only [h3, if_false]
    exact Norm05_loop b b s e (vB s + 1) (vB s) e h0 (by omega) (by omega) (by omega) (by omega)
theorem Norm05_ev {b : Bool} {s : ByteArray} {e : Int} (h : OkD s e) : Ev (fun k => figureheadref05_Norm.f k b s e) (b, nD (vB s), nE (vB s) e) := by
  have h1 := h.sz
  have h2 := h.lo
  have h3 := h.hi
  exact Norm05_any h.d (by omega) (by omega) (by omega)

end Go.Proofs.YtbjaiphfehnncaaDoor.Px

namespace Go.Proofs.YtbjaiphfehnncaaDoor.Px
open Fig Go.RowKit Go.Proofs.YtbjaiphfehnncaaDoorW.PrintWords Go.Proofs.YtbjaiphfehnncaaDoorW.PrintLast Go.Proofs.YtbjaiphfehnncaaDoorW.PrintMore
attribute [local go_sem] max2_int min2_int max_two min_two max_three min_three max_four min_four   -- for this text's walks alone

attribute [local go_sem] fieldA23_0 fieldA23_1 fieldA23_2
/-! plain facts: figureheadref05_Zero -/
theorem Zero05_ev {b : Bool} {s : ByteArray} {e : Int} (h : OkD s e) : Ev (fun k => figureheadref05_Zero.f k b s e) (decide (vB s = 0)) := by
  have h1 := h.sz
  unfold figureheadref05_Zero.f
  refine Ev.bind (StripD_ev (by omega) h.d) (evIs (Ev.now _) ?_)
  rw [Bool.eq_iff_iff, beq_iff_eq, decide_eq_true_eq]; exact digB_toList_nil

end Go.Proofs.YtbjaiphfehnncaaDoor.Px

namespace Go.Proofs.YtbjaiphfehnncaaDoor.Px
open Fig Go.RowKit Go.Proofs.YtbjaiphfehnncaaDoorW.PrintWords Go.Proofs.YtbjaiphfehnncaaDoorW.PrintLast Go.Proofs.YtbjaiphfehnncaaDoorW.PrintMore
attribute [local go_sem] max2_int min2_int max_two min_two max_three min_three max_four min_four   -- for this text's walks alone

attribute [local go_sem] fieldA23_0 fieldA23_1 fieldA23_2
/-! plain facts: figureheadref01_Same -/
theorem Same_loop (a b : List Int) (hl : a.length ≤ 4611686018427387904) (he : a.length = b.length) : ∀ (d n : Nat), a.length - n = d → n ≤ a.length → Ev (fun k => figureheadref01_Same.l0 k a b (n : Int)) (decide (a.drop n = b.drop n))
  | 0, n, hd, hn => by
    refine evDone (r' := true) (fun k => ?_) ?_
    · simp only [figureheadref01_Same.l0]; rw [if_neg (by omega)]
    · rw [List.drop_of_length_le (by omega), List.drop_of_length_le (by omega)]; simp
  | d + 1, n, hd, hn => by
    have ha := rd_get (l := a) (n := n) (by omega)
    have hb := rd_get (l := b) (n := n) (by omega)
    have ca := List.drop_eq_getElem_cons (l := a) (i := n) (by omega)
    have cb := List.drop_eq_getElem_cons (l := b) (i := n) (by omega)
    by_cases h9 : rd a (n : Int) = rd b (n : Int)
    · refine Ev.step (f := fun k => figureheadref01_Same.l0 k a b ((n + 1 : Nat) : Int)) (fun k => ?_) ?_
      · simp only [figureheadref01_Same.l0]; rw [if_pos (by omega), if_pos (by omega), if_pos (by omega), if_pos h9, w64 (by omega) (by omega)]; rfl
      · have := Same_loop a b hl he d (n + 1) (by omega) (by omega)
        refine evIs this ?_
        rw [ca, cb, show a[n] = b[n] by rw [← ha, ← hb, h9]]
        simp only [List.cons.injEq, true_and]
    · refine evDone (r' := false) (fun k => ?_) ?_
      · simp only [figureheadref01_Same.l0]; rw [if_pos (by omega), if_pos (by omega), if_pos (by omega), if_neg h9]
      · rw [ca, cb]; symm; rw [decide_eq_false_iff_not]; intro e; injection e with e _
        rw [ha, hb] at h9; exact h9 e
theorem Same_ev {a b : List Int} (hl : a.length ≤ 4611686018427387904) : Ev (fun k => figureheadref01_Same.f k a b) (decide (a = b)) := by
  by_cases he : a.length = b.length
  · have := Same_loop a b hl he a.length 0 (by omega) (by omega)
    simp only [figureheadref01_Same.f, he, if_true]
    simpa using this
  · refine ⟨0, fun k _ => ?_⟩
    simp only [figureheadref01_Same.f]
    rw [if_neg (by omega)]; congr 1; symm; rw [decide_eq_false_iff_not]; rintro rfl; exact he rfl
theorem Same_self {a : List Int} (hl : a.length ≤ 4611686018427387904) : Ev (fun k => figureheadref01_Same.f k a a) true := by
  simpa using Same_ev (a := a) (b := a) hl
theorem Same_true {a b : List Int} (h : a = b) (hl : a.length ≤ 4611686018427387904) : Ev (fun k => figureheadref01_Same.f k a b) true := by subst h; exact Same_self hl

end Go.Proofs.YtbjaiphfehnncaaDoor.Px

namespace Go.Proofs.YtbjaiphfehnncaaDoor.Px
open Fig Go.RowKit Go.Proofs.YtbjaiphfehnncaaDoorW.PrintWords Go.Proofs.YtbjaiphfehnncaaDoorW.PrintLast Go.Proofs.YtbjaiphfehnncaaDoorW.PrintMore
attribute [local go_sem] max2_int min2_int max_two min_two max_three min_three max_four min_four   -- for this text's walks alone

attribute [local go_sem] fieldA23_0 fieldA23_1 fieldA23_2
/-! plain facts: figureheadref01_Number -/
theorem Number_in (s : ByteArray) (hd : dB s = true) (hs : s.size ≤ 1000000000000) (out : List Int) (ho : out.length ≤ 1000000000000) (fr : Nat) (hf : fr ≤ s.size) (r : List Int) : ∀ (d i x : Nat), s.size - i = d → fr ≤ i → i ≤ s.size → s.size - fr ≤ 9 → x < 10 ^ (i - fr) →
    Ev (fun k => figureheadref01_Number.l0 k (s.extract 0 fr) (out ++ [((x * 10 ^ d + rv (s.data.toList.drop i).reverse : Nat) : Int)])) r → Ev (fun k => figureheadref01_Number.l1 k s out (fr : Int) (x : Int) (i : Int)) r
  | 0, i, x, h1, h2, h3, h4, h5, h => by
    refine Ev.step (fun k => ?_) h
    have e : s.data.toList.drop i = [] := List.drop_of_length_le (by rw [← size_eq]; omega)
    simp only [figureheadref01_Number.l1]; rw [if_neg (by omega), if_pos (by omega), if_pos (by omega), if_pos (by omega), e]; simp [rv]
  | d + 1, i, x, h1, h2, h3, h4, h5, h => by
    have hlt : i < s.size := by omega
    have hb := bt_get hlt
    have hc := List.drop_eq_getElem_cons (l := s.data.toList) (i := i) (by rw [← size_eq]; exact hlt)
    have hdig := isD_iff.1 (digL_iff.1 hd _ (List.getElem_mem (l := s.data.toList) (n := i) (by rw [← size_eq]; exact hlt)))
    generalize hcc : s.data.toList[i]'(by rw [← size_eq]; exact hlt) = c at *
    have p1 : 10 ^ (i - fr) ≤ 10 ^ 8 := Nat.pow_le_pow_right (by omega) (by omega)
    have p8 : (10 : Nat) ^ 8 = 100000000 := rfl
    have p2 : 10 ^ (i + 1 - fr) = 10 ^ (i - fr) * 10 := by rw [show i + 1 - fr = (i - fr) + 1 by omega, Nat.pow_succ]
    refine Ev.step (f := fun k => figureheadref01_Number.l1 k s out (fr : Int) ((x * 10 + (c.toNat - 48) : Nat) : Int) ((i + 1 : Nat) : Int)) (fun k => ?_) (Number_in s hd hs out ho fr hf r d (i + 1) (x * 10 + (c.toNat - 48)) (by omega) (by omega) (by omega) h4 (by omega) ?_)
    · simp only [figureheadref01_Number.l1]; rw [if_pos (by omega), if_pos (by omega), hb, w64 (by omega) (by omega)]
      congr 1; omega
    · refine evIs h rfl |> fun h => ?_
      have e : x * 10 ^ (d + 1) + rv (s.data.toList.drop i).reverse = (x * 10 + (c.toNat - 48)) * 10 ^ d + rv (s.data.toList.drop (i + 1)).reverse := by
        have hl : (s.data.toList.drop (i + 1)).length = d := by rw [List.length_drop, ← size_eq]; omega
        rw [hc, List.reverse_cons, rv_append, List.length_reverse, hl]
        simp only [rv, Nat.mul_zero, Nat.add_zero]
        rw [Nat.pow_succ, Nat.add_mul, Nat.mul_comm (c.toNat - 48), Nat.mul_comm (10 ^ d) 10, ← Nat.mul_assoc]; omega
      rw [← e]; exact h
theorem vB_nonzero {s : ByteArray} (hd : dB s = true) (hh : s.data.toList.head? ≠ some 48) (hs : 0 < s.size) : vB s ≠ 0 := by
  intro h
  have := rv_zero (l := s.data.toList.reverse) (by rw [digL_reverse]; exact hd) (canonR_of_head hh) h
  rw [List.reverse_eq_nil_iff] at this
  rw [size_eq, this] at hs; simp at hs
theorem Number_loop : ∀ (z : Nat) (s : ByteArray) (out : List Int), s.size = z → dB s = true → s.data.toList.head? ≠ some 48 → s.size ≤ 1000000000000 → out.length + s.size ≤ 1000000000000 → Ev (fun k => figureheadref01_Number.l0 k s out) (out ++ limbs (vB s)) := by
  intro z
  induction z using Nat.strongRecOn with
  | _ z ih =>
  intro s out hz hd hh hs ho
  by_cases h0 : s.size = 0
  · refine evDone (r' := out) (fun k => ?_) ?_
    · simp only [figureheadref01_Number.l0]; rw [if_neg (by omega)]
    · have : s.data.toList = [] := List.eq_nil_of_length_eq_zero (by rw [← size_eq]; exact h0)
      unfold vB; rw [this]; simp [rv, limbs_zero]
  · obtain ⟨fr, hfr⟩ : ∃ fr : Nat, fr = s.size - 9 := ⟨_, rfl⟩
    have em : mx 0 (wrap64 ((s.size : Int) - 9)) = (fr : Int) := by rw [w64 (by omega) (by omega)]; unfold mx; split <;> omega
    refine Ev.step (f := fun k => figureheadref01_Number.l1 k s out (fr : Int) ((0 : Nat) : Int) (fr : Int)) (fun k => ?_) (Number_in s hd hs out (by omega) fr (by omega) _ (s.size - fr) fr 0 rfl (by omega) (by omega) (by omega) (by simp) ?_)
    · simp only [figureheadref01_Number.l0]; rw [if_pos (by omega), em]; rfl
    · have e1 : (s.extract 0 fr).data.toList = s.data.toList.take fr := B_to s fr
      have e2 : (s.extract 0 fr).size = fr := by rw [size_eq, e1, List.length_take, ← size_eq]; omega
      have hd2 : dB (s.extract 0 fr) = true := by unfold dB; rw [e1]; exact digL_take hd _
      have hv : vB s = rv (s.data.toList.drop fr).reverse + 10 ^ (s.size - fr) * vB (s.extract 0 fr) := by
        unfold vB; rw [e1]
        conv => lhs; rw [← List.take_append_drop fr s.data.toList, List.reverse_append, rv_append]
        rw [List.length_reverse, List.length_drop, ← size_eq]
      have hx : rv (s.data.toList.drop fr).reverse < 10 ^ (s.size - fr) := by
        have := rv_lt (l := (s.data.toList.drop fr).reverse) (by rw [digL_reverse]; exact digL_drop hd _)
        rwa [List.length_reverse, List.length_drop, ← size_eq] at this
      have hp : 10 ^ (s.size - fr) ≤ 10 ^ 9 := Nat.pow_le_pow_right (by omega) (by omega)
      have p9 : (10 : Nat) ^ 9 = 1000000000 := rfl
      generalize hxx : rv (s.data.toList.drop fr).reverse = x at *
      rw [Nat.zero_mul, Nat.zero_add]
      have hne : vB s ≠ 0 := vB_nonzero hd hh (by omega)
      have hh2 : (s.extract 0 fr).data.toList.head? ≠ some 48 := by
        rw [e1]
        rcases hfz : fr with _ | f
        · simp
        · rcases hll : s.data.toList with _ | ⟨c, l⟩
          · simp
          · rw [hll] at hh; simpa using hh
      refine evIs (ih fr (by omega) (s.extract 0 fr) (out ++ [(x : Int)]) e2 hd2 hh2 (by omega) (by rw [List.length_append, e2]; simp; omega)) ?_
      rw [List.append_assoc, List.singleton_append]
      congr 1
      rw [hv]
      by_cases hf0 : fr = 0
      · have hz0 : vB (s.extract 0 fr) = 0 := by
          have : (s.extract 0 fr).data.toList = [] := List.eq_nil_of_length_eq_zero (by rw [← size_eq]; omega)
          unfold vB; rw [this]; rfl
        rw [hz0] at hv ⊢
        have := limbs_cons (x := (x : Int)) ⟨by omega, by omega⟩ 0 (.inr (by omega))
        rw [this]; congr 1
      · have := limbs_cons (x := (x : Int)) ⟨by omega, by omega⟩ (vB (s.extract 0 fr)) (.inl (vB_nonzero hd2 hh2 (by omega)))
        rw [this, show s.size - fr = 9 by omega, p9]; congr 1
theorem Number_ev {s : ByteArray} (hd : dB s = true) (hs : s.size ≤ 1000000000000) : Ev (fun k => figureheadref01_Number.f k s) (limbs (vB s)) := by
  refine Ev.bind (StripD_ev (by omega) hd) ?_
  have hz : (digB (vB s)).size ≤ s.size := by rw [← stripB_eq hd, size_eq, size_eq]; exact stripL_len _
  refine evIs (Number_loop _ (digB (vB s)) [] rfl (dB_digB _) (digs_head _) (by omega) (by simpa using (by omega))) ?_
  rw [vB_digB]; rfl

end Go.Proofs.YtbjaiphfehnncaaDoor.Px

namespace Go.Proofs.YtbjaiphfehnncaaDoor.Px
open Fig Go.RowKit Go.Proofs.YtbjaiphfehnncaaDoorW.PrintWords Go.Proofs.YtbjaiphfehnncaaDoorW.PrintLast Go.Proofs.YtbjaiphfehnncaaDoorW.PrintMore
attribute [local go_sem] max2_int min2_int max_two min_two max_three min_three max_four min_four   -- for this text's walks alone

attribute [local go_sem] fieldA23_0 fieldA23_1 fieldA23_2
/-! plain facts: figureheadlaw05_DecGood -/
theorem DecGood_pure (a0_0 : Bool) (a0_1 : ByteArray) (a0_2 : Int) (w0_1 : a0_1.size ≤ 140737488351232) (w0_2 : (Lit.int .i64 a0_2).wf = true) : ∃ k, figureheadlaw05_DecGood.f k a0_0 a0_1 a0_2 = some true := by
  refine Ev.rounds (g := fun k => figureheadlaw05_DecGood.f k a0_0 a0_1 a0_2) ?_
  unfold figureheadlaw05_DecGood.f
  refine Ev.bind (Good05_ev (by omega)) ?_
  cases hg : goodD a0_1 a0_2
  · refine evF (by decide) (Ev.bind answers05_ev (evT rfl (evE (goodP w0_1) ?_)))
    rw [hg]; exact Ev.now true
  · have ok := OkD.of_good hg
    have hs := ok.sz
    refine evT rfl (Ev.bind answers05_ev (evT rfl (evE (goodP w0_1) (evT hg (evE (normP ok) (Ev.bind (Norm05_ev ok) (evT (by simp) (evE (zeroP ok) (Ev.bind (Zero05_ev ok) (evT (by simp) (evE (coefP ok) (Ev.bind (Number_ev ok.d (by omega)) ?_))))))))))))
    have := coef_len ok
    exact Ev.bind (Same_self (by omega)) (Ev.now true)

end Go.Proofs.YtbjaiphfehnncaaDoor.Px
