/- The functions that the law DecOrders reaches, told as plain functions, with what is proved of them (part 2). -/
import Derived.Test.YtbjaiphfehnncaaDoorPx0
import Derived.Test.YtbjaiphfehnncaaDoorCDecOrders1
import Derived.Test.YtbjaiphfehnncaaDoorCDecOrders0
set_option linter.unusedVariables false
set_option linter.unusedSimpArgs false
namespace Go.Proofs.YtbjaiphfehnncaaDoor.Px
open Fig Go.RowKit Go.Proofs.YtbjaiphfehnncaaDoorW.PrintWords Go.Proofs.YtbjaiphfehnncaaDoorW.PrintLast Go.Proofs.YtbjaiphfehnncaaDoorW.PrintMore
attribute [local go_sem] max2_int min2_int max_two min_two max_three min_three max_four min_four   -- for this text's walks alone

attribute [local go_sem] fieldA23_0 fieldA23_1 fieldA23_2
/-! plain facts: dec_Ranged -/
theorem rangedP {b : Bool} {s : ByteArray} {e : Int} (h : OkD s e) (h2 : OkD (nD (vB s)) (nE (vB s) e)) : dec_Ranged.f b s e = some (rangedD (vB s) e) := by
  unfold dec_Ranged.f
  rw [normP h]
  simp only [Option.bind_some]
  unfold rangedD
  by_cases h0 : vB s = 0
  · rw [if_pos ((nD_toList _).2 h0)]; simp [h0]
  · rw [if_neg (fun hh => h0 ((nD_toList _).1 hh))]
    by_cases h1 : nE (vB s) e ≥ -300
    · rw [if_pos h1, topP h2, vB_nD, topD_norm]
      have h1' : -300 ≤ nE (vB s) e := h1
      simp only [Option.bind_some, h0, h1', false_or, true_and]
    · rw [if_neg h1]
      have h1' : ¬ -300 ≤ nE (vB s) e := h1
      simp [h0, h1']

end Go.Proofs.YtbjaiphfehnncaaDoor.Px

namespace Go.Proofs.YtbjaiphfehnncaaDoor.Px
open Fig Go.RowKit Go.Proofs.YtbjaiphfehnncaaDoorW.PrintWords Go.Proofs.YtbjaiphfehnncaaDoorW.PrintLast Go.Proofs.YtbjaiphfehnncaaDoorW.PrintMore
attribute [local go_sem] max2_int min2_int max_two min_two max_three min_three max_four min_four   -- for this text's walks alone

attribute [local go_sem] fieldA23_0 fieldA23_1 fieldA23_2
/-! plain facts: figureheadlaw05_answers -/
theorem okD_b {s : ByteArray} {e : Int} (h : goodD s e = true) : OkD s e := OkD.of_good h
theorem nD_is {n m k : Nat} (h : n = m * 10 ^ k) (hm : m % 10 ≠ 0) : nD n = digB m := by rw [h, nD_pow, nD_of hm]
theorem nE_is {n m k : Nat} {e : Int} (h : n = m * 10 ^ k) (hm : m % 10 ≠ 0) : nE n e = e + (k : Int) := by rw [h, nE_pow, nE_of hm]
theorem digB_is {s : ByteArray} {n : Nat} (hd : dB s = true) (hv : vB s = n) (hs : stripB s = s) : digB n = s := by rw [← hv, ← stripB_eq hd, hs]
theorem answers05_ev : Ev (fun k => figureheadlaw05_answers.f k) true := by
  have ok1 : OkD (⟨#[48, 49, 50, 48]⟩ : ByteArray) 2 := OkD.of_good (by decide)
  have ok2 : OkD (⟨#[49]⟩ : ByteArray) 0 := OkD.of_good (by decide)
  have v1 : vB (⟨#[48, 49, 50, 48]⟩ : ByteArray) = 120 := by decide
  have v2 : vB (⟨#[49]⟩ : ByteArray) = 1 := by decide
  have n1 : nD 120 = (⟨#[49, 50]⟩ : ByteArray) := by
    rw [nD_is (m := 12) (k := 1) (by decide) (by decide)]; exact digB_is (by decide) (by decide) (by decide)
  have e1 : nE 120 2 = 3 := by rw [nE_is (m := 12) (k := 1) (by decide) (by decide)]; decide
  have s1 : (digB 120).size = 3 := by
    rw [digB_is (s := (⟨#[49, 50, 48]⟩ : ByteArray)) (by decide) (by decide) (by decide)]; decide
  have t1 : topD 120 2 = 4 := by unfold topD; rw [if_neg (by decide), s1]; decide
  have ok3 : OkD (nD (vB (⟨#[48, 49, 50, 48]⟩ : ByteArray))) (nE (vB (⟨#[48, 49, 50, 48]⟩ : ByteArray)) 2) := by
    rw [v1, n1, e1]; exact OkD.of_good (by decide)
  have r1 : rangedD 120 2 = true := by unfold rangedD; rw [e1, t1]; decide
  have c1 : cmpD false 120 2 false 1 0 = 1 := by decide
  unfold figureheadlaw05_answers.f
  refine evE (normP ok1) ?_
  rw [v1, n1, e1]
  refine evT (by simp [ByteArray.toList_eq]) (evE (topP ok1) ?_)
  rw [v1, t1]
  refine evT (by decide) (evE (digitP ok1) ?_)
  rw [v1]
  refine evT (by decide) (evE (goodP (by decide)) ?_)
  refine evT (by decide) (evE (zeroP ok1) ?_)
  rw [v1]
  refine evF (by decide) (evE (rangedP ok1 ok3) ?_)
  rw [v1, r1]
  refine evT rfl (Ev.bind (cmpP ok1 ok2) ?_)
  rw [v1, v2, c1]
  exact Ev.now true

end Go.Proofs.YtbjaiphfehnncaaDoor.Px

namespace Go.Proofs.YtbjaiphfehnncaaDoor.Px
open Fig Go.RowKit Go.Proofs.YtbjaiphfehnncaaDoorW.PrintWords Go.Proofs.YtbjaiphfehnncaaDoorW.PrintLast Go.Proofs.YtbjaiphfehnncaaDoorW.PrintMore
attribute [local go_sem] max2_int min2_int max_two min_two max_three min_three max_four min_four   -- for this text's walks alone

attribute [local go_sem] fieldA23_0 fieldA23_1 fieldA23_2
/-! plain facts: figureheadref01_Zeros -/
theorem Zeros_loop (m : Nat) (hm : m ≤ 1000000) : ∀ (d n : Nat), m - n = d → n ≤ m → Ev (fun k => figureheadref01_Zeros.l0 k (m : Int) (List.replicate n 48) (n : Int)) (strOfNums (List.replicate m 48))
  | 0, n, hd, hn => by
    obtain rfl : n = m := by omega
    refine evDone (r' := strOfNums (List.replicate n 48)) (fun k => ?_) rfl
    simp only [figureheadref01_Zeros.l0]; rw [if_neg (by omega)]
  | d + 1, n, hd, hn => by
    refine Ev.step (f := fun k => figureheadref01_Zeros.l0 k (m : Int) (List.replicate (n + 1) 48) ((n + 1 : Nat) : Int)) (fun k => ?_) (Zeros_loop m hm d (n + 1) (by omega) (by omega))
    simp only [figureheadref01_Zeros.l0]
    rw [if_pos (by omega), if_pos (by rw [List.length_replicate]; omega), List.replicate_succ', w64 (by omega) (by omega)]; rfl
/-- so many noughts -/
def zerosB (m : Nat) : ByteArray := strOfNums (List.replicate m 48)
theorem Zeros_ev {m : Nat} (hm : m ≤ 1000000) : Ev (fun k => figureheadref01_Zeros.f k (m : Int)) (zerosB m) := Zeros_loop m hm m 0 (by omega) (by omega)
theorem zerosB_list (m : Nat) : (zerosB m).data.toList = List.replicate m 48 := by rw [zerosB, B_nums, List.map_replicate]; rfl
theorem zerosB_size (m : Nat) : (zerosB m).size = m := by rw [size_eq, zerosB_list, List.length_replicate]
theorem zerosB_dig (m : Nat) : dB (zerosB m) = true := by
  unfold dB digL; rw [zerosB_list, List.all_eq_true]; intro x hx; rw [List.eq_of_mem_replicate hx]; rfl
theorem zerosB_val (m : Nat) : vB (zerosB m) = 0 := by
  unfold vB; rw [zerosB_list, List.reverse_replicate]
  induction m with
  | zero => rfl
  | succ m ih => rw [List.replicate_succ, rv, ih]; rfl

end Go.Proofs.YtbjaiphfehnncaaDoor.Px

namespace Go.Proofs.YtbjaiphfehnncaaDoor.Px
open Fig Go.RowKit Go.Proofs.YtbjaiphfehnncaaDoorW.PrintWords Go.Proofs.YtbjaiphfehnncaaDoorW.PrintLast Go.Proofs.YtbjaiphfehnncaaDoorW.PrintMore
attribute [local go_sem] max2_int min2_int max_two min_two max_three min_three max_four min_four   -- for this text's walks alone

attribute [local go_sem] fieldA23_0 fieldA23_1 fieldA23_2
/-! plain facts: figureheadref05_At -/
theorem At05_ev {b : Bool} {s : ByteArray} {e x : Int} (h : OkD s e) (h1 : x ≤ e) (h2 : -100000 ≤ x) : Ev (fun k => figureheadref05_At.f k b s e x) (digB (atE (vB s) e x)) := by
  have hs := h.sz
  have hl := h.lo
  have hh := h.hi
  have hz := h.val
  unfold figureheadref05_At.f
  refine Ev.bind (StripD_ev (by omega) h.d) ?_
  by_cases h0 : vB s = 0
  · simp only [digB_toList_nil.2 h0, if_true]
    rw [h0, atE_zero, digB_zero]
    exact Ev.now _
  · have h3 : ¬ (digB (vB s)).toList = ([] : List UInt8) := fun hh => h0 (digB_toList_nil.1 hh)
    obtain ⟨m, hm⟩ : ∃ m : Nat, m = (e - x).toNat := ⟨_, rfl⟩
    have hw : wrap64 (e - x) = (m : Int) := by rw [w64 (by omega) (by omega)]; omega
    simp only [h3, if_false, hw]
    refine Ev.bind (Zeros_ev (by omega)) ?_
    have hc : (digB (vB s)).size + (zerosB m).size ≤ 9223372036854775807 := by rw [zerosB_size]; omega
    simp only [hc, if_true]
    refine evIs (Ev.now _) ?_
    apply B_ext
    rw [B_append, digB_list, digB_list, zerosB_list]
    unfold atE
    rw [digs_pow h0, ← hm]

end Go.Proofs.YtbjaiphfehnncaaDoor.Px

namespace Go.Proofs.YtbjaiphfehnncaaDoor.Px
open Fig Go.RowKit Go.Proofs.YtbjaiphfehnncaaDoorW.PrintWords Go.Proofs.YtbjaiphfehnncaaDoorW.PrintLast Go.Proofs.YtbjaiphfehnncaaDoorW.PrintMore
attribute [local go_sem] max2_int min2_int max_two min_two max_three min_three max_four min_four   -- for this text's walks alone

attribute [local go_sem] fieldA23_0 fieldA23_1 fieldA23_2
/-! plain facts: figureheadref01_Less -/
theorem Less_eq (m n : Nat) : figureheadref01_Less.f (digB m) (digB n) = some (decide (m < n)) := by
  unfold figureheadref01_Less.f
  rw [digB_size, digB_size]
  by_cases h : (digs m).length = (digs n).length
  · rw [if_pos (by omega)]
    rw [ByteArray.toList_eq, ByteArray.toList_eq, digB_list, digB_list, less_same (digs_dig m) (digs_dig n) h, digs_val, digs_val]
  · rw [if_neg (by omega)]
    congr 1
    rw [decide_eq_decide]
    constructor
    · intro h1; exact digs_len_lt (by omega)
    · intro h1
      rcases Nat.lt_or_ge (digs m).length (digs n).length with h2 | h2
      · omega
      · have := digs_len_lt (m := n) (n := m) (by omega); omega

end Go.Proofs.YtbjaiphfehnncaaDoor.Px

namespace Go.Proofs.YtbjaiphfehnncaaDoor.Px
open Fig Go.RowKit Go.Proofs.YtbjaiphfehnncaaDoorW.PrintWords Go.Proofs.YtbjaiphfehnncaaDoorW.PrintLast Go.Proofs.YtbjaiphfehnncaaDoorW.PrintMore
attribute [local go_sem] max2_int min2_int max_two min_two max_three min_three max_four min_four   -- for this text's walks alone

attribute [local go_sem] fieldA23_0 fieldA23_1 fieldA23_2
/-! plain facts: figureheadref05_Cmp -/
theorem digB_toList_inj {m n : Nat} : (digB m).toList = (digB n).toList ↔ m = n := by
  constructor
  · intro h; apply digB_inj; apply B_ext; rw [← ByteArray.toList_eq, h, ByteArray.toList_eq]
  · rintro rfl; rfl
theorem Cmp05_j1 (a b : Bool) (x y : Nat) (s t : ByteArray) (e f : Int) : Ev (fun k => figureheadref05_Cmp.j1 k (digB x) (digB y) (decide (x = 0 ∧ y = 0)) a s e b t f) (cmpZ (sg a x) (sg b y)) := by
  rw [cmpZ_signs]
  by_cases hz : x = 0 ∧ y = 0
  · rw [if_pos hz]
    refine evDone (r' := 0) (fun k => ?_) rfl
    simp [figureheadref05_Cmp.j1, hz]
  · rw [if_neg hz]
    cases a <;> cases b
    · by_cases he : x = y
      · subst he
        refine evDone (r' := 0) (fun k => ?_) (by simp [cmp_self])
        simp [figureheadref05_Cmp.j1]
      · have h1 : ¬ (digB x).toList = (digB y).toList := fun hh => he (digB_toList_inj.1 hh)
        refine evDone (r' := if x < y then -1 else 1) (fun k => ?_) ?_
        · simp only [figureheadref05_Cmp.j1, hz, decide_false, Bool.false_eq_true, if_false, bne_self_eq_false, h1, Less_eq, Option.bind_some]
          by_cases hl : x < y <;> simp [hl]
        · unfold cmpN
          by_cases hl : x < y
          · simp [hl]
          · have : y < x := by omega
            simp [hl, this]
    · refine evDone (r' := 1) (fun k => ?_) (by simp)
      simp [figureheadref05_Cmp.j1, hz]
    · refine evDone (r' := -1) (fun k => ?_) (by simp)
      simp [figureheadref05_Cmp.j1, hz]
    · by_cases he : x = y
      · subst he
        refine evDone (r' := 0) (fun k => ?_) (by simp [cmp_self])
        simp [figureheadref05_Cmp.j1]
      · have h1 : ¬ (digB x).toList = (digB y).toList := fun hh => he (digB_toList_inj.1 hh)
        refine evDone (r' := if x < y then 1 else -1) (fun k => ?_) ?_
        · simp only [figureheadref05_Cmp.j1, hz, decide_false, Bool.false_eq_true, if_false, bne_self_eq_false, h1, Less_eq, Option.bind_some]
          by_cases hl : x < y <;> simp [hl]
        · unfold cmpN
          by_cases hl : x < y
          · have : ¬ y < x := by omega
            simp [hl, this]
          · have : y < x := by omega
            simp [hl, this]
theorem Cmp05_j0 {a b : Bool} {s t : ByteArray} {e f m : Int} (h : OkD s e) (g : OkD t f) (h1 : m ≤ e) (h2 : m ≤ f) (h3 : -100000 ≤ m) : Ev (fun k => figureheadref05_Cmp.j0 k m a s e b t f) (cmpD a (vB s) e b (vB t) f) := by
  rw [cmpD_at h1 h2]
  refine Ev.step (fun k => by simp only [figureheadref05_Cmp.j0]; rfl) ?_
  refine Ev.bind (At05_ev h h1 h3) (Ev.bind (At05_ev g h2 h3) ?_)
  have := Cmp05_j1 a b (atE (vB s) e m) (atE (vB t) f m) s t e f
  by_cases hx : atE (vB s) e m = 0
  · simp only [digB_toList_nil.2 hx, if_true]
    have hy : ((digB (atE (vB t) f m)).toList == ([] : List UInt8)) = decide (atE (vB s) e m = 0 ∧ atE (vB t) f m = 0) := by
      rw [Bool.eq_iff_iff, beq_iff_eq, decide_eq_true_eq, digB_toList_nil]; simp [hx]
    rw [hy]; exact this
  · have hx2 : ¬ (digB (atE (vB s) e m)).toList = ([] : List UInt8) := fun hh => hx (digB_toList_nil.1 hh)
    simp only [hx2, if_false]
    have hy : decide (atE (vB s) e m = 0 ∧ atE (vB t) f m = 0) = false := by simp [hx]
    rw [hy] at this; exact this
theorem Cmp05_ev {a b : Bool} {s t : ByteArray} {e f : Int} (h : OkD s e) (g : OkD t f) : Ev (fun k => figureheadref05_Cmp.f k a s e b t f) (cmpD a (vB s) e b (vB t) f) := by
  unfold figureheadref05_Cmp.f
  by_cases hc : f < e
  · simp only [hc, if_true]; exact Cmp05_j0 h g (by omega) (by omega) g.lo
  · simp only [hc, if_false]; exact Cmp05_j0 h g (by omega) (by omega) h.lo

end Go.Proofs.YtbjaiphfehnncaaDoor.Px

namespace Go.Proofs.YtbjaiphfehnncaaDoor.Px
open Fig Go.RowKit Go.Proofs.YtbjaiphfehnncaaDoorW.PrintWords Go.Proofs.YtbjaiphfehnncaaDoorW.PrintLast Go.Proofs.YtbjaiphfehnncaaDoorW.PrintMore
attribute [local go_sem] max2_int min2_int max_two min_two max_three min_three max_four min_four   -- for this text's walks alone

attribute [local go_sem] fieldA23_0 fieldA23_1 fieldA23_2
/-! plain facts: figureheadlaw05_DecOrders -/
theorem DecOrders_true (a0_0 : Bool) (a0_1 : ByteArray) (a0_2 : Int) (a1_0 : Bool) (a1_1 : ByteArray) (a1_2 : Int) : Ev (fun k => figureheadlaw05_DecOrders.j0 k true a0_0 a0_1 a0_2 a1_0 a1_1 a1_2) true :=
  Ev.step (fun k => by simp only [figureheadlaw05_DecOrders.j0, if_true]) (Ev.bind answers05_ev (Ev.now true))
theorem DecOrders_pure (a0_0 : Bool) (a0_1 : ByteArray) (a0_2 : Int) (a1_0 : Bool) (a1_1 : ByteArray) (a1_2 : Int) (w0_1 : a0_1.size ≤ 140737488351232) (w0_2 : (Lit.int .i64 a0_2).wf = true) (w1_1 : a1_1.size ≤ 140737488351232) (w1_2 : (Lit.int .i64 a1_2).wf = true) : ∃ k, figureheadlaw05_DecOrders.f k a0_0 a0_1 a0_2 a1_0 a1_1 a1_2 = some true := by
  refine Ev.rounds (g := fun k => figureheadlaw05_DecOrders.f k a0_0 a0_1 a0_2 a1_0 a1_1 a1_2) ?_
  unfold figureheadlaw05_DecOrders.f
  refine Ev.bind (Good05_ev (by omega)) ?_
  cases hg : goodD a0_1 a0_2
  · exact evF (by decide) (DecOrders_true _ _ _ _ _ _)
  refine evT rfl (Ev.bind (Good05_ev (by omega)) ?_)
  cases hg2 : goodD a1_1 a1_2
  · exact DecOrders_true _ _ _ _ _ _
  have ok := OkD.of_good hg
  have ok2 := OkD.of_good hg2
  refine Ev.step (fun k => by simp only [figureheadlaw05_DecOrders.j0, Bool.not_true, Bool.false_eq_true, if_false]; rfl) ?_
  refine Ev.bind answers05_ev (evT rfl (Ev.bind (cmpP ok ok2) (Ev.bind (Cmp05_ev ok ok2) (evT rfl (Ev.bind (cmpP ok2 ok) (Ev.bind (Cmp05_ev ok ok2) ?_))))))
  have hb := cmpD_bd a0_0 (vB a0_1) a0_2 a1_0 (vB a1_1) a1_2
  rw [cmpD_swap, w64 (by omega) (by omega)]
  exact evIs (Ev.now _) (by simp)

end Go.Proofs.YtbjaiphfehnncaaDoor.Px
