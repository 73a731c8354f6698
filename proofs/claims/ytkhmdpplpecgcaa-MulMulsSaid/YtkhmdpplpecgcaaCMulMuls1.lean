/- The functions that the law MulMuls reaches, told as plain functions, with what is proved of them (part 1). -/
import Derived.Test.YtkhmdpplpecgcaaPx0
import Derived.Test.YtkhmdpplpecgcaaCMulMuls0
namespace Go.Proofs.Ytkhmdpplpecgcaa.Px
open Fig Go.RowKit Go.Proofs.YtkhmdpplpecgcaaW.PrintWords Go.Proofs.YtkhmdpplpecgcaaW.PrintLast Go.Proofs.YtkhmdpplpecgcaaW.PrintMore
attribute [local go_sem] max2_int min2_int max_two min_two max_three min_three max_four min_four   -- for this text's walks alone

/-! plain facts: figureheadref01_Same -/
theorem Same_loop (a b : List Int) (hl : a.length ≤ 4611686018427387904) (he : a.length = b.length) : ∀ (d n : Nat), a.length - n = d → n ≤ a.length → Ev (fun k => figureheadref01_Same.l0 k a b (n : Int)) (decide (a.drop n = b.drop n))
  | 0, n, hd, hn => by
    refine evDone (r' := true) (fun k => ?_) ?_
    · simp only [figureheadref01_Same.l0]; rw [if_neg (by omega)]
    · rw [List.drop_of_length_le (by omega), List.drop_of_length_le (by omega)]; simp
  | d + 1, n, hd, hn => by
    have ha := rd_get (l := a) (n := n) (by omega)
    have hb := rd_get (l := b) (n := n) (by omega)
    have ca := List.drop_eq_getElem_cons (l := a) (i := n) (by omega)
    have cb := List.drop_eq_getElem_cons (l := b) (i := n) (by omega)
    by_cases h9 : rd a (n : Int) = rd b (n : Int)
    · refine Ev.step (f := fun k => figureheadref01_Same.l0 k a b ((n + 1 : Nat) : Int)) (fun k => ?_) ?_
      · simp only [figureheadref01_Same.l0]; rw [if_pos (by omega), if_pos (by omega), if_pos (by omega), if_pos h9, w64 (by omega) (by omega)]; rfl
      · have := Same_loop a b hl he d (n + 1) (by omega) (by omega)
        refine evIs this ?_
        rw [ca, cb, show a[n] = b[n] by rw [← ha, ← hb, h9]]
        simp only [List.cons.injEq, true_and]
    · refine evDone (r' := false) (fun k => ?_) ?_
      · simp only [figureheadref01_Same.l0]; rw [if_pos (by omega), if_pos (by omega), if_pos (by omega), if_neg h9]
      · rw [ca, cb]; symm; rw [decide_eq_false_iff_not]; intro e; injection e with e _
        rw [ha, hb] at h9; exact h9 e
theorem Same_ev {a b : List Int} (hl : a.length ≤ 4611686018427387904) : Ev (fun k => figureheadref01_Same.f k a b) (decide (a = b)) := by
  by_cases he : a.length = b.length
  · have := Same_loop a b hl he a.length 0 (by omega) (by omega)
    simp only [figureheadref01_Same.f, he, if_true]
    simpa using this
  · refine ⟨0, fun k _ => ?_⟩
    simp only [figureheadref01_Same.f]
    rw [if_neg (by omega)]; congr 1; symm; rw [decide_eq_false_iff_not]; rintro rfl; exact he rfl
theorem Same_self {a : List Int} (hl : a.length ≤ 4611686018427387904) : Ev (fun k => figureheadref01_Same.f k a a) true := by
  simpa using Same_ev (a := a) (b := a) hl

end Go.Proofs.Ytkhmdpplpecgcaa.Px

namespace Go.Proofs.Ytkhmdpplpecgcaa.Px
open Fig Go.RowKit Go.Proofs.YtkhmdpplpecgcaaW.PrintWords Go.Proofs.YtkhmdpplpecgcaaW.PrintLast Go.Proofs.YtkhmdpplpecgcaaW.PrintMore
attribute [local go_sem] max2_int min2_int max_two min_two max_three min_three max_four min_four   -- for this text's walks alone

/-! plain facts: figureheadref01_Number -/
theorem Number_in (s : ByteArray) (hd : dB s = true) (hs : s.size ≤ 1000000000000) (out : List Int) (ho : out.length ≤ 1000000000000) (fr : Nat) (hf : fr ≤ s.size) (r : List Int) : ∀ (d i x : Nat), s.size - i = d → fr ≤ i → i ≤ s.size → s.size - fr ≤ 9 → x < 10 ^ (i - fr) →
    Ev (fun k => figureheadref01_Number.l0 k (s.extract 0 fr) (out ++ [((x * 10 ^ d + rv (s.data.toList.drop i).reverse : Nat) : Int)])) r → Ev (fun k => figureheadref01_Number.l1 k s out (fr : Int) (x : Int) (i : Int)) r
  | 0, i, x, h1, h2, h3, h4, h5, h => by
    refine Ev.step (fun k => ?_) h
    have e : s.data.toList.drop i = [] := List.drop_of_length_le (by rw [← size_eq]; omega)
    simp only [figureheadref01_Number.l1]; rw [if_neg (by omega), if_pos (by omega), if_pos (by omega), if_pos (by omega), e]; simp [rv]
  | d + 1, i, x, h1, h2, h3, h4, h5, h => by
    have hlt : i < s.size := by omega
    have hb := bt_get hlt
    have hc := List.drop_eq_getElem_cons (l := s.data.toList) (i := i) (by rw [← size_eq]; exact hlt)
    have hdig := isD_iff.1 (digL_iff.1 hd _ (List.getElem_mem (l := s.data.toList) (n := i) (by rw [← size_eq]; exact hlt)))
    generalize hcc : s.data.toList[i]'(by rw [← size_eq]; exact hlt) = c at *
    have p1 : 10 ^ (i - fr) ≤ 10 ^ 8 := Nat.pow_le_pow_right (by omega) (by omega)
    have p8 : (10 : Nat) ^ 8 = 100000000 := rfl
    have p2 : 10 ^ (i + 1 - fr) = 10 ^ (i - fr) * 10 := by rw [show i + 1 - fr = (i - fr) + 1 by omega, Nat.pow_succ]
    refine Ev.step (f := fun k => figureheadref01_Number.l1 k s out (fr : Int) ((x * 10 + (c.toNat - 48) : Nat) : Int) ((i + 1 : Nat) : Int)) (fun k => ?_) (Number_in s hd hs out ho fr hf r d (i + 1) (x * 10 + (c.toNat - 48)) (by omega) (by omega) (by omega) h4 (by omega) ?_)
    · simp only [figureheadref01_Number.l1]; rw [if_pos (by omega), if_pos (by omega), hb, w64 (by omega) (by omega)]
      congr 1; omega
    · refine evIs h rfl |> fun h => ?_
      have e : x * 10 ^ (d + 1) + rv (s.data.toList.drop i).reverse = (x * 10 + (c.toNat - 48)) * 10 ^ d + rv (s.data.toList.drop (i + 1)).reverse := by
        have hl : (s.data.toList.drop (i + 1)).length = d := by rw [List.length_drop, ← size_eq]; omega
        rw [hc, List.reverse_cons, rv_append, List.length_reverse, hl]
        simp only [rv, Nat.mul_zero, Nat.add_zero]
        rw [Nat.pow_succ, Nat.add_mul, Nat.mul_comm (c.toNat - 48), Nat.mul_comm (10 ^ d) 10, ← Nat.mul_assoc]; omega
      rw [← e]; exact h
theorem vB_nonzero {s : ByteArray} (hd : dB s = true) (hh : s.data.toList.head? ≠ some 48) (hs : 0 < s.size) : vB s ≠ 0 := by
  intro h
  have := rv_zero (l := s.data.toList.reverse) (by rw [digL_reverse]; exact hd) (canonR_of_head hh) h
  rw [List.reverse_eq_nil_iff] at this
  rw [size_eq, this] at hs; simp at hs
theorem Number_loop : ∀ (z : Nat) (s : ByteArray) (out : List Int), s.size = z → dB s = true → s.data.toList.head? ≠ some 48 → s.size ≤ 1000000000000 → out.length + s.size ≤ 1000000000000 → Ev (fun k => figureheadref01_Number.l0 k s out) (out ++ limbs (vB s)) := by
  intro z
  induction z using Nat.strongRecOn with
  | _ z ih =>
  intro s out hz hd hh hs ho
  by_cases h0 : s.size = 0
  · refine evDone (r' := out) (fun k => ?_) ?_
    · simp only [figureheadref01_Number.l0]; rw [if_neg (by omega)]
    · have : s.data.toList = [] := List.eq_nil_of_length_eq_zero (by rw [← size_eq]; exact h0)
      unfold vB; rw [this]; simp [rv, limbs_zero]
  · obtain ⟨fr, hfr⟩ : ∃ fr : Nat, fr = s.size - 9 := ⟨_, rfl⟩
    have em : mx 0 (wrap64 ((s.size : Int) - 9)) = (fr : Int) := by rw [w64 (by omega) (by omega)]; unfold mx; split <;> omega
    refine Ev.step (f := fun k => figureheadref01_Number.l1 k s out (fr : Int) ((0 : Nat) : Int) (fr : Int)) (fun k => ?_) (Number_in s hd hs out (by omega) fr (by omega) _ (s.size - fr) fr 0 rfl (by omega) (by omega) (by omega) (by simp) ?_)
    · simp only [figureheadref01_Number.l0]; rw [if_pos (by omega), em]; rfl
    · have e1 : (s.extract 0 fr).data.toList = s.data.toList.take fr := B_to s fr
      have e2 : (s.extract 0 fr).size = fr := by rw [size_eq, e1, List.length_take, ← size_eq]; omega
      have hd2 : dB (s.extract 0 fr) = true := by unfold dB; rw [e1]; exact digL_take hd _
      have hv : vB s = rv (s.data.toList.drop fr).reverse + 10 ^ (s.size - fr) * vB (s.extract 0 fr) := by
        unfold vB; rw [e1]
        conv => lhs; rw [← List.take_append_drop fr s.data.toList, List.reverse_append, rv_append]
        rw [List.length_reverse, List.length_drop, ← size_eq]
      have hx : rv (s.data.toList.drop fr).reverse < 10 ^ (s.size - fr) := by
        have := rv_lt (l := (s.data.toList.drop fr).reverse) (by rw [digL_reverse]; exact digL_drop hd _)
        rwa [List.length_reverse, List.length_drop, ← size_eq] at this
      have hp : 10 ^ (s.size - fr) ≤ 10 ^ 9 := Nat.pow_le_pow_right (by omega) (by omega)
      have p9 : (10 : Nat) ^ 9 = 1000000000 := rfl
      generalize hxx : rv (s.data.toList.drop fr).reverse = x at *
      rw [Nat.zero_mul, Nat.zero_add]
      have hne : vB s ≠ 0 := vB_nonzero hd hh (by omega)
      have hh2 : (s.extract 0 fr).data.toList.head? ≠ some 48 := by
        rw [e1]
        rcases hfz : fr with _ | f
        · simp
        · rcases hll : s.data.toList with _ | ⟨c, l⟩
          · simp
          · rw [hll] at hh; simpa using hh
      refine evIs (ih fr (by omega) (s.extract 0 fr) (out ++ [(x : Int)]) e2 hd2 hh2 (by omega) (by rw [List.length_append, e2]; simp; omega)) ?_
      rw [List.append_assoc, List.singleton_append]
      congr 1
      rw [hv]
      by_cases hf0 : fr = 0
      · have hz0 : vB (s.extract 0 fr) = 0 := by
          have : (s.extract 0 fr).data.toList = [] := List.eq_nil_of_length_eq_zero (by rw [← size_eq]; omega)
          unfold vB; rw [this]; rfl
        rw [hz0] at hv ⊢
        have := limbs_cons (x := (x : Int)) ⟨by omega, by omega⟩ 0 (.inr (by omega))
        rw [this]; congr 1
      · have := limbs_cons (x := (x : Int)) ⟨by omega, by omega⟩ (vB (s.extract 0 fr)) (.inl (vB_nonzero hd2 hh2 (by omega)))
        rw [this, show s.size - fr = 9 by omega, p9]; congr 1
theorem Number_ev {s : ByteArray} (hd : dB s = true) (hs : s.size ≤ 1000000000000) : Ev (fun k => figureheadref01_Number.f k s) (limbs (vB s)) := by
  refine Ev.bind (StripD_ev (by omega) hd) ?_
  have hz : (digB (vB s)).size ≤ s.size := by rw [← stripB_eq hd, size_eq, size_eq]; exact stripL_len _
  refine evIs (Number_loop _ (digB (vB s)) [] rfl (dB_digB _) (digs_head _) (by omega) (by simpa using (by omega))) ?_
  rw [vB_digB]; rfl

end Go.Proofs.Ytkhmdpplpecgcaa.Px

namespace Go.Proofs.Ytkhmdpplpecgcaa.Px
open Fig Go.RowKit Go.Proofs.YtkhmdpplpecgcaaW.PrintWords Go.Proofs.YtkhmdpplpecgcaaW.PrintLast Go.Proofs.YtkhmdpplpecgcaaW.PrintMore
attribute [local go_sem] max2_int min2_int max_two min_two max_three min_three max_four min_four   -- for this text's walks alone

/-! plain facts: figureheadref01_Text -/
theorem pow_split (n m : Nat) : 10 ^ (n + m) = 10 ^ n * 10 ^ m := Nat.pow_add 10 n m
theorem one_char {c : Nat} (h : c ≤ 9) : dB (strOfNums [((48 : Int) + (c : Int)) % 4294967296 % 256]) = true ∧ vB (strOfNums [((48 : Int) + (c : Int)) % 4294967296 % 256]) = c ∧ (strOfNums [((48 : Int) + (c : Int)) % 4294967296 % 256]).size = 1 := by
  have e : ((48 : Int) + (c : Int)) % 4294967296 % 256 = ((48 + c : Nat) : Int) := by omega
  have e2 : (UInt8.ofNat (48 + c)).toNat = 48 + c := by rw [UInt8.toNat_ofNat']; omega
  rw [e]
  refine ⟨?_, ?_, ?_⟩
  · unfold dB; rw [B_nums]; simp only [List.map_cons, List.map_nil, Int.toNat_natCast]; rw [digL_cons, isD_iff, e2]; exact ⟨by omega, rfl⟩
  · unfold vB; rw [B_nums]; simp only [List.map_cons, List.map_nil, Int.toNat_natCast, List.reverse_singleton, rv, e2]; omega
  · rw [strOfNums_size]; rfl
theorem Text_in (l : List Int) (i : Nat) (hi : i < 4611686018427387904) (r : ByteArray) : ∀ (m : Nat) (s : ByteArray) (v : Nat), m ≤ 9 → v < 4294967296 → dB s = true → s.size + m ≤ 4611686018427387904 →
    (∀ s', dB s' = true → vB s' = vB s + 10 ^ s.size * (v % 10 ^ m) → s'.size = s.size + m → Ev (fun k => figureheadref01_Text.l0 k l s' ((i + 1 : Nat) : Int)) r) →
    Ev (fun k => figureheadref01_Text.l1 k l s (i : Int) (v : Int) ((9 - m : Nat) : Int)) r
  | 0, s, v, hm, hv, hd, hs, h => by
    refine Ev.step (f := fun k => figureheadref01_Text.l0 k l s ((i + 1 : Nat) : Int)) (fun k => ?_) (h s hd (by simp [Nat.mod_one]) rfl)
    simp only [figureheadref01_Text.l1]; rw [if_neg (by omega), w64 (by omega) (by omega)]; rfl
  | m + 1, s, v, hm, hv, hd, hs, h => by
    obtain ⟨c1, c2, c3⟩ := one_char (c := v % 10) (by omega)
    have et : Int.tmod (v : Int) 10 = ((v % 10 : Nat) : Int) := by rw [Int.tmod_eq_emod_of_nonneg (by omega)]; omega
    have ed : (Int.tdiv (v : Int) 10) % 4294967296 = ((v / 10 : Nat) : Int) := by rw [Int.tdiv_eq_ediv_of_nonneg (by omega)]; omega
    refine Ev.step (f := fun k => figureheadref01_Text.l1 k l (strOfNums [((48 : Int) + ((v % 10 : Nat) : Int)) % 4294967296 % 256] ++ s) (i : Int) ((v / 10 : Nat) : Int) ((9 - m : Nat) : Int)) (fun k => ?_) (Text_in l i hi r m _ (v / 10) (by omega) (by omega) (dB_append.2 ⟨c1, hd⟩) (by rw [ByteArray.size_append]; omega) ?_)
    · simp only [figureheadref01_Text.l1, Option.bind_some]; rw [if_pos (by omega), et, ed, if_pos (by omega), w64 (by omega) (by omega)]
      congr 1; omega
    · intro s' d' v' z'
      rw [ByteArray.size_append, c3] at z' v'
      refine h s' d' ?_ (by omega)
      rw [v', vB_append, c2]
      have e3 : v % 10 ^ (m + 1) = v % 10 + 10 * (v / 10 % 10 ^ m) := by rw [Nat.pow_succ, Nat.mul_comm (10 ^ m) 10, Nat.mod_mul]
      rw [e3, Nat.mul_add, Nat.add_comm 1 s.size, Nat.pow_succ, Nat.mul_comm (v % 10), ← Nat.mul_assoc]; omega
theorem Text_loop (l : List Int) (hg : goodL l = true) (hl : l.length ≤ 1000000000000) : ∀ (d n : Nat) (s : ByteArray), l.length - n = d → n ≤ l.length → dB s = true → s.size = 9 * n →
    Ev (fun k => figureheadref01_Text.l0 k l s (n : Int)) (digB (vB s + 10 ^ s.size * valL (l.drop n)))
  | 0, n, s, hd, hn, hs, hz => by
    refine Ev.step (f := fun k => (figureheadref01_Strip.f k s).bind fun t => some t) (fun k => ?_) (Ev.bind (StripD_ev (by omega) hs) ?_)
    · simp only [figureheadref01_Text.l0]; rw [if_neg (by omega)]
    · rw [List.drop_of_length_le (by omega)]; simpa [valL] using Ev.now _
  | d + 1, n, s, hd, hn, hs, hz => by
    have hlt : n < l.length := by omega
    have hb := rd_get hlt
    have hc := List.drop_eq_getElem_cons hlt
    have hp := goodL_iff.1 hg _ (List.getElem_mem hlt)
    refine Ev.step (f := fun k => figureheadref01_Text.l1 k l s (n : Int) ((l[n].toNat : Nat) : Int) ((9 - 9 : Nat) : Int)) (fun k => ?_) (Text_in l n (by omega) _ 9 s l[n].toNat (by omega) (by omega) hs (by omega) ?_)
    · simp only [figureheadref01_Text.l0]; rw [if_pos (by omega), if_pos (by omega), hb, Int.toNat_of_nonneg hp.1]; rfl
    · intro s' d' v' z'
      refine evIs (Text_loop l hg hl d (n + 1) s' (by omega) (by omega) d' (by omega)) ?_
      rw [v', z', hc]
      simp only [valL]
      rw [Nat.mod_eq_of_lt (by omega), pow_split, Nat.mul_add, Nat.mul_assoc]
      congr 1; rw [show (10 : Nat) ^ 9 = 1000000000 from rfl]; omega
theorem Text_ev {l : List Int} (hg : goodL l = true) (hl : l.length ≤ 1000000000000) : Ev (fun k => figureheadref01_Text.f k l) (digB (valL l)) := by
  have := Text_loop l hg hl l.length 0 (⟨#[]⟩ : ByteArray) (by omega) (by omega) rfl rfl
  refine evIs this ?_
  congr 1
  show rv [] + 10 ^ 0 * valL l = valL l
  simp [rv]

end Go.Proofs.Ytkhmdpplpecgcaa.Px

namespace Go.Proofs.Ytkhmdpplpecgcaa.Px
open Fig Go.RowKit Go.Proofs.YtkhmdpplpecgcaaW.PrintWords Go.Proofs.YtkhmdpplpecgcaaW.PrintLast Go.Proofs.YtkhmdpplpecgcaaW.PrintMore
attribute [local go_sem] max2_int min2_int max_two min_two max_three min_three max_four min_four   -- for this text's walks alone

/-! plain facts: figureheadlaw02_MulMuls -/
theorem MulMuls_pure (l0 l1 : List Int) (m0 : l0.length * 4 ≤ 140737488351232) (w0 : ∀ x ∈ l0, (Lit.int .u32 x).wf = true) (m1 : l1.length * 4 ≤ 140737488351232) (w1 : ∀ x ∈ l1, (Lit.int .u32 x).wf = true) : ∃ k, figureheadlaw02_MulMuls.f k l0 l1 = some true := by
  have n0 := fun x hx => wf_u32 (w0 x hx)
  have n1 := fun x hx => wf_u32 (w1 x hx)
  refine Ev.rounds (g := fun k => figureheadlaw02_MulMuls.f k l0 l1) ?_
  unfold figureheadlaw02_MulMuls.f
  refine Ev.bind (good02_ev (ls := [l0, l1]) (by simp) (by simp; omega) (by simp; exact ⟨fun x hx => (n0 x hx).1, fun x hx => (n1 x hx).1⟩)) ?_
  cases hg : [l0, l1].all fun l => decide (l.length ≤ 30) && goodL l
  · simp only [Bool.false_eq_true, if_false]
    exact Ev.bind answers02_ev (Ev.now true)
  · obtain ⟨⟨h30, g0⟩, h31, g1⟩ : (l0.length ≤ 30 ∧ goodL l0 = true) ∧ l1.length ≤ 30 ∧ goodL l1 = true := by simpa using hg
    simp only [if_true]
    refine Ev.bind answers02_ev ?_
    simp only [if_true]
    refine Ev.bind (Mul_ev g0 g1 (by omega) (by omega)) (Ev.bind (Text_ev g0 (by omega)) (Ev.bind (Text_ev g1 (by omega)) ?_))
    have z0 := digB_valL_size g0 h30
    have z1 := digB_valL_size g1 h31
    have z2 := digB_mul_le z0 z1
    have z3 := limbs_len_digB (valL l0 * valL l1)
    refine Ev.bind (Times_ev (dB_digB _) (dB_digB _) (by omega) (by omega)) ?_
    rw [vB_digB, vB_digB]
    refine Ev.bind (Number_ev (dB_digB _) (by omega)) ?_
    rw [vB_digB]
    exact Ev.bind (Same_self (by omega)) (Ev.now true)

end Go.Proofs.Ytkhmdpplpecgcaa.Px
