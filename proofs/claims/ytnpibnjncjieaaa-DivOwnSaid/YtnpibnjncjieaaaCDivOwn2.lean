/- The functions that the law DivOwn reaches, told as plain functions, with what is proved of them (part 2). -/
import Derived.Test.YtnpibnjncjieaaaPx0
import Derived.Test.YtnpibnjncjieaaaCDivOwn1
namespace Go.Proofs.Ytnpibnjncjieaaa.Px
open Fig Go.RowKit Go.Proofs.YtnpibnjncjieaaaW.PrintWords Go.Proofs.YtnpibnjncjieaaaW.PrintLast Go.Proofs.YtnpibnjncjieaaaW.PrintMore
attribute [local go_sem] max2_int min2_int max_two min_two max_three min_three max_four min_four   -- for this text's walks alone

/-! plain facts: figureheadlaw03_DivOwn -/
theorem own_take (x t : List Int) : (x ++ t).take ((x.length : Int) : Int).toNat = x := by rw [Int.toNat_natCast]; simp
theorem own_rd (x t : List Int) (j : Nat) (h : j < t.length) : rd (x ++ t) ((x.length + j : Nat) : Int) = t[j] := by
  rw [rd_get (by rw [List.length_append]; omega), List.getElem_append_right (by omega)]
  congr 1; omega
theorem own_rd0 (x t : List Int) (a : Int) : rd (x ++ (a :: t)) (x.length : Int) = a := own_rd x (a :: t) 0 (by simp)
theorem own_le (x t : List Int) : ((x.length : Int) ≤ ((x ++ t).length : Int)) = True := by rw [List.length_append]; simp; omega
theorem own_lt (x t : List Int) (a : Int) : ((x.length : Int) < ((x ++ (a :: t)).length : Int)) = True := by rw [List.length_append, List.length_cons]; simp; omega
theorem own_nn (x : List Int) : ((0 : Int) ≤ (x.length : Int)) = True := by simp
theorem DivOwn_l2 (x0 x1 : List Int) (h0 : x0.length ≤ 60) (h1 : x1.length ≤ 60) : ∀ (d i : Nat) (x10 : List Int), x10.length - i = d → i ≤ x10.length → x10.length ≤ 1000000 → Ev (fun k => figureheadlaw03_DivOwn.l2 k x0 x1 (x0 ++ [7]) (x1 ++ [8]) x10 (i : Int)) true
  | 0, i, x10, hd, hi, hl => by
    refine Ev.step (fun k => by simp only [figureheadlaw03_DivOwn.l2]; rw [if_neg (by omega)]) ?_
    refine Ev.bind answers03_ev ?_
    simp only [if_true, own_nn, own_le, own_take]
    refine Ev.bind (Same_self (by omega)) ?_
    simp only [if_true]
    refine Ev.bind (Same_self (by omega)) ?_
    simp only [if_true, own_lt, own_rd0]
    exact evSome fun _ => rfl
  | d + 1, i, x10, hd, hi, hl => by
    refine Ev.step (f := fun k => figureheadlaw03_DivOwn.l2 k x0 x1 (x0 ++ [7]) (x1 ++ [8]) (x10.set i 5) ((i + 1 : Nat) : Int)) (fun k => ?_) (DivOwn_l2 x0 x1 h0 h1 d (i + 1) (x10.set i 5) (by rw [List.length_set]; omega) (by rw [List.length_set]; omega) (by rw [List.length_set]; omega))
    simp only [figureheadlaw03_DivOwn.l2]
    rw [if_pos (by omega), if_pos (by omega), Int.toNat_natCast, succ64 _ (by omega)]
theorem DivOwn_l1 (x0 x1 x10 : List Int) (h0 : x0.length ≤ 60) (h1 : x1.length ≤ 60) (h10 : x10.length ≤ 1000000) : ∀ (d i : Nat) (x8 : List Int), x8.length - i = d → i ≤ x8.length → x8.length ≤ 1000000 → Ev (fun k => figureheadlaw03_DivOwn.l1 k x0 x1 (x0 ++ [7]) (x1 ++ [8]) x8 x10 (i : Int)) true
  | 0, i, x8, hd, hi, hl => by
    refine Ev.step (fun k => by simp only [figureheadlaw03_DivOwn.l1]; rw [if_neg (by omega)]) ?_
    exact DivOwn_l2 x0 x1 h0 h1 x10.length 0 x10 (by omega) (by omega) h10
  | d + 1, i, x8, hd, hi, hl => by
    refine Ev.step (f := fun k => figureheadlaw03_DivOwn.l1 k x0 x1 (x0 ++ [7]) (x1 ++ [8]) (x8.set i 5) x10 ((i + 1 : Nat) : Int)) (fun k => ?_) (DivOwn_l1 x0 x1 x10 h0 h1 h10 d (i + 1) (x8.set i 5) (by rw [List.length_set]; omega) (by rw [List.length_set]; omega) (by rw [List.length_set]; omega))
    simp only [figureheadlaw03_DivOwn.l1]
    rw [if_pos (by omega), if_pos (by omega), Int.toNat_natCast, succ64 _ (by omega)]
theorem DivOwn_l0 (x0 x1 x8 x10 : List Int) (h0 : x0.length ≤ 60) (h1 : x1.length ≤ 60) (h8 : x8.length ≤ 1000000) (h10 : x10.length ≤ 1000000) : ∀ (d i : Nat) (x7 : List Int), x7.length - i = d → i ≤ x7.length → x7.length ≤ 1000000 → Ev (fun k => figureheadlaw03_DivOwn.l0 k x0 x1 (x0 ++ [7]) (x1 ++ [8]) x7 x8 x10 (i : Int)) true
  | 0, i, x7, hd, hi, hl => by
    refine Ev.step (fun k => by simp only [figureheadlaw03_DivOwn.l0]; rw [if_neg (by omega)]) ?_
    exact DivOwn_l1 x0 x1 x10 h0 h1 h10 x8.length 0 x8 (by omega) (by omega) h8
  | d + 1, i, x7, hd, hi, hl => by
    refine Ev.step (f := fun k => figureheadlaw03_DivOwn.l0 k x0 x1 (x0 ++ [7]) (x1 ++ [8]) (x7.set i 5) x8 x10 ((i + 1 : Nat) : Int)) (fun k => ?_) (DivOwn_l0 x0 x1 x8 x10 h0 h1 h8 h10 d (i + 1) (x7.set i 5) (by rw [List.length_set]; omega) (by rw [List.length_set]; omega) (by rw [List.length_set]; omega))
    simp only [figureheadlaw03_DivOwn.l0]
    rw [if_pos (by omega), if_pos (by omega), Int.toNat_natCast, succ64 _ (by omega)]
theorem DivOwn_pure (l0 l1 : List Int) (m0 : l0.length * 4 ≤ 140737488351232) (w0 : ∀ x ∈ l0, (Lit.int .u32 x).wf = true) (m1 : l1.length * 4 ≤ 140737488351232) (w1 : ∀ x ∈ l1, (Lit.int .u32 x).wf = true) : ∃ k, figureheadlaw03_DivOwn.f k l0 l1 = some true := by
  have n0 := fun x hx => wf_u32 (w0 x hx)
  have n1 := fun x hx => wf_u32 (w1 x hx)
  refine Ev.rounds (g := fun k => figureheadlaw03_DivOwn.f k l0 l1) ?_
  unfold figureheadlaw03_DivOwn.f
  refine Ev.bind (good03_ev (ls := [l0, l1]) (by simp) (by simp; omega) (by simp; exact ⟨fun x hx => (n0 x hx).1, fun x hx => (n1 x hx).1⟩)) ?_
  cases hg : [l0, l1].all fun l => decide (l.length ≤ 20) && goodL l
  · simp only [Bool.false_eq_true, if_false]
    exact Ev.bind answers03_ev (Ev.now true)
  · obtain ⟨⟨h0, g0⟩, h1, g1⟩ : (l0.length ≤ 20 ∧ goodL l0 = true) ∧ l1.length ≤ 20 ∧ goodL l1 = true := by simpa using hg
    have c1 : ([] : List Int).length + l0.length < 35184372088832 := by simp; omega
    have c2 : l0.length < 35184372088832 := by omega
    have c3 : ([] : List Int).length + l1.length < 35184372088832 := by simp; omega
    have c4 : l1.length < 35184372088832 := by omega
    have z0 := digB_valL_size g0 h0
    have l3 : (limbs (valL l0 / 3)).length ≤ 1000000 := by
      have := limbs_len_digB (valL l0 / 3)
      have := digB_mono (Nat.div_le_self (valL l0) 3) z0; omega
    have ld : (limbs (valL l0 / valL l1)).length ≤ 1000000 := by
      have := limbs_len_digB (valL l0 / valL l1)
      have := digB_mono (Nat.div_le_self (valL l0) (valL l1)) z0; omega
    have lm : (limbs (valL l0 % valL l1)).length ≤ 1000000 := by
      have := limbs_len_digB (valL l0 % valL l1)
      have := digB_mono (Nat.mod_le (valL l0) (valL l1)) z0; omega
    simp only [if_true, Option.bind_some, c1, List.nil_append, c2, c3, c4, own_nn, own_le, own_take]
    by_cases hz : valL l1 = 0
    · refine Ev.bind (DivMod_zero g1 (by omega) hz) (Ev.bind (DivSmall_ev (y := 3) g0 (by omega) (by omega) (by omega)) ?_)
      exact DivOwn_l0 l0 l1 _ _ (by omega) (by omega) (by simp) l3 _ 0 _ rfl (by omega) (by simp)
    · refine Ev.bind (DivMod_ev g0 g1 (by omega) (by omega) (by omega)) (Ev.bind (DivSmall_ev (y := 3) g0 (by omega) (by omega) (by omega)) ?_)
      exact DivOwn_l0 l0 l1 _ _ (by omega) (by omega) lm l3 _ 0 _ rfl (by omega) ld

end Go.Proofs.Ytnpibnjncjieaaa.Px
