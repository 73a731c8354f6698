/- The functions that the law DecDigits reaches, told as plain functions, with what is proved of them (part 2). -/
import Derived.Test.YtbjaiphfehnncaaDoorPx0
import Derived.Test.YtbjaiphfehnncaaDoorCDecDigits1
set_option linter.unusedVariables false
set_option linter.unusedSimpArgs false
namespace Go.Proofs.YtbjaiphfehnncaaDoor.Px
open Fig Go.RowKit Go.Proofs.YtbjaiphfehnncaaDoorW.PrintWords Go.Proofs.YtbjaiphfehnncaaDoorW.PrintLast Go.Proofs.YtbjaiphfehnncaaDoorW.PrintMore
attribute [local go_sem] max2_int min2_int max_two min_two max_three min_three max_four min_four   -- for this text's walks alone

attribute [local go_sem] fieldA23_0 fieldA23_1 fieldA23_2
/-! plain facts: figureheadlaw05_DecDigits -/
theorem DecDigits_j1 {b : Bool} {s : ByteArray} {e a : Int} (ok : OkD s e) : Ev (fun k => figureheadlaw05_DecDigits.j1 k a (digD (vB s) e a) b s e) true := by
  refine Ev.step (fun k => by simp only [figureheadlaw05_DecDigits.j1]; rfl) ?_
  refine Ev.bind answers05_ev (evT rfl (evE (topP ok) (Ev.bind (Top05_ev ok) (evT rfl (evE (digitP ok) (evT rfl (Ev.bind (Zero05_ev ok) ?_)))))))
  by_cases h0 : vB s = 0
  · exact evT (decide_eq_true h0) (Ev.now true)
  · refine evF (by simp [h0]) (evE (topP ok) (evE (digitP ok) ?_))
    have := digD_top e h0
    exact evIs (Ev.now _) (decide_eq_true this)
theorem DecDigits_pure (a0_0 : Bool) (a0_1 : ByteArray) (a0_2 a1 : Int) (w0_1 : a0_1.size ≤ 140737488351232) (w0_2 : (Lit.int .i64 a0_2).wf = true) (w1 : (Lit.int .i64 a1).wf = true) : ∃ k, figureheadlaw05_DecDigits.f k a0_0 a0_1 a0_2 a1 = some true := by
  refine Ev.rounds (g := fun k => figureheadlaw05_DecDigits.f k a0_0 a0_1 a0_2 a1) ?_
  unfold figureheadlaw05_DecDigits.f
  refine Ev.bind (Good05_ev (by omega)) ?_
  cases hg : goodD a0_1 a0_2
  · exact evF (by decide) (Ev.bind answers05_ev (Ev.now true))
  · have ok := OkD.of_good hg
    have h1 := ok.sz
    have h2 := ok.lo
    have h3 := ok.hi
    have hz := ok.val
    have hj := DecDigits_j1 (b := a0_0) (a := a1) ok
    refine evT rfl ?_
    have hw : wrap64 (a0_2 + (a0_1.size : Int)) = a0_2 + (a0_1.size : Int) := w64 (by omega) (by omega)
    by_cases c1 : a1 ≥ a0_2
    · refine evT c1 ?_
      rw [hw]
      by_cases c2 : a1 < a0_2 + (a0_1.size : Int)
      · rw [decide_eq_true c2]
        refine Ev.step (f := fun k => figureheadlaw05_DecDigits.j1 k a1 (digD (vB a0_1) a0_2 a1) a0_0 a0_1 a0_2) (fun k => ?_) hj
        obtain ⟨j, hj⟩ : ∃ j : Nat, j = (a1 - a0_2).toNat := ⟨_, rfl⟩
        have hj2 : j < a0_1.size := by omega
        have e1 : wrap64 (wrap64 ((a0_1.size : Int) - 1) - wrap64 (a1 - a0_2)) = ((a0_1.size - 1 - j : Nat) : Int) := by
          rw [w_len a0_1.size a0_2 a1 (by omega) (by omega) (by omega) (by omega) (by omega)]; omega
        have e2 : (bt a0_1 ((a0_1.size - 1 - j : Nat) : Int) - 48) % 256 = digD (vB a0_1) a0_2 a1 := by
          rw [bt_get (by omega), digit_at ok.d hj2]
          unfold digD
          rw [if_neg (by omega), ← hj]
          have := Nat.mod_lt (vB a0_1 / 10 ^ j) (show 0 < 10 by decide)
          omega
        simp only [figureheadlaw05_DecDigits.j0, if_true]
        rw [e1, if_pos (by omega), if_pos (by omega), e2]
      · rw [decide_eq_false c2]
        refine Ev.step (f := fun k => figureheadlaw05_DecDigits.j1 k a1 (digD (vB a0_1) a0_2 a1) a0_0 a0_1 a0_2) (fun k => ?_) hj
        rw [digD_hi (by omega)]
        simp only [figureheadlaw05_DecDigits.j0, Bool.false_eq_true, if_false]
    · refine evF c1 ?_
      refine Ev.step (f := fun k => figureheadlaw05_DecDigits.j1 k a1 (digD (vB a0_1) a0_2 a1) a0_0 a0_1 a0_2) (fun k => ?_) hj
      have : digD (vB a0_1) a0_2 a1 = 0 := by unfold digD; rw [if_pos (by omega)]
      rw [this]
      simp only [figureheadlaw05_DecDigits.j0, Bool.false_eq_true, if_false]

end Go.Proofs.YtbjaiphfehnncaaDoor.Px
