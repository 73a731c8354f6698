/- The functions that the law ArithAdds reaches, told as plain functions, with what is proved of them, and the words they need (part 4). -/
import Derived.Test.YtbjaiphfehnncaaDoorCArithAdds0
import Derived.Test.YtbjaiphfehnncaaDoorCArithAdds1
import Derived.Test.YtbjaiphfehnncaaDoorCArithAdds3
import Derived.Test.YtbjaiphfehnncaaDoorCArithAdds2
import Derived.SizedLaws
import Derived.ChangeSlices
import Derived.LaidMore
import Derived.LaidHandle
import Derived.LaidSub
import Derived.OpenShut
import Derived.ChangeSame
import Derived.Lay
import Derived.Lib.LaidTab
import Derived.Test.YtbjaiphfehnncaaDoorRows
import Derived.Stop.LaidErr
import Derived.Lib.SmallJoins
import Derived.ChangeMaps5
set_option linter.unusedVariables false
set_option linter.unusedSimpArgs false
section
namespace Go.Proofs.YtbjaiphfehnncaaDoor.Px
open Fig Go.RowKit Go.Proofs.YtbjaiphfehnncaaDoorW.PrintWords Go.Proofs.YtbjaiphfehnncaaDoorW.PrintLast Go.Proofs.YtbjaiphfehnncaaDoorW.PrintMore
attribute [local go_sem] max2_int min2_int max_two min_two max_three min_three max_four min_four   -- for this text's walks alone
attribute [local go_sem] fieldA23_0 fieldA23_1 fieldA23_2
def dec_size.f (a0_0 : Bool) (a0_1 : ByteArray) (a0_2 : Int) (a1 : Int) : Option (List Int) := (dec_Coef.f a0_0 a0_1 a0_2).bind fun t141 => ((ten_Shift.f t141 (wrap64 (a0_2 - a1))).bind fun t144 => (some t144))
def dec_size.T1 : Bool × List (List Nat × List Nat) := (true, [([], []), ([0], [0]), ([], []), ([2], [2]), ([], []), ([3, 4], [3, 4]), ([1, 5, 1], [1, 5]), ([6, 6, 0, 1, 2, 3, 4, 5, 6], [6])])
def dec_size.B1 : List Nat := [0, 1, 0, 4, 0, 28, 63, 127]
theorem dec_size.tab1 : rtab .any (opsOf Tryd.f47 1) = dec_size.T1 := by kernel_rfl
theorem dec_size.bits1 : waitsOk dec_size.T1.2 dec_size.B1 = true := by kernel_rfl
set_option maxHeartbeats 8000000 in
set_option maxRecDepth 100000 in
theorem dec_size.calls (a0_0 : Bool) (a0_1 : ByteArray) (a0_2 : Int) (a1 : Int) (r : List Int) (w : World) (hG : Fig.Glob w) (h : dec_size.f a0_0 a0_1 a0_2 a1 = some r) :
    Calls Tryd.prog 47 #[.agg #[.bool a0_0, .string a0_1, .int .i64 a0_2], .int .i64 a1] w fun e w' => ∃ v0_ : Value, e = .returned (v0_) ∧ Kd.R (Kd.int .u32) 47 w' w.heap.size (fun _ => True) v0_ r ∧ Below w.heap.size w w' := by
  have hu23 := Tryd.underlying23
  have HG := Aside0.mk hG
  clear hG
  have HB := Aside0.mk (Below.refl w.heap.size w)
  have H : ((dec_Coef.f a0_0 a0_1 a0_2).bind fun t141 => ((ten_Shift.f t141 (wrap64 (a0_2 - a1))).bind fun t144 => (some t144))) = some r := h
  clear h
  replace H := Option.bind_eq_some_iff.mp H
  obtain ⟨t141, A30, H⟩ := H
  replace H : ((ten_Shift.f t141 (wrap64 (a0_2 - a1))).bind fun t144 => (some t144)) = some r := H
  have A3 := Aside0.mk A30
  clear A30
  replace H := Option.bind_eq_some_iff.mp H
  obtain ⟨t144, A40, H⟩ := H
  replace H : (some t144) = some r := H
  have A4 := Aside0.mk A40
  clear A40
  obtain rfl := Option.some.inj H
  go_enter Tryd.func47, Tryd.ntmps47
  try go_wp2_with (first | ((with_reducible refine gate_dst (N := 2) rfl ?_); refine box_event ?hg (N := 2) ?hd (cs := #[.bool a0_0, .string a0_1, .int .i64 a0_2]) (t := 23) ?hr ?_; (case hd => rfl); (case hg => rfl); (case hr => first | (go_simp; done) | (go_simp; rfl)); intro gb140 hg w5 hbox hb; have n0_ := Aside0.mk (below_step (by repeat (first | (with_reducible first | exact HB.out | apply below_alloc | apply pw_below_drewN | apply below_drew1) | exact HB.out)) hb); have n1_ := Aside0.mk (hbox); have n2_ := Aside0.mk ((by rw [hg]; exact (below_size (by repeat (first | (with_reducible first | exact HB.out | apply below_alloc | apply pw_below_drewN | apply below_drew1) | exact HB.out))) : w.heap.size ≤ gb140)); have n3_ := Aside0.mk ((by rw [hg]; exact (below_size (by repeat (first | (with_reducible first | exact HB.out | apply below_alloc | apply pw_below_drewN | apply below_drew1) | exact HB.out))) : w.heap.size ≤ gb140)); clear HB; have HB := n0_; have BK140 := n1_; have GW140 := n2_; have GE140 := n3_; clear n0_ n1_ n2_ n3_; clear hb hbox hg))
  have n0_ := Aside0.mk (blk_drew BK140.out)
  have n1_ := Aside0.mk (below_drew1 HB.out)
  clear BK140
  clear HB
  have BK140 := n0_
  have HB := n1_
  clear n0_ n1_
  refine start_ (n := 8) (S := fun w' => w'.cell? ⟨gb140, 0, none⟩ = some (.bool a0_0) ∧ w'.cell? ⟨gb140, 1, none⟩ = some (.string a0_1) ∧ w'.cell? ⟨gb140, 2, none⟩ = some (.int .i64 a0_2)) (ds := []) #[false, false, false, false, false, false, false, false] (by kernel_rfl) rfl rfl ⟨(blk_cell BK140.out 0).trans rfl, (blk_cell BK140.out 1).trans rfl, (blk_cell BK140.out 2).trans rfl⟩ (fun hHeld => ?_); refine with_tabW dec_size.tab1 dec_size.bits1 (fun HT_ HW_ => ?_)
  generalize w5.drew = w6 at BK140 HB hHeld ⊢
  refine pure_ (i := 2) (N := some 7) (v := ?_) (a' := ?_) #[false, false, true, false, false, false, false, false] rfl rfl (any_of HT_.out (by kernel_rfl)) (fun _ _ _ h => h) (Or.inl ⟨by rfl, ?_⟩) ?_ ?_
  rotate_left
  · intro w'
    go_simp
    with_reducible rfl
  rotate_left
  · simp only [Act.put, List.setIfInBounds_toArray, List.set_cons_zero, List.set_cons_succ]; (try simp only [i64_w]); (try simp only [i32_w])
    rfl
  refine pure_ (i := 4) (N := some 9) (v := ?_) (a' := ?_) #[false, false, true, false, true, false, false, false] rfl rfl (any_of HT_.out (by kernel_rfl)) (fun _ _ _ h => h) (Or.inl ⟨by rfl, ?_⟩) ?_ ?_
  rotate_left
  · intro w'
    go_simp
    with_reducible rfl
  rotate_left
  · simp only [Act.put, List.setIfInBounds_toArray, List.set_cons_zero, List.set_cons_succ]; (try simp only [i64_w]); (try simp only [i32_w])
    rfl
  refine take_ (i := 0) (N := some 5) (v := ?_) (a' := ?_) #[true, false, true, false, true, false, false, false] rfl rfl (take_ofW HT_.out HW_.out (by kernel_rfl)) (fun _ _ _ h => h) (Or.inl ⟨by rfl, ?_⟩) hHeld ?_ ?_
  rotate_left
  · rintro w' ⟨s0, s1, s2⟩
    go_simp
    with_reducible rfl
  rotate_left
  · simp only [Act.put, List.setIfInBounds_toArray, List.set_cons_zero, List.set_cons_succ]; (try simp only [i64_w]); (try simp only [i32_w])
    rfl
  refine take_ (i := 3) (N := some 8) (v := ?_) (a' := ?_) #[true, false, true, true, true, false, false, false] rfl rfl (take_ofW HT_.out HW_.out (by kernel_rfl)) (fun _ _ _ h => h) (Or.inl ⟨by rfl, ?_⟩) hHeld ?_ ?_
  rotate_left
  · rintro w' ⟨s0, s1, s2⟩
    go_simp
    with_reducible rfl
  rotate_left
  · simp only [Act.put, List.setIfInBounds_toArray, List.set_cons_zero, List.set_cons_succ]; (try simp only [i64_w]); (try simp only [i32_w])
    rfl
  refine pure_ (i := 5) (N := some 10) (v := ?_) (a' := ?_) #[true, false, true, true, true, true, false, false] rfl rfl (any_of HT_.out (by kernel_rfl)) (fun _ _ _ h => h) (Or.inl ⟨by rfl, ?_⟩) ?_ ?_
  rotate_left
  · intro w'
    go_simp
    with_reducible rfl
  rotate_left
  · simp only [Act.put, List.setIfInBounds_toArray, List.set_cons_zero, List.set_cons_succ]; (try simp only [i64_w]); (try simp only [i32_w])
    rfl
  refine one_ (i := 1) (N := some 6) #[true, true, true, true, true, true, false, false] rfl rfl (one_of HT_.out (by kernel_rfl)) (by decide) (fun K hK => ?_)
  refine goes_ Tryd.func23 (by kernel_rfl) rfl #[.agg #[.bool a0_0, .string a0_1, .int .i64 a0_2]] (by rfl) rfl rfl (by (try simp only [List.map_toArray]); (try simp only [List.map_cons]); (try simp only [List.map_nil]); first | done | rfl | (simp only [List.length_drop, List.length_take]; rfl)) ?_
  with_reducible refine (dec_Coef.calls a0_0 a0_1 a0_2 t141 _ A3.out).mono ?_
  rintro e w7 ⟨v142, rfl, ho0, hb⟩
  refine ⟨_, rfl, ?_⟩
  have n0_ := Aside0.mk (Kd.R_lower ho0 (below_size (by repeat (first | (with_reducible first | exact HB.out | apply below_alloc | apply pw_below_drewN | apply below_drew1 | refine below_set ?_ GE140.out) | exact HB.out))))
  have n1_ := Aside0.mk (blk_below (g := gb140) (o := .cells #[.bool a0_0, .string a0_1, .int .i64 a0_2] 23 (0, 0)) (by (with_reducible repeat (first | refine blk_drewN ?_ _ | refine blk_drew ?_ | refine blk_alloc ?_ _)); exact BK140.out) hb)
  have n2_ := Aside0.mk (below_step (by repeat (first | (with_reducible first | exact HB.out | apply below_alloc | apply pw_below_drewN | apply below_drew1 | refine below_set ?_ GE140.out) | exact HB.out)) hb)
  clear BK140
  clear HB
  have HO143 := n0_
  have BK140 := n1_
  have HB := n2_
  clear n0_ n1_ n2_
  (try clear hb)
  (try clear hb2)
  (try clear hk)
  (try clear hi)
  (try clear ho0)
  obtain ⟨Ao8, co8, eo8⟩ := Kd.R_slice HO143.out
  (first | subst eo8 | (injection eo8 with f1_ f2_ f3_; have f4_ := f1_.symm; have f5_ := f3_.symm; clear f1_ f2_ f3_; subst f4_; subst f5_))
  refine hK.out _ _ ⟨(blk_cell BK140.out 0).trans rfl, (blk_cell BK140.out 1).trans rfl, (blk_cell BK140.out 2).trans rfl⟩ (fun hHeld => ?_)
  clear hK K
  refine norm_ (a' := ?_) ?_ ?_
  rotate_left
  · show Act.put _ (some 6) _ = _
    simp only [Act.put, List.setIfInBounds_toArray, List.set_cons_zero, List.set_cons_succ]; (try simp only [i64_w]); (try simp only [i32_w])
    rfl
  refine one_ (i := 6) (N := some 11) #[true, true, true, true, true, true, true, false] rfl rfl (one_of HT_.out (by kernel_rfl)) (by decide) (fun K hK => ?_)
  refine goes_ Tryd.func52 (by kernel_rfl) rfl #[.slice Ao8 t141.length co8, .int .i64 (wrap64 (a0_2 - a1))] (by rfl) rfl rfl (by (try simp only [List.map_toArray]); (try simp only [List.map_cons]); (try simp only [List.map_nil]); first | done | rfl | (simp only [List.length_drop, List.length_take]; rfl)) ?_
  with_reducible refine (ten_Shift.calls _ _ t141 (wrap64 (a0_2 - a1)) t144 _ ?side1 ?side2 ?side3 A4.out).mono ?_
  (case side1 => exact Fig.Glob.below HG.out (by repeat (first | (with_reducible first | exact HB.out | apply below_alloc | apply pw_below_drewN | apply below_drew1 | refine below_set ?_ GE140.out) | exact HB.out)))
  (case side2 => repeat (first | exact (Kd.R_reads' HO143.out).2.2 | (with_reducible refine Kd.C_alloc ?_ _) | (with_reducible refine Kd.C_drewN ?_ _) | (with_reducible refine Kd.C_drew ?_)))
  (case side3 => exact (Kd.R_reads' HO143.out).2.1)
  rintro e w9 ⟨v145, rfl, ho0, hb⟩
  refine ⟨_, rfl, ?_⟩
  have n0_ := Aside0.mk (Kd.R_elder' (by (with_reducible repeat (first | apply Kd.R_alloc | apply Kd.R_drewN | apply Kd.R_drew)); exact HO143.out) (Kd.R_base ho0) hb)
  have n1_ := Aside0.mk (Kd.R_lower (Kd.R_new' ho0 (Kd.R_lt (by (with_reducible repeat (first | apply Kd.R_alloc | apply Kd.R_drewN | apply Kd.R_drew)); exact HO143.out))) (below_size (by repeat (first | (with_reducible first | exact HB.out | apply below_alloc | apply pw_below_drewN | apply below_drew1 | refine below_set ?_ GE140.out) | exact HB.out))))
  have n2_ := Aside0.mk (blk_below (g := gb140) (o := .cells #[.bool a0_0, .string a0_1, .int .i64 a0_2] 23 (0, 0)) (by (with_reducible repeat (first | refine blk_drewN ?_ _ | refine blk_drew ?_ | refine blk_alloc ?_ _)); exact BK140.out) hb)
  have n3_ := Aside0.mk (below_step (by repeat (first | (with_reducible first | exact HB.out | apply below_alloc | apply pw_below_drewN | apply below_drew1 | refine below_set ?_ GE140.out) | exact HB.out)) hb)
  clear HO143
  clear BK140
  clear HB
  have HO143 := n0_
  have HO146 := n1_
  have BK140 := n2_
  have HB := n3_
  clear n0_ n1_ n2_ n3_
  (try clear hb)
  (try clear hb2)
  (try clear hk)
  (try clear hi)
  (try clear ho0)
  refine hK.out _ _ ⟨(blk_cell BK140.out 0).trans rfl, (blk_cell BK140.out 1).trans rfl, (blk_cell BK140.out 2).trans rfl⟩ (fun hHeld => ?_)
  clear hK K
  refine norm_ (a' := ?_) ?_ ?_
  rotate_left
  · show Act.put _ (some 11) _ = _
    simp only [Act.put, List.setIfInBounds_toArray, List.set_cons_zero, List.set_cons_succ]; (try simp only [i64_w]); (try simp only [i32_w])
    rfl
  refine pure_ (i := 7) (N := some 4) (v := ?_) (a' := ?_) #[true, true, true, true, true, true, true, true] rfl rfl (any_of HT_.out (by kernel_rfl)) (fun _ _ _ h => h) (Or.inl ⟨by rfl, ?_⟩) ?_ ?_
  rotate_left
  · intro w'
    go_simp
    with_reducible rfl
  rotate_left
  · simp only [Act.put, List.setIfInBounds_toArray, List.set_cons_zero, List.set_cons_succ]; (try simp only [i64_w]); (try simp only [i32_w])
    rfl
  refine done_ (done_of HT_.out (by kernel_rfl)) ?_
  try go_wp2
  go_ret
  exact ⟨_, by first | rfl | (simp [errW_none, errW_some] <;> rfl) | (simp [*, errW_none, errW_some] <;> rfl), by (with_reducible repeat (first | apply Kd.R_alloc | apply Kd.R_drewN | apply Kd.R_drew)); exact Kd.R_mono HO146.out (fun _ hk => trivial), by repeat (first | (with_reducible first | exact HB.out | apply below_alloc | apply pw_below_drewN | apply below_drew1 | refine below_set ?_ GE140.out) | exact HB.out)⟩
end Go.Proofs.YtbjaiphfehnncaaDoor.Px
end
section
namespace Go.Proofs.YtbjaiphfehnncaaDoor.Px
open Fig Go.RowKit Go.Proofs.YtbjaiphfehnncaaDoorW.PrintWords Go.Proofs.YtbjaiphfehnncaaDoorW.PrintLast Go.Proofs.YtbjaiphfehnncaaDoorW.PrintMore
attribute [local go_sem] max2_int min2_int max_two min_two max_three min_three max_four min_four   -- for this text's walks alone
attribute [local go_sem] fieldA23_0 fieldA23_1 fieldA23_2
theorem shiftP {l : List Int} {n : Int} (g : goodL l = true) (hl : l.length ≤ 500000) (hn : n ≤ 1000000) : ten_Shift.f l n = some (limbs (valL l * 10 ^ n.toNat)) := by unfold ten_Shift.f; rw [if_pos ⟨g, hl, hn⟩]
theorem coef_len {s : ByteArray} {e : Int} (h : OkD s e) : (limbs (vB s)).length ≤ 100000 := by
  have := limbs_len_digB (vB s)
  have := h.val
  have := h.sz
  omega
end Go.Proofs.YtbjaiphfehnncaaDoor.Px
end
section
namespace Go.Proofs.YtbjaiphfehnncaaDoor.Px
open Fig Go.RowKit Go.Proofs.YtbjaiphfehnncaaDoorW.PrintWords Go.Proofs.YtbjaiphfehnncaaDoorW.PrintLast Go.Proofs.YtbjaiphfehnncaaDoorW.PrintMore
attribute [local go_sem] max2_int min2_int max_two min_two max_three min_three max_four min_four   -- for this text's walks alone
attribute [local go_sem] fieldA23_0 fieldA23_1 fieldA23_2
theorem w_add (e : Int) (p : Nat) (h1 : -1000000 ≤ e) (h2 : e ≤ 1000000) (hp : p ≤ 1000000) : wrap64 (e + (p : Int)) = e + (p : Int) := w64 (by omega) (by omega)
theorem w_norm (e : Int) (p q : Nat) (h1 : -1000000 ≤ e) (h2 : e ≤ 1000000) (hp : p ≤ 1000000) (hq : q ≤ 1000000) : wrap64 (wrap64 (e + (p : Int)) - (q : Int)) = e + (p : Int) - (q : Int) := by rw [w_add e p h1 h2 hp, w64 (by omega) (by omega)]
theorem normP {b : Bool} {s : ByteArray} {e : Int} (h : OkD s e) : dec_Norm.f b s e = some (b, nD (vB s), nE (vB s) e) := by
  have hz := h.val
  have h1 := h.sz
  have h2 := h.lo
  have h3 := h.hi
  unfold dec_Norm.f
  rw [show strings_TrimLeft.f s (⟨#[48]⟩ : ByteArray) = some (digB (vB s)) by unfold strings_TrimLeft.f; rw [if_pos rfl, stripB_eq h.d]]
  simp only [Option.bind_some]
  by_cases h0 : vB s = 0
  · rw [if_pos (digB_toList_nil.2 h0), h0]; rfl
  · rw [if_neg (fun hh => h0 (digB_toList_nil.1 hh))]
    have hl := digB_len_core h0
    have ht : strings_TrimRight.f (digB (vB s)) (⟨#[48]⟩ : ByteArray) = some (digB (core (vB s))) := by
      unfold strings_TrimRight.f
      rw [if_pos ⟨rfl, by omega⟩]
      show some (⟨(Lib.trimRightB (digs (vB s)) 48).toArray⟩ : ByteArray) = _
      unfold Lib.trimRightB; rw [trimR_digs h0]; rfl
    rw [ht]
    simp only [Option.bind_some]
    rw [w_norm e _ _ (by omega) (by omega) (by omega) (by omega)]
    unfold nD nE
    rw [if_neg h0, if_neg h0, show e + ((digB (vB s)).size : Int) - ((digB (core (vB s))).size : Int) = e + (tz (vB s) : Int) by omega]
end Go.Proofs.YtbjaiphfehnncaaDoor.Px
end
section
namespace Go.Proofs.YtbjaiphfehnncaaDoor.Px
open Fig Go.RowKit Go.Proofs.YtbjaiphfehnncaaDoorW.PrintWords Go.Proofs.YtbjaiphfehnncaaDoorW.PrintLast Go.Proofs.YtbjaiphfehnncaaDoorW.PrintMore
attribute [local go_sem] max2_int min2_int max_two min_two max_three min_three max_four min_four   -- for this text's walks alone
attribute [local go_sem] fieldA23_0 fieldA23_1 fieldA23_2
theorem zeroB_ok (v : Nat) : dB (zeroB v) = true ∧ (zeroB v).size ≠ 0 ∧ vB (zeroB v) = v := by
  unfold zeroB
  by_cases h : v = 0
  · rw [if_pos h, h]; exact ⟨rfl, by decide, rfl⟩
  · rw [if_neg h]; exact ⟨dB_digB v, fun e => h (digB_empty_iff.1 e), vB_digB v⟩
theorem zeroB_size {v k : Nat} (h : (digB v).size ≤ k) (hk : 1 ≤ k) : (zeroB v).size ≤ k := by
  unfold zeroB
  by_cases h0 : v = 0
  · rw [if_pos h0]; exact hk
  · rw [if_neg h0]; exact h
theorem digitsP {v k : Nat} (h : (digB v).size ≤ k) (hk : k ≤ 1000000) : ten_Digits.f (limbs v) = some (zeroB v) := by
  have := limbs_len_digB v
  unfold ten_Digits.f; rw [if_pos ⟨limbs_good v, by omega⟩, limbs_val]
theorem madeP {b : Bool} {v : Nat} {e : Int} (hz : (digB v).size ≤ 50000) (h1 : -100000 ≤ e) (h2 : e ≤ 100000) : arith_made.f b (limbs v) e = some (resD (sg b v) e) := by
  obtain ⟨d1, d2, d3⟩ := zeroB_ok v
  have d4 := zeroB_size (k := 50000) hz (by decide)
  unfold arith_made.f
  rw [digitsP hz (by decide)]
  simp only [Option.bind_some]
  rw [normP ⟨d1, d2, by omega, h1, h2⟩, d3, resD_sg]
  simp only [Option.bind_some]
  cases b
  · simp
  · have : ((limbs v).length : Int) > 0 ↔ v ≠ 0 := by
      constructor
      · intro h e; rw [e, limbs_zero] at h; simp at h
      · intro h
        have : (limbs v).length ≠ 0 := fun e => h (limbs_nil_iff.1 (List.eq_nil_of_length_eq_zero e))
        omega
    simp only [if_true, Bool.true_and, decide_eq_decide.2 this]
end Go.Proofs.YtbjaiphfehnncaaDoor.Px
end
section
namespace Go.Proofs.YtbjaiphfehnncaaDoor.Px
open Fig Go.RowKit Go.Proofs.YtbjaiphfehnncaaDoorW.PrintWords Go.Proofs.YtbjaiphfehnncaaDoorW.PrintLast Go.Proofs.YtbjaiphfehnncaaDoorW.PrintMore
attribute [local go_sem] max2_int min2_int max_two min_two max_three min_three max_four min_four   -- for this text's walks alone
attribute [local go_sem] fieldA23_0 fieldA23_1 fieldA23_2
theorem addP {a b : Bool} {s t : ByteArray} {e f : Int} (h : OkS s e) (g : OkS t f) : arith_Add.f a s e b t f = some (sumD a (vB s) e b (vB t) f) := by
  have hs := h.ok.val
  have hsz := h.sz
  have hlo := h.lo
  have hhi := h.hi
  have gs := g.ok.val
  have gsz := g.sz
  have glo := g.lo
  have ghi := g.hi
  have hm : mn e f = min e f := by unfold mn; omega
  obtain ⟨m, hm2⟩ : ∃ m, m = min e f := ⟨_, rfl⟩
  have x1 := size_vZ a (n := vB s) (p := 10000) e m (by omega)
  have y1 := size_vZ b (n := vB t) (p := 10000) f m (by omega)
  rw [vZ_natAbs] at x1 y1
  have lx := coef_len h.ok
  have ly := coef_len g.ok
  have s1 : ten_Shift.f (limbs (vB s)) (wrap64 (e - m)) = some (limbs (atE (vB s) e m)) := by
    rw [w64 (x := e - m) (by omega) (by omega), shiftP (limbs_good _) (by omega) (by omega), limbs_val]; rfl
  have s2 : ten_Shift.f (limbs (vB t)) (wrap64 (f - m)) = some (limbs (atE (vB t) f m)) := by
    rw [w64 (x := f - m) (by omega) (by omega), shiftP (limbs_good _) (by omega) (by omega), limbs_val]; rfl
  unfold arith_Add.f
  rw [hm, ← hm2, coefP h.ok]
  simp only [Option.bind_some]
  rw [s1]
  simp only [Option.bind_some]
  rw [coefP g.ok]
  simp only [Option.bind_some]
  rw [s2]
  simp only [Option.bind_some]
  rw [sumD_at (k := m) (by omega) (by omega)]
  unfold vZ
  obtain ⟨x, hx⟩ : ∃ x, x = atE (vB s) e m := ⟨_, rfl⟩
  obtain ⟨y, hy⟩ : ∃ y, y = atE (vB t) f m := ⟨_, rfl⟩
  rw [← hx, ← hy]
  rw [← hx] at x1
  rw [← hy] at y1
  have x2 : (digB x).size ≤ 30000 := by omega
  have y2 : (digB y).size ≤ 30000 := by omega
  have l1 := limbs_len_digB x
  have l2 := limbs_len_digB y
  cases hab : (a == b)
  · rw [if_neg (by decide)]
    by_cases hl : x < y
    · have q1 : nat_Sub.f (limbs x) (limbs y) = some ([], false) := subF_lt (limbs_good _) (limbs_good _) (by omega) (by omega) (by rw [limbs_val, limbs_val]; exact hl)
      have q2 : nat_Sub.f (limbs y) (limbs x) = some (limbs (y - x), true) := by
        have := subF_ge (limbs_good y) (limbs_good x) (by omega) (by omega) (by rw [limbs_val, limbs_val]; omega)
        rwa [limbs_val, limbs_val] at this
      rw [q1]
      simp only [Option.bind_some]
      rw [if_neg (by decide), q2]
      simp only [Option.bind_some]
      have := digB_mono (Nat.sub_le y x) y2
      rw [madeP (by omega) (by omega) (by omega), sg_sub' hab (by omega)]; rfl
    · have q1 : nat_Sub.f (limbs x) (limbs y) = some (limbs (x - y), true) := by
        have := subF_ge (limbs_good x) (limbs_good y) (by omega) (by omega) (by rw [limbs_val, limbs_val]; omega)
        rwa [limbs_val, limbs_val] at this
      rw [q1]
      simp only [Option.bind_some]
      rw [if_pos trivial]
      have := digB_mono (Nat.sub_le x y) x2
      rw [madeP (by omega) (by omega) (by omega), sg_sub hab (by omega)]; rfl
  · obtain rfl := beq_iff_eq.1 hab
    have q1 : nat_Add.f (limbs x) (limbs y) = some (limbs (x + y)) := by
      have := addF_eq (limbs_good x) (limbs_good y) (by omega) (by omega)
      rwa [limbs_val, limbs_val] at this
    rw [if_pos rfl, q1]
    simp only [Option.bind_some]
    have := digB_add_le x2 y2
    rw [madeP (by omega) (by omega) (by omega), sg_add]; rfl
end Go.Proofs.YtbjaiphfehnncaaDoor.Px
end
section
namespace Go.Proofs.YtbjaiphfehnncaaDoor.Px
open Fig Go.RowKit Go.Proofs.YtbjaiphfehnncaaDoorW.PrintWords Go.Proofs.YtbjaiphfehnncaaDoorW.PrintLast Go.Proofs.YtbjaiphfehnncaaDoorW.PrintMore
attribute [local go_sem] max2_int min2_int max_two min_two max_three min_three max_four min_four   -- for this text's walks alone
attribute [local go_sem] fieldA23_0 fieldA23_1 fieldA23_2
theorem subP {a b : Bool} {s t : ByteArray} {e f : Int} (h : OkS s e) (g : OkS t f) : arith_Sub.f a s e b t f = some (sumD a (vB s) e (!b) (vB t) f) := by
  unfold arith_Sub.f; rw [addP h g]; rfl
end Go.Proofs.YtbjaiphfehnncaaDoor.Px
end
section
namespace Go.Proofs.YtbjaiphfehnncaaDoor.Px
open Fig Go.RowKit Go.Proofs.YtbjaiphfehnncaaDoorW.PrintWords Go.Proofs.YtbjaiphfehnncaaDoorW.PrintLast Go.Proofs.YtbjaiphfehnncaaDoorW.PrintMore
attribute [local go_sem] max2_int min2_int max_two min_two max_three min_three max_four min_four   -- for this text's walks alone
attribute [local go_sem] fieldA23_0 fieldA23_1 fieldA23_2
theorem Mul_loop (a b : List Int) (ga : goodL a = true) (gb : goodL b = true) (la : a.length ≤ 1000000) (lb : b.length ≤ 1000000) : ∀ (d n : Nat) (x : List Int), b.length - n = d → n ≤ b.length → goodL x = true → x.length = a.length + b.length + 1 → valL x = valL a * valL (b.take n) →
    Ev (fun k => mul_Mul.l0 k a x b (b.length : Int) (n : Int)) (limbs (valL a * valL b))
  | 0, n, x, h1, h2, gx, hx, hv => by
    refine evDone (r' := limbs (valL x)) (fun k => ?_) ?_
    · simp only [mul_Mul.l0, nat_Trim.f]; rw [if_neg (by omega), trimF_eq gx (by omega)]; rfl
    · rw [hv, List.take_of_length_le (by omega)]
  | d + 1, n, x, h1, h2, gx, hx, hv => by
    have hnb : n < b.length := by omega
    have pb := goodL_iff.1 gb _ (List.getElem_mem hnb)
    obtain ⟨y, hy⟩ : ∃ v : Nat, b[n] = (v : Int) := ⟨b[n].toNat, by omega⟩
    have e : valL (b.take (n + 1)) = valL (b.take n) + 1000000000 ^ n * y := by
      rw [List.take_succ_eq_append_getElem hnb, valL_snoc, hy, Int.toNat_natCast, List.length_take, Nat.min_eq_left (by omega)]
    have key : valL x + 1000000000 ^ n * (valL a * y) = valL a * valL (b.take (n + 1)) := by
      rw [hv, e, Nat.mul_add, Nat.mul_left_comm (1000000000 ^ n)]
    have hlt : valL x + 1000000000 ^ n * (valL a * y) < 1000000000 ^ x.length := by
      rw [key, hx]
      have va := valL_lt ga
      have vb := valL_lt (goodL_take gb (n + 1))
      have h3 := Nat.mul_lt_mul'' va vb
      rw [← Nat.pow_add] at h3
      exact Nat.lt_of_lt_of_le h3 (Nat.pow_le_pow_right (by omega) (by rw [List.length_take]; omega))
    obtain ⟨r, hr, g1, g2, g3⟩ := row_ev (p := n) gx ga (show y < 1000000000 by omega) (by omega) (by omega) hlt
    refine Ev.step (f := fun k => (mul_row.f k x a (y : Int) (n : Int)).bind fun t => mul_Mul.l0 k a t b (b.length : Int) ((n + 1 : Nat) : Int)) (fun k => ?_) (Ev.bind hr (Mul_loop a b ga gb la lb d (n + 1) r (by omega) (by omega) g1 (by omega) (by rw [g3, key])))
    simp only [mul_Mul.l0]; rw [if_pos (by omega), if_pos (by omega), if_pos (by omega), rd_get hnb, hy, succ64 _ (by omega)]
theorem Mul_ev {a b : List Int} (ga : goodL a = true) (gb : goodL b = true) (la : a.length ≤ 1000000) (lb : b.length ≤ 1000000) : Ev (fun k => mul_Mul.f k a b) (limbs (valL a * valL b)) := by
  unfold mul_Mul.f
  rw [times_len _ _ la lb]
  have c1 : (0 : Int) ≤ ((a.length + b.length + 1 : Nat) : Int) := by omega
  have c2 : a.length + b.length + 1 ≤ 70368744177664 := by omega
  simp only [Int.toNat_natCast, c1, c2, if_true]
  exact Mul_loop a b ga gb la lb b.length 0 _ rfl (by omega) (goodL_replicate _) (by simp) (by rw [valL_replicate]; simp [valL])
end Go.Proofs.YtbjaiphfehnncaaDoor.Px
end
section
namespace Go.Proofs.YtbjaiphfehnncaaDoor.Px
open Fig Go.RowKit Go.Proofs.YtbjaiphfehnncaaDoorW.PrintWords Go.Proofs.YtbjaiphfehnncaaDoorW.PrintLast Go.Proofs.YtbjaiphfehnncaaDoorW.PrintMore
attribute [local go_sem] max2_int min2_int max_two min_two max_three min_three max_four min_four   -- for this text's walks alone
attribute [local go_sem] fieldA23_0 fieldA23_1 fieldA23_2
theorem mulP_ev {a b : Bool} {s t : ByteArray} {e f : Int} (h : OkS s e) (g : OkS t f) : Ev (fun k => arith_Mul.f k a s e b t f) (prodD a (vB s) e b (vB t) f) := by
  have hsz := h.sz
  have hlo := h.lo
  have hhi := h.hi
  have gsz := g.sz
  have glo := g.lo
  have ghi := g.hi
  have hs := h.ok.val
  have gs := g.ok.val
  have hm := digB_mul_le (p := 10000) (q := 10000) (show (digB (vB s)).size ≤ 10000 by omega) (show (digB (vB t)).size ≤ 10000 by omega)
  have lx := coef_len h.ok
  have ly := coef_len g.ok
  unfold arith_Mul.f
  refine evE (coefP h.ok) (evE (coefP g.ok) (Ev.bind (Mul_ev (limbs_good _) (limbs_good _) (by omega) (by omega)) ?_))
  rw [limbs_val, limbs_val, w64 (x := e + f) (by omega) (by omega)]
  refine evE (madeP (by omega) (by omega) (by omega)) ?_
  rw [sg_mul]; exact Ev.now _
end Go.Proofs.YtbjaiphfehnncaaDoor.Px
end
section
namespace Go.Proofs.YtbjaiphfehnncaaDoor.Px
open Fig Go.RowKit Go.Proofs.YtbjaiphfehnncaaDoorW.PrintWords Go.Proofs.YtbjaiphfehnncaaDoorW.PrintLast Go.Proofs.YtbjaiphfehnncaaDoorW.PrintMore
attribute [local go_sem] max2_int min2_int max_two min_two max_three min_three max_four min_four   -- for this text's walks alone
attribute [local go_sem] fieldA23_0 fieldA23_1 fieldA23_2
theorem negP {b : Bool} {s : ByteArray} {e : Int} (h : OkD s e) : arith_Neg.f b s e = some (!b, nD (vB s), nE (vB s) e) := by
  unfold arith_Neg.f; rw [normP h]; rfl
end Go.Proofs.YtbjaiphfehnncaaDoor.Px
end
section
namespace Go.Proofs.YtbjaiphfehnncaaDoor.Px
open Fig Go.RowKit Go.Proofs.YtbjaiphfehnncaaDoorW.PrintWords Go.Proofs.YtbjaiphfehnncaaDoorW.PrintLast Go.Proofs.YtbjaiphfehnncaaDoorW.PrintMore
attribute [local go_sem] max2_int min2_int max_two min_two max_three min_three max_four min_four   -- for this text's walks alone
attribute [local go_sem] fieldA23_0 fieldA23_1 fieldA23_2
theorem scaleP {b : Bool} {s : ByteArray} {e n : Int} (h : OkD s (e + n)) (h1 : -1000000 ≤ e) (h2 : e ≤ 1000000) (h3 : -1000000 ≤ n) (h4 : n ≤ 1000000) : arith_Scale.f b s e n = some (b, nD (vB s), nE (vB s) (e + n)) := by
  unfold arith_Scale.f; rw [w64 (x := e + n) (by omega) (by omega), normP h]; rfl
end Go.Proofs.YtbjaiphfehnncaaDoor.Px
end
section
namespace Go.Proofs.YtbjaiphfehnncaaDoor.Px
open Fig Go.RowKit Go.Proofs.YtbjaiphfehnncaaDoorW.PrintWords Go.Proofs.YtbjaiphfehnncaaDoorW.PrintLast Go.Proofs.YtbjaiphfehnncaaDoorW.PrintMore
attribute [local go_sem] max2_int min2_int max_two min_two max_three min_three max_four min_four   -- for this text's walks alone
attribute [local go_sem] fieldA23_0 fieldA23_1 fieldA23_2
theorem nD_lit {n m k : Nat} {s : ByteArray} (h : n = m * 10 ^ k) (hm : m % 10 ≠ 0) (hd : dB s = true) (hv : vB s = m) (hs : stripB s = s) : nD n = s := by
  rw [h, nD_pow, nD_of hm, ← hv, ← stripB_eq hd, hs]
theorem answers06_ev : Ev (fun k => figureheadlaw06_answers.f k) true := by
  have ok1 : OkS (⟨#[49]⟩ : ByteArray) 0 := OkS.of_good (by decide)
  have ok2 : OkS (⟨#[50, 53]⟩ : ByteArray) (-2) := OkS.of_good (by decide)
  have ok3 : OkS (⟨#[50, 53]⟩ : ByteArray) (-2 + 2) := OkS.of_good (by decide)
  have v1 : vB (⟨#[49]⟩ : ByteArray) = 1 := by decide
  have v2 : vB (⟨#[50, 53]⟩ : ByteArray) = 25 := by decide
  have n75 : nD 75 = (⟨#[55, 53]⟩ : ByteArray) := nD_lit (m := 75) (k := 0) (by decide) (by decide) (by decide) (by decide) (by decide)
  have n625 : nD 625 = (⟨#[54, 50, 53]⟩ : ByteArray) := nD_lit (m := 625) (k := 0) (by decide) (by decide) (by decide) (by decide) (by decide)
  have n25 : nD 25 = (⟨#[50, 53]⟩ : ByteArray) := nD_lit (m := 25) (k := 0) (by decide) (by decide) (by decide) (by decide) (by decide)
  have e75 : nE 75 (-2) = -2 := nE_of (by decide)
  have e625 : nE 625 (-4) = -4 := nE_of (by decide)
  have e25 : nE 25 0 = 0 := nE_of (by decide)
  have r1 : sumD false 1 0 (!false) 25 (-2) = (false, (⟨#[55, 53]⟩ : ByteArray), -2) := by
    show (zN 75, nD 75, nE 75 (-2)) = _
    rw [n75, e75]; rfl
  have r2 : prodD false 25 (-2) false 25 (-2) = (false, (⟨#[54, 50, 53]⟩ : ByteArray), -4) := by
    show (zN 625, nD 625, nE 625 (-4)) = _
    rw [n625, e625]; rfl
  unfold figureheadlaw06_answers.f
  refine evE (subP ok1 ok2) ?_
  rw [v1, v2, r1]
  refine evT (by simp [ByteArray.toList_eq]) (Ev.bind (mulP_ev ok2 ok2) ?_)
  rw [v2, r2]
  refine evT (by simp [ByteArray.toList_eq]) (evE (scaleP ok3.ok (by decide) (by decide) (by decide) (by decide)) ?_)
  rw [v2, n25, show nE 25 (-2 + 2) = 0 from e25]
  refine evT (by simp [ByteArray.toList_eq]) (evE (negP ok1.ok) ?_)
  exact Ev.now true
end Go.Proofs.YtbjaiphfehnncaaDoor.Px
end
section
namespace Go.Proofs.YtbjaiphfehnncaaDoor.Px
open Fig Go.RowKit Go.Proofs.YtbjaiphfehnncaaDoorW.PrintWords Go.Proofs.YtbjaiphfehnncaaDoorW.PrintLast Go.Proofs.YtbjaiphfehnncaaDoorW.PrintMore
attribute [local go_sem] max2_int min2_int max_two min_two max_three min_three max_four min_four   -- for this text's walks alone
attribute [local go_sem] fieldA23_0 fieldA23_1 fieldA23_2
theorem Zeros_loop (m : Nat) (hm : m ≤ 1000000) : ∀ (d n : Nat), m - n = d → n ≤ m → Ev (fun k => figureheadref01_Zeros.l0 k (m : Int) (List.replicate n 48) (n : Int)) (strOfNums (List.replicate m 48))
  | 0, n, hd, hn => by
    obtain rfl : n = m := by omega
    refine evDone (r' := strOfNums (List.replicate n 48)) (fun k => ?_) rfl
    simp only [figureheadref01_Zeros.l0]; rw [if_neg (by omega)]
  | d + 1, n, hd, hn => by
    refine Ev.step (f := fun k => figureheadref01_Zeros.l0 k (m : Int) (List.replicate (n + 1) 48) ((n + 1 : Nat) : Int)) (fun k => ?_) (Zeros_loop m hm d (n + 1) (by omega) (by omega))
    simp only [figureheadref01_Zeros.l0]
    rw [if_pos (by omega), if_pos (by rw [List.length_replicate]; omega), List.replicate_succ', w64 (by omega) (by omega)]; rfl
def zerosB (m : Nat) : ByteArray := strOfNums (List.replicate m 48)
theorem Zeros_ev {m : Nat} (hm : m ≤ 1000000) : Ev (fun k => figureheadref01_Zeros.f k (m : Int)) (zerosB m) := Zeros_loop m hm m 0 (by omega) (by omega)
theorem zerosB_list (m : Nat) : (zerosB m).data.toList = List.replicate m 48 := by rw [zerosB, B_nums, List.map_replicate]; rfl
theorem zerosB_size (m : Nat) : (zerosB m).size = m := by rw [size_eq, zerosB_list, List.length_replicate]
end Go.Proofs.YtbjaiphfehnncaaDoor.Px
end
section
namespace Go.Proofs.YtbjaiphfehnncaaDoor.Px
open Fig Go.RowKit Go.Proofs.YtbjaiphfehnncaaDoorW.PrintWords Go.Proofs.YtbjaiphfehnncaaDoorW.PrintLast Go.Proofs.YtbjaiphfehnncaaDoorW.PrintMore
attribute [local go_sem] max2_int min2_int max_two min_two max_three min_three max_four min_four   -- for this text's walks alone
attribute [local go_sem] fieldA23_0 fieldA23_1 fieldA23_2
theorem At05_ev {b : Bool} {s : ByteArray} {e x : Int} (h : OkD s e) (h1 : x ≤ e) (h2 : -100000 ≤ x) : Ev (fun k => figureheadref05_At.f k b s e x) (digB (atE (vB s) e x)) := by
  have hs := h.sz
  have hl := h.lo
  have hh := h.hi
  have hz := h.val
  unfold figureheadref05_At.f
  refine Ev.bind (StripD_ev (by omega) h.d) ?_
  by_cases h0 : vB s = 0
  · simp only [digB_toList_nil.2 h0, if_true]
    rw [h0, atE_zero, digB_zero]
    exact Ev.now _
  · have h3 : ¬ (digB (vB s)).toList = ([] : List UInt8) := fun hh => h0 (digB_toList_nil.1 hh)
    obtain ⟨m, hm⟩ : ∃ m : Nat, m = (e - x).toNat := ⟨_, rfl⟩
    have hw : wrap64 (e - x) = (m : Int) := by rw [w64 (by omega) (by omega)]; omega
    simp only [h3, if_false, hw]
    refine Ev.bind (Zeros_ev (by omega)) ?_
    have hc : (digB (vB s)).size + (zerosB m).size ≤ 9223372036854775807 := by rw [zerosB_size]; omega
    simp only [hc, if_true]
    refine evIs (Ev.now _) ?_
    apply B_ext
    rw [B_append, digB_list, digB_list, zerosB_list]
    unfold atE
    rw [digs_pow h0, ← hm]
end Go.Proofs.YtbjaiphfehnncaaDoor.Px
end
section
namespace Go.Proofs.YtbjaiphfehnncaaDoor.Px
open Fig Go.RowKit Go.Proofs.YtbjaiphfehnncaaDoorW.PrintWords Go.Proofs.YtbjaiphfehnncaaDoorW.PrintLast Go.Proofs.YtbjaiphfehnncaaDoorW.PrintMore
attribute [local go_sem] max2_int min2_int max_two min_two max_three min_three max_four min_four   -- for this text's walks alone
attribute [local go_sem] fieldA23_0 fieldA23_1 fieldA23_2
theorem Less_eq (m n : Nat) : figureheadref01_Less.f (digB m) (digB n) = some (decide (m < n)) := by
  unfold figureheadref01_Less.f
  rw [digB_size, digB_size]
  by_cases h : (digs m).length = (digs n).length
  · rw [if_pos (by omega)]
    rw [ByteArray.toList_eq, ByteArray.toList_eq, digB_list, digB_list, less_same (digs_dig m) (digs_dig n) h, digs_val, digs_val]
  · rw [if_neg (by omega)]
    congr 1
    rw [decide_eq_decide]
    constructor
    · intro h1; exact digs_len_lt (by omega)
    · intro h1
      rcases Nat.lt_or_ge (digs m).length (digs n).length with h2 | h2
      · omega
      · have := digs_len_lt (m := n) (n := m) (by omega); omega
end Go.Proofs.YtbjaiphfehnncaaDoor.Px
end
section
namespace Go.Proofs.YtbjaiphfehnncaaDoor.Px
open Fig Go.RowKit Go.Proofs.YtbjaiphfehnncaaDoorW.PrintWords Go.Proofs.YtbjaiphfehnncaaDoorW.PrintLast Go.Proofs.YtbjaiphfehnncaaDoorW.PrintMore
attribute [local go_sem] max2_int min2_int max_two min_two max_three min_three max_four min_four   -- for this text's walks alone
attribute [local go_sem] fieldA23_0 fieldA23_1 fieldA23_2
theorem nD_nought_list (n : Nat) : (nD n).toList = ([48] : List UInt8) ↔ n = 0 := by
  rw [← nD_nought_iff]
  constructor
  · intro h; apply B_ext; rw [← ByteArray.toList_eq, h]; rfl
  · intro h; rw [h, ByteArray.toList_eq]; rfl
theorem plainP (b : Bool) (n : Nat) (x : Int) : figureheadref05_plain.f b (nD n) x = some (b && decide (n ≠ 0), nD n, x) := by
  unfold figureheadref05_plain.f
  by_cases h : n = 0
  · rw [if_pos ((nD_nought_list n).2 h)]; simp [h]
  · rw [if_neg (fun hh => h ((nD_nought_list n).1 hh))]; simp [h]
end Go.Proofs.YtbjaiphfehnncaaDoor.Px
end
section
namespace Go.Proofs.YtbjaiphfehnncaaDoor.Px
open Fig Go.RowKit Go.Proofs.YtbjaiphfehnncaaDoorW.PrintWords Go.Proofs.YtbjaiphfehnncaaDoorW.PrintLast Go.Proofs.YtbjaiphfehnncaaDoorW.PrintMore
attribute [local go_sem] max2_int min2_int max_two min_two max_three min_three max_four min_four   -- for this text's walks alone
attribute [local go_sem] fieldA23_0 fieldA23_1 fieldA23_2
theorem digB_bt {n : Nat} (h : n ≠ 0) : bt (digB n) (((digB n).size : Int) - 1) = ((48 + n % 10 : Nat) : Int) := by
  have hs := digB_ten_size h
  have hl := digB_ten_last h
  have hlt : (digB (n / 10)).size < (digB n).size := by omega
  rw [show ((digB n).size : Int) - 1 = ((digB (n / 10)).size : Int) by omega, bt_get hlt]
  have hg := List.getElem?_eq_getElem (l := (digB n).data.toList) (i := (digB (n / 10)).size) (by rw [← size_eq]; exact hlt)
  rw [hl] at hg
  rw [← Option.some.inj hg, dig_toNat]
theorem Norm05_loop (b b2 : Bool) (s2 : ByteArray) (e2 : Int) : ∀ (d n : Nat) (e : Int), n ≠ 0 → n < d → (digB n).size ≤ 1000000 → -1000000 ≤ e → e + ((digB n).size : Int) ≤ 2000000 → Ev (fun k => figureheadref05_Norm.l0 k (digB n) e b s2 e2) (b, nD n, nE n e)
  | 0, n, e, h0, hd, hz, h1, h2 => absurd hd (by omega)
  | d + 1, n, e, h0, hd, hz, h1, h2 => by
    have hs := digB_ten_size h0
    have hb := digB_bt h0
    have hw : wrap64 (((digB n).size : Int) - 1) = ((digB n).size : Int) - 1 := w64 (by omega) (by omega)
    by_cases hm : n % 10 = 0
    · have h3 : n / 10 ≠ 0 := by omega
      have h4 : n / 10 < d := by have := div10_lt h0; omega
      have e1 : nD n = nD (n / 10) := by
        conv => lhs; rw [show n = n / 10 * 10 ^ 1 by omega]
        exact nD_pow _ _
      have e2' : nE n e = nE (n / 10) (e + 1) := by
        conv => lhs; rw [show n = n / 10 * 10 ^ 1 by omega]
        exact nE_pow _ _ _
      rw [e1, e2']
      refine Ev.step (f := fun k => figureheadref05_Norm.l0 k (digB (n / 10)) (e + 1) b s2 e2) (fun k => ?_) (Norm05_loop b b2 s2 e2 d (n / 10) (e + 1) h3 h4 (by omega) (by omega) (by omega))
      simp only [figureheadref05_Norm.l0]
      rw [hw, if_pos (by omega), if_pos (by omega), hb, if_pos (by omega), if_pos (by omega), w64 (x := e + 1) (by omega) (by omega)]
      rw [show (((digB n).size : Int) - 1).toNat = (digB (n / 10)).size by omega, digB_ten_init h0]
    · rw [nD_of hm, nE_of hm]
      refine evDone (r' := (b, digB n, e)) (fun k => ?_) rfl
      simp only [figureheadref05_Norm.l0]
      rw [hw, if_pos (by omega), if_pos (by omega), hb, if_neg (by omega)]
theorem Norm05_any {b : Bool} {s : ByteArray} {e : Int} (hd : dB s = true) (hz : s.size ≤ 1000000) (h1 : -1000000 ≤ e) (h2 : e ≤ 1000000) : Ev (fun k => figureheadref05_Norm.f k b s e) (b, nD (vB s), nE (vB s) e) := by
  have hv : (digB (vB s)).size ≤ s.size := digs_size_lt (vB_lt hd)
  unfold figureheadref05_Norm.f
  refine Ev.bind (StripD_ev (by omega) hd) ?_
  by_cases h0 : vB s = 0
  · simp only [digB_toList_nil.2 h0, if_true]
    rw [h0]
    exact Ev.now _
  · have h3 : ¬ (digB (vB s)).toList = ([] : List UInt8) := fun hh => h0 (digB_toList_nil.1 hh)
    simp only [h3, if_false]
    exact Norm05_loop b b s e (vB s + 1) (vB s) e h0 (by omega) (by omega) (by omega) (by omega)
end Go.Proofs.YtbjaiphfehnncaaDoor.Px
end
section
namespace Go.Proofs.YtbjaiphfehnncaaDoor.Px
open Fig Go.RowKit Go.Proofs.YtbjaiphfehnncaaDoorW.PrintWords Go.Proofs.YtbjaiphfehnncaaDoorW.PrintLast Go.Proofs.YtbjaiphfehnncaaDoorW.PrintMore
attribute [local go_sem] max2_int min2_int max_two min_two max_three min_three max_four min_four   -- for this text's walks alone
attribute [local go_sem] fieldA23_0 fieldA23_1 fieldA23_2
theorem vB_nought_append (s : ByteArray) : vB ((⟨#[48]⟩ : ByteArray) ++ s) = vB s := by
  rw [vB_append, show vB (⟨#[48]⟩ : ByteArray) = 0 from rfl, Nat.zero_mul, Nat.zero_add]
theorem Make_ev {b : Bool} {s : ByteArray} {e : Int} (hd : dB s = true) (hz : s.size ≤ 900000) (h1 : -1000000 ≤ e) (h2 : e ≤ 1000000) : Ev (fun k => figureheadref05_Make.f k b s e) (b, nD (vB s), nE (vB s) e) := by
  unfold figureheadref05_Make.f
  refine evT (by omega) ?_
  have hs : ((⟨#[48]⟩ : ByteArray) ++ s).size = 1 + s.size := by rw [ByteArray.size_append]; rfl
  have := Norm05_any (b := b) (s := (⟨#[48]⟩ : ByteArray) ++ s) (e := e) (dB_append.2 ⟨rfl, hd⟩) (by omega) h1 h2
  rw [vB_nought_append] at this
  exact Ev.bind this (Ev.now _)
theorem MakeD_ev {b : Bool} {n : Nat} {e : Int} (hz : (digB n).size ≤ 900000) (h1 : -1000000 ≤ e) (h2 : e ≤ 1000000) : Ev (fun k => figureheadref05_Make.f k b (digB n) e) (b, nD n, nE n e) := by
  have := Make_ev (b := b) (s := digB n) (e := e) (dB_digB n) hz h1 h2
  rwa [vB_digB] at this
end Go.Proofs.YtbjaiphfehnncaaDoor.Px
end
section
namespace Go.Proofs.YtbjaiphfehnncaaDoor.Px
open Fig Go.RowKit Go.Proofs.YtbjaiphfehnncaaDoorW.PrintWords Go.Proofs.YtbjaiphfehnncaaDoorW.PrintLast Go.Proofs.YtbjaiphfehnncaaDoorW.PrintMore
attribute [local go_sem] max2_int min2_int max_two min_two max_three min_three max_four min_four   -- for this text's walks alone
attribute [local go_sem] fieldA23_0 fieldA23_1 fieldA23_2
theorem sub_step (p q c : Nat) (hp : p ≤ 9) (hq : q ≤ 9) (hc : c ≤ 1) : wrap64 (wrap64 ((p : Int) - (q : Int)) - (c : Int)) = (p : Int) - (q : Int) - (c : Int) := by
  rw [w64 (x := (p : Int) - (q : Int)) (by omega) (by omega), w64 (by omega) (by omega)]
theorem sub_neg (p q c : Nat) (hp : p ≤ 9) (hq : q ≤ 9) (hc : c ≤ 1) (h : p < q + c) : (wrap64 (48 + wrap64 ((p : Int) - (q : Int) - (c : Int) + 10))) % 256 = ((48 + (p + 10 - q - c) : Nat) : Int) := by
  rw [w64 (x := (p : Int) - (q : Int) - (c : Int) + 10) (by omega) (by omega), w64 (by omega) (by omega)]; omega
theorem sub_pos (p q c : Nat) (hp : p ≤ 9) (hq : q ≤ 9) (hc : c ≤ 1) (h : q + c ≤ p) : (wrap64 (48 + ((p : Int) - (q : Int) - (c : Int)))) % 256 = ((48 + (p - q - c) : Nat) : Int) := by
  rw [w64 (by omega) (by omega)]; omega
theorem Minus_loop (a b : ByteArray) (ha : dB a = true) (hb : dB b = true) (la : a.size ≤ 100000000000) (lb : b.size ≤ 100000000000) : ∀ (d k : Nat) (x : List Int) (c : Nat), a.size - k = d → k ≤ a.size → c ≤ 1 → x.length = k → digL (ob x) = true → c + rv ((rs b).drop k) ≤ rv ((rs a).drop k) →
    Ev (fun j => figureheadref01_Minus.l0 j a b x (c : Int) (k : Int)) (digB (rv (ob x) + 10 ^ k * (rv ((rs a).drop k) - rv ((rs b).drop k) - c)))
  | 0, k, x, c, h1, h2, hc, hx, hd, hle => by
    refine evIs (Ev.step (fun j => ?_) (turnedStrip_ev (l := x) (by omega) hd)) ?_
    · simp only [figureheadref01_Minus.l0]; rw [if_neg (by omega)]
    · rw [rv_rest_end (s := a) (by omega)]; simp
  | d + 1, k, x, c, h1, h2, hc, hx, hd, hle => by
    have da := dg_le ha k
    have db := dg_le hb k
    rw [rv_rest a k, rv_rest b k] at hle ⊢
    by_cases hneg : dg a k < dg b k + c
    · obtain ⟨o1, o2⟩ := ob_snoc x (c := dg a k + 10 - dg b k - c) (by omega) hd
      refine Ev.step (f := fun j => figureheadref01_Minus.l0 j a b (x ++ [((48 + (dg a k + 10 - dg b k - c) : Nat) : Int)]) ((1 : Nat) : Int) ((k + 1 : Nat) : Int)) (fun j => ?_) ?_
      · simp only [figureheadref01_Minus.l0]
        rw [if_pos (by omega), digit_eq ha (by omega) (by omega), digit_eq hb (by omega) (by omega)]
        simp only [Option.bind_some]
        rw [sub_step _ _ _ da db hc, if_pos (by omega), if_pos (by omega), sub_neg _ _ _ da db hc hneg, w64 (by omega) (by omega)]; rfl
      · refine evIs (Minus_loop a b ha hb la lb d (k + 1) _ 1 (by omega) (by omega) (by omega) (by simp [hx]) o1 (by omega)) ?_
        rw [o2, hx, Nat.pow_succ, Nat.mul_assoc, Nat.add_assoc, ← Nat.mul_add]
        congr 2; congr 1; omega
    · obtain ⟨o1, o2⟩ := ob_snoc x (c := dg a k - dg b k - c) (by omega) hd
      refine Ev.step (f := fun j => figureheadref01_Minus.l0 j a b (x ++ [((48 + (dg a k - dg b k - c) : Nat) : Int)]) ((0 : Nat) : Int) ((k + 1 : Nat) : Int)) (fun j => ?_) ?_
      · simp only [figureheadref01_Minus.l0]
        rw [if_pos (by omega), digit_eq ha (by omega) (by omega), digit_eq hb (by omega) (by omega)]
        simp only [Option.bind_some]
        rw [sub_step _ _ _ da db hc, if_neg (by omega), if_pos (by omega), sub_pos _ _ _ da db hc (by omega), w64 (by omega) (by omega)]; rfl
      · refine evIs (Minus_loop a b ha hb la lb d (k + 1) _ 0 (by omega) (by omega) (by omega) (by simp [hx]) o1 (by omega)) ?_
        rw [o2, hx, Nat.pow_succ, Nat.mul_assoc, Nat.add_assoc, ← Nat.mul_add]
        congr 2; congr 1; omega
theorem Minus_ev {a b : ByteArray} (ha : dB a = true) (hb : dB b = true) (la : a.size ≤ 100000000000) (lb : b.size ≤ 100000000000) (hle : vB b ≤ vB a) : Ev (fun k => figureheadref01_Minus.f k a b) (digB (vB a - vB b)) := by
  refine evIs (Minus_loop a b ha hb la lb a.size 0 [] 0 (by omega) (by omega) (by omega) rfl rfl (by simpa [rs, vB] using hle)) ?_
  simp [ob, rv, vB, rs]
end Go.Proofs.YtbjaiphfehnncaaDoor.Px
end
section
namespace Go.Proofs.YtbjaiphfehnncaaDoor.Px
open Fig Go.RowKit Go.Proofs.YtbjaiphfehnncaaDoorW.PrintWords Go.Proofs.YtbjaiphfehnncaaDoorW.PrintLast Go.Proofs.YtbjaiphfehnncaaDoorW.PrintMore
attribute [local go_sem] max2_int min2_int max_two min_two max_three min_three max_four min_four   -- for this text's walks alone
attribute [local go_sem] fieldA23_0 fieldA23_1 fieldA23_2
theorem Sum05_end {b : Bool} {v : Nat} {m : Int} (hz : (digB v).size ≤ 900000) (h1 : -1000000 ≤ m) (h2 : m ≤ 1000000) : Ev (fun k => (figureheadref05_Make.f k b (digB v) m).bind fun t => (figureheadref05_plain.f t.1 t.2.1 t.2.2).bind fun u => some (u.1, u.2.1, u.2.2)) (resD (sg b v) m) := by
  refine Ev.bind (MakeD_ev hz h1 h2) (evE (plainP b v _) ?_)
  rw [resD_sg]; exact Ev.now _
theorem Sum05_j0 {a b : Bool} {s t : ByteArray} {e f m : Int} (h : OkS s e) (g : OkS t f) (h1 : m ≤ e) (h2 : m ≤ f) (h3 : -10000 ≤ m) : Ev (fun k => figureheadref05_Sum.j0 k m a s e b t f) (sumD a (vB s) e b (vB t) f) := by
  rw [sumD_at h1 h2]
  have hs := h.ok.val
  have hsz := h.sz
  have hhi := h.hi
  have gs := g.ok.val
  have gsz := g.sz
  have ghi := g.hi
  have x1 := size_vZ a (n := vB s) (p := 10000) e m (by omega)
  have y1 := size_vZ b (n := vB t) (p := 10000) f m (by omega)
  rw [vZ_natAbs] at x1 y1
  unfold vZ
  refine Ev.step (fun k => by simp only [figureheadref05_Sum.j0]; rfl) ?_
  refine Ev.bind (At05_ev h.ok h1 (by omega)) (Ev.bind (At05_ev g.ok h2 (by omega)) ?_)
  obtain ⟨x, hx⟩ : ∃ x, x = atE (vB s) e m := ⟨_, rfl⟩
  obtain ⟨y, hy⟩ : ∃ y, y = atE (vB t) f m := ⟨_, rfl⟩
  rw [← hx, ← hy]
  rw [← hx] at x1
  rw [← hy] at y1
  have x2 : (digB x).size ≤ 30000 := by omega
  have y2 : (digB y).size ≤ 30000 := by omega
  cases hab : (a == b)
  · refine evF (by decide) (evE (Less_eq x y) ?_)
    by_cases hl : x < y
    · refine evT (decide_eq_true hl) (Ev.bind (Minus_ev (dB_digB _) (dB_digB _) (by omega) (by omega) (by rw [vB_digB, vB_digB]; omega)) ?_)
      rw [vB_digB, vB_digB, sg_sub' hab (by omega)]
      have := digB_mono (Nat.sub_le y x) y2
      exact Sum05_end (by omega) (by omega) (by omega)
    · refine evF (by simpa using hl) (Ev.bind (Minus_ev (dB_digB _) (dB_digB _) (by omega) (by omega) (by rw [vB_digB, vB_digB]; omega)) ?_)
      rw [vB_digB, vB_digB, sg_sub hab (by omega)]
      have := digB_mono (Nat.sub_le x y) x2
      exact Sum05_end (by omega) (by omega) (by omega)
  · obtain rfl := beq_iff_eq.1 hab
    refine evT rfl (Ev.bind (Plus_ev (dB_digB _) (dB_digB _) (by omega) (by omega)) ?_)
    rw [vB_digB, vB_digB, sg_add]
    have := digB_add_le x2 y2
    exact Sum05_end (by omega) (by omega) (by omega)
theorem Sum05_ev {a b : Bool} {s t : ByteArray} {e f : Int} (h : OkS s e) (g : OkS t f) : Ev (fun k => figureheadref05_Sum.f k a s e b t f) (sumD a (vB s) e b (vB t) f) := by
  unfold figureheadref05_Sum.f
  by_cases hc : f < e
  · exact evT hc (Sum05_j0 h g (by omega) (by omega) g.lo)
  · exact evF hc (Sum05_j0 h g (by omega) (by omega) h.lo)
end Go.Proofs.YtbjaiphfehnncaaDoor.Px
end
section
namespace Go.Proofs.YtbjaiphfehnncaaDoor.Px
open Fig Go.RowKit Go.Proofs.YtbjaiphfehnncaaDoorW.PrintWords Go.Proofs.YtbjaiphfehnncaaDoorW.PrintLast Go.Proofs.YtbjaiphfehnncaaDoorW.PrintMore
attribute [local go_sem] max2_int min2_int max_two min_two max_three min_three max_four min_four   -- for this text's walks alone
attribute [local go_sem] fieldA23_0 fieldA23_1 fieldA23_2
theorem ArithAdds_pure (a0_0 : Bool) (a0_1 : ByteArray) (a0_2 : Int) (a1_0 : Bool) (a1_1 : ByteArray) (a1_2 : Int) (w0_1 : a0_1.size ≤ 140737488351232) (w0_2 : (Lit.int .i64 a0_2).wf = true) (w1_1 : a1_1.size ≤ 140737488351232) (w1_2 : (Lit.int .i64 a1_2).wf = true) : ∃ k, figureheadlaw06_ArithAdds.f k a0_0 a0_1 a0_2 a1_0 a1_1 a1_2 = some true := by
  refine Ev.rounds (g := fun k => figureheadlaw06_ArithAdds.f k a0_0 a0_1 a0_2 a1_0 a1_1 a1_2) ?_
  unfold figureheadlaw06_ArithAdds.f
  refine Ev.bind (good06_ev (by simp) (by simp; exact ⟨w0_1, w1_1⟩)) ?_
  cases hg : [(⟨a0_0, a0_1, a0_2⟩ : S23), (⟨a1_0, a1_1, a1_2⟩ : S23)].all fun x => goodD x.f1 x.f2 && decide (x.f1.size ≤ 200)
  · exact evF (by decide) (Ev.bind answers06_ev (Ev.now true))
  obtain ⟨⟨g1, z1⟩, g2, z2⟩ : (goodD a0_1 a0_2 = true ∧ a0_1.size ≤ 200) ∧ goodD a1_1 a1_2 = true ∧ a1_1.size ≤ 200 := by simpa using hg
  have ok1 := OkS.of_good g1
  have ok2 := OkS.of_good g2
  refine evT rfl (Ev.bind answers06_ev (evT rfl (evE (addP ok1 ok2) (Ev.bind (Sum05_ev ok1 ok2) (evT (by simp) (evE (subP ok1 ok2) (evE (a := (!a1_0, a1_1, a1_2)) rfl (Ev.bind (Sum05_ev ok1 ok2) ?_))))))))
  exact evIs (Ev.now _) (by simp)
end Go.Proofs.YtbjaiphfehnncaaDoor.Px
end
section
namespace Go.Proofs.YtbjaiphfehnncaaDoorW.PrintWords
open Go.ChangeShapes Go.WideShapes
end Go.Proofs.YtbjaiphfehnncaaDoorW.PrintWords
end
section
namespace Fig
open Go Go.ChangeShapes
end Fig
end
section
namespace Fig
open Go Go.Proofs Go.Proofs.YtbjaiphfehnncaaDoor
set_option maxRecDepth 100000
def plainL : List (String × DataW Unit) := [("unicode/utf8.acceptRanges", Rows.laid_unicode_utf8_acceptRanges), ("figurehead/ten.powers", Rows.laid_figurehead_ten_powers), ("unicode/utf8.first", Rows.laid_unicode_utf8_first)]
def laidL : List (String × DataW Unit) := [("unicode/utf8.acceptRanges", Rows.laid_unicode_utf8_acceptRanges), ("figurehead/ten.powers", Rows.laid_figurehead_ten_powers), ("unicode/utf8.first", Rows.laid_unicode_utf8_first)]
noncomputable def startW (os : Os) : World := World.laidAll Tryd.prog os plainL
theorem startW_os (os : Os) : (startW os).os = os := World.laidAll_os _ _ _
theorem met (os : Os) (args : Array Value) : laidMetH Tryd.prog laidL ((startW os).forCall (fun _ _ => 0) ⟨#[], args, []⟩).memory := by
  rw [MakeChecks.laidMetH_plain _ _ _ (by kernel_rfl)]; exact laidMet_laidAll _ (by kernel_rfl) (by kernel_rfl)
theorem plainFilter : (laidL.filter fun x => x.2.handleName?.isNone) = plainL := by kernel_rfl
theorem plain_of {W : World} (h : laidMetH Tryd.prog laidL W) : laidMet Tryd.prog plainL W := plainFilter ▸ (laidMetH_iff.1 h).1
theorem pows_of {W : World} (h : laidMetH Tryd.prog laidL W) : ∀ i, i < 9 → W.cell? ⟨0, i, none⟩ = some (.int .u32 (([1, 10, 100, 1000, 10000, 100000, 1000000, 10000000, 100000000] : List Int).getD i 0)) := by
  have gN : Tryd.prog.globalNamed "figurehead/ten.powers" = some 0 := by kernel_rfl
  have gT : (Tryd.prog.globals[0]?).map (·.type) = some 72 := by kernel_rfl
  have hT := Lib.tabIs_of_head (k := .u32) (zs := [1, 10, 100, 1000, 10000, 100000, 1000000, 10000000, 100000000]) gN gT Tryd.underlying72 Tryd.underlying47 (by kernel_rfl) (by kernel_rfl) (laidMet.tail (plain_of h))
  exact fun i hi => hT.cell gN i hi
theorem of_laid {W : World} (h : laidMetH Tryd.prog laidL W) : Glob W := ⟨pows_of h⟩
end Fig
end
section
namespace Fig
open Go Go.ChangeShapes Go.WideShapes Go.RowKit Go.Deep Go.WideElems Go.Joins
theorem open_dec {H : Type} {enc : TypeId × Value → H} {P : Program} {w : World} {base : Nat} {spare : Nat → Bool} {held : Bool} {r : Reach} {b0 : Nat} {t : TypeId} {f0 f1 f2 : Field} {v : Value} {d : DataW H} {p : List MemPlace} {k : IntKind} (hs : P.underlying t = some (.struct #[f0, f1, f2])) (hone : oneCellFields P #[f0, f1, f2] = true) (hC : P.cellsOf t = 3)
    (u0 : P.underlying f0.type = some .bool) (u1 : P.underlying f1.type = some .string) (u2 : P.underlying f2.type = some (.int k)) (hv : Value.okWide P w r b0 t v) (h : DataW.Trod enc P w base spare held t v d p) :
    ∃ (x : Bool) (s : ByteArray) (n : Int), v = .agg #[.bool x, .string s, .int k n] ∧ d = .agg [.lit (.bool x), .lit (.string s.data.toList), .lit (.int k n)] ∧ p = [] ∧ s.size ≤ maxLen ∧ (Lit.int k n).wf = true := by
  obtain ⟨v0, v1, v2, y0, y1, y2, n, rfl, rfl, rfl, h0, h1, h2⟩ := open_agg3 hs hone hC hv h
  obtain ⟨x, e0, rfl⟩ := DataW.trod_bool u0 h0
  obtain ⟨s, e1, rfl, hl⟩ := DataW.trod_string u1 h1
  obtain ⟨m, e2, rfl, hw⟩ := DataW.trod_int u2 h2
  simp only [List.cons.injEq, and_true] at e0 e1 e2
  subst e0 e1 e2
  exact ⟨x, s, m, rfl, rfl, rfl, hl, hw⟩
theorem shut_dec {H : Type} {enc : TypeId × Value → H} {P : Program} {w : World} {base : Nat} {spare : Nat → Bool} {held : Bool} {t : TypeId} {f0 f1 f2 : Field} {k : IntKind} {x : Bool} {s : ByteArray} {n : Int} (hs : P.underlying t = some (.struct #[f0, f1, f2])) (hone : oneCellFields P #[f0, f1, f2] = true) (hC : P.cellsOf t = 3)
    (u0 : P.underlying f0.type = some .bool) (u1 : P.underlying f1.type = some .string) (u2 : P.underlying f2.type = some (.int k)) (hl : s.size ≤ maxLen) (hw : (Lit.int k n).wf = true) :
    DataW.Trod enc P w base spare held t (.agg #[.bool x, .string s, .int k n]) (.agg [.lit (.bool x), .lit (.string s.data.toList), .lit (.int k n)]) [] :=
  shut_agg3 (y0 := (.lit (.bool x), [])) (y1 := (.lit (.string s.data.toList), [])) (y2 := (.lit (.int k n), [])) hs hone hC ⟨1, by simp [DataW.trod, u0]⟩ ⟨1, by simp [DataW.trod, u1, hl]⟩ ⟨1, by simp [DataW.trod, u2, hw]⟩
theorem sized_dec {H : Type} {P : Program} {ts : List TypeId} {ds : List (DataW H)} (h : (DataW.weightsEach P ts ds).all (· ≤ reachBytes) = true) {j : Nat} {t : TypeId} {f0 f1 f2 : Field} {x y : DataW H} {bytes : List UInt8} (ht : ts[j]? = some t) (hd : ds[j]? = some (.agg [x, .lit (.string bytes), y])) (hs : P.underlying t = some (.struct #[f0, f1, f2])) : bytes.length ≤ reachBytes := by
  have := List.all_eq_true.1 h _ (DataW.weights_mem_each ht hd bytes.length (by simp [DataW.weights, DataW.weightsEach, hs]))
  simpa using this
end Fig
end
