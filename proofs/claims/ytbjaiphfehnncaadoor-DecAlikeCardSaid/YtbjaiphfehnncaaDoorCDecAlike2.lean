/- The functions that the law DecAlike reaches, told as plain functions, with what is proved of them (part 2). -/
import Derived.Test.YtbjaiphfehnncaaDoorPx0
import Derived.Test.YtbjaiphfehnncaaDoorCDecAlike1
import Derived.Test.YtbjaiphfehnncaaDoorCDecAlike0
set_option linter.unusedVariables false
set_option linter.unusedSimpArgs false
namespace Go.Proofs.YtbjaiphfehnncaaDoor.Px
open Fig Go.RowKit Go.Proofs.YtbjaiphfehnncaaDoorW.PrintWords Go.Proofs.YtbjaiphfehnncaaDoorW.PrintLast Go.Proofs.YtbjaiphfehnncaaDoorW.PrintMore
attribute [local go_sem] max2_int min2_int max_two min_two max_three min_three max_four min_four   -- for this text's walks alone

attribute [local go_sem] fieldA23_0 fieldA23_1 fieldA23_2
/-! ### figureheadref05_Ranged: function 31 -/
def figureheadref05_Ranged.f (k : Nat) (a0_0 : Bool) (a0_1 : ByteArray) (a0_2 : Int) : Option (Bool) := (figureheadref05_Norm.f k a0_0 a0_1 a0_2).bind fun bt242 => (if bt242.2.1.toList = ([48] : List UInt8) then (some true) else (if bt242.2.2 ≥ (-300) then (some (decide ((wrap64 (bt242.2.2 + (bt242.2.1.size : Int))) ≤ 300))) else (some false)))
theorem figureheadref05_Ranged.mono : ∀ a0 a1 a2 k, LeO (figureheadref05_Ranged.f k a0 a1 a2) (figureheadref05_Ranged.f (k + 1) a0 a1 a2) := by
  intro a0 a1 a2 k
  unfold figureheadref05_Ranged.f
  repeat' first
      | (with_reducible exact figureheadref05_Norm.mono _ _ _ _)
      | (with_reducible exact LeO.refl _)
      | (with_reducible exact LeO.none _)
      | (with_reducible refine LeO.ite ?_ ?_)
      | (with_reducible refine LeO.bind ?_ (fun _ => ?_))
      | exact figureheadref05_Norm.mono _ _ _ _
      | exact LeO.none _
      | refine LeO.ite ?_ ?_
      | refine LeO.bind ?_ (fun _ => ?_)
set_option maxHeartbeats 8000000 in
set_option maxRecDepth 100000 in
theorem figureheadref05_Ranged.calls (k : Nat) (a0_0 : Bool) (a0_1 : ByteArray) (a0_2 : Int) (r : Bool) (w : World) (h : figureheadref05_Ranged.f k a0_0 a0_1 a0_2 = some r) :
    Calls Tryd.prog 31 #[.agg #[.bool a0_0, .string a0_1, .int .i64 a0_2]] w fun e w' => e = .returned (.bool r) ∧ Below w.heap.size w w' := by
  have hu23 := Tryd.underlying23
  have HB := Aside0.mk (Below.refl w.heap.size w)
  have H : ((figureheadref05_Norm.f k a0_0 a0_1 a0_2).bind fun bt242 => (if bt242.2.1.toList = ([48] : List UInt8) then (some true) else (if bt242.2.2 ≥ (-300) then (some (decide ((wrap64 (bt242.2.2 + (bt242.2.1.size : Int))) ≤ 300))) else (some false)))) = some r := h
  clear h
  replace H := Option.bind_eq_some_iff.mp H
  obtain ⟨⟨t242, t243, t244⟩, A20, H⟩ := H
  replace H : (if t243.toList = ([48] : List UInt8) then (some true) else (if t244 ≥ (-300) then (some (decide ((wrap64 (t244 + (t243.size : Int))) ≤ 300))) else (some false))) = some r := H
  have A2 := Aside0.mk A20
  clear A20
  by_cases c3 : t243.toList = ([48] : List UInt8)
  · rw [if_pos c3] at H
    have c3b0 : (t243.toList == ([48] : List UInt8)) = true := beq_iff_eq.mpr c3
    have c3b1 : (t243.toList != ([48] : List UInt8)) = false := bne_eq_false_iff_eq.mpr c3
    clear c3
    obtain rfl := Option.some.inj H
    go_enter Tryd.func31, Tryd.ntmps31
    go_wp2_with (first | ((with_reducible refine gate_dst (N := 1) rfl ?_); (try (refine gate_guard (by rfl) ?_; dsimp only)); refine box_event ?hg (N := 1) ?hd (cs := #[.bool a0_0, .string a0_1, .int .i64 a0_2]) (t := 23) ?hr ?_; (case hd => rfl); (case hg => rfl); (case hr => first | (go_simp; done) | (go_simp; rfl)); intro gb241 hg w4 hbox hb; have n0_ := Aside0.mk (below_step (by repeat (first | (with_reducible first | exact HB.out | apply below_alloc | apply pw_below_drewN | apply below_drew1) | exact HB.out)) hb); have n1_ := Aside0.mk (hbox); have n2_ := Aside0.mk ((by rw [hg]; exact (below_size (by repeat (first | (with_reducible first | exact HB.out | apply below_alloc | apply pw_below_drewN | apply below_drew1) | exact HB.out))) : w.heap.size ≤ gb241)); have n3_ := Aside0.mk ((by rw [hg]; exact (below_size (by repeat (first | (with_reducible first | exact HB.out | apply below_alloc | apply pw_below_drewN | apply below_drew1) | exact HB.out))) : w.heap.size ≤ gb241)); clear HB; have HB := n0_; have BK241 := n1_; have GW241 := n2_; have GE241 := n3_; clear n0_ n1_ n2_ n3_; clear hb hbox hg; have hcz5_0 : w4.cell? ⟨gb241, 0, none⟩ = some (.bool a0_0) := (blk_cell BK241.out 0).trans rfl; have hcz5_1 : w4.cell? ⟨gb241, 1, none⟩ = some (.string a0_1) := (blk_cell BK241.out 1).trans rfl; have hcz5_2 : w4.cell? ⟨gb241, 2, none⟩ = some (.int .i64 a0_2) := (blk_cell BK241.out 2).trans rfl; have hfz5_0 := blk_frozen BK241.out 0; have hfz5_1 := blk_frozen BK241.out 1; have hfz5_2 := blk_frozen BK241.out 2) | ((with_reducible refine gate_callee (f := 19) rfl ?_); refine goesL_ (some 5) rfl rfl Tryd.func19 (by kernel_rfl) rfl #[.agg #[.bool a0_0, .string a0_1, .int .i64 a0_2]] rfl (by (try simp only [List.map_toArray]); (try simp only [List.map_cons]); (try simp only [List.map_nil]); first | done | rfl | (simp only [List.length_drop, List.length_take]; rfl)) ?_; (with_reducible refine (figureheadref05_Norm.calls k a0_0 a0_1 a0_2 t242 t243 t244 _ A2.out).mono ?_); rintro e w6 ⟨rfl, hb⟩; refine ⟨_, rfl, ?_⟩; have n0_ := Aside0.mk (blk_below (g := gb241) (o := .cells #[.bool a0_0, .string a0_1, .int .i64 a0_2] 23 (0, 0)) (by (with_reducible repeat (first | refine blk_drewN ?_ _ | refine blk_drew ?_ | refine blk_alloc ?_ _)); exact BK241.out) hb); have n1_ := Aside0.mk (below_step (by repeat (first | (with_reducible first | exact HB.out | apply below_alloc | apply pw_below_drewN | apply below_drew1 | refine below_set ?_ GE241.out) | exact HB.out)) hb); clear BK241; clear HB; have BK241 := n0_; have HB := n1_; clear n0_ n1_; (try clear hb); (try clear hb2); (try clear hk); (try clear hi)) | ((with_reducible refine gate_dst (N := 3) rfl ?_); (try (refine gate_guard (by rfl) ?_; dsimp only)); refine box_event ?hg (N := 3) ?hd (cs := #[.bool false, .string (⟨#[]⟩ : ByteArray), .int .i64 0]) (t := 23) ?hr ?_; (case hd => rfl); (case hg => rfl); (case hr => first | (go_simp; done) | (go_simp; rfl)); intro gb245 hg w7 hbox hb; have n0_ := Aside0.mk (blk_below (g := gb241) (o := .cells #[.bool a0_0, .string a0_1, .int .i64 a0_2] 23 (0, 0)) (by (with_reducible repeat (first | refine blk_drewN ?_ _ | refine blk_drew ?_ | refine blk_alloc ?_ _)); exact BK241.out) hb); have n1_ := Aside0.mk (below_step (by repeat (first | (with_reducible first | exact HB.out | apply below_alloc | apply pw_below_drewN | apply below_drew1 | refine below_set ?_ GE241.out) | exact HB.out)) hb); have n2_ := Aside0.mk (hbox); have n3_ := Aside0.mk ((by rw [hg]; exact (below_size (by repeat (first | (with_reducible first | exact HB.out | apply below_alloc | apply pw_below_drewN | apply below_drew1 | refine below_set ?_ GE241.out) | exact HB.out))) : w.heap.size ≤ gb245)); have n4_ := Aside0.mk ((by rw [hg]; exact (below_size (by repeat (first | (with_reducible first | exact HB.out | apply below_alloc | apply pw_below_drewN | apply below_drew1 | refine below_set ?_ GE241.out) | exact HB.out))) : w.heap.size ≤ gb245)); have n5_ := Aside0.mk ((by rw [hg]; exact Nat.ne_of_lt (blk_lt (g := gb241) (o := .cells #[.bool a0_0, .string a0_1, .int .i64 a0_2] 23 (0, 0)) (by (with_reducible repeat (first | refine blk_drewN ?_ _ | refine blk_drew ?_ | refine blk_alloc ?_ _)); exact BK241.out)) : gb241 ≠ gb245)); have n6_ := Aside0.mk ((by rw [hg]; exact Nat.ne_of_gt (blk_lt (g := gb241) (o := .cells #[.bool a0_0, .string a0_1, .int .i64 a0_2] 23 (0, 0)) (by (with_reducible repeat (first | refine blk_drewN ?_ _ | refine blk_drew ?_ | refine blk_alloc ?_ _)); exact BK241.out)) : gb245 ≠ gb241)); clear BK241; clear HB; have BK241 := n0_; have HB := n1_; have BK245 := n2_; have GW245 := n3_; have GE245 := n4_; have NB241_245 := n5_; have NB245_241 := n6_; clear n0_ n1_ n2_ n3_ n4_ n5_ n6_; clear hb hbox hg; have hnb8 := NB245_241.out; have hnc8 := NB241_245.out; have hcz9_0 : w7.cell? ⟨gb245, 0, none⟩ = some (.bool false) := (blk_cell BK245.out 0).trans rfl; have hcz9_1 : w7.cell? ⟨gb245, 1, none⟩ = some (.string (⟨#[]⟩ : ByteArray)) := (blk_cell BK245.out 1).trans rfl; have hcz9_2 : w7.cell? ⟨gb245, 2, none⟩ = some (.int .i64 0) := (blk_cell BK245.out 2).trans rfl; have hfz9_0 := blk_frozen BK245.out 0; have hfz9_1 := blk_frozen BK245.out 1; have hfz9_2 := blk_frozen BK245.out 2))
    go_ret
    exact ⟨by first | rfl | (simp [errW_none, errW_some] <;> rfl) | (simp [*, errW_none, errW_some] <;> rfl), by repeat (first | (with_reducible first | exact HB.out | apply below_alloc | apply pw_below_drewN | apply below_drew1 | refine below_set ?_ GE241.out | refine below_set ?_ GE245.out) | exact HB.out)⟩
  · rw [if_neg c3] at H
    have c3b0 : (t243.toList == ([48] : List UInt8)) = false := beq_eq_false_iff_ne.mpr c3
    have c3b1 : (t243.toList != ([48] : List UInt8)) = true := bne_iff_ne.mpr c3
    by_cases c10 : t244 ≥ (-300)
    · rw [if_pos c10] at H
      have c10b0 : decide ((-300) ≤ t244) = true := decide_eq_true c10
      clear c10
      obtain rfl := Option.some.inj H
      go_enter Tryd.func31, Tryd.ntmps31
      go_wp2_with (first | ((with_reducible refine gate_dst (N := 1) rfl ?_); (try (refine gate_guard (by rfl) ?_; dsimp only)); refine box_event ?hg (N := 1) ?hd (cs := #[.bool a0_0, .string a0_1, .int .i64 a0_2]) (t := 23) ?hr ?_; (case hd => rfl); (case hg => rfl); (case hr => first | (go_simp; done) | (go_simp; rfl)); intro gb241 hg w11 hbox hb; have n0_ := Aside0.mk (below_step (by repeat (first | (with_reducible first | exact HB.out | apply below_alloc | apply pw_below_drewN | apply below_drew1) | exact HB.out)) hb); have n1_ := Aside0.mk (hbox); have n2_ := Aside0.mk ((by rw [hg]; exact (below_size (by repeat (first | (with_reducible first | exact HB.out | apply below_alloc | apply pw_below_drewN | apply below_drew1) | exact HB.out))) : w.heap.size ≤ gb241)); have n3_ := Aside0.mk ((by rw [hg]; exact (below_size (by repeat (first | (with_reducible first | exact HB.out | apply below_alloc | apply pw_below_drewN | apply below_drew1) | exact HB.out))) : w.heap.size ≤ gb241)); clear HB; have HB := n0_; have BK241 := n1_; have GW241 := n2_; have GE241 := n3_; clear n0_ n1_ n2_ n3_; clear hb hbox hg; have hcz12_0 : w11.cell? ⟨gb241, 0, none⟩ = some (.bool a0_0) := (blk_cell BK241.out 0).trans rfl; have hcz12_1 : w11.cell? ⟨gb241, 1, none⟩ = some (.string a0_1) := (blk_cell BK241.out 1).trans rfl; have hcz12_2 : w11.cell? ⟨gb241, 2, none⟩ = some (.int .i64 a0_2) := (blk_cell BK241.out 2).trans rfl; have hfz12_0 := blk_frozen BK241.out 0; have hfz12_1 := blk_frozen BK241.out 1; have hfz12_2 := blk_frozen BK241.out 2) | ((with_reducible refine gate_callee (f := 19) rfl ?_); refine goesL_ (some 5) rfl rfl Tryd.func19 (by kernel_rfl) rfl #[.agg #[.bool a0_0, .string a0_1, .int .i64 a0_2]] rfl (by (try simp only [List.map_toArray]); (try simp only [List.map_cons]); (try simp only [List.map_nil]); first | done | rfl | (simp only [List.length_drop, List.length_take]; rfl)) ?_; (with_reducible refine (figureheadref05_Norm.calls k a0_0 a0_1 a0_2 t242 t243 t244 _ A2.out).mono ?_); rintro e w13 ⟨rfl, hb⟩; refine ⟨_, rfl, ?_⟩; have n0_ := Aside0.mk (blk_below (g := gb241) (o := .cells #[.bool a0_0, .string a0_1, .int .i64 a0_2] 23 (0, 0)) (by (with_reducible repeat (first | refine blk_drewN ?_ _ | refine blk_drew ?_ | refine blk_alloc ?_ _)); exact BK241.out) hb); have n1_ := Aside0.mk (below_step (by repeat (first | (with_reducible first | exact HB.out | apply below_alloc | apply pw_below_drewN | apply below_drew1 | refine below_set ?_ GE241.out) | exact HB.out)) hb); clear BK241; clear HB; have BK241 := n0_; have HB := n1_; clear n0_ n1_; (try clear hb); (try clear hb2); (try clear hk); (try clear hi)) | ((with_reducible refine gate_dst (N := 3) rfl ?_); (try (refine gate_guard (by rfl) ?_; dsimp only)); refine box_event ?hg (N := 3) ?hd (cs := #[.bool false, .string (⟨#[]⟩ : ByteArray), .int .i64 0]) (t := 23) ?hr ?_; (case hd => rfl); (case hg => rfl); (case hr => first | (go_simp; done) | (go_simp; rfl)); intro gb245 hg w14 hbox hb; have n0_ := Aside0.mk (blk_below (g := gb241) (o := .cells #[.bool a0_0, .string a0_1, .int .i64 a0_2] 23 (0, 0)) (by (with_reducible repeat (first | refine blk_drewN ?_ _ | refine blk_drew ?_ | refine blk_alloc ?_ _)); exact BK241.out) hb); have n1_ := Aside0.mk (below_step (by repeat (first | (with_reducible first | exact HB.out | apply below_alloc | apply pw_below_drewN | apply below_drew1 | refine below_set ?_ GE241.out) | exact HB.out)) hb); have n2_ := Aside0.mk (hbox); have n3_ := Aside0.mk ((by rw [hg]; exact (below_size (by repeat (first | (with_reducible first | exact HB.out | apply below_alloc | apply pw_below_drewN | apply below_drew1 | refine below_set ?_ GE241.out) | exact HB.out))) : w.heap.size ≤ gb245)); have n4_ := Aside0.mk ((by rw [hg]; exact (below_size (by repeat (first | (with_reducible first | exact HB.out | apply below_alloc | apply pw_below_drewN | apply below_drew1 | refine below_set ?_ GE241.out) | exact HB.out))) : w.heap.size ≤ gb245)); have n5_ := Aside0.mk ((by rw [hg]; exact Nat.ne_of_lt (blk_lt (g := gb241) (o := .cells #[.bool a0_0, .string a0_1, .int .i64 a0_2] 23 (0, 0)) (by (with_reducible repeat (first | refine blk_drewN ?_ _ | refine blk_drew ?_ | refine blk_alloc ?_ _)); exact BK241.out)) : gb241 ≠ gb245)); have n6_ := Aside0.mk ((by rw [hg]; exact Nat.ne_of_gt (blk_lt (g := gb241) (o := .cells #[.bool a0_0, .string a0_1, .int .i64 a0_2] 23 (0, 0)) (by (with_reducible repeat (first | refine blk_drewN ?_ _ | refine blk_drew ?_ | refine blk_alloc ?_ _)); exact BK241.out)) : gb245 ≠ gb241)); clear BK241; clear HB; have BK241 := n0_; have HB := n1_; have BK245 := n2_; have GW245 := n3_; have GE245 := n4_; have NB241_245 := n5_; have NB245_241 := n6_; clear n0_ n1_ n2_ n3_ n4_ n5_ n6_; clear hb hbox hg; have hnb15 := NB245_241.out; have hnc15 := NB241_245.out; have hcz16_0 : w14.cell? ⟨gb245, 0, none⟩ = some (.bool false) := (blk_cell BK245.out 0).trans rfl; have hcz16_1 : w14.cell? ⟨gb245, 1, none⟩ = some (.string (⟨#[]⟩ : ByteArray)) := (blk_cell BK245.out 1).trans rfl; have hcz16_2 : w14.cell? ⟨gb245, 2, none⟩ = some (.int .i64 0) := (blk_cell BK245.out 2).trans rfl; have hfz16_0 := blk_frozen BK245.out 0; have hfz16_1 := blk_frozen BK245.out 1; have hfz16_2 := blk_frozen BK245.out 2))
      go_ret
      exact ⟨by first | rfl | (simp [errW_none, errW_some] <;> rfl) | (simp [*, errW_none, errW_some] <;> rfl), by repeat (first | (with_reducible first | exact HB.out | apply below_alloc | apply pw_below_drewN | apply below_drew1 | refine below_set ?_ GE241.out | refine below_set ?_ GE245.out) | exact HB.out)⟩
    · rw [if_neg c10] at H
      have c10b0 : decide ((-300) ≤ t244) = false := decide_eq_false c10
      clear c10
      obtain rfl := Option.some.inj H
      go_enter Tryd.func31, Tryd.ntmps31
      go_wp2_with (first | ((with_reducible refine gate_dst (N := 1) rfl ?_); (try (refine gate_guard (by rfl) ?_; dsimp only)); refine box_event ?hg (N := 1) ?hd (cs := #[.bool a0_0, .string a0_1, .int .i64 a0_2]) (t := 23) ?hr ?_; (case hd => rfl); (case hg => rfl); (case hr => first | (go_simp; done) | (go_simp; rfl)); intro gb241 hg w17 hbox hb; have n0_ := Aside0.mk (below_step (by repeat (first | (with_reducible first | exact HB.out | apply below_alloc | apply pw_below_drewN | apply below_drew1) | exact HB.out)) hb); have n1_ := Aside0.mk (hbox); have n2_ := Aside0.mk ((by rw [hg]; exact (below_size (by repeat (first | (with_reducible first | exact HB.out | apply below_alloc | apply pw_below_drewN | apply below_drew1) | exact HB.out))) : w.heap.size ≤ gb241)); have n3_ := Aside0.mk ((by rw [hg]; exact (below_size (by repeat (first | (with_reducible first | exact HB.out | apply below_alloc | apply pw_below_drewN | apply below_drew1) | exact HB.out))) : w.heap.size ≤ gb241)); clear HB; have HB := n0_; have BK241 := n1_; have GW241 := n2_; have GE241 := n3_; clear n0_ n1_ n2_ n3_; clear hb hbox hg; have hcz18_0 : w17.cell? ⟨gb241, 0, none⟩ = some (.bool a0_0) := (blk_cell BK241.out 0).trans rfl; have hcz18_1 : w17.cell? ⟨gb241, 1, none⟩ = some (.string a0_1) := (blk_cell BK241.out 1).trans rfl; have hcz18_2 : w17.cell? ⟨gb241, 2, none⟩ = some (.int .i64 a0_2) := (blk_cell BK241.out 2).trans rfl; have hfz18_0 := blk_frozen BK241.out 0; have hfz18_1 := blk_frozen BK241.out 1; have hfz18_2 := blk_frozen BK241.out 2) | ((with_reducible refine gate_callee (f := 19) rfl ?_); refine goesL_ (some 5) rfl rfl Tryd.func19 (by kernel_rfl) rfl #[.agg #[.bool a0_0, .string a0_1, .int .i64 a0_2]] rfl (by (try simp only [List.map_toArray]); (try simp only [List.map_cons]); (try simp only [List.map_nil]); first | done | rfl | (simp only [List.length_drop, List.length_take]; rfl)) ?_; (with_reducible refine (figureheadref05_Norm.calls k a0_0 a0_1 a0_2 t242 t243 t244 _ A2.out).mono ?_); rintro e w19 ⟨rfl, hb⟩; refine ⟨_, rfl, ?_⟩; have n0_ := Aside0.mk (blk_below (g := gb241) (o := .cells #[.bool a0_0, .string a0_1, .int .i64 a0_2] 23 (0, 0)) (by (with_reducible repeat (first | refine blk_drewN ?_ _ | refine blk_drew ?_ | refine blk_alloc ?_ _)); exact BK241.out) hb); have n1_ := Aside0.mk (below_step (by repeat (first | (with_reducible first | exact HB.out | apply below_alloc | apply pw_below_drewN | apply below_drew1 | refine below_set ?_ GE241.out) | exact HB.out)) hb); clear BK241; clear HB; have BK241 := n0_; have HB := n1_; clear n0_ n1_; (try clear hb); (try clear hb2); (try clear hk); (try clear hi)) | ((with_reducible refine gate_dst (N := 3) rfl ?_); (try (refine gate_guard (by rfl) ?_; dsimp only)); refine box_event ?hg (N := 3) ?hd (cs := #[.bool false, .string (⟨#[]⟩ : ByteArray), .int .i64 0]) (t := 23) ?hr ?_; (case hd => rfl); (case hg => rfl); (case hr => first | (go_simp; done) | (go_simp; rfl)); intro gb245 hg w20 hbox hb; have n0_ := Aside0.mk (blk_below (g := gb241) (o := .cells #[.bool a0_0, .string a0_1, .int .i64 a0_2] 23 (0, 0)) (by (with_reducible repeat (first | refine blk_drewN ?_ _ | refine blk_drew ?_ | refine blk_alloc ?_ _)); exact BK241.out) hb); have n1_ := Aside0.mk (below_step (by repeat (first | (with_reducible first | exact HB.out | apply below_alloc | apply pw_below_drewN | apply below_drew1 | refine below_set ?_ GE241.out) | exact HB.out)) hb); have n2_ := Aside0.mk (hbox); have n3_ := Aside0.mk ((by rw [hg]; exact (below_size (by repeat (first | (with_reducible first | exact HB.out | apply below_alloc | apply pw_below_drewN | apply below_drew1 | refine below_set ?_ GE241.out) | exact HB.out))) : w.heap.size ≤ gb245)); have n4_ := Aside0.mk ((by rw [hg]; exact (below_size (by repeat (first | (with_reducible first | exact HB.out | apply below_alloc | apply pw_below_drewN | apply below_drew1 | refine below_set ?_ GE241.out) | exact HB.out))) : w.heap.size ≤ gb245)); have n5_ := Aside0.mk ((by rw [hg]; exact Nat.ne_of_lt (blk_lt (g := gb241) (o := .cells #[.bool a0_0, .string a0_1, .int .i64 a0_2] 23 (0, 0)) (by (with_reducible repeat (first | refine blk_drewN ?_ _ | refine blk_drew ?_ | refine blk_alloc ?_ _)); exact BK241.out)) : gb241 ≠ gb245)); have n6_ := Aside0.mk ((by rw [hg]; exact Nat.ne_of_gt (blk_lt (g := gb241) (o := .cells #[.bool a0_0, .string a0_1, .int .i64 a0_2] 23 (0, 0)) (by (with_reducible repeat (first | refine blk_drewN ?_ _ | refine blk_drew ?_ | refine blk_alloc ?_ _)); exact BK241.out)) : gb245 ≠ gb241)); clear BK241; clear HB; have BK241 := n0_; have HB := n1_; have BK245 := n2_; have GW245 := n3_; have GE245 := n4_; have NB241_245 := n5_; have NB245_241 := n6_; clear n0_ n1_ n2_ n3_ n4_ n5_ n6_; clear hb hbox hg; have hnb21 := NB245_241.out; have hnc21 := NB241_245.out; have hcz22_0 : w20.cell? ⟨gb245, 0, none⟩ = some (.bool false) := (blk_cell BK245.out 0).trans rfl; have hcz22_1 : w20.cell? ⟨gb245, 1, none⟩ = some (.string (⟨#[]⟩ : ByteArray)) := (blk_cell BK245.out 1).trans rfl; have hcz22_2 : w20.cell? ⟨gb245, 2, none⟩ = some (.int .i64 0) := (blk_cell BK245.out 2).trans rfl; have hfz22_0 := blk_frozen BK245.out 0; have hfz22_1 := blk_frozen BK245.out 1; have hfz22_2 := blk_frozen BK245.out 2))
      go_ret
      exact ⟨by first | rfl | (simp [errW_none, errW_some] <;> rfl) | (simp [*, errW_none, errW_some] <;> rfl), by repeat (first | (with_reducible first | exact HB.out | apply below_alloc | apply pw_below_drewN | apply below_drew1 | refine below_set ?_ GE241.out | refine below_set ?_ GE245.out) | exact HB.out)⟩

end Go.Proofs.YtbjaiphfehnncaaDoor.Px

namespace Go.Proofs.YtbjaiphfehnncaaDoor.Px
open Fig Go.RowKit Go.Proofs.YtbjaiphfehnncaaDoorW.PrintWords Go.Proofs.YtbjaiphfehnncaaDoorW.PrintLast Go.Proofs.YtbjaiphfehnncaaDoorW.PrintMore
attribute [local go_sem] max2_int min2_int max_two min_two max_three min_three max_four min_four   -- for this text's walks alone

attribute [local go_sem] fieldA23_0 fieldA23_1 fieldA23_2
/-! plain facts: figureheadref05_Ranged -/
theorem Ranged05_ev {b : Bool} {s : ByteArray} {e : Int} (h : OkD s e) : Ev (fun k => figureheadref05_Ranged.f k b s e) (rangedD (vB s) e) := by
  have h1 := h.sz
  have h2 := h.lo
  have h3 := h.hi
  have hz := h.val
  unfold figureheadref05_Ranged.f
  refine Ev.bind (Norm05_ev h) ?_
  unfold rangedD
  have hn : (nD (vB s)).toList = ([48] : List UInt8) ↔ vB s = 0 := by
    rw [← nD_nought_iff]
    constructor
    · intro h; apply B_ext; rw [← ByteArray.toList_eq, h]; rfl
    · intro h; rw [h, ByteArray.toList_eq]; rfl
  by_cases h0 : vB s = 0
  · simp only [hn.2 h0, if_true]
    refine evIs (Ev.now _) ?_
    simp [h0]
  · have hn2 : ¬ (nD (vB s)).toList = ([48] : List UInt8) := fun hh => h0 (hn.1 hh)
    simp only [hn2, if_false]
    by_cases hr : nE (vB s) e ≥ -300
    · have hl := digB_len_core h0
      have hnd : nD (vB s) = digB (core (vB s)) := by unfold nD; rw [if_neg h0]
      have hne : nE (vB s) e = e + (tz (vB s) : Int) := by unfold nE; rw [if_neg h0]
      have hw : wrap64 (nE (vB s) e + ((nD (vB s)).size : Int)) = nE (vB s) e + ((nD (vB s)).size : Int) := by
        rw [hnd, hne, w64 (by omega) (by omega)]
      simp only [hr, if_true, hw]
      refine evIs (Ev.now _) ?_
      rw [decide_eq_decide]
      have hr' : -300 ≤ nE (vB s) e := hr
      unfold topD
      rw [if_neg h0, hnd]
      simp only [h0, hr', false_or, true_and]
      rw [hne]; omega
    · have hr' : ¬ -300 ≤ nE (vB s) e := hr
      simp only [hr, if_false]
      refine evIs (Ev.now _) ?_
      simp [h0, hr']

end Go.Proofs.YtbjaiphfehnncaaDoor.Px

namespace Go.Proofs.YtbjaiphfehnncaaDoor.Px
open Fig Go.RowKit Go.Proofs.YtbjaiphfehnncaaDoorW.PrintWords Go.Proofs.YtbjaiphfehnncaaDoorW.PrintLast Go.Proofs.YtbjaiphfehnncaaDoorW.PrintMore
attribute [local go_sem] max2_int min2_int max_two min_two max_three min_three max_four min_four   -- for this text's walks alone

attribute [local go_sem] fieldA23_0 fieldA23_1 fieldA23_2
/-! ### figureheadlaw05_DecRanges: function 6 -/
def figureheadlaw05_DecRanges.f (k : Nat) (a0_0 : Bool) (a0_1 : ByteArray) (a0_2 : Int) : Option (Bool) := (figureheadref05_Good.f k a0_0 a0_1 a0_2).bind fun t247 => (if t247 = true then ((figureheadlaw05_answers.f k).bind fun t249 => (if t249 = true then ((dec_Ranged.f a0_0 a0_1 a0_2).bind fun t250 => ((figureheadref05_Ranged.f k a0_0 a0_1 a0_2).bind fun t251 => (if (t250 == t251) = true then ((dec_Ranged.f a0_0 a0_1 a0_2).bind fun t252 => ((dec_Norm.f a0_0 a0_1 a0_2).bind fun bt253 => ((dec_Ranged.f bt253.1 bt253.2.1 bt253.2.2).bind fun t256 => (some (t252 == t256))))) else (some false)))) else (some false))) else ((figureheadlaw05_answers.f k).bind fun t248 => (some t248)))
theorem figureheadlaw05_DecRanges.mono : ∀ a0 a1 a2 k, LeO (figureheadlaw05_DecRanges.f k a0 a1 a2) (figureheadlaw05_DecRanges.f (k + 1) a0 a1 a2) := by
  intro a0 a1 a2 k
  unfold figureheadlaw05_DecRanges.f
  repeat' first
      | (with_reducible exact figureheadlaw05_answers.mono _)
      | (with_reducible exact figureheadref05_Good.mono _ _ _ _)
      | (with_reducible exact figureheadref05_Ranged.mono _ _ _ _)
      | (with_reducible exact LeO.refl _)
      | (with_reducible exact LeO.none _)
      | (with_reducible refine LeO.ite ?_ ?_)
      | (with_reducible refine LeO.bind ?_ (fun _ => ?_))
      | exact figureheadlaw05_answers.mono _
      | exact figureheadref05_Good.mono _ _ _ _
      | exact figureheadref05_Ranged.mono _ _ _ _
      | exact LeO.none _
      | refine LeO.ite ?_ ?_
      | refine LeO.bind ?_ (fun _ => ?_)
def figureheadlaw05_DecRanges.T3 : Bool × List (List Nat × List Nat) := (true, [([], []), ([0, 0], [0]), ([1], [1]), ([2, 1, 1], [1, 2]), ([1], [1]), ([4, 3, 1], [1, 4]), ([3, 5, 1], [1, 3, 5]), ([1, 6], [1, 6]), ([7, 5], [7]), ([8], [8]), ([9, 8, 8], [8, 9]), ([8], [8]), ([11, 10, 8], [8, 11]), ([12, 12, 8], [8, 12]), ([10, 13, 8], [8, 10, 13]), ([8, 14], [8, 14]), ([15, 13, 0, 1, 2, 3, 4, 5, 6, 7, 8, 9, 10, 11, 12, 13, 14, 15], [15])])
def figureheadlaw05_DecRanges.B3 : List Nat := [0, 1, 3, 7, 3, 31, 63, 127, 255, 511, 1023, 511, 4095, 8191, 16383, 32767, 65535]
theorem figureheadlaw05_DecRanges.tab3 : rtab .any (opsOf Tryd.f6 3) = figureheadlaw05_DecRanges.T3 := by kernel_rfl
theorem figureheadlaw05_DecRanges.bits3 : waitsOk figureheadlaw05_DecRanges.T3.2 figureheadlaw05_DecRanges.B3 = true := by kernel_rfl
set_option maxHeartbeats 8000000 in
set_option maxRecDepth 100000 in
theorem figureheadlaw05_DecRanges.calls (k : Nat) (a0_0 : Bool) (a0_1 : ByteArray) (a0_2 : Int) (r : Bool) (w : World) (hG : Fig.Glob w) (HT : Aside0 (r = true)) (h : figureheadlaw05_DecRanges.f k a0_0 a0_1 a0_2 = some r) :
    Calls Tryd.prog 6 #[.agg #[.bool a0_0, .string a0_1, .int .i64 a0_2]] w fun e w' => e = .returned (.bool r) ∧ Below w.heap.size w w' := by
  have hu23 := Tryd.underlying23
  have HG := Aside0.mk hG
  clear hG
  have HB := Aside0.mk (Below.refl w.heap.size w)
  have H : ((figureheadref05_Good.f k a0_0 a0_1 a0_2).bind fun t247 => (if t247 = true then ((figureheadlaw05_answers.f k).bind fun t249 => (if t249 = true then ((dec_Ranged.f a0_0 a0_1 a0_2).bind fun t250 => ((figureheadref05_Ranged.f k a0_0 a0_1 a0_2).bind fun t251 => (if (t250 == t251) = true then ((dec_Ranged.f a0_0 a0_1 a0_2).bind fun t252 => ((dec_Norm.f a0_0 a0_1 a0_2).bind fun bt253 => ((dec_Ranged.f bt253.1 bt253.2.1 bt253.2.2).bind fun t256 => (some (t252 == t256))))) else (some false)))) else (some false))) else ((figureheadlaw05_answers.f k).bind fun t248 => (some t248)))) = some r := h
  clear h
  replace H := Option.bind_eq_some_iff.mp H
  obtain ⟨t247, A20, H⟩ := H
  replace H : (if t247 = true then ((figureheadlaw05_answers.f k).bind fun t249 => (if t249 = true then ((dec_Ranged.f a0_0 a0_1 a0_2).bind fun t250 => ((figureheadref05_Ranged.f k a0_0 a0_1 a0_2).bind fun t251 => (if (t250 == t251) = true then ((dec_Ranged.f a0_0 a0_1 a0_2).bind fun t252 => ((dec_Norm.f a0_0 a0_1 a0_2).bind fun bt253 => ((dec_Ranged.f bt253.1 bt253.2.1 bt253.2.2).bind fun t256 => (some (t252 == t256))))) else (some false)))) else (some false))) else ((figureheadlaw05_answers.f k).bind fun t248 => (some t248))) = some r := H
  have A2 := Aside0.mk A20
  clear A20
  by_cases c3 : t247 = true
  · subst c3
    have H1 : ((figureheadlaw05_answers.f k).bind fun t249 => (if t249 = true then ((dec_Ranged.f a0_0 a0_1 a0_2).bind fun t250 => ((figureheadref05_Ranged.f k a0_0 a0_1 a0_2).bind fun t251 => (if (t250 == t251) = true then ((dec_Ranged.f a0_0 a0_1 a0_2).bind fun t252 => ((dec_Norm.f a0_0 a0_1 a0_2).bind fun bt253 => ((dec_Ranged.f bt253.1 bt253.2.1 bt253.2.2).bind fun t256 => (some (t252 == t256))))) else (some false)))) else (some false))) = some r := by rw [if_pos rfl] at H; exact H
    clear H
    have H := H1
    clear H1
    replace H := Option.bind_eq_some_iff.mp H
    obtain ⟨t249, A40, H⟩ := H
    replace H : (if t249 = true then ((dec_Ranged.f a0_0 a0_1 a0_2).bind fun t250 => ((figureheadref05_Ranged.f k a0_0 a0_1 a0_2).bind fun t251 => (if (t250 == t251) = true then ((dec_Ranged.f a0_0 a0_1 a0_2).bind fun t252 => ((dec_Norm.f a0_0 a0_1 a0_2).bind fun bt253 => ((dec_Ranged.f bt253.1 bt253.2.1 bt253.2.2).bind fun t256 => (some (t252 == t256))))) else (some false)))) else (some false)) = some r := H
    have A4 := Aside0.mk A40
    clear A40
    by_cases c5 : t249 = true
    · subst c5
      have H1 : ((dec_Ranged.f a0_0 a0_1 a0_2).bind fun t250 => ((figureheadref05_Ranged.f k a0_0 a0_1 a0_2).bind fun t251 => (if (t250 == t251) = true then ((dec_Ranged.f a0_0 a0_1 a0_2).bind fun t252 => ((dec_Norm.f a0_0 a0_1 a0_2).bind fun bt253 => ((dec_Ranged.f bt253.1 bt253.2.1 bt253.2.2).bind fun t256 => (some (t252 == t256))))) else (some false)))) = some r := by rw [if_pos rfl] at H; exact H
      clear H
      have H := H1
      clear H1
      replace H := Option.bind_eq_some_iff.mp H
      obtain ⟨t250, A60, H⟩ := H
      replace H : ((figureheadref05_Ranged.f k a0_0 a0_1 a0_2).bind fun t251 => (if (t250 == t251) = true then ((dec_Ranged.f a0_0 a0_1 a0_2).bind fun t252 => ((dec_Norm.f a0_0 a0_1 a0_2).bind fun bt253 => ((dec_Ranged.f bt253.1 bt253.2.1 bt253.2.2).bind fun t256 => (some (t252 == t256))))) else (some false))) = some r := H
      have A6 := Aside0.mk A60
      clear A60
      replace H := Option.bind_eq_some_iff.mp H
      obtain ⟨t251, A70, H⟩ := H
      replace H : (if (t250 == t251) = true then ((dec_Ranged.f a0_0 a0_1 a0_2).bind fun t252 => ((dec_Norm.f a0_0 a0_1 a0_2).bind fun bt253 => ((dec_Ranged.f bt253.1 bt253.2.1 bt253.2.2).bind fun t256 => (some (t252 == t256))))) else (some false)) = some r := H
      have A7 := Aside0.mk A70
      clear A70
      by_cases c8 : (t250 == t251) = true
      · rw [if_pos c8] at H
        have c8b0 : (t250 == t251) = true := c8
        (try (have c8b1 : decide (t250 = t251) = true := by simpa using c8))
        (try (have c8b2 : (t250 == t251) = true := by simpa using c8))
        clear c8
        replace H := Option.bind_eq_some_iff.mp H
        obtain ⟨t252, A90, H⟩ := H
        replace H : ((dec_Norm.f a0_0 a0_1 a0_2).bind fun bt253 => ((dec_Ranged.f bt253.1 bt253.2.1 bt253.2.2).bind fun t256 => (some (t252 == t256)))) = some r := H
        have A9 := Aside0.mk A90
        clear A90
        replace H := Option.bind_eq_some_iff.mp H
        obtain ⟨⟨t253, t254, t255⟩, A100, H⟩ := H
        replace H : ((dec_Ranged.f t253 t254 t255).bind fun t256 => (some (t252 == t256))) = some r := H
        have A10 := Aside0.mk A100
        clear A100
        replace H := Option.bind_eq_some_iff.mp H
        obtain ⟨t256, A110, H⟩ := H
        replace H : (some (t252 == t256)) = some r := H
        have A11 := Aside0.mk A110
        clear A110
        obtain rfl := Option.some.inj H
        go_enter Tryd.func6, Tryd.ntmps6
        try go_wp2_with (first | ((with_reducible refine gate_dst (N := 1) rfl ?_); refine box_event ?hg (N := 1) ?hd (cs := #[.bool a0_0, .string a0_1, .int .i64 a0_2]) (t := 23) ?hr ?_; (case hd => rfl); (case hg => rfl); (case hr => first | (go_simp; done) | (go_simp; rfl)); intro gb246 hg w12 hbox hb; have n0_ := Aside0.mk (below_step (by repeat (first | (with_reducible first | exact HB.out | apply below_alloc | apply pw_below_drewN | apply below_drew1) | exact HB.out)) hb); have n1_ := Aside0.mk (hbox); have n2_ := Aside0.mk ((by rw [hg]; exact (below_size (by repeat (first | (with_reducible first | exact HB.out | apply below_alloc | apply pw_below_drewN | apply below_drew1) | exact HB.out))) : w.heap.size ≤ gb246)); have n3_ := Aside0.mk ((by rw [hg]; exact (below_size (by repeat (first | (with_reducible first | exact HB.out | apply below_alloc | apply pw_below_drewN | apply below_drew1) | exact HB.out))) : w.heap.size ≤ gb246)); clear HB; have HB := n0_; have BK246 := n1_; have GW246 := n2_; have GE246 := n3_; clear n0_ n1_ n2_ n3_; clear hb hbox hg; have hcz13_0 : w12.cell? ⟨gb246, 0, none⟩ = some (.bool a0_0) := (blk_cell BK246.out 0).trans rfl; have hcz13_1 : w12.cell? ⟨gb246, 1, none⟩ = some (.string a0_1) := (blk_cell BK246.out 1).trans rfl; have hcz13_2 : w12.cell? ⟨gb246, 2, none⟩ = some (.int .i64 a0_2) := (blk_cell BK246.out 2).trans rfl; have hfz13_0 := blk_frozen BK246.out 0; have hfz13_1 := blk_frozen BK246.out 1; have hfz13_2 := blk_frozen BK246.out 2) | ((with_reducible refine gate_callee (f := 15) rfl ?_); refine goesL_ (some 4) rfl rfl Tryd.func15 (by kernel_rfl) rfl #[.agg #[.bool a0_0, .string a0_1, .int .i64 a0_2]] rfl (by (try simp only [List.map_toArray]); (try simp only [List.map_cons]); (try simp only [List.map_nil]); first | done | rfl | (simp only [List.length_drop, List.length_take]; rfl)) ?_; (with_reducible refine (figureheadref05_Good.calls k a0_0 a0_1 a0_2 true _ A2.out).mono ?_); rintro e w14 ⟨rfl, hb⟩; refine ⟨_, rfl, ?_⟩; have n0_ := Aside0.mk (blk_below (g := gb246) (o := .cells #[.bool a0_0, .string a0_1, .int .i64 a0_2] 23 (0, 0)) (by (with_reducible repeat (first | refine blk_drewN ?_ _ | refine blk_drew ?_ | refine blk_alloc ?_ _)); exact BK246.out) hb); have n1_ := Aside0.mk (below_step (by repeat (first | (with_reducible first | exact HB.out | apply below_alloc | apply pw_below_drewN | apply below_drew1 | refine below_set ?_ GE246.out) | exact HB.out)) hb); clear BK246; clear HB; have BK246 := n0_; have HB := n1_; clear n0_ n1_; (try clear hb); (try clear hb2); (try clear hk); (try clear hi)))
        have n0_ := Aside0.mk (blk_drew BK246.out)
        have n1_ := Aside0.mk (below_drew1 HB.out)
        clear BK246
        clear HB
        have BK246 := n0_
        have HB := n1_
        clear n0_ n1_
        refine start_ (n := 17) (S := fun w' => w'.cell? ⟨gb246, 0, none⟩ = some (.bool a0_0) ∧ w'.cell? ⟨gb246, 1, none⟩ = some (.string a0_1) ∧ w'.cell? ⟨gb246, 2, none⟩ = some (.int .i64 a0_2)) (ds := []) #[false, false, false, false, false, false, false, false, false, false, false, false, false, false, false, false, false] (by kernel_rfl) rfl rfl ⟨(blk_cell BK246.out 0).trans rfl, (blk_cell BK246.out 1).trans rfl, (blk_cell BK246.out 2).trans rfl⟩ (fun hHeld => ?_); refine with_tabW figureheadlaw05_DecRanges.tab3 figureheadlaw05_DecRanges.bits3 (fun HT_ HW_ => ?_)
        generalize w14.drew = w15 at BK246 HB hHeld ⊢
        refine one_ (i := 0) (N := some 7) #[true, false, false, false, false, false, false, false, false, false, false, false, false, false, false, false, false] rfl rfl (one_of HT_.out (by kernel_rfl)) (by decide) (fun K hK => ?_)
        refine goes_ Tryd.func16 (by kernel_rfl) rfl #[] (by rfl) rfl rfl (by (try simp only [List.map_toArray]); (try simp only [List.map_cons]); (try simp only [List.map_nil]); first | done | rfl | (simp only [List.length_drop, List.length_take]; rfl)) ?_
        with_reducible refine (figureheadlaw05_answers.calls k  true _ ?side1 ?side2 A4.out).mono ?_
        (case side1 => exact Fig.Glob.below HG.out (by repeat (first | (with_reducible first | exact HB.out | apply below_alloc | apply pw_below_drewN | apply below_drew1 | refine below_set ?_ GE246.out) | exact HB.out)))
        (case side2 => exact ⟨by first | rfl | exact HT.out⟩)
        rintro e w16 ⟨rfl, hb⟩
        refine ⟨_, rfl, ?_⟩
        have n0_ := Aside0.mk (blk_below (g := gb246) (o := .cells #[.bool a0_0, .string a0_1, .int .i64 a0_2] 23 (0, 0)) (by (with_reducible repeat (first | refine blk_drewN ?_ _ | refine blk_drew ?_ | refine blk_alloc ?_ _)); exact BK246.out) hb)
        have n1_ := Aside0.mk (below_step (by repeat (first | (with_reducible first | exact HB.out | apply below_alloc | apply pw_below_drewN | apply below_drew1 | refine below_set ?_ GE246.out) | exact HB.out)) hb)
        clear BK246
        clear HB
        have BK246 := n0_
        have HB := n1_
        clear n0_ n1_
        (try clear hb)
        (try clear hb2)
        (try clear hk)
        (try clear hi)
        refine hK.out _ _ ⟨(blk_cell BK246.out 0).trans rfl, (blk_cell BK246.out 1).trans rfl, (blk_cell BK246.out 2).trans rfl⟩ (fun hHeld => ?_)
        clear hK K
        refine norm_ (a' := ?_) ?_ ?_
        rotate_left
        · show Act.put _ (some 7) _ = _
          simp only [Act.put, List.setIfInBounds_toArray, List.set_cons_zero, List.set_cons_succ]; (try simp only [i64_w]); (try simp only [i32_w])
          rfl
        refine pure_ (i := 1) (N := some 8) (v := ?_) (a' := ?_) #[true, true, false, false, false, false, false, false, false, false, false, false, false, false, false, false, false] rfl rfl (any_of HT_.out (by kernel_rfl)) (fun _ _ _ h => h) (Or.inl ⟨by rfl, ?_⟩) ?_ ?_
        rotate_left
        · intro w'
          go_simp
          with_reducible rfl
        rotate_left
        · simp only [Act.put, List.setIfInBounds_toArray, List.set_cons_zero, List.set_cons_succ]; (try simp only [i64_w]); (try simp only [i32_w])
          rfl
        refine take_ (i := 2) (N := some 9) (v := ?_) (a' := ?_) #[true, true, true, false, false, false, false, false, false, false, false, false, false, false, false, false, false] rfl rfl (take_ofW HT_.out HW_.out (by kernel_rfl)) (fun _ _ _ h => h) (Or.inl ⟨by rfl, ?_⟩) hHeld ?_ ?_
        rotate_left
        · rintro w' ⟨s0, s1, s2⟩
          go_simp
          with_reducible rfl
        rotate_left
        · simp only [Act.put, List.setIfInBounds_toArray, List.set_cons_zero, List.set_cons_succ]; (try simp only [i64_w]); (try simp only [i32_w])
          rfl
        refine take_ (i := 4) (N := some 11) (v := ?_) (a' := ?_) #[true, true, true, false, true, false, false, false, false, false, false, false, false, false, false, false, false] rfl rfl (take_ofW HT_.out HW_.out (by kernel_rfl)) (fun _ _ _ h => h) (Or.inl ⟨by rfl, ?_⟩) hHeld ?_ ?_
        rotate_left
        · rintro w' ⟨s0, s1, s2⟩
          go_simp
          with_reducible rfl
        rotate_left
        · simp only [Act.put, List.setIfInBounds_toArray, List.set_cons_zero, List.set_cons_succ]; (try simp only [i64_w]); (try simp only [i32_w])
          rfl
        refine one_ (i := 3) (N := some 10) #[true, true, true, true, true, false, false, false, false, false, false, false, false, false, false, false, false] rfl rfl (one_of HT_.out (by kernel_rfl)) (by decide) (fun K hK => ?_)
        refine goes_ Tryd.func30 (by kernel_rfl) rfl #[.agg #[.bool a0_0, .string a0_1, .int .i64 a0_2]] (by rfl) rfl rfl (by (try simp only [List.map_toArray]); (try simp only [List.map_cons]); (try simp only [List.map_nil]); first | done | rfl | (simp only [List.length_drop, List.length_take]; rfl)) ?_
        with_reducible refine (dec_Ranged.calls a0_0 a0_1 a0_2 t250 _ A6.out).mono ?_
        rintro e w17 ⟨rfl, hb⟩
        refine ⟨_, rfl, ?_⟩
        have n0_ := Aside0.mk (blk_below (g := gb246) (o := .cells #[.bool a0_0, .string a0_1, .int .i64 a0_2] 23 (0, 0)) (by (with_reducible repeat (first | refine blk_drewN ?_ _ | refine blk_drew ?_ | refine blk_alloc ?_ _)); exact BK246.out) hb)
        have n1_ := Aside0.mk (below_step (by repeat (first | (with_reducible first | exact HB.out | apply below_alloc | apply pw_below_drewN | apply below_drew1 | refine below_set ?_ GE246.out) | exact HB.out)) hb)
        clear BK246
        clear HB
        have BK246 := n0_
        have HB := n1_
        clear n0_ n1_
        (try clear hb)
        (try clear hb2)
        (try clear hk)
        (try clear hi)
        refine hK.out _ _ ⟨(blk_cell BK246.out 0).trans rfl, (blk_cell BK246.out 1).trans rfl, (blk_cell BK246.out 2).trans rfl⟩ (fun hHeld => ?_)
        clear hK K
        refine norm_ (a' := ?_) ?_ ?_
        rotate_left
        · show Act.put _ (some 10) _ = _
          simp only [Act.put, List.setIfInBounds_toArray, List.set_cons_zero, List.set_cons_succ]; (try simp only [i64_w]); (try simp only [i32_w])
          rfl
        refine one_ (i := 5) (N := some 12) #[true, true, true, true, true, true, false, false, false, false, false, false, false, false, false, false, false] rfl rfl (one_of HT_.out (by kernel_rfl)) (by decide) (fun K hK => ?_)
        refine goes_ Tryd.func31 (by kernel_rfl) rfl #[.agg #[.bool a0_0, .string a0_1, .int .i64 a0_2]] (by rfl) rfl rfl (by (try simp only [List.map_toArray]); (try simp only [List.map_cons]); (try simp only [List.map_nil]); first | done | rfl | (simp only [List.length_drop, List.length_take]; rfl)) ?_
        with_reducible refine (figureheadref05_Ranged.calls k a0_0 a0_1 a0_2 t251 _ A7.out).mono ?_
        rintro e w18 ⟨rfl, hb⟩
        refine ⟨_, rfl, ?_⟩
        have n0_ := Aside0.mk (blk_below (g := gb246) (o := .cells #[.bool a0_0, .string a0_1, .int .i64 a0_2] 23 (0, 0)) (by (with_reducible repeat (first | refine blk_drewN ?_ _ | refine blk_drew ?_ | refine blk_alloc ?_ _)); exact BK246.out) hb)
        have n1_ := Aside0.mk (below_step (by repeat (first | (with_reducible first | exact HB.out | apply below_alloc | apply pw_below_drewN | apply below_drew1 | refine below_set ?_ GE246.out) | exact HB.out)) hb)
        clear BK246
        clear HB
        have BK246 := n0_
        have HB := n1_
        clear n0_ n1_
        (try clear hb)
        (try clear hb2)
        (try clear hk)
        (try clear hi)
        refine hK.out _ _ ⟨(blk_cell BK246.out 0).trans rfl, (blk_cell BK246.out 1).trans rfl, (blk_cell BK246.out 2).trans rfl⟩ (fun hHeld => ?_)
        clear hK K
        refine norm_ (a' := ?_) ?_ ?_
        rotate_left
        · show Act.put _ (some 12) _ = _
          simp only [Act.put, List.setIfInBounds_toArray, List.set_cons_zero, List.set_cons_succ]; (try simp only [i64_w]); (try simp only [i32_w])
          rfl
        refine pure_ (i := 6) (N := some 13) (v := ?_) (a' := ?_) #[true, true, true, true, true, true, true, false, false, false, false, false, false, false, false, false, false] rfl rfl (any_of HT_.out (by kernel_rfl)) (fun _ _ _ h => h) (Or.inl ⟨by rfl, ?_⟩) ?_ ?_
        rotate_left
        · intro w'
          go_simp
          with_reducible rfl
        rotate_left
        · simp only [Act.put, List.setIfInBounds_toArray, List.set_cons_zero, List.set_cons_succ]; (try simp only [i64_w]); (try simp only [i32_w])
          rfl
        refine pure_ (i := 7) (N := some 14) (v := ?_) (a' := ?_) #[true, true, true, true, true, true, true, true, false, false, false, false, false, false, false, false, false] rfl rfl (any_of HT_.out (by kernel_rfl)) (fun _ _ _ h => h) (Or.inl ⟨by rfl, ?_⟩) ?_ ?_
        rotate_left
        · intro w'
          go_simp
          with_reducible rfl
        rotate_left
        · simp only [Act.put, List.setIfInBounds_toArray, List.set_cons_zero, List.set_cons_succ]; (try simp only [i64_w]); (try simp only [i32_w])
          rfl
        refine pure_ (i := 8) (N := some 15) (v := ?_) (a' := ?_) #[true, true, true, true, true, true, true, true, true, false, false, false, false, false, false, false, false] rfl rfl (any_of HT_.out (by kernel_rfl)) (fun _ _ _ h => h) (Or.inl ⟨by rfl, ?_⟩) ?_ ?_
        rotate_left
        · intro w'
          go_simp
          with_reducible rfl
        rotate_left
        · simp only [Act.put, List.setIfInBounds_toArray, List.set_cons_zero, List.set_cons_succ]; (try simp only [i64_w]); (try simp only [i32_w])
          rfl
        refine take_ (i := 9) (N := some 16) (v := ?_) (a' := ?_) #[true, true, true, true, true, true, true, true, true, true, false, false, false, false, false, false, false] rfl rfl (take_ofW HT_.out HW_.out (by kernel_rfl)) (fun _ _ _ h => h) (Or.inl ⟨by rfl, ?_⟩) hHeld ?_ ?_
        rotate_left
        · rintro w' ⟨s0, s1, s2⟩
          go_simp
          with_reducible rfl
        rotate_left
        · simp only [Act.put, List.setIfInBounds_toArray, List.set_cons_zero, List.set_cons_succ]; (try simp only [i64_w]); (try simp only [i32_w])
          rfl
        refine take_ (i := 11) (N := some 18) (v := ?_) (a' := ?_) #[true, true, true, true, true, true, true, true, true, true, false, true, false, false, false, false, false] rfl rfl (take_ofW HT_.out HW_.out (by kernel_rfl)) (fun _ _ _ h => h) (Or.inl ⟨by rfl, ?_⟩) hHeld ?_ ?_
        rotate_left
        · rintro w' ⟨s0, s1, s2⟩
          go_simp
          with_reducible rfl
        rotate_left
        · simp only [Act.put, List.setIfInBounds_toArray, List.set_cons_zero, List.set_cons_succ]; (try simp only [i64_w]); (try simp only [i32_w])
          rfl
        refine one_ (i := 10) (N := some 17) #[true, true, true, true, true, true, true, true, true, true, true, true, false, false, false, false, false] rfl rfl (one_of HT_.out (by kernel_rfl)) (by decide) (fun K hK => ?_)
        refine goes_ Tryd.func30 (by kernel_rfl) rfl #[.agg #[.bool a0_0, .string a0_1, .int .i64 a0_2]] (by rfl) rfl rfl (by (try simp only [List.map_toArray]); (try simp only [List.map_cons]); (try simp only [List.map_nil]); first | done | rfl | (simp only [List.length_drop, List.length_take]; rfl)) ?_
        with_reducible refine (dec_Ranged.calls a0_0 a0_1 a0_2 t252 _ A9.out).mono ?_
        rintro e w19 ⟨rfl, hb⟩
        refine ⟨_, rfl, ?_⟩
        have n0_ := Aside0.mk (blk_below (g := gb246) (o := .cells #[.bool a0_0, .string a0_1, .int .i64 a0_2] 23 (0, 0)) (by (with_reducible repeat (first | refine blk_drewN ?_ _ | refine blk_drew ?_ | refine blk_alloc ?_ _)); exact BK246.out) hb)
        have n1_ := Aside0.mk (below_step (by repeat (first | (with_reducible first | exact HB.out | apply below_alloc | apply pw_below_drewN | apply below_drew1 | refine below_set ?_ GE246.out) | exact HB.out)) hb)
        clear BK246
        clear HB
        have BK246 := n0_
        have HB := n1_
        clear n0_ n1_
        (try clear hb)
        (try clear hb2)
        (try clear hk)
        (try clear hi)
        refine hK.out _ _ ⟨(blk_cell BK246.out 0).trans rfl, (blk_cell BK246.out 1).trans rfl, (blk_cell BK246.out 2).trans rfl⟩ (fun hHeld => ?_)
        clear hK K
        refine norm_ (a' := ?_) ?_ ?_
        rotate_left
        · show Act.put _ (some 17) _ = _
          simp only [Act.put, List.setIfInBounds_toArray, List.set_cons_zero, List.set_cons_succ]; (try simp only [i64_w]); (try simp only [i32_w])
          rfl
        refine one_ (i := 12) (N := some 19) #[true, true, true, true, true, true, true, true, true, true, true, true, true, false, false, false, false] rfl rfl (one_of HT_.out (by kernel_rfl)) (by decide) (fun K hK => ?_)
        refine goes_ Tryd.func18 (by kernel_rfl) rfl #[.agg #[.bool a0_0, .string a0_1, .int .i64 a0_2]] (by rfl) rfl rfl (by (try simp only [List.map_toArray]); (try simp only [List.map_cons]); (try simp only [List.map_nil]); first | done | rfl | (simp only [List.length_drop, List.length_take]; rfl)) ?_
        with_reducible refine (dec_Norm.calls a0_0 a0_1 a0_2 t253 t254 t255 _ A10.out).mono ?_
        rintro e w20 ⟨rfl, hb⟩
        refine ⟨_, rfl, ?_⟩
        have n0_ := Aside0.mk (blk_below (g := gb246) (o := .cells #[.bool a0_0, .string a0_1, .int .i64 a0_2] 23 (0, 0)) (by (with_reducible repeat (first | refine blk_drewN ?_ _ | refine blk_drew ?_ | refine blk_alloc ?_ _)); exact BK246.out) hb)
        have n1_ := Aside0.mk (below_step (by repeat (first | (with_reducible first | exact HB.out | apply below_alloc | apply pw_below_drewN | apply below_drew1 | refine below_set ?_ GE246.out) | exact HB.out)) hb)
        clear BK246
        clear HB
        have BK246 := n0_
        have HB := n1_
        clear n0_ n1_
        (try clear hb)
        (try clear hb2)
        (try clear hk)
        (try clear hi)
        refine hK.out _ _ ⟨(blk_cell BK246.out 0).trans rfl, (blk_cell BK246.out 1).trans rfl, (blk_cell BK246.out 2).trans rfl⟩ (fun hHeld => ?_)
        clear hK K
        refine norm_ (a' := ?_) ?_ ?_
        rotate_left
        · show Act.put _ (some 19) _ = _
          simp only [Act.put, List.setIfInBounds_toArray, List.set_cons_zero, List.set_cons_succ]; (try simp only [i64_w]); (try simp only [i32_w])
          rfl
        refine one_ (i := 13) (N := some 20) #[true, true, true, true, true, true, true, true, true, true, true, true, true, true, false, false, false] rfl rfl (one_of HT_.out (by kernel_rfl)) (by decide) (fun K hK => ?_)
        refine goes_ Tryd.func30 (by kernel_rfl) rfl #[.agg #[.bool t253, .string t254, .int .i64 t255]] (by rfl) rfl rfl (by (try simp only [List.map_toArray]); (try simp only [List.map_cons]); (try simp only [List.map_nil]); first | done | rfl | (simp only [List.length_drop, List.length_take]; rfl)) ?_
        with_reducible refine (dec_Ranged.calls t253 t254 t255 t256 _ A11.out).mono ?_
        rintro e w21 ⟨rfl, hb⟩
        refine ⟨_, rfl, ?_⟩
        have n0_ := Aside0.mk (blk_below (g := gb246) (o := .cells #[.bool a0_0, .string a0_1, .int .i64 a0_2] 23 (0, 0)) (by (with_reducible repeat (first | refine blk_drewN ?_ _ | refine blk_drew ?_ | refine blk_alloc ?_ _)); exact BK246.out) hb)
        have n1_ := Aside0.mk (below_step (by repeat (first | (with_reducible first | exact HB.out | apply below_alloc | apply pw_below_drewN | apply below_drew1 | refine below_set ?_ GE246.out) | exact HB.out)) hb)
        clear BK246
        clear HB
        have BK246 := n0_
        have HB := n1_
        clear n0_ n1_
        (try clear hb)
        (try clear hb2)
        (try clear hk)
        (try clear hi)
        refine hK.out _ _ ⟨(blk_cell BK246.out 0).trans rfl, (blk_cell BK246.out 1).trans rfl, (blk_cell BK246.out 2).trans rfl⟩ (fun hHeld => ?_)
        clear hK K
        refine norm_ (a' := ?_) ?_ ?_
        rotate_left
        · show Act.put _ (some 20) _ = _
          simp only [Act.put, List.setIfInBounds_toArray, List.set_cons_zero, List.set_cons_succ]; (try simp only [i64_w]); (try simp only [i32_w])
          rfl
        refine pure_ (i := 14) (N := some 21) (v := ?_) (a' := ?_) #[true, true, true, true, true, true, true, true, true, true, true, true, true, true, true, false, false] rfl rfl (any_of HT_.out (by kernel_rfl)) (fun _ _ _ h => h) (Or.inl ⟨by rfl, ?_⟩) ?_ ?_
        rotate_left
        · intro w'
          go_simp
          with_reducible rfl
        rotate_left
        · simp only [Act.put, List.setIfInBounds_toArray, List.set_cons_zero, List.set_cons_succ]; (try simp only [i64_w]); (try simp only [i32_w])
          rfl
        refine pure_ (i := 15) (N := some 22) (v := ?_) (a' := ?_) #[true, true, true, true, true, true, true, true, true, true, true, true, true, true, true, true, false] rfl rfl (any_of HT_.out (by kernel_rfl)) (fun _ _ _ h => h) (Or.inl ⟨by rfl, ?_⟩) ?_ ?_
        rotate_left
        · intro w'
          go_simp
          with_reducible rfl
        rotate_left
        · simp only [Act.put, List.setIfInBounds_toArray, List.set_cons_zero, List.set_cons_succ]; (try simp only [i64_w]); (try simp only [i32_w])
          rfl
        refine pure_ (i := 16) (N := some 2) (v := ?_) (a' := ?_) #[true, true, true, true, true, true, true, true, true, true, true, true, true, true, true, true, true] rfl rfl (any_of HT_.out (by kernel_rfl)) (fun _ _ _ h => h) (Or.inl ⟨by rfl, ?_⟩) ?_ ?_
        rotate_left
        · intro w'
          go_simp
          with_reducible rfl
        rotate_left
        · simp only [Act.put, List.setIfInBounds_toArray, List.set_cons_zero, List.set_cons_succ]; (try simp only [i64_w]); (try simp only [i32_w])
          rfl
        refine done_ (done_of HT_.out (by kernel_rfl)) ?_
        try go_wp2
        go_ret
        exact ⟨by first | rfl | (simp [errW_none, errW_some] <;> rfl) | (simp [*, errW_none, errW_some] <;> rfl), by repeat (first | (with_reducible first | exact HB.out | apply below_alloc | apply pw_below_drewN | apply below_drew1 | refine below_set ?_ GE246.out) | exact HB.out)⟩
      · rw [if_neg c8] at H
        have c8b0 : (t250 == t251) = false := by simpa using c8
        (try (have c8b1 : decide (t250 = t251) = false := by simpa using c8))
        (try (have c8b2 : (t250 == t251) = false := by simpa using c8))
        (try (have c8b3 : ¬ (t250 = t251) := by simpa using c8))
        clear c8
        exact absurd ((Option.some.inj H).trans HT.out) (by decide)
    · replace c5 := Bool.eq_false_iff.mpr c5
      subst c5
      have H1 : (some false) = some r := by rw [if_neg (show ¬ (false = true) by decide)] at H; exact H
      clear H
      have H := H1
      clear H1
      exact absurd ((Option.some.inj H).trans HT.out) (by decide)
  · replace c3 := Bool.eq_false_iff.mpr c3
    subst c3
    have H1 : ((figureheadlaw05_answers.f k).bind fun t248 => (some t248)) = some r := by rw [if_neg (show ¬ (false = true) by decide)] at H; exact H
    clear H
    have H := H1
    clear H1
    replace H := Option.bind_eq_some_iff.mp H
    obtain ⟨t248, A220, H⟩ := H
    replace H : (some t248) = some r := H
    have A22 := Aside0.mk A220
    clear A220
    obtain rfl := Option.some.inj H
    go_enter Tryd.func6, Tryd.ntmps6
    go_wp2_with (first | ((with_reducible refine gate_dst (N := 1) rfl ?_); refine box_event ?hg (N := 1) ?hd (cs := #[.bool a0_0, .string a0_1, .int .i64 a0_2]) (t := 23) ?hr ?_; (case hd => rfl); (case hg => rfl); (case hr => first | (go_simp; done) | (go_simp; rfl)); intro gb246 hg w23 hbox hb; have n0_ := Aside0.mk (below_step (by repeat (first | (with_reducible first | exact HB.out | apply below_alloc | apply pw_below_drewN | apply below_drew1) | exact HB.out)) hb); have n1_ := Aside0.mk (hbox); have n2_ := Aside0.mk ((by rw [hg]; exact (below_size (by repeat (first | (with_reducible first | exact HB.out | apply below_alloc | apply pw_below_drewN | apply below_drew1) | exact HB.out))) : w.heap.size ≤ gb246)); have n3_ := Aside0.mk ((by rw [hg]; exact (below_size (by repeat (first | (with_reducible first | exact HB.out | apply below_alloc | apply pw_below_drewN | apply below_drew1) | exact HB.out))) : w.heap.size ≤ gb246)); clear HB; have HB := n0_; have BK246 := n1_; have GW246 := n2_; have GE246 := n3_; clear n0_ n1_ n2_ n3_; clear hb hbox hg; have hcz24_0 : w23.cell? ⟨gb246, 0, none⟩ = some (.bool a0_0) := (blk_cell BK246.out 0).trans rfl; have hcz24_1 : w23.cell? ⟨gb246, 1, none⟩ = some (.string a0_1) := (blk_cell BK246.out 1).trans rfl; have hcz24_2 : w23.cell? ⟨gb246, 2, none⟩ = some (.int .i64 a0_2) := (blk_cell BK246.out 2).trans rfl; have hfz24_0 := blk_frozen BK246.out 0; have hfz24_1 := blk_frozen BK246.out 1; have hfz24_2 := blk_frozen BK246.out 2) | ((with_reducible refine gate_callee (f := 15) rfl ?_); refine goesL_ (some 4) rfl rfl Tryd.func15 (by kernel_rfl) rfl #[.agg #[.bool a0_0, .string a0_1, .int .i64 a0_2]] rfl (by (try simp only [List.map_toArray]); (try simp only [List.map_cons]); (try simp only [List.map_nil]); first | done | rfl | (simp only [List.length_drop, List.length_take]; rfl)) ?_; (with_reducible refine (figureheadref05_Good.calls k a0_0 a0_1 a0_2 false _ A2.out).mono ?_); rintro e w25 ⟨rfl, hb⟩; refine ⟨_, rfl, ?_⟩; have n0_ := Aside0.mk (blk_below (g := gb246) (o := .cells #[.bool a0_0, .string a0_1, .int .i64 a0_2] 23 (0, 0)) (by (with_reducible repeat (first | refine blk_drewN ?_ _ | refine blk_drew ?_ | refine blk_alloc ?_ _)); exact BK246.out) hb); have n1_ := Aside0.mk (below_step (by repeat (first | (with_reducible first | exact HB.out | apply below_alloc | apply pw_below_drewN | apply below_drew1 | refine below_set ?_ GE246.out) | exact HB.out)) hb); clear BK246; clear HB; have BK246 := n0_; have HB := n1_; clear n0_ n1_; (try clear hb); (try clear hb2); (try clear hk); (try clear hi)) | ((with_reducible refine gate_callee (f := 16) rfl ?_); refine goesL_ (some 6) rfl rfl Tryd.func16 (by kernel_rfl) rfl #[] rfl (by (try simp only [List.map_toArray]); (try simp only [List.map_cons]); (try simp only [List.map_nil]); first | done | rfl | (simp only [List.length_drop, List.length_take]; rfl)) ?_; (with_reducible refine (figureheadlaw05_answers.calls k  t248 _ ?side1 ?side2 A22.out).mono ?_); (case side1 => exact Fig.Glob.below HG.out (by repeat (first | (with_reducible first | exact HB.out | apply below_alloc | apply pw_below_drewN | apply below_drew1 | refine below_set ?_ GE246.out) | exact HB.out))); (case side2 => exact ⟨by first | rfl | exact HT.out⟩); rintro e w26 ⟨rfl, hb⟩; refine ⟨_, rfl, ?_⟩; have n0_ := Aside0.mk (blk_below (g := gb246) (o := .cells #[.bool a0_0, .string a0_1, .int .i64 a0_2] 23 (0, 0)) (by (with_reducible repeat (first | refine blk_drewN ?_ _ | refine blk_drew ?_ | refine blk_alloc ?_ _)); exact BK246.out) hb); have n1_ := Aside0.mk (below_step (by repeat (first | (with_reducible first | exact HB.out | apply below_alloc | apply pw_below_drewN | apply below_drew1 | refine below_set ?_ GE246.out) | exact HB.out)) hb); clear BK246; clear HB; have BK246 := n0_; have HB := n1_; clear n0_ n1_; (try clear hb); (try clear hb2); (try clear hk); (try clear hi)))
    go_ret
    exact ⟨by first | rfl | (simp [errW_none, errW_some] <;> rfl) | (simp [*, errW_none, errW_some] <;> rfl), by repeat (first | (with_reducible first | exact HB.out | apply below_alloc | apply pw_below_drewN | apply below_drew1 | refine below_set ?_ GE246.out) | exact HB.out)⟩

end Go.Proofs.YtbjaiphfehnncaaDoor.Px

namespace Go.Proofs.YtbjaiphfehnncaaDoor.Px
open Fig Go.RowKit Go.Proofs.YtbjaiphfehnncaaDoorW.PrintWords Go.Proofs.YtbjaiphfehnncaaDoorW.PrintLast Go.Proofs.YtbjaiphfehnncaaDoorW.PrintMore
attribute [local go_sem] max2_int min2_int max_two min_two max_three min_three max_four min_four   -- for this text's walks alone

attribute [local go_sem] fieldA23_0 fieldA23_1 fieldA23_2
/-! plain facts: figureheadlaw05_DecRanges -/
theorem normOk {s : ByteArray} {e : Int} (hg : goodD s e = true) : OkD (nD (vB s)) (nE (vB s) e) := by
  obtain ⟨a, b, c, d, f⟩ := goodD_iff.1 hg
  have hz := (OkD.of_good hg).val
  exact OkD.norm (by omega) (by omega) (by omega)
theorem normOk2 {s : ByteArray} {e : Int} (hg : goodD s e = true) : OkD (nD (vB (nD (vB s)))) (nE (vB (nD (vB s))) (nE (vB s) e)) := by
  rw [vB_nD, nD_core, nE_core]; exact normOk hg
theorem DecRanges_pure (a0_0 : Bool) (a0_1 : ByteArray) (a0_2 : Int) (w0_1 : a0_1.size ≤ 140737488351232) (w0_2 : (Lit.int .i64 a0_2).wf = true) : ∃ k, figureheadlaw05_DecRanges.f k a0_0 a0_1 a0_2 = some true := by
  refine Ev.rounds (g := fun k => figureheadlaw05_DecRanges.f k a0_0 a0_1 a0_2) ?_
  unfold figureheadlaw05_DecRanges.f
  refine Ev.bind (Good05_ev (by omega)) ?_
  cases hg : goodD a0_1 a0_2
  · exact evF (by decide) (Ev.bind answers05_ev (Ev.now true))
  have ok := OkD.of_good hg
  have ok1 := normOk hg
  refine evT rfl (Ev.bind answers05_ev (evT rfl (evE (rangedP ok ok1) (Ev.bind (Ranged05_ev ok) (evT (by simp) (evE (rangedP ok ok1) (evE (normP ok) (evE (rangedP ok1 (normOk2 hg)) ?_))))))))
  rw [vB_nD, rangedD_norm]
  exact evIs (Ev.now _) (by simp)

end Go.Proofs.YtbjaiphfehnncaaDoor.Px

namespace Go.Proofs.YtbjaiphfehnncaaDoor.Px
open Fig Go.RowKit Go.Proofs.YtbjaiphfehnncaaDoorW.PrintWords Go.Proofs.YtbjaiphfehnncaaDoorW.PrintLast Go.Proofs.YtbjaiphfehnncaaDoorW.PrintMore
attribute [local go_sem] max2_int min2_int max_two min_two max_three min_three max_four min_four   -- for this text's walks alone

attribute [local go_sem] fieldA23_0 fieldA23_1 fieldA23_2
/-! plain facts: figureheadlaw05_DecAlike -/
theorem sg_inj {a b : Bool} {m n : Nat} : (sg a m = sg b n ∧ a = b) ↔ (m = n ∧ a = b) := by
  constructor
  · rintro ⟨h, rfl⟩
    refine ⟨?_, rfl⟩
    unfold sg at h; cases a <;> simp at h <;> omega
  · rintro ⟨rfl, rfl⟩; exact ⟨rfl, rfl⟩
theorem toList_nD {m n : Nat} : (nD m).toList = (nD n).toList ↔ nD m = nD n := by
  constructor
  · intro h; apply B_ext; rw [← ByteArray.toList_eq, h, ByteArray.toList_eq]
  · intro h; rw [h]
theorem alike_iff (a b : Bool) (n p : Nat) (e f : Int) : (a == b && ((nD n).toList == (nD p).toList && (nE n e == nE p f))) = (decide (cmpD a n e b p f = 0) && (a == b)) := by
  rw [Bool.eq_iff_iff]
  simp only [Bool.and_eq_true, beq_iff_eq, decide_eq_true_eq, toList_nD]
  have h1 : (nD n = nD p ∧ nE n e = nE p f) ↔ atE n e (min e f) = atE p f (min e f) := norm_inj (by omega) (by omega)
  rw [h1]
  unfold cmpD
  rw [cmpZ_eq]
  unfold vZ
  constructor
  · rintro ⟨rfl, h⟩; exact sg_inj.2 ⟨h, rfl⟩
  · rintro h; have := sg_inj.1 h; exact ⟨this.2, this.1⟩
theorem DecAlike_true (a0_0 : Bool) (a0_1 : ByteArray) (a0_2 : Int) (a1_0 : Bool) (a1_1 : ByteArray) (a1_2 : Int) : Ev (fun k => figureheadlaw05_DecAlike.j0 k true a0_0 a0_1 a0_2 a1_0 a1_1 a1_2) true :=
  Ev.step (fun k => by simp only [figureheadlaw05_DecAlike.j0, if_true]) (Ev.bind answers05_ev (Ev.now true))
theorem DecAlike_j1 {a b : Bool} {s t : ByteArray} {e f : Int} {x : Bool} (hg : goodD s e = true) (hg2 : goodD t f = true) (hx : x = (decide (cmpD a (vB s) e b (vB t) f = 0) && (a == b))) : Ev (fun k => figureheadlaw05_DecAlike.j1 k x a s e b t f) true := by
  have ok := OkD.of_good hg
  have ok2 := OkD.of_good hg2
  have ok1 := normOk hg
  refine Ev.step (fun k => by simp only [figureheadlaw05_DecAlike.j1]; rfl) ?_
  refine Ev.bind answers05_ev (evT rfl (evE (normP ok) (evE (normP ok2) (evT ?_ (evE (normP ok) (evE (normP ok1) (evE (normP ok) (evT ?_ (evE (normP ok) (Ev.bind (cmpP ok ok1) ?_))))))))))
  · rw [hx, ← alike_iff]; simp
  · rw [vB_nD, nD_core, nE_core]; simp
  · refine evIs (Ev.now _) ?_
    dsimp only
    rw [beq_iff_eq, vB_nD, cmpD_at (k := min e (nE (vB s) e)) (by omega) (by omega), cmpZ_eq]
    by_cases h0 : vB s = 0
    · rw [h0, core_zero, vZ_zero, vZ_zero]
    · have := nE_le (vB s) e h0
      rw [vZ_core a (by omega)]
theorem DecAlike_pure (a0_0 : Bool) (a0_1 : ByteArray) (a0_2 : Int) (a1_0 : Bool) (a1_1 : ByteArray) (a1_2 : Int) (w0_1 : a0_1.size ≤ 140737488351232) (w0_2 : (Lit.int .i64 a0_2).wf = true) (w1_1 : a1_1.size ≤ 140737488351232) (w1_2 : (Lit.int .i64 a1_2).wf = true) : ∃ k, figureheadlaw05_DecAlike.f k a0_0 a0_1 a0_2 a1_0 a1_1 a1_2 = some true := by
  refine Ev.rounds (g := fun k => figureheadlaw05_DecAlike.f k a0_0 a0_1 a0_2 a1_0 a1_1 a1_2) ?_
  unfold figureheadlaw05_DecAlike.f
  refine Ev.bind (Good05_ev (by omega)) ?_
  cases hg : goodD a0_1 a0_2
  · exact evF (by decide) (DecAlike_true _ _ _ _ _ _)
  refine evT rfl (Ev.bind (Good05_ev (by omega)) ?_)
  cases hg2 : goodD a1_1 a1_2
  · exact DecAlike_true _ _ _ _ _ _
  have ok := OkD.of_good hg
  have ok2 := OkD.of_good hg2
  refine Ev.step (fun k => by simp only [figureheadlaw05_DecAlike.j0, Bool.not_true, Bool.false_eq_true, if_false]; rfl) ?_
  refine Ev.bind (cmpP ok ok2) ?_
  by_cases hc : cmpD a0_0 (vB a0_1) a0_2 a1_0 (vB a1_1) a1_2 = 0
  · exact evT hc (DecAlike_j1 hg hg2 (by rw [decide_eq_true hc]; simp))
  · exact evF hc (DecAlike_j1 hg hg2 (by rw [decide_eq_false hc]; simp))

end Go.Proofs.YtbjaiphfehnncaaDoor.Px
