/- The functions that the law ArithAdds reaches, told as plain functions, with what is proved of them, and the words they need (part 3). -/
import Derived.Test.YtbjaiphfehnncaaDoorCArithAdds0
import Derived.Test.YtbjaiphfehnncaaDoorCArithAdds2
import Derived.Test.YtbjaiphfehnncaaDoorCArithAdds1
set_option linter.unusedVariables false
set_option linter.unusedSimpArgs false
section
namespace Go.Proofs.YtbjaiphfehnncaaDoor.Px
open Fig Go.RowKit Go.Proofs.YtbjaiphfehnncaaDoorW.PrintWords Go.Proofs.YtbjaiphfehnncaaDoorW.PrintLast Go.Proofs.YtbjaiphfehnncaaDoorW.PrintMore
attribute [local go_sem] max2_int min2_int max_two min_two max_three min_three max_four min_four   -- for this text's walks alone
attribute [local go_sem high] eqA23
attribute [local go_sem] fieldA23_0 fieldA23_1 fieldA23_2
def figureheadlaw06_answers.f (k : Nat)  : Option (Bool) := (arith_Sub.f false (⟨#[49]⟩ : ByteArray) 0 false (⟨#[50, 53]⟩ : ByteArray) (-2)).bind fun bt399 => (if (!bt399.1 && (bt399.2.1.toList == ([55, 53] : List UInt8) && (bt399.2.2 == (-2)))) = true then ((arith_Mul.f k false (⟨#[50, 53]⟩ : ByteArray) (-2) false (⟨#[50, 53]⟩ : ByteArray) (-2)).bind fun bt402 => (if (!bt402.1 && (bt402.2.1.toList == ([54, 50, 53] : List UInt8) && (bt402.2.2 == (-4)))) = true then ((arith_Scale.f false (⟨#[50, 53]⟩ : ByteArray) (-2) 2).bind fun bt405 => (if (!bt405.1 && (bt405.2.1.toList == ([50, 53] : List UInt8) && (bt405.2.2 == 0))) = true then ((arith_Neg.f false (⟨#[49]⟩ : ByteArray) 0).bind fun bt408 => (some bt408.1)) else (some false))) else (some false))) else (some false))
theorem figureheadlaw06_answers.mono : ∀ k, LeO (figureheadlaw06_answers.f k ) (figureheadlaw06_answers.f (k + 1) ) := by
  intro  k
  unfold figureheadlaw06_answers.f
  repeat' first
      | (with_reducible exact arith_Mul.mono _ _ _ _ _ _ _)
      | (with_reducible exact LeO.refl _)
      | (with_reducible exact LeO.none _)
      | (with_reducible refine LeO.ite ?_ ?_)
      | (with_reducible refine LeO.bind ?_ (fun _ => ?_))
      | exact arith_Mul.mono _ _ _ _ _ _ _
      | exact LeO.none _
      | refine LeO.ite ?_ ?_
      | refine LeO.bind ?_ (fun _ => ?_)
set_option maxHeartbeats 8000000 in
set_option maxRecDepth 100000 in
theorem figureheadlaw06_answers.calls (k : Nat)  (r : Bool) (w : World) (hG : Fig.Glob w) (HT : Aside0 (r = true)) (h : figureheadlaw06_answers.f k  = some r) :
    Calls Tryd.prog 33 #[] w fun e w' => e = .returned (.bool r) ∧ Below w.heap.size w w' := by
  have hu23 := Tryd.underlying23
  have HG := Aside0.mk hG
  clear hG
  have HB := Aside0.mk (Below.refl w.heap.size w)
  have H : ((arith_Sub.f false (⟨#[49]⟩ : ByteArray) 0 false (⟨#[50, 53]⟩ : ByteArray) (-2)).bind fun bt399 => (if (!bt399.1 && (bt399.2.1.toList == ([55, 53] : List UInt8) && (bt399.2.2 == (-2)))) = true then ((arith_Mul.f k false (⟨#[50, 53]⟩ : ByteArray) (-2) false (⟨#[50, 53]⟩ : ByteArray) (-2)).bind fun bt402 => (if (!bt402.1 && (bt402.2.1.toList == ([54, 50, 53] : List UInt8) && (bt402.2.2 == (-4)))) = true then ((arith_Scale.f false (⟨#[50, 53]⟩ : ByteArray) (-2) 2).bind fun bt405 => (if (!bt405.1 && (bt405.2.1.toList == ([50, 53] : List UInt8) && (bt405.2.2 == 0))) = true then ((arith_Neg.f false (⟨#[49]⟩ : ByteArray) 0).bind fun bt408 => (some bt408.1)) else (some false))) else (some false))) else (some false))) = some r := h
  clear h
  replace H := Option.bind_eq_some_iff.mp H
  obtain ⟨⟨t399, t400, t401⟩, A10, H⟩ := H
  replace H : (if (!t399 && (t400.toList == ([55, 53] : List UInt8) && (t401 == (-2)))) = true then ((arith_Mul.f k false (⟨#[50, 53]⟩ : ByteArray) (-2) false (⟨#[50, 53]⟩ : ByteArray) (-2)).bind fun bt402 => (if (!bt402.1 && (bt402.2.1.toList == ([54, 50, 53] : List UInt8) && (bt402.2.2 == (-4)))) = true then ((arith_Scale.f false (⟨#[50, 53]⟩ : ByteArray) (-2) 2).bind fun bt405 => (if (!bt405.1 && (bt405.2.1.toList == ([50, 53] : List UInt8) && (bt405.2.2 == 0))) = true then ((arith_Neg.f false (⟨#[49]⟩ : ByteArray) 0).bind fun bt408 => (some bt408.1)) else (some false))) else (some false))) else (some false)) = some r := H
  have A1 := Aside0.mk A10
  clear A10
  by_cases c2 : (!t399 && (t400.toList == ([55, 53] : List UInt8) && (t401 == (-2)))) = true
  · rw [if_pos c2] at H
    have c2b0 : (!t399 && (t400.toList == ([55, 53] : List UInt8) && (t401 == (-2)))) = true := c2
    clear c2
    replace H := Option.bind_eq_some_iff.mp H
    obtain ⟨⟨t402, t403, t404⟩, A30, H⟩ := H
    replace H : (if (!t402 && (t403.toList == ([54, 50, 53] : List UInt8) && (t404 == (-4)))) = true then ((arith_Scale.f false (⟨#[50, 53]⟩ : ByteArray) (-2) 2).bind fun bt405 => (if (!bt405.1 && (bt405.2.1.toList == ([50, 53] : List UInt8) && (bt405.2.2 == 0))) = true then ((arith_Neg.f false (⟨#[49]⟩ : ByteArray) 0).bind fun bt408 => (some bt408.1)) else (some false))) else (some false)) = some r := H
    have A3 := Aside0.mk A30
    clear A30
    by_cases c4 : (!t402 && (t403.toList == ([54, 50, 53] : List UInt8) && (t404 == (-4)))) = true
    · rw [if_pos c4] at H
      have c4b0 : (!t402 && (t403.toList == ([54, 50, 53] : List UInt8) && (t404 == (-4)))) = true := c4
      clear c4
      replace H := Option.bind_eq_some_iff.mp H
      obtain ⟨⟨t405, t406, t407⟩, A50, H⟩ := H
      replace H : (if (!t405 && (t406.toList == ([50, 53] : List UInt8) && (t407 == 0))) = true then ((arith_Neg.f false (⟨#[49]⟩ : ByteArray) 0).bind fun bt408 => (some bt408.1)) else (some false)) = some r := H
      have A5 := Aside0.mk A50
      clear A50
      by_cases c6 : (!t405 && (t406.toList == ([50, 53] : List UInt8) && (t407 == 0))) = true
      · rw [if_pos c6] at H
        have c6b0 : (!t405 && (t406.toList == ([50, 53] : List UInt8) && (t407 == 0))) = true := c6
        clear c6
        replace H := Option.bind_eq_some_iff.mp H
        obtain ⟨⟨t408, t409, t410⟩, A70, H⟩ := H
        replace H : (some t408) = some r := H
        have A7 := Aside0.mk A70
        clear A70
        obtain rfl := Option.some.inj H
        go_enter Tryd.func33, Tryd.ntmps33
        go_wp2_with (first | ((with_reducible refine gate_dst (N := 1) rfl ?_); refine box_event ?hg (N := 1) ?hd (cs := #[.bool false, .string (⟨#[]⟩ : ByteArray), .int .i64 0]) (t := 23) ?hr ?_; (case hd => rfl); (case hg => rfl); (case hr => first | (go_simp; done) | (go_simp; rfl)); intro gb397 hg w8 hbox hb; have n0_ := Aside0.mk (below_step (by repeat (first | (with_reducible first | exact HB.out | apply below_alloc | apply pw_below_drewN | apply below_drew1) | exact HB.out)) hb); have n1_ := Aside0.mk (hbox); have n2_ := Aside0.mk ((by rw [hg]; exact (below_size (by repeat (first | (with_reducible first | exact HB.out | apply below_alloc | apply pw_below_drewN | apply below_drew1) | exact HB.out))) : w.heap.size ≤ gb397)); have n3_ := Aside0.mk ((by rw [hg]; exact (below_size (by repeat (first | (with_reducible first | exact HB.out | apply below_alloc | apply pw_below_drewN | apply below_drew1) | exact HB.out))) : w.heap.size ≤ gb397)); clear HB; have HB := n0_; have BK397 := n1_; have GW397 := n2_; have GE397 := n3_; clear n0_ n1_ n2_ n3_; clear hb hbox hg) | ((with_reducible refine gate_dst (N := 2) rfl ?_); refine box_event ?hg (N := 2) ?hd (cs := #[.bool false, .string (⟨#[]⟩ : ByteArray), .int .i64 0]) (t := 23) ?hr ?_; (case hd => rfl); (case hg => rfl); (case hr => first | (go_simp; done) | (go_simp; rfl)); intro gb398 hg w9 hbox hb; have n0_ := Aside0.mk (blk_below (g := gb397) (o := .cells #[.bool false, .string (⟨#[]⟩ : ByteArray), .int .i64 0] 23 (0, 0)) (by (with_reducible repeat (first | refine blk_drewN ?_ _ | refine blk_drew ?_ | refine blk_alloc ?_ _)); exact BK397.out) hb); have n1_ := Aside0.mk (below_step (by repeat (first | (with_reducible first | exact HB.out | apply below_alloc | apply pw_below_drewN | apply below_drew1 | refine below_set ?_ GE397.out) | exact HB.out)) hb); have n2_ := Aside0.mk (hbox); have n3_ := Aside0.mk ((by rw [hg]; exact (below_size (by repeat (first | (with_reducible first | exact HB.out | apply below_alloc | apply pw_below_drewN | apply below_drew1 | refine below_set ?_ GE397.out) | exact HB.out))) : w.heap.size ≤ gb398)); have n4_ := Aside0.mk ((by rw [hg]; exact (below_size (by repeat (first | (with_reducible first | exact HB.out | apply below_alloc | apply pw_below_drewN | apply below_drew1 | refine below_set ?_ GE397.out) | exact HB.out))) : w.heap.size ≤ gb398)); have n5_ := Aside0.mk ((by rw [hg]; exact Nat.ne_of_lt (blk_lt (g := gb397) (o := .cells #[.bool false, .string (⟨#[]⟩ : ByteArray), .int .i64 0] 23 (0, 0)) (by (with_reducible repeat (first | refine blk_drewN ?_ _ | refine blk_drew ?_ | refine blk_alloc ?_ _)); exact BK397.out)) : gb397 ≠ gb398)); have n6_ := Aside0.mk ((by rw [hg]; exact Nat.ne_of_gt (blk_lt (g := gb397) (o := .cells #[.bool false, .string (⟨#[]⟩ : ByteArray), .int .i64 0] 23 (0, 0)) (by (with_reducible repeat (first | refine blk_drewN ?_ _ | refine blk_drew ?_ | refine blk_alloc ?_ _)); exact BK397.out)) : gb398 ≠ gb397)); clear BK397; clear HB; have BK397 := n0_; have HB := n1_; have BK398 := n2_; have GW398 := n3_; have GE398 := n4_; have NB397_398 := n5_; have NB398_397 := n6_; clear n0_ n1_ n2_ n3_ n4_ n5_ n6_; clear hb hbox hg; have hnb10 := NB397_398.out; have hnc10 := NB398_397.out; have hcz11_0 : w9.cell? ⟨gb397, 0, none⟩ = some (.bool false) := (blk_cell BK397.out 0).trans rfl; have hcz11_1 : w9.cell? ⟨gb397, 1, none⟩ = some (.string (⟨#[]⟩ : ByteArray)) := (blk_cell BK397.out 1).trans rfl; have hcz11_2 : w9.cell? ⟨gb397, 2, none⟩ = some (.int .i64 0) := (blk_cell BK397.out 2).trans rfl; have hfz11_0 := blk_frozen BK397.out 0; have hfz11_1 := blk_frozen BK397.out 1; have hfz11_2 := blk_frozen BK397.out 2; have hcz12_0 : w9.cell? ⟨gb398, 0, none⟩ = some (.bool false) := (blk_cell BK398.out 0).trans rfl; have hcz12_1 : w9.cell? ⟨gb398, 1, none⟩ = some (.string (⟨#[]⟩ : ByteArray)) := (blk_cell BK398.out 1).trans rfl; have hcz12_2 : w9.cell? ⟨gb398, 2, none⟩ = some (.int .i64 0) := (blk_cell BK398.out 2).trans rfl; have hfz12_0 := blk_frozen BK398.out 0; have hfz12_1 := blk_frozen BK398.out 1; have hfz12_2 := blk_frozen BK398.out 2) | ((with_reducible refine gate_callee (f := 36) rfl ?_); refine goesL_ (some 7) rfl rfl Tryd.func36 (by kernel_rfl) rfl #[.agg #[.bool false, .string (⟨#[49]⟩ : ByteArray), .int .i64 0], .agg #[.bool false, .string (⟨#[50, 53]⟩ : ByteArray), .int .i64 (-2)]] rfl (by (try simp only [List.map_toArray]); (try simp only [List.map_cons]); (try simp only [List.map_nil]); first | done | rfl | (simp only [List.length_drop, List.length_take]; rfl)) ?_; (with_reducible refine (arith_Sub.calls false (⟨#[49]⟩ : ByteArray) 0 false (⟨#[50, 53]⟩ : ByteArray) (-2) t399 t400 t401 _ ?side1 A1.out).mono ?_); (case side1 => exact Fig.Glob.below HG.out (by repeat (first | (with_reducible first | exact HB.out | apply below_alloc | apply pw_below_drewN | apply below_drew1 | refine below_set ?_ GE397.out | refine below_set ?_ GE398.out) | exact HB.out))); rintro e w13 ⟨rfl, hb⟩; refine ⟨_, rfl, ?_⟩; have n0_ := Aside0.mk (blk_below (g := gb397) (o := .cells #[.bool false, .string (⟨#[49]⟩ : ByteArray), .int .i64 0] 23 (0, 0)) (by (with_reducible repeat (first | refine blk_drewN ?_ _ | refine blk_drew ?_ | refine blk_alloc ?_ _)); refine blk_far ?_ NB397_398.out _; (with_reducible repeat (first | refine blk_drewN ?_ _ | refine blk_drew ?_ | refine blk_alloc ?_ _)); refine blk_far ?_ NB397_398.out _; (with_reducible repeat (first | refine blk_drewN ?_ _ | refine blk_drew ?_ | refine blk_alloc ?_ _)); refine blk_far ?_ NB397_398.out _; (with_reducible repeat (first | refine blk_drewN ?_ _ | refine blk_drew ?_ | refine blk_alloc ?_ _)); refine blk_put (cs := #[.bool false, .string (⟨#[49]⟩ : ByteArray), .int .i64 0]) ?_ 2 _ rfl; (with_reducible repeat (first | refine blk_drewN ?_ _ | refine blk_drew ?_ | refine blk_alloc ?_ _)); refine blk_put (cs := #[.bool false, .string (⟨#[]⟩ : ByteArray), .int .i64 0]) ?_ 1 _ rfl; (with_reducible repeat (first | refine blk_drewN ?_ _ | refine blk_drew ?_ | refine blk_alloc ?_ _)); refine blk_put (cs := #[.bool false, .string (⟨#[]⟩ : ByteArray), .int .i64 0]) ?_ 0 _ rfl; (with_reducible repeat (first | refine blk_drewN ?_ _ | refine blk_drew ?_ | refine blk_alloc ?_ _)); exact BK397.out) hb); have n1_ := Aside0.mk (blk_below (g := gb398) (o := .cells #[.bool false, .string (⟨#[50, 53]⟩ : ByteArray), .int .i64 (-2)] 23 (0, 0)) (by (with_reducible repeat (first | refine blk_drewN ?_ _ | refine blk_drew ?_ | refine blk_alloc ?_ _)); refine blk_put (cs := #[.bool false, .string (⟨#[50, 53]⟩ : ByteArray), .int .i64 0]) ?_ 2 _ rfl; (with_reducible repeat (first | refine blk_drewN ?_ _ | refine blk_drew ?_ | refine blk_alloc ?_ _)); refine blk_put (cs := #[.bool false, .string (⟨#[]⟩ : ByteArray), .int .i64 0]) ?_ 1 _ rfl; (with_reducible repeat (first | refine blk_drewN ?_ _ | refine blk_drew ?_ | refine blk_alloc ?_ _)); refine blk_put (cs := #[.bool false, .string (⟨#[]⟩ : ByteArray), .int .i64 0]) ?_ 0 _ rfl; (with_reducible repeat (first | refine blk_drewN ?_ _ | refine blk_drew ?_ | refine blk_alloc ?_ _)); refine blk_far ?_ NB398_397.out _; (with_reducible repeat (first | refine blk_drewN ?_ _ | refine blk_drew ?_ | refine blk_alloc ?_ _)); refine blk_far ?_ NB398_397.out _; (with_reducible repeat (first | refine blk_drewN ?_ _ | refine blk_drew ?_ | refine blk_alloc ?_ _)); refine blk_far ?_ NB398_397.out _; (with_reducible repeat (first | refine blk_drewN ?_ _ | refine blk_drew ?_ | refine blk_alloc ?_ _)); exact BK398.out) hb); have n2_ := Aside0.mk (below_step (by repeat (first | (with_reducible first | exact HB.out | apply below_alloc | apply pw_below_drewN | apply below_drew1 | refine below_set ?_ GE397.out | refine below_set ?_ GE398.out) | exact HB.out)) hb); clear BK397; clear BK398; clear HB; have BK397 := n0_; have BK398 := n1_; have HB := n2_; clear n0_ n1_ n2_; (try clear hb); (try clear hb2); (try clear hk); (try clear hi); have hcz14_0 : w13.cell? ⟨gb398, 0, none⟩ = some (.bool false) := (blk_cell BK398.out 0).trans rfl; have hcz14_1 : w13.cell? ⟨gb398, 1, none⟩ = some (.string (⟨#[50, 53]⟩ : ByteArray)) := (blk_cell BK398.out 1).trans rfl; have hcz14_2 : w13.cell? ⟨gb398, 2, none⟩ = some (.int .i64 (-2)) := (blk_cell BK398.out 2).trans rfl; have hfz14_0 := blk_frozen BK398.out 0; have hfz14_1 := blk_frozen BK398.out 1; have hfz14_2 := blk_frozen BK398.out 2) | ((with_reducible refine gate_dst (N := 13) rfl ?_); (refine gate_guard (by rfl) ?_; dsimp only); (with_reducible refine gate_callee (f := 38) rfl ?_); refine goesL_ (some 13) rfl rfl Tryd.func38 (by kernel_rfl) rfl #[.agg #[.bool false, .string (⟨#[50, 53]⟩ : ByteArray), .int .i64 (-2)], .agg #[.bool false, .string (⟨#[50, 53]⟩ : ByteArray), .int .i64 (-2)]] rfl (by (try simp only [List.map_toArray]); (try simp only [List.map_cons]); (try simp only [List.map_nil]); first | done | rfl | (simp only [List.length_drop, List.length_take]; rfl)) ?_; (with_reducible refine (arith_Mul.calls k false (⟨#[50, 53]⟩ : ByteArray) (-2) false (⟨#[50, 53]⟩ : ByteArray) (-2) t402 t403 t404 _ A3.out).mono ?_); rintro e w15 ⟨rfl, hb⟩; refine ⟨_, rfl, ?_⟩; have n0_ := Aside0.mk (blk_below (g := gb397) (o := .cells #[.bool false, .string (⟨#[49]⟩ : ByteArray), .int .i64 0] 23 (0, 0)) (by (with_reducible repeat (first | refine blk_drewN ?_ _ | refine blk_drew ?_ | refine blk_alloc ?_ _)); exact BK397.out) hb); have n1_ := Aside0.mk (blk_below (g := gb398) (o := .cells #[.bool false, .string (⟨#[50, 53]⟩ : ByteArray), .int .i64 (-2)] 23 (0, 0)) (by (with_reducible repeat (first | refine blk_drewN ?_ _ | refine blk_drew ?_ | refine blk_alloc ?_ _)); exact BK398.out) hb); have n2_ := Aside0.mk (below_step (by repeat (first | (with_reducible first | exact HB.out | apply below_alloc | apply pw_below_drewN | apply below_drew1 | refine below_set ?_ GE397.out | refine below_set ?_ GE398.out) | exact HB.out)) hb); clear BK397; clear BK398; clear HB; have BK397 := n0_; have BK398 := n1_; have HB := n2_; clear n0_ n1_ n2_; (try clear hb); (try clear hb2); (try clear hk); (try clear hi); have hcz16_0 : w15.cell? ⟨gb398, 0, none⟩ = some (.bool false) := (blk_cell BK398.out 0).trans rfl; have hcz16_1 : w15.cell? ⟨gb398, 1, none⟩ = some (.string (⟨#[50, 53]⟩ : ByteArray)) := (blk_cell BK398.out 1).trans rfl; have hcz16_2 : w15.cell? ⟨gb398, 2, none⟩ = some (.int .i64 (-2)) := (blk_cell BK398.out 2).trans rfl; have hfz16_0 := blk_frozen BK398.out 0; have hfz16_1 := blk_frozen BK398.out 1; have hfz16_2 := blk_frozen BK398.out 2) | ((with_reducible refine gate_dst (N := 19) rfl ?_); (refine gate_guard (by rfl) ?_; dsimp only); (with_reducible refine gate_callee (f := 51) rfl ?_); refine goesL_ (some 19) rfl rfl Tryd.func51 (by kernel_rfl) rfl #[.agg #[.bool false, .string (⟨#[50, 53]⟩ : ByteArray), .int .i64 (-2)], .int .i64 2] rfl (by (try simp only [List.map_toArray]); (try simp only [List.map_cons]); (try simp only [List.map_nil]); first | done | rfl | (simp only [List.length_drop, List.length_take]; rfl)) ?_; (with_reducible refine (arith_Scale.calls false (⟨#[50, 53]⟩ : ByteArray) (-2) 2 t405 t406 t407 _ A5.out).mono ?_); rintro e w17 ⟨rfl, hb⟩; refine ⟨_, rfl, ?_⟩; have n0_ := Aside0.mk (blk_below (g := gb397) (o := .cells #[.bool false, .string (⟨#[49]⟩ : ByteArray), .int .i64 0] 23 (0, 0)) (by (with_reducible repeat (first | refine blk_drewN ?_ _ | refine blk_drew ?_ | refine blk_alloc ?_ _)); exact BK397.out) hb); have n1_ := Aside0.mk (blk_below (g := gb398) (o := .cells #[.bool false, .string (⟨#[50, 53]⟩ : ByteArray), .int .i64 (-2)] 23 (0, 0)) (by (with_reducible repeat (first | refine blk_drewN ?_ _ | refine blk_drew ?_ | refine blk_alloc ?_ _)); exact BK398.out) hb); have n2_ := Aside0.mk (below_step (by repeat (first | (with_reducible first | exact HB.out | apply below_alloc | apply pw_below_drewN | apply below_drew1 | refine below_set ?_ GE397.out | refine below_set ?_ GE398.out) | exact HB.out)) hb); clear BK397; clear BK398; clear HB; have BK397 := n0_; have BK398 := n1_; have HB := n2_; clear n0_ n1_ n2_; (try clear hb); (try clear hb2); (try clear hk); (try clear hi); have hcz18_0 : w17.cell? ⟨gb397, 0, none⟩ = some (.bool false) := (blk_cell BK397.out 0).trans rfl; have hcz18_1 : w17.cell? ⟨gb397, 1, none⟩ = some (.string (⟨#[49]⟩ : ByteArray)) := (blk_cell BK397.out 1).trans rfl; have hcz18_2 : w17.cell? ⟨gb397, 2, none⟩ = some (.int .i64 0) := (blk_cell BK397.out 2).trans rfl; have hfz18_0 := blk_frozen BK397.out 0; have hfz18_1 := blk_frozen BK397.out 1; have hfz18_2 := blk_frozen BK397.out 2) | ((with_reducible refine gate_dst (N := 25) rfl ?_); (refine gate_guard (by rfl) ?_; dsimp only); (with_reducible refine gate_callee (f := 40) rfl ?_); refine goesL_ (some 25) rfl rfl Tryd.func40 (by kernel_rfl) rfl #[.agg #[.bool false, .string (⟨#[49]⟩ : ByteArray), .int .i64 0]] rfl (by (try simp only [List.map_toArray]); (try simp only [List.map_cons]); (try simp only [List.map_nil]); first | done | rfl | (simp only [List.length_drop, List.length_take]; rfl)) ?_; (with_reducible refine (arith_Neg.calls false (⟨#[49]⟩ : ByteArray) 0 t408 t409 t410 _ A7.out).mono ?_); rintro e w19 ⟨rfl, hb⟩; refine ⟨_, rfl, ?_⟩; have n0_ := Aside0.mk (blk_below (g := gb397) (o := .cells #[.bool false, .string (⟨#[49]⟩ : ByteArray), .int .i64 0] 23 (0, 0)) (by (with_reducible repeat (first | refine blk_drewN ?_ _ | refine blk_drew ?_ | refine blk_alloc ?_ _)); exact BK397.out) hb); have n1_ := Aside0.mk (blk_below (g := gb398) (o := .cells #[.bool false, .string (⟨#[50, 53]⟩ : ByteArray), .int .i64 (-2)] 23 (0, 0)) (by (with_reducible repeat (first | refine blk_drewN ?_ _ | refine blk_drew ?_ | refine blk_alloc ?_ _)); exact BK398.out) hb); have n2_ := Aside0.mk (below_step (by repeat (first | (with_reducible first | exact HB.out | apply below_alloc | apply pw_below_drewN | apply below_drew1 | refine below_set ?_ GE397.out | refine below_set ?_ GE398.out) | exact HB.out)) hb); clear BK397; clear BK398; clear HB; have BK397 := n0_; have BK398 := n1_; have HB := n2_; clear n0_ n1_ n2_; (try clear hb); (try clear hb2); (try clear hk); (try clear hi)))
        go_ret
        exact ⟨by first | rfl | (simp [errW_none, errW_some] <;> rfl) | (simp [*, errW_none, errW_some] <;> rfl), by repeat (first | (with_reducible first | exact HB.out | apply below_alloc | apply pw_below_drewN | apply below_drew1 | refine below_set ?_ GE397.out | refine below_set ?_ GE398.out) | exact HB.out)⟩
      · rw [if_neg c6] at H
        have c6b0 : (!t405 && (t406.toList == ([50, 53] : List UInt8) && (t407 == 0))) = false := by simpa using c6
        clear c6
        exact absurd ((Option.some.inj H).trans HT.out) (by decide)
    · rw [if_neg c4] at H
      have c4b0 : (!t402 && (t403.toList == ([54, 50, 53] : List UInt8) && (t404 == (-4)))) = false := by simpa using c4
      clear c4
      exact absurd ((Option.some.inj H).trans HT.out) (by decide)
  · rw [if_neg c2] at H
    have c2b0 : (!t399 && (t400.toList == ([55, 53] : List UInt8) && (t401 == (-2)))) = false := by simpa using c2
    clear c2
    exact absurd ((Option.some.inj H).trans HT.out) (by decide)
end Go.Proofs.YtbjaiphfehnncaaDoor.Px
end
section
namespace Go.Proofs.YtbjaiphfehnncaaDoor.Px
open Fig Go.RowKit Go.Proofs.YtbjaiphfehnncaaDoorW.PrintWords Go.Proofs.YtbjaiphfehnncaaDoorW.PrintLast Go.Proofs.YtbjaiphfehnncaaDoorW.PrintMore
attribute [local go_sem] max2_int min2_int max_two min_two max_three min_three max_four min_four   -- for this text's walks alone
attribute [local go_sem] fieldA23_0 fieldA23_1 fieldA23_2
def figureheadref01_Zeros.l0 : Nat → Int → List Int → Int → Option (ByteArray)
  | 0, _, _, _ => none
  | k + 1, x0, x3, x4 => if x4 < x0 then (if x3.length < 140737488355328 then (figureheadref01_Zeros.l0 k x0 (x3 ++ [48]) (wrap64 (x4 + 1))) else (none)) else (some (strOfNums x3))
def figureheadref01_Zeros.f (k : Nat) (a0 : Int) : Option (ByteArray) := figureheadref01_Zeros.l0 k a0 ([] : List Int) 0
theorem figureheadref01_Zeros.mono_l : ∀ k, (∀ y0 y1 y2, LeO (figureheadref01_Zeros.l0 k y0 y1 y2) (figureheadref01_Zeros.l0 (k + 1) y0 y1 y2))
  | 0 => fun _ _ _ r h => by simp [figureheadref01_Zeros.l0] at h
  | k + 1 => by
    have ih0 := figureheadref01_Zeros.mono_l k
    · intro y0 y1 y2
      unfold figureheadref01_Zeros.l0
      repeat' first
      | (with_reducible exact ih0 _ _ _)
      | (with_reducible exact LeO.refl _)
      | (with_reducible exact LeO.none _)
      | (with_reducible refine LeO.ite ?_ ?_)
      | (with_reducible refine LeO.bind ?_ (fun _ => ?_))
      | exact ih0 _ _ _
      | exact LeO.none _
      | refine LeO.ite ?_ ?_
      | refine LeO.bind ?_ (fun _ => ?_)
theorem figureheadref01_Zeros.mono : ∀ a0 k, LeO (figureheadref01_Zeros.f k a0) (figureheadref01_Zeros.f (k + 1) a0) := by
  intro a0 k
  have ih0 := figureheadref01_Zeros.mono_l k
  unfold figureheadref01_Zeros.f
  repeat' first
      | (with_reducible exact ih0 _ _ _)
      | (with_reducible exact LeO.refl _)
      | (with_reducible exact LeO.none _)
      | (with_reducible refine LeO.ite ?_ ?_)
      | (with_reducible refine LeO.bind ?_ (fun _ => ?_))
      | exact ih0 _ _ _
      | exact LeO.none _
      | refine LeO.ite ?_ ?_
      | refine LeO.bind ?_ (fun _ => ?_)
set_option maxHeartbeats 8000000 in
set_option maxRecDepth 100000 in
theorem figureheadref01_Zeros.calls (k : Nat) (a0 : Int) (r : ByteArray) (w : World) (h : figureheadref01_Zeros.f k a0 = some r) :
    Calls Tryd.prog 73 #[.int .i64 a0] w fun e w' => e = .returned (.string r) ∧ Below w.heap.size w w' := by
  have HB := Aside0.mk (Below.refl w.heap.size w)
  have H : (figureheadref01_Zeros.l0 k a0 ([] : List Int) 0) = some r := h
  clear h
  have H' := Aside0.mk H
  clear H
  go_enter Tryd.func73, Tryd.ntmps73
  go_wp2
  go_loopg [3, 4] k (fun kq v3 v4 w' => ∃ (x3_1 : List Int) (x4_1 : Int), v4 = .int .i64 x4_1 ∧ Aside0 (figureheadref01_Zeros.l0 kq a0 x3_1 x4_1 = some r) ∧ Aside0 (kq ≤ k) ∧ Aside0 (Kd.R (Kd.int .u8) 5 w' w.heap.size (fun _ => True) v3 x3_1) ∧ Aside0 (Below w.heap.size w w'))
  case atStart => exact ⟨(([] : List Int)), (0), (by first | rfl | (simp; done) | (simp [*]; done) | (simp [*, Fig.bne_nil]; done)), H', ⟨Nat.le_refl _⟩, ⟨by first | exact Kd.R_nil _ _ _ _ _ | exact Kd.N_nil _ _ _ _ _ | exact Kd.V_nil _ _ _ _ _ | exact Kd.Q_nil _ _ _ _ _ | exact Kd.S_nil _ _ _ _ _⟩, ⟨by repeat (first | (with_reducible first | exact HB.out | apply below_alloc | apply pw_below_drewN | apply below_drew1) | exact HB.out)⟩⟩
  case round =>
    clear H'
    obtain ⟨x3_1, x4_1, rfl, HA, HK1, HO_3, HB⟩ := hrel
    cases gk with
    | zero => exact absurd HA.out (by simp [figureheadref01_Zeros.l0])
    | succ k1 =>
      have H := HA.out
      clear HA
      simp only [figureheadref01_Zeros.l0] at H
      by_cases c2 : x4_1 < a0
      · rw [if_pos c2] at H
        have c2b0 : decide (x4_1 < a0) = true := decide_eq_true c2
        clear c2
        by_cases c3 : x3_1.length < 140737488355328
        · rw [if_pos c3] at H
          have LMc3 := Aside0.mk c3
          clear c3
          obtain ⟨y220, hy220⟩ : ∃ y_ : List Int, y_ = (x3_1 ++ [48]) := ⟨_, rfl⟩
          replace H : (figureheadref01_Zeros.l0 k1 a0 y220 (wrap64 (x4_1 + 1))) = some r := by first | (rw [hy220]; with_reducible exact H) | (have H2_ := (Option.bind_some _ _).symm.trans H; rw [hy220]; with_reducible exact H2_) | (have H2_ := (Option.bind_some _ _).symm.trans H; with_reducible exact H2_) | with_reducible exact H | (rw [hy220]; exact H) | exact H
          have Ny220 := Aside0.mk hy220
          clear hy220
          have H' := Aside0.mk H
          clear H
          go_wp2_with (first | ((with_reducible refine gate_builtin (b := .append) (xs := #[.tmp 10, .tmp 11]) rfl ?_); at_builtin; refine Kd.R_append (Kd.int .u8) (w0 := w) w.heap.size rfl (.tmp 10) (.tmp 11) 74 5 (.int .u8 0) 1 rfl Tryd.underlying74 info5 rfl (by decide) (by omega) u3 x3_1 48 [.int .u8 48] (fun _ => True) (fun _ => False) rfl rfl ?aP (fun _ hk => hk.elim) ?aF ?aO ?aB ?aS ?aL ?_; (case aP => exact rfl); (case aB => exact (by repeat (first | (with_reducible first | exact HB.out | apply below_alloc | apply pw_below_drewN | apply below_drew1) | exact HB.out))); (case aF => exact (fun _ _ => trivial)); (case aO => exact (by (with_reducible repeat (first | apply Kd.R_alloc | apply Kd.R_drewN | apply Kd.R_drew)); exact HO_3.out)); (case aS => exact (below_size (by repeat (first | (with_reducible first | exact HB.out | apply below_alloc | apply pw_below_drewN | apply below_drew1) | exact HB.out)))); (case aL => have := LMc3.out; omega); intro v221 w4 ho hb hg hat; rw [← Ny220.out] at ho; have n0_ := Aside0.mk (hb); have n1_ := Aside0.mk (ho); clear HB; clear HO_3; have HB := n0_; have HO222 := n1_; clear n0_ n1_; clear ho hb hg hat))
          go_roundg k1
          case measure => have := HK1.out; omega
          case rel => exact ⟨(y220), (wrap64 (x4_1 + 1)), (by first | rfl | (simp; done) | (simp [*]; done) | (simp [*, Fig.bne_nil]; done)), H', ⟨by have := HK1.out; omega⟩, ⟨by (with_reducible repeat (first | apply Kd.R_alloc | apply Kd.R_drewN | apply Kd.R_drew)); exact HO222.out⟩, ⟨by repeat (first | (with_reducible first | exact HB.out | apply below_alloc | apply pw_below_drewN | apply below_drew1) | exact HB.out)⟩⟩
        · rw [if_neg c3] at H
          exact absurd H (by simp)
      · rw [if_neg c2] at H
        have c2b0 : decide (x4_1 < a0) = false := decide_eq_false c2
        clear c2
        obtain rfl := Option.some.inj H
        have hcv5 := own_string (P := Tryd.prog) Tryd.underlying74 Tryd.underlying5 Tryd.underlying9 (Kd.own_of_R HO_3.out)
        go_wp2
        go_ret
        exact ⟨by first | rfl | (simp [errW_none, errW_some] <;> rfl) | (simp [*, errW_none, errW_some] <;> rfl), by repeat (first | (with_reducible first | exact HB.out | apply below_alloc | apply pw_below_drewN | apply below_drew1) | exact HB.out)⟩
end Go.Proofs.YtbjaiphfehnncaaDoor.Px
end
section
namespace Go.Proofs.YtbjaiphfehnncaaDoor.Px
open Fig Go.RowKit Go.Proofs.YtbjaiphfehnncaaDoorW.PrintWords Go.Proofs.YtbjaiphfehnncaaDoorW.PrintLast Go.Proofs.YtbjaiphfehnncaaDoorW.PrintMore
attribute [local go_sem] max2_int min2_int max_two min_two max_three min_three max_four min_four   -- for this text's walks alone
attribute [local go_sem] fieldA23_0 fieldA23_1 fieldA23_2
def figureheadref05_At.f (k : Nat) (a0_0 : Bool) (a0_1 : ByteArray) (a0_2 : Int) (a1 : Int) : Option (ByteArray) := (figureheadref01_Strip.f k a0_1).bind fun t224 => (if t224.toList = ([] : List UInt8) then (some (⟨#[]⟩ : ByteArray)) else ((figureheadref01_Zeros.f k (wrap64 (a0_2 - a1))).bind fun t225 => (if t224.size + t225.size ≤ 9223372036854775807 then (some (t224 ++ t225)) else (none))))
theorem figureheadref05_At.mono : ∀ a0 a1 a2 a3 k, LeO (figureheadref05_At.f k a0 a1 a2 a3) (figureheadref05_At.f (k + 1) a0 a1 a2 a3) := by
  intro a0 a1 a2 a3 k
  unfold figureheadref05_At.f
  repeat' first
      | (with_reducible exact figureheadref01_Strip.mono _ _)
      | (with_reducible exact figureheadref01_Zeros.mono _ _)
      | (with_reducible exact LeO.refl _)
      | (with_reducible exact LeO.none _)
      | (with_reducible refine LeO.ite ?_ ?_)
      | (with_reducible refine LeO.bind ?_ (fun _ => ?_))
      | exact figureheadref01_Strip.mono _ _
      | exact figureheadref01_Zeros.mono _ _
      | exact LeO.none _
      | refine LeO.ite ?_ ?_
      | refine LeO.bind ?_ (fun _ => ?_)
set_option maxHeartbeats 8000000 in
set_option maxRecDepth 100000 in
theorem figureheadref05_At.calls (k : Nat) (a0_0 : Bool) (a0_1 : ByteArray) (a0_2 : Int) (a1 : Int) (r : ByteArray) (w : World) (h : figureheadref05_At.f k a0_0 a0_1 a0_2 a1 = some r) :
    Calls Tryd.prog 49 #[.agg #[.bool a0_0, .string a0_1, .int .i64 a0_2], .int .i64 a1] w fun e w' => e = .returned (.string r) ∧ Below w.heap.size w w' := by
  have hu23 := Tryd.underlying23
  have HB := Aside0.mk (Below.refl w.heap.size w)
  have H : ((figureheadref01_Strip.f k a0_1).bind fun t224 => (if t224.toList = ([] : List UInt8) then (some (⟨#[]⟩ : ByteArray)) else ((figureheadref01_Zeros.f k (wrap64 (a0_2 - a1))).bind fun t225 => (if t224.size + t225.size ≤ 9223372036854775807 then (some (t224 ++ t225)) else (none))))) = some r := h
  clear h
  replace H := Option.bind_eq_some_iff.mp H
  obtain ⟨t224, A30, H⟩ := H
  replace H : (if t224.toList = ([] : List UInt8) then (some (⟨#[]⟩ : ByteArray)) else ((figureheadref01_Zeros.f k (wrap64 (a0_2 - a1))).bind fun t225 => (if t224.size + t225.size ≤ 9223372036854775807 then (some (t224 ++ t225)) else (none)))) = some r := H
  have A3 := Aside0.mk A30
  clear A30
  by_cases c4 : t224.toList = ([] : List UInt8)
  · rw [if_pos c4] at H
    have c4b0 : (t224.toList == ([] : List UInt8)) = true := beq_iff_eq.mpr c4
    have c4b1 : (t224.toList != ([] : List UInt8)) = false := bne_eq_false_iff_eq.mpr c4
    clear c4
    obtain rfl := Option.some.inj H
    go_enter Tryd.func49, Tryd.ntmps49
    go_wp2_with (first | ((with_reducible refine gate_dst (N := 2) rfl ?_); refine box_event ?hg (N := 2) ?hd (cs := #[.bool a0_0, .string a0_1, .int .i64 a0_2]) (t := 23) ?hr ?_; (case hd => rfl); (case hg => rfl); (case hr => first | (go_simp; done) | (go_simp; rfl)); intro gb223 hg w5 hbox hb; have n0_ := Aside0.mk (below_step (by repeat (first | (with_reducible first | exact HB.out | apply below_alloc | apply pw_below_drewN | apply below_drew1) | exact HB.out)) hb); have n1_ := Aside0.mk (hbox); have n2_ := Aside0.mk ((by rw [hg]; exact (below_size (by repeat (first | (with_reducible first | exact HB.out | apply below_alloc | apply pw_below_drewN | apply below_drew1) | exact HB.out))) : w.heap.size ≤ gb223)); have n3_ := Aside0.mk ((by rw [hg]; exact (below_size (by repeat (first | (with_reducible first | exact HB.out | apply below_alloc | apply pw_below_drewN | apply below_drew1) | exact HB.out))) : w.heap.size ≤ gb223)); clear HB; have HB := n0_; have BK223 := n1_; have GW223 := n2_; have GE223 := n3_; clear n0_ n1_ n2_ n3_; clear hb hbox hg; have hcz6_0 : w5.cell? ⟨gb223, 0, none⟩ = some (.bool a0_0) := (blk_cell BK223.out 0).trans rfl; have hcz6_1 : w5.cell? ⟨gb223, 1, none⟩ = some (.string a0_1) := (blk_cell BK223.out 1).trans rfl; have hcz6_2 : w5.cell? ⟨gb223, 2, none⟩ = some (.int .i64 a0_2) := (blk_cell BK223.out 2).trans rfl; have hfz6_0 := blk_frozen BK223.out 0; have hfz6_1 := blk_frozen BK223.out 1; have hfz6_2 := blk_frozen BK223.out 2) | ((with_reducible refine gate_callee (f := 46) rfl ?_); refine goesL_ (some 8) rfl rfl Tryd.func46 (by kernel_rfl) rfl #[.string a0_1] rfl (by (try simp only [List.map_toArray]); (try simp only [List.map_cons]); (try simp only [List.map_nil]); first | done | rfl | (simp only [List.length_drop, List.length_take]; rfl)) ?_; (with_reducible refine (figureheadref01_Strip.calls k a0_1 t224 _ A3.out).mono ?_); rintro e w' ⟨rfl, ⟨nd, rfl⟩⟩; refine ⟨_, rfl, ?_⟩))
    go_ret
    exact ⟨by first | rfl | (simp [errW_none, errW_some] <;> rfl) | (simp [*, errW_none, errW_some] <;> rfl), by repeat (first | (with_reducible first | exact HB.out | apply below_alloc | apply pw_below_drewN | apply below_drew1 | refine below_set ?_ GE223.out) | exact HB.out)⟩
  · rw [if_neg c4] at H
    have c4b0 : (t224.toList == ([] : List UInt8)) = false := beq_eq_false_iff_ne.mpr c4
    have c4b1 : (t224.toList != ([] : List UInt8)) = true := bne_iff_ne.mpr c4
    replace H := Option.bind_eq_some_iff.mp H
    obtain ⟨t225, A70, H⟩ := H
    replace H : (if t224.size + t225.size ≤ 9223372036854775807 then (some (t224 ++ t225)) else (none)) = some r := H
    have A7 := Aside0.mk A70
    clear A70
    by_cases c8 : t224.size + t225.size ≤ 9223372036854775807
    · rw [if_pos c8] at H
      have c8b0 := eq_true c8
      have c8b1 : decide (t224.size + t225.size ≤ 9223372036854775807) = true := decide_eq_true c8
      try have c8b2 : (9223372036854775807 < t224.size + t225.size) = False := eq_false (Nat.not_lt.2 c8)
      obtain rfl := Option.some.inj H
      go_enter Tryd.func49, Tryd.ntmps49
      go_wp2_with (first | ((with_reducible refine gate_dst (N := 2) rfl ?_); refine box_event ?hg (N := 2) ?hd (cs := #[.bool a0_0, .string a0_1, .int .i64 a0_2]) (t := 23) ?hr ?_; (case hd => rfl); (case hg => rfl); (case hr => first | (go_simp; done) | (go_simp; rfl)); intro gb223 hg w9 hbox hb; have n0_ := Aside0.mk (below_step (by repeat (first | (with_reducible first | exact HB.out | apply below_alloc | apply pw_below_drewN | apply below_drew1) | exact HB.out)) hb); have n1_ := Aside0.mk (hbox); have n2_ := Aside0.mk ((by rw [hg]; exact (below_size (by repeat (first | (with_reducible first | exact HB.out | apply below_alloc | apply pw_below_drewN | apply below_drew1) | exact HB.out))) : w.heap.size ≤ gb223)); have n3_ := Aside0.mk ((by rw [hg]; exact (below_size (by repeat (first | (with_reducible first | exact HB.out | apply below_alloc | apply pw_below_drewN | apply below_drew1) | exact HB.out))) : w.heap.size ≤ gb223)); clear HB; have HB := n0_; have BK223 := n1_; have GW223 := n2_; have GE223 := n3_; clear n0_ n1_ n2_ n3_; clear hb hbox hg; have hcz10_0 : w9.cell? ⟨gb223, 0, none⟩ = some (.bool a0_0) := (blk_cell BK223.out 0).trans rfl; have hcz10_1 : w9.cell? ⟨gb223, 1, none⟩ = some (.string a0_1) := (blk_cell BK223.out 1).trans rfl; have hcz10_2 : w9.cell? ⟨gb223, 2, none⟩ = some (.int .i64 a0_2) := (blk_cell BK223.out 2).trans rfl; have hfz10_0 := blk_frozen BK223.out 0; have hfz10_1 := blk_frozen BK223.out 1; have hfz10_2 := blk_frozen BK223.out 2) | ((with_reducible refine gate_callee (f := 46) rfl ?_); refine goesL_ (some 8) rfl rfl Tryd.func46 (by kernel_rfl) rfl #[.string a0_1] rfl (by (try simp only [List.map_toArray]); (try simp only [List.map_cons]); (try simp only [List.map_nil]); first | done | rfl | (simp only [List.length_drop, List.length_take]; rfl)) ?_; (with_reducible refine (figureheadref01_Strip.calls k a0_1 t224 _ A3.out).mono ?_); rintro e w' ⟨rfl, ⟨nd, rfl⟩⟩; refine ⟨_, rfl, ?_⟩) | ((with_reducible refine gate_callee (f := 73) rfl ?_); refine goesL_ (some 16) rfl rfl Tryd.func73 (by kernel_rfl) rfl #[.int .i64 (wrap64 (a0_2 - a1))] rfl (by (try simp only [List.map_toArray]); (try simp only [List.map_cons]); (try simp only [List.map_nil]); first | done | rfl | (simp only [List.length_drop, List.length_take]; rfl)) ?_; (with_reducible refine (figureheadref01_Zeros.calls k (wrap64 (a0_2 - a1)) t225 _ A7.out).mono ?_); rintro e w11 ⟨rfl, hb⟩; refine ⟨_, rfl, ?_⟩; have n0_ := Aside0.mk (blk_below (g := gb223) (o := .cells #[.bool a0_0, .string a0_1, .int .i64 a0_2] 23 (0, 0)) (by (with_reducible repeat (first | refine blk_drewN ?_ _ | refine blk_drew ?_ | refine blk_alloc ?_ _)); exact BK223.out) hb); have n1_ := Aside0.mk (below_step (by repeat (first | (with_reducible first | exact HB.out | apply below_alloc | apply pw_below_drewN | apply below_drew1 | refine below_set ?_ GE223.out) | exact HB.out)) hb); clear BK223; clear HB; have BK223 := n0_; have HB := n1_; clear n0_ n1_; (try clear hb); (try clear hb2); (try clear hk); (try clear hi)))
      go_ret
      exact ⟨by first | rfl | (simp [errW_none, errW_some] <;> rfl) | (simp [*, errW_none, errW_some] <;> rfl), by repeat (first | (with_reducible first | exact HB.out | apply below_alloc | apply pw_below_drewN | apply below_drew1 | refine below_set ?_ GE223.out) | exact HB.out)⟩
    · rw [if_neg c8] at H
      exact absurd H (by simp)
end Go.Proofs.YtbjaiphfehnncaaDoor.Px
end
section
namespace Go.Proofs.YtbjaiphfehnncaaDoor.Px
open Fig Go.RowKit Go.Proofs.YtbjaiphfehnncaaDoorW.PrintWords Go.Proofs.YtbjaiphfehnncaaDoorW.PrintLast Go.Proofs.YtbjaiphfehnncaaDoorW.PrintMore
attribute [local go_sem] max2_int min2_int max_two min_two max_three min_three max_four min_four   -- for this text's walks alone
attribute [local go_sem] fieldA23_0 fieldA23_1 fieldA23_2
def figureheadref01_Less.f (a0 : ByteArray) (a1 : ByteArray) : Option (Bool) := if (a0.size : Int) = (a1.size : Int) then (some (Op.bytesLess a0.toList a1.toList)) else (some (decide ((a0.size : Int) < (a1.size : Int))))
set_option maxHeartbeats 8000000 in
set_option maxRecDepth 100000 in
theorem figureheadref01_Less.calls (a0 : ByteArray) (a1 : ByteArray) (r : Bool) (w : World) (h : figureheadref01_Less.f a0 a1 = some r) :
    Calls Tryd.prog 50 #[.string a0, .string a1] w fun e w' => e = .returned (.bool r) ∧ Drawn0 w w' := by
  have H : (if (a0.size : Int) = (a1.size : Int) then (some (Op.bytesLess a0.toList a1.toList)) else (some (decide ((a0.size : Int) < (a1.size : Int))))) = some r := h
  clear h
  by_cases c3 : (a0.size : Int) = (a1.size : Int)
  · rw [if_pos c3] at H
    have c3b0 : ((a0.size : Int) == (a1.size : Int)) = true := beq_iff_eq.mpr c3
    have c3b1 : ((a0.size : Int) != (a1.size : Int)) = false := bne_eq_false_iff_eq.mpr c3
    have c3b2 : (a0.size == a1.size) = true := by first | simpa using c3 | (simp at c3 ⊢; omega)
    clear c3
    obtain rfl := Option.some.inj H
    go_enter Tryd.func50, Tryd.ntmps50
    go_wp2
    go_ret
    exact ⟨by first | rfl | (simp; done) | (simp [*]; done) | (simp [*, Fig.bne_nil]; done), by repeat (first | exact Drawn0.refl _ | apply Drawn0.step)⟩
  · rw [if_neg c3] at H
    have c3b0 : ((a0.size : Int) == (a1.size : Int)) = false := beq_eq_false_iff_ne.mpr c3
    have c3b1 : ((a0.size : Int) != (a1.size : Int)) = true := bne_iff_ne.mpr c3
    have c3b2 : (a0.size == a1.size) = false := by first | simpa using c3 | (simp at c3 ⊢; omega)
    obtain rfl := Option.some.inj H
    go_enter Tryd.func50, Tryd.ntmps50
    go_wp2
    go_ret
    exact ⟨by first | rfl | (simp; done) | (simp [*]; done) | (simp [*, Fig.bne_nil]; done), by repeat (first | exact Drawn0.refl _ | apply Drawn0.step)⟩
end Go.Proofs.YtbjaiphfehnncaaDoor.Px
end
section
namespace Go.Proofs.YtbjaiphfehnncaaDoor.Px
open Fig Go.RowKit Go.Proofs.YtbjaiphfehnncaaDoorW.PrintWords Go.Proofs.YtbjaiphfehnncaaDoorW.PrintLast Go.Proofs.YtbjaiphfehnncaaDoorW.PrintMore
attribute [local go_sem] max2_int min2_int max_two min_two max_three min_three max_four min_four   -- for this text's walks alone
attribute [local go_sem] fieldA23_0 fieldA23_1 fieldA23_2
def figureheadref05_plain.f (a0_0 : Bool) (a0_1 : ByteArray) (a0_2 : Int) : Option (Bool × ByteArray × Int) := if a0_1.toList = ([48] : List UInt8) then (some (false, a0_1, a0_2)) else (some (a0_0, a0_1, a0_2))
set_option maxHeartbeats 8000000 in
set_option maxRecDepth 100000 in
theorem figureheadref05_plain.calls (a0_0 : Bool) (a0_1 : ByteArray) (a0_2 : Int) (r1 : Bool) (r2 : ByteArray) (r3 : Int) (w : World) (h : figureheadref05_plain.f a0_0 a0_1 a0_2 = some (r1, r2, r3)) :
    Calls Tryd.prog 56 #[.agg #[.bool a0_0, .string a0_1, .int .i64 a0_2]] w fun e w' => e = .returned (.agg #[.bool r1, .string r2, .int .i64 r3]) ∧ Below w.heap.size w w' := by
  have hu23 := Tryd.underlying23
  have HB := Aside0.mk (Below.refl w.heap.size w)
  have H : (if a0_1.toList = ([48] : List UInt8) then (some (false, a0_1, a0_2)) else (some (a0_0, a0_1, a0_2))) = some (r1, r2, r3) := h
  clear h
  by_cases c2 : a0_1.toList = ([48] : List UInt8)
  · rw [if_pos c2] at H
    have c2b0 : (a0_1.toList == ([48] : List UInt8)) = true := beq_iff_eq.mpr c2
    have c2b1 : (a0_1.toList != ([48] : List UInt8)) = false := bne_eq_false_iff_eq.mpr c2
    clear c2
    simp only [Option.some.injEq, Prod.mk.injEq] at H
    obtain ⟨rfl, rfl, rfl⟩ := H
    go_enter Tryd.func56, Tryd.ntmps56
    go_wp2_with (first | ((with_reducible refine gate_dst (N := 1) rfl ?_); refine box_event ?hg (N := 1) ?hd (cs := #[.bool a0_0, .string a0_1, .int .i64 a0_2]) (t := 23) ?hr ?_; (case hd => rfl); (case hg => rfl); (case hr => first | (go_simp; done) | (go_simp; rfl)); intro gb411 hg w3 hbox hb; have n0_ := Aside0.mk (below_step (by repeat (first | (with_reducible first | exact HB.out | apply below_alloc | apply pw_below_drewN | apply below_drew1) | exact HB.out)) hb); have n1_ := Aside0.mk (hbox); have n2_ := Aside0.mk ((by rw [hg]; exact (below_size (by repeat (first | (with_reducible first | exact HB.out | apply below_alloc | apply pw_below_drewN | apply below_drew1) | exact HB.out))) : w.heap.size ≤ gb411)); have n3_ := Aside0.mk ((by rw [hg]; exact (below_size (by repeat (first | (with_reducible first | exact HB.out | apply below_alloc | apply pw_below_drewN | apply below_drew1) | exact HB.out))) : w.heap.size ≤ gb411)); clear HB; have HB := n0_; have BK411 := n1_; have GW411 := n2_; have GE411 := n3_; clear n0_ n1_ n2_ n3_; clear hb hbox hg) | ((with_reducible refine gate_dst (N := 2) rfl ?_); refine box_event ?hg (N := 2) ?hd (cs := #[.bool false, .string (⟨#[]⟩ : ByteArray), .int .i64 0]) (t := 23) ?hr ?_; (case hd => rfl); (case hg => rfl); (case hr => first | (go_simp; done) | (go_simp; rfl)); intro gb412 hg w4 hbox hb; have n0_ := Aside0.mk (blk_below (g := gb411) (o := .cells #[.bool a0_0, .string a0_1, .int .i64 a0_2] 23 (0, 0)) (by (with_reducible repeat (first | refine blk_drewN ?_ _ | refine blk_drew ?_ | refine blk_alloc ?_ _)); exact BK411.out) hb); have n1_ := Aside0.mk (below_step (by repeat (first | (with_reducible first | exact HB.out | apply below_alloc | apply pw_below_drewN | apply below_drew1 | refine below_set ?_ GE411.out) | exact HB.out)) hb); have n2_ := Aside0.mk (hbox); have n3_ := Aside0.mk ((by rw [hg]; exact (below_size (by repeat (first | (with_reducible first | exact HB.out | apply below_alloc | apply pw_below_drewN | apply below_drew1 | refine below_set ?_ GE411.out) | exact HB.out))) : w.heap.size ≤ gb412)); have n4_ := Aside0.mk ((by rw [hg]; exact (below_size (by repeat (first | (with_reducible first | exact HB.out | apply below_alloc | apply pw_below_drewN | apply below_drew1 | refine below_set ?_ GE411.out) | exact HB.out))) : w.heap.size ≤ gb412)); have n5_ := Aside0.mk ((by rw [hg]; exact Nat.ne_of_lt (blk_lt (g := gb411) (o := .cells #[.bool a0_0, .string a0_1, .int .i64 a0_2] 23 (0, 0)) (by (with_reducible repeat (first | refine blk_drewN ?_ _ | refine blk_drew ?_ | refine blk_alloc ?_ _)); exact BK411.out)) : gb411 ≠ gb412)); have n6_ := Aside0.mk ((by rw [hg]; exact Nat.ne_of_gt (blk_lt (g := gb411) (o := .cells #[.bool a0_0, .string a0_1, .int .i64 a0_2] 23 (0, 0)) (by (with_reducible repeat (first | refine blk_drewN ?_ _ | refine blk_drew ?_ | refine blk_alloc ?_ _)); exact BK411.out)) : gb412 ≠ gb411)); clear BK411; clear HB; have BK411 := n0_; have HB := n1_; have BK412 := n2_; have GW412 := n3_; have GE412 := n4_; have NB411_412 := n5_; have NB412_411 := n6_; clear n0_ n1_ n2_ n3_ n4_ n5_ n6_; clear hb hbox hg; have hnb5 := NB411_412.out; have hnc5 := NB412_411.out; have hcz6_0 : w4.cell? ⟨gb411, 0, none⟩ = some (.bool a0_0) := (blk_cell BK411.out 0).trans rfl; have hcz6_1 : w4.cell? ⟨gb411, 1, none⟩ = some (.string a0_1) := (blk_cell BK411.out 1).trans rfl; have hcz6_2 : w4.cell? ⟨gb411, 2, none⟩ = some (.int .i64 a0_2) := (blk_cell BK411.out 2).trans rfl; have hfz6_0 := blk_frozen BK411.out 0; have hfz6_1 := blk_frozen BK411.out 1; have hfz6_2 := blk_frozen BK411.out 2; have hcz7_0 : w4.cell? ⟨gb412, 0, none⟩ = some (.bool false) := (blk_cell BK412.out 0).trans rfl; have hcz7_1 : w4.cell? ⟨gb412, 1, none⟩ = some (.string (⟨#[]⟩ : ByteArray)) := (blk_cell BK412.out 1).trans rfl; have hcz7_2 : w4.cell? ⟨gb412, 2, none⟩ = some (.int .i64 0) := (blk_cell BK412.out 2).trans rfl; have hfz7_0 := blk_frozen BK412.out 0; have hfz7_1 := blk_frozen BK412.out 1; have hfz7_2 := blk_frozen BK412.out 2))
    refine bodyPost_ret (results_cell_row rfl _ _ gb412 23 #[.bool false, .string a0_1, .int .i64 a0_2] (0, 0) _ rfl (by (with_reducible repeat (first | refine blk_drewN ?_ _ | refine blk_drew ?_ | refine blk_alloc ?_ _)); refine blk_put (cs := #[.bool false, .string a0_1, .int .i64 0]) ?_ 2 _ rfl; (with_reducible repeat (first | refine blk_drewN ?_ _ | refine blk_drew ?_ | refine blk_alloc ?_ _)); refine blk_put (cs := #[.bool false, .string (⟨#[]⟩ : ByteArray), .int .i64 0]) ?_ 1 _ rfl; (with_reducible repeat (first | refine blk_drewN ?_ _ | refine blk_drew ?_ | refine blk_alloc ?_ _)); refine blk_put (cs := #[.bool false, .string (⟨#[]⟩ : ByteArray), .int .i64 0]) ?_ 0 _ rfl; (with_reducible repeat (first | refine blk_drewN ?_ _ | refine blk_drew ?_ | refine blk_alloc ?_ _)); refine blk_far ?_ NB412_411.out _; (with_reducible repeat (first | refine blk_drewN ?_ _ | refine blk_drew ?_ | refine blk_alloc ?_ _)); exact BK412.out) Tryd.underlying23 rfl (by kernel_rfl)) rfl ?_
    exact ⟨by first | rfl | (simp [errW_none, errW_some] <;> rfl) | (simp [*, errW_none, errW_some] <;> rfl), by repeat (first | (with_reducible first | exact HB.out | apply below_alloc | apply pw_below_drewN | apply below_drew1 | refine below_set ?_ GE411.out | refine below_set ?_ GE412.out) | exact HB.out)⟩
  · rw [if_neg c2] at H
    have c2b0 : (a0_1.toList == ([48] : List UInt8)) = false := beq_eq_false_iff_ne.mpr c2
    have c2b1 : (a0_1.toList != ([48] : List UInt8)) = true := bne_iff_ne.mpr c2
    simp only [Option.some.injEq, Prod.mk.injEq] at H
    obtain ⟨rfl, rfl, rfl⟩ := H
    go_enter Tryd.func56, Tryd.ntmps56
    go_wp2_with (first | ((with_reducible refine gate_dst (N := 1) rfl ?_); refine box_event ?hg (N := 1) ?hd (cs := #[.bool a0_0, .string a0_1, .int .i64 a0_2]) (t := 23) ?hr ?_; (case hd => rfl); (case hg => rfl); (case hr => first | (go_simp; done) | (go_simp; rfl)); intro gb411 hg w8 hbox hb; have n0_ := Aside0.mk (below_step (by repeat (first | (with_reducible first | exact HB.out | apply below_alloc | apply pw_below_drewN | apply below_drew1) | exact HB.out)) hb); have n1_ := Aside0.mk (hbox); have n2_ := Aside0.mk ((by rw [hg]; exact (below_size (by repeat (first | (with_reducible first | exact HB.out | apply below_alloc | apply pw_below_drewN | apply below_drew1) | exact HB.out))) : w.heap.size ≤ gb411)); have n3_ := Aside0.mk ((by rw [hg]; exact (below_size (by repeat (first | (with_reducible first | exact HB.out | apply below_alloc | apply pw_below_drewN | apply below_drew1) | exact HB.out))) : w.heap.size ≤ gb411)); clear HB; have HB := n0_; have BK411 := n1_; have GW411 := n2_; have GE411 := n3_; clear n0_ n1_ n2_ n3_; clear hb hbox hg) | ((with_reducible refine gate_dst (N := 2) rfl ?_); refine box_event ?hg (N := 2) ?hd (cs := #[.bool false, .string (⟨#[]⟩ : ByteArray), .int .i64 0]) (t := 23) ?hr ?_; (case hd => rfl); (case hg => rfl); (case hr => first | (go_simp; done) | (go_simp; rfl)); intro gb412 hg w9 hbox hb; have n0_ := Aside0.mk (blk_below (g := gb411) (o := .cells #[.bool a0_0, .string a0_1, .int .i64 a0_2] 23 (0, 0)) (by (with_reducible repeat (first | refine blk_drewN ?_ _ | refine blk_drew ?_ | refine blk_alloc ?_ _)); exact BK411.out) hb); have n1_ := Aside0.mk (below_step (by repeat (first | (with_reducible first | exact HB.out | apply below_alloc | apply pw_below_drewN | apply below_drew1 | refine below_set ?_ GE411.out) | exact HB.out)) hb); have n2_ := Aside0.mk (hbox); have n3_ := Aside0.mk ((by rw [hg]; exact (below_size (by repeat (first | (with_reducible first | exact HB.out | apply below_alloc | apply pw_below_drewN | apply below_drew1 | refine below_set ?_ GE411.out) | exact HB.out))) : w.heap.size ≤ gb412)); have n4_ := Aside0.mk ((by rw [hg]; exact (below_size (by repeat (first | (with_reducible first | exact HB.out | apply below_alloc | apply pw_below_drewN | apply below_drew1 | refine below_set ?_ GE411.out) | exact HB.out))) : w.heap.size ≤ gb412)); have n5_ := Aside0.mk ((by rw [hg]; exact Nat.ne_of_lt (blk_lt (g := gb411) (o := .cells #[.bool a0_0, .string a0_1, .int .i64 a0_2] 23 (0, 0)) (by (with_reducible repeat (first | refine blk_drewN ?_ _ | refine blk_drew ?_ | refine blk_alloc ?_ _)); exact BK411.out)) : gb411 ≠ gb412)); have n6_ := Aside0.mk ((by rw [hg]; exact Nat.ne_of_gt (blk_lt (g := gb411) (o := .cells #[.bool a0_0, .string a0_1, .int .i64 a0_2] 23 (0, 0)) (by (with_reducible repeat (first | refine blk_drewN ?_ _ | refine blk_drew ?_ | refine blk_alloc ?_ _)); exact BK411.out)) : gb412 ≠ gb411)); clear BK411; clear HB; have BK411 := n0_; have HB := n1_; have BK412 := n2_; have GW412 := n3_; have GE412 := n4_; have NB411_412 := n5_; have NB412_411 := n6_; clear n0_ n1_ n2_ n3_ n4_ n5_ n6_; clear hb hbox hg; have hnb10 := NB411_412.out; have hnc10 := NB412_411.out; have hcz11_0 : w9.cell? ⟨gb411, 0, none⟩ = some (.bool a0_0) := (blk_cell BK411.out 0).trans rfl; have hcz11_1 : w9.cell? ⟨gb411, 1, none⟩ = some (.string a0_1) := (blk_cell BK411.out 1).trans rfl; have hcz11_2 : w9.cell? ⟨gb411, 2, none⟩ = some (.int .i64 a0_2) := (blk_cell BK411.out 2).trans rfl; have hfz11_0 := blk_frozen BK411.out 0; have hfz11_1 := blk_frozen BK411.out 1; have hfz11_2 := blk_frozen BK411.out 2; have hcz12_0 : w9.cell? ⟨gb412, 0, none⟩ = some (.bool false) := (blk_cell BK412.out 0).trans rfl; have hcz12_1 : w9.cell? ⟨gb412, 1, none⟩ = some (.string (⟨#[]⟩ : ByteArray)) := (blk_cell BK412.out 1).trans rfl; have hcz12_2 : w9.cell? ⟨gb412, 2, none⟩ = some (.int .i64 0) := (blk_cell BK412.out 2).trans rfl; have hfz12_0 := blk_frozen BK412.out 0; have hfz12_1 := blk_frozen BK412.out 1; have hfz12_2 := blk_frozen BK412.out 2))
    refine bodyPost_ret (results_cell_row rfl _ _ gb412 23 #[.bool a0_0, .string a0_1, .int .i64 a0_2] (0, 0) _ rfl (by (with_reducible repeat (first | refine blk_drewN ?_ _ | refine blk_drew ?_ | refine blk_alloc ?_ _)); refine blk_put (cs := #[.bool a0_0, .string a0_1, .int .i64 0]) ?_ 2 _ rfl; (with_reducible repeat (first | refine blk_drewN ?_ _ | refine blk_drew ?_ | refine blk_alloc ?_ _)); refine blk_put (cs := #[.bool a0_0, .string (⟨#[]⟩ : ByteArray), .int .i64 0]) ?_ 1 _ rfl; (with_reducible repeat (first | refine blk_drewN ?_ _ | refine blk_drew ?_ | refine blk_alloc ?_ _)); refine blk_put (cs := #[.bool false, .string (⟨#[]⟩ : ByteArray), .int .i64 0]) ?_ 0 _ rfl; (with_reducible repeat (first | refine blk_drewN ?_ _ | refine blk_drew ?_ | refine blk_alloc ?_ _)); exact BK412.out) Tryd.underlying23 rfl (by kernel_rfl)) rfl ?_
    exact ⟨by first | rfl | (simp [errW_none, errW_some] <;> rfl) | (simp [*, errW_none, errW_some] <;> rfl), by repeat (first | (with_reducible first | exact HB.out | apply below_alloc | apply pw_below_drewN | apply below_drew1 | refine below_set ?_ GE411.out | refine below_set ?_ GE412.out) | exact HB.out)⟩
end Go.Proofs.YtbjaiphfehnncaaDoor.Px
end
section
namespace Go.Proofs.YtbjaiphfehnncaaDoor.Px
open Fig Go.RowKit Go.Proofs.YtbjaiphfehnncaaDoorW.PrintWords Go.Proofs.YtbjaiphfehnncaaDoorW.PrintLast Go.Proofs.YtbjaiphfehnncaaDoorW.PrintMore
attribute [local go_sem] max2_int min2_int max_two min_two max_three min_three max_four min_four   -- for this text's walks alone
attribute [local go_sem] fieldA23_0 fieldA23_1 fieldA23_2
def figureheadref05_Norm.l0 : Nat → ByteArray → Int → Bool → ByteArray → Int → Option (Bool × ByteArray × Int)
  | 0, _, _, _, _, _ => none
  | k + 1, x3, x4, x177000, x177001, x177002 => if 0 ≤ (wrap64 ((x3.size : Int) - 1)) then (if (wrap64 ((x3.size : Int) - 1)) < (x3.size : Int) then (if (bt x3 (wrap64 ((x3.size : Int) - 1))) = 48 then (if (wrap64 ((x3.size : Int) - 1)) ≤ (x3.size : Int) then (figureheadref05_Norm.l0 k (x3.extract 0 ((wrap64 ((x3.size : Int) - 1)) : Int).toNat) (wrap64 (x4 + 1)) x177000 x177001 x177002) else (none)) else (some (x177000, x3, x4))) else (none)) else (none)
def figureheadref05_Norm.f (k : Nat) (a0_0 : Bool) (a0_1 : ByteArray) (a0_2 : Int) : Option (Bool × ByteArray × Int) := (figureheadref01_Strip.f k a0_1).bind fun t178 => (if t178.toList = ([] : List UInt8) then (some (a0_0, (⟨#[48]⟩ : ByteArray), 0)) else (figureheadref05_Norm.l0 k t178 a0_2 a0_0 a0_1 a0_2))
theorem figureheadref05_Norm.mono_l : ∀ k, (∀ y0 y1 y2 y3 y4, LeO (figureheadref05_Norm.l0 k y0 y1 y2 y3 y4) (figureheadref05_Norm.l0 (k + 1) y0 y1 y2 y3 y4))
  | 0 => fun _ _ _ _ _ r h => by simp [figureheadref05_Norm.l0] at h
  | k + 1 => by
    have ih0 := figureheadref05_Norm.mono_l k
    · intro y0 y1 y2 y3 y4
      unfold figureheadref05_Norm.l0
      repeat' first
      | (with_reducible exact ih0 _ _ _ _ _)
      | (with_reducible exact figureheadref01_Strip.mono _ _)
      | (with_reducible exact LeO.refl _)
      | (with_reducible exact LeO.none _)
      | (with_reducible refine LeO.ite ?_ ?_)
      | (with_reducible refine LeO.bind ?_ (fun _ => ?_))
      | exact ih0 _ _ _ _ _
      | exact figureheadref01_Strip.mono _ _
      | exact LeO.none _
      | refine LeO.ite ?_ ?_
      | refine LeO.bind ?_ (fun _ => ?_)
theorem figureheadref05_Norm.mono : ∀ a0 a1 a2 k, LeO (figureheadref05_Norm.f k a0 a1 a2) (figureheadref05_Norm.f (k + 1) a0 a1 a2) := by
  intro a0 a1 a2 k
  have ih0 := figureheadref05_Norm.mono_l k
  unfold figureheadref05_Norm.f
  repeat' first
      | (with_reducible exact ih0 _ _ _ _ _)
      | (with_reducible exact figureheadref01_Strip.mono _ _)
      | (with_reducible exact LeO.refl _)
      | (with_reducible exact LeO.none _)
      | (with_reducible refine LeO.ite ?_ ?_)
      | (with_reducible refine LeO.bind ?_ (fun _ => ?_))
      | exact ih0 _ _ _ _ _
      | exact figureheadref01_Strip.mono _ _
      | exact LeO.none _
      | refine LeO.ite ?_ ?_
      | refine LeO.bind ?_ (fun _ => ?_)
set_option maxHeartbeats 8000000 in
set_option maxRecDepth 100000 in
theorem figureheadref05_Norm.calls (k : Nat) (a0_0 : Bool) (a0_1 : ByteArray) (a0_2 : Int) (r1 : Bool) (r2 : ByteArray) (r3 : Int) (w : World) (h : figureheadref05_Norm.f k a0_0 a0_1 a0_2 = some (r1, r2, r3)) :
    Calls Tryd.prog 19 #[.agg #[.bool a0_0, .string a0_1, .int .i64 a0_2]] w fun e w' => e = .returned (.agg #[.bool r1, .string r2, .int .i64 r3]) ∧ Below w.heap.size w w' := by
  have hu23 := Tryd.underlying23
  have HB := Aside0.mk (Below.refl w.heap.size w)
  have H : ((figureheadref01_Strip.f k a0_1).bind fun t178 => (if t178.toList = ([] : List UInt8) then (some (a0_0, (⟨#[48]⟩ : ByteArray), 0)) else (figureheadref05_Norm.l0 k t178 a0_2 a0_0 a0_1 a0_2))) = some (r1, r2, r3) := h
  clear h
  replace H := Option.bind_eq_some_iff.mp H
  obtain ⟨t178, A20, H⟩ := H
  replace H : (if t178.toList = ([] : List UInt8) then (some (a0_0, (⟨#[48]⟩ : ByteArray), 0)) else (figureheadref05_Norm.l0 k t178 a0_2 a0_0 a0_1 a0_2)) = some (r1, r2, r3) := H
  have A2 := Aside0.mk A20
  clear A20
  by_cases c3 : t178.toList = ([] : List UInt8)
  · rw [if_pos c3] at H
    have c3b0 : (t178.toList == ([] : List UInt8)) = true := beq_iff_eq.mpr c3
    have c3b1 : (t178.toList != ([] : List UInt8)) = false := bne_eq_false_iff_eq.mpr c3
    clear c3
    simp only [Option.some.injEq, Prod.mk.injEq] at H
    obtain ⟨rfl, rfl, rfl⟩ := H
    go_enter Tryd.func19, Tryd.ntmps19
    go_wp2_with (first | ((with_reducible refine gate_dst (N := 1) rfl ?_); refine box_event ?hg (N := 1) ?hd (cs := #[.bool a0_0, .string a0_1, .int .i64 a0_2]) (t := 23) ?hr ?_; (case hd => rfl); (case hg => rfl); (case hr => first | (go_simp; done) | (go_simp; rfl)); intro gb176 hg w4 hbox hb; have n0_ := Aside0.mk (below_step (by repeat (first | (with_reducible first | exact HB.out | apply below_alloc | apply pw_below_drewN | apply below_drew1) | exact HB.out)) hb); have n1_ := Aside0.mk (hbox); have n2_ := Aside0.mk ((by rw [hg]; exact (below_size (by repeat (first | (with_reducible first | exact HB.out | apply below_alloc | apply pw_below_drewN | apply below_drew1) | exact HB.out))) : w.heap.size ≤ gb176)); have n3_ := Aside0.mk ((by rw [hg]; exact (below_size (by repeat (first | (with_reducible first | exact HB.out | apply below_alloc | apply pw_below_drewN | apply below_drew1) | exact HB.out))) : w.heap.size ≤ gb176)); clear HB; have HB := n0_; have BK176 := n1_; have GW176 := n2_; have GE176 := n3_; clear n0_ n1_ n2_ n3_; clear hb hbox hg) | ((with_reducible refine gate_dst (N := 2) rfl ?_); refine box_event ?hg (N := 2) ?hd (cs := #[.bool false, .string (⟨#[]⟩ : ByteArray), .int .i64 0]) (t := 23) ?hr ?_; (case hd => rfl); (case hg => rfl); (case hr => first | (go_simp; done) | (go_simp; rfl)); intro gb177 hg w5 hbox hb; have n0_ := Aside0.mk (blk_below (g := gb176) (o := .cells #[.bool a0_0, .string a0_1, .int .i64 a0_2] 23 (0, 0)) (by (with_reducible repeat (first | refine blk_drewN ?_ _ | refine blk_drew ?_ | refine blk_alloc ?_ _)); exact BK176.out) hb); have n1_ := Aside0.mk (below_step (by repeat (first | (with_reducible first | exact HB.out | apply below_alloc | apply pw_below_drewN | apply below_drew1 | refine below_set ?_ GE176.out) | exact HB.out)) hb); have n2_ := Aside0.mk (hbox); have n3_ := Aside0.mk ((by rw [hg]; exact (below_size (by repeat (first | (with_reducible first | exact HB.out | apply below_alloc | apply pw_below_drewN | apply below_drew1 | refine below_set ?_ GE176.out) | exact HB.out))) : w.heap.size ≤ gb177)); have n4_ := Aside0.mk ((by rw [hg]; exact (below_size (by repeat (first | (with_reducible first | exact HB.out | apply below_alloc | apply pw_below_drewN | apply below_drew1 | refine below_set ?_ GE176.out) | exact HB.out))) : w.heap.size ≤ gb177)); have n5_ := Aside0.mk ((by rw [hg]; exact Nat.ne_of_lt (blk_lt (g := gb176) (o := .cells #[.bool a0_0, .string a0_1, .int .i64 a0_2] 23 (0, 0)) (by (with_reducible repeat (first | refine blk_drewN ?_ _ | refine blk_drew ?_ | refine blk_alloc ?_ _)); exact BK176.out)) : gb176 ≠ gb177)); have n6_ := Aside0.mk ((by rw [hg]; exact Nat.ne_of_gt (blk_lt (g := gb176) (o := .cells #[.bool a0_0, .string a0_1, .int .i64 a0_2] 23 (0, 0)) (by (with_reducible repeat (first | refine blk_drewN ?_ _ | refine blk_drew ?_ | refine blk_alloc ?_ _)); exact BK176.out)) : gb177 ≠ gb176)); clear BK176; clear HB; have BK176 := n0_; have HB := n1_; have BK177 := n2_; have GW177 := n3_; have GE177 := n4_; have NB176_177 := n5_; have NB177_176 := n6_; clear n0_ n1_ n2_ n3_ n4_ n5_ n6_; clear hb hbox hg; have hnb6 := NB176_177.out; have hnc6 := NB177_176.out; have hcz7_0 : w5.cell? ⟨gb176, 0, none⟩ = some (.bool a0_0) := (blk_cell BK176.out 0).trans rfl; have hcz7_1 : w5.cell? ⟨gb176, 1, none⟩ = some (.string a0_1) := (blk_cell BK176.out 1).trans rfl; have hcz7_2 : w5.cell? ⟨gb176, 2, none⟩ = some (.int .i64 a0_2) := (blk_cell BK176.out 2).trans rfl; have hfz7_0 := blk_frozen BK176.out 0; have hfz7_1 := blk_frozen BK176.out 1; have hfz7_2 := blk_frozen BK176.out 2) | ((with_reducible refine gate_callee (f := 46) rfl ?_); refine goesL_ (some 7) rfl rfl Tryd.func46 (by kernel_rfl) rfl #[.string a0_1] rfl (by (try simp only [List.map_toArray]); (try simp only [List.map_cons]); (try simp only [List.map_nil]); first | done | rfl | (simp only [List.length_drop, List.length_take]; rfl)) ?_; (with_reducible refine (figureheadref01_Strip.calls k a0_1 t178 _ A2.out).mono ?_); rintro e w' ⟨rfl, ⟨nd, rfl⟩⟩; refine ⟨_, rfl, ?_⟩; (try (rw [drewN_self w5]; generalize hq_ : World.drewN w5 _ = w5; have n0_ : Aside0 (w5.heap[gb176]? = some (.cells #[.bool a0_0, .string a0_1, .int .i64 a0_2] 23 (0, 0))) := ⟨by rw [← hq_]; exact (by (with_reducible repeat (first | refine blk_drewN ?_ _ | refine blk_drew ?_ | refine blk_alloc ?_ _)); exact BK176.out)⟩; have n1_ : Aside0 (w5.heap[gb177]? = some (.cells #[.bool false, .string (⟨#[]⟩ : ByteArray), .int .i64 0] 23 (0, 0))) := ⟨by rw [← hq_]; exact (by (with_reducible repeat (first | refine blk_drewN ?_ _ | refine blk_drew ?_ | refine blk_alloc ?_ _)); exact BK177.out)⟩; have n2_ : Aside0 (Below w.heap.size w w5) := ⟨by rw [← hq_]; exact (by repeat (first | (with_reducible first | exact HB.out | apply below_alloc | apply pw_below_drewN | apply below_drew1 | refine below_set ?_ GE176.out | refine below_set ?_ GE177.out) | exact HB.out))⟩; clear BK176 BK177 HB hq_; have BK176 := n0_; have BK177 := n1_; have HB := n2_; clear n0_ n1_ n2_)); (try (have hcz9001_0 : w5.cell? ⟨gb176, 0, none⟩ = some (.bool a0_0) := (blk_cell BK176.out 0).trans rfl)); (try (have hcz9001_1 : w5.cell? ⟨gb176, 1, none⟩ = some (.string a0_1) := (blk_cell BK176.out 1).trans rfl)); (try (have hcz9001_2 : w5.cell? ⟨gb176, 2, none⟩ = some (.int .i64 a0_2) := (blk_cell BK176.out 2).trans rfl)); (try (have hfz9001_0 := blk_frozen BK176.out 0)); (try (have hfz9001_1 := blk_frozen BK176.out 1)); (try (have hfz9001_2 := blk_frozen BK176.out 2)); (try (have hcz9002_0 : w5.cell? ⟨gb177, 0, none⟩ = some (.bool false) := (blk_cell BK177.out 0).trans rfl)); (try (have hcz9002_1 : w5.cell? ⟨gb177, 1, none⟩ = some (.string (⟨#[]⟩ : ByteArray)) := (blk_cell BK177.out 1).trans rfl)); (try (have hcz9002_2 : w5.cell? ⟨gb177, 2, none⟩ = some (.int .i64 0) := (blk_cell BK177.out 2).trans rfl)); (try (have hfz9002_0 := blk_frozen BK177.out 0)); (try (have hfz9002_1 := blk_frozen BK177.out 1)); (try (have hfz9002_2 := blk_frozen BK177.out 2)); have hcz8_0 : w5.cell? ⟨gb177, 0, none⟩ = some (.bool false) := (blk_cell BK177.out 0).trans rfl; have hcz8_1 : w5.cell? ⟨gb177, 1, none⟩ = some (.string (⟨#[]⟩ : ByteArray)) := (blk_cell BK177.out 1).trans rfl; have hcz8_2 : w5.cell? ⟨gb177, 2, none⟩ = some (.int .i64 0) := (blk_cell BK177.out 2).trans rfl; have hfz8_0 := blk_frozen BK177.out 0; have hfz8_1 := blk_frozen BK177.out 1; have hfz8_2 := blk_frozen BK177.out 2))
    refine bodyPost_ret (results_cell_row rfl _ _ gb177 23 #[.bool a0_0, .string (⟨#[48]⟩ : ByteArray), .int .i64 0] (0, 0) _ rfl (by (with_reducible repeat (first | refine blk_drewN ?_ _ | refine blk_drew ?_ | refine blk_alloc ?_ _)); refine blk_put (cs := #[.bool a0_0, .string (⟨#[48]⟩ : ByteArray), .int .i64 0]) ?_ 2 _ rfl; (with_reducible repeat (first | refine blk_drewN ?_ _ | refine blk_drew ?_ | refine blk_alloc ?_ _)); refine blk_put (cs := #[.bool a0_0, .string (⟨#[]⟩ : ByteArray), .int .i64 0]) ?_ 1 _ rfl; (with_reducible repeat (first | refine blk_drewN ?_ _ | refine blk_drew ?_ | refine blk_alloc ?_ _)); refine blk_put (cs := #[.bool false, .string (⟨#[]⟩ : ByteArray), .int .i64 0]) ?_ 0 _ rfl; (with_reducible repeat (first | refine blk_drewN ?_ _ | refine blk_drew ?_ | refine blk_alloc ?_ _)); exact BK177.out) Tryd.underlying23 rfl (by kernel_rfl)) rfl ?_
    exact ⟨by first | rfl | (simp [errW_none, errW_some] <;> rfl) | (simp [*, errW_none, errW_some] <;> rfl), by repeat (first | (with_reducible first | exact HB.out | apply below_alloc | apply pw_below_drewN | apply below_drew1 | refine below_set ?_ GE176.out | refine below_set ?_ GE177.out) | exact HB.out)⟩
  · rw [if_neg c3] at H
    have c3b0 : (t178.toList == ([] : List UInt8)) = false := beq_eq_false_iff_ne.mpr c3
    have c3b1 : (t178.toList != ([] : List UInt8)) = true := bne_iff_ne.mpr c3
    have H' := Aside0.mk H
    clear H
    go_enter Tryd.func19, Tryd.ntmps19
    go_wp2_with (first | ((with_reducible refine gate_dst (N := 1) rfl ?_); refine box_event ?hg (N := 1) ?hd (cs := #[.bool a0_0, .string a0_1, .int .i64 a0_2]) (t := 23) ?hr ?_; (case hd => rfl); (case hg => rfl); (case hr => first | (go_simp; done) | (go_simp; rfl)); intro gb176 hg w9 hbox hb; have n0_ := Aside0.mk (below_step (by repeat (first | (with_reducible first | exact HB.out | apply below_alloc | apply pw_below_drewN | apply below_drew1) | exact HB.out)) hb); have n1_ := Aside0.mk (hbox); have n2_ := Aside0.mk ((by rw [hg]; exact (below_size (by repeat (first | (with_reducible first | exact HB.out | apply below_alloc | apply pw_below_drewN | apply below_drew1) | exact HB.out))) : w.heap.size ≤ gb176)); have n3_ := Aside0.mk ((by rw [hg]; exact (below_size (by repeat (first | (with_reducible first | exact HB.out | apply below_alloc | apply pw_below_drewN | apply below_drew1) | exact HB.out))) : w.heap.size ≤ gb176)); clear HB; have HB := n0_; have BK176 := n1_; have GW176 := n2_; have GE176 := n3_; clear n0_ n1_ n2_ n3_; clear hb hbox hg) | ((with_reducible refine gate_dst (N := 2) rfl ?_); refine box_event ?hg (N := 2) ?hd (cs := #[.bool false, .string (⟨#[]⟩ : ByteArray), .int .i64 0]) (t := 23) ?hr ?_; (case hd => rfl); (case hg => rfl); (case hr => first | (go_simp; done) | (go_simp; rfl)); intro gb177 hg w10 hbox hb; have n0_ := Aside0.mk (blk_below (g := gb176) (o := .cells #[.bool a0_0, .string a0_1, .int .i64 a0_2] 23 (0, 0)) (by (with_reducible repeat (first | refine blk_drewN ?_ _ | refine blk_drew ?_ | refine blk_alloc ?_ _)); exact BK176.out) hb); have n1_ := Aside0.mk (below_step (by repeat (first | (with_reducible first | exact HB.out | apply below_alloc | apply pw_below_drewN | apply below_drew1 | refine below_set ?_ GE176.out) | exact HB.out)) hb); have n2_ := Aside0.mk (hbox); have n3_ := Aside0.mk ((by rw [hg]; exact (below_size (by repeat (first | (with_reducible first | exact HB.out | apply below_alloc | apply pw_below_drewN | apply below_drew1 | refine below_set ?_ GE176.out) | exact HB.out))) : w.heap.size ≤ gb177)); have n4_ := Aside0.mk ((by rw [hg]; exact (below_size (by repeat (first | (with_reducible first | exact HB.out | apply below_alloc | apply pw_below_drewN | apply below_drew1 | refine below_set ?_ GE176.out) | exact HB.out))) : w.heap.size ≤ gb177)); have n5_ := Aside0.mk ((by rw [hg]; exact Nat.ne_of_lt (blk_lt (g := gb176) (o := .cells #[.bool a0_0, .string a0_1, .int .i64 a0_2] 23 (0, 0)) (by (with_reducible repeat (first | refine blk_drewN ?_ _ | refine blk_drew ?_ | refine blk_alloc ?_ _)); exact BK176.out)) : gb176 ≠ gb177)); have n6_ := Aside0.mk ((by rw [hg]; exact Nat.ne_of_gt (blk_lt (g := gb176) (o := .cells #[.bool a0_0, .string a0_1, .int .i64 a0_2] 23 (0, 0)) (by (with_reducible repeat (first | refine blk_drewN ?_ _ | refine blk_drew ?_ | refine blk_alloc ?_ _)); exact BK176.out)) : gb177 ≠ gb176)); clear BK176; clear HB; have BK176 := n0_; have HB := n1_; have BK177 := n2_; have GW177 := n3_; have GE177 := n4_; have NB176_177 := n5_; have NB177_176 := n6_; clear n0_ n1_ n2_ n3_ n4_ n5_ n6_; clear hb hbox hg; have hnb11 := NB176_177.out; have hnc11 := NB177_176.out; have hcz12_0 : w10.cell? ⟨gb176, 0, none⟩ = some (.bool a0_0) := (blk_cell BK176.out 0).trans rfl; have hcz12_1 : w10.cell? ⟨gb176, 1, none⟩ = some (.string a0_1) := (blk_cell BK176.out 1).trans rfl; have hcz12_2 : w10.cell? ⟨gb176, 2, none⟩ = some (.int .i64 a0_2) := (blk_cell BK176.out 2).trans rfl; have hfz12_0 := blk_frozen BK176.out 0; have hfz12_1 := blk_frozen BK176.out 1; have hfz12_2 := blk_frozen BK176.out 2) | ((with_reducible refine gate_callee (f := 46) rfl ?_); refine goesL_ (some 7) rfl rfl Tryd.func46 (by kernel_rfl) rfl #[.string a0_1] rfl (by (try simp only [List.map_toArray]); (try simp only [List.map_cons]); (try simp only [List.map_nil]); first | done | rfl | (simp only [List.length_drop, List.length_take]; rfl)) ?_; (with_reducible refine (figureheadref01_Strip.calls k a0_1 t178 _ A2.out).mono ?_); rintro e w' ⟨rfl, ⟨nd, rfl⟩⟩; refine ⟨_, rfl, ?_⟩))
    go_loopg [3, 4] k (fun kq v3 v4 w' => ∃ (x3_1 : ByteArray) (x4_1 : Int), v3 = .string x3_1 ∧ v4 = .int .i64 x4_1 ∧ Aside0 (figureheadref05_Norm.l0 kq x3_1 x4_1 a0_0 a0_1 a0_2 = some (r1, r2, r3)) ∧ Aside0 (kq ≤ k) ∧ Aside0 (w'.heap[gb176]? = some (.cells #[.bool a0_0, .string a0_1, .int .i64 a0_2] 23 (0, 0))) ∧ Aside0 (w'.heap[gb177]? = some (.cells #[.bool false, .string (⟨#[]⟩ : ByteArray), .int .i64 0] 23 (0, 0))) ∧ Aside0 (Below w.heap.size w w'))
    case atStart => exact ⟨(t178), (a0_2), (by first | rfl | (simp; done) | (simp [*]; done) | (simp [*, Fig.bne_nil]; done)), (by first | rfl | (simp; done) | (simp [*]; done) | (simp [*, Fig.bne_nil]; done)), H', ⟨Nat.le_refl _⟩, ⟨by (with_reducible repeat (first | refine blk_drewN ?_ _ | refine blk_drew ?_ | refine blk_alloc ?_ _)); exact BK176.out⟩, ⟨by (with_reducible repeat (first | refine blk_drewN ?_ _ | refine blk_drew ?_ | refine blk_alloc ?_ _)); exact BK177.out⟩, ⟨by repeat (first | (with_reducible first | exact HB.out | apply below_alloc | apply pw_below_drewN | apply below_drew1 | refine below_set ?_ GE176.out | refine below_set ?_ GE177.out) | exact HB.out)⟩⟩
    case round =>
      clear H'
      try clear c1
      try clear p2
      try clear c3
      try clear c3b0
      try clear c3b1
      try clear c4
      try clear c6
      try clear c11
      try clear hcz12_0
      try clear hcz12_1
      try clear hcz12_2
      try clear hcz7_0
      try clear hcz7_1
      try clear hcz7_2
      try clear hcz8_0
      try clear hcz8_1
      try clear hcz8_2
      try clear hcz9001_0
      try clear hcz9001_1
      try clear hcz9001_2
      try clear hcz9002_0
      try clear hcz9002_1
      try clear hcz9002_2
      try clear hfz12_0
      try clear hfz12_1
      try clear hfz12_2
      try clear hfz7_0
      try clear hfz7_1
      try clear hfz7_2
      try clear hfz8_0
      try clear hfz8_1
      try clear hfz8_2
      try clear hfz9001_0
      try clear hfz9001_1
      try clear hfz9001_2
      try clear hfz9002_0
      try clear hfz9002_1
      try clear hfz9002_2
      obtain ⟨x3_1, x4_1, rfl, rfl, HA, HK1, BK176, BK177, HB⟩ := hrel
      cases gk with
      | zero => exact absurd HA.out (by simp [figureheadref05_Norm.l0])
      | succ k1 =>
        have H := HA.out
        clear HA
        simp only [figureheadref05_Norm.l0] at H
        obtain ⟨ji13, hji13⟩ : ∃ j_ : Int, (wrap64 ((x3_1.size : Int) - 1)) = j_ := ⟨_, rfl⟩
        replace H : (if 0 ≤ (ji13) then (if (ji13) < (x3_1.size : Int) then (if (bt x3_1 (ji13)) = 48 then (if (ji13) ≤ (x3_1.size : Int) then (figureheadref05_Norm.l0 k1 (x3_1.extract 0 ((ji13) : Int).toNat) (wrap64 (x4_1 + 1)) a0_0 a0_1 a0_2) else (none)) else (some (a0_0, x3_1, x4_1))) else (none)) else (none)) = some (r1, r2, r3) := by first | (rw [hji13] at H; exact H) | (simp only [hji13] at H ⊢; exact H)
        have hji13w : (IntKind.i64.wrap ((x3_1.size : Int) - 1)) = ji13 := (i64_w _).trans hji13
        by_cases c14 : 0 ≤ (ji13)
        · rw [if_pos c14] at H
          have c14b0 : decide (0 ≤ (ji13)) = true := decide_eq_true c14
          clear c14
          by_cases c15 : (ji13) < (x3_1.size : Int)
          · rw [if_pos c15] at H
            have c15b0 : decide ((ji13) < (x3_1.size : Int)) = true := decide_eq_true c15
            clear c15
            by_cases c17 : (bt x3_1 (ji13)) = 48
            · rw [if_pos c17] at H
              have c17b0 : ((bt x3_1 (ji13)) == 48) = true := beq_iff_eq.mpr c17
              have c17b1 : ((bt x3_1 (ji13)) != 48) = false := bne_eq_false_iff_eq.mpr c17
              clear c17
              have c18b0 := eq_true (of_decide_eq_true (by first | (with_reducible assumption) | assumption) : 0 ≤ (ji13))
              by_cases c19 : (ji13) ≤ (x3_1.size : Int)
              · rw [if_pos c19] at H
                have c19b0 := eq_true c19
                have c19b1 : decide ((ji13) ≤ (x3_1.size : Int)) = true := decide_eq_true c19
                clear c19
                have H' := Aside0.mk H
                clear H
                have p16 : 0 ≤ ((ji13) : Int) := of_decide_eq_true (by first | (with_reducible assumption) | assumption)
                have q16 : (ji13) < (x3_1.size : Int) := of_decide_eq_true (by first | (with_reducible assumption) | assumption)
                have hx16 := bt_at x3_1 (ji13)
                replace p16 := eq_true p16
                replace q16 := eq_true q16
                go_wp2
                go_roundg k1
                case measure => have := HK1.out; omega
                case rel => exact ⟨(x3_1.extract 0 ((ji13) : Int).toNat), (wrap64 (x4_1 + 1)), (by first | rfl | (simp; done) | (simp only [← hji13] <;> (first | rfl | simp)) | (simp [*]; done) | (simp [*, Fig.bne_nil]; done)), (by first | rfl | (simp; done) | (simp [*]; done) | (simp [*, Fig.bne_nil]; done)), H', ⟨by have := HK1.out; omega⟩, ⟨by (with_reducible repeat (first | refine blk_drewN ?_ _ | refine blk_drew ?_ | refine blk_alloc ?_ _)); exact BK176.out⟩, ⟨by (with_reducible repeat (first | refine blk_drewN ?_ _ | refine blk_drew ?_ | refine blk_alloc ?_ _)); exact BK177.out⟩, ⟨by repeat (first | (with_reducible first | exact HB.out | apply below_alloc | apply pw_below_drewN | apply below_drew1 | refine below_set ?_ GE176.out | refine below_set ?_ GE177.out) | exact HB.out)⟩⟩
              · rw [if_neg c19] at H
                exact absurd H (by simp)
            · rw [if_neg c17] at H
              have c17b0 : ((bt x3_1 (ji13)) == 48) = false := beq_eq_false_iff_ne.mpr c17
              have c17b1 : ((bt x3_1 (ji13)) != 48) = true := bne_iff_ne.mpr c17
              simp only [Option.some.injEq, Prod.mk.injEq] at H
              obtain ⟨rfl, rfl, rfl⟩ := H
              have p16 : 0 ≤ ((ji13) : Int) := of_decide_eq_true (by first | (with_reducible assumption) | assumption)
              have q16 : (ji13) < (x3_1.size : Int) := of_decide_eq_true (by first | (with_reducible assumption) | assumption)
              have hx16 := bt_at x3_1 (ji13)
              replace p16 := eq_true p16
              replace q16 := eq_true q16
              have hnb20 := NB176_177.out
              have hnc20 := NB177_176.out
              have hcz21_0 : wr.cell? ⟨gb176, 0, none⟩ = some (.bool a0_0) := (blk_cell BK176.out 0).trans rfl
              have hcz21_1 : wr.cell? ⟨gb176, 1, none⟩ = some (.string a0_1) := (blk_cell BK176.out 1).trans rfl
              have hcz21_2 : wr.cell? ⟨gb176, 2, none⟩ = some (.int .i64 a0_2) := (blk_cell BK176.out 2).trans rfl
              have hfz21_0 := blk_frozen BK176.out 0
              have hfz21_1 := blk_frozen BK176.out 1
              have hfz21_2 := blk_frozen BK176.out 2
              have hcz22_0 : wr.cell? ⟨gb177, 0, none⟩ = some (.bool false) := (blk_cell BK177.out 0).trans rfl
              have hcz22_1 : wr.cell? ⟨gb177, 1, none⟩ = some (.string (⟨#[]⟩ : ByteArray)) := (blk_cell BK177.out 1).trans rfl
              have hcz22_2 : wr.cell? ⟨gb177, 2, none⟩ = some (.int .i64 0) := (blk_cell BK177.out 2).trans rfl
              have hfz22_0 := blk_frozen BK177.out 0
              have hfz22_1 := blk_frozen BK177.out 1
              have hfz22_2 := blk_frozen BK177.out 2
              go_wp2
              refine bodyPost_ret (results_cell_row rfl _ _ gb177 23 #[.bool a0_0, .string x3_1, .int .i64 x4_1] (0, 0) _ rfl (by (with_reducible repeat (first | refine blk_drewN ?_ _ | refine blk_drew ?_ | refine blk_alloc ?_ _)); refine blk_put (cs := #[.bool a0_0, .string x3_1, .int .i64 0]) ?_ 2 _ rfl; (with_reducible repeat (first | refine blk_drewN ?_ _ | refine blk_drew ?_ | refine blk_alloc ?_ _)); refine blk_put (cs := #[.bool a0_0, .string (⟨#[]⟩ : ByteArray), .int .i64 0]) ?_ 1 _ rfl; (with_reducible repeat (first | refine blk_drewN ?_ _ | refine blk_drew ?_ | refine blk_alloc ?_ _)); refine blk_put (cs := #[.bool false, .string (⟨#[]⟩ : ByteArray), .int .i64 0]) ?_ 0 _ rfl; (with_reducible repeat (first | refine blk_drewN ?_ _ | refine blk_drew ?_ | refine blk_alloc ?_ _)); exact BK177.out) Tryd.underlying23 rfl (by kernel_rfl)) rfl ?_
              exact ⟨by first | rfl | (simp [errW_none, errW_some] <;> rfl) | (simp only [← hji13]; first | rfl | (simp [errW_none, errW_some] <;> rfl)) | (simp [*, errW_none, errW_some] <;> rfl), by repeat (first | (with_reducible first | exact HB.out | apply below_alloc | apply pw_below_drewN | apply below_drew1 | refine below_set ?_ GE176.out | refine below_set ?_ GE177.out) | exact HB.out)⟩
          · rw [if_neg c15] at H
            exact absurd H (by simp)
        · rw [if_neg c14] at H
          exact absurd H (by simp)
end Go.Proofs.YtbjaiphfehnncaaDoor.Px
end
section
namespace Go.Proofs.YtbjaiphfehnncaaDoor.Px
open Fig Go.RowKit Go.Proofs.YtbjaiphfehnncaaDoorW.PrintWords Go.Proofs.YtbjaiphfehnncaaDoorW.PrintLast Go.Proofs.YtbjaiphfehnncaaDoorW.PrintMore
attribute [local go_sem] max2_int min2_int max_two min_two max_three min_three max_four min_four   -- for this text's walks alone
attribute [local go_sem] fieldA23_0 fieldA23_1 fieldA23_2
def figureheadref05_Make.f (k : Nat) (a0 : Bool) (a1 : ByteArray) (a2 : Int) : Option (Bool × ByteArray × Int) := if 1 + a1.size ≤ 9223372036854775807 then ((figureheadref05_Norm.f k a0 ((⟨#[48]⟩ : ByteArray) ++ a1) a2).bind fun bt414 => (some (bt414.1, bt414.2.1, bt414.2.2))) else (none)
theorem figureheadref05_Make.mono : ∀ a0 a1 a2 k, LeO (figureheadref05_Make.f k a0 a1 a2) (figureheadref05_Make.f (k + 1) a0 a1 a2) := by
  intro a0 a1 a2 k
  unfold figureheadref05_Make.f
  repeat' first
      | (with_reducible exact figureheadref05_Norm.mono _ _ _ _)
      | (with_reducible exact LeO.refl _)
      | (with_reducible exact LeO.none _)
      | (with_reducible refine LeO.ite ?_ ?_)
      | (with_reducible refine LeO.bind ?_ (fun _ => ?_))
      | exact figureheadref05_Norm.mono _ _ _ _
      | exact LeO.none _
      | refine LeO.ite ?_ ?_
      | refine LeO.bind ?_ (fun _ => ?_)
set_option maxHeartbeats 8000000 in
set_option maxRecDepth 100000 in
theorem figureheadref05_Make.calls (k : Nat) (a0 : Bool) (a1 : ByteArray) (a2 : Int) (r1 : Bool) (r2 : ByteArray) (r3 : Int) (w : World) (h : figureheadref05_Make.f k a0 a1 a2 = some (r1, r2, r3)) :
    Calls Tryd.prog 57 #[.bool a0, .string a1, .int .i64 a2] w fun e w' => e = .returned (.agg #[.bool r1, .string r2, .int .i64 r3]) ∧ Below w.heap.size w w' := by
  have hu23 := Tryd.underlying23
  have HB := Aside0.mk (Below.refl w.heap.size w)
  have H : (if 1 + a1.size ≤ 9223372036854775807 then ((figureheadref05_Norm.f k a0 ((⟨#[48]⟩ : ByteArray) ++ a1) a2).bind fun bt414 => (some (bt414.1, bt414.2.1, bt414.2.2))) else (none)) = some (r1, r2, r3) := h
  clear h
  by_cases c4 : 1 + a1.size ≤ 9223372036854775807
  · rw [if_pos c4] at H
    have c4b0 := eq_true c4
    have c4b1 : decide (1 + a1.size ≤ 9223372036854775807) = true := decide_eq_true c4
    try have c4b2 : (9223372036854775807 < 1 + a1.size) = False := eq_false (Nat.not_lt.2 c4)
    replace H := Option.bind_eq_some_iff.mp H
    obtain ⟨⟨t414, t415, t416⟩, A50, H⟩ := H
    replace H : (some (t414, t415, t416)) = some (r1, r2, r3) := H
    have A5 := Aside0.mk A50
    clear A50
    simp only [Option.some.injEq, Prod.mk.injEq] at H
    obtain ⟨rfl, rfl, rfl⟩ := H
    go_enter Tryd.func57, Tryd.ntmps57
    go_wp2_with (first | ((with_reducible refine gate_dst (N := 6) rfl ?_); refine box_event ?hg (N := 6) ?hd (cs := #[.bool false, .string (⟨#[]⟩ : ByteArray), .int .i64 0]) (t := 23) ?hr ?_; (case hd => rfl); (case hg => rfl); (case hr => first | (go_simp; done) | (go_simp; rfl)); intro gb413 hg w6 hbox hb; have n0_ := Aside0.mk (below_step (by repeat (first | (with_reducible first | exact HB.out | apply below_alloc | apply pw_below_drewN | apply below_drew1) | exact HB.out)) hb); have n1_ := Aside0.mk (hbox); have n2_ := Aside0.mk ((by rw [hg]; exact (below_size (by repeat (first | (with_reducible first | exact HB.out | apply below_alloc | apply pw_below_drewN | apply below_drew1) | exact HB.out))) : w.heap.size ≤ gb413)); have n3_ := Aside0.mk ((by rw [hg]; exact (below_size (by repeat (first | (with_reducible first | exact HB.out | apply below_alloc | apply pw_below_drewN | apply below_drew1) | exact HB.out))) : w.heap.size ≤ gb413)); clear HB; have HB := n0_; have BK413 := n1_; have GW413 := n2_; have GE413 := n3_; clear n0_ n1_ n2_ n3_; clear hb hbox hg) | ((with_reducible refine gate_callee (f := 19) rfl ?_); refine goesL_ (some 12) rfl rfl Tryd.func19 (by kernel_rfl) rfl #[.agg #[.bool a0, .string ((⟨#[48]⟩ : ByteArray) ++ a1), .int .i64 a2]] rfl (by (try simp only [List.map_toArray]); (try simp only [List.map_cons]); (try simp only [List.map_nil]); first | done | rfl | (simp only [List.length_drop, List.length_take]; rfl)) ?_; (with_reducible refine (figureheadref05_Norm.calls k a0 ((⟨#[48]⟩ : ByteArray) ++ a1) a2 t414 t415 t416 _ A5.out).mono ?_); rintro e w7 ⟨rfl, hb⟩; refine ⟨_, rfl, ?_⟩; have n0_ := Aside0.mk (blk_below (g := gb413) (o := .cells #[.bool false, .string (⟨#[]⟩ : ByteArray), .int .i64 0] 23 (0, 0)) (by (with_reducible repeat (first | refine blk_drewN ?_ _ | refine blk_drew ?_ | refine blk_alloc ?_ _)); exact BK413.out) hb); have n1_ := Aside0.mk (below_step (by repeat (first | (with_reducible first | exact HB.out | apply below_alloc | apply pw_below_drewN | apply below_drew1 | refine below_set ?_ GE413.out) | exact HB.out)) hb); clear BK413; clear HB; have BK413 := n0_; have HB := n1_; clear n0_ n1_; (try clear hb); (try clear hb2); (try clear hk); (try clear hi); have hcz8_0 : w7.cell? ⟨gb413, 0, none⟩ = some (.bool false) := (blk_cell BK413.out 0).trans rfl; have hcz8_1 : w7.cell? ⟨gb413, 1, none⟩ = some (.string (⟨#[]⟩ : ByteArray)) := (blk_cell BK413.out 1).trans rfl; have hcz8_2 : w7.cell? ⟨gb413, 2, none⟩ = some (.int .i64 0) := (blk_cell BK413.out 2).trans rfl; have hfz8_0 := blk_frozen BK413.out 0; have hfz8_1 := blk_frozen BK413.out 1; have hfz8_2 := blk_frozen BK413.out 2))
    refine bodyPost_ret (results_cell_row rfl _ _ gb413 23 #[.bool t414, .string t415, .int .i64 t416] (0, 0) _ rfl (by (with_reducible repeat (first | refine blk_drewN ?_ _ | refine blk_drew ?_ | refine blk_alloc ?_ _)); refine blk_put (cs := #[.bool t414, .string t415, .int .i64 0]) ?_ 2 _ rfl; (with_reducible repeat (first | refine blk_drewN ?_ _ | refine blk_drew ?_ | refine blk_alloc ?_ _)); refine blk_put (cs := #[.bool t414, .string (⟨#[]⟩ : ByteArray), .int .i64 0]) ?_ 1 _ rfl; (with_reducible repeat (first | refine blk_drewN ?_ _ | refine blk_drew ?_ | refine blk_alloc ?_ _)); refine blk_put (cs := #[.bool false, .string (⟨#[]⟩ : ByteArray), .int .i64 0]) ?_ 0 _ rfl; (with_reducible repeat (first | refine blk_drewN ?_ _ | refine blk_drew ?_ | refine blk_alloc ?_ _)); exact BK413.out) Tryd.underlying23 rfl (by kernel_rfl)) rfl ?_
    exact ⟨by first | rfl | (simp [errW_none, errW_some] <;> rfl) | (simp [*, errW_none, errW_some] <;> rfl), by repeat (first | (with_reducible first | exact HB.out | apply below_alloc | apply pw_below_drewN | apply below_drew1 | refine below_set ?_ GE413.out) | exact HB.out)⟩
  · rw [if_neg c4] at H
    exact absurd H (by simp)
end Go.Proofs.YtbjaiphfehnncaaDoor.Px
end
section
namespace Go.Proofs.YtbjaiphfehnncaaDoor.Px
open Fig Go.RowKit Go.Proofs.YtbjaiphfehnncaaDoorW.PrintWords Go.Proofs.YtbjaiphfehnncaaDoorW.PrintLast Go.Proofs.YtbjaiphfehnncaaDoorW.PrintMore
attribute [local go_sem] max2_int min2_int max_two min_two max_three min_three max_four min_four   -- for this text's walks alone
attribute [local go_sem] fieldA23_0 fieldA23_1 fieldA23_2
def figureheadref01_Minus.l0 : Nat → ByteArray → ByteArray → List Int → Int → Int → Option (ByteArray)
  | 0, _, _, _, _, _ => none
  | k + 1, x0, x1, x5, x6, x7 => if x7 < (x0.size : Int) then ((figureheadref01_digit.f x0 x7).bind fun t430 => ((figureheadref01_digit.f x1 x7).bind fun t431 => (if (wrap64 ((wrap64 (t430 - t431)) - x6)) < 0 then (if x5.length < 140737488355328 then (figureheadref01_Minus.l0 k x0 x1 (x5 ++ [(wrap64 (48 + (wrap64 ((wrap64 ((wrap64 (t430 - t431)) - x6)) + 10)))) % 256]) 1 (wrap64 (x7 + 1))) else (none)) else (if x5.length < 140737488355328 then (figureheadref01_Minus.l0 k x0 x1 (x5 ++ [(wrap64 (48 + (wrap64 ((wrap64 (t430 - t431)) - x6)))) % 256]) 0 (wrap64 (x7 + 1))) else (none))))) else ((figureheadref01_turned.f k x5).bind fun t428 => ((figureheadref01_Strip.f k t428).bind fun t429 => (some t429)))
def figureheadref01_Minus.f (k : Nat) (a0 : ByteArray) (a1 : ByteArray) : Option (ByteArray) := figureheadref01_Minus.l0 k a0 a1 ([] : List Int) 0 0
theorem figureheadref01_Minus.mono_l : ∀ k, (∀ y0 y1 y2 y3 y4, LeO (figureheadref01_Minus.l0 k y0 y1 y2 y3 y4) (figureheadref01_Minus.l0 (k + 1) y0 y1 y2 y3 y4))
  | 0 => fun _ _ _ _ _ r h => by simp [figureheadref01_Minus.l0] at h
  | k + 1 => by
    have ih0 := figureheadref01_Minus.mono_l k
    · intro y0 y1 y2 y3 y4
      unfold figureheadref01_Minus.l0
      repeat' first
      | (with_reducible exact ih0 _ _ _ _ _)
      | (with_reducible exact figureheadref01_Strip.mono _ _)
      | (with_reducible exact figureheadref01_turned.mono _ _)
      | (with_reducible exact LeO.refl _)
      | (with_reducible exact LeO.none _)
      | (with_reducible refine LeO.ite ?_ ?_)
      | (with_reducible refine LeO.bind ?_ (fun _ => ?_))
      | exact ih0 _ _ _ _ _
      | exact figureheadref01_Strip.mono _ _
      | exact figureheadref01_turned.mono _ _
      | exact LeO.none _
      | refine LeO.ite ?_ ?_
      | refine LeO.bind ?_ (fun _ => ?_)
theorem figureheadref01_Minus.mono : ∀ a0 a1 k, LeO (figureheadref01_Minus.f k a0 a1) (figureheadref01_Minus.f (k + 1) a0 a1) := by
  intro a0 a1 k
  have ih0 := figureheadref01_Minus.mono_l k
  unfold figureheadref01_Minus.f
  repeat' first
      | (with_reducible exact ih0 _ _ _ _ _)
      | (with_reducible exact figureheadref01_Strip.mono _ _)
      | (with_reducible exact figureheadref01_turned.mono _ _)
      | (with_reducible exact LeO.refl _)
      | (with_reducible exact LeO.none _)
      | (with_reducible refine LeO.ite ?_ ?_)
      | (with_reducible refine LeO.bind ?_ (fun _ => ?_))
      | exact ih0 _ _ _ _ _
      | exact figureheadref01_Strip.mono _ _
      | exact figureheadref01_turned.mono _ _
      | exact LeO.none _
      | refine LeO.ite ?_ ?_
      | refine LeO.bind ?_ (fun _ => ?_)
set_option maxHeartbeats 8000000 in
set_option maxRecDepth 100000 in
theorem figureheadref01_Minus.calls (k : Nat) (a0 : ByteArray) (a1 : ByteArray) (r : ByteArray) (w : World) (h : figureheadref01_Minus.f k a0 a1 = some r) :
    Calls Tryd.prog 59 #[.string a0, .string a1] w fun e w' => e = .returned (.string r) ∧ Below w.heap.size w w' := by
  have HB := Aside0.mk (Below.refl w.heap.size w)
  have H : (figureheadref01_Minus.l0 k a0 a1 ([] : List Int) 0 0) = some r := h
  clear h
  have H' := Aside0.mk H
  clear H
  go_enter Tryd.func59, Tryd.ntmps59
  go_wp2
  go_loopg [5, 6, 7] k (fun kq v5 v6 v7 w' => ∃ (x5_1 : List Int) (x6_1 : Int) (x7_1 : Int), v6 = .int .i64 x6_1 ∧ v7 = .int .i64 x7_1 ∧ Aside0 (figureheadref01_Minus.l0 kq a0 a1 x5_1 x6_1 x7_1 = some r) ∧ Aside0 (kq ≤ k) ∧ Aside0 (Kd.R (Kd.int .u8) 5 w' w.heap.size (fun _ => True) v5 x5_1) ∧ Aside0 (Below w.heap.size w w'))
  case atStart => exact ⟨(([] : List Int)), (0), (0), (by first | rfl | (simp; done) | (simp [*]; done) | (simp [*, Fig.bne_nil]; done)), (by first | rfl | (simp; done) | (simp [*]; done) | (simp [*, Fig.bne_nil]; done)), H', ⟨Nat.le_refl _⟩, ⟨by first | exact Kd.R_nil _ _ _ _ _ | exact Kd.N_nil _ _ _ _ _ | exact Kd.V_nil _ _ _ _ _ | exact Kd.Q_nil _ _ _ _ _ | exact Kd.S_nil _ _ _ _ _⟩, ⟨by repeat (first | (with_reducible first | exact HB.out | apply below_alloc | apply pw_below_drewN | apply below_drew1) | exact HB.out)⟩⟩
  case round =>
    clear H'
    try clear p2
    obtain ⟨x5_1, x6_1, x7_1, rfl, rfl, HA, HK1, HO_5, HB⟩ := hrel
    cases gk with
    | zero => exact absurd HA.out (by simp [figureheadref01_Minus.l0])
    | succ k1 =>
      have H := HA.out
      clear HA
      simp only [figureheadref01_Minus.l0] at H
      by_cases c3 : x7_1 < (a0.size : Int)
      · rw [if_pos c3] at H
        have c3b0 : decide (x7_1 < (a0.size : Int)) = true := decide_eq_true c3
        clear c3
        replace H := Option.bind_eq_some_iff.mp H
        obtain ⟨t430, A40, H⟩ := H
        replace H : ((figureheadref01_digit.f a1 x7_1).bind fun t431 => (if (wrap64 ((wrap64 (t430 - t431)) - x6_1)) < 0 then (if x5_1.length < 140737488355328 then (figureheadref01_Minus.l0 k1 a0 a1 (x5_1 ++ [(wrap64 (48 + (wrap64 ((wrap64 ((wrap64 (t430 - t431)) - x6_1)) + 10)))) % 256]) 1 (wrap64 (x7_1 + 1))) else (none)) else (if x5_1.length < 140737488355328 then (figureheadref01_Minus.l0 k1 a0 a1 (x5_1 ++ [(wrap64 (48 + (wrap64 ((wrap64 (t430 - t431)) - x6_1)))) % 256]) 0 (wrap64 (x7_1 + 1))) else (none)))) = some r := H
        have A4 := Aside0.mk A40
        clear A40
        replace H := Option.bind_eq_some_iff.mp H
        obtain ⟨t431, A50, H⟩ := H
        replace H : (if (wrap64 ((wrap64 (t430 - t431)) - x6_1)) < 0 then (if x5_1.length < 140737488355328 then (figureheadref01_Minus.l0 k1 a0 a1 (x5_1 ++ [(wrap64 (48 + (wrap64 ((wrap64 ((wrap64 (t430 - t431)) - x6_1)) + 10)))) % 256]) 1 (wrap64 (x7_1 + 1))) else (none)) else (if x5_1.length < 140737488355328 then (figureheadref01_Minus.l0 k1 a0 a1 (x5_1 ++ [(wrap64 (48 + (wrap64 ((wrap64 (t430 - t431)) - x6_1)))) % 256]) 0 (wrap64 (x7_1 + 1))) else (none))) = some r := H
        have A5 := Aside0.mk A50
        clear A50
        by_cases c6 : (wrap64 ((wrap64 (t430 - t431)) - x6_1)) < 0
        · rw [if_pos c6] at H
          have c6b0 : decide ((wrap64 ((wrap64 (t430 - t431)) - x6_1)) < 0) = true := decide_eq_true c6
          clear c6
          by_cases c7 : x5_1.length < 140737488355328
          · rw [if_pos c7] at H
            have LMc7 := Aside0.mk c7
            clear c7
            obtain ⟨y432, hy432⟩ : ∃ y_ : List Int, y_ = (x5_1 ++ [(wrap64 (48 + (wrap64 ((wrap64 ((wrap64 (t430 - t431)) - x6_1)) + 10)))) % 256]) := ⟨_, rfl⟩
            replace H : (figureheadref01_Minus.l0 k1 a0 a1 y432 1 (wrap64 (x7_1 + 1))) = some r := by first | (rw [hy432]; with_reducible exact H) | (have H2_ := (Option.bind_some _ _).symm.trans H; rw [hy432]; with_reducible exact H2_) | (have H2_ := (Option.bind_some _ _).symm.trans H; with_reducible exact H2_) | with_reducible exact H | (rw [hy432]; exact H) | exact H
            have Ny432 := Aside0.mk hy432
            clear hy432
            have H' := Aside0.mk H
            clear H
            go_wp2_with (first | ((with_reducible refine gate_callee (f := 76) rfl ?_); refine goesL_ (some 17) rfl rfl Tryd.func76 (by kernel_rfl) rfl #[.string a0, .int .i64 x7_1] rfl (by (try simp only [List.map_toArray]); (try simp only [List.map_cons]); (try simp only [List.map_nil]); first | done | rfl | (simp only [List.length_drop, List.length_take]; rfl)) ?_; (with_reducible refine (figureheadref01_digit.calls a0 x7_1 t430 _ A4.out).mono ?_); rintro e w' ⟨rfl, ⟨nd, rfl⟩⟩; refine ⟨_, rfl, ?_⟩) | ((with_reducible refine gate_callee (f := 76) rfl ?_); refine goesL_ (some 20) rfl rfl Tryd.func76 (by kernel_rfl) rfl #[.string a1, .int .i64 x7_1] rfl (by (try simp only [List.map_toArray]); (try simp only [List.map_cons]); (try simp only [List.map_nil]); first | done | rfl | (simp only [List.length_drop, List.length_take]; rfl)) ?_; (with_reducible refine (figureheadref01_digit.calls a1 x7_1 t431 _ A5.out).mono ?_); rintro e w' ⟨rfl, ⟨nd, rfl⟩⟩; refine ⟨_, rfl, ?_⟩) | ((with_reducible refine gate_builtin (b := .append) (xs := #[.tmp 28, .tmp 32]) rfl ?_); at_builtin; refine Kd.R_append (Kd.int .u8) (w0 := w) w.heap.size rfl (.tmp 28) (.tmp 32) 74 5 (.int .u8 0) 1 rfl Tryd.underlying74 info5 rfl (by decide) (by omega) u5 x5_1 ((wrap64 (48 + (wrap64 ((wrap64 ((wrap64 (t430 - t431)) - x6_1)) + 10)))) % 256) [.int .u8 ((wrap64 (48 + (wrap64 ((wrap64 ((wrap64 (t430 - t431)) - x6_1)) + 10)))) % 256)] (fun _ => True) (fun _ => False) rfl rfl ?aP (fun _ hk => hk.elim) ?aF ?aO ?aB ?aS ?aL ?_; (case aP => exact rfl); (case aB => exact (by repeat (first | (with_reducible first | exact HB.out | apply below_alloc | apply pw_below_drewN | apply below_drew1) | exact HB.out))); (case aF => exact (fun _ _ => trivial)); (case aO => exact (by (with_reducible repeat (first | apply Kd.R_alloc | apply Kd.R_drewN | apply Kd.R_drew)); exact HO_5.out)); (case aS => exact (below_size (by repeat (first | (with_reducible first | exact HB.out | apply below_alloc | apply pw_below_drewN | apply below_drew1) | exact HB.out)))); (case aL => have := LMc7.out; omega); intro v433 w8 ho hb hg hat; rw [← Ny432.out] at ho; have n0_ := Aside0.mk (hb); have n1_ := Aside0.mk (ho); clear HB; clear HO_5; have HB := n0_; have HO434 := n1_; clear n0_ n1_; clear ho hb hg hat))
            go_roundg k1
            case measure => have := HK1.out; omega
            case rel => exact ⟨(y432), (1), (wrap64 (x7_1 + 1)), (by first | rfl | (simp; done) | (simp [*]; done) | (simp [*, Fig.bne_nil]; done)), (by first | rfl | (simp; done) | (simp [*]; done) | (simp [*, Fig.bne_nil]; done)), H', ⟨by have := HK1.out; omega⟩, ⟨by (with_reducible repeat (first | apply Kd.R_alloc | apply Kd.R_drewN | apply Kd.R_drew)); exact HO434.out⟩, ⟨by repeat (first | (with_reducible first | exact HB.out | apply below_alloc | apply pw_below_drewN | apply below_drew1) | exact HB.out)⟩⟩
          · rw [if_neg c7] at H
            exact absurd H (by simp)
        · rw [if_neg c6] at H
          have c6b0 : decide ((wrap64 ((wrap64 (t430 - t431)) - x6_1)) < 0) = false := decide_eq_false c6
          clear c6
          by_cases c9 : x5_1.length < 140737488355328
          · rw [if_pos c9] at H
            have LMc9 := Aside0.mk c9
            clear c9
            obtain ⟨y435, hy435⟩ : ∃ y_ : List Int, y_ = (x5_1 ++ [(wrap64 (48 + (wrap64 ((wrap64 (t430 - t431)) - x6_1)))) % 256]) := ⟨_, rfl⟩
            replace H : (figureheadref01_Minus.l0 k1 a0 a1 y435 0 (wrap64 (x7_1 + 1))) = some r := by first | (rw [hy435]; with_reducible exact H) | (have H2_ := (Option.bind_some _ _).symm.trans H; rw [hy435]; with_reducible exact H2_) | (have H2_ := (Option.bind_some _ _).symm.trans H; with_reducible exact H2_) | with_reducible exact H | (rw [hy435]; exact H) | exact H
            have Ny435 := Aside0.mk hy435
            clear hy435
            have H' := Aside0.mk H
            clear H
            go_wp2_with (first | ((with_reducible refine gate_callee (f := 76) rfl ?_); refine goesL_ (some 17) rfl rfl Tryd.func76 (by kernel_rfl) rfl #[.string a0, .int .i64 x7_1] rfl (by (try simp only [List.map_toArray]); (try simp only [List.map_cons]); (try simp only [List.map_nil]); first | done | rfl | (simp only [List.length_drop, List.length_take]; rfl)) ?_; (with_reducible refine (figureheadref01_digit.calls a0 x7_1 t430 _ A4.out).mono ?_); rintro e w' ⟨rfl, ⟨nd, rfl⟩⟩; refine ⟨_, rfl, ?_⟩) | ((with_reducible refine gate_callee (f := 76) rfl ?_); refine goesL_ (some 20) rfl rfl Tryd.func76 (by kernel_rfl) rfl #[.string a1, .int .i64 x7_1] rfl (by (try simp only [List.map_toArray]); (try simp only [List.map_cons]); (try simp only [List.map_nil]); first | done | rfl | (simp only [List.length_drop, List.length_take]; rfl)) ?_; (with_reducible refine (figureheadref01_digit.calls a1 x7_1 t431 _ A5.out).mono ?_); rintro e w' ⟨rfl, ⟨nd, rfl⟩⟩; refine ⟨_, rfl, ?_⟩) | ((with_reducible refine gate_builtin (b := .append) (xs := #[.tmp 28, .tmp 32]) rfl ?_); at_builtin; refine Kd.R_append (Kd.int .u8) (w0 := w) w.heap.size rfl (.tmp 28) (.tmp 32) 74 5 (.int .u8 0) 1 rfl Tryd.underlying74 info5 rfl (by decide) (by omega) u5 x5_1 ((wrap64 (48 + (wrap64 ((wrap64 (t430 - t431)) - x6_1)))) % 256) [.int .u8 ((wrap64 (48 + (wrap64 ((wrap64 (t430 - t431)) - x6_1)))) % 256)] (fun _ => True) (fun _ => False) rfl rfl ?aP (fun _ hk => hk.elim) ?aF ?aO ?aB ?aS ?aL ?_; (case aP => exact rfl); (case aB => exact (by repeat (first | (with_reducible first | exact HB.out | apply below_alloc | apply pw_below_drewN | apply below_drew1) | exact HB.out))); (case aF => exact (fun _ _ => trivial)); (case aO => exact (by (with_reducible repeat (first | apply Kd.R_alloc | apply Kd.R_drewN | apply Kd.R_drew)); exact HO_5.out)); (case aS => exact (below_size (by repeat (first | (with_reducible first | exact HB.out | apply below_alloc | apply pw_below_drewN | apply below_drew1) | exact HB.out)))); (case aL => have := LMc9.out; omega); intro v436 w10 ho hb hg hat; rw [← Ny435.out] at ho; have n0_ := Aside0.mk (hb); have n1_ := Aside0.mk (ho); clear HB; clear HO_5; have HB := n0_; have HO437 := n1_; clear n0_ n1_; clear ho hb hg hat))
            go_roundg k1
            case measure => have := HK1.out; omega
            case rel => exact ⟨(y435), (0), (wrap64 (x7_1 + 1)), (by first | rfl | (simp; done) | (simp [*]; done) | (simp [*, Fig.bne_nil]; done)), (by first | rfl | (simp; done) | (simp [*]; done) | (simp [*, Fig.bne_nil]; done)), H', ⟨by have := HK1.out; omega⟩, ⟨by (with_reducible repeat (first | apply Kd.R_alloc | apply Kd.R_drewN | apply Kd.R_drew)); exact HO437.out⟩, ⟨by repeat (first | (with_reducible first | exact HB.out | apply below_alloc | apply pw_below_drewN | apply below_drew1) | exact HB.out)⟩⟩
          · rw [if_neg c9] at H
            exact absurd H (by simp)
      · rw [if_neg c3] at H
        have c3b0 : decide (x7_1 < (a0.size : Int)) = false := decide_eq_false c3
        clear c3
        replace H := Option.bind_eq_some_iff.mp H
        obtain ⟨t428, A110, H⟩ := H
        replace H : ((figureheadref01_Strip.f k1 t428).bind fun t429 => (some t429)) = some r := H
        have A11 := Aside0.mk A110
        clear A110
        replace H := Option.bind_eq_some_iff.mp H
        obtain ⟨t429, A120, H⟩ := H
        replace H : (some t429) = some r := H
        have A12 := Aside0.mk A120
        clear A120
        obtain rfl := Option.some.inj H
        obtain ⟨Ao13, co13, eo13⟩ := Kd.R_slice HO_5.out
        subst eo13
        go_wp2_with (first | ((with_reducible refine gate_callee (f := 77) rfl ?_); refine goesL_ (some 35) rfl rfl Tryd.func77 (by kernel_rfl) rfl #[.slice Ao13 x5_1.length co13] rfl (by (try simp only [List.map_toArray]); (try simp only [List.map_cons]); (try simp only [List.map_nil]); first | done | rfl | (simp only [List.length_drop, List.length_take]; rfl)) ?_; (with_reducible refine (figureheadref01_turned.calls k1 _ _ x5_1 t428 _ ?side1 ?side2 A11.out).mono ?_); (case side1 => repeat (first | exact (Kd.R_reads' HO_5.out).2.2 | (with_reducible refine Kd.C_alloc ?_ _) | (with_reducible refine Kd.C_drewN ?_ _) | (with_reducible refine Kd.C_drew ?_))); (case side2 => exact (Kd.R_reads' HO_5.out).2.1); rintro e w14 ⟨rfl, hb⟩; refine ⟨_, rfl, ?_⟩; have n0_ := Aside0.mk (Kd.R_below (by (with_reducible repeat (first | apply Kd.R_alloc | apply Kd.R_drewN | apply Kd.R_drew)); exact HO_5.out) hb); have n1_ := Aside0.mk (below_step (by repeat (first | (with_reducible first | exact HB.out | apply below_alloc | apply pw_below_drewN | apply below_drew1) | exact HB.out)) hb); clear HO_5; clear HB; have HO_5 := n0_; have HB := n1_; clear n0_ n1_; (try clear hb); (try clear hb2); (try clear hk); (try clear hi)) | ((with_reducible refine gate_callee (f := 46) rfl ?_); refine goesL_ (some 36) rfl rfl Tryd.func46 (by kernel_rfl) rfl #[.string t428] rfl (by (try simp only [List.map_toArray]); (try simp only [List.map_cons]); (try simp only [List.map_nil]); first | done | rfl | (simp only [List.length_drop, List.length_take]; rfl)) ?_; (with_reducible refine (figureheadref01_Strip.calls k1 t428 t429 _ A12.out).mono ?_); rintro e w' ⟨rfl, ⟨nd, rfl⟩⟩; refine ⟨_, rfl, ?_⟩))
        go_ret
        exact ⟨by first | rfl | (simp [errW_none, errW_some] <;> rfl) | (simp [*, errW_none, errW_some] <;> rfl), by repeat (first | (with_reducible first | exact HB.out | apply below_alloc | apply pw_below_drewN | apply below_drew1) | exact HB.out)⟩
end Go.Proofs.YtbjaiphfehnncaaDoor.Px
end
section
namespace Go.Proofs.YtbjaiphfehnncaaDoor.Px
open Fig Go.RowKit Go.Proofs.YtbjaiphfehnncaaDoorW.PrintWords Go.Proofs.YtbjaiphfehnncaaDoorW.PrintLast Go.Proofs.YtbjaiphfehnncaaDoorW.PrintMore
attribute [local go_sem] max2_int min2_int max_two min_two max_three min_three max_four min_four   -- for this text's walks alone
attribute [local go_sem] fieldA23_0 fieldA23_1 fieldA23_2
def figureheadref05_Sum.j0 : Nat → Int → Bool → ByteArray → Int → Bool → ByteArray → Int → Option (Bool × ByteArray × Int)
  | 0, _, _, _, _, _, _, _ => none
  | k + 1, x5, x439000, x439001, x439002, x440000, x440001, x440002 => (figureheadref05_At.f k x439000 x439001 x439002 x5).bind fun t441 => ((figureheadref05_At.f k x440000 x440001 x440002 x5).bind fun t442 => (if (x439000 == x440000) = true then ((figureheadref01_Plus.f k t441 t442).bind fun t443 => ((figureheadref05_Make.f k x439000 t443 x5).bind fun bt444 => ((figureheadref05_plain.f bt444.1 bt444.2.1 bt444.2.2).bind fun bt447 => (some (bt447.1, bt447.2.1, bt447.2.2))))) else ((figureheadref01_Less.f t441 t442).bind fun t450 => (if t450 = true then ((figureheadref01_Minus.f k t442 t441).bind fun t451 => ((figureheadref05_Make.f k x440000 t451 x5).bind fun bt452 => ((figureheadref05_plain.f bt452.1 bt452.2.1 bt452.2.2).bind fun bt455 => (some (bt455.1, bt455.2.1, bt455.2.2))))) else ((figureheadref01_Minus.f k t441 t442).bind fun t458 => ((figureheadref05_Make.f k x439000 t458 x5).bind fun bt459 => ((figureheadref05_plain.f bt459.1 bt459.2.1 bt459.2.2).bind fun bt462 => (some (bt462.1, bt462.2.1, bt462.2.2)))))))))
def figureheadref05_Sum.f (k : Nat) (a0_0 : Bool) (a0_1 : ByteArray) (a0_2 : Int) (a1_0 : Bool) (a1_1 : ByteArray) (a1_2 : Int) : Option (Bool × ByteArray × Int) := if a1_2 < a0_2 then (figureheadref05_Sum.j0 k a1_2 a0_0 a0_1 a0_2 a1_0 a1_1 a1_2) else (figureheadref05_Sum.j0 k a0_2 a0_0 a0_1 a0_2 a1_0 a1_1 a1_2)
theorem figureheadref05_Sum.mono_l : ∀ k, (∀ y0 y1 y2 y3 y4 y5 y6, LeO (figureheadref05_Sum.j0 k y0 y1 y2 y3 y4 y5 y6) (figureheadref05_Sum.j0 (k + 1) y0 y1 y2 y3 y4 y5 y6))
  | 0 => fun _ _ _ _ _ _ _ r h => by simp [figureheadref05_Sum.j0] at h
  | k + 1 => by
    have ih0 := figureheadref05_Sum.mono_l k
    · intro y0 y1 y2 y3 y4 y5 y6
      unfold figureheadref05_Sum.j0
      repeat' first
      | (with_reducible exact ih0 _ _ _ _ _ _ _)
      | (with_reducible exact figureheadref01_Minus.mono _ _ _)
      | (with_reducible exact figureheadref01_Plus.mono _ _ _)
      | (with_reducible exact figureheadref05_At.mono _ _ _ _ _)
      | (with_reducible exact figureheadref05_Make.mono _ _ _ _)
      | (with_reducible exact LeO.refl _)
      | (with_reducible exact LeO.none _)
      | (with_reducible refine LeO.ite ?_ ?_)
      | (with_reducible refine LeO.bind ?_ (fun _ => ?_))
      | exact ih0 _ _ _ _ _ _ _
      | exact figureheadref01_Minus.mono _ _ _
      | exact figureheadref01_Plus.mono _ _ _
      | exact figureheadref05_At.mono _ _ _ _ _
      | exact figureheadref05_Make.mono _ _ _ _
      | exact LeO.none _
      | refine LeO.ite ?_ ?_
      | refine LeO.bind ?_ (fun _ => ?_)
theorem figureheadref05_Sum.mono : ∀ a0 a1 a2 a3 a4 a5 k, LeO (figureheadref05_Sum.f k a0 a1 a2 a3 a4 a5) (figureheadref05_Sum.f (k + 1) a0 a1 a2 a3 a4 a5) := by
  intro a0 a1 a2 a3 a4 a5 k
  have ih0 := figureheadref05_Sum.mono_l k
  unfold figureheadref05_Sum.f
  repeat' first
      | (with_reducible exact ih0 _ _ _ _ _ _ _)
      | (with_reducible exact figureheadref01_Minus.mono _ _ _)
      | (with_reducible exact figureheadref01_Plus.mono _ _ _)
      | (with_reducible exact figureheadref05_At.mono _ _ _ _ _)
      | (with_reducible exact figureheadref05_Make.mono _ _ _ _)
      | (with_reducible exact LeO.refl _)
      | (with_reducible exact LeO.none _)
      | (with_reducible refine LeO.ite ?_ ?_)
      | (with_reducible refine LeO.bind ?_ (fun _ => ?_))
      | exact ih0 _ _ _ _ _ _ _
      | exact figureheadref01_Minus.mono _ _ _
      | exact figureheadref01_Plus.mono _ _ _
      | exact figureheadref05_At.mono _ _ _ _ _
      | exact figureheadref05_Make.mono _ _ _ _
      | exact LeO.none _
      | refine LeO.ite ?_ ?_
      | refine LeO.bind ?_ (fun _ => ?_)
def figureheadref05_Sum.T4 : Bool × List (List Nat × List Nat) := (true, [([], []), ([], []), ([0, 1], [0, 1]), ([], []), ([], []), ([3, 4, 2], [3, 4]), ([2, 5, 0, 1, 2], [2]), ([5, 6, 0, 1, 2, 3, 4, 5, 6], [5])])
def figureheadref05_Sum.B4 : List Nat := [0, 0, 3, 0, 0, 31, 63, 127]
theorem figureheadref05_Sum.tab4 : rtab .any (opsOf Tryd.f35 4) = figureheadref05_Sum.T4 := by kernel_rfl
theorem figureheadref05_Sum.bits4 : waitsOk figureheadref05_Sum.T4.2 figureheadref05_Sum.B4 = true := by kernel_rfl
def figureheadref05_Sum.T6 : Bool × List (List Nat × List Nat) := (true, [([], []), ([0], [0]), ([], []), ([], []), ([2, 3], [2, 3]), ([], []), ([1, 4, 5, 4], [1, 4, 5]), ([6, 6], [6]), ([7, 7, 0, 1, 2, 3, 4, 5, 6, 7], [7])])
def figureheadref05_Sum.B6 : List Nat := [0, 1, 0, 0, 12, 0, 63, 127, 255]
theorem figureheadref05_Sum.tab6 : rtab .any (opsOf Tryd.f35 6) = figureheadref05_Sum.T6 := by kernel_rfl
theorem figureheadref05_Sum.bits6 : waitsOk figureheadref05_Sum.T6.2 figureheadref05_Sum.B6 = true := by kernel_rfl
def figureheadref05_Sum.T8 : Bool × List (List Nat × List Nat) := (true, [([], []), ([0], [0]), ([], []), ([], []), ([2, 3], [2, 3]), ([], []), ([1, 4, 5, 4], [1, 4, 5]), ([6, 6], [6]), ([7, 7, 0, 1, 2, 3, 4, 5, 6, 7], [7])])
def figureheadref05_Sum.B8 : List Nat := [0, 1, 0, 0, 12, 0, 63, 127, 255]
theorem figureheadref05_Sum.tab8 : rtab .any (opsOf Tryd.f35 8) = figureheadref05_Sum.T8 := by kernel_rfl
theorem figureheadref05_Sum.bits8 : waitsOk figureheadref05_Sum.T8.2 figureheadref05_Sum.B8 = true := by kernel_rfl
def figureheadref05_Sum.T9 : Bool × List (List Nat × List Nat) := (true, [([], []), ([0], [0]), ([], []), ([], []), ([2, 3], [2, 3]), ([], []), ([1, 4, 5, 4], [1, 4, 5]), ([6, 6], [6]), ([7, 7, 0, 1, 2, 3, 4, 5, 6, 7], [7])])
def figureheadref05_Sum.B9 : List Nat := [0, 1, 0, 0, 12, 0, 63, 127, 255]
theorem figureheadref05_Sum.tab9 : rtab .any (opsOf Tryd.f35 9) = figureheadref05_Sum.T9 := by kernel_rfl
theorem figureheadref05_Sum.bits9 : waitsOk figureheadref05_Sum.T9.2 figureheadref05_Sum.B9 = true := by kernel_rfl
set_option maxHeartbeats 8000000 in
set_option maxRecDepth 100000 in
theorem figureheadref05_Sum.calls (k : Nat) (a0_0 : Bool) (a0_1 : ByteArray) (a0_2 : Int) (a1_0 : Bool) (a1_1 : ByteArray) (a1_2 : Int) (r1 : Bool) (r2 : ByteArray) (r3 : Int) (w : World) (h : figureheadref05_Sum.f k a0_0 a0_1 a0_2 a1_0 a1_1 a1_2 = some (r1, r2, r3)) :
    Calls Tryd.prog 35 #[.agg #[.bool a0_0, .string a0_1, .int .i64 a0_2], .agg #[.bool a1_0, .string a1_1, .int .i64 a1_2]] w fun e w' => e = .returned (.agg #[.bool r1, .string r2, .int .i64 r3]) ∧ Below w.heap.size w w' := by
  have hu23 := Tryd.underlying23
  have HB := Aside0.mk (Below.refl w.heap.size w)
  have H : (if a1_2 < a0_2 then (figureheadref05_Sum.j0 k a1_2 a0_0 a0_1 a0_2 a1_0 a1_1 a1_2) else (figureheadref05_Sum.j0 k a0_2 a0_0 a0_1 a0_2 a1_0 a1_1 a1_2)) = some (r1, r2, r3) := h
  clear h
  have HC3 := Aside0.mk H
  clear H
  go_enter Tryd.func35, Tryd.ntmps35
  go_upto_if 13 with (first | ((with_reducible refine gate_dst (N := 2) rfl ?_); refine box_event ?hg (N := 2) ?hd (cs := #[.bool a0_0, .string a0_1, .int .i64 a0_2]) (t := 23) ?hr ?_; (case hd => rfl); (case hg => rfl); (case hr => first | (go_simp; done) | (go_simp; rfl)); intro gb438 hg w4 hbox hb; have n0_ := Aside0.mk (below_step (by repeat (first | (with_reducible first | exact HB.out | apply below_alloc | apply pw_below_drewN | apply below_drew1) | exact HB.out)) hb); have n1_ := Aside0.mk (hbox); have n2_ := Aside0.mk ((by rw [hg]; exact (below_size (by repeat (first | (with_reducible first | exact HB.out | apply below_alloc | apply pw_below_drewN | apply below_drew1) | exact HB.out))) : w.heap.size ≤ gb438)); have n3_ := Aside0.mk ((by rw [hg]; exact (below_size (by repeat (first | (with_reducible first | exact HB.out | apply below_alloc | apply pw_below_drewN | apply below_drew1) | exact HB.out))) : w.heap.size ≤ gb438)); clear HB; have HB := n0_; have BK438 := n1_; have GW438 := n2_; have GE438 := n3_; clear n0_ n1_ n2_ n3_; clear hb hbox hg) | ((with_reducible refine gate_dst (N := 3) rfl ?_); refine box_event ?hg (N := 3) ?hd (cs := #[.bool a1_0, .string a1_1, .int .i64 a1_2]) (t := 23) ?hr ?_; (case hd => rfl); (case hg => rfl); (case hr => first | (go_simp; done) | (go_simp; rfl)); intro gb439 hg w5 hbox hb; have n0_ := Aside0.mk (blk_below (g := gb438) (o := .cells #[.bool a0_0, .string a0_1, .int .i64 a0_2] 23 (0, 0)) (by (with_reducible repeat (first | refine blk_drewN ?_ _ | refine blk_drew ?_ | refine blk_alloc ?_ _)); exact BK438.out) hb); have n1_ := Aside0.mk (below_step (by repeat (first | (with_reducible first | exact HB.out | apply below_alloc | apply pw_below_drewN | apply below_drew1 | refine below_set ?_ GE438.out) | exact HB.out)) hb); have n2_ := Aside0.mk (hbox); have n3_ := Aside0.mk ((by rw [hg]; exact (below_size (by repeat (first | (with_reducible first | exact HB.out | apply below_alloc | apply pw_below_drewN | apply below_drew1 | refine below_set ?_ GE438.out) | exact HB.out))) : w.heap.size ≤ gb439)); have n4_ := Aside0.mk ((by rw [hg]; exact (below_size (by repeat (first | (with_reducible first | exact HB.out | apply below_alloc | apply pw_below_drewN | apply below_drew1 | refine below_set ?_ GE438.out) | exact HB.out))) : w.heap.size ≤ gb439)); have n5_ := Aside0.mk ((by rw [hg]; exact Nat.ne_of_lt (blk_lt (g := gb438) (o := .cells #[.bool a0_0, .string a0_1, .int .i64 a0_2] 23 (0, 0)) (by (with_reducible repeat (first | refine blk_drewN ?_ _ | refine blk_drew ?_ | refine blk_alloc ?_ _)); exact BK438.out)) : gb438 ≠ gb439)); have n6_ := Aside0.mk ((by rw [hg]; exact Nat.ne_of_gt (blk_lt (g := gb438) (o := .cells #[.bool a0_0, .string a0_1, .int .i64 a0_2] 23 (0, 0)) (by (with_reducible repeat (first | refine blk_drewN ?_ _ | refine blk_drew ?_ | refine blk_alloc ?_ _)); exact BK438.out)) : gb439 ≠ gb438)); clear BK438; clear HB; have BK438 := n0_; have HB := n1_; have BK439 := n2_; have GW439 := n3_; have GE439 := n4_; have NB438_439 := n5_; have NB439_438 := n6_; clear n0_ n1_ n2_ n3_ n4_ n5_ n6_; clear hb hbox hg) | ((with_reducible refine gate_dst (N := 4) rfl ?_); refine box_event ?hg (N := 4) ?hd (cs := #[.bool false, .string (⟨#[]⟩ : ByteArray), .int .i64 0]) (t := 23) ?hr ?_; (case hd => rfl); (case hg => rfl); (case hr => first | (go_simp; done) | (go_simp; rfl)); intro gb440 hg w6 hbox hb; have n0_ := Aside0.mk (blk_below (g := gb438) (o := .cells #[.bool a0_0, .string a0_1, .int .i64 a0_2] 23 (0, 0)) (by (with_reducible repeat (first | refine blk_drewN ?_ _ | refine blk_drew ?_ | refine blk_alloc ?_ _)); exact BK438.out) hb); have n1_ := Aside0.mk (blk_below (g := gb439) (o := .cells #[.bool a1_0, .string a1_1, .int .i64 a1_2] 23 (0, 0)) (by (with_reducible repeat (first | refine blk_drewN ?_ _ | refine blk_drew ?_ | refine blk_alloc ?_ _)); exact BK439.out) hb); have n2_ := Aside0.mk (below_step (by repeat (first | (with_reducible first | exact HB.out | apply below_alloc | apply pw_below_drewN | apply below_drew1 | refine below_set ?_ GE438.out | refine below_set ?_ GE439.out) | exact HB.out)) hb); have n3_ := Aside0.mk (hbox); have n4_ := Aside0.mk ((by rw [hg]; exact (below_size (by repeat (first | (with_reducible first | exact HB.out | apply below_alloc | apply pw_below_drewN | apply below_drew1 | refine below_set ?_ GE438.out | refine below_set ?_ GE439.out) | exact HB.out))) : w.heap.size ≤ gb440)); have n5_ := Aside0.mk ((by rw [hg]; exact (below_size (by repeat (first | (with_reducible first | exact HB.out | apply below_alloc | apply pw_below_drewN | apply below_drew1 | refine below_set ?_ GE438.out | refine below_set ?_ GE439.out) | exact HB.out))) : w.heap.size ≤ gb440)); have n6_ := Aside0.mk ((by rw [hg]; exact Nat.ne_of_lt (blk_lt (g := gb438) (o := .cells #[.bool a0_0, .string a0_1, .int .i64 a0_2] 23 (0, 0)) (by (with_reducible repeat (first | refine blk_drewN ?_ _ | refine blk_drew ?_ | refine blk_alloc ?_ _)); exact BK438.out)) : gb438 ≠ gb440)); have n7_ := Aside0.mk ((by rw [hg]; exact Nat.ne_of_gt (blk_lt (g := gb438) (o := .cells #[.bool a0_0, .string a0_1, .int .i64 a0_2] 23 (0, 0)) (by (with_reducible repeat (first | refine blk_drewN ?_ _ | refine blk_drew ?_ | refine blk_alloc ?_ _)); exact BK438.out)) : gb440 ≠ gb438)); have n8_ := Aside0.mk ((by rw [hg]; exact Nat.ne_of_lt (blk_lt (g := gb439) (o := .cells #[.bool a1_0, .string a1_1, .int .i64 a1_2] 23 (0, 0)) (by (with_reducible repeat (first | refine blk_drewN ?_ _ | refine blk_drew ?_ | refine blk_alloc ?_ _)); exact BK439.out)) : gb439 ≠ gb440)); have n9_ := Aside0.mk ((by rw [hg]; exact Nat.ne_of_gt (blk_lt (g := gb439) (o := .cells #[.bool a1_0, .string a1_1, .int .i64 a1_2] 23 (0, 0)) (by (with_reducible repeat (first | refine blk_drewN ?_ _ | refine blk_drew ?_ | refine blk_alloc ?_ _)); exact BK439.out)) : gb440 ≠ gb439)); clear BK438; clear BK439; clear HB; have BK438 := n0_; have BK439 := n1_; have HB := n2_; have BK440 := n3_; have GW440 := n4_; have GE440 := n5_; have NB438_440 := n6_; have NB440_438 := n7_; have NB439_440 := n8_; have NB440_439 := n9_; clear n0_ n1_ n2_ n3_ n4_ n5_ n6_ n7_ n8_ n9_; clear hb hbox hg; have hnb7 := NB438_439.out; have hnc7 := NB439_438.out; have hnb8 := NB438_440.out; have hnc8 := NB440_438.out; have hcz9_0 : w6.cell? ⟨gb438, 0, none⟩ = some (.bool a0_0) := (blk_cell BK438.out 0).trans rfl; have hcz9_1 : w6.cell? ⟨gb438, 1, none⟩ = some (.string a0_1) := (blk_cell BK438.out 1).trans rfl; have hcz9_2 : w6.cell? ⟨gb438, 2, none⟩ = some (.int .i64 a0_2) := (blk_cell BK438.out 2).trans rfl; have hfz9_0 := blk_frozen BK438.out 0; have hfz9_1 := blk_frozen BK438.out 1; have hfz9_2 := blk_frozen BK438.out 2; have hnb10 := NB439_440.out; have hnc10 := NB440_439.out; have hcz11_0 : w6.cell? ⟨gb439, 0, none⟩ = some (.bool a1_0) := (blk_cell BK439.out 0).trans rfl; have hcz11_1 : w6.cell? ⟨gb439, 1, none⟩ = some (.string a1_1) := (blk_cell BK439.out 1).trans rfl; have hcz11_2 : w6.cell? ⟨gb439, 2, none⟩ = some (.int .i64 a1_2) := (blk_cell BK439.out 2).trans rfl; have hfz11_0 := blk_frozen BK439.out 0; have hfz11_1 := blk_frozen BK439.out 1; have hfz11_2 := blk_frozen BK439.out 2))
  (try simp only [Act.put, List.setIfInBounds_toArray, List.set_cons_zero, List.set_cons_succ])
  go_cut [5] (fun v5 wc => ∃ (kq : Nat) (x5_2 : Int), v5 = .int .i64 x5_2 ∧ Aside0 (figureheadref05_Sum.j0 kq x5_2 a0_0 a0_1 a0_2 a1_0 a1_1 a1_2 = some (r1, r2, r3)) ∧ Aside0 (kq ≤ k) ∧ Aside0 (wc.heap[gb438]? = some (.cells #[.bool a0_0, .string a0_1, .int .i64 a0_2] 23 (0, 0))) ∧ Aside0 (wc.heap[gb439]? = some (.cells #[.bool a1_0, .string a1_1, .int .i64 a1_2] 23 (0, 0))) ∧ Aside0 (wc.heap[gb440]? = some (.cells #[.bool false, .string (⟨#[]⟩ : ByteArray), .int .i64 0] 23 (0, 0))) ∧ Aside0 (Below w.heap.size w wc))
  case first =>
    have H := HC3.out
    clear HC3
    by_cases c12 : a1_2 < a0_2
    · rw [if_pos c12] at H
      have c12b0 : decide (a1_2 < a0_2) = true := decide_eq_true c12
      clear c12
      (first | rw [c12b0] | (simp only [i64_w, i32_w]; rw [c12b0]) | skip)
      have H' := Aside0.mk H
      clear H
      have hnb13 := NB439_438.out
      have hnc13 := NB438_439.out
      have hnb14 := NB439_440.out
      have hnc14 := NB440_439.out
      have hcz15_0 : w6.cell? ⟨gb439, 0, none⟩ = some (.bool a1_0) := (blk_cell BK439.out 0).trans rfl
      have hcz15_1 : w6.cell? ⟨gb439, 1, none⟩ = some (.string a1_1) := (blk_cell BK439.out 1).trans rfl
      have hcz15_2 : w6.cell? ⟨gb439, 2, none⟩ = some (.int .i64 a1_2) := (blk_cell BK439.out 2).trans rfl
      have hfz15_0 := blk_frozen BK439.out 0
      have hfz15_1 := blk_frozen BK439.out 1
      have hfz15_2 := blk_frozen BK439.out 2
      go_wp2
      go_meet
      case rel => exact ⟨_, (a1_2), (by first | rfl | (simp; done) | (simp [*]; done) | (simp [*, Fig.bne_nil]; done)), H', ⟨by first | omega | exact Nat.le_refl _⟩, ⟨by (with_reducible repeat (first | refine blk_drewN ?_ _ | refine blk_drew ?_ | refine blk_alloc ?_ _)); exact BK438.out⟩, ⟨by (with_reducible repeat (first | refine blk_drewN ?_ _ | refine blk_drew ?_ | refine blk_alloc ?_ _)); exact BK439.out⟩, ⟨by (with_reducible repeat (first | refine blk_drewN ?_ _ | refine blk_drew ?_ | refine blk_alloc ?_ _)); exact BK440.out⟩, ⟨by repeat (first | (with_reducible first | exact HB.out | apply below_alloc | apply pw_below_drewN | apply below_drew1 | refine below_set ?_ GE438.out | refine below_set ?_ GE439.out | refine below_set ?_ GE440.out) | exact HB.out)⟩⟩
    · rw [if_neg c12] at H
      have c12b0 : decide (a1_2 < a0_2) = false := decide_eq_false c12
      clear c12
      (first | rw [c12b0] | (simp only [i64_w, i32_w]; rw [c12b0]) | skip)
      have H' := Aside0.mk H
      clear H
      go_wp2
      go_meet
      case rel => exact ⟨_, (a0_2), (by first | rfl | (simp; done) | (simp [*]; done) | (simp [*, Fig.bne_nil]; done)), H', ⟨by first | omega | exact Nat.le_refl _⟩, ⟨by (with_reducible repeat (first | refine blk_drewN ?_ _ | refine blk_drew ?_ | refine blk_alloc ?_ _)); exact BK438.out⟩, ⟨by (with_reducible repeat (first | refine blk_drewN ?_ _ | refine blk_drew ?_ | refine blk_alloc ?_ _)); exact BK439.out⟩, ⟨by (with_reducible repeat (first | refine blk_drewN ?_ _ | refine blk_drew ?_ | refine blk_alloc ?_ _)); exact BK440.out⟩, ⟨by repeat (first | (with_reducible first | exact HB.out | apply below_alloc | apply pw_below_drewN | apply below_drew1 | refine below_set ?_ GE438.out | refine below_set ?_ GE439.out | refine below_set ?_ GE440.out) | exact HB.out)⟩⟩
  case rest =>
    clear HC3
    try clear c1
    try clear p2
    try clear c3
    try clear c7
    try clear c8
    try clear c10
    try clear c12
    try clear c12b0
    try clear c13
    try clear c14
    try clear hcz11_0
    try clear hcz11_1
    try clear hcz11_2
    try clear hcz15_0
    try clear hcz15_1
    try clear hcz15_2
    try clear hcz9_0
    try clear hcz9_1
    try clear hcz9_2
    try clear hfz11_0
    try clear hfz11_1
    try clear hfz11_2
    try clear hfz15_0
    try clear hfz15_1
    try clear hfz15_2
    try clear hfz9_0
    try clear hfz9_1
    try clear hfz9_2
    obtain ⟨kq, x5_2, rfl, HA, HJ2, BK438, BK439, BK440, HB⟩ := hcut
    cases kq with
    | zero => exact absurd HA.out (by simp [figureheadref05_Sum.j0])
    | succ kj2 =>
      have H := HA.out
      clear HA
      simp only [figureheadref05_Sum.j0] at H
      replace H := Option.bind_eq_some_iff.mp H
      obtain ⟨t441, A160, H⟩ := H
      replace H : ((figureheadref05_At.f kj2 a1_0 a1_1 a1_2 x5_2).bind fun t442 => (if (a0_0 == a1_0) = true then ((figureheadref01_Plus.f kj2 t441 t442).bind fun t443 => ((figureheadref05_Make.f kj2 a0_0 t443 x5_2).bind fun bt444 => ((figureheadref05_plain.f bt444.1 bt444.2.1 bt444.2.2).bind fun bt447 => (some (bt447.1, bt447.2.1, bt447.2.2))))) else ((figureheadref01_Less.f t441 t442).bind fun t450 => (if t450 = true then ((figureheadref01_Minus.f kj2 t442 t441).bind fun t451 => ((figureheadref05_Make.f kj2 a1_0 t451 x5_2).bind fun bt452 => ((figureheadref05_plain.f bt452.1 bt452.2.1 bt452.2.2).bind fun bt455 => (some (bt455.1, bt455.2.1, bt455.2.2))))) else ((figureheadref01_Minus.f kj2 t441 t442).bind fun t458 => ((figureheadref05_Make.f kj2 a0_0 t458 x5_2).bind fun bt459 => ((figureheadref05_plain.f bt459.1 bt459.2.1 bt459.2.2).bind fun bt462 => (some (bt462.1, bt462.2.1, bt462.2.2))))))))) = some (r1, r2, r3) := H
      have A16 := Aside0.mk A160
      clear A160
      replace H := Option.bind_eq_some_iff.mp H
      obtain ⟨t442, A170, H⟩ := H
      replace H : (if (a0_0 == a1_0) = true then ((figureheadref01_Plus.f kj2 t441 t442).bind fun t443 => ((figureheadref05_Make.f kj2 a0_0 t443 x5_2).bind fun bt444 => ((figureheadref05_plain.f bt444.1 bt444.2.1 bt444.2.2).bind fun bt447 => (some (bt447.1, bt447.2.1, bt447.2.2))))) else ((figureheadref01_Less.f t441 t442).bind fun t450 => (if t450 = true then ((figureheadref01_Minus.f kj2 t442 t441).bind fun t451 => ((figureheadref05_Make.f kj2 a1_0 t451 x5_2).bind fun bt452 => ((figureheadref05_plain.f bt452.1 bt452.2.1 bt452.2.2).bind fun bt455 => (some (bt455.1, bt455.2.1, bt455.2.2))))) else ((figureheadref01_Minus.f kj2 t441 t442).bind fun t458 => ((figureheadref05_Make.f kj2 a0_0 t458 x5_2).bind fun bt459 => ((figureheadref05_plain.f bt459.1 bt459.2.1 bt459.2.2).bind fun bt462 => (some (bt462.1, bt462.2.1, bt462.2.2)))))))) = some (r1, r2, r3) := H
      have A17 := Aside0.mk A170
      clear A170
      by_cases c18 : (a0_0 == a1_0) = true
      · rw [if_pos c18] at H
        have c18b0 : (a0_0 == a1_0) = true := c18
        (try (have c18b1 : decide (a0_0 = a1_0) = true := by simpa using c18))
        (try (have c18b2 : (a0_0 == a1_0) = true := by simpa using c18))
        clear c18
        replace H := Option.bind_eq_some_iff.mp H
        obtain ⟨t443, A190, H⟩ := H
        replace H : ((figureheadref05_Make.f kj2 a0_0 t443 x5_2).bind fun bt444 => ((figureheadref05_plain.f bt444.1 bt444.2.1 bt444.2.2).bind fun bt447 => (some (bt447.1, bt447.2.1, bt447.2.2)))) = some (r1, r2, r3) := H
        have A19 := Aside0.mk A190
        clear A190
        replace H := Option.bind_eq_some_iff.mp H
        obtain ⟨⟨t444, t445, t446⟩, A200, H⟩ := H
        replace H : ((figureheadref05_plain.f t444 t445 t446).bind fun bt447 => (some (bt447.1, bt447.2.1, bt447.2.2))) = some (r1, r2, r3) := H
        have A20 := Aside0.mk A200
        clear A200
        replace H := Option.bind_eq_some_iff.mp H
        obtain ⟨⟨t447, t448, t449⟩, A210, H⟩ := H
        replace H : (some (t447, t448, t449)) = some (r1, r2, r3) := H
        have A21 := Aside0.mk A210
        clear A210
        simp only [Option.some.injEq, Prod.mk.injEq] at H
        obtain ⟨rfl, rfl, rfl⟩ := H
        try go_wp2
        have n0_ := Aside0.mk (blk_drew BK438.out)
        have n1_ := Aside0.mk (blk_drew BK439.out)
        have n2_ := Aside0.mk (blk_drew BK440.out)
        have n3_ := Aside0.mk (below_drew1 HB.out)
        clear BK438
        clear BK439
        clear BK440
        clear HB
        have BK438 := n0_
        have BK439 := n1_
        have BK440 := n2_
        have HB := n3_
        clear n0_ n1_ n2_ n3_
        refine start_ (n := 8) (S := fun w' => w'.cell? ⟨gb438, 0, none⟩ = some (.bool a0_0) ∧ w'.cell? ⟨gb438, 1, none⟩ = some (.string a0_1) ∧ w'.cell? ⟨gb438, 2, none⟩ = some (.int .i64 a0_2) ∧ w'.cell? ⟨gb439, 0, none⟩ = some (.bool a1_0) ∧ w'.cell? ⟨gb439, 1, none⟩ = some (.string a1_1) ∧ w'.cell? ⟨gb439, 2, none⟩ = some (.int .i64 a1_2)) (ds := []) #[false, false, false, false, false, false, false, false] (by kernel_rfl) rfl rfl ⟨(blk_cell BK438.out 0).trans rfl, (blk_cell BK438.out 1).trans rfl, (blk_cell BK438.out 2).trans rfl, (blk_cell BK439.out 0).trans rfl, (blk_cell BK439.out 1).trans rfl, (blk_cell BK439.out 2).trans rfl⟩ (fun hHeld => ?_); refine with_tabW figureheadref05_Sum.tab4 figureheadref05_Sum.bits4 (fun HT_ HW_ => ?_)
        generalize wc.drew = w22 at BK438 BK439 BK440 HB hHeld ⊢
        refine pure_ (i := 1) (N := some 17) (v := ?_) (a' := ?_) #[false, true, false, false, false, false, false, false] rfl rfl (any_of HT_.out (by kernel_rfl)) (fun _ _ _ h => h) (Or.inl ⟨by rfl, ?_⟩) ?_ ?_
        rotate_left
        · intro w'
          go_simp
          with_reducible rfl
        rotate_left
        · simp only [Act.put, List.setIfInBounds_toArray, List.set_cons_zero, List.set_cons_succ]; (try simp only [i64_w]); (try simp only [i32_w])
          rfl
        refine pure_ (i := 4) (N := some 20) (v := ?_) (a' := ?_) #[false, true, false, false, true, false, false, false] rfl rfl (any_of HT_.out (by kernel_rfl)) (fun _ _ _ h => h) (Or.inl ⟨by rfl, ?_⟩) ?_ ?_
        rotate_left
        · intro w'
          go_simp
          with_reducible rfl
        rotate_left
        · simp only [Act.put, List.setIfInBounds_toArray, List.set_cons_zero, List.set_cons_succ]; (try simp only [i64_w]); (try simp only [i32_w])
          rfl
        refine take_ (i := 0) (N := some 16) (v := ?_) (a' := ?_) #[true, true, false, false, true, false, false, false] rfl rfl (take_ofW HT_.out HW_.out (by kernel_rfl)) (fun _ _ _ h => h) (Or.inl ⟨by rfl, ?_⟩) hHeld ?_ ?_
        rotate_left
        · rintro w' ⟨s0, s1, s2, s3, s4, s5⟩
          go_simp
          with_reducible rfl
        rotate_left
        · simp only [Act.put, List.setIfInBounds_toArray, List.set_cons_zero, List.set_cons_succ]; (try simp only [i64_w]); (try simp only [i32_w])
          rfl
        refine take_ (i := 3) (N := some 19) (v := ?_) (a' := ?_) #[true, true, false, true, true, false, false, false] rfl rfl (take_ofW HT_.out HW_.out (by kernel_rfl)) (fun _ _ _ h => h) (Or.inl ⟨by rfl, ?_⟩) hHeld ?_ ?_
        rotate_left
        · rintro w' ⟨s0, s1, s2, s3, s4, s5⟩
          go_simp
          with_reducible rfl
        rotate_left
        · simp only [Act.put, List.setIfInBounds_toArray, List.set_cons_zero, List.set_cons_succ]; (try simp only [i64_w]); (try simp only [i32_w])
          rfl
        refine one_ (i := 2) (N := some 18) #[true, true, true, true, true, false, false, false] rfl rfl (one_of HT_.out (by kernel_rfl)) (by decide) (fun K hK => ?_)
        refine goes_ Tryd.func49 (by kernel_rfl) rfl #[.agg #[.bool a0_0, .string a0_1, .int .i64 a0_2], .int .i64 x5_2] (by rfl) rfl rfl (by (try simp only [List.map_toArray]); (try simp only [List.map_cons]); (try simp only [List.map_nil]); first | done | rfl | (simp only [List.length_drop, List.length_take]; rfl)) ?_
        with_reducible refine (figureheadref05_At.calls kj2 a0_0 a0_1 a0_2 x5_2 t441 _ A16.out).mono ?_
        rintro e w23 ⟨rfl, hb⟩
        refine ⟨_, rfl, ?_⟩
        have n0_ := Aside0.mk (blk_below (g := gb438) (o := .cells #[.bool a0_0, .string a0_1, .int .i64 a0_2] 23 (0, 0)) (by (with_reducible repeat (first | refine blk_drewN ?_ _ | refine blk_drew ?_ | refine blk_alloc ?_ _)); exact BK438.out) hb)
        have n1_ := Aside0.mk (blk_below (g := gb439) (o := .cells #[.bool a1_0, .string a1_1, .int .i64 a1_2] 23 (0, 0)) (by (with_reducible repeat (first | refine blk_drewN ?_ _ | refine blk_drew ?_ | refine blk_alloc ?_ _)); exact BK439.out) hb)
        have n2_ := Aside0.mk (blk_below (g := gb440) (o := .cells #[.bool false, .string (⟨#[]⟩ : ByteArray), .int .i64 0] 23 (0, 0)) (by (with_reducible repeat (first | refine blk_drewN ?_ _ | refine blk_drew ?_ | refine blk_alloc ?_ _)); exact BK440.out) hb)
        have n3_ := Aside0.mk (below_step (by repeat (first | (with_reducible first | exact HB.out | apply below_alloc | apply pw_below_drewN | apply below_drew1 | refine below_set ?_ GE438.out | refine below_set ?_ GE439.out | refine below_set ?_ GE440.out) | exact HB.out)) hb)
        clear BK438
        clear BK439
        clear BK440
        clear HB
        have BK438 := n0_
        have BK439 := n1_
        have BK440 := n2_
        have HB := n3_
        clear n0_ n1_ n2_ n3_
        (try clear hb)
        (try clear hb2)
        (try clear hk)
        (try clear hi)
        refine hK.out _ _ ⟨(blk_cell BK438.out 0).trans rfl, (blk_cell BK438.out 1).trans rfl, (blk_cell BK438.out 2).trans rfl, (blk_cell BK439.out 0).trans rfl, (blk_cell BK439.out 1).trans rfl, (blk_cell BK439.out 2).trans rfl⟩ (fun hHeld => ?_)
        clear hK K
        refine norm_ (a' := ?_) ?_ ?_
        rotate_left
        · show Act.put _ (some 18) _ = _
          simp only [Act.put, List.setIfInBounds_toArray, List.set_cons_zero, List.set_cons_succ]; (try simp only [i64_w]); (try simp only [i32_w])
          rfl
        refine one_ (i := 5) (N := some 21) #[true, true, true, true, true, true, false, false] rfl rfl (one_of HT_.out (by kernel_rfl)) (by decide) (fun K hK => ?_)
        refine goes_ Tryd.func49 (by kernel_rfl) rfl #[.agg #[.bool a1_0, .string a1_1, .int .i64 a1_2], .int .i64 x5_2] (by rfl) rfl rfl (by (try simp only [List.map_toArray]); (try simp only [List.map_cons]); (try simp only [List.map_nil]); first | done | rfl | (simp only [List.length_drop, List.length_take]; rfl)) ?_
        with_reducible refine (figureheadref05_At.calls kj2 a1_0 a1_1 a1_2 x5_2 t442 _ A17.out).mono ?_
        rintro e w24 ⟨rfl, hb⟩
        refine ⟨_, rfl, ?_⟩
        have n0_ := Aside0.mk (blk_below (g := gb438) (o := .cells #[.bool a0_0, .string a0_1, .int .i64 a0_2] 23 (0, 0)) (by (with_reducible repeat (first | refine blk_drewN ?_ _ | refine blk_drew ?_ | refine blk_alloc ?_ _)); exact BK438.out) hb)
        have n1_ := Aside0.mk (blk_below (g := gb439) (o := .cells #[.bool a1_0, .string a1_1, .int .i64 a1_2] 23 (0, 0)) (by (with_reducible repeat (first | refine blk_drewN ?_ _ | refine blk_drew ?_ | refine blk_alloc ?_ _)); exact BK439.out) hb)
        have n2_ := Aside0.mk (blk_below (g := gb440) (o := .cells #[.bool false, .string (⟨#[]⟩ : ByteArray), .int .i64 0] 23 (0, 0)) (by (with_reducible repeat (first | refine blk_drewN ?_ _ | refine blk_drew ?_ | refine blk_alloc ?_ _)); exact BK440.out) hb)
        have n3_ := Aside0.mk (below_step (by repeat (first | (with_reducible first | exact HB.out | apply below_alloc | apply pw_below_drewN | apply below_drew1 | refine below_set ?_ GE438.out | refine below_set ?_ GE439.out | refine below_set ?_ GE440.out) | exact HB.out)) hb)
        clear BK438
        clear BK439
        clear BK440
        clear HB
        have BK438 := n0_
        have BK439 := n1_
        have BK440 := n2_
        have HB := n3_
        clear n0_ n1_ n2_ n3_
        (try clear hb)
        (try clear hb2)
        (try clear hk)
        (try clear hi)
        refine hK.out _ _ ⟨(blk_cell BK438.out 0).trans rfl, (blk_cell BK438.out 1).trans rfl, (blk_cell BK438.out 2).trans rfl, (blk_cell BK439.out 0).trans rfl, (blk_cell BK439.out 1).trans rfl, (blk_cell BK439.out 2).trans rfl⟩ (fun hHeld => ?_)
        clear hK K
        refine norm_ (a' := ?_) ?_ ?_
        rotate_left
        · show Act.put _ (some 21) _ = _
          simp only [Act.put, List.setIfInBounds_toArray, List.set_cons_zero, List.set_cons_succ]; (try simp only [i64_w]); (try simp only [i32_w])
          rfl
        refine pure_ (i := 6) (N := some 6) (v := ?_) (a' := ?_) #[true, true, true, true, true, true, true, false] rfl rfl (any_of HT_.out (by kernel_rfl)) (fun _ _ _ h => h) (Or.inl ⟨by rfl, ?_⟩) ?_ ?_
        rotate_left
        · intro w'
          go_simp
          with_reducible rfl
        rotate_left
        · simp only [Act.put, List.setIfInBounds_toArray, List.set_cons_zero, List.set_cons_succ]; (try simp only [i64_w]); (try simp only [i32_w])
          rfl
        refine pure_ (i := 7) (N := some 7) (v := ?_) (a' := ?_) #[true, true, true, true, true, true, true, true] rfl rfl (any_of HT_.out (by kernel_rfl)) (fun _ _ _ h => h) (Or.inl ⟨by rfl, ?_⟩) ?_ ?_
        rotate_left
        · intro w'
          go_simp
          with_reducible rfl
        rotate_left
        · simp only [Act.put, List.setIfInBounds_toArray, List.set_cons_zero, List.set_cons_succ]; (try simp only [i64_w]); (try simp only [i32_w])
          rfl
        refine done_ (done_of HT_.out (by kernel_rfl)) ?_
        have hnb25 := NB438_439.out
        have hnc25 := NB439_438.out
        have hnb26 := NB438_440.out
        have hnc26 := NB440_438.out
        have hcz27_0 : w24.cell? ⟨gb438, 0, none⟩ = some (.bool a0_0) := (blk_cell BK438.out 0).trans rfl
        have hcz27_1 : w24.cell? ⟨gb438, 1, none⟩ = some (.string a0_1) := (blk_cell BK438.out 1).trans rfl
        have hcz27_2 : w24.cell? ⟨gb438, 2, none⟩ = some (.int .i64 a0_2) := (blk_cell BK438.out 2).trans rfl
        have hfz27_0 := blk_frozen BK438.out 0
        have hfz27_1 := blk_frozen BK438.out 1
        have hfz27_2 := blk_frozen BK438.out 2
        have hnb28 := NB439_440.out
        have hnc28 := NB440_439.out
        have hcz29_0 : w24.cell? ⟨gb439, 0, none⟩ = some (.bool a1_0) := (blk_cell BK439.out 0).trans rfl
        have hcz29_1 : w24.cell? ⟨gb439, 1, none⟩ = some (.string a1_1) := (blk_cell BK439.out 1).trans rfl
        have hcz29_2 : w24.cell? ⟨gb439, 2, none⟩ = some (.int .i64 a1_2) := (blk_cell BK439.out 2).trans rfl
        have hfz29_0 := blk_frozen BK439.out 0
        have hfz29_1 := blk_frozen BK439.out 1
        have hfz29_2 := blk_frozen BK439.out 2
        try go_wp2
        have n0_ := Aside0.mk (blk_drew BK438.out)
        have n1_ := Aside0.mk (blk_drew BK439.out)
        have n2_ := Aside0.mk (blk_drew BK440.out)
        have n3_ := Aside0.mk (below_drew1 HB.out)
        clear BK438
        clear BK439
        clear BK440
        clear HB
        have BK438 := n0_
        have BK439 := n1_
        have BK440 := n2_
        have HB := n3_
        clear n0_ n1_ n2_ n3_
        refine start_ (n := 9) (S := fun w' => w'.cell? ⟨gb438, 0, none⟩ = some (.bool a0_0) ∧ w'.cell? ⟨gb438, 1, none⟩ = some (.string a0_1) ∧ w'.cell? ⟨gb438, 2, none⟩ = some (.int .i64 a0_2)) (ds := []) #[false, false, false, false, false, false, false, false, false] (by kernel_rfl) rfl rfl ⟨(blk_cell BK438.out 0).trans rfl, (blk_cell BK438.out 1).trans rfl, (blk_cell BK438.out 2).trans rfl⟩ (fun hHeld => ?_); refine with_tabW figureheadref05_Sum.tab6 figureheadref05_Sum.bits6 (fun HT_ HW_ => ?_)
        generalize w24.drew = w30 at BK438 BK439 BK440 HB hHeld ⊢
        refine pure_ (i := 0) (N := some 27) (v := ?_) (a' := ?_) #[true, false, false, false, false, false, false, false, false] rfl rfl (any_of HT_.out (by kernel_rfl)) (fun _ _ _ h => h) (Or.inl ⟨by rfl, ?_⟩) ?_ ?_
        rotate_left
        · intro w'
          go_simp
          with_reducible rfl
        rotate_left
        · simp only [Act.put, List.setIfInBounds_toArray, List.set_cons_zero, List.set_cons_succ]; (try simp only [i64_w]); (try simp only [i32_w])
          rfl
        refine pure_ (i := 2) (N := some 29) (v := ?_) (a' := ?_) #[true, false, true, false, false, false, false, false, false] rfl rfl (any_of HT_.out (by kernel_rfl)) (fun _ _ _ h => h) (Or.inl ⟨by rfl, ?_⟩) ?_ ?_
        rotate_left
        · intro w'
          go_simp
          with_reducible rfl
        rotate_left
        · simp only [Act.put, List.setIfInBounds_toArray, List.set_cons_zero, List.set_cons_succ]; (try simp only [i64_w]); (try simp only [i32_w])
          rfl
        refine pure_ (i := 3) (N := some 30) (v := ?_) (a' := ?_) #[true, false, true, true, false, false, false, false, false] rfl rfl (any_of HT_.out (by kernel_rfl)) (fun _ _ _ h => h) (Or.inl ⟨by rfl, ?_⟩) ?_ ?_
        rotate_left
        · intro w'
          go_simp
          with_reducible rfl
        rotate_left
        · simp only [Act.put, List.setIfInBounds_toArray, List.set_cons_zero, List.set_cons_succ]; (try simp only [i64_w]); (try simp only [i32_w])
          rfl
        refine pure_ (i := 5) (N := some 32) (v := ?_) (a' := ?_) #[true, false, true, true, false, true, false, false, false] rfl rfl (any_of HT_.out (by kernel_rfl)) (fun _ _ _ h => h) (Or.inl ⟨by rfl, ?_⟩) ?_ ?_
        rotate_left
        · intro w'
          go_simp
          with_reducible rfl
        rotate_left
        · simp only [Act.put, List.setIfInBounds_toArray, List.set_cons_zero, List.set_cons_succ]; (try simp only [i64_w]); (try simp only [i32_w])
          rfl
        refine take_ (i := 1) (N := some 28) (v := ?_) (a' := ?_) #[true, true, true, true, false, true, false, false, false] rfl rfl (take_ofW HT_.out HW_.out (by kernel_rfl)) (fun _ _ _ h => h) (Or.inl ⟨by rfl, ?_⟩) hHeld ?_ ?_
        rotate_left
        · rintro w' ⟨s0, s1, s2⟩
          go_simp
          with_reducible rfl
        rotate_left
        · simp only [Act.put, List.setIfInBounds_toArray, List.set_cons_zero, List.set_cons_succ]; (try simp only [i64_w]); (try simp only [i32_w])
          rfl
        refine one_ (i := 4) (N := some 31) #[true, true, true, true, true, true, false, false, false] rfl rfl (one_of HT_.out (by kernel_rfl)) (by decide) (fun K hK => ?_)
        refine goes_ Tryd.func58 (by kernel_rfl) rfl #[.string t441, .string t442] (by rfl) rfl rfl (by (try simp only [List.map_toArray]); (try simp only [List.map_cons]); (try simp only [List.map_nil]); first | done | rfl | (simp only [List.length_drop, List.length_take]; rfl)) ?_
        with_reducible refine (figureheadref01_Plus.calls kj2 t441 t442 t443 _ A19.out).mono ?_
        rintro e w31 ⟨rfl, hb⟩
        refine ⟨_, rfl, ?_⟩
        have n0_ := Aside0.mk (blk_below (g := gb438) (o := .cells #[.bool a0_0, .string a0_1, .int .i64 a0_2] 23 (0, 0)) (by (with_reducible repeat (first | refine blk_drewN ?_ _ | refine blk_drew ?_ | refine blk_alloc ?_ _)); exact BK438.out) hb)
        have n1_ := Aside0.mk (blk_below (g := gb439) (o := .cells #[.bool a1_0, .string a1_1, .int .i64 a1_2] 23 (0, 0)) (by (with_reducible repeat (first | refine blk_drewN ?_ _ | refine blk_drew ?_ | refine blk_alloc ?_ _)); exact BK439.out) hb)
        have n2_ := Aside0.mk (blk_below (g := gb440) (o := .cells #[.bool false, .string (⟨#[]⟩ : ByteArray), .int .i64 0] 23 (0, 0)) (by (with_reducible repeat (first | refine blk_drewN ?_ _ | refine blk_drew ?_ | refine blk_alloc ?_ _)); exact BK440.out) hb)
        have n3_ := Aside0.mk (below_step (by repeat (first | (with_reducible first | exact HB.out | apply below_alloc | apply pw_below_drewN | apply below_drew1 | refine below_set ?_ GE438.out | refine below_set ?_ GE439.out | refine below_set ?_ GE440.out) | exact HB.out)) hb)
        clear BK438
        clear BK439
        clear BK440
        clear HB
        have BK438 := n0_
        have BK439 := n1_
        have BK440 := n2_
        have HB := n3_
        clear n0_ n1_ n2_ n3_
        (try clear hb)
        (try clear hb2)
        (try clear hk)
        (try clear hi)
        refine hK.out _ _ ⟨(blk_cell BK438.out 0).trans rfl, (blk_cell BK438.out 1).trans rfl, (blk_cell BK438.out 2).trans rfl⟩ (fun hHeld => ?_)
        clear hK K
        refine norm_ (a' := ?_) ?_ ?_
        rotate_left
        · show Act.put _ (some 31) _ = _
          simp only [Act.put, List.setIfInBounds_toArray, List.set_cons_zero, List.set_cons_succ]; (try simp only [i64_w]); (try simp only [i32_w])
          rfl
        refine one_ (i := 6) (N := some 33) #[true, true, true, true, true, true, true, false, false] rfl rfl (one_of HT_.out (by kernel_rfl)) (by decide) (fun K hK => ?_)
        refine goes_ Tryd.func57 (by kernel_rfl) rfl #[.bool a0_0, .string t443, .int .i64 x5_2] (by rfl) rfl rfl (by (try simp only [List.map_toArray]); (try simp only [List.map_cons]); (try simp only [List.map_nil]); first | done | rfl | (simp only [List.length_drop, List.length_take]; rfl)) ?_
        with_reducible refine (figureheadref05_Make.calls kj2 a0_0 t443 x5_2 t444 t445 t446 _ A20.out).mono ?_
        rintro e w32 ⟨rfl, hb⟩
        refine ⟨_, rfl, ?_⟩
        have n0_ := Aside0.mk (blk_below (g := gb438) (o := .cells #[.bool a0_0, .string a0_1, .int .i64 a0_2] 23 (0, 0)) (by (with_reducible repeat (first | refine blk_drewN ?_ _ | refine blk_drew ?_ | refine blk_alloc ?_ _)); exact BK438.out) hb)
        have n1_ := Aside0.mk (blk_below (g := gb439) (o := .cells #[.bool a1_0, .string a1_1, .int .i64 a1_2] 23 (0, 0)) (by (with_reducible repeat (first | refine blk_drewN ?_ _ | refine blk_drew ?_ | refine blk_alloc ?_ _)); exact BK439.out) hb)
        have n2_ := Aside0.mk (blk_below (g := gb440) (o := .cells #[.bool false, .string (⟨#[]⟩ : ByteArray), .int .i64 0] 23 (0, 0)) (by (with_reducible repeat (first | refine blk_drewN ?_ _ | refine blk_drew ?_ | refine blk_alloc ?_ _)); exact BK440.out) hb)
        have n3_ := Aside0.mk (below_step (by repeat (first | (with_reducible first | exact HB.out | apply below_alloc | apply pw_below_drewN | apply below_drew1 | refine below_set ?_ GE438.out | refine below_set ?_ GE439.out | refine below_set ?_ GE440.out) | exact HB.out)) hb)
        clear BK438
        clear BK439
        clear BK440
        clear HB
        have BK438 := n0_
        have BK439 := n1_
        have BK440 := n2_
        have HB := n3_
        clear n0_ n1_ n2_ n3_
        (try clear hb)
        (try clear hb2)
        (try clear hk)
        (try clear hi)
        refine hK.out _ _ ⟨(blk_cell BK438.out 0).trans rfl, (blk_cell BK438.out 1).trans rfl, (blk_cell BK438.out 2).trans rfl⟩ (fun hHeld => ?_)
        clear hK K
        refine norm_ (a' := ?_) ?_ ?_
        rotate_left
        · show Act.put _ (some 33) _ = _
          simp only [Act.put, List.setIfInBounds_toArray, List.set_cons_zero, List.set_cons_succ]; (try simp only [i64_w]); (try simp only [i32_w])
          rfl
        refine one_ (i := 7) (N := some 34) #[true, true, true, true, true, true, true, true, false] rfl rfl (one_of HT_.out (by kernel_rfl)) (by decide) (fun K hK => ?_)
        refine goes_ Tryd.func56 (by kernel_rfl) rfl #[.agg #[.bool t444, .string t445, .int .i64 t446]] (by rfl) rfl rfl (by (try simp only [List.map_toArray]); (try simp only [List.map_cons]); (try simp only [List.map_nil]); first | done | rfl | (simp only [List.length_drop, List.length_take]; rfl)) ?_
        with_reducible refine (figureheadref05_plain.calls t444 t445 t446 t447 t448 t449 _ A21.out).mono ?_
        rintro e w33 ⟨rfl, hb⟩
        refine ⟨_, rfl, ?_⟩
        have n0_ := Aside0.mk (blk_below (g := gb438) (o := .cells #[.bool a0_0, .string a0_1, .int .i64 a0_2] 23 (0, 0)) (by (with_reducible repeat (first | refine blk_drewN ?_ _ | refine blk_drew ?_ | refine blk_alloc ?_ _)); exact BK438.out) hb)
        have n1_ := Aside0.mk (blk_below (g := gb439) (o := .cells #[.bool a1_0, .string a1_1, .int .i64 a1_2] 23 (0, 0)) (by (with_reducible repeat (first | refine blk_drewN ?_ _ | refine blk_drew ?_ | refine blk_alloc ?_ _)); exact BK439.out) hb)
        have n2_ := Aside0.mk (blk_below (g := gb440) (o := .cells #[.bool false, .string (⟨#[]⟩ : ByteArray), .int .i64 0] 23 (0, 0)) (by (with_reducible repeat (first | refine blk_drewN ?_ _ | refine blk_drew ?_ | refine blk_alloc ?_ _)); exact BK440.out) hb)
        have n3_ := Aside0.mk (below_step (by repeat (first | (with_reducible first | exact HB.out | apply below_alloc | apply pw_below_drewN | apply below_drew1 | refine below_set ?_ GE438.out | refine below_set ?_ GE439.out | refine below_set ?_ GE440.out) | exact HB.out)) hb)
        clear BK438
        clear BK439
        clear BK440
        clear HB
        have BK438 := n0_
        have BK439 := n1_
        have BK440 := n2_
        have HB := n3_
        clear n0_ n1_ n2_ n3_
        (try clear hb)
        (try clear hb2)
        (try clear hk)
        (try clear hi)
        refine hK.out _ _ ⟨(blk_cell BK438.out 0).trans rfl, (blk_cell BK438.out 1).trans rfl, (blk_cell BK438.out 2).trans rfl⟩ (fun hHeld => ?_)
        clear hK K
        refine norm_ (a' := ?_) ?_ ?_
        rotate_left
        · show Act.put _ (some 34) _ = _
          simp only [Act.put, List.setIfInBounds_toArray, List.set_cons_zero, List.set_cons_succ]; (try simp only [i64_w]); (try simp only [i32_w])
          rfl
        refine one_ (i := 8) (N := none) #[true, true, true, true, true, true, true, true, true] rfl rfl (one_of HT_.out (by kernel_rfl)) (by decide) (fun K hK => ?_)
        have hs34 : w33.cell? ⟨gb440, 0, none⟩ = some (.bool false) := (blk_cell BK440.out 0).trans rfl
        have hfs34 := blk_frozen BK440.out 0
        have hns34_0 := NB438_440.out
        have hns34_1 := NB439_440.out
        have hms34_0 := NB440_438.out
        have hms34_1 := NB440_439.out
        have hs35 : w33.cell? ⟨gb440, 1, none⟩ = some (.string (⟨#[]⟩ : ByteArray)) := (blk_cell BK440.out 1).trans rfl
        have hfs35 := blk_frozen BK440.out 1
        have hns35_0 := NB438_440.out
        have hns35_1 := NB439_440.out
        have hms35_0 := NB440_438.out
        have hms35_1 := NB440_439.out
        have hs36 : w33.cell? ⟨gb440, 2, none⟩ = some (.int .i64 0) := (blk_cell BK440.out 2).trans rfl
        have hfs36 := blk_frozen BK440.out 2
        have hns36_0 := NB438_440.out
        have hns36_1 := NB439_440.out
        have hms36_0 := NB440_438.out
        have hms36_1 := NB440_439.out
        refine skip_ (w1 := ?_) (by rfl) rfl ?_ ?_
        rotate_left
        · go_simp
          rfl
        refine hK.out _ _ ⟨((cell_far (p := ⟨gb440, _, none⟩) NB438_440.out _).trans (((cell_far (p := ⟨gb440, _, none⟩) NB438_440.out _).trans (((cell_far (p := ⟨gb440, _, none⟩) NB438_440.out _).trans (hHeld.1)))))), ((cell_far (p := ⟨gb440, _, none⟩) NB438_440.out _).trans (((cell_far (p := ⟨gb440, _, none⟩) NB438_440.out _).trans (((cell_far (p := ⟨gb440, _, none⟩) NB438_440.out _).trans (hHeld.2.1)))))), ((cell_far (p := ⟨gb440, _, none⟩) NB438_440.out _).trans (((cell_far (p := ⟨gb440, _, none⟩) NB438_440.out _).trans (((cell_far (p := ⟨gb440, _, none⟩) NB438_440.out _).trans (hHeld.2.2))))))⟩ (fun hHeld => ?_)
        clear hK K
        refine done_ (done_of HT_.out (by kernel_rfl)) ?_
        try go_wp2
        refine bodyPost_ret (results_cell_row rfl _ _ gb440 23 #[.bool t447, .string t448, .int .i64 t449] (0, 0) _ rfl (by (with_reducible repeat (first | refine blk_drewN ?_ _ | refine blk_drew ?_ | refine blk_alloc ?_ _)); refine blk_put (cs := #[.bool t447, .string t448, .int .i64 0]) ?_ 2 _ rfl; (with_reducible repeat (first | refine blk_drewN ?_ _ | refine blk_drew ?_ | refine blk_alloc ?_ _)); refine blk_put (cs := #[.bool t447, .string (⟨#[]⟩ : ByteArray), .int .i64 0]) ?_ 1 _ rfl; (with_reducible repeat (first | refine blk_drewN ?_ _ | refine blk_drew ?_ | refine blk_alloc ?_ _)); refine blk_put (cs := #[.bool false, .string (⟨#[]⟩ : ByteArray), .int .i64 0]) ?_ 0 _ rfl; (with_reducible repeat (first | refine blk_drewN ?_ _ | refine blk_drew ?_ | refine blk_alloc ?_ _)); exact BK440.out) Tryd.underlying23 rfl (by kernel_rfl)) rfl ?_
        exact ⟨by first | rfl | (simp [errW_none, errW_some] <;> rfl) | (simp [*, errW_none, errW_some] <;> rfl), by repeat (first | (with_reducible first | exact HB.out | apply below_alloc | apply pw_below_drewN | apply below_drew1 | refine below_set ?_ GE438.out | refine below_set ?_ GE439.out | refine below_set ?_ GE440.out) | exact HB.out)⟩
      · rw [if_neg c18] at H
        have c18b0 : (a0_0 == a1_0) = false := by simpa using c18
        (try (have c18b1 : decide (a0_0 = a1_0) = false := by simpa using c18))
        (try (have c18b2 : (a0_0 == a1_0) = false := by simpa using c18))
        (try (have c18b3 : ¬ (a0_0 = a1_0) := by simpa using c18))
        clear c18
        replace H := Option.bind_eq_some_iff.mp H
        obtain ⟨t450, A370, H⟩ := H
        replace H : (if t450 = true then ((figureheadref01_Minus.f kj2 t442 t441).bind fun t451 => ((figureheadref05_Make.f kj2 a1_0 t451 x5_2).bind fun bt452 => ((figureheadref05_plain.f bt452.1 bt452.2.1 bt452.2.2).bind fun bt455 => (some (bt455.1, bt455.2.1, bt455.2.2))))) else ((figureheadref01_Minus.f kj2 t441 t442).bind fun t458 => ((figureheadref05_Make.f kj2 a0_0 t458 x5_2).bind fun bt459 => ((figureheadref05_plain.f bt459.1 bt459.2.1 bt459.2.2).bind fun bt462 => (some (bt462.1, bt462.2.1, bt462.2.2)))))) = some (r1, r2, r3) := H
        have A37 := Aside0.mk A370
        clear A370
        by_cases c38 : t450 = true
        · subst c38
          have H1 : ((figureheadref01_Minus.f kj2 t442 t441).bind fun t451 => ((figureheadref05_Make.f kj2 a1_0 t451 x5_2).bind fun bt452 => ((figureheadref05_plain.f bt452.1 bt452.2.1 bt452.2.2).bind fun bt455 => (some (bt455.1, bt455.2.1, bt455.2.2))))) = some (r1, r2, r3) := by rw [if_pos rfl] at H; exact H
          clear H
          have H := H1
          clear H1
          replace H := Option.bind_eq_some_iff.mp H
          obtain ⟨t451, A390, H⟩ := H
          replace H : ((figureheadref05_Make.f kj2 a1_0 t451 x5_2).bind fun bt452 => ((figureheadref05_plain.f bt452.1 bt452.2.1 bt452.2.2).bind fun bt455 => (some (bt455.1, bt455.2.1, bt455.2.2)))) = some (r1, r2, r3) := H
          have A39 := Aside0.mk A390
          clear A390
          replace H := Option.bind_eq_some_iff.mp H
          obtain ⟨⟨t452, t453, t454⟩, A400, H⟩ := H
          replace H : ((figureheadref05_plain.f t452 t453 t454).bind fun bt455 => (some (bt455.1, bt455.2.1, bt455.2.2))) = some (r1, r2, r3) := H
          have A40 := Aside0.mk A400
          clear A400
          replace H := Option.bind_eq_some_iff.mp H
          obtain ⟨⟨t455, t456, t457⟩, A410, H⟩ := H
          replace H : (some (t455, t456, t457)) = some (r1, r2, r3) := H
          have A41 := Aside0.mk A410
          clear A410
          simp only [Option.some.injEq, Prod.mk.injEq] at H
          obtain ⟨rfl, rfl, rfl⟩ := H
          try go_wp2
          have n0_ := Aside0.mk (blk_drew BK438.out)
          have n1_ := Aside0.mk (blk_drew BK439.out)
          have n2_ := Aside0.mk (blk_drew BK440.out)
          have n3_ := Aside0.mk (below_drew1 HB.out)
          clear BK438
          clear BK439
          clear BK440
          clear HB
          have BK438 := n0_
          have BK439 := n1_
          have BK440 := n2_
          have HB := n3_
          clear n0_ n1_ n2_ n3_
          refine start_ (n := 8) (S := fun w' => w'.cell? ⟨gb438, 0, none⟩ = some (.bool a0_0) ∧ w'.cell? ⟨gb438, 1, none⟩ = some (.string a0_1) ∧ w'.cell? ⟨gb438, 2, none⟩ = some (.int .i64 a0_2) ∧ w'.cell? ⟨gb439, 0, none⟩ = some (.bool a1_0) ∧ w'.cell? ⟨gb439, 1, none⟩ = some (.string a1_1) ∧ w'.cell? ⟨gb439, 2, none⟩ = some (.int .i64 a1_2)) (ds := []) #[false, false, false, false, false, false, false, false] (by kernel_rfl) rfl rfl ⟨(blk_cell BK438.out 0).trans rfl, (blk_cell BK438.out 1).trans rfl, (blk_cell BK438.out 2).trans rfl, (blk_cell BK439.out 0).trans rfl, (blk_cell BK439.out 1).trans rfl, (blk_cell BK439.out 2).trans rfl⟩ (fun hHeld => ?_); refine with_tabW figureheadref05_Sum.tab4 figureheadref05_Sum.bits4 (fun HT_ HW_ => ?_)
          generalize wc.drew = w42 at BK438 BK439 BK440 HB hHeld ⊢
          refine pure_ (i := 1) (N := some 17) (v := ?_) (a' := ?_) #[false, true, false, false, false, false, false, false] rfl rfl (any_of HT_.out (by kernel_rfl)) (fun _ _ _ h => h) (Or.inl ⟨by rfl, ?_⟩) ?_ ?_
          rotate_left
          · intro w'
            go_simp
            with_reducible rfl
          rotate_left
          · simp only [Act.put, List.setIfInBounds_toArray, List.set_cons_zero, List.set_cons_succ]; (try simp only [i64_w]); (try simp only [i32_w])
            rfl
          refine pure_ (i := 4) (N := some 20) (v := ?_) (a' := ?_) #[false, true, false, false, true, false, false, false] rfl rfl (any_of HT_.out (by kernel_rfl)) (fun _ _ _ h => h) (Or.inl ⟨by rfl, ?_⟩) ?_ ?_
          rotate_left
          · intro w'
            go_simp
            with_reducible rfl
          rotate_left
          · simp only [Act.put, List.setIfInBounds_toArray, List.set_cons_zero, List.set_cons_succ]; (try simp only [i64_w]); (try simp only [i32_w])
            rfl
          refine take_ (i := 0) (N := some 16) (v := ?_) (a' := ?_) #[true, true, false, false, true, false, false, false] rfl rfl (take_ofW HT_.out HW_.out (by kernel_rfl)) (fun _ _ _ h => h) (Or.inl ⟨by rfl, ?_⟩) hHeld ?_ ?_
          rotate_left
          · rintro w' ⟨s0, s1, s2, s3, s4, s5⟩
            go_simp
            with_reducible rfl
          rotate_left
          · simp only [Act.put, List.setIfInBounds_toArray, List.set_cons_zero, List.set_cons_succ]; (try simp only [i64_w]); (try simp only [i32_w])
            rfl
          refine take_ (i := 3) (N := some 19) (v := ?_) (a' := ?_) #[true, true, false, true, true, false, false, false] rfl rfl (take_ofW HT_.out HW_.out (by kernel_rfl)) (fun _ _ _ h => h) (Or.inl ⟨by rfl, ?_⟩) hHeld ?_ ?_
          rotate_left
          · rintro w' ⟨s0, s1, s2, s3, s4, s5⟩
            go_simp
            with_reducible rfl
          rotate_left
          · simp only [Act.put, List.setIfInBounds_toArray, List.set_cons_zero, List.set_cons_succ]; (try simp only [i64_w]); (try simp only [i32_w])
            rfl
          refine one_ (i := 2) (N := some 18) #[true, true, true, true, true, false, false, false] rfl rfl (one_of HT_.out (by kernel_rfl)) (by decide) (fun K hK => ?_)
          refine goes_ Tryd.func49 (by kernel_rfl) rfl #[.agg #[.bool a0_0, .string a0_1, .int .i64 a0_2], .int .i64 x5_2] (by rfl) rfl rfl (by (try simp only [List.map_toArray]); (try simp only [List.map_cons]); (try simp only [List.map_nil]); first | done | rfl | (simp only [List.length_drop, List.length_take]; rfl)) ?_
          with_reducible refine (figureheadref05_At.calls kj2 a0_0 a0_1 a0_2 x5_2 t441 _ A16.out).mono ?_
          rintro e w43 ⟨rfl, hb⟩
          refine ⟨_, rfl, ?_⟩
          have n0_ := Aside0.mk (blk_below (g := gb438) (o := .cells #[.bool a0_0, .string a0_1, .int .i64 a0_2] 23 (0, 0)) (by (with_reducible repeat (first | refine blk_drewN ?_ _ | refine blk_drew ?_ | refine blk_alloc ?_ _)); exact BK438.out) hb)
          have n1_ := Aside0.mk (blk_below (g := gb439) (o := .cells #[.bool a1_0, .string a1_1, .int .i64 a1_2] 23 (0, 0)) (by (with_reducible repeat (first | refine blk_drewN ?_ _ | refine blk_drew ?_ | refine blk_alloc ?_ _)); exact BK439.out) hb)
          have n2_ := Aside0.mk (blk_below (g := gb440) (o := .cells #[.bool false, .string (⟨#[]⟩ : ByteArray), .int .i64 0] 23 (0, 0)) (by (with_reducible repeat (first | refine blk_drewN ?_ _ | refine blk_drew ?_ | refine blk_alloc ?_ _)); exact BK440.out) hb)
          have n3_ := Aside0.mk (below_step (by repeat (first | (with_reducible first | exact HB.out | apply below_alloc | apply pw_below_drewN | apply below_drew1 | refine below_set ?_ GE438.out | refine below_set ?_ GE439.out | refine below_set ?_ GE440.out) | exact HB.out)) hb)
          clear BK438
          clear BK439
          clear BK440
          clear HB
          have BK438 := n0_
          have BK439 := n1_
          have BK440 := n2_
          have HB := n3_
          clear n0_ n1_ n2_ n3_
          (try clear hb)
          (try clear hb2)
          (try clear hk)
          (try clear hi)
          refine hK.out _ _ ⟨(blk_cell BK438.out 0).trans rfl, (blk_cell BK438.out 1).trans rfl, (blk_cell BK438.out 2).trans rfl, (blk_cell BK439.out 0).trans rfl, (blk_cell BK439.out 1).trans rfl, (blk_cell BK439.out 2).trans rfl⟩ (fun hHeld => ?_)
          clear hK K
          refine norm_ (a' := ?_) ?_ ?_
          rotate_left
          · show Act.put _ (some 18) _ = _
            simp only [Act.put, List.setIfInBounds_toArray, List.set_cons_zero, List.set_cons_succ]; (try simp only [i64_w]); (try simp only [i32_w])
            rfl
          refine one_ (i := 5) (N := some 21) #[true, true, true, true, true, true, false, false] rfl rfl (one_of HT_.out (by kernel_rfl)) (by decide) (fun K hK => ?_)
          refine goes_ Tryd.func49 (by kernel_rfl) rfl #[.agg #[.bool a1_0, .string a1_1, .int .i64 a1_2], .int .i64 x5_2] (by rfl) rfl rfl (by (try simp only [List.map_toArray]); (try simp only [List.map_cons]); (try simp only [List.map_nil]); first | done | rfl | (simp only [List.length_drop, List.length_take]; rfl)) ?_
          with_reducible refine (figureheadref05_At.calls kj2 a1_0 a1_1 a1_2 x5_2 t442 _ A17.out).mono ?_
          rintro e w44 ⟨rfl, hb⟩
          refine ⟨_, rfl, ?_⟩
          have n0_ := Aside0.mk (blk_below (g := gb438) (o := .cells #[.bool a0_0, .string a0_1, .int .i64 a0_2] 23 (0, 0)) (by (with_reducible repeat (first | refine blk_drewN ?_ _ | refine blk_drew ?_ | refine blk_alloc ?_ _)); exact BK438.out) hb)
          have n1_ := Aside0.mk (blk_below (g := gb439) (o := .cells #[.bool a1_0, .string a1_1, .int .i64 a1_2] 23 (0, 0)) (by (with_reducible repeat (first | refine blk_drewN ?_ _ | refine blk_drew ?_ | refine blk_alloc ?_ _)); exact BK439.out) hb)
          have n2_ := Aside0.mk (blk_below (g := gb440) (o := .cells #[.bool false, .string (⟨#[]⟩ : ByteArray), .int .i64 0] 23 (0, 0)) (by (with_reducible repeat (first | refine blk_drewN ?_ _ | refine blk_drew ?_ | refine blk_alloc ?_ _)); exact BK440.out) hb)
          have n3_ := Aside0.mk (below_step (by repeat (first | (with_reducible first | exact HB.out | apply below_alloc | apply pw_below_drewN | apply below_drew1 | refine below_set ?_ GE438.out | refine below_set ?_ GE439.out | refine below_set ?_ GE440.out) | exact HB.out)) hb)
          clear BK438
          clear BK439
          clear BK440
          clear HB
          have BK438 := n0_
          have BK439 := n1_
          have BK440 := n2_
          have HB := n3_
          clear n0_ n1_ n2_ n3_
          (try clear hb)
          (try clear hb2)
          (try clear hk)
          (try clear hi)
          refine hK.out _ _ ⟨(blk_cell BK438.out 0).trans rfl, (blk_cell BK438.out 1).trans rfl, (blk_cell BK438.out 2).trans rfl, (blk_cell BK439.out 0).trans rfl, (blk_cell BK439.out 1).trans rfl, (blk_cell BK439.out 2).trans rfl⟩ (fun hHeld => ?_)
          clear hK K
          refine norm_ (a' := ?_) ?_ ?_
          rotate_left
          · show Act.put _ (some 21) _ = _
            simp only [Act.put, List.setIfInBounds_toArray, List.set_cons_zero, List.set_cons_succ]; (try simp only [i64_w]); (try simp only [i32_w])
            rfl
          refine pure_ (i := 6) (N := some 6) (v := ?_) (a' := ?_) #[true, true, true, true, true, true, true, false] rfl rfl (any_of HT_.out (by kernel_rfl)) (fun _ _ _ h => h) (Or.inl ⟨by rfl, ?_⟩) ?_ ?_
          rotate_left
          · intro w'
            go_simp
            with_reducible rfl
          rotate_left
          · simp only [Act.put, List.setIfInBounds_toArray, List.set_cons_zero, List.set_cons_succ]; (try simp only [i64_w]); (try simp only [i32_w])
            rfl
          refine pure_ (i := 7) (N := some 7) (v := ?_) (a' := ?_) #[true, true, true, true, true, true, true, true] rfl rfl (any_of HT_.out (by kernel_rfl)) (fun _ _ _ h => h) (Or.inl ⟨by rfl, ?_⟩) ?_ ?_
          rotate_left
          · intro w'
            go_simp
            with_reducible rfl
          rotate_left
          · simp only [Act.put, List.setIfInBounds_toArray, List.set_cons_zero, List.set_cons_succ]; (try simp only [i64_w]); (try simp only [i32_w])
            rfl
          refine done_ (done_of HT_.out (by kernel_rfl)) ?_
          have hnb45 := NB438_439.out
          have hnc45 := NB439_438.out
          have hnb46 := NB438_440.out
          have hnc46 := NB440_438.out
          have hcz47_0 : w44.cell? ⟨gb438, 0, none⟩ = some (.bool a0_0) := (blk_cell BK438.out 0).trans rfl
          have hcz47_1 : w44.cell? ⟨gb438, 1, none⟩ = some (.string a0_1) := (blk_cell BK438.out 1).trans rfl
          have hcz47_2 : w44.cell? ⟨gb438, 2, none⟩ = some (.int .i64 a0_2) := (blk_cell BK438.out 2).trans rfl
          have hfz47_0 := blk_frozen BK438.out 0
          have hfz47_1 := blk_frozen BK438.out 1
          have hfz47_2 := blk_frozen BK438.out 2
          have hnb48 := NB439_440.out
          have hnc48 := NB440_439.out
          have hcz49_0 : w44.cell? ⟨gb439, 0, none⟩ = some (.bool a1_0) := (blk_cell BK439.out 0).trans rfl
          have hcz49_1 : w44.cell? ⟨gb439, 1, none⟩ = some (.string a1_1) := (blk_cell BK439.out 1).trans rfl
          have hcz49_2 : w44.cell? ⟨gb439, 2, none⟩ = some (.int .i64 a1_2) := (blk_cell BK439.out 2).trans rfl
          have hfz49_0 := blk_frozen BK439.out 0
          have hfz49_1 := blk_frozen BK439.out 1
          have hfz49_2 := blk_frozen BK439.out 2
          try go_wp2_with (first | ((with_reducible refine gate_callee (f := 50) rfl ?_); refine goesL_ (some 37) rfl rfl Tryd.func50 (by kernel_rfl) rfl #[.string t441, .string t442] rfl (by (try simp only [List.map_toArray]); (try simp only [List.map_cons]); (try simp only [List.map_nil]); first | done | rfl | (simp only [List.length_drop, List.length_take]; rfl)) ?_; (with_reducible refine (figureheadref01_Less.calls t441 t442 true _ A37.out).mono ?_); rintro e w' ⟨rfl, ⟨nd, rfl⟩⟩; refine ⟨_, rfl, ?_⟩; (try (rw [drewN_self w44]; generalize hq_ : World.drewN w44 _ = w44; have n0_ : Aside0 (w44.heap[gb438]? = some (.cells #[.bool a0_0, .string a0_1, .int .i64 a0_2] 23 (0, 0))) := ⟨by rw [← hq_]; exact (by (with_reducible repeat (first | refine blk_drewN ?_ _ | refine blk_drew ?_ | refine blk_alloc ?_ _)); exact BK438.out)⟩; have n1_ : Aside0 (w44.heap[gb439]? = some (.cells #[.bool a1_0, .string a1_1, .int .i64 a1_2] 23 (0, 0))) := ⟨by rw [← hq_]; exact (by (with_reducible repeat (first | refine blk_drewN ?_ _ | refine blk_drew ?_ | refine blk_alloc ?_ _)); exact BK439.out)⟩; have n2_ : Aside0 (w44.heap[gb440]? = some (.cells #[.bool false, .string (⟨#[]⟩ : ByteArray), .int .i64 0] 23 (0, 0))) := ⟨by rw [← hq_]; exact (by (with_reducible repeat (first | refine blk_drewN ?_ _ | refine blk_drew ?_ | refine blk_alloc ?_ _)); exact BK440.out)⟩; have n3_ : Aside0 (Below w.heap.size w w44) := ⟨by rw [← hq_]; exact (by repeat (first | (with_reducible first | exact HB.out | apply below_alloc | apply pw_below_drewN | apply below_drew1 | refine below_set ?_ GE438.out | refine below_set ?_ GE439.out | refine below_set ?_ GE440.out) | exact HB.out))⟩; clear BK438 BK439 BK440 HB hq_; have BK438 := n0_; have BK439 := n1_; have BK440 := n2_; have HB := n3_; clear n0_ n1_ n2_ n3_)); (try (have hcz9003_0 : w44.cell? ⟨gb438, 0, none⟩ = some (.bool a0_0) := (blk_cell BK438.out 0).trans rfl)); (try (have hcz9003_1 : w44.cell? ⟨gb438, 1, none⟩ = some (.string a0_1) := (blk_cell BK438.out 1).trans rfl)); (try (have hcz9003_2 : w44.cell? ⟨gb438, 2, none⟩ = some (.int .i64 a0_2) := (blk_cell BK438.out 2).trans rfl)); (try (have hfz9003_0 := blk_frozen BK438.out 0)); (try (have hfz9003_1 := blk_frozen BK438.out 1)); (try (have hfz9003_2 := blk_frozen BK438.out 2)); (try (have hcz9004_0 : w44.cell? ⟨gb439, 0, none⟩ = some (.bool a1_0) := (blk_cell BK439.out 0).trans rfl)); (try (have hcz9004_1 : w44.cell? ⟨gb439, 1, none⟩ = some (.string a1_1) := (blk_cell BK439.out 1).trans rfl)); (try (have hcz9004_2 : w44.cell? ⟨gb439, 2, none⟩ = some (.int .i64 a1_2) := (blk_cell BK439.out 2).trans rfl)); (try (have hfz9004_0 := blk_frozen BK439.out 0)); (try (have hfz9004_1 := blk_frozen BK439.out 1)); (try (have hfz9004_2 := blk_frozen BK439.out 2)); (try (have hcz9005_0 : w44.cell? ⟨gb440, 0, none⟩ = some (.bool false) := (blk_cell BK440.out 0).trans rfl)); (try (have hcz9005_1 : w44.cell? ⟨gb440, 1, none⟩ = some (.string (⟨#[]⟩ : ByteArray)) := (blk_cell BK440.out 1).trans rfl)); (try (have hcz9005_2 : w44.cell? ⟨gb440, 2, none⟩ = some (.int .i64 0) := (blk_cell BK440.out 2).trans rfl)); (try (have hfz9005_0 := blk_frozen BK440.out 0)); (try (have hfz9005_1 := blk_frozen BK440.out 1)); (try (have hfz9005_2 := blk_frozen BK440.out 2))))
          have n0_ := Aside0.mk (blk_drew BK438.out)
          have n1_ := Aside0.mk (blk_drew BK439.out)
          have n2_ := Aside0.mk (blk_drew BK440.out)
          have n3_ := Aside0.mk (below_drew1 HB.out)
          clear BK438
          clear BK439
          clear BK440
          clear HB
          have BK438 := n0_
          have BK439 := n1_
          have BK440 := n2_
          have HB := n3_
          clear n0_ n1_ n2_ n3_
          refine start_ (n := 9) (S := fun w' => w'.cell? ⟨gb439, 0, none⟩ = some (.bool a1_0) ∧ w'.cell? ⟨gb439, 1, none⟩ = some (.string a1_1) ∧ w'.cell? ⟨gb439, 2, none⟩ = some (.int .i64 a1_2)) (ds := []) #[false, false, false, false, false, false, false, false, false] (by kernel_rfl) rfl rfl ⟨(blk_cell BK439.out 0).trans rfl, (blk_cell BK439.out 1).trans rfl, (blk_cell BK439.out 2).trans rfl⟩ (fun hHeld => ?_); refine with_tabW figureheadref05_Sum.tab8 figureheadref05_Sum.bits8 (fun HT_ HW_ => ?_)
          generalize w44.drew = w50 at BK438 BK439 BK440 HB hHeld ⊢
          refine pure_ (i := 0) (N := some 38) (v := ?_) (a' := ?_) #[true, false, false, false, false, false, false, false, false] rfl rfl (any_of HT_.out (by kernel_rfl)) (fun _ _ _ h => h) (Or.inl ⟨by rfl, ?_⟩) ?_ ?_
          rotate_left
          · intro w'
            go_simp
            with_reducible rfl
          rotate_left
          · simp only [Act.put, List.setIfInBounds_toArray, List.set_cons_zero, List.set_cons_succ]; (try simp only [i64_w]); (try simp only [i32_w])
            rfl
          refine pure_ (i := 2) (N := some 40) (v := ?_) (a' := ?_) #[true, false, true, false, false, false, false, false, false] rfl rfl (any_of HT_.out (by kernel_rfl)) (fun _ _ _ h => h) (Or.inl ⟨by rfl, ?_⟩) ?_ ?_
          rotate_left
          · intro w'
            go_simp
            with_reducible rfl
          rotate_left
          · simp only [Act.put, List.setIfInBounds_toArray, List.set_cons_zero, List.set_cons_succ]; (try simp only [i64_w]); (try simp only [i32_w])
            rfl
          refine pure_ (i := 3) (N := some 41) (v := ?_) (a' := ?_) #[true, false, true, true, false, false, false, false, false] rfl rfl (any_of HT_.out (by kernel_rfl)) (fun _ _ _ h => h) (Or.inl ⟨by rfl, ?_⟩) ?_ ?_
          rotate_left
          · intro w'
            go_simp
            with_reducible rfl
          rotate_left
          · simp only [Act.put, List.setIfInBounds_toArray, List.set_cons_zero, List.set_cons_succ]; (try simp only [i64_w]); (try simp only [i32_w])
            rfl
          refine pure_ (i := 5) (N := some 43) (v := ?_) (a' := ?_) #[true, false, true, true, false, true, false, false, false] rfl rfl (any_of HT_.out (by kernel_rfl)) (fun _ _ _ h => h) (Or.inl ⟨by rfl, ?_⟩) ?_ ?_
          rotate_left
          · intro w'
            go_simp
            with_reducible rfl
          rotate_left
          · simp only [Act.put, List.setIfInBounds_toArray, List.set_cons_zero, List.set_cons_succ]; (try simp only [i64_w]); (try simp only [i32_w])
            rfl
          refine take_ (i := 1) (N := some 39) (v := ?_) (a' := ?_) #[true, true, true, true, false, true, false, false, false] rfl rfl (take_ofW HT_.out HW_.out (by kernel_rfl)) (fun _ _ _ h => h) (Or.inl ⟨by rfl, ?_⟩) hHeld ?_ ?_
          rotate_left
          · rintro w' ⟨s0, s1, s2⟩
            go_simp
            with_reducible rfl
          rotate_left
          · simp only [Act.put, List.setIfInBounds_toArray, List.set_cons_zero, List.set_cons_succ]; (try simp only [i64_w]); (try simp only [i32_w])
            rfl
          refine one_ (i := 4) (N := some 42) #[true, true, true, true, true, true, false, false, false] rfl rfl (one_of HT_.out (by kernel_rfl)) (by decide) (fun K hK => ?_)
          refine goes_ Tryd.func59 (by kernel_rfl) rfl #[.string t442, .string t441] (by rfl) rfl rfl (by (try simp only [List.map_toArray]); (try simp only [List.map_cons]); (try simp only [List.map_nil]); first | done | rfl | (simp only [List.length_drop, List.length_take]; rfl)) ?_
          with_reducible refine (figureheadref01_Minus.calls kj2 t442 t441 t451 _ A39.out).mono ?_
          rintro e w51 ⟨rfl, hb⟩
          refine ⟨_, rfl, ?_⟩
          have n0_ := Aside0.mk (blk_below (g := gb438) (o := .cells #[.bool a0_0, .string a0_1, .int .i64 a0_2] 23 (0, 0)) (by (with_reducible repeat (first | refine blk_drewN ?_ _ | refine blk_drew ?_ | refine blk_alloc ?_ _)); exact BK438.out) hb)
          have n1_ := Aside0.mk (blk_below (g := gb439) (o := .cells #[.bool a1_0, .string a1_1, .int .i64 a1_2] 23 (0, 0)) (by (with_reducible repeat (first | refine blk_drewN ?_ _ | refine blk_drew ?_ | refine blk_alloc ?_ _)); exact BK439.out) hb)
          have n2_ := Aside0.mk (blk_below (g := gb440) (o := .cells #[.bool false, .string (⟨#[]⟩ : ByteArray), .int .i64 0] 23 (0, 0)) (by (with_reducible repeat (first | refine blk_drewN ?_ _ | refine blk_drew ?_ | refine blk_alloc ?_ _)); exact BK440.out) hb)
          have n3_ := Aside0.mk (below_step (by repeat (first | (with_reducible first | exact HB.out | apply below_alloc | apply pw_below_drewN | apply below_drew1 | refine below_set ?_ GE438.out | refine below_set ?_ GE439.out | refine below_set ?_ GE440.out) | exact HB.out)) hb)
          clear BK438
          clear BK439
          clear BK440
          clear HB
          have BK438 := n0_
          have BK439 := n1_
          have BK440 := n2_
          have HB := n3_
          clear n0_ n1_ n2_ n3_
          (try clear hb)
          (try clear hb2)
          (try clear hk)
          (try clear hi)
          refine hK.out _ _ ⟨(blk_cell BK439.out 0).trans rfl, (blk_cell BK439.out 1).trans rfl, (blk_cell BK439.out 2).trans rfl⟩ (fun hHeld => ?_)
          clear hK K
          refine norm_ (a' := ?_) ?_ ?_
          rotate_left
          · show Act.put _ (some 42) _ = _
            simp only [Act.put, List.setIfInBounds_toArray, List.set_cons_zero, List.set_cons_succ]; (try simp only [i64_w]); (try simp only [i32_w])
            rfl
          refine one_ (i := 6) (N := some 44) #[true, true, true, true, true, true, true, false, false] rfl rfl (one_of HT_.out (by kernel_rfl)) (by decide) (fun K hK => ?_)
          refine goes_ Tryd.func57 (by kernel_rfl) rfl #[.bool a1_0, .string t451, .int .i64 x5_2] (by rfl) rfl rfl (by (try simp only [List.map_toArray]); (try simp only [List.map_cons]); (try simp only [List.map_nil]); first | done | rfl | (simp only [List.length_drop, List.length_take]; rfl)) ?_
          with_reducible refine (figureheadref05_Make.calls kj2 a1_0 t451 x5_2 t452 t453 t454 _ A40.out).mono ?_
          rintro e w52 ⟨rfl, hb⟩
          refine ⟨_, rfl, ?_⟩
          have n0_ := Aside0.mk (blk_below (g := gb438) (o := .cells #[.bool a0_0, .string a0_1, .int .i64 a0_2] 23 (0, 0)) (by (with_reducible repeat (first | refine blk_drewN ?_ _ | refine blk_drew ?_ | refine blk_alloc ?_ _)); exact BK438.out) hb)
          have n1_ := Aside0.mk (blk_below (g := gb439) (o := .cells #[.bool a1_0, .string a1_1, .int .i64 a1_2] 23 (0, 0)) (by (with_reducible repeat (first | refine blk_drewN ?_ _ | refine blk_drew ?_ | refine blk_alloc ?_ _)); exact BK439.out) hb)
          have n2_ := Aside0.mk (blk_below (g := gb440) (o := .cells #[.bool false, .string (⟨#[]⟩ : ByteArray), .int .i64 0] 23 (0, 0)) (by (with_reducible repeat (first | refine blk_drewN ?_ _ | refine blk_drew ?_ | refine blk_alloc ?_ _)); exact BK440.out) hb)
          have n3_ := Aside0.mk (below_step (by repeat (first | (with_reducible first | exact HB.out | apply below_alloc | apply pw_below_drewN | apply below_drew1 | refine below_set ?_ GE438.out | refine below_set ?_ GE439.out | refine below_set ?_ GE440.out) | exact HB.out)) hb)
          clear BK438
          clear BK439
          clear BK440
          clear HB
          have BK438 := n0_
          have BK439 := n1_
          have BK440 := n2_
          have HB := n3_
          clear n0_ n1_ n2_ n3_
          (try clear hb)
          (try clear hb2)
          (try clear hk)
          (try clear hi)
          refine hK.out _ _ ⟨(blk_cell BK439.out 0).trans rfl, (blk_cell BK439.out 1).trans rfl, (blk_cell BK439.out 2).trans rfl⟩ (fun hHeld => ?_)
          clear hK K
          refine norm_ (a' := ?_) ?_ ?_
          rotate_left
          · show Act.put _ (some 44) _ = _
            simp only [Act.put, List.setIfInBounds_toArray, List.set_cons_zero, List.set_cons_succ]; (try simp only [i64_w]); (try simp only [i32_w])
            rfl
          refine one_ (i := 7) (N := some 45) #[true, true, true, true, true, true, true, true, false] rfl rfl (one_of HT_.out (by kernel_rfl)) (by decide) (fun K hK => ?_)
          refine goes_ Tryd.func56 (by kernel_rfl) rfl #[.agg #[.bool t452, .string t453, .int .i64 t454]] (by rfl) rfl rfl (by (try simp only [List.map_toArray]); (try simp only [List.map_cons]); (try simp only [List.map_nil]); first | done | rfl | (simp only [List.length_drop, List.length_take]; rfl)) ?_
          with_reducible refine (figureheadref05_plain.calls t452 t453 t454 t455 t456 t457 _ A41.out).mono ?_
          rintro e w53 ⟨rfl, hb⟩
          refine ⟨_, rfl, ?_⟩
          have n0_ := Aside0.mk (blk_below (g := gb438) (o := .cells #[.bool a0_0, .string a0_1, .int .i64 a0_2] 23 (0, 0)) (by (with_reducible repeat (first | refine blk_drewN ?_ _ | refine blk_drew ?_ | refine blk_alloc ?_ _)); exact BK438.out) hb)
          have n1_ := Aside0.mk (blk_below (g := gb439) (o := .cells #[.bool a1_0, .string a1_1, .int .i64 a1_2] 23 (0, 0)) (by (with_reducible repeat (first | refine blk_drewN ?_ _ | refine blk_drew ?_ | refine blk_alloc ?_ _)); exact BK439.out) hb)
          have n2_ := Aside0.mk (blk_below (g := gb440) (o := .cells #[.bool false, .string (⟨#[]⟩ : ByteArray), .int .i64 0] 23 (0, 0)) (by (with_reducible repeat (first | refine blk_drewN ?_ _ | refine blk_drew ?_ | refine blk_alloc ?_ _)); exact BK440.out) hb)
          have n3_ := Aside0.mk (below_step (by repeat (first | (with_reducible first | exact HB.out | apply below_alloc | apply pw_below_drewN | apply below_drew1 | refine below_set ?_ GE438.out | refine below_set ?_ GE439.out | refine below_set ?_ GE440.out) | exact HB.out)) hb)
          clear BK438
          clear BK439
          clear BK440
          clear HB
          have BK438 := n0_
          have BK439 := n1_
          have BK440 := n2_
          have HB := n3_
          clear n0_ n1_ n2_ n3_
          (try clear hb)
          (try clear hb2)
          (try clear hk)
          (try clear hi)
          refine hK.out _ _ ⟨(blk_cell BK439.out 0).trans rfl, (blk_cell BK439.out 1).trans rfl, (blk_cell BK439.out 2).trans rfl⟩ (fun hHeld => ?_)
          clear hK K
          refine norm_ (a' := ?_) ?_ ?_
          rotate_left
          · show Act.put _ (some 45) _ = _
            simp only [Act.put, List.setIfInBounds_toArray, List.set_cons_zero, List.set_cons_succ]; (try simp only [i64_w]); (try simp only [i32_w])
            rfl
          refine one_ (i := 8) (N := none) #[true, true, true, true, true, true, true, true, true] rfl rfl (one_of HT_.out (by kernel_rfl)) (by decide) (fun K hK => ?_)
          have hs54 : w53.cell? ⟨gb440, 0, none⟩ = some (.bool false) := (blk_cell BK440.out 0).trans rfl
          have hfs54 := blk_frozen BK440.out 0
          have hns54_0 := NB438_440.out
          have hns54_1 := NB439_440.out
          have hms54_0 := NB440_438.out
          have hms54_1 := NB440_439.out
          have hs55 : w53.cell? ⟨gb440, 1, none⟩ = some (.string (⟨#[]⟩ : ByteArray)) := (blk_cell BK440.out 1).trans rfl
          have hfs55 := blk_frozen BK440.out 1
          have hns55_0 := NB438_440.out
          have hns55_1 := NB439_440.out
          have hms55_0 := NB440_438.out
          have hms55_1 := NB440_439.out
          have hs56 : w53.cell? ⟨gb440, 2, none⟩ = some (.int .i64 0) := (blk_cell BK440.out 2).trans rfl
          have hfs56 := blk_frozen BK440.out 2
          have hns56_0 := NB438_440.out
          have hns56_1 := NB439_440.out
          have hms56_0 := NB440_438.out
          have hms56_1 := NB440_439.out
          refine skip_ (w1 := ?_) (by rfl) rfl ?_ ?_
          rotate_left
          · go_simp
            rfl
          refine hK.out _ _ ⟨((cell_far (p := ⟨gb440, _, none⟩) NB439_440.out _).trans (((cell_far (p := ⟨gb440, _, none⟩) NB439_440.out _).trans (((cell_far (p := ⟨gb440, _, none⟩) NB439_440.out _).trans (hHeld.1)))))), ((cell_far (p := ⟨gb440, _, none⟩) NB439_440.out _).trans (((cell_far (p := ⟨gb440, _, none⟩) NB439_440.out _).trans (((cell_far (p := ⟨gb440, _, none⟩) NB439_440.out _).trans (hHeld.2.1)))))), ((cell_far (p := ⟨gb440, _, none⟩) NB439_440.out _).trans (((cell_far (p := ⟨gb440, _, none⟩) NB439_440.out _).trans (((cell_far (p := ⟨gb440, _, none⟩) NB439_440.out _).trans (hHeld.2.2))))))⟩ (fun hHeld => ?_)
          clear hK K
          refine done_ (done_of HT_.out (by kernel_rfl)) ?_
          try go_wp2
          refine bodyPost_ret (results_cell_row rfl _ _ gb440 23 #[.bool t455, .string t456, .int .i64 t457] (0, 0) _ rfl (by (with_reducible repeat (first | refine blk_drewN ?_ _ | refine blk_drew ?_ | refine blk_alloc ?_ _)); refine blk_put (cs := #[.bool t455, .string t456, .int .i64 0]) ?_ 2 _ rfl; (with_reducible repeat (first | refine blk_drewN ?_ _ | refine blk_drew ?_ | refine blk_alloc ?_ _)); refine blk_put (cs := #[.bool t455, .string (⟨#[]⟩ : ByteArray), .int .i64 0]) ?_ 1 _ rfl; (with_reducible repeat (first | refine blk_drewN ?_ _ | refine blk_drew ?_ | refine blk_alloc ?_ _)); refine blk_put (cs := #[.bool false, .string (⟨#[]⟩ : ByteArray), .int .i64 0]) ?_ 0 _ rfl; (with_reducible repeat (first | refine blk_drewN ?_ _ | refine blk_drew ?_ | refine blk_alloc ?_ _)); exact BK440.out) Tryd.underlying23 rfl (by kernel_rfl)) rfl ?_
          exact ⟨by first | rfl | (simp [errW_none, errW_some] <;> rfl) | (simp [*, errW_none, errW_some] <;> rfl), by repeat (first | (with_reducible first | exact HB.out | apply below_alloc | apply pw_below_drewN | apply below_drew1 | refine below_set ?_ GE438.out | refine below_set ?_ GE439.out | refine below_set ?_ GE440.out) | exact HB.out)⟩
        · replace c38 := Bool.eq_false_iff.mpr c38
          subst c38
          have H1 : ((figureheadref01_Minus.f kj2 t441 t442).bind fun t458 => ((figureheadref05_Make.f kj2 a0_0 t458 x5_2).bind fun bt459 => ((figureheadref05_plain.f bt459.1 bt459.2.1 bt459.2.2).bind fun bt462 => (some (bt462.1, bt462.2.1, bt462.2.2))))) = some (r1, r2, r3) := by rw [if_neg (show ¬ (false = true) by decide)] at H; exact H
          clear H
          have H := H1
          clear H1
          replace H := Option.bind_eq_some_iff.mp H
          obtain ⟨t458, A570, H⟩ := H
          replace H : ((figureheadref05_Make.f kj2 a0_0 t458 x5_2).bind fun bt459 => ((figureheadref05_plain.f bt459.1 bt459.2.1 bt459.2.2).bind fun bt462 => (some (bt462.1, bt462.2.1, bt462.2.2)))) = some (r1, r2, r3) := H
          have A57 := Aside0.mk A570
          clear A570
          replace H := Option.bind_eq_some_iff.mp H
          obtain ⟨⟨t459, t460, t461⟩, A580, H⟩ := H
          replace H : ((figureheadref05_plain.f t459 t460 t461).bind fun bt462 => (some (bt462.1, bt462.2.1, bt462.2.2))) = some (r1, r2, r3) := H
          have A58 := Aside0.mk A580
          clear A580
          replace H := Option.bind_eq_some_iff.mp H
          obtain ⟨⟨t462, t463, t464⟩, A590, H⟩ := H
          replace H : (some (t462, t463, t464)) = some (r1, r2, r3) := H
          have A59 := Aside0.mk A590
          clear A590
          simp only [Option.some.injEq, Prod.mk.injEq] at H
          obtain ⟨rfl, rfl, rfl⟩ := H
          try go_wp2
          have n0_ := Aside0.mk (blk_drew BK438.out)
          have n1_ := Aside0.mk (blk_drew BK439.out)
          have n2_ := Aside0.mk (blk_drew BK440.out)
          have n3_ := Aside0.mk (below_drew1 HB.out)
          clear BK438
          clear BK439
          clear BK440
          clear HB
          have BK438 := n0_
          have BK439 := n1_
          have BK440 := n2_
          have HB := n3_
          clear n0_ n1_ n2_ n3_
          refine start_ (n := 8) (S := fun w' => w'.cell? ⟨gb438, 0, none⟩ = some (.bool a0_0) ∧ w'.cell? ⟨gb438, 1, none⟩ = some (.string a0_1) ∧ w'.cell? ⟨gb438, 2, none⟩ = some (.int .i64 a0_2) ∧ w'.cell? ⟨gb439, 0, none⟩ = some (.bool a1_0) ∧ w'.cell? ⟨gb439, 1, none⟩ = some (.string a1_1) ∧ w'.cell? ⟨gb439, 2, none⟩ = some (.int .i64 a1_2)) (ds := []) #[false, false, false, false, false, false, false, false] (by kernel_rfl) rfl rfl ⟨(blk_cell BK438.out 0).trans rfl, (blk_cell BK438.out 1).trans rfl, (blk_cell BK438.out 2).trans rfl, (blk_cell BK439.out 0).trans rfl, (blk_cell BK439.out 1).trans rfl, (blk_cell BK439.out 2).trans rfl⟩ (fun hHeld => ?_); refine with_tabW figureheadref05_Sum.tab4 figureheadref05_Sum.bits4 (fun HT_ HW_ => ?_)
          generalize wc.drew = w60 at BK438 BK439 BK440 HB hHeld ⊢
          refine pure_ (i := 1) (N := some 17) (v := ?_) (a' := ?_) #[false, true, false, false, false, false, false, false] rfl rfl (any_of HT_.out (by kernel_rfl)) (fun _ _ _ h => h) (Or.inl ⟨by rfl, ?_⟩) ?_ ?_
          rotate_left
          · intro w'
            go_simp
            with_reducible rfl
          rotate_left
          · simp only [Act.put, List.setIfInBounds_toArray, List.set_cons_zero, List.set_cons_succ]; (try simp only [i64_w]); (try simp only [i32_w])
            rfl
          refine pure_ (i := 4) (N := some 20) (v := ?_) (a' := ?_) #[false, true, false, false, true, false, false, false] rfl rfl (any_of HT_.out (by kernel_rfl)) (fun _ _ _ h => h) (Or.inl ⟨by rfl, ?_⟩) ?_ ?_
          rotate_left
          · intro w'
            go_simp
            with_reducible rfl
          rotate_left
          · simp only [Act.put, List.setIfInBounds_toArray, List.set_cons_zero, List.set_cons_succ]; (try simp only [i64_w]); (try simp only [i32_w])
            rfl
          refine take_ (i := 0) (N := some 16) (v := ?_) (a' := ?_) #[true, true, false, false, true, false, false, false] rfl rfl (take_ofW HT_.out HW_.out (by kernel_rfl)) (fun _ _ _ h => h) (Or.inl ⟨by rfl, ?_⟩) hHeld ?_ ?_
          rotate_left
          · rintro w' ⟨s0, s1, s2, s3, s4, s5⟩
            go_simp
            with_reducible rfl
          rotate_left
          · simp only [Act.put, List.setIfInBounds_toArray, List.set_cons_zero, List.set_cons_succ]; (try simp only [i64_w]); (try simp only [i32_w])
            rfl
          refine take_ (i := 3) (N := some 19) (v := ?_) (a' := ?_) #[true, true, false, true, true, false, false, false] rfl rfl (take_ofW HT_.out HW_.out (by kernel_rfl)) (fun _ _ _ h => h) (Or.inl ⟨by rfl, ?_⟩) hHeld ?_ ?_
          rotate_left
          · rintro w' ⟨s0, s1, s2, s3, s4, s5⟩
            go_simp
            with_reducible rfl
          rotate_left
          · simp only [Act.put, List.setIfInBounds_toArray, List.set_cons_zero, List.set_cons_succ]; (try simp only [i64_w]); (try simp only [i32_w])
            rfl
          refine one_ (i := 2) (N := some 18) #[true, true, true, true, true, false, false, false] rfl rfl (one_of HT_.out (by kernel_rfl)) (by decide) (fun K hK => ?_)
          refine goes_ Tryd.func49 (by kernel_rfl) rfl #[.agg #[.bool a0_0, .string a0_1, .int .i64 a0_2], .int .i64 x5_2] (by rfl) rfl rfl (by (try simp only [List.map_toArray]); (try simp only [List.map_cons]); (try simp only [List.map_nil]); first | done | rfl | (simp only [List.length_drop, List.length_take]; rfl)) ?_
          with_reducible refine (figureheadref05_At.calls kj2 a0_0 a0_1 a0_2 x5_2 t441 _ A16.out).mono ?_
          rintro e w61 ⟨rfl, hb⟩
          refine ⟨_, rfl, ?_⟩
          have n0_ := Aside0.mk (blk_below (g := gb438) (o := .cells #[.bool a0_0, .string a0_1, .int .i64 a0_2] 23 (0, 0)) (by (with_reducible repeat (first | refine blk_drewN ?_ _ | refine blk_drew ?_ | refine blk_alloc ?_ _)); exact BK438.out) hb)
          have n1_ := Aside0.mk (blk_below (g := gb439) (o := .cells #[.bool a1_0, .string a1_1, .int .i64 a1_2] 23 (0, 0)) (by (with_reducible repeat (first | refine blk_drewN ?_ _ | refine blk_drew ?_ | refine blk_alloc ?_ _)); exact BK439.out) hb)
          have n2_ := Aside0.mk (blk_below (g := gb440) (o := .cells #[.bool false, .string (⟨#[]⟩ : ByteArray), .int .i64 0] 23 (0, 0)) (by (with_reducible repeat (first | refine blk_drewN ?_ _ | refine blk_drew ?_ | refine blk_alloc ?_ _)); exact BK440.out) hb)
          have n3_ := Aside0.mk (below_step (by repeat (first | (with_reducible first | exact HB.out | apply below_alloc | apply pw_below_drewN | apply below_drew1 | refine below_set ?_ GE438.out | refine below_set ?_ GE439.out | refine below_set ?_ GE440.out) | exact HB.out)) hb)
          clear BK438
          clear BK439
          clear BK440
          clear HB
          have BK438 := n0_
          have BK439 := n1_
          have BK440 := n2_
          have HB := n3_
          clear n0_ n1_ n2_ n3_
          (try clear hb)
          (try clear hb2)
          (try clear hk)
          (try clear hi)
          refine hK.out _ _ ⟨(blk_cell BK438.out 0).trans rfl, (blk_cell BK438.out 1).trans rfl, (blk_cell BK438.out 2).trans rfl, (blk_cell BK439.out 0).trans rfl, (blk_cell BK439.out 1).trans rfl, (blk_cell BK439.out 2).trans rfl⟩ (fun hHeld => ?_)
          clear hK K
          refine norm_ (a' := ?_) ?_ ?_
          rotate_left
          · show Act.put _ (some 18) _ = _
            simp only [Act.put, List.setIfInBounds_toArray, List.set_cons_zero, List.set_cons_succ]; (try simp only [i64_w]); (try simp only [i32_w])
            rfl
          refine one_ (i := 5) (N := some 21) #[true, true, true, true, true, true, false, false] rfl rfl (one_of HT_.out (by kernel_rfl)) (by decide) (fun K hK => ?_)
          refine goes_ Tryd.func49 (by kernel_rfl) rfl #[.agg #[.bool a1_0, .string a1_1, .int .i64 a1_2], .int .i64 x5_2] (by rfl) rfl rfl (by (try simp only [List.map_toArray]); (try simp only [List.map_cons]); (try simp only [List.map_nil]); first | done | rfl | (simp only [List.length_drop, List.length_take]; rfl)) ?_
          with_reducible refine (figureheadref05_At.calls kj2 a1_0 a1_1 a1_2 x5_2 t442 _ A17.out).mono ?_
          rintro e w62 ⟨rfl, hb⟩
          refine ⟨_, rfl, ?_⟩
          have n0_ := Aside0.mk (blk_below (g := gb438) (o := .cells #[.bool a0_0, .string a0_1, .int .i64 a0_2] 23 (0, 0)) (by (with_reducible repeat (first | refine blk_drewN ?_ _ | refine blk_drew ?_ | refine blk_alloc ?_ _)); exact BK438.out) hb)
          have n1_ := Aside0.mk (blk_below (g := gb439) (o := .cells #[.bool a1_0, .string a1_1, .int .i64 a1_2] 23 (0, 0)) (by (with_reducible repeat (first | refine blk_drewN ?_ _ | refine blk_drew ?_ | refine blk_alloc ?_ _)); exact BK439.out) hb)
          have n2_ := Aside0.mk (blk_below (g := gb440) (o := .cells #[.bool false, .string (⟨#[]⟩ : ByteArray), .int .i64 0] 23 (0, 0)) (by (with_reducible repeat (first | refine blk_drewN ?_ _ | refine blk_drew ?_ | refine blk_alloc ?_ _)); exact BK440.out) hb)
          have n3_ := Aside0.mk (below_step (by repeat (first | (with_reducible first | exact HB.out | apply below_alloc | apply pw_below_drewN | apply below_drew1 | refine below_set ?_ GE438.out | refine below_set ?_ GE439.out | refine below_set ?_ GE440.out) | exact HB.out)) hb)
          clear BK438
          clear BK439
          clear BK440
          clear HB
          have BK438 := n0_
          have BK439 := n1_
          have BK440 := n2_
          have HB := n3_
          clear n0_ n1_ n2_ n3_
          (try clear hb)
          (try clear hb2)
          (try clear hk)
          (try clear hi)
          refine hK.out _ _ ⟨(blk_cell BK438.out 0).trans rfl, (blk_cell BK438.out 1).trans rfl, (blk_cell BK438.out 2).trans rfl, (blk_cell BK439.out 0).trans rfl, (blk_cell BK439.out 1).trans rfl, (blk_cell BK439.out 2).trans rfl⟩ (fun hHeld => ?_)
          clear hK K
          refine norm_ (a' := ?_) ?_ ?_
          rotate_left
          · show Act.put _ (some 21) _ = _
            simp only [Act.put, List.setIfInBounds_toArray, List.set_cons_zero, List.set_cons_succ]; (try simp only [i64_w]); (try simp only [i32_w])
            rfl
          refine pure_ (i := 6) (N := some 6) (v := ?_) (a' := ?_) #[true, true, true, true, true, true, true, false] rfl rfl (any_of HT_.out (by kernel_rfl)) (fun _ _ _ h => h) (Or.inl ⟨by rfl, ?_⟩) ?_ ?_
          rotate_left
          · intro w'
            go_simp
            with_reducible rfl
          rotate_left
          · simp only [Act.put, List.setIfInBounds_toArray, List.set_cons_zero, List.set_cons_succ]; (try simp only [i64_w]); (try simp only [i32_w])
            rfl
          refine pure_ (i := 7) (N := some 7) (v := ?_) (a' := ?_) #[true, true, true, true, true, true, true, true] rfl rfl (any_of HT_.out (by kernel_rfl)) (fun _ _ _ h => h) (Or.inl ⟨by rfl, ?_⟩) ?_ ?_
          rotate_left
          · intro w'
            go_simp
            with_reducible rfl
          rotate_left
          · simp only [Act.put, List.setIfInBounds_toArray, List.set_cons_zero, List.set_cons_succ]; (try simp only [i64_w]); (try simp only [i32_w])
            rfl
          refine done_ (done_of HT_.out (by kernel_rfl)) ?_
          have hnb63 := NB438_439.out
          have hnc63 := NB439_438.out
          have hnb64 := NB438_440.out
          have hnc64 := NB440_438.out
          have hcz65_0 : w62.cell? ⟨gb438, 0, none⟩ = some (.bool a0_0) := (blk_cell BK438.out 0).trans rfl
          have hcz65_1 : w62.cell? ⟨gb438, 1, none⟩ = some (.string a0_1) := (blk_cell BK438.out 1).trans rfl
          have hcz65_2 : w62.cell? ⟨gb438, 2, none⟩ = some (.int .i64 a0_2) := (blk_cell BK438.out 2).trans rfl
          have hfz65_0 := blk_frozen BK438.out 0
          have hfz65_1 := blk_frozen BK438.out 1
          have hfz65_2 := blk_frozen BK438.out 2
          have hnb66 := NB439_440.out
          have hnc66 := NB440_439.out
          have hcz67_0 : w62.cell? ⟨gb439, 0, none⟩ = some (.bool a1_0) := (blk_cell BK439.out 0).trans rfl
          have hcz67_1 : w62.cell? ⟨gb439, 1, none⟩ = some (.string a1_1) := (blk_cell BK439.out 1).trans rfl
          have hcz67_2 : w62.cell? ⟨gb439, 2, none⟩ = some (.int .i64 a1_2) := (blk_cell BK439.out 2).trans rfl
          have hfz67_0 := blk_frozen BK439.out 0
          have hfz67_1 := blk_frozen BK439.out 1
          have hfz67_2 := blk_frozen BK439.out 2
          try go_wp2_with (first | ((with_reducible refine gate_callee (f := 50) rfl ?_); refine goesL_ (some 37) rfl rfl Tryd.func50 (by kernel_rfl) rfl #[.string t441, .string t442] rfl (by (try simp only [List.map_toArray]); (try simp only [List.map_cons]); (try simp only [List.map_nil]); first | done | rfl | (simp only [List.length_drop, List.length_take]; rfl)) ?_; (with_reducible refine (figureheadref01_Less.calls t441 t442 false _ A37.out).mono ?_); rintro e w' ⟨rfl, ⟨nd, rfl⟩⟩; refine ⟨_, rfl, ?_⟩; (try (rw [drewN_self w62]; generalize hq_ : World.drewN w62 _ = w62; have n0_ : Aside0 (w62.heap[gb438]? = some (.cells #[.bool a0_0, .string a0_1, .int .i64 a0_2] 23 (0, 0))) := ⟨by rw [← hq_]; exact (by (with_reducible repeat (first | refine blk_drewN ?_ _ | refine blk_drew ?_ | refine blk_alloc ?_ _)); exact BK438.out)⟩; have n1_ : Aside0 (w62.heap[gb439]? = some (.cells #[.bool a1_0, .string a1_1, .int .i64 a1_2] 23 (0, 0))) := ⟨by rw [← hq_]; exact (by (with_reducible repeat (first | refine blk_drewN ?_ _ | refine blk_drew ?_ | refine blk_alloc ?_ _)); exact BK439.out)⟩; have n2_ : Aside0 (w62.heap[gb440]? = some (.cells #[.bool false, .string (⟨#[]⟩ : ByteArray), .int .i64 0] 23 (0, 0))) := ⟨by rw [← hq_]; exact (by (with_reducible repeat (first | refine blk_drewN ?_ _ | refine blk_drew ?_ | refine blk_alloc ?_ _)); exact BK440.out)⟩; have n3_ : Aside0 (Below w.heap.size w w62) := ⟨by rw [← hq_]; exact (by repeat (first | (with_reducible first | exact HB.out | apply below_alloc | apply pw_below_drewN | apply below_drew1 | refine below_set ?_ GE438.out | refine below_set ?_ GE439.out | refine below_set ?_ GE440.out) | exact HB.out))⟩; clear BK438 BK439 BK440 HB hq_; have BK438 := n0_; have BK439 := n1_; have BK440 := n2_; have HB := n3_; clear n0_ n1_ n2_ n3_)); (try (have hcz9006_0 : w62.cell? ⟨gb438, 0, none⟩ = some (.bool a0_0) := (blk_cell BK438.out 0).trans rfl)); (try (have hcz9006_1 : w62.cell? ⟨gb438, 1, none⟩ = some (.string a0_1) := (blk_cell BK438.out 1).trans rfl)); (try (have hcz9006_2 : w62.cell? ⟨gb438, 2, none⟩ = some (.int .i64 a0_2) := (blk_cell BK438.out 2).trans rfl)); (try (have hfz9006_0 := blk_frozen BK438.out 0)); (try (have hfz9006_1 := blk_frozen BK438.out 1)); (try (have hfz9006_2 := blk_frozen BK438.out 2)); (try (have hcz9007_0 : w62.cell? ⟨gb439, 0, none⟩ = some (.bool a1_0) := (blk_cell BK439.out 0).trans rfl)); (try (have hcz9007_1 : w62.cell? ⟨gb439, 1, none⟩ = some (.string a1_1) := (blk_cell BK439.out 1).trans rfl)); (try (have hcz9007_2 : w62.cell? ⟨gb439, 2, none⟩ = some (.int .i64 a1_2) := (blk_cell BK439.out 2).trans rfl)); (try (have hfz9007_0 := blk_frozen BK439.out 0)); (try (have hfz9007_1 := blk_frozen BK439.out 1)); (try (have hfz9007_2 := blk_frozen BK439.out 2)); (try (have hcz9008_0 : w62.cell? ⟨gb440, 0, none⟩ = some (.bool false) := (blk_cell BK440.out 0).trans rfl)); (try (have hcz9008_1 : w62.cell? ⟨gb440, 1, none⟩ = some (.string (⟨#[]⟩ : ByteArray)) := (blk_cell BK440.out 1).trans rfl)); (try (have hcz9008_2 : w62.cell? ⟨gb440, 2, none⟩ = some (.int .i64 0) := (blk_cell BK440.out 2).trans rfl)); (try (have hfz9008_0 := blk_frozen BK440.out 0)); (try (have hfz9008_1 := blk_frozen BK440.out 1)); (try (have hfz9008_2 := blk_frozen BK440.out 2))))
          have n0_ := Aside0.mk (blk_drew BK438.out)
          have n1_ := Aside0.mk (blk_drew BK439.out)
          have n2_ := Aside0.mk (blk_drew BK440.out)
          have n3_ := Aside0.mk (below_drew1 HB.out)
          clear BK438
          clear BK439
          clear BK440
          clear HB
          have BK438 := n0_
          have BK439 := n1_
          have BK440 := n2_
          have HB := n3_
          clear n0_ n1_ n2_ n3_
          refine start_ (n := 9) (S := fun w' => w'.cell? ⟨gb438, 0, none⟩ = some (.bool a0_0) ∧ w'.cell? ⟨gb438, 1, none⟩ = some (.string a0_1) ∧ w'.cell? ⟨gb438, 2, none⟩ = some (.int .i64 a0_2)) (ds := []) #[false, false, false, false, false, false, false, false, false] (by kernel_rfl) rfl rfl ⟨(blk_cell BK438.out 0).trans rfl, (blk_cell BK438.out 1).trans rfl, (blk_cell BK438.out 2).trans rfl⟩ (fun hHeld => ?_); refine with_tabW figureheadref05_Sum.tab9 figureheadref05_Sum.bits9 (fun HT_ HW_ => ?_)
          generalize w62.drew = w68 at BK438 BK439 BK440 HB hHeld ⊢
          refine pure_ (i := 0) (N := some 46) (v := ?_) (a' := ?_) #[true, false, false, false, false, false, false, false, false] rfl rfl (any_of HT_.out (by kernel_rfl)) (fun _ _ _ h => h) (Or.inl ⟨by rfl, ?_⟩) ?_ ?_
          rotate_left
          · intro w'
            go_simp
            with_reducible rfl
          rotate_left
          · simp only [Act.put, List.setIfInBounds_toArray, List.set_cons_zero, List.set_cons_succ]; (try simp only [i64_w]); (try simp only [i32_w])
            rfl
          refine pure_ (i := 2) (N := some 48) (v := ?_) (a' := ?_) #[true, false, true, false, false, false, false, false, false] rfl rfl (any_of HT_.out (by kernel_rfl)) (fun _ _ _ h => h) (Or.inl ⟨by rfl, ?_⟩) ?_ ?_
          rotate_left
          · intro w'
            go_simp
            with_reducible rfl
          rotate_left
          · simp only [Act.put, List.setIfInBounds_toArray, List.set_cons_zero, List.set_cons_succ]; (try simp only [i64_w]); (try simp only [i32_w])
            rfl
          refine pure_ (i := 3) (N := some 49) (v := ?_) (a' := ?_) #[true, false, true, true, false, false, false, false, false] rfl rfl (any_of HT_.out (by kernel_rfl)) (fun _ _ _ h => h) (Or.inl ⟨by rfl, ?_⟩) ?_ ?_
          rotate_left
          · intro w'
            go_simp
            with_reducible rfl
          rotate_left
          · simp only [Act.put, List.setIfInBounds_toArray, List.set_cons_zero, List.set_cons_succ]; (try simp only [i64_w]); (try simp only [i32_w])
            rfl
          refine pure_ (i := 5) (N := some 51) (v := ?_) (a' := ?_) #[true, false, true, true, false, true, false, false, false] rfl rfl (any_of HT_.out (by kernel_rfl)) (fun _ _ _ h => h) (Or.inl ⟨by rfl, ?_⟩) ?_ ?_
          rotate_left
          · intro w'
            go_simp
            with_reducible rfl
          rotate_left
          · simp only [Act.put, List.setIfInBounds_toArray, List.set_cons_zero, List.set_cons_succ]; (try simp only [i64_w]); (try simp only [i32_w])
            rfl
          refine take_ (i := 1) (N := some 47) (v := ?_) (a' := ?_) #[true, true, true, true, false, true, false, false, false] rfl rfl (take_ofW HT_.out HW_.out (by kernel_rfl)) (fun _ _ _ h => h) (Or.inl ⟨by rfl, ?_⟩) hHeld ?_ ?_
          rotate_left
          · rintro w' ⟨s0, s1, s2⟩
            go_simp
            with_reducible rfl
          rotate_left
          · simp only [Act.put, List.setIfInBounds_toArray, List.set_cons_zero, List.set_cons_succ]; (try simp only [i64_w]); (try simp only [i32_w])
            rfl
          refine one_ (i := 4) (N := some 50) #[true, true, true, true, true, true, false, false, false] rfl rfl (one_of HT_.out (by kernel_rfl)) (by decide) (fun K hK => ?_)
          refine goes_ Tryd.func59 (by kernel_rfl) rfl #[.string t441, .string t442] (by rfl) rfl rfl (by (try simp only [List.map_toArray]); (try simp only [List.map_cons]); (try simp only [List.map_nil]); first | done | rfl | (simp only [List.length_drop, List.length_take]; rfl)) ?_
          with_reducible refine (figureheadref01_Minus.calls kj2 t441 t442 t458 _ A57.out).mono ?_
          rintro e w69 ⟨rfl, hb⟩
          refine ⟨_, rfl, ?_⟩
          have n0_ := Aside0.mk (blk_below (g := gb438) (o := .cells #[.bool a0_0, .string a0_1, .int .i64 a0_2] 23 (0, 0)) (by (with_reducible repeat (first | refine blk_drewN ?_ _ | refine blk_drew ?_ | refine blk_alloc ?_ _)); exact BK438.out) hb)
          have n1_ := Aside0.mk (blk_below (g := gb439) (o := .cells #[.bool a1_0, .string a1_1, .int .i64 a1_2] 23 (0, 0)) (by (with_reducible repeat (first | refine blk_drewN ?_ _ | refine blk_drew ?_ | refine blk_alloc ?_ _)); exact BK439.out) hb)
          have n2_ := Aside0.mk (blk_below (g := gb440) (o := .cells #[.bool false, .string (⟨#[]⟩ : ByteArray), .int .i64 0] 23 (0, 0)) (by (with_reducible repeat (first | refine blk_drewN ?_ _ | refine blk_drew ?_ | refine blk_alloc ?_ _)); exact BK440.out) hb)
          have n3_ := Aside0.mk (below_step (by repeat (first | (with_reducible first | exact HB.out | apply below_alloc | apply pw_below_drewN | apply below_drew1 | refine below_set ?_ GE438.out | refine below_set ?_ GE439.out | refine below_set ?_ GE440.out) | exact HB.out)) hb)
          clear BK438
          clear BK439
          clear BK440
          clear HB
          have BK438 := n0_
          have BK439 := n1_
          have BK440 := n2_
          have HB := n3_
          clear n0_ n1_ n2_ n3_
          (try clear hb)
          (try clear hb2)
          (try clear hk)
          (try clear hi)
          refine hK.out _ _ ⟨(blk_cell BK438.out 0).trans rfl, (blk_cell BK438.out 1).trans rfl, (blk_cell BK438.out 2).trans rfl⟩ (fun hHeld => ?_)
          clear hK K
          refine norm_ (a' := ?_) ?_ ?_
          rotate_left
          · show Act.put _ (some 50) _ = _
            simp only [Act.put, List.setIfInBounds_toArray, List.set_cons_zero, List.set_cons_succ]; (try simp only [i64_w]); (try simp only [i32_w])
            rfl
          refine one_ (i := 6) (N := some 52) #[true, true, true, true, true, true, true, false, false] rfl rfl (one_of HT_.out (by kernel_rfl)) (by decide) (fun K hK => ?_)
          refine goes_ Tryd.func57 (by kernel_rfl) rfl #[.bool a0_0, .string t458, .int .i64 x5_2] (by rfl) rfl rfl (by (try simp only [List.map_toArray]); (try simp only [List.map_cons]); (try simp only [List.map_nil]); first | done | rfl | (simp only [List.length_drop, List.length_take]; rfl)) ?_
          with_reducible refine (figureheadref05_Make.calls kj2 a0_0 t458 x5_2 t459 t460 t461 _ A58.out).mono ?_
          rintro e w70 ⟨rfl, hb⟩
          refine ⟨_, rfl, ?_⟩
          have n0_ := Aside0.mk (blk_below (g := gb438) (o := .cells #[.bool a0_0, .string a0_1, .int .i64 a0_2] 23 (0, 0)) (by (with_reducible repeat (first | refine blk_drewN ?_ _ | refine blk_drew ?_ | refine blk_alloc ?_ _)); exact BK438.out) hb)
          have n1_ := Aside0.mk (blk_below (g := gb439) (o := .cells #[.bool a1_0, .string a1_1, .int .i64 a1_2] 23 (0, 0)) (by (with_reducible repeat (first | refine blk_drewN ?_ _ | refine blk_drew ?_ | refine blk_alloc ?_ _)); exact BK439.out) hb)
          have n2_ := Aside0.mk (blk_below (g := gb440) (o := .cells #[.bool false, .string (⟨#[]⟩ : ByteArray), .int .i64 0] 23 (0, 0)) (by (with_reducible repeat (first | refine blk_drewN ?_ _ | refine blk_drew ?_ | refine blk_alloc ?_ _)); exact BK440.out) hb)
          have n3_ := Aside0.mk (below_step (by repeat (first | (with_reducible first | exact HB.out | apply below_alloc | apply pw_below_drewN | apply below_drew1 | refine below_set ?_ GE438.out | refine below_set ?_ GE439.out | refine below_set ?_ GE440.out) | exact HB.out)) hb)
          clear BK438
          clear BK439
          clear BK440
          clear HB
          have BK438 := n0_
          have BK439 := n1_
          have BK440 := n2_
          have HB := n3_
          clear n0_ n1_ n2_ n3_
          (try clear hb)
          (try clear hb2)
          (try clear hk)
          (try clear hi)
          refine hK.out _ _ ⟨(blk_cell BK438.out 0).trans rfl, (blk_cell BK438.out 1).trans rfl, (blk_cell BK438.out 2).trans rfl⟩ (fun hHeld => ?_)
          clear hK K
          refine norm_ (a' := ?_) ?_ ?_
          rotate_left
          · show Act.put _ (some 52) _ = _
            simp only [Act.put, List.setIfInBounds_toArray, List.set_cons_zero, List.set_cons_succ]; (try simp only [i64_w]); (try simp only [i32_w])
            rfl
          refine one_ (i := 7) (N := some 53) #[true, true, true, true, true, true, true, true, false] rfl rfl (one_of HT_.out (by kernel_rfl)) (by decide) (fun K hK => ?_)
          refine goes_ Tryd.func56 (by kernel_rfl) rfl #[.agg #[.bool t459, .string t460, .int .i64 t461]] (by rfl) rfl rfl (by (try simp only [List.map_toArray]); (try simp only [List.map_cons]); (try simp only [List.map_nil]); first | done | rfl | (simp only [List.length_drop, List.length_take]; rfl)) ?_
          with_reducible refine (figureheadref05_plain.calls t459 t460 t461 t462 t463 t464 _ A59.out).mono ?_
          rintro e w71 ⟨rfl, hb⟩
          refine ⟨_, rfl, ?_⟩
          have n0_ := Aside0.mk (blk_below (g := gb438) (o := .cells #[.bool a0_0, .string a0_1, .int .i64 a0_2] 23 (0, 0)) (by (with_reducible repeat (first | refine blk_drewN ?_ _ | refine blk_drew ?_ | refine blk_alloc ?_ _)); exact BK438.out) hb)
          have n1_ := Aside0.mk (blk_below (g := gb439) (o := .cells #[.bool a1_0, .string a1_1, .int .i64 a1_2] 23 (0, 0)) (by (with_reducible repeat (first | refine blk_drewN ?_ _ | refine blk_drew ?_ | refine blk_alloc ?_ _)); exact BK439.out) hb)
          have n2_ := Aside0.mk (blk_below (g := gb440) (o := .cells #[.bool false, .string (⟨#[]⟩ : ByteArray), .int .i64 0] 23 (0, 0)) (by (with_reducible repeat (first | refine blk_drewN ?_ _ | refine blk_drew ?_ | refine blk_alloc ?_ _)); exact BK440.out) hb)
          have n3_ := Aside0.mk (below_step (by repeat (first | (with_reducible first | exact HB.out | apply below_alloc | apply pw_below_drewN | apply below_drew1 | refine below_set ?_ GE438.out | refine below_set ?_ GE439.out | refine below_set ?_ GE440.out) | exact HB.out)) hb)
          clear BK438
          clear BK439
          clear BK440
          clear HB
          have BK438 := n0_
          have BK439 := n1_
          have BK440 := n2_
          have HB := n3_
          clear n0_ n1_ n2_ n3_
          (try clear hb)
          (try clear hb2)
          (try clear hk)
          (try clear hi)
          refine hK.out _ _ ⟨(blk_cell BK438.out 0).trans rfl, (blk_cell BK438.out 1).trans rfl, (blk_cell BK438.out 2).trans rfl⟩ (fun hHeld => ?_)
          clear hK K
          refine norm_ (a' := ?_) ?_ ?_
          rotate_left
          · show Act.put _ (some 53) _ = _
            simp only [Act.put, List.setIfInBounds_toArray, List.set_cons_zero, List.set_cons_succ]; (try simp only [i64_w]); (try simp only [i32_w])
            rfl
          refine one_ (i := 8) (N := none) #[true, true, true, true, true, true, true, true, true] rfl rfl (one_of HT_.out (by kernel_rfl)) (by decide) (fun K hK => ?_)
          have hs72 : w71.cell? ⟨gb440, 0, none⟩ = some (.bool false) := (blk_cell BK440.out 0).trans rfl
          have hfs72 := blk_frozen BK440.out 0
          have hns72_0 := NB438_440.out
          have hns72_1 := NB439_440.out
          have hms72_0 := NB440_438.out
          have hms72_1 := NB440_439.out
          have hs73 : w71.cell? ⟨gb440, 1, none⟩ = some (.string (⟨#[]⟩ : ByteArray)) := (blk_cell BK440.out 1).trans rfl
          have hfs73 := blk_frozen BK440.out 1
          have hns73_0 := NB438_440.out
          have hns73_1 := NB439_440.out
          have hms73_0 := NB440_438.out
          have hms73_1 := NB440_439.out
          have hs74 : w71.cell? ⟨gb440, 2, none⟩ = some (.int .i64 0) := (blk_cell BK440.out 2).trans rfl
          have hfs74 := blk_frozen BK440.out 2
          have hns74_0 := NB438_440.out
          have hns74_1 := NB439_440.out
          have hms74_0 := NB440_438.out
          have hms74_1 := NB440_439.out
          refine skip_ (w1 := ?_) (by rfl) rfl ?_ ?_
          rotate_left
          · go_simp
            rfl
          refine hK.out _ _ ⟨((cell_far (p := ⟨gb440, _, none⟩) NB438_440.out _).trans (((cell_far (p := ⟨gb440, _, none⟩) NB438_440.out _).trans (((cell_far (p := ⟨gb440, _, none⟩) NB438_440.out _).trans (hHeld.1)))))), ((cell_far (p := ⟨gb440, _, none⟩) NB438_440.out _).trans (((cell_far (p := ⟨gb440, _, none⟩) NB438_440.out _).trans (((cell_far (p := ⟨gb440, _, none⟩) NB438_440.out _).trans (hHeld.2.1)))))), ((cell_far (p := ⟨gb440, _, none⟩) NB438_440.out _).trans (((cell_far (p := ⟨gb440, _, none⟩) NB438_440.out _).trans (((cell_far (p := ⟨gb440, _, none⟩) NB438_440.out _).trans (hHeld.2.2))))))⟩ (fun hHeld => ?_)
          clear hK K
          refine done_ (done_of HT_.out (by kernel_rfl)) ?_
          try go_wp2
          refine bodyPost_ret (results_cell_row rfl _ _ gb440 23 #[.bool t462, .string t463, .int .i64 t464] (0, 0) _ rfl (by (with_reducible repeat (first | refine blk_drewN ?_ _ | refine blk_drew ?_ | refine blk_alloc ?_ _)); refine blk_put (cs := #[.bool t462, .string t463, .int .i64 0]) ?_ 2 _ rfl; (with_reducible repeat (first | refine blk_drewN ?_ _ | refine blk_drew ?_ | refine blk_alloc ?_ _)); refine blk_put (cs := #[.bool t462, .string (⟨#[]⟩ : ByteArray), .int .i64 0]) ?_ 1 _ rfl; (with_reducible repeat (first | refine blk_drewN ?_ _ | refine blk_drew ?_ | refine blk_alloc ?_ _)); refine blk_put (cs := #[.bool false, .string (⟨#[]⟩ : ByteArray), .int .i64 0]) ?_ 0 _ rfl; (with_reducible repeat (first | refine blk_drewN ?_ _ | refine blk_drew ?_ | refine blk_alloc ?_ _)); exact BK440.out) Tryd.underlying23 rfl (by kernel_rfl)) rfl ?_
          exact ⟨by first | rfl | (simp [errW_none, errW_some] <;> rfl) | (simp [*, errW_none, errW_some] <;> rfl), by repeat (first | (with_reducible first | exact HB.out | apply below_alloc | apply pw_below_drewN | apply below_drew1 | refine below_set ?_ GE438.out | refine below_set ?_ GE439.out | refine below_set ?_ GE440.out) | exact HB.out)⟩
end Go.Proofs.YtbjaiphfehnncaaDoor.Px
end
section
namespace Go.Proofs.YtbjaiphfehnncaaDoor.Px
open Fig Go.RowKit Go.Proofs.YtbjaiphfehnncaaDoorW.PrintWords Go.Proofs.YtbjaiphfehnncaaDoorW.PrintLast Go.Proofs.YtbjaiphfehnncaaDoorW.PrintMore
attribute [local go_sem] max2_int min2_int max_two min_two max_three min_three max_four min_four   -- for this text's walks alone
attribute [local go_sem] fieldA23_0 fieldA23_1 fieldA23_2
def figureheadref05_Turn.f (a0_0 : Bool) (a0_1 : ByteArray) (a0_2 : Int) : Option (Bool × ByteArray × Int) := some (!a0_0, a0_1, a0_2)
set_option maxHeartbeats 8000000 in
set_option maxRecDepth 100000 in
theorem figureheadref05_Turn.calls (a0_0 : Bool) (a0_1 : ByteArray) (a0_2 : Int) (r1 : Bool) (r2 : ByteArray) (r3 : Int) (w : World) (h : figureheadref05_Turn.f a0_0 a0_1 a0_2 = some (r1, r2, r3)) :
    Calls Tryd.prog 37 #[.agg #[.bool a0_0, .string a0_1, .int .i64 a0_2]] w fun e w' => e = .returned (.agg #[.bool r1, .string r2, .int .i64 r3]) ∧ Below w.heap.size w w' := by
  have hu23 := Tryd.underlying23
  have HB := Aside0.mk (Below.refl w.heap.size w)
  have H : (some (!a0_0, a0_1, a0_2)) = some (r1, r2, r3) := h
  clear h
  simp only [Option.some.injEq, Prod.mk.injEq] at H
  obtain ⟨rfl, rfl, rfl⟩ := H
  go_enter Tryd.func37, Tryd.ntmps37
  go_wp2_with (first | ((with_reducible refine gate_dst (N := 1) rfl ?_); refine box_event ?hg (N := 1) ?hd (cs := #[.bool a0_0, .string a0_1, .int .i64 a0_2]) (t := 23) ?hr ?_; (case hd => rfl); (case hg => rfl); (case hr => first | (go_simp; done) | (go_simp; rfl)); intro gb465 hg w2 hbox hb; have n0_ := Aside0.mk (below_step (by repeat (first | (with_reducible first | exact HB.out | apply below_alloc | apply pw_below_drewN | apply below_drew1) | exact HB.out)) hb); have n1_ := Aside0.mk (hbox); have n2_ := Aside0.mk ((by rw [hg]; exact (below_size (by repeat (first | (with_reducible first | exact HB.out | apply below_alloc | apply pw_below_drewN | apply below_drew1) | exact HB.out))) : w.heap.size ≤ gb465)); have n3_ := Aside0.mk ((by rw [hg]; exact (below_size (by repeat (first | (with_reducible first | exact HB.out | apply below_alloc | apply pw_below_drewN | apply below_drew1) | exact HB.out))) : w.heap.size ≤ gb465)); clear HB; have HB := n0_; have BK465 := n1_; have GW465 := n2_; have GE465 := n3_; clear n0_ n1_ n2_ n3_; clear hb hbox hg) | ((with_reducible refine gate_dst (N := 2) rfl ?_); refine box_event ?hg (N := 2) ?hd (cs := #[.bool false, .string (⟨#[]⟩ : ByteArray), .int .i64 0]) (t := 23) ?hr ?_; (case hd => rfl); (case hg => rfl); (case hr => first | (go_simp; done) | (go_simp; rfl)); intro gb466 hg w3 hbox hb; have n0_ := Aside0.mk (blk_below (g := gb465) (o := .cells #[.bool a0_0, .string a0_1, .int .i64 a0_2] 23 (0, 0)) (by (with_reducible repeat (first | refine blk_drewN ?_ _ | refine blk_drew ?_ | refine blk_alloc ?_ _)); exact BK465.out) hb); have n1_ := Aside0.mk (below_step (by repeat (first | (with_reducible first | exact HB.out | apply below_alloc | apply pw_below_drewN | apply below_drew1 | refine below_set ?_ GE465.out) | exact HB.out)) hb); have n2_ := Aside0.mk (hbox); have n3_ := Aside0.mk ((by rw [hg]; exact (below_size (by repeat (first | (with_reducible first | exact HB.out | apply below_alloc | apply pw_below_drewN | apply below_drew1 | refine below_set ?_ GE465.out) | exact HB.out))) : w.heap.size ≤ gb466)); have n4_ := Aside0.mk ((by rw [hg]; exact (below_size (by repeat (first | (with_reducible first | exact HB.out | apply below_alloc | apply pw_below_drewN | apply below_drew1 | refine below_set ?_ GE465.out) | exact HB.out))) : w.heap.size ≤ gb466)); have n5_ := Aside0.mk ((by rw [hg]; exact Nat.ne_of_lt (blk_lt (g := gb465) (o := .cells #[.bool a0_0, .string a0_1, .int .i64 a0_2] 23 (0, 0)) (by (with_reducible repeat (first | refine blk_drewN ?_ _ | refine blk_drew ?_ | refine blk_alloc ?_ _)); exact BK465.out)) : gb465 ≠ gb466)); have n6_ := Aside0.mk ((by rw [hg]; exact Nat.ne_of_gt (blk_lt (g := gb465) (o := .cells #[.bool a0_0, .string a0_1, .int .i64 a0_2] 23 (0, 0)) (by (with_reducible repeat (first | refine blk_drewN ?_ _ | refine blk_drew ?_ | refine blk_alloc ?_ _)); exact BK465.out)) : gb466 ≠ gb465)); clear BK465; clear HB; have BK465 := n0_; have HB := n1_; have BK466 := n2_; have GW466 := n3_; have GE466 := n4_; have NB465_466 := n5_; have NB466_465 := n6_; clear n0_ n1_ n2_ n3_ n4_ n5_ n6_; clear hb hbox hg; have hnb4 := NB465_466.out; have hnc4 := NB466_465.out; have hcz5_0 : w3.cell? ⟨gb465, 0, none⟩ = some (.bool a0_0) := (blk_cell BK465.out 0).trans rfl; have hcz5_1 : w3.cell? ⟨gb465, 1, none⟩ = some (.string a0_1) := (blk_cell BK465.out 1).trans rfl; have hcz5_2 : w3.cell? ⟨gb465, 2, none⟩ = some (.int .i64 a0_2) := (blk_cell BK465.out 2).trans rfl; have hfz5_0 := blk_frozen BK465.out 0; have hfz5_1 := blk_frozen BK465.out 1; have hfz5_2 := blk_frozen BK465.out 2; have hcz6_0 : w3.cell? ⟨gb466, 0, none⟩ = some (.bool false) := (blk_cell BK466.out 0).trans rfl; have hcz6_1 : w3.cell? ⟨gb466, 1, none⟩ = some (.string (⟨#[]⟩ : ByteArray)) := (blk_cell BK466.out 1).trans rfl; have hcz6_2 : w3.cell? ⟨gb466, 2, none⟩ = some (.int .i64 0) := (blk_cell BK466.out 2).trans rfl; have hfz6_0 := blk_frozen BK466.out 0; have hfz6_1 := blk_frozen BK466.out 1; have hfz6_2 := blk_frozen BK466.out 2))
  refine bodyPost_ret (results_cell_row rfl _ _ gb466 23 #[.bool (!a0_0), .string a0_1, .int .i64 a0_2] (0, 0) _ rfl (by (with_reducible repeat (first | refine blk_drewN ?_ _ | refine blk_drew ?_ | refine blk_alloc ?_ _)); refine blk_put (cs := #[.bool (!a0_0), .string a0_1, .int .i64 0]) ?_ 2 _ rfl; (with_reducible repeat (first | refine blk_drewN ?_ _ | refine blk_drew ?_ | refine blk_alloc ?_ _)); refine blk_put (cs := #[.bool (!a0_0), .string (⟨#[]⟩ : ByteArray), .int .i64 0]) ?_ 1 _ rfl; (with_reducible repeat (first | refine blk_drewN ?_ _ | refine blk_drew ?_ | refine blk_alloc ?_ _)); refine blk_put (cs := #[.bool false, .string (⟨#[]⟩ : ByteArray), .int .i64 0]) ?_ 0 _ rfl; (with_reducible repeat (first | refine blk_drewN ?_ _ | refine blk_drew ?_ | refine blk_alloc ?_ _)); refine blk_far ?_ NB466_465.out _; (with_reducible repeat (first | refine blk_drewN ?_ _ | refine blk_drew ?_ | refine blk_alloc ?_ _)); exact BK466.out) Tryd.underlying23 rfl (by kernel_rfl)) rfl ?_
  exact ⟨by first | rfl | (simp [errW_none, errW_some] <;> rfl) | (simp [*, errW_none, errW_some] <;> rfl), by repeat (first | (with_reducible first | exact HB.out | apply below_alloc | apply pw_below_drewN | apply below_drew1 | refine below_set ?_ GE465.out | refine below_set ?_ GE466.out) | exact HB.out)⟩
end Go.Proofs.YtbjaiphfehnncaaDoor.Px
end
section
namespace Go.Proofs.YtbjaiphfehnncaaDoor.Px
open Fig Go.RowKit Go.Proofs.YtbjaiphfehnncaaDoorW.PrintWords Go.Proofs.YtbjaiphfehnncaaDoorW.PrintLast Go.Proofs.YtbjaiphfehnncaaDoorW.PrintMore
attribute [local go_sem] max2_int min2_int max_two min_two max_three min_three max_four min_four   -- for this text's walks alone
attribute [local go_sem high] eqA23
attribute [local go_sem] fieldA23_0 fieldA23_1 fieldA23_2
def figureheadlaw06_ArithAdds.f (k : Nat) (a0_0 : Bool) (a0_1 : ByteArray) (a0_2 : Int) (a1_0 : Bool) (a1_1 : ByteArray) (a1_2 : Int) : Option (Bool) := (figureheadlaw06_good.f k (([(⟨a0_0, a0_1, a0_2⟩ : S23), (⟨a1_0, a1_1, a1_2⟩ : S23)] : List (S23)))).bind fun t472 => (if t472 = true then ((figureheadlaw06_answers.f k).bind fun t474 => (if t474 = true then ((arith_Add.f a0_0 a0_1 a0_2 a1_0 a1_1 a1_2).bind fun bt475 => ((figureheadref05_Sum.f k a0_0 a0_1 a0_2 a1_0 a1_1 a1_2).bind fun bt478 => (if (bt475.1 == bt478.1 && (bt475.2.1.toList == bt478.2.1.toList && (bt475.2.2 == bt478.2.2))) = true then ((arith_Sub.f a0_0 a0_1 a0_2 a1_0 a1_1 a1_2).bind fun bt481 => ((figureheadref05_Turn.f a1_0 a1_1 a1_2).bind fun bt484 => ((figureheadref05_Sum.f k a0_0 a0_1 a0_2 bt484.1 bt484.2.1 bt484.2.2).bind fun bt487 => (some (bt481.1 == bt487.1 && (bt481.2.1.toList == bt487.2.1.toList && (bt481.2.2 == bt487.2.2))))))) else (some false)))) else (some false))) else ((figureheadlaw06_answers.f k).bind fun t473 => (some t473)))
theorem figureheadlaw06_ArithAdds.mono : ∀ a0 a1 a2 a3 a4 a5 k, LeO (figureheadlaw06_ArithAdds.f k a0 a1 a2 a3 a4 a5) (figureheadlaw06_ArithAdds.f (k + 1) a0 a1 a2 a3 a4 a5) := by
  intro a0 a1 a2 a3 a4 a5 k
  unfold figureheadlaw06_ArithAdds.f
  repeat' first
      | (with_reducible exact figureheadlaw06_answers.mono _)
      | (with_reducible exact figureheadlaw06_good.mono _ _)
      | (with_reducible exact figureheadref05_Sum.mono _ _ _ _ _ _ _)
      | (with_reducible exact LeO.refl _)
      | (with_reducible exact LeO.none _)
      | (with_reducible refine LeO.ite ?_ ?_)
      | (with_reducible refine LeO.bind ?_ (fun _ => ?_))
      | exact figureheadlaw06_answers.mono _
      | exact figureheadlaw06_good.mono _ _
      | exact figureheadref05_Sum.mono _ _ _ _ _ _ _
      | exact LeO.none _
      | refine LeO.ite ?_ ?_
      | refine LeO.bind ?_ (fun _ => ?_)
def figureheadlaw06_ArithAdds.T3 : Bool × List (List Nat × List Nat) := (true, [([], []), ([0, 0], [0]), ([1], [1]), ([1], [1]), ([2, 3, 1, 1], [1, 2, 3]), ([1], [1]), ([1], [1]), ([5, 6, 4, 1], [1, 5, 6]), ([4, 7, 1], [1, 4, 7]), ([1, 8], [1, 8]), ([9, 7], [9]), ([10], [10]), ([10], [10]), ([11, 12, 10, 10], [10, 11, 12]), ([10], [10]), ([10], [10]), ([15, 13, 10], [10, 15]), ([14, 16, 16, 10], [10, 14, 16]), ([13, 17, 10], [10, 13, 17]), ([10, 18], [10, 18]), ([19, 17, 0, 1, 2, 3, 4, 5, 6, 7, 8, 9, 10, 11, 12, 13, 14, 15, 16, 17, 18, 19], [19])])
def figureheadlaw06_ArithAdds.B3 : List Nat := [0, 1, 3, 3, 15, 3, 3, 127, 255, 511, 1023, 2047, 2047, 8191, 2047, 2047, 49151, 131071, 262143, 524287, 1048575]
theorem figureheadlaw06_ArithAdds.tab3 : rtab .any (opsOf Tryd.f10 3) = figureheadlaw06_ArithAdds.T3 := by kernel_rfl
theorem figureheadlaw06_ArithAdds.bits3 : waitsOk figureheadlaw06_ArithAdds.T3.2 figureheadlaw06_ArithAdds.B3 = true := by kernel_rfl
set_option maxHeartbeats 8000000 in
set_option maxRecDepth 100000 in
theorem figureheadlaw06_ArithAdds.calls (k : Nat) (a0_0 : Bool) (a0_1 : ByteArray) (a0_2 : Int) (a1_0 : Bool) (a1_1 : ByteArray) (a1_2 : Int) (r : Bool) (w : World) (hG : Fig.Glob w) (HT : Aside0 (r = true)) (h : figureheadlaw06_ArithAdds.f k a0_0 a0_1 a0_2 a1_0 a1_1 a1_2 = some r) :
    Calls Tryd.prog 10 #[.agg #[.bool a0_0, .string a0_1, .int .i64 a0_2], .agg #[.bool a1_0, .string a1_1, .int .i64 a1_2]] w fun e w' => e = .returned (.bool r) ∧ Below w.heap.size w w' := by
  have hu23 := Tryd.underlying23
  have HG := Aside0.mk hG
  clear hG
  have HB := Aside0.mk (Below.refl w.heap.size w)
  have H : ((figureheadlaw06_good.f k (([(⟨a0_0, a0_1, a0_2⟩ : S23), (⟨a1_0, a1_1, a1_2⟩ : S23)] : List (S23)))).bind fun t472 => (if t472 = true then ((figureheadlaw06_answers.f k).bind fun t474 => (if t474 = true then ((arith_Add.f a0_0 a0_1 a0_2 a1_0 a1_1 a1_2).bind fun bt475 => ((figureheadref05_Sum.f k a0_0 a0_1 a0_2 a1_0 a1_1 a1_2).bind fun bt478 => (if (bt475.1 == bt478.1 && (bt475.2.1.toList == bt478.2.1.toList && (bt475.2.2 == bt478.2.2))) = true then ((arith_Sub.f a0_0 a0_1 a0_2 a1_0 a1_1 a1_2).bind fun bt481 => ((figureheadref05_Turn.f a1_0 a1_1 a1_2).bind fun bt484 => ((figureheadref05_Sum.f k a0_0 a0_1 a0_2 bt484.1 bt484.2.1 bt484.2.2).bind fun bt487 => (some (bt481.1 == bt487.1 && (bt481.2.1.toList == bt487.2.1.toList && (bt481.2.2 == bt487.2.2))))))) else (some false)))) else (some false))) else ((figureheadlaw06_answers.f k).bind fun t473 => (some t473)))) = some r := h
  clear h
  obtain ⟨y469, hy469⟩ : ∃ y_ : List (S23), y_ = (([(⟨a0_0, a0_1, a0_2⟩ : S23), (⟨a1_0, a1_1, a1_2⟩ : S23)] : List (S23))) := ⟨_, rfl⟩
  replace H : ((figureheadlaw06_good.f k y469).bind fun t472 => (if t472 = true then ((figureheadlaw06_answers.f k).bind fun t474 => (if t474 = true then ((arith_Add.f a0_0 a0_1 a0_2 a1_0 a1_1 a1_2).bind fun bt475 => ((figureheadref05_Sum.f k a0_0 a0_1 a0_2 a1_0 a1_1 a1_2).bind fun bt478 => (if (bt475.1 == bt478.1 && (bt475.2.1.toList == bt478.2.1.toList && (bt475.2.2 == bt478.2.2))) = true then ((arith_Sub.f a0_0 a0_1 a0_2 a1_0 a1_1 a1_2).bind fun bt481 => ((figureheadref05_Turn.f a1_0 a1_1 a1_2).bind fun bt484 => ((figureheadref05_Sum.f k a0_0 a0_1 a0_2 bt484.1 bt484.2.1 bt484.2.2).bind fun bt487 => (some (bt481.1 == bt487.1 && (bt481.2.1.toList == bt487.2.1.toList && (bt481.2.2 == bt487.2.2))))))) else (some false)))) else (some false))) else ((figureheadlaw06_answers.f k).bind fun t473 => (some t473)))) = some r := by first | (rw [hy469]; with_reducible exact H) | (have H2_ := (Option.bind_some _ _).symm.trans H; rw [hy469]; with_reducible exact H2_) | (have H2_ := (Option.bind_some _ _).symm.trans H; with_reducible exact H2_) | with_reducible exact H | (rw [hy469]; exact H) | exact H
  have Ny469 := Aside0.mk hy469
  clear hy469
  replace H := Option.bind_eq_some_iff.mp H
  obtain ⟨t472, A30, H⟩ := H
  replace H : (if t472 = true then ((figureheadlaw06_answers.f k).bind fun t474 => (if t474 = true then ((arith_Add.f a0_0 a0_1 a0_2 a1_0 a1_1 a1_2).bind fun bt475 => ((figureheadref05_Sum.f k a0_0 a0_1 a0_2 a1_0 a1_1 a1_2).bind fun bt478 => (if (bt475.1 == bt478.1 && (bt475.2.1.toList == bt478.2.1.toList && (bt475.2.2 == bt478.2.2))) = true then ((arith_Sub.f a0_0 a0_1 a0_2 a1_0 a1_1 a1_2).bind fun bt481 => ((figureheadref05_Turn.f a1_0 a1_1 a1_2).bind fun bt484 => ((figureheadref05_Sum.f k a0_0 a0_1 a0_2 bt484.1 bt484.2.1 bt484.2.2).bind fun bt487 => (some (bt481.1 == bt487.1 && (bt481.2.1.toList == bt487.2.1.toList && (bt481.2.2 == bt487.2.2))))))) else (some false)))) else (some false))) else ((figureheadlaw06_answers.f k).bind fun t473 => (some t473))) = some r := H
  have A3 := Aside0.mk A30
  clear A30
  by_cases c4 : t472 = true
  · subst c4
    have H1 : ((figureheadlaw06_answers.f k).bind fun t474 => (if t474 = true then ((arith_Add.f a0_0 a0_1 a0_2 a1_0 a1_1 a1_2).bind fun bt475 => ((figureheadref05_Sum.f k a0_0 a0_1 a0_2 a1_0 a1_1 a1_2).bind fun bt478 => (if (bt475.1 == bt478.1 && (bt475.2.1.toList == bt478.2.1.toList && (bt475.2.2 == bt478.2.2))) = true then ((arith_Sub.f a0_0 a0_1 a0_2 a1_0 a1_1 a1_2).bind fun bt481 => ((figureheadref05_Turn.f a1_0 a1_1 a1_2).bind fun bt484 => ((figureheadref05_Sum.f k a0_0 a0_1 a0_2 bt484.1 bt484.2.1 bt484.2.2).bind fun bt487 => (some (bt481.1 == bt487.1 && (bt481.2.1.toList == bt487.2.1.toList && (bt481.2.2 == bt487.2.2))))))) else (some false)))) else (some false))) = some r := by rw [if_pos rfl] at H; exact H
    clear H
    have H := H1
    clear H1
    replace H := Option.bind_eq_some_iff.mp H
    obtain ⟨t474, A50, H⟩ := H
    replace H : (if t474 = true then ((arith_Add.f a0_0 a0_1 a0_2 a1_0 a1_1 a1_2).bind fun bt475 => ((figureheadref05_Sum.f k a0_0 a0_1 a0_2 a1_0 a1_1 a1_2).bind fun bt478 => (if (bt475.1 == bt478.1 && (bt475.2.1.toList == bt478.2.1.toList && (bt475.2.2 == bt478.2.2))) = true then ((arith_Sub.f a0_0 a0_1 a0_2 a1_0 a1_1 a1_2).bind fun bt481 => ((figureheadref05_Turn.f a1_0 a1_1 a1_2).bind fun bt484 => ((figureheadref05_Sum.f k a0_0 a0_1 a0_2 bt484.1 bt484.2.1 bt484.2.2).bind fun bt487 => (some (bt481.1 == bt487.1 && (bt481.2.1.toList == bt487.2.1.toList && (bt481.2.2 == bt487.2.2))))))) else (some false)))) else (some false)) = some r := H
    have A5 := Aside0.mk A50
    clear A50
    by_cases c6 : t474 = true
    · subst c6
      have H1 : ((arith_Add.f a0_0 a0_1 a0_2 a1_0 a1_1 a1_2).bind fun bt475 => ((figureheadref05_Sum.f k a0_0 a0_1 a0_2 a1_0 a1_1 a1_2).bind fun bt478 => (if (bt475.1 == bt478.1 && (bt475.2.1.toList == bt478.2.1.toList && (bt475.2.2 == bt478.2.2))) = true then ((arith_Sub.f a0_0 a0_1 a0_2 a1_0 a1_1 a1_2).bind fun bt481 => ((figureheadref05_Turn.f a1_0 a1_1 a1_2).bind fun bt484 => ((figureheadref05_Sum.f k a0_0 a0_1 a0_2 bt484.1 bt484.2.1 bt484.2.2).bind fun bt487 => (some (bt481.1 == bt487.1 && (bt481.2.1.toList == bt487.2.1.toList && (bt481.2.2 == bt487.2.2))))))) else (some false)))) = some r := by rw [if_pos rfl] at H; exact H
      clear H
      have H := H1
      clear H1
      replace H := Option.bind_eq_some_iff.mp H
      obtain ⟨⟨t475, t476, t477⟩, A70, H⟩ := H
      replace H : ((figureheadref05_Sum.f k a0_0 a0_1 a0_2 a1_0 a1_1 a1_2).bind fun bt478 => (if (t475 == bt478.1 && (t476.toList == bt478.2.1.toList && (t477 == bt478.2.2))) = true then ((arith_Sub.f a0_0 a0_1 a0_2 a1_0 a1_1 a1_2).bind fun bt481 => ((figureheadref05_Turn.f a1_0 a1_1 a1_2).bind fun bt484 => ((figureheadref05_Sum.f k a0_0 a0_1 a0_2 bt484.1 bt484.2.1 bt484.2.2).bind fun bt487 => (some (bt481.1 == bt487.1 && (bt481.2.1.toList == bt487.2.1.toList && (bt481.2.2 == bt487.2.2))))))) else (some false))) = some r := H
      have A7 := Aside0.mk A70
      clear A70
      replace H := Option.bind_eq_some_iff.mp H
      obtain ⟨⟨t478, t479, t480⟩, A80, H⟩ := H
      replace H : (if (t475 == t478 && (t476.toList == t479.toList && (t477 == t480))) = true then ((arith_Sub.f a0_0 a0_1 a0_2 a1_0 a1_1 a1_2).bind fun bt481 => ((figureheadref05_Turn.f a1_0 a1_1 a1_2).bind fun bt484 => ((figureheadref05_Sum.f k a0_0 a0_1 a0_2 bt484.1 bt484.2.1 bt484.2.2).bind fun bt487 => (some (bt481.1 == bt487.1 && (bt481.2.1.toList == bt487.2.1.toList && (bt481.2.2 == bt487.2.2))))))) else (some false)) = some r := H
      have A8 := Aside0.mk A80
      clear A80
      by_cases c9 : (t475 == t478 && (t476.toList == t479.toList && (t477 == t480))) = true
      · rw [if_pos c9] at H
        have c9b0 : (t475 == t478 && (t476.toList == t479.toList && (t477 == t480))) = true := c9
        (try (have c9b1 : decide (t475 = t478 && (t476.toList == t479.toList && (t477 == t480))) = true := by simpa using c9))
        (try (have c9b2 : (t475 == t478 && (t476.toList == t479.toList && (t477 == t480))) = true := by simpa using c9))
        clear c9
        replace H := Option.bind_eq_some_iff.mp H
        obtain ⟨⟨t481, t482, t483⟩, A100, H⟩ := H
        replace H : ((figureheadref05_Turn.f a1_0 a1_1 a1_2).bind fun bt484 => ((figureheadref05_Sum.f k a0_0 a0_1 a0_2 bt484.1 bt484.2.1 bt484.2.2).bind fun bt487 => (some (t481 == bt487.1 && (t482.toList == bt487.2.1.toList && (t483 == bt487.2.2)))))) = some r := H
        have A10 := Aside0.mk A100
        clear A100
        replace H := Option.bind_eq_some_iff.mp H
        obtain ⟨⟨t484, t485, t486⟩, A110, H⟩ := H
        replace H : ((figureheadref05_Sum.f k a0_0 a0_1 a0_2 t484 t485 t486).bind fun bt487 => (some (t481 == bt487.1 && (t482.toList == bt487.2.1.toList && (t483 == bt487.2.2))))) = some r := H
        have A11 := Aside0.mk A110
        clear A110
        replace H := Option.bind_eq_some_iff.mp H
        obtain ⟨⟨t487, t488, t489⟩, A120, H⟩ := H
        replace H : (some (t481 == t487 && (t482.toList == t488.toList && (t483 == t489)))) = some r := H
        have A12 := Aside0.mk A120
        clear A120
        obtain rfl := Option.some.inj H
        go_enter Tryd.func10, Tryd.ntmps10
        try go_wp2_with (first | ((with_reducible refine gate_dst (N := 2) rfl ?_); refine box_event ?hg (N := 2) ?hd (cs := #[.bool a0_0, .string a0_1, .int .i64 a0_2]) (t := 23) ?hr ?_; (case hd => rfl); (case hg => rfl); (case hr => first | (go_simp; done) | (go_simp; rfl)); intro gb467 hg w13 hbox hb; have n0_ := Aside0.mk (below_step (by repeat (first | (with_reducible first | exact HB.out | apply below_alloc | apply pw_below_drewN | apply below_drew1) | exact HB.out)) hb); have n1_ := Aside0.mk (hbox); have n2_ := Aside0.mk ((by rw [hg]; exact (below_size (by repeat (first | (with_reducible first | exact HB.out | apply below_alloc | apply pw_below_drewN | apply below_drew1) | exact HB.out))) : w.heap.size ≤ gb467)); have n3_ := Aside0.mk ((by rw [hg]; exact (below_size (by repeat (first | (with_reducible first | exact HB.out | apply below_alloc | apply pw_below_drewN | apply below_drew1) | exact HB.out))) : w.heap.size ≤ gb467)); clear HB; have HB := n0_; have BK467 := n1_; have GW467 := n2_; have GE467 := n3_; clear n0_ n1_ n2_ n3_; clear hb hbox hg) | ((with_reducible refine gate_dst (N := 3) rfl ?_); refine box_event ?hg (N := 3) ?hd (cs := #[.bool a1_0, .string a1_1, .int .i64 a1_2]) (t := 23) ?hr ?_; (case hd => rfl); (case hg => rfl); (case hr => first | (go_simp; done) | (go_simp; rfl)); intro gb468 hg w14 hbox hb; have n0_ := Aside0.mk (blk_below (g := gb467) (o := .cells #[.bool a0_0, .string a0_1, .int .i64 a0_2] 23 (0, 0)) (by (with_reducible repeat (first | refine blk_drewN ?_ _ | refine blk_drew ?_ | refine blk_alloc ?_ _)); exact BK467.out) hb); have n1_ := Aside0.mk (below_step (by repeat (first | (with_reducible first | exact HB.out | apply below_alloc | apply pw_below_drewN | apply below_drew1 | refine below_set ?_ GE467.out) | exact HB.out)) hb); have n2_ := Aside0.mk (hbox); have n3_ := Aside0.mk ((by rw [hg]; exact (below_size (by repeat (first | (with_reducible first | exact HB.out | apply below_alloc | apply pw_below_drewN | apply below_drew1 | refine below_set ?_ GE467.out) | exact HB.out))) : w.heap.size ≤ gb468)); have n4_ := Aside0.mk ((by rw [hg]; exact (below_size (by repeat (first | (with_reducible first | exact HB.out | apply below_alloc | apply pw_below_drewN | apply below_drew1 | refine below_set ?_ GE467.out) | exact HB.out))) : w.heap.size ≤ gb468)); have n5_ := Aside0.mk ((by rw [hg]; exact Nat.ne_of_lt (blk_lt (g := gb467) (o := .cells #[.bool a0_0, .string a0_1, .int .i64 a0_2] 23 (0, 0)) (by (with_reducible repeat (first | refine blk_drewN ?_ _ | refine blk_drew ?_ | refine blk_alloc ?_ _)); exact BK467.out)) : gb467 ≠ gb468)); have n6_ := Aside0.mk ((by rw [hg]; exact Nat.ne_of_gt (blk_lt (g := gb467) (o := .cells #[.bool a0_0, .string a0_1, .int .i64 a0_2] 23 (0, 0)) (by (with_reducible repeat (first | refine blk_drewN ?_ _ | refine blk_drew ?_ | refine blk_alloc ?_ _)); exact BK467.out)) : gb468 ≠ gb467)); clear BK467; clear HB; have BK467 := n0_; have HB := n1_; have BK468 := n2_; have GW468 := n3_; have GE468 := n4_; have NB467_468 := n5_; have NB468_467 := n6_; clear n0_ n1_ n2_ n3_ n4_ n5_ n6_; clear hb hbox hg; have hnb15 := NB467_468.out; have hnc15 := NB468_467.out; have hcz16_0 : w14.cell? ⟨gb467, 0, none⟩ = some (.bool a0_0) := (blk_cell BK467.out 0).trans rfl; have hcz16_1 : w14.cell? ⟨gb467, 1, none⟩ = some (.string a0_1) := (blk_cell BK467.out 1).trans rfl; have hcz16_2 : w14.cell? ⟨gb467, 2, none⟩ = some (.int .i64 a0_2) := (blk_cell BK467.out 2).trans rfl; have hfz16_0 := blk_frozen BK467.out 0; have hfz16_1 := blk_frozen BK467.out 1; have hfz16_2 := blk_frozen BK467.out 2; have hcz17_0 : w14.cell? ⟨gb468, 0, none⟩ = some (.bool a1_0) := (blk_cell BK468.out 0).trans rfl; have hcz17_1 : w14.cell? ⟨gb468, 1, none⟩ = some (.string a1_1) := (blk_cell BK468.out 1).trans rfl; have hcz17_2 : w14.cell? ⟨gb468, 2, none⟩ = some (.int .i64 a1_2) := (blk_cell BK468.out 2).trans rfl; have hfz17_0 := blk_frozen BK468.out 0; have hfz17_1 := blk_frozen BK468.out 1; have hfz17_2 := blk_frozen BK468.out 2) | ((with_reducible refine gate_dst (N := 7) rfl ?_); refine Kd.R_lit k23 _ 23 ?hg (N := 7) ?hd (xs := ([(⟨a0_0, a0_1, a0_2⟩ : S23), (⟨a1_0, a1_1, a1_2⟩ : S23)] : List (S23))) (inner := [.bool a0_0, .string a0_1, .int .i64 a0_2, .bool a1_0, .string a1_1, .int .i64 a1_2]) (ok := fun _ => True) (okp := fun _ => True) ?hr ?hp (fun _ hk => hk) trivial (Below.refl _ _) (Nat.le_refl _) (by simp) ?_; (case hd => rfl); (case hg => rfl); (case hr => first | (go_simp; done) | (go_simp; rfl)); (case hp => exact (Reps.c3 (show Kd.M k23 _ _ _ (⟨a0_0, a0_1, a0_2⟩ : S23) [.bool a0_0, .string a0_1, .int .i64 a0_2] from (k23_mkM _ _ _ (⟨a0_0, a0_1, a0_2⟩ : S23) )) (Reps.c3 (show Kd.M k23 _ _ _ (⟨a1_0, a1_1, a1_2⟩ : S23) [.bool a1_0, .string a1_1, .int .i64 a1_2] from (k23_mkM _ _ _ (⟨a1_0, a1_1, a1_2⟩ : S23) )) (Reps.none _ _)))); intro v470 w18 ho19 hb hg_ hnew_; clear hg_ hnew_; (first | rw [← Ny469.out] at ho19 | (simp only [Int.reduceToNat] at ho19; rw [← Ny469.out] at ho19)); have n0_ := Aside0.mk (Kd.R_lower (Kd.R_newB (Kd.R_newB ho19 (g := gb467) (o := .cells #[.bool a0_0, .string a0_1, .int .i64 a0_2] 23 (0, 0)) (by (with_reducible repeat (first | refine blk_drewN ?_ _ | refine blk_drew ?_ | refine blk_alloc ?_ _)); exact BK467.out)) (g := gb468) (o := .cells #[.bool a1_0, .string a1_1, .int .i64 a1_2] 23 (0, 0)) (by (with_reducible repeat (first | refine blk_drewN ?_ _ | refine blk_drew ?_ | refine blk_alloc ?_ _)); exact BK468.out)) (below_size (by repeat (first | (with_reducible first | exact HB.out | apply below_alloc | apply pw_below_drewN | apply below_drew1 | refine below_set ?_ GE467.out | refine below_set ?_ GE468.out) | exact HB.out)))); have n1_ := Aside0.mk (blk_below (g := gb467) (o := .cells #[.bool a0_0, .string a0_1, .int .i64 a0_2] 23 (0, 0)) (by (with_reducible repeat (first | refine blk_drewN ?_ _ | refine blk_drew ?_ | refine blk_alloc ?_ _)); exact BK467.out) hb); have n2_ := Aside0.mk (blk_below (g := gb468) (o := .cells #[.bool a1_0, .string a1_1, .int .i64 a1_2] 23 (0, 0)) (by (with_reducible repeat (first | refine blk_drewN ?_ _ | refine blk_drew ?_ | refine blk_alloc ?_ _)); exact BK468.out) hb); have n3_ := Aside0.mk (below_step (by repeat (first | (with_reducible first | exact HB.out | apply below_alloc | apply pw_below_drewN | apply below_drew1 | refine below_set ?_ GE467.out | refine below_set ?_ GE468.out) | exact HB.out)) hb); clear BK467; clear BK468; clear HB; have HO471 := n0_; have BK467 := n1_; have BK468 := n2_; have HB := n3_; clear n0_ n1_ n2_ n3_; clear hb ho19; obtain ⟨Ao20, co20, eo20⟩ := Kd.R_slice HO471.out; subst eo20) | ((with_reducible refine gate_callee (f := 32) rfl ?_); refine goesL_ (some 8) rfl rfl Tryd.func32 (by kernel_rfl) rfl #[.slice Ao20 y469.length co20] rfl (by (try simp only [List.map_toArray]); (try simp only [List.map_cons]); (try simp only [List.map_nil]); first | done | rfl | (simp only [List.length_drop, List.length_take]; rfl)) ?_; (with_reducible refine (figureheadlaw06_good.calls k _ _ y469 true _ ?side1 ?side2 A3.out).mono ?_); (case side1 => repeat (first | exact (Kd.R_reads' HO471.out).2.2 | (with_reducible refine Kd.C_alloc ?_ _) | (with_reducible refine Kd.C_drewN ?_ _) | (with_reducible refine Kd.C_drew ?_))); (case side2 => exact (Kd.R_reads' HO471.out).2.1); rintro e w21 ⟨rfl, hb⟩; refine ⟨_, rfl, ?_⟩; have n0_ := Aside0.mk (Kd.R_below (by (with_reducible repeat (first | apply Kd.R_alloc | apply Kd.R_drewN | apply Kd.R_drew)); exact HO471.out) hb); have n1_ := Aside0.mk (blk_below (g := gb467) (o := .cells #[.bool a0_0, .string a0_1, .int .i64 a0_2] 23 (0, 0)) (by (with_reducible repeat (first | refine blk_drewN ?_ _ | refine blk_drew ?_ | refine blk_alloc ?_ _)); exact BK467.out) hb); have n2_ := Aside0.mk (blk_below (g := gb468) (o := .cells #[.bool a1_0, .string a1_1, .int .i64 a1_2] 23 (0, 0)) (by (with_reducible repeat (first | refine blk_drewN ?_ _ | refine blk_drew ?_ | refine blk_alloc ?_ _)); exact BK468.out) hb); have n3_ := Aside0.mk (below_step (by repeat (first | (with_reducible first | exact HB.out | apply below_alloc | apply pw_below_drewN | apply below_drew1 | refine below_set ?_ GE467.out | refine below_set ?_ GE468.out) | exact HB.out)) hb); clear HO471; clear BK467; clear BK468; clear HB; have HO471 := n0_; have BK467 := n1_; have BK468 := n2_; have HB := n3_; clear n0_ n1_ n2_ n3_; (try clear hb); (try clear hb2); (try clear hk); (try clear hi)))
        have n0_ := Aside0.mk (Kd.R_drew HO471.out)
        have n1_ := Aside0.mk (blk_drew BK467.out)
        have n2_ := Aside0.mk (blk_drew BK468.out)
        have n3_ := Aside0.mk (below_drew1 HB.out)
        clear HO471
        clear BK467
        clear BK468
        clear HB
        have HO471 := n0_
        have BK467 := n1_
        have BK468 := n2_
        have HB := n3_
        clear n0_ n1_ n2_ n3_
        refine start_ (n := 21) (S := fun w' => w'.cell? ⟨gb467, 0, none⟩ = some (.bool a0_0) ∧ w'.cell? ⟨gb467, 1, none⟩ = some (.string a0_1) ∧ w'.cell? ⟨gb467, 2, none⟩ = some (.int .i64 a0_2) ∧ w'.cell? ⟨gb468, 0, none⟩ = some (.bool a1_0) ∧ w'.cell? ⟨gb468, 1, none⟩ = some (.string a1_1) ∧ w'.cell? ⟨gb468, 2, none⟩ = some (.int .i64 a1_2)) (ds := []) #[false, false, false, false, false, false, false, false, false, false, false, false, false, false, false, false, false, false, false, false, false] (by kernel_rfl) rfl rfl ⟨(blk_cell BK467.out 0).trans rfl, (blk_cell BK467.out 1).trans rfl, (blk_cell BK467.out 2).trans rfl, (blk_cell BK468.out 0).trans rfl, (blk_cell BK468.out 1).trans rfl, (blk_cell BK468.out 2).trans rfl⟩ (fun hHeld => ?_); refine with_tabW figureheadlaw06_ArithAdds.tab3 figureheadlaw06_ArithAdds.bits3 (fun HT_ HW_ => ?_)
        generalize w21.drew = w22 at HO471 BK467 BK468 HB hHeld ⊢
        refine one_ (i := 0) (N := some 11) #[true, false, false, false, false, false, false, false, false, false, false, false, false, false, false, false, false, false, false, false, false] rfl rfl (one_of HT_.out (by kernel_rfl)) (by decide) (fun K hK => ?_)
        refine goes_ Tryd.func33 (by kernel_rfl) rfl #[] (by rfl) rfl rfl (by (try simp only [List.map_toArray]); (try simp only [List.map_cons]); (try simp only [List.map_nil]); first | done | rfl | (simp only [List.length_drop, List.length_take]; rfl)) ?_
        with_reducible refine (figureheadlaw06_answers.calls k  true _ ?side1 ?side2 A5.out).mono ?_
        (case side1 => exact Fig.Glob.below HG.out (by repeat (first | (with_reducible first | exact HB.out | apply below_alloc | apply pw_below_drewN | apply below_drew1 | refine below_set ?_ GE467.out | refine below_set ?_ GE468.out) | exact HB.out)))
        (case side2 => exact ⟨by first | rfl | exact HT.out⟩)
        rintro e w23 ⟨rfl, hb⟩
        refine ⟨_, rfl, ?_⟩
        have n0_ := Aside0.mk (Kd.R_below (by (with_reducible repeat (first | apply Kd.R_alloc | apply Kd.R_drewN | apply Kd.R_drew)); exact HO471.out) hb)
        have n1_ := Aside0.mk (blk_below (g := gb467) (o := .cells #[.bool a0_0, .string a0_1, .int .i64 a0_2] 23 (0, 0)) (by (with_reducible repeat (first | refine blk_drewN ?_ _ | refine blk_drew ?_ | refine blk_alloc ?_ _)); exact BK467.out) hb)
        have n2_ := Aside0.mk (blk_below (g := gb468) (o := .cells #[.bool a1_0, .string a1_1, .int .i64 a1_2] 23 (0, 0)) (by (with_reducible repeat (first | refine blk_drewN ?_ _ | refine blk_drew ?_ | refine blk_alloc ?_ _)); exact BK468.out) hb)
        have n3_ := Aside0.mk (below_step (by repeat (first | (with_reducible first | exact HB.out | apply below_alloc | apply pw_below_drewN | apply below_drew1 | refine below_set ?_ GE467.out | refine below_set ?_ GE468.out) | exact HB.out)) hb)
        clear HO471
        clear BK467
        clear BK468
        clear HB
        have HO471 := n0_
        have BK467 := n1_
        have BK468 := n2_
        have HB := n3_
        clear n0_ n1_ n2_ n3_
        (try clear hb)
        (try clear hb2)
        (try clear hk)
        (try clear hi)
        refine hK.out _ _ ⟨(blk_cell BK467.out 0).trans rfl, (blk_cell BK467.out 1).trans rfl, (blk_cell BK467.out 2).trans rfl, (blk_cell BK468.out 0).trans rfl, (blk_cell BK468.out 1).trans rfl, (blk_cell BK468.out 2).trans rfl⟩ (fun hHeld => ?_)
        clear hK K
        refine norm_ (a' := ?_) ?_ ?_
        rotate_left
        · show Act.put _ (some 11) _ = _
          simp only [Act.put, List.setIfInBounds_toArray, List.set_cons_zero, List.set_cons_succ]; (try simp only [i64_w]); (try simp only [i32_w])
          rfl
        refine pure_ (i := 1) (N := some 12) (v := ?_) (a' := ?_) #[true, true, false, false, false, false, false, false, false, false, false, false, false, false, false, false, false, false, false, false, false] rfl rfl (any_of HT_.out (by kernel_rfl)) (fun _ _ _ h => h) (Or.inl ⟨by rfl, ?_⟩) ?_ ?_
        rotate_left
        · intro w'
          go_simp
          with_reducible rfl
        rotate_left
        · simp only [Act.put, List.setIfInBounds_toArray, List.set_cons_zero, List.set_cons_succ]; (try simp only [i64_w]); (try simp only [i32_w])
          rfl
        refine take_ (i := 2) (N := some 13) (v := ?_) (a' := ?_) #[true, true, true, false, false, false, false, false, false, false, false, false, false, false, false, false, false, false, false, false, false] rfl rfl (take_ofW HT_.out HW_.out (by kernel_rfl)) (fun _ _ _ h => h) (Or.inl ⟨by rfl, ?_⟩) hHeld ?_ ?_
        rotate_left
        · rintro w' ⟨s0, s1, s2, s3, s4, s5⟩
          go_simp
          with_reducible rfl
        rotate_left
        · simp only [Act.put, List.setIfInBounds_toArray, List.set_cons_zero, List.set_cons_succ]; (try simp only [i64_w]); (try simp only [i32_w])
          rfl
        refine take_ (i := 3) (N := some 14) (v := ?_) (a' := ?_) #[true, true, true, true, false, false, false, false, false, false, false, false, false, false, false, false, false, false, false, false, false] rfl rfl (take_ofW HT_.out HW_.out (by kernel_rfl)) (fun _ _ _ h => h) (Or.inl ⟨by rfl, ?_⟩) hHeld ?_ ?_
        rotate_left
        · rintro w' ⟨s0, s1, s2, s3, s4, s5⟩
          go_simp
          with_reducible rfl
        rotate_left
        · simp only [Act.put, List.setIfInBounds_toArray, List.set_cons_zero, List.set_cons_succ]; (try simp only [i64_w]); (try simp only [i32_w])
          rfl
        refine take_ (i := 5) (N := some 16) (v := ?_) (a' := ?_) #[true, true, true, true, false, true, false, false, false, false, false, false, false, false, false, false, false, false, false, false, false] rfl rfl (take_ofW HT_.out HW_.out (by kernel_rfl)) (fun _ _ _ h => h) (Or.inl ⟨by rfl, ?_⟩) hHeld ?_ ?_
        rotate_left
        · rintro w' ⟨s0, s1, s2, s3, s4, s5⟩
          go_simp
          with_reducible rfl
        rotate_left
        · simp only [Act.put, List.setIfInBounds_toArray, List.set_cons_zero, List.set_cons_succ]; (try simp only [i64_w]); (try simp only [i32_w])
          rfl
        refine take_ (i := 6) (N := some 17) (v := ?_) (a' := ?_) #[true, true, true, true, false, true, true, false, false, false, false, false, false, false, false, false, false, false, false, false, false] rfl rfl (take_ofW HT_.out HW_.out (by kernel_rfl)) (fun _ _ _ h => h) (Or.inl ⟨by rfl, ?_⟩) hHeld ?_ ?_
        rotate_left
        · rintro w' ⟨s0, s1, s2, s3, s4, s5⟩
          go_simp
          with_reducible rfl
        rotate_left
        · simp only [Act.put, List.setIfInBounds_toArray, List.set_cons_zero, List.set_cons_succ]; (try simp only [i64_w]); (try simp only [i32_w])
          rfl
        refine one_ (i := 4) (N := some 15) #[true, true, true, true, true, true, true, false, false, false, false, false, false, false, false, false, false, false, false, false, false] rfl rfl (one_of HT_.out (by kernel_rfl)) (by decide) (fun K hK => ?_)
        refine goes_ Tryd.func34 (by kernel_rfl) rfl #[.agg #[.bool a0_0, .string a0_1, .int .i64 a0_2], .agg #[.bool a1_0, .string a1_1, .int .i64 a1_2]] (by rfl) rfl rfl (by (try simp only [List.map_toArray]); (try simp only [List.map_cons]); (try simp only [List.map_nil]); first | done | rfl | (simp only [List.length_drop, List.length_take]; rfl)) ?_
        with_reducible refine (arith_Add.calls a0_0 a0_1 a0_2 a1_0 a1_1 a1_2 t475 t476 t477 _ ?side1 A7.out).mono ?_
        (case side1 => exact Fig.Glob.below HG.out (by repeat (first | (with_reducible first | exact HB.out | apply below_alloc | apply pw_below_drewN | apply below_drew1 | refine below_set ?_ GE467.out | refine below_set ?_ GE468.out) | exact HB.out)))
        rintro e w24 ⟨rfl, hb⟩
        refine ⟨_, rfl, ?_⟩
        have n0_ := Aside0.mk (Kd.R_below (by (with_reducible repeat (first | apply Kd.R_alloc | apply Kd.R_drewN | apply Kd.R_drew)); exact HO471.out) hb)
        have n1_ := Aside0.mk (blk_below (g := gb467) (o := .cells #[.bool a0_0, .string a0_1, .int .i64 a0_2] 23 (0, 0)) (by (with_reducible repeat (first | refine blk_drewN ?_ _ | refine blk_drew ?_ | refine blk_alloc ?_ _)); exact BK467.out) hb)
        have n2_ := Aside0.mk (blk_below (g := gb468) (o := .cells #[.bool a1_0, .string a1_1, .int .i64 a1_2] 23 (0, 0)) (by (with_reducible repeat (first | refine blk_drewN ?_ _ | refine blk_drew ?_ | refine blk_alloc ?_ _)); exact BK468.out) hb)
        have n3_ := Aside0.mk (below_step (by repeat (first | (with_reducible first | exact HB.out | apply below_alloc | apply pw_below_drewN | apply below_drew1 | refine below_set ?_ GE467.out | refine below_set ?_ GE468.out) | exact HB.out)) hb)
        clear HO471
        clear BK467
        clear BK468
        clear HB
        have HO471 := n0_
        have BK467 := n1_
        have BK468 := n2_
        have HB := n3_
        clear n0_ n1_ n2_ n3_
        (try clear hb)
        (try clear hb2)
        (try clear hk)
        (try clear hi)
        refine hK.out _ _ ⟨(blk_cell BK467.out 0).trans rfl, (blk_cell BK467.out 1).trans rfl, (blk_cell BK467.out 2).trans rfl, (blk_cell BK468.out 0).trans rfl, (blk_cell BK468.out 1).trans rfl, (blk_cell BK468.out 2).trans rfl⟩ (fun hHeld => ?_)
        clear hK K
        refine norm_ (a' := ?_) ?_ ?_
        rotate_left
        · show Act.put _ (some 15) _ = _
          simp only [Act.put, List.setIfInBounds_toArray, List.set_cons_zero, List.set_cons_succ]; (try simp only [i64_w]); (try simp only [i32_w])
          rfl
        refine one_ (i := 7) (N := some 18) #[true, true, true, true, true, true, true, true, false, false, false, false, false, false, false, false, false, false, false, false, false] rfl rfl (one_of HT_.out (by kernel_rfl)) (by decide) (fun K hK => ?_)
        refine goes_ Tryd.func35 (by kernel_rfl) rfl #[.agg #[.bool a0_0, .string a0_1, .int .i64 a0_2], .agg #[.bool a1_0, .string a1_1, .int .i64 a1_2]] (by rfl) rfl rfl (by (try simp only [List.map_toArray]); (try simp only [List.map_cons]); (try simp only [List.map_nil]); first | done | rfl | (simp only [List.length_drop, List.length_take]; rfl)) ?_
        with_reducible refine (figureheadref05_Sum.calls k a0_0 a0_1 a0_2 a1_0 a1_1 a1_2 t478 t479 t480 _ A8.out).mono ?_
        rintro e w25 ⟨rfl, hb⟩
        refine ⟨_, rfl, ?_⟩
        have n0_ := Aside0.mk (Kd.R_below (by (with_reducible repeat (first | apply Kd.R_alloc | apply Kd.R_drewN | apply Kd.R_drew)); exact HO471.out) hb)
        have n1_ := Aside0.mk (blk_below (g := gb467) (o := .cells #[.bool a0_0, .string a0_1, .int .i64 a0_2] 23 (0, 0)) (by (with_reducible repeat (first | refine blk_drewN ?_ _ | refine blk_drew ?_ | refine blk_alloc ?_ _)); exact BK467.out) hb)
        have n2_ := Aside0.mk (blk_below (g := gb468) (o := .cells #[.bool a1_0, .string a1_1, .int .i64 a1_2] 23 (0, 0)) (by (with_reducible repeat (first | refine blk_drewN ?_ _ | refine blk_drew ?_ | refine blk_alloc ?_ _)); exact BK468.out) hb)
        have n3_ := Aside0.mk (below_step (by repeat (first | (with_reducible first | exact HB.out | apply below_alloc | apply pw_below_drewN | apply below_drew1 | refine below_set ?_ GE467.out | refine below_set ?_ GE468.out) | exact HB.out)) hb)
        clear HO471
        clear BK467
        clear BK468
        clear HB
        have HO471 := n0_
        have BK467 := n1_
        have BK468 := n2_
        have HB := n3_
        clear n0_ n1_ n2_ n3_
        (try clear hb)
        (try clear hb2)
        (try clear hk)
        (try clear hi)
        refine hK.out _ _ ⟨(blk_cell BK467.out 0).trans rfl, (blk_cell BK467.out 1).trans rfl, (blk_cell BK467.out 2).trans rfl, (blk_cell BK468.out 0).trans rfl, (blk_cell BK468.out 1).trans rfl, (blk_cell BK468.out 2).trans rfl⟩ (fun hHeld => ?_)
        clear hK K
        refine norm_ (a' := ?_) ?_ ?_
        rotate_left
        · show Act.put _ (some 18) _ = _
          simp only [Act.put, List.setIfInBounds_toArray, List.set_cons_zero, List.set_cons_succ]; (try simp only [i64_w]); (try simp only [i32_w])
          rfl
        refine pure_ (i := 8) (N := some 19) (v := ?_) (a' := ?_) #[true, true, true, true, true, true, true, true, true, false, false, false, false, false, false, false, false, false, false, false, false] rfl rfl (any_of HT_.out (by kernel_rfl)) (fun _ _ _ h => h) (Or.inl ⟨by rfl, ?_⟩) ?_ ?_
        rotate_left
        · intro w'
          go_simp
          with_reducible rfl
        rotate_left
        · simp only [Act.put, List.setIfInBounds_toArray, List.set_cons_zero, List.set_cons_succ]; (try simp only [i64_w]); (try simp only [i32_w])
          rfl
        refine pure_ (i := 9) (N := some 20) (v := ?_) (a' := ?_) #[true, true, true, true, true, true, true, true, true, true, false, false, false, false, false, false, false, false, false, false, false] rfl rfl (any_of HT_.out (by kernel_rfl)) (fun _ _ _ h => h) (Or.inl ⟨by rfl, ?_⟩) ?_ ?_
        rotate_left
        · intro w'
          go_simp
          with_reducible rfl
        rotate_left
        · simp only [Act.put, List.setIfInBounds_toArray, List.set_cons_zero, List.set_cons_succ]; (try simp only [i64_w]); (try simp only [i32_w])
          rfl
        refine pure_ (i := 10) (N := some 21) (v := ?_) (a' := ?_) #[true, true, true, true, true, true, true, true, true, true, true, false, false, false, false, false, false, false, false, false, false] rfl rfl (any_of HT_.out (by kernel_rfl)) (fun _ _ _ h => h) (Or.inl ⟨by rfl, ?_⟩) ?_ ?_
        rotate_left
        · intro w'
          go_simp
          with_reducible rfl
        rotate_left
        · simp only [Act.put, List.setIfInBounds_toArray, List.set_cons_zero, List.set_cons_succ]; (try simp only [i64_w]); (try simp only [i32_w])
          rfl
        refine take_ (i := 11) (N := some 22) (v := ?_) (a' := ?_) #[true, true, true, true, true, true, true, true, true, true, true, true, false, false, false, false, false, false, false, false, false] rfl rfl (take_ofW HT_.out HW_.out (by kernel_rfl)) (fun _ _ _ h => h) (Or.inl ⟨by rfl, ?_⟩) hHeld ?_ ?_
        rotate_left
        · rintro w' ⟨s0, s1, s2, s3, s4, s5⟩
          go_simp
          with_reducible rfl
        rotate_left
        · simp only [Act.put, List.setIfInBounds_toArray, List.set_cons_zero, List.set_cons_succ]; (try simp only [i64_w]); (try simp only [i32_w])
          rfl
        refine take_ (i := 12) (N := some 23) (v := ?_) (a' := ?_) #[true, true, true, true, true, true, true, true, true, true, true, true, true, false, false, false, false, false, false, false, false] rfl rfl (take_ofW HT_.out HW_.out (by kernel_rfl)) (fun _ _ _ h => h) (Or.inl ⟨by rfl, ?_⟩) hHeld ?_ ?_
        rotate_left
        · rintro w' ⟨s0, s1, s2, s3, s4, s5⟩
          go_simp
          with_reducible rfl
        rotate_left
        · simp only [Act.put, List.setIfInBounds_toArray, List.set_cons_zero, List.set_cons_succ]; (try simp only [i64_w]); (try simp only [i32_w])
          rfl
        refine take_ (i := 14) (N := some 25) (v := ?_) (a' := ?_) #[true, true, true, true, true, true, true, true, true, true, true, true, true, false, true, false, false, false, false, false, false] rfl rfl (take_ofW HT_.out HW_.out (by kernel_rfl)) (fun _ _ _ h => h) (Or.inl ⟨by rfl, ?_⟩) hHeld ?_ ?_
        rotate_left
        · rintro w' ⟨s0, s1, s2, s3, s4, s5⟩
          go_simp
          with_reducible rfl
        rotate_left
        · simp only [Act.put, List.setIfInBounds_toArray, List.set_cons_zero, List.set_cons_succ]; (try simp only [i64_w]); (try simp only [i32_w])
          rfl
        refine take_ (i := 15) (N := some 26) (v := ?_) (a' := ?_) #[true, true, true, true, true, true, true, true, true, true, true, true, true, false, true, true, false, false, false, false, false] rfl rfl (take_ofW HT_.out HW_.out (by kernel_rfl)) (fun _ _ _ h => h) (Or.inl ⟨by rfl, ?_⟩) hHeld ?_ ?_
        rotate_left
        · rintro w' ⟨s0, s1, s2, s3, s4, s5⟩
          go_simp
          with_reducible rfl
        rotate_left
        · simp only [Act.put, List.setIfInBounds_toArray, List.set_cons_zero, List.set_cons_succ]; (try simp only [i64_w]); (try simp only [i32_w])
          rfl
        refine one_ (i := 13) (N := some 24) #[true, true, true, true, true, true, true, true, true, true, true, true, true, true, true, true, false, false, false, false, false] rfl rfl (one_of HT_.out (by kernel_rfl)) (by decide) (fun K hK => ?_)
        refine goes_ Tryd.func36 (by kernel_rfl) rfl #[.agg #[.bool a0_0, .string a0_1, .int .i64 a0_2], .agg #[.bool a1_0, .string a1_1, .int .i64 a1_2]] (by rfl) rfl rfl (by (try simp only [List.map_toArray]); (try simp only [List.map_cons]); (try simp only [List.map_nil]); first | done | rfl | (simp only [List.length_drop, List.length_take]; rfl)) ?_
        with_reducible refine (arith_Sub.calls a0_0 a0_1 a0_2 a1_0 a1_1 a1_2 t481 t482 t483 _ ?side1 A10.out).mono ?_
        (case side1 => exact Fig.Glob.below HG.out (by repeat (first | (with_reducible first | exact HB.out | apply below_alloc | apply pw_below_drewN | apply below_drew1 | refine below_set ?_ GE467.out | refine below_set ?_ GE468.out) | exact HB.out)))
        rintro e w26 ⟨rfl, hb⟩
        refine ⟨_, rfl, ?_⟩
        have n0_ := Aside0.mk (Kd.R_below (by (with_reducible repeat (first | apply Kd.R_alloc | apply Kd.R_drewN | apply Kd.R_drew)); exact HO471.out) hb)
        have n1_ := Aside0.mk (blk_below (g := gb467) (o := .cells #[.bool a0_0, .string a0_1, .int .i64 a0_2] 23 (0, 0)) (by (with_reducible repeat (first | refine blk_drewN ?_ _ | refine blk_drew ?_ | refine blk_alloc ?_ _)); exact BK467.out) hb)
        have n2_ := Aside0.mk (blk_below (g := gb468) (o := .cells #[.bool a1_0, .string a1_1, .int .i64 a1_2] 23 (0, 0)) (by (with_reducible repeat (first | refine blk_drewN ?_ _ | refine blk_drew ?_ | refine blk_alloc ?_ _)); exact BK468.out) hb)
        have n3_ := Aside0.mk (below_step (by repeat (first | (with_reducible first | exact HB.out | apply below_alloc | apply pw_below_drewN | apply below_drew1 | refine below_set ?_ GE467.out | refine below_set ?_ GE468.out) | exact HB.out)) hb)
        clear HO471
        clear BK467
        clear BK468
        clear HB
        have HO471 := n0_
        have BK467 := n1_
        have BK468 := n2_
        have HB := n3_
        clear n0_ n1_ n2_ n3_
        (try clear hb)
        (try clear hb2)
        (try clear hk)
        (try clear hi)
        refine hK.out _ _ ⟨(blk_cell BK467.out 0).trans rfl, (blk_cell BK467.out 1).trans rfl, (blk_cell BK467.out 2).trans rfl, (blk_cell BK468.out 0).trans rfl, (blk_cell BK468.out 1).trans rfl, (blk_cell BK468.out 2).trans rfl⟩ (fun hHeld => ?_)
        clear hK K
        refine norm_ (a' := ?_) ?_ ?_
        rotate_left
        · show Act.put _ (some 24) _ = _
          simp only [Act.put, List.setIfInBounds_toArray, List.set_cons_zero, List.set_cons_succ]; (try simp only [i64_w]); (try simp only [i32_w])
          rfl
        refine one_ (i := 16) (N := some 27) #[true, true, true, true, true, true, true, true, true, true, true, true, true, true, true, true, true, false, false, false, false] rfl rfl (one_of HT_.out (by kernel_rfl)) (by decide) (fun K hK => ?_)
        refine goes_ Tryd.func37 (by kernel_rfl) rfl #[.agg #[.bool a1_0, .string a1_1, .int .i64 a1_2]] (by rfl) rfl rfl (by (try simp only [List.map_toArray]); (try simp only [List.map_cons]); (try simp only [List.map_nil]); first | done | rfl | (simp only [List.length_drop, List.length_take]; rfl)) ?_
        with_reducible refine (figureheadref05_Turn.calls a1_0 a1_1 a1_2 t484 t485 t486 _ A11.out).mono ?_
        rintro e w27 ⟨rfl, hb⟩
        refine ⟨_, rfl, ?_⟩
        have n0_ := Aside0.mk (Kd.R_below (by (with_reducible repeat (first | apply Kd.R_alloc | apply Kd.R_drewN | apply Kd.R_drew)); exact HO471.out) hb)
        have n1_ := Aside0.mk (blk_below (g := gb467) (o := .cells #[.bool a0_0, .string a0_1, .int .i64 a0_2] 23 (0, 0)) (by (with_reducible repeat (first | refine blk_drewN ?_ _ | refine blk_drew ?_ | refine blk_alloc ?_ _)); exact BK467.out) hb)
        have n2_ := Aside0.mk (blk_below (g := gb468) (o := .cells #[.bool a1_0, .string a1_1, .int .i64 a1_2] 23 (0, 0)) (by (with_reducible repeat (first | refine blk_drewN ?_ _ | refine blk_drew ?_ | refine blk_alloc ?_ _)); exact BK468.out) hb)
        have n3_ := Aside0.mk (below_step (by repeat (first | (with_reducible first | exact HB.out | apply below_alloc | apply pw_below_drewN | apply below_drew1 | refine below_set ?_ GE467.out | refine below_set ?_ GE468.out) | exact HB.out)) hb)
        clear HO471
        clear BK467
        clear BK468
        clear HB
        have HO471 := n0_
        have BK467 := n1_
        have BK468 := n2_
        have HB := n3_
        clear n0_ n1_ n2_ n3_
        (try clear hb)
        (try clear hb2)
        (try clear hk)
        (try clear hi)
        refine hK.out _ _ ⟨(blk_cell BK467.out 0).trans rfl, (blk_cell BK467.out 1).trans rfl, (blk_cell BK467.out 2).trans rfl, (blk_cell BK468.out 0).trans rfl, (blk_cell BK468.out 1).trans rfl, (blk_cell BK468.out 2).trans rfl⟩ (fun hHeld => ?_)
        clear hK K
        refine norm_ (a' := ?_) ?_ ?_
        rotate_left
        · show Act.put _ (some 27) _ = _
          simp only [Act.put, List.setIfInBounds_toArray, List.set_cons_zero, List.set_cons_succ]; (try simp only [i64_w]); (try simp only [i32_w])
          rfl
        refine one_ (i := 17) (N := some 28) #[true, true, true, true, true, true, true, true, true, true, true, true, true, true, true, true, true, true, false, false, false] rfl rfl (one_of HT_.out (by kernel_rfl)) (by decide) (fun K hK => ?_)
        refine goes_ Tryd.func35 (by kernel_rfl) rfl #[.agg #[.bool a0_0, .string a0_1, .int .i64 a0_2], .agg #[.bool t484, .string t485, .int .i64 t486]] (by rfl) rfl rfl (by (try simp only [List.map_toArray]); (try simp only [List.map_cons]); (try simp only [List.map_nil]); first | done | rfl | (simp only [List.length_drop, List.length_take]; rfl)) ?_
        with_reducible refine (figureheadref05_Sum.calls k a0_0 a0_1 a0_2 t484 t485 t486 t487 t488 t489 _ A12.out).mono ?_
        rintro e w28 ⟨rfl, hb⟩
        refine ⟨_, rfl, ?_⟩
        have n0_ := Aside0.mk (Kd.R_below (by (with_reducible repeat (first | apply Kd.R_alloc | apply Kd.R_drewN | apply Kd.R_drew)); exact HO471.out) hb)
        have n1_ := Aside0.mk (blk_below (g := gb467) (o := .cells #[.bool a0_0, .string a0_1, .int .i64 a0_2] 23 (0, 0)) (by (with_reducible repeat (first | refine blk_drewN ?_ _ | refine blk_drew ?_ | refine blk_alloc ?_ _)); exact BK467.out) hb)
        have n2_ := Aside0.mk (blk_below (g := gb468) (o := .cells #[.bool a1_0, .string a1_1, .int .i64 a1_2] 23 (0, 0)) (by (with_reducible repeat (first | refine blk_drewN ?_ _ | refine blk_drew ?_ | refine blk_alloc ?_ _)); exact BK468.out) hb)
        have n3_ := Aside0.mk (below_step (by repeat (first | (with_reducible first | exact HB.out | apply below_alloc | apply pw_below_drewN | apply below_drew1 | refine below_set ?_ GE467.out | refine below_set ?_ GE468.out) | exact HB.out)) hb)
        clear HO471
        clear BK467
        clear BK468
        clear HB
        have HO471 := n0_
        have BK467 := n1_
        have BK468 := n2_
        have HB := n3_
        clear n0_ n1_ n2_ n3_
        (try clear hb)
        (try clear hb2)
        (try clear hk)
        (try clear hi)
        refine hK.out _ _ ⟨(blk_cell BK467.out 0).trans rfl, (blk_cell BK467.out 1).trans rfl, (blk_cell BK467.out 2).trans rfl, (blk_cell BK468.out 0).trans rfl, (blk_cell BK468.out 1).trans rfl, (blk_cell BK468.out 2).trans rfl⟩ (fun hHeld => ?_)
        clear hK K
        refine norm_ (a' := ?_) ?_ ?_
        rotate_left
        · show Act.put _ (some 28) _ = _
          simp only [Act.put, List.setIfInBounds_toArray, List.set_cons_zero, List.set_cons_succ]; (try simp only [i64_w]); (try simp only [i32_w])
          rfl
        refine pure_ (i := 18) (N := some 29) (v := ?_) (a' := ?_) #[true, true, true, true, true, true, true, true, true, true, true, true, true, true, true, true, true, true, true, false, false] rfl rfl (any_of HT_.out (by kernel_rfl)) (fun _ _ _ h => h) (Or.inl ⟨by rfl, ?_⟩) ?_ ?_
        rotate_left
        · intro w'
          go_simp
          with_reducible rfl
        rotate_left
        · simp only [Act.put, List.setIfInBounds_toArray, List.set_cons_zero, List.set_cons_succ]; (try simp only [i64_w]); (try simp only [i32_w])
          rfl
        refine pure_ (i := 19) (N := some 30) (v := ?_) (a' := ?_) #[true, true, true, true, true, true, true, true, true, true, true, true, true, true, true, true, true, true, true, true, false] rfl rfl (any_of HT_.out (by kernel_rfl)) (fun _ _ _ h => h) (Or.inl ⟨by rfl, ?_⟩) ?_ ?_
        rotate_left
        · intro w'
          go_simp
          with_reducible rfl
        rotate_left
        · simp only [Act.put, List.setIfInBounds_toArray, List.set_cons_zero, List.set_cons_succ]; (try simp only [i64_w]); (try simp only [i32_w])
          rfl
        refine pure_ (i := 20) (N := some 4) (v := ?_) (a' := ?_) #[true, true, true, true, true, true, true, true, true, true, true, true, true, true, true, true, true, true, true, true, true] rfl rfl (any_of HT_.out (by kernel_rfl)) (fun _ _ _ h => h) (Or.inl ⟨by rfl, ?_⟩) ?_ ?_
        rotate_left
        · intro w'
          go_simp
          with_reducible rfl
        rotate_left
        · simp only [Act.put, List.setIfInBounds_toArray, List.set_cons_zero, List.set_cons_succ]; (try simp only [i64_w]); (try simp only [i32_w])
          rfl
        refine done_ (done_of HT_.out (by kernel_rfl)) ?_
        try go_wp2
        go_ret
        exact ⟨by first | rfl | (simp [errW_none, errW_some] <;> rfl) | (simp [*, errW_none, errW_some] <;> rfl), by repeat (first | (with_reducible first | exact HB.out | apply below_alloc | apply pw_below_drewN | apply below_drew1 | refine below_set ?_ GE467.out | refine below_set ?_ GE468.out) | exact HB.out)⟩
      · rw [if_neg c9] at H
        have c9b0 : (t475 == t478 && (t476.toList == t479.toList && (t477 == t480))) = false := by simpa using c9
        (try (have c9b1 : decide (t475 = t478 && (t476.toList == t479.toList && (t477 == t480))) = false := by simpa using c9))
        (try (have c9b2 : (t475 == t478 && (t476.toList == t479.toList && (t477 == t480))) = false := by simpa using c9))
        (try (have c9b3 : ¬ (t475 = t478 && (t476.toList == t479.toList && (t477 == t480))) := by simpa using c9))
        clear c9
        exact absurd ((Option.some.inj H).trans HT.out) (by decide)
    · replace c6 := Bool.eq_false_iff.mpr c6
      subst c6
      have H1 : (some false) = some r := by rw [if_neg (show ¬ (false = true) by decide)] at H; exact H
      clear H
      have H := H1
      clear H1
      exact absurd ((Option.some.inj H).trans HT.out) (by decide)
  · replace c4 := Bool.eq_false_iff.mpr c4
    subst c4
    have H1 : ((figureheadlaw06_answers.f k).bind fun t473 => (some t473)) = some r := by rw [if_neg (show ¬ (false = true) by decide)] at H; exact H
    clear H
    have H := H1
    clear H1
    replace H := Option.bind_eq_some_iff.mp H
    obtain ⟨t473, A290, H⟩ := H
    replace H : (some t473) = some r := H
    have A29 := Aside0.mk A290
    clear A290
    obtain rfl := Option.some.inj H
    go_enter Tryd.func10, Tryd.ntmps10
    go_wp2_with (first | ((with_reducible refine gate_dst (N := 2) rfl ?_); refine box_event ?hg (N := 2) ?hd (cs := #[.bool a0_0, .string a0_1, .int .i64 a0_2]) (t := 23) ?hr ?_; (case hd => rfl); (case hg => rfl); (case hr => first | (go_simp; done) | (go_simp; rfl)); intro gb467 hg w30 hbox hb; have n0_ := Aside0.mk (below_step (by repeat (first | (with_reducible first | exact HB.out | apply below_alloc | apply pw_below_drewN | apply below_drew1) | exact HB.out)) hb); have n1_ := Aside0.mk (hbox); have n2_ := Aside0.mk ((by rw [hg]; exact (below_size (by repeat (first | (with_reducible first | exact HB.out | apply below_alloc | apply pw_below_drewN | apply below_drew1) | exact HB.out))) : w.heap.size ≤ gb467)); have n3_ := Aside0.mk ((by rw [hg]; exact (below_size (by repeat (first | (with_reducible first | exact HB.out | apply below_alloc | apply pw_below_drewN | apply below_drew1) | exact HB.out))) : w.heap.size ≤ gb467)); clear HB; have HB := n0_; have BK467 := n1_; have GW467 := n2_; have GE467 := n3_; clear n0_ n1_ n2_ n3_; clear hb hbox hg) | ((with_reducible refine gate_dst (N := 3) rfl ?_); refine box_event ?hg (N := 3) ?hd (cs := #[.bool a1_0, .string a1_1, .int .i64 a1_2]) (t := 23) ?hr ?_; (case hd => rfl); (case hg => rfl); (case hr => first | (go_simp; done) | (go_simp; rfl)); intro gb468 hg w31 hbox hb; have n0_ := Aside0.mk (blk_below (g := gb467) (o := .cells #[.bool a0_0, .string a0_1, .int .i64 a0_2] 23 (0, 0)) (by (with_reducible repeat (first | refine blk_drewN ?_ _ | refine blk_drew ?_ | refine blk_alloc ?_ _)); exact BK467.out) hb); have n1_ := Aside0.mk (below_step (by repeat (first | (with_reducible first | exact HB.out | apply below_alloc | apply pw_below_drewN | apply below_drew1 | refine below_set ?_ GE467.out) | exact HB.out)) hb); have n2_ := Aside0.mk (hbox); have n3_ := Aside0.mk ((by rw [hg]; exact (below_size (by repeat (first | (with_reducible first | exact HB.out | apply below_alloc | apply pw_below_drewN | apply below_drew1 | refine below_set ?_ GE467.out) | exact HB.out))) : w.heap.size ≤ gb468)); have n4_ := Aside0.mk ((by rw [hg]; exact (below_size (by repeat (first | (with_reducible first | exact HB.out | apply below_alloc | apply pw_below_drewN | apply below_drew1 | refine below_set ?_ GE467.out) | exact HB.out))) : w.heap.size ≤ gb468)); have n5_ := Aside0.mk ((by rw [hg]; exact Nat.ne_of_lt (blk_lt (g := gb467) (o := .cells #[.bool a0_0, .string a0_1, .int .i64 a0_2] 23 (0, 0)) (by (with_reducible repeat (first | refine blk_drewN ?_ _ | refine blk_drew ?_ | refine blk_alloc ?_ _)); exact BK467.out)) : gb467 ≠ gb468)); have n6_ := Aside0.mk ((by rw [hg]; exact Nat.ne_of_gt (blk_lt (g := gb467) (o := .cells #[.bool a0_0, .string a0_1, .int .i64 a0_2] 23 (0, 0)) (by (with_reducible repeat (first | refine blk_drewN ?_ _ | refine blk_drew ?_ | refine blk_alloc ?_ _)); exact BK467.out)) : gb468 ≠ gb467)); clear BK467; clear HB; have BK467 := n0_; have HB := n1_; have BK468 := n2_; have GW468 := n3_; have GE468 := n4_; have NB467_468 := n5_; have NB468_467 := n6_; clear n0_ n1_ n2_ n3_ n4_ n5_ n6_; clear hb hbox hg; have hnb32 := NB467_468.out; have hnc32 := NB468_467.out; have hcz33_0 : w31.cell? ⟨gb467, 0, none⟩ = some (.bool a0_0) := (blk_cell BK467.out 0).trans rfl; have hcz33_1 : w31.cell? ⟨gb467, 1, none⟩ = some (.string a0_1) := (blk_cell BK467.out 1).trans rfl; have hcz33_2 : w31.cell? ⟨gb467, 2, none⟩ = some (.int .i64 a0_2) := (blk_cell BK467.out 2).trans rfl; have hfz33_0 := blk_frozen BK467.out 0; have hfz33_1 := blk_frozen BK467.out 1; have hfz33_2 := blk_frozen BK467.out 2; have hcz34_0 : w31.cell? ⟨gb468, 0, none⟩ = some (.bool a1_0) := (blk_cell BK468.out 0).trans rfl; have hcz34_1 : w31.cell? ⟨gb468, 1, none⟩ = some (.string a1_1) := (blk_cell BK468.out 1).trans rfl; have hcz34_2 : w31.cell? ⟨gb468, 2, none⟩ = some (.int .i64 a1_2) := (blk_cell BK468.out 2).trans rfl; have hfz34_0 := blk_frozen BK468.out 0; have hfz34_1 := blk_frozen BK468.out 1; have hfz34_2 := blk_frozen BK468.out 2) | ((with_reducible refine gate_dst (N := 7) rfl ?_); refine Kd.R_lit k23 _ 23 ?hg (N := 7) ?hd (xs := ([(⟨a0_0, a0_1, a0_2⟩ : S23), (⟨a1_0, a1_1, a1_2⟩ : S23)] : List (S23))) (inner := [.bool a0_0, .string a0_1, .int .i64 a0_2, .bool a1_0, .string a1_1, .int .i64 a1_2]) (ok := fun _ => True) (okp := fun _ => True) ?hr ?hp (fun _ hk => hk) trivial (Below.refl _ _) (Nat.le_refl _) (by simp) ?_; (case hd => rfl); (case hg => rfl); (case hr => first | (go_simp; done) | (go_simp; rfl)); (case hp => exact (Reps.c3 (show Kd.M k23 _ _ _ (⟨a0_0, a0_1, a0_2⟩ : S23) [.bool a0_0, .string a0_1, .int .i64 a0_2] from (k23_mkM _ _ _ (⟨a0_0, a0_1, a0_2⟩ : S23) )) (Reps.c3 (show Kd.M k23 _ _ _ (⟨a1_0, a1_1, a1_2⟩ : S23) [.bool a1_0, .string a1_1, .int .i64 a1_2] from (k23_mkM _ _ _ (⟨a1_0, a1_1, a1_2⟩ : S23) )) (Reps.none _ _)))); intro v470 w35 ho36 hb hg_ hnew_; clear hg_ hnew_; (first | rw [← Ny469.out] at ho36 | (simp only [Int.reduceToNat] at ho36; rw [← Ny469.out] at ho36)); have n0_ := Aside0.mk (Kd.R_lower (Kd.R_newB (Kd.R_newB ho36 (g := gb467) (o := .cells #[.bool a0_0, .string a0_1, .int .i64 a0_2] 23 (0, 0)) (by (with_reducible repeat (first | refine blk_drewN ?_ _ | refine blk_drew ?_ | refine blk_alloc ?_ _)); exact BK467.out)) (g := gb468) (o := .cells #[.bool a1_0, .string a1_1, .int .i64 a1_2] 23 (0, 0)) (by (with_reducible repeat (first | refine blk_drewN ?_ _ | refine blk_drew ?_ | refine blk_alloc ?_ _)); exact BK468.out)) (below_size (by repeat (first | (with_reducible first | exact HB.out | apply below_alloc | apply pw_below_drewN | apply below_drew1 | refine below_set ?_ GE467.out | refine below_set ?_ GE468.out) | exact HB.out)))); have n1_ := Aside0.mk (blk_below (g := gb467) (o := .cells #[.bool a0_0, .string a0_1, .int .i64 a0_2] 23 (0, 0)) (by (with_reducible repeat (first | refine blk_drewN ?_ _ | refine blk_drew ?_ | refine blk_alloc ?_ _)); exact BK467.out) hb); have n2_ := Aside0.mk (blk_below (g := gb468) (o := .cells #[.bool a1_0, .string a1_1, .int .i64 a1_2] 23 (0, 0)) (by (with_reducible repeat (first | refine blk_drewN ?_ _ | refine blk_drew ?_ | refine blk_alloc ?_ _)); exact BK468.out) hb); have n3_ := Aside0.mk (below_step (by repeat (first | (with_reducible first | exact HB.out | apply below_alloc | apply pw_below_drewN | apply below_drew1 | refine below_set ?_ GE467.out | refine below_set ?_ GE468.out) | exact HB.out)) hb); clear BK467; clear BK468; clear HB; have HO471 := n0_; have BK467 := n1_; have BK468 := n2_; have HB := n3_; clear n0_ n1_ n2_ n3_; clear hb ho36; obtain ⟨Ao37, co37, eo37⟩ := Kd.R_slice HO471.out; subst eo37) | ((with_reducible refine gate_callee (f := 32) rfl ?_); refine goesL_ (some 8) rfl rfl Tryd.func32 (by kernel_rfl) rfl #[.slice Ao37 y469.length co37] rfl (by (try simp only [List.map_toArray]); (try simp only [List.map_cons]); (try simp only [List.map_nil]); first | done | rfl | (simp only [List.length_drop, List.length_take]; rfl)) ?_; (with_reducible refine (figureheadlaw06_good.calls k _ _ y469 false _ ?side1 ?side2 A3.out).mono ?_); (case side1 => repeat (first | exact (Kd.R_reads' HO471.out).2.2 | (with_reducible refine Kd.C_alloc ?_ _) | (with_reducible refine Kd.C_drewN ?_ _) | (with_reducible refine Kd.C_drew ?_))); (case side2 => exact (Kd.R_reads' HO471.out).2.1); rintro e w38 ⟨rfl, hb⟩; refine ⟨_, rfl, ?_⟩; have n0_ := Aside0.mk (Kd.R_below (by (with_reducible repeat (first | apply Kd.R_alloc | apply Kd.R_drewN | apply Kd.R_drew)); exact HO471.out) hb); have n1_ := Aside0.mk (blk_below (g := gb467) (o := .cells #[.bool a0_0, .string a0_1, .int .i64 a0_2] 23 (0, 0)) (by (with_reducible repeat (first | refine blk_drewN ?_ _ | refine blk_drew ?_ | refine blk_alloc ?_ _)); exact BK467.out) hb); have n2_ := Aside0.mk (blk_below (g := gb468) (o := .cells #[.bool a1_0, .string a1_1, .int .i64 a1_2] 23 (0, 0)) (by (with_reducible repeat (first | refine blk_drewN ?_ _ | refine blk_drew ?_ | refine blk_alloc ?_ _)); exact BK468.out) hb); have n3_ := Aside0.mk (below_step (by repeat (first | (with_reducible first | exact HB.out | apply below_alloc | apply pw_below_drewN | apply below_drew1 | refine below_set ?_ GE467.out | refine below_set ?_ GE468.out) | exact HB.out)) hb); clear HO471; clear BK467; clear BK468; clear HB; have HO471 := n0_; have BK467 := n1_; have BK468 := n2_; have HB := n3_; clear n0_ n1_ n2_ n3_; (try clear hb); (try clear hb2); (try clear hk); (try clear hi)) | ((with_reducible refine gate_callee (f := 33) rfl ?_); refine goesL_ (some 10) rfl rfl Tryd.func33 (by kernel_rfl) rfl #[] rfl (by (try simp only [List.map_toArray]); (try simp only [List.map_cons]); (try simp only [List.map_nil]); first | done | rfl | (simp only [List.length_drop, List.length_take]; rfl)) ?_; (with_reducible refine (figureheadlaw06_answers.calls k  t473 _ ?side1 ?side2 A29.out).mono ?_); (case side1 => exact Fig.Glob.below HG.out (by repeat (first | (with_reducible first | exact HB.out | apply below_alloc | apply pw_below_drewN | apply below_drew1 | refine below_set ?_ GE467.out | refine below_set ?_ GE468.out) | exact HB.out))); (case side2 => exact ⟨by first | rfl | exact HT.out⟩); rintro e w39 ⟨rfl, hb⟩; refine ⟨_, rfl, ?_⟩; have n0_ := Aside0.mk (Kd.R_below (by (with_reducible repeat (first | apply Kd.R_alloc | apply Kd.R_drewN | apply Kd.R_drew)); exact HO471.out) hb); have n1_ := Aside0.mk (blk_below (g := gb467) (o := .cells #[.bool a0_0, .string a0_1, .int .i64 a0_2] 23 (0, 0)) (by (with_reducible repeat (first | refine blk_drewN ?_ _ | refine blk_drew ?_ | refine blk_alloc ?_ _)); exact BK467.out) hb); have n2_ := Aside0.mk (blk_below (g := gb468) (o := .cells #[.bool a1_0, .string a1_1, .int .i64 a1_2] 23 (0, 0)) (by (with_reducible repeat (first | refine blk_drewN ?_ _ | refine blk_drew ?_ | refine blk_alloc ?_ _)); exact BK468.out) hb); have n3_ := Aside0.mk (below_step (by repeat (first | (with_reducible first | exact HB.out | apply below_alloc | apply pw_below_drewN | apply below_drew1 | refine below_set ?_ GE467.out | refine below_set ?_ GE468.out) | exact HB.out)) hb); clear HO471; clear BK467; clear BK468; clear HB; have HO471 := n0_; have BK467 := n1_; have BK468 := n2_; have HB := n3_; clear n0_ n1_ n2_ n3_; (try clear hb); (try clear hb2); (try clear hk); (try clear hi)))
    go_ret
    exact ⟨by first | rfl | (simp [errW_none, errW_some] <;> rfl) | (simp [*, errW_none, errW_some] <;> rfl), by repeat (first | (with_reducible first | exact HB.out | apply below_alloc | apply pw_below_drewN | apply below_drew1 | refine below_set ?_ GE467.out | refine below_set ?_ GE468.out) | exact HB.out)⟩
end Go.Proofs.YtbjaiphfehnncaaDoor.Px
end
section
namespace Go.Proofs.YtbjaiphfehnncaaDoor.Px
open Fig Go.RowKit Go.Proofs.YtbjaiphfehnncaaDoorW.PrintWords Go.Proofs.YtbjaiphfehnncaaDoorW.PrintLast Go.Proofs.YtbjaiphfehnncaaDoorW.PrintMore
attribute [local go_sem] max2_int min2_int max_two min_two max_three min_three max_four min_four   -- for this text's walks alone
attribute [local go_sem] fieldA23_0 fieldA23_1 fieldA23_2
theorem Digits_loop (s : ByteArray) (hs : s.size ≤ 4611686018427387904) : ∀ (d n : Nat), s.size - n = d → n ≤ s.size → Ev (fun k => figureheadref05_Digits.l0 k s (n : Int)) (digL (s.data.toList.drop n) && decide (s.size ≠ 0))
  | 0, n, hd, hn => by
    refine evDone (r' := (s.toList != ([] : List UInt8))) (fun k => ?_) ?_
    · simp only [figureheadref05_Digits.l0]; rw [if_neg (by omega)]
    · rw [List.drop_of_length_le (by rw [← size_eq]; omega), bne_nil, ByteArray.toList_eq, size_eq]
      cases s.data.toList <;> simp [digL]
  | d + 1, n, hd, hn => by
    have hlt : n < s.size := by omega
    have hbt := bt_get hlt
    have hc := List.drop_eq_getElem_cons (l := s.data.toList) (i := n) (by rw [← size_eq]; exact hlt)
    rw [hc]
    generalize hx : s.data.toList[n]'(by rw [← size_eq]; exact hlt) = c at hbt
    by_cases h1 : c.toNat < 48
    · refine evDone (r' := false) (fun k => ?_) ?_
      · simp only [figureheadref05_Digits.l0]; rw [if_pos (by omega), if_pos (by omega), hbt, if_pos (by omega)]
      · have : isD c = false := by unfold isD; simp; omega
        simp [digL, this]
    · by_cases h2 : c.toNat > 57
      · refine evDone (r' := false) (fun k => ?_) ?_
        · simp only [figureheadref05_Digits.l0]; rw [if_pos (by omega), if_pos (by omega), hbt, if_neg (by omega), if_pos (by omega)]
        · have : isD c = false := by unfold isD; simp; omega
          simp [digL, this]
      · have hd1 : isD c = true := isD_iff.2 ⟨by omega, by omega⟩
        refine evIs (Ev.step (f := fun k => figureheadref05_Digits.l0 k s ((n + 1 : Nat) : Int)) (fun k => ?_) (Digits_loop s hs d (n + 1) (by omega) (by omega))) ?_
        · simp only [figureheadref05_Digits.l0]; rw [if_pos (by omega), if_pos (by omega), hbt, if_neg (by omega), if_neg (by omega), succ64 _ (by omega)]
        · simp [digL, hd1]
theorem Digits05_ev {s : ByteArray} (hs : s.size ≤ 4611686018427387904) : Ev (fun k => figureheadref05_Digits.f k s) (dB s && decide (s.size ≠ 0)) := by
  have := Digits_loop s hs s.size 0 (by omega) (by omega)
  rw [List.drop_zero] at this
  exact this
end Go.Proofs.YtbjaiphfehnncaaDoor.Px
end
section
namespace Go.Proofs.YtbjaiphfehnncaaDoor.Px
open Fig Go.RowKit Go.Proofs.YtbjaiphfehnncaaDoorW.PrintWords Go.Proofs.YtbjaiphfehnncaaDoorW.PrintLast Go.Proofs.YtbjaiphfehnncaaDoorW.PrintMore
attribute [local go_sem] max2_int min2_int max_two min_two max_three min_three max_four min_four   -- for this text's walks alone
attribute [local go_sem] fieldA23_0 fieldA23_1 fieldA23_2
theorem Good05_ev {b : Bool} {s : ByteArray} {e : Int} (hs : s.size ≤ 4611686018427387904) : Ev (fun k => figureheadref05_Good.f k b s e) (goodD s e) := by
  unfold figureheadref05_Good.f
  refine Ev.bind (Digits05_ev hs) ?_
  unfold goodD
  cases hd : (dB s && decide (s.size ≠ 0))
  · simp only [Bool.false_eq_true, if_false, Bool.false_and]
    exact Ev.now _
  · simp only [if_true, Bool.true_and]
    by_cases h1 : s.size ≤ 1000
    · have h1' : (s.size : Int) ≤ 1000 := by omega
      simp only [h1', h1, if_true, decide_true, Bool.true_and]
      by_cases h2 : e ≥ -1000
      · have h2' : -1000 ≤ e := h2
        simp only [h2, h2', if_true, decide_true, Bool.true_and]
        exact Ev.now _
      · have h2' : ¬ -1000 ≤ e := h2
        simp only [h2, h2', if_false, decide_false, Bool.false_and]
        exact Ev.now _
    · have h1' : ¬ (s.size : Int) ≤ 1000 := by omega
      simp only [h1', h1, if_false, decide_false, Bool.false_and]
      exact Ev.now _
end Go.Proofs.YtbjaiphfehnncaaDoor.Px
end
section
namespace Go.Proofs.YtbjaiphfehnncaaDoor.Px
open Fig Go.RowKit Go.Proofs.YtbjaiphfehnncaaDoorW.PrintWords Go.Proofs.YtbjaiphfehnncaaDoorW.PrintLast Go.Proofs.YtbjaiphfehnncaaDoorW.PrintMore
attribute [local go_sem] max2_int min2_int max_two min_two max_three min_three max_four min_four   -- for this text's walks alone
attribute [local go_sem] fieldA23_0 fieldA23_1 fieldA23_2
theorem good06_loop (ls : List S23) (hl : ls.length ≤ 1000) (hb : ∀ d ∈ ls, d.f1.size ≤ 140737488351232) : ∀ (d n : Nat), ls.length - n = d → n ≤ ls.length → Ev (fun k => figureheadlaw06_good.l0 k ls (n : Int)) ((ls.drop n).all fun x => goodD x.f1 x.f2 && decide (x.f1.size ≤ 200))
  | 0, n, hd, hn => by
    refine evDone (r' := true) (fun k => ?_) (by rw [List.drop_of_length_le (by omega)]; rfl)
    simp only [figureheadlaw06_good.l0]; rw [if_neg (by omega)]
  | d + 1, n, hd, hn => by
    have hlt : n < ls.length := by omega
    have hm := List.getElem_mem hlt
    have hrd : rd_T23 ls (n : Int) = ls[n] := by
      unfold rd_T23; rw [Int.toNat_natCast, List.getD_eq_getElem?_getD, List.getElem?_eq_getElem hlt]; rfl
    rw [List.drop_eq_getElem_cons hlt, List.all_cons]
    have hbm := hb _ hm
    refine Ev.step (f := fun k => (figureheadref05_Good.f k ls[n].f0 ls[n].f1 ls[n].f2).bind fun t => if t = true then if (ls[n].f1.size : Int) > 200 then some false else figureheadlaw06_good.l0 k ls ((n + 1 : Nat) : Int) else some false) (fun k => ?_) ?_
    · simp only [figureheadlaw06_good.l0]; rw [if_pos (by omega), if_pos (by omega), hrd, succ64 _ (by omega)]
    · refine Ev.bind (Good05_ev (by omega)) ?_
      cases hg : goodD ls[n].f1 ls[n].f2
      · refine evF (by decide) (evIs (Ev.now false) (by simp))
      · refine evT rfl ?_
        by_cases h2 : (ls[n].f1.size : Int) > 200
        · have : ¬ ls[n].f1.size ≤ 200 := by omega
          exact evT h2 (evIs (Ev.now false) (by simp [this]))
        · have h3 : ls[n].f1.size ≤ 200 := by omega
          refine evF h2 (evIs (good06_loop ls hl hb d (n + 1) (by omega) (by omega)) ?_)
          simp [h3]
theorem good06_ev {ls : List S23} (hl : ls.length ≤ 1000) (hb : ∀ d ∈ ls, d.f1.size ≤ 140737488351232) : Ev (fun k => figureheadlaw06_good.f k ls) (ls.all fun x => goodD x.f1 x.f2 && decide (x.f1.size ≤ 200)) := by
  have := good06_loop ls hl hb ls.length 0 (by omega) (by omega)
  rw [List.drop_zero] at this
  exact this
end Go.Proofs.YtbjaiphfehnncaaDoor.Px
end
section
namespace Go.Proofs.YtbjaiphfehnncaaDoor.Px
open Fig Go.RowKit Go.Proofs.YtbjaiphfehnncaaDoorW.PrintWords Go.Proofs.YtbjaiphfehnncaaDoorW.PrintLast Go.Proofs.YtbjaiphfehnncaaDoorW.PrintMore
attribute [local go_sem] max2_int min2_int max_two min_two max_three min_three max_four min_four   -- for this text's walks alone
attribute [local go_sem] fieldA23_0 fieldA23_1 fieldA23_2
theorem numP {s : ByteArray} (h : dB s = true) (hne : s.size ≠ 0) (hs : s.size ≤ 140737488351232) : ten_Number.f s = some (limbs (vB s), true) := by
  unfold ten_Number.f; rw [if_pos hs, if_pos ⟨h, hne⟩]
end Go.Proofs.YtbjaiphfehnncaaDoor.Px
end
section
namespace Go.Proofs.YtbjaiphfehnncaaDoor.Px
open Fig Go.RowKit Go.Proofs.YtbjaiphfehnncaaDoorW.PrintWords Go.Proofs.YtbjaiphfehnncaaDoorW.PrintLast Go.Proofs.YtbjaiphfehnncaaDoorW.PrintMore
attribute [local go_sem] max2_int min2_int max_two min_two max_three min_three max_four min_four   -- for this text's walks alone
attribute [local go_sem] fieldA23_0 fieldA23_1 fieldA23_2
theorem coefP {b : Bool} {s : ByteArray} {e : Int} (h : OkD s e) : dec_Coef.f b s e = some (limbs (vB s)) := by
  have := h.sz
  unfold dec_Coef.f; rw [numP h.d h.ne (by omega)]; rfl
end Go.Proofs.YtbjaiphfehnncaaDoor.Px
end
