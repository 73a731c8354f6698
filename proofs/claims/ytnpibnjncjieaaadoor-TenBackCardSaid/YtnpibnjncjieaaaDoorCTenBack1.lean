/- The functions that the law TenBack reaches, told as plain functions, with what is proved of them (part 1). -/
import Derived.Test.YtnpibnjncjieaaaDoorPx0
import Derived.Test.YtnpibnjncjieaaaDoorCTenBack0
namespace Go.Proofs.YtnpibnjncjieaaaDoor.Px
open Fig Go.RowKit Go.Proofs.YtnpibnjncjieaaaDoorW.PrintWords Go.Proofs.YtnpibnjncjieaaaDoorW.PrintLast Go.Proofs.YtnpibnjncjieaaaDoorW.PrintMore
attribute [local go_sem] max2_int min2_int max_two min_two max_three min_three max_four min_four   -- for this text's walks alone

/-! ### figureheadlaw04_TenBack: function 6 -/
def figureheadlaw04_TenBack.f (k : Nat) (l0 : List Int) (a1 : Int) (a2 : Int) : Option (Bool) := (figureheadlaw04_good.f k l0).bind fun t223 => (if t223 = true then ((ten_Shift.f l0 (wrap64 (a1))).bind fun t225 => ((ten_Cut.f t225 (wrap64 (a1))).bind fun bt228 => ((figureheadlaw04_answers.f).bind fun t234 => (if t234 = true then ((figureheadref01_Text.f k l0).bind fun t235 => ((figureheadref01_Number.f k t235).bind fun t236 => ((figureheadref01_Same.f k bt228.1 t236).bind fun t239 => (if t239 = true then (if (bt228.2.length : Int) = 0 then ((ten_Shift.f l0 (wrap64 (a1))).bind fun t240 => ((ten_Shift.f t240 (wrap64 (a2))).bind fun t243 => ((ten_Shift.f l0 (wrap64 ((wrap64 (a1)) + (wrap64 (a2))))).bind fun t246 => ((figureheadref01_Same.f k t243 t246).bind fun t249 => (some t249))))) else (some false)) else (some false))))) else (some false))))) else ((figureheadlaw04_answers.f).bind fun t224 => (some t224)))
theorem figureheadlaw04_TenBack.mono : ∀ a0 a1 a2 k, LeO (figureheadlaw04_TenBack.f k a0 a1 a2) (figureheadlaw04_TenBack.f (k + 1) a0 a1 a2) := by
  intro a0 a1 a2 k
  unfold figureheadlaw04_TenBack.f
  repeat' first
      | (with_reducible exact figureheadlaw04_good.mono _ _)
      | (with_reducible exact figureheadref01_Number.mono _ _)
      | (with_reducible exact figureheadref01_Same.mono _ _ _)
      | (with_reducible exact figureheadref01_Text.mono _ _)
      | (with_reducible exact LeO.refl _)
      | (with_reducible exact LeO.none _)
      | (with_reducible refine LeO.ite ?_ ?_)
      | (with_reducible refine LeO.bind ?_ (fun _ => ?_))
      | exact figureheadlaw04_good.mono _ _
      | exact figureheadref01_Number.mono _ _
      | exact figureheadref01_Same.mono _ _ _
      | exact figureheadref01_Text.mono _ _
      | exact LeO.none _
      | refine LeO.ite ?_ ?_
      | refine LeO.bind ?_ (fun _ => ?_)
set_option maxHeartbeats 8000000 in
set_option maxRecDepth 100000 in
theorem figureheadlaw04_TenBack.calls (k : Nat) (A0 : Option Addr) (c0 : Nat) (l0 : List Int) (a1 : Int) (a2 : Int) (r : Bool) (w : World) (hG : Fig.Glob w) (HT : Aside0 (r = true)) (hr0 : Kd.C (Kd.int .u32) w A0 l0.length l0) (hc0 : l0.length ≤ c0) (h : figureheadlaw04_TenBack.f k l0 a1 a2 = some r) :
    Calls Tryd.prog 6 #[.slice A0 l0.length c0, .int .u8 a1, .int .u8 a2] w fun e w' => e = .returned (.bool r) ∧ Below w.heap.size w w' := by
  have HG := Aside0.mk hG
  clear hG
  have HR0 := Aside0.mk hr0
  have HC0 := Aside0.mk hc0
  clear hr0 hc0
  have HB := Aside0.mk (Below.refl w.heap.size w)
  have H : ((figureheadlaw04_good.f k l0).bind fun t223 => (if t223 = true then ((ten_Shift.f l0 (wrap64 (a1))).bind fun t225 => ((ten_Cut.f t225 (wrap64 (a1))).bind fun bt228 => ((figureheadlaw04_answers.f).bind fun t234 => (if t234 = true then ((figureheadref01_Text.f k l0).bind fun t235 => ((figureheadref01_Number.f k t235).bind fun t236 => ((figureheadref01_Same.f k bt228.1 t236).bind fun t239 => (if t239 = true then (if (bt228.2.length : Int) = 0 then ((ten_Shift.f l0 (wrap64 (a1))).bind fun t240 => ((ten_Shift.f t240 (wrap64 (a2))).bind fun t243 => ((ten_Shift.f l0 (wrap64 ((wrap64 (a1)) + (wrap64 (a2))))).bind fun t246 => ((figureheadref01_Same.f k t243 t246).bind fun t249 => (some t249))))) else (some false)) else (some false))))) else (some false))))) else ((figureheadlaw04_answers.f).bind fun t224 => (some t224)))) = some r := h
  clear h
  replace H := Option.bind_eq_some_iff.mp H
  obtain ⟨t223, A40, H⟩ := H
  replace H : (if t223 = true then ((ten_Shift.f l0 (wrap64 (a1))).bind fun t225 => ((ten_Cut.f t225 (wrap64 (a1))).bind fun bt228 => ((figureheadlaw04_answers.f).bind fun t234 => (if t234 = true then ((figureheadref01_Text.f k l0).bind fun t235 => ((figureheadref01_Number.f k t235).bind fun t236 => ((figureheadref01_Same.f k bt228.1 t236).bind fun t239 => (if t239 = true then (if (bt228.2.length : Int) = 0 then ((ten_Shift.f l0 (wrap64 (a1))).bind fun t240 => ((ten_Shift.f t240 (wrap64 (a2))).bind fun t243 => ((ten_Shift.f l0 (wrap64 ((wrap64 (a1)) + (wrap64 (a2))))).bind fun t246 => ((figureheadref01_Same.f k t243 t246).bind fun t249 => (some t249))))) else (some false)) else (some false))))) else (some false))))) else ((figureheadlaw04_answers.f).bind fun t224 => (some t224))) = some r := H
  have A4 := Aside0.mk A40
  clear A40
  by_cases c5 : t223 = true
  · subst c5
    have H1 : ((ten_Shift.f l0 (wrap64 (a1))).bind fun t225 => ((ten_Cut.f t225 (wrap64 (a1))).bind fun bt228 => ((figureheadlaw04_answers.f).bind fun t234 => (if t234 = true then ((figureheadref01_Text.f k l0).bind fun t235 => ((figureheadref01_Number.f k t235).bind fun t236 => ((figureheadref01_Same.f k bt228.1 t236).bind fun t239 => (if t239 = true then (if (bt228.2.length : Int) = 0 then ((ten_Shift.f l0 (wrap64 (a1))).bind fun t240 => ((ten_Shift.f t240 (wrap64 (a2))).bind fun t243 => ((ten_Shift.f l0 (wrap64 ((wrap64 (a1)) + (wrap64 (a2))))).bind fun t246 => ((figureheadref01_Same.f k t243 t246).bind fun t249 => (some t249))))) else (some false)) else (some false))))) else (some false))))) = some r := by rw [if_pos rfl] at H; exact H
    clear H
    have H := H1
    clear H1
    replace H := Option.bind_eq_some_iff.mp H
    obtain ⟨t225, A60, H⟩ := H
    replace H : ((ten_Cut.f t225 (wrap64 (a1))).bind fun bt228 => ((figureheadlaw04_answers.f).bind fun t234 => (if t234 = true then ((figureheadref01_Text.f k l0).bind fun t235 => ((figureheadref01_Number.f k t235).bind fun t236 => ((figureheadref01_Same.f k bt228.1 t236).bind fun t239 => (if t239 = true then (if (bt228.2.length : Int) = 0 then ((ten_Shift.f l0 (wrap64 (a1))).bind fun t240 => ((ten_Shift.f t240 (wrap64 (a2))).bind fun t243 => ((ten_Shift.f l0 (wrap64 ((wrap64 (a1)) + (wrap64 (a2))))).bind fun t246 => ((figureheadref01_Same.f k t243 t246).bind fun t249 => (some t249))))) else (some false)) else (some false))))) else (some false)))) = some r := H
    have A6 := Aside0.mk A60
    clear A60
    replace H := Option.bind_eq_some_iff.mp H
    obtain ⟨⟨t228, t229⟩, A70, H⟩ := H
    replace H : ((figureheadlaw04_answers.f).bind fun t234 => (if t234 = true then ((figureheadref01_Text.f k l0).bind fun t235 => ((figureheadref01_Number.f k t235).bind fun t236 => ((figureheadref01_Same.f k t228 t236).bind fun t239 => (if t239 = true then (if (t229.length : Int) = 0 then ((ten_Shift.f l0 (wrap64 (a1))).bind fun t240 => ((ten_Shift.f t240 (wrap64 (a2))).bind fun t243 => ((ten_Shift.f l0 (wrap64 ((wrap64 (a1)) + (wrap64 (a2))))).bind fun t246 => ((figureheadref01_Same.f k t243 t246).bind fun t249 => (some t249))))) else (some false)) else (some false))))) else (some false))) = some r := H
    have A7 := Aside0.mk A70
    clear A70
    replace H := Option.bind_eq_some_iff.mp H
    obtain ⟨t234, A80, H⟩ := H
    replace H : (if t234 = true then ((figureheadref01_Text.f k l0).bind fun t235 => ((figureheadref01_Number.f k t235).bind fun t236 => ((figureheadref01_Same.f k t228 t236).bind fun t239 => (if t239 = true then (if (t229.length : Int) = 0 then ((ten_Shift.f l0 (wrap64 (a1))).bind fun t240 => ((ten_Shift.f t240 (wrap64 (a2))).bind fun t243 => ((ten_Shift.f l0 (wrap64 ((wrap64 (a1)) + (wrap64 (a2))))).bind fun t246 => ((figureheadref01_Same.f k t243 t246).bind fun t249 => (some t249))))) else (some false)) else (some false))))) else (some false)) = some r := H
    have A8 := Aside0.mk A80
    clear A80
    by_cases c9 : t234 = true
    · subst c9
      have H1 : ((figureheadref01_Text.f k l0).bind fun t235 => ((figureheadref01_Number.f k t235).bind fun t236 => ((figureheadref01_Same.f k t228 t236).bind fun t239 => (if t239 = true then (if (t229.length : Int) = 0 then ((ten_Shift.f l0 (wrap64 (a1))).bind fun t240 => ((ten_Shift.f t240 (wrap64 (a2))).bind fun t243 => ((ten_Shift.f l0 (wrap64 ((wrap64 (a1)) + (wrap64 (a2))))).bind fun t246 => ((figureheadref01_Same.f k t243 t246).bind fun t249 => (some t249))))) else (some false)) else (some false))))) = some r := by rw [if_pos rfl] at H; exact H
      clear H
      have H := H1
      clear H1
      replace H := Option.bind_eq_some_iff.mp H
      obtain ⟨t235, A100, H⟩ := H
      replace H : ((figureheadref01_Number.f k t235).bind fun t236 => ((figureheadref01_Same.f k t228 t236).bind fun t239 => (if t239 = true then (if (t229.length : Int) = 0 then ((ten_Shift.f l0 (wrap64 (a1))).bind fun t240 => ((ten_Shift.f t240 (wrap64 (a2))).bind fun t243 => ((ten_Shift.f l0 (wrap64 ((wrap64 (a1)) + (wrap64 (a2))))).bind fun t246 => ((figureheadref01_Same.f k t243 t246).bind fun t249 => (some t249))))) else (some false)) else (some false)))) = some r := H
      have A10 := Aside0.mk A100
      clear A100
      replace H := Option.bind_eq_some_iff.mp H
      obtain ⟨t236, A110, H⟩ := H
      replace H : ((figureheadref01_Same.f k t228 t236).bind fun t239 => (if t239 = true then (if (t229.length : Int) = 0 then ((ten_Shift.f l0 (wrap64 (a1))).bind fun t240 => ((ten_Shift.f t240 (wrap64 (a2))).bind fun t243 => ((ten_Shift.f l0 (wrap64 ((wrap64 (a1)) + (wrap64 (a2))))).bind fun t246 => ((figureheadref01_Same.f k t243 t246).bind fun t249 => (some t249))))) else (some false)) else (some false))) = some r := H
      have A11 := Aside0.mk A110
      clear A110
      replace H := Option.bind_eq_some_iff.mp H
      obtain ⟨t239, A120, H⟩ := H
      replace H : (if t239 = true then (if (t229.length : Int) = 0 then ((ten_Shift.f l0 (wrap64 (a1))).bind fun t240 => ((ten_Shift.f t240 (wrap64 (a2))).bind fun t243 => ((ten_Shift.f l0 (wrap64 ((wrap64 (a1)) + (wrap64 (a2))))).bind fun t246 => ((figureheadref01_Same.f k t243 t246).bind fun t249 => (some t249))))) else (some false)) else (some false)) = some r := H
      have A12 := Aside0.mk A120
      clear A120
      by_cases c13 : t239 = true
      · subst c13
        have H1 : (if (t229.length : Int) = 0 then ((ten_Shift.f l0 (wrap64 (a1))).bind fun t240 => ((ten_Shift.f t240 (wrap64 (a2))).bind fun t243 => ((ten_Shift.f l0 (wrap64 ((wrap64 (a1)) + (wrap64 (a2))))).bind fun t246 => ((figureheadref01_Same.f k t243 t246).bind fun t249 => (some t249))))) else (some false)) = some r := by rw [if_pos rfl] at H; exact H
        clear H
        have H := H1
        clear H1
        by_cases c14 : (t229.length : Int) = 0
        · rw [if_pos c14] at H
          have c14b0 : ((t229.length : Int) == 0) = true := beq_iff_eq.mpr c14
          have c14b1 : ((t229.length : Int) != 0) = false := bne_eq_false_iff_eq.mpr c14
          clear c14
          replace H := Option.bind_eq_some_iff.mp H
          obtain ⟨t240, A150, H⟩ := H
          replace H : ((ten_Shift.f t240 (wrap64 (a2))).bind fun t243 => ((ten_Shift.f l0 (wrap64 ((wrap64 (a1)) + (wrap64 (a2))))).bind fun t246 => ((figureheadref01_Same.f k t243 t246).bind fun t249 => (some t249)))) = some r := H
          have A15 := Aside0.mk A150
          clear A150
          replace H := Option.bind_eq_some_iff.mp H
          obtain ⟨t243, A160, H⟩ := H
          replace H : ((ten_Shift.f l0 (wrap64 ((wrap64 (a1)) + (wrap64 (a2))))).bind fun t246 => ((figureheadref01_Same.f k t243 t246).bind fun t249 => (some t249))) = some r := H
          have A16 := Aside0.mk A160
          clear A160
          replace H := Option.bind_eq_some_iff.mp H
          obtain ⟨t246, A170, H⟩ := H
          replace H : ((figureheadref01_Same.f k t243 t246).bind fun t249 => (some t249)) = some r := H
          have A17 := Aside0.mk A170
          clear A170
          replace H := Option.bind_eq_some_iff.mp H
          obtain ⟨t249, A180, H⟩ := H
          replace H : (some t249) = some r := H
          have A18 := Aside0.mk A180
          clear A180
          obtain rfl := Option.some.inj H
          go_enter Tryd.func6, Tryd.ntmps6
          go_wp2_with (first | ((with_reducible refine gate_callee (f := 8) rfl ?_); refine goesL_ (some 10) rfl rfl Tryd.func8 (by kernel_rfl) rfl #[.slice A0 l0.length c0] rfl (by (try simp only [List.map_toArray, List.map_cons, List.map_nil]); first | done | rfl | (simp only [List.length_drop, List.length_take]; rfl)) ?_; (with_reducible refine (figureheadlaw04_good.calls k _ _ l0 true _ ?side1 ?side2 A4.out).mono ?_); (case side1 => repeat (first | exact HR0.out | (with_reducible refine Kd.C_alloc ?_ _) | (with_reducible refine Kd.C_drewN ?_ _) | (with_reducible refine Kd.C_drew ?_))); (case side2 => exact HC0.out); rintro e w' ⟨rfl, ⟨nd, rfl⟩⟩; refine ⟨_, rfl, ?_⟩) | ((with_reducible refine gate_callee (f := 20) rfl ?_); refine goesL_ (some 17) rfl rfl Tryd.func20 (by kernel_rfl) rfl #[.slice A0 l0.length c0, .int .i64 (wrap64 (a1))] rfl (by (try simp only [List.map_toArray, List.map_cons, List.map_nil]); first | done | rfl | (simp only [List.length_drop, List.length_take]; rfl)) ?_; (with_reducible refine (ten_Shift.calls _ _ l0 (wrap64 (a1)) t225 _ ?side1 ?side2 ?side3 A6.out).mono ?_); (case side1 => exact Fig.Glob.below HG.out (by repeat (first | (with_reducible first | exact HB.out | apply below_alloc | apply pw_below_drewN | apply below_drew1) | exact HB.out))); (case side2 => repeat (first | exact HR0.out | (with_reducible refine Kd.C_alloc ?_ _) | (with_reducible refine Kd.C_drewN ?_ _) | (with_reducible refine Kd.C_drew ?_))); (case side3 => exact HC0.out); rintro e w19 ⟨v226, rfl, ho0, hb⟩; refine ⟨_, rfl, ?_⟩; have n0_ := Aside0.mk (Kd.R_lower ho0 (below_size (by repeat (first | (with_reducible first | exact HB.out | apply below_alloc | apply pw_below_drewN | apply below_drew1) | exact HB.out)))); have n1_ := Aside0.mk (below_step (by repeat (first | (with_reducible first | exact HB.out | apply below_alloc | apply pw_below_drewN | apply below_drew1) | exact HB.out)) hb); clear HB; have HO227 := n0_; have HB := n1_; clear n0_ n1_; (try clear hb); (try clear hb2); (try clear hk); (try clear hi); (try clear ho0); obtain ⟨Ao20, co20, eo20⟩ := Kd.R_slice HO227.out; subst eo20) | ((with_reducible refine gate_callee (f := 19) rfl ?_); refine goesL_ (some 20) rfl rfl Tryd.func19 (by kernel_rfl) rfl #[.slice Ao20 t225.length co20, .int .i64 (wrap64 (a1))] rfl (by (try simp only [List.map_toArray, List.map_cons, List.map_nil]); first | done | rfl | (simp only [List.length_drop, List.length_take]; rfl)) ?_; (with_reducible refine (ten_Cut.calls _ _ t225 (wrap64 (a1)) t228 t229 _ ?side1 ?side2 ?side3 A7.out).mono ?_); (case side1 => exact Fig.Glob.below HG.out (by repeat (first | (with_reducible first | exact HB.out | apply below_alloc | apply pw_below_drewN | apply below_drew1) | exact HB.out))); (case side2 => repeat (first | exact (Kd.R_reads' HO227.out).2.2 | (with_reducible refine Kd.C_alloc ?_ _) | (with_reducible refine Kd.C_drewN ?_ _) | (with_reducible refine Kd.C_drew ?_))); (case side3 => exact (Kd.R_reads' HO227.out).2.1); rintro e w21 ⟨v230, v232, rfl, ho0, ho1, hb⟩; refine ⟨_, rfl, ?_⟩; have n0_ := Aside0.mk (Kd.R_mono (Kd.R_told (Kd.R_told (Kd.R_old (by (with_reducible repeat (first | apply Kd.R_alloc | apply Kd.R_drewN | apply Kd.R_drew)); exact HO227.out) hb) (Kd.R_base ho0)) (Kd.R_base ho1)) (fun _ h_ => h_.1)); have n1_ := Aside0.mk (Kd.R_lower (Kd.R_new' ho0 (Kd.R_lt (by (with_reducible repeat (first | apply Kd.R_alloc | apply Kd.R_drewN | apply Kd.R_drew)); exact HO227.out))) (below_size (by repeat (first | (with_reducible first | exact HB.out | apply below_alloc | apply pw_below_drewN | apply below_drew1) | exact HB.out)))); have n2_ := Aside0.mk (Kd.R_lower (Kd.R_new' ho1 (Kd.R_lt (by (with_reducible repeat (first | apply Kd.R_alloc | apply Kd.R_drewN | apply Kd.R_drew)); exact HO227.out))) (below_size (by repeat (first | (with_reducible first | exact HB.out | apply below_alloc | apply pw_below_drewN | apply below_drew1) | exact HB.out)))); have n3_ := Aside0.mk (below_step (by repeat (first | (with_reducible first | exact HB.out | apply below_alloc | apply pw_below_drewN | apply below_drew1) | exact HB.out)) hb); clear HO227; clear HB; have HO227 := n0_; have HO231 := n1_; have HO233 := n2_; have HB := n3_; clear n0_ n1_ n2_ n3_; (try clear hb); (try clear hb2); (try clear hk); (try clear hi); (try clear ho0); (try clear ho1)) | ((with_reducible refine gate_callee (f := 9) rfl ?_); refine goesL_ (some 23) rfl rfl Tryd.func9 (by kernel_rfl) rfl #[] rfl (by (try simp only [List.map_toArray, List.map_cons, List.map_nil]); first | done | rfl | (simp only [List.length_drop, List.length_take]; rfl)) ?_; (with_reducible refine (figureheadlaw04_answers.calls  true _ ?side1 ?side2 A8.out).mono ?_); (case side1 => exact Fig.Glob.below HG.out (by repeat (first | (with_reducible first | exact HB.out | apply below_alloc | apply pw_below_drewN | apply below_drew1) | exact HB.out))); (case side2 => exact ⟨by first | rfl | exact HT.out⟩); rintro e w22 ⟨rfl, hb⟩; refine ⟨_, rfl, ?_⟩; have n0_ := Aside0.mk (Kd.R_below (by (with_reducible repeat (first | apply Kd.R_alloc | apply Kd.R_drewN | apply Kd.R_drew)); exact HO227.out) hb); have n1_ := Aside0.mk (Kd.R_below (by (with_reducible repeat (first | apply Kd.R_alloc | apply Kd.R_drewN | apply Kd.R_drew)); exact HO231.out) hb); have n2_ := Aside0.mk (Kd.R_below (by (with_reducible repeat (first | apply Kd.R_alloc | apply Kd.R_drewN | apply Kd.R_drew)); exact HO233.out) hb); have n3_ := Aside0.mk (below_step (by repeat (first | (with_reducible first | exact HB.out | apply below_alloc | apply pw_below_drewN | apply below_drew1) | exact HB.out)) hb); clear HO227; clear HO231; clear HO233; clear HB; have HO227 := n0_; have HO231 := n1_; have HO233 := n2_; have HB := n3_; clear n0_ n1_ n2_ n3_; (try clear hb); (try clear hb2); (try clear hk); (try clear hi)) | ((with_reducible refine gate_dst (N := 27) rfl ?_); (try (refine gate_guard (by rfl) ?_; dsimp only)); (refine gate_guard (by rfl) ?_; dsimp only); (with_reducible refine gate_callee (f := 10) rfl ?_); refine goesL_ (some 27) rfl rfl Tryd.func10 (by kernel_rfl) rfl #[.slice A0 l0.length c0] rfl (by (try simp only [List.map_toArray, List.map_cons, List.map_nil]); first | done | rfl | (simp only [List.length_drop, List.length_take]; rfl)) ?_; (with_reducible refine (figureheadref01_Text.calls k _ _ l0 t235 _ ?side1 ?side2 A10.out).mono ?_); (case side1 => repeat (first | exact (Kd.C_below HR0.out HB.out) | (with_reducible refine Kd.C_alloc ?_ _) | (with_reducible refine Kd.C_drewN ?_ _) | (with_reducible refine Kd.C_drew ?_))); (case side2 => exact HC0.out); rintro e w23 ⟨rfl, hb⟩; refine ⟨_, rfl, ?_⟩; have n0_ := Aside0.mk (Kd.R_below (by (with_reducible repeat (first | apply Kd.R_alloc | apply Kd.R_drewN | apply Kd.R_drew)); exact HO227.out) hb); have n1_ := Aside0.mk (Kd.R_below (by (with_reducible repeat (first | apply Kd.R_alloc | apply Kd.R_drewN | apply Kd.R_drew)); exact HO231.out) hb); have n2_ := Aside0.mk (Kd.R_below (by (with_reducible repeat (first | apply Kd.R_alloc | apply Kd.R_drewN | apply Kd.R_drew)); exact HO233.out) hb); have n3_ := Aside0.mk (below_step (by repeat (first | (with_reducible first | exact HB.out | apply below_alloc | apply pw_below_drewN | apply below_drew1) | exact HB.out)) hb); clear HO227; clear HO231; clear HO233; clear HB; have HO227 := n0_; have HO231 := n1_; have HO233 := n2_; have HB := n3_; clear n0_ n1_ n2_ n3_; (try clear hb); (try clear hb2); (try clear hk); (try clear hi)) | ((with_reducible refine gate_dst (N := 28) rfl ?_); (try (refine gate_guard (by rfl) ?_; dsimp only)); (refine gate_guard (by rfl) ?_; dsimp only); (with_reducible refine gate_callee (f := 16) rfl ?_); refine goesL_ (some 28) rfl rfl Tryd.func16 (by kernel_rfl) rfl #[.string t235] rfl (by (try simp only [List.map_toArray, List.map_cons, List.map_nil]); first | done | rfl | (simp only [List.length_drop, List.length_take]; rfl)) ?_; (with_reducible refine (figureheadref01_Number.calls k t235 t236 _ A11.out).mono ?_); rintro e w24 ⟨v237, rfl, ho0, hb⟩; refine ⟨_, rfl, ?_⟩; have n0_ := Aside0.mk (Kd.R_elder' (by (with_reducible repeat (first | apply Kd.R_alloc | apply Kd.R_drewN | apply Kd.R_drew)); exact HO227.out) (Kd.R_base ho0) hb); have n1_ := Aside0.mk (Kd.R_elder' (by (with_reducible repeat (first | apply Kd.R_alloc | apply Kd.R_drewN | apply Kd.R_drew)); exact HO231.out) (Kd.R_base ho0) hb); have n2_ := Aside0.mk (Kd.R_elder' (by (with_reducible repeat (first | apply Kd.R_alloc | apply Kd.R_drewN | apply Kd.R_drew)); exact HO233.out) (Kd.R_base ho0) hb); have n3_ := Aside0.mk (Kd.R_lower (Kd.R_new' (Kd.R_new' (Kd.R_new' ho0 (Kd.R_lt (by (with_reducible repeat (first | apply Kd.R_alloc | apply Kd.R_drewN | apply Kd.R_drew)); exact HO227.out))) (Kd.R_lt (by (with_reducible repeat (first | apply Kd.R_alloc | apply Kd.R_drewN | apply Kd.R_drew)); exact HO231.out))) (Kd.R_lt (by (with_reducible repeat (first | apply Kd.R_alloc | apply Kd.R_drewN | apply Kd.R_drew)); exact HO233.out))) (below_size (by repeat (first | (with_reducible first | exact HB.out | apply below_alloc | apply pw_below_drewN | apply below_drew1) | exact HB.out)))); have n4_ := Aside0.mk (below_step (by repeat (first | (with_reducible first | exact HB.out | apply below_alloc | apply pw_below_drewN | apply below_drew1) | exact HB.out)) hb); clear HO227; clear HO231; clear HO233; clear HB; have HO227 := n0_; have HO231 := n1_; have HO233 := n2_; have HO238 := n3_; have HB := n4_; clear n0_ n1_ n2_ n3_ n4_; (try clear hb); (try clear hb2); (try clear hk); (try clear hi); (try clear ho0); obtain ⟨Ao25, co25, eo25⟩ := Kd.R_slice HO231.out; subst eo25; obtain ⟨Ao26, co26, eo26⟩ := Kd.R_slice HO238.out; subst eo26) | ((with_reducible refine gate_dst (N := 29) rfl ?_); (try (refine gate_guard (by rfl) ?_; dsimp only)); (refine gate_guard (by rfl) ?_; dsimp only); (with_reducible refine gate_callee (f := 15) rfl ?_); refine goesL_ (some 29) rfl rfl Tryd.func15 (by kernel_rfl) rfl #[.slice Ao25 t228.length co25, .slice Ao26 t236.length co26] rfl (by (try simp only [List.map_toArray, List.map_cons, List.map_nil]); first | done | rfl | (simp only [List.length_drop, List.length_take]; rfl)) ?_; (with_reducible refine (figureheadref01_Same.calls k _ _ t228 _ _ t236 true _ ?side1 ?side2 ?side3 ?side4 A12.out).mono ?_); (case side1 => repeat (first | exact (Kd.R_reads' HO231.out).2.2 | (with_reducible refine Kd.C_alloc ?_ _) | (with_reducible refine Kd.C_drewN ?_ _) | (with_reducible refine Kd.C_drew ?_))); (case side2 => exact (Kd.R_reads' HO231.out).2.1); (case side3 => repeat (first | exact (Kd.R_reads' HO238.out).2.2 | (with_reducible refine Kd.C_alloc ?_ _) | (with_reducible refine Kd.C_drewN ?_ _) | (with_reducible refine Kd.C_drew ?_))); (case side4 => exact (Kd.R_reads' HO238.out).2.1); rintro e w' ⟨rfl, ⟨nd, rfl⟩⟩; refine ⟨_, rfl, ?_⟩; obtain ⟨Ao27, co27, eo27⟩ := Kd.R_slice HO233.out; subst eo27) | ((with_reducible refine gate_dst (N := 40) rfl ?_); (try (refine gate_guard (by rfl) ?_; dsimp only)); (refine gate_guard (by rfl) ?_; dsimp only); (with_reducible refine gate_callee (f := 20) rfl ?_); refine goesL_ (some 40) rfl rfl Tryd.func20 (by kernel_rfl) rfl #[.slice A0 l0.length c0, .int .i64 (wrap64 (a1))] rfl (by (try simp only [List.map_toArray, List.map_cons, List.map_nil]); first | done | rfl | (simp only [List.length_drop, List.length_take]; rfl)) ?_; (with_reducible refine (ten_Shift.calls _ _ l0 (wrap64 (a1)) t240 _ ?side1 ?side2 ?side3 A15.out).mono ?_); (case side1 => exact Fig.Glob.below HG.out (by repeat (first | (with_reducible first | exact HB.out | apply below_alloc | apply pw_below_drewN | apply below_drew1) | exact HB.out))); (case side2 => repeat (first | exact (Kd.C_below HR0.out (by repeat (first | (with_reducible first | exact HB.out | apply below_alloc | apply pw_below_drewN | apply below_drew1) | exact HB.out))) | (with_reducible refine Kd.C_alloc ?_ _) | (with_reducible refine Kd.C_drewN ?_ _) | (with_reducible refine Kd.C_drew ?_))); (case side3 => exact HC0.out); rintro e w28 ⟨v241, rfl, ho0, hb⟩; refine ⟨_, rfl, ?_⟩; have n0_ := Aside0.mk (Kd.R_elder' (by (with_reducible repeat (first | apply Kd.R_alloc | apply Kd.R_drewN | apply Kd.R_drew)); exact HO227.out) (Kd.R_base ho0) hb); have n1_ := Aside0.mk (Kd.R_elder' (by (with_reducible repeat (first | apply Kd.R_alloc | apply Kd.R_drewN | apply Kd.R_drew)); exact HO231.out) (Kd.R_base ho0) hb); have n2_ := Aside0.mk (Kd.R_elder' (by (with_reducible repeat (first | apply Kd.R_alloc | apply Kd.R_drewN | apply Kd.R_drew)); exact HO233.out) (Kd.R_base ho0) hb); have n3_ := Aside0.mk (Kd.R_elder' (by (with_reducible repeat (first | apply Kd.R_alloc | apply Kd.R_drewN | apply Kd.R_drew)); exact HO238.out) (Kd.R_base ho0) hb); have n4_ := Aside0.mk (Kd.R_lower (Kd.R_new' (Kd.R_new' (Kd.R_new' (Kd.R_new' ho0 (Kd.R_lt (by (with_reducible repeat (first | apply Kd.R_alloc | apply Kd.R_drewN | apply Kd.R_drew)); exact HO227.out))) (Kd.R_lt (by (with_reducible repeat (first | apply Kd.R_alloc | apply Kd.R_drewN | apply Kd.R_drew)); exact HO231.out))) (Kd.R_lt (by (with_reducible repeat (first | apply Kd.R_alloc | apply Kd.R_drewN | apply Kd.R_drew)); exact HO233.out))) (Kd.R_lt (by (with_reducible repeat (first | apply Kd.R_alloc | apply Kd.R_drewN | apply Kd.R_drew)); exact HO238.out))) (below_size (by repeat (first | (with_reducible first | exact HB.out | apply below_alloc | apply pw_below_drewN | apply below_drew1) | exact HB.out)))); have n5_ := Aside0.mk (below_step (by repeat (first | (with_reducible first | exact HB.out | apply below_alloc | apply pw_below_drewN | apply below_drew1) | exact HB.out)) hb); clear HO227; clear HO231; clear HO233; clear HO238; clear HB; have HO227 := n0_; have HO231 := n1_; have HO233 := n2_; have HO238 := n3_; have HO242 := n4_; have HB := n5_; clear n0_ n1_ n2_ n3_ n4_ n5_; (try clear hb); (try clear hb2); (try clear hk); (try clear hi); (try clear ho0); obtain ⟨Ao29, co29, eo29⟩ := Kd.R_slice HO242.out; subst eo29) | ((with_reducible refine gate_dst (N := 43) rfl ?_); (try (refine gate_guard (by rfl) ?_; dsimp only)); (refine gate_guard (by rfl) ?_; dsimp only); (with_reducible refine gate_callee (f := 20) rfl ?_); refine goesL_ (some 43) rfl rfl Tryd.func20 (by kernel_rfl) rfl #[.slice Ao29 t240.length co29, .int .i64 (wrap64 (a2))] rfl (by (try simp only [List.map_toArray, List.map_cons, List.map_nil]); first | done | rfl | (simp only [List.length_drop, List.length_take]; rfl)) ?_; (with_reducible refine (ten_Shift.calls _ _ t240 (wrap64 (a2)) t243 _ ?side1 ?side2 ?side3 A16.out).mono ?_); (case side1 => exact Fig.Glob.below HG.out (by repeat (first | (with_reducible first | exact HB.out | apply below_alloc | apply pw_below_drewN | apply below_drew1) | exact HB.out))); (case side2 => repeat (first | exact (Kd.R_reads' HO242.out).2.2 | (with_reducible refine Kd.C_alloc ?_ _) | (with_reducible refine Kd.C_drewN ?_ _) | (with_reducible refine Kd.C_drew ?_))); (case side3 => exact (Kd.R_reads' HO242.out).2.1); rintro e w30 ⟨v244, rfl, ho0, hb⟩; refine ⟨_, rfl, ?_⟩; have n0_ := Aside0.mk (Kd.R_elder' (by (with_reducible repeat (first | apply Kd.R_alloc | apply Kd.R_drewN | apply Kd.R_drew)); exact HO227.out) (Kd.R_base ho0) hb); have n1_ := Aside0.mk (Kd.R_elder' (by (with_reducible repeat (first | apply Kd.R_alloc | apply Kd.R_drewN | apply Kd.R_drew)); exact HO231.out) (Kd.R_base ho0) hb); have n2_ := Aside0.mk (Kd.R_elder' (by (with_reducible repeat (first | apply Kd.R_alloc | apply Kd.R_drewN | apply Kd.R_drew)); exact HO233.out) (Kd.R_base ho0) hb); have n3_ := Aside0.mk (Kd.R_elder' (by (with_reducible repeat (first | apply Kd.R_alloc | apply Kd.R_drewN | apply Kd.R_drew)); exact HO238.out) (Kd.R_base ho0) hb); have n4_ := Aside0.mk (Kd.R_elder' (by (with_reducible repeat (first | apply Kd.R_alloc | apply Kd.R_drewN | apply Kd.R_drew)); exact HO242.out) (Kd.R_base ho0) hb); have n5_ := Aside0.mk (Kd.R_lower (Kd.R_new' (Kd.R_new' (Kd.R_new' (Kd.R_new' (Kd.R_new' ho0 (Kd.R_lt (by (with_reducible repeat (first | apply Kd.R_alloc | apply Kd.R_drewN | apply Kd.R_drew)); exact HO227.out))) (Kd.R_lt (by (with_reducible repeat (first | apply Kd.R_alloc | apply Kd.R_drewN | apply Kd.R_drew)); exact HO231.out))) (Kd.R_lt (by (with_reducible repeat (first | apply Kd.R_alloc | apply Kd.R_drewN | apply Kd.R_drew)); exact HO233.out))) (Kd.R_lt (by (with_reducible repeat (first | apply Kd.R_alloc | apply Kd.R_drewN | apply Kd.R_drew)); exact HO238.out))) (Kd.R_lt (by (with_reducible repeat (first | apply Kd.R_alloc | apply Kd.R_drewN | apply Kd.R_drew)); exact HO242.out))) (below_size (by repeat (first | (with_reducible first | exact HB.out | apply below_alloc | apply pw_below_drewN | apply below_drew1) | exact HB.out)))); have n6_ := Aside0.mk (below_step (by repeat (first | (with_reducible first | exact HB.out | apply below_alloc | apply pw_below_drewN | apply below_drew1) | exact HB.out)) hb); clear HO227; clear HO231; clear HO233; clear HO238; clear HO242; clear HB; have HO227 := n0_; have HO231 := n1_; have HO233 := n2_; have HO238 := n3_; have HO242 := n4_; have HO245 := n5_; have HB := n6_; clear n0_ n1_ n2_ n3_ n4_ n5_ n6_; (try clear hb); (try clear hb2); (try clear hk); (try clear hi); (try clear ho0)) | ((with_reducible refine gate_dst (N := 50) rfl ?_); (try (refine gate_guard (by rfl) ?_; dsimp only)); (refine gate_guard (by rfl) ?_; dsimp only); (with_reducible refine gate_callee (f := 20) rfl ?_); refine goesL_ (some 50) rfl rfl Tryd.func20 (by kernel_rfl) rfl #[.slice A0 l0.length c0, .int .i64 (wrap64 ((wrap64 (a1)) + (wrap64 (a2))))] rfl (by (try simp only [List.map_toArray, List.map_cons, List.map_nil]); first | done | rfl | (simp only [List.length_drop, List.length_take]; rfl)) ?_; (with_reducible refine (ten_Shift.calls _ _ l0 (wrap64 ((wrap64 (a1)) + (wrap64 (a2)))) t246 _ ?side1 ?side2 ?side3 A17.out).mono ?_); (case side1 => exact Fig.Glob.below HG.out (by repeat (first | (with_reducible first | exact HB.out | apply below_alloc | apply pw_below_drewN | apply below_drew1) | exact HB.out))); (case side2 => repeat (first | exact (Kd.C_below HR0.out HB.out) | (with_reducible refine Kd.C_alloc ?_ _) | (with_reducible refine Kd.C_drewN ?_ _) | (with_reducible refine Kd.C_drew ?_))); (case side3 => exact HC0.out); rintro e w31 ⟨v247, rfl, ho0, hb⟩; refine ⟨_, rfl, ?_⟩; have n0_ := Aside0.mk (Kd.R_elder' (by (with_reducible repeat (first | apply Kd.R_alloc | apply Kd.R_drewN | apply Kd.R_drew)); exact HO227.out) (Kd.R_base ho0) hb); have n1_ := Aside0.mk (Kd.R_elder' (by (with_reducible repeat (first | apply Kd.R_alloc | apply Kd.R_drewN | apply Kd.R_drew)); exact HO231.out) (Kd.R_base ho0) hb); have n2_ := Aside0.mk (Kd.R_elder' (by (with_reducible repeat (first | apply Kd.R_alloc | apply Kd.R_drewN | apply Kd.R_drew)); exact HO233.out) (Kd.R_base ho0) hb); have n3_ := Aside0.mk (Kd.R_elder' (by (with_reducible repeat (first | apply Kd.R_alloc | apply Kd.R_drewN | apply Kd.R_drew)); exact HO238.out) (Kd.R_base ho0) hb); have n4_ := Aside0.mk (Kd.R_elder' (by (with_reducible repeat (first | apply Kd.R_alloc | apply Kd.R_drewN | apply Kd.R_drew)); exact HO242.out) (Kd.R_base ho0) hb); have n5_ := Aside0.mk (Kd.R_elder' (by (with_reducible repeat (first | apply Kd.R_alloc | apply Kd.R_drewN | apply Kd.R_drew)); exact HO245.out) (Kd.R_base ho0) hb); have n6_ := Aside0.mk (Kd.R_lower (Kd.R_new' (Kd.R_new' (Kd.R_new' (Kd.R_new' (Kd.R_new' (Kd.R_new' ho0 (Kd.R_lt (by (with_reducible repeat (first | apply Kd.R_alloc | apply Kd.R_drewN | apply Kd.R_drew)); exact HO227.out))) (Kd.R_lt (by (with_reducible repeat (first | apply Kd.R_alloc | apply Kd.R_drewN | apply Kd.R_drew)); exact HO231.out))) (Kd.R_lt (by (with_reducible repeat (first | apply Kd.R_alloc | apply Kd.R_drewN | apply Kd.R_drew)); exact HO233.out))) (Kd.R_lt (by (with_reducible repeat (first | apply Kd.R_alloc | apply Kd.R_drewN | apply Kd.R_drew)); exact HO238.out))) (Kd.R_lt (by (with_reducible repeat (first | apply Kd.R_alloc | apply Kd.R_drewN | apply Kd.R_drew)); exact HO242.out))) (Kd.R_lt (by (with_reducible repeat (first | apply Kd.R_alloc | apply Kd.R_drewN | apply Kd.R_drew)); exact HO245.out))) (below_size (by repeat (first | (with_reducible first | exact HB.out | apply below_alloc | apply pw_below_drewN | apply below_drew1) | exact HB.out)))); have n7_ := Aside0.mk (below_step (by repeat (first | (with_reducible first | exact HB.out | apply below_alloc | apply pw_below_drewN | apply below_drew1) | exact HB.out)) hb); clear HO227; clear HO231; clear HO233; clear HO238; clear HO242; clear HO245; clear HB; have HO227 := n0_; have HO231 := n1_; have HO233 := n2_; have HO238 := n3_; have HO242 := n4_; have HO245 := n5_; have HO248 := n6_; have HB := n7_; clear n0_ n1_ n2_ n3_ n4_ n5_ n6_ n7_; (try clear hb); (try clear hb2); (try clear hk); (try clear hi); (try clear ho0); obtain ⟨Ao32, co32, eo32⟩ := Kd.R_slice HO245.out; subst eo32; obtain ⟨Ao33, co33, eo33⟩ := Kd.R_slice HO248.out; subst eo33) | ((with_reducible refine gate_dst (N := 51) rfl ?_); (try (refine gate_guard (by rfl) ?_; dsimp only)); (refine gate_guard (by rfl) ?_; dsimp only); (with_reducible refine gate_callee (f := 15) rfl ?_); refine goesL_ (some 51) rfl rfl Tryd.func15 (by kernel_rfl) rfl #[.slice Ao32 t243.length co32, .slice Ao33 t246.length co33] rfl (by (try simp only [List.map_toArray, List.map_cons, List.map_nil]); first | done | rfl | (simp only [List.length_drop, List.length_take]; rfl)) ?_; (with_reducible refine (figureheadref01_Same.calls k _ _ t243 _ _ t246 t249 _ ?side1 ?side2 ?side3 ?side4 A18.out).mono ?_); (case side1 => repeat (first | exact (Kd.R_reads' HO245.out).2.2 | (with_reducible refine Kd.C_alloc ?_ _) | (with_reducible refine Kd.C_drewN ?_ _) | (with_reducible refine Kd.C_drew ?_))); (case side2 => exact (Kd.R_reads' HO245.out).2.1); (case side3 => repeat (first | exact (Kd.R_reads' HO248.out).2.2 | (with_reducible refine Kd.C_alloc ?_ _) | (with_reducible refine Kd.C_drewN ?_ _) | (with_reducible refine Kd.C_drew ?_))); (case side4 => exact (Kd.R_reads' HO248.out).2.1); rintro e w' ⟨rfl, ⟨nd, rfl⟩⟩; refine ⟨_, rfl, ?_⟩))
          go_ret
          exact ⟨by first | rfl | (simp [errW_none, errW_some] <;> rfl) | (simp [*, errW_none, errW_some] <;> rfl), by repeat (first | (with_reducible first | exact HB.out | apply below_alloc | apply pw_below_drewN | apply below_drew1) | exact HB.out)⟩
        · rw [if_neg c14] at H
          have c14b0 : ((t229.length : Int) == 0) = false := beq_eq_false_iff_ne.mpr c14
          have c14b1 : ((t229.length : Int) != 0) = true := bne_iff_ne.mpr c14
          have c14b2 : ¬ (t229 = []) := fun h_ => c14 (by rw [h_]; rfl)
          exact absurd ((Option.some.inj H).trans HT.out) (by decide)
      · replace c13 := Bool.eq_false_iff.mpr c13
        subst c13
        have H1 : (some false) = some r := by rw [if_neg (show ¬ (false = true) by decide)] at H; exact H
        clear H
        have H := H1
        clear H1
        exact absurd ((Option.some.inj H).trans HT.out) (by decide)
    · replace c9 := Bool.eq_false_iff.mpr c9
      subst c9
      have H1 : (some false) = some r := by rw [if_neg (show ¬ (false = true) by decide)] at H; exact H
      clear H
      have H := H1
      clear H1
      exact absurd ((Option.some.inj H).trans HT.out) (by decide)
  · replace c5 := Bool.eq_false_iff.mpr c5
    subst c5
    have H1 : ((figureheadlaw04_answers.f).bind fun t224 => (some t224)) = some r := by rw [if_neg (show ¬ (false = true) by decide)] at H; exact H
    clear H
    have H := H1
    clear H1
    replace H := Option.bind_eq_some_iff.mp H
    obtain ⟨t224, A340, H⟩ := H
    replace H : (some t224) = some r := H
    have A34 := Aside0.mk A340
    clear A340
    obtain rfl := Option.some.inj H
    go_enter Tryd.func6, Tryd.ntmps6
    go_wp2_with (first | ((with_reducible refine gate_callee (f := 8) rfl ?_); refine goesL_ (some 10) rfl rfl Tryd.func8 (by kernel_rfl) rfl #[.slice A0 l0.length c0] rfl (by (try simp only [List.map_toArray, List.map_cons, List.map_nil]); first | done | rfl | (simp only [List.length_drop, List.length_take]; rfl)) ?_; (with_reducible refine (figureheadlaw04_good.calls k _ _ l0 false _ ?side1 ?side2 A4.out).mono ?_); (case side1 => repeat (first | exact HR0.out | (with_reducible refine Kd.C_alloc ?_ _) | (with_reducible refine Kd.C_drewN ?_ _) | (with_reducible refine Kd.C_drew ?_))); (case side2 => exact HC0.out); rintro e w' ⟨rfl, ⟨nd, rfl⟩⟩; refine ⟨_, rfl, ?_⟩) | ((with_reducible refine gate_callee (f := 9) rfl ?_); refine goesL_ (some 12) rfl rfl Tryd.func9 (by kernel_rfl) rfl #[] rfl (by (try simp only [List.map_toArray, List.map_cons, List.map_nil]); first | done | rfl | (simp only [List.length_drop, List.length_take]; rfl)) ?_; (with_reducible refine (figureheadlaw04_answers.calls  t224 _ ?side1 ?side2 A34.out).mono ?_); (case side1 => exact Fig.Glob.below HG.out (by repeat (first | (with_reducible first | exact HB.out | apply below_alloc | apply pw_below_drewN | apply below_drew1) | exact HB.out))); (case side2 => exact ⟨by first | rfl | exact HT.out⟩); rintro e w35 ⟨rfl, hb⟩; refine ⟨_, rfl, ?_⟩; have n0_ := Aside0.mk (below_step (by repeat (first | (with_reducible first | exact HB.out | apply below_alloc | apply pw_below_drewN | apply below_drew1) | exact HB.out)) hb); clear HB; have HB := n0_; clear n0_; (try clear hb); (try clear hb2); (try clear hk); (try clear hi)))
    go_ret
    exact ⟨by first | rfl | (simp [errW_none, errW_some] <;> rfl) | (simp [*, errW_none, errW_some] <;> rfl), by repeat (first | (with_reducible first | exact HB.out | apply below_alloc | apply pw_below_drewN | apply below_drew1) | exact HB.out)⟩

end Go.Proofs.YtnpibnjncjieaaaDoor.Px

namespace Go.Proofs.YtnpibnjncjieaaaDoor.Px
open Fig Go.RowKit Go.Proofs.YtnpibnjncjieaaaDoorW.PrintWords Go.Proofs.YtnpibnjncjieaaaDoorW.PrintLast Go.Proofs.YtnpibnjncjieaaaDoorW.PrintMore
attribute [local go_sem] max2_int min2_int max_two min_two max_three min_three max_four min_four   -- for this text's walks alone

/-! plain facts: figureheadref01_Good -/
theorem Good_loop (l : List Int) (hl : l.length ≤ 4611686018427387904) (h0 : ∀ x ∈ l, 0 ≤ x) : ∀ (d n : Nat), l.length - n = d → n ≤ l.length → Ev (fun k => figureheadref01_Good.l0 k l (n : Int)) (goodL (l.drop n))
  | 0, n, hd, hn => by
    refine evDone (r' := true) (fun k => ?_) ?_
    · simp only [figureheadref01_Good.l0]; rw [if_neg (by omega)]
    · rw [List.drop_of_length_le (by omega)]; rfl
  | d + 1, n, hd, hn => by
    have hlt : n < l.length := by omega
    have hb := rd_get hlt
    have hc := List.drop_eq_getElem_cons hlt
    have hp := h0 _ (List.getElem_mem hlt)
    by_cases h9 : rd l (n : Int) > 999999999
    · refine evDone (r' := false) (fun k => ?_) ?_
      · simp only [figureheadref01_Good.l0]; rw [if_pos (by omega), if_pos (by omega), if_pos h9]
      · rw [hc]; symm; rw [Bool.eq_false_iff]; intro e; have := (goodL_cons.1 e).1; omega
    · refine Ev.step (f := fun k => figureheadref01_Good.l0 k l ((n + 1 : Nat) : Int)) (fun k => ?_) ?_
      · simp only [figureheadref01_Good.l0]; rw [if_pos (by omega), if_pos (by omega), if_neg h9, w64 (by omega) (by omega)]; rfl
      · have := Good_loop l hl h0 d (n + 1) (by omega) (by omega)
        rw [hc]
        have e : goodL (l[n] :: l.drop (n + 1)) = goodL (l.drop (n + 1)) := by
          rw [Bool.eq_iff_iff, goodL_cons]
          exact ⟨fun h => h.2, fun h => ⟨⟨hp, by omega⟩, h⟩⟩
        rw [e]; exact this
theorem Good_ev {l : List Int} (hl : l.length ≤ 4611686018427387904) (h0 : ∀ x ∈ l, 0 ≤ x) : Ev (fun k => figureheadref01_Good.f k l) (goodL l) := by
  have := Good_loop l hl h0 l.length 0 (by omega) (by omega)
  simpa [figureheadref01_Good.f] using this

end Go.Proofs.YtnpibnjncjieaaaDoor.Px

namespace Go.Proofs.YtnpibnjncjieaaaDoor.Px
open Fig Go.RowKit Go.Proofs.YtnpibnjncjieaaaDoorW.PrintWords Go.Proofs.YtnpibnjncjieaaaDoorW.PrintLast Go.Proofs.YtnpibnjncjieaaaDoorW.PrintMore
attribute [local go_sem] max2_int min2_int max_two min_two max_three min_three max_four min_four   -- for this text's walks alone

/-! plain facts: figureheadlaw04_good -/
theorem good04_ev {l : List Int} (h0 : ∀ x ∈ l, 0 ≤ x ∧ x < 4294967296) (hl : l.length ≤ 1000000000000000000) : Ev (fun k => figureheadlaw04_good.f k l) (decide (l.length ≤ 40) && goodL l) := by
  unfold figureheadlaw04_good.f
  by_cases h : l.length ≤ 40
  · have h2 : (l.length : Int) ≤ 40 := by omega
    simp only [h2, h, if_true, decide_true, Bool.true_and]
    exact Ev.bind (Good_ev (by omega) (fun x hx => (h0 x hx).1)) (Ev.now _)
  · have h2 : ¬ (l.length : Int) ≤ 40 := by omega
    simp only [h2, h, if_false, decide_false, Bool.false_and]
    exact Ev.now _

end Go.Proofs.YtnpibnjncjieaaaDoor.Px

namespace Go.Proofs.YtnpibnjncjieaaaDoor.Px
open Fig Go.RowKit Go.Proofs.YtnpibnjncjieaaaDoorW.PrintWords Go.Proofs.YtnpibnjncjieaaaDoorW.PrintLast Go.Proofs.YtnpibnjncjieaaaDoorW.PrintMore
attribute [local go_sem] max2_int min2_int max_two min_two max_three min_three max_four min_four   -- for this text's walks alone

/-! plain facts: figureheadlaw04_answers -/
theorem limbs_eq {l : List Int} {n : Nat} (g : goodL l = true) (ht : trimL l = l) (hv : valL l = n) : limbs n = l := by rw [← hv, ← trimL_eq g, ht]
theorem answers04 : figureheadlaw04_answers.f = some true := by
  have n1 : ten_Number.f (⟨#[48, 48, 49, 50, 48, 48, 48, 48, 48, 48, 48, 51, 52]⟩ : ByteArray) = some ([34, 12], true) := by
    unfold ten_Number.f
    rw [if_pos (by decide), if_pos ⟨by decide, by decide⟩, limbs_eq (l := [34, 12]) (by decide) (by decide) (by decide)]
  have n2 : ten_Number.f (⟨#[]⟩ : ByteArray) = some ([], false) := by
    unfold ten_Number.f
    rw [if_pos (by decide), if_neg (by decide)]
  have c1 : ten_Cut.f [1234] 2 = some ([12], [34]) := by
    unfold ten_Cut.f
    rw [if_pos (by decide)]
    rw [limbs_eq (l := [12]) (by decide) (by decide) (by decide), limbs_eq (l := [34]) (by decide) (by decide) (by decide)]
  have hd : digB 12000000034 = (⟨#[49, 50, 48, 48, 48, 48, 48, 48, 48, 51, 52]⟩ : ByteArray) := by
    have := stripB_eq (s := (⟨#[49, 50, 48, 48, 48, 48, 48, 48, 48, 51, 52]⟩ : ByteArray)) (by decide)
    rw [show vB (⟨#[49, 50, 48, 48, 48, 48, 48, 48, 48, 51, 52]⟩ : ByteArray) = 12000000034 by decide] at this
    rw [← this]; rfl
  have dg : ten_Digits.f [34, 12] = some (⟨#[49, 50, 48, 48, 48, 48, 48, 48, 48, 51, 52]⟩ : ByteArray) := by
    unfold ten_Digits.f
    rw [if_pos (by decide), show valL [34, 12] = 12000000034 by decide, zeroB, if_neg (by decide), hd]
  have ln : ten_Len.f [34, 12] = some 11 := by
    unfold ten_Len.f
    rw [show nat_Trim.f [34, 12] = some [34, 12] by unfold nat_Trim.f trimF; rw [if_pos (by decide)]; decide]
    simp only [Option.bind_some]
    rw [if_neg (by decide), dg]; rfl
  unfold figureheadlaw04_answers.f
  rw [n1, n2, c1]
  simp only [Option.bind_some]
  rw [dg, ln]
  simp [rd]

end Go.Proofs.YtnpibnjncjieaaaDoor.Px

namespace Go.Proofs.YtnpibnjncjieaaaDoor.Px
open Fig Go.RowKit Go.Proofs.YtnpibnjncjieaaaDoorW.PrintWords Go.Proofs.YtnpibnjncjieaaaDoorW.PrintLast Go.Proofs.YtnpibnjncjieaaaDoorW.PrintMore
attribute [local go_sem] max2_int min2_int max_two min_two max_three min_three max_four min_four   -- for this text's walks alone

/-! plain facts: figureheadref01_Strip -/
theorem Strip_loop (s : ByteArray) (hs : s.size ≤ 4611686018427387904) : ∀ (d n : Nat), s.size - n = d → n ≤ s.size → Ev (fun k => figureheadref01_Strip.l0 k s (n : Int)) (⟨(stripL (s.data.toList.drop n)).toArray⟩ : ByteArray)
  | 0, n, hd, hn => by
    refine evDone (r' := s.extract n s.size) (fun k => ?_) ?_
    · simp only [figureheadref01_Strip.l0]; rw [if_neg (by omega), if_pos (by omega), if_pos (by omega)]; simp
    · apply B_ext; rw [B_from]
      have : s.data.toList.drop n = [] := List.drop_of_length_le (by rw [← size_eq]; omega)
      rw [this]; rfl
  | d + 1, n, hd, hn => by
    have hlt : n < s.size := by omega
    have hb := bt_get hlt
    have hc := List.drop_eq_getElem_cons (l := s.data.toList) (i := n) (by rw [← size_eq]; exact hlt)
    by_cases h48 : bt s (n : Int) = 48
    · refine Ev.step (f := fun k => figureheadref01_Strip.l0 k s ((n + 1 : Nat) : Int)) (fun k => ?_) ?_
      · simp only [figureheadref01_Strip.l0]; rw [if_pos (by omega), if_pos (by omega), if_pos h48, w64 (by omega) (by omega)]; rfl
      · have := Strip_loop s hs d (n + 1) (by omega) (by omega)
        rw [hc]
        have h2 : s.data.toList[n]'(by rw [← size_eq]; exact hlt) = 48 := UInt8.toNat.inj (by rw [hb] at h48; show _ = 48; omega)
        rw [h2]
        simpa [stripL] using this
    · refine evDone (r' := s.extract n s.size) (fun k => ?_) ?_
      · simp only [figureheadref01_Strip.l0]; rw [if_pos (by omega), if_pos (by omega), if_neg h48, if_pos (by omega)]; simp
      · apply B_ext; rw [B_from]
        refine (stripL_of_head ?_).symm
        rw [hc, List.head?_cons]
        intro e
        injection e with e
        rw [hb, e] at h48; exact h48 rfl
theorem Strip_ev {s : ByteArray} (hs : s.size ≤ 4611686018427387904) : Ev (fun k => figureheadref01_Strip.f k s) (stripB s) := by
  have := Strip_loop s hs s.size 0 (by omega) (by omega)
  simpa [figureheadref01_Strip.f, stripB] using this
theorem StripD_ev {s : ByteArray} (hs : s.size ≤ 4611686018427387904) (h : dB s = true) : Ev (fun k => figureheadref01_Strip.f k s) (digB (vB s)) := by
  rw [← stripB_eq h]; exact Strip_ev hs

end Go.Proofs.YtnpibnjncjieaaaDoor.Px

namespace Go.Proofs.YtnpibnjncjieaaaDoor.Px
open Fig Go.RowKit Go.Proofs.YtnpibnjncjieaaaDoorW.PrintWords Go.Proofs.YtnpibnjncjieaaaDoorW.PrintLast Go.Proofs.YtnpibnjncjieaaaDoorW.PrintMore
attribute [local go_sem] max2_int min2_int max_two min_two max_three min_three max_four min_four   -- for this text's walks alone

/-! plain facts: figureheadref01_Text -/
theorem pow_split (n m : Nat) : 10 ^ (n + m) = 10 ^ n * 10 ^ m := Nat.pow_add 10 n m
theorem one_char {c : Nat} (h : c ≤ 9) : dB (strOfNums [((48 : Int) + (c : Int)) % 4294967296 % 256]) = true ∧ vB (strOfNums [((48 : Int) + (c : Int)) % 4294967296 % 256]) = c ∧ (strOfNums [((48 : Int) + (c : Int)) % 4294967296 % 256]).size = 1 := by
  have e : ((48 : Int) + (c : Int)) % 4294967296 % 256 = ((48 + c : Nat) : Int) := by omega
  have e2 : (UInt8.ofNat (48 + c)).toNat = 48 + c := by rw [UInt8.toNat_ofNat']; omega
  rw [e]
  refine ⟨?_, ?_, ?_⟩
  · unfold dB; rw [B_nums]; simp only [List.map_cons, List.map_nil, Int.toNat_natCast]; rw [digL_cons, isD_iff, e2]; exact ⟨by omega, rfl⟩
  · unfold vB; rw [B_nums]; simp only [List.map_cons, List.map_nil, Int.toNat_natCast, List.reverse_singleton, rv, e2]; omega
  · rw [strOfNums_size]; rfl
theorem Text_in (l : List Int) (i : Nat) (hi : i < 4611686018427387904) (r : ByteArray) : ∀ (m : Nat) (s : ByteArray) (v : Nat), m ≤ 9 → v < 4294967296 → dB s = true → s.size + m ≤ 4611686018427387904 →
    (∀ s', dB s' = true → vB s' = vB s + 10 ^ s.size * (v % 10 ^ m) → s'.size = s.size + m → Ev (fun k => figureheadref01_Text.l0 k l s' ((i + 1 : Nat) : Int)) r) →
    Ev (fun k => figureheadref01_Text.l1 k l s (i : Int) (v : Int) ((9 - m : Nat) : Int)) r
  | 0, s, v, hm, hv, hd, hs, h => by
    refine Ev.step (f := fun k => figureheadref01_Text.l0 k l s ((i + 1 : Nat) : Int)) (fun k => ?_) (h s hd (by simp [Nat.mod_one]) rfl)
    simp only [figureheadref01_Text.l1]; rw [if_neg (by omega), w64 (by omega) (by omega)]; rfl
  | m + 1, s, v, hm, hv, hd, hs, h => by
    obtain ⟨c1, c2, c3⟩ := one_char (c := v % 10) (by omega)
    have et : Int.tmod (v : Int) 10 = ((v % 10 : Nat) : Int) := by rw [Int.tmod_eq_emod_of_nonneg (by omega)]; omega
    have ed : (Int.tdiv (v : Int) 10) % 4294967296 = ((v / 10 : Nat) : Int) := by rw [Int.tdiv_eq_ediv_of_nonneg (by omega)]; omega
    refine Ev.step (f := fun k => figureheadref01_Text.l1 k l (strOfNums [((48 : Int) + ((v % 10 : Nat) : Int)) % 4294967296 % 256] ++ s) (i : Int) ((v / 10 : Nat) : Int) ((9 - m : Nat) : Int)) (fun k => ?_) (Text_in l i hi r m _ (v / 10) (by omega) (by omega) (dB_append.2 ⟨c1, hd⟩) (by rw [ByteArray.size_append]; omega) ?_)
    · simp only [figureheadref01_Text.l1, Option.bind_some]; rw [if_pos (by omega), et, ed, if_pos (by omega), w64 (by omega) (by omega)]
      congr 1; omega
    · intro s' d' v' z'
      rw [ByteArray.size_append, c3] at z' v'
      refine h s' d' ?_ (by omega)
      rw [v', vB_append, c2]
      have e3 : v % 10 ^ (m + 1) = v % 10 + 10 * (v / 10 % 10 ^ m) := by rw [Nat.pow_succ, Nat.mul_comm (10 ^ m) 10, Nat.mod_mul]
      rw [e3, Nat.mul_add, Nat.add_comm 1 s.size, Nat.pow_succ, Nat.mul_comm (v % 10), ← Nat.mul_assoc]; omega
theorem Text_loop (l : List Int) (hg : goodL l = true) (hl : l.length ≤ 1000000000000) : ∀ (d n : Nat) (s : ByteArray), l.length - n = d → n ≤ l.length → dB s = true → s.size = 9 * n →
    Ev (fun k => figureheadref01_Text.l0 k l s (n : Int)) (digB (vB s + 10 ^ s.size * valL (l.drop n)))
  | 0, n, s, hd, hn, hs, hz => by
    refine Ev.step (f := fun k => (figureheadref01_Strip.f k s).bind fun t => some t) (fun k => ?_) (Ev.bind (StripD_ev (by omega) hs) ?_)
    · simp only [figureheadref01_Text.l0]; rw [if_neg (by omega)]
    · rw [List.drop_of_length_le (by omega)]; simpa [valL] using Ev.now _
  | d + 1, n, s, hd, hn, hs, hz => by
    have hlt : n < l.length := by omega
    have hb := rd_get hlt
    have hc := List.drop_eq_getElem_cons hlt
    have hp := goodL_iff.1 hg _ (List.getElem_mem hlt)
    refine Ev.step (f := fun k => figureheadref01_Text.l1 k l s (n : Int) ((l[n].toNat : Nat) : Int) ((9 - 9 : Nat) : Int)) (fun k => ?_) (Text_in l n (by omega) _ 9 s l[n].toNat (by omega) (by omega) hs (by omega) ?_)
    · simp only [figureheadref01_Text.l0]; rw [if_pos (by omega), if_pos (by omega), hb, Int.toNat_of_nonneg hp.1]; rfl
    · intro s' d' v' z'
      refine evIs (Text_loop l hg hl d (n + 1) s' (by omega) (by omega) d' (by omega)) ?_
      rw [v', z', hc]
      simp only [valL]
      rw [Nat.mod_eq_of_lt (by omega), pow_split, Nat.mul_add, Nat.mul_assoc]
      congr 1; rw [show (10 : Nat) ^ 9 = 1000000000 from rfl]; omega
theorem Text_ev {l : List Int} (hg : goodL l = true) (hl : l.length ≤ 1000000000000) : Ev (fun k => figureheadref01_Text.f k l) (digB (valL l)) := by
  have := Text_loop l hg hl l.length 0 (⟨#[]⟩ : ByteArray) (by omega) (by omega) rfl rfl
  refine evIs this ?_
  congr 1
  show rv [] + 10 ^ 0 * valL l = valL l
  simp [rv]
theorem Text_any_loop (l : List Int) (h0 : ∀ x ∈ l, 0 ≤ x ∧ x < 4294967296) (hl : l.length ≤ 100000000000000000) : ∀ (d n : Nat) (s : ByteArray), l.length - n = d → n ≤ l.length → dB s = true → s.size = 9 * n → ∃ r, Ev (fun k => figureheadref01_Text.l0 k l s (n : Int)) r
  | 0, n, s, hd, hn, hs, hz => by
    refine ⟨_, Ev.step (f := fun k => (figureheadref01_Strip.f k s).bind fun t => some t) (fun k => ?_) (Ev.bind (StripD_ev (by omega) hs) (Ev.now _))⟩
    simp only [figureheadref01_Text.l0]; rw [if_neg (by omega)]
  | d + 1, n, s, hd, hn, hs, hz => by
    have hlt : n < l.length := by omega
    have hb := rd_get hlt
    have hp := h0 _ (List.getElem_mem hlt)
    have key : ∃ r, ∀ s', dB s' = true → vB s' = vB s + 10 ^ s.size * (l[n].toNat % 10 ^ 9) → s'.size = s.size + 9 → Ev (fun k => figureheadref01_Text.l0 k l s' ((n + 1 : Nat) : Int)) r := by
      rcases Classical.em (∃ s', dB s' = true ∧ vB s' = vB s + 10 ^ s.size * (l[n].toNat % 10 ^ 9) ∧ s'.size = s.size + 9) with ⟨s0, a1, a2, a3⟩ | hno
      · obtain ⟨r, hr⟩ := Text_any_loop l h0 hl d (n + 1) s0 (by omega) (by omega) a1 (by omega)
        refine ⟨r, fun s' b1 b2 b3 => ?_⟩
        have : s' = s0 := by
          apply B_ext
          have e := rv_inj (a := s'.data.toList.reverse) (b := s0.data.toList.reverse) (by rw [digL_reverse]; exact b1) (by rw [digL_reverse]; exact a1) (by rw [List.length_reverse, List.length_reverse, ← size_eq, ← size_eq, b3, a3]) (b2.trans a2.symm)
          have e2 := congrArg List.reverse e
          rwa [List.reverse_reverse, List.reverse_reverse] at e2
        rw [this]; exact hr
      · exact ⟨⟨#[]⟩, fun s' b1 b2 b3 => absurd ⟨s', b1, b2, b3⟩ hno⟩
    obtain ⟨r, hr⟩ := key
    refine ⟨r, Ev.step (f := fun k => figureheadref01_Text.l1 k l s (n : Int) ((l[n].toNat : Nat) : Int) ((9 - 9 : Nat) : Int)) (fun k => ?_) (Text_in l n (by omega) _ 9 s l[n].toNat (by omega) (by omega) hs (by omega) hr)⟩
    simp only [figureheadref01_Text.l0]; rw [if_pos (by omega), if_pos (by omega), hb, Int.toNat_of_nonneg hp.1]; rfl
theorem Text_any {l : List Int} (h0 : ∀ x ∈ l, 0 ≤ x ∧ x < 4294967296) (hl : l.length ≤ 100000000000000000) : ∃ r, Ev (fun k => figureheadref01_Text.f k l) r :=
  Text_any_loop l h0 hl l.length 0 (⟨#[]⟩ : ByteArray) (by omega) (by omega) rfl rfl

end Go.Proofs.YtnpibnjncjieaaaDoor.Px

namespace Go.Proofs.YtnpibnjncjieaaaDoor.Px
open Fig Go.RowKit Go.Proofs.YtnpibnjncjieaaaDoorW.PrintWords Go.Proofs.YtnpibnjncjieaaaDoorW.PrintLast Go.Proofs.YtnpibnjncjieaaaDoorW.PrintMore
attribute [local go_sem] max2_int min2_int max_two min_two max_three min_three max_four min_four   -- for this text's walks alone

/-! plain facts: figureheadref01_Same -/
theorem Same_loop (a b : List Int) (hl : a.length ≤ 4611686018427387904) (he : a.length = b.length) : ∀ (d n : Nat), a.length - n = d → n ≤ a.length → Ev (fun k => figureheadref01_Same.l0 k a b (n : Int)) (decide (a.drop n = b.drop n))
  | 0, n, hd, hn => by
    refine evDone (r' := true) (fun k => ?_) ?_
    · simp only [figureheadref01_Same.l0]; rw [if_neg (by omega)]
    · rw [List.drop_of_length_le (by omega), List.drop_of_length_le (by omega)]; simp
  | d + 1, n, hd, hn => by
    have ha := rd_get (l := a) (n := n) (by omega)
    have hb := rd_get (l := b) (n := n) (by omega)
    have ca := List.drop_eq_getElem_cons (l := a) (i := n) (by omega)
    have cb := List.drop_eq_getElem_cons (l := b) (i := n) (by omega)
    by_cases h9 : rd a (n : Int) = rd b (n : Int)
    · refine Ev.step (f := fun k => figureheadref01_Same.l0 k a b ((n + 1 : Nat) : Int)) (fun k => ?_) ?_
      · simp only [figureheadref01_Same.l0]; rw [if_pos (by omega), if_pos (by omega), if_pos (by omega), if_pos h9, w64 (by omega) (by omega)]; rfl
      · have := Same_loop a b hl he d (n + 1) (by omega) (by omega)
        refine evIs this ?_
        rw [ca, cb, show a[n] = b[n] by rw [← ha, ← hb, h9]]
        simp only [List.cons.injEq, true_and]
    · refine evDone (r' := false) (fun k => ?_) ?_
      · simp only [figureheadref01_Same.l0]; rw [if_pos (by omega), if_pos (by omega), if_pos (by omega), if_neg h9]
      · rw [ca, cb]; symm; rw [decide_eq_false_iff_not]; intro e; injection e with e _
        rw [ha, hb] at h9; exact h9 e
theorem Same_ev {a b : List Int} (hl : a.length ≤ 4611686018427387904) : Ev (fun k => figureheadref01_Same.f k a b) (decide (a = b)) := by
  by_cases he : a.length = b.length
  · have := Same_loop a b hl he a.length 0 (by omega) (by omega)
    simp only [figureheadref01_Same.f, he, if_true]
    simpa using this
  · refine ⟨0, fun k _ => ?_⟩
    simp only [figureheadref01_Same.f]
    rw [if_neg (by omega)]; congr 1; symm; rw [decide_eq_false_iff_not]; rintro rfl; exact he rfl
theorem Same_self {a : List Int} (hl : a.length ≤ 4611686018427387904) : Ev (fun k => figureheadref01_Same.f k a a) true := by
  simpa using Same_ev (a := a) (b := a) hl
theorem Same_true {a b : List Int} (h : a = b) (hl : a.length ≤ 4611686018427387904) : Ev (fun k => figureheadref01_Same.f k a b) true := by subst h; exact Same_self hl

end Go.Proofs.YtnpibnjncjieaaaDoor.Px

namespace Go.Proofs.YtnpibnjncjieaaaDoor.Px
open Fig Go.RowKit Go.Proofs.YtnpibnjncjieaaaDoorW.PrintWords Go.Proofs.YtnpibnjncjieaaaDoorW.PrintLast Go.Proofs.YtnpibnjncjieaaaDoorW.PrintMore
attribute [local go_sem] max2_int min2_int max_two min_two max_three min_three max_four min_four   -- for this text's walks alone

/-! plain facts: figureheadref01_Number -/
theorem Number_in (s : ByteArray) (hd : dB s = true) (hs : s.size ≤ 1000000000000) (out : List Int) (ho : out.length ≤ 1000000000000) (fr : Nat) (hf : fr ≤ s.size) (r : List Int) : ∀ (d i x : Nat), s.size - i = d → fr ≤ i → i ≤ s.size → s.size - fr ≤ 9 → x < 10 ^ (i - fr) →
    Ev (fun k => figureheadref01_Number.l0 k (s.extract 0 fr) (out ++ [((x * 10 ^ d + rv (s.data.toList.drop i).reverse : Nat) : Int)])) r → Ev (fun k => figureheadref01_Number.l1 k s out (fr : Int) (x : Int) (i : Int)) r
  | 0, i, x, h1, h2, h3, h4, h5, h => by
    refine Ev.step (fun k => ?_) h
    have e : s.data.toList.drop i = [] := List.drop_of_length_le (by rw [← size_eq]; omega)
    simp only [figureheadref01_Number.l1]; rw [if_neg (by omega), if_pos (by omega), if_pos (by omega), if_pos (by omega), e]; simp [rv]
  | d + 1, i, x, h1, h2, h3, h4, h5, h => by
    have hlt : i < s.size := by omega
    have hb := bt_get hlt
    have hc := List.drop_eq_getElem_cons (l := s.data.toList) (i := i) (by rw [← size_eq]; exact hlt)
    have hdig := isD_iff.1 (digL_iff.1 hd _ (List.getElem_mem (l := s.data.toList) (n := i) (by rw [← size_eq]; exact hlt)))
    generalize hcc : s.data.toList[i]'(by rw [← size_eq]; exact hlt) = c at *
    have p1 : 10 ^ (i - fr) ≤ 10 ^ 8 := Nat.pow_le_pow_right (by omega) (by omega)
    have p8 : (10 : Nat) ^ 8 = 100000000 := rfl
    have p2 : 10 ^ (i + 1 - fr) = 10 ^ (i - fr) * 10 := by rw [show i + 1 - fr = (i - fr) + 1 by omega, Nat.pow_succ]
    refine Ev.step (f := fun k => figureheadref01_Number.l1 k s out (fr : Int) ((x * 10 + (c.toNat - 48) : Nat) : Int) ((i + 1 : Nat) : Int)) (fun k => ?_) (Number_in s hd hs out ho fr hf r d (i + 1) (x * 10 + (c.toNat - 48)) (by omega) (by omega) (by omega) h4 (by omega) ?_)
    · simp only [figureheadref01_Number.l1]; rw [if_pos (by omega), if_pos (by omega), hb, w64 (by omega) (by omega)]
      congr 1; omega
    · refine evIs h rfl |> fun h => ?_
      have e : x * 10 ^ (d + 1) + rv (s.data.toList.drop i).reverse = (x * 10 + (c.toNat - 48)) * 10 ^ d + rv (s.data.toList.drop (i + 1)).reverse := by
        have hl : (s.data.toList.drop (i + 1)).length = d := by rw [List.length_drop, ← size_eq]; omega
        rw [hc, List.reverse_cons, rv_append, List.length_reverse, hl]
        simp only [rv, Nat.mul_zero, Nat.add_zero]
        rw [Nat.pow_succ, Nat.add_mul, Nat.mul_comm (c.toNat - 48), Nat.mul_comm (10 ^ d) 10, ← Nat.mul_assoc]; omega
      rw [← e]; exact h
theorem vB_nonzero {s : ByteArray} (hd : dB s = true) (hh : s.data.toList.head? ≠ some 48) (hs : 0 < s.size) : vB s ≠ 0 := by
  intro h
  have := rv_zero (l := s.data.toList.reverse) (by rw [digL_reverse]; exact hd) (canonR_of_head hh) h
  rw [List.reverse_eq_nil_iff] at this
  rw [size_eq, this] at hs; simp at hs
theorem Number_loop : ∀ (z : Nat) (s : ByteArray) (out : List Int), s.size = z → dB s = true → s.data.toList.head? ≠ some 48 → s.size ≤ 1000000000000 → out.length + s.size ≤ 1000000000000 → Ev (fun k => figureheadref01_Number.l0 k s out) (out ++ limbs (vB s)) := by
  intro z
  induction z using Nat.strongRecOn with
  | _ z ih =>
  intro s out hz hd hh hs ho
  by_cases h0 : s.size = 0
  · refine evDone (r' := out) (fun k => ?_) ?_
    · simp only [figureheadref01_Number.l0]; rw [if_neg (by omega)]
    · have : s.data.toList = [] := List.eq_nil_of_length_eq_zero (by rw [← size_eq]; exact h0)
      unfold vB; rw [this]; simp [rv, limbs_zero]
  · obtain ⟨fr, hfr⟩ : ∃ fr : Nat, fr = s.size - 9 := ⟨_, rfl⟩
    have em : mx 0 (wrap64 ((s.size : Int) - 9)) = (fr : Int) := by rw [w64 (by omega) (by omega)]; unfold mx; split <;> omega
    refine Ev.step (f := fun k => figureheadref01_Number.l1 k s out (fr : Int) ((0 : Nat) : Int) (fr : Int)) (fun k => ?_) (Number_in s hd hs out (by omega) fr (by omega) _ (s.size - fr) fr 0 rfl (by omega) (by omega) (by omega) (by simp) ?_)
    · simp only [figureheadref01_Number.l0]; rw [if_pos (by omega), em]; rfl
    · have e1 : (s.extract 0 fr).data.toList = s.data.toList.take fr := B_to s fr
      have e2 : (s.extract 0 fr).size = fr := by rw [size_eq, e1, List.length_take, ← size_eq]; omega
      have hd2 : dB (s.extract 0 fr) = true := by unfold dB; rw [e1]; exact digL_take hd _
      have hv : vB s = rv (s.data.toList.drop fr).reverse + 10 ^ (s.size - fr) * vB (s.extract 0 fr) := by
        unfold vB; rw [e1]
        conv => lhs; rw [← List.take_append_drop fr s.data.toList, List.reverse_append, rv_append]
        rw [List.length_reverse, List.length_drop, ← size_eq]
      have hx : rv (s.data.toList.drop fr).reverse < 10 ^ (s.size - fr) := by
        have := rv_lt (l := (s.data.toList.drop fr).reverse) (by rw [digL_reverse]; exact digL_drop hd _)
        rwa [List.length_reverse, List.length_drop, ← size_eq] at this
      have hp : 10 ^ (s.size - fr) ≤ 10 ^ 9 := Nat.pow_le_pow_right (by omega) (by omega)
      have p9 : (10 : Nat) ^ 9 = 1000000000 := rfl
      generalize hxx : rv (s.data.toList.drop fr).reverse = x at *
      rw [Nat.zero_mul, Nat.zero_add]
      have hne : vB s ≠ 0 := vB_nonzero hd hh (by omega)
      have hh2 : (s.extract 0 fr).data.toList.head? ≠ some 48 := by
        rw [e1]
        rcases hfz : fr with _ | f
        · simp
        · rcases hll : s.data.toList with _ | ⟨c, l⟩
          · simp
          · rw [hll] at hh; simpa using hh
      refine evIs (ih fr (by omega) (s.extract 0 fr) (out ++ [(x : Int)]) e2 hd2 hh2 (by omega) (by rw [List.length_append, e2]; simp; omega)) ?_
      rw [List.append_assoc, List.singleton_append]
      congr 1
      rw [hv]
      by_cases hf0 : fr = 0
      · have hz0 : vB (s.extract 0 fr) = 0 := by
          have : (s.extract 0 fr).data.toList = [] := List.eq_nil_of_length_eq_zero (by rw [← size_eq]; omega)
          unfold vB; rw [this]; rfl
        rw [hz0] at hv ⊢
        have := limbs_cons (x := (x : Int)) ⟨by omega, by omega⟩ 0 (.inr (by omega))
        rw [this]; congr 1
      · have := limbs_cons (x := (x : Int)) ⟨by omega, by omega⟩ (vB (s.extract 0 fr)) (.inl (vB_nonzero hd2 hh2 (by omega)))
        rw [this, show s.size - fr = 9 by omega, p9]; congr 1
theorem Number_ev {s : ByteArray} (hd : dB s = true) (hs : s.size ≤ 1000000000000) : Ev (fun k => figureheadref01_Number.f k s) (limbs (vB s)) := by
  refine Ev.bind (StripD_ev (by omega) hd) ?_
  have hz : (digB (vB s)).size ≤ s.size := by rw [← stripB_eq hd, size_eq, size_eq]; exact stripL_len _
  refine evIs (Number_loop _ (digB (vB s)) [] rfl (dB_digB _) (digs_head _) (by omega) (by simpa using (by omega))) ?_
  rw [vB_digB]; rfl

end Go.Proofs.YtnpibnjncjieaaaDoor.Px

namespace Go.Proofs.YtnpibnjncjieaaaDoor.Px
open Fig Go.RowKit Go.Proofs.YtnpibnjncjieaaaDoorW.PrintWords Go.Proofs.YtnpibnjncjieaaaDoorW.PrintLast Go.Proofs.YtnpibnjncjieaaaDoorW.PrintMore
attribute [local go_sem] max2_int min2_int max_two min_two max_three min_three max_four min_four   -- for this text's walks alone

/-! plain facts: figureheadlaw04_TenBack -/
theorem Shift_eq {l : List Int} {n : Int} (g : goodL l = true) (hl : l.length ≤ 500000) (hn : n ≤ 1000000) : ten_Shift.f l n = some (limbs (valL l * 10 ^ n.toNat)) := by unfold ten_Shift.f; rw [if_pos ⟨g, hl, hn⟩]
theorem Cut_eq {l : List Int} {n : Int} (g : goodL l = true) (hl : l.length ≤ 500000) (hn : n ≤ 1000000) : ten_Cut.f l n = some (limbs (valL l / 10 ^ n.toNat), limbs (valL l % 10 ^ n.toNat)) := by unfold ten_Cut.f; rw [if_pos ⟨g, hl, hn⟩]
theorem digB_pow_le {n p k : Nat} (h : (digB n).size ≤ p) : (digB (n * 10 ^ k)).size ≤ p + k := by
  apply digs_size_lt
  rw [Nat.pow_add]
  exact Nat.mul_lt_mul_of_pos_right (digB_lt_pow h) (Nat.pow_pos (by decide))
theorem wf_u8 {x : Int} (h : (Lit.int .u8 x).wf = true) : 0 ≤ x ∧ x < 256 := by
  simp [Lit.wf, IntKind.min, IntKind.max, IntKind.signed, IntKind.bits] at h; omega
theorem TenBack_pure (l0 : List Int) (a1 a2 : Int) (m0 : l0.length * 4 ≤ 140737488351232) (w0 : ∀ x ∈ l0, (Lit.int .u32 x).wf = true) (w1 : (Lit.int .u8 a1).wf = true) (w2 : (Lit.int .u8 a2).wf = true) : ∃ k, figureheadlaw04_TenBack.f k l0 a1 a2 = some true := by
  have n0 := fun x hx => wf_u32 (w0 x hx)
  obtain ⟨p1, q1⟩ := wf_u8 w1
  obtain ⟨p2, q2⟩ := wf_u8 w2
  obtain ⟨a, rfl⟩ : ∃ a : Nat, a1 = (a : Int) := ⟨a1.toNat, by omega⟩
  obtain ⟨b, rfl⟩ : ∃ b : Nat, a2 = (b : Int) := ⟨a2.toNat, by omega⟩
  refine Ev.rounds (g := fun k => figureheadlaw04_TenBack.f k l0 a b) ?_
  unfold figureheadlaw04_TenBack.f
  have e1 : wrap64 (a : Int) = (a : Int) := w64 (by omega) (by omega)
  have e2 : wrap64 (b : Int) = (b : Int) := w64 (by omega) (by omega)
  have e3 : wrap64 ((a : Int) + (b : Int)) = ((a + b : Nat) : Int) := by rw [w64 (by omega) (by omega)]; rfl
  rw [e1, e2, e3]
  clear e1 e2 e3
  refine Ev.bind (good04_ev n0 (by omega)) ?_
  cases hg : decide (l0.length ≤ 40) && goodL l0
  · simp only [Bool.false_eq_true, if_false]
    exact Ev.bind (evSome fun _ => answers04) (Ev.now true)
  · obtain ⟨h40, g0⟩ : l0.length ≤ 40 ∧ goodL l0 = true := by simpa using hg
    have z0 := digB_valL_size g0 h40
    have z1 := digB_pow_le (k := a) z0
    have z2 := digB_pow_le (k := b) z1
    have k0 := limbs_len_digB (valL l0)
    have k1 := limbs_len_digB (valL l0 * 10 ^ a)
    have k2 := limbs_len_digB (valL l0 * 10 ^ a * 10 ^ b)
    have s1 : ten_Shift.f l0 (a : Int) = some (limbs (valL l0 * 10 ^ a)) := by rw [Shift_eq g0 (by omega) (by omega), Int.toNat_natCast]
    have s2 : ten_Shift.f (limbs (valL l0 * 10 ^ a)) (b : Int) = some (limbs (valL l0 * 10 ^ a * 10 ^ b)) := by rw [Shift_eq (limbs_good _) (by omega) (by omega), Int.toNat_natCast, limbs_val]
    have s3 : ten_Shift.f l0 ((a + b : Nat) : Int) = some (limbs (valL l0 * 10 ^ a * 10 ^ b)) := by rw [Shift_eq g0 (by omega) (by omega), Int.toNat_natCast, Nat.pow_add, Nat.mul_assoc]
    have c1 : ten_Cut.f (limbs (valL l0 * 10 ^ a)) (a : Int) = some (limbs (valL l0), []) := by
      rw [Cut_eq (limbs_good _) (by omega) (by omega), Int.toNat_natCast, limbs_val, Nat.mul_div_cancel _ (Nat.pow_pos (by decide)), Nat.mul_mod_left, limbs_zero]
    simp only [if_true]
    refine Ev.bind (evSome fun _ => s1) (Ev.bind (evSome fun _ => c1) (Ev.bind (evSome fun _ => answers04) ?_))
    simp only [if_true]
    refine Ev.bind (Text_ev g0 (by omega)) (Ev.bind (Number_ev (dB_digB _) (by omega)) ?_)
    rw [vB_digB]
    refine Ev.bind (Same_self (by omega)) ?_
    simp only [if_true, List.length_nil, Int.natCast_zero]
    refine Ev.bind (evSome fun _ => s1) (Ev.bind (evSome fun _ => s2) (Ev.bind (evSome fun _ => s3) ?_))
    exact Ev.bind (Same_self (by omega)) (Ev.now true)

end Go.Proofs.YtnpibnjncjieaaaDoor.Px
