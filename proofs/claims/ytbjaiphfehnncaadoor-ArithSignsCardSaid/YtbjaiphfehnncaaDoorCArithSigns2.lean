/- The functions that the law ArithSigns reaches, told as plain functions, with what is proved of them, and the words they need (part 2). -/
import Derived.Test.YtbjaiphfehnncaaDoorCArithSigns0
import Derived.Test.YtbjaiphfehnncaaDoorCArithSigns1
set_option linter.unusedVariables false
set_option linter.unusedSimpArgs false
section
namespace Go.Proofs.YtbjaiphfehnncaaDoor.Px
open Fig Go.RowKit Go.Proofs.YtbjaiphfehnncaaDoorW.PrintWords Go.Proofs.YtbjaiphfehnncaaDoorW.PrintLast Go.Proofs.YtbjaiphfehnncaaDoorW.PrintMore
attribute [local go_sem] max2_int min2_int max_two min_two max_three min_three max_four min_four   -- for this text's walks alone
attribute [local go_sem] fieldA23_0 fieldA23_1 fieldA23_2
def arith_Add.f (a0_0 : Bool) (a0_1 : ByteArray) (a0_2 : Int) (a1_0 : Bool) (a1_1 : ByteArray) (a1_2 : Int) : Option (Bool × ByteArray × Int) := (dec_Coef.f a0_0 a0_1 a0_2).bind fun t309 => ((ten_Shift.f t309 (wrap64 (a0_2 - (mn a0_2 a1_2)))).bind fun t312 => ((dec_Coef.f a1_0 a1_1 a1_2).bind fun t315 => ((ten_Shift.f t315 (wrap64 (a1_2 - (mn a0_2 a1_2)))).bind fun t318 => (if (a0_0 == a1_0) = true then ((nat_Add.f t312 t318).bind fun t321 => ((arith_made.f a0_0 t321 (mn a0_2 a1_2)).bind fun bt324 => (some (bt324.1, bt324.2.1, bt324.2.2)))) else ((nat_Sub.f t312 t318).bind fun bt327 => (if bt327.2 = true then ((arith_made.f a0_0 bt327.1 (mn a0_2 a1_2)).bind fun bt331 => (some (bt331.1, bt331.2.1, bt331.2.2))) else ((nat_Sub.f t318 t312).bind fun bt334 => ((arith_made.f a1_0 bt334.1 (mn a0_2 a1_2)).bind fun bt338 => (some (bt338.1, bt338.2.1, bt338.2.2))))))))))
def arith_Add.T2 : Bool × List (List Nat × List Nat) := (true, [([], []), ([0], [0]), ([], []), ([2], [2]), ([], []), ([3, 4], [3, 4]), ([1, 5, 1], [1, 5]), ([], []), ([7, 6], [7]), ([], []), ([9], [9]), ([], []), ([10, 11], [10, 11]), ([8, 12, 8], [8, 12]), ([6, 13, 0, 1, 2, 3, 4, 5, 6], [6]), ([13, 14, 0, 1, 2, 3, 4, 5, 6, 7, 8, 9, 10, 11, 12, 13, 14], [13])])
def arith_Add.B2 : List Nat := [0, 1, 0, 4, 0, 28, 63, 0, 255, 0, 512, 0, 3584, 8191, 16383, 32767]
theorem arith_Add.tab2 : rtab .any (opsOf Tryd.f34 2) = arith_Add.T2 := by kernel_rfl
theorem arith_Add.bits2 : waitsOk arith_Add.T2.2 arith_Add.B2 = true := by kernel_rfl
def arith_Add.T4 : Bool × List (List Nat × List Nat) := (true, [([], []), ([0], [0]), ([], []), ([], []), ([2, 3], [2, 3]), ([], []), ([1, 4, 5, 4], [1, 4, 5]), ([6, 6, 0, 1, 2, 3, 4, 5, 6], [6])])
def arith_Add.B4 : List Nat := [0, 1, 0, 0, 12, 0, 63, 127]
theorem arith_Add.tab4 : rtab .any (opsOf Tryd.f34 4) = arith_Add.T4 := by kernel_rfl
theorem arith_Add.bits4 : waitsOk arith_Add.T4.2 arith_Add.B4 = true := by kernel_rfl
set_option maxHeartbeats 8000000 in
set_option maxRecDepth 100000 in
theorem arith_Add.calls (a0_0 : Bool) (a0_1 : ByteArray) (a0_2 : Int) (a1_0 : Bool) (a1_1 : ByteArray) (a1_2 : Int) (r1 : Bool) (r2 : ByteArray) (r3 : Int) (w : World) (hG : Fig.Glob w) (h : arith_Add.f a0_0 a0_1 a0_2 a1_0 a1_1 a1_2 = some (r1, r2, r3)) :
    Calls Tryd.prog 34 #[.agg #[.bool a0_0, .string a0_1, .int .i64 a0_2], .agg #[.bool a1_0, .string a1_1, .int .i64 a1_2]] w fun e w' => e = .returned (.agg #[.bool r1, .string r2, .int .i64 r3]) ∧ Below w.heap.size w w' := by
  have hu23 := Tryd.underlying23
  have HG := Aside0.mk hG
  clear hG
  have HB := Aside0.mk (Below.refl w.heap.size w)
  have H : ((dec_Coef.f a0_0 a0_1 a0_2).bind fun t309 => ((ten_Shift.f t309 (wrap64 (a0_2 - (mn a0_2 a1_2)))).bind fun t312 => ((dec_Coef.f a1_0 a1_1 a1_2).bind fun t315 => ((ten_Shift.f t315 (wrap64 (a1_2 - (mn a0_2 a1_2)))).bind fun t318 => (if (a0_0 == a1_0) = true then ((nat_Add.f t312 t318).bind fun t321 => ((arith_made.f a0_0 t321 (mn a0_2 a1_2)).bind fun bt324 => (some (bt324.1, bt324.2.1, bt324.2.2)))) else ((nat_Sub.f t312 t318).bind fun bt327 => (if bt327.2 = true then ((arith_made.f a0_0 bt327.1 (mn a0_2 a1_2)).bind fun bt331 => (some (bt331.1, bt331.2.1, bt331.2.2))) else ((nat_Sub.f t318 t312).bind fun bt334 => ((arith_made.f a1_0 bt334.1 (mn a0_2 a1_2)).bind fun bt338 => (some (bt338.1, bt338.2.1, bt338.2.2))))))))))) = some (r1, r2, r3) := h
  clear h
  obtain ⟨ji3, hji3⟩ : ∃ j_ : Int, (mn a0_2 a1_2) = j_ := ⟨_, rfl⟩
  replace H : ((dec_Coef.f a0_0 a0_1 a0_2).bind fun t309 => ((ten_Shift.f t309 (wrap64 (a0_2 - (ji3)))).bind fun t312 => ((dec_Coef.f a1_0 a1_1 a1_2).bind fun t315 => ((ten_Shift.f t315 (wrap64 (a1_2 - (ji3)))).bind fun t318 => (if (a0_0 == a1_0) = true then ((nat_Add.f t312 t318).bind fun t321 => ((arith_made.f a0_0 t321 (ji3)).bind fun bt324 => (some (bt324.1, bt324.2.1, bt324.2.2)))) else ((nat_Sub.f t312 t318).bind fun bt327 => (if bt327.2 = true then ((arith_made.f a0_0 bt327.1 (ji3)).bind fun bt331 => (some (bt331.1, bt331.2.1, bt331.2.2))) else ((nat_Sub.f t318 t312).bind fun bt334 => ((arith_made.f a1_0 bt334.1 (ji3)).bind fun bt338 => (some (bt338.1, bt338.2.1, bt338.2.2))))))))))) = some (r1, r2, r3) := by first | (rw [hji3] at H; exact H) | (simp only [hji3] at H ⊢; exact H)
  have hji3_ : (if a1_2 < a0_2 then a1_2 else a0_2) = ji3 := hji3
  obtain ⟨t309, A40, H⟩ := Option.bind_eq_some_iff.mp H
  (try dsimp -simprocs only at H)
  have A4 := Aside0.mk A40
  clear A40
  obtain ⟨t312, A50, H⟩ := Option.bind_eq_some_iff.mp H
  (try dsimp -simprocs only at H)
  have A5 := Aside0.mk A50
  clear A50
  obtain ⟨t315, A60, H⟩ := Option.bind_eq_some_iff.mp H
  (try dsimp -simprocs only at H)
  have A6 := Aside0.mk A60
  clear A60
  obtain ⟨t318, A70, H⟩ := Option.bind_eq_some_iff.mp H
  (try dsimp -simprocs only at H)
  have A7 := Aside0.mk A70
  clear A70
  (try have HS2_ := Aside0.mk H)
  (try clear H)
  go_enter Tryd.func34, Tryd.ntmps34
  try go_wp2_with (first | (refine be_ 2 #[.bool a0_0, .string a0_1, .int .i64 a0_2] 23 ?_; intro gb306 hg w11 hbox hb; have BK306 := Aside0.mk (hbox); have GW306 := ge_ hg HB; have GE306 := ge_ hg HB; replace HB := hbs_ HB hb; clear hb hbox hg) | (refine be_ 3 #[.bool a1_0, .string a1_1, .int .i64 a1_2] 23 ?_; intro gb307 hg w12 hbox hb; have BK307 := Aside0.mk (hbox); have GW307 := ge_ hg HB; have GE307 := ge_ hg HB; replace HB := hbs_ HB hb; have NB306_307 := nb_ hg BK306; have NB307_306 := nc_ hg BK306; replace BK306 := bkb_ BK306 hb; clear hb hbox hg) | (refine be_ 4 #[.bool false, .string (⟨#[]⟩ : ByteArray), .int .i64 0] 23 ?_; intro gb308 hg w13 hbox hb; have BK308 := Aside0.mk (hbox); have GW308 := ge_ hg HB; have GE308 := ge_ hg HB; replace HB := hbs_ HB hb; have NB306_308 := nb_ hg BK306; have NB308_306 := nc_ hg BK306; replace BK306 := bkb_ BK306 hb; have NB307_308 := nb_ hg BK307; have NB308_307 := nc_ hg BK307; replace BK307 := bkb_ BK307 hb; clear hb hbox hg; have hnb14 := NB306_307.out; have hnc14 := NB307_306.out; have hnb15 := NB306_308.out; have hnc15 := NB308_306.out; obtain ⟨⟨hcz16_0, hcz16_1, hcz16_2⟩, hfz16_0, hfz16_1, hfz16_2⟩ := ce3 BK306; have hnb17 := NB307_308.out; have hnc17 := NB308_307.out; obtain ⟨⟨hcz18_0, hcz18_1, hcz18_2⟩, hfz18_0, hfz18_1, hfz18_2⟩ := ce3 BK307))
  (try (rw [drewN_self w13]; generalize hq_ : World.drewN w13 _ = w13; replace BK306 := bkq_ BK306 hq_; replace BK307 := bkq_ BK307 hq_; replace BK308 := bkq_ BK308 hq_; replace HB := hbq_ HB hq_; clear hq_))
  replace BK306 := Aside0.mk (blk_drew BK306.out)
  replace BK307 := Aside0.mk (blk_drew BK307.out)
  replace BK308 := Aside0.mk (blk_drew BK308.out)
  replace HB := Aside0.mk (below_drew1 HB.out)
  refine start_ (n := 16) (S := fun w' => w'.cell? ⟨gb306, 0, none⟩ = some (.bool a0_0) ∧ w'.cell? ⟨gb306, 1, none⟩ = some (.string a0_1) ∧ w'.cell? ⟨gb306, 2, none⟩ = some (.int .i64 a0_2) ∧ w'.cell? ⟨gb307, 0, none⟩ = some (.bool a1_0) ∧ w'.cell? ⟨gb307, 1, none⟩ = some (.string a1_1) ∧ w'.cell? ⟨gb307, 2, none⟩ = some (.int .i64 a1_2)) (ds := []) #[false, false, false, false, false, false, false, false, false, false, false, false, false, false, false, false] (by kernel_rfl) rfl rfl CE (fun hHeld => ?_); refine with_tabW arith_Add.tab2 arith_Add.bits2 (fun HT_ HW_ => ?_)
  generalize w13.drew = w19 at BK306 BK307 BK308 HB hHeld ⊢
  refine pu_ 2 (some 19) (bb 16 4) (any_of HT_.out (by kernel_rfl)) ?_
  refine pu_ 4 (some 21) (bb 16 20) (any_of HT_.out (by kernel_rfl)) ?_
  refine pu_ 9 (some 26) (bb 16 532) (any_of HT_.out (by kernel_rfl)) ?_
  refine pu_ 11 (some 28) (bb 16 2580) (any_of HT_.out (by kernel_rfl)) ?_
  refine tk_ 0 (some 17) (bb 16 2581) (take_ofW HT_.out HW_.out (by kernel_rfl)) hHeld ?_
  refine tk_ 3 (some 20) (bb 16 2589) (take_ofW HT_.out HW_.out (by kernel_rfl)) hHeld ?_
  refine pu_ 5 (some 22) (bb 16 2621) (any_of HT_.out (by kernel_rfl)) ?_
  refine tk_ 7 (some 24) (bb 16 2749) (take_ofW HT_.out HW_.out (by kernel_rfl)) hHeld ?_
  refine tk_ 10 (some 27) (bb 16 3773) (take_ofW HT_.out HW_.out (by kernel_rfl)) hHeld ?_
  refine pu_ 12 (some 29) (bb 16 7869) (any_of HT_.out (by kernel_rfl)) ?_
  refine one_ (i := 1) (N := some 18) (bb 16 7871) rfl rfl (one_of HT_.out (by kernel_rfl)) (by decide) (fun K hK => ?_)
  refine goes_ Tryd.func23 (by kernel_rfl) rfl #[.agg #[.bool a0_0, .string a0_1, .int .i64 a0_2]] (by rfl) rfl rfl MP ?_
  with_reducible refine (dec_Coef.calls a0_0 a0_1 a0_2 t309 _ A4.out).mono ?_
  rintro e w20 ⟨v310, rfl, ho0, hb⟩
  refine ⟨_, rfl, ?_⟩
  have HO311 := Aside0.mk (Kd.R_lower ho0 (below_size (BL HB)))
  replace BK306 := bkb_ BK306 hb
  replace BK307 := bkb_ BK307 hb
  replace BK308 := bkb_ BK308 hb
  replace HB := hbs_ HB hb
  (try clear hb)
  (try clear hb2)
  (try clear hk)
  (try clear hi)
  (try clear ho0)
  obtain ⟨Ao21, co21, eo21⟩ := Kd.R_slice HO311.out
  (first | subst eo21 | (injection eo21 with f1_ f2_ f3_; have f4_ := f1_.symm; have f5_ := f3_.symm; clear f1_ f2_ f3_; subst f4_; subst f5_))
  refine hK.out _ _ CE (fun hHeld => ?_)
  clear hK K
  refine no_ (some 18) ?_
  refine one_ (i := 6) (N := some 23) (bb 16 7935) rfl rfl (one_of HT_.out (by kernel_rfl)) (by decide) (fun K hK => ?_)
  refine goes_ Tryd.func52 (by kernel_rfl) rfl #[.slice Ao21 t309.length co21, .int .i64 (wrap64 (a0_2 - (ji3)))] (by rfl) rfl rfl (by (try simp only [List.map_toArray]); (try simp only [List.map_cons]); (try simp only [List.map_nil]); first | done | (simp only [hji3]; rfl) | rfl | (simp only [List.length_drop, List.length_take]; rfl)) ?_
  with_reducible refine (ten_Shift.calls _ _ t309 (wrap64 (a0_2 - (ji3))) t312 _ ?side1 ?side2 ?side3 A5.out).mono ?_
  (case side1 => exact Fig.Glob.below HG.out (BL HB))
  (case side2 => exact CB ((Kd.R_reads' HO311.out).2.2))
  (case side3 => exact (Kd.R_reads' HO311.out).2.1)
  rintro e w22 ⟨v313, rfl, ho0, hb⟩
  refine ⟨_, rfl, ?_⟩
  have HO314 := Aside0.mk (Kd.R_lower (Kd.R_new' ho0 (Kd.R_lt (RB HO311.out))) (below_size (BL HB)))
  replace HO311 := Aside0.mk (Kd.R_elder' (RB HO311.out) (Kd.R_base ho0) hb)
  replace BK306 := bkb_ BK306 hb
  replace BK307 := bkb_ BK307 hb
  replace BK308 := bkb_ BK308 hb
  replace HB := hbs_ HB hb
  (try clear hb)
  (try clear hb2)
  (try clear hk)
  (try clear hi)
  (try clear ho0)
  refine hK.out _ _ CE (fun hHeld => ?_)
  clear hK K
  refine no_ (some 23) ?_
  refine one_ (i := 8) (N := some 25) (bb 16 8191) rfl rfl (one_of HT_.out (by kernel_rfl)) (by decide) (fun K hK => ?_)
  refine goes_ Tryd.func23 (by kernel_rfl) rfl #[.agg #[.bool a1_0, .string a1_1, .int .i64 a1_2]] (by rfl) rfl rfl MP ?_
  with_reducible refine (dec_Coef.calls a1_0 a1_1 a1_2 t315 _ A6.out).mono ?_
  rintro e w23 ⟨v316, rfl, ho0, hb⟩
  refine ⟨_, rfl, ?_⟩
  have HO317 := Aside0.mk (Kd.R_lower (Kd.R_new' (Kd.R_new' ho0 (Kd.R_lt (RB HO311.out))) (Kd.R_lt (RB HO314.out))) (below_size (BL HB)))
  replace HO311 := Aside0.mk (Kd.R_elder' (RB HO311.out) (Kd.R_base ho0) hb)
  replace HO314 := Aside0.mk (Kd.R_elder' (RB HO314.out) (Kd.R_base ho0) hb)
  replace BK306 := bkb_ BK306 hb
  replace BK307 := bkb_ BK307 hb
  replace BK308 := bkb_ BK308 hb
  replace HB := hbs_ HB hb
  (try clear hb)
  (try clear hb2)
  (try clear hk)
  (try clear hi)
  (try clear ho0)
  obtain ⟨Ao24, co24, eo24⟩ := Kd.R_slice HO317.out
  (first | subst eo24 | (injection eo24 with f1_ f2_ f3_; have f4_ := f1_.symm; have f5_ := f3_.symm; clear f1_ f2_ f3_; subst f4_; subst f5_))
  refine hK.out _ _ CE (fun hHeld => ?_)
  clear hK K
  refine no_ (some 25) ?_
  refine one_ (i := 13) (N := some 30) (bb 16 16383) rfl rfl (one_of HT_.out (by kernel_rfl)) (by decide) (fun K hK => ?_)
  refine goes_ Tryd.func52 (by kernel_rfl) rfl #[.slice Ao24 t315.length co24, .int .i64 (wrap64 (a1_2 - (ji3)))] (by rfl) rfl rfl (by (try simp only [List.map_toArray]); (try simp only [List.map_cons]); (try simp only [List.map_nil]); first | done | (simp only [hji3]; rfl) | rfl | (simp only [List.length_drop, List.length_take]; rfl)) ?_
  with_reducible refine (ten_Shift.calls _ _ t315 (wrap64 (a1_2 - (ji3))) t318 _ ?side1 ?side2 ?side3 A7.out).mono ?_
  (case side1 => exact Fig.Glob.below HG.out (BL HB))
  (case side2 => exact CB ((Kd.R_reads' HO317.out).2.2))
  (case side3 => exact (Kd.R_reads' HO317.out).2.1)
  rintro e w25 ⟨v319, rfl, ho0, hb⟩
  refine ⟨_, rfl, ?_⟩
  have HO320 := Aside0.mk (Kd.R_lower (Kd.R_new' (Kd.R_new' (Kd.R_new' ho0 (Kd.R_lt (RB HO311.out))) (Kd.R_lt (RB HO314.out))) (Kd.R_lt (RB HO317.out))) (below_size (BL HB)))
  replace HO311 := Aside0.mk (Kd.R_elder' (RB HO311.out) (Kd.R_base ho0) hb)
  replace HO314 := Aside0.mk (Kd.R_elder' (RB HO314.out) (Kd.R_base ho0) hb)
  replace HO317 := Aside0.mk (Kd.R_elder' (RB HO317.out) (Kd.R_base ho0) hb)
  replace BK306 := bkb_ BK306 hb
  replace BK307 := bkb_ BK307 hb
  replace BK308 := bkb_ BK308 hb
  replace HB := hbs_ HB hb
  (try clear hb)
  (try clear hb2)
  (try clear hk)
  (try clear hi)
  (try clear ho0)
  refine hK.out _ _ CE (fun hHeld => ?_)
  clear hK K
  refine no_ (some 30) ?_
  refine pu_ 14 (some 6) (bb 16 32767) (any_of HT_.out (by kernel_rfl)) ?_
  refine pu_ 15 (some 7) (bb 16 65535) (any_of HT_.out (by kernel_rfl)) ?_
  (try have H := HS2_.out)
  (try clear HS2_)
  by_cases c8 : (a0_0 == a1_0) = true
  · rw [if_pos c8] at H
    have c8b0 : (a0_0 == a1_0) = true := c8
    (try (have c8b1 : decide (a0_0 = a1_0) = true := by simpa using c8))
    (try (have c8b2 : (a0_0 == a1_0) = true := by simpa using c8))
    clear c8
    obtain ⟨t321, A90, H⟩ := Option.bind_eq_some_iff.mp H
    (try dsimp -simprocs only at H)
    have A9 := Aside0.mk A90
    clear A90
    obtain ⟨⟨t324, t325, t326⟩, A100, H⟩ := Option.bind_eq_some_iff.mp H
    (try dsimp -simprocs only at H)
    have A10 := Aside0.mk A100
    clear A100
    simp only [Option.some.injEq, Prod.mk.injEq] at H
    obtain ⟨rfl, rfl, rfl⟩ := H
    refine done_ (done_of HT_.out (by kernel_rfl)) ?_
    obtain ⟨⟨hcz26_0, hcz26_1, hcz26_2⟩, hfz26_0, hfz26_1, hfz26_2⟩ := ce3 BK306
    obtain ⟨⟨hcz27_0, hcz27_1, hcz27_2⟩, hfz27_0, hfz27_1, hfz27_2⟩ := ce3 BK307
    try go_wp2
    (try (rw [drewN_self w25]; generalize hq_ : World.drewN w25 _ = w25; replace HO311 : Aside0 (Kd.R (Kd.int .u32) 47 w25 w.heap.size (fun k_ => some k_ ≠ (v313 : Value).ownBlock ∧ some k_ ≠ (.slice Ao24 t315.length co24 : Value).ownBlock ∧ some k_ ≠ (v319 : Value).ownBlock) (.slice Ao21 t309.length co21) t309) := ⟨by rw [← hq_]; exact (by (with_reducible repeat (first | apply Kd.R_alloc | apply Kd.R_drewN | apply Kd.R_drew)); exact Kd.R_mono HO311.out (fun _ hk => ⟨hk.1.1.2, ⟨hk.1.2, hk.2⟩⟩))⟩; replace HO314 : Aside0 (Kd.R (Kd.int .u32) 47 w25 w.heap.size (fun k_ => some k_ ≠ (.slice Ao21 t309.length co21 : Value).ownBlock ∧ some k_ ≠ (.slice Ao24 t315.length co24 : Value).ownBlock ∧ some k_ ≠ (v319 : Value).ownBlock) v313 t312) := ⟨by rw [← hq_]; exact (by (with_reducible repeat (first | apply Kd.R_alloc | apply Kd.R_drewN | apply Kd.R_drew)); exact Kd.R_mono HO314.out (fun _ hk => ⟨hk.1.1.2, ⟨hk.1.2, hk.2⟩⟩))⟩; replace HO317 : Aside0 (Kd.R (Kd.int .u32) 47 w25 w.heap.size (fun k_ => some k_ ≠ (.slice Ao21 t309.length co21 : Value).ownBlock ∧ some k_ ≠ (v313 : Value).ownBlock ∧ some k_ ≠ (v319 : Value).ownBlock) (.slice Ao24 t315.length co24) t315) := ⟨by rw [← hq_]; exact (by (with_reducible repeat (first | apply Kd.R_alloc | apply Kd.R_drewN | apply Kd.R_drew)); exact Kd.R_mono HO317.out (fun _ hk => ⟨hk.1.1.2, ⟨hk.1.2, hk.2⟩⟩))⟩; replace HO320 : Aside0 (Kd.R (Kd.int .u32) 47 w25 w.heap.size (fun k_ => some k_ ≠ (.slice Ao21 t309.length co21 : Value).ownBlock ∧ some k_ ≠ (v313 : Value).ownBlock ∧ some k_ ≠ (.slice Ao24 t315.length co24 : Value).ownBlock) v319 t318) := ⟨by rw [← hq_]; exact (by (with_reducible repeat (first | apply Kd.R_alloc | apply Kd.R_drewN | apply Kd.R_drew)); exact Kd.R_mono HO320.out (fun _ hk => ⟨hk.1.1.2, ⟨hk.1.2, hk.2⟩⟩))⟩; replace BK306 := bkq_ BK306 hq_; replace BK307 := bkq_ BK307 hq_; replace BK308 := bkq_ BK308 hq_; replace HB := hbq_ HB hq_; clear hq_))
    replace HO311 := Aside0.mk (Kd.R_drew HO311.out)
    replace HO314 := Aside0.mk (Kd.R_drew HO314.out)
    replace HO317 := Aside0.mk (Kd.R_drew HO317.out)
    replace HO320 := Aside0.mk (Kd.R_drew HO320.out)
    replace BK306 := Aside0.mk (blk_drew BK306.out)
    replace BK307 := Aside0.mk (blk_drew BK307.out)
    replace BK308 := Aside0.mk (blk_drew BK308.out)
    replace HB := Aside0.mk (below_drew1 HB.out)
    obtain ⟨Ao29, co29, eo29⟩ := Kd.R_slice HO314.out
    (first | subst eo29 | (injection eo29 with f1_ f2_ f3_; have f4_ := f1_.symm; have f5_ := f3_.symm; clear f1_ f2_ f3_; subst f4_; subst f5_))
    obtain ⟨Ao30, co30, eo30⟩ := Kd.R_slice HO320.out
    (first | subst eo30 | (injection eo30 with f1_ f2_ f3_; have f4_ := f1_.symm; have f5_ := f3_.symm; clear f1_ f2_ f3_; subst f4_; subst f5_))
    refine start_ (n := 8) (S := fun w' => w'.cell? ⟨gb306, 0, none⟩ = some (.bool a0_0) ∧ w'.cell? ⟨gb306, 1, none⟩ = some (.string a0_1) ∧ w'.cell? ⟨gb306, 2, none⟩ = some (.int .i64 a0_2)) (ds := []) #[false, false, false, false, false, false, false, false] (by kernel_rfl) rfl rfl CE (fun hHeld => ?_); refine with_tabW arith_Add.tab4 arith_Add.bits4 (fun HT_ HW_ => ?_)
    generalize w25.drew = w28 at HO311 HO314 HO317 HO320 BK306 BK307 BK308 HB hHeld ⊢
    refine pu_ 0 (some 36) (bb 8 1) (any_of HT_.out (by kernel_rfl)) ?_
    refine pu_ 2 (some 38) (bb 8 5) (any_of HT_.out (by kernel_rfl)) ?_
    refine pu_ 3 (some 39) (bb 8 13) (any_of HT_.out (by kernel_rfl)) ?_
    refine pu_ 5 (some 41) (bb 8 45) (any_of HT_.out (by kernel_rfl)) ?_
    refine tk_ 1 (some 37) (bb 8 47) (take_ofW HT_.out HW_.out (by kernel_rfl)) hHeld ?_
    refine one_ (i := 4) (N := some 40) (bb 8 63) rfl rfl (one_of HT_.out (by kernel_rfl)) (by decide) (fun K hK => ?_)
    refine goes_ Tryd.func54 (by kernel_rfl) rfl #[.slice Ao29 t312.length co29, .slice Ao30 t318.length co30] (by rfl) rfl rfl MP ?_
    with_reducible refine (nat_Add.calls _ _ t312 _ _ t318 t321 _ ?side1 ?side2 ?side3 ?side4 A9.out).mono ?_
    (case side1 => exact CB ((Kd.R_reads' HO314.out).2.2))
    (case side2 => exact (Kd.R_reads' HO314.out).2.1)
    (case side3 => exact CB ((Kd.R_reads' HO320.out).2.2))
    (case side4 => exact (Kd.R_reads' HO320.out).2.1)
    rintro e w31 ⟨v322, rfl, ho0, hb⟩
    refine ⟨_, rfl, ?_⟩
    have HO323 := Aside0.mk (Kd.R_lower (Kd.R_new' (Kd.R_new' (Kd.R_new' (Kd.R_new' ho0 (Kd.R_lt (RB HO311.out))) (Kd.R_lt (RB HO314.out))) (Kd.R_lt (RB HO317.out))) (Kd.R_lt (RB HO320.out))) (below_size (BL HB)))
    replace HO311 := Aside0.mk (Kd.R_elder' (RB HO311.out) (Kd.R_base ho0) hb)
    replace HO314 := Aside0.mk (Kd.R_elder' (RB HO314.out) (Kd.R_base ho0) hb)
    replace HO317 := Aside0.mk (Kd.R_elder' (RB HO317.out) (Kd.R_base ho0) hb)
    replace HO320 := Aside0.mk (Kd.R_elder' (RB HO320.out) (Kd.R_base ho0) hb)
    replace BK306 := bkb_ BK306 hb
    replace BK307 := bkb_ BK307 hb
    replace BK308 := bkb_ BK308 hb
    replace HB := hbs_ HB hb
    (try clear hb)
    (try clear hb2)
    (try clear hk)
    (try clear hi)
    (try clear ho0)
    obtain ⟨Ao32, co32, eo32⟩ := Kd.R_slice HO323.out
    (first | subst eo32 | (injection eo32 with f1_ f2_ f3_; have f4_ := f1_.symm; have f5_ := f3_.symm; clear f1_ f2_ f3_; subst f4_; subst f5_))
    refine hK.out _ _ CE (fun hHeld => ?_)
    clear hK K
    refine no_ (some 40) ?_
    refine one_ (i := 6) (N := some 42) (bb 8 127) rfl rfl (one_of HT_.out (by kernel_rfl)) (by decide) (fun K hK => ?_)
    refine goes_ Tryd.func53 (by kernel_rfl) rfl #[.bool a0_0, .slice Ao32 t321.length co32, .int .i64 ji3] (by rfl) rfl rfl (by (try simp only [List.map_toArray]); (try simp only [List.map_cons]); (try simp only [List.map_nil]); first | done | (simp only [hji3]; rfl) | rfl | (simp only [List.length_drop, List.length_take]; rfl)) ?_
    with_reducible refine (arith_made.calls a0_0 _ _ t321 ji3 t324 t325 t326 _ ?side1 ?side2 A10.out).mono ?_
    (case side1 => exact CB ((Kd.R_reads' HO323.out).2.2))
    (case side2 => exact (Kd.R_reads' HO323.out).2.1)
    rintro e w33 ⟨rfl, hb⟩
    refine ⟨_, rfl, ?_⟩
    replace HO311 := Aside0.mk (Kd.R_below (RB HO311.out) hb)
    replace HO314 := Aside0.mk (Kd.R_below (RB HO314.out) hb)
    replace HO317 := Aside0.mk (Kd.R_below (RB HO317.out) hb)
    replace HO320 := Aside0.mk (Kd.R_below (RB HO320.out) hb)
    replace HO323 := Aside0.mk (Kd.R_below (RB HO323.out) hb)
    replace BK306 := bkb_ BK306 hb
    replace BK307 := bkb_ BK307 hb
    replace BK308 := bkb_ BK308 hb
    replace HB := hbs_ HB hb
    (try clear hb)
    (try clear hb2)
    (try clear hk)
    (try clear hi)
    refine hK.out _ _ CE (fun hHeld => ?_)
    clear hK K
    refine no_ (some 42) ?_
    refine one_ (i := 7) (N := none) (bb 8 255) rfl rfl (one_of HT_.out (by kernel_rfl)) (by decide) (fun K hK => ?_)
    have hs34 : w33.cell? ⟨gb308, 0, none⟩ = some (.bool false) := (blk_cell BK308.out 0).trans rfl
    have hfs34 := blk_frozen BK308.out 0
    have hns34_0 := NB306_308.out
    have hns34_1 := NB307_308.out
    have hms34_0 := NB308_306.out
    have hms34_1 := NB308_307.out
    have hs35 : w33.cell? ⟨gb308, 1, none⟩ = some (.string (⟨#[]⟩ : ByteArray)) := (blk_cell BK308.out 1).trans rfl
    have hfs35 := blk_frozen BK308.out 1
    have hns35_0 := NB306_308.out
    have hns35_1 := NB307_308.out
    have hms35_0 := NB308_306.out
    have hms35_1 := NB308_307.out
    have hs36 : w33.cell? ⟨gb308, 2, none⟩ = some (.int .i64 0) := (blk_cell BK308.out 2).trans rfl
    have hfs36 := blk_frozen BK308.out 2
    have hns36_0 := NB306_308.out
    have hns36_1 := NB307_308.out
    have hms36_0 := NB308_306.out
    have hms36_1 := NB308_307.out
    refine skip_ (w1 := ?_) (by rfl) rfl ?_ ?_
    rotate_left
    · go_simp
      rfl
    refine hK.out _ _ ⟨((cell_far (p := ⟨gb308, _, none⟩) NB306_308.out _).trans (((cell_far (p := ⟨gb308, _, none⟩) NB306_308.out _).trans (((cell_far (p := ⟨gb308, _, none⟩) NB306_308.out _).trans (hHeld.1)))))), ((cell_far (p := ⟨gb308, _, none⟩) NB306_308.out _).trans (((cell_far (p := ⟨gb308, _, none⟩) NB306_308.out _).trans (((cell_far (p := ⟨gb308, _, none⟩) NB306_308.out _).trans (hHeld.2.1)))))), ((cell_far (p := ⟨gb308, _, none⟩) NB306_308.out _).trans (((cell_far (p := ⟨gb308, _, none⟩) NB306_308.out _).trans (((cell_far (p := ⟨gb308, _, none⟩) NB306_308.out _).trans (hHeld.2.2))))))⟩ (fun hHeld => ?_)
    clear hK K
    refine done_ (done_of HT_.out (by kernel_rfl)) ?_
    try go_wp2
    refine bodyPost_ret (results_cell_row rfl _ _ gb308 23 #[.bool t324, .string t325, .int .i64 t326] (0, 0) _ rfl (BP BK308) Tryd.underlying23 rfl (by kernel_rfl)) rfl ?_
    exact ⟨by first | rfl | (simp [errW_none, errW_some] <;> rfl) | (simp only [← hji3]; first | rfl | (simp [errW_none, errW_some] <;> rfl)) | (simp [*, errW_none, errW_some] <;> rfl), BL HB⟩
  rw [if_neg c8] at H
  have c8b0 : (a0_0 == a1_0) = false := by simpa using c8
  (try (have c8b1 : decide (a0_0 = a1_0) = false := by simpa using c8))
  (try (have c8b2 : (a0_0 == a1_0) = false := by simpa using c8))
  (try (have c8b3 : ¬ (a0_0 = a1_0) := by simpa using c8))
  clear c8
  obtain ⟨⟨t327, t328⟩, A370, H⟩ := Option.bind_eq_some_iff.mp H
  (try dsimp -simprocs only at H)
  have A37 := Aside0.mk A370
  clear A370
  (try have HS1_ := Aside0.mk H)
  (try clear H)
  (try have H := HS1_.out)
  (try clear HS1_)
  by_cases c38 : t328 = true
  · subst c38
    rw [if_pos rfl] at H
    obtain ⟨⟨t331, t332, t333⟩, A390, H⟩ := Option.bind_eq_some_iff.mp H
    (try dsimp -simprocs only at H)
    have A39 := Aside0.mk A390
    clear A390
    simp only [Option.some.injEq, Prod.mk.injEq] at H
    obtain ⟨rfl, rfl, rfl⟩ := H
    refine done_ (done_of HT_.out (by kernel_rfl)) ?_
    obtain ⟨⟨hcz55_0, hcz55_1, hcz55_2⟩, hfz55_0, hfz55_1, hfz55_2⟩ := ce3 BK306
    obtain ⟨⟨hcz56_0, hcz56_1, hcz56_2⟩, hfz56_0, hfz56_1, hfz56_2⟩ := ce3 BK307
    obtain ⟨Ao57, co57, eo57⟩ := Kd.R_slice HO314.out
    subst eo57
    obtain ⟨Ao58, co58, eo58⟩ := Kd.R_slice HO320.out
    subst eo58
    try go_wp2_with (first | ((with_reducible refine gate_callee (f := 55) rfl ?_); refine goesL_ (some 46) rfl rfl Tryd.func55 (by kernel_rfl) rfl #[.slice Ao57 t312.length co57, .slice Ao58 t318.length co58] rfl MP ?_; (with_reducible refine (nat_Sub.calls _ _ t312 _ _ t318 t327 true _ ?side1 ?side2 ?side3 ?side4 A37.out).mono ?_); (case side1 => exact CB ((Kd.R_reads' HO314.out).2.2)); (case side2 => exact (Kd.R_reads' HO314.out).2.1); (case side3 => exact CB ((Kd.R_reads' HO320.out).2.2)); (case side4 => exact (Kd.R_reads' HO320.out).2.1); rintro e w59 ⟨v329, rfl, ho0, hb⟩; refine ⟨_, rfl, ?_⟩; have HO330 := Aside0.mk (Kd.R_lower (Kd.R_new' (Kd.R_new' (Kd.R_new' (Kd.R_new' ho0 (Kd.R_lt (RB HO311.out))) (Kd.R_lt (RB HO314.out))) (Kd.R_lt (RB HO317.out))) (Kd.R_lt (RB HO320.out))) (below_size (BL HB))); replace HO311 := Aside0.mk (Kd.R_elder' (RB HO311.out) (Kd.R_base ho0) hb); replace HO314 := Aside0.mk (Kd.R_elder' (RB HO314.out) (Kd.R_base ho0) hb); replace HO317 := Aside0.mk (Kd.R_elder' (RB HO317.out) (Kd.R_base ho0) hb); replace HO320 := Aside0.mk (Kd.R_elder' (RB HO320.out) (Kd.R_base ho0) hb); replace BK306 := bkb_ BK306 hb; replace BK307 := bkb_ BK307 hb; replace BK308 := bkb_ BK308 hb; replace HB := hbs_ HB hb; (try clear hb); (try clear hb2); (try clear hk); (try clear hi); (try clear ho0); obtain ⟨⟨hcz60_0, hcz60_1, hcz60_2⟩, hfz60_0, hfz60_1, hfz60_2⟩ := ce3 BK306; obtain ⟨Ao61, co61, eo61⟩ := Kd.R_slice HO330.out; subst eo61) | ((with_reducible refine gate_callee (f := 53) rfl ?_); refine goesL_ (some 54) rfl rfl Tryd.func53 (by kernel_rfl) rfl #[.bool a0_0, .slice Ao61 t327.length co61, .int .i64 ji3] rfl (by (try simp only [List.map_toArray]); (try simp only [List.map_cons]); (try simp only [List.map_nil]); first | done | (simp only [hji3]; rfl) | rfl | (simp only [List.length_drop, List.length_take]; rfl)) ?_; (with_reducible refine (arith_made.calls a0_0 _ _ t327 ji3 t331 t332 t333 _ ?side1 ?side2 A39.out).mono ?_); (case side1 => exact CB ((Kd.R_reads' HO330.out).2.2)); (case side2 => exact (Kd.R_reads' HO330.out).2.1); rintro e w62 ⟨rfl, hb⟩; refine ⟨_, rfl, ?_⟩; replace HO311 := Aside0.mk (Kd.R_below (RB HO311.out) hb); replace HO314 := Aside0.mk (Kd.R_below (RB HO314.out) hb); replace HO317 := Aside0.mk (Kd.R_below (RB HO317.out) hb); replace HO320 := Aside0.mk (Kd.R_below (RB HO320.out) hb); replace HO330 := Aside0.mk (Kd.R_below (RB HO330.out) hb); replace BK306 := bkb_ BK306 hb; replace BK307 := bkb_ BK307 hb; replace BK308 := bkb_ BK308 hb; replace HB := hbs_ HB hb; (try clear hb); (try clear hb2); (try clear hk); (try clear hi); obtain ⟨⟨hcz63_0, hcz63_1, hcz63_2⟩, hfz63_0, hfz63_1, hfz63_2⟩ := ce3 BK308))
    refine bodyPost_ret (results_cell_row rfl _ _ gb308 23 #[.bool t331, .string t332, .int .i64 t333] (0, 0) _ rfl (BP BK308) Tryd.underlying23 rfl (by kernel_rfl)) rfl ?_
    exact ⟨by first | rfl | (simp [errW_none, errW_some] <;> rfl) | (simp only [← hji3]; first | rfl | (simp [errW_none, errW_some] <;> rfl)) | (simp [*, errW_none, errW_some] <;> rfl), BL HB⟩
  replace c38 := Bool.eq_false_iff.mpr c38
  subst c38
  rw [if_neg (show ¬ (false = true) by decide)] at H
  obtain ⟨⟨t334, t335⟩, A640, H⟩ := Option.bind_eq_some_iff.mp H
  (try dsimp -simprocs only at H)
  have A64 := Aside0.mk A640
  clear A640
  obtain ⟨⟨t338, t339, t340⟩, A650, H⟩ := Option.bind_eq_some_iff.mp H
  (try dsimp -simprocs only at H)
  have A65 := Aside0.mk A650
  clear A650
  simp only [Option.some.injEq, Prod.mk.injEq] at H
  obtain ⟨rfl, rfl, rfl⟩ := H
  refine done_ (done_of HT_.out (by kernel_rfl)) ?_
  obtain ⟨⟨hcz55_0, hcz55_1, hcz55_2⟩, hfz55_0, hfz55_1, hfz55_2⟩ := ce3 BK306
  obtain ⟨⟨hcz56_0, hcz56_1, hcz56_2⟩, hfz56_0, hfz56_1, hfz56_2⟩ := ce3 BK307
  obtain ⟨Ao57, co57, eo57⟩ := Kd.R_slice HO314.out
  subst eo57
  obtain ⟨Ao58, co58, eo58⟩ := Kd.R_slice HO320.out
  subst eo58
  try go_wp2_with (first | ((with_reducible refine gate_callee (f := 55) rfl ?_); refine goesL_ (some 46) rfl rfl Tryd.func55 (by kernel_rfl) rfl #[.slice Ao57 t312.length co57, .slice Ao58 t318.length co58] rfl MP ?_; (with_reducible refine (nat_Sub.calls _ _ t312 _ _ t318 t327 false _ ?side1 ?side2 ?side3 ?side4 A37.out).mono ?_); (case side1 => exact CB ((Kd.R_reads' HO314.out).2.2)); (case side2 => exact (Kd.R_reads' HO314.out).2.1); (case side3 => exact CB ((Kd.R_reads' HO320.out).2.2)); (case side4 => exact (Kd.R_reads' HO320.out).2.1); rintro e w85 ⟨v329, rfl, ho0, hb⟩; refine ⟨_, rfl, ?_⟩; have HO330 := Aside0.mk (Kd.R_lower (Kd.R_new' (Kd.R_new' (Kd.R_new' (Kd.R_new' ho0 (Kd.R_lt (RB HO311.out))) (Kd.R_lt (RB HO314.out))) (Kd.R_lt (RB HO317.out))) (Kd.R_lt (RB HO320.out))) (below_size (BL HB))); replace HO311 := Aside0.mk (Kd.R_elder' (RB HO311.out) (Kd.R_base ho0) hb); replace HO314 := Aside0.mk (Kd.R_elder' (RB HO314.out) (Kd.R_base ho0) hb); replace HO317 := Aside0.mk (Kd.R_elder' (RB HO317.out) (Kd.R_base ho0) hb); replace HO320 := Aside0.mk (Kd.R_elder' (RB HO320.out) (Kd.R_base ho0) hb); replace BK306 := bkb_ BK306 hb; replace BK307 := bkb_ BK307 hb; replace BK308 := bkb_ BK308 hb; replace HB := hbs_ HB hb; (try clear hb); (try clear hb2); (try clear hk); (try clear hi); (try clear ho0)) | ((with_reducible refine gate_callee (f := 55) rfl ?_); refine goesL_ (some 58) rfl rfl Tryd.func55 (by kernel_rfl) rfl #[.slice Ao58 t318.length co58, .slice Ao57 t312.length co57] rfl MP ?_; (with_reducible refine (nat_Sub.calls _ _ t318 _ _ t312 t334 t335 _ ?side1 ?side2 ?side3 ?side4 A64.out).mono ?_); (case side1 => exact CB ((Kd.R_reads' HO320.out).2.2)); (case side2 => exact (Kd.R_reads' HO320.out).2.1); (case side3 => exact CB ((Kd.R_reads' HO314.out).2.2)); (case side4 => exact (Kd.R_reads' HO314.out).2.1); rintro e w86 ⟨v336, rfl, ho0, hb⟩; refine ⟨_, rfl, ?_⟩; have HO337 := Aside0.mk (Kd.R_lower (Kd.R_new' (Kd.R_new' (Kd.R_new' (Kd.R_new' (Kd.R_new' ho0 (Kd.R_lt (RB HO311.out))) (Kd.R_lt (RB HO314.out))) (Kd.R_lt (RB HO317.out))) (Kd.R_lt (RB HO320.out))) (Kd.R_lt (RB HO330.out))) (below_size (BL HB))); replace HO311 := Aside0.mk (Kd.R_elder' (RB HO311.out) (Kd.R_base ho0) hb); replace HO314 := Aside0.mk (Kd.R_elder' (RB HO314.out) (Kd.R_base ho0) hb); replace HO317 := Aside0.mk (Kd.R_elder' (RB HO317.out) (Kd.R_base ho0) hb); replace HO320 := Aside0.mk (Kd.R_elder' (RB HO320.out) (Kd.R_base ho0) hb); replace HO330 := Aside0.mk (Kd.R_elder' (RB HO330.out) (Kd.R_base ho0) hb); replace BK306 := bkb_ BK306 hb; replace BK307 := bkb_ BK307 hb; replace BK308 := bkb_ BK308 hb; replace HB := hbs_ HB hb; (try clear hb); (try clear hb2); (try clear hk); (try clear hi); (try clear ho0); obtain ⟨⟨hcz87_0, hcz87_1, hcz87_2⟩, hfz87_0, hfz87_1, hfz87_2⟩ := ce3 BK307; obtain ⟨Ao88, co88, eo88⟩ := Kd.R_slice HO337.out; subst eo88) | ((with_reducible refine gate_callee (f := 53) rfl ?_); refine goesL_ (some 65) rfl rfl Tryd.func53 (by kernel_rfl) rfl #[.bool a1_0, .slice Ao88 t334.length co88, .int .i64 ji3] rfl (by (try simp only [List.map_toArray]); (try simp only [List.map_cons]); (try simp only [List.map_nil]); first | done | (simp only [hji3]; rfl) | rfl | (simp only [List.length_drop, List.length_take]; rfl)) ?_; (with_reducible refine (arith_made.calls a1_0 _ _ t334 ji3 t338 t339 t340 _ ?side1 ?side2 A65.out).mono ?_); (case side1 => exact CB ((Kd.R_reads' HO337.out).2.2)); (case side2 => exact (Kd.R_reads' HO337.out).2.1); rintro e w89 ⟨rfl, hb⟩; refine ⟨_, rfl, ?_⟩; replace HO311 := Aside0.mk (Kd.R_below (RB HO311.out) hb); replace HO314 := Aside0.mk (Kd.R_below (RB HO314.out) hb); replace HO317 := Aside0.mk (Kd.R_below (RB HO317.out) hb); replace HO320 := Aside0.mk (Kd.R_below (RB HO320.out) hb); replace HO330 := Aside0.mk (Kd.R_below (RB HO330.out) hb); replace HO337 := Aside0.mk (Kd.R_below (RB HO337.out) hb); replace BK306 := bkb_ BK306 hb; replace BK307 := bkb_ BK307 hb; replace BK308 := bkb_ BK308 hb; replace HB := hbs_ HB hb; (try clear hb); (try clear hb2); (try clear hk); (try clear hi); obtain ⟨⟨hcz90_0, hcz90_1, hcz90_2⟩, hfz90_0, hfz90_1, hfz90_2⟩ := ce3 BK308))
  refine bodyPost_ret (results_cell_row rfl _ _ gb308 23 #[.bool t338, .string t339, .int .i64 t340] (0, 0) _ rfl (BP BK308) Tryd.underlying23 rfl (by kernel_rfl)) rfl ?_
  exact ⟨by first | rfl | (simp [errW_none, errW_some] <;> rfl) | (simp only [← hji3]; first | rfl | (simp [errW_none, errW_some] <;> rfl)) | (simp [*, errW_none, errW_some] <;> rfl), BL HB⟩
end Go.Proofs.YtbjaiphfehnncaaDoor.Px
end
section
namespace Go.Proofs.YtbjaiphfehnncaaDoor.Px
open Fig Go.RowKit Go.Proofs.YtbjaiphfehnncaaDoorW.PrintWords Go.Proofs.YtbjaiphfehnncaaDoorW.PrintLast Go.Proofs.YtbjaiphfehnncaaDoorW.PrintMore
attribute [local go_sem] max2_int min2_int max_two min_two max_three min_three max_four min_four   -- for this text's walks alone
attribute [local go_sem] fieldA23_0 fieldA23_1 fieldA23_2
def arith_Sub.f (a0_0 : Bool) (a0_1 : ByteArray) (a0_2 : Int) (a1_0 : Bool) (a1_1 : ByteArray) (a1_2 : Int) : Option (Bool × ByteArray × Int) := (arith_Add.f a0_0 a0_1 a0_2 (!a1_0) a1_1 a1_2).bind fun bt344 => (some (bt344.1, bt344.2.1, bt344.2.2))
set_option maxHeartbeats 8000000 in
set_option maxRecDepth 100000 in
theorem arith_Sub.calls (a0_0 : Bool) (a0_1 : ByteArray) (a0_2 : Int) (a1_0 : Bool) (a1_1 : ByteArray) (a1_2 : Int) (r1 : Bool) (r2 : ByteArray) (r3 : Int) (w : World) (hG : Fig.Glob w) (h : arith_Sub.f a0_0 a0_1 a0_2 a1_0 a1_1 a1_2 = some (r1, r2, r3)) :
    Calls Tryd.prog 36 #[.agg #[.bool a0_0, .string a0_1, .int .i64 a0_2], .agg #[.bool a1_0, .string a1_1, .int .i64 a1_2]] w fun e w' => e = .returned (.agg #[.bool r1, .string r2, .int .i64 r3]) ∧ Below w.heap.size w w' := by
  have hu23 := Tryd.underlying23
  have HG := Aside0.mk hG
  clear hG
  have HB := Aside0.mk (Below.refl w.heap.size w)
  have H : ((arith_Add.f a0_0 a0_1 a0_2 (!a1_0) a1_1 a1_2).bind fun bt344 => (some (bt344.1, bt344.2.1, bt344.2.2))) = some (r1, r2, r3) := h
  clear h
  obtain ⟨⟨t344, t345, t346⟩, A30, H⟩ := Option.bind_eq_some_iff.mp H
  (try dsimp -simprocs only at H)
  have A3 := Aside0.mk A30
  clear A30
  simp only [Option.some.injEq, Prod.mk.injEq] at H
  obtain ⟨rfl, rfl, rfl⟩ := H
  go_enter Tryd.func36, Tryd.ntmps36
  go_wp2_with (first | (refine be_ 2 #[.bool a0_0, .string a0_1, .int .i64 a0_2] 23 ?_; intro gb341 hg w4 hbox hb; have BK341 := Aside0.mk (hbox); have GW341 := ge_ hg HB; have GE341 := ge_ hg HB; replace HB := hbs_ HB hb; clear hb hbox hg) | (refine be_ 3 #[.bool a1_0, .string a1_1, .int .i64 a1_2] 23 ?_; intro gb342 hg w5 hbox hb; have BK342 := Aside0.mk (hbox); have GW342 := ge_ hg HB; have GE342 := ge_ hg HB; replace HB := hbs_ HB hb; have NB341_342 := nb_ hg BK341; have NB342_341 := nc_ hg BK341; replace BK341 := bkb_ BK341 hb; clear hb hbox hg) | (refine be_ 4 #[.bool false, .string (⟨#[]⟩ : ByteArray), .int .i64 0] 23 ?_; intro gb343 hg w6 hbox hb; have BK343 := Aside0.mk (hbox); have GW343 := ge_ hg HB; have GE343 := ge_ hg HB; replace HB := hbs_ HB hb; have NB341_343 := nb_ hg BK341; have NB343_341 := nc_ hg BK341; replace BK341 := bkb_ BK341 hb; have NB342_343 := nb_ hg BK342; have NB343_342 := nc_ hg BK342; replace BK342 := bkb_ BK342 hb; clear hb hbox hg; have hnb7 := NB342_341.out; have hnc7 := NB341_342.out; have hnb8 := NB342_343.out; have hnc8 := NB343_342.out; obtain ⟨⟨hcz9_0, hcz9_1, hcz9_2⟩, hfz9_0, hfz9_1, hfz9_2⟩ := ce3 BK342; have hnb10 := NB341_343.out; have hnc10 := NB343_341.out; obtain ⟨⟨hcz11_0, hcz11_1, hcz11_2⟩, hfz11_0, hfz11_1, hfz11_2⟩ := ce3 BK341) | ((with_reducible refine gate_callee (f := 34) rfl ?_); refine goesL_ (some 11) rfl rfl Tryd.func34 (by kernel_rfl) rfl #[.agg #[.bool a0_0, .string a0_1, .int .i64 a0_2], .agg #[.bool (!a1_0), .string a1_1, .int .i64 a1_2]] rfl MP ?_; (with_reducible refine (arith_Add.calls a0_0 a0_1 a0_2 (!a1_0) a1_1 a1_2 t344 t345 t346 _ ?side1 A3.out).mono ?_); (case side1 => exact Fig.Glob.below HG.out (BL HB)); rintro e w12 ⟨rfl, hb⟩; refine ⟨_, rfl, ?_⟩; replace BK341 := Aside0.mk (blk_below (g := gb341) (o := .cells #[.bool a0_0, .string a0_1, .int .i64 a0_2] 23 (0, 0)) (by (with_reducible repeat (first | refine blk_drewN ?_ _ | refine blk_drew ?_ | refine blk_alloc ?_ _)); refine blk_far ?_ NB341_342.out _; (with_reducible repeat (first | refine blk_drewN ?_ _ | refine blk_drew ?_ | refine blk_alloc ?_ _)); exact BK341.out) hb); replace BK342 := Aside0.mk (blk_below (g := gb342) (o := .cells #[.bool (!a1_0), .string a1_1, .int .i64 a1_2] 23 (0, 0)) (BP BK342) hb); replace BK343 := Aside0.mk (blk_below (g := gb343) (o := .cells #[.bool false, .string (⟨#[]⟩ : ByteArray), .int .i64 0] 23 (0, 0)) (by (with_reducible repeat (first | refine blk_drewN ?_ _ | refine blk_drew ?_ | refine blk_alloc ?_ _)); refine blk_far ?_ NB343_342.out _; (with_reducible repeat (first | refine blk_drewN ?_ _ | refine blk_drew ?_ | refine blk_alloc ?_ _)); exact BK343.out) hb); replace HB := hbs_ HB hb; (try clear hb); (try clear hb2); (try clear hk); (try clear hi); obtain ⟨⟨hcz13_0, hcz13_1, hcz13_2⟩, hfz13_0, hfz13_1, hfz13_2⟩ := ce3 BK343))
  refine bodyPost_ret (results_cell_row rfl _ _ gb343 23 #[.bool t344, .string t345, .int .i64 t346] (0, 0) _ rfl (BP BK343) Tryd.underlying23 rfl (by kernel_rfl)) rfl ?_
  exact ⟨ER, BL HB⟩
end Go.Proofs.YtbjaiphfehnncaaDoor.Px
end
section
namespace Go.Proofs.YtbjaiphfehnncaaDoor.Px
open Fig Go.RowKit Go.Proofs.YtbjaiphfehnncaaDoorW.PrintWords Go.Proofs.YtbjaiphfehnncaaDoorW.PrintLast Go.Proofs.YtbjaiphfehnncaaDoorW.PrintMore
attribute [local go_sem] max2_int min2_int max_two min_two max_three min_three max_four min_four   -- for this text's walks alone
attribute [local go_sem] fieldA23_0 fieldA23_1 fieldA23_2
def mul_Mul.l0 : Nat → List Int → List Int → List Int → Int → Int → Option (List Int)
  | 0, _, _, _, _, _ => none
  | k + 1, x0, x5, x15, x16, x17 => if x17 < x16 then (if 0 ≤ x17 then (if x17 < (x15.length : Int) then ((mul_row.f k x5 x0 (rd x15 x17) x17).bind fun t351 => (mul_Mul.l0 k x0 t351 x15 x16 (wrap64 (x17 + 1)))) else (none)) else (none)) else ((nat_Trim.f x5).bind fun t352 => (some t352))
def mul_Mul.f (k : Nat) (l0 : List Int) (l1 : List Int) : Option (List Int) := if 0 ≤ (wrap64 ((wrap64 ((l0.length : Int) + (l1.length : Int))) + 1)) then (if (wrap64 ((wrap64 ((l0.length : Int) + (l1.length : Int))) + 1) : Int).toNat ≤ 70368744177664 then (mul_Mul.l0 k l0 (List.replicate (wrap64 ((wrap64 ((l0.length : Int) + (l1.length : Int))) + 1) : Int).toNat 0) l1 (l1.length : Int) 0) else (none)) else (none)
theorem mul_Mul.mono_l : ∀ k, (∀ y0 y1 y2 y3 y4, LeO (mul_Mul.l0 k y0 y1 y2 y3 y4) (mul_Mul.l0 (k + 1) y0 y1 y2 y3 y4))
  | 0 => fun _ _ _ _ _ r h => by simp [mul_Mul.l0] at h
  | k + 1 => by
    have ih0 := mul_Mul.mono_l k
    · intro y0 y1 y2 y3 y4
      unfold mul_Mul.l0
      repeat' first
      | (with_reducible exact ih0 _ _ _ _ _)
      | (with_reducible exact mul_row.mono _ _ _ _ _)
      | (with_reducible exact LeO.refl _)
      | (with_reducible exact LeO.none _)
      | (with_reducible refine LeO.ite ?_ ?_)
      | (with_reducible refine LeO.bind ?_ (fun _ => ?_))
      | exact ih0 _ _ _ _ _
      | exact mul_row.mono _ _ _ _ _
      | exact LeO.none _
      | refine LeO.ite ?_ ?_
      | refine LeO.bind ?_ (fun _ => ?_)
theorem mul_Mul.mono : ∀ a0 a1 k, LeO (mul_Mul.f k a0 a1) (mul_Mul.f (k + 1) a0 a1) := by
  intro a0 a1 k
  have ih0 := mul_Mul.mono_l k
  unfold mul_Mul.f
  repeat' first
      | (with_reducible exact ih0 _ _ _ _ _)
      | (with_reducible exact mul_row.mono _ _ _ _ _)
      | (with_reducible exact LeO.refl _)
      | (with_reducible exact LeO.none _)
      | (with_reducible refine LeO.ite ?_ ?_)
      | (with_reducible refine LeO.bind ?_ (fun _ => ?_))
      | exact ih0 _ _ _ _ _
      | exact mul_row.mono _ _ _ _ _
      | exact LeO.none _
      | refine LeO.ite ?_ ?_
      | refine LeO.bind ?_ (fun _ => ?_)
set_option maxHeartbeats 8000000 in
set_option maxRecDepth 100000 in
theorem mul_Mul.calls (k : Nat) (A0 : Option Addr) (c0 : Nat) (l0 : List Int) (A1 : Option Addr) (c1 : Nat) (l1 : List Int) (r : List Int) (w : World) (hr0 : Kd.C (Kd.int .u32) w A0 l0.length l0) (hc0 : l0.length ≤ c0) (hr1 : Kd.C (Kd.int .u32) w A1 l1.length l1) (hc1 : l1.length ≤ c1) (h : mul_Mul.f k l0 l1 = some r) :
    Calls Tryd.prog 60 #[.slice A0 l0.length c0, .slice A1 l1.length c1] w fun e w' => ∃ v0_ : Value, e = .returned (v0_) ∧ Kd.R (Kd.int .u32) 47 w' w.heap.size (fun _ => True) v0_ r ∧ Below w.heap.size w w' := by
  have HR0 := Aside0.mk hr0
  have HC0 := Aside0.mk hc0
  clear hr0 hc0
  have HR1 := Aside0.mk hr1
  have HC1 := Aside0.mk hc1
  clear hr1 hc1
  have HB := Aside0.mk (Below.refl w.heap.size w)
  have H : (if 0 ≤ (wrap64 ((wrap64 ((l0.length : Int) + (l1.length : Int))) + 1)) then (if (wrap64 ((wrap64 ((l0.length : Int) + (l1.length : Int))) + 1) : Int).toNat ≤ 70368744177664 then (mul_Mul.l0 k l0 (List.replicate (wrap64 ((wrap64 ((l0.length : Int) + (l1.length : Int))) + 1) : Int).toNat 0) l1 (l1.length : Int) 0) else (none)) else (none)) = some r := h
  clear h
  obtain ⟨ji3, hji3⟩ : ∃ j_ : Int, (wrap64 ((wrap64 ((l0.length : Int) + (l1.length : Int))) + 1)) = j_ := ⟨_, rfl⟩
  replace H : (if 0 ≤ (ji3) then (if (ji3 : Int).toNat ≤ 70368744177664 then (mul_Mul.l0 k l0 (List.replicate (ji3 : Int).toNat 0) l1 (l1.length : Int) 0) else (none)) else (none)) = some r := by first | (rw [hji3] at H; exact H) | (simp only [hji3] at H ⊢; exact H)
  have hji3w : (IntKind.i64.wrap ((wrap64 ((l0.length : Int) + (l1.length : Int))) + 1)) = ji3 := (i64_w _).trans hji3
  by_cases c4 : 0 ≤ (ji3)
  · rw [if_pos c4] at H
    have c4b0 := eq_true c4
    have c4b1 : decide (0 ≤ (ji3)) = true := decide_eq_true c4
    clear c4
    by_cases c5 : (ji3 : Int).toNat ≤ 70368744177664
    · rw [if_pos c5] at H
      have c5b0 := eq_true c5
      have c5b1 : decide ((ji3 : Int).toNat ≤ 70368744177664) = true := decide_eq_true c5
      clear c5
      obtain ⟨y347, hy347⟩ : ∃ y_ : List Int, y_ = (List.replicate (ji3 : Int).toNat 0) := ⟨_, rfl⟩
      replace H : (mul_Mul.l0 k l0 y347 l1 (l1.length : Int) 0) = some r := by first | (rw [hy347]; with_reducible exact H) | (have H2_ := (Option.bind_some _ _).symm.trans H; rw [hy347]; with_reducible exact H2_) | (have H2_ := (Option.bind_some _ _).symm.trans H; with_reducible exact H2_) | with_reducible exact H | (rw [hy347]; exact H) | exact H
      have Ny347 := Aside0.mk hy347
      clear hy347
      have H' := Aside0.mk H
      clear H
      go_enter Tryd.func60, Tryd.ntmps60
      go_wp2_with (first | ((with_reducible refine gate_dst (N := 14) rfl ?_); refine Kd.R_make (Kd.int .u32) _ 47 rfl (N := 14) rfl 28 _ _ rfl ji3 rfl rfl Tryd.underlying28 (.int .u32 0) 4 info47 rfl (by decide) (by omega) 0 (ok := fun _ => True) (okp := fun _ => True) rfl (fun _ hk => hk) trivial (of_decide_eq_true (by first | (with_reducible assumption) | assumption)) (Nat.le_trans (Nat.mul_le_mul_right _ (of_decide_eq_true (by first | (with_reducible assumption) | assumption) : ji3.toNat ≤ 70368744177664)) (by omega)) (Below.refl _ _) (Nat.le_refl _) ?_; intro v348 w6 ho7 hb hg_ hnew_; clear hg_ hnew_; (first | rw [← Ny347.out] at ho7 | (simp only [Int.reduceToNat] at ho7; rw [← Ny347.out] at ho7)); have HO349 := Aside0.mk (Kd.R_lower ho7 (below_size (BL HB))); replace HB := hbs_ HB hb; clear hb ho7))
      go_loopg [17] k (fun kq v17 w' => ∃ (x5_1 : List Int) (x17_1 : Int), v17 = .int .i64 x17_1 ∧ Aside0 (mul_Mul.l0 kq l0 x5_1 l1 (l1.length : Int) x17_1 = some r) ∧ Aside0 (kq ≤ k) ∧ Aside0 (Kd.R (Kd.int .u32) 47 w' w.heap.size (fun _ => True) v348 x5_1) ∧ Aside0 (Below w.heap.size w w'))
      case atStart => exact ⟨(y347), (0), SR, H', ⟨Nat.le_refl _⟩, ⟨RB HO349.out⟩, ⟨BL HB⟩⟩
      case round =>
        clear H'
        try clear c1
        try clear c4
        try clear c4b0
        try clear c4b1
        try clear c5
        try clear c5b0
        try clear c5b1
        obtain ⟨x5_1, x17_1, rfl, HA, HK1, HO_5, HB⟩ := hrel
        obtain _ | k1 := gk
        · exact absurd HA.out (by simp [mul_Mul.l0])
        have H := HA.out
        clear HA
        simp only [mul_Mul.l0] at H
        by_cases c8 : x17_1 < (l1.length : Int)
        · rw [if_pos c8] at H
          have c8b0 : decide (x17_1 < (l1.length : Int)) = true := decide_eq_true c8
          clear c8
          by_cases c9 : 0 ≤ x17_1
          · rw [if_pos c9] at H
            have c9b0 : decide (0 ≤ x17_1) = true := decide_eq_true c9
            clear c9
            by_cases c10 : x17_1 < (l1.length : Int)
            · rw [if_pos c10] at H
              have c10b0 : decide (x17_1 < (l1.length : Int)) = true := decide_eq_true c10
              clear c10
              obtain ⟨t351, A110, H⟩ := Option.bind_eq_some_iff.mp H
              (try dsimp -simprocs only at H)
              have A11 := Aside0.mk A110
              clear A110
              have H' := Aside0.mk H
              clear H
              have p350 : 0 ≤ (x17_1 : Int) := of_decide_eq_true (by first | (with_reducible assumption) | assumption)
              have q350 : x17_1 < (l1.length : Int) := of_decide_eq_true (by first | (with_reducible assumption) | assumption)
              obtain ⟨ad350, e350, hx350_0⟩ := Kd.at_int HR1.out x17_1 p350 q350
              cases e350
              replace hx350_0 := (HB.out.cell (World.block_lt_of_cell? w _ hx350_0)).trans hx350_0
              replace p350 := eq_true p350
              replace q350 := eq_true q350
              obtain ⟨Ao12, co12, eo12⟩ := Kd.R_slice HO_5.out
              subst eo12
              go_wp2_with (first | ((with_reducible refine gate_callee (f := 78) rfl ?_); refine goesL_ (some 26) rfl rfl Tryd.func78 (by kernel_rfl) rfl #[.slice Ao12 x5_1.length co12, .slice A0 l0.length c0, .int .u32 (rd l1 x17_1), .int .i64 x17_1] rfl MP ?_; (with_reducible refine (mul_row.calls k1 (fun k_ => some k_ = (.slice Ao12 x5_1.length co12 : Value).ownBlock) (.slice Ao12 x5_1.length co12) x5_1 _ _ l0 (rd l1 x17_1) x17_1 t351 w _ ?side1 ?side2 ?side3 ?side4 A11.out).mono ?_); (case side1 => repeat (first | (with_reducible first | exact HB.out | apply below_alloc | apply pw_below_drewN | apply below_drew1) | exact HB.out)); (case side2 => exact Kd.R_tight rfl HO_5.out); (case side3 => exact Kd.C_kept_came (Kd.heap_int .u32) HR0.out (BL HB) (fun k_ hs_ => (fun e_ => Kd.R_base HO_5.out k_ e_.symm) hs_)); (case side4 => exact HC0.out); rintro e w13 ⟨rfl, hy0, hb, hkp⟩; refine ⟨_, rfl, ?_⟩; replace HO_5 := Aside0.mk (Kd.R_reok rfl hy0 (fun k_ e_ => HO_5.out.1 k_ e_)); replace HB := Aside0.mk (hb); (try clear hb); (try clear hkp); (try clear hy0)))
              go_roundg k1
              case measure => have := HK1.out; omega
              case rel => exact ⟨(t351), (wrap64 (x17_1 + 1)), SR, H', ⟨by have := HK1.out; omega⟩, ⟨RB HO_5.out⟩, ⟨BL HB⟩⟩
            rw [if_neg c10] at H
            exact absurd H (by simp)
          rw [if_neg c9] at H
          exact absurd H (by simp)
        rw [if_neg c8] at H
        have c8b0 : decide (x17_1 < (l1.length : Int)) = false := decide_eq_false c8
        clear c8
        obtain ⟨t352, A140, H⟩ := Option.bind_eq_some_iff.mp H
        (try dsimp -simprocs only at H)
        have A14 := Aside0.mk A140
        clear A140
        obtain rfl := Option.some.inj H
        obtain ⟨Ao15, co15, eo15⟩ := Kd.R_slice HO_5.out
        subst eo15
        go_wp2_with (first | ((with_reducible refine gate_callee (f := 62) rfl ?_); refine goesL_ (some 29) rfl rfl Tryd.func62 (by kernel_rfl) rfl #[.slice Ao15 x5_1.length co15] rfl MP ?_; (with_reducible refine (nat_Trim.calls _ _ x5_1 t352 _ ?side1 ?side2 A14.out).mono ?_); (case side1 => exact CB ((Kd.R_reads' HO_5.out).2.2)); (case side2 => exact (Kd.R_reads' HO_5.out).2.1); rintro e w16 ⟨v353, rfl, ho0, hb⟩; refine ⟨_, rfl, ?_⟩; have HO354 := Aside0.mk (Kd.R_lower (Kd.R_new' ho0 (Kd.R_lt (RB HO_5.out))) (below_size (BL HB))); replace HO_5 := Aside0.mk (Kd.R_elder' (RB HO_5.out) (Kd.R_base ho0) hb); replace HB := hbs_ HB hb; (try clear hb); (try clear hb2); (try clear hk); (try clear hi); (try clear ho0)))
        go_ret
        exact ⟨_, by first | rfl | (simp [errW_none, errW_some] <;> rfl) | (simp only [← hji3]; first | rfl | (simp [errW_none, errW_some] <;> rfl)) | (simp [*, errW_none, errW_some] <;> rfl), by (with_reducible repeat (first | apply Kd.R_alloc | apply Kd.R_drewN | apply Kd.R_drew)); exact Kd.R_mono HO354.out (fun _ hk => trivial), BL HB⟩
    rw [if_neg c5] at H
    exact absurd H (by simp)
  rw [if_neg c4] at H
  exact absurd H (by simp)
end Go.Proofs.YtbjaiphfehnncaaDoor.Px
end
section
namespace Go.Proofs.YtbjaiphfehnncaaDoor.Px
open Fig Go.RowKit Go.Proofs.YtbjaiphfehnncaaDoorW.PrintWords Go.Proofs.YtbjaiphfehnncaaDoorW.PrintLast Go.Proofs.YtbjaiphfehnncaaDoorW.PrintMore
attribute [local go_sem] max2_int min2_int max_two min_two max_three min_three max_four min_four   -- for this text's walks alone
attribute [local go_sem] fieldA23_0 fieldA23_1 fieldA23_2
def arith_Mul.f (k : Nat) (a0_0 : Bool) (a0_1 : ByteArray) (a0_2 : Int) (a1_0 : Bool) (a1_1 : ByteArray) (a1_2 : Int) : Option (Bool × ByteArray × Int) := (dec_Coef.f a0_0 a0_1 a0_2).bind fun t358 => ((dec_Coef.f a1_0 a1_1 a1_2).bind fun t361 => ((mul_Mul.f k t358 t361).bind fun t364 => ((arith_made.f (a0_0 != a1_0) t364 (wrap64 (a0_2 + a1_2))).bind fun bt367 => (some (bt367.1, bt367.2.1, bt367.2.2)))))
theorem arith_Mul.mono : ∀ a0 a1 a2 a3 a4 a5 k, LeO (arith_Mul.f k a0 a1 a2 a3 a4 a5) (arith_Mul.f (k + 1) a0 a1 a2 a3 a4 a5) := by
  intro a0 a1 a2 a3 a4 a5 k
  unfold arith_Mul.f
  repeat' first
      | (with_reducible exact mul_Mul.mono _ _ _)
      | (with_reducible exact LeO.refl _)
      | (with_reducible exact LeO.none _)
      | (with_reducible refine LeO.ite ?_ ?_)
      | (with_reducible refine LeO.bind ?_ (fun _ => ?_))
      | exact mul_Mul.mono _ _ _
      | exact LeO.none _
      | refine LeO.ite ?_ ?_
      | refine LeO.bind ?_ (fun _ => ?_)
def arith_Mul.T1 : Bool × List (List Nat × List Nat) := (true, [([], []), ([0], [0]), ([], []), ([2], [2]), ([1, 3], [1, 3]), ([], []), ([5], [5]), ([], []), ([7, 6], [7]), ([6, 8, 8], [6, 8]), ([], []), ([10], [10]), ([], []), ([12], [12]), ([11, 13], [11, 13]), ([4, 9, 14, 9], [4, 9, 14]), ([15, 15, 0, 1, 2, 3, 4, 5, 6, 7, 8, 9, 10, 11, 12, 13, 14, 15], [15])])
def arith_Mul.B1 : List Nat := [0, 1, 0, 4, 15, 0, 32, 0, 224, 480, 0, 1024, 0, 4096, 15360, 32767, 65535]
theorem arith_Mul.tab1 : rtab .any (opsOf Tryd.f38 1) = arith_Mul.T1 := by kernel_rfl
theorem arith_Mul.bits1 : waitsOk arith_Mul.T1.2 arith_Mul.B1 = true := by kernel_rfl
set_option maxHeartbeats 8000000 in
set_option maxRecDepth 100000 in
theorem arith_Mul.calls (k : Nat) (a0_0 : Bool) (a0_1 : ByteArray) (a0_2 : Int) (a1_0 : Bool) (a1_1 : ByteArray) (a1_2 : Int) (r1 : Bool) (r2 : ByteArray) (r3 : Int) (w : World) (h : arith_Mul.f k a0_0 a0_1 a0_2 a1_0 a1_1 a1_2 = some (r1, r2, r3)) :
    Calls Tryd.prog 38 #[.agg #[.bool a0_0, .string a0_1, .int .i64 a0_2], .agg #[.bool a1_0, .string a1_1, .int .i64 a1_2]] w fun e w' => e = .returned (.agg #[.bool r1, .string r2, .int .i64 r3]) ∧ Below w.heap.size w w' := by
  have hu23 := Tryd.underlying23
  have HB := Aside0.mk (Below.refl w.heap.size w)
  have H : ((dec_Coef.f a0_0 a0_1 a0_2).bind fun t358 => ((dec_Coef.f a1_0 a1_1 a1_2).bind fun t361 => ((mul_Mul.f k t358 t361).bind fun t364 => ((arith_made.f (a0_0 != a1_0) t364 (wrap64 (a0_2 + a1_2))).bind fun bt367 => (some (bt367.1, bt367.2.1, bt367.2.2)))))) = some (r1, r2, r3) := h
  clear h
  obtain ⟨t358, A30, H⟩ := Option.bind_eq_some_iff.mp H
  (try dsimp -simprocs only at H)
  have A3 := Aside0.mk A30
  clear A30
  obtain ⟨t361, A40, H⟩ := Option.bind_eq_some_iff.mp H
  (try dsimp -simprocs only at H)
  have A4 := Aside0.mk A40
  clear A40
  obtain ⟨t364, A50, H⟩ := Option.bind_eq_some_iff.mp H
  (try dsimp -simprocs only at H)
  have A5 := Aside0.mk A50
  clear A50
  obtain ⟨⟨t367, t368, t369⟩, A60, H⟩ := Option.bind_eq_some_iff.mp H
  (try dsimp -simprocs only at H)
  have A6 := Aside0.mk A60
  clear A60
  simp only [Option.some.injEq, Prod.mk.injEq] at H
  obtain ⟨rfl, rfl, rfl⟩ := H
  go_enter Tryd.func38, Tryd.ntmps38
  try go_wp2_with (first | (refine be_ 2 #[.bool a0_0, .string a0_1, .int .i64 a0_2] 23 ?_; intro gb355 hg w7 hbox hb; have BK355 := Aside0.mk (hbox); have GW355 := ge_ hg HB; have GE355 := ge_ hg HB; replace HB := hbs_ HB hb; clear hb hbox hg) | (refine be_ 3 #[.bool a1_0, .string a1_1, .int .i64 a1_2] 23 ?_; intro gb356 hg w8 hbox hb; have BK356 := Aside0.mk (hbox); have GW356 := ge_ hg HB; have GE356 := ge_ hg HB; replace HB := hbs_ HB hb; have NB355_356 := nb_ hg BK355; have NB356_355 := nc_ hg BK355; replace BK355 := bkb_ BK355 hb; clear hb hbox hg) | (refine be_ 4 #[.bool false, .string (⟨#[]⟩ : ByteArray), .int .i64 0] 23 ?_; intro gb357 hg w9 hbox hb; have BK357 := Aside0.mk (hbox); have GW357 := ge_ hg HB; have GE357 := ge_ hg HB; replace HB := hbs_ HB hb; have NB355_357 := nb_ hg BK355; have NB357_355 := nc_ hg BK355; replace BK355 := bkb_ BK355 hb; have NB356_357 := nb_ hg BK356; have NB357_356 := nc_ hg BK356; replace BK356 := bkb_ BK356 hb; clear hb hbox hg))
  (try (rw [drewN_self w9]; generalize hq_ : World.drewN w9 _ = w9; replace BK355 := bkq_ BK355 hq_; replace BK356 := bkq_ BK356 hq_; replace BK357 := bkq_ BK357 hq_; replace HB := hbq_ HB hq_; clear hq_))
  replace BK355 := Aside0.mk (blk_drew BK355.out)
  replace BK356 := Aside0.mk (blk_drew BK356.out)
  replace BK357 := Aside0.mk (blk_drew BK357.out)
  replace HB := Aside0.mk (below_drew1 HB.out)
  refine start_ (n := 17) (S := fun w' => w'.cell? ⟨gb355, 0, none⟩ = some (.bool a0_0) ∧ w'.cell? ⟨gb355, 1, none⟩ = some (.string a0_1) ∧ w'.cell? ⟨gb355, 2, none⟩ = some (.int .i64 a0_2) ∧ w'.cell? ⟨gb356, 0, none⟩ = some (.bool a1_0) ∧ w'.cell? ⟨gb356, 1, none⟩ = some (.string a1_1) ∧ w'.cell? ⟨gb356, 2, none⟩ = some (.int .i64 a1_2)) (ds := []) #[false, false, false, false, false, false, false, false, false, false, false, false, false, false, false, false, false] (by kernel_rfl) rfl rfl CE (fun hHeld => ?_); refine with_tabW arith_Mul.tab1 arith_Mul.bits1 (fun HT_ HW_ => ?_)
  generalize w9.drew = w10 at BK355 BK356 BK357 HB hHeld ⊢
  refine pu_ 0 (some 5) (bb 17 1) (any_of HT_.out (by kernel_rfl)) ?_
  refine pu_ 2 (some 7) (bb 17 5) (any_of HT_.out (by kernel_rfl)) ?_
  refine pu_ 10 (some 15) (bb 17 1029) (any_of HT_.out (by kernel_rfl)) ?_
  refine pu_ 12 (some 17) (bb 17 5125) (any_of HT_.out (by kernel_rfl)) ?_
  refine tk_ 1 (some 6) (bb 17 5127) (take_ofW HT_.out HW_.out (by kernel_rfl)) hHeld ?_
  refine tk_ 3 (some 8) (bb 17 5135) (take_ofW HT_.out HW_.out (by kernel_rfl)) hHeld ?_
  refine pu_ 4 (some 9) (bb 17 5151) (any_of HT_.out (by kernel_rfl)) ?_
  refine tk_ 5 (some 10) (bb 17 5183) (take_ofW HT_.out HW_.out (by kernel_rfl)) hHeld ?_
  refine tk_ 7 (some 12) (bb 17 5311) (take_ofW HT_.out HW_.out (by kernel_rfl)) hHeld ?_
  refine tk_ 11 (some 16) (bb 17 7359) (take_ofW HT_.out HW_.out (by kernel_rfl)) hHeld ?_
  refine tk_ 13 (some 18) (bb 17 15551) (take_ofW HT_.out HW_.out (by kernel_rfl)) hHeld ?_
  refine pu_ 14 (some 19) (bb 17 31935) (any_of HT_.out (by kernel_rfl)) ?_
  refine one_ (i := 6) (N := some 11) (bb 17 31999) rfl rfl (one_of HT_.out (by kernel_rfl)) (by decide) (fun K hK => ?_)
  refine goes_ Tryd.func23 (by kernel_rfl) rfl #[.agg #[.bool a0_0, .string a0_1, .int .i64 a0_2]] (by rfl) rfl rfl MP ?_
  with_reducible refine (dec_Coef.calls a0_0 a0_1 a0_2 t358 _ A3.out).mono ?_
  rintro e w11 ⟨v359, rfl, ho0, hb⟩
  refine ⟨_, rfl, ?_⟩
  have HO360 := Aside0.mk (Kd.R_lower ho0 (below_size (BL HB)))
  replace BK355 := bkb_ BK355 hb
  replace BK356 := bkb_ BK356 hb
  replace BK357 := bkb_ BK357 hb
  replace HB := hbs_ HB hb
  (try clear hb)
  (try clear hb2)
  (try clear hk)
  (try clear hi)
  (try clear ho0)
  refine hK.out _ _ CE (fun hHeld => ?_)
  clear hK K
  refine no_ (some 11) ?_
  refine one_ (i := 8) (N := some 13) (bb 17 32255) rfl rfl (one_of HT_.out (by kernel_rfl)) (by decide) (fun K hK => ?_)
  refine goes_ Tryd.func23 (by kernel_rfl) rfl #[.agg #[.bool a1_0, .string a1_1, .int .i64 a1_2]] (by rfl) rfl rfl MP ?_
  with_reducible refine (dec_Coef.calls a1_0 a1_1 a1_2 t361 _ A4.out).mono ?_
  rintro e w12 ⟨v362, rfl, ho0, hb⟩
  refine ⟨_, rfl, ?_⟩
  have HO363 := Aside0.mk (Kd.R_lower (Kd.R_new' ho0 (Kd.R_lt (RB HO360.out))) (below_size (BL HB)))
  replace HO360 := Aside0.mk (Kd.R_elder' (RB HO360.out) (Kd.R_base ho0) hb)
  replace BK355 := bkb_ BK355 hb
  replace BK356 := bkb_ BK356 hb
  replace BK357 := bkb_ BK357 hb
  replace HB := hbs_ HB hb
  (try clear hb)
  (try clear hb2)
  (try clear hk)
  (try clear hi)
  (try clear ho0)
  obtain ⟨Ao13, co13, eo13⟩ := Kd.R_slice HO360.out
  (first | subst eo13 | (injection eo13 with f1_ f2_ f3_; have f4_ := f1_.symm; have f5_ := f3_.symm; clear f1_ f2_ f3_; subst f4_; subst f5_))
  obtain ⟨Ao14, co14, eo14⟩ := Kd.R_slice HO363.out
  (first | subst eo14 | (injection eo14 with f1_ f2_ f3_; have f4_ := f1_.symm; have f5_ := f3_.symm; clear f1_ f2_ f3_; subst f4_; subst f5_))
  refine hK.out _ _ CE (fun hHeld => ?_)
  clear hK K
  refine no_ (some 13) ?_
  refine one_ (i := 9) (N := some 14) (bb 17 32767) rfl rfl (one_of HT_.out (by kernel_rfl)) (by decide) (fun K hK => ?_)
  refine goes_ Tryd.func60 (by kernel_rfl) rfl #[.slice Ao13 t358.length co13, .slice Ao14 t361.length co14] (by rfl) rfl rfl MP ?_
  with_reducible refine (mul_Mul.calls k _ _ t358 _ _ t361 t364 _ ?side1 ?side2 ?side3 ?side4 A5.out).mono ?_
  (case side1 => exact CB ((Kd.R_reads' HO360.out).2.2))
  (case side2 => exact (Kd.R_reads' HO360.out).2.1)
  (case side3 => exact CB ((Kd.R_reads' HO363.out).2.2))
  (case side4 => exact (Kd.R_reads' HO363.out).2.1)
  rintro e w15 ⟨v365, rfl, ho0, hb⟩
  refine ⟨_, rfl, ?_⟩
  have HO366 := Aside0.mk (Kd.R_lower (Kd.R_new' (Kd.R_new' ho0 (Kd.R_lt (RB HO360.out))) (Kd.R_lt (RB HO363.out))) (below_size (BL HB)))
  replace HO360 := Aside0.mk (Kd.R_elder' (RB HO360.out) (Kd.R_base ho0) hb)
  replace HO363 := Aside0.mk (Kd.R_elder' (RB HO363.out) (Kd.R_base ho0) hb)
  replace BK355 := bkb_ BK355 hb
  replace BK356 := bkb_ BK356 hb
  replace BK357 := bkb_ BK357 hb
  replace HB := hbs_ HB hb
  (try clear hb)
  (try clear hb2)
  (try clear hk)
  (try clear hi)
  (try clear ho0)
  obtain ⟨Ao16, co16, eo16⟩ := Kd.R_slice HO366.out
  (first | subst eo16 | (injection eo16 with f1_ f2_ f3_; have f4_ := f1_.symm; have f5_ := f3_.symm; clear f1_ f2_ f3_; subst f4_; subst f5_))
  refine hK.out _ _ CE (fun hHeld => ?_)
  clear hK K
  refine no_ (some 14) ?_
  refine one_ (i := 15) (N := some 20) (bb 17 65535) rfl rfl (one_of HT_.out (by kernel_rfl)) (by decide) (fun K hK => ?_)
  refine goes_ Tryd.func53 (by kernel_rfl) rfl #[.bool (a0_0 != a1_0), .slice Ao16 t364.length co16, .int .i64 (wrap64 (a0_2 + a1_2))] (by rfl) rfl rfl MP ?_
  with_reducible refine (arith_made.calls (a0_0 != a1_0) _ _ t364 (wrap64 (a0_2 + a1_2)) t367 t368 t369 _ ?side1 ?side2 A6.out).mono ?_
  (case side1 => exact CB ((Kd.R_reads' HO366.out).2.2))
  (case side2 => exact (Kd.R_reads' HO366.out).2.1)
  rintro e w17 ⟨rfl, hb⟩
  refine ⟨_, rfl, ?_⟩
  replace HO360 := Aside0.mk (Kd.R_below (RB HO360.out) hb)
  replace HO363 := Aside0.mk (Kd.R_below (RB HO363.out) hb)
  replace HO366 := Aside0.mk (Kd.R_below (RB HO366.out) hb)
  replace BK355 := bkb_ BK355 hb
  replace BK356 := bkb_ BK356 hb
  replace BK357 := bkb_ BK357 hb
  replace HB := hbs_ HB hb
  (try clear hb)
  (try clear hb2)
  (try clear hk)
  (try clear hi)
  refine hK.out _ _ CE (fun hHeld => ?_)
  clear hK K
  refine no_ (some 20) ?_
  refine one_ (i := 16) (N := none) (bb 17 131071) rfl rfl (one_of HT_.out (by kernel_rfl)) (by decide) (fun K hK => ?_)
  have hs18 : w17.cell? ⟨gb357, 0, none⟩ = some (.bool false) := (blk_cell BK357.out 0).trans rfl
  have hfs18 := blk_frozen BK357.out 0
  have hns18_0 := NB355_357.out
  have hns18_1 := NB356_357.out
  have hms18_0 := NB357_355.out
  have hms18_1 := NB357_356.out
  have hs19 : w17.cell? ⟨gb357, 1, none⟩ = some (.string (⟨#[]⟩ : ByteArray)) := (blk_cell BK357.out 1).trans rfl
  have hfs19 := blk_frozen BK357.out 1
  have hns19_0 := NB355_357.out
  have hns19_1 := NB356_357.out
  have hms19_0 := NB357_355.out
  have hms19_1 := NB357_356.out
  have hs20 : w17.cell? ⟨gb357, 2, none⟩ = some (.int .i64 0) := (blk_cell BK357.out 2).trans rfl
  have hfs20 := blk_frozen BK357.out 2
  have hns20_0 := NB355_357.out
  have hns20_1 := NB356_357.out
  have hms20_0 := NB357_355.out
  have hms20_1 := NB357_356.out
  refine skip_ (w1 := ?_) (by rfl) rfl ?_ ?_
  rotate_left
  · go_simp
    rfl
  refine hK.out _ _ ⟨((cell_far (p := ⟨gb357, _, none⟩) NB355_357.out _).trans (((cell_far (p := ⟨gb357, _, none⟩) NB355_357.out _).trans (((cell_far (p := ⟨gb357, _, none⟩) NB355_357.out _).trans (hHeld.1)))))), ((cell_far (p := ⟨gb357, _, none⟩) NB355_357.out _).trans (((cell_far (p := ⟨gb357, _, none⟩) NB355_357.out _).trans (((cell_far (p := ⟨gb357, _, none⟩) NB355_357.out _).trans (hHeld.2.1)))))), ((cell_far (p := ⟨gb357, _, none⟩) NB355_357.out _).trans (((cell_far (p := ⟨gb357, _, none⟩) NB355_357.out _).trans (((cell_far (p := ⟨gb357, _, none⟩) NB355_357.out _).trans (hHeld.2.2.1)))))), ((cell_far (p := ⟨gb357, _, none⟩) NB356_357.out _).trans (((cell_far (p := ⟨gb357, _, none⟩) NB356_357.out _).trans (((cell_far (p := ⟨gb357, _, none⟩) NB356_357.out _).trans (hHeld.2.2.2.1)))))), ((cell_far (p := ⟨gb357, _, none⟩) NB356_357.out _).trans (((cell_far (p := ⟨gb357, _, none⟩) NB356_357.out _).trans (((cell_far (p := ⟨gb357, _, none⟩) NB356_357.out _).trans (hHeld.2.2.2.2.1)))))), ((cell_far (p := ⟨gb357, _, none⟩) NB356_357.out _).trans (((cell_far (p := ⟨gb357, _, none⟩) NB356_357.out _).trans (((cell_far (p := ⟨gb357, _, none⟩) NB356_357.out _).trans (hHeld.2.2.2.2.2))))))⟩ (fun hHeld => ?_)
  clear hK K
  refine done_ (done_of HT_.out (by kernel_rfl)) ?_
  try go_wp2
  refine bodyPost_ret (results_cell_row rfl _ _ gb357 23 #[.bool t367, .string t368, .int .i64 t369] (0, 0) _ rfl (BP BK357) Tryd.underlying23 rfl (by kernel_rfl)) rfl ?_
  exact ⟨ER, BL HB⟩
end Go.Proofs.YtbjaiphfehnncaaDoor.Px
end
section
namespace Go.Proofs.YtbjaiphfehnncaaDoor.Px
open Fig Go.RowKit Go.Proofs.YtbjaiphfehnncaaDoorW.PrintWords Go.Proofs.YtbjaiphfehnncaaDoorW.PrintLast Go.Proofs.YtbjaiphfehnncaaDoorW.PrintMore
attribute [local go_sem] max2_int min2_int max_two min_two max_three min_three max_four min_four   -- for this text's walks alone
attribute [local go_sem] fieldA23_0 fieldA23_1 fieldA23_2
def arith_Neg.f (a0_0 : Bool) (a0_1 : ByteArray) (a0_2 : Int) : Option (Bool × ByteArray × Int) := (dec_Norm.f (!a0_0) a0_1 a0_2).bind fun bt372 => (some (bt372.1, bt372.2.1, bt372.2.2))
set_option maxHeartbeats 8000000 in
set_option maxRecDepth 100000 in
theorem arith_Neg.calls (a0_0 : Bool) (a0_1 : ByteArray) (a0_2 : Int) (r1 : Bool) (r2 : ByteArray) (r3 : Int) (w : World) (h : arith_Neg.f a0_0 a0_1 a0_2 = some (r1, r2, r3)) :
    Calls Tryd.prog 40 #[.agg #[.bool a0_0, .string a0_1, .int .i64 a0_2]] w fun e w' => e = .returned (.agg #[.bool r1, .string r2, .int .i64 r3]) ∧ Below w.heap.size w w' := by
  have hu23 := Tryd.underlying23
  have HB := Aside0.mk (Below.refl w.heap.size w)
  have H : ((dec_Norm.f (!a0_0) a0_1 a0_2).bind fun bt372 => (some (bt372.1, bt372.2.1, bt372.2.2))) = some (r1, r2, r3) := h
  clear h
  obtain ⟨⟨t372, t373, t374⟩, A20, H⟩ := Option.bind_eq_some_iff.mp H
  (try dsimp -simprocs only at H)
  have A2 := Aside0.mk A20
  clear A20
  simp only [Option.some.injEq, Prod.mk.injEq] at H
  obtain ⟨rfl, rfl, rfl⟩ := H
  go_enter Tryd.func40, Tryd.ntmps40
  go_wp2_with (first | (refine be_ 1 #[.bool a0_0, .string a0_1, .int .i64 a0_2] 23 ?_; intro gb370 hg w3 hbox hb; have BK370 := Aside0.mk (hbox); have GW370 := ge_ hg HB; have GE370 := ge_ hg HB; replace HB := hbs_ HB hb; clear hb hbox hg) | (refine be_ 2 #[.bool false, .string (⟨#[]⟩ : ByteArray), .int .i64 0] 23 ?_; intro gb371 hg w4 hbox hb; have BK371 := Aside0.mk (hbox); have GW371 := ge_ hg HB; have GE371 := ge_ hg HB; replace HB := hbs_ HB hb; have NB370_371 := nb_ hg BK370; have NB371_370 := nc_ hg BK370; replace BK370 := bkb_ BK370 hb; clear hb hbox hg; have hnb5 := NB370_371.out; have hnc5 := NB371_370.out; obtain ⟨⟨hcz6_0, hcz6_1, hcz6_2⟩, hfz6_0, hfz6_1, hfz6_2⟩ := ce3 BK370) | ((with_reducible refine gate_callee (f := 18) rfl ?_); refine goesL_ (some 8) rfl rfl Tryd.func18 (by kernel_rfl) rfl #[.agg #[.bool (!a0_0), .string a0_1, .int .i64 a0_2]] rfl MP ?_; (with_reducible refine (dec_Norm.calls (!a0_0) a0_1 a0_2 t372 t373 t374 _ A2.out).mono ?_); rintro e w7 ⟨rfl, hb⟩; refine ⟨_, rfl, ?_⟩; replace BK370 := Aside0.mk (blk_below (g := gb370) (o := .cells #[.bool (!a0_0), .string a0_1, .int .i64 a0_2] 23 (0, 0)) (BP BK370) hb); replace BK371 := Aside0.mk (blk_below (g := gb371) (o := .cells #[.bool false, .string (⟨#[]⟩ : ByteArray), .int .i64 0] 23 (0, 0)) (by (with_reducible repeat (first | refine blk_drewN ?_ _ | refine blk_drew ?_ | refine blk_alloc ?_ _)); refine blk_far ?_ NB371_370.out _; (with_reducible repeat (first | refine blk_drewN ?_ _ | refine blk_drew ?_ | refine blk_alloc ?_ _)); exact BK371.out) hb); replace HB := hbs_ HB hb; (try clear hb); (try clear hb2); (try clear hk); (try clear hi); obtain ⟨⟨hcz8_0, hcz8_1, hcz8_2⟩, hfz8_0, hfz8_1, hfz8_2⟩ := ce3 BK371))
  refine bodyPost_ret (results_cell_row rfl _ _ gb371 23 #[.bool t372, .string t373, .int .i64 t374] (0, 0) _ rfl (BP BK371) Tryd.underlying23 rfl (by kernel_rfl)) rfl ?_
  exact ⟨ER, BL HB⟩
end Go.Proofs.YtbjaiphfehnncaaDoor.Px
end
section
namespace Go.Proofs.YtbjaiphfehnncaaDoor.Px
open Fig Go.RowKit Go.Proofs.YtbjaiphfehnncaaDoorW.PrintWords Go.Proofs.YtbjaiphfehnncaaDoorW.PrintLast Go.Proofs.YtbjaiphfehnncaaDoorW.PrintMore
attribute [local go_sem] max2_int min2_int max_two min_two max_three min_three max_four min_four   -- for this text's walks alone
attribute [local go_sem] fieldA23_0 fieldA23_1 fieldA23_2
def arith_Scale.f (a0_0 : Bool) (a0_1 : ByteArray) (a0_2 : Int) (a1 : Int) : Option (Bool × ByteArray × Int) := (dec_Norm.f a0_0 a0_1 (wrap64 (a0_2 + a1))).bind fun bt377 => (some (bt377.1, bt377.2.1, bt377.2.2))
set_option maxHeartbeats 8000000 in
set_option maxRecDepth 100000 in
theorem arith_Scale.calls (a0_0 : Bool) (a0_1 : ByteArray) (a0_2 : Int) (a1 : Int) (r1 : Bool) (r2 : ByteArray) (r3 : Int) (w : World) (h : arith_Scale.f a0_0 a0_1 a0_2 a1 = some (r1, r2, r3)) :
    Calls Tryd.prog 51 #[.agg #[.bool a0_0, .string a0_1, .int .i64 a0_2], .int .i64 a1] w fun e w' => e = .returned (.agg #[.bool r1, .string r2, .int .i64 r3]) ∧ Below w.heap.size w w' := by
  have hu23 := Tryd.underlying23
  have HB := Aside0.mk (Below.refl w.heap.size w)
  have H : ((dec_Norm.f a0_0 a0_1 (wrap64 (a0_2 + a1))).bind fun bt377 => (some (bt377.1, bt377.2.1, bt377.2.2))) = some (r1, r2, r3) := h
  clear h
  obtain ⟨⟨t377, t378, t379⟩, A30, H⟩ := Option.bind_eq_some_iff.mp H
  (try dsimp -simprocs only at H)
  have A3 := Aside0.mk A30
  clear A30
  simp only [Option.some.injEq, Prod.mk.injEq] at H
  obtain ⟨rfl, rfl, rfl⟩ := H
  go_enter Tryd.func51, Tryd.ntmps51
  go_wp2_with (first | (refine be_ 2 #[.bool a0_0, .string a0_1, .int .i64 a0_2] 23 ?_; intro gb375 hg w4 hbox hb; have BK375 := Aside0.mk (hbox); have GW375 := ge_ hg HB; have GE375 := ge_ hg HB; replace HB := hbs_ HB hb; clear hb hbox hg) | (refine be_ 4 #[.bool false, .string (⟨#[]⟩ : ByteArray), .int .i64 0] 23 ?_; intro gb376 hg w5 hbox hb; have BK376 := Aside0.mk (hbox); have GW376 := ge_ hg HB; have GE376 := ge_ hg HB; replace HB := hbs_ HB hb; have NB375_376 := nb_ hg BK375; have NB376_375 := nc_ hg BK375; replace BK375 := bkb_ BK375 hb; clear hb hbox hg; have hnb6 := NB375_376.out; have hnc6 := NB376_375.out; obtain ⟨⟨hcz7_0, hcz7_1, hcz7_2⟩, hfz7_0, hfz7_1, hfz7_2⟩ := ce3 BK375) | ((with_reducible refine gate_callee (f := 18) rfl ?_); refine goesL_ (some 11) rfl rfl Tryd.func18 (by kernel_rfl) rfl #[.agg #[.bool a0_0, .string a0_1, .int .i64 (wrap64 (a0_2 + a1))]] rfl MP ?_; (with_reducible refine (dec_Norm.calls a0_0 a0_1 (wrap64 (a0_2 + a1)) t377 t378 t379 _ A3.out).mono ?_); rintro e w8 ⟨rfl, hb⟩; refine ⟨_, rfl, ?_⟩; replace BK375 := Aside0.mk (blk_below (g := gb375) (o := .cells #[.bool a0_0, .string a0_1, .int .i64 (wrap64 (a0_2 + a1))] 23 (0, 0)) (BP BK375) hb); replace BK376 := Aside0.mk (blk_below (g := gb376) (o := .cells #[.bool false, .string (⟨#[]⟩ : ByteArray), .int .i64 0] 23 (0, 0)) (by (with_reducible repeat (first | refine blk_drewN ?_ _ | refine blk_drew ?_ | refine blk_alloc ?_ _)); refine blk_far ?_ NB376_375.out _; (with_reducible repeat (first | refine blk_drewN ?_ _ | refine blk_drew ?_ | refine blk_alloc ?_ _)); exact BK376.out) hb); replace HB := hbs_ HB hb; (try clear hb); (try clear hb2); (try clear hk); (try clear hi); obtain ⟨⟨hcz9_0, hcz9_1, hcz9_2⟩, hfz9_0, hfz9_1, hfz9_2⟩ := ce3 BK376))
  refine bodyPost_ret (results_cell_row rfl _ _ gb376 23 #[.bool t377, .string t378, .int .i64 t379] (0, 0) _ rfl (BP BK376) Tryd.underlying23 rfl (by kernel_rfl)) rfl ?_
  exact ⟨ER, BL HB⟩
end Go.Proofs.YtbjaiphfehnncaaDoor.Px
end
section
namespace Go.Proofs.YtbjaiphfehnncaaDoor.Px
open Fig Go.RowKit Go.Proofs.YtbjaiphfehnncaaDoorW.PrintWords Go.Proofs.YtbjaiphfehnncaaDoorW.PrintLast Go.Proofs.YtbjaiphfehnncaaDoorW.PrintMore
attribute [local go_sem] max2_int min2_int max_two min_two max_three min_three max_four min_four   -- for this text's walks alone
attribute [local go_sem high] eqA23
attribute [local go_sem] fieldA23_0 fieldA23_1 fieldA23_2
def figureheadlaw06_answers.f (k : Nat)  : Option (Bool) := (arith_Sub.f false (⟨#[49]⟩ : ByteArray) 0 false (⟨#[50, 53]⟩ : ByteArray) (-2)).bind fun bt382 => (if (!bt382.1 && (bt382.2.1.toList == ([55, 53] : List UInt8) && (bt382.2.2 == (-2)))) = true then ((arith_Mul.f k false (⟨#[50, 53]⟩ : ByteArray) (-2) false (⟨#[50, 53]⟩ : ByteArray) (-2)).bind fun bt385 => (if (!bt385.1 && (bt385.2.1.toList == ([54, 50, 53] : List UInt8) && (bt385.2.2 == (-4)))) = true then ((arith_Scale.f false (⟨#[50, 53]⟩ : ByteArray) (-2) 2).bind fun bt388 => (if (!bt388.1 && (bt388.2.1.toList == ([50, 53] : List UInt8) && (bt388.2.2 == 0))) = true then ((arith_Neg.f false (⟨#[49]⟩ : ByteArray) 0).bind fun bt391 => (some bt391.1)) else (some false))) else (some false))) else (some false))
theorem figureheadlaw06_answers.mono : ∀ k, LeO (figureheadlaw06_answers.f k ) (figureheadlaw06_answers.f (k + 1) ) := by
  intro  k
  unfold figureheadlaw06_answers.f
  repeat' first
      | (with_reducible exact arith_Mul.mono _ _ _ _ _ _ _)
      | (with_reducible exact LeO.refl _)
      | (with_reducible exact LeO.none _)
      | (with_reducible refine LeO.ite ?_ ?_)
      | (with_reducible refine LeO.bind ?_ (fun _ => ?_))
      | exact arith_Mul.mono _ _ _ _ _ _ _
      | exact LeO.none _
      | refine LeO.ite ?_ ?_
      | refine LeO.bind ?_ (fun _ => ?_)
set_option maxHeartbeats 8000000 in
set_option maxRecDepth 100000 in
theorem figureheadlaw06_answers.calls (k : Nat)  (r : Bool) (w : World) (hG : Fig.Glob w) (HT : Aside0 (r = true)) (h : figureheadlaw06_answers.f k  = some r) :
    Calls Tryd.prog 33 #[] w fun e w' => e = .returned (.bool r) ∧ Below w.heap.size w w' := by
  have hu23 := Tryd.underlying23
  have HG := Aside0.mk hG
  clear hG
  have HB := Aside0.mk (Below.refl w.heap.size w)
  have H : ((arith_Sub.f false (⟨#[49]⟩ : ByteArray) 0 false (⟨#[50, 53]⟩ : ByteArray) (-2)).bind fun bt382 => (if (!bt382.1 && (bt382.2.1.toList == ([55, 53] : List UInt8) && (bt382.2.2 == (-2)))) = true then ((arith_Mul.f k false (⟨#[50, 53]⟩ : ByteArray) (-2) false (⟨#[50, 53]⟩ : ByteArray) (-2)).bind fun bt385 => (if (!bt385.1 && (bt385.2.1.toList == ([54, 50, 53] : List UInt8) && (bt385.2.2 == (-4)))) = true then ((arith_Scale.f false (⟨#[50, 53]⟩ : ByteArray) (-2) 2).bind fun bt388 => (if (!bt388.1 && (bt388.2.1.toList == ([50, 53] : List UInt8) && (bt388.2.2 == 0))) = true then ((arith_Neg.f false (⟨#[49]⟩ : ByteArray) 0).bind fun bt391 => (some bt391.1)) else (some false))) else (some false))) else (some false))) = some r := h
  clear h
  obtain ⟨⟨t382, t383, t384⟩, A10, H⟩ := Option.bind_eq_some_iff.mp H
  (try dsimp -simprocs only at H)
  have A1 := Aside0.mk A10
  clear A10
  by_cases c2 : (!t382 && (t383.toList == ([55, 53] : List UInt8) && (t384 == (-2)))) = true
  · rw [if_pos c2] at H
    have c2b0 : (!t382 && (t383.toList == ([55, 53] : List UInt8) && (t384 == (-2)))) = true := c2
    clear c2
    obtain ⟨⟨t385, t386, t387⟩, A30, H⟩ := Option.bind_eq_some_iff.mp H
    (try dsimp -simprocs only at H)
    have A3 := Aside0.mk A30
    clear A30
    by_cases c4 : (!t385 && (t386.toList == ([54, 50, 53] : List UInt8) && (t387 == (-4)))) = true
    · rw [if_pos c4] at H
      have c4b0 : (!t385 && (t386.toList == ([54, 50, 53] : List UInt8) && (t387 == (-4)))) = true := c4
      clear c4
      obtain ⟨⟨t388, t389, t390⟩, A50, H⟩ := Option.bind_eq_some_iff.mp H
      (try dsimp -simprocs only at H)
      have A5 := Aside0.mk A50
      clear A50
      by_cases c6 : (!t388 && (t389.toList == ([50, 53] : List UInt8) && (t390 == 0))) = true
      · rw [if_pos c6] at H
        have c6b0 : (!t388 && (t389.toList == ([50, 53] : List UInt8) && (t390 == 0))) = true := c6
        clear c6
        obtain ⟨⟨t391, t392, t393⟩, A70, H⟩ := Option.bind_eq_some_iff.mp H
        (try dsimp -simprocs only at H)
        have A7 := Aside0.mk A70
        clear A70
        obtain rfl := Option.some.inj H
        go_enter Tryd.func33, Tryd.ntmps33
        go_wp2_with (first | (refine be_ 1 #[.bool false, .string (⟨#[]⟩ : ByteArray), .int .i64 0] 23 ?_; intro gb380 hg w8 hbox hb; have BK380 := Aside0.mk (hbox); have GW380 := ge_ hg HB; have GE380 := ge_ hg HB; replace HB := hbs_ HB hb; clear hb hbox hg) | (refine be_ 2 #[.bool false, .string (⟨#[]⟩ : ByteArray), .int .i64 0] 23 ?_; intro gb381 hg w9 hbox hb; have BK381 := Aside0.mk (hbox); have GW381 := ge_ hg HB; have GE381 := ge_ hg HB; replace HB := hbs_ HB hb; have NB380_381 := nb_ hg BK380; have NB381_380 := nc_ hg BK380; replace BK380 := bkb_ BK380 hb; clear hb hbox hg; have hnb10 := NB380_381.out; have hnc10 := NB381_380.out; obtain ⟨⟨hcz11_0, hcz11_1, hcz11_2⟩, hfz11_0, hfz11_1, hfz11_2⟩ := ce3 BK380; obtain ⟨⟨hcz12_0, hcz12_1, hcz12_2⟩, hfz12_0, hfz12_1, hfz12_2⟩ := ce3 BK381) | ((with_reducible refine gate_callee (f := 36) rfl ?_); refine goesL_ (some 7) rfl rfl Tryd.func36 (by kernel_rfl) rfl #[.agg #[.bool false, .string (⟨#[49]⟩ : ByteArray), .int .i64 0], .agg #[.bool false, .string (⟨#[50, 53]⟩ : ByteArray), .int .i64 (-2)]] rfl MP ?_; (with_reducible refine (arith_Sub.calls false (⟨#[49]⟩ : ByteArray) 0 false (⟨#[50, 53]⟩ : ByteArray) (-2) t382 t383 t384 _ ?side1 A1.out).mono ?_); (case side1 => exact Fig.Glob.below HG.out (BL HB)); rintro e w13 ⟨rfl, hb⟩; refine ⟨_, rfl, ?_⟩; replace BK380 := Aside0.mk (blk_below (g := gb380) (o := .cells #[.bool false, .string (⟨#[49]⟩ : ByteArray), .int .i64 0] 23 (0, 0)) (by (with_reducible repeat (first | refine blk_drewN ?_ _ | refine blk_drew ?_ | refine blk_alloc ?_ _)); refine blk_far ?_ NB380_381.out _; (with_reducible repeat (first | refine blk_drewN ?_ _ | refine blk_drew ?_ | refine blk_alloc ?_ _)); refine blk_far ?_ NB380_381.out _; (with_reducible repeat (first | refine blk_drewN ?_ _ | refine blk_drew ?_ | refine blk_alloc ?_ _)); refine blk_far ?_ NB380_381.out _; (with_reducible repeat (first | refine blk_drewN ?_ _ | refine blk_drew ?_ | refine blk_alloc ?_ _)); refine blk_put (cs := #[.bool false, .string (⟨#[49]⟩ : ByteArray), .int .i64 0]) ?_ 2 _ rfl; (with_reducible repeat (first | refine blk_drewN ?_ _ | refine blk_drew ?_ | refine blk_alloc ?_ _)); refine blk_put (cs := #[.bool false, .string (⟨#[]⟩ : ByteArray), .int .i64 0]) ?_ 1 _ rfl; (with_reducible repeat (first | refine blk_drewN ?_ _ | refine blk_drew ?_ | refine blk_alloc ?_ _)); refine blk_put (cs := #[.bool false, .string (⟨#[]⟩ : ByteArray), .int .i64 0]) ?_ 0 _ rfl; (with_reducible repeat (first | refine blk_drewN ?_ _ | refine blk_drew ?_ | refine blk_alloc ?_ _)); exact BK380.out) hb); replace BK381 := Aside0.mk (blk_below (g := gb381) (o := .cells #[.bool false, .string (⟨#[50, 53]⟩ : ByteArray), .int .i64 (-2)] 23 (0, 0)) (by (with_reducible repeat (first | refine blk_drewN ?_ _ | refine blk_drew ?_ | refine blk_alloc ?_ _)); refine blk_put (cs := #[.bool false, .string (⟨#[50, 53]⟩ : ByteArray), .int .i64 0]) ?_ 2 _ rfl; (with_reducible repeat (first | refine blk_drewN ?_ _ | refine blk_drew ?_ | refine blk_alloc ?_ _)); refine blk_put (cs := #[.bool false, .string (⟨#[]⟩ : ByteArray), .int .i64 0]) ?_ 1 _ rfl; (with_reducible repeat (first | refine blk_drewN ?_ _ | refine blk_drew ?_ | refine blk_alloc ?_ _)); refine blk_put (cs := #[.bool false, .string (⟨#[]⟩ : ByteArray), .int .i64 0]) ?_ 0 _ rfl; (with_reducible repeat (first | refine blk_drewN ?_ _ | refine blk_drew ?_ | refine blk_alloc ?_ _)); refine blk_far ?_ NB381_380.out _; (with_reducible repeat (first | refine blk_drewN ?_ _ | refine blk_drew ?_ | refine blk_alloc ?_ _)); refine blk_far ?_ NB381_380.out _; (with_reducible repeat (first | refine blk_drewN ?_ _ | refine blk_drew ?_ | refine blk_alloc ?_ _)); refine blk_far ?_ NB381_380.out _; (with_reducible repeat (first | refine blk_drewN ?_ _ | refine blk_drew ?_ | refine blk_alloc ?_ _)); exact BK381.out) hb); replace HB := hbs_ HB hb; (try clear hb); (try clear hb2); (try clear hk); (try clear hi); obtain ⟨⟨hcz14_0, hcz14_1, hcz14_2⟩, hfz14_0, hfz14_1, hfz14_2⟩ := ce3 BK381) | ((with_reducible refine gate_dst (N := 13) rfl ?_); (refine gate_guard (by rfl) ?_; dsimp only); (with_reducible refine gate_callee (f := 38) rfl ?_); refine goesL_ (some 13) rfl rfl Tryd.func38 (by kernel_rfl) rfl #[.agg #[.bool false, .string (⟨#[50, 53]⟩ : ByteArray), .int .i64 (-2)], .agg #[.bool false, .string (⟨#[50, 53]⟩ : ByteArray), .int .i64 (-2)]] rfl MP ?_; (with_reducible refine (arith_Mul.calls k false (⟨#[50, 53]⟩ : ByteArray) (-2) false (⟨#[50, 53]⟩ : ByteArray) (-2) t385 t386 t387 _ A3.out).mono ?_); rintro e w15 ⟨rfl, hb⟩; refine ⟨_, rfl, ?_⟩; replace BK380 := bkb_ BK380 hb; replace BK381 := bkb_ BK381 hb; replace HB := hbs_ HB hb; (try clear hb); (try clear hb2); (try clear hk); (try clear hi); obtain ⟨⟨hcz16_0, hcz16_1, hcz16_2⟩, hfz16_0, hfz16_1, hfz16_2⟩ := ce3 BK381) | ((with_reducible refine gate_dst (N := 19) rfl ?_); (refine gate_guard (by rfl) ?_; dsimp only); (with_reducible refine gate_callee (f := 51) rfl ?_); refine goesL_ (some 19) rfl rfl Tryd.func51 (by kernel_rfl) rfl #[.agg #[.bool false, .string (⟨#[50, 53]⟩ : ByteArray), .int .i64 (-2)], .int .i64 2] rfl MP ?_; (with_reducible refine (arith_Scale.calls false (⟨#[50, 53]⟩ : ByteArray) (-2) 2 t388 t389 t390 _ A5.out).mono ?_); rintro e w17 ⟨rfl, hb⟩; refine ⟨_, rfl, ?_⟩; replace BK380 := bkb_ BK380 hb; replace BK381 := bkb_ BK381 hb; replace HB := hbs_ HB hb; (try clear hb); (try clear hb2); (try clear hk); (try clear hi); obtain ⟨⟨hcz18_0, hcz18_1, hcz18_2⟩, hfz18_0, hfz18_1, hfz18_2⟩ := ce3 BK380) | ((with_reducible refine gate_dst (N := 25) rfl ?_); (refine gate_guard (by rfl) ?_; dsimp only); (with_reducible refine gate_callee (f := 40) rfl ?_); refine goesL_ (some 25) rfl rfl Tryd.func40 (by kernel_rfl) rfl #[.agg #[.bool false, .string (⟨#[49]⟩ : ByteArray), .int .i64 0]] rfl MP ?_; (with_reducible refine (arith_Neg.calls false (⟨#[49]⟩ : ByteArray) 0 t391 t392 t393 _ A7.out).mono ?_); rintro e w19 ⟨rfl, hb⟩; refine ⟨_, rfl, ?_⟩; replace BK380 := bkb_ BK380 hb; replace BK381 := bkb_ BK381 hb; replace HB := hbs_ HB hb; (try clear hb); (try clear hb2); (try clear hk); (try clear hi)))
        go_ret
        exact ⟨ER, BL HB⟩
      rw [if_neg c6] at H
      have c6b0 : (!t388 && (t389.toList == ([50, 53] : List UInt8) && (t390 == 0))) = false := by simpa using c6
      clear c6
      exact absurd ((Option.some.inj H).trans HT.out) (by decide)
    rw [if_neg c4] at H
    have c4b0 : (!t385 && (t386.toList == ([54, 50, 53] : List UInt8) && (t387 == (-4)))) = false := by simpa using c4
    clear c4
    exact absurd ((Option.some.inj H).trans HT.out) (by decide)
  rw [if_neg c2] at H
  have c2b0 : (!t382 && (t383.toList == ([55, 53] : List UInt8) && (t384 == (-2)))) = false := by simpa using c2
  clear c2
  exact absurd ((Option.some.inj H).trans HT.out) (by decide)
end Go.Proofs.YtbjaiphfehnncaaDoor.Px
end
section
namespace Go.Proofs.YtbjaiphfehnncaaDoor.Px
open Fig Go.RowKit Go.Proofs.YtbjaiphfehnncaaDoorW.PrintWords Go.Proofs.YtbjaiphfehnncaaDoorW.PrintLast Go.Proofs.YtbjaiphfehnncaaDoorW.PrintMore
attribute [local go_sem] max2_int min2_int max_two min_two max_three min_three max_four min_four   -- for this text's walks alone
attribute [local go_sem] fieldA23_0 fieldA23_1 fieldA23_2
def arith_Abs.f (a0_0 : Bool) (a0_1 : ByteArray) (a0_2 : Int) : Option (Bool × ByteArray × Int) := (dec_Norm.f false a0_1 a0_2).bind fun bt573 => (some (bt573.1, bt573.2.1, bt573.2.2))
set_option maxHeartbeats 8000000 in
set_option maxRecDepth 100000 in
theorem arith_Abs.calls (a0_0 : Bool) (a0_1 : ByteArray) (a0_2 : Int) (r1 : Bool) (r2 : ByteArray) (r3 : Int) (w : World) (h : arith_Abs.f a0_0 a0_1 a0_2 = some (r1, r2, r3)) :
    Calls Tryd.prog 41 #[.agg #[.bool a0_0, .string a0_1, .int .i64 a0_2]] w fun e w' => e = .returned (.agg #[.bool r1, .string r2, .int .i64 r3]) ∧ Below w.heap.size w w' := by
  have hu23 := Tryd.underlying23
  have HB := Aside0.mk (Below.refl w.heap.size w)
  have H : ((dec_Norm.f false a0_1 a0_2).bind fun bt573 => (some (bt573.1, bt573.2.1, bt573.2.2))) = some (r1, r2, r3) := h
  clear h
  obtain ⟨⟨t573, t574, t575⟩, A20, H⟩ := Option.bind_eq_some_iff.mp H
  (try dsimp -simprocs only at H)
  have A2 := Aside0.mk A20
  clear A20
  simp only [Option.some.injEq, Prod.mk.injEq] at H
  obtain ⟨rfl, rfl, rfl⟩ := H
  go_enter Tryd.func41, Tryd.ntmps41
  go_wp2_with (first | (refine be_ 1 #[.bool a0_0, .string a0_1, .int .i64 a0_2] 23 ?_; intro gb571 hg w3 hbox hb; have BK571 := Aside0.mk (hbox); have GW571 := ge_ hg HB; have GE571 := ge_ hg HB; replace HB := hbs_ HB hb; clear hb hbox hg) | (refine be_ 2 #[.bool false, .string (⟨#[]⟩ : ByteArray), .int .i64 0] 23 ?_; intro gb572 hg w4 hbox hb; have BK572 := Aside0.mk (hbox); have GW572 := ge_ hg HB; have GE572 := ge_ hg HB; replace HB := hbs_ HB hb; have NB571_572 := nb_ hg BK571; have NB572_571 := nc_ hg BK571; replace BK571 := bkb_ BK571 hb; clear hb hbox hg; have hnb5 := NB571_572.out; have hnc5 := NB572_571.out; obtain ⟨⟨hcz6_0, hcz6_1, hcz6_2⟩, hfz6_0, hfz6_1, hfz6_2⟩ := ce3 BK571) | ((with_reducible refine gate_callee (f := 18) rfl ?_); refine goesL_ (some 5) rfl rfl Tryd.func18 (by kernel_rfl) rfl #[.agg #[.bool false, .string a0_1, .int .i64 a0_2]] rfl MP ?_; (with_reducible refine (dec_Norm.calls false a0_1 a0_2 t573 t574 t575 _ A2.out).mono ?_); rintro e w7 ⟨rfl, hb⟩; refine ⟨_, rfl, ?_⟩; replace BK571 := Aside0.mk (blk_below (g := gb571) (o := .cells #[.bool false, .string a0_1, .int .i64 a0_2] 23 (0, 0)) (BP BK571) hb); replace BK572 := Aside0.mk (blk_below (g := gb572) (o := .cells #[.bool false, .string (⟨#[]⟩ : ByteArray), .int .i64 0] 23 (0, 0)) (by (with_reducible repeat (first | refine blk_drewN ?_ _ | refine blk_drew ?_ | refine blk_alloc ?_ _)); refine blk_far ?_ NB572_571.out _; (with_reducible repeat (first | refine blk_drewN ?_ _ | refine blk_drew ?_ | refine blk_alloc ?_ _)); exact BK572.out) hb); replace HB := hbs_ HB hb; (try clear hb); (try clear hb2); (try clear hk); (try clear hi); obtain ⟨⟨hcz8_0, hcz8_1, hcz8_2⟩, hfz8_0, hfz8_1, hfz8_2⟩ := ce3 BK572))
  refine bodyPost_ret (results_cell_row rfl _ _ gb572 23 #[.bool t573, .string t574, .int .i64 t575] (0, 0) _ rfl (BP BK572) Tryd.underlying23 rfl (by kernel_rfl)) rfl ?_
  exact ⟨ER, BL HB⟩
end Go.Proofs.YtbjaiphfehnncaaDoor.Px
end
