/- The functions that the law GridOrdersUpto reaches, told as plain functions, with what is proved of them, and the words they need (part 5). -/
import Derived.Test.YtcmgdjnjmobkoaaGreatDoorCGridOrdersUpto0
import Derived.Test.YtcmgdjnjmobkoaaGreatDoorCGridOrdersUpto2
import Derived.Test.YtcmgdjnjmobkoaaGreatDoorCGridOrdersUpto4
import Derived.Test.YtcmgdjnjmobkoaaGreatDoorCGridOrdersUpto3
import Derived.Test.YtcmgdjnjmobkoaaGreatDoorCGridOrdersUpto1
import Derived.SizedLaws
import Derived.ChangeSlices
import Derived.LaidMore
import Derived.LaidHandle
import Derived.LaidSub
import Derived.OpenShut
import Derived.ChangeSame
import Derived.Lay
import Derived.Lib.LaidTab
import Derived.Test.YtcmgdjnjmobkoaaGreatDoorRows
import Derived.Stop.LaidErr
import Derived.Lib.SmallJoins
import Derived.ChangeMaps5
set_option linter.unusedVariables false
set_option linter.unusedSimpArgs false
namespace Go.Proofs.YtcmgdjnjmobkoaaGreatDoor.Px
open Fig Go.RowKit Go.Proofs.YtcmgdjnjmobkoaaGreatDoorW.PrintWords Go.Proofs.YtcmgdjnjmobkoaaGreatDoorW.PrintLast Go.Proofs.YtcmgdjnjmobkoaaGreatDoorW.PrintMore
attribute [local go_sem] vK vO uE uD yZ yY vM vN
attribute [local go_sem] qJ qW qM qX qV qU qT qP qH qY qK qQ qO qS
def vF.f (a0_0 : Bool) (a0_1 : ByteArray) (a0_2 : Int) (a1_0 : Bool) (a1_1 : ByteArray) (a1_2 : Int) : Option (Bool × ByteArray × Int) := (qG.f a0_0 a0_1 a0_2).bind fun t665 => ((vG.f t665 (wrap64 (a0_2 - (mn a0_2 a1_2)))).bind fun t668 => ((qG.f a1_0 a1_1 a1_2).bind fun t671 => ((vG.f t671 (wrap64 (a1_2 - (mn a0_2 a1_2)))).bind fun t674 => (if (a0_0 == a1_0) = true then ((vX.f t668 t674).bind fun t677 => ((qA.f a0_0 t677 (mn a0_2 a1_2)).bind fun bt680 => (some (bt680.1, bt680.2.1, bt680.2.2)))) else ((xZ.f t668 t674).bind fun bt683 => (if bt683.2 = true then ((qA.f a0_0 bt683.1 (mn a0_2 a1_2)).bind fun bt687 => (some (bt687.1, bt687.2.1, bt687.2.2))) else ((xZ.f t674 t668).bind fun bt690 => ((qA.f a1_0 bt690.1 (mn a0_2 a1_2)).bind fun bt694 => (some (bt694.1, bt694.2.1, bt694.2.2))))))))))
def vF.T2 : Bool × List (List Nat × List Nat) := (true, [([], []), ([0], [0]), ([], []), ([2], [2]), ([], []), ([3, 4], [3, 4]), ([1, 5, 1], [1, 5]), ([], []), ([7, 6], [7]), ([], []), ([9], [9]), ([], []), ([10, 11], [10, 11]), ([8, 12, 8], [8, 12]), ([6, 13, 0, 1, 2, 3, 4, 5, 6], [6]), ([13, 14, 0, 1, 2, 3, 4, 5, 6, 7, 8, 9, 10, 11, 12, 13, 14], [13])])
def vF.B2 : List Nat := [0, 1, 0, 4, 0, 28, 63, 0, 255, 0, 512, 0, 3584, 8191, 16383, 32767]
theorem vF.tab2 : zaf .any (zeS Tryz.f98 2) = vF.T2 := by kernel_rfl
theorem vF.bits2 : zbf vF.T2.2 vF.B2 = true := by kernel_rfl
def vF.T4 : Bool × List (List Nat × List Nat) := (true, [([], []), ([0], [0]), ([], []), ([], []), ([2, 3], [2, 3]), ([], []), ([1, 4, 5, 4], [1, 4, 5]), ([6, 6, 0, 1, 2, 3, 4, 5, 6], [6])])
def vF.B4 : List Nat := [0, 1, 0, 0, 12, 0, 63, 127]
theorem vF.tab4 : zaf .any (zeS Tryz.f98 4) = vF.T4 := by kernel_rfl
theorem vF.bits4 : zbf vF.T4.2 vF.B4 = true := by kernel_rfl
set_option maxHeartbeats 8000000 in
set_option maxRecDepth 100000 in
theorem vF.calls (a0_0 : Bool) (a0_1 : ByteArray) (a0_2 : Int) (a1_0 : Bool) (a1_1 : ByteArray) (a1_2 : Int) (r1 : Bool) (r2 : ByteArray) (r3 : Int) (w : World) (hG : Fig.Glob w) (h : vF.f a0_0 a0_1 a0_2 a1_0 a1_1 a1_2 = some (r1, r2, r3)) :
  Calls Tryz.prog 98 #[.agg #[.bool a0_0, .string a0_1, .int .i64 a0_2], .agg #[.bool a1_0, .string a1_1, .int .i64 a1_2]] w fun e w' => e = .returned (.agg #[.bool r1, .string r2, .int .i64 r3]) ∧ Below w.heap.size w w' := by
 have hu23 := Tryz.underlying23
 have HG := K_ hG
 clear hG
 have HB := K_ (Below.refl w.heap.size w)
 have H : ((qG.f a0_0 a0_1 a0_2).bind fun t665 => ((vG.f t665 (wrap64 (a0_2 - (mn a0_2 a1_2)))).bind fun t668 => ((qG.f a1_0 a1_1 a1_2).bind fun t671 => ((vG.f t671 (wrap64 (a1_2 - (mn a0_2 a1_2)))).bind fun t674 => (if (a0_0 == a1_0) = true then ((vX.f t668 t674).bind fun t677 => ((qA.f a0_0 t677 (mn a0_2 a1_2)).bind fun bt680 => (some (bt680.1, bt680.2.1, bt680.2.2)))) else ((xZ.f t668 t674).bind fun bt683 => (if bt683.2 = true then ((qA.f a0_0 bt683.1 (mn a0_2 a1_2)).bind fun bt687 => (some (bt687.1, bt687.2.1, bt687.2.2))) else ((xZ.f t674 t668).bind fun bt690 => ((qA.f a1_0 bt690.1 (mn a0_2 a1_2)).bind fun bt694 => (some (bt694.1, bt694.2.1, bt694.2.2))))))))))) = some (r1, r2, r3) := h
 clear h
 obtain ⟨ji3, hji3⟩ : ∃ j_ : Int, (mn a0_2 a1_2) = j_ := ⟨_, rfl⟩
 replace H : ((qG.f a0_0 a0_1 a0_2).bind fun t665 => ((vG.f t665 (wrap64 (a0_2 - (ji3)))).bind fun t668 => ((qG.f a1_0 a1_1 a1_2).bind fun t671 => ((vG.f t671 (wrap64 (a1_2 - (ji3)))).bind fun t674 => (if (a0_0 == a1_0) = true then ((vX.f t668 t674).bind fun t677 => ((qA.f a0_0 t677 (ji3)).bind fun bt680 => (some (bt680.1, bt680.2.1, bt680.2.2)))) else ((xZ.f t668 t674).bind fun bt683 => (if bt683.2 = true then ((qA.f a0_0 bt683.1 (ji3)).bind fun bt687 => (some (bt687.1, bt687.2.1, bt687.2.2))) else ((xZ.f t674 t668).bind fun bt690 => ((qA.f a1_0 bt690.1 (ji3)).bind fun bt694 => (some (bt694.1, bt694.2.1, bt694.2.2))))))))))) = some (r1, r2, r3) := by first | (rw [hji3] at H; exact H) | (simp only [hji3] at H ⊢; exact H)
 have hji3_ : (if a1_2 < a0_2 then a1_2 else a0_2) = ji3 := hji3
 obtain ⟨t665, A40, H⟩ := Option.bind_eq_some_iff.mp H
 (try dsimp -simprocs only at H)
 have A4 := K_ A40
 clear A40
 obtain ⟨t668, A50, H⟩ := Option.bind_eq_some_iff.mp H
 (try dsimp -simprocs only at H)
 have A5 := K_ A50
 clear A50
 obtain ⟨t671, A60, H⟩ := Option.bind_eq_some_iff.mp H
 (try dsimp -simprocs only at H)
 have A6 := K_ A60
 clear A60
 obtain ⟨t674, A70, H⟩ := Option.bind_eq_some_iff.mp H
 (try dsimp -simprocs only at H)
 have A7 := K_ A70
 clear A70
 (try have HS2_ := K_ H)
 (try clear H)
 go_enter Tryz.func98, Tryz.ntmps98
 try go_wp2_with (first | (refine be_ 2 #[.bool a0_0, .string a0_1, .int .i64 a0_2] 23 ?_; intro gb662 hg w11 hbox hb; have BK662 := K_ (hbox); have GW662 := ge_ hg HB; have GE662 := ge_ hg HB; replace HB := zE HB hb; clear hb hbox hg) | (refine be_ 3 #[.bool a1_0, .string a1_1, .int .i64 a1_2] 23 ?_; intro gb663 hg w12 hbox hb; have BK663 := K_ (hbox); have GW663 := ge_ hg HB; have GE663 := ge_ hg HB; replace HB := zE HB hb; have NB662_663 := nb_ hg BK662; have NB663_662 := nc_ hg BK662; replace BK662 := zC BK662 hb; clear hb hbox hg) | (refine be_ 4 #[.bool false, .string (⟨#[]⟩ : ByteArray), .int .i64 0] 23 ?_; intro gb664 hg w13 hbox hb; have BK664 := K_ (hbox); have GW664 := ge_ hg HB; have GE664 := ge_ hg HB; replace HB := zE HB hb; have NB662_664 := nb_ hg BK662; have NB664_662 := nc_ hg BK662; replace BK662 := zC BK662 hb; have NB663_664 := nb_ hg BK663; have NB664_663 := nc_ hg BK663; replace BK663 := zC BK663 hb; clear hb hbox hg; have hnb14 := NB662_663.out; have hnc14 := NB663_662.out; have hnb15 := NB662_664.out; have hnc15 := NB664_662.out; obtain ⟨⟨hcz16_0, hcz16_1, hcz16_2⟩, hfz16_0, hfz16_1, hfz16_2⟩ := ce3 BK662; have hnb17 := NB663_664.out; have hnc17 := NB664_663.out; obtain ⟨⟨hcz18_0, hcz18_1, hcz18_2⟩, hfz18_0, hfz18_1, hfz18_2⟩ := ce3 BK663))
 (try (rw [zaI w13]; generalize hq_ : World.drewN w13 _ = w13; replace BK662 := zbM BK662 hq_; replace BK663 := zbM BK663 hq_; replace BK664 := zbM BK664 hq_; replace HB := zeC HB hq_; clear hq_))
 replace BK662 := K_ (zX BK662.out)
 replace BK663 := K_ (zX BK663.out)
 replace BK664 := K_ (zX BK664.out)
 replace HB := K_ (uL HB.out)
 refine vQ (n := 16) (S := fun w' => w'.cell? ⟨gb662, 0, none⟩ = some (.bool a0_0) ∧ w'.cell? ⟨gb662, 1, none⟩ = some (.string a0_1) ∧ w'.cell? ⟨gb662, 2, none⟩ = some (.int .i64 a0_2) ∧ w'.cell? ⟨gb663, 0, none⟩ = some (.bool a1_0) ∧ w'.cell? ⟨gb663, 1, none⟩ = some (.string a1_1) ∧ w'.cell? ⟨gb663, 2, none⟩ = some (.int .i64 a1_2)) (ds := []) #[false, false, false, false, false, false, false, false, false, false, false, false, false, false, false, false] (by kernel_rfl) rfl rfl CE (fun hHeld => ?_); refine zbN vF.tab2 vF.bits2 (fun HT_ HW_ => ?_)
 generalize w13.drew = w19 at BK662 BK663 BK664 HB hHeld ⊢
 refine pu_ 2 (some 19) (bb 16 4) (jQ HT_.out (by kernel_rfl)) ?_
 refine pu_ 4 (some 21) (bb 16 20) (jQ HT_.out (by kernel_rfl)) ?_
 refine pu_ 9 (some 26) (bb 16 532) (jQ HT_.out (by kernel_rfl)) ?_
 refine pu_ 11 (some 28) (bb 16 2580) (jQ HT_.out (by kernel_rfl)) ?_
 refine tk_ 0 (some 17) (bb 16 2581) (zat HT_.out HW_.out (by kernel_rfl)) hHeld ?_
 refine tk_ 3 (some 20) (bb 16 2589) (zat HT_.out HW_.out (by kernel_rfl)) hHeld ?_
 refine pu_ 5 (some 22) (bb 16 2621) (jQ HT_.out (by kernel_rfl)) ?_
 refine tk_ 7 (some 24) (bb 16 2749) (zat HT_.out HW_.out (by kernel_rfl)) hHeld ?_
 refine tk_ 10 (some 27) (bb 16 3773) (zat HT_.out HW_.out (by kernel_rfl)) hHeld ?_
 refine pu_ 12 (some 29) (bb 16 7869) (jQ HT_.out (by kernel_rfl)) ?_
 refine zbk (i := 1) (N := some 18) (bb 16 7871) rfl rfl (zae HT_.out (by kernel_rfl)) (by decide) (fun K hK => ?_)
 refine gq_ Tryz.func76 #[.agg #[.bool a0_0, .string a0_1, .int .i64 a0_2]] ?_
 with_reducible refine (qG.calls a0_0 a0_1 a0_2 t665 _ A4.out).mono ?_
 rintro e w20 ⟨v666, rfl, ho0, hb⟩
 refine ⟨_, rfl, ?_⟩
 have HO667 := K_ (Kd.R_lower ho0 (zP (BL HB)))
 replace BK662 := zC BK662 hb
 replace BK663 := zC BK663 hb
 replace BK664 := zC BK664 hb
 replace HB := zE HB hb
 (try clear hb)
 (try clear hb2)
 (try clear hk)
 (try clear hi)
 (try clear ho0)
 obtain ⟨Ao21, co21, eo21⟩ := Kd.R_slice HO667.out
 (first | subst eo21 | (injection eo21 with f1_ f2_ f3_; have f4_ := f1_.symm; have f5_ := f3_.symm; clear f1_ f2_ f3_; subst f4_; subst f5_))
 refine hK.out _ _ CE (fun hHeld => ?_)
 clear hK K
 refine no_ (some 18) ?_
 refine zbk (i := 6) (N := some 23) (bb 16 7935) rfl rfl (zae HT_.out (by kernel_rfl)) (by decide) (fun K hK => ?_)
 refine zhC Tryz.func74 (by kernel_rfl) rfl #[.slice Ao21 t665.length co21, .int .i64 (wrap64 (a0_2 - (ji3)))] (by rfl) rfl rfl (by (try simp only [List.map_toArray]); (try simp only [List.map_cons]); (try simp only [List.map_nil]); first | done | (simp only [hji3]; rfl) | rfl | (simp only [List.length_drop, List.length_take]; rfl)) ?_
 with_reducible refine (vG.calls _ _ t665 (wrap64 (a0_2 - (ji3))) t668 _ ?side1 ?side2 ?side3 A5.out).mono ?_
 (case side1 => exact Fig.Glob.below HG.out (BL HB))
 (case side2 => exact CB ((Kd.R_reads' HO667.out).2.2))
 (case side3 => exact (Kd.R_reads' HO667.out).2.1)
 rintro e w22 ⟨v669, rfl, ho0, hb⟩
 refine ⟨_, rfl, ?_⟩
 have HO670 := K_ (Kd.R_lower (Kd.R_new' ho0 (Kd.R_lt (RB HO667.out))) (zP (BL HB)))
 replace HO667 := K_ (Kd.R_elder' (RB HO667.out) (Kd.R_base ho0) hb)
 replace BK662 := zC BK662 hb
 replace BK663 := zC BK663 hb
 replace BK664 := zC BK664 hb
 replace HB := zE HB hb
 (try clear hb)
 (try clear hb2)
 (try clear hk)
 (try clear hi)
 (try clear ho0)
 refine hK.out _ _ CE (fun hHeld => ?_)
 clear hK K
 refine no_ (some 23) ?_
 refine zbk (i := 8) (N := some 25) (bb 16 8191) rfl rfl (zae HT_.out (by kernel_rfl)) (by decide) (fun K hK => ?_)
 refine gq_ Tryz.func76 #[.agg #[.bool a1_0, .string a1_1, .int .i64 a1_2]] ?_
 with_reducible refine (qG.calls a1_0 a1_1 a1_2 t671 _ A6.out).mono ?_
 rintro e w23 ⟨v672, rfl, ho0, hb⟩
 refine ⟨_, rfl, ?_⟩
 have HO673 := K_ (Kd.R_lower (Kd.R_new' (Kd.R_new' ho0 (Kd.R_lt (RB HO667.out))) (Kd.R_lt (RB HO670.out))) (zP (BL HB)))
 replace HO667 := K_ (Kd.R_elder' (RB HO667.out) (Kd.R_base ho0) hb)
 replace HO670 := K_ (Kd.R_elder' (RB HO670.out) (Kd.R_base ho0) hb)
 replace BK662 := zC BK662 hb
 replace BK663 := zC BK663 hb
 replace BK664 := zC BK664 hb
 replace HB := zE HB hb
 (try clear hb)
 (try clear hb2)
 (try clear hk)
 (try clear hi)
 (try clear ho0)
 obtain ⟨Ao24, co24, eo24⟩ := Kd.R_slice HO673.out
 (first | subst eo24 | (injection eo24 with f1_ f2_ f3_; have f4_ := f1_.symm; have f5_ := f3_.symm; clear f1_ f2_ f3_; subst f4_; subst f5_))
 refine hK.out _ _ CE (fun hHeld => ?_)
 clear hK K
 refine no_ (some 25) ?_
 refine zbk (i := 13) (N := some 30) (bb 16 16383) rfl rfl (zae HT_.out (by kernel_rfl)) (by decide) (fun K hK => ?_)
 refine zhC Tryz.func74 (by kernel_rfl) rfl #[.slice Ao24 t671.length co24, .int .i64 (wrap64 (a1_2 - (ji3)))] (by rfl) rfl rfl (by (try simp only [List.map_toArray]); (try simp only [List.map_cons]); (try simp only [List.map_nil]); first | done | (simp only [hji3]; rfl) | rfl | (simp only [List.length_drop, List.length_take]; rfl)) ?_
 with_reducible refine (vG.calls _ _ t671 (wrap64 (a1_2 - (ji3))) t674 _ ?side1 ?side2 ?side3 A7.out).mono ?_
 (case side1 => exact Fig.Glob.below HG.out (BL HB))
 (case side2 => exact CB ((Kd.R_reads' HO673.out).2.2))
 (case side3 => exact (Kd.R_reads' HO673.out).2.1)
 rintro e w25 ⟨v675, rfl, ho0, hb⟩
 refine ⟨_, rfl, ?_⟩
 have HO676 := K_ (Kd.R_lower (Kd.R_new' (Kd.R_new' (Kd.R_new' ho0 (Kd.R_lt (RB HO667.out))) (Kd.R_lt (RB HO670.out))) (Kd.R_lt (RB HO673.out))) (zP (BL HB)))
 replace HO667 := K_ (Kd.R_elder' (RB HO667.out) (Kd.R_base ho0) hb)
 replace HO670 := K_ (Kd.R_elder' (RB HO670.out) (Kd.R_base ho0) hb)
 replace HO673 := K_ (Kd.R_elder' (RB HO673.out) (Kd.R_base ho0) hb)
 replace BK662 := zC BK662 hb
 replace BK663 := zC BK663 hb
 replace BK664 := zC BK664 hb
 replace HB := zE HB hb
 (try clear hb)
 (try clear hb2)
 (try clear hk)
 (try clear hi)
 (try clear ho0)
 refine hK.out _ _ CE (fun hHeld => ?_)
 clear hK K
 refine no_ (some 30) ?_
 (try have H := HS2_.out)
 (try clear HS2_)
 by_cases c8 : (a0_0 == a1_0) = true
 ·rw [if_pos c8] at H
  have c8b0 : (a0_0 == a1_0) = true := c8
  (try (have c8b1 : decide (a0_0 = a1_0) = true := by simpa using c8))
  (try (have c8b2 : (a0_0 == a1_0) = true := by simpa using c8))
  clear c8
  obtain ⟨t677, A90, H⟩ := Option.bind_eq_some_iff.mp H
  (try dsimp -simprocs only at H)
  have A9 := K_ A90
  clear A90
  obtain ⟨⟨t680, t681, t682⟩, A100, H⟩ := Option.bind_eq_some_iff.mp H
  (try dsimp -simprocs only at H)
  have A10 := K_ A100
  clear A100
  simp only [Option.some.injEq, Prod.mk.injEq] at H
  obtain ⟨rfl, rfl, rfl⟩ := H
  refine pu_ 14 (some 6) (bb 16 32767) (jQ HT_.out (by kernel_rfl)) ?_
  refine pu_ 15 (some 7) (bb 16 65535) (jQ HT_.out (by kernel_rfl)) ?_
  refine vS (zbi HT_.out (by kernel_rfl)) ?_
  obtain ⟨⟨hcz26_0, hcz26_1, hcz26_2⟩, hfz26_0, hfz26_1, hfz26_2⟩ := ce3 BK662
  obtain ⟨⟨hcz27_0, hcz27_1, hcz27_2⟩, hfz27_0, hfz27_1, hfz27_2⟩ := ce3 BK663
  try go_wp2
  (try (rw [zaI w25]; generalize hq_ : World.drewN w25 _ = w25; replace HO667 : Aside0 (Kd.R (Kd.int .u32) 95 w25 w.heap.size (fun k_ => some k_ ≠ (v669 : Value).ownBlock ∧ some k_ ≠ (.slice Ao24 t671.length co24 : Value).ownBlock ∧ some k_ ≠ (v675 : Value).ownBlock) (.slice Ao21 t665.length co21) t665) := ⟨by rw [← hq_]; exact (by (with_reducible repeat (first | apply Kd.R_alloc | apply Kd.R_drewN | apply Kd.R_drew)); exact Kd.R_mono HO667.out (fun _ hk => ⟨hk.1.1.2, ⟨hk.1.2, hk.2⟩⟩))⟩; replace HO670 : Aside0 (Kd.R (Kd.int .u32) 95 w25 w.heap.size (fun k_ => some k_ ≠ (.slice Ao21 t665.length co21 : Value).ownBlock ∧ some k_ ≠ (.slice Ao24 t671.length co24 : Value).ownBlock ∧ some k_ ≠ (v675 : Value).ownBlock) v669 t668) := ⟨by rw [← hq_]; exact (by (with_reducible repeat (first | apply Kd.R_alloc | apply Kd.R_drewN | apply Kd.R_drew)); exact Kd.R_mono HO670.out (fun _ hk => ⟨hk.1.1.2, ⟨hk.1.2, hk.2⟩⟩))⟩; replace HO673 : Aside0 (Kd.R (Kd.int .u32) 95 w25 w.heap.size (fun k_ => some k_ ≠ (.slice Ao21 t665.length co21 : Value).ownBlock ∧ some k_ ≠ (v669 : Value).ownBlock ∧ some k_ ≠ (v675 : Value).ownBlock) (.slice Ao24 t671.length co24) t671) := ⟨by rw [← hq_]; exact (by (with_reducible repeat (first | apply Kd.R_alloc | apply Kd.R_drewN | apply Kd.R_drew)); exact Kd.R_mono HO673.out (fun _ hk => ⟨hk.1.1.2, ⟨hk.1.2, hk.2⟩⟩))⟩; replace HO676 : Aside0 (Kd.R (Kd.int .u32) 95 w25 w.heap.size (fun k_ => some k_ ≠ (.slice Ao21 t665.length co21 : Value).ownBlock ∧ some k_ ≠ (v669 : Value).ownBlock ∧ some k_ ≠ (.slice Ao24 t671.length co24 : Value).ownBlock) v675 t674) := ⟨by rw [← hq_]; exact (by (with_reducible repeat (first | apply Kd.R_alloc | apply Kd.R_drewN | apply Kd.R_drew)); exact Kd.R_mono HO676.out (fun _ hk => ⟨hk.1.1.2, ⟨hk.1.2, hk.2⟩⟩))⟩; replace BK662 := zbM BK662 hq_; replace BK663 := zbM BK663 hq_; replace BK664 := zbM BK664 hq_; replace HB := zeC HB hq_; clear hq_))
  replace HO667 := K_ (Kd.R_drew HO667.out)
  replace HO670 := K_ (Kd.R_drew HO670.out)
  replace HO673 := K_ (Kd.R_drew HO673.out)
  replace HO676 := K_ (Kd.R_drew HO676.out)
  replace BK662 := K_ (zX BK662.out)
  replace BK663 := K_ (zX BK663.out)
  replace BK664 := K_ (zX BK664.out)
  replace HB := K_ (uL HB.out)
  obtain ⟨Ao29, co29, eo29⟩ := Kd.R_slice HO670.out
  (first | subst eo29 | (injection eo29 with f1_ f2_ f3_; have f4_ := f1_.symm; have f5_ := f3_.symm; clear f1_ f2_ f3_; subst f4_; subst f5_))
  obtain ⟨Ao30, co30, eo30⟩ := Kd.R_slice HO676.out
  (first | subst eo30 | (injection eo30 with f1_ f2_ f3_; have f4_ := f1_.symm; have f5_ := f3_.symm; clear f1_ f2_ f3_; subst f4_; subst f5_))
  refine vQ (n := 8) (S := fun w' => w'.cell? ⟨gb662, 0, none⟩ = some (.bool a0_0) ∧ w'.cell? ⟨gb662, 1, none⟩ = some (.string a0_1) ∧ w'.cell? ⟨gb662, 2, none⟩ = some (.int .i64 a0_2)) (ds := []) #[false, false, false, false, false, false, false, false] (by kernel_rfl) rfl rfl CE (fun hHeld => ?_); refine zbN vF.tab4 vF.bits4 (fun HT_ HW_ => ?_)
  generalize w25.drew = w28 at HO667 HO670 HO673 HO676 BK662 BK663 BK664 HB hHeld ⊢
  refine pu_ 0 (some 36) (bb 8 1) (jQ HT_.out (by kernel_rfl)) ?_
  refine pu_ 2 (some 38) (bb 8 5) (jQ HT_.out (by kernel_rfl)) ?_
  refine pu_ 3 (some 39) (bb 8 13) (jQ HT_.out (by kernel_rfl)) ?_
  refine pu_ 5 (some 41) (bb 8 45) (jQ HT_.out (by kernel_rfl)) ?_
  refine tk_ 1 (some 37) (bb 8 47) (zat HT_.out HW_.out (by kernel_rfl)) hHeld ?_
  refine zbk (i := 4) (N := some 40) (bb 8 63) rfl rfl (zae HT_.out (by kernel_rfl)) (by decide) (fun K hK => ?_)
  refine gq_ Tryz.func79 #[.slice Ao29 t668.length co29, .slice Ao30 t674.length co30] ?_
  with_reducible refine (vX.calls _ _ t668 _ _ t674 t677 _ ?side1 ?side2 ?side3 ?side4 A9.out).mono ?_
  (case side1 => exact CB ((Kd.R_reads' HO670.out).2.2))
  (case side2 => exact (Kd.R_reads' HO670.out).2.1)
  (case side3 => exact CB ((Kd.R_reads' HO676.out).2.2))
  (case side4 => exact (Kd.R_reads' HO676.out).2.1)
  rintro e w31 ⟨v678, rfl, ho0, hb⟩
  refine ⟨_, rfl, ?_⟩
  have HO679 := K_ (Kd.R_lower (Kd.R_new' (Kd.R_new' (Kd.R_new' (Kd.R_new' ho0 (Kd.R_lt (RB HO667.out))) (Kd.R_lt (RB HO670.out))) (Kd.R_lt (RB HO673.out))) (Kd.R_lt (RB HO676.out))) (zP (BL HB)))
  replace HO667 := K_ (Kd.R_elder' (RB HO667.out) (Kd.R_base ho0) hb)
  replace HO670 := K_ (Kd.R_elder' (RB HO670.out) (Kd.R_base ho0) hb)
  replace HO673 := K_ (Kd.R_elder' (RB HO673.out) (Kd.R_base ho0) hb)
  replace HO676 := K_ (Kd.R_elder' (RB HO676.out) (Kd.R_base ho0) hb)
  replace BK662 := zC BK662 hb
  replace BK663 := zC BK663 hb
  replace BK664 := zC BK664 hb
  replace HB := zE HB hb
  (try clear hb)
  (try clear hb2)
  (try clear hk)
  (try clear hi)
  (try clear ho0)
  obtain ⟨Ao32, co32, eo32⟩ := Kd.R_slice HO679.out
  (first | subst eo32 | (injection eo32 with f1_ f2_ f3_; have f4_ := f1_.symm; have f5_ := f3_.symm; clear f1_ f2_ f3_; subst f4_; subst f5_))
  refine hK.out _ _ CE (fun hHeld => ?_)
  clear hK K
  refine no_ (some 40) ?_
  refine zbk (i := 6) (N := some 42) (bb 8 127) rfl rfl (zae HT_.out (by kernel_rfl)) (by decide) (fun K hK => ?_)
  refine zhC Tryz.func130 (by kernel_rfl) rfl #[.bool a0_0, .slice Ao32 t677.length co32, .int .i64 ji3] (by rfl) rfl rfl (by (try simp only [List.map_toArray]); (try simp only [List.map_cons]); (try simp only [List.map_nil]); first | done | (simp only [hji3]; rfl) | rfl | (simp only [List.length_drop, List.length_take]; rfl)) ?_
  with_reducible refine (qA.calls a0_0 _ _ t677 ji3 t680 t681 t682 _ ?side1 ?side2 A10.out).mono ?_
  (case side1 => exact CB ((Kd.R_reads' HO679.out).2.2))
  (case side2 => exact (Kd.R_reads' HO679.out).2.1)
  rintro e w33 ⟨rfl, hb⟩
  refine ⟨_, rfl, ?_⟩
  replace HO667 := K_ (Kd.R_below (RB HO667.out) hb)
  replace HO670 := K_ (Kd.R_below (RB HO670.out) hb)
  replace HO673 := K_ (Kd.R_below (RB HO673.out) hb)
  replace HO676 := K_ (Kd.R_below (RB HO676.out) hb)
  replace HO679 := K_ (Kd.R_below (RB HO679.out) hb)
  replace BK662 := zC BK662 hb
  replace BK663 := zC BK663 hb
  replace BK664 := zC BK664 hb
  replace HB := zE HB hb
  (try clear hb)
  (try clear hb2)
  (try clear hk)
  (try clear hi)
  refine hK.out _ _ CE (fun hHeld => ?_)
  clear hK K
  refine no_ (some 42) ?_
  refine zbk (i := 7) (N := none) (bb 8 255) rfl rfl (zae HT_.out (by kernel_rfl)) (by decide) (fun K hK => ?_)
  have hs34 : w33.cell? ⟨gb664, 0, none⟩ = some (.bool false) := (zD BK664.out 0).trans rfl
  have hfs34 := zM BK664.out 0
  have hns34_0 := NB662_664.out
  have hns34_1 := NB663_664.out
  have hms34_0 := NB664_662.out
  have hms34_1 := NB664_663.out
  have hs35 : w33.cell? ⟨gb664, 1, none⟩ = some (.string (⟨#[]⟩ : ByteArray)) := (zD BK664.out 1).trans rfl
  have hfs35 := zM BK664.out 1
  have hns35_0 := NB662_664.out
  have hns35_1 := NB663_664.out
  have hms35_0 := NB664_662.out
  have hms35_1 := NB664_663.out
  have hs36 : w33.cell? ⟨gb664, 2, none⟩ = some (.int .i64 0) := (zD BK664.out 2).trans rfl
  have hfs36 := zM BK664.out 2
  have hns36_0 := NB662_664.out
  have hns36_1 := NB663_664.out
  have hms36_0 := NB664_662.out
  have hms36_1 := NB664_663.out
  refine zbm (w1 := ?_) (by rfl) rfl ?_ ?_
  rotate_left
  ·go_simp
   rfl
  refine hK.out _ _ ⟨((uB (p := ⟨gb664, _, none⟩) NB662_664.out _).trans (((uB (p := ⟨gb664, _, none⟩) NB662_664.out _).trans (((uB (p := ⟨gb664, _, none⟩) NB662_664.out _).trans (hHeld.1)))))), ((uB (p := ⟨gb664, _, none⟩) NB662_664.out _).trans (((uB (p := ⟨gb664, _, none⟩) NB662_664.out _).trans (((uB (p := ⟨gb664, _, none⟩) NB662_664.out _).trans (hHeld.2.1)))))), ((uB (p := ⟨gb664, _, none⟩) NB662_664.out _).trans (((uB (p := ⟨gb664, _, none⟩) NB662_664.out _).trans (((uB (p := ⟨gb664, _, none⟩) NB662_664.out _).trans (hHeld.2.2))))))⟩ (fun hHeld => ?_)
  clear hK K
  refine vS (zbi HT_.out (by kernel_rfl)) ?_
  try go_wp2
  refine bodyPost_ret (results_cell_row rfl _ _ gb664 23 #[.bool t680, .string t681, .int .i64 t682] (0, 0) _ rfl (BP BK664) Tryz.underlying23 rfl (by kernel_rfl)) rfl ?_
  exact ⟨by first | rfl | (simp [vE, vD] <;> rfl) | (simp only [← hji3]; first | rfl | (simp [vE, vD] <;> rfl)) | (simp [*, vE, vD] <;> rfl), BL HB⟩
 rw [if_neg c8] at H
 have c8b0 : (a0_0 == a1_0) = false := by simpa using c8
 (try (have c8b1 : decide (a0_0 = a1_0) = false := by simpa using c8))
 (try (have c8b2 : (a0_0 == a1_0) = false := by simpa using c8))
 (try (have c8b3 : ¬ (a0_0 = a1_0) := by simpa using c8))
 clear c8
 obtain ⟨⟨t683, t684⟩, A370, H⟩ := Option.bind_eq_some_iff.mp H
 (try dsimp -simprocs only at H)
 have A37 := K_ A370
 clear A370
 (try have HS1_ := K_ H)
 (try clear H)
 (try have H := HS1_.out)
 (try clear HS1_)
 by_cases c38 : t684 = true
 ·subst c38
  rw [if_pos rfl] at H
  obtain ⟨⟨t687, t688, t689⟩, A390, H⟩ := Option.bind_eq_some_iff.mp H
  (try dsimp -simprocs only at H)
  have A39 := K_ A390
  clear A390
  simp only [Option.some.injEq, Prod.mk.injEq] at H
  obtain ⟨rfl, rfl, rfl⟩ := H
  refine pu_ 14 (some 6) (bb 16 32767) (jQ HT_.out (by kernel_rfl)) ?_
  refine pu_ 15 (some 7) (bb 16 65535) (jQ HT_.out (by kernel_rfl)) ?_
  refine vS (zbi HT_.out (by kernel_rfl)) ?_
  obtain ⟨⟨hcz55_0, hcz55_1, hcz55_2⟩, hfz55_0, hfz55_1, hfz55_2⟩ := ce3 BK662
  obtain ⟨⟨hcz56_0, hcz56_1, hcz56_2⟩, hfz56_0, hfz56_1, hfz56_2⟩ := ce3 BK663
  obtain ⟨Ao57, co57, eo57⟩ := Kd.R_slice HO670.out
  subst eo57
  obtain ⟨Ao58, co58, eo58⟩ := Kd.R_slice HO676.out
  subst eo58
  try go_wp2_with (first | ((with_reducible refine zK (f := 131) rfl ?_); refine zY (some 46) rfl rfl Tryz.func131 (by kernel_rfl) rfl #[.slice Ao57 t668.length co57, .slice Ao58 t674.length co58] rfl MP ?_; (with_reducible refine (xZ.calls _ _ t668 _ _ t674 t683 true _ ?side1 ?side2 ?side3 ?side4 A37.out).mono ?_); (case side1 => exact CB ((Kd.R_reads' HO670.out).2.2)); (case side2 => exact (Kd.R_reads' HO670.out).2.1); (case side3 => exact CB ((Kd.R_reads' HO676.out).2.2)); (case side4 => exact (Kd.R_reads' HO676.out).2.1); rintro e w59 ⟨v685, rfl, ho0, hb⟩; refine ⟨_, rfl, ?_⟩; have HO686 := K_ (Kd.R_lower (Kd.R_new' (Kd.R_new' (Kd.R_new' (Kd.R_new' ho0 (Kd.R_lt (RB HO667.out))) (Kd.R_lt (RB HO670.out))) (Kd.R_lt (RB HO673.out))) (Kd.R_lt (RB HO676.out))) (zP (BL HB))); replace HO667 := K_ (Kd.R_elder' (RB HO667.out) (Kd.R_base ho0) hb); replace HO670 := K_ (Kd.R_elder' (RB HO670.out) (Kd.R_base ho0) hb); replace HO673 := K_ (Kd.R_elder' (RB HO673.out) (Kd.R_base ho0) hb); replace HO676 := K_ (Kd.R_elder' (RB HO676.out) (Kd.R_base ho0) hb); replace BK662 := zC BK662 hb; replace BK663 := zC BK663 hb; replace BK664 := zC BK664 hb; replace HB := zE HB hb; (try clear hb); (try clear hb2); (try clear hk); (try clear hi); (try clear ho0); obtain ⟨⟨hcz60_0, hcz60_1, hcz60_2⟩, hfz60_0, hfz60_1, hfz60_2⟩ := ce3 BK662; obtain ⟨Ao61, co61, eo61⟩ := Kd.R_slice HO686.out; subst eo61) | ((with_reducible refine zK (f := 130) rfl ?_); refine zY (some 54) rfl rfl Tryz.func130 (by kernel_rfl) rfl #[.bool a0_0, .slice Ao61 t683.length co61, .int .i64 ji3] rfl (by (try simp only [List.map_toArray]); (try simp only [List.map_cons]); (try simp only [List.map_nil]); first | done | (simp only [hji3]; rfl) | rfl | (simp only [List.length_drop, List.length_take]; rfl)) ?_; (with_reducible refine (qA.calls a0_0 _ _ t683 ji3 t687 t688 t689 _ ?side1 ?side2 A39.out).mono ?_); (case side1 => exact CB ((Kd.R_reads' HO686.out).2.2)); (case side2 => exact (Kd.R_reads' HO686.out).2.1); rintro e w62 ⟨rfl, hb⟩; refine ⟨_, rfl, ?_⟩; replace HO667 := K_ (Kd.R_below (RB HO667.out) hb); replace HO670 := K_ (Kd.R_below (RB HO670.out) hb); replace HO673 := K_ (Kd.R_below (RB HO673.out) hb); replace HO676 := K_ (Kd.R_below (RB HO676.out) hb); replace HO686 := K_ (Kd.R_below (RB HO686.out) hb); replace BK662 := zC BK662 hb; replace BK663 := zC BK663 hb; replace BK664 := zC BK664 hb; replace HB := zE HB hb; (try clear hb); (try clear hb2); (try clear hk); (try clear hi); obtain ⟨⟨hcz63_0, hcz63_1, hcz63_2⟩, hfz63_0, hfz63_1, hfz63_2⟩ := ce3 BK664))
  refine bodyPost_ret (results_cell_row rfl _ _ gb664 23 #[.bool t687, .string t688, .int .i64 t689] (0, 0) _ rfl (BP BK664) Tryz.underlying23 rfl (by kernel_rfl)) rfl ?_
  exact ⟨by first | rfl | (simp [vE, vD] <;> rfl) | (simp only [← hji3]; first | rfl | (simp [vE, vD] <;> rfl)) | (simp [*, vE, vD] <;> rfl), BL HB⟩
 replace c38 := Bool.eq_false_iff.mpr c38
 subst c38
 rw [if_neg (show ¬ (false = true) by decide)] at H
 obtain ⟨⟨t690, t691⟩, A640, H⟩ := Option.bind_eq_some_iff.mp H
 (try dsimp -simprocs only at H)
 have A64 := K_ A640
 clear A640
 obtain ⟨⟨t694, t695, t696⟩, A650, H⟩ := Option.bind_eq_some_iff.mp H
 (try dsimp -simprocs only at H)
 have A65 := K_ A650
 clear A650
 simp only [Option.some.injEq, Prod.mk.injEq] at H
 obtain ⟨rfl, rfl, rfl⟩ := H
 refine pu_ 14 (some 6) (bb 16 32767) (jQ HT_.out (by kernel_rfl)) ?_
 refine pu_ 15 (some 7) (bb 16 65535) (jQ HT_.out (by kernel_rfl)) ?_
 refine vS (zbi HT_.out (by kernel_rfl)) ?_
 obtain ⟨⟨hcz55_0, hcz55_1, hcz55_2⟩, hfz55_0, hfz55_1, hfz55_2⟩ := ce3 BK662
 obtain ⟨⟨hcz56_0, hcz56_1, hcz56_2⟩, hfz56_0, hfz56_1, hfz56_2⟩ := ce3 BK663
 obtain ⟨Ao57, co57, eo57⟩ := Kd.R_slice HO670.out
 subst eo57
 obtain ⟨Ao58, co58, eo58⟩ := Kd.R_slice HO676.out
 subst eo58
 try go_wp2_with (first | ((with_reducible refine zK (f := 131) rfl ?_); refine zY (some 46) rfl rfl Tryz.func131 (by kernel_rfl) rfl #[.slice Ao57 t668.length co57, .slice Ao58 t674.length co58] rfl MP ?_; (with_reducible refine (xZ.calls _ _ t668 _ _ t674 t683 false _ ?side1 ?side2 ?side3 ?side4 A37.out).mono ?_); (case side1 => exact CB ((Kd.R_reads' HO670.out).2.2)); (case side2 => exact (Kd.R_reads' HO670.out).2.1); (case side3 => exact CB ((Kd.R_reads' HO676.out).2.2)); (case side4 => exact (Kd.R_reads' HO676.out).2.1); rintro e w85 ⟨v685, rfl, ho0, hb⟩; refine ⟨_, rfl, ?_⟩; have HO686 := K_ (Kd.R_lower (Kd.R_new' (Kd.R_new' (Kd.R_new' (Kd.R_new' ho0 (Kd.R_lt (RB HO667.out))) (Kd.R_lt (RB HO670.out))) (Kd.R_lt (RB HO673.out))) (Kd.R_lt (RB HO676.out))) (zP (BL HB))); replace HO667 := K_ (Kd.R_elder' (RB HO667.out) (Kd.R_base ho0) hb); replace HO670 := K_ (Kd.R_elder' (RB HO670.out) (Kd.R_base ho0) hb); replace HO673 := K_ (Kd.R_elder' (RB HO673.out) (Kd.R_base ho0) hb); replace HO676 := K_ (Kd.R_elder' (RB HO676.out) (Kd.R_base ho0) hb); replace BK662 := zC BK662 hb; replace BK663 := zC BK663 hb; replace BK664 := zC BK664 hb; replace HB := zE HB hb; (try clear hb); (try clear hb2); (try clear hk); (try clear hi); (try clear ho0)) | ((with_reducible refine zK (f := 131) rfl ?_); refine zY (some 58) rfl rfl Tryz.func131 (by kernel_rfl) rfl #[.slice Ao58 t674.length co58, .slice Ao57 t668.length co57] rfl MP ?_; (with_reducible refine (xZ.calls _ _ t674 _ _ t668 t690 t691 _ ?side1 ?side2 ?side3 ?side4 A64.out).mono ?_); (case side1 => exact CB ((Kd.R_reads' HO676.out).2.2)); (case side2 => exact (Kd.R_reads' HO676.out).2.1); (case side3 => exact CB ((Kd.R_reads' HO670.out).2.2)); (case side4 => exact (Kd.R_reads' HO670.out).2.1); rintro e w86 ⟨v692, rfl, ho0, hb⟩; refine ⟨_, rfl, ?_⟩; have HO693 := K_ (Kd.R_lower (Kd.R_new' (Kd.R_new' (Kd.R_new' (Kd.R_new' (Kd.R_new' ho0 (Kd.R_lt (RB HO667.out))) (Kd.R_lt (RB HO670.out))) (Kd.R_lt (RB HO673.out))) (Kd.R_lt (RB HO676.out))) (Kd.R_lt (RB HO686.out))) (zP (BL HB))); replace HO667 := K_ (Kd.R_elder' (RB HO667.out) (Kd.R_base ho0) hb); replace HO670 := K_ (Kd.R_elder' (RB HO670.out) (Kd.R_base ho0) hb); replace HO673 := K_ (Kd.R_elder' (RB HO673.out) (Kd.R_base ho0) hb); replace HO676 := K_ (Kd.R_elder' (RB HO676.out) (Kd.R_base ho0) hb); replace HO686 := K_ (Kd.R_elder' (RB HO686.out) (Kd.R_base ho0) hb); replace BK662 := zC BK662 hb; replace BK663 := zC BK663 hb; replace BK664 := zC BK664 hb; replace HB := zE HB hb; (try clear hb); (try clear hb2); (try clear hk); (try clear hi); (try clear ho0); obtain ⟨⟨hcz87_0, hcz87_1, hcz87_2⟩, hfz87_0, hfz87_1, hfz87_2⟩ := ce3 BK663; obtain ⟨Ao88, co88, eo88⟩ := Kd.R_slice HO693.out; subst eo88) | ((with_reducible refine zK (f := 130) rfl ?_); refine zY (some 65) rfl rfl Tryz.func130 (by kernel_rfl) rfl #[.bool a1_0, .slice Ao88 t690.length co88, .int .i64 ji3] rfl (by (try simp only [List.map_toArray]); (try simp only [List.map_cons]); (try simp only [List.map_nil]); first | done | (simp only [hji3]; rfl) | rfl | (simp only [List.length_drop, List.length_take]; rfl)) ?_; (with_reducible refine (qA.calls a1_0 _ _ t690 ji3 t694 t695 t696 _ ?side1 ?side2 A65.out).mono ?_); (case side1 => exact CB ((Kd.R_reads' HO693.out).2.2)); (case side2 => exact (Kd.R_reads' HO693.out).2.1); rintro e w89 ⟨rfl, hb⟩; refine ⟨_, rfl, ?_⟩; replace HO667 := K_ (Kd.R_below (RB HO667.out) hb); replace HO670 := K_ (Kd.R_below (RB HO670.out) hb); replace HO673 := K_ (Kd.R_below (RB HO673.out) hb); replace HO676 := K_ (Kd.R_below (RB HO676.out) hb); replace HO686 := K_ (Kd.R_below (RB HO686.out) hb); replace HO693 := K_ (Kd.R_below (RB HO693.out) hb); replace BK662 := zC BK662 hb; replace BK663 := zC BK663 hb; replace BK664 := zC BK664 hb; replace HB := zE HB hb; (try clear hb); (try clear hb2); (try clear hk); (try clear hi); obtain ⟨⟨hcz90_0, hcz90_1, hcz90_2⟩, hfz90_0, hfz90_1, hfz90_2⟩ := ce3 BK664))
 refine bodyPost_ret (results_cell_row rfl _ _ gb664 23 #[.bool t694, .string t695, .int .i64 t696] (0, 0) _ rfl (BP BK664) Tryz.underlying23 rfl (by kernel_rfl)) rfl ?_
 exact ⟨by first | rfl | (simp [vE, vD] <;> rfl) | (simp only [← hji3]; first | rfl | (simp [vE, vD] <;> rfl)) | (simp [*, vE, vD] <;> rfl), BL HB⟩
def zct.f (a0_0 : Bool) (a0_1 : ByteArray) (a0_2 : Int) (a1_0 : Bool) (a1_1 : ByteArray) (a1_2 : Int) : Option (Bool × ByteArray × Int) := (vF.f a0_0 a0_1 a0_2 (!a1_0) a1_1 a1_2).bind fun bt700 => (some (bt700.1, bt700.2.1, bt700.2.2))
set_option maxHeartbeats 8000000 in
set_option maxRecDepth 100000 in
theorem zct.calls (a0_0 : Bool) (a0_1 : ByteArray) (a0_2 : Int) (a1_0 : Bool) (a1_1 : ByteArray) (a1_2 : Int) (r1 : Bool) (r2 : ByteArray) (r3 : Int) (w : World) (hG : Fig.Glob w) (h : zct.f a0_0 a0_1 a0_2 a1_0 a1_1 a1_2 = some (r1, r2, r3)) :
  Calls Tryz.prog 73 #[.agg #[.bool a0_0, .string a0_1, .int .i64 a0_2], .agg #[.bool a1_0, .string a1_1, .int .i64 a1_2]] w fun e w' => e = .returned (.agg #[.bool r1, .string r2, .int .i64 r3]) ∧ Below w.heap.size w w' := by
 have hu23 := Tryz.underlying23
 have HG := K_ hG
 clear hG
 have HB := K_ (Below.refl w.heap.size w)
 have H : ((vF.f a0_0 a0_1 a0_2 (!a1_0) a1_1 a1_2).bind fun bt700 => (some (bt700.1, bt700.2.1, bt700.2.2))) = some (r1, r2, r3) := h
 clear h
 obtain ⟨⟨t700, t701, t702⟩, A30, H⟩ := Option.bind_eq_some_iff.mp H
 (try dsimp -simprocs only at H)
 have A3 := K_ A30
 clear A30
 simp only [Option.some.injEq, Prod.mk.injEq] at H
 obtain ⟨rfl, rfl, rfl⟩ := H
 go_enter Tryz.func73, Tryz.ntmps73
 go_wp2_with (first | (refine be_ 2 #[.bool a0_0, .string a0_1, .int .i64 a0_2] 23 ?_; intro gb697 hg w4 hbox hb; have BK697 := K_ (hbox); have GW697 := ge_ hg HB; have GE697 := ge_ hg HB; replace HB := zE HB hb; clear hb hbox hg) | (refine be_ 3 #[.bool a1_0, .string a1_1, .int .i64 a1_2] 23 ?_; intro gb698 hg w5 hbox hb; have BK698 := K_ (hbox); have GW698 := ge_ hg HB; have GE698 := ge_ hg HB; replace HB := zE HB hb; have NB697_698 := nb_ hg BK697; have NB698_697 := nc_ hg BK697; replace BK697 := zC BK697 hb; clear hb hbox hg) | (refine be_ 4 #[.bool false, .string (⟨#[]⟩ : ByteArray), .int .i64 0] 23 ?_; intro gb699 hg w6 hbox hb; have BK699 := K_ (hbox); have GW699 := ge_ hg HB; have GE699 := ge_ hg HB; replace HB := zE HB hb; have NB697_699 := nb_ hg BK697; have NB699_697 := nc_ hg BK697; replace BK697 := zC BK697 hb; have NB698_699 := nb_ hg BK698; have NB699_698 := nc_ hg BK698; replace BK698 := zC BK698 hb; clear hb hbox hg; have hnb7 := NB698_697.out; have hnc7 := NB697_698.out; have hnb8 := NB698_699.out; have hnc8 := NB699_698.out; obtain ⟨⟨hcz9_0, hcz9_1, hcz9_2⟩, hfz9_0, hfz9_1, hfz9_2⟩ := ce3 BK698; have hnb10 := NB697_699.out; have hnc10 := NB699_697.out; obtain ⟨⟨hcz11_0, hcz11_1, hcz11_2⟩, hfz11_0, hfz11_1, hfz11_2⟩ := ce3 BK697) | ((with_reducible refine zK (f := 98) rfl ?_); refine zY (some 11) rfl rfl Tryz.func98 (by kernel_rfl) rfl #[.agg #[.bool a0_0, .string a0_1, .int .i64 a0_2], .agg #[.bool (!a1_0), .string a1_1, .int .i64 a1_2]] rfl MP ?_; (with_reducible refine (vF.calls a0_0 a0_1 a0_2 (!a1_0) a1_1 a1_2 t700 t701 t702 _ ?side1 A3.out).mono ?_); (case side1 => exact Fig.Glob.below HG.out (BL HB)); rintro e w12 ⟨rfl, hb⟩; refine ⟨_, rfl, ?_⟩; replace BK697 := K_ (zaD (g := gb697) (o := .cells #[.bool a0_0, .string a0_1, .int .i64 a0_2] 23 (0, 0)) (by (with_reducible repeat (first | refine jC ?_ _ | refine zX ?_ | refine jB ?_ _)); refine zR ?_ NB697_698.out _; (with_reducible repeat (first | refine jC ?_ _ | refine zX ?_ | refine jB ?_ _)); exact BK697.out) hb); replace BK698 := K_ (zaD (g := gb698) (o := .cells #[.bool (!a1_0), .string a1_1, .int .i64 a1_2] 23 (0, 0)) (BP BK698) hb); replace BK699 := K_ (zaD (g := gb699) (o := .cells #[.bool false, .string (⟨#[]⟩ : ByteArray), .int .i64 0] 23 (0, 0)) (by (with_reducible repeat (first | refine jC ?_ _ | refine zX ?_ | refine jB ?_ _)); refine zR ?_ NB699_698.out _; (with_reducible repeat (first | refine jC ?_ _ | refine zX ?_ | refine jB ?_ _)); exact BK699.out) hb); replace HB := zE HB hb; (try clear hb); (try clear hb2); (try clear hk); (try clear hi); obtain ⟨⟨hcz13_0, hcz13_1, hcz13_2⟩, hfz13_0, hfz13_1, hfz13_2⟩ := ce3 BK699))
 refine bodyPost_ret (results_cell_row rfl _ _ gb699 23 #[.bool t700, .string t701, .int .i64 t702] (0, 0) _ rfl (BP BK699) Tryz.underlying23 rfl (by kernel_rfl)) rfl ?_
 exact ⟨ER, BL HB⟩
def zdM.f (a0_0 : Bool) (a0_1 : ByteArray) (a0_2 : Int) (a1_0 : Bool) (a1_1 : ByteArray) (a1_2 : Int) : Option (Bool × ByteArray × Int) := (zct.f a0_0 a0_1 a0_2 a1_0 a1_1 a1_2).bind fun bt706 => ((zcr.f bt706.1 bt706.2.1 bt706.2.2).bind fun bt709 => (some (bt709.1, bt709.2.1, bt709.2.2)))
set_option maxHeartbeats 8000000 in
set_option maxRecDepth 100000 in
theorem zdM.calls (a0_0 : Bool) (a0_1 : ByteArray) (a0_2 : Int) (a1_0 : Bool) (a1_1 : ByteArray) (a1_2 : Int) (r1 : Bool) (r2 : ByteArray) (r3 : Int) (w : World) (hG : Fig.Glob w) (h : zdM.f a0_0 a0_1 a0_2 a1_0 a1_1 a1_2 = some (r1, r2, r3)) :
  Calls Tryz.prog 45 #[.agg #[.bool a0_0, .string a0_1, .int .i64 a0_2], .agg #[.bool a1_0, .string a1_1, .int .i64 a1_2]] w fun e w' => e = .returned (.agg #[.bool r1, .string r2, .int .i64 r3]) ∧ Below w.heap.size w w' := by
 have hu23 := Tryz.underlying23
 have HG := K_ hG
 clear hG
 have HB := K_ (Below.refl w.heap.size w)
 have H : ((zct.f a0_0 a0_1 a0_2 a1_0 a1_1 a1_2).bind fun bt706 => ((zcr.f bt706.1 bt706.2.1 bt706.2.2).bind fun bt709 => (some (bt709.1, bt709.2.1, bt709.2.2)))) = some (r1, r2, r3) := h
 clear h
 obtain ⟨⟨t706, t707, t708⟩, A30, H⟩ := Option.bind_eq_some_iff.mp H
 (try dsimp -simprocs only at H)
 have A3 := K_ A30
 clear A30
 obtain ⟨⟨t709, t710, t711⟩, A40, H⟩ := Option.bind_eq_some_iff.mp H
 (try dsimp -simprocs only at H)
 have A4 := K_ A40
 clear A40
 simp only [Option.some.injEq, Prod.mk.injEq] at H
 obtain ⟨rfl, rfl, rfl⟩ := H
 go_enter Tryz.func45, Tryz.ntmps45
 go_wp2_with (first | (refine be_ 2 #[.bool a0_0, .string a0_1, .int .i64 a0_2] 23 ?_; intro gb703 hg w5 hbox hb; have BK703 := K_ (hbox); have GW703 := ge_ hg HB; have GE703 := ge_ hg HB; replace HB := zE HB hb; clear hb hbox hg) | (refine be_ 3 #[.bool a1_0, .string a1_1, .int .i64 a1_2] 23 ?_; intro gb704 hg w6 hbox hb; have BK704 := K_ (hbox); have GW704 := ge_ hg HB; have GE704 := ge_ hg HB; replace HB := zE HB hb; have NB703_704 := nb_ hg BK703; have NB704_703 := nc_ hg BK703; replace BK703 := zC BK703 hb; clear hb hbox hg) | (refine be_ 4 #[.bool false, .string (⟨#[]⟩ : ByteArray), .int .i64 0] 23 ?_; intro gb705 hg w7 hbox hb; have BK705 := K_ (hbox); have GW705 := ge_ hg HB; have GE705 := ge_ hg HB; replace HB := zE HB hb; have NB703_705 := nb_ hg BK703; have NB705_703 := nc_ hg BK703; replace BK703 := zC BK703 hb; have NB704_705 := nb_ hg BK704; have NB705_704 := nc_ hg BK704; replace BK704 := zC BK704 hb; clear hb hbox hg; have hnb8 := NB703_704.out; have hnc8 := NB704_703.out; have hnb9 := NB703_705.out; have hnc9 := NB705_703.out; obtain ⟨⟨hcz10_0, hcz10_1, hcz10_2⟩, hfz10_0, hfz10_1, hfz10_2⟩ := ce3 BK703; have hnb11 := NB704_705.out; have hnc11 := NB705_704.out; obtain ⟨⟨hcz12_0, hcz12_1, hcz12_2⟩, hfz12_0, hfz12_1, hfz12_2⟩ := ce3 BK704) | ((with_reducible refine zK (f := 73) rfl ?_); refine zY (some 7) rfl rfl Tryz.func73 (by kernel_rfl) rfl #[.agg #[.bool a0_0, .string a0_1, .int .i64 a0_2], .agg #[.bool a1_0, .string a1_1, .int .i64 a1_2]] rfl MP ?_; (with_reducible refine (zct.calls a0_0 a0_1 a0_2 a1_0 a1_1 a1_2 t706 t707 t708 _ ?side1 A3.out).mono ?_); (case side1 => exact Fig.Glob.below HG.out (BL HB)); rintro e w13 ⟨rfl, hb⟩; refine ⟨_, rfl, ?_⟩; replace BK703 := zC BK703 hb; replace BK704 := zC BK704 hb; replace BK705 := zC BK705 hb; replace HB := zE HB hb; (try clear hb); (try clear hb2); (try clear hk); (try clear hi)) | ((with_reducible refine zK (f := 72) rfl ?_); refine zY (some 8) rfl rfl Tryz.func72 (by kernel_rfl) rfl #[.agg #[.bool t706, .string t707, .int .i64 t708]] rfl MP ?_; (with_reducible refine (zcr.calls t706 t707 t708 t709 t710 t711 _ A4.out).mono ?_); rintro e w14 ⟨rfl, hb⟩; refine ⟨_, rfl, ?_⟩; replace BK703 := zC BK703 hb; replace BK704 := zC BK704 hb; replace BK705 := zC BK705 hb; replace HB := zE HB hb; (try clear hb); (try clear hb2); (try clear hk); (try clear hi); obtain ⟨⟨hcz15_0, hcz15_1, hcz15_2⟩, hfz15_0, hfz15_1, hfz15_2⟩ := ce3 BK705))
 refine bodyPost_ret (results_cell_row rfl _ _ gb705 23 #[.bool t709, .string t710, .int .i64 t711] (0, 0) _ rfl (BP BK705) Tryz.underlying23 rfl (by kernel_rfl)) rfl ?_
 exact ⟨ER, BL HB⟩
end Go.Proofs.YtcmgdjnjmobkoaaGreatDoor.Px
namespace Go.Proofs.YtcmgdjnjmobkoaaGreatDoor.Px
set_option linter.all false
open Fig Go.RowKit Go.Proofs.YtcmgdjnjmobkoaaGreatDoorW.PrintWords Go.Proofs.YtcmgdjnjmobkoaaGreatDoorW.PrintLast Go.Proofs.YtcmgdjnjmobkoaaGreatDoorW.PrintMore
attribute [local go_sem] vK vO uE uD yZ yY vM vN
def s24 : ByteArray := ⟨#[35, 44, 35, 35, 48, 46, 48, 48, 37]⟩
def l24 : List S71 := [⟨35, false, 0⟩, ⟨44, false, 1⟩, ⟨35, false, 2⟩, ⟨35, false, 3⟩, ⟨48, false, 4⟩, ⟨46, false, 5⟩, ⟨48, false, 6⟩, ⟨48, false, 7⟩, ⟨37, false, 8⟩]
theorem zpo : zG.f 100 s24 = some (l24, 0, 0) := by kernel_rfl
def P24 : yJ := ⟨1, 0, 2, 2, 0, 0, 3, 3, ⟨#[]⟩, false, 0, false⟩
theorem n24 : vA (zaP (l24.map mk73) (uW (l24.map mk73)) (uR (l24.map mk73)) (l24.map mk73).length) = some P24 := by kernel_rfl
theorem h24 : xW (l24.map mk73) P24 := ⟨by decide +kernel, by kernel_rfl, n24, by kernel_rfl⟩
theorem p24 : jH (uG (l24.map mk73) (uW (l24.map mk73)) l24.length) = [] := by kernel_rfl
theorem f24 : jH (uF (l24.map mk73) (uR (l24.map mk73)) l24.length) = [⟨4, 0⟩] := by kernel_rfl
theorem a24 : yA.f false ⟨#[49]⟩ (-2) (-2) = some (false, ⟨#[49]⟩, -4) := by kernel_rfl
theorem b24 : yA.f false ⟨#[49, 50, 51, 52, 53]⟩ (-5) 2 = some (false, ⟨#[49, 50, 51, 52, 53]⟩, -3) := by kernel_rfl
theorem c24 : yA.f false ⟨#[49, 50, 51, 52]⟩ (-4) 2 = some (false, ⟨#[49, 50, 51, 52]⟩, -2) := by kernel_rfl
theorem d24 : xH.f false ⟨#[49, 50, 51, 52, 53]⟩ (-3) (-2) = some false := by kernel_rfl
theorem e24 : xH.f false ⟨#[49, 50, 51, 52]⟩ (-2) (-2) = some true := by kernel_rfl
theorem o24 : zdM.f false ⟨#[49, 50, 51, 52, 53]⟩ (-5) false ⟨#[49]⟩ 0 = some (false, ⟨#[56, 55, 54, 53, 53]⟩, -5) := by kernel_rfl
theorem zpu : xP l24 := by unfold xP; decide +kernel
theorem zpx : zay l24 := by unfold zay; decide +kernel
theorem zpt : ¬ mixed ([] : List S80) [⟨4, 0⟩] [⟨2, 0⟩] [⟨4, 0⟩] := by unfold mixed sgn; decide +kernel
theorem zpv : Ev (fun k => zG.f k s24) (l24, 0, 0) := Ev.of (zG.mono s24) zpo
theorem zow {q : Pat} (h0 : q.l0 = []) (h1 : q.l1 = [⟨4, 0⟩]) (h3 : q.l3 = [⟨2, 0⟩]) (h4 : q.l4 = [⟨4, 0⟩]) : q.mult = 2 := by
 unfold Pat.mult Pat.sg; rw [h0, h1, h3, h4]; rfl
theorem zoL {q : Pat} {E : Int} (h : zkV s24 q E) : E = 0 ∧ q.P = P24 ∧ q.mult = 2 := by
 have hx := h l24 zpv zpu zpx P24 h24
 rw [p24, f24] at hx
 obtain ⟨h1, h2, h3, h4, h5, h6⟩ := hx zpt
 refine ⟨h1, h2, zow h3 h4 (by rw [h5, h3]) (by rw [h6, h4])⟩
theorem zot {q : Pat} (hP : q.P = P24) (hm : q.mult = 2) : znk q false ⟨#[49, 50, 51, 52, 53]⟩ (-5) (false, ⟨#[49]⟩, -4) := by
 refine ⟨⟨#[49]⟩, -2, by rw [hm]; exact a24, fun h => ?_, fun _ h => ?_, fun _ _ => ⟨rfl, by rw [hP]; rfl⟩⟩
 ·rw [hP] at h; rcases h with h | h <;> exact absurd h (by decide)
 rw [hP] at h; exact absurd rfl h
theorem zpn {q : Pat} (hP : q.P = P24) (hm : q.mult = 2) : IsR q false ⟨#[49, 50, 51, 52, 53]⟩ (-5) false := by
 refine ⟨false, ⟨#[49, 50, 51, 52, 53]⟩, -3, by rw [hm]; exact b24, fun h => ?_, fun _ h => ?_, fun _ _ => by rw [hP]; exact d24⟩
 ·rw [hP] at h; rcases h with h | h <;> exact absurd h (by decide)
 rw [hP] at h; exact absurd rfl h
theorem zoZ {q : Pat} (hP : q.P = P24) (hm : q.mult = 2) : IsR q false ⟨#[49, 50, 51, 52]⟩ (-4) true := by
 refine ⟨false, ⟨#[49, 50, 51, 52]⟩, -2, by rw [hm]; exact c24, fun h => ?_, fun _ h => ?_, fun _ _ => by rw [hP]; exact e24⟩
 ·rw [hP] at h; rcases h with h | h <;> exact absurd h (by decide)
 rw [hP] at h; exact absurd rfl h
set_option maxHeartbeats 8000000 in
set_option maxRecDepth 100000 in
theorem zab (w : World) (hG : Fig.Glob w) : Calls Tryz.prog 19 #[] w fun e w' => e = .returned (.bool true) ∧ Below w.heap.size w w' := by
 have HB := K_ (Below.refl w.heap.size w)
 have HG := K_ hG
 clear hG
 go_enter Tryz.func19, Tryz.ntmps19
 go_upto_region 2 with (first | (go_at_call 31; refine (ziE ⟨#[35, 44, 35, 35, 48, 46, 48, 48, 37]⟩ (by decide) _).mono ?_; rintro e9 w' ⟨q, E, a, rfl, hrr, hb, hqg, hex⟩; obtain ⟨rfl, hP, hm⟩ := zoL hex; have HP := K_ hP; have HM := K_ hm; have HRR := K_ (hrr.lower (zP (BL HB))); have HQ := K_ (hqg rfl); replace HB := zE HB hb; clear hb hrr hqg hex hP hm) | ((with_reducible refine zF (N := 1) rfl ?_); refine be_ 1 (Z26) 26 ?_; intro g1 hg w2 hbox hb; have BK1 := K_ hbox; have GE1 := ge_ hg HB; replace HRR := K_ (HRR.out.below hb); replace HB := zE HB hb; clear hb hbox hg) | ((with_reducible refine zF (N := 2) rfl ?_); refine be_ 2 (Z51) 51 ?_; intro g2 hg w2 hbox hb; have BK2 := K_ hbox; have GE2 := ge_ hg HB; have NB1_2 := nb_ hg BK1; replace BK1 := zC BK1 hb; replace HRR := K_ (HRR.out.below hb); replace HB := zE HB hb; clear hb hbox hg) | ((with_reducible refine zW (p := 1) rfl ?_); refine so_ (g := g1) (cs := Z26) (q.cs) ⟨BK BK1⟩ ?_ rfl rfl rfl rfl rfl yO rfl rfl; intro w9 hbk hfar hbel; replace BK2 := K_ (hfar _ _ (by first | exact NB2_1.out | exact Ne.symm NB1_2.out) (BK BK2)); replace HRR := K_ (HRR.out.so (BK BK1) (by decide) hfar); replace BK1 := K_ hbk; replace HB := K_ (hbel _ _ GE1.out (BL HB)); clear hbk hfar hbel) | ((with_reducible refine zW (p := 2) rfl ?_); refine so_ (g := g2) (cs := Z51) (#[.int .i64 0, .int .i64 a]) ⟨BK BK2⟩ ?_ rfl rfl rfl rfl rfl uT rfl rfl; intro w9 hbk hfar hbel; replace BK1 := K_ (hfar _ _ (by first | exact NB1_2.out | exact Ne.symm NB2_1.out) (BK BK1)); replace HRR := K_ (HRR.out.so (BK BK2) (by decide) hfar); replace BK2 := K_ hbk; replace HB := K_ (hbel _ _ GE2.out (BL HB)); clear hbk hfar hbel))
 go_upto_region 3 with (first | ((with_reducible refine zF (N := 3) rfl ?_); refine be_ 3 (#[.bool false, .string (⟨#[]⟩ : ByteArray), .int .i64 0]) 23 ?_; intro g3 hg w2 hbox hb; have BK3 := K_ hbox; have GE3 := ge_ hg HB; have NB1_3 := nb_ hg BK1; replace BK1 := zC BK1 hb; have NB2_3 := nb_ hg BK2; replace BK2 := zC BK2 hb; replace HRR := K_ (HRR.out.below hb); replace HB := zE HB hb; clear hb hbox hg) | ((with_reducible refine zW (p := 3) rfl ?_); refine so_ (g := g3) (cs := #[.bool false, .string (⟨#[]⟩ : ByteArray), .int .i64 0]) (#[.bool false, .string (⟨#[49, 50, 51, 52, 53]⟩ : ByteArray), .int .i64 (-5)]) ⟨BK BK3⟩ ?_ rfl rfl rfl rfl rfl jY rfl rfl; intro w9 hbk hfar hbel; replace BK1 := K_ (hfar _ _ (by first | exact NB1_3.out | exact Ne.symm NB3_1.out) (BK BK1)); replace BK2 := K_ (hfar _ _ (by first | exact NB2_3.out | exact Ne.symm NB3_2.out) (BK BK2)); replace HRR := K_ (HRR.out.so (BK BK3) (by decide) hfar); replace BK3 := K_ hbk; replace HB := K_ (hbel _ _ GE3.out (BL HB)); clear hbk hfar hbel))
 clear BK2
 have HI1 : ∀ W, zaj q W w.heap.size → Fig.Glob W → Aside0 (Calls Tryz.prog 20 #[.agg q.cs, .agg #[.bool false, .string (⟨#[49, 50, 51, 52, 53]⟩ : ByteArray), .int .i64 (-5)]] W fun e w' => e = .returned (.bool false) ∧ Below W.heap.size W w') := fun W h1 h2 => ⟨zjx q HQ.out.good false ⟨#[49, 50, 51, 52, 53]⟩ (-5) false (zpn HP.out HM.out) W (h1.ok HQ.out) h2⟩
 have HI2 : ∀ W, zaj q W w.heap.size → Fig.Glob W → Aside0 (Calls Tryz.prog 20 #[.agg q.cs, .agg #[.bool false, .string (⟨#[49, 50, 51, 52]⟩ : ByteArray), .int .i64 (-4)]] W fun e w' => e = .returned (.bool true) ∧ Below W.heap.size W w') := fun W h1 h2 => ⟨zjx q HQ.out.good false ⟨#[49, 50, 51, 52]⟩ (-4) true (zoZ HP.out HM.out) W (h1.ok HQ.out) h2⟩
 go_wp2_with (first | ((with_reducible refine zF (N := 9) rfl ?_); refine lo_ (g := g1) (cs := q.cs) _ ⟨BK BK1⟩ ?_ rfl rfl rfl Tryz.underlying26 rfl yO) | ((with_reducible refine zF (N := 10) rfl ?_); refine lo_ (g := g3) (cs := #[.bool false, .string (⟨#[49, 50, 51, 52, 53]⟩ : ByteArray), .int .i64 (-5)]) _ ⟨BK BK3⟩ ?_ rfl rfl rfl Tryz.underlying23 rfl jY) | (go_at_call 44; refine (zld q HQ.out.good false ⟨#[49, 50, 51, 52, 53]⟩ (-5) (false, ⟨#[49]⟩, -4) (zot HP.out HM.out) _ (zaj.ok HRR.out HQ.out)).mono ?_; rintro e9 w' ⟨rfl, hb⟩; replace HRR := K_ (HRR.out.below hb); replace HB := zE HB hb; replace BK1 := zC BK1 hb; replace BK3 := zC BK3 hb; clear hb) | ((with_reducible refine zF (N := 15) rfl ?_); refine zck (g := g1) (cs := q.cs) _ ⟨BK BK1⟩ ?_ (by rfl) rfl rfl Tryz.underlying26 rfl yO) | ((with_reducible refine zF (N := 16) rfl ?_); refine zck (g := g3) (cs := #[.bool false, .string (⟨#[49, 50, 51, 52, 53]⟩ : ByteArray), .int .i64 (-5)]) _ ⟨BK BK3⟩ ?_ (by rfl) rfl rfl Tryz.underlying23 rfl jY) | (go_at_call 20; with_reducible refine ((HI1 _ HRR.out (Fig.Glob.below HG.out (BL HB))).out).mono ?_; rintro e9 w' ⟨rfl, hb⟩; replace HRR := K_ (HRR.out.below hb); replace HB := zE HB hb; replace BK1 := zC BK1 hb; replace BK3 := zC BK3 hb; clear hb) | ((with_reducible refine zF (N := 21) rfl ?_); refine zck (g := g1) (cs := q.cs) _ ⟨BK BK1⟩ ?_ (by rfl) rfl rfl Tryz.underlying26 rfl yO) | (go_at_call 20; with_reducible refine ((HI2 _ HRR.out (Fig.Glob.below HG.out (BL HB))).out).mono ?_; rintro e9 w' ⟨rfl, hb⟩; replace HRR := K_ (HRR.out.below hb); replace HB := zE HB hb; replace BK1 := zC BK1 hb; replace BK3 := zC BK3 hb; clear hb) | ((with_reducible refine zF (N := 26) rfl ?_); refine zck (g := g3) (cs := #[.bool false, .string (⟨#[49, 50, 51, 52, 53]⟩ : ByteArray), .int .i64 (-5)]) _ ⟨BK BK3⟩ ?_ (by rfl) rfl rfl Tryz.underlying23 rfl jY) | (go_at_call 45; refine (zdM.calls false ⟨#[49, 50, 51, 52, 53]⟩ (-5) false ⟨#[49]⟩ 0 _ _ _ _ (Fig.Glob.below HG.out (BL HB)) o24).mono ?_; rintro e9 w' ⟨rfl, hb⟩; replace HRR := K_ (HRR.out.below hb); replace HB := zE HB hb; replace BK1 := zC BK1 hb; replace BK3 := zC BK3 hb; clear hb))
 go_ret
 exact ⟨rfl, BL HB⟩
end Go.Proofs.YtcmgdjnjmobkoaaGreatDoor.Px
namespace Go.Proofs.YtcmgdjnjmobkoaaGreatDoor.Px
open Fig Go.RowKit Go.Proofs.YtcmgdjnjmobkoaaGreatDoorW.PrintWords Go.Proofs.YtcmgdjnjmobkoaaGreatDoorW.PrintLast Go.Proofs.YtcmgdjnjmobkoaaGreatDoorW.PrintMore
attribute [local go_sem] vK vO uE uD yZ yY vM vN
attribute [local go_sem] qJ qW qM qX qV qU qT qP qH qY qK qQ qO qS
theorem zjU (m : Int) : yG.f m = some (decide (0 ≤ m ∧ m < 8)) := by
 unfold yG.f
 by_cases h : m ≥ 0
 ·rw [if_pos h]; congr 1; rw [decide_eq_decide]; omega
 rw [if_neg h]; congr 1; symm; rw [decide_eq_false_iff_not]; omega
theorem zpm (e : Int) (p : Nat) (h1 : -1000000 ≤ e) (h2 : e ≤ 1000000) (hp : p ≤ 1000000) : wrap64 (e + (p : Int)) = e + (p : Int) := w64 (by omega) (by omega)
theorem zoS (e : Int) (p q : Nat) (h1 : -1000000 ≤ e) (h2 : e ≤ 1000000) (hp : p ≤ 1000000) (hq : q ≤ 1000000) : wrap64 (wrap64 (e + (p : Int)) - (q : Int)) = e + (p : Int) - (q : Int) := by rw [zpm e p h1 h2 hp, w64 (by omega) (by omega)]
theorem zcW {b : Bool} {s : ByteArray} {e : Int} (h : OkD s e) : jV.f b s e = some (b, nD (vB s), nE (vB s) e) := by
 have hz := h.val
 have h1 := h.sz
 have h2 := h.lo
 have h3 := h.hi
 unfold jV.f
 rw [show uQ.f s (⟨#[48]⟩ : ByteArray) = some (jD (vB s)) by unfold uQ.f; rw [if_pos rfl, zhc h.d]]
 simp only [Option.bind_some]
 by_cases h0 : vB s = 0
 ·rw [if_pos (uY.2 h0), h0]; rfl
 rw [if_neg (fun hh => h0 (uY.1 hh))]
 have hl := zbc h0
 have ht : uV.f (jD (vB s)) (⟨#[48]⟩ : ByteArray) = some (jD (yK (vB s))) := by
  unfold uV.f
  rw [if_pos ⟨rfl, by omega⟩]
  show some (⟨(Lib.trimRightB (vI (vB s)) 48).toArray⟩ : ByteArray) = _
  unfold Lib.trimRightB; rw [zkg h0]; rfl
 rw [ht]
 simp only [Option.bind_some]
 rw [zoS e _ _ (by omega) (by omega) (by omega) (by omega)]
 unfold nD nE
 rw [if_neg h0, if_neg h0, show e + ((jD (vB s)).size : Int) - ((jD (yK (vB s))).size : Int) = e + (tz (vB s) : Int) by omega]
theorem zpp {s : ByteArray} (h : dB s = true) (hne : s.size ≠ 0) (hs : s.size ≤ 140737488351232) : uI.f s = some (zV (vB s), true) := by
 unfold uI.f; rw [if_pos hs, if_pos ⟨h, hne⟩]
theorem znh {b : Bool} {s : ByteArray} {e : Int} (h : OkD s e) : qG.f b s e = some (zV (vB s)) := by
 have := h.sz
 unfold qG.f; rw [zpp h.d h.ne (by omega)]; rfl
theorem zhS {s : ByteArray} {e : Int} (h : OkD s e) : (zV (vB s)).length ≤ 100000 := by
 have := yM (vB s)
 have := h.val
 have := h.sz
 omega
theorem zhI {l : List Int} {n : Int} (g : jA l = true) (hl : l.length ≤ 500000) (hn : n ≤ 1000000) : vG.f l n = some (zV (zH l * 10 ^ n.toNat)) := by unfold vG.f; rw [if_pos ⟨g, hl, hn⟩]
theorem zeF (m : Int) (neg odd : Bool) (half : Int) : xM.f m neg odd half = some (upB m neg odd half) := rfl
theorem zoz {b : Bool} {s : ByteArray} {e p : Int} (h : OkS s e) (h1 : -10000 ≤ p) (h2 : p ≤ 10000) : uH.f b s e p = some (zV (vB s / 10 ^ (p - e).toNat), zV (vB s % 10 ^ (p - e).toNat)) := by
 have hl := h.lo
 have hh := h.hi
 have hc := zhS h.ok
 unfold uH.f
 rw [znh h.ok]
 simp only [Option.bind_some]
 rw [w64 (x := p - e) (by omega) (by omega)]
 have : zbS.f (zV (vB s)) (p - e) = some (zV (vB s / 10 ^ (p - e).toNat), zV (vB s % 10 ^ (p - e).toNat)) := by
  unfold zbS.f; rw [if_pos ⟨jU _, by omega, by omega⟩, jP]
 rw [this]; rfl
theorem zpe {b : Bool} {s : ByteArray} {e p : Int} (h : OkS s e) (h1 : -10000 ≤ p) (h2 : p ≤ 10000) : xH.f b s e p = some (decide (atE (vB s) e (min e p) % atE 1 p (min e p) = 0)) := by
 unfold xH.f
 by_cases hp : p ≤ e
 ·rw [if_pos hp, show min e p = p by omega, zcT, Nat.mod_one]; rfl
 rw [if_neg hp, zoz h h1 h2]
 simp only [Option.bind_some, Option.some.injEq]
 rw [show min e p = e by omega, zcT, show atE 1 p e = 10 ^ (p - e).toNat by unfold atE; rw [Nat.one_mul]]
 rw [Bool.eq_iff_iff, beq_iff_eq, decide_eq_true_eq]
 constructor
 ·intro hh; exact zaB.1 (List.eq_nil_of_length_eq_zero (by omega))
 intro hh; rw [hh, zaC]; rfl
theorem zkq {q : Nat} (h : q ≠ 0) : (zV q).length > 0 ∧ rd (zV q) 0 = ((q % 1000000000 : Nat) : Int) := by
 have hv := jP q
 have hg := jU q
 rcases hl : zV q with _ | ⟨x, l⟩
 ·exact absurd (zaB.1 hl) h
 rw [hl] at hv hg
 obtain ⟨hx, _⟩ := yI.1 hg
 simp only [zH] at hv
 refine ⟨by simp, ?_⟩
 show x = _
 omega
theorem zlm (v : Nat) : dB (zaA v) = true ∧ (zaA v).size ≠ 0 ∧ vB (zaA v) = v := by
 unfold zaA
 by_cases h : v = 0
 ·rw [if_pos h, h]; exact ⟨rfl, by decide, rfl⟩
 rw [if_neg h]; exact ⟨zgr v, fun e => h (xX.1 e), zcM v⟩
theorem ziO {v k : Nat} (h : (jD v).size ≤ k) (hk : 1 ≤ k) : (zaA v).size ≤ k := by
 unfold zaA
 by_cases h0 : v = 0
 ·rw [if_pos h0]; exact hk
 rw [if_neg h0]; exact h
theorem zmS {v k : Nat} (h : (jD v).size ≤ k) (hk : k ≤ 1000000) : vC.f (zV v) = some (zaA v) := by
 have := yM v
 unfold vC.f; rw [if_pos ⟨jU v, by omega⟩, jP]
theorem zgX {b : Bool} {v : Nat} {p : Int} (hz : (jD v).size ≤ 50000) (h1 : -100000 ≤ p) (h2 : p ≤ 100000) : ((vC.f (zV v)).bind fun t => (jV.f b t p).bind fun u => some (u.1, u.2.1, u.2.2, (0 : Int))) = some (b, nD v, nE v p, 0) := by
 obtain ⟨d1, d2, d3⟩ := zlm v
 have d4 := ziO (k := 50000) hz (by decide)
 rw [zmS hz (by decide)]
 simp only [Option.bind_some]
 rw [zcW ⟨d1, d2, by omega, h1, h2⟩, d3]; rfl
theorem znL {q : Nat} (h : (jD q).size ≤ 1000000) : vX.f (zV q) ([1] : List Int) = some (zV (q + 1)) := by
 have hl := yM q
 have h1 : ([1] : List Int).length ≤ 1000000000000 := by show 1 ≤ 1000000000000; omega
 have := zeG (jU q) (b := [1]) (by decide) (by omega) h1
 rwa [jP, show zH [1] = 1 from rfl] at this
theorem znE {α β : Type} {x : Option α} {f : α → Option β} {a : α} {r : Option β} (h : x = some a) (h2 : f a = r) : x.bind f = r := by subst h; exact h2
theorem zdX {b : Bool} {s : ByteArray} {e p : Int} {q : Nat} {u : Bool} (hz : (jD q).size ≤ 40000) (h1 : -10000 ≤ p) (h2 : p ≤ 10000) : Ev (fun k => jO.j0 k p (zV q) u b s e) (b, nD (q + if u = true then 1 else 0), nE (q + if u = true then 1 else 0) p, 0) := by
 cases u
 ·refine qZ (r' := (b, nD q, nE q p, 0)) (fun k => ?_) (by simp)
  simp only [jO.j0, Bool.false_eq_true, if_false]
  exact zgX (by omega) (by omega) (by omega)
 have ha := znL (q := q) (by omega)
 have hz2 := zbG (m := q) (n := 1) (p := 40000) hz (by rw [zbb]; omega)
 refine qZ (r' := (b, nD (q + 1), nE (q + 1) p, 0)) (fun k => ?_) (by simp)
 simp only [jO.j0, if_true]
 exact znE ha (zgX (by omega) (by omega) (by omega))
theorem zdW {m : Int} {b : Bool} {s : ByteArray} {e p : Int} (hm : 0 ≤ m) (hm7 : m ≤ 7) (h : OkS s e) (h1 : -10000 ≤ p) (h2 : p ≤ 10000) : Ev (fun k => jO.f k m b s e p) (zaE m b (vB s) e 1 p) := by
 have hv := h.ok.val
 have hsz := h.sz
 have hlo := h.lo
 have hhi := h.hi
 unfold jO.f
 refine evE (zjU m) (evT (by simp; omega) (evE (zpe h h1 h2) ?_))
 by_cases hf : atE (vB s) e (min e p) % atE 1 p (min e p) = 0
 ·rw [zfX hf]
  exact evT (decide_eq_true hf) (evE (zcW h.ok) (Ev.now _))
 refine evF (by simpa using hf) ?_
 have hpe : e < p := by
  apply Classical.byContradiction; intro hn
  rw [show min e p = p by omega, zcT, Nat.mod_one] at hf
  exact hf rfl
 by_cases h7 : m = 7
 ·subst h7
  rw [zeu hf]
  exact evT rfl (Ev.now _)
 refine evF h7 ?_
 have hme : min e p = e := by omega
 obtain ⟨B, hB⟩ : ∃ B, B = 10 ^ (p - e).toNat := ⟨_, rfl⟩
 have hB1 : atE 1 p e = B := by unfold atE; rw [Nat.one_mul, hB]
 rw [hme, zcT, hB1] at hf
 have hB0 : 0 < B := by rw [hB]; exact zbP _
 have hzB : (jD B).size ≤ 20001 := by rw [hB, zht]; omega
 have zq := xU (Nat.div_le_self (vB s) B) hv
 have zr := xU (Nat.mod_le (vB s) B) hv
 have lq := yM (vB s / B)
 have lr := yM (vB s % B)
 have z2 := zbG zr zr
 have l2 := yM (vB s % B + vB s % B)
 have lB := yM B
 have hcut := zoz (b := b) h h1 h2
 rw [← hB] at hcut
 refine evE hcut ?_
 have ha : vX.f (zV (vB s % B)) (zV (vB s % B)) = some (zV (vB s % B + vB s % B)) := by
  have := zeG (jU (vB s % B)) (jU (vB s % B)) (by omega) (by omega)
  rwa [jP] at this
 have hs : vG.f ([1] : List Int) (wrap64 (p - e)) = some (zV B) := by
  rw [w64 (x := p - e) (by omega) (by omega), zhI (by decide) (by decide) (by omega), show zH [1] = 1 by decide, Nat.one_mul, hB]
 have hc : qN.f (zV (vB s % B + vB s % B)) (zV B) = some (yS (vB s % B + vB s % B) B) := by
  have := zeN (jU (vB s % B + vB s % B)) (jU B) (by omega) (by omega)
  rwa [jP, jP] at this
 refine evE ha (evE hs (evE hc ?_))
 have hres : zaE m b (vB s) e 1 p = (b, nD (vB s / B + if upB m b (vB s / B % 2 == 1) (yS (vB s % B + vB s % B) B) = true then 1 else 0), nE (vB s / B + if upB m b (vB s / B % 2 == 1) (yS (vB s % B + vB s % B) B) = true then 1 else 0) p, 0) := by
  rw [zlf h7 b (vB s) e 1 p e (Int.le_refl e) (by omega)]
  unfold rv0
  rw [zcT, hB1]
  have hq : rq m b (vB s) B = vB s / B + if upB m b (vB s / B % 2 == 1) (yS (vB s % B + vB s % B) B) = true then 1 else 0 := by
   unfold rq; simp only [ne_eq, hf, not_false_eq_true, true_and]
  rw [hq, hB, zhM, zhL, show e + ((p - e).toNat : Int) = p by omega]
 rw [hres]
 dsimp only
 by_cases hq0 : vB s / B = 0
 ·refine evF (by rw [hq0, zaC]; decide) (evE (zeF _ _ _ _) ?_)
  have : (vB s / B % 2 == 1) = false := by rw [hq0]; rfl
  rw [this]
  exact zdX (by omega) h1 h2
 obtain ⟨g1, g2⟩ := zkq hq0
 refine evT (by omega) (evT (by omega) ?_)
 have : (Int.tmod (rd (zV (vB s / B)) 0) 2 == 1) = (vB s / B % 2 == 1) := by
  rw [g2, Int.tmod_eq_emod_of_nonneg (by omega), Bool.eq_iff_iff, beq_iff_eq, beq_iff_eq]; omega
 rw [this]
 refine evE (zeF _ _ _ _) ?_
 exact zdX (by omega) h1 h2
theorem zfL (n : Nat) : (nD n).toList = ([48] : List UInt8) ↔ n = 0 := by
 rw [← zcB]
 constructor
 ·intro h; apply xV; rw [← ByteArray.toList_eq, h]; rfl
 intro h; rw [h, ByteArray.toList_eq]; rfl
theorem zpg (e : Int) (p : Nat) (h1 : -1000000 ≤ e) (h2 : e ≤ 1000000) (hp : p ≤ 1000000) : wrap64 (wrap64 (e + (p : Int)) - 1) = e + (p : Int) - 1 := by
 rw [w64 (x := e + (p : Int)) (by omega) (by omega), w64 (by omega) (by omega)]
theorem zoM {b : Bool} {s : ByteArray} {e : Int} (h : OkD s e) : zbj.f b s e = some (jZ (vB s) e) := by
 have hz := h.val
 have h1 := h.sz
 have h2 := h.lo
 have h3 := h.hi
 unfold zbj.f
 rw [zcW h]
 simp only [Option.bind_some]
 by_cases h0 : vB s = 0
 ·rw [if_pos ((zfL _).2 h0), h0]; rfl
 rw [if_neg (fun hh => h0 ((zfL _).1 hh))]
 have hl := zbc h0
 have hnd : nD (vB s) = jD (yK (vB s)) := by unfold nD; rw [if_neg h0]
 have hne : nE (vB s) e = e + (tz (vB s) : Int) := by unfold nE; rw [if_neg h0]
 rw [hnd, hne, zpg _ _ (by omega) (by omega) (by omega)]
 unfold jZ; rw [if_neg h0]; congr 1; omega
theorem znu {s : ByteArray} {e : Int} (h : OkS s e) : -10000 ≤ jZ (vB s) e ∧ jZ (vB s) e ≤ 20000 := by
 have hv := h.ok.val
 have hsz := h.sz
 have hlo := h.lo
 have hhi := h.hi
 unfold jZ
 split
 ·omega
 rename_i h0
 have : (jD (vB s)).size ≠ 0 := fun hh => h0 (xX.1 hh)
 omega
theorem zlE {b : Bool} {s : ByteArray} {e n : Int} (h : OkS s e) (h1 : n ≤ 100000) : zaF.f b s e n = some (jZ (vB s) e - max n 1 + 1) := by
 have hb := znu h
 have hm : mx n 1 = max n 1 := by unfold mx; omega
 unfold zaF.f
 rw [zoM h.ok]
 simp only [Option.bind_some]
 rw [hm, w64 (x := jZ (vB s) e - max n 1) (by omega) (by omega), w64 (by omega) (by omega)]
theorem ziM {m : Int} {b : Bool} {s : ByteArray} {e : Int} {c : Nat} (hm : 0 ≤ m) (hm7 : m ≤ 7) (hc : 1 ≤ c) (hc2 : c ≤ 5000) (h : OkS s e) (ht : jZ (vB s) e ≤ 10000) (ht2 : -5000 ≤ jZ (vB s) e) : Ev (fun k => jS.f k m b s e (c : Int)) (zaE m b (vB s) e 1 (jZ (vB s) e - (c : Int) + 1)) := by
 unfold jS.f
 refine evE (zjU m) (evT (by simp; omega) ?_)
 have : decide ((c : Int) < 1) = false := decide_eq_false (by omega)
 rw [this]
 refine Ev.step (fun k => by simp only [jS.j0, Bool.false_eq_true, if_false]; rfl) ?_
 refine evE (zlE h (by omega)) ?_
 rw [show max (c : Int) 1 = (c : Int) by omega]
 exact Ev.bind (zdW hm hm7 h (by omega) (by omega)) (Ev.now _)
theorem zlC (p q : Nat) (hp : p ≤ 1000000000) (hq : q ≤ 1000000000) : (((p : Int) + (q : Int)) % 4294967296) / 2 = (((p + q) / 2 : Nat) : Int) := by omega
theorem zkk (r b : List Int) (gr : jA r = true) (gb : jA b = true) (lr : r.length ≤ 1000001) (lb : b.length ≤ 1000000) : ∀ (d p q : Nat), q - p = d → p < q → q ≤ 1000000000 → zH b * p ≤ zH r → zH r < zH b * q →
  Ev (fun k => jT.l0 k r b (p : Int) (q : Int)) (((zH r / zH b : Nat) : Int), zV (zH r % zH b)) := by
 intro d
 induction d using Nat.strongRecOn with
 | _ d ih =>
 intro p q hd hpq hq h1 h2
 by_cases hs : 1 < q - p
 ·have hm1 : p < (p + q) / 2 := by omega
  have hm2 : (p + q) / 2 < q := by omega
  have lm : (zV (zH b * ((p + q) / 2) + 0)).length ≤ 1000001 := by
   have := xT gb
   have h3 : zH b * ((p + q) / 2) < 1000000000 ^ b.length * 1000000000 := Nat.mul_lt_mul'' this (by omega)
   rw [← Nat.pow_succ] at h3
   exact zdI h3 (by omega)
  refine Ev.step (f := fun k => (vR.f k b (((p + q) / 2 : Nat) : Int) ((0 : Nat) : Int)).bind fun t => (qN.f t r).bind fun t2 => if t2 ≤ 0 then jT.l0 k r b (((p + q) / 2 : Nat) : Int) (q : Int) else jT.l0 k r b (p : Int) (((p + q) / 2 : Nat) : Int)) (fun k => ?_) (Ev.bind (zdS gb lb (by omega) (by omega)) (Ev.bind (zbV fun _ => zeN (jU _) gr (by omega) (by omega)) ?_))
  ·simp only [jT.l0]
   rw [if_pos (by omega), zlC p q (by omega) hq]; rfl
  rw [jP, Nat.add_zero]
  by_cases hc : zH b * ((p + q) / 2) ≤ zH r
  ·have c0 : yS (zH b * ((p + q) / 2)) (zH r) ≤ 0 := by
    unfold yS
    split
    ·omega
    rw [if_neg (by omega)]; omega
   simp only [c0, if_true]
   exact ih _ (by omega) _ _ rfl hm2 hq hc h2
  have c0 : ¬ yS (zH b * ((p + q) / 2)) (zH r) ≤ 0 := by unfold yS; rw [if_neg (by omega), if_pos (by omega)]; omega
  simp only [c0, if_false]
  exact ih _ (by omega) _ _ rfl hm1 (by omega) h1 (by omega)
 have hq1 : q = p + 1 := by omega
 subst hq1
 have hb0 : 0 < zH b := by
  rcases Nat.eq_zero_or_pos (zH b) with h0 | h0
  ·rw [h0] at h2; omega
  exact h0
 have e1 : zH r / zH b = p := by
  rw [Nat.mul_add] at h2
  exact Nat.div_eq_of_lt_le (by rw [Nat.mul_comm]; exact h1) (by rw [Nat.add_mul, Nat.mul_comm p]; omega)
 have e2 : zH r % zH b = zH r - zH b * p := by
  have := Nat.div_add_mod (zH r) (zH b)
  rw [e1] at this; omega
 have lm : (zV (zH b * p + 0)).length ≤ 1000001 := by
  exact zdI (Nat.lt_of_le_of_lt h1 (xT gr)) lr
 refine Ev.step (f := fun k => (vR.f k b ((p : Nat) : Int) ((0 : Nat) : Int)).bind fun t => (xZ.f r t).bind fun t2 => some (((p : Nat) : Int), t2.1)) (fun k => ?_) (Ev.bind (zdS gb lb (by omega) (by omega)) (Ev.bind (zbV fun _ => zoh gr (jU _) (by omega) (by omega) (by rw [jP]; omega)) ?_))
 ·simp only [jT.l0]
  rw [if_neg (by omega)]; rfl
 rw [jP, Nat.add_zero, e1, e2]; exact Ev.now _
theorem zmz {r b : List Int} (gr : jA r = true) (gb : jA b = true) (lr : r.length ≤ 1000001) (lb : b.length ≤ 1000000) (h : zH r < 1000000000 * zH b) : Ev (fun k => jT.f k r b) (((zH r / zH b : Nat) : Int), zV (zH r % zH b)) := by
 have := zkk r b gr gb lr lb _ 0 1000000000 rfl (by omega) (by omega) (by omega) (by rw [Nat.mul_comm]; exact h)
 exact this
theorem zms (A V y p r X Q R : Nat) (h : X * y + r = V) (hq : Q = (p + 1000000000 * r) / y) (hr : R = (p + 1000000000 * r) % y) : (Q + 1000000000 * X) * y + R = p + 1000000000 * V := by
 have := Nat.div_add_mod (p + 1000000000 * r) y
 rw [← hq, ← hr] at this
 rw [Nat.add_mul, Nat.mul_assoc, Nat.mul_comm _ y, ← h, Nat.mul_add]; omega
theorem zeV (a b : List Int) (ga : jA a = true) (gb : jA b = true) (la : a.length ≤ 1000000) (lb : b.length ≤ 1000000) (hb : 0 < zH b) : ∀ (n : Nat) (q r : List Int), n ≤ a.length → q.length = a.length → jA q = true → jA r = true → r.length ≤ 1000000 → zH r < zH b → zH (q.drop n) * zH b + zH r = zH (a.drop n) →
  Ev (fun k => jI.l0 k a b q r ((n : Int) - 1)) (zV (zH a / zH b), zV (zH a % zH b), true)
 | 0, q, r, hn, hq, gq, gr, lr, hr, hv => by
  rw [List.drop_zero, List.drop_zero] at hv
  have e1 : zH q = zH a / zH b := by rw [← hv, Nat.mul_comm, Nat.mul_add_div hb, Nat.div_eq_of_lt hr]; rfl
  have e2 : zH r = zH a % zH b := by rw [← hv, Nat.mul_comm, Nat.mul_add_mod, Nat.mod_eq_of_lt hr]
  refine zdk (Ev.step (f := fun _ => (jW.f q).bind fun t => (jW.f r).bind fun t2 => some (t, t2, true)) (fun k => ?_) (Ev.bind (zbV fun _ => xC gq (by omega)) (Ev.bind (zbV fun _ => xC gr (by omega)) (Ev.now _)))) ?_
  ·simp only [jI.l0]; rw [if_neg (by omega)]
  rw [e1, e2]
 | n + 1, q, r, hn, hq, gq, gr, lr, hr, hv => by
  have hna : n < a.length := by omega
  have hnq : n < q.length := by omega
  have pa := yF.1 ga _ (List.getElem_mem hna)
  obtain ⟨p, hp⟩ : ∃ v : Nat, a[n] = (v : Int) := ⟨a[n].toNat, by omega⟩
  have hp9 : p < 1000000000 := by omega
  have gpr : jA ([(p : Int)] ++ r) = true := yL.2 ⟨yI.2 ⟨by omega, rfl⟩, gr⟩
  have vpr : zH ([(p : Int)] ++ r) = p + 1000000000 * zH r := by simp [zH]
  have hlt : p + 1000000000 * zH r < 1000000000 * zH b := by omega
  have hqb : (p + 1000000000 * zH r) / zH b < 1000000000 := by rw [Nat.div_lt_iff_lt_mul hb]; exact hlt
  have hmod := Nat.mod_lt (p + 1000000000 * zH r) hb
  have lt2 : (zV (p + 1000000000 * zH r)).length ≤ 1000001 := by
   rw [← vpr]
   exact Nat.le_trans (zaO (xT gpr)) (by simp; omega)
  have lm : (zV ((p + 1000000000 * zH r) % zH b)).length ≤ 1000000 := by
   have := xT gb
   exact zdI (Nat.lt_trans hmod this) lb
  have ex : (((n + 1 : Nat) : Int) - 1) = (n : Int) := by omega
  refine Ev.step (f := fun k => (jW.f ([(p : Int)] ++ r)).bind fun t => (jT.f k t b).bind fun t2 => jI.l0 k a b (q.set n t2.1) t2.2 ((n : Int) - 1)) (fun k => ?_) (Ev.bind (zbV fun _ => xC gpr (by simp; omega)) ?_)
  ·simp only [ex, jI.l0, Option.bind_some]
   rw [if_pos (by omega), if_pos (by omega), if_pos (by omega), vW hna, hp, if_pos (by simp; omega)]
   have c1 : (n : Int) < (q.length : Int) := by omega
   simp only [c1, if_true, Int.toNat_natCast, w64 (x := (n : Int) - 1) (by omega) (by omega)]
  rw [vpr]
  refine Ev.bind (zmz (jU _) gb (by omega) lb (by rw [jP]; exact hlt)) ?_
  rw [jP]
  refine zeV a b ga gb la lb hb n _ _ (by omega) (by simpa using hq) (zcV gq n (zjf hqb)) (jU _) lm (by rw [jP]; exact hmod) ?_
  rw [jP, zcF q n _ hnq, List.drop_eq_getElem_cons hna, hp]
  exact zms 0 _ _ p _ _ _ _ hv rfl rfl
theorem zly {a b : List Int} (ga : jA a = true) (gb : jA b = true) (la : a.length ≤ 1000000) (lb : b.length ≤ 1000000) (hb : 0 < zH b) : Ev (fun k => jI.f k a b) (zV (zH a / zH b), zV (zH a % zH b), true) := by
 unfold jI.f
 refine Ev.bind (zbV fun _ => xC gb (by omega)) ?_
 have lb2 : (zV (zH b)).length ≤ 1000000 := Nat.le_trans (zaO (xT gb)) lb
 have h0 : ¬ ((zV (zH b)).length : Int) = 0 := by
  intro h
  have : zV (zH b) = [] := List.eq_nil_of_length_eq_zero (by omega)
  have := zaB.1 this; omega
 have h1 : (0 : Int) ≤ (a.length : Int) := by omega
 have h2 : a.length ≤ 70368744177664 := by omega
 simp only [h0, h1, if_true, if_false, Int.toNat_natCast, h2]
 rw [w64 (by omega) (by omega)]
 have := zeV a (zV (zH b)) ga (jU _) la lb2 (by rw [jP]; exact hb) a.length (List.replicate a.length 0) [] (Nat.le_refl _) (by simp) (zak _) rfl (by simp) (by rw [jP]; exact hb) (by
  rw [List.drop_of_length_le (by simp), List.drop_of_length_le (Nat.le_refl _)]; simp [zH])
 rwa [jP] at this
theorem zhD (a b : List Int) (ga : jA a = true) (gb : jA b = true) (la : a.length ≤ 1000000) (lb : b.length ≤ 1000000) : ∀ (d n : Nat) (x : List Int), b.length - n = d → n ≤ b.length → jA x = true → x.length = a.length + b.length + 1 → zH x = zH a * zH (b.take n) →
  Ev (fun k => yE.l0 k a x b (b.length : Int) (n : Int)) (zV (zH a * zH b))
 | 0, n, x, h1, h2, gx, hx, hv => by
  refine qZ (r' := zV (zH x)) (fun k => ?_) ?_
  ·simp only [yE.l0, jW.f]; rw [if_neg (by omega), xC gx (by omega)]; rfl
  rw [hv, List.take_of_length_le (by omega)]
 | d + 1, n, x, h1, h2, gx, hx, hv => by
  have hnb : n < b.length := by omega
  have pb := yF.1 gb _ (List.getElem_mem hnb)
  obtain ⟨y, hy⟩ : ∃ v : Nat, b[n] = (v : Int) := ⟨b[n].toNat, by omega⟩
  have e : zH (b.take (n + 1)) = zH (b.take n) + 1000000000 ^ n * y := by
   rw [List.take_succ_eq_append_getElem hnb, uU, hy, Int.toNat_natCast, List.length_take, Nat.min_eq_left (by omega)]
  have key : zH x + 1000000000 ^ n * (zH a * y) = zH a * zH (b.take (n + 1)) := by
   rw [hv, e, Nat.mul_add, Nat.mul_left_comm (1000000000 ^ n)]
  have hlt : zH x + 1000000000 ^ n * (zH a * y) < 1000000000 ^ x.length := by
   rw [key, hx]
   have va := xT ga
   have vb := xT (zcG gb (n + 1))
   have h3 := Nat.mul_lt_mul'' va vb
   rw [← Nat.pow_add] at h3
   exact Nat.lt_of_lt_of_le h3 (Nat.pow_le_pow_right (by omega) (by rw [List.length_take]; omega))
  obtain ⟨r, hr, g1, g2, g3⟩ := zlH (p := n) gx ga (show y < 1000000000 by omega) (by omega) (by omega) hlt
  refine Ev.step (f := fun k => (jG.f k x a (y : Int) (n : Int)).bind fun t => yE.l0 k a t b (b.length : Int) ((n + 1 : Nat) : Int)) (fun k => ?_) (Ev.bind hr (zhD a b ga gb la lb d (n + 1) r (by omega) (by omega) g1 (by omega) (by rw [g3, key])))
  simp only [yE.l0]; rw [if_pos (by omega), if_pos (by omega), if_pos (by omega), vW hnb, hy, zaz _ (by omega)]
theorem zll {a b : List Int} (ga : jA a = true) (gb : jA b = true) (la : a.length ≤ 1000000) (lb : b.length ≤ 1000000) : Ev (fun k => yE.f k a b) (zV (zH a * zH b)) := by
 unfold yE.f
 rw [zlu _ _ la lb]
 have c1 : (0 : Int) ≤ ((a.length + b.length + 1 : Nat) : Int) := by omega
 have c2 : a.length + b.length + 1 ≤ 70368744177664 := by omega
 simp only [Int.toNat_natCast, c1, c2, if_true]
 exact zhD a b ga gb la lb b.length 0 _ rfl (by omega) (zak _) (by simp) (by rw [zaN]; simp [zH])
theorem mnP (a b : Int) : mn a b = min b a := by unfold mn; split <;> omega
theorem zmp {q : Nat} (h : q ≠ 0) : (zV q).length > 0 ∧ rd (zV q) 0 = ((q % 1000000000 : Nat) : Int) := by
 have hv := jP q
 have hg := jU q
 rcases hl : zV q with _ | ⟨x, l⟩
 ·exact absurd (zaB.1 hl) h
 rw [hl] at hv hg
 obtain ⟨hx, _⟩ := yI.1 hg
 simp only [zH] at hv
 refine ⟨by simp, ?_⟩
 show x = _
 omega
theorem zlF (v : Nat) : dB (zaA v) = true ∧ (zaA v).size ≠ 0 ∧ vB (zaA v) = v := by
 unfold zaA
 by_cases h : v = 0
 ·rw [if_pos h, h]; exact ⟨rfl, by decide, rfl⟩
 rw [if_neg h]; exact ⟨zgr v, fun e => h (xX.1 e), zcM v⟩
theorem zgx {v k : Nat} (h : (jD v).size ≤ k) (hk : 1 ≤ k) : (zaA v).size ≤ k := by
 unfold zaA
 by_cases h0 : v = 0
 ·rw [if_pos h0]; exact hk
 rw [if_neg h0]; exact h
theorem zkb {v k : Nat} (h : (jD v).size ≤ k) (hk : k ≤ 1000000) : vC.f (zV v) = some (zaA v) := by
 have := yM v
 unfold vC.f; rw [if_pos ⟨jU v, by omega⟩, jP]
theorem zjh {b : Bool} {v : Nat} {p : Int} (hz : (jD v).size ≤ 100000) (h1 : -100000 ≤ p) (h2 : p ≤ 100000) : ((vC.f (zV v)).bind fun t => (jV.f b t p).bind fun u => some (u.1, u.2.1, u.2.2, (0 : Int))) = some (b, nD v, nE v p, 0) := by
 obtain ⟨d1, d2, d3⟩ := zlF v
 have d4 := zgx (k := 100000) hz (by decide)
 rw [zkb hz (by decide)]
 simp only [Option.bind_some]
 rw [zcW ⟨d1, d2, by omega, h1, h2⟩, d3]; rfl
theorem znp {q : Nat} (h : (jD q).size ≤ 1000000) : vX.f (zV q) ([1] : List Int) = some (zV (q + 1)) := by
 have hl := yM q
 have h1 : ([1] : List Int).length ≤ 1000000000000 := by show 1 ≤ 1000000000000; omega
 have := zeG (jU q) (b := [1]) (by decide) (by omega) h1
 rwa [jP, show zH [1] = 1 from rfl] at this
theorem zln {b : Bool} {s : ByteArray} {e E : Int} {q B : Nat} {u : Bool} (hz : (jD q).size ≤ 40000) (hB : (jD B).size ≤ 40000) (h1 : -100000 ≤ E) (h2 : E ≤ 100000) : Ev (fun k => jM.j1 k (zV B) E (zV q) u b s e) (b, nD ((q + if u = true then 1 else 0) * B), nE ((q + if u = true then 1 else 0) * B) E, 0) := by
 have lB := yM B
 cases u
 ·have lq := yM q
  have hm := zfi hz hB
  have := zll (jU q) (jU B) (by omega) (by omega)
  rw [jP, jP] at this
  refine Ev.step (fun k => by simp only [jM.j1, Bool.false_eq_true, if_false]; rfl) (Ev.bind this (zbV fun _ => ?_))
  simp only [Bool.false_eq_true, if_false, Nat.add_zero]
  exact zjh (by omega) h1 h2
 have ha := znp (q := q) (by omega)
 have h3 := zbG (m := q) (n := 1) (p := 40000) hz (by rw [zbb]; omega)
 have lq := yM (q + 1)
 have hm := zfi h3 hB
 have := zll (jU (q + 1)) (jU B) (by omega) (by omega)
 rw [jP, jP] at this
 refine Ev.step (fun k => by simp only [jM.j1, if_true]; rfl) (evE ha (Ev.bind this (zbV fun _ => ?_)))
 simp only [if_true]
 exact zjh (by omega) h1 h2
theorem zoo {m : Int} {b : Bool} {s : ByteArray} {e p : Int} {S : Nat} (h : OkS s e) (hS0 : S ≠ 0) (hS : (jD S).size ≤ 1000) (h1 : -10000 ≤ p) (h2 : p ≤ 10000) : Ev (fun k => jM.j0 k m p (zV S) false b s e) (zaE m b (vB s) e S p) := by
 have hv := h.ok.val
 have hz := h.sz
 have hlo := h.lo
 have hhi := h.hi
 have hc := zhS h.ok
 have lS := yM S
 obtain ⟨E, hE⟩ : ∃ E, E = mn e p := ⟨_, rfl⟩
 have hE2 : E = min e p := by rw [hE, mnP]; omega
 have sB : vG.f (zV S) (wrap64 (p - E)) = some (zV (atE S p E)) := by
  rw [w64 (x := p - E) (by omega) (by omega), zhI (jU _) (by omega) (by omega), jP]; rfl
 have sN : vG.f (zV (vB s)) (wrap64 (e - E)) = some (zV (atE (vB s) e E)) := by
  rw [w64 (x := e - E) (by omega) (by omega), zhI (jU _) (by omega) (by omega), jP]; rfl
 have zB : (jD (atE S p E)).size ≤ 30000 := by
  unfold atE; rw [zbW hS0]; omega
 have zN := zgo b (n := vB s) (p := 10000) e E (by omega)
 rw [zeh] at zN
 have hB0 := zje hS0 p E
 refine Ev.step (fun k => by simp only [jM.j0, Bool.false_eq_true, if_false, ← hE]; rfl) ?_
 refine evE sB (evE (znh h.ok) (evE sN ?_))
 obtain ⟨N, hN⟩ : ∃ N, N = atE (vB s) e E := ⟨_, rfl⟩
 obtain ⟨B, hBB⟩ : ∃ B, B = atE S p E := ⟨_, rfl⟩
 rw [← hN, ← hBB]
 rw [← hN] at zN
 rw [← hBB] at zB hB0
 have zN2 : (jD N).size ≤ 30000 := by omega
 have zr := xU (Nat.mod_le N B) zN2
 have zq := xU (Nat.div_le_self N B) zN2
 have lN := yM N
 have lB := yM B
 have lr := yM (N % B)
 have z2 := zbG zr zr
 have l2 := yM (N % B + N % B)
 have hd := zly (jU N) (jU B) (by omega) (by omega) (by rw [jP]; exact hB0)
 rw [jP, jP] at hd
 refine Ev.bind hd ?_
 dsimp only
 by_cases hf : N % B = 0
 ·have hf2 : atE (vB s) e (min e p) % atE S p (min e p) = 0 := by rw [← hE2, ← hN, ← hBB]; exact hf
  rw [zfX hf2]
  exact evT (by rw [hf, zaC]; rfl) (evE (zcW h.ok) (Ev.now _))
 have hf2 : ¬ atE (vB s) e (min e p) % atE S p (min e p) = 0 := by rw [← hE2, ← hN, ← hBB]; exact hf
 refine evF (fun hh => hf (zaB.1 (List.eq_nil_of_length_eq_zero (by omega)))) ?_
 by_cases h7 : m = 7
 ·subst h7
  rw [zeu hf2]
  exact evT rfl (Ev.now _)
 refine evF h7 ?_
 have ha : vX.f (zV (N % B)) (zV (N % B)) = some (zV (N % B + N % B)) := by
  have := zeG (jU (N % B)) (jU (N % B)) (by omega) (by omega)
  rwa [jP] at this
 have hcm : qN.f (zV (N % B + N % B)) (zV B) = some (yS (N % B + N % B) B) := by
  have := zeN (jU (N % B + N % B)) (jU B) (by omega) (by omega)
  rwa [jP, jP] at this
 have hres : zaE m b (vB s) e S p = (b, nD ((N / B + if upB m b (N / B % 2 == 1) (yS (N % B + N % B) B) = true then 1 else 0) * B), nE ((N / B + if upB m b (N / B % 2 == 1) (yS (N % B + N % B) B) = true then 1 else 0) * B) E, 0) := by
  rw [zef h7, ← hE2]
  unfold rv0
  rw [← hN, ← hBB]
  have hq : rq m b N B = N / B + if upB m b (N / B % 2 == 1) (yS (N % B + N % B) B) = true then 1 else 0 := by
   unfold rq; simp only [ne_eq, hf, not_false_eq_true, true_and]
  rw [hq]
 rw [hres]
 by_cases hq0 : N / B = 0
 ·refine evF (by rw [hq0, zaC]; decide) (evE ha (evE hcm (evE (zeF _ _ _ _) ?_)))
  have : (N / B % 2 == 1) = false := by rw [hq0]; rfl
  rw [this]
  exact zln (by omega) (by omega) (by omega) (by omega)
 obtain ⟨g1, g2⟩ := zmp hq0
 refine evT (by omega) (evT (by omega) (evE ha (evE hcm ?_)))
 have : (Int.tmod (rd (zV (N / B)) 0) 2 == 1) = (N / B % 2 == 1) := by
  rw [g2, Int.tmod_eq_emod_of_nonneg (by omega), Bool.eq_iff_iff, beq_iff_eq, beq_iff_eq]; omega
 rw [this]
 refine evE (zeF _ _ _ _) ?_
 exact zln (by omega) (by omega) (by omega) (by omega)
theorem zny {st : ByteArray} (hst : st.size ≤ 140737488351232) : uI.f st = some (if dB st = true ∧ st.size ≠ 0 then (zV (vB st), true) else ([], false)) := by unfold uI.f; rw [if_pos hst]
theorem ziX {m : Int} {b : Bool} {s st : ByteArray} {e p : Int} (hm : 0 ≤ m) (hm7 : m ≤ 7) (h : OkS s e) (hd : dB st = true) (hs0 : vB st ≠ 0) (hsz : st.size ≤ 40) (h1 : -10000 ≤ p) (h2 : p ≤ 10000) : Ev (fun k => jM.f k m b s e st p) (zaE m b (vB s) e (vB st) p) := by
 have hn0 : st.size ≠ 0 := by
  intro h0
  rw [ByteArray.size_eq_zero_iff.1 h0] at hs0; exact hs0 rfl
 have hst := zau (zhA hd)
 unfold jM.f
 refine evE (zny (by omega)) (evE (zjU m) (evT (by simp; omega) ?_))
 rw [if_pos ⟨hd, hn0⟩]
 refine evT rfl (evF (by omega) ?_)
 have : (((zV (vB st)).length : Int) == 0) = false := by
  rw [beq_eq_false_iff_ne]
  intro hh
  exact hs0 (zaB.1 (List.eq_nil_of_length_eq_zero (by omega)))
 dsimp only
 rw [this]
 exact zoo h hs0 (by omega) h1 h2
theorem zlx {b : Bool} {s : ByteArray} {e n : Int} (h : OkD s (e + n)) (h1 : -1000000 ≤ e) (h2 : e ≤ 1000000) (h3 : -1000000 ≤ n) (h4 : n ≤ 1000000) : yA.f b s e n = some (b, nD (vB s), nE (vB s) (e + n)) := by
 unfold yA.f; rw [w64 (x := e + n) (by omega) (by omega), zcW h]; rfl
theorem zhk (n : Nat) : (nD n).toList = ([48] : List UInt8) ↔ n = 0 := by
 rw [← zcB]
 constructor
 ·intro h; apply xV; rw [← ByteArray.toList_eq, h]; rfl
 intro h; rw [h, ByteArray.toList_eq]; rfl
theorem zjj {b : Bool} {s : ByteArray} {e : Int} (h : OkD s e) (h2 : OkD (nD (vB s)) (nE (vB s) e)) : xG.f b s e = some (zbx (vB s) e) := by
 unfold xG.f
 rw [zcW h]
 simp only [Option.bind_some]
 unfold zbx
 by_cases h0 : vB s = 0
 ·rw [if_pos ((zhk _).2 h0)]; simp [h0]
 rw [if_neg (fun hh => h0 ((zhk _).1 hh))]
 by_cases h1 : nE (vB s) e ≥ -300
 ·rw [if_pos h1, zoM h2, zdT, zbR]
  have h1' : -300 ≤ nE (vB s) e := h1
  simp only [Option.bind_some, h0, h1', false_or, true_and]
 rw [if_neg h1]
 have h1' : ¬ -300 ≤ nE (vB s) e := h1
 simp [h0, h1']
theorem zpk {b : Bool} {s : ByteArray} {e : Int} (hs : s.size ≤ 140737488351232) : zaK.f b s e = some (zca s e) := by
 unfold zaK.f zca
 by_cases h1 : (s.size : Int) > 1000
 ·rw [if_pos h1]; have : ¬ s.size ≤ 1000 := by omega
  simp [this]
 rw [if_neg h1]
 by_cases h2 : e < -1000
 ·rw [if_pos h2]; have : ¬ -1000 ≤ e := by omega
  simp [this]
 rw [if_neg h2]
 by_cases h3 : e > 1000
 ·rw [if_pos h3]; have : ¬ e ≤ 1000 := by omega
  simp [this]
 rw [if_neg h3]
 have c1 : s.size ≤ 1000 := by omega
 have c2 : -1000 ≤ e := by omega
 have c3 : e ≤ 1000 := by omega
 unfold uI.f
 rw [if_pos hs]
 by_cases h4 : dB s = true ∧ s.size ≠ 0
 ·rw [if_pos h4]; simp [h4.1, h4.2, c1, c2, c3]
 rw [if_neg h4]
 have : (dB s && decide (s.size ≠ 0)) = false := by
  cases hd : dB s
  ·rfl
  simp only [Bool.true_and, decide_eq_false_iff_not]; intro hh; exact h4 ⟨hd, hh⟩
 rw [this]; simp
theorem countP {b : Bool} {s : ByteArray} {e : Int} (h : OkD s e) : zbn.f b s e = some ((nD (vB s)).size : Int) := by
 unfold zbn.f; rw [zcW h]; rfl
end Go.Proofs.YtcmgdjnjmobkoaaGreatDoor.Px
namespace Go.Proofs.YtcmgdjnjmobkoaaGreatDoor.Px
set_option linter.all false
open Fig Go.RowKit Go.Proofs.YtcmgdjnjmobkoaaGreatDoorW.PrintWords Go.Proofs.YtcmgdjnjmobkoaaGreatDoorW.PrintLast Go.Proofs.YtcmgdjnjmobkoaaGreatDoorW.PrintMore
attribute [local go_sem] vK vO uE uD yZ yY vM vN
theorem zlA {m : Int} {neg : Bool} {n st x y : Nat} {e p k : Int} (hn : (jD n).size ≤ x) (hs : (jD st).size ≤ y) (hs0 : st ≠ 0) (h1 : k ≤ e) (h2 : k ≤ p) : (jD (rv0 m neg n e st p k)).size ≤ max (x + (e - k).toNat) (y + (p - k).toNat) + 1 := by
 have a := zgo neg (n := n) (p := x) e k hn
 have b := zgo neg (n := st) (p := y) p k hs
 rw [zeh] at a b
 have hB := zje hs0 p k
 have h3 := (zns (m := m) (neg := neg) (N := atE n e k) hB).1
 refine xU (n := atE n e k + atE st p k) (by unfold rv0; omega) ?_
 exact zbG (xU (Nat.le_refl _) (by omega)) (xU (Nat.le_refl _) (by omega))
def cS (P : yJ) : Nat := (zbL P).2.toNat
theorem zkn {P : yJ} (hg : xN P) : 1 ≤ cS P ∧ cS P ≤ 80 ∧ (zbL P).2 = (cS P : Int) := by
 have := hg.mi0; have := hg.mi4; have := hg.mf0; have := hg.mfx; have := hg.xf4; have := hg.ms0; have := hg.msx; have := hg.xs4
 unfold cS zbL
 split
 ·refine ⟨by omega, by omega, by omega⟩
 have h := zhj hg
 have h1 : 1 ≤ uK P + P.xf := by
  unfold uK
  split
  ·omega
  rename_i hn
  by_cases h0 : P.mi + P.xf = 0
  ·exact absurd (.inr (.inr h0)) hn
  omega
 refine ⟨by show 1 ≤ (uK P + P.xf).toNat; omega, by show (uK P + P.xf).toNat ≤ 80; omega, by show uK P + P.xf = ((uK P + P.xf).toNat : Int); omega⟩
def stP (P : yJ) (t : Int) : Nat × Int := if P.sci = true ∨ 0 < P.ms then (1, t - (cS P : Int) + 1) else if P.inc.size ≠ 0 then (vB P.inc, -P.xf) else (1, -P.xf)
theorem zoI {P : yJ} (hg : xN P) (hm : zcK P) (t : Int) : (stP P t).1 ≠ 0 ∧ (jD (stP P t).1).size ≤ 40 ∧ t - 80 ≤ max (stP P t).2 (t - 80) ∧ ((stP P t).2 = t - (cS P : Int) + 1 ∨ (-40 ≤ (stP P t).2 ∧ (stP P t).2 ≤ 0)) := by
 have := hg.mf0; have := hg.mfx; have := hg.xf4
 unfold stP
 split
 ·exact ⟨by show (1 : Nat) ≠ 0; decide, by show (jD 1).size ≤ 40; rw [zbb]; decide, by omega, .inl rfl⟩
 split
 ·rename_i hi
  obtain ⟨h1, h2⟩ := hm.dig hi
  exact ⟨h2, Nat.le_trans (zau (zhA h1)) hg.inc4, by omega, .inr ⟨by show -40 ≤ -P.xf; omega, by show -P.xf ≤ 0; omega⟩⟩
 exact ⟨by show (1 : Nat) ≠ 0; decide, by show (jD 1).size ≤ 40; rw [zbb]; decide, by omega, .inr ⟨by show -40 ≤ -P.xf; omega, by show -P.xf ≤ 0; omega⟩⟩
theorem zii {P : yJ} (hg : xN P) (hm : zcK P) {m : Int} (h0 : 0 ≤ m) (h7 : m ≤ 7) {b : Bool} {s : ByteArray} {e : Int} (ok : OkS s e) (h1 : jZ (vB s) e ≤ 10000) (h2 : -5000 ≤ jZ (vB s) e) :
  zfA P m b s e (zaE m b (vB s) e (stP P (jZ (vB s) e)).1 (stP P (jZ (vB s) e)).2) := by
 obtain ⟨c1, c2, c3⟩ := zkn hg
 have := hg.mf0; have := hg.mfx; have := hg.xf4
 refine ⟨fun h => ?_, fun h hi => ?_, fun h hi => ?_⟩
 ·rw [c3]
  have e1 : stP P (jZ (vB s) e) = (1, jZ (vB s) e - (cS P : Int) + 1) := by unfold stP; rw [if_pos h]
  rw [e1]
  exact ziM h0 h7 c1 (by omega) ok h1 h2
 ·have e1 : stP P (jZ (vB s) e) = (vB P.inc, -P.xf) := by unfold stP; rw [if_neg h, if_pos hi]
  rw [e1]
  exact ziX h0 h7 ok (hm.dig hi).1 (hm.dig hi).2 hg.inc4 (by omega) (by omega)
 have e1 : stP P (jZ (vB s) e) = (1, -P.xf) := by unfold stP; rw [if_neg h, if_neg (by omega)]
 rw [e1]
 exact zdW h0 h7 ok (by omega) (by omega)
theorem zgL (q : Pat) : 0 ≤ q.mult ∧ q.mult ≤ 3 := by unfold Pat.mult; split; omega; split <;> omega
theorem zpj {m : Int} (h0 : 0 ≤ m) (h7 : m ≤ 7) : yG.f m = some true := by unfold yG.f; rw [if_pos h0, decide_eq_true (by omega)]
def ziC (b : Bool) (N : Nat) (X : Int) : Bool × ByteArray × Int × Int := if zbx (yK N) X = true then (b, nD N, X, 0) else (false, ⟨#[]⟩, 0, 10)
theorem zls {n : Nat} {e : Int} (h : (jD n).size ≤ 1000) (h1 : -1010 ≤ e) (h2 : e ≤ 1010) : -1010 ≤ jZ n e ∧ jZ n e ≤ 2010 := by
 unfold jZ
 split
 ·omega
 rename_i h0
 have : (jD n).size ≠ 0 := fun hh => h0 (xX.1 hh)
 omega
def rN (q : Pat) (m : Int) (b : Bool) (n : Nat) (e : Int) : Nat := rv0 m b (yK n) (nE n (e + q.mult)) (stP q.P (jZ n (e + q.mult))).1 (stP q.P (jZ n (e + q.mult))).2 (min (nE n (e + q.mult)) (stP q.P (jZ n (e + q.mult))).2)
def rK (q : Pat) (n : Nat) (e : Int) : Int := min (nE n (e + q.mult)) (stP q.P (jZ n (e + q.mult))).2
def rX (q : Pat) (m : Int) (b : Bool) (n : Nat) (e : Int) : Int := nE (yK (rN q m b n e)) (nE (rN q m b n e) (rK q n e) + -q.mult)
theorem zjL {q : Pat} (hq : zbw q) (m : Int) (b : Bool) {n : Nat} {e : Int} (hn : (jD n).size ≤ 120) (h1 : -1000 ≤ e) (h2 : e ≤ 1000) : (jD (rN q m b n e)).size ≤ 4000 ∧ -1200 ≤ rK q n e ∧ rK q n e ≤ 1200 := by
 obtain ⟨m0, m3⟩ := zgL q
 obtain ⟨s1, s2, s3, s4⟩ := zoI hq.good hq.more (jZ n (e + q.mult))
 obtain ⟨c1, c2, c3⟩ := zkn hq.good
 have ht := zls (n := n) (e := e + q.mult) (by omega) (by omega) (by omega)
 have ht2 : jZ n (e + q.mult) ≤ 1200 := by
  unfold jZ; split
  ·omega
  omega
 have e1 := zbX n (e + q.mult) hn
 have e2 := zbt n (e + q.mult)
 have hc : (jD (yK n)).size ≤ 120 := xU (zdt n) hn
 unfold rN rK
 obtain ⟨p, hp⟩ : ∃ p, p = (stP q.P (jZ n (e + q.mult))).2 := ⟨_, rfl⟩
 rw [← hp] at s4 ⊢
 have h := zlA (m := m) (neg := b) (n := yK n) (st := (stP q.P (jZ n (e + q.mult))).1) (e := nE n (e + q.mult)) (p := p) (k := min (nE n (e + q.mult)) p) hc s2 s1 (by omega) (by omega)
 refine ⟨Nat.le_trans h ?_, by omega, by omega⟩
 omega
theorem zfP {q : Pat} (hq : zbw q) {m : Int} (h0 : 0 ≤ m) (h6 : m ≤ 6) (b : Bool) {s : ByteArray} {e : Int} (hs : s.size ≤ 120) (hg : zca s e = true) (hr : zbx (vB s) e = true) :
  zdv q m b s e (ziC b (rN q m b (vB s) e) (rX q m b (vB s) e)) := by
 obtain ⟨g1, g2, g3, g4, g5⟩ := zcy.1 hg
 obtain ⟨m0, m3⟩ := zgL q
 have okd := OkD.of_good hg
 have hn : (jD (vB s)).size ≤ 120 := Nat.le_trans okd.val hs
 have okE : OkD s (e + q.mult) := ⟨g1, g2, by omega, by omega, by omega⟩
 have okS := OkS.norm (n := vB s) (e := e + q.mult) (by omega) (by omega) (by omega)
 have hc : vB (nD (vB s)) = yK (vB s) := zdT _
 have ht := zls (n := vB s) (e := e + q.mult) (by omega) (by omega) (by omega)
 have hr1 : xG.f b s e = some true := by rw [zjj okd (OkD.norm (by omega) (by omega) (by omega)), hr]
 refine .inr (.inr (.inr ⟨zpj h0 (by omega), by rw [zpk (by omega), hg], hr1, b, nD (vB s), nE (vB s) (e + q.mult), _, zlx okE (by omega) (by omega) (by omega) (by omega), zii hq.good hq.more h0 (by omega) okS (by rw [hc, zbR]; omega) (by rw [hc, zbR]; omega), .inr ?_⟩))
 rw [hc, zbR, zef (by omega)]
 obtain ⟨k1, k2, k3⟩ := zjL hq m b (n := vB s) (e := e) hn (by omega) (by omega)
 obtain ⟨N, hN⟩ : ∃ N, N = rN q m b (vB s) e := ⟨_, rfl⟩
 obtain ⟨k, hk⟩ : ∃ k, k = rK q (vB s) e := ⟨_, rfl⟩
 have e1 : rX q m b (vB s) e = nE (yK N) (nE N k + -q.mult) := by unfold rX; rw [← hN, ← hk]
 rw [e1]
 show ((0 : Int) = 0 ∧ _)
 refine ⟨rfl, b, nD N, nE (yK N) (nE N k + -q.mult), zbx (yK N) (nE (yK N) (nE N k + -q.mult)), ?_, ?_, ?_⟩
 ·show yA.f b (nD (rN q m b (vB s) e)) (nE (rN q m b (vB s) e) (rK q (vB s) e)) (-q.mult) = _
  rw [← hN, ← hk]
  rw [← hN] at k1
  rw [← hk] at k2 k3
  have a1 := zbX N k k1
  have a2 := zbt N k
  have a3 := zeM (n := N) k1 (by omega)
  rw [zlx ⟨zdP N, zdJ N, by omega, by omega, by omega⟩ (by omega) (by omega) (by omega) (by omega), zdT, zjC]
 ·rw [← hN] at k1
  rw [← hk] at k2 k3
  have a1 := zbX N k k1
  have a2 := zbt N k
  have a3 := zeM (n := N) k1 (by omega)
  have hcz : (jD (yK N)).size ≤ 4000 := xU (zdt N) k1
  have b1 := zbX (yK N) (nE N k + -q.mult) hcz
  have b2 := zbt (yK N) (nE N k + -q.mult)
  have b3 := zbX (yK N) (nE (yK N) (nE N k + -q.mult)) hcz
  have b4 := zbt (yK N) (nE (yK N) (nE N k + -q.mult))
  have := zjj (b := b) (s := nD N) (e := nE (yK N) (nE N k + -q.mult)) ⟨zdP N, zdJ N, by omega, by omega, by omega⟩ (by rw [zdT, zjC]; exact ⟨zdP N, zdJ N, by omega, by omega, by omega⟩)
  rw [this, zdT]
 unfold ziC; rw [hN]
section
section
variable {P : Program} {ops : Array Oper} {rest : List Oper} {o : Oper} {a : Act} {Q : Exit → Act → World → Prop}
theorem ls_ {W : World} (N : Tmp) (n : Nat) (cs : Array Value) (t : TypeId) (h : ∀ g, g = W.heap.size → ∀ w1, w1.heap[g]? = some (.cells cs t (0, 0)) → Below W.heap.size W w1 → wpList P ops Q rest (a.put o.dst (.slice (some ⟨g, 0, none⟩) n n)) w1)
  (hd : o.dst = some N := by with_reducible rfl) (hgd : o.guard = none := by rfl) (hrun : (execOp a.eval o).run P W = .ok (.value (.slice (some ⟨W.heap.size, 0, none⟩) n n)) (W.alloc (.cells cs t (0, 0))) := by (first | (go_simp; done) | (go_simp; rfl))) : wpList P ops Q (o :: rest) a W :=
 Kd.event_run hgd hrun (h _ rfl _ (zby W _) (vV (Below.refl _ _) _))
end
theorem zpc {W : World} {g : Nat} {d d' : zgn} (h : W.heap[g]? = some (.cells #[.bool d.1, .string d.2.1, .int .i64 d.2.2, .bool d'.1, .string d'.2.1, .int .i64 d'.2.2] 23 (0, 0))) : zcN W ⟨g, 0, none⟩ [d, d'] := by
 intro i hi
 have hi : i < 2 := hi
 match i, hi with
 | 0, _ =>
  have e : (⟨g, 0, none⟩ : Addr).add (0 * 3) = ⟨g, 0, none⟩ := by rw [Addr.add_mid]
  rw [e]
  exact ⟨(zD h 0).trans rfl, (zD h 1).trans rfl, (zD h 2).trans rfl⟩
 | 1, _ =>
  have e : (⟨g, 0, none⟩ : Addr).add (1 * 3) = ⟨g, 3, none⟩ := by rw [Addr.add_mid]
  rw [e]
  exact ⟨(zD h 3).trans rfl, (zD h 4).trans rfl, (zD h 5).trans rfl⟩
end

theorem zju {b : Bool} {N : Nat} {X : Int} (h : (ziC b N X).2.2.2 = 0) : ziC b N X = (b, nD N, X, 0) := by
 unfold ziC at h ⊢
 split
 ·rfl
 rename_i hn; rw [if_neg hn] at h; exact absurd h (by decide)
end Go.Proofs.YtcmgdjnjmobkoaaGreatDoor.Px
namespace Go.Proofs.YtcmgdjnjmobkoaaGreatDoor.Px
open Fig Go.RowKit Go.Proofs.YtcmgdjnjmobkoaaGreatDoorW.PrintWords Go.Proofs.YtcmgdjnjmobkoaaGreatDoorW.PrintLast Go.Proofs.YtcmgdjnjmobkoaaGreatDoorW.PrintMore
attribute [local go_sem] vK vO uE uD yZ yY vM vN
attribute [local go_sem] qJ qW qM qX qV qU qT qP qH qY qK qQ qO qS
def zT.l0 : Nat → Int → List Int → Int → Option (ByteArray)
 | 0, _, _, _ => none
 | k + 1, x0, x3, x4 => if x4 < x0 then (if x3.length < 140737488355328 then (zT.l0 k x0 (x3 ++ [48]) (wrap64 (x4 + 1))) else (none)) else (some (strOfNums x3))
def zT.f (k : Nat) (a0 : Int) : Option (ByteArray) := zT.l0 k a0 ([] : List Int) 0
theorem zT.mono_l : ∀ k, (∀ y0 y1 y2, LeO (zT.l0 k y0 y1 y2) (zT.l0 (k + 1) y0 y1 y2))
 | 0 => fun _ _ _ r h => by simp [zT.l0] at h
 | k + 1 => by
  have ih0 := zT.mono_l k
  intro y0 y1 y2
  unfold zT.l0
  repeat' first
  | (with_reducible exact ih0 _ _ _)
  | (with_reducible exact LeO.refl _)
  | (with_reducible exact LeO.none _)
  | (with_reducible refine LeO.ite ?_ ?_)
  | (with_reducible refine LeO.bind ?_ (fun _ => ?_))
  | exact ih0 _ _ _
  | exact LeO.none _
  | refine LeO.ite ?_ ?_
  | refine LeO.bind ?_ (fun _ => ?_)
theorem zT.mono : ∀ a0 k, LeO (zT.f k a0) (zT.f (k + 1) a0) := by
 intro a0 k
 have ih0 := zT.mono_l k
 unfold zT.f
 repeat' first
   | (with_reducible exact ih0 _ _ _)
   | (with_reducible exact LeO.refl _)
   | (with_reducible exact LeO.none _)
   | (with_reducible refine LeO.ite ?_ ?_)
   | (with_reducible refine LeO.bind ?_ (fun _ => ?_))
   | exact ih0 _ _ _
   | exact LeO.none _
   | refine LeO.ite ?_ ?_
   | refine LeO.bind ?_ (fun _ => ?_)
set_option maxHeartbeats 8000000 in
set_option maxRecDepth 100000 in
theorem zT.calls (k : Nat) (a0 : Int) (r : ByteArray) (w : World) (h : zT.f k a0 = some r) :
  Calls Tryz.prog 70 #[.int .i64 a0] w fun e w' => e = .returned (.string r) ∧ Below w.heap.size w w' := by
 have HB := K_ (Below.refl w.heap.size w)
 have H : (zT.l0 k a0 ([] : List Int) 0) = some r := h
 clear h
 have H' := K_ H
 clear H
 go_enter Tryz.func70, Tryz.ntmps70
 go_wp2
 go_loopg [3, 4] k (fun kq v3 v4 w' => ∃ (x3_1 : List Int) (x4_1 : Int), v4 = .int .i64 x4_1 ∧ Aside0 (zT.l0 kq a0 x3_1 x4_1 = some r) ∧ Aside0 (kq ≤ k) ∧ Aside0 (Kd.R (Kd.int .u8) 5 w' w.heap.size (fun _ => True) v3 x3_1) ∧ Aside0 (Below w.heap.size w w'))
 case atStart => exact ⟨(([] : List Int)), (0), SR, H', ⟨Nat.le_refl _⟩, ⟨by first | exact Kd.R_nil _ _ _ _ _ | exact Kd.N_nil _ _ _ _ _ | exact Kd.V_nil _ _ _ _ _ | exact Kd.Q_nil _ _ _ _ _ | exact Kd.S_nil _ _ _ _ _⟩, ⟨BL HB⟩⟩
 case round =>
  clear H'
  obtain ⟨x3_1, x4_1, rfl, HA, HK1, HO_3, HB⟩ := hrel
  obtain _ | k1 := gk
  ·exact absurd HA.out (by simp [zT.l0])
  have H := HA.out
  clear HA
  simp only [zT.l0] at H
  by_cases c2 : x4_1 < a0
  ·rw [if_pos c2] at H
   have c2b0 : decide (x4_1 < a0) = true := decide_eq_true c2
   clear c2
   by_cases c3 : x3_1.length < 140737488355328
   ·rw [if_pos c3] at H
    have LMc3 := K_ c3
    clear c3
    obtain ⟨y600, hy600⟩ : ∃ y_ : List Int, y_ = (x3_1 ++ [48]) := ⟨_, rfl⟩
    replace H : (zT.l0 k1 a0 y600 (wrap64 (x4_1 + 1))) = some r := by first | (rw [hy600]; with_reducible exact H) | (have H2_ := (Option.bind_some _ _).symm.trans H; rw [hy600]; with_reducible exact H2_) | (have H2_ := (Option.bind_some _ _).symm.trans H; with_reducible exact H2_) | with_reducible exact H | (rw [hy600]; exact H) | exact H
    have Ny600 := K_ hy600
    clear hy600
    have H' := K_ H
    clear H
    go_wp2_with (first | ((with_reducible refine jE (b := .append) (xs := #[.tmp 10, .tmp 11]) rfl ?_); at_builtin; refine Kd.R_append (Kd.int .u8) (w0 := w) w.heap.size rfl (.tmp 10) (.tmp 11) 107 5 (.int .u8 0) 1 rfl Tryz.underlying107 zpa rfl (by decide) (by omega) u3 x3_1 48 [.int .u8 48] (fun _ => True) (fun _ => False) rfl rfl ?aP (fun _ hk => hk.elim) ?aF ?aO ?aB ?aS ?aL ?_; (case aP => exact rfl); (case aB => exact (BL HB)); (case aF => exact (fun _ _ => trivial)); (case aO => exact (RB HO_3.out)); (case aS => exact (zP (BL HB))); (case aL => have := LMc3.out; omega); intro v601 w4 ho hb hg hat; rw [← Ny600.out] at ho; replace HB := K_ (hb); have HO602 := K_ (ho); clear HO_3; clear ho hb hg hat))
    go_roundg k1
    case measure => have := HK1.out; omega
    case rel => exact ⟨(y600), (wrap64 (x4_1 + 1)), SR, H', ⟨by have := HK1.out; omega⟩, ⟨RB HO602.out⟩, ⟨BL HB⟩⟩
   rw [if_neg c3] at H
   exact absurd H (by simp)
  rw [if_neg c2] at H
  have c2b0 : decide (x4_1 < a0) = false := decide_eq_false c2
  clear c2
  obtain rfl := Option.some.inj H
  have hcv5 := zfS (P := Tryz.prog) Tryz.underlying107 Tryz.underlying5 Tryz.underlying9 (Kd.own_of_R HO_3.out)
  go_wp2
  go_ret
  exact ⟨ER, BL HB⟩
theorem zgf (m : Nat) (hm : m ≤ 1000000) : ∀ (d n : Nat), m - n = d → n ≤ m → Ev (fun k => zT.l0 k (m : Int) (List.replicate n 48) (n : Int)) (strOfNums (List.replicate m 48))
 | 0, n, hd, hn => by
  obtain rfl : n = m := by omega
  refine qZ (r' := strOfNums (List.replicate n 48)) (fun k => ?_) rfl
  simp only [zT.l0]; rw [if_neg (by omega)]
 | d + 1, n, hd, hn => by
  refine Ev.step (f := fun k => zT.l0 k (m : Int) (List.replicate (n + 1) 48) ((n + 1 : Nat) : Int)) (fun k => ?_) (zgf m hm d (n + 1) (by omega) (by omega))
  simp only [zT.l0]
  rw [if_pos (by omega), if_pos (by rw [List.length_replicate]; omega), List.replicate_succ', w64 (by omega) (by omega)]; rfl
def zet (m : Nat) : ByteArray := strOfNums (List.replicate m 48)
theorem zlP {m : Nat} (hm : m ≤ 1000000) : Ev (fun k => zT.f k (m : Int)) (zet m) := zgf m hm m 0 (by omega) (by omega)
theorem zeX (m : Nat) : (zet m).data.toList = List.replicate m 48 := by rw [zet, zfU, List.map_replicate]; rfl
theorem ziR (m : Nat) : (zet m).size = m := by rw [zU, zeX, List.length_replicate]
def jR.f (k : Nat) (a0_0 : Bool) (a0_1 : ByteArray) (a0_2 : Int) (a1 : Int) : Option (ByteArray) := (zO.f k a0_1).bind fun t604 => (if t604.toList = ([] : List UInt8) then (some (⟨#[]⟩ : ByteArray)) else ((zT.f k (wrap64 (a0_2 - a1))).bind fun t605 => (if t604.size + t605.size ≤ 9223372036854775807 then (some (t604 ++ t605)) else (none))))
theorem jR.mono : ∀ a0 a1 a2 a3 k, LeO (jR.f k a0 a1 a2 a3) (jR.f (k + 1) a0 a1 a2 a3) := by
 intro a0 a1 a2 a3 k
 unfold jR.f
 repeat' first
   | (with_reducible exact zO.mono _ _)
   | (with_reducible exact zT.mono _ _)
   | (with_reducible exact LeO.refl _)
   | (with_reducible exact LeO.none _)
   | (with_reducible refine LeO.ite ?_ ?_)
   | (with_reducible refine LeO.bind ?_ (fun _ => ?_))
   | exact zO.mono _ _
   | exact zT.mono _ _
   | exact LeO.none _
   | refine LeO.ite ?_ ?_
   | refine LeO.bind ?_ (fun _ => ?_)
set_option maxHeartbeats 8000000 in
set_option maxRecDepth 100000 in
theorem jR.calls (k : Nat) (a0_0 : Bool) (a0_1 : ByteArray) (a0_2 : Int) (a1 : Int) (r : ByteArray) (w : World) (h : jR.f k a0_0 a0_1 a0_2 a1 = some r) :
  Calls Tryz.prog 42 #[.agg #[.bool a0_0, .string a0_1, .int .i64 a0_2], .int .i64 a1] w fun e w' => e = .returned (.string r) ∧ Below w.heap.size w w' := by
 have hu23 := Tryz.underlying23
 have HB := K_ (Below.refl w.heap.size w)
 have H : ((zO.f k a0_1).bind fun t604 => (if t604.toList = ([] : List UInt8) then (some (⟨#[]⟩ : ByteArray)) else ((zT.f k (wrap64 (a0_2 - a1))).bind fun t605 => (if t604.size + t605.size ≤ 9223372036854775807 then (some (t604 ++ t605)) else (none))))) = some r := h
 clear h
 obtain ⟨t604, A30, H⟩ := Option.bind_eq_some_iff.mp H
 (try dsimp -simprocs only at H)
 have A3 := K_ A30
 clear A30
 by_cases c4 : t604.toList = ([] : List UInt8)
 ·rw [if_pos c4] at H
  have c4b0 : (t604.toList == ([] : List UInt8)) = true := beq_iff_eq.mpr c4
  have c4b1 : (t604.toList != ([] : List UInt8)) = false := bne_eq_false_iff_eq.mpr c4
  clear c4
  obtain rfl := Option.some.inj H
  go_enter Tryz.func42, Tryz.ntmps42
  go_wp2_with (first | (refine be_ 2 #[.bool a0_0, .string a0_1, .int .i64 a0_2] 23 ?_; intro gb603 hg w5 hbox hb; have BK603 := K_ (hbox); have GW603 := ge_ hg HB; have GE603 := ge_ hg HB; replace HB := zE HB hb; clear hb hbox hg; obtain ⟨⟨hcz6_0, hcz6_1, hcz6_2⟩, hfz6_0, hfz6_1, hfz6_2⟩ := ce3 BK603) | ((with_reducible refine zK (f := 69) rfl ?_); refine zY (some 8) rfl rfl Tryz.func69 (by kernel_rfl) rfl #[.string a0_1] rfl MP ?_; (with_reducible refine (zO.calls k a0_1 t604 _ A3.out).mono ?_); rintro e w' ⟨rfl, ⟨nd, rfl⟩⟩; refine ⟨_, rfl, ?_⟩))
  go_ret
  exact ⟨ER, BL HB⟩
 rw [if_neg c4] at H
 have c4b0 : (t604.toList == ([] : List UInt8)) = false := beq_eq_false_iff_ne.mpr c4
 have c4b1 : (t604.toList != ([] : List UInt8)) = true := bne_iff_ne.mpr c4
 obtain ⟨t605, A70, H⟩ := Option.bind_eq_some_iff.mp H
 (try dsimp -simprocs only at H)
 have A7 := K_ A70
 clear A70
 by_cases c8 : t604.size + t605.size ≤ 9223372036854775807
 ·rw [if_pos c8] at H
  have c8b0 := eq_true c8
  have c8b1 : decide (t604.size + t605.size ≤ 9223372036854775807) = true := decide_eq_true c8
  try have c8b2 : (9223372036854775807 < t604.size + t605.size) = False := eq_false (Nat.not_lt.2 c8)
  obtain rfl := Option.some.inj H
  go_enter Tryz.func42, Tryz.ntmps42
  go_wp2_with (first | (refine be_ 2 #[.bool a0_0, .string a0_1, .int .i64 a0_2] 23 ?_; intro gb603 hg w9 hbox hb; have BK603 := K_ (hbox); have GW603 := ge_ hg HB; have GE603 := ge_ hg HB; replace HB := zE HB hb; clear hb hbox hg; obtain ⟨⟨hcz10_0, hcz10_1, hcz10_2⟩, hfz10_0, hfz10_1, hfz10_2⟩ := ce3 BK603) | ((with_reducible refine zK (f := 69) rfl ?_); refine zY (some 8) rfl rfl Tryz.func69 (by kernel_rfl) rfl #[.string a0_1] rfl MP ?_; (with_reducible refine (zO.calls k a0_1 t604 _ A3.out).mono ?_); rintro e w' ⟨rfl, ⟨nd, rfl⟩⟩; refine ⟨_, rfl, ?_⟩) | ((with_reducible refine zK (f := 70) rfl ?_); refine zY (some 16) rfl rfl Tryz.func70 (by kernel_rfl) rfl #[.int .i64 (wrap64 (a0_2 - a1))] rfl MP ?_; (with_reducible refine (zT.calls k (wrap64 (a0_2 - a1)) t605 _ A7.out).mono ?_); rintro e w11 ⟨rfl, hb⟩; refine ⟨_, rfl, ?_⟩; replace BK603 := zC BK603 hb; replace HB := zE HB hb; (try clear hb); (try clear hb2); (try clear hk); (try clear hi)))
  go_ret
  exact ⟨ER, BL HB⟩
 rw [if_neg c8] at H
 exact absurd H (by simp)
theorem zjy {b : Bool} {s : ByteArray} {e x : Int} (h : OkD s e) (h1 : x ≤ e) (h2 : -100000 ≤ x) : Ev (fun k => jR.f k b s e x) (jD (atE (vB s) e x)) := by
 have hs := h.sz
 have hl := h.lo
 have hh := h.hi
 have hz := h.val
 unfold jR.f
 refine Ev.bind (zha (by omega) h.d) ?_
 by_cases h0 : vB s = 0
 ·simp only [uY.2 h0, if_true]
  rw [h0, zbr, zhm]
  exact Ev.now _
 have h3 : ¬ (jD (vB s)).toList = ([] : List UInt8) := fun hh => h0 (uY.1 hh)
 obtain ⟨m, hm⟩ : ∃ m : Nat, m = (e - x).toNat := ⟨_, rfl⟩
 have hw : wrap64 (e - x) = (m : Int) := by rw [w64 (by omega) (by omega)]; omega
 simp only [h3, if_false, hw]
 refine Ev.bind (zlP (by omega)) ?_
 have hc : (jD (vB s)).size + (zet m).size ≤ 9223372036854775807 := by rw [ziR]; omega
 simp only [hc, if_true]
 refine zdk (Ev.now _) ?_
 apply xV
 rw [zlT, zap, zap, zeX]
 unfold atE
 rw [zfn h0, ← hm]
def qI.f (a0 : ByteArray) (a1 : ByteArray) : Option (Bool) := if (a0.size : Int) = (a1.size : Int) then (some (Op.bytesLess a0.toList a1.toList)) else (some (decide ((a0.size : Int) < (a1.size : Int))))
set_option maxHeartbeats 8000000 in
set_option maxRecDepth 100000 in
theorem qI.calls (a0 : ByteArray) (a1 : ByteArray) (r : Bool) (w : World) (h : qI.f a0 a1 = some r) :
  Calls Tryz.prog 43 #[.string a0, .string a1] w fun e w' => e = .returned (.bool r) ∧ zJ w w' := by
 have H : (if (a0.size : Int) = (a1.size : Int) then (some (Op.bytesLess a0.toList a1.toList)) else (some (decide ((a0.size : Int) < (a1.size : Int))))) = some r := h
 clear h
 by_cases c3 : (a0.size : Int) = (a1.size : Int)
 ·rw [if_pos c3] at H
  have c3b0 : ((a0.size : Int) == (a1.size : Int)) = true := beq_iff_eq.mpr c3
  have c3b1 : ((a0.size : Int) != (a1.size : Int)) = false := bne_eq_false_iff_eq.mpr c3
  have c3b2 : (a0.size == a1.size) = true := by first | simpa using c3 | (simp at c3 ⊢; omega)
  clear c3
  obtain rfl := Option.some.inj H
  go_enter Tryz.func43, Tryz.ntmps43
  go_wp2
  go_ret
  exact ⟨by first | rfl | (simp; done) | (simp [*]; done) | (simp [*, Fig.bne_nil]; done), by repeat (first | exact zJ.refl _ | apply zJ.step)⟩
 rw [if_neg c3] at H
 have c3b0 : ((a0.size : Int) == (a1.size : Int)) = false := beq_eq_false_iff_ne.mpr c3
 have c3b1 : ((a0.size : Int) != (a1.size : Int)) = true := bne_iff_ne.mpr c3
 have c3b2 : (a0.size == a1.size) = false := by first | simpa using c3 | (simp at c3 ⊢; omega)
 obtain rfl := Option.some.inj H
 go_enter Tryz.func43, Tryz.ntmps43
 go_wp2
 go_ret
 exact ⟨by first | rfl | (simp; done) | (simp [*]; done) | (simp [*, Fig.bne_nil]; done), by repeat (first | exact zJ.refl _ | apply zJ.step)⟩
theorem zjG (m n : Nat) : qI.f (jD m) (jD n) = some (decide (m < n)) := by
 unfold qI.f
 rw [xD, xD]
 by_cases h : (vI m).length = (vI n).length
 ·rw [if_pos (by omega)]
  rw [ByteArray.toList_eq, ByteArray.toList_eq, zap, zap, zgS (zbq m) (zbq n) h, zaU, zaU]
 rw [if_neg (by omega)]
 congr 1
 rw [decide_eq_decide]
 constructor
 ·intro h1; exact zeZ (by omega)
 intro h1
 rcases Nat.lt_or_ge (vI m).length (vI n).length with h2 | h2
 ·omega
 have := zeZ (m := n) (n := m) (by omega); omega
mutual
def zI.j0 : Nat → Int → Bool → ByteArray → Int → Bool → ByteArray → Int → Option (Int)
 | 0, _, _, _, _, _, _, _ => none
 | k + 1, x5, x607000, x607001, x607002, x608000, x608001, x608002 => (jR.f k x607000 x607001 x607002 x5).bind fun t608 => ((jR.f k x608000 x608001 x608002 x5).bind fun t609 => (if t608.toList = ([] : List UInt8) then (zI.j1 k t608 t609 (t609.toList == ([] : List UInt8)) x607000 x607001 x607002 x608000 x608001 x608002) else (zI.j1 k t608 t609 false x607000 x607001 x607002 x608000 x608001 x608002)))
def zI.j1 : Nat → ByteArray → ByteArray → Bool → Bool → ByteArray → Int → Bool → ByteArray → Int → Option (Int)
 | 0, _, _, _, _, _, _, _, _, _ => none
 | k + 1, x6, x7, x27, x607000, x607001, x607002, x608000, x608001, x608002 => if x27 = true then (some 0) else (if (x607000 != x608000) = true then (if x607000 = true then (some (-1)) else (some 1)) else (if x6.toList = x7.toList then (some 0) else ((qI.f x6 x7).bind fun t610 => (if (t610 != x607000) = true then (some (-1)) else (some 1)))))
end
def zI.f (k : Nat) (a0_0 : Bool) (a0_1 : ByteArray) (a0_2 : Int) (a1_0 : Bool) (a1_1 : ByteArray) (a1_2 : Int) : Option (Int) := if a1_2 < a0_2 then (zI.j0 k a1_2 a0_0 a0_1 a0_2 a1_0 a1_1 a1_2) else (zI.j0 k a0_2 a0_0 a0_1 a0_2 a1_0 a1_1 a1_2)
theorem zI.mono_l : ∀ k, (∀ y0 y1 y2 y3 y4 y5 y6, LeO (zI.j0 k y0 y1 y2 y3 y4 y5 y6) (zI.j0 (k + 1) y0 y1 y2 y3 y4 y5 y6)) ∧ (∀ y0 y1 y2 y3 y4 y5 y6 y7 y8, LeO (zI.j1 k y0 y1 y2 y3 y4 y5 y6 y7 y8) (zI.j1 (k + 1) y0 y1 y2 y3 y4 y5 y6 y7 y8))
 | 0 => ⟨fun _ _ _ _ _ _ _ r h => by simp [zI.j0] at h, fun _ _ _ _ _ _ _ _ _ r h => by simp [zI.j1] at h⟩
 | k + 1 => by
  obtain ⟨ih0, ih1⟩ := zI.mono_l k
  refine ⟨?_, ?_⟩
  ·intro y0 y1 y2 y3 y4 y5 y6
   unfold zI.j0
   repeat' first
   | (with_reducible exact ih0 _ _ _ _ _ _ _)
   | (with_reducible exact ih1 _ _ _ _ _ _ _ _ _)
   | (with_reducible exact jR.mono _ _ _ _ _)
   | (with_reducible exact LeO.refl _)
   | (with_reducible exact LeO.none _)
   | (with_reducible refine LeO.ite ?_ ?_)
   | (with_reducible refine LeO.bind ?_ (fun _ => ?_))
   | exact ih0 _ _ _ _ _ _ _
   | exact ih1 _ _ _ _ _ _ _ _ _
   | exact jR.mono _ _ _ _ _
   | exact LeO.none _
   | refine LeO.ite ?_ ?_
   | refine LeO.bind ?_ (fun _ => ?_)
  intro y0 y1 y2 y3 y4 y5 y6 y7 y8
  unfold zI.j1
  repeat' first
  | (with_reducible exact ih0 _ _ _ _ _ _ _)
  | (with_reducible exact ih1 _ _ _ _ _ _ _ _ _)
  | (with_reducible exact jR.mono _ _ _ _ _)
  | (with_reducible exact LeO.refl _)
  | (with_reducible exact LeO.none _)
  | (with_reducible refine LeO.ite ?_ ?_)
  | (with_reducible refine LeO.bind ?_ (fun _ => ?_))
  | exact ih0 _ _ _ _ _ _ _
  | exact ih1 _ _ _ _ _ _ _ _ _
  | exact jR.mono _ _ _ _ _
  | exact LeO.none _
  | refine LeO.ite ?_ ?_
  | refine LeO.bind ?_ (fun _ => ?_)
theorem zI.mono : ∀ a0 a1 a2 a3 a4 a5 k, LeO (zI.f k a0 a1 a2 a3 a4 a5) (zI.f (k + 1) a0 a1 a2 a3 a4 a5) := by
 intro a0 a1 a2 a3 a4 a5 k
 obtain ⟨ih0, ih1⟩ := zI.mono_l k
 unfold zI.f
 repeat' first
   | (with_reducible exact ih0 _ _ _ _ _ _ _)
   | (with_reducible exact ih1 _ _ _ _ _ _ _ _ _)
   | (with_reducible exact jR.mono _ _ _ _ _)
   | (with_reducible exact LeO.refl _)
   | (with_reducible exact LeO.none _)
   | (with_reducible refine LeO.ite ?_ ?_)
   | (with_reducible refine LeO.bind ?_ (fun _ => ?_))
   | exact ih0 _ _ _ _ _ _ _
   | exact ih1 _ _ _ _ _ _ _ _ _
   | exact jR.mono _ _ _ _ _
   | exact LeO.none _
   | refine LeO.ite ?_ ?_
   | refine LeO.bind ?_ (fun _ => ?_)
def zI.T4 : Bool × List (List Nat × List Nat) := (true, [([], []), ([], []), ([0, 1], [0, 1]), ([], []), ([], []), ([3, 4, 2], [3, 4]), ([2, 5, 0, 1, 2], [2]), ([5, 6, 0, 1, 2, 3, 4, 5, 6], [5])])
def zI.B4 : List Nat := [0, 0, 3, 0, 0, 31, 63, 127]
theorem zI.tab4 : zaf .any (zeS Tryz.f18 4) = zI.T4 := by kernel_rfl
theorem zI.bits4 : zbf zI.T4.2 zI.B4 = true := by kernel_rfl
set_option maxHeartbeats 8000000 in
set_option maxRecDepth 100000 in
theorem zI.calls (k : Nat) (a0_0 : Bool) (a0_1 : ByteArray) (a0_2 : Int) (a1_0 : Bool) (a1_1 : ByteArray) (a1_2 : Int) (r : Int) (w : World) (h : zI.f k a0_0 a0_1 a0_2 a1_0 a1_1 a1_2 = some r) :
  Calls Tryz.prog 18 #[.agg #[.bool a0_0, .string a0_1, .int .i64 a0_2], .agg #[.bool a1_0, .string a1_1, .int .i64 a1_2]] w fun e w' => e = .returned (.int .i64 r) ∧ Below w.heap.size w w' := by
 have hu23 := Tryz.underlying23
 have HB := K_ (Below.refl w.heap.size w)
 have H : (if a1_2 < a0_2 then (zI.j0 k a1_2 a0_0 a0_1 a0_2 a1_0 a1_1 a1_2) else (zI.j0 k a0_2 a0_0 a0_1 a0_2 a1_0 a1_1 a1_2)) = some r := h
 clear h
 have HC3 := K_ H
 clear H
 go_enter Tryz.func18, Tryz.ntmps18
 go_upto_if 13 with (first | (refine be_ 2 #[.bool a0_0, .string a0_1, .int .i64 a0_2] 23 ?_; intro gb606 hg w4 hbox hb; have BK606 := K_ (hbox); have GW606 := ge_ hg HB; have GE606 := ge_ hg HB; replace HB := zE HB hb; clear hb hbox hg) | (refine be_ 3 #[.bool a1_0, .string a1_1, .int .i64 a1_2] 23 ?_; intro gb607 hg w5 hbox hb; have BK607 := K_ (hbox); have GW607 := ge_ hg HB; have GE607 := ge_ hg HB; replace HB := zE HB hb; have NB606_607 := nb_ hg BK606; have NB607_606 := nc_ hg BK606; replace BK606 := zC BK606 hb; clear hb hbox hg; have hnb6 := NB606_607.out; have hnc6 := NB607_606.out; obtain ⟨⟨hcz7_0, hcz7_1, hcz7_2⟩, hfz7_0, hfz7_1, hfz7_2⟩ := ce3 BK606; obtain ⟨⟨hcz8_0, hcz8_1, hcz8_2⟩, hfz8_0, hfz8_1, hfz8_2⟩ := ce3 BK607))
 (try simp only [Act.put, List.setIfInBounds_toArray, List.set_cons_zero, List.set_cons_succ])
 go_cut [5] (fun v5 wc => ∃ (kq : Nat) (x5_2 : Int), v5 = .int .i64 x5_2 ∧ Aside0 (zI.j0 kq x5_2 a0_0 a0_1 a0_2 a1_0 a1_1 a1_2 = some r) ∧ Aside0 (kq ≤ k) ∧ Aside0 (wc.heap[gb606]? = some (.cells #[.bool a0_0, .string a0_1, .int .i64 a0_2] 23 (0, 0))) ∧ Aside0 (wc.heap[gb607]? = some (.cells #[.bool a1_0, .string a1_1, .int .i64 a1_2] 23 (0, 0))) ∧ Aside0 (Below w.heap.size w wc))
 case first =>
  have H := HC3.out
  clear HC3
  by_cases c9 : a1_2 < a0_2
  ·rw [if_pos c9] at H
   have c9b0 : decide (a1_2 < a0_2) = true := decide_eq_true c9
   clear c9
   (first | rw [c9b0] | (simp only [uO, xI]; rw [c9b0]) | skip)
   have H' := K_ H
   clear H
   have hnb10 := NB607_606.out
   have hnc10 := NB606_607.out
   obtain ⟨⟨hcz11_0, hcz11_1, hcz11_2⟩, hfz11_0, hfz11_1, hfz11_2⟩ := ce3 BK607
   go_wp2
   go_meet
   case rel => exact ⟨_, (a1_2), SR, H', ⟨by first | omega | exact Nat.le_refl _⟩, ⟨BK BK606⟩, ⟨BK BK607⟩, ⟨BL HB⟩⟩
  rw [if_neg c9] at H
  have c9b0 : decide (a1_2 < a0_2) = false := decide_eq_false c9
  clear c9
  (first | rw [c9b0] | (simp only [uO, xI]; rw [c9b0]) | skip)
  have H' := K_ H
  clear H
  go_wp2
  go_meet
  case rel => exact ⟨_, (a0_2), SR, H', ⟨by first | omega | exact Nat.le_refl _⟩, ⟨BK BK606⟩, ⟨BK BK607⟩, ⟨BL HB⟩⟩
 clear HC3
 try clear hcz7_0
 try clear hcz7_1
 try clear hcz7_2
 try clear hcz8_0
 try clear hcz8_1
 try clear hcz8_2
 try clear hfz7_0
 try clear hfz7_1
 try clear hfz7_2
 try clear hfz8_0
 try clear hfz8_1
 try clear hfz8_2
 obtain ⟨kq, x5_2, rfl, HA, HJ2, BK606, BK607, HB⟩ := hcut
 obtain _ | kj2 := kq
 ·exact absurd HA.out (by simp [zI.j0])
 have H := HA.out
 clear HA
 simp only [zI.j0] at H
 obtain ⟨t608, A120, H⟩ := Option.bind_eq_some_iff.mp H
 (try dsimp -simprocs only at H)
 have A12 := K_ A120
 clear A120
 obtain ⟨t609, A130, H⟩ := Option.bind_eq_some_iff.mp H
 (try dsimp -simprocs only at H)
 have A13 := K_ A130
 clear A130
 have HC14 := K_ H
 clear H
 try go_wp2
 (try (rw [zaI wc]; generalize hq_ : World.drewN wc _ = wc; replace BK606 := zbM BK606 hq_; replace BK607 := zbM BK607 hq_; replace HB := zeC HB hq_; clear hq_))
 replace BK606 := K_ (zX BK606.out)
 replace BK607 := K_ (zX BK607.out)
 replace HB := K_ (uL HB.out)
 refine vQ (n := 8) (S := fun w' => w'.cell? ⟨gb606, 0, none⟩ = some (.bool a0_0) ∧ w'.cell? ⟨gb606, 1, none⟩ = some (.string a0_1) ∧ w'.cell? ⟨gb606, 2, none⟩ = some (.int .i64 a0_2) ∧ w'.cell? ⟨gb607, 0, none⟩ = some (.bool a1_0) ∧ w'.cell? ⟨gb607, 1, none⟩ = some (.string a1_1) ∧ w'.cell? ⟨gb607, 2, none⟩ = some (.int .i64 a1_2)) (ds := []) #[false, false, false, false, false, false, false, false] (by kernel_rfl) rfl rfl CE (fun hHeld => ?_); refine zbN zI.tab4 zI.bits4 (fun HT_ HW_ => ?_)
 generalize wc.drew = w15 at BK606 BK607 HB hHeld ⊢
 refine pu_ 1 (some 17) (bb 8 2) (jQ HT_.out (by kernel_rfl)) ?_
 refine pu_ 4 (some 20) (bb 8 18) (jQ HT_.out (by kernel_rfl)) ?_
 refine tk_ 0 (some 16) (bb 8 19) (zat HT_.out HW_.out (by kernel_rfl)) hHeld ?_
 refine tk_ 3 (some 19) (bb 8 27) (zat HT_.out HW_.out (by kernel_rfl)) hHeld ?_
 refine zbk (i := 2) (N := some 18) (bb 8 31) rfl rfl (zae HT_.out (by kernel_rfl)) (by decide) (fun K hK => ?_)
 refine gq_ Tryz.func42 #[.agg #[.bool a0_0, .string a0_1, .int .i64 a0_2], .int .i64 x5_2] ?_
 with_reducible refine (jR.calls kj2 a0_0 a0_1 a0_2 x5_2 t608 _ A12.out).mono ?_
 rintro e w16 ⟨rfl, hb⟩
 refine ⟨_, rfl, ?_⟩
 replace BK606 := zC BK606 hb
 replace BK607 := zC BK607 hb
 replace HB := zE HB hb
 (try clear hb)
 (try clear hb2)
 (try clear hk)
 (try clear hi)
 refine hK.out _ _ CE (fun hHeld => ?_)
 clear hK K
 refine no_ (some 18) ?_
 refine zbk (i := 5) (N := some 21) (bb 8 63) rfl rfl (zae HT_.out (by kernel_rfl)) (by decide) (fun K hK => ?_)
 refine gq_ Tryz.func42 #[.agg #[.bool a1_0, .string a1_1, .int .i64 a1_2], .int .i64 x5_2] ?_
 with_reducible refine (jR.calls kj2 a1_0 a1_1 a1_2 x5_2 t609 _ A13.out).mono ?_
 rintro e w17 ⟨rfl, hb⟩
 refine ⟨_, rfl, ?_⟩
 replace BK606 := zC BK606 hb
 replace BK607 := zC BK607 hb
 replace HB := zE HB hb
 (try clear hb)
 (try clear hb2)
 (try clear hk)
 (try clear hi)
 refine hK.out _ _ CE (fun hHeld => ?_)
 clear hK K
 refine no_ (some 21) ?_
 refine pu_ 6 (some 6) (bb 8 127) (jQ HT_.out (by kernel_rfl)) ?_
 refine pu_ 7 (some 7) (bb 8 255) (jQ HT_.out (by kernel_rfl)) ?_
 refine vS (zbi HT_.out (by kernel_rfl)) ?_
 go_upto_region 5 with (fail)
 go_cut [27] (fun v27 wc => ∃ (kq : Nat) (x27_13 : Bool), v27 = .bool x27_13 ∧ Aside0 (zI.j1 kq t608 t609 x27_13 a0_0 a0_1 a0_2 a1_0 a1_1 a1_2 = some r) ∧ Aside0 (kq ≤ kj2) ∧ Aside0 (wc.heap[gb606]? = some (.cells #[.bool a0_0, .string a0_1, .int .i64 a0_2] 23 (0, 0))) ∧ Aside0 (wc.heap[gb607]? = some (.cells #[.bool a1_0, .string a1_1, .int .i64 a1_2] 23 (0, 0))) ∧ Aside0 (Below w.heap.size w wc))
 case first =>
  have H := HC14.out
  clear HC14
  by_cases c18 : t608.toList = ([] : List UInt8)
  ·rw [if_pos c18] at H
   have c18b0 : (t608.toList == ([] : List UInt8)) = true := beq_iff_eq.mpr c18
   have c18b1 : (t608.toList != ([] : List UInt8)) = false := bne_eq_false_iff_eq.mpr c18
   clear c18
   (first | rw [c18b0] | (simp only [uO, xI]; rw [c18b0]) | skip)
   have H' := K_ H
   clear H
   go_wp2
   go_meet
   case rel => exact ⟨_, ((t609.toList == ([] : List UInt8))), SR, H', ⟨by have := HJ2.out; first | omega | exact Nat.le_refl _⟩, ⟨BK BK606⟩, ⟨BK BK607⟩, ⟨BL HB⟩⟩
  rw [if_neg c18] at H
  have c18b0 : (t608.toList == ([] : List UInt8)) = false := beq_eq_false_iff_ne.mpr c18
  have c18b1 : (t608.toList != ([] : List UInt8)) = true := bne_iff_ne.mpr c18
  (first | rw [c18b0] | (simp only [uO, xI]; rw [c18b0]) | skip)
  have H' := K_ H
  clear H
  go_wp2
  go_meet
  case rel => exact ⟨_, (false), SR, H', ⟨by have := HJ2.out; first | omega | exact Nat.le_refl _⟩, ⟨BK BK606⟩, ⟨BK BK607⟩, ⟨BL HB⟩⟩
 clear HC14
 obtain ⟨kq, x27_13, rfl, HA, HJ13, BK606, BK607, HB⟩ := hcut
 obtain _ | kj13 := kq
 ·exact absurd HA.out (by simp [zI.j1])
 have H := HA.out
 clear HA
 simp only [zI.j1] at H
 by_cases c19 : x27_13 = true
 ·subst c19
  rw [if_pos rfl] at H
  obtain rfl := Option.some.inj H
  go_wp2
  go_ret
  exact ⟨ER, BL HB⟩
 replace c19 := Bool.eq_false_iff.mpr c19
 subst c19
 rw [if_neg (show ¬ (false = true) by decide)] at H
 by_cases c20 : (a0_0 != a1_0) = true
 ·rw [if_pos c20] at H
  have c20b0 : (a0_0 != a1_0) = true := c20
  (try (have c20b1 : decide (a0_0 = a1_0) = false := by simpa using c20))
  (try (have c20b2 : (a0_0 == a1_0) = false := by simpa using c20))
  (try (have c20b3 : ¬ (a0_0 = a1_0) := by simpa using c20))
  clear c20
  by_cases c21 : a0_0 = true
  ·subst c21
   rw [if_pos rfl] at H
   obtain rfl := Option.some.inj H
   have hnb22 := NB606_607.out
   have hnc22 := NB607_606.out
   obtain ⟨⟨hcz23_0, hcz23_1, hcz23_2⟩, hfz23_0, hfz23_1, hfz23_2⟩ := ce3 BK606
   obtain ⟨⟨hcz24_0, hcz24_1, hcz24_2⟩, hfz24_0, hfz24_1, hfz24_2⟩ := ce3 BK607
   go_wp2
   go_ret
   exact ⟨ER, BL HB⟩
  replace c21 := Bool.eq_false_iff.mpr c21
  subst c21
  rw [if_neg (show ¬ (false = true) by decide)] at H
  obtain rfl := Option.some.inj H
  have hnb25 := NB606_607.out
  have hnc25 := NB607_606.out
  obtain ⟨⟨hcz26_0, hcz26_1, hcz26_2⟩, hfz26_0, hfz26_1, hfz26_2⟩ := ce3 BK606
  obtain ⟨⟨hcz27_0, hcz27_1, hcz27_2⟩, hfz27_0, hfz27_1, hfz27_2⟩ := ce3 BK607
  go_wp2
  go_ret
  exact ⟨ER, BL HB⟩
 rw [if_neg c20] at H
 have c20b0 : (a0_0 != a1_0) = false := by simpa using c20
 (try (have c20b1 : decide (a0_0 = a1_0) = true := by simpa using c20))
 (try (have c20b2 : (a0_0 == a1_0) = true := by simpa using c20))
 clear c20
 by_cases c28 : t608.toList = t609.toList
 ·rw [if_pos c28] at H
  have c28b0 : (t608.toList == t609.toList) = true := beq_iff_eq.mpr c28
  have c28b1 : (t608.toList != t609.toList) = false := bne_eq_false_iff_eq.mpr c28
  clear c28
  obtain rfl := Option.some.inj H
  have hnb29 := NB606_607.out
  have hnc29 := NB607_606.out
  obtain ⟨⟨hcz30_0, hcz30_1, hcz30_2⟩, hfz30_0, hfz30_1, hfz30_2⟩ := ce3 BK606
  obtain ⟨⟨hcz31_0, hcz31_1, hcz31_2⟩, hfz31_0, hfz31_1, hfz31_2⟩ := ce3 BK607
  go_wp2
  go_ret
  exact ⟨ER, BL HB⟩
 rw [if_neg c28] at H
 have c28b0 : (t608.toList == t609.toList) = false := beq_eq_false_iff_ne.mpr c28
 have c28b1 : (t608.toList != t609.toList) = true := bne_iff_ne.mpr c28
 obtain ⟨t610, A320, H⟩ := Option.bind_eq_some_iff.mp H
 (try dsimp -simprocs only at H)
 have A32 := K_ A320
 clear A320
 (try have HS3_ := K_ H)
 (try clear H)
 have hnb34 := NB606_607.out
 have hnc34 := NB607_606.out
 obtain ⟨⟨hcz35_0, hcz35_1, hcz35_2⟩, hfz35_0, hfz35_1, hfz35_2⟩ := ce3 BK606
 obtain ⟨⟨hcz36_0, hcz36_1, hcz36_2⟩, hfz36_0, hfz36_1, hfz36_2⟩ := ce3 BK607
 try go_wp2
 (try (rw [zaI wc]; generalize hq_ : World.drewN wc _ = wc; replace BK606 := zbM BK606 hq_; replace BK607 := zbM BK607 hq_; replace HB := zeC HB hq_; clear hq_))
 replace BK606 := K_ (zX BK606.out)
 replace BK607 := K_ (zX BK607.out)
 replace HB := K_ (uL HB.out)
 refine vQ (n := 6) (S := fun w' => w'.cell? ⟨gb606, 0, none⟩ = some (.bool a0_0) ∧ w'.cell? ⟨gb606, 1, none⟩ = some (.string a0_1) ∧ w'.cell? ⟨gb606, 2, none⟩ = some (.int .i64 a0_2)) (ds := []) #[false, false, false, false, false, false] (by kernel_rfl) rfl rfl CE (fun hHeld => ?_)
 generalize wc.drew = w37 at BK606 BK607 HB hHeld ⊢
 refine pw_ 0 38 (bb 6 1) ?_
 refine pw_ 1 39 (bb 6 3) ?_
 refine pw_ 3 41 (bb 6 11) ?_
 refine tw_ 4 42 (bb 6 27) hHeld ?_
 refine on_ 2 (some 40) (bb 6 31) (fun K hK => ?_)
 refine gq_ Tryz.func43 #[.string t608, .string t609] ?_
 with_reducible refine (qI.calls t608 t609 t610 _ A32.out).mono ?_
 rintro e w' ⟨rfl, ⟨nd, rfl⟩⟩
 refine ⟨_, rfl, ?_⟩
 refine hK.out _ _ CE (fun hHeld => ?_)
 clear hK K
 refine no_ (some 40) ?_
 (try have H := HS3_.out)
 (try clear HS3_)
 by_cases c33 : (t610 != a0_0) = true
 ·rw [if_pos c33] at H
  have c33b0 : (t610 != a0_0) = true := c33
  (try (have c33b1 : decide (t610 = a0_0) = false := by simpa using c33))
  (try (have c33b2 : (t610 == a0_0) = false := by simpa using c33))
  (try (have c33b3 : ¬ (t610 = a0_0) := by simpa using c33))
  clear c33
  obtain rfl := Option.some.inj H
  refine pw_ 5 43 (bb 6 63) ?_
  refine vS (by kernel_rfl) ?_
  try go_wp2
  go_ret
  exact ⟨ER, BL HB⟩
 rw [if_neg c33] at H
 have c33b0 : (t610 != a0_0) = false := by simpa using c33
 (try (have c33b1 : decide (t610 = a0_0) = true := by simpa using c33))
 (try (have c33b2 : (t610 == a0_0) = true := by simpa using c33))
 clear c33
 obtain rfl := Option.some.inj H
 refine pw_ 5 43 (bb 6 63) ?_
 refine vS (by kernel_rfl) ?_
 try go_wp2
 go_ret
 exact ⟨ER, BL HB⟩
theorem zdb {m n : Nat} : (jD m).toList = (jD n).toList ↔ m = n := by
 constructor
 ·intro h; apply zmN; apply xV; rw [← ByteArray.toList_eq, h, ByteArray.toList_eq]
 rintro rfl; rfl
theorem zmn (a b : Bool) (x y : Nat) (s t : ByteArray) (e f : Int) : Ev (fun k => zI.j1 k (jD x) (jD y) (decide (x = 0 ∧ y = 0)) a s e b t f) (zaY (sg a x) (sg b y)) := by
 rw [zjV]
 by_cases hz : x = 0 ∧ y = 0
 ·rw [if_pos hz]
  refine qZ (r' := 0) (fun k => ?_) rfl
  simp [zI.j1, hz]
 rw [if_neg hz]
 cases a <;> cases b
 ·by_cases he : x = y
  ·subst he
   refine qZ (r' := 0) (fun k => ?_) (by simp [zhP])
   simp [zI.j1]
  have h1 : ¬ (jD x).toList = (jD y).toList := fun hh => he (zdb.1 hh)
  refine qZ (r' := if x < y then -1 else 1) (fun k => ?_) ?_
  ·simp only [zI.j1, hz, decide_false, Bool.false_eq_true, if_false, bne_self_eq_false, h1, zjG, Option.bind_some]
   by_cases hl : x < y <;> simp [hl]
  unfold yS
  by_cases hl : x < y
  ·simp [hl]
  have : y < x := by omega
  simp [hl, this]
 ·refine qZ (r' := 1) (fun k => ?_) (by simp)
  simp [zI.j1, hz]
 ·refine qZ (r' := -1) (fun k => ?_) (by simp)
  simp [zI.j1, hz]
 by_cases he : x = y
 ·subst he
  refine qZ (r' := 0) (fun k => ?_) (by simp [zhP])
  simp [zI.j1]
 have h1 : ¬ (jD x).toList = (jD y).toList := fun hh => he (zdb.1 hh)
 refine qZ (r' := if x < y then 1 else -1) (fun k => ?_) ?_
 ·simp only [zI.j1, hz, decide_false, Bool.false_eq_true, if_false, bne_self_eq_false, h1, zjG, Option.bind_some]
  by_cases hl : x < y <;> simp [hl]
 unfold yS
 by_cases hl : x < y
 ·have : ¬ y < x := by omega
  simp [hl, this]
 have : y < x := by omega
 simp [hl, this]
theorem zis {a b : Bool} {s t : ByteArray} {e f m : Int} (h : OkD s e) (g : OkD t f) (h1 : m ≤ e) (h2 : m ≤ f) (h3 : -100000 ≤ m) : Ev (fun k => zI.j0 k m a s e b t f) (zmk a (vB s) e b (vB t) f) := by
 rw [zgp h1 h2]
 refine Ev.step (fun k => by simp only [zI.j0]; rfl) ?_
 refine Ev.bind (zjy h h1 h3) (Ev.bind (zjy g h2 h3) ?_)
 have := zmn a b (atE (vB s) e m) (atE (vB t) f m) s t e f
 by_cases hx : atE (vB s) e m = 0
 ·simp only [uY.2 hx, if_true]
  have hy : ((jD (atE (vB t) f m)).toList == ([] : List UInt8)) = decide (atE (vB s) e m = 0 ∧ atE (vB t) f m = 0) := by
   rw [Bool.eq_iff_iff, beq_iff_eq, decide_eq_true_eq, uY]; simp [hx]
  rw [hy]; exact this
 have hx2 : ¬ (jD (atE (vB s) e m)).toList = ([] : List UInt8) := fun hh => hx (uY.1 hh)
 simp only [hx2, if_false]
 have hy : decide (atE (vB s) e m = 0 ∧ atE (vB t) f m = 0) = false := by simp [hx]
 rw [hy] at this; exact this
theorem zhQ {a b : Bool} {s t : ByteArray} {e f : Int} (h : OkD s e) (g : OkD t f) : Ev (fun k => zI.f k a s e b t f) (zmk a (vB s) e b (vB t) f) := by
 unfold zI.f
 by_cases hc : f < e
 ·simp only [hc, if_true]; exact zis h g (by omega) (by omega) g.lo
 simp only [hc, if_false]; exact zis h g (by omega) (by omega) h.lo
end Go.Proofs.YtcmgdjnjmobkoaaGreatDoor.Px
namespace Go.Proofs.YtcmgdjnjmobkoaaGreatDoor.Px
set_option linter.all false
open Fig Go.RowKit Go.Proofs.YtcmgdjnjmobkoaaGreatDoorW.PrintWords Go.Proofs.YtcmgdjnjmobkoaaGreatDoorW.PrintLast Go.Proofs.YtcmgdjnjmobkoaaGreatDoorW.PrintMore
attribute [local go_sem] vK vO uE uD yZ yY vM vN
set_option maxHeartbeats 8000000 in
set_option maxRecDepth 100000 in
theorem ziQ (s : ByteArray) (hs : s.size ≤ 1048576) (m : Int) (b : Bool) (s2 : ByteArray) (e : Int) (b' : Bool) (s2' : ByteArray) (e' : Int) (hs2 : s2.size ≤ 140737488351232) (hs2' : s2'.size ≤ 140737488351232) (w : World) (hG : Fig.Glob w)
  (H : ∀ q, zbw q → zdC (b, s2, e) → zdC (b', s2', e') → 0 ≤ m → m ≤ 6 → ∃ c0, Ev (fun k => zI.f k b s2 e b' s2' e') c0 ∧ (c0 ≤ 0 → ∃ x y : Bool × ByteArray × Int × Int, zdv q m b s2 e x ∧ zdv q m b' s2' e' y ∧
   (x.2.2.2 = 0 → y.2.2.2 = 0 → ∃ c1, Ev (fun k => zI.f k x.1 x.2.1 x.2.2.1 y.1 y.2.1 y.2.2.1) c1 ∧ c1 ≤ 0))) :
  Calls Tryz.prog 5 #[.string s, .int .i64 m, .agg #[.bool b, .string s2, .int .i64 e], .agg #[.bool b', .string s2', .int .i64 e']] w fun e w' => e = .returned (.bool true) ∧ Below w.heap.size w w' := by
 have HB := K_ (Below.refl w.heap.size w)
 have HG := K_ hG
 have HH := K_ H
 clear hG H
 have HSZ := K_ (show ∀ d ∈ ([(b, s2, e), (b', s2', e')] : List zgn), d.2.1.size ≤ 4611686018427387904 by
  intro d hd
  simp only [List.mem_cons, List.not_mem_nil, or_false] at hd
  rcases hd with rfl | rfl
  ·show s2.size ≤ _; omega
  show s2'.size ≤ _; omega)
 clear hs2 hs2'
 go_enter Tryz.func5, Tryz.ntmps5
 go_upto_region 2 with (first | ((with_reducible refine zF (N := 6) rfl ?_); refine bx_ 6 (#[.bool b, .string s2, .int .i64 e]) 23 ?_ rfl rfl rfl rfl rfl; intro g6 hg w2 hbox hb; have BK6 := K_ hbox; have GE6 := ge_ hg HB; replace HB := zE HB hb; clear hb hbox hg) | ((with_reducible refine zF (N := 7) rfl ?_); refine bx_ 7 (#[.bool b', .string s2', .int .i64 e']) 23 ?_ rfl rfl rfl rfl rfl; intro g7 hg w2 hbox hb; have BK7 := K_ hbox; have GE7 := ge_ hg HB; have NB6_7 := nb_ hg BK6; replace BK6 := zC BK6 hb; replace HB := zE HB hb; clear hb hbox hg) | ((with_reducible refine zF (N := 17) rfl ?_); refine lo_ (g := g6) (cs := #[.bool b, .string s2, .int .i64 e]) _ ⟨BK BK6⟩ ?_ rfl rfl rfl Tryz.underlying23 rfl jY) | ((with_reducible refine zF (N := 18) rfl ?_); refine lo_ (g := g7) (cs := #[.bool b', .string s2', .int .i64 e']) _ ⟨BK BK7⟩ ?_ rfl rfl rfl Tryz.underlying23 rfl jY) | ((with_reducible refine zF (N := 19) rfl ?_); refine ls_ 19 2 #[.bool b, .string s2, .int .i64 e, .bool b', .string s2', .int .i64 e'] 23 ?_; intro g19 hg w2 hbox hb; have BK19 := K_ hbox; replace BK6 := zC BK6 hb; replace BK7 := zC BK7 hb; replace HB := zE HB hb; clear hb hbox hg) | (go_at_call 17; refine (ziY s hs ⟨g19, 0, none⟩ [(b, s2, e), (b', s2', e')] (by simp) HSZ.out 2 (by simp) _ (zpc (d := (b, s2, e)) (d' := (b', s2', e')) BK19.out)).mono ?_; rintro e9 w' ⟨q, ok, rfl, hrr, hb, hok⟩; have HRR := K_ (hrr.lower (zP (BL HB))); have HOK := K_ hok; replace HB := zE HB hb; replace BK6 := zC BK6 hb; replace BK7 := zC BK7 hb; clear hb hrr hok) | ((with_reducible refine zF (N := 9) rfl ?_); refine be_ 9 (Z26) 26 ?_; intro g9 hg w2 hbox hb; have BK9 := K_ hbox; have GE9 := ge_ hg HB; have NB6_9 := nb_ hg BK6; replace BK6 := zC BK6 hb; have NB7_9 := nb_ hg BK7; replace BK7 := zC BK7 hb; replace HRR := K_ (HRR.out.below hb); replace HB := zE HB hb; clear hb hbox hg) | ((with_reducible refine zW (p := 9) rfl ?_); refine so_ (g := g9) (cs := Z26) (q.cs) ⟨BK BK9⟩ ?_ rfl rfl rfl rfl rfl yO rfl rfl; intro w9 hbk hfar hbel; replace BK6 := K_ (hfar _ _ (by first | exact NB6_9.out | exact Ne.symm NB9_6.out) (BK BK6)); replace BK7 := K_ (hfar _ _ (by first | exact NB7_9.out | exact Ne.symm NB9_7.out) (BK BK7)); replace HRR := K_ (HRR.out.so (BK BK9) (by decide) hfar); replace BK9 := K_ hbk; replace HB := K_ (hbel _ _ GE9.out (BL HB)); clear hbk hfar hbel))
 clear BK19
 cases ok
 ·go_wp2_with (first | (go_at_call 19; refine (zab _ (Fig.Glob.below HG.out (BL HB))).mono ?_; rintro e9 w' ⟨rfl, hb⟩; replace HB := zE HB hb; clear hb))
  go_ret
  exact ⟨rfl, BL HB⟩
 by_cases h0 : m < 0
 ·have d0 : decide (m < 0) = true := decide_eq_true h0
  go_wp2_with (first | (go_at_call 19; refine (zab _ (Fig.Glob.below HG.out (BL HB))).mono ?_; rintro e9 w' ⟨rfl, hb⟩; replace HB := zE HB hb; clear hb))
  go_ret
  exact ⟨rfl, BL HB⟩
 have d0 : decide (m < 0) = false := decide_eq_false h0
 by_cases h6 : 6 < m
 ·have d6 : decide (6 < m) = true := decide_eq_true h6
  go_wp2_with (first | (go_at_call 19; refine (zab _ (Fig.Glob.below HG.out (BL HB))).mono ?_; rintro e9 w' ⟨rfl, hb⟩; replace HB := zE HB hb; clear hb))
  go_ret
  exact ⟨rfl, BL HB⟩
 have d6 : decide (6 < m) = false := decide_eq_false h6
 have HQ := K_ (HOK.out rfl).1
 obtain ⟨c0, hc0, hrest⟩ := HH.out q HQ.out ((HOK.out rfl).2 _ (by simp)) ((HOK.out rfl).2 _ (by simp)) (by omega) (by omega)
 obtain ⟨k0, hk0⟩ := Ev.rounds hc0
 have HC1 : ∀ W, Aside0 (Calls Tryz.prog 18 #[.agg #[.bool b, .string s2, .int .i64 e], .agg #[.bool b', .string s2', .int .i64 e']] W fun e w' => e = .returned (.int .i64 c0) ∧ Below W.heap.size W w') := fun W => ⟨zI.calls k0 b s2 e b' s2' e' c0 W hk0⟩
 clear hc0 hk0
 by_cases hgt : 0 < c0
 ·have dgt : decide (0 < c0) = true := decide_eq_true hgt
  go_wp2_with (first | ((with_reducible refine zF (N := 34) rfl ?_); refine zck (g := g6) (cs := #[.bool b, .string s2, .int .i64 e]) _ ⟨BK BK6⟩ ?_ (by rfl) rfl rfl Tryz.underlying23 rfl jY) | ((with_reducible refine zF (N := 35) rfl ?_); refine zck (g := g7) (cs := #[.bool b', .string s2', .int .i64 e']) _ ⟨BK BK7⟩ ?_ (by rfl) rfl rfl Tryz.underlying23 rfl jY) | (go_at_call 18; with_reducible refine ((HC1 _).out).mono ?_; rintro e9 w' ⟨rfl, hb⟩; replace HRR := K_ (HRR.out.below hb); replace HB := zE HB hb; replace BK6 := zC BK6 hb; replace BK7 := zC BK7 hb; replace BK9 := zC BK9 hb; clear hb) | (go_at_call 19; refine (zab _ (Fig.Glob.below HG.out (BL HB))).mono ?_; rintro e9 w' ⟨rfl, hb⟩; replace HB := zE HB hb; clear hb))
  go_ret
  exact ⟨rfl, BL HB⟩
 have dgt : decide (0 < c0) = false := decide_eq_false hgt
 obtain ⟨⟨x1, x2, x3, x4⟩, ⟨y1, y2, y3, y4⟩, hx, hy, hend⟩ := hrest (by omega)
 have HRX : ∀ W, zaj q W w.heap.size → Fig.Glob W → Aside0 (Calls Tryz.prog 14 #[.agg q.cs, .int .i64 m, .agg #[.bool b, .string s2, .int .i64 e]] W fun e w' => e = .returned (.tuple #[.agg #[.bool x1, .string x2, .int .i64 x3], .int .i64 x4]) ∧ Below W.heap.size W w') := fun W y1 y2 => ⟨zgc q HQ.out.good m b s2 e (x1, x2, x3, x4) hx W (y1.ok HQ.out) y2⟩
 have HRY : ∀ W, zaj q W w.heap.size → Fig.Glob W → Aside0 (Calls Tryz.prog 14 #[.agg q.cs, .int .i64 m, .agg #[.bool b', .string s2', .int .i64 e']] W fun e w' => e = .returned (.tuple #[.agg #[.bool y1, .string y2, .int .i64 y3], .int .i64 y4]) ∧ Below W.heap.size W w') := fun W z1 z2 => ⟨zgc q HQ.out.good m b' s2' e' (y1, y2, y3, y4) hy W (z1.ok HQ.out) z2⟩
 clear hx hy
 go_upto_region 4 with (first | ((with_reducible refine zF (N := 34) rfl ?_); refine zck (g := g6) (cs := #[.bool b, .string s2, .int .i64 e]) _ ⟨BK BK6⟩ ?_ (by rfl) rfl rfl Tryz.underlying23 rfl jY) | ((with_reducible refine zF (N := 35) rfl ?_); refine zck (g := g7) (cs := #[.bool b', .string s2', .int .i64 e']) _ ⟨BK BK7⟩ ?_ (by rfl) rfl rfl Tryz.underlying23 rfl jY) | (go_at_call 18; with_reducible refine ((HC1 _).out).mono ?_; rintro e9 w' ⟨rfl, hb⟩; replace HRR := K_ (HRR.out.below hb); replace HB := zE HB hb; replace BK6 := zC BK6 hb; replace BK7 := zC BK7 hb; replace BK9 := zC BK9 hb; clear hb))
 go_upto_region 5 with (first | ((with_reducible refine zF (N := 41) rfl ?_); refine lo_ (g := g9) (cs := q.cs) _ ⟨BK BK9⟩ ?_ rfl rfl rfl Tryz.underlying26 rfl yO) | ((with_reducible refine zF (N := 43) rfl ?_); refine lo_ (g := g6) (cs := #[.bool b, .string s2, .int .i64 e]) _ ⟨BK BK6⟩ ?_ rfl rfl rfl Tryz.underlying23 rfl jY) | (go_at_call 14; with_reducible refine ((HRX _ HRR.out (Fig.Glob.below HG.out (BL HB))).out).mono ?_; rintro e9 w' ⟨rfl, hb⟩; replace HRR := K_ (HRR.out.below hb); replace HB := zE HB hb; replace BK6 := zC BK6 hb; replace BK7 := zC BK7 hb; replace BK9 := zC BK9 hb; clear hb) | ((with_reducible refine zF (N := 11) rfl ?_); refine be_ 11 (#[.bool false, .string (⟨#[]⟩ : ByteArray), .int .i64 0]) 23 ?_; intro g11 hg w2 hbox hb; have BK11 := K_ hbox; have GE11 := ge_ hg HB; have NB6_11 := nb_ hg BK6; replace BK6 := zC BK6 hb; have NB7_11 := nb_ hg BK7; replace BK7 := zC BK7 hb; have NB9_11 := nb_ hg BK9; replace BK9 := zC BK9 hb; replace HRR := K_ (HRR.out.below hb); replace HB := zE HB hb; clear hb hbox hg) | ((with_reducible refine zW (p := 11) rfl ?_); refine so_ (g := g11) (cs := #[.bool false, .string (⟨#[]⟩ : ByteArray), .int .i64 0]) (#[.bool x1, .string x2, .int .i64 x3]) ⟨BK BK11⟩ ?_ rfl rfl rfl rfl rfl jY rfl rfl; intro w9 hbk hfar hbel; replace BK6 := K_ (hfar _ _ (by first | exact NB6_11.out | exact Ne.symm NB11_6.out) (BK BK6)); replace BK7 := K_ (hfar _ _ (by first | exact NB7_11.out | exact Ne.symm NB11_7.out) (BK BK7)); replace BK9 := K_ (hfar _ _ (by first | exact NB9_11.out | exact Ne.symm NB11_9.out) (BK BK9)); replace HRR := K_ (HRR.out.so (BK BK11) (by decide) hfar); replace BK11 := K_ hbk; replace HB := K_ (hbel _ _ GE11.out (BL HB)); clear hbk hfar hbel))
 go_upto_region 6 with (first | ((with_reducible refine zF (N := 48) rfl ?_); refine lo_ (g := g9) (cs := q.cs) _ ⟨BK BK9⟩ ?_ rfl rfl rfl Tryz.underlying26 rfl yO) | ((with_reducible refine zF (N := 50) rfl ?_); refine lo_ (g := g7) (cs := #[.bool b', .string s2', .int .i64 e']) _ ⟨BK BK7⟩ ?_ rfl rfl rfl Tryz.underlying23 rfl jY) | (go_at_call 14; with_reducible refine ((HRY _ HRR.out (Fig.Glob.below HG.out (BL HB))).out).mono ?_; rintro e9 w' ⟨rfl, hb⟩; replace HRR := K_ (HRR.out.below hb); replace HB := zE HB hb; replace BK6 := zC BK6 hb; replace BK7 := zC BK7 hb; replace BK9 := zC BK9 hb; replace BK11 := zC BK11 hb; clear hb) | ((with_reducible refine zF (N := 13) rfl ?_); refine be_ 13 (#[.bool false, .string (⟨#[]⟩ : ByteArray), .int .i64 0]) 23 ?_; intro g13 hg w2 hbox hb; have BK13 := K_ hbox; have GE13 := ge_ hg HB; have NB6_13 := nb_ hg BK6; replace BK6 := zC BK6 hb; have NB7_13 := nb_ hg BK7; replace BK7 := zC BK7 hb; have NB9_13 := nb_ hg BK9; replace BK9 := zC BK9 hb; have NB11_13 := nb_ hg BK11; replace BK11 := zC BK11 hb; replace HRR := K_ (HRR.out.below hb); replace HB := zE HB hb; clear hb hbox hg) | ((with_reducible refine zW (p := 13) rfl ?_); refine so_ (g := g13) (cs := #[.bool false, .string (⟨#[]⟩ : ByteArray), .int .i64 0]) (#[.bool y1, .string y2, .int .i64 y3]) ⟨BK BK13⟩ ?_ rfl rfl rfl rfl rfl jY rfl rfl; intro w9 hbk hfar hbel; replace BK6 := K_ (hfar _ _ (by first | exact NB6_13.out | exact Ne.symm NB13_6.out) (BK BK6)); replace BK7 := K_ (hfar _ _ (by first | exact NB7_13.out | exact Ne.symm NB13_7.out) (BK BK7)); replace BK9 := K_ (hfar _ _ (by first | exact NB9_13.out | exact Ne.symm NB13_9.out) (BK BK9)); replace BK11 := K_ (hfar _ _ (by first | exact NB11_13.out | exact Ne.symm NB13_11.out) (BK BK11)); replace HRR := K_ (HRR.out.so (BK BK13) (by decide) hfar); replace BK13 := K_ hbk; replace HB := K_ (hbel _ _ GE13.out (BL HB)); clear hbk hfar hbel))
 by_cases hx4 : x4 = 0
 ·have dx : (x4 != 0) = false := by rw [hx4]; rfl
  by_cases hy4 : y4 = 0
  ·have dy : (y4 != 0) = false := by rw [hy4]; rfl
   obtain ⟨c1, hc1, hle⟩ := hend hx4 hy4
   obtain ⟨k1, hk1⟩ := Ev.rounds hc1
   have HC2 : ∀ W, Aside0 (Calls Tryz.prog 18 #[.agg #[.bool x1, .string x2, .int .i64 x3], .agg #[.bool y1, .string y2, .int .i64 y3]] W fun e w' => e = .returned (.int .i64 c1) ∧ Below W.heap.size W w') := fun W => ⟨zI.calls k1 x1 x2 x3 y1 y2 y3 c1 W hk1⟩
   have dle : decide (c1 ≤ 0) = true := decide_eq_true hle
   clear hc1 hk1 hend
   go_wp2_with (first | (go_at_call 19; refine (zab _ (Fig.Glob.below HG.out (BL HB))).mono ?_; rintro e9 w' ⟨rfl, hb⟩; replace HRR := K_ (HRR.out.below hb); replace HB := zE HB hb; replace BK6 := zC BK6 hb; replace BK7 := zC BK7 hb; replace BK9 := zC BK9 hb; replace BK11 := zC BK11 hb; replace BK13 := zC BK13 hb; clear hb) | ((with_reducible refine zF (N := 63) rfl ?_); refine zck (g := g11) (cs := #[.bool x1, .string x2, .int .i64 x3]) _ ⟨BK BK11⟩ ?_ (by rfl) rfl rfl Tryz.underlying23 rfl jY) | ((with_reducible refine zF (N := 64) rfl ?_); refine zck (g := g13) (cs := #[.bool y1, .string y2, .int .i64 y3]) _ ⟨BK BK13⟩ ?_ (by rfl) rfl rfl Tryz.underlying23 rfl jY) | (go_at_call 18; with_reducible refine ((HC2 _).out).mono ?_; rintro e9 w' ⟨rfl, hb⟩; replace HRR := K_ (HRR.out.below hb); replace HB := zE HB hb; replace BK6 := zC BK6 hb; replace BK7 := zC BK7 hb; replace BK9 := zC BK9 hb; replace BK11 := zC BK11 hb; replace BK13 := zC BK13 hb; clear hb))
   go_ret
   exact ⟨by first | rfl | simp, BL HB⟩
  have dy : (y4 != 0) = true := bne_iff_ne.2 hy4
  clear hend
  go_wp2_with (first | (go_at_call 19; refine (zab _ (Fig.Glob.below HG.out (BL HB))).mono ?_; rintro e9 w' ⟨rfl, hb⟩; replace HRR := K_ (HRR.out.below hb); replace HB := zE HB hb; replace BK6 := zC BK6 hb; replace BK7 := zC BK7 hb; replace BK9 := zC BK9 hb; replace BK11 := zC BK11 hb; replace BK13 := zC BK13 hb; clear hb))
  go_ret
  exact ⟨by first | rfl | simp, BL HB⟩
 have dx : (x4 != 0) = true := bne_iff_ne.2 hx4
 clear hend
 go_wp2_with (first | (go_at_call 19; refine (zab _ (Fig.Glob.below HG.out (BL HB))).mono ?_; rintro e9 w' ⟨rfl, hb⟩; replace HRR := K_ (HRR.out.below hb); replace HB := zE HB hb; replace BK6 := zC BK6 hb; replace BK7 := zC BK7 hb; replace BK9 := zC BK9 hb; replace BK11 := zC BK11 hb; replace BK13 := zC BK13 hb; clear hb))
 go_ret
 exact ⟨by first | rfl | simp, BL HB⟩
theorem zoK : ∀ l : List Int, ∃ k, ∀ x ∈ l, k ≤ x
 | [] => ⟨0, fun _ h => by cases h⟩
 | a :: l => by
  obtain ⟨k, hk⟩ := zoK l
  refine ⟨min a k, fun x hx => ?_⟩
  rcases List.mem_cons.1 hx with rfl | hx
  ·omega
  have := hk x hx; omega
theorem zlK (n : Nat) (e u k : Int) : atE n (e + -u) k = atE n e (k + u) := by
 unfold atE; rw [show e + -u - k = e - (k + u) by omega]
theorem zjK (q : Pat) (m : Int) (b : Bool) (n : Nat) (e k : Int) (h1 : k ≤ nE (rN q m b n e) (rK q n e) + -q.mult) (h2 : k + q.mult ≤ rK q n e) :
  atE (yK (rN q m b n e)) (rX q m b n e) k = rv0 m b (yK n) (nE n (e + q.mult)) (stP q.P (jZ n (e + q.mult))).1 (stP q.P (jZ n (e + q.mult))).2 (k + q.mult) := by
 obtain ⟨N, hN⟩ : ∃ N, N = rN q m b n e := ⟨_, rfl⟩
 have hX : rX q m b n e = nE (yK N) (nE N (rK q n e) + -q.mult) := by unfold rX; rw [← hN]
 rw [hX, ← hN]
 rw [← hN] at h1
 have e1 := zft (n := yK N) h1
 rw [zgP] at e1
 rw [e1, zlK, zft h2]
 have e2 : N = rv0 m b (yK n) (nE n (e + q.mult)) (stP q.P (jZ n (e + q.mult))).1 (stP q.P (jZ n (e + q.mult))).2 (rK q n e) := hN
 have h3 : rK q n e ≤ nE n (e + q.mult) := by unfold rK; omega
 have h4 : rK q n e ≤ (stP q.P (jZ n (e + q.mult))).2 := by unfold rK; omega
 have e3 := zjn (m := m) (neg := b) (n := yK n) (e := nE n (e + q.mult)) (st := (stP q.P (jZ n (e + q.mult))).1) (p := (stP q.P (jZ n (e + q.mult))).2) (i := rK q n e) (k := k + q.mult) h3 h4 h2
 rw [e3, ← e2]
theorem zkO (n : Nat) (e u k : Int) (h : k + u ≤ e + u) : atE n e k = atE (yK n) (nE n (e + u)) (k + u) := by
 rw [zft h]; unfold atE; rw [show e - k = e + u - (k + u) by omega]
theorem ziN (b : Bool) (s : ByteArray) (e : Int) (b' : Bool) (s' : ByteArray) (e' m : Int) (q : Pat) (hq : zbw q) (hd : zdC (b, s, e)) (hd' : zdC (b', s', e')) (h0 : 0 ≤ m) (h6 : m ≤ 6) :
  ∃ c0, Ev (fun k => zI.f k b s e b' s' e') c0 ∧ (c0 ≤ 0 → ∃ x y : Bool × ByteArray × Int × Int, zdv q m b s e x ∧ zdv q m b' s' e' y ∧
   (x.2.2.2 = 0 → y.2.2.2 = 0 → ∃ c1, Ev (fun k => zI.f k x.1 x.2.1 x.2.2.1 y.1 y.2.1 y.2.2.1) c1 ∧ c1 ≤ 0)) := by
 obtain ⟨d1, d2, d3⟩ := hd
 obtain ⟨d1', d2', d3'⟩ := hd'
 obtain ⟨g1, g2, g3, g4, g5⟩ := zcy.1 d2
 obtain ⟨g1', g2', g3', g4', g5'⟩ := zcy.1 d2'
 obtain ⟨m0, m3⟩ := zgL q
 have hn : (jD (vB s)).size ≤ 120 := Nat.le_trans (OkD.of_good d2).val d1
 have hn' : (jD (vB s')).size ≤ 120 := Nat.le_trans (OkD.of_good d2').val d1'
 refine ⟨_, zhQ (OkD.of_good d2) (OkD.of_good d2'), fun hc => ⟨_, _, zfP hq h0 h6 b d1 d2 d3, zfP hq h0 h6 b' d1' d2' d3', fun e1 e2 => ?_⟩⟩
 rw [zju e1, zju e2]
 obtain ⟨k1, k2, k3⟩ := zjL hq m b (n := vB s) (e := e) hn (by omega) (by omega)
 obtain ⟨l1, l2, l3⟩ := zjL hq m b' (n := vB s') (e := e') hn' (by omega) (by omega)
 have okx : OkD (nD (rN q m b (vB s) e)) (rX q m b (vB s) e) := by
  have a1 := zbX _ (rK q (vB s) e) k1
  have a2 := zbt (rN q m b (vB s) e) (rK q (vB s) e)
  have a3 := zeM k1 (by omega)
  have b1 := zbX (yK (rN q m b (vB s) e)) (nE (rN q m b (vB s) e) (rK q (vB s) e) + -q.mult) (xU (zdt _) k1)
  have b2 := zbt (yK (rN q m b (vB s) e)) (nE (rN q m b (vB s) e) (rK q (vB s) e) + -q.mult)
  exact ⟨zdP _, zdJ _, by omega, by unfold rX; omega, by unfold rX; omega⟩
 have oky : OkD (nD (rN q m b' (vB s') e')) (rX q m b' (vB s') e') := by
  have a1 := zbX _ (rK q (vB s') e') l1
  have a2 := zbt (rN q m b' (vB s') e') (rK q (vB s') e')
  have a3 := zeM l1 (by omega)
  have b1 := zbX (yK (rN q m b' (vB s') e')) (nE (rN q m b' (vB s') e') (rK q (vB s') e') + -q.mult) (xU (zdt _) l1)
  have b2 := zbt (yK (rN q m b' (vB s') e')) (nE (rN q m b' (vB s') e') (rK q (vB s') e') + -q.mult)
  exact ⟨zdP _, zdJ _, by omega, by unfold rX; omega, by unfold rX; omega⟩
 refine ⟨_, zhQ okx oky, ?_⟩
 obtain ⟨k, hk⟩ := zoK [e, e', rX q m b (vB s) e, rX q m b' (vB s') e', nE (rN q m b (vB s) e) (rK q (vB s) e) + -q.mult, nE (rN q m b' (vB s') e') (rK q (vB s') e') + -q.mult, rK q (vB s) e - q.mult, rK q (vB s') e' - q.mult]
 simp only [List.mem_cons, List.not_mem_nil, or_false, forall_eq_or_imp, forall_eq] at hk
 obtain ⟨q1, q2, q3, q4, q5, q6, q7, q8⟩ := hk
 rw [zdT, zdT, zgp (k := k) q3 q4, zjI]
 rw [zgp (k := k) q1 q2, zjI] at hc
 have hc : sg b (atE (vB s) e k) ≤ sg b' (atE (vB s') e' k) := hc
 show sg b (atE (yK (rN q m b (vB s) e)) (rX q m b (vB s) e) k) ≤ sg b' (atE (yK (rN q m b' (vB s') e')) (rX q m b' (vB s') e') k)
 rw [zjK q m b (vB s) e k q5 (by omega), zjK q m b' (vB s') e' k q6 (by omega)]
 rw [zkO (vB s) e q.mult k (by omega), zkO (vB s') e' q.mult k (by omega)] at hc
 have p1 : k + q.mult ≤ nE (vB s) (e + q.mult) := by unfold rK at q7; omega
 have p2 : k + q.mult ≤ (stP q.P (jZ (vB s) (e + q.mult))).2 := by unfold rK at q7; omega
 have p3 : k + q.mult ≤ nE (vB s') (e' + q.mult) := by unfold rK at q8; omega
 have p4 : k + q.mult ≤ (stP q.P (jZ (vB s') (e' + q.mult))).2 := by unfold rK at q8; omega
 obtain ⟨c1, c2, c3⟩ := zkn hq.good
 by_cases hs : q.P.sci = true ∨ 0 < q.P.ms
 ·have s1 : ∀ t, stP q.P t = (1, t - (cS q.P : Int) + 1) := fun t => by unfold stP; rw [if_pos hs]
  rw [s1] at p2 p4
  rw [s1, s1]
  rw [← zbR (vB s)] at p2 ⊢
  rw [← zbR (vB s')] at p4 ⊢
  refine ziD hc ?_ ?_ ?_ ?_
  ·rintro ha hb h
   rw [ha, hb]; exact zim c1 p1 p2 p3 p4 h
  ·rintro ha hb h
   rw [ha, hb]; exact zim c1 p3 p4 p1 p2 h
  ·intro h; rw [zbE.1 h, zcP]
  intro h; rw [zbE.1 h, zcP]
 have s1 : ∀ t t', stP q.P t = stP q.P t' := fun t t' => by unfold stP; rw [if_neg hs, if_neg hs]
 rw [s1 (jZ (vB s') (e' + q.mult)) (jZ (vB s) (e + q.mult))]
 exact zkT hc
theorem orders_law (s : ByteArray) (hs : s.size ≤ 1048576) (m : Int) (b : Bool) (s2 : ByteArray) (e : Int) (b' : Bool) (s2' : ByteArray) (e' : Int) (hs2 : s2.size ≤ 140737488351232) (hs2' : s2'.size ≤ 140737488351232) (w : World) (hG : Fig.Glob w) :
  Calls Tryz.prog 5 #[.string s, .int .i64 m, .agg #[.bool b, .string s2, .int .i64 e], .agg #[.bool b', .string s2', .int .i64 e']] w fun e w' => e = .returned (.bool true) ∧ Below w.heap.size w w' :=
 ziQ s hs m b s2 e b' s2' e' hs2 hs2' w hG (fun q hq h1 h2 h0 h6 => ziN b s2 e b' s2' e' m q hq h1 h2 h0 h6)
end Go.Proofs.YtcmgdjnjmobkoaaGreatDoor.Px
section
namespace Go.Proofs.YtcmgdjnjmobkoaaGreatDoorW.PrintWords
open Go.ChangeShapes Go.WideShapes
end Go.Proofs.YtcmgdjnjmobkoaaGreatDoorW.PrintWords
end
section
namespace Fig
open Go Go.ChangeShapes
theorem zmK {α : Type} {l : List α} {i n : Nat} (hl : l.length = n) (hi : i < n) : ∃ v, (l.drop i).take 1 = [v] ∧ l[i]? = some v := by
 refine ⟨l[i], ?_, List.getElem?_eq_getElem (by omega)⟩
 rw [List.drop_eq_getElem_cons (by omega)]; rfl
theorem zlM {P : Program} {W : World} {name : String} {d : DataW Unit} (h : funcsAt P W name d) {g : Nat} {t e : TypeId} {n : Nat} {fld : Field} {ps rs : Array TypeId} {va : Bool}
  (hg : P.globalNamed name = some g) (hty : (P.globals[g]?).map (·.type) = some t) (ht : P.underlying t = some (.array n e)) (he : P.underlying e = some (.struct #[fld])) (hft : P.underlying fld.type = some (.func ps rs va))
  (ce : P.cellsOf e = 1) (cf : P.cellsOf fld.type = 1) (ho : fld.offset = 0) (ct : P.cellsOf t = n) {ds : List (DataW (List UInt8))} (hd : d.funcsOut = .agg ds)
  {i : Nat} (hi : i < n) {b : UInt8} {r : List UInt8} (hdi : ds[i]? = some (.agg [.held (b :: r)])) {f0 : FuncId}
  (hone : ((List.range P.funcs.size).filter fun f => (P.funcs[f]?).any (·.name.toUTF8.data.toList == b :: r)) = [f0]) : W.cell? ⟨g, i, none⟩ = some (.func (.func f0) #[] #[]) := by
 obtain ⟨g', t', cs, fuel, p, hg', ht', hv, hr⟩ := h
 obtain rfl := Option.some.inj (hg.symm.trans hg')
 obtain rfl := Option.some.inj (hty.symm.trans ht')
 obtain ⟨xs, m, _, ex, hcl, hl, hel⟩ := DataW.trod_array ht hr
 rw [hd] at ex
 have e3 : xs.map (·.1) = ds := (DataW.agg.inj (Prod.mk.inj ex).1).symm
 obtain ⟨v, hv1, hv2⟩ := zmK (l := cs.toList) (n := n) (hcl.trans ct) hi
 have hE := hel i hi
 rw [ce, Nat.mul_one, hv1] at hE
 rw [← e3, List.getElem?_map] at hdi
 cases hx : xs[i]? with
 | none => rw [hx] at hdi; cases hdi
 | some x =>
  rw [hx] at hE hdi
  simp only [Option.map_some, Option.some.injEq] at hdi
  obtain ⟨y0, k, rfl, _, hy⟩ := trod_struct1 he hE
  rw [cf, ho, List.drop_zero] at hy
  have hy0 : y0.1 = .held (b :: r) := by simpa using hdi
  obtain ⟨y1, y2⟩ := y0
  subst hy0
  obtain rfl := func_of_trod hft hone (show DataW.trod _ P W 0 _ true k fld.type [v] = _ from hy)
  rw [World.var?_cell hg hv i]
  simpa using hv2
theorem zff (g : Nat) : ∀ (l : List Value) (i : Nat) (w : World), ((l.zipIdx i).foldl (fun w x => w.setCell ⟨g, x.2, none⟩ x.1) w).os = w.os
 | [], _, _ => rfl
 | _ :: l, i, w => by rw [List.zipIdx_cons, List.foldl_cons, zff g l (i + 1)]; rfl
end Fig
end
section
namespace Fig
open Go Go.Proofs Go.Proofs.YtcmgdjnjmobkoaaGreatDoor
set_option maxRecDepth 100000
def zhW : List (String × DataW Unit) := [("unicode/utf8.acceptRanges", Rows.laid_unicode_utf8_acceptRanges), ("figurehead/ten.powers", Rows.laid_figurehead_ten_powers), ("unicode/utf8.first", Rows.laid_unicode_utf8_first)]
def zeR : List (String × DataW Unit) := [("figurehead/mode.ways", Rows.laid_figurehead_mode_ways), ("unicode/utf8.acceptRanges", Rows.laid_unicode_utf8_acceptRanges), ("figurehead/ten.powers", Rows.laid_figurehead_ten_powers), ("unicode/utf8.first", Rows.laid_unicode_utf8_first)]
def zmC : List Value := [.func (.func 173) #[] #[], .func (.func 174) #[] #[], .func (.func 175) #[] #[], .func (.func 176) #[] #[], .func (.func 177) #[] #[], .func (.func 178) #[] #[], .func (.func 179) #[] #[], .func (.func 180) #[] #[]]
noncomputable def startW (os : Os) : World := (zmC.zipIdx 0).foldl (fun w x => w.setCell ⟨1, x.2, none⟩ x.1) (World.laidAll Tryz.prog os zhW)
theorem startW_os (os : Os) : (startW os).os = os := (zff _ _ _ _).trans (World.laidAll_os _ _ _)
theorem met (os : Os) (args : Array Value) : laidMetH Tryz.prog zeR ((startW os).forCall (fun _ _ => 0) ⟨#[], args, []⟩).memory :=
 laidMetH_of_parts3 (fuel := 8) (laidMet_of_run' 8 (by kernel_rfl) (by kernel_rfl)) (by kernel_rfl) (by kernel_rfl)
theorem ziL : (zeR.filter fun x => x.2.handleName?.isNone) = zhW := by kernel_rfl
theorem zmD {W : World} (h : laidMetH Tryz.prog zeR W) : laidMet Tryz.prog zhW W := ziL ▸ (laidMetH_iff.1 h).1
theorem znT {W : World} (h : laidMetH Tryz.prog zeR W) : ∀ i f, ([173, 174, 175, 176, 177, 178, 179, 180] : List Nat)[i]? = some f → W.cell? ⟨1, i, none⟩ = some (.func (.func f) #[] #[]) := by
 have hF := h.funcs (n := "figurehead/mode.ways") (List.mem_cons_self)
 have gN : Tryz.prog.globalNamed "figurehead/mode.ways" = some 1 := by kernel_rfl
 have gT : (Tryz.prog.globals[1]?).map (·.type) = some 130 := by kernel_rfl
 have c1 : Tryz.prog.cellsOf 129 = 1 := by kernel_rfl
 have c2 : Tryz.prog.cellsOf 127 = 1 := by kernel_rfl
 have c3 : Tryz.prog.cellsOf 130 = 8 := by kernel_rfl
 intro i f hf
 have key : ∀ {b : UInt8} {r : List UInt8} {j : Nat} {f0 : FuncId}, j < 8 → _ → _ → W.cell? ⟨1, j, none⟩ = some (.func (.func f0) #[] #[]) := fun {b} {r} {j} {f0} hj hdi hone => zlM (b := b) (r := r) hF gN gT Tryz.underlying130 Tryz.underlying129 Tryz.underlying127 c1 c2 rfl c3 rfl hj hdi hone
 match i, hf with
 | 0, hf => obtain rfl := Option.some.inj hf; exact key (b := 102) (r := [105, 103, 117, 114, 101, 104, 101, 97, 100, 47, 109, 111, 100, 101, 46, 119, 97, 121, 115, 36, 49]) (by decide) rfl (by kernel_rfl)
 | 1, hf => obtain rfl := Option.some.inj hf; exact key (b := 102) (r := [105, 103, 117, 114, 101, 104, 101, 97, 100, 47, 109, 111, 100, 101, 46, 119, 97, 121, 115, 36, 50]) (by decide) rfl (by kernel_rfl)
 | 2, hf => obtain rfl := Option.some.inj hf; exact key (b := 102) (r := [105, 103, 117, 114, 101, 104, 101, 97, 100, 47, 109, 111, 100, 101, 46, 119, 97, 121, 115, 36, 51]) (by decide) rfl (by kernel_rfl)
 | 3, hf => obtain rfl := Option.some.inj hf; exact key (b := 102) (r := [105, 103, 117, 114, 101, 104, 101, 97, 100, 47, 109, 111, 100, 101, 46, 119, 97, 121, 115, 36, 52]) (by decide) rfl (by kernel_rfl)
 | 4, hf => obtain rfl := Option.some.inj hf; exact key (b := 102) (r := [105, 103, 117, 114, 101, 104, 101, 97, 100, 47, 109, 111, 100, 101, 46, 119, 97, 121, 115, 36, 53]) (by decide) rfl (by kernel_rfl)
 | 5, hf => obtain rfl := Option.some.inj hf; exact key (b := 102) (r := [105, 103, 117, 114, 101, 104, 101, 97, 100, 47, 109, 111, 100, 101, 46, 119, 97, 121, 115, 36, 54]) (by decide) rfl (by kernel_rfl)
 | 6, hf => obtain rfl := Option.some.inj hf; exact key (b := 102) (r := [105, 103, 117, 114, 101, 104, 101, 97, 100, 47, 109, 111, 100, 101, 46, 119, 97, 121, 115, 36, 55]) (by decide) rfl (by kernel_rfl)
 | 7, hf => obtain rfl := Option.some.inj hf; exact key (b := 102) (r := [105, 103, 117, 114, 101, 104, 101, 97, 100, 47, 109, 111, 100, 101, 46, 119, 97, 121, 115, 36, 56]) (by decide) rfl (by kernel_rfl)
 | k + 8, hf => simp at hf
theorem zoa {W : World} (h : laidMetH Tryz.prog zeR W) : ∀ i, i < 9 → W.cell? ⟨0, i, none⟩ = some (.int .u32 (([1, 10, 100, 1000, 10000, 100000, 1000000, 10000000, 100000000] : List Int).getD i 0)) := by
 have gN : Tryz.prog.globalNamed "figurehead/ten.powers" = some 0 := by kernel_rfl
 have gT : (Tryz.prog.globals[0]?).map (·.type) = some 124 := by kernel_rfl
 have hT := Lib.tabIs_of_head (k := .u32) (zs := [1, 10, 100, 1000, 10000, 100000, 1000000, 10000000, 100000000]) gN gT Tryz.underlying124 Tryz.underlying95 (by kernel_rfl) (by kernel_rfl) (laidMet.tail (zmD h))
 exact fun i hi => hT.cell gN i hi
theorem of_laid {W : World} (h : laidMetH Tryz.prog zeR W) : Glob W := ⟨znT h, zoa h⟩
end Fig
end
section
namespace Fig
open Go Go.ChangeShapes Go.WideShapes Go.RowKit Go.Deep Go.WideElems Go.Joins
theorem open_dec {H : Type} {enc : TypeId × Value → H} {P : Program} {w : World} {base : Nat} {spare : Nat → Bool} {held : Bool} {r : Reach} {b0 : Nat} {t : TypeId} {f0 f1 f2 : Field} {v : Value} {d : DataW H} {p : List MemPlace} {k : IntKind} (hs : P.underlying t = some (.struct #[f0, f1, f2])) (hone : oneCellFields P #[f0, f1, f2] = true) (hC : P.cellsOf t = 3)
  (u0 : P.underlying f0.type = some .bool) (u1 : P.underlying f1.type = some .string) (u2 : P.underlying f2.type = some (.int k)) (hv : Value.okWide P w r b0 t v) (h : DataW.Trod enc P w base spare held t v d p) :
  ∃ (x : Bool) (s : ByteArray) (n : Int), v = .agg #[.bool x, .string s, .int k n] ∧ d = .agg [.lit (.bool x), .lit (.string s.data.toList), .lit (.int k n)] ∧ p = [] ∧ s.size ≤ maxLen ∧ (Lit.int k n).wf = true := by
 obtain ⟨v0, v1, v2, y0, y1, y2, n, rfl, rfl, rfl, h0, h1, h2⟩ := open_agg3 hs hone hC hv h
 obtain ⟨x, e0, rfl⟩ := DataW.trod_bool u0 h0
 obtain ⟨s, e1, rfl, hl⟩ := DataW.trod_string u1 h1
 obtain ⟨m, e2, rfl, hw⟩ := DataW.trod_int u2 h2
 simp only [List.cons.injEq, and_true] at e0 e1 e2
 subst e0 e1 e2
 exact ⟨x, s, m, rfl, rfl, rfl, hl, hw⟩
theorem shut_dec {H : Type} {enc : TypeId × Value → H} {P : Program} {w : World} {base : Nat} {spare : Nat → Bool} {held : Bool} {t : TypeId} {f0 f1 f2 : Field} {k : IntKind} {x : Bool} {s : ByteArray} {n : Int} (hs : P.underlying t = some (.struct #[f0, f1, f2])) (hone : oneCellFields P #[f0, f1, f2] = true) (hC : P.cellsOf t = 3)
  (u0 : P.underlying f0.type = some .bool) (u1 : P.underlying f1.type = some .string) (u2 : P.underlying f2.type = some (.int k)) (hl : s.size ≤ maxLen) (hw : (Lit.int k n).wf = true) :
  DataW.Trod enc P w base spare held t (.agg #[.bool x, .string s, .int k n]) (.agg [.lit (.bool x), .lit (.string s.data.toList), .lit (.int k n)]) [] :=
 shut_agg3 (y0 := (.lit (.bool x), [])) (y1 := (.lit (.string s.data.toList), [])) (y2 := (.lit (.int k n), [])) hs hone hC ⟨1, by simp [DataW.trod, u0]⟩ ⟨1, by simp [DataW.trod, u1, hl]⟩ ⟨1, by simp [DataW.trod, u2, hw]⟩
theorem sized_dec {H : Type} {P : Program} {ts : List TypeId} {ds : List (DataW H)} (h : (DataW.weightsEach P ts ds).all (· ≤ reachBytes) = true) {j : Nat} {t : TypeId} {f0 f1 f2 : Field} {x y : DataW H} {bytes : List UInt8} (ht : ts[j]? = some t) (hd : ds[j]? = some (.agg [x, .lit (.string bytes), y])) (hs : P.underlying t = some (.struct #[f0, f1, f2])) : bytes.length ≤ reachBytes := by
 have := List.all_eq_true.1 h _ (DataW.weights_mem_each ht hd bytes.length (by simp [DataW.weights, DataW.weightsEach, hs]))
 simpa using this
end Fig
end
