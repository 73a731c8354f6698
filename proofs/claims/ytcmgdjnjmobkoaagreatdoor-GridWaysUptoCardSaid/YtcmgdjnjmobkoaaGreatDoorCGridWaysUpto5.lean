/- The functions that the law GridWaysUpto reaches, told as plain functions, with what is proved of them, and the words they need (part 5). -/
import Derived.Test.YtcmgdjnjmobkoaaGreatDoorCGridWaysUpto0
import Derived.Test.YtcmgdjnjmobkoaaGreatDoorCGridWaysUpto2
import Derived.Test.YtcmgdjnjmobkoaaGreatDoorCGridWaysUpto4
import Derived.Test.YtcmgdjnjmobkoaaGreatDoorCGridWaysUpto3
import Derived.Test.YtcmgdjnjmobkoaaGreatDoorCGridWaysUpto1
import Derived.SizedLaws
import Derived.ChangeSlices
import Derived.LaidMore
import Derived.LaidHandle
import Derived.LaidSub
import Derived.OpenShut
import Derived.ChangeSame
import Derived.Lay
import Derived.Lib.LaidTab
import Derived.Test.YtcmgdjnjmobkoaaGreatDoorRows
import Derived.Stop.LaidErr
import Derived.Lib.SmallJoins
import Derived.ChangeMaps5
set_option linter.unusedVariables false
set_option linter.unusedSimpArgs false
namespace Go.Proofs.YtcmgdjnjmobkoaaGreatDoor.Px
open Fig Go.RowKit Go.Proofs.YtcmgdjnjmobkoaaGreatDoorW.PrintWords Go.Proofs.YtcmgdjnjmobkoaaGreatDoorW.PrintLast Go.Proofs.YtcmgdjnjmobkoaaGreatDoorW.PrintMore
attribute [local go_sem] uE uC uV uW vJ vL uF uB
attribute [local go_sem] xB xI xF xJ xA qZ xC qW qV xG qX qT xE qY
def vC.f (a0_0 : Bool) (a0_1 : ByteArray) (a0_2 : Int) (a1_0 : Bool) (a1_1 : ByteArray) (a1_2 : Int) : Option (Bool × ByteArray × Int) := (qC.f a0_0 a0_1 a0_2).bind fun t665 => ((yP.f t665 (wrap64 (a0_2 - (mn a0_2 a1_2)))).bind fun t668 => ((qC.f a1_0 a1_1 a1_2).bind fun t671 => ((yP.f t671 (wrap64 (a1_2 - (mn a0_2 a1_2)))).bind fun t674 => (if (a0_0 == a1_0) = true then ((vN.f t668 t674).bind fun t677 => ((qD.f a0_0 t677 (mn a0_2 a1_2)).bind fun bt680 => (some (bt680.1, bt680.2.1, bt680.2.2)))) else ((xV.f t668 t674).bind fun bt683 => (if bt683.2 = true then ((qD.f a0_0 bt683.1 (mn a0_2 a1_2)).bind fun bt687 => (some (bt687.1, bt687.2.1, bt687.2.2))) else ((xV.f t674 t668).bind fun bt690 => ((qD.f a1_0 bt690.1 (mn a0_2 a1_2)).bind fun bt694 => (some (bt694.1, bt694.2.1, bt694.2.2))))))))))
def vC.T2 : Bool × List (List Nat × List Nat) := (true, [([], []), ([0], [0]), ([], []), ([2], [2]), ([], []), ([3, 4], [3, 4]), ([1, 5, 1], [1, 5]), ([], []), ([7, 6], [7]), ([], []), ([9], [9]), ([], []), ([10, 11], [10, 11]), ([8, 12, 8], [8, 12]), ([6, 13, 0, 1, 2, 3, 4, 5, 6], [6]), ([13, 14, 0, 1, 2, 3, 4, 5, 6, 7, 8, 9, 10, 11, 12, 13, 14], [13])])
def vC.B2 : List Nat := [0, 1, 0, 4, 0, 28, 63, 0, 255, 0, 512, 0, 3584, 8191, 16383, 32767]
theorem vC.tab2 : qS .any (zbI Tryz.f98 2) = vC.T2 := by kernel_rfl
theorem vC.bits2 : xW vC.T2.2 vC.B2 = true := by kernel_rfl
def vC.T4 : Bool × List (List Nat × List Nat) := (true, [([], []), ([0], [0]), ([], []), ([], []), ([2, 3], [2, 3]), ([], []), ([1, 4, 5, 4], [1, 4, 5]), ([6, 6, 0, 1, 2, 3, 4, 5, 6], [6])])
def vC.B4 : List Nat := [0, 1, 0, 0, 12, 0, 63, 127]
theorem vC.tab4 : qS .any (zbI Tryz.f98 4) = vC.T4 := by kernel_rfl
theorem vC.bits4 : xW vC.T4.2 vC.B4 = true := by kernel_rfl
set_option maxHeartbeats 8000000 in
set_option maxRecDepth 100000 in
theorem vC.calls (a0_0 : Bool) (a0_1 : ByteArray) (a0_2 : Int) (a1_0 : Bool) (a1_1 : ByteArray) (a1_2 : Int) (r1 : Bool) (r2 : ByteArray) (r3 : Int) (w : World) (hG : Fig.Glob w) (h : vC.f a0_0 a0_1 a0_2 a1_0 a1_1 a1_2 = some (r1, r2, r3)) :
  Calls Tryz.prog 98 #[.agg #[.bool a0_0, .string a0_1, .int .i64 a0_2], .agg #[.bool a1_0, .string a1_1, .int .i64 a1_2]] w fun e w' => e = .returned (.agg #[.bool r1, .string r2, .int .i64 r3]) ∧ Below w.heap.size w w' := by
 have hu23 := Tryz.underlying23
 have HG := K_ hG
 clear hG
 have HB := K_ (Below.refl w.heap.size w)
 have H : ((qC.f a0_0 a0_1 a0_2).bind fun t665 => ((yP.f t665 (wrap64 (a0_2 - (mn a0_2 a1_2)))).bind fun t668 => ((qC.f a1_0 a1_1 a1_2).bind fun t671 => ((yP.f t671 (wrap64 (a1_2 - (mn a0_2 a1_2)))).bind fun t674 => (if (a0_0 == a1_0) = true then ((vN.f t668 t674).bind fun t677 => ((qD.f a0_0 t677 (mn a0_2 a1_2)).bind fun bt680 => (some (bt680.1, bt680.2.1, bt680.2.2)))) else ((xV.f t668 t674).bind fun bt683 => (if bt683.2 = true then ((qD.f a0_0 bt683.1 (mn a0_2 a1_2)).bind fun bt687 => (some (bt687.1, bt687.2.1, bt687.2.2))) else ((xV.f t674 t668).bind fun bt690 => ((qD.f a1_0 bt690.1 (mn a0_2 a1_2)).bind fun bt694 => (some (bt694.1, bt694.2.1, bt694.2.2))))))))))) = some (r1, r2, r3) := h
 clear h
 obtain ⟨ji3, hji3⟩ : ∃ j_ : Int, (mn a0_2 a1_2) = j_ := ⟨_, rfl⟩
 replace H : ((qC.f a0_0 a0_1 a0_2).bind fun t665 => ((yP.f t665 (wrap64 (a0_2 - (ji3)))).bind fun t668 => ((qC.f a1_0 a1_1 a1_2).bind fun t671 => ((yP.f t671 (wrap64 (a1_2 - (ji3)))).bind fun t674 => (if (a0_0 == a1_0) = true then ((vN.f t668 t674).bind fun t677 => ((qD.f a0_0 t677 (ji3)).bind fun bt680 => (some (bt680.1, bt680.2.1, bt680.2.2)))) else ((xV.f t668 t674).bind fun bt683 => (if bt683.2 = true then ((qD.f a0_0 bt683.1 (ji3)).bind fun bt687 => (some (bt687.1, bt687.2.1, bt687.2.2))) else ((xV.f t674 t668).bind fun bt690 => ((qD.f a1_0 bt690.1 (ji3)).bind fun bt694 => (some (bt694.1, bt694.2.1, bt694.2.2))))))))))) = some (r1, r2, r3) := by first | (rw [hji3] at H; exact H) | (simp only [hji3] at H ⊢; exact H)
 have hji3_ : (if a1_2 < a0_2 then a1_2 else a0_2) = ji3 := hji3
 obtain ⟨t665, A40, H⟩ := Option.bind_eq_some_iff.mp H
 (try dsimp -simprocs only at H)
 have A4 := K_ A40
 clear A40
 obtain ⟨t668, A50, H⟩ := Option.bind_eq_some_iff.mp H
 (try dsimp -simprocs only at H)
 have A5 := K_ A50
 clear A50
 obtain ⟨t671, A60, H⟩ := Option.bind_eq_some_iff.mp H
 (try dsimp -simprocs only at H)
 have A6 := K_ A60
 clear A60
 obtain ⟨t674, A70, H⟩ := Option.bind_eq_some_iff.mp H
 (try dsimp -simprocs only at H)
 have A7 := K_ A70
 clear A70
 (try have HS2_ := K_ H)
 (try clear H)
 go_enter Tryz.func98, Tryz.ntmps98
 try go_wp2_with (first | (refine be_ 2 #[.bool a0_0, .string a0_1, .int .i64 a0_2] 23 ?_; intro gb662 hg w11 hbox hb; have BK662 := K_ (hbox); have GW662 := ge_ hg HB; have GE662 := ge_ hg HB; replace HB := zE HB hb; clear hb hbox hg) | (refine be_ 3 #[.bool a1_0, .string a1_1, .int .i64 a1_2] 23 ?_; intro gb663 hg w12 hbox hb; have BK663 := K_ (hbox); have GW663 := ge_ hg HB; have GE663 := ge_ hg HB; replace HB := zE HB hb; have NB662_663 := nb_ hg BK662; have NB663_662 := nc_ hg BK662; replace BK662 := zC BK662 hb; clear hb hbox hg) | (refine be_ 4 #[.bool false, .string (⟨#[]⟩ : ByteArray), .int .i64 0] 23 ?_; intro gb664 hg w13 hbox hb; have BK664 := K_ (hbox); have GW664 := ge_ hg HB; have GE664 := ge_ hg HB; replace HB := zE HB hb; have NB662_664 := nb_ hg BK662; have NB664_662 := nc_ hg BK662; replace BK662 := zC BK662 hb; have NB663_664 := nb_ hg BK663; have NB664_663 := nc_ hg BK663; replace BK663 := zC BK663 hb; clear hb hbox hg; have hnb14 := NB662_663.out; have hnc14 := NB663_662.out; have hnb15 := NB662_664.out; have hnc15 := NB664_662.out; obtain ⟨⟨hcz16_0, hcz16_1, hcz16_2⟩, hfz16_0, hfz16_1, hfz16_2⟩ := ce3 BK662; have hnb17 := NB663_664.out; have hnc17 := NB664_663.out; obtain ⟨⟨hcz18_0, hcz18_1, hcz18_2⟩, hfz18_0, hfz18_1, hfz18_2⟩ := ce3 BK663))
 (try (rw [vG w13]; generalize hq_ : World.drewN w13 _ = w13; replace BK662 := qA BK662 hq_; replace BK663 := qA BK663 hq_; replace BK664 := qA BK664 hq_; replace HB := zaS HB hq_; clear hq_))
 replace BK662 := K_ (zV BK662.out)
 replace BK663 := K_ (zV BK663.out)
 replace BK664 := K_ (zV BK664.out)
 replace HB := K_ (yI HB.out)
 refine vK (n := 16) (S := fun w' => w'.cell? ⟨gb662, 0, none⟩ = some (.bool a0_0) ∧ w'.cell? ⟨gb662, 1, none⟩ = some (.string a0_1) ∧ w'.cell? ⟨gb662, 2, none⟩ = some (.int .i64 a0_2) ∧ w'.cell? ⟨gb663, 0, none⟩ = some (.bool a1_0) ∧ w'.cell? ⟨gb663, 1, none⟩ = some (.string a1_1) ∧ w'.cell? ⟨gb663, 2, none⟩ = some (.int .i64 a1_2)) (ds := []) #[false, false, false, false, false, false, false, false, false, false, false, false, false, false, false, false] (by kernel_rfl) rfl rfl CE (fun hHeld => ?_); refine qJ vC.tab2 vC.bits2 (fun HT_ HW_ => ?_)
 generalize w13.drew = w19 at BK662 BK663 BK664 HB hHeld ⊢
 refine pu_ 2 (some 19) (bb 16 4) (zL HT_.out (by kernel_rfl)) ?_
 refine pu_ 4 (some 21) (bb 16 20) (zL HT_.out (by kernel_rfl)) ?_
 refine pu_ 9 (some 26) (bb 16 532) (zL HT_.out (by kernel_rfl)) ?_
 refine pu_ 11 (some 28) (bb 16 2580) (zL HT_.out (by kernel_rfl)) ?_
 refine tk_ 0 (some 17) (bb 16 2581) (vU HT_.out HW_.out (by kernel_rfl)) hHeld ?_
 refine tk_ 3 (some 20) (bb 16 2589) (vU HT_.out HW_.out (by kernel_rfl)) hHeld ?_
 refine pu_ 5 (some 22) (bb 16 2621) (zL HT_.out (by kernel_rfl)) ?_
 refine tk_ 7 (some 24) (bb 16 2749) (vU HT_.out HW_.out (by kernel_rfl)) hHeld ?_
 refine tk_ 10 (some 27) (bb 16 3773) (vU HT_.out HW_.out (by kernel_rfl)) hHeld ?_
 refine pu_ 12 (some 29) (bb 16 7869) (zL HT_.out (by kernel_rfl)) ?_
 refine vT (i := 1) (N := some 18) (bb 16 7871) rfl rfl (yE HT_.out (by kernel_rfl)) (by decide) (fun K hK => ?_)
 refine gq_ Tryz.func76 #[.agg #[.bool a0_0, .string a0_1, .int .i64 a0_2]] ?_
 with_reducible refine (qC.calls a0_0 a0_1 a0_2 t665 _ A4.out).mono ?_
 rintro e w20 ⟨v666, rfl, ho0, hb⟩
 refine ⟨_, rfl, ?_⟩
 have HO667 := K_ (Kd.R_lower ho0 (zJ (BL HB)))
 replace BK662 := zC BK662 hb
 replace BK663 := zC BK663 hb
 replace BK664 := zC BK664 hb
 replace HB := zE HB hb
 (try clear hb)
 (try clear hb2)
 (try clear hk)
 (try clear hi)
 (try clear ho0)
 obtain ⟨Ao21, co21, eo21⟩ := Kd.R_slice HO667.out
 (first | subst eo21 | (injection eo21 with f1_ f2_ f3_; have f4_ := f1_.symm; have f5_ := f3_.symm; clear f1_ f2_ f3_; subst f4_; subst f5_))
 refine hK.out _ _ CE (fun hHeld => ?_)
 clear hK K
 refine no_ (some 18) ?_
 refine vT (i := 6) (N := some 23) (bb 16 7935) rfl rfl (yE HT_.out (by kernel_rfl)) (by decide) (fun K hK => ?_)
 refine zdt Tryz.func74 (by kernel_rfl) rfl #[.slice Ao21 t665.length co21, .int .i64 (wrap64 (a0_2 - (ji3)))] (by rfl) rfl rfl (by (try simp only [List.map_toArray]); (try simp only [List.map_cons]); (try simp only [List.map_nil]); first | done | (simp only [hji3]; rfl) | rfl | (simp only [List.length_drop, List.length_take]; rfl)) ?_
 with_reducible refine (yP.calls _ _ t665 (wrap64 (a0_2 - (ji3))) t668 _ ?side1 ?side2 ?side3 A5.out).mono ?_
 (case side1 => exact Fig.Glob.below HG.out (BL HB))
 (case side2 => exact CB ((Kd.R_reads' HO667.out).2.2))
 (case side3 => exact (Kd.R_reads' HO667.out).2.1)
 rintro e w22 ⟨v669, rfl, ho0, hb⟩
 refine ⟨_, rfl, ?_⟩
 have HO670 := K_ (Kd.R_lower (Kd.R_new' ho0 (Kd.R_lt (RB HO667.out))) (zJ (BL HB)))
 replace HO667 := K_ (Kd.R_elder' (RB HO667.out) (Kd.R_base ho0) hb)
 replace BK662 := zC BK662 hb
 replace BK663 := zC BK663 hb
 replace BK664 := zC BK664 hb
 replace HB := zE HB hb
 (try clear hb)
 (try clear hb2)
 (try clear hk)
 (try clear hi)
 (try clear ho0)
 refine hK.out _ _ CE (fun hHeld => ?_)
 clear hK K
 refine no_ (some 23) ?_
 refine vT (i := 8) (N := some 25) (bb 16 8191) rfl rfl (yE HT_.out (by kernel_rfl)) (by decide) (fun K hK => ?_)
 refine gq_ Tryz.func76 #[.agg #[.bool a1_0, .string a1_1, .int .i64 a1_2]] ?_
 with_reducible refine (qC.calls a1_0 a1_1 a1_2 t671 _ A6.out).mono ?_
 rintro e w23 ⟨v672, rfl, ho0, hb⟩
 refine ⟨_, rfl, ?_⟩
 have HO673 := K_ (Kd.R_lower (Kd.R_new' (Kd.R_new' ho0 (Kd.R_lt (RB HO667.out))) (Kd.R_lt (RB HO670.out))) (zJ (BL HB)))
 replace HO667 := K_ (Kd.R_elder' (RB HO667.out) (Kd.R_base ho0) hb)
 replace HO670 := K_ (Kd.R_elder' (RB HO670.out) (Kd.R_base ho0) hb)
 replace BK662 := zC BK662 hb
 replace BK663 := zC BK663 hb
 replace BK664 := zC BK664 hb
 replace HB := zE HB hb
 (try clear hb)
 (try clear hb2)
 (try clear hk)
 (try clear hi)
 (try clear ho0)
 obtain ⟨Ao24, co24, eo24⟩ := Kd.R_slice HO673.out
 (first | subst eo24 | (injection eo24 with f1_ f2_ f3_; have f4_ := f1_.symm; have f5_ := f3_.symm; clear f1_ f2_ f3_; subst f4_; subst f5_))
 refine hK.out _ _ CE (fun hHeld => ?_)
 clear hK K
 refine no_ (some 25) ?_
 refine vT (i := 13) (N := some 30) (bb 16 16383) rfl rfl (yE HT_.out (by kernel_rfl)) (by decide) (fun K hK => ?_)
 refine zdt Tryz.func74 (by kernel_rfl) rfl #[.slice Ao24 t671.length co24, .int .i64 (wrap64 (a1_2 - (ji3)))] (by rfl) rfl rfl (by (try simp only [List.map_toArray]); (try simp only [List.map_cons]); (try simp only [List.map_nil]); first | done | (simp only [hji3]; rfl) | rfl | (simp only [List.length_drop, List.length_take]; rfl)) ?_
 with_reducible refine (yP.calls _ _ t671 (wrap64 (a1_2 - (ji3))) t674 _ ?side1 ?side2 ?side3 A7.out).mono ?_
 (case side1 => exact Fig.Glob.below HG.out (BL HB))
 (case side2 => exact CB ((Kd.R_reads' HO673.out).2.2))
 (case side3 => exact (Kd.R_reads' HO673.out).2.1)
 rintro e w25 ⟨v675, rfl, ho0, hb⟩
 refine ⟨_, rfl, ?_⟩
 have HO676 := K_ (Kd.R_lower (Kd.R_new' (Kd.R_new' (Kd.R_new' ho0 (Kd.R_lt (RB HO667.out))) (Kd.R_lt (RB HO670.out))) (Kd.R_lt (RB HO673.out))) (zJ (BL HB)))
 replace HO667 := K_ (Kd.R_elder' (RB HO667.out) (Kd.R_base ho0) hb)
 replace HO670 := K_ (Kd.R_elder' (RB HO670.out) (Kd.R_base ho0) hb)
 replace HO673 := K_ (Kd.R_elder' (RB HO673.out) (Kd.R_base ho0) hb)
 replace BK662 := zC BK662 hb
 replace BK663 := zC BK663 hb
 replace BK664 := zC BK664 hb
 replace HB := zE HB hb
 (try clear hb)
 (try clear hb2)
 (try clear hk)
 (try clear hi)
 (try clear ho0)
 refine hK.out _ _ CE (fun hHeld => ?_)
 clear hK K
 refine no_ (some 30) ?_
 (try have H := HS2_.out)
 (try clear HS2_)
 by_cases c8 : (a0_0 == a1_0) = true
 ·rw [if_pos c8] at H
  have c8b0 : (a0_0 == a1_0) = true := c8
  (try (have c8b1 : decide (a0_0 = a1_0) = true := by simpa using c8))
  (try (have c8b2 : (a0_0 == a1_0) = true := by simpa using c8))
  clear c8
  obtain ⟨t677, A90, H⟩ := Option.bind_eq_some_iff.mp H
  (try dsimp -simprocs only at H)
  have A9 := K_ A90
  clear A90
  obtain ⟨⟨t680, t681, t682⟩, A100, H⟩ := Option.bind_eq_some_iff.mp H
  (try dsimp -simprocs only at H)
  have A10 := K_ A100
  clear A100
  simp only [Option.some.injEq, Prod.mk.injEq] at H
  obtain ⟨rfl, rfl, rfl⟩ := H
  refine pu_ 14 (some 6) (bb 16 32767) (zL HT_.out (by kernel_rfl)) ?_
  refine pu_ 15 (some 7) (bb 16 65535) (zL HT_.out (by kernel_rfl)) ?_
  refine vO (uX HT_.out (by kernel_rfl)) ?_
  obtain ⟨⟨hcz26_0, hcz26_1, hcz26_2⟩, hfz26_0, hfz26_1, hfz26_2⟩ := ce3 BK662
  obtain ⟨⟨hcz27_0, hcz27_1, hcz27_2⟩, hfz27_0, hfz27_1, hfz27_2⟩ := ce3 BK663
  try go_wp2
  (try (rw [vG w25]; generalize hq_ : World.drewN w25 _ = w25; replace HO667 : Aside0 (Kd.R (Kd.int .u32) 95 w25 w.heap.size (fun k_ => some k_ ≠ (v669 : Value).ownBlock ∧ some k_ ≠ (.slice Ao24 t671.length co24 : Value).ownBlock ∧ some k_ ≠ (v675 : Value).ownBlock) (.slice Ao21 t665.length co21) t665) := ⟨by rw [← hq_]; exact (by (with_reducible repeat (first | apply Kd.R_alloc | apply Kd.R_drewN | apply Kd.R_drew)); exact Kd.R_mono HO667.out (fun _ hk => ⟨hk.1.1.2, ⟨hk.1.2, hk.2⟩⟩))⟩; replace HO670 : Aside0 (Kd.R (Kd.int .u32) 95 w25 w.heap.size (fun k_ => some k_ ≠ (.slice Ao21 t665.length co21 : Value).ownBlock ∧ some k_ ≠ (.slice Ao24 t671.length co24 : Value).ownBlock ∧ some k_ ≠ (v675 : Value).ownBlock) v669 t668) := ⟨by rw [← hq_]; exact (by (with_reducible repeat (first | apply Kd.R_alloc | apply Kd.R_drewN | apply Kd.R_drew)); exact Kd.R_mono HO670.out (fun _ hk => ⟨hk.1.1.2, ⟨hk.1.2, hk.2⟩⟩))⟩; replace HO673 : Aside0 (Kd.R (Kd.int .u32) 95 w25 w.heap.size (fun k_ => some k_ ≠ (.slice Ao21 t665.length co21 : Value).ownBlock ∧ some k_ ≠ (v669 : Value).ownBlock ∧ some k_ ≠ (v675 : Value).ownBlock) (.slice Ao24 t671.length co24) t671) := ⟨by rw [← hq_]; exact (by (with_reducible repeat (first | apply Kd.R_alloc | apply Kd.R_drewN | apply Kd.R_drew)); exact Kd.R_mono HO673.out (fun _ hk => ⟨hk.1.1.2, ⟨hk.1.2, hk.2⟩⟩))⟩; replace HO676 : Aside0 (Kd.R (Kd.int .u32) 95 w25 w.heap.size (fun k_ => some k_ ≠ (.slice Ao21 t665.length co21 : Value).ownBlock ∧ some k_ ≠ (v669 : Value).ownBlock ∧ some k_ ≠ (.slice Ao24 t671.length co24 : Value).ownBlock) v675 t674) := ⟨by rw [← hq_]; exact (by (with_reducible repeat (first | apply Kd.R_alloc | apply Kd.R_drewN | apply Kd.R_drew)); exact Kd.R_mono HO676.out (fun _ hk => ⟨hk.1.1.2, ⟨hk.1.2, hk.2⟩⟩))⟩; replace BK662 := qA BK662 hq_; replace BK663 := qA BK663 hq_; replace BK664 := qA BK664 hq_; replace HB := zaS HB hq_; clear hq_))
  replace HO667 := K_ (Kd.R_drew HO667.out)
  replace HO670 := K_ (Kd.R_drew HO670.out)
  replace HO673 := K_ (Kd.R_drew HO673.out)
  replace HO676 := K_ (Kd.R_drew HO676.out)
  replace BK662 := K_ (zV BK662.out)
  replace BK663 := K_ (zV BK663.out)
  replace BK664 := K_ (zV BK664.out)
  replace HB := K_ (yI HB.out)
  obtain ⟨Ao29, co29, eo29⟩ := Kd.R_slice HO670.out
  (first | subst eo29 | (injection eo29 with f1_ f2_ f3_; have f4_ := f1_.symm; have f5_ := f3_.symm; clear f1_ f2_ f3_; subst f4_; subst f5_))
  obtain ⟨Ao30, co30, eo30⟩ := Kd.R_slice HO676.out
  (first | subst eo30 | (injection eo30 with f1_ f2_ f3_; have f4_ := f1_.symm; have f5_ := f3_.symm; clear f1_ f2_ f3_; subst f4_; subst f5_))
  refine vK (n := 8) (S := fun w' => w'.cell? ⟨gb662, 0, none⟩ = some (.bool a0_0) ∧ w'.cell? ⟨gb662, 1, none⟩ = some (.string a0_1) ∧ w'.cell? ⟨gb662, 2, none⟩ = some (.int .i64 a0_2)) (ds := []) #[false, false, false, false, false, false, false, false] (by kernel_rfl) rfl rfl CE (fun hHeld => ?_); refine qJ vC.tab4 vC.bits4 (fun HT_ HW_ => ?_)
  generalize w25.drew = w28 at HO667 HO670 HO673 HO676 BK662 BK663 BK664 HB hHeld ⊢
  refine pu_ 0 (some 36) (bb 8 1) (zL HT_.out (by kernel_rfl)) ?_
  refine pu_ 2 (some 38) (bb 8 5) (zL HT_.out (by kernel_rfl)) ?_
  refine pu_ 3 (some 39) (bb 8 13) (zL HT_.out (by kernel_rfl)) ?_
  refine pu_ 5 (some 41) (bb 8 45) (zL HT_.out (by kernel_rfl)) ?_
  refine tk_ 1 (some 37) (bb 8 47) (vU HT_.out HW_.out (by kernel_rfl)) hHeld ?_
  refine vT (i := 4) (N := some 40) (bb 8 63) rfl rfl (yE HT_.out (by kernel_rfl)) (by decide) (fun K hK => ?_)
  refine gq_ Tryz.func79 #[.slice Ao29 t668.length co29, .slice Ao30 t674.length co30] ?_
  with_reducible refine (vN.calls _ _ t668 _ _ t674 t677 _ ?side1 ?side2 ?side3 ?side4 A9.out).mono ?_
  (case side1 => exact CB ((Kd.R_reads' HO670.out).2.2))
  (case side2 => exact (Kd.R_reads' HO670.out).2.1)
  (case side3 => exact CB ((Kd.R_reads' HO676.out).2.2))
  (case side4 => exact (Kd.R_reads' HO676.out).2.1)
  rintro e w31 ⟨v678, rfl, ho0, hb⟩
  refine ⟨_, rfl, ?_⟩
  have HO679 := K_ (Kd.R_lower (Kd.R_new' (Kd.R_new' (Kd.R_new' (Kd.R_new' ho0 (Kd.R_lt (RB HO667.out))) (Kd.R_lt (RB HO670.out))) (Kd.R_lt (RB HO673.out))) (Kd.R_lt (RB HO676.out))) (zJ (BL HB)))
  replace HO667 := K_ (Kd.R_elder' (RB HO667.out) (Kd.R_base ho0) hb)
  replace HO670 := K_ (Kd.R_elder' (RB HO670.out) (Kd.R_base ho0) hb)
  replace HO673 := K_ (Kd.R_elder' (RB HO673.out) (Kd.R_base ho0) hb)
  replace HO676 := K_ (Kd.R_elder' (RB HO676.out) (Kd.R_base ho0) hb)
  replace BK662 := zC BK662 hb
  replace BK663 := zC BK663 hb
  replace BK664 := zC BK664 hb
  replace HB := zE HB hb
  (try clear hb)
  (try clear hb2)
  (try clear hk)
  (try clear hi)
  (try clear ho0)
  obtain ⟨Ao32, co32, eo32⟩ := Kd.R_slice HO679.out
  (first | subst eo32 | (injection eo32 with f1_ f2_ f3_; have f4_ := f1_.symm; have f5_ := f3_.symm; clear f1_ f2_ f3_; subst f4_; subst f5_))
  refine hK.out _ _ CE (fun hHeld => ?_)
  clear hK K
  refine no_ (some 40) ?_
  refine vT (i := 6) (N := some 42) (bb 8 127) rfl rfl (yE HT_.out (by kernel_rfl)) (by decide) (fun K hK => ?_)
  refine zdt Tryz.func130 (by kernel_rfl) rfl #[.bool a0_0, .slice Ao32 t677.length co32, .int .i64 ji3] (by rfl) rfl rfl (by (try simp only [List.map_toArray]); (try simp only [List.map_cons]); (try simp only [List.map_nil]); first | done | (simp only [hji3]; rfl) | rfl | (simp only [List.length_drop, List.length_take]; rfl)) ?_
  with_reducible refine (qD.calls a0_0 _ _ t677 ji3 t680 t681 t682 _ ?side1 ?side2 A10.out).mono ?_
  (case side1 => exact CB ((Kd.R_reads' HO679.out).2.2))
  (case side2 => exact (Kd.R_reads' HO679.out).2.1)
  rintro e w33 ⟨rfl, hb⟩
  refine ⟨_, rfl, ?_⟩
  replace HO667 := K_ (Kd.R_below (RB HO667.out) hb)
  replace HO670 := K_ (Kd.R_below (RB HO670.out) hb)
  replace HO673 := K_ (Kd.R_below (RB HO673.out) hb)
  replace HO676 := K_ (Kd.R_below (RB HO676.out) hb)
  replace HO679 := K_ (Kd.R_below (RB HO679.out) hb)
  replace BK662 := zC BK662 hb
  replace BK663 := zC BK663 hb
  replace BK664 := zC BK664 hb
  replace HB := zE HB hb
  (try clear hb)
  (try clear hb2)
  (try clear hk)
  (try clear hi)
  refine hK.out _ _ CE (fun hHeld => ?_)
  clear hK K
  refine no_ (some 42) ?_
  refine vT (i := 7) (N := none) (bb 8 255) rfl rfl (yE HT_.out (by kernel_rfl)) (by decide) (fun K hK => ?_)
  have hs34 : w33.cell? ⟨gb664, 0, none⟩ = some (.bool false) := (zD BK664.out 0).trans rfl
  have hfs34 := zK BK664.out 0
  have hns34_0 := NB662_664.out
  have hns34_1 := NB663_664.out
  have hms34_0 := NB664_662.out
  have hms34_1 := NB664_663.out
  have hs35 : w33.cell? ⟨gb664, 1, none⟩ = some (.string (⟨#[]⟩ : ByteArray)) := (zD BK664.out 1).trans rfl
  have hfs35 := zK BK664.out 1
  have hns35_0 := NB662_664.out
  have hns35_1 := NB663_664.out
  have hms35_0 := NB664_662.out
  have hms35_1 := NB664_663.out
  have hs36 : w33.cell? ⟨gb664, 2, none⟩ = some (.int .i64 0) := (zD BK664.out 2).trans rfl
  have hfs36 := zK BK664.out 2
  have hns36_0 := NB662_664.out
  have hns36_1 := NB663_664.out
  have hms36_0 := NB664_662.out
  have hms36_1 := NB664_663.out
  refine zaw (w1 := ?_) (by rfl) rfl ?_ ?_
  rotate_left
  ·go_simp
   rfl
  refine hK.out _ _ ⟨((jE (p := ⟨gb664, _, none⟩) NB662_664.out _).trans (((jE (p := ⟨gb664, _, none⟩) NB662_664.out _).trans (((jE (p := ⟨gb664, _, none⟩) NB662_664.out _).trans (hHeld.1)))))), ((jE (p := ⟨gb664, _, none⟩) NB662_664.out _).trans (((jE (p := ⟨gb664, _, none⟩) NB662_664.out _).trans (((jE (p := ⟨gb664, _, none⟩) NB662_664.out _).trans (hHeld.2.1)))))), ((jE (p := ⟨gb664, _, none⟩) NB662_664.out _).trans (((jE (p := ⟨gb664, _, none⟩) NB662_664.out _).trans (((jE (p := ⟨gb664, _, none⟩) NB662_664.out _).trans (hHeld.2.2))))))⟩ (fun hHeld => ?_)
  clear hK K
  refine vO (uX HT_.out (by kernel_rfl)) ?_
  try go_wp2
  refine bodyPost_ret (results_cell_row rfl _ _ gb664 23 #[.bool t680, .string t681, .int .i64 t682] (0, 0) _ rfl (BP BK664) Tryz.underlying23 rfl (by kernel_rfl)) rfl ?_
  exact ⟨by first | rfl | (simp [jW, jX] <;> rfl) | (simp only [← hji3]; first | rfl | (simp [jW, jX] <;> rfl)) | (simp [*, jW, jX] <;> rfl), BL HB⟩
 rw [if_neg c8] at H
 have c8b0 : (a0_0 == a1_0) = false := by simpa using c8
 (try (have c8b1 : decide (a0_0 = a1_0) = false := by simpa using c8))
 (try (have c8b2 : (a0_0 == a1_0) = false := by simpa using c8))
 (try (have c8b3 : ¬ (a0_0 = a1_0) := by simpa using c8))
 clear c8
 obtain ⟨⟨t683, t684⟩, A370, H⟩ := Option.bind_eq_some_iff.mp H
 (try dsimp -simprocs only at H)
 have A37 := K_ A370
 clear A370
 (try have HS1_ := K_ H)
 (try clear H)
 (try have H := HS1_.out)
 (try clear HS1_)
 by_cases c38 : t684 = true
 ·subst c38
  rw [if_pos rfl] at H
  obtain ⟨⟨t687, t688, t689⟩, A390, H⟩ := Option.bind_eq_some_iff.mp H
  (try dsimp -simprocs only at H)
  have A39 := K_ A390
  clear A390
  simp only [Option.some.injEq, Prod.mk.injEq] at H
  obtain ⟨rfl, rfl, rfl⟩ := H
  refine pu_ 14 (some 6) (bb 16 32767) (zL HT_.out (by kernel_rfl)) ?_
  refine pu_ 15 (some 7) (bb 16 65535) (zL HT_.out (by kernel_rfl)) ?_
  refine vO (uX HT_.out (by kernel_rfl)) ?_
  obtain ⟨⟨hcz55_0, hcz55_1, hcz55_2⟩, hfz55_0, hfz55_1, hfz55_2⟩ := ce3 BK662
  obtain ⟨⟨hcz56_0, hcz56_1, hcz56_2⟩, hfz56_0, hfz56_1, hfz56_2⟩ := ce3 BK663
  obtain ⟨Ao57, co57, eo57⟩ := Kd.R_slice HO670.out
  subst eo57
  obtain ⟨Ao58, co58, eo58⟩ := Kd.R_slice HO676.out
  subst eo58
  try go_wp2_with (first | ((with_reducible refine zI (f := 131) rfl ?_); refine zX (some 46) rfl rfl Tryz.func131 (by kernel_rfl) rfl #[.slice Ao57 t668.length co57, .slice Ao58 t674.length co58] rfl MP ?_; (with_reducible refine (xV.calls _ _ t668 _ _ t674 t683 true _ ?side1 ?side2 ?side3 ?side4 A37.out).mono ?_); (case side1 => exact CB ((Kd.R_reads' HO670.out).2.2)); (case side2 => exact (Kd.R_reads' HO670.out).2.1); (case side3 => exact CB ((Kd.R_reads' HO676.out).2.2)); (case side4 => exact (Kd.R_reads' HO676.out).2.1); rintro e w59 ⟨v685, rfl, ho0, hb⟩; refine ⟨_, rfl, ?_⟩; have HO686 := K_ (Kd.R_lower (Kd.R_new' (Kd.R_new' (Kd.R_new' (Kd.R_new' ho0 (Kd.R_lt (RB HO667.out))) (Kd.R_lt (RB HO670.out))) (Kd.R_lt (RB HO673.out))) (Kd.R_lt (RB HO676.out))) (zJ (BL HB))); replace HO667 := K_ (Kd.R_elder' (RB HO667.out) (Kd.R_base ho0) hb); replace HO670 := K_ (Kd.R_elder' (RB HO670.out) (Kd.R_base ho0) hb); replace HO673 := K_ (Kd.R_elder' (RB HO673.out) (Kd.R_base ho0) hb); replace HO676 := K_ (Kd.R_elder' (RB HO676.out) (Kd.R_base ho0) hb); replace BK662 := zC BK662 hb; replace BK663 := zC BK663 hb; replace BK664 := zC BK664 hb; replace HB := zE HB hb; (try clear hb); (try clear hb2); (try clear hk); (try clear hi); (try clear ho0); obtain ⟨⟨hcz60_0, hcz60_1, hcz60_2⟩, hfz60_0, hfz60_1, hfz60_2⟩ := ce3 BK662; obtain ⟨Ao61, co61, eo61⟩ := Kd.R_slice HO686.out; subst eo61) | ((with_reducible refine zI (f := 130) rfl ?_); refine zX (some 54) rfl rfl Tryz.func130 (by kernel_rfl) rfl #[.bool a0_0, .slice Ao61 t683.length co61, .int .i64 ji3] rfl (by (try simp only [List.map_toArray]); (try simp only [List.map_cons]); (try simp only [List.map_nil]); first | done | (simp only [hji3]; rfl) | rfl | (simp only [List.length_drop, List.length_take]; rfl)) ?_; (with_reducible refine (qD.calls a0_0 _ _ t683 ji3 t687 t688 t689 _ ?side1 ?side2 A39.out).mono ?_); (case side1 => exact CB ((Kd.R_reads' HO686.out).2.2)); (case side2 => exact (Kd.R_reads' HO686.out).2.1); rintro e w62 ⟨rfl, hb⟩; refine ⟨_, rfl, ?_⟩; replace HO667 := K_ (Kd.R_below (RB HO667.out) hb); replace HO670 := K_ (Kd.R_below (RB HO670.out) hb); replace HO673 := K_ (Kd.R_below (RB HO673.out) hb); replace HO676 := K_ (Kd.R_below (RB HO676.out) hb); replace HO686 := K_ (Kd.R_below (RB HO686.out) hb); replace BK662 := zC BK662 hb; replace BK663 := zC BK663 hb; replace BK664 := zC BK664 hb; replace HB := zE HB hb; (try clear hb); (try clear hb2); (try clear hk); (try clear hi); obtain ⟨⟨hcz63_0, hcz63_1, hcz63_2⟩, hfz63_0, hfz63_1, hfz63_2⟩ := ce3 BK664))
  refine bodyPost_ret (results_cell_row rfl _ _ gb664 23 #[.bool t687, .string t688, .int .i64 t689] (0, 0) _ rfl (BP BK664) Tryz.underlying23 rfl (by kernel_rfl)) rfl ?_
  exact ⟨by first | rfl | (simp [jW, jX] <;> rfl) | (simp only [← hji3]; first | rfl | (simp [jW, jX] <;> rfl)) | (simp [*, jW, jX] <;> rfl), BL HB⟩
 replace c38 := Bool.eq_false_iff.mpr c38
 subst c38
 rw [if_neg (show ¬ (false = true) by decide)] at H
 obtain ⟨⟨t690, t691⟩, A640, H⟩ := Option.bind_eq_some_iff.mp H
 (try dsimp -simprocs only at H)
 have A64 := K_ A640
 clear A640
 obtain ⟨⟨t694, t695, t696⟩, A650, H⟩ := Option.bind_eq_some_iff.mp H
 (try dsimp -simprocs only at H)
 have A65 := K_ A650
 clear A650
 simp only [Option.some.injEq, Prod.mk.injEq] at H
 obtain ⟨rfl, rfl, rfl⟩ := H
 refine pu_ 14 (some 6) (bb 16 32767) (zL HT_.out (by kernel_rfl)) ?_
 refine pu_ 15 (some 7) (bb 16 65535) (zL HT_.out (by kernel_rfl)) ?_
 refine vO (uX HT_.out (by kernel_rfl)) ?_
 obtain ⟨⟨hcz55_0, hcz55_1, hcz55_2⟩, hfz55_0, hfz55_1, hfz55_2⟩ := ce3 BK662
 obtain ⟨⟨hcz56_0, hcz56_1, hcz56_2⟩, hfz56_0, hfz56_1, hfz56_2⟩ := ce3 BK663
 obtain ⟨Ao57, co57, eo57⟩ := Kd.R_slice HO670.out
 subst eo57
 obtain ⟨Ao58, co58, eo58⟩ := Kd.R_slice HO676.out
 subst eo58
 try go_wp2_with (first | ((with_reducible refine zI (f := 131) rfl ?_); refine zX (some 46) rfl rfl Tryz.func131 (by kernel_rfl) rfl #[.slice Ao57 t668.length co57, .slice Ao58 t674.length co58] rfl MP ?_; (with_reducible refine (xV.calls _ _ t668 _ _ t674 t683 false _ ?side1 ?side2 ?side3 ?side4 A37.out).mono ?_); (case side1 => exact CB ((Kd.R_reads' HO670.out).2.2)); (case side2 => exact (Kd.R_reads' HO670.out).2.1); (case side3 => exact CB ((Kd.R_reads' HO676.out).2.2)); (case side4 => exact (Kd.R_reads' HO676.out).2.1); rintro e w85 ⟨v685, rfl, ho0, hb⟩; refine ⟨_, rfl, ?_⟩; have HO686 := K_ (Kd.R_lower (Kd.R_new' (Kd.R_new' (Kd.R_new' (Kd.R_new' ho0 (Kd.R_lt (RB HO667.out))) (Kd.R_lt (RB HO670.out))) (Kd.R_lt (RB HO673.out))) (Kd.R_lt (RB HO676.out))) (zJ (BL HB))); replace HO667 := K_ (Kd.R_elder' (RB HO667.out) (Kd.R_base ho0) hb); replace HO670 := K_ (Kd.R_elder' (RB HO670.out) (Kd.R_base ho0) hb); replace HO673 := K_ (Kd.R_elder' (RB HO673.out) (Kd.R_base ho0) hb); replace HO676 := K_ (Kd.R_elder' (RB HO676.out) (Kd.R_base ho0) hb); replace BK662 := zC BK662 hb; replace BK663 := zC BK663 hb; replace BK664 := zC BK664 hb; replace HB := zE HB hb; (try clear hb); (try clear hb2); (try clear hk); (try clear hi); (try clear ho0)) | ((with_reducible refine zI (f := 131) rfl ?_); refine zX (some 58) rfl rfl Tryz.func131 (by kernel_rfl) rfl #[.slice Ao58 t674.length co58, .slice Ao57 t668.length co57] rfl MP ?_; (with_reducible refine (xV.calls _ _ t674 _ _ t668 t690 t691 _ ?side1 ?side2 ?side3 ?side4 A64.out).mono ?_); (case side1 => exact CB ((Kd.R_reads' HO676.out).2.2)); (case side2 => exact (Kd.R_reads' HO676.out).2.1); (case side3 => exact CB ((Kd.R_reads' HO670.out).2.2)); (case side4 => exact (Kd.R_reads' HO670.out).2.1); rintro e w86 ⟨v692, rfl, ho0, hb⟩; refine ⟨_, rfl, ?_⟩; have HO693 := K_ (Kd.R_lower (Kd.R_new' (Kd.R_new' (Kd.R_new' (Kd.R_new' (Kd.R_new' ho0 (Kd.R_lt (RB HO667.out))) (Kd.R_lt (RB HO670.out))) (Kd.R_lt (RB HO673.out))) (Kd.R_lt (RB HO676.out))) (Kd.R_lt (RB HO686.out))) (zJ (BL HB))); replace HO667 := K_ (Kd.R_elder' (RB HO667.out) (Kd.R_base ho0) hb); replace HO670 := K_ (Kd.R_elder' (RB HO670.out) (Kd.R_base ho0) hb); replace HO673 := K_ (Kd.R_elder' (RB HO673.out) (Kd.R_base ho0) hb); replace HO676 := K_ (Kd.R_elder' (RB HO676.out) (Kd.R_base ho0) hb); replace HO686 := K_ (Kd.R_elder' (RB HO686.out) (Kd.R_base ho0) hb); replace BK662 := zC BK662 hb; replace BK663 := zC BK663 hb; replace BK664 := zC BK664 hb; replace HB := zE HB hb; (try clear hb); (try clear hb2); (try clear hk); (try clear hi); (try clear ho0); obtain ⟨⟨hcz87_0, hcz87_1, hcz87_2⟩, hfz87_0, hfz87_1, hfz87_2⟩ := ce3 BK663; obtain ⟨Ao88, co88, eo88⟩ := Kd.R_slice HO693.out; subst eo88) | ((with_reducible refine zI (f := 130) rfl ?_); refine zX (some 65) rfl rfl Tryz.func130 (by kernel_rfl) rfl #[.bool a1_0, .slice Ao88 t690.length co88, .int .i64 ji3] rfl (by (try simp only [List.map_toArray]); (try simp only [List.map_cons]); (try simp only [List.map_nil]); first | done | (simp only [hji3]; rfl) | rfl | (simp only [List.length_drop, List.length_take]; rfl)) ?_; (with_reducible refine (qD.calls a1_0 _ _ t690 ji3 t694 t695 t696 _ ?side1 ?side2 A65.out).mono ?_); (case side1 => exact CB ((Kd.R_reads' HO693.out).2.2)); (case side2 => exact (Kd.R_reads' HO693.out).2.1); rintro e w89 ⟨rfl, hb⟩; refine ⟨_, rfl, ?_⟩; replace HO667 := K_ (Kd.R_below (RB HO667.out) hb); replace HO670 := K_ (Kd.R_below (RB HO670.out) hb); replace HO673 := K_ (Kd.R_below (RB HO673.out) hb); replace HO676 := K_ (Kd.R_below (RB HO676.out) hb); replace HO686 := K_ (Kd.R_below (RB HO686.out) hb); replace HO693 := K_ (Kd.R_below (RB HO693.out) hb); replace BK662 := zC BK662 hb; replace BK663 := zC BK663 hb; replace BK664 := zC BK664 hb; replace HB := zE HB hb; (try clear hb); (try clear hb2); (try clear hk); (try clear hi); obtain ⟨⟨hcz90_0, hcz90_1, hcz90_2⟩, hfz90_0, hfz90_1, hfz90_2⟩ := ce3 BK664))
 refine bodyPost_ret (results_cell_row rfl _ _ gb664 23 #[.bool t694, .string t695, .int .i64 t696] (0, 0) _ rfl (BP BK664) Tryz.underlying23 rfl (by kernel_rfl)) rfl ?_
 exact ⟨by first | rfl | (simp [jW, jX] <;> rfl) | (simp only [← hji3]; first | rfl | (simp [jW, jX] <;> rfl)) | (simp [*, jW, jX] <;> rfl), BL HB⟩
def zci.f (a0_0 : Bool) (a0_1 : ByteArray) (a0_2 : Int) (a1_0 : Bool) (a1_1 : ByteArray) (a1_2 : Int) : Option (Bool × ByteArray × Int) := (vC.f a0_0 a0_1 a0_2 (!a1_0) a1_1 a1_2).bind fun bt700 => (some (bt700.1, bt700.2.1, bt700.2.2))
set_option maxHeartbeats 8000000 in
set_option maxRecDepth 100000 in
theorem zci.calls (a0_0 : Bool) (a0_1 : ByteArray) (a0_2 : Int) (a1_0 : Bool) (a1_1 : ByteArray) (a1_2 : Int) (r1 : Bool) (r2 : ByteArray) (r3 : Int) (w : World) (hG : Fig.Glob w) (h : zci.f a0_0 a0_1 a0_2 a1_0 a1_1 a1_2 = some (r1, r2, r3)) :
  Calls Tryz.prog 73 #[.agg #[.bool a0_0, .string a0_1, .int .i64 a0_2], .agg #[.bool a1_0, .string a1_1, .int .i64 a1_2]] w fun e w' => e = .returned (.agg #[.bool r1, .string r2, .int .i64 r3]) ∧ Below w.heap.size w w' := by
 have hu23 := Tryz.underlying23
 have HG := K_ hG
 clear hG
 have HB := K_ (Below.refl w.heap.size w)
 have H : ((vC.f a0_0 a0_1 a0_2 (!a1_0) a1_1 a1_2).bind fun bt700 => (some (bt700.1, bt700.2.1, bt700.2.2))) = some (r1, r2, r3) := h
 clear h
 obtain ⟨⟨t700, t701, t702⟩, A30, H⟩ := Option.bind_eq_some_iff.mp H
 (try dsimp -simprocs only at H)
 have A3 := K_ A30
 clear A30
 simp only [Option.some.injEq, Prod.mk.injEq] at H
 obtain ⟨rfl, rfl, rfl⟩ := H
 go_enter Tryz.func73, Tryz.ntmps73
 go_wp2_with (first | (refine be_ 2 #[.bool a0_0, .string a0_1, .int .i64 a0_2] 23 ?_; intro gb697 hg w4 hbox hb; have BK697 := K_ (hbox); have GW697 := ge_ hg HB; have GE697 := ge_ hg HB; replace HB := zE HB hb; clear hb hbox hg) | (refine be_ 3 #[.bool a1_0, .string a1_1, .int .i64 a1_2] 23 ?_; intro gb698 hg w5 hbox hb; have BK698 := K_ (hbox); have GW698 := ge_ hg HB; have GE698 := ge_ hg HB; replace HB := zE HB hb; have NB697_698 := nb_ hg BK697; have NB698_697 := nc_ hg BK697; replace BK697 := zC BK697 hb; clear hb hbox hg) | (refine be_ 4 #[.bool false, .string (⟨#[]⟩ : ByteArray), .int .i64 0] 23 ?_; intro gb699 hg w6 hbox hb; have BK699 := K_ (hbox); have GW699 := ge_ hg HB; have GE699 := ge_ hg HB; replace HB := zE HB hb; have NB697_699 := nb_ hg BK697; have NB699_697 := nc_ hg BK697; replace BK697 := zC BK697 hb; have NB698_699 := nb_ hg BK698; have NB699_698 := nc_ hg BK698; replace BK698 := zC BK698 hb; clear hb hbox hg; have hnb7 := NB698_697.out; have hnc7 := NB697_698.out; have hnb8 := NB698_699.out; have hnc8 := NB699_698.out; obtain ⟨⟨hcz9_0, hcz9_1, hcz9_2⟩, hfz9_0, hfz9_1, hfz9_2⟩ := ce3 BK698; have hnb10 := NB697_699.out; have hnc10 := NB699_697.out; obtain ⟨⟨hcz11_0, hcz11_1, hcz11_2⟩, hfz11_0, hfz11_1, hfz11_2⟩ := ce3 BK697) | ((with_reducible refine zI (f := 98) rfl ?_); refine zX (some 11) rfl rfl Tryz.func98 (by kernel_rfl) rfl #[.agg #[.bool a0_0, .string a0_1, .int .i64 a0_2], .agg #[.bool (!a1_0), .string a1_1, .int .i64 a1_2]] rfl MP ?_; (with_reducible refine (vC.calls a0_0 a0_1 a0_2 (!a1_0) a1_1 a1_2 t700 t701 t702 _ ?side1 A3.out).mono ?_); (case side1 => exact Fig.Glob.below HG.out (BL HB)); rintro e w12 ⟨rfl, hb⟩; refine ⟨_, rfl, ?_⟩; replace BK697 := K_ (zaC (g := gb697) (o := .cells #[.bool a0_0, .string a0_1, .int .i64 a0_2] 23 (0, 0)) (by (with_reducible repeat (first | refine jC ?_ _ | refine zV ?_ | refine jB ?_ _)); refine zR ?_ NB697_698.out _; (with_reducible repeat (first | refine jC ?_ _ | refine zV ?_ | refine jB ?_ _)); exact BK697.out) hb); replace BK698 := K_ (zaC (g := gb698) (o := .cells #[.bool (!a1_0), .string a1_1, .int .i64 a1_2] 23 (0, 0)) (BP BK698) hb); replace BK699 := K_ (zaC (g := gb699) (o := .cells #[.bool false, .string (⟨#[]⟩ : ByteArray), .int .i64 0] 23 (0, 0)) (by (with_reducible repeat (first | refine jC ?_ _ | refine zV ?_ | refine jB ?_ _)); refine zR ?_ NB699_698.out _; (with_reducible repeat (first | refine jC ?_ _ | refine zV ?_ | refine jB ?_ _)); exact BK699.out) hb); replace HB := zE HB hb; (try clear hb); (try clear hb2); (try clear hk); (try clear hi); obtain ⟨⟨hcz13_0, hcz13_1, hcz13_2⟩, hfz13_0, hfz13_1, hfz13_2⟩ := ce3 BK699))
 refine bodyPost_ret (results_cell_row rfl _ _ gb699 23 #[.bool t700, .string t701, .int .i64 t702] (0, 0) _ rfl (BP BK699) Tryz.underlying23 rfl (by kernel_rfl)) rfl ?_
 exact ⟨ER, BL HB⟩
def zdo.f (a0_0 : Bool) (a0_1 : ByteArray) (a0_2 : Int) (a1_0 : Bool) (a1_1 : ByteArray) (a1_2 : Int) : Option (Bool × ByteArray × Int) := (zci.f a0_0 a0_1 a0_2 a1_0 a1_1 a1_2).bind fun bt706 => ((zcm.f bt706.1 bt706.2.1 bt706.2.2).bind fun bt709 => (some (bt709.1, bt709.2.1, bt709.2.2)))
set_option maxHeartbeats 8000000 in
set_option maxRecDepth 100000 in
theorem zdo.calls (a0_0 : Bool) (a0_1 : ByteArray) (a0_2 : Int) (a1_0 : Bool) (a1_1 : ByteArray) (a1_2 : Int) (r1 : Bool) (r2 : ByteArray) (r3 : Int) (w : World) (hG : Fig.Glob w) (h : zdo.f a0_0 a0_1 a0_2 a1_0 a1_1 a1_2 = some (r1, r2, r3)) :
  Calls Tryz.prog 45 #[.agg #[.bool a0_0, .string a0_1, .int .i64 a0_2], .agg #[.bool a1_0, .string a1_1, .int .i64 a1_2]] w fun e w' => e = .returned (.agg #[.bool r1, .string r2, .int .i64 r3]) ∧ Below w.heap.size w w' := by
 have hu23 := Tryz.underlying23
 have HG := K_ hG
 clear hG
 have HB := K_ (Below.refl w.heap.size w)
 have H : ((zci.f a0_0 a0_1 a0_2 a1_0 a1_1 a1_2).bind fun bt706 => ((zcm.f bt706.1 bt706.2.1 bt706.2.2).bind fun bt709 => (some (bt709.1, bt709.2.1, bt709.2.2)))) = some (r1, r2, r3) := h
 clear h
 obtain ⟨⟨t706, t707, t708⟩, A30, H⟩ := Option.bind_eq_some_iff.mp H
 (try dsimp -simprocs only at H)
 have A3 := K_ A30
 clear A30
 obtain ⟨⟨t709, t710, t711⟩, A40, H⟩ := Option.bind_eq_some_iff.mp H
 (try dsimp -simprocs only at H)
 have A4 := K_ A40
 clear A40
 simp only [Option.some.injEq, Prod.mk.injEq] at H
 obtain ⟨rfl, rfl, rfl⟩ := H
 go_enter Tryz.func45, Tryz.ntmps45
 go_wp2_with (first | (refine be_ 2 #[.bool a0_0, .string a0_1, .int .i64 a0_2] 23 ?_; intro gb703 hg w5 hbox hb; have BK703 := K_ (hbox); have GW703 := ge_ hg HB; have GE703 := ge_ hg HB; replace HB := zE HB hb; clear hb hbox hg) | (refine be_ 3 #[.bool a1_0, .string a1_1, .int .i64 a1_2] 23 ?_; intro gb704 hg w6 hbox hb; have BK704 := K_ (hbox); have GW704 := ge_ hg HB; have GE704 := ge_ hg HB; replace HB := zE HB hb; have NB703_704 := nb_ hg BK703; have NB704_703 := nc_ hg BK703; replace BK703 := zC BK703 hb; clear hb hbox hg) | (refine be_ 4 #[.bool false, .string (⟨#[]⟩ : ByteArray), .int .i64 0] 23 ?_; intro gb705 hg w7 hbox hb; have BK705 := K_ (hbox); have GW705 := ge_ hg HB; have GE705 := ge_ hg HB; replace HB := zE HB hb; have NB703_705 := nb_ hg BK703; have NB705_703 := nc_ hg BK703; replace BK703 := zC BK703 hb; have NB704_705 := nb_ hg BK704; have NB705_704 := nc_ hg BK704; replace BK704 := zC BK704 hb; clear hb hbox hg; have hnb8 := NB703_704.out; have hnc8 := NB704_703.out; have hnb9 := NB703_705.out; have hnc9 := NB705_703.out; obtain ⟨⟨hcz10_0, hcz10_1, hcz10_2⟩, hfz10_0, hfz10_1, hfz10_2⟩ := ce3 BK703; have hnb11 := NB704_705.out; have hnc11 := NB705_704.out; obtain ⟨⟨hcz12_0, hcz12_1, hcz12_2⟩, hfz12_0, hfz12_1, hfz12_2⟩ := ce3 BK704) | ((with_reducible refine zI (f := 73) rfl ?_); refine zX (some 7) rfl rfl Tryz.func73 (by kernel_rfl) rfl #[.agg #[.bool a0_0, .string a0_1, .int .i64 a0_2], .agg #[.bool a1_0, .string a1_1, .int .i64 a1_2]] rfl MP ?_; (with_reducible refine (zci.calls a0_0 a0_1 a0_2 a1_0 a1_1 a1_2 t706 t707 t708 _ ?side1 A3.out).mono ?_); (case side1 => exact Fig.Glob.below HG.out (BL HB)); rintro e w13 ⟨rfl, hb⟩; refine ⟨_, rfl, ?_⟩; replace BK703 := zC BK703 hb; replace BK704 := zC BK704 hb; replace BK705 := zC BK705 hb; replace HB := zE HB hb; (try clear hb); (try clear hb2); (try clear hk); (try clear hi)) | ((with_reducible refine zI (f := 72) rfl ?_); refine zX (some 8) rfl rfl Tryz.func72 (by kernel_rfl) rfl #[.agg #[.bool t706, .string t707, .int .i64 t708]] rfl MP ?_; (with_reducible refine (zcm.calls t706 t707 t708 t709 t710 t711 _ A4.out).mono ?_); rintro e w14 ⟨rfl, hb⟩; refine ⟨_, rfl, ?_⟩; replace BK703 := zC BK703 hb; replace BK704 := zC BK704 hb; replace BK705 := zC BK705 hb; replace HB := zE HB hb; (try clear hb); (try clear hb2); (try clear hk); (try clear hi); obtain ⟨⟨hcz15_0, hcz15_1, hcz15_2⟩, hfz15_0, hfz15_1, hfz15_2⟩ := ce3 BK705))
 refine bodyPost_ret (results_cell_row rfl _ _ gb705 23 #[.bool t709, .string t710, .int .i64 t711] (0, 0) _ rfl (BP BK705) Tryz.underlying23 rfl (by kernel_rfl)) rfl ?_
 exact ⟨ER, BL HB⟩
end Go.Proofs.YtcmgdjnjmobkoaaGreatDoor.Px
namespace Go.Proofs.YtcmgdjnjmobkoaaGreatDoor.Px
set_option linter.all false
open Fig Go.RowKit Go.Proofs.YtcmgdjnjmobkoaaGreatDoorW.PrintWords Go.Proofs.YtcmgdjnjmobkoaaGreatDoorW.PrintLast Go.Proofs.YtcmgdjnjmobkoaaGreatDoorW.PrintMore
attribute [local go_sem] uE uC uV uW vJ vL uF uB
def s24 : ByteArray := ⟨#[35, 44, 35, 35, 48, 46, 48, 48, 37]⟩
def l24 : List S71 := [⟨35, false, 0⟩, ⟨44, false, 1⟩, ⟨35, false, 2⟩, ⟨35, false, 3⟩, ⟨48, false, 4⟩, ⟨46, false, 5⟩, ⟨48, false, 6⟩, ⟨48, false, 7⟩, ⟨37, false, 8⟩]
theorem zor : zF.f 100 s24 = some (l24, 0, 0) := by kernel_rfl
def P24 : yH := ⟨1, 0, 2, 2, 0, 0, 3, 3, ⟨#[]⟩, false, 0, false⟩
theorem n24 : yZ (zaI (l24.map mk73) (qB (l24.map mk73)) (uT (l24.map mk73)) (l24.map mk73).length) = some P24 := by kernel_rfl
theorem h24 : xT (l24.map mk73) P24 := ⟨by decide +kernel, by kernel_rfl, n24, by kernel_rfl⟩
theorem p24 : jL (uH (l24.map mk73) (qB (l24.map mk73)) l24.length) = [] := by kernel_rfl
theorem f24 : jL (uI (l24.map mk73) (uT (l24.map mk73)) l24.length) = [⟨4, 0⟩] := by kernel_rfl
theorem a24 : jZ.f false ⟨#[49]⟩ (-2) (-2) = some (false, ⟨#[49]⟩, -4) := by kernel_rfl
theorem b24 : jZ.f false ⟨#[49, 50, 51, 52, 53]⟩ (-5) 2 = some (false, ⟨#[49, 50, 51, 52, 53]⟩, -3) := by kernel_rfl
theorem c24 : jZ.f false ⟨#[49, 50, 51, 52]⟩ (-4) 2 = some (false, ⟨#[49, 50, 51, 52]⟩, -2) := by kernel_rfl
theorem d24 : qM.f false ⟨#[49, 50, 51, 52, 53]⟩ (-3) (-2) = some false := by kernel_rfl
theorem e24 : qM.f false ⟨#[49, 50, 51, 52]⟩ (-2) (-2) = some true := by kernel_rfl
theorem o24 : zdo.f false ⟨#[49, 50, 51, 52, 53]⟩ (-5) false ⟨#[49]⟩ 0 = some (false, ⟨#[56, 55, 54, 53, 53]⟩, -5) := by kernel_rfl
theorem zon : xQ l24 := by unfold xQ; decide +kernel
theorem zov : zas l24 := by unfold zas; decide +kernel
theorem zop : ¬ mixed ([] : List S80) [⟨4, 0⟩] [⟨2, 0⟩] [⟨4, 0⟩] := by unfold mixed sgn; decide +kernel
theorem zoq : Ev (fun k => zF.f k s24) (l24, 0, 0) := Ev.of (zF.mono s24) zor
theorem znJ {q : Pat} (h0 : q.l0 = []) (h1 : q.l1 = [⟨4, 0⟩]) (h3 : q.l3 = [⟨2, 0⟩]) (h4 : q.l4 = [⟨4, 0⟩]) : q.mult = 2 := by
 unfold Pat.mult Pat.sg; rw [h0, h1, h3, h4]; rfl
theorem znq {q : Pat} {E : Int} (h : zkC s24 q E) : E = 0 ∧ q.P = P24 ∧ q.mult = 2 := by
 have hx := h l24 zoq zon zov P24 h24
 rw [p24, f24] at hx
 obtain ⟨h1, h2, h3, h4, h5, h6⟩ := hx zop
 refine ⟨h1, h2, znJ h3 h4 (by rw [h5, h3]) (by rw [h6, h4])⟩
theorem zny {q : Pat} (hP : q.P = P24) (hm : q.mult = 2) : zmd q false ⟨#[49, 50, 51, 52, 53]⟩ (-5) (false, ⟨#[49]⟩, -4) := by
 refine ⟨⟨#[49]⟩, -2, by rw [hm]; exact a24, fun h => ?_, fun _ h => ?_, fun _ _ => ⟨rfl, by rw [hP]; rfl⟩⟩
 ·rw [hP] at h; rcases h with h | h <;> exact absurd h (by decide)
 rw [hP] at h; exact absurd rfl h
theorem zoc {q : Pat} (hP : q.P = P24) (hm : q.mult = 2) : IsR q false ⟨#[49, 50, 51, 52, 53]⟩ (-5) false := by
 refine ⟨false, ⟨#[49, 50, 51, 52, 53]⟩, -3, by rw [hm]; exact b24, fun h => ?_, fun _ h => ?_, fun _ _ => by rw [hP]; exact d24⟩
 ·rw [hP] at h; rcases h with h | h <;> exact absurd h (by decide)
 rw [hP] at h; exact absurd rfl h
theorem znX {q : Pat} (hP : q.P = P24) (hm : q.mult = 2) : IsR q false ⟨#[49, 50, 51, 52]⟩ (-4) true := by
 refine ⟨false, ⟨#[49, 50, 51, 52]⟩, -2, by rw [hm]; exact c24, fun h => ?_, fun _ h => ?_, fun _ _ => by rw [hP]; exact e24⟩
 ·rw [hP] at h; rcases h with h | h <;> exact absurd h (by decide)
 rw [hP] at h; exact absurd rfl h
set_option maxHeartbeats 8000000 in
set_option maxRecDepth 100000 in
theorem qL (w : World) (hG : Fig.Glob w) : Calls Tryz.prog 19 #[] w fun e w' => e = .returned (.bool true) ∧ Below w.heap.size w w' := by
 have HB := K_ (Below.refl w.heap.size w)
 have HG := K_ hG
 clear hG
 go_enter Tryz.func19, Tryz.ntmps19
 go_upto_region 2 with (first | (go_at_call 31; refine (zhP ⟨#[35, 44, 35, 35, 48, 46, 48, 48, 37]⟩ (by decide) _).mono ?_; rintro e9 w' ⟨q, E, a, rfl, hrr, hb, hqg, hex⟩; obtain ⟨rfl, hP, hm⟩ := znq hex; have HP := K_ hP; have HM := K_ hm; have HRR := K_ (hrr.lower (zJ (BL HB))); have HQ := K_ (hqg rfl); replace HB := zE HB hb; clear hb hrr hqg hex hP hm) | ((with_reducible refine zG (N := 1) rfl ?_); refine be_ 1 (Z26) 26 ?_; intro g1 hg w2 hbox hb; have BK1 := K_ hbox; have GE1 := ge_ hg HB; replace HRR := K_ (HRR.out.below hb); replace HB := zE HB hb; clear hb hbox hg) | ((with_reducible refine zG (N := 2) rfl ?_); refine be_ 2 (Z51) 51 ?_; intro g2 hg w2 hbox hb; have BK2 := K_ hbox; have GE2 := ge_ hg HB; have NB1_2 := nb_ hg BK1; replace BK1 := zC BK1 hb; replace HRR := K_ (HRR.out.below hb); replace HB := zE HB hb; clear hb hbox hg) | ((with_reducible refine jD (p := 1) rfl ?_); refine so_ (g := g1) (cs := Z26) (q.cs) ⟨BK BK1⟩ ?_ rfl rfl rfl rfl rfl yL rfl rfl; intro w9 hbk hfar hbel; replace BK2 := K_ (hfar _ _ (by first | exact NB2_1.out | exact Ne.symm NB1_2.out) (BK BK2)); replace HRR := K_ (HRR.out.so (BK BK1) (by decide) hfar); replace BK1 := K_ hbk; replace HB := K_ (hbel _ _ GE1.out (BL HB)); clear hbk hfar hbel) | ((with_reducible refine jD (p := 2) rfl ?_); refine so_ (g := g2) (cs := Z51) (#[.int .i64 0, .int .i64 a]) ⟨BK BK2⟩ ?_ rfl rfl rfl rfl rfl uS rfl rfl; intro w9 hbk hfar hbel; replace BK1 := K_ (hfar _ _ (by first | exact NB1_2.out | exact Ne.symm NB2_1.out) (BK BK1)); replace HRR := K_ (HRR.out.so (BK BK2) (by decide) hfar); replace BK2 := K_ hbk; replace HB := K_ (hbel _ _ GE2.out (BL HB)); clear hbk hfar hbel))
 go_upto_region 3 with (first | ((with_reducible refine zG (N := 3) rfl ?_); refine be_ 3 (#[.bool false, .string (⟨#[]⟩ : ByteArray), .int .i64 0]) 23 ?_; intro g3 hg w2 hbox hb; have BK3 := K_ hbox; have GE3 := ge_ hg HB; have NB1_3 := nb_ hg BK1; replace BK1 := zC BK1 hb; have NB2_3 := nb_ hg BK2; replace BK2 := zC BK2 hb; replace HRR := K_ (HRR.out.below hb); replace HB := zE HB hb; clear hb hbox hg) | ((with_reducible refine jD (p := 3) rfl ?_); refine so_ (g := g3) (cs := #[.bool false, .string (⟨#[]⟩ : ByteArray), .int .i64 0]) (#[.bool false, .string (⟨#[49, 50, 51, 52, 53]⟩ : ByteArray), .int .i64 (-5)]) ⟨BK BK3⟩ ?_ rfl rfl rfl rfl rfl jR rfl rfl; intro w9 hbk hfar hbel; replace BK1 := K_ (hfar _ _ (by first | exact NB1_3.out | exact Ne.symm NB3_1.out) (BK BK1)); replace BK2 := K_ (hfar _ _ (by first | exact NB2_3.out | exact Ne.symm NB3_2.out) (BK BK2)); replace HRR := K_ (HRR.out.so (BK BK3) (by decide) hfar); replace BK3 := K_ hbk; replace HB := K_ (hbel _ _ GE3.out (BL HB)); clear hbk hfar hbel))
 clear BK2
 have HI1 : ∀ W, xY q W w.heap.size → Fig.Glob W → Aside0 (Calls Tryz.prog 20 #[.agg q.cs, .agg #[.bool false, .string (⟨#[49, 50, 51, 52, 53]⟩ : ByteArray), .int .i64 (-5)]] W fun e w' => e = .returned (.bool false) ∧ Below W.heap.size W w') := fun W h1 h2 => ⟨ziU q HQ.out.good false ⟨#[49, 50, 51, 52, 53]⟩ (-5) false (zoc HP.out HM.out) W (h1.ok HQ.out) h2⟩
 have HI2 : ∀ W, xY q W w.heap.size → Fig.Glob W → Aside0 (Calls Tryz.prog 20 #[.agg q.cs, .agg #[.bool false, .string (⟨#[49, 50, 51, 52]⟩ : ByteArray), .int .i64 (-4)]] W fun e w' => e = .returned (.bool true) ∧ Below W.heap.size W w') := fun W h1 h2 => ⟨ziU q HQ.out.good false ⟨#[49, 50, 51, 52]⟩ (-4) true (znX HP.out HM.out) W (h1.ok HQ.out) h2⟩
 go_wp2_with (first | ((with_reducible refine zG (N := 9) rfl ?_); refine lo_ (g := g1) (cs := q.cs) _ ⟨BK BK1⟩ ?_ rfl rfl rfl Tryz.underlying26 rfl yL) | ((with_reducible refine zG (N := 10) rfl ?_); refine lo_ (g := g3) (cs := #[.bool false, .string (⟨#[49, 50, 51, 52, 53]⟩ : ByteArray), .int .i64 (-5)]) _ ⟨BK BK3⟩ ?_ rfl rfl rfl Tryz.underlying23 rfl jR) | (go_at_call 44; refine (zkg q HQ.out.good false ⟨#[49, 50, 51, 52, 53]⟩ (-5) (false, ⟨#[49]⟩, -4) (zny HP.out HM.out) _ (xY.ok HRR.out HQ.out)).mono ?_; rintro e9 w' ⟨rfl, hb⟩; replace HRR := K_ (HRR.out.below hb); replace HB := zE HB hb; replace BK1 := zC BK1 hb; replace BK3 := zC BK3 hb; clear hb) | ((with_reducible refine zG (N := 15) rfl ?_); refine zaV (g := g1) (cs := q.cs) _ ⟨BK BK1⟩ ?_ (by rfl) rfl rfl Tryz.underlying26 rfl yL) | ((with_reducible refine zG (N := 16) rfl ?_); refine zaV (g := g3) (cs := #[.bool false, .string (⟨#[49, 50, 51, 52, 53]⟩ : ByteArray), .int .i64 (-5)]) _ ⟨BK BK3⟩ ?_ (by rfl) rfl rfl Tryz.underlying23 rfl jR) | (go_at_call 20; with_reducible refine ((HI1 _ HRR.out (Fig.Glob.below HG.out (BL HB))).out).mono ?_; rintro e9 w' ⟨rfl, hb⟩; replace HRR := K_ (HRR.out.below hb); replace HB := zE HB hb; replace BK1 := zC BK1 hb; replace BK3 := zC BK3 hb; clear hb) | ((with_reducible refine zG (N := 21) rfl ?_); refine zaV (g := g1) (cs := q.cs) _ ⟨BK BK1⟩ ?_ (by rfl) rfl rfl Tryz.underlying26 rfl yL) | (go_at_call 20; with_reducible refine ((HI2 _ HRR.out (Fig.Glob.below HG.out (BL HB))).out).mono ?_; rintro e9 w' ⟨rfl, hb⟩; replace HRR := K_ (HRR.out.below hb); replace HB := zE HB hb; replace BK1 := zC BK1 hb; replace BK3 := zC BK3 hb; clear hb) | ((with_reducible refine zG (N := 26) rfl ?_); refine zaV (g := g3) (cs := #[.bool false, .string (⟨#[49, 50, 51, 52, 53]⟩ : ByteArray), .int .i64 (-5)]) _ ⟨BK BK3⟩ ?_ (by rfl) rfl rfl Tryz.underlying23 rfl jR) | (go_at_call 45; refine (zdo.calls false ⟨#[49, 50, 51, 52, 53]⟩ (-5) false ⟨#[49]⟩ 0 _ _ _ _ (Fig.Glob.below HG.out (BL HB)) o24).mono ?_; rintro e9 w' ⟨rfl, hb⟩; replace HRR := K_ (HRR.out.below hb); replace HB := zE HB hb; replace BK1 := zC BK1 hb; replace BK3 := zC BK3 hb; clear hb))
 go_ret
 exact ⟨rfl, BL HB⟩
end Go.Proofs.YtcmgdjnjmobkoaaGreatDoor.Px
namespace Go.Proofs.YtcmgdjnjmobkoaaGreatDoor.Px
open Fig Go.RowKit Go.Proofs.YtcmgdjnjmobkoaaGreatDoorW.PrintWords Go.Proofs.YtcmgdjnjmobkoaaGreatDoorW.PrintLast Go.Proofs.YtcmgdjnjmobkoaaGreatDoorW.PrintMore
attribute [local go_sem] uE uC uV uW vJ vL uF uB
attribute [local go_sem] xB xI xF xJ xA qZ xC qW qV xG qX qT xE qY
theorem zjk (m : Int) : yC.f m = some (decide (0 ≤ m ∧ m < 8)) := by
 unfold yC.f
 by_cases h : m ≥ 0
 ·rw [if_pos h]; congr 1; rw [decide_eq_decide]; omega
 rw [if_neg h]; congr 1; symm; rw [decide_eq_false_iff_not]; omega
theorem znS (e : Int) (p : Nat) (h1 : -1000000 ≤ e) (h2 : e ≤ 1000000) (hp : p ≤ 1000000) : wrap64 (e + (p : Int)) = e + (p : Int) := w64 (by omega) (by omega)
theorem znE (e : Int) (p q : Nat) (h1 : -1000000 ≤ e) (h2 : e ≤ 1000000) (hp : p ≤ 1000000) (hq : q ≤ 1000000) : wrap64 (wrap64 (e + (p : Int)) - (q : Int)) = e + (p : Int) - (q : Int) := by rw [znS e p h1 h2 hp, w64 (by omega) (by omega)]
theorem zcT {b : Bool} {s : ByteArray} {e : Int} (h : OkD s e) : jQ.f b s e = some (b, nD (vB s), nE (vB s) e) := by
 have hz := h.val
 have h1 := h.sz
 have h2 := h.lo
 have h3 := h.hi
 unfold jQ.f
 rw [show uQ.f s (⟨#[48]⟩ : ByteArray) = some (jH (vB s)) by unfold uQ.f; rw [if_pos rfl, zgn h.d]]
 simp only [Option.bind_some]
 by_cases h0 : vB s = 0
 ·rw [if_pos (zbf.2 h0), h0]; rfl
 rw [if_neg (fun hh => h0 (zbf.1 hh))]
 have hl := zaW h0
 have ht : uZ.f (jH (vB s)) (⟨#[48]⟩ : ByteArray) = some (jH (vE (vB s))) := by
  unfold uZ.f
  rw [if_pos ⟨rfl, by omega⟩]
  show some (⟨(Lib.trimRightB (uG (vB s)) 48).toArray⟩ : ByteArray) = _
  unfold Lib.trimRightB; rw [zjq h0]; rfl
 rw [ht]
 simp only [Option.bind_some]
 rw [znE e _ _ (by omega) (by omega) (by omega) (by omega)]
 unfold nD nE
 rw [if_neg h0, if_neg h0, show e + ((jH (vB s)).size : Int) - ((jH (vE (vB s))).size : Int) = e + (tz (vB s) : Int) by omega]
theorem zot {s : ByteArray} (h : dB s = true) (hne : s.size ≠ 0) (hs : s.size ≤ 140737488351232) : vY.f s = some (zY (vB s), true) := by
 unfold vY.f; rw [if_pos hs, if_pos ⟨h, hne⟩]
theorem zlY {b : Bool} {s : ByteArray} {e : Int} (h : OkD s e) : qC.f b s e = some (zY (vB s)) := by
 have := h.sz
 unfold qC.f; rw [zot h.d h.ne (by omega)]; rfl
theorem zhl {s : ByteArray} {e : Int} (h : OkD s e) : (zY (vB s)).length ≤ 100000 := by
 have := yK (vB s)
 have := h.val
 have := h.sz
 omega
theorem zhF {l : List Int} {n : Int} (g : jA l = true) (hl : l.length ≤ 500000) (hn : n ≤ 1000000) : yP.f l n = some (zY (zH l * 10 ^ n.toNat)) := by unfold yP.f; rw [if_pos ⟨g, hl, hn⟩]
theorem zeA (m : Int) (neg odd : Bool) (half : Int) : uL.f m neg odd half = some (upB m neg odd half) := rfl
theorem znN {b : Bool} {s : ByteArray} {e p : Int} (h : OkS s e) (h1 : -10000 ≤ p) (h2 : p ≤ 10000) : uA.f b s e p = some (zY (vB s / 10 ^ (p - e).toNat), zY (vB s % 10 ^ (p - e).toNat)) := by
 have hl := h.lo
 have hh := h.hi
 have hc := zhl h.ok
 unfold uA.f
 rw [zlY h.ok]
 simp only [Option.bind_some]
 rw [w64 (x := p - e) (by omega) (by omega)]
 have : zbG.f (zY (vB s)) (p - e) = some (zY (vB s / 10 ^ (p - e).toNat), zY (vB s % 10 ^ (p - e).toNat)) := by
  unfold zbG.f; rw [if_pos ⟨jU _, by omega, by omega⟩, jP]
 rw [this]; rfl
theorem znV {b : Bool} {s : ByteArray} {e p : Int} (h : OkS s e) (h1 : -10000 ≤ p) (h2 : p ≤ 10000) : qM.f b s e p = some (decide (atE (vB s) e (min e p) % atE 1 p (min e p) = 0)) := by
 unfold qM.f
 by_cases hp : p ≤ e
 ·rw [if_pos hp, show min e p = p by omega, zcE, Nat.mod_one]; rfl
 rw [if_neg hp, znN h h1 h2]
 simp only [Option.bind_some, Option.some.injEq]
 rw [show min e p = e by omega, zcE, show atE 1 p e = 10 ^ (p - e).toNat by unfold atE; rw [Nat.one_mul]]
 rw [Bool.eq_iff_iff, beq_iff_eq, decide_eq_true_eq]
 constructor
 ·intro hh; exact zay.1 (List.eq_nil_of_length_eq_zero (by omega))
 intro hh; rw [hh, zaF]; rfl
theorem zje {q : Nat} (h : q ≠ 0) : (zY q).length > 0 ∧ rd (zY q) 0 = ((q % 1000000000 : Nat) : Int) := by
 have hv := jP q
 have hg := jU q
 rcases hl : zY q with _ | ⟨x, l⟩
 ·exact absurd (zay.1 hl) h
 rw [hl] at hv hg
 obtain ⟨hx, _⟩ := yG.1 hg
 simp only [zH] at hv
 refine ⟨by simp, ?_⟩
 show x = _
 omega
theorem zjJ (v : Nat) : dB (zax v) = true ∧ (zax v).size ≠ 0 ∧ vB (zax v) = v := by
 unfold zax
 by_cases h : v = 0
 ·rw [if_pos h, h]; exact ⟨rfl, by decide, rfl⟩
 rw [if_neg h]; exact ⟨zgg v, fun e => h (zao.1 e), zer v⟩
theorem zhZ {v k : Nat} (h : (jH v).size ≤ k) (hk : 1 ≤ k) : (zax v).size ≤ k := by
 unfold zax
 by_cases h0 : v = 0
 ·rw [if_pos h0]; exact hk
 rw [if_neg h0]; exact h
theorem zkY {v k : Nat} (h : (jH v).size ≤ k) (hk : k ≤ 1000000) : yT.f (zY v) = some (zax v) := by
 have := yK v
 unfold yT.f; rw [if_pos ⟨jU v, by omega⟩, jP]
theorem zgq {b : Bool} {v : Nat} {p : Int} (hz : (jH v).size ≤ 50000) (h1 : -100000 ≤ p) (h2 : p ≤ 100000) : ((yT.f (zY v)).bind fun t => (jQ.f b t p).bind fun u => some (u.1, u.2.1, u.2.2, (0 : Int))) = some (b, nD v, nE v p, 0) := by
 obtain ⟨d1, d2, d3⟩ := zjJ v
 have d4 := zhZ (k := 50000) hz (by decide)
 rw [zkY hz (by decide)]
 simp only [Option.bind_some]
 rw [zcT ⟨d1, d2, by omega, h1, h2⟩, d3]; rfl
theorem zmz {q : Nat} (h : (jH q).size ≤ 1000000) : vN.f (zY q) ([1] : List Int) = some (zY (q + 1)) := by
 have hl := yK q
 have h1 : ([1] : List Int).length ≤ 1000000000000 := by show 1 ≤ 1000000000000; omega
 have := zet (jU q) (b := [1]) (by decide) (by omega) h1
 rwa [jP, show zH [1] = 1 from rfl] at this
theorem zmm {α β : Type} {x : Option α} {f : α → Option β} {a : α} {r : Option β} (h : x = some a) (h2 : f a = r) : x.bind f = r := by subst h; exact h2
theorem zdK {b : Bool} {s : ByteArray} {e p : Int} {q : Nat} {u : Bool} (hz : (jH q).size ≤ 40000) (h1 : -10000 ≤ p) (h2 : p ≤ 10000) : Ev (fun k => zS.j0 k p (zY q) u b s e) (b, nD (q + if u = true then 1 else 0), nE (q + if u = true then 1 else 0) p, 0) := by
 cases u
 ·refine zaD (r' := (b, nD q, nE q p, 0)) (fun k => ?_) (by simp)
  simp only [zS.j0, Bool.false_eq_true, if_false]
  exact zgq (by omega) (by omega) (by omega)
 have ha := zmz (q := q) (by omega)
 have hz2 := zbu (m := q) (n := 1) (p := 40000) hz (by rw [zaZ]; omega)
 refine zaD (r' := (b, nD (q + 1), nE (q + 1) p, 0)) (fun k => ?_) (by simp)
 simp only [zS.j0, if_true]
 exact zmm ha (zgq (by omega) (by omega) (by omega))
theorem zdG {m : Int} {b : Bool} {s : ByteArray} {e p : Int} (hm : 0 ≤ m) (hm7 : m ≤ 7) (h : OkS s e) (h1 : -10000 ≤ p) (h2 : p ≤ 10000) : Ev (fun k => zS.f k m b s e p) (zaz m b (vB s) e 1 p) := by
 have hv := h.ok.val
 have hsz := h.sz
 have hlo := h.lo
 have hhi := h.hi
 unfold zS.f
 refine evE (zjk m) (evT (by simp; omega) (evE (znV h h1 h2) ?_))
 by_cases hf : atE (vB s) e (min e p) % atE 1 p (min e p) = 0
 ·rw [zfr hf]
  exact evT (decide_eq_true hf) (evE (zcT h.ok) (Ev.now _))
 refine evF (by simpa using hf) ?_
 have hpe : e < p := by
  apply Classical.byContradiction; intro hn
  rw [show min e p = p by omega, zcE, Nat.mod_one] at hf
  exact hf rfl
 by_cases h7 : m = 7
 ·subst h7
  rw [zeo hf]
  exact evT rfl (Ev.now _)
 refine evF h7 ?_
 have hme : min e p = e := by omega
 obtain ⟨B, hB⟩ : ∃ B, B = 10 ^ (p - e).toNat := ⟨_, rfl⟩
 have hB1 : atE 1 p e = B := by unfold atE; rw [Nat.one_mul, hB]
 rw [hme, zcE, hB1] at hf
 have hB0 : 0 < B := by rw [hB]; exact zdU _
 have hzB : (jH B).size ≤ 20001 := by rw [hB, zgO]; omega
 have zq := zak (Nat.div_le_self (vB s) B) hv
 have zr := zak (Nat.mod_le (vB s) B) hv
 have lq := yK (vB s / B)
 have lr := yK (vB s % B)
 have z2 := zbu zr zr
 have l2 := yK (vB s % B + vB s % B)
 have lB := yK B
 have hcut := znN (b := b) h h1 h2
 rw [← hB] at hcut
 refine evE hcut ?_
 have ha : vN.f (zY (vB s % B)) (zY (vB s % B)) = some (zY (vB s % B + vB s % B)) := by
  have := zet (jU (vB s % B)) (jU (vB s % B)) (by omega) (by omega)
  rwa [jP] at this
 have hs : yP.f ([1] : List Int) (wrap64 (p - e)) = some (zY B) := by
  rw [w64 (x := p - e) (by omega) (by omega), zhF (by decide) (by decide) (by omega), show zH [1] = 1 by decide, Nat.one_mul, hB]
 have hc : uN.f (zY (vB s % B + vB s % B)) (zY B) = some (vV (vB s % B + vB s % B) B) := by
  have := zes (jU (vB s % B + vB s % B)) (jU B) (by omega) (by omega)
  rwa [jP, jP] at this
 refine evE ha (evE hs (evE hc ?_))
 have hres : zaz m b (vB s) e 1 p = (b, nD (vB s / B + if upB m b (vB s / B % 2 == 1) (vV (vB s % B + vB s % B) B) = true then 1 else 0), nE (vB s / B + if upB m b (vB s / B % 2 == 1) (vV (vB s % B + vB s % B) B) = true then 1 else 0) p, 0) := by
  rw [zkS h7 b (vB s) e 1 p e (Int.le_refl e) (by omega)]
  unfold rv0
  rw [zcE, hB1]
  have hq : rq m b (vB s) B = vB s / B + if upB m b (vB s / B % 2 == 1) (vV (vB s % B + vB s % B) B) = true then 1 else 0 := by
   unfold rq; simp only [ne_eq, hf, not_false_eq_true, true_and]
  rw [hq, hB, zhz, zhp, show e + ((p - e).toNat : Int) = p by omega]
 rw [hres]
 dsimp only
 by_cases hq0 : vB s / B = 0
 ·refine evF (by rw [hq0, zaF]; decide) (evE (zeA _ _ _ _) ?_)
  have : (vB s / B % 2 == 1) = false := by rw [hq0]; rfl
  rw [this]
  exact zdK (by omega) h1 h2
 obtain ⟨g1, g2⟩ := zje hq0
 refine evT (by omega) (evT (by omega) ?_)
 have : (Int.tmod (rd (zY (vB s / B)) 0) 2 == 1) = (vB s / B % 2 == 1) := by
  rw [g2, Int.tmod_eq_emod_of_nonneg (by omega), Bool.eq_iff_iff, beq_iff_eq, beq_iff_eq]; omega
 rw [this]
 refine evE (zeA _ _ _ _) ?_
 exact zdK (by omega) h1 h2
theorem zfG (n : Nat) : (nD n).toList = ([48] : List UInt8) ↔ n = 0 := by
 rw [← zcn]
 constructor
 ·intro h; apply zag; rw [← ByteArray.toList_eq, h]; rfl
 intro h; rw [h, ByteArray.toList_eq]; rfl
theorem zod (e : Int) (p : Nat) (h1 : -1000000 ≤ e) (h2 : e ≤ 1000000) (hp : p ≤ 1000000) : wrap64 (wrap64 (e + (p : Int)) - 1) = e + (p : Int) - 1 := by
 rw [w64 (x := e + (p : Int)) (by omega) (by omega), w64 (by omega) (by omega)]
theorem znm {b : Bool} {s : ByteArray} {e : Int} (h : OkD s e) : zbd.f b s e = some (uR (vB s) e) := by
 have hz := h.val
 have h1 := h.sz
 have h2 := h.lo
 have h3 := h.hi
 unfold zbd.f
 rw [zcT h]
 simp only [Option.bind_some]
 by_cases h0 : vB s = 0
 ·rw [if_pos ((zfG _).2 h0), h0]; rfl
 rw [if_neg (fun hh => h0 ((zfG _).1 hh))]
 have hl := zaW h0
 have hnd : nD (vB s) = jH (vE (vB s)) := by unfold nD; rw [if_neg h0]
 have hne : nE (vB s) e = e + (tz (vB s) : Int) := by unfold nE; rw [if_neg h0]
 rw [hnd, hne, zod _ _ (by omega) (by omega) (by omega)]
 unfold uR; rw [if_neg h0]; congr 1; omega
theorem zmq {s : ByteArray} {e : Int} (h : OkS s e) : -10000 ≤ uR (vB s) e ∧ uR (vB s) e ≤ 20000 := by
 have hv := h.ok.val
 have hsz := h.sz
 have hlo := h.lo
 have hhi := h.hi
 unfold uR
 split
 ·omega
 rename_i h0
 have : (jH (vB s)).size ≠ 0 := fun hh => h0 (zao.1 hh)
 omega
theorem zjD {b : Bool} {s : ByteArray} {e n : Int} (h : OkS s e) (h1 : n ≤ 100000) : zaA.f b s e n = some (uR (vB s) e - max n 1 + 1) := by
 have hb := zmq h
 have hm : mx n 1 = max n 1 := by unfold mx; omega
 unfold zaA.f
 rw [znm h.ok]
 simp only [Option.bind_some]
 rw [hm, w64 (x := uR (vB s) e - max n 1) (by omega) (by omega), w64 (by omega) (by omega)]
theorem zim {m : Int} {b : Bool} {s : ByteArray} {e : Int} {c : Nat} (hm : 0 ≤ m) (hm7 : m ≤ 7) (hc : 1 ≤ c) (hc2 : c ≤ 5000) (h : OkS s e) (ht : uR (vB s) e ≤ 10000) (ht2 : -5000 ≤ uR (vB s) e) : Ev (fun k => jS.f k m b s e (c : Int)) (zaz m b (vB s) e 1 (uR (vB s) e - (c : Int) + 1)) := by
 unfold jS.f
 refine evE (zjk m) (evT (by simp; omega) ?_)
 have : decide ((c : Int) < 1) = false := decide_eq_false (by omega)
 rw [this]
 refine Ev.step (fun k => by simp only [jS.j0, Bool.false_eq_true, if_false]; rfl) ?_
 refine evE (zjD h (by omega)) ?_
 rw [show max (c : Int) 1 = (c : Int) by omega]
 exact Ev.bind (zdG hm hm7 h (by omega) (by omega)) (Ev.now _)
theorem zkt (p q : Nat) (hp : p ≤ 1000000000) (hq : q ≤ 1000000000) : (((p : Int) + (q : Int)) % 4294967296) / 2 = (((p + q) / 2 : Nat) : Int) := by omega
theorem zjx (r b : List Int) (gr : jA r = true) (gb : jA b = true) (lr : r.length ≤ 1000001) (lb : b.length ≤ 1000000) : ∀ (d p q : Nat), q - p = d → p < q → q ≤ 1000000000 → zH b * p ≤ zH r → zH r < zH b * q →
  Ev (fun k => jT.l0 k r b (p : Int) (q : Int)) (((zH r / zH b : Nat) : Int), zY (zH r % zH b)) := by
 intro d
 induction d using Nat.strongRecOn with
 | _ d ih =>
 intro p q hd hpq hq h1 h2
 by_cases hs : 1 < q - p
 ·have hm1 : p < (p + q) / 2 := by omega
  have hm2 : (p + q) / 2 < q := by omega
  have lm : (zY (zH b * ((p + q) / 2) + 0)).length ≤ 1000001 := by
   have := xS gb
   have h3 : zH b * ((p + q) / 2) < 1000000000 ^ b.length * 1000000000 := Nat.mul_lt_mul'' this (by omega)
   rw [← Nat.pow_succ] at h3
   exact zdl h3 (by omega)
  refine Ev.step (f := fun k => (vI.f k b (((p + q) / 2 : Nat) : Int) ((0 : Nat) : Int)).bind fun t => (uN.f t r).bind fun t2 => if t2 ≤ 0 then jT.l0 k r b (((p + q) / 2 : Nat) : Int) (q : Int) else jT.l0 k r b (p : Int) (((p + q) / 2 : Nat) : Int)) (fun k => ?_) (Ev.bind (zdp gb lb (by omega) (by omega)) (Ev.bind (zbL fun _ => zes (jU _) gr (by omega) (by omega)) ?_))
  ·simp only [jT.l0]
   rw [if_pos (by omega), zkt p q (by omega) hq]; rfl
  rw [jP, Nat.add_zero]
  by_cases hc : zH b * ((p + q) / 2) ≤ zH r
  ·have c0 : vV (zH b * ((p + q) / 2)) (zH r) ≤ 0 := by
    unfold vV
    split
    ·omega
    rw [if_neg (by omega)]; omega
   simp only [c0, if_true]
   exact ih _ (by omega) _ _ rfl hm2 hq hc h2
  have c0 : ¬ vV (zH b * ((p + q) / 2)) (zH r) ≤ 0 := by unfold vV; rw [if_neg (by omega), if_pos (by omega)]; omega
  simp only [c0, if_false]
  exact ih _ (by omega) _ _ rfl hm1 (by omega) h1 (by omega)
 have hq1 : q = p + 1 := by omega
 subst hq1
 have hb0 : 0 < zH b := by
  rcases Nat.eq_zero_or_pos (zH b) with h0 | h0
  ·rw [h0] at h2; omega
  exact h0
 have e1 : zH r / zH b = p := by
  rw [Nat.mul_add] at h2
  exact Nat.div_eq_of_lt_le (by rw [Nat.mul_comm]; exact h1) (by rw [Nat.add_mul, Nat.mul_comm p]; omega)
 have e2 : zH r % zH b = zH r - zH b * p := by
  have := Nat.div_add_mod (zH r) (zH b)
  rw [e1] at this; omega
 have lm : (zY (zH b * p + 0)).length ≤ 1000001 := by
  exact zdl (Nat.lt_of_le_of_lt h1 (xS gr)) lr
 refine Ev.step (f := fun k => (vI.f k b ((p : Nat) : Int) ((0 : Nat) : Int)).bind fun t => (xV.f r t).bind fun t2 => some (((p : Nat) : Int), t2.1)) (fun k => ?_) (Ev.bind (zdp gb lb (by omega) (by omega)) (Ev.bind (zbL fun _ => zmj gr (jU _) (by omega) (by omega) (by rw [jP]; omega)) ?_))
 ·simp only [jT.l0]
  rw [if_neg (by omega)]; rfl
 rw [jP, Nat.add_zero, e1, e2]; exact Ev.now _
theorem zlB {r b : List Int} (gr : jA r = true) (gb : jA b = true) (lr : r.length ≤ 1000001) (lb : b.length ≤ 1000000) (h : zH r < 1000000000 * zH b) : Ev (fun k => jT.f k r b) (((zH r / zH b : Nat) : Int), zY (zH r % zH b)) := by
 have := zjx r b gr gb lr lb _ 0 1000000000 rfl (by omega) (by omega) (by omega) (by rw [Nat.mul_comm]; exact h)
 exact this
theorem zkU (A V y p r X Q R : Nat) (h : X * y + r = V) (hq : Q = (p + 1000000000 * r) / y) (hr : R = (p + 1000000000 * r) % y) : (Q + 1000000000 * X) * y + R = p + 1000000000 * V := by
 have := Nat.div_add_mod (p + 1000000000 * r) y
 rw [← hq, ← hr] at this
 rw [Nat.add_mul, Nat.mul_assoc, Nat.mul_comm _ y, ← h, Nat.mul_add]; omega
theorem zeN (a b : List Int) (ga : jA a = true) (gb : jA b = true) (la : a.length ≤ 1000000) (lb : b.length ≤ 1000000) (hb : 0 < zH b) : ∀ (n : Nat) (q r : List Int), n ≤ a.length → q.length = a.length → jA q = true → jA r = true → r.length ≤ 1000000 → zH r < zH b → zH (q.drop n) * zH b + zH r = zH (a.drop n) →
  Ev (fun k => jI.l0 k a b q r ((n : Int) - 1)) (zY (zH a / zH b), zY (zH a % zH b), true)
 | 0, q, r, hn, hq, gq, gr, lr, hr, hv => by
  rw [List.drop_zero, List.drop_zero] at hv
  have e1 : zH q = zH a / zH b := by rw [← hv, Nat.mul_comm, Nat.mul_add_div hb, Nat.div_eq_of_lt hr]; rfl
  have e2 : zH r = zH a % zH b := by rw [← hv, Nat.mul_comm, Nat.mul_add_mod, Nat.mod_eq_of_lt hr]
  refine zdx (Ev.step (f := fun _ => (jV.f q).bind fun t => (jV.f r).bind fun t2 => some (t, t2, true)) (fun k => ?_) (Ev.bind (zbL fun _ => qQ gq (by omega)) (Ev.bind (zbL fun _ => qQ gr (by omega)) (Ev.now _)))) ?_
  ·simp only [jI.l0]; rw [if_neg (by omega)]
  rw [e1, e2]
 | n + 1, q, r, hn, hq, gq, gr, lr, hr, hv => by
  have hna : n < a.length := by omega
  have hnq : n < q.length := by omega
  have pa := yD.1 ga _ (List.getElem_mem hna)
  obtain ⟨p, hp⟩ : ∃ v : Nat, a[n] = (v : Int) := ⟨a[n].toNat, by omega⟩
  have hp9 : p < 1000000000 := by omega
  have gpr : jA ([(p : Int)] ++ r) = true := yJ.2 ⟨yG.2 ⟨by omega, rfl⟩, gr⟩
  have vpr : zH ([(p : Int)] ++ r) = p + 1000000000 * zH r := by simp [zH]
  have hlt : p + 1000000000 * zH r < 1000000000 * zH b := by omega
  have hqb : (p + 1000000000 * zH r) / zH b < 1000000000 := by rw [Nat.div_lt_iff_lt_mul hb]; exact hlt
  have hmod := Nat.mod_lt (p + 1000000000 * zH r) hb
  have lt2 : (zY (p + 1000000000 * zH r)).length ≤ 1000001 := by
   rw [← vpr]
   exact Nat.le_trans (zaJ (xS gpr)) (by simp; omega)
  have lm : (zY ((p + 1000000000 * zH r) % zH b)).length ≤ 1000000 := by
   have := xS gb
   exact zdl (Nat.lt_trans hmod this) lb
  have ex : (((n + 1 : Nat) : Int) - 1) = (n : Int) := by omega
  refine Ev.step (f := fun k => (jV.f ([(p : Int)] ++ r)).bind fun t => (jT.f k t b).bind fun t2 => jI.l0 k a b (q.set n t2.1) t2.2 ((n : Int) - 1)) (fun k => ?_) (Ev.bind (zbL fun _ => qQ gpr (by simp; omega)) ?_)
  ·simp only [ex, jI.l0, Option.bind_some]
   rw [if_pos (by omega), if_pos (by omega), if_pos (by omega), vS hna, hp, if_pos (by simp; omega)]
   have c1 : (n : Int) < (q.length : Int) := by omega
   simp only [c1, if_true, Int.toNat_natCast, w64 (x := (n : Int) - 1) (by omega) (by omega)]
  rw [vpr]
  refine Ev.bind (zlB (jU _) gb (by omega) lb (by rw [jP]; exact hlt)) ?_
  rw [jP]
  refine zeN a b ga gb la lb hb n _ _ (by omega) (by simpa using hq) (zcQ gq n (ziT hqb)) (jU _) lm (by rw [jP]; exact hmod) ?_
  rw [jP, zco q n _ hnq, List.drop_eq_getElem_cons hna, hp]
  exact zkU 0 _ _ p _ _ _ _ hv rfl rfl
theorem zjU {a b : List Int} (ga : jA a = true) (gb : jA b = true) (la : a.length ≤ 1000000) (lb : b.length ≤ 1000000) (hb : 0 < zH b) : Ev (fun k => jI.f k a b) (zY (zH a / zH b), zY (zH a % zH b), true) := by
 unfold jI.f
 refine Ev.bind (zbL fun _ => qQ gb (by omega)) ?_
 have lb2 : (zY (zH b)).length ≤ 1000000 := Nat.le_trans (zaJ (xS gb)) lb
 have h0 : ¬ ((zY (zH b)).length : Int) = 0 := by
  intro h
  have : zY (zH b) = [] := List.eq_nil_of_length_eq_zero (by omega)
  have := zay.1 this; omega
 have h1 : (0 : Int) ≤ (a.length : Int) := by omega
 have h2 : a.length ≤ 70368744177664 := by omega
 simp only [h0, h1, if_true, if_false, Int.toNat_natCast, h2]
 rw [w64 (by omega) (by omega)]
 have := zeN a (zY (zH b)) ga (jU _) la lb2 (by rw [jP]; exact hb) a.length (List.replicate a.length 0) [] (Nat.le_refl _) (by simp) (zaf _) rfl (by simp) (by rw [jP]; exact hb) (by
  rw [List.drop_of_length_le (by simp), List.drop_of_length_le (Nat.le_refl _)]; simp [zH])
 rwa [jP] at this
theorem zhb (a b : List Int) (ga : jA a = true) (gb : jA b = true) (la : a.length ≤ 1000000) (lb : b.length ≤ 1000000) : ∀ (d n : Nat) (x : List Int), b.length - n = d → n ≤ b.length → jA x = true → x.length = a.length + b.length + 1 → zH x = zH a * zH (b.take n) →
  Ev (fun k => yA.l0 k a x b (b.length : Int) (n : Int)) (zY (zH a * zH b))
 | 0, n, x, h1, h2, gx, hx, hv => by
  refine zaD (r' := zY (zH x)) (fun k => ?_) ?_
  ·simp only [yA.l0, jV.f]; rw [if_neg (by omega), qQ gx (by omega)]; rfl
  rw [hv, List.take_of_length_le (by omega)]
 | d + 1, n, x, h1, h2, gx, hx, hv => by
  have hnb : n < b.length := by omega
  have pb := yD.1 gb _ (List.getElem_mem hnb)
  obtain ⟨y, hy⟩ : ∃ v : Nat, b[n] = (v : Int) := ⟨b[n].toNat, by omega⟩
  have e : zH (b.take (n + 1)) = zH (b.take n) + 1000000000 ^ n * y := by
   rw [List.take_succ_eq_append_getElem hnb, uY, hy, Int.toNat_natCast, List.length_take, Nat.min_eq_left (by omega)]
  have key : zH x + 1000000000 ^ n * (zH a * y) = zH a * zH (b.take (n + 1)) := by
   rw [hv, e, Nat.mul_add, Nat.mul_left_comm (1000000000 ^ n)]
  have hlt : zH x + 1000000000 ^ n * (zH a * y) < 1000000000 ^ x.length := by
   rw [key, hx]
   have va := xS ga
   have vb := xS (zct gb (n + 1))
   have h3 := Nat.mul_lt_mul'' va vb
   rw [← Nat.pow_add] at h3
   exact Nat.lt_of_lt_of_le h3 (Nat.pow_le_pow_right (by omega) (by rw [List.length_take]; omega))
  obtain ⟨r, hr, g1, g2, g3⟩ := zkf (p := n) gx ga (show y < 1000000000 by omega) (by omega) (by omega) hlt
  refine Ev.step (f := fun k => (jK.f k x a (y : Int) (n : Int)).bind fun t => yA.l0 k a t b (b.length : Int) ((n + 1 : Nat) : Int)) (fun k => ?_) (Ev.bind hr (zhb a b ga gb la lb d (n + 1) r (by omega) (by omega) g1 (by omega) (by rw [g3, key])))
  simp only [yA.l0]; rw [if_pos (by omega), if_pos (by omega), if_pos (by omega), vS hnb, hy, zaq _ (by omega)]
theorem zki {a b : List Int} (ga : jA a = true) (gb : jA b = true) (la : a.length ≤ 1000000) (lb : b.length ≤ 1000000) : Ev (fun k => yA.f k a b) (zY (zH a * zH b)) := by
 unfold yA.f
 rw [zkH _ _ la lb]
 have c1 : (0 : Int) ≤ ((a.length + b.length + 1 : Nat) : Int) := by omega
 have c2 : a.length + b.length + 1 ≤ 70368744177664 := by omega
 simp only [Int.toNat_natCast, c1, c2, if_true]
 exact zhb a b ga gb la lb b.length 0 _ rfl (by omega) (zaf _) (by simp) (by rw [zaM]; simp [zH])
theorem mnP (a b : Int) : mn a b = min b a := by unfold mn; split <;> omega
theorem zlG {q : Nat} (h : q ≠ 0) : (zY q).length > 0 ∧ rd (zY q) 0 = ((q % 1000000000 : Nat) : Int) := by
 have hv := jP q
 have hg := jU q
 rcases hl : zY q with _ | ⟨x, l⟩
 ·exact absurd (zay.1 hl) h
 rw [hl] at hv hg
 obtain ⟨hx, _⟩ := yG.1 hg
 simp only [zH] at hv
 refine ⟨by simp, ?_⟩
 show x = _
 omega
theorem zjS (v : Nat) : dB (zax v) = true ∧ (zax v).size ≠ 0 ∧ vB (zax v) = v := by
 unfold zax
 by_cases h : v = 0
 ·rw [if_pos h, h]; exact ⟨rfl, by decide, rfl⟩
 rw [if_neg h]; exact ⟨zgg v, fun e => h (zao.1 e), zer v⟩
theorem zfQ {v k : Nat} (h : (jH v).size ≤ k) (hk : 1 ≤ k) : (zax v).size ≤ k := by
 unfold zax
 by_cases h0 : v = 0
 ·rw [if_pos h0]; exact hk
 rw [if_neg h0]; exact h
theorem zjm {v k : Nat} (h : (jH v).size ≤ k) (hk : k ≤ 1000000) : yT.f (zY v) = some (zax v) := by
 have := yK v
 unfold yT.f; rw [if_pos ⟨jU v, by omega⟩, jP]
theorem ziB {b : Bool} {v : Nat} {p : Int} (hz : (jH v).size ≤ 100000) (h1 : -100000 ≤ p) (h2 : p ≤ 100000) : ((yT.f (zY v)).bind fun t => (jQ.f b t p).bind fun u => some (u.1, u.2.1, u.2.2, (0 : Int))) = some (b, nD v, nE v p, 0) := by
 obtain ⟨d1, d2, d3⟩ := zjS v
 have d4 := zfQ (k := 100000) hz (by decide)
 rw [zjm hz (by decide)]
 simp only [Option.bind_some]
 rw [zcT ⟨d1, d2, by omega, h1, h2⟩, d3]; rfl
theorem zmY {q : Nat} (h : (jH q).size ≤ 1000000) : vN.f (zY q) ([1] : List Int) = some (zY (q + 1)) := by
 have hl := yK q
 have h1 : ([1] : List Int).length ≤ 1000000000000 := by show 1 ≤ 1000000000000; omega
 have := zet (jU q) (b := [1]) (by decide) (by omega) h1
 rwa [jP, show zH [1] = 1 from rfl] at this
theorem zjE {b : Bool} {s : ByteArray} {e E : Int} {q B : Nat} {u : Bool} (hz : (jH q).size ≤ 40000) (hB : (jH B).size ≤ 40000) (h1 : -100000 ≤ E) (h2 : E ≤ 100000) : Ev (fun k => zT.j1 k (zY B) E (zY q) u b s e) (b, nD ((q + if u = true then 1 else 0) * B), nE ((q + if u = true then 1 else 0) * B) E, 0) := by
 have lB := yK B
 cases u
 ·have lq := yK q
  have hm := zeL hz hB
  have := zki (jU q) (jU B) (by omega) (by omega)
  rw [jP, jP] at this
  refine Ev.step (fun k => by simp only [zT.j1, Bool.false_eq_true, if_false]; rfl) (Ev.bind this (zbL fun _ => ?_))
  simp only [Bool.false_eq_true, if_false, Nat.add_zero]
  exact ziB (by omega) h1 h2
 have ha := zmY (q := q) (by omega)
 have h3 := zbu (m := q) (n := 1) (p := 40000) hz (by rw [zaZ]; omega)
 have lq := yK (q + 1)
 have hm := zeL h3 hB
 have := zki (jU (q + 1)) (jU B) (by omega) (by omega)
 rw [jP, jP] at this
 refine Ev.step (fun k => by simp only [zT.j1, if_true]; rfl) (evE ha (Ev.bind this (zbL fun _ => ?_)))
 simp only [if_true]
 exact ziB (by omega) h1 h2
theorem zni {m : Int} {b : Bool} {s : ByteArray} {e p : Int} {S : Nat} (h : OkS s e) (hS0 : S ≠ 0) (hS : (jH S).size ≤ 1000) (h1 : -10000 ≤ p) (h2 : p ≤ 10000) : Ev (fun k => zT.j0 k m p (zY S) false b s e) (zaz m b (vB s) e S p) := by
 have hv := h.ok.val
 have hz := h.sz
 have hlo := h.lo
 have hhi := h.hi
 have hc := zhl h.ok
 have lS := yK S
 obtain ⟨E, hE⟩ : ∃ E, E = mn e p := ⟨_, rfl⟩
 have hE2 : E = min e p := by rw [hE, mnP]; omega
 have sB : yP.f (zY S) (wrap64 (p - E)) = some (zY (atE S p E)) := by
  rw [w64 (x := p - E) (by omega) (by omega), zhF (jU _) (by omega) (by omega), jP]; rfl
 have sN : yP.f (zY (vB s)) (wrap64 (e - E)) = some (zY (atE (vB s) e E)) := by
  rw [w64 (x := e - E) (by omega) (by omega), zhF (jU _) (by omega) (by omega), jP]; rfl
 have zB : (jH (atE S p E)).size ≤ 30000 := by
  unfold atE; rw [zbM hS0]; omega
 have zN := zfW b (n := vB s) (p := 10000) e E (by omega)
 rw [zem] at zN
 have hB0 := ziV hS0 p E
 refine Ev.step (fun k => by simp only [zT.j0, Bool.false_eq_true, if_false, ← hE]; rfl) ?_
 refine evE sB (evE (zlY h.ok) (evE sN ?_))
 obtain ⟨N, hN⟩ : ∃ N, N = atE (vB s) e E := ⟨_, rfl⟩
 obtain ⟨B, hBB⟩ : ∃ B, B = atE S p E := ⟨_, rfl⟩
 rw [← hN, ← hBB]
 rw [← hN] at zN
 rw [← hBB] at zB hB0
 have zN2 : (jH N).size ≤ 30000 := by omega
 have zr := zak (Nat.mod_le N B) zN2
 have zq := zak (Nat.div_le_self N B) zN2
 have lN := yK N
 have lB := yK B
 have lr := yK (N % B)
 have z2 := zbu zr zr
 have l2 := yK (N % B + N % B)
 have hd := zjU (jU N) (jU B) (by omega) (by omega) (by rw [jP]; exact hB0)
 rw [jP, jP] at hd
 refine Ev.bind hd ?_
 dsimp only
 by_cases hf : N % B = 0
 ·have hf2 : atE (vB s) e (min e p) % atE S p (min e p) = 0 := by rw [← hE2, ← hN, ← hBB]; exact hf
  rw [zfr hf2]
  exact evT (by rw [hf, zaF]; rfl) (evE (zcT h.ok) (Ev.now _))
 have hf2 : ¬ atE (vB s) e (min e p) % atE S p (min e p) = 0 := by rw [← hE2, ← hN, ← hBB]; exact hf
 refine evF (fun hh => hf (zay.1 (List.eq_nil_of_length_eq_zero (by omega)))) ?_
 by_cases h7 : m = 7
 ·subst h7
  rw [zeo hf2]
  exact evT rfl (Ev.now _)
 refine evF h7 ?_
 have ha : vN.f (zY (N % B)) (zY (N % B)) = some (zY (N % B + N % B)) := by
  have := zet (jU (N % B)) (jU (N % B)) (by omega) (by omega)
  rwa [jP] at this
 have hcm : uN.f (zY (N % B + N % B)) (zY B) = some (vV (N % B + N % B) B) := by
  have := zes (jU (N % B + N % B)) (jU B) (by omega) (by omega)
  rwa [jP, jP] at this
 have hres : zaz m b (vB s) e S p = (b, nD ((N / B + if upB m b (N / B % 2 == 1) (vV (N % B + N % B) B) = true then 1 else 0) * B), nE ((N / B + if upB m b (N / B % 2 == 1) (vV (N % B + N % B) B) = true then 1 else 0) * B) E, 0) := by
  rw [zdZ h7, ← hE2]
  unfold rv0
  rw [← hN, ← hBB]
  have hq : rq m b N B = N / B + if upB m b (N / B % 2 == 1) (vV (N % B + N % B) B) = true then 1 else 0 := by
   unfold rq; simp only [ne_eq, hf, not_false_eq_true, true_and]
  rw [hq]
 rw [hres]
 by_cases hq0 : N / B = 0
 ·refine evF (by rw [hq0, zaF]; decide) (evE ha (evE hcm (evE (zeA _ _ _ _) ?_)))
  have : (N / B % 2 == 1) = false := by rw [hq0]; rfl
  rw [this]
  exact zjE (by omega) (by omega) (by omega) (by omega)
 obtain ⟨g1, g2⟩ := zlG hq0
 refine evT (by omega) (evT (by omega) (evE ha (evE hcm ?_)))
 have : (Int.tmod (rd (zY (N / B)) 0) 2 == 1) = (N / B % 2 == 1) := by
  rw [g2, Int.tmod_eq_emod_of_nonneg (by omega), Bool.eq_iff_iff, beq_iff_eq, beq_iff_eq]; omega
 rw [this]
 refine evE (zeA _ _ _ _) ?_
 exact zjE (by omega) (by omega) (by omega) (by omega)
theorem zmk {st : ByteArray} (hst : st.size ≤ 140737488351232) : vY.f st = some (if dB st = true ∧ st.size ≠ 0 then (zY (vB st), true) else ([], false)) := by unfold vY.f; rw [if_pos hst]
theorem zii {m : Int} {b : Bool} {s st : ByteArray} {e p : Int} (hm : 0 ≤ m) (hm7 : m ≤ 7) (h : OkS s e) (hd : dB st = true) (hs0 : vB st ≠ 0) (hsz : st.size ≤ 40) (h1 : -10000 ≤ p) (h2 : p ≤ 10000) : Ev (fun k => zT.f k m b s e st p) (zaz m b (vB s) e (vB st) p) := by
 have hn0 : st.size ≠ 0 := by
  intro h0
  rw [ByteArray.size_eq_zero_iff.1 h0] at hs0; exact hs0 rfl
 have hst := zat (zgY hd)
 unfold zT.f
 refine evE (zmk (by omega)) (evE (zjk m) (evT (by simp; omega) ?_))
 rw [if_pos ⟨hd, hn0⟩]
 refine evT rfl (evF (by omega) ?_)
 have : (((zY (vB st)).length : Int) == 0) = false := by
  rw [beq_eq_false_iff_ne]
  intro hh
  exact hs0 (zay.1 (List.eq_nil_of_length_eq_zero (by omega)))
 dsimp only
 rw [this]
 exact zni h hs0 (by omega) h1 h2
theorem zkl {b : Bool} {s : ByteArray} {e n : Int} (h : OkD s (e + n)) (h1 : -1000000 ≤ e) (h2 : e ≤ 1000000) (h3 : -1000000 ≤ n) (h4 : n ≤ 1000000) : jZ.f b s e n = some (b, nD (vB s), nE (vB s) (e + n)) := by
 unfold jZ.f; rw [w64 (x := e + n) (by omega) (by omega), zcT h]; rfl
theorem zgv (n : Nat) : (nD n).toList = ([48] : List UInt8) ↔ n = 0 := by
 rw [← zcn]
 constructor
 ·intro h; apply zag; rw [← ByteArray.toList_eq, h]; rfl
 intro h; rw [h, ByteArray.toList_eq]; rfl
theorem ziu {b : Bool} {s : ByteArray} {e : Int} (h : OkD s e) (h2 : OkD (nD (vB s)) (nE (vB s) e)) : qU.f b s e = some (zbl (vB s) e) := by
 unfold qU.f
 rw [zcT h]
 simp only [Option.bind_some]
 unfold zbl
 by_cases h0 : vB s = 0
 ·rw [if_pos ((zgv _).2 h0)]; simp [h0]
 rw [if_neg (fun hh => h0 ((zgv _).1 hh))]
 by_cases h1 : nE (vB s) e ≥ -300
 ·rw [if_pos h1, znm h2, zfA, zcJ]
  have h1' : -300 ≤ nE (vB s) e := h1
  simp only [Option.bind_some, h0, h1', false_or, true_and]
 rw [if_neg h1]
 have h1' : ¬ -300 ≤ nE (vB s) e := h1
 simp [h0, h1']
theorem znZ {b : Bool} {s : ByteArray} {e : Int} (hs : s.size ≤ 140737488351232) : zaH.f b s e = some (zbH s e) := by
 unfold zaH.f zbH
 by_cases h1 : (s.size : Int) > 1000
 ·rw [if_pos h1]; have : ¬ s.size ≤ 1000 := by omega
  simp [this]
 rw [if_neg h1]
 by_cases h2 : e < -1000
 ·rw [if_pos h2]; have : ¬ -1000 ≤ e := by omega
  simp [this]
 rw [if_neg h2]
 by_cases h3 : e > 1000
 ·rw [if_pos h3]; have : ¬ e ≤ 1000 := by omega
  simp [this]
 rw [if_neg h3]
 have c1 : s.size ≤ 1000 := by omega
 have c2 : -1000 ≤ e := by omega
 have c3 : e ≤ 1000 := by omega
 unfold vY.f
 rw [if_pos hs]
 by_cases h4 : dB s = true ∧ s.size ≠ 0
 ·rw [if_pos h4]; simp [h4.1, h4.2, c1, c2, c3]
 rw [if_neg h4]
 have : (dB s && decide (s.size ≠ 0)) = false := by
  cases hd : dB s
  ·rfl
  simp only [Bool.true_and, decide_eq_false_iff_not]; intro hh; exact h4 ⟨hd, hh⟩
 rw [this]; simp
theorem countP {b : Bool} {s : ByteArray} {e : Int} (h : OkD s e) : zbi.f b s e = some ((nD (vB s)).size : Int) := by
 unfold zbi.f; rw [zcT h]; rfl
end Go.Proofs.YtcmgdjnjmobkoaaGreatDoor.Px
namespace Go.Proofs.YtcmgdjnjmobkoaaGreatDoor.Px
set_option linter.all false
open Fig Go.RowKit Go.Proofs.YtcmgdjnjmobkoaaGreatDoorW.PrintWords Go.Proofs.YtcmgdjnjmobkoaaGreatDoorW.PrintLast Go.Proofs.YtcmgdjnjmobkoaaGreatDoorW.PrintMore
attribute [local go_sem] uE uC uV uW vJ vL uF uB
theorem zku {m : Int} {neg : Bool} {n st x y : Nat} {e p k : Int} (hn : (jH n).size ≤ x) (hs : (jH st).size ≤ y) (hs0 : st ≠ 0) (h1 : k ≤ e) (h2 : k ≤ p) : (jH (rv0 m neg n e st p k)).size ≤ max (x + (e - k).toNat) (y + (p - k).toNat) + 1 := by
 have a := zfW neg (n := n) (p := x) e k hn
 have b := zfW neg (n := st) (p := y) p k hs
 rw [zem] at a b
 have hB := ziV hs0 p k
 have h3 := (zmw (m := m) (neg := neg) (N := atE n e k) hB).1
 refine zak (n := atE n e k + atE st p k) (by unfold rv0; omega) ?_
 exact zbu (zak (Nat.le_refl _) (by omega)) (zak (Nat.le_refl _) (by omega))
def cS (P : yH) : Nat := (zbz P).2.toNat
theorem zma {P : yH} (hg : xK P) : 1 ≤ cS P ∧ cS P ≤ 80 ∧ (zbz P).2 = (cS P : Int) := by
 have := hg.mi0; have := hg.mi4; have := hg.mf0; have := hg.mfx; have := hg.xf4; have := hg.ms0; have := hg.msx; have := hg.xs4
 unfold cS zbz
 split
 ·refine ⟨by omega, by omega, by omega⟩
 have h := zgp hg
 have h1 : 1 ≤ uJ P + P.xf := by
  unfold uJ
  split
  ·omega
  rename_i hn
  by_cases h0 : P.mi + P.xf = 0
  ·exact absurd (.inr (.inr h0)) hn
  omega
 refine ⟨by show 1 ≤ (uJ P + P.xf).toNat; omega, by show (uJ P + P.xf).toNat ≤ 80; omega, by show uJ P + P.xf = ((uJ P + P.xf).toNat : Int); omega⟩
def stP (P : yH) (t : Int) : Nat × Int := if P.sci = true ∨ 0 < P.ms then (1, t - (cS P : Int) + 1) else if P.inc.size ≠ 0 then (vB P.inc, -P.xf) else (1, -P.xf)
theorem znx {P : yH} (hg : xK P) (hm : zcx P) (t : Int) : (stP P t).1 ≠ 0 ∧ (jH (stP P t).1).size ≤ 40 ∧ t - 80 ≤ max (stP P t).2 (t - 80) ∧ ((stP P t).2 = t - (cS P : Int) + 1 ∨ (-40 ≤ (stP P t).2 ∧ (stP P t).2 ≤ 0)) := by
 have := hg.mf0; have := hg.mfx; have := hg.xf4
 unfold stP
 split
 ·exact ⟨by show (1 : Nat) ≠ 0; decide, by show (jH 1).size ≤ 40; rw [zaZ]; decide, by omega, .inl rfl⟩
 split
 ·rename_i hi
  obtain ⟨h1, h2⟩ := hm.dig hi
  exact ⟨h2, Nat.le_trans (zat (zgY h1)) hg.inc4, by omega, .inr ⟨by show -40 ≤ -P.xf; omega, by show -P.xf ≤ 0; omega⟩⟩
 exact ⟨by show (1 : Nat) ≠ 0; decide, by show (jH 1).size ≤ 40; rw [zaZ]; decide, by omega, .inr ⟨by show -40 ≤ -P.xf; omega, by show -P.xf ≤ 0; omega⟩⟩
theorem zhw {P : yH} (hg : xK P) (hm : zcx P) {m : Int} (h0 : 0 ≤ m) (h7 : m ≤ 7) {b : Bool} {s : ByteArray} {e : Int} (ok : OkS s e) (h1 : uR (vB s) e ≤ 10000) (h2 : -5000 ≤ uR (vB s) e) :
  zeQ P m b s e (zaz m b (vB s) e (stP P (uR (vB s) e)).1 (stP P (uR (vB s) e)).2) := by
 obtain ⟨c1, c2, c3⟩ := zma hg
 have := hg.mf0; have := hg.mfx; have := hg.xf4
 refine ⟨fun h => ?_, fun h hi => ?_, fun h hi => ?_⟩
 ·rw [c3]
  have e1 : stP P (uR (vB s) e) = (1, uR (vB s) e - (cS P : Int) + 1) := by unfold stP; rw [if_pos h]
  rw [e1]
  exact zim h0 h7 c1 (by omega) ok h1 h2
 ·have e1 : stP P (uR (vB s) e) = (vB P.inc, -P.xf) := by unfold stP; rw [if_neg h, if_pos hi]
  rw [e1]
  exact zii h0 h7 ok (hm.dig hi).1 (hm.dig hi).2 hg.inc4 (by omega) (by omega)
 have e1 : stP P (uR (vB s) e) = (1, -P.xf) := by unfold stP; rw [if_neg h, if_neg (by omega)]
 rw [e1]
 exact zdG h0 h7 ok (by omega) (by omega)
theorem zis (q : Pat) : 0 ≤ q.mult ∧ q.mult ≤ 3 := by unfold Pat.mult; split; omega; split <;> omega
theorem znT {m : Int} (h0 : 0 ≤ m) (h7 : m ≤ 7) : yC.f m = some true := by unfold yC.f; rw [if_pos h0, decide_eq_true (by omega)]
def zhK (b : Bool) (N : Nat) (X : Int) : Bool × ByteArray × Int × Int := if zbl (vE N) X = true then (b, nD N, X, 0) else (false, ⟨#[]⟩, 0, 10)
theorem zkv {n : Nat} {e : Int} (h : (jH n).size ≤ 1000) (h1 : -1010 ≤ e) (h2 : e ≤ 1010) : -1010 ≤ uR n e ∧ uR n e ≤ 2010 := by
 unfold uR
 split
 ·omega
 rename_i h0
 have : (jH n).size ≠ 0 := fun hh => h0 (zao.1 hh)
 omega
def rN (q : Pat) (m : Int) (b : Bool) (n : Nat) (e : Int) : Nat := rv0 m b (vE n) (nE n (e + q.mult)) (stP q.P (uR n (e + q.mult))).1 (stP q.P (uR n (e + q.mult))).2 (min (nE n (e + q.mult)) (stP q.P (uR n (e + q.mult))).2)
def rK (q : Pat) (n : Nat) (e : Int) : Int := min (nE n (e + q.mult)) (stP q.P (uR n (e + q.mult))).2
def rX (q : Pat) (m : Int) (b : Bool) (n : Nat) (e : Int) : Int := nE (vE (rN q m b n e)) (nE (rN q m b n e) (rK q n e) + -q.mult)
theorem znU {q : Pat} (hq : zbp q) (m : Int) (b : Bool) {n : Nat} {e : Int} (hn : (jH n).size ≤ 120) (h1 : -1000 ≤ e) (h2 : e ≤ 1000) : (jH (rN q m b n e)).size ≤ 4000 ∧ -1200 ≤ rK q n e ∧ rK q n e ≤ 1200 := by
 obtain ⟨m0, m3⟩ := zis q
 obtain ⟨s1, s2, s3, s4⟩ := znx hq.good hq.more (uR n (e + q.mult))
 obtain ⟨c1, c2, c3⟩ := zma hq.good
 have ht := zkv (n := n) (e := e + q.mult) (by omega) (by omega) (by omega)
 have ht2 : uR n (e + q.mult) ≤ 1200 := by
  unfold uR; split
  ·omega
  omega
 have e1 := zdm n (e + q.mult) hn
 have e2 := zcz n (e + q.mult)
 have hc : (jH (vE n)).size ≤ 120 := zak (zgl n) hn
 unfold rN rK
 obtain ⟨p, hp⟩ : ∃ p, p = (stP q.P (uR n (e + q.mult))).2 := ⟨_, rfl⟩
 rw [← hp] at s4 ⊢
 have h := zku (m := m) (neg := b) (n := vE n) (st := (stP q.P (uR n (e + q.mult))).1) (e := nE n (e + q.mult)) (p := p) (k := min (nE n (e + q.mult)) p) hc s2 s1 (by omega) (by omega)
 refine ⟨Nat.le_trans h ?_, by omega, by omega⟩
 omega
theorem zdE {q : Pat} (hq : zbp q) {m : Int} (h0 : 0 ≤ m) (h6 : m ≤ 6) (b : Bool) {s : ByteArray} {e : Int} (hs : s.size ≤ 120) (hg : zbH s e = true) (hr : zbl (vB s) e = true) :
  zck q m b s e (zhK b (rN q m b (vB s) e) (rX q m b (vB s) e)) := by
 obtain ⟨g1, g2, g3, g4, g5⟩ := zef.1 hg
 obtain ⟨m0, m3⟩ := zis q
 have okd := OkD.of_good hg
 have hn : (jH (vB s)).size ≤ 120 := Nat.le_trans okd.val hs
 have okE : OkD s (e + q.mult) := ⟨g1, g2, by omega, by omega, by omega⟩
 have okS := OkS.norm (n := vB s) (e := e + q.mult) (by omega) (by omega) (by omega)
 have hc : vB (nD (vB s)) = vE (vB s) := zfA _
 have ht := zkv (n := vB s) (e := e + q.mult) (by omega) (by omega) (by omega)
 have hr1 : qU.f b s e = some true := by rw [ziu okd (OkD.norm (by omega) (by omega) (by omega)), hr]
 refine .inr (.inr (.inr ⟨znT h0 (by omega), by rw [znZ (by omega), hg], hr1, b, nD (vB s), nE (vB s) (e + q.mult), _, zkl okE (by omega) (by omega) (by omega) (by omega), zhw hq.good hq.more h0 (by omega) okS (by rw [hc, zcJ]; omega) (by rw [hc, zcJ]; omega), .inr ?_⟩))
 rw [hc, zcJ, zdZ (by omega)]
 obtain ⟨k1, k2, k3⟩ := znU hq m b (n := vB s) (e := e) hn (by omega) (by omega)
 obtain ⟨N, hN⟩ : ∃ N, N = rN q m b (vB s) e := ⟨_, rfl⟩
 obtain ⟨k, hk⟩ : ∃ k, k = rK q (vB s) e := ⟨_, rfl⟩
 have e1 : rX q m b (vB s) e = nE (vE N) (nE N k + -q.mult) := by unfold rX; rw [← hN, ← hk]
 rw [e1]
 show ((0 : Int) = 0 ∧ _)
 refine ⟨rfl, b, nD N, nE (vE N) (nE N k + -q.mult), zbl (vE N) (nE (vE N) (nE N k + -q.mult)), ?_, ?_, ?_⟩
 ·show jZ.f b (nD (rN q m b (vB s) e)) (nE (rN q m b (vB s) e) (rK q (vB s) e)) (-q.mult) = _
  rw [← hN, ← hk]
  rw [← hN] at k1
  rw [← hk] at k2 k3
  have a1 := zdm N k k1
  have a2 := zcz N k
  have a3 := zgX (n := N) k1 (by omega)
  rw [zkl ⟨zfE N, zfI N, by omega, by omega, by omega⟩ (by omega) (by omega) (by omega) (by omega), zfA, ziQ]
 ·rw [← hN] at k1
  rw [← hk] at k2 k3
  have a1 := zdm N k k1
  have a2 := zcz N k
  have a3 := zgX (n := N) k1 (by omega)
  have hcz : (jH (vE N)).size ≤ 4000 := zak (zgl N) k1
  have b1 := zdm (vE N) (nE N k + -q.mult) hcz
  have b2 := zcz (vE N) (nE N k + -q.mult)
  have b3 := zdm (vE N) (nE (vE N) (nE N k + -q.mult)) hcz
  have b4 := zcz (vE N) (nE (vE N) (nE N k + -q.mult))
  have := ziu (b := b) (s := nD N) (e := nE (vE N) (nE N k + -q.mult)) ⟨zfE N, zfI N, by omega, by omega, by omega⟩ (by rw [zfA, ziQ]; exact ⟨zfE N, zfI N, by omega, by omega, by omega⟩)
  rw [this, zfA]
 unfold zhK; rw [hN]
section
section
variable {P : Program} {ops : Array Oper} {rest : List Oper} {o : Oper} {a : Act} {Q : Exit → Act → World → Prop}
theorem ls_ {W : World} (N : Tmp) (n : Nat) (cs : Array Value) (t : TypeId) (h : ∀ g, g = W.heap.size → ∀ w1, w1.heap[g]? = some (.cells cs t (0, 0)) → Below W.heap.size W w1 → wpList P ops Q rest (a.put o.dst (.slice (some ⟨g, 0, none⟩) n n)) w1)
  (hd : o.dst = some N := by with_reducible rfl) (hgd : o.guard = none := by rfl) (hrun : (execOp a.eval o).run P W = .ok (.value (.slice (some ⟨W.heap.size, 0, none⟩) n n)) (W.alloc (.cells cs t (0, 0))) := by (first | (go_simp; done) | (go_simp; rfl))) : wpList P ops Q (o :: rest) a W :=
 Kd.event_run hgd hrun (h _ rfl _ (zbW W _) (uD (Below.refl _ _) _))
end
theorem zoe {W : World} {g : Nat} {d : zgj} (h : W.heap[g]? = some (.cells #[.bool d.1, .string d.2.1, .int .i64 d.2.2] 23 (0, 0))) : zcF W ⟨g, 0, none⟩ [d] := by
 intro i hi
 obtain rfl : i = 0 := by simp at hi; omega
 have e : (⟨g, 0, none⟩ : Addr).add (0 * 3) = ⟨g, 0, none⟩ := by rw [Addr.add_mid]
 rw [e]
 exact ⟨(zD h 0).trans rfl, (zD h 1).trans rfl, (zD h 2).trans rfl⟩
end
set_option maxHeartbeats 8000000 in
set_option maxRecDepth 100000 in
theorem zks (s : ByteArray) (hs : s.size ≤ 1048576) (m : Int) (b : Bool) (s2 : ByteArray) (e : Int) (hs2 : s2.size ≤ 140737488351232) (w : World) (hG : Fig.Glob w)
  (H : ∀ q, zbp q → zfn (b, s2, e) → 0 ≤ m → m ≤ 6 → ∃ x l h : Bool × ByteArray × Int × Int, zck q m b s2 e x ∧ zck q 3 b s2 e l ∧ zck q 2 b s2 e h ∧
   (x.2.2.2 = 0 → l.2.2.2 = 0 → h.2.2.2 = 0 → x.1 = b ∧ l.1 = b ∧ h.1 = b ∧ ((x.2.1 = l.2.1 ∧ x.2.2.1 = l.2.2.1) ∨ (x.2.1 = h.2.1 ∧ x.2.2.1 = h.2.2.1)))) :
  Calls Tryz.prog 6 #[.string s, .int .i64 m, .agg #[.bool b, .string s2, .int .i64 e]] w fun e w' => e = .returned (.bool true) ∧ Below w.heap.size w w' := by
 have HB := K_ (Below.refl w.heap.size w)
 have HG := K_ hG
 have HH := K_ H
 clear hG H
 have HSZ := K_ (show ∀ d ∈ ([(b, s2, e)] : List zgj), d.2.1.size ≤ 4611686018427387904 by intro d hd; rw [List.mem_singleton.1 hd]; show s2.size ≤ _; omega)
 clear hs2
 go_enter Tryz.func6, Tryz.ntmps6
 go_upto_region 2 with (first | ((with_reducible refine zG (N := 5) rfl ?_); refine bx_ 5 (#[.bool b, .string s2, .int .i64 e]) 23 ?_ rfl rfl rfl rfl rfl; intro g5 hg w2 hbox hb; have BK5 := K_ hbox; have GE5 := ge_ hg HB; replace HB := zE HB hb; clear hb hbox hg) | ((with_reducible refine zG (N := 17) rfl ?_); refine lo_ (g := g5) (cs := #[.bool b, .string s2, .int .i64 e]) _ ⟨BK BK5⟩ ?_ rfl rfl rfl Tryz.underlying23 rfl jR) | ((with_reducible refine zG (N := 18) rfl ?_); refine ls_ 18 1 #[.bool b, .string s2, .int .i64 e] 23 ?_; intro g18 hg w2 hbox hb; have BK18 := K_ hbox; replace BK5 := zC BK5 hb; replace HB := zE HB hb; clear hb hbox hg) | (go_at_call 17; refine (zip s hs ⟨g18, 0, none⟩ [(b, s2, e)] (by simp) HSZ.out 1 (by simp) _ (zoe (d := (b, s2, e)) BK18.out)).mono ?_; rintro e9 w' ⟨q, ok, rfl, hrr, hb, hok⟩; have HRR := K_ (hrr.lower (zJ (BL HB))); have HOK := K_ hok; replace HB := zE HB hb; replace BK5 := zC BK5 hb; clear hb hrr hok) | ((with_reducible refine zG (N := 7) rfl ?_); refine be_ 7 (Z26) 26 ?_; intro g7 hg w2 hbox hb; have BK7 := K_ hbox; have GE7 := ge_ hg HB; have NB5_7 := nb_ hg BK5; replace BK5 := zC BK5 hb; replace HRR := K_ (HRR.out.below hb); replace HB := zE HB hb; clear hb hbox hg) | ((with_reducible refine jD (p := 7) rfl ?_); refine so_ (g := g7) (cs := Z26) (q.cs) ⟨BK BK7⟩ ?_ rfl rfl rfl rfl rfl yL rfl rfl; intro w9 hbk hfar hbel; replace BK5 := K_ (hfar _ _ (by first | exact NB5_7.out | exact Ne.symm NB7_5.out) (BK BK5)); replace HRR := K_ (HRR.out.so (BK BK7) (by decide) hfar); replace BK7 := K_ hbk; replace HB := K_ (hbel _ _ GE7.out (BL HB)); clear hbk hfar hbel))
 clear BK18
 cases ok
 ·go_wp2_with (first | (go_at_call 19; refine (qL _ (Fig.Glob.below HG.out (BL HB))).mono ?_; rintro e9 w' ⟨rfl, hb⟩; replace HB := zE HB hb; clear hb))
  go_ret
  exact ⟨rfl, BL HB⟩
 by_cases h0 : m < 0
 ·have d0 : decide (m < 0) = true := decide_eq_true h0
  go_wp2_with (first | (go_at_call 19; refine (qL _ (Fig.Glob.below HG.out (BL HB))).mono ?_; rintro e9 w' ⟨rfl, hb⟩; replace HB := zE HB hb; clear hb))
  go_ret
  exact ⟨rfl, BL HB⟩
 have d0 : decide (m < 0) = false := decide_eq_false h0
 by_cases h6 : 6 < m
 ·have d6 : decide (6 < m) = true := decide_eq_true h6
  go_wp2_with (first | (go_at_call 19; refine (qL _ (Fig.Glob.below HG.out (BL HB))).mono ?_; rintro e9 w' ⟨rfl, hb⟩; replace HB := zE HB hb; clear hb))
  go_ret
  exact ⟨rfl, BL HB⟩
 have d6 : decide (6 < m) = false := decide_eq_false h6
 have HQ := K_ (HOK.out rfl).1
 obtain ⟨x, l, h, hx, hl, hh, hend⟩ := HH.out q HQ.out ((HOK.out rfl).2 _ (List.mem_singleton.2 rfl)) (by omega) (by omega)
 obtain ⟨x1, x2, x3, x4⟩ := x
 obtain ⟨l1, l2, l3, l4⟩ := l
 obtain ⟨h1, h2, h3, h4⟩ := h
 have HRX : ∀ W, xY q W w.heap.size → Fig.Glob W → Aside0 (Calls Tryz.prog 14 #[.agg q.cs, .int .i64 m, .agg #[.bool b, .string s2, .int .i64 e]] W fun e w' => e = .returned (.tuple #[.agg #[.bool x1, .string x2, .int .i64 x3], .int .i64 x4]) ∧ Below W.heap.size W w') := fun W y1 y2 => ⟨zdz q HQ.out.good m b s2 e (x1, x2, x3, x4) hx W (y1.ok HQ.out) y2⟩
 have HRL : ∀ W, xY q W w.heap.size → Fig.Glob W → Aside0 (Calls Tryz.prog 14 #[.agg q.cs, .int .i64 3, .agg #[.bool b, .string s2, .int .i64 e]] W fun e w' => e = .returned (.tuple #[.agg #[.bool l1, .string l2, .int .i64 l3], .int .i64 l4]) ∧ Below W.heap.size W w') := fun W y1 y2 => ⟨zdz q HQ.out.good 3 b s2 e (l1, l2, l3, l4) hl W (y1.ok HQ.out) y2⟩
 have HRH : ∀ W, xY q W w.heap.size → Fig.Glob W → Aside0 (Calls Tryz.prog 14 #[.agg q.cs, .int .i64 2, .agg #[.bool b, .string s2, .int .i64 e]] W fun e w' => e = .returned (.tuple #[.agg #[.bool h1, .string h2, .int .i64 h3], .int .i64 h4]) ∧ Below W.heap.size W w') := fun W y1 y2 => ⟨zdz q HQ.out.good 2 b s2 e (h1, h2, h3, h4) hh W (y1.ok HQ.out) y2⟩
 clear hx hl hh
 go_upto_region 5 with (first | ((with_reducible refine zG (N := 34) rfl ?_); refine lo_ (g := g7) (cs := q.cs) _ ⟨BK BK7⟩ ?_ rfl rfl rfl Tryz.underlying26 rfl yL) | ((with_reducible refine zG (N := 36) rfl ?_); refine lo_ (g := g5) (cs := #[.bool b, .string s2, .int .i64 e]) _ ⟨BK BK5⟩ ?_ rfl rfl rfl Tryz.underlying23 rfl jR) | (go_at_call 14; with_reducible refine ((HRX _ HRR.out (Fig.Glob.below HG.out (BL HB))).out).mono ?_; rintro e9 w' ⟨rfl, hb⟩; replace HRR := K_ (HRR.out.below hb); replace HB := zE HB hb; replace BK5 := zC BK5 hb; replace BK7 := zC BK7 hb; clear hb) | ((with_reducible refine zG (N := 9) rfl ?_); refine be_ 9 (#[.bool false, .string (⟨#[]⟩ : ByteArray), .int .i64 0]) 23 ?_; intro g9 hg w2 hbox hb; have BK9 := K_ hbox; have GE9 := ge_ hg HB; have NB5_9 := nb_ hg BK5; replace BK5 := zC BK5 hb; have NB7_9 := nb_ hg BK7; replace BK7 := zC BK7 hb; replace HRR := K_ (HRR.out.below hb); replace HB := zE HB hb; clear hb hbox hg) | ((with_reducible refine jD (p := 9) rfl ?_); refine so_ (g := g9) (cs := #[.bool false, .string (⟨#[]⟩ : ByteArray), .int .i64 0]) (#[.bool x1, .string x2, .int .i64 x3]) ⟨BK BK9⟩ ?_ rfl rfl rfl rfl rfl jR rfl rfl; intro w9 hbk hfar hbel; replace BK5 := K_ (hfar _ _ (by first | exact NB5_9.out | exact Ne.symm NB9_5.out) (BK BK5)); replace BK7 := K_ (hfar _ _ (by first | exact NB7_9.out | exact Ne.symm NB9_7.out) (BK BK7)); replace HRR := K_ (HRR.out.so (BK BK9) (by decide) hfar); replace BK9 := K_ hbk; replace HB := K_ (hbel _ _ GE9.out (BL HB)); clear hbk hfar hbel))
 go_upto_region 6 with (first | ((with_reducible refine zG (N := 41) rfl ?_); refine lo_ (g := g7) (cs := q.cs) _ ⟨BK BK7⟩ ?_ rfl rfl rfl Tryz.underlying26 rfl yL) | ((with_reducible refine zG (N := 42) rfl ?_); refine lo_ (g := g5) (cs := #[.bool b, .string s2, .int .i64 e]) _ ⟨BK BK5⟩ ?_ rfl rfl rfl Tryz.underlying23 rfl jR) | (go_at_call 14; with_reducible refine ((HRL _ HRR.out (Fig.Glob.below HG.out (BL HB))).out).mono ?_; rintro e9 w' ⟨rfl, hb⟩; replace HRR := K_ (HRR.out.below hb); replace HB := zE HB hb; replace BK5 := zC BK5 hb; replace BK7 := zC BK7 hb; replace BK9 := zC BK9 hb; clear hb) | ((with_reducible refine zG (N := 11) rfl ?_); refine be_ 11 (#[.bool false, .string (⟨#[]⟩ : ByteArray), .int .i64 0]) 23 ?_; intro g11 hg w2 hbox hb; have BK11 := K_ hbox; have GE11 := ge_ hg HB; have NB5_11 := nb_ hg BK5; replace BK5 := zC BK5 hb; have NB7_11 := nb_ hg BK7; replace BK7 := zC BK7 hb; have NB9_11 := nb_ hg BK9; replace BK9 := zC BK9 hb; replace HRR := K_ (HRR.out.below hb); replace HB := zE HB hb; clear hb hbox hg) | ((with_reducible refine jD (p := 11) rfl ?_); refine so_ (g := g11) (cs := #[.bool false, .string (⟨#[]⟩ : ByteArray), .int .i64 0]) (#[.bool l1, .string l2, .int .i64 l3]) ⟨BK BK11⟩ ?_ rfl rfl rfl rfl rfl jR rfl rfl; intro w9 hbk hfar hbel; replace BK5 := K_ (hfar _ _ (by first | exact NB5_11.out | exact Ne.symm NB11_5.out) (BK BK5)); replace BK7 := K_ (hfar _ _ (by first | exact NB7_11.out | exact Ne.symm NB11_7.out) (BK BK7)); replace BK9 := K_ (hfar _ _ (by first | exact NB9_11.out | exact Ne.symm NB11_9.out) (BK BK9)); replace HRR := K_ (HRR.out.so (BK BK11) (by decide) hfar); replace BK11 := K_ hbk; replace HB := K_ (hbel _ _ GE11.out (BL HB)); clear hbk hfar hbel))
 go_upto_region 7 with (first | ((with_reducible refine zG (N := 47) rfl ?_); refine lo_ (g := g7) (cs := q.cs) _ ⟨BK BK7⟩ ?_ rfl rfl rfl Tryz.underlying26 rfl yL) | ((with_reducible refine zG (N := 48) rfl ?_); refine lo_ (g := g5) (cs := #[.bool b, .string s2, .int .i64 e]) _ ⟨BK BK5⟩ ?_ rfl rfl rfl Tryz.underlying23 rfl jR) | (go_at_call 14; with_reducible refine ((HRH _ HRR.out (Fig.Glob.below HG.out (BL HB))).out).mono ?_; rintro e9 w' ⟨rfl, hb⟩; replace HRR := K_ (HRR.out.below hb); replace HB := zE HB hb; replace BK5 := zC BK5 hb; replace BK7 := zC BK7 hb; replace BK9 := zC BK9 hb; replace BK11 := zC BK11 hb; clear hb) | ((with_reducible refine zG (N := 13) rfl ?_); refine be_ 13 (#[.bool false, .string (⟨#[]⟩ : ByteArray), .int .i64 0]) 23 ?_; intro g13 hg w2 hbox hb; have BK13 := K_ hbox; have GE13 := ge_ hg HB; have NB5_13 := nb_ hg BK5; replace BK5 := zC BK5 hb; have NB7_13 := nb_ hg BK7; replace BK7 := zC BK7 hb; have NB9_13 := nb_ hg BK9; replace BK9 := zC BK9 hb; have NB11_13 := nb_ hg BK11; replace BK11 := zC BK11 hb; replace HRR := K_ (HRR.out.below hb); replace HB := zE HB hb; clear hb hbox hg) | ((with_reducible refine jD (p := 13) rfl ?_); refine so_ (g := g13) (cs := #[.bool false, .string (⟨#[]⟩ : ByteArray), .int .i64 0]) (#[.bool h1, .string h2, .int .i64 h3]) ⟨BK BK13⟩ ?_ rfl rfl rfl rfl rfl jR rfl rfl; intro w9 hbk hfar hbel; replace BK5 := K_ (hfar _ _ (by first | exact NB5_13.out | exact Ne.symm NB13_5.out) (BK BK5)); replace BK7 := K_ (hfar _ _ (by first | exact NB7_13.out | exact Ne.symm NB13_7.out) (BK BK7)); replace BK9 := K_ (hfar _ _ (by first | exact NB9_13.out | exact Ne.symm NB13_9.out) (BK BK9)); replace BK11 := K_ (hfar _ _ (by first | exact NB11_13.out | exact Ne.symm NB13_11.out) (BK BK11)); replace HRR := K_ (HRR.out.so (BK BK13) (by decide) hfar); replace BK13 := K_ hbk; replace HB := K_ (hbel _ _ GE13.out (BL HB)); clear hbk hfar hbel))
 by_cases hx4 : x4 = 0
 ·have dx : (x4 != 0) = false := by rw [hx4]; rfl
  by_cases hl4 : l4 = 0
  ·have dl : (l4 != 0) = false := by rw [hl4]; rfl
   by_cases hh4 : h4 = 0
   ·have dh : (h4 != 0) = false := by rw [hh4]; rfl
    obtain ⟨r1, r2, r3, r4⟩ := hend hx4 hl4 hh4
    have r1 : x1 = b := r1
    have r2 : l1 = b := r2
    have r3 : h1 = b := r3
    subst r1
    obtain rfl : x1 = l1 := r2.symm
    obtain rfl : x1 = h1 := r3.symm
    rcases r4 with r4 | r4
    ·obtain ⟨r5, r6⟩ := r4
     have r5 : x2 = l2 := r5
     have r6 : x3 = l3 := r6
     subst r5 r6
     have e90 := (show w9.cell? ⟨g9, 0, none⟩ = some (.bool x1) from (zD BK9.out 0).trans rfl)
     have e110 := (show w9.cell? ⟨g11, 0, none⟩ = some (.bool x1) from (zD BK11.out 0).trans rfl)
     have e130 := (show w9.cell? ⟨g13, 0, none⟩ = some (.bool x1) from (zD BK13.out 0).trans rfl)
     have e50 := (show w9.cell? ⟨g5, 0, none⟩ = some (.bool x1) from (zD BK5.out 0).trans rfl)
     go_wp2_with (first | (go_at_call 19; refine (qL _ (Fig.Glob.below HG.out (BL HB))).mono ?_; rintro e9 w' ⟨rfl, hb⟩; replace HRR := K_ (HRR.out.below hb); replace HB := zE HB hb; replace BK5 := zC BK5 hb; replace BK7 := zC BK7 hb; replace BK9 := zC BK9 hb; replace BK11 := zC BK11 hb; replace BK13 := zC BK13 hb; clear hb; clear e90 e110 e130 e50; have e90 := (show w'.cell? ⟨g9, 0, none⟩ = some (.bool x1) from (zD BK9.out 0).trans rfl); have e110 := (show w'.cell? ⟨g11, 0, none⟩ = some (.bool x1) from (zD BK11.out 0).trans rfl); have e130 := (show w'.cell? ⟨g13, 0, none⟩ = some (.bool x1) from (zD BK13.out 0).trans rfl); have e50 := (show w'.cell? ⟨g5, 0, none⟩ = some (.bool x1) from (zD BK5.out 0).trans rfl)) | ((with_reducible refine zG (N := 65) rfl ?_); refine zaV (g := g9) (cs := #[.bool x1, .string x2, .int .i64 x3]) _ ⟨BK BK9⟩ ?_ (by rfl) rfl rfl Tryz.underlying23 rfl jR) | ((with_reducible refine zG (N := 66) rfl ?_); refine zaV (g := g11) (cs := #[.bool x1, .string x2, .int .i64 x3]) _ ⟨BK BK11⟩ ?_ (by rfl) rfl rfl Tryz.underlying23 rfl jR) | ((with_reducible refine zG (N := 69) rfl ?_); refine zaV (g := g9) (cs := #[.bool x1, .string x2, .int .i64 x3]) _ ⟨BK BK9⟩ ?_ (by rfl) rfl rfl Tryz.underlying23 rfl jR) | ((with_reducible refine zG (N := 70) rfl ?_); refine zaV (g := g13) (cs := #[.bool x1, .string h2, .int .i64 h3]) _ ⟨BK BK13⟩ ?_ (by rfl) rfl rfl Tryz.underlying23 rfl jR))
     all_goals go_ret
     all_goals exact ⟨by first | rfl | simp, BL HB⟩
    obtain ⟨r5, r6⟩ := r4
    have r5 : x2 = h2 := r5
    have r6 : x3 = h3 := r6
    subst r5 r6
    by_cases hc : x2 = l2 ∧ x3 = l3
    ·obtain ⟨rfl, rfl⟩ := hc
     have e90 := (show w9.cell? ⟨g9, 0, none⟩ = some (.bool x1) from (zD BK9.out 0).trans rfl)
     have e110 := (show w9.cell? ⟨g11, 0, none⟩ = some (.bool x1) from (zD BK11.out 0).trans rfl)
     have e130 := (show w9.cell? ⟨g13, 0, none⟩ = some (.bool x1) from (zD BK13.out 0).trans rfl)
     have e50 := (show w9.cell? ⟨g5, 0, none⟩ = some (.bool x1) from (zD BK5.out 0).trans rfl)
     go_wp2_with (first | (go_at_call 19; refine (qL _ (Fig.Glob.below HG.out (BL HB))).mono ?_; rintro e9 w' ⟨rfl, hb⟩; replace HRR := K_ (HRR.out.below hb); replace HB := zE HB hb; replace BK5 := zC BK5 hb; replace BK7 := zC BK7 hb; replace BK9 := zC BK9 hb; replace BK11 := zC BK11 hb; replace BK13 := zC BK13 hb; clear hb; clear e90 e110 e130 e50; have e90 := (show w'.cell? ⟨g9, 0, none⟩ = some (.bool x1) from (zD BK9.out 0).trans rfl); have e110 := (show w'.cell? ⟨g11, 0, none⟩ = some (.bool x1) from (zD BK11.out 0).trans rfl); have e130 := (show w'.cell? ⟨g13, 0, none⟩ = some (.bool x1) from (zD BK13.out 0).trans rfl); have e50 := (show w'.cell? ⟨g5, 0, none⟩ = some (.bool x1) from (zD BK5.out 0).trans rfl)) | ((with_reducible refine zG (N := 65) rfl ?_); refine zaV (g := g9) (cs := #[.bool x1, .string x2, .int .i64 x3]) _ ⟨BK BK9⟩ ?_ (by rfl) rfl rfl Tryz.underlying23 rfl jR) | ((with_reducible refine zG (N := 66) rfl ?_); refine zaV (g := g11) (cs := #[.bool x1, .string x2, .int .i64 x3]) _ ⟨BK BK11⟩ ?_ (by rfl) rfl rfl Tryz.underlying23 rfl jR) | ((with_reducible refine zG (N := 69) rfl ?_); refine zaV (g := g9) (cs := #[.bool x1, .string x2, .int .i64 x3]) _ ⟨BK BK9⟩ ?_ (by rfl) rfl rfl Tryz.underlying23 rfl jR) | ((with_reducible refine zG (N := 70) rfl ?_); refine zaV (g := g13) (cs := #[.bool x1, .string x2, .int .i64 x3]) _ ⟨BK BK13⟩ ?_ (by rfl) rfl rfl Tryz.underlying23 rfl jR))
     all_goals go_ret
     all_goals exact ⟨by first | rfl | simp, BL HB⟩
    have e90 := (show w9.cell? ⟨g9, 0, none⟩ = some (.bool x1) from (zD BK9.out 0).trans rfl)
    have e110 := (show w9.cell? ⟨g11, 0, none⟩ = some (.bool x1) from (zD BK11.out 0).trans rfl)
    have e130 := (show w9.cell? ⟨g13, 0, none⟩ = some (.bool x1) from (zD BK13.out 0).trans rfl)
    have e50 := (show w9.cell? ⟨g5, 0, none⟩ = some (.bool x1) from (zD BK5.out 0).trans rfl)
    go_wp2_with (first | (go_at_call 19; refine (qL _ (Fig.Glob.below HG.out (BL HB))).mono ?_; rintro e9 w' ⟨rfl, hb⟩; replace HRR := K_ (HRR.out.below hb); replace HB := zE HB hb; replace BK5 := zC BK5 hb; replace BK7 := zC BK7 hb; replace BK9 := zC BK9 hb; replace BK11 := zC BK11 hb; replace BK13 := zC BK13 hb; clear hb; clear e90 e110 e130 e50; have e90 := (show w'.cell? ⟨g9, 0, none⟩ = some (.bool x1) from (zD BK9.out 0).trans rfl); have e110 := (show w'.cell? ⟨g11, 0, none⟩ = some (.bool x1) from (zD BK11.out 0).trans rfl); have e130 := (show w'.cell? ⟨g13, 0, none⟩ = some (.bool x1) from (zD BK13.out 0).trans rfl); have e50 := (show w'.cell? ⟨g5, 0, none⟩ = some (.bool x1) from (zD BK5.out 0).trans rfl)) | ((with_reducible refine zG (N := 65) rfl ?_); refine zaV (g := g9) (cs := #[.bool x1, .string x2, .int .i64 x3]) _ ⟨BK BK9⟩ ?_ (by rfl) rfl rfl Tryz.underlying23 rfl jR) | ((with_reducible refine zG (N := 66) rfl ?_); refine zaV (g := g11) (cs := #[.bool x1, .string l2, .int .i64 l3]) _ ⟨BK BK11⟩ ?_ (by rfl) rfl rfl Tryz.underlying23 rfl jR) | ((with_reducible refine zG (N := 69) rfl ?_); refine zaV (g := g9) (cs := #[.bool x1, .string x2, .int .i64 x3]) _ ⟨BK BK9⟩ ?_ (by rfl) rfl rfl Tryz.underlying23 rfl jR) | ((with_reducible refine zG (N := 70) rfl ?_); refine zaV (g := g13) (cs := #[.bool x1, .string x2, .int .i64 x3]) _ ⟨BK BK13⟩ ?_ (by rfl) rfl rfl Tryz.underlying23 rfl jR))
    all_goals go_ret
    all_goals exact ⟨by first | rfl | simp, BL HB⟩
   have dh : (h4 != 0) = true := bne_iff_ne.2 hh4
   go_wp2_with (first | (go_at_call 19; refine (qL _ (Fig.Glob.below HG.out (BL HB))).mono ?_; rintro e9 w' ⟨rfl, hb⟩; replace HRR := K_ (HRR.out.below hb); replace HB := zE HB hb; replace BK5 := zC BK5 hb; replace BK7 := zC BK7 hb; replace BK9 := zC BK9 hb; replace BK11 := zC BK11 hb; replace BK13 := zC BK13 hb; clear hb))
   go_ret
   exact ⟨rfl, BL HB⟩
  have dl : (l4 != 0) = true := bne_iff_ne.2 hl4
  go_wp2_with (first | (go_at_call 19; refine (qL _ (Fig.Glob.below HG.out (BL HB))).mono ?_; rintro e9 w' ⟨rfl, hb⟩; replace HRR := K_ (HRR.out.below hb); replace HB := zE HB hb; replace BK5 := zC BK5 hb; replace BK7 := zC BK7 hb; replace BK9 := zC BK9 hb; replace BK11 := zC BK11 hb; replace BK13 := zC BK13 hb; clear hb))
  go_ret
  exact ⟨rfl, BL HB⟩
 have dx : (x4 != 0) = true := bne_iff_ne.2 hx4
 go_wp2_with (first | (go_at_call 19; refine (qL _ (Fig.Glob.below HG.out (BL HB))).mono ?_; rintro e9 w' ⟨rfl, hb⟩; replace HRR := K_ (HRR.out.below hb); replace HB := zE HB hb; replace BK5 := zC BK5 hb; replace BK7 := zC BK7 hb; replace BK9 := zC BK9 hb; replace BK11 := zC BK11 hb; replace BK13 := zC BK13 hb; clear hb))
 go_ret
 exact ⟨rfl, BL HB⟩
theorem zgf {b : Bool} {N : Nat} {X : Int} (h : (zhK b N X).2.2.2 = 0) : zhK b N X = (b, nD N, X, 0) := by
 unfold zhK at h ⊢
 split
 ·rfl
 rename_i hn; rw [if_neg hn] at h; exact absurd h (by decide)
theorem znR (q : Pat) (m : Int) (b : Bool) (n : Nat) (e : Int) : rN q m b n e = rN q 3 b n e ∨ rN q m b n e = rN q 2 b n e := by
 unfold rN rv0
 rcases zno m b (atE (vE n) (nE n (e + q.mult)) (min (nE n (e + q.mult)) (stP q.P (uR n (e + q.mult))).2)) (atE (stP q.P (uR n (e + q.mult))).1 (stP q.P (uR n (e + q.mult))).2 (min (nE n (e + q.mult)) (stP q.P (uR n (e + q.mult))).2)) with h | h
 ·left; rw [h]
 right; rw [h]
theorem zko (b : Bool) (s : ByteArray) (e m : Int) (q : Pat) (hq : zbp q) (hd : zfn (b, s, e)) (h0 : 0 ≤ m) (h6 : m ≤ 6) :
  ∃ x l h : Bool × ByteArray × Int × Int, zck q m b s e x ∧ zck q 3 b s e l ∧ zck q 2 b s e h ∧
   (x.2.2.2 = 0 → l.2.2.2 = 0 → h.2.2.2 = 0 → x.1 = b ∧ l.1 = b ∧ h.1 = b ∧ ((x.2.1 = l.2.1 ∧ x.2.2.1 = l.2.2.1) ∨ (x.2.1 = h.2.1 ∧ x.2.2.1 = h.2.2.1))) := by
 obtain ⟨d1, d2, d3⟩ := hd
 refine ⟨_, _, _, zdE hq h0 h6 b d1 d2 d3, zdE hq (by decide) (by decide) b d1 d2 d3, zdE hq (by decide) (by decide) b d1 d2 d3, fun e1 e2 e3 => ?_⟩
 rw [zgf e1, zgf e2, zgf e3]
 refine ⟨rfl, rfl, rfl, ?_⟩
 unfold rX
 rcases znR q m b (vB s) e with h | h
 ·left; rw [h]; exact ⟨rfl, rfl⟩
 right; rw [h]; exact ⟨rfl, rfl⟩
theorem ways_law (s : ByteArray) (hs : s.size ≤ 1048576) (m : Int) (b : Bool) (s2 : ByteArray) (e : Int) (hs2 : s2.size ≤ 140737488351232) (w : World) (hG : Fig.Glob w) :
  Calls Tryz.prog 6 #[.string s, .int .i64 m, .agg #[.bool b, .string s2, .int .i64 e]] w fun e w' => e = .returned (.bool true) ∧ Below w.heap.size w w' :=
 zks s hs m b s2 e hs2 w hG (fun q hq hd h0 h6 => zko b s2 e m q hq hd h0 h6)
end Go.Proofs.YtcmgdjnjmobkoaaGreatDoor.Px
section
namespace Go.Proofs.YtcmgdjnjmobkoaaGreatDoorW.PrintWords
open Go.ChangeShapes Go.WideShapes
end Go.Proofs.YtcmgdjnjmobkoaaGreatDoorW.PrintWords
end
section
namespace Fig
open Go Go.ChangeShapes
theorem zlM {α : Type} {l : List α} {i n : Nat} (hl : l.length = n) (hi : i < n) : ∃ v, (l.drop i).take 1 = [v] ∧ l[i]? = some v := by
 refine ⟨l[i], ?_, List.getElem?_eq_getElem (by omega)⟩
 rw [List.drop_eq_getElem_cons (by omega)]; rfl
theorem zjK {P : Program} {W : World} {name : String} {d : DataW Unit} (h : funcsAt P W name d) {g : Nat} {t e : TypeId} {n : Nat} {fld : Field} {ps rs : Array TypeId} {va : Bool}
  (hg : P.globalNamed name = some g) (hty : (P.globals[g]?).map (·.type) = some t) (ht : P.underlying t = some (.array n e)) (he : P.underlying e = some (.struct #[fld])) (hft : P.underlying fld.type = some (.func ps rs va))
  (ce : P.cellsOf e = 1) (cf : P.cellsOf fld.type = 1) (ho : fld.offset = 0) (ct : P.cellsOf t = n) {ds : List (DataW (List UInt8))} (hd : d.funcsOut = .agg ds)
  {i : Nat} (hi : i < n) {b : UInt8} {r : List UInt8} (hdi : ds[i]? = some (.agg [.held (b :: r)])) {f0 : FuncId}
  (hone : ((List.range P.funcs.size).filter fun f => (P.funcs[f]?).any (·.name.toUTF8.data.toList == b :: r)) = [f0]) : W.cell? ⟨g, i, none⟩ = some (.func (.func f0) #[] #[]) := by
 obtain ⟨g', t', cs, fuel, p, hg', ht', hv, hr⟩ := h
 obtain rfl := Option.some.inj (hg.symm.trans hg')
 obtain rfl := Option.some.inj (hty.symm.trans ht')
 obtain ⟨xs, m, _, ex, hcl, hl, hel⟩ := DataW.trod_array ht hr
 rw [hd] at ex
 have e3 : xs.map (·.1) = ds := (DataW.agg.inj (Prod.mk.inj ex).1).symm
 obtain ⟨v, hv1, hv2⟩ := zlM (l := cs.toList) (n := n) (hcl.trans ct) hi
 have hE := hel i hi
 rw [ce, Nat.mul_one, hv1] at hE
 rw [← e3, List.getElem?_map] at hdi
 cases hx : xs[i]? with
 | none => rw [hx] at hdi; cases hdi
 | some x =>
  rw [hx] at hE hdi
  simp only [Option.map_some, Option.some.injEq] at hdi
  obtain ⟨y0, k, rfl, _, hy⟩ := trod_struct1 he hE
  rw [cf, ho, List.drop_zero] at hy
  have hy0 : y0.1 = .held (b :: r) := by simpa using hdi
  obtain ⟨y1, y2⟩ := y0
  subst hy0
  obtain rfl := func_of_trod hft hone (show DataW.trod _ P W 0 _ true k fld.type [v] = _ from hy)
  rw [World.var?_cell hg hv i]
  simpa using hv2
theorem zeG (g : Nat) : ∀ (l : List Value) (i : Nat) (w : World), ((l.zipIdx i).foldl (fun w x => w.setCell ⟨g, x.2, none⟩ x.1) w).os = w.os
 | [], _, _ => rfl
 | _ :: l, i, w => by rw [List.zipIdx_cons, List.foldl_cons, zeG g l (i + 1)]; rfl
end Fig
end
section
namespace Fig
open Go Go.Proofs Go.Proofs.YtcmgdjnjmobkoaaGreatDoor
set_option maxRecDepth 100000
def zhD : List (String × DataW Unit) := [("unicode/utf8.acceptRanges", Rows.laid_unicode_utf8_acceptRanges), ("figurehead/ten.powers", Rows.laid_figurehead_ten_powers), ("unicode/utf8.first", Rows.laid_unicode_utf8_first)]
def zev : List (String × DataW Unit) := [("figurehead/mode.ways", Rows.laid_figurehead_mode_ways), ("unicode/utf8.acceptRanges", Rows.laid_unicode_utf8_acceptRanges), ("figurehead/ten.powers", Rows.laid_figurehead_ten_powers), ("unicode/utf8.first", Rows.laid_unicode_utf8_first)]
def zlU : List Value := [.func (.func 173) #[] #[], .func (.func 174) #[] #[], .func (.func 175) #[] #[], .func (.func 176) #[] #[], .func (.func 177) #[] #[], .func (.func 178) #[] #[], .func (.func 179) #[] #[], .func (.func 180) #[] #[]]
noncomputable def startW (os : Os) : World := (zlU.zipIdx 0).foldl (fun w x => w.setCell ⟨1, x.2, none⟩ x.1) (World.laidAll Tryz.prog os zhD)
theorem startW_os (os : Os) : (startW os).os = os := (zeG _ _ _ _).trans (World.laidAll_os _ _ _)
theorem met (os : Os) (args : Array Value) : laidMetH Tryz.prog zev ((startW os).forCall (fun _ _ => 0) ⟨#[], args, []⟩).memory :=
 laidMetH_of_parts3 (fuel := 8) (laidMet_of_run' 8 (by kernel_rfl) (by kernel_rfl)) (by kernel_rfl) (by kernel_rfl)
theorem zil : (zev.filter fun x => x.2.handleName?.isNone) = zhD := by kernel_rfl
theorem zlL {W : World} (h : laidMetH Tryz.prog zev W) : laidMet Tryz.prog zhD W := zil ▸ (laidMetH_iff.1 h).1
theorem zmE {W : World} (h : laidMetH Tryz.prog zev W) : ∀ i f, ([173, 174, 175, 176, 177, 178, 179, 180] : List Nat)[i]? = some f → W.cell? ⟨1, i, none⟩ = some (.func (.func f) #[] #[]) := by
 have hF := h.funcs (n := "figurehead/mode.ways") (List.mem_cons_self)
 have gN : Tryz.prog.globalNamed "figurehead/mode.ways" = some 1 := by kernel_rfl
 have gT : (Tryz.prog.globals[1]?).map (·.type) = some 130 := by kernel_rfl
 have c1 : Tryz.prog.cellsOf 129 = 1 := by kernel_rfl
 have c2 : Tryz.prog.cellsOf 127 = 1 := by kernel_rfl
 have c3 : Tryz.prog.cellsOf 130 = 8 := by kernel_rfl
 intro i f hf
 have key : ∀ {b : UInt8} {r : List UInt8} {j : Nat} {f0 : FuncId}, j < 8 → _ → _ → W.cell? ⟨1, j, none⟩ = some (.func (.func f0) #[] #[]) := fun {b} {r} {j} {f0} hj hdi hone => zjK (b := b) (r := r) hF gN gT Tryz.underlying130 Tryz.underlying129 Tryz.underlying127 c1 c2 rfl c3 rfl hj hdi hone
 match i, hf with
 | 0, hf => obtain rfl := Option.some.inj hf; exact key (b := 102) (r := [105, 103, 117, 114, 101, 104, 101, 97, 100, 47, 109, 111, 100, 101, 46, 119, 97, 121, 115, 36, 49]) (by decide) rfl (by kernel_rfl)
 | 1, hf => obtain rfl := Option.some.inj hf; exact key (b := 102) (r := [105, 103, 117, 114, 101, 104, 101, 97, 100, 47, 109, 111, 100, 101, 46, 119, 97, 121, 115, 36, 50]) (by decide) rfl (by kernel_rfl)
 | 2, hf => obtain rfl := Option.some.inj hf; exact key (b := 102) (r := [105, 103, 117, 114, 101, 104, 101, 97, 100, 47, 109, 111, 100, 101, 46, 119, 97, 121, 115, 36, 51]) (by decide) rfl (by kernel_rfl)
 | 3, hf => obtain rfl := Option.some.inj hf; exact key (b := 102) (r := [105, 103, 117, 114, 101, 104, 101, 97, 100, 47, 109, 111, 100, 101, 46, 119, 97, 121, 115, 36, 52]) (by decide) rfl (by kernel_rfl)
 | 4, hf => obtain rfl := Option.some.inj hf; exact key (b := 102) (r := [105, 103, 117, 114, 101, 104, 101, 97, 100, 47, 109, 111, 100, 101, 46, 119, 97, 121, 115, 36, 53]) (by decide) rfl (by kernel_rfl)
 | 5, hf => obtain rfl := Option.some.inj hf; exact key (b := 102) (r := [105, 103, 117, 114, 101, 104, 101, 97, 100, 47, 109, 111, 100, 101, 46, 119, 97, 121, 115, 36, 54]) (by decide) rfl (by kernel_rfl)
 | 6, hf => obtain rfl := Option.some.inj hf; exact key (b := 102) (r := [105, 103, 117, 114, 101, 104, 101, 97, 100, 47, 109, 111, 100, 101, 46, 119, 97, 121, 115, 36, 55]) (by decide) rfl (by kernel_rfl)
 | 7, hf => obtain rfl := Option.some.inj hf; exact key (b := 102) (r := [105, 103, 117, 114, 101, 104, 101, 97, 100, 47, 109, 111, 100, 101, 46, 119, 97, 121, 115, 36, 56]) (by decide) rfl (by kernel_rfl)
 | k + 8, hf => simp at hf
theorem zmL {W : World} (h : laidMetH Tryz.prog zev W) : ∀ i, i < 9 → W.cell? ⟨0, i, none⟩ = some (.int .u32 (([1, 10, 100, 1000, 10000, 100000, 1000000, 10000000, 100000000] : List Int).getD i 0)) := by
 have gN : Tryz.prog.globalNamed "figurehead/ten.powers" = some 0 := by kernel_rfl
 have gT : (Tryz.prog.globals[0]?).map (·.type) = some 124 := by kernel_rfl
 have hT := Lib.tabIs_of_head (k := .u32) (zs := [1, 10, 100, 1000, 10000, 100000, 1000000, 10000000, 100000000]) gN gT Tryz.underlying124 Tryz.underlying95 (by kernel_rfl) (by kernel_rfl) (laidMet.tail (zlL h))
 exact fun i hi => hT.cell gN i hi
theorem of_laid {W : World} (h : laidMetH Tryz.prog zev W) : Glob W := ⟨zmE h, zmL h⟩
end Fig
end
section
namespace Fig
open Go Go.ChangeShapes Go.WideShapes Go.RowKit Go.Deep Go.WideElems Go.Joins
theorem open_dec {H : Type} {enc : TypeId × Value → H} {P : Program} {w : World} {base : Nat} {spare : Nat → Bool} {held : Bool} {r : Reach} {b0 : Nat} {t : TypeId} {f0 f1 f2 : Field} {v : Value} {d : DataW H} {p : List MemPlace} {k : IntKind} (hs : P.underlying t = some (.struct #[f0, f1, f2])) (hone : oneCellFields P #[f0, f1, f2] = true) (hC : P.cellsOf t = 3)
  (u0 : P.underlying f0.type = some .bool) (u1 : P.underlying f1.type = some .string) (u2 : P.underlying f2.type = some (.int k)) (hv : Value.okWide P w r b0 t v) (h : DataW.Trod enc P w base spare held t v d p) :
  ∃ (x : Bool) (s : ByteArray) (n : Int), v = .agg #[.bool x, .string s, .int k n] ∧ d = .agg [.lit (.bool x), .lit (.string s.data.toList), .lit (.int k n)] ∧ p = [] ∧ s.size ≤ maxLen ∧ (Lit.int k n).wf = true := by
 obtain ⟨v0, v1, v2, y0, y1, y2, n, rfl, rfl, rfl, h0, h1, h2⟩ := open_agg3 hs hone hC hv h
 obtain ⟨x, e0, rfl⟩ := DataW.trod_bool u0 h0
 obtain ⟨s, e1, rfl, hl⟩ := DataW.trod_string u1 h1
 obtain ⟨m, e2, rfl, hw⟩ := DataW.trod_int u2 h2
 simp only [List.cons.injEq, and_true] at e0 e1 e2
 subst e0 e1 e2
 exact ⟨x, s, m, rfl, rfl, rfl, hl, hw⟩
theorem shut_dec {H : Type} {enc : TypeId × Value → H} {P : Program} {w : World} {base : Nat} {spare : Nat → Bool} {held : Bool} {t : TypeId} {f0 f1 f2 : Field} {k : IntKind} {x : Bool} {s : ByteArray} {n : Int} (hs : P.underlying t = some (.struct #[f0, f1, f2])) (hone : oneCellFields P #[f0, f1, f2] = true) (hC : P.cellsOf t = 3)
  (u0 : P.underlying f0.type = some .bool) (u1 : P.underlying f1.type = some .string) (u2 : P.underlying f2.type = some (.int k)) (hl : s.size ≤ maxLen) (hw : (Lit.int k n).wf = true) :
  DataW.Trod enc P w base spare held t (.agg #[.bool x, .string s, .int k n]) (.agg [.lit (.bool x), .lit (.string s.data.toList), .lit (.int k n)]) [] :=
 shut_agg3 (y0 := (.lit (.bool x), [])) (y1 := (.lit (.string s.data.toList), [])) (y2 := (.lit (.int k n), [])) hs hone hC ⟨1, by simp [DataW.trod, u0]⟩ ⟨1, by simp [DataW.trod, u1, hl]⟩ ⟨1, by simp [DataW.trod, u2, hw]⟩
theorem sized_dec {H : Type} {P : Program} {ts : List TypeId} {ds : List (DataW H)} (h : (DataW.weightsEach P ts ds).all (· ≤ reachBytes) = true) {j : Nat} {t : TypeId} {f0 f1 f2 : Field} {x y : DataW H} {bytes : List UInt8} (ht : ts[j]? = some t) (hd : ds[j]? = some (.agg [x, .lit (.string bytes), y])) (hs : P.underlying t = some (.struct #[f0, f1, f2])) : bytes.length ≤ reachBytes := by
 have := List.all_eq_true.1 h _ (DataW.weights_mem_each ht hd bytes.length (by simp [DataW.weights, DataW.weightsEach, hs]))
 simpa using this
end Fig
end
