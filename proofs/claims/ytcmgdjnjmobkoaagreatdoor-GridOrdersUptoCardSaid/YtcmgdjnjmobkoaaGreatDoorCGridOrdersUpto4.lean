/- The functions that the law GridOrdersUpto reaches, told as plain functions, with what is proved of them, and the words they need (part 4). -/
import Derived.Test.YtcmgdjnjmobkoaaGreatDoorCGridOrdersUpto0
import Derived.Test.YtcmgdjnjmobkoaaGreatDoorCGridOrdersUpto1
import Derived.Test.YtcmgdjnjmobkoaaGreatDoorCGridOrdersUpto3
import Derived.Test.YtcmgdjnjmobkoaaGreatDoorCGridOrdersUpto2
set_option linter.unusedVariables false
set_option linter.unusedSimpArgs false
namespace Go.Proofs.YtcmgdjnjmobkoaaGreatDoor.Px
set_option linter.all false
open Fig Go.RowKit Go.Proofs.YtcmgdjnjmobkoaaGreatDoorW.PrintWords Go.Proofs.YtcmgdjnjmobkoaaGreatDoorW.PrintLast Go.Proofs.YtcmgdjnjmobkoaaGreatDoorW.PrintMore
attribute [local go_sem] vK vO uE uD yZ yY vM vN
set_option maxHeartbeats 16000000 in
set_option maxRecDepth 100000 in
theorem zbT (A : Option Addr) (c : Nat) (l : List S73) (b0 : Int) (fst : Bool) (w : World) (hr : Kd.C k73 w A l.length l) (hc : l.length ≤ c) (hl : l.length ≤ 1000) :
  Calls Tryz.prog 57 #[.slice A l.length c, .int .i64 b0, .bool fst] w (zlW l w) := by
 have HR := K_ hr
 have HL := K_ hl
 have HCC := K_ hc
 have HB := K_ (Below.refl w.heap.size w)
 clear hr hc
 go_enter Tryz.func57, Tryz.ntmps57
 go_upto_region 1 with (first
  | ((with_reducible refine zF (N := 6) rfl ?_); refine be_ 6 Z76 76 ?_; intro g6 hg w2 hbox hb; have BK6 := K_ hbox; have GE6 := ge_ hg HB; replace HB := zE HB hb; clear hb hbox hg)
  | ((with_reducible refine zF (N := 7) rfl ?_); refine be_ 7 Z51 51 ?_; intro g7 hg w4 hbox hb; have BK7 := K_ hbox; have GE7 := ge_ hg HB; have NB := nb_ hg BK6; replace BK6 := zC BK6 hb; replace HB := zE HB hb; clear hb hbox hg))
 go_wp2_with (fail)
 go_loopw [8] (fun v wr => ∃ k : Nat, k ≤ l.length ∧ v = .int .i64 k ∧ qB (fun x => !vH x) l k = uW l ∧ wr.heap[g6]? = some (.cells Z76 76 (0, 0)) ∧ wr.heap[g7]? = some (.cells Z51 51 (0, 0)) ∧ Below w.heap.size w wr) (fun v _ => l.length - (intOf v).toNat)
 case atStart => exact ⟨0, by omega, rfl, rfl, BK BK6, BK BK7, BL HB⟩
 case round =>
  obtain ⟨k, hk, rfl, hrun, hb6, hb7, hbw⟩ := hrel
  have HRun := K_ hrun
  replace BK6 := K_ hb6
  replace BK7 := K_ hb7
  replace HB := K_ hbw
  clear hrun hb6 hb7 hbw
  have hcl := HCC.out
  by_cases hlt : k < l.length
  ·have dlt : decide ((k : Int) < (l.length : Int)) = true := decide_eq_true (by omega)
   obtain ⟨x, hx⟩ : ∃ x, x = l[k] := ⟨_, rfl⟩
   obtain ⟨ad, ea, h0, h1, h2, h3⟩ := zas (Kd.C_below HR.out HB.out) (k : Int) (by omega) (by omega)
   rw [zcA hlt, ← hx] at h0 h1 h2 h3
   simp only [Int.toNat_natCast] at h0 h1 h2 h3
   have HX := K_ hx
   have HA := K_ ea
   clear hx
   subst ea
   cases hb : vH x
   ·have HC : ∀ W, Aside0 (Calls Tryz.prog 87 #[.agg #[.int .i32 x.f0.f0, .bool x.f0.f1, .int .i64 x.f0.f2, .bool x.f1]] W fun e w' => e = .returned (.bool false) ∧ Below W.heap.size W w') := fun W => ⟨by have h := zcZ x W; rw [hb] at h; exact h⟩
    have HR2 := K_ (show qB (fun x => !vH x) l (k + 1) = uW l by rw [← zgk hlt (by rw [← HX.out, hb]; rfl)]; exact HRun.out)
    clear hb
    go_wp2_with (go_at_call 87; refine ((HC _).out).mono ?_; rintro e w' ⟨rfl, hb⟩; replace HB := zE HB hb; replace BK6 := zC BK6 hb; replace BK7 := zC BK7 hb; clear hb)
    go_roundw
    case rel => exact ⟨k + 1, by omega, by go_num, HR2.out, BK BK6, BK BK7, BL HB⟩
    case measure => simp [intOf]; omega
   have HC : ∀ W, Aside0 (Calls Tryz.prog 87 #[.agg #[.int .i32 x.f0.f0, .bool x.f0.f1, .int .i64 x.f0.f2, .bool x.f1]] W fun e w' => e = .returned (.bool true) ∧ Below W.heap.size W w') := fun W => ⟨by have h := zcZ x W; rw [hb] at h; exact h⟩
   have HBEG := K_ (show uW l = k by rw [← HRun.out]; exact zeE hlt (by rw [← HX.out, hb]; rfl))
   have HKL := K_ hlt
   have dne : ((k : Int) == (l.length : Int)) = false := beq_eq_false_iff_ne.2 (by omega)
   clear hb
   go_upto_region 6 with (go_at_call 87; refine ((HC _).out).mono ?_; rintro e w' ⟨rfl, hb⟩; replace HB := zE HB hb; replace BK6 := zC BK6 hb; replace BK7 := zC BK7 hb; clear hb)
   go_wp2_with (fail)
   go_loopw [9] (fun v wr => ∃ j : Nat, k ≤ j ∧ j ≤ l.length ∧ v = .int .i64 j ∧ qB vH l j = qB vH l (k) ∧ wr.heap[g6]? = some (.cells Z76 76 (0, 0)) ∧ wr.heap[g7]? = some (.cells Z51 51 (0, 0)) ∧ Below w.heap.size w wr) (fun v _ => l.length - (intOf v).toNat)
   case atStart => exact ⟨k, Nat.le_refl _, by omega, rfl, rfl, BK BK6, BK BK7, BL HB⟩
   case round =>
    obtain ⟨j, hj0, hj, rfl, hrun, hb6, hb7, hbw⟩ := hrel
    have HRun := K_ hrun
    replace BK6 := K_ hb6
    replace BK7 := K_ hb7
    replace HB := K_ hbw
    clear hrun hb6 hb7 hbw
    go_upto_region 7 with (fail)
    go_cut [55] from 45 to 55 (fun c wx => c = .bool (zav l j) ∧ wx.heap[g6]? = some (.cells Z76 76 (0, 0)) ∧ wx.heap[g7]? = some (.cells Z51 51 (0, 0)) ∧ Below w.heap.size w wx)
    case first =>
     have hcl := HCC.out
     by_cases hlt : j < l.length
     ·have dlt : decide (((j : Nat) : Int) < (l.length : Int)) = true := decide_eq_true (by omega)
      obtain ⟨x, hx⟩ : ∃ x, x = l[j] := ⟨_, rfl⟩
      obtain ⟨ad2, ea, h0, h1, h2, h3⟩ := zas (Kd.C_below HR.out HB.out) ((j : Nat) : Int) (by omega) (by omega)
      rw [zcA hlt, ← hx] at h0 h1 h2 h3
      simp only [Int.toNat_natCast] at h0 h1 h2 h3
      have HX := K_ hx
      obtain rfl := Option.some.inj ea
      clear hx ea
      have HV := K_ (show zav l j = vH x by rw [HX.out]; exact zdc hlt)
      cases hb : vH x
      all_goals
       rw [hb] at HV
       have HC : ∀ W, Aside0 (Calls Tryz.prog 87 #[.agg #[.int .i32 x.f0.f0, .bool x.f0.f1, .int .i64 x.f0.f2, .bool x.f1]] W fun e w' => e = .returned (.bool _) ∧ Below W.heap.size W w') := fun W => ⟨by have h := zcZ x W; rw [hb] at h; exact h⟩
       clear hb
       go_wp2_with (go_at_call 87; refine ((HC _).out).mono ?_; rintro e w' ⟨rfl, hb⟩; replace HB := zE HB hb; replace BK6 := zC BK6 hb; replace BK7 := zC BK7 hb; clear hb)
       go_meet
       case rel => exact ⟨by rw [HV.out], BK BK6, BK BK7, BL HB⟩
     have dlt : decide (((j : Nat) : Int) < (l.length : Int)) = false := decide_eq_false (by omega)
     have HV := K_ (show zav l j = false from zdE (by omega))
     go_wp2
     go_meet
     case rel => exact ⟨by rw [HV.out], BK BK6, BK BK7, BL HB⟩
    case rest =>
     obtain ⟨rfl, hb6, hb7, hbw⟩ := hcut
     replace BK6 := K_ hb6
     replace BK7 := K_ hb7
     replace HB := K_ hbw
     clear hb6 hb7 hbw
     cases hb : zav l j
     ·have HE0 := K_ (show qB vH l k = j by rw [← HRun.out]; exact zkR hb)
      clear hb
      have HEND := K_ (show uR l = zeD l j by unfold uR; rw [HBEG.out, HE0.out])
      go_upto_region 9 with (fail)
      go_cut [68] from 58 to 68 (fun c wx => c = .bool (atS l j 69) ∧ wx.heap[g6]? = some (.cells Z76 76 (0, 0)) ∧ wx.heap[g7]? = some (.cells Z51 51 (0, 0)) ∧ Below w.heap.size w wx)
      case first =>
       have hcl := HCC.out
       by_cases hlt : j < l.length
       ·have dlt : decide (((j : Nat) : Int) < (l.length : Int)) = true := decide_eq_true (by omega)
        obtain ⟨x, hx⟩ : ∃ x, x = l[j] := ⟨_, rfl⟩
        obtain ⟨ad2, ea, h0, h1, h2, h3⟩ := zas (Kd.C_below HR.out HB.out) ((j : Nat) : Int) (by omega) (by omega)
        rw [zcA hlt, ← hx] at h0 h1 h2 h3
        simp only [Int.toNat_natCast] at h0 h1 h2 h3
        have HX := K_ hx
        obtain rfl := Option.some.inj ea
        clear hx ea
        have HV := K_ (show atS l j 69 = zal x 69 by rw [HX.out]; exact zfR hlt 69)
        cases hb : zal x 69
        all_goals
         rw [hb] at HV
         have HC : ∀ W, Aside0 (Calls Tryz.prog 56 #[.agg #[.int .i32 x.f0.f0, .bool x.f0.f1, .int .i64 x.f0.f2, .bool x.f1], .int .i32 69] W fun e w' => e = .returned (.bool _) ∧ Below W.heap.size W w') := fun W => ⟨by have h := zbu x 69 W; rw [hb] at h; exact h⟩
         clear hb
         go_wp2_with (go_at_call 56; refine ((HC _).out).mono ?_; rintro e w' ⟨rfl, hb⟩; replace HB := zE HB hb; replace BK6 := zC BK6 hb; replace BK7 := zC BK7 hb; clear hb)
         go_meet
         case rel => exact ⟨by rw [HV.out], BK BK6, BK BK7, BL HB⟩
       have dlt : decide (((j : Nat) : Int) < (l.length : Int)) = false := decide_eq_false (by omega)
       have HV := K_ (show atS l j 69 = false from zdA (by omega) 69)
       go_wp2
       go_meet
       case rel => exact ⟨by rw [HV.out], BK BK6, BK BK7, BL HB⟩
      case rest =>
       obtain ⟨rfl, hb6, hb7, hbw⟩ := hcut
       replace BK6 := K_ hb6
       replace BK7 := K_ hb7
       replace HB := K_ hbw
       clear hb6 hb7 hbw
       go_upto_if 68 with (fail)
       go_cut [9] from 58 to 96 (fun v wx => v = .int .i64 ((uR l : Nat) : Int) ∧ wx.heap[g6]? = some (.cells Z76 76 (0, 0)) ∧ wx.heap[g7]? = some (.cells Z51 51 (0, 0)) ∧ Below w.heap.size w wx)
       case first =>
        have hll := HL.out
        cases h69 : atS l j 69
        ·have HEND2 := K_ (show uR l = j by rw [HEND.out]; unfold zeD; rw [if_neg (by rw [h69]; decide)])
         clear h69
         go_wp2
         go_meet
         case rel => exact ⟨by rw [HEND2.out], BK BK6, BK BK7, BL HB⟩
        have hj1 := zlr h69
        have HEND2 := K_ (show uR l = qB vH l (if atS l (j + 1) 43 = true then j + 2 else j + 1) by rw [HEND.out]; unfold zeD; rw [if_pos h69])
        have hwj : IntKind.i64.wrap ((j : Int) + 1) = (j : Int) + 1 := by rw [IntKind.wrap_i64]; omega
        clear h69
        go_upto_region 11 with (fail)
        obtain ⟨j1, hj2⟩ : ∃ j1 : Nat, j1 = j + 1 := ⟨_, rfl⟩
        have hc1 : ((j : Int) + 1) = ((j1 : Nat) : Int) := by omega
        have hj3 : j1 ≤ l.length := by omega
        have HEND3 := K_ (show uR l = qB vH l (if atS l j1 43 = true then j1 + 1 else j1) by rw [HEND2.out, hj2])
        rw [hc1]
        clear hc1 hwj hj2 HEND2
        go_cut [81] from 71 to 81 (fun c wx => c = .bool (atS l j1 43) ∧ wx.heap[g6]? = some (.cells Z76 76 (0, 0)) ∧ wx.heap[g7]? = some (.cells Z51 51 (0, 0)) ∧ Below w.heap.size w wx)
        case first =>
         have hcl := HCC.out
         by_cases hlt : j1 < l.length
         ·have dlt : decide (((j1 : Nat) : Int) < (l.length : Int)) = true := decide_eq_true (by omega)
          obtain ⟨x, hx⟩ : ∃ x, x = l[j1] := ⟨_, rfl⟩
          obtain ⟨ad2, ea, h0, h1, h2, h3⟩ := zas (Kd.C_below HR.out HB.out) ((j1 : Nat) : Int) (by omega) (by omega)
          rw [zcA hlt, ← hx] at h0 h1 h2 h3
          simp only [Int.toNat_natCast] at h0 h1 h2 h3
          have HX := K_ hx
          obtain rfl := Option.some.inj ea
          clear hx ea
          have HV := K_ (show atS l j1 43 = zal x 43 by rw [HX.out]; exact zfR hlt 43)
          cases hb : zal x 43
          all_goals
           rw [hb] at HV
           have HC : ∀ W, Aside0 (Calls Tryz.prog 56 #[.agg #[.int .i32 x.f0.f0, .bool x.f0.f1, .int .i64 x.f0.f2, .bool x.f1], .int .i32 43] W fun e w' => e = .returned (.bool _) ∧ Below W.heap.size W w') := fun W => ⟨by have h := zbu x 43 W; rw [hb] at h; exact h⟩
           clear hb
           go_wp2_with (go_at_call 56; refine ((HC _).out).mono ?_; rintro e w' ⟨rfl, hb⟩; replace HB := zE HB hb; replace BK6 := zC BK6 hb; replace BK7 := zC BK7 hb; clear hb)
           go_meet
           case rel => exact ⟨by rw [HV.out], BK BK6, BK BK7, BL HB⟩
         have dlt : decide (((j1 : Nat) : Int) < (l.length : Int)) = false := decide_eq_false (by omega)
         have HV := K_ (show atS l j1 43 = false from zdA (by omega) 43)
         go_wp2
         go_meet
         case rel => exact ⟨by rw [HV.out], BK BK6, BK BK7, BL HB⟩
        case rest =>
         obtain ⟨rfl, hb6, hb7, hbw⟩ := hcut
         replace BK6 := K_ hb6
         replace BK7 := K_ hb7
         replace HB := K_ hbw
         clear hb6 hb7 hbw
         go_upto_if 81 with (fail)
         go_cut [9] from 71 to 83 (fun v wx => v = .int .i64 (((if atS l j1 43 = true then j1 + 1 else j1) : Nat) : Int) ∧ wx.heap[g6]? = some (.cells Z76 76 (0, 0)) ∧ wx.heap[g7]? = some (.cells Z51 51 (0, 0)) ∧ Below w.heap.size w wx)
         case first =>
          cases h43 : atS l j1 43
          ·go_wp2
           go_meet
           case rel => exact ⟨by rw [h43]; rfl, BK BK6, BK BK7, BL HB⟩
          have hwj : IntKind.i64.wrap ((j1 : Int) + 1) = (j1 : Int) + 1 := by rw [IntKind.wrap_i64]; omega
          go_wp2
          go_meet
          case rel => exact ⟨by rw [h43]; rfl, BK BK6, BK BK7, BL HB⟩
         case rest =>
          obtain ⟨rfl, hb6, hb7, hbw⟩ := hcut
          replace BK6 := K_ hb6
          replace BK7 := K_ hb7
          replace HB := K_ hbw
          clear hb6 hb7 hbw
          obtain ⟨e1, he1⟩ : ∃ e1 : Nat, e1 = if atS l j1 43 = true then j1 + 1 else j1 := ⟨_, rfl⟩
          have hel : e1 ≤ l.length := by
           rw [he1]; split
           ·rename_i h; have := zlr h; omega
           exact hj3
          have HEND4 := K_ (show uR l = qB vH l e1 by rw [HEND3.out, he1])
          rw [← he1]
          clear he1 HEND3
          go_wp2_with (fail)
          go_loopw [9] (fun v wr => ∃ j : Nat, e1 ≤ j ∧ j ≤ l.length ∧ v = .int .i64 j ∧ qB vH l j = qB vH l (e1) ∧ wr.heap[g6]? = some (.cells Z76 76 (0, 0)) ∧ wr.heap[g7]? = some (.cells Z51 51 (0, 0)) ∧ Below w.heap.size w wr) (fun v _ => l.length - (intOf v).toNat)
          case atStart => exact ⟨e1, Nat.le_refl _, by omega, rfl, rfl, BK BK6, BK BK7, BL HB⟩
          case round =>
           obtain ⟨j, hj0, hj, rfl, hrun, hb6, hb7, hbw⟩ := hrel
           have HRun := K_ hrun
           replace BK6 := K_ hb6
           replace BK7 := K_ hb7
           replace HB := K_ hbw
           clear hrun hb6 hb7 hbw
           go_upto_region 13 with (fail)
           go_cut [94] from 84 to 94 (fun c wx => c = .bool (zav l j) ∧ wx.heap[g6]? = some (.cells Z76 76 (0, 0)) ∧ wx.heap[g7]? = some (.cells Z51 51 (0, 0)) ∧ Below w.heap.size w wx)
           case first =>
            have hcl := HCC.out
            by_cases hlt : j < l.length
            ·have dlt : decide (((j : Nat) : Int) < (l.length : Int)) = true := decide_eq_true (by omega)
             obtain ⟨x, hx⟩ : ∃ x, x = l[j] := ⟨_, rfl⟩
             obtain ⟨ad2, ea, h0, h1, h2, h3⟩ := zas (Kd.C_below HR.out HB.out) ((j : Nat) : Int) (by omega) (by omega)
             rw [zcA hlt, ← hx] at h0 h1 h2 h3
             simp only [Int.toNat_natCast] at h0 h1 h2 h3
             have HX := K_ hx
             obtain rfl := Option.some.inj ea
             clear hx ea
             have HV := K_ (show zav l j = vH x by rw [HX.out]; exact zdc hlt)
             cases hb : vH x
             all_goals
              rw [hb] at HV
              have HC : ∀ W, Aside0 (Calls Tryz.prog 87 #[.agg #[.int .i32 x.f0.f0, .bool x.f0.f1, .int .i64 x.f0.f2, .bool x.f1]] W fun e w' => e = .returned (.bool _) ∧ Below W.heap.size W w') := fun W => ⟨by have h := zcZ x W; rw [hb] at h; exact h⟩
              clear hb
              go_wp2_with (go_at_call 87; refine ((HC _).out).mono ?_; rintro e w' ⟨rfl, hb⟩; replace HB := zE HB hb; replace BK6 := zC BK6 hb; replace BK7 := zC BK7 hb; clear hb)
              go_meet
              case rel => exact ⟨by rw [HV.out], BK BK6, BK BK7, BL HB⟩
            have dlt : decide (((j : Nat) : Int) < (l.length : Int)) = false := decide_eq_false (by omega)
            have HV := K_ (show zav l j = false from zdE (by omega))
            go_wp2
            go_meet
            case rel => exact ⟨by rw [HV.out], BK BK6, BK BK7, BL HB⟩
           case rest =>
            obtain ⟨rfl, hb6, hb7, hbw⟩ := hcut
            replace BK6 := K_ hb6
            replace BK7 := K_ hb7
            replace HB := K_ hbw
            clear hb6 hb7 hbw
            cases hb : zav l j
            ·have HE9 := K_ (show uR l = j by rw [HEND4.out, ← HRun.out]; exact zkR hb)
             clear hb
             go_wp2
             go_meet
             case rel => exact ⟨by rw [HE9.out], BK BK6, BK BK7, BL HB⟩
            have hjl := zeo hb
            have HR2 := K_ (show qB vH l (j + 1) = qB vH l e1 by rw [← zjt hb]; exact HRun.out)
            clear hb
            go_wp2
            go_roundw
            case rel => exact ⟨j + 1, by omega, by omega, by go_num, HR2.out, BK BK6, BK BK7, BL HB⟩
            case measure => simp [intOf]; omega
       case rest =>
        obtain ⟨rfl, hb6, hb7, hbw⟩ := hcut
        replace BK6 := K_ hb6
        replace BK7 := K_ hb7
        replace HB := K_ hbw
        clear hb6 hb7 hbw
        clear HEND HE0 HC HRun hk hj0 hj
        obtain ⟨e, hen⟩ : ∃ e, e = uR l := ⟨_, rfl⟩
        have HEN := K_ hen
        rw [← hen]
        clear hen
        go_upto_region 16 with (first
         | ((with_reducible refine zF (N := 10) rfl ?_); refine be_ 10 Z76 76 ?_; intro g10 hg w10 hbox hb; have BK10 := K_ hbox; have GE10 := ge_ hg HB; have N6 := nb_ hg BK6; have N7 := nb_ hg BK7; replace BK6 := zC BK6 hb; replace BK7 := zC BK7 hb; replace HB := zE HB hb; clear hb hbox hg)
         | ((with_reducible refine zW (p := 10) rfl ?_); refine so_ (g := g10) (cs := Z76) Z76 ⟨BK BK10⟩ ?_ rfl rfl rfl rfl rfl zbA rfl rfl; intro w9 hbk hfar hbel; replace BK6 := K_ (hfar g6 _ N6.out (BK BK6)); replace BK7 := K_ (hfar g7 _ N7.out (BK BK7)); replace BK10 := K_ hbk; replace HB := K_ (hbel _ _ GE10.out (BL HB)); clear hbk hfar hbel))
        go_wp2_with (fail)
        go_loopw [11, 12] (fun p i wr => ∃ (k pads : Nat) (at_ pad : Int), k ≤ l.length ∧ pads ≤ k ∧ i = .int .i64 k ∧ p = .int .i64 pads ∧ wr.heap[g10]? = some (.cells (uS (.slice none 0 0) (.slice none 0 0) jL at_ pad 0) 76 (0, 0)) ∧ wr.heap[g6]? = some (.cells Z76 76 (0, 0)) ∧ wr.heap[g7]? = some (.cells Z51 51 (0, 0)) ∧ Below w.heap.size w wr) (fun _ i _ => l.length - (intOf i).toNat)
        case atStart => exact ⟨0, 0, 0, 0, by omega, by omega, rfl, rfl, BK BK10, BK BK6, BK BK7, BL HB⟩
        case round =>
         obtain ⟨i, pads, at_, pad, hi, hpd, rfl, rfl, hb10, hb6, hb7, hbw⟩ := hrel
         replace BK10 := K_ hb10
         replace BK6 := K_ hb6
         replace BK7 := K_ hb7
         replace HB := K_ hbw
         clear hb10 hb6 hb7 hbw
         have hcl := HCC.out
         have hll := HL.out
         by_cases hlt : i < l.length
         ·have dlt : decide (((i : Nat) : Int) < (l.length : Int)) = true := decide_eq_true (by omega)
          obtain ⟨x, hx⟩ : ∃ x, x = l[i] := ⟨_, rfl⟩
          obtain ⟨ad2, ea, h0, h1, h2, h3⟩ := zas (Kd.C_below HR.out HB.out) ((i : Nat) : Int) (by omega) (by omega)
          rw [zcA hlt, ← hx] at h0 h1 h2 h3
          simp only [Int.toNat_natCast] at h0 h1 h2 h3
          have HX := K_ hx
          obtain rfl := Option.some.inj ea
          clear hx ea
          cases hp : x.f1
          ·rw [hp] at h3
           clear hp
           go_wp2
           go_roundw
           case rel => exact ⟨i + 1, pads, at_, pad, by omega, by omega, by go_num, rfl, BK BK10, BK BK6, BK BK7, BL HB⟩
           case measure => simp [intOf]; omega
          have HPAD := K_ (show (∀ x ∈ l, x.f1 = false) → False by
           intro h; have := h l[i] (List.getElem_mem hlt); rw [← HX.out, hp] at this; cases this)
          rw [hp] at h3
          clear hp
          have HXO := K_ ((zas HR.out ((i : Nat) : Int) (by omega) (by omega)).choose_spec.2.1)
          go_upto_block 8 with (fail)
          go_cut [13] from 110 to 127 (fun v wx => (∃ a : Int, v = .int .i64 a) ∧ wx.heap[g10]? = some (.cells (uS (.slice none 0 0) (.slice none 0 0) jL at_ pad 0) 76 (0, 0)) ∧ wx.heap[g6]? = some (.cells Z76 76 (0, 0)) ∧ wx.heap[g7]? = some (.cells Z51 51 (0, 0)) ∧ Below w.heap.size w wx)
          case first =>
           have hwk : IntKind.i64.wrap ((k : Int) - 1) = (k : Int) - 1 := by rw [IntKind.wrap_i64]; omega
           have hwl : IntKind.i64.wrap ((l.length : Int) - 1) = (l.length : Int) - 1 := by rw [IntKind.wrap_i64]; omega
           by_cases q1 : ((i : Nat) : Int) = 0
           ·have e1 : (((i : Nat) : Int) == 0) = true := beq_iff_eq.2 q1
            clear q1
            go_wp2
            go_meet
            case rel => exact ⟨⟨_, rfl⟩, BK BK10, BK BK6, BK BK7, BL HB⟩
           have e1 : (((i : Nat) : Int) == 0) = false := beq_eq_false_iff_ne.2 q1
           by_cases q2 : ((i : Nat) : Int) = (k : Int) - 1
           ·have e2 : (((i : Nat) : Int) == (k : Int) - 1) = true := beq_iff_eq.2 q2
            clear q1 q2
            go_wp2
            go_meet
            case rel => exact ⟨⟨_, rfl⟩, BK BK10, BK BK6, BK BK7, BL HB⟩
           have e2 : (((i : Nat) : Int) == (k : Int) - 1) = false := beq_eq_false_iff_ne.2 q2
           by_cases q3 : ((i : Nat) : Int) = (e : Int)
           ·have e3 : (((i : Nat) : Int) == (e : Int)) = true := beq_iff_eq.2 q3
            clear q1 q2 q3
            go_wp2
            go_meet
            case rel => exact ⟨⟨_, rfl⟩, BK BK10, BK BK6, BK BK7, BL HB⟩
           have e3 : (((i : Nat) : Int) == (e : Int)) = false := beq_eq_false_iff_ne.2 q3
           by_cases q4 : ((i : Nat) : Int) = (l.length : Int) - 1
           ·have e4 : (((i : Nat) : Int) == (l.length : Int) - 1) = true := beq_iff_eq.2 q4
            clear q1 q2 q3 q4
            go_wp2
            go_meet
            case rel => exact ⟨⟨_, rfl⟩, BK BK10, BK BK6, BK BK7, BL HB⟩
           have e4 : (((i : Nat) : Int) == (l.length : Int) - 1) = false := beq_eq_false_iff_ne.2 q4
           clear q1 q2 q3 q4
           go_wp2
           go_meet
           case rel => exact ⟨⟨_, rfl⟩, BK BK10, BK BK6, BK BK7, BL HB⟩
          case rest =>
           obtain ⟨⟨a, rfl⟩, hb10, hb6, hb7, hbw⟩ := hcut
           replace BK10 := K_ hb10
           replace BK6 := K_ hb6
           replace BK7 := K_ hb7
           replace HB := K_ hbw
           clear hb10 hb6 hb7 hbw h0 h1 h2 h3
           have hwp : IntKind.i64.wrap ((pads : Int) + 1) = (pads : Int) + 1 := by rw [IntKind.wrap_i64]; omega
           go_upto_region 31 with (fail)
           go_cut [139] from 130 to 139 (fun v wx => (∃ t : Bool, v = .bool t) ∧ wx.heap[g10]? = some (.cells (uS (.slice none 0 0) (.slice none 0 0) jL at_ pad 0) 76 (0, 0)) ∧ wx.heap[g6]? = some (.cells Z76 76 (0, 0)) ∧ wx.heap[g7]? = some (.cells Z51 51 (0, 0)) ∧ Below w.heap.size w wx)
           case first =>
            by_cases q1 : a = 0
            ·have e1 : (a == 0) = true := beq_iff_eq.2 q1
             clear q1
             go_wp2
             go_meet
             case rel => exact ⟨⟨_, rfl⟩, BK BK10, BK BK6, BK BK7, BL HB⟩
            have e1 : (a == 0) = false := beq_eq_false_iff_ne.2 q1
            by_cases q2 : (pads : Int) + 1 > 1
            ·have e2 : decide ((pads : Int) + 1 > 1) = true := decide_eq_true q2
             go_wp2
             go_meet
             case rel => exact ⟨⟨_, rfl⟩, BK BK10, BK BK6, BK BK7, BL HB⟩
            have e2 : decide ((pads : Int) + 1 > 1) = false := decide_eq_false q2
            go_wp2
            go_meet
            case rel => exact ⟨⟨_, rfl⟩, BK BK10, BK BK6, BK BK7, BL HB⟩
           case rest =>
            obtain ⟨⟨t, rfl⟩, hb10, hb6, hb7, hbw⟩ := hcut
            replace BK10 := K_ hb10
            replace BK6 := K_ hb6
            replace BK7 := K_ hb7
            replace HB := K_ hbw
            clear hb10 hb6 hb7 hbw
            obtain ⟨ad2, ea, h0, h1, h2, h3⟩ := zas (Kd.C_below HR.out HB.out) ((i : Nat) : Int) (by omega) (by omega)
            rw [zcA hlt, ← HX.out] at h0 h1 h2 h3
            simp only [Int.toNat_natCast] at h0 h1 h2 h3
            obtain rfl := Option.some.inj ea
            clear ea
            have hbw : (ad.add (i * 4)).block < w.heap.size := by
             obtain ⟨ad3, ea3, h03, _⟩ := zas HR.out ((i : Nat) : Int) (by omega) (by omega)
             obtain rfl := Option.some.inj ea3
             simp only [Int.toNat_natCast] at h03
             exact World.block_lt_of_cell? _ _ h03
            cases t
            ·have hbn : (ad.add (i * 4)).block ≠ g10 := Nat.ne_of_lt (Nat.lt_of_lt_of_le hbw GE10.out)
             have hcell2 : ∀ j v, (wc.setCell ⟨g10, j, none⟩ v).cell? (ad.add (i * 4)) = some (.int .i32 x.f0.f0) := fun j v => (uB hbn v).trans h0
             have hi0 : (0 : Int) ≤ (i : Int) := by omega
             have hi1 : (i : Int) < (l.length : Int) := by omega
             have hi2 : i + 1 ≤ l.length := hlt
             clear hbw
             obtain ⟨⟨cz0, cz1, cz2, cz3, cz4, cz5, cz6, cz7, cz8, cz9, cz10, cz11, cz12, cz13, cz14, cz15, cz16, cz17, cz18, cz19, cz20, cz21, cz22, cz23, cz24⟩, fz0, fz1, fz2, fz3, fz4, fz5, fz6, fz7, fz8, fz9, fz10, fz11, fz12, fz13, fz14, fz15, fz16, fz17, fz18, fz19, fz20, fz21, fz22, fz23, fz24⟩ := zpw BK10
             go_upto_region 33 with (fail)
             go_region
             all_goals
              go_wp2_with (fail)
              go_roundw
              case rel => exact ⟨i + 1, pads + 1, a, x.f0.f0, by omega, by omega, by go_num, by go_num, BP BK10, (by (repeat (first | (with_reducible exact Aside0.out BK6) | (with_reducible refine jC ?_ _) | (with_reducible refine zX ?_) | (with_reducible refine jB ?_ _) | refine zR ?_ (Aside0.out N6) _))), (by (repeat (first | (with_reducible exact Aside0.out BK7) | (with_reducible refine jC ?_ _) | (with_reducible refine zX ?_) | (with_reducible refine jB ?_ _) | refine zR ?_ (Aside0.out N7) _))), BL HB⟩
              case measure => simp [intOf]; omega
            have hi0 : (0 : Int) ≤ (i : Int) := by omega
            have hi1 : (i : Int) < (l.length : Int) := by omega
            have HE := K_ (show (∀ x ∈ l, x.f1 = false) → (∃ P, xW l P) → (7 : Int) = 0 from fun h _ => (HPAD.out h).elim)
            have hb6 : (ad.add (i * 4)).block ≠ g6 := Nat.ne_of_lt (Nat.lt_of_lt_of_le hbw GE6.out)
            have hb7 : (ad.add (i * 4)).block ≠ g7 := Nat.ne_of_lt (Nat.lt_of_lt_of_le hbw GE7.out)
            go_upto_region 32 with (fail)
            refine vQ (n := 10) (S := fun w' => w'.cell? ⟨(ad.add (i * 4)).block, (ad.add (i * 4)).off + 2, none⟩ = some (.int .i64 x.f0.f2)) (ds := []) #[false, false, false, false, false, false, false, false, false, false] (by kernel_rfl) rfl rfl h2 (fun hHeld => ?_)
            obtain ⟨W, hW⟩ : ∃ W, W = World.drew wc := ⟨_, rfl⟩
            rw [← hW] at hHeld ⊢
            replace BK6 := K_ (show W.heap[g6]? = some (.cells Z76 76 (0, 0)) by rw [hW]; exact BK BK6)
            replace BK7 := K_ (show W.heap[g7]? = some (.cells Z51 51 (0, 0)) by rw [hW]; exact BK BK7)
            replace HB := K_ (show Below w.heap.size w W by rw [hW]; exact BL HB)
            clear hW h0 h1 h2 h3
            refine pw_ 0 140 (bb 10 1) ?_
            refine pw_ 1 141 (bb 10 3) ?_
            refine pw_ 2 142 (bb 10 7) ?_
            refine pw_ 3 143 (bb 10 15) ?_
            refine pw_ 4 144 (bb 10 31) ?_
            refine pw_ 5 145 (bb 10 63) ?_
            refine tw_ 6 146 (bb 10 127) hHeld ?_
            refine pw_ 7 147 (bb 10 255) ?_
            refine on_ 8 none (bb 10 511) (fun K hK => ?_)
            refine uC (g := g6) (cs := Z76) Z76 BK6 ?_ rfl rfl rfl rfl rfl zbA rfl rfl
            intro w8 hbk hfar hbel
            have hHeld2 := zaq hfar (p := ⟨(ad.add (i * 4)).block, (ad.add (i * 4)).off + 2, none⟩) hb6 hHeld
            replace BK7 := K_ (hfar g7 _ (Ne.symm NB.out) BK7.out)
            replace BK6 := K_ hbk
            replace HB := K_ (hbel _ _ GE6.out HB.out)
            refine hK.out _ _ hHeld2 (fun _ => ?_)
            clear hK K hbk hfar hbel
            refine on_ 9 none (bb 10 1023) (fun K hK => ?_)
            refine uC (g := g7) (cs := Z51) #[.int .i64 7, .int .i64 x.f0.f2] BK7 ?_ rfl rfl rfl rfl rfl uT rfl rfl
            intro w9 hbk hfar hbel
            have hHeld3 := zaq hfar (p := ⟨(ad.add (i * 4)).block, (ad.add (i * 4)).off + 2, none⟩) hb7 hHeld2
            replace BK6 := K_ (hfar g6 _ NB.out BK6.out)
            replace BK7 := K_ hbk
            replace HB := K_ (hbel _ _ GE7.out HB.out)
            refine hK.out _ _ hHeld3 (fun _ => ?_)
            clear hK K hbk hfar hbel
            refine vS (by kernel_rfl) ?_
            go_wp2_with (fail)
            (
             refine bodyPost_ret (qR rfl _ _ g6 g7 76 51 Z76 #[.int .i64 7, .int .i64 x.f0.f2] (0, 0) (0, 0) _ _ rfl BK6.out Tryz.underlying76 rfl zbA rfl BK7.out Tryz.underlying51 rfl uT) rfl ?_
             exact ⟨_, _, [], [], jL, 0, 0, 0, 7, x.f0.f2, rfl, Kd.R_nil _ _ _ _ _, Kd.R_nil _ _ _ _ _, BL HB, fun h => absurd h (by decide), HE.out⟩)
         obtain rfl : i = l.length := by omega
         have dlt : decide (((l.length : Nat) : Int) < (l.length : Int)) = false := decide_eq_false (by omega)
         go_upto_region 34 with (fail)
         have hke : k ≤ e := by have := znZ l; rw [HBEG.out, ← HEN.out] at this; exact this
         have HKE := K_ hke
         have hle : e ≤ l.length := by rw [HEN.out]; exact znw l
         have HLE := K_ hle
         clear hke hle dlt
         go_wp2_with (fail)
         go_loopw [14, 15, 16, 17] (fun v14 v15 s i wr => ∃ j : Nat, j ≤ l.length ∧ i = .int .i64 j ∧ s = .string (zaP l k e j) ∧ Kd.R k71 71 wr w.heap.size (fun _ => True) v14 (uG l k j) ∧ Kd.R k71 71 wr w.heap.size (fun q => some q ≠ v14.ownBlock) v15 (uF l e j) ∧ (j ≤ e → v15 = .slice none 0 0) ∧ wr.heap[g10]? = some (.cells (uS (.slice none 0 0) (.slice none 0 0) jL at_ pad 0) 76 (0, 0)) ∧ wr.heap[g6]? = some (.cells Z76 76 (0, 0)) ∧ wr.heap[g7]? = some (.cells Z51 51 (0, 0)) ∧ Below w.heap.size w wr) (fun _ _ _ i _ => l.length - (intOf i).toNat)
         case atStart => exact ⟨0, by omega, rfl, by rw [zlw], by rw [zlI]; exact Kd.R_nil _ _ _ _ _, by rw [zio (Nat.zero_le _)]; exact Kd.R_nil _ _ _ _ _, fun _ => rfl, BK BK10, BK BK6, BK BK7, BL HB⟩
         case round =>
          obtain ⟨j, hj, rfl, rfl, hz14, hz15, hnil, hb10, hb6, hb7, hbw⟩ := hrel
          replace BK10 := K_ hb10
          replace BK6 := K_ hb6
          replace BK7 := K_ hb7
          replace HB := K_ hbw
          have HZ1 := K_ hz14
          have HZ2 := K_ hz15
          have HNIL := K_ hnil
          clear hz14 hz15 hnil hb10 hb6 hb7 hbw
          have hcl := HCC.out
          have hll := HL.out
          by_cases hlt : j < l.length
          ·have dlt : decide (((j : Nat) : Int) < (l.length : Int)) = true := decide_eq_true (by omega)
           obtain ⟨x, hx⟩ : ∃ x, x = l[j] := ⟨_, rfl⟩
           obtain ⟨ad2, ea, h0, h1, h2, h3⟩ := zas (Kd.C_below HR.out HB.out) ((j : Nat) : Int) (by omega) (by omega)
           rw [zcA hlt, ← hx] at h0 h1 h2 h3
           simp only [Int.toNat_natCast] at h0 h1 h2 h3
           have HX := K_ hx
           obtain rfl := Option.some.inj ea
           clear hx ea
           have HP1 := K_ (zoi (n := k) hlt)
           have HS1 := K_ (znr (e := e) hlt)
           have HT1 := K_ (zod (n := k) (e := e) hlt)
           rw [← HX.out] at HP1 HS1 HT1
           cases hp : x.f1
           ·rw [hp] at h3
            by_cases q1 : j < k
            ·obtain rfl := HNIL.out (Nat.le_of_lt (Nat.lt_of_lt_of_le q1 HKE.out))
             have d1 : decide (((j : Nat) : Int) < (k : Int)) = true := decide_eq_true (by omega)
             replace HP1 := K_ (show uG l k (j + 1) = uG l k j ++ [x.f0] by rw [HP1.out, if_pos ⟨q1, hp⟩])
             replace HS1 := K_ (show uF l e (j + 1) = [] from zio (Nat.le_trans q1 HKE.out))
             replace HT1 := K_ (show zaP l k e (j + 1) = zaP l k e j by rw [HT1.out, if_neg (by omega)])
             have HN6 := K_ (Kd.R_ne HZ1.out BK6.out (by decide))
             have HN7 := K_ (Kd.R_ne HZ1.out BK7.out (by decide))
             have HN10 := K_ (Kd.R_ne HZ1.out BK10.out (by decide))
             have HLN := K_ (show ((uG l k j).length + 1) * 16 ≤ 140737488355328 by have := zeO l k j; omega)
             have HQ := K_ (show j + 1 ≤ e from Nat.le_trans q1 HKE.out)
             obtain ⟨A1, c1, rfl⟩ := Kd.R_slice HZ1.out
             clear hp
             go_wp2_with (((with_reducible refine jE (b := .append) (xs := #[.tmp 171, .tmp 177]) rfl ?_); at_builtin; (refine Kd.R_append k71 (w0 := w) w.heap.size rfl (.tmp 171) (.tmp 177) 66 71 (.agg #[(.int .i32 0), (.bool false), (.int .i64 0)]) 16 rfl Tryz.underlying66 zfN rfl (by decide) (by omega) (.slice A1 (uG l k j).length c1) (uG l k j) x.f0 [.int .i32 x.f0.f0, .bool x.f0.f1, .int .i64 x.f0.f2] (fun _ => True) (fun _ => False) rfl (by first | (go_simp; done) | (go_simp; rfl)) (zdz _ _ _ x.f0) (fun _ hk => hk.elim) (fun _ _ => trivial) ?aO ?aB ?aS ?aL ?_; (case aO => exact RB HZ1.out); (case aB => exact BL HB); (case aS => exact zP (BL HB)); (case aL => exact HLN.out); intro v1 w5 ho2 hb2 hg2 hat2; rw [← HP1.out] at ho2; have HO3 := K_ ho2; have BK6a := K_ (yW (BK BK6) hg2 HN6.out); have BK7a := K_ (yW (BK BK7) hg2 HN7.out); have BK10a := K_ (yW (BK BK10) hg2 HN10.out); replace HB := K_ hb2; clear ho2 hb2 hg2 hat2)))
             go_roundw
             case rel => exact ⟨j + 1, by omega, by go_num, by rw [HT1.out], RB HO3.out, by rw [HS1.out]; exact Kd.R_nil _ _ _ _ _, fun _ => rfl, BK BK10a, BK BK6a, BK BK7a, BL HB⟩
             case measure => simp [intOf]; omega
            have d1 : decide (((j : Nat) : Int) < (k : Int)) = false := decide_eq_false (by omega)
            replace HP1 := K_ (show uG l k (j + 1) = uG l k j by rw [HP1.out, if_neg (by omega)])
            by_cases q2 : j < e
            ·have d2 : decide (((j : Nat) : Int) < (e : Int)) = true := decide_eq_true (by omega)
             obtain ⟨_, hr0, hr1⟩ := ziz (x := x) (by rw [HX.out]; exact ziF l j (by rw [HBEG.out]; omega) (by rw [← HEN.out]; exact q2) hlt)
             have HBY := K_ (zey hr0 hr1)
             replace HS1 := K_ (show uF l e (j + 1) = uF l e j by rw [HS1.out, if_neg (by omega)])
             replace HT1 := K_ (show zaP l k e (j + 1) = zaP l k e j ++ strOfNums [x.f0.f0] by rw [HT1.out, if_pos ⟨by omega, q2⟩]; rfl)
             have HNI := K_ (HNIL.out (Nat.le_of_lt q2))
             have hts := zjF l k e j
             have hfb : ¬ 9223372036854775807 < (zaP l k e j).size + (strOfNums [x.f0.f0]).size := by
              have : (strOfNums [x.f0.f0]).size = 1 := rfl
              omega
             clear hp hr0 hr1
             go_wp2_with (go_at_call 88; refine (yX.calls x.f0.f0 [x.f0.f0] _ HBY.out).mono ?_; rintro e9 w' ⟨v0, rfl, ho0, hb⟩; obtain ⟨A9, c9, rfl⟩ : ∃ A9 c9, v0 = .slice A9 1 c9 := Kd.R_slice ho0; have hcv := Kd.C_string (c := c9) Tryz.underlying107 Tryz.underlying5 Tryz.underlying9 (show (Kd.int .u8).C w' A9 1 [x.f0.f0] from (Kd.R_reads' ho0).2.2); replace HZ1 := K_ (Kd.R_below (RB HZ1.out) hb); replace HZ2 := K_ (Kd.R_below (RB HZ2.out) hb); replace HB := zE HB hb; replace BK6 := zC BK6 hb; replace BK7 := zC BK7 hb; replace BK10 := zC BK10 hb; clear hb ho0)
             go_roundw
             case rel => exact ⟨j + 1, by omega, by go_num, by rw [HT1.out], by rw [HP1.out]; exact RB HZ1.out, by rw [HS1.out]; exact RB HZ2.out, fun _ => HNI.out, BK BK10, BK BK6, BK BK7, BL HB⟩
             case measure => simp [intOf]; omega
            have d2 : decide (((j : Nat) : Int) < (e : Int)) = false := decide_eq_false (by omega)
            replace HS1 := K_ (show uF l e (j + 1) = uF l e j ++ [x.f0] by rw [HS1.out, if_pos ⟨by omega, hp⟩])
            replace HT1 := K_ (show zaP l k e (j + 1) = zaP l k e j by rw [HT1.out, if_neg (by omega)])
            have HN6 := K_ (Kd.R_ne HZ2.out BK6.out (by decide))
            have HN7 := K_ (Kd.R_ne HZ2.out BK7.out (by decide))
            have HN10 := K_ (Kd.R_ne HZ2.out BK10.out (by decide))
            have HLN := K_ (show ((uF l e j).length + 1) * 16 ≤ 140737488355328 by have := zeI l e j; omega)
            obtain ⟨A1, c1, rfl⟩ := Kd.R_slice HZ1.out
            obtain ⟨A2, c2, rfl⟩ := Kd.R_slice HZ2.out
            clear hp
            go_wp2_with (((with_reducible refine jE (b := .append) (xs := #[.tmp 192, .tmp 198]) rfl ?_); at_builtin; (refine Kd.R_append k71 (w0 := w) w.heap.size rfl (.tmp 192) (.tmp 198) 66 71 (.agg #[(.int .i32 0), (.bool false), (.int .i64 0)]) 16 rfl Tryz.underlying66 zfN rfl (by decide) (by omega) (.slice A2 (uF l e j).length c2) (uF l e j) x.f0 [.int .i32 x.f0.f0, .bool x.f0.f1, .int .i64 x.f0.f2] (fun q => some q ≠ (Value.slice A1 (uG l k j).length c1).ownBlock) (fun _ => False) rfl (by first | (go_simp; done) | (go_simp; rfl)) (zdz _ _ _ x.f0) (fun _ hk => hk.elim) ?aF ?aO ?aB ?aS ?aL ?_; (case aF => exact fun q hq he => absurd hq (Nat.not_le.2 (Kd.R_lt (RB HZ1.out) q he.symm))); (case aO => exact RB HZ2.out); (case aB => exact BL HB); (case aS => exact zP (BL HB)); (case aL => exact HLN.out); intro v1 w5 ho2 hb2 hg2 hat2; rw [← HS1.out] at ho2; have HO3 := K_ ho2; replace HZ1 := K_ (Kd.R_mono (ok' := fun _ => True) (Kd.R_grown (Kd.R_tight rfl (RB HZ1.out)) hg2 (fun q hq => Kd.R_away HZ2.out (fun q2 hq2 he => hq2 (by rw [he]; exact hq)))) (fun _ _ => trivial)); have BK6a := K_ (yW (BK BK6) hg2 HN6.out); have BK7a := K_ (yW (BK BK7) hg2 HN7.out); have BK10a := K_ (yW (BK BK10) hg2 HN10.out); replace HB := K_ hb2; clear ho2 hb2 hg2 hat2)))
            go_roundw
            case rel => exact ⟨j + 1, by omega, by go_num, by rw [HT1.out], by rw [HP1.out]; exact RB HZ1.out, RB HO3.out, fun h => absurd h (by omega), BK BK10a, BK BK6a, BK BK7a, BL HB⟩
            case measure => simp [intOf]; omega
           have hnt : ¬ (k ≤ j ∧ j < e) := fun h => by
            have := (ziz (x := x) (by rw [HX.out]; exact ziF l j (by rw [HBEG.out]; exact h.1) (by rw [← HEN.out]; exact h.2) hlt)).1
            rw [hp] at this; cases this
           replace HP1 := K_ (show uG l k (j + 1) = uG l k j by rw [HP1.out, if_neg (by rw [hp]; simp)])
           replace HS1 := K_ (show uF l e (j + 1) = uF l e j by rw [HS1.out, if_neg (by rw [hp]; simp)])
           replace HT1 := K_ (show zaP l k e (j + 1) = zaP l k e j by rw [HT1.out, if_neg hnt])
           rw [hp] at h3
           clear hp hnt
           go_wp2
           go_roundw
           case rel => exact ⟨j + 1, by omega, by go_num, by rw [HT1.out], by rw [HP1.out]; exact RB HZ1.out, by rw [HS1.out]; exact RB HZ2.out, fun h => HNIL.out (by omega), BK BK10, BK BK6, BK BK7, BL HB⟩
           case measure => simp [intOf]; omega
          obtain rfl : j = l.length := by omega
          have dlt : decide (((l.length : Nat) : Int) < (l.length : Int)) = false := decide_eq_false (by omega)
          go_upto_region 45 with (fail)
          obtain ⟨pr, hpr⟩ : ∃ pr, pr = uG l k l.length := ⟨_, rfl⟩
          obtain ⟨sf, hsf⟩ : ∃ sf, sf = uF l e l.length := ⟨_, rfl⟩
          obtain ⟨tx, htx⟩ : ∃ tx, tx = zaP l k e l.length := ⟨_, rfl⟩
          have hpl := zeO l k l.length
          have hsl := zeI l e l.length
          have htl := zjF l k e l.length
          rw [← hpr] at HZ1 hpl
          rw [← hsf] at HZ2 hsl
          rw [← htx] at htl ⊢
          have HPR := K_ hpr
          have HSF := K_ hsf
          have HTX := K_ htx
          have HPL := K_ (show pr.length ≤ 100000 by omega)
          have HSL := K_ (show sf.length ≤ 100000 by omega)
          have HTL := K_ (show tx.size ≤ 1048576 by omega)
          obtain ⟨A1, c1, rfl⟩ := Kd.R_slice HZ1.out
          obtain ⟨A2, c2, rfl⟩ := Kd.R_slice HZ2.out
          clear hpr hsf htx hpl hsl htl dlt hj hlt
          go_upto_region 46 with (first
           | (go_at_call 89; refine (zfW A1 c1 pr _ (Kd.R_reads' (RB HZ1.out)).2.2 (Kd.R_reads' HZ1.out).2.1 HPL.out).mono ?_; rintro e9 w' ⟨v1, xs, E1, a1, rfl, ho1, hb, hpost⟩; have HO1 := K_ (Kd.R_lower ho1 (zP (BL HB))); have HPO := K_ hpost; replace HZ2 := K_ (Kd.R_below (RB HZ2.out) hb); replace HB := zE HB hb; replace BK6 := zC BK6 hb; replace BK7 := zC BK7 hb; replace BK10 := zC BK10 hb; clear hb ho1 hpost)
           | ((with_reducible refine zF (N := 19) rfl ?_); refine be_ 19 Z51 51 ?_; intro g19 hg w10 hbox hb; have BK19 := K_ hbox; have GE19 := ge_ hg HB; have N6L := nb_ hg BK6; have N7L := nb_ hg BK7; have N10L := nb_ hg BK10; replace HO1 := K_ (Kd.R_below (RB HO1.out) hb); replace HZ2 := K_ (Kd.R_below (RB HZ2.out) hb); replace HB := zE HB hb; replace BK6 := zC BK6 hb; replace BK7 := zC BK7 hb; replace BK10 := zC BK10 hb; clear hb hbox hg)
           | ((with_reducible refine zW (p := 19) rfl ?_); refine so_ (g := g19) (cs := Z51) #[.int .i64 E1, .int .i64 a1] ⟨BK BK19⟩ ?_ rfl rfl rfl rfl rfl uT rfl rfl; intro w9 hbk hfar hbel; replace HO1 := K_ (uA (RB HO1.out) (BK BK19) (by decide) hfar); replace HZ2 := K_ (uA (RB HZ2.out) (BK BK19) (by decide) hfar); replace BK6 := K_ (hfar g6 _ N6L.out (BK BK6)); replace BK7 := K_ (hfar g7 _ N7L.out (BK BK7)); replace BK10 := K_ (hfar g10 _ N10L.out (BK BK10)); replace BK19 := K_ hbk; replace HB := K_ (hbel _ _ GE19.out (BL HB)); clear hbk hfar hbel))
          obtain ⟨⟨q0, q1⟩, q2, q3⟩ := ce2 BK19
          rcases HPO.out with ⟨hE, ha, hok, hxs⟩ | ⟨hE, hno⟩
          ·obtain rfl := hE
           obtain rfl := ha
           have HOK1 := K_ hok
           have HXS := K_ hxs
           clear hok hxs
           go_upto_region 49 with (first
            | (go_at_call 90; refine (ziK tx HTL.out _).mono ?_; rintro e9 w' ⟨PN, E2, rfl, hb, hpost⟩; have HNU := K_ hpost; replace HO1 := K_ (Kd.R_below (RB HO1.out) hb); replace HZ2 := K_ (Kd.R_below (RB HZ2.out) hb); replace HB := zE HB hb; replace BK6 := zC BK6 hb; replace BK7 := zC BK7 hb; replace BK10 := zC BK10 hb; replace BK19 := zC BK19 hb; clear hb hpost)
            | ((with_reducible refine zF (N := 20) rfl ?_); refine be_ 20 Z26 26 ?_; intro g20 hg w10 hbox hb; have BK20 := K_ hbox; have GE20 := ge_ hg HB; have N6M := nb_ hg BK6; have N7M := nb_ hg BK7; have N10M := nb_ hg BK10; have N19M := nb_ hg BK19; replace HO1 := K_ (Kd.R_below (RB HO1.out) hb); replace HZ2 := K_ (Kd.R_below (RB HZ2.out) hb); replace HB := zE HB hb; replace BK6 := zC BK6 hb; replace BK7 := zC BK7 hb; replace BK10 := zC BK10 hb; replace BK19 := zC BK19 hb; clear hb hbox hg)
            | ((with_reducible refine zW (p := 20) rfl ?_); refine so_ (g := g20) (cs := Z26) PN.cs ⟨BK BK20⟩ ?_ rfl rfl rfl rfl rfl yO rfl rfl; intro w9 hbk hfar hbel; replace HO1 := K_ (uA (RB HO1.out) (BK BK20) (by decide) hfar); replace HZ2 := K_ (uA (RB HZ2.out) (BK BK20) (by decide) hfar); replace BK6 := K_ (hfar g6 _ N6M.out (BK BK6)); replace BK7 := K_ (hfar g7 _ N7M.out (BK BK7)); replace BK10 := K_ (hfar g10 _ N10M.out (BK BK10)); replace BK19 := K_ (hfar g19 _ N19M.out (BK BK19)); replace BK20 := K_ hbk; replace HB := K_ (hbel _ _ GE20.out (BL HB)); clear hbk hfar hbel))
           rcases HNU.out with ⟨hE, hnum⟩ | ⟨hE, hno⟩
           ·obtain rfl := hE
            have HNUM := K_ hnum
            clear hnum q0 q1 q2 q3
            go_upto_region 52 with (first
             | (go_at_call 89; refine (zfW A2 c2 sf _ (Kd.R_reads' (RB HZ2.out)).2.2 (Kd.R_reads' HZ2.out).2.1 HSL.out).mono ?_; rintro e9 w' ⟨v2, ys, E3, a3, rfl, ho2, hb, hpost⟩; have HO2 := K_ (Kd.R_lower ho2 (zP (BL HB))); have HPO2 := K_ hpost; replace HO1 := K_ (Kd.R_below (RB HO1.out) hb); replace HB := zE HB hb; replace BK6 := zC BK6 hb; replace BK7 := zC BK7 hb; replace BK10 := zC BK10 hb; replace BK19 := zC BK19 hb; replace BK20 := zC BK20 hb; clear hb ho2 hpost)
             | ((with_reducible refine zW (p := 19) rfl ?_); refine so_ (g := g19) (cs := Z51) #[.int .i64 E3, .int .i64 a3] ⟨BK BK19⟩ ?_ rfl rfl rfl rfl rfl uT rfl rfl; intro w9 hbk hfar hbel; replace HO1 := K_ (uA (RB HO1.out) (BK BK19) (by decide) hfar); replace HO2 := K_ (uA (RB HO2.out) (BK BK19) (by decide) hfar); replace BK6 := K_ (hfar g6 _ N6L.out (BK BK6)); replace BK7 := K_ (hfar g7 _ N7L.out (BK BK7)); replace BK10 := K_ (hfar g10 _ N10L.out (BK BK10)); replace BK20 := K_ (hfar g20 _ (Ne.symm N19M.out) (BK BK20)); replace BK19 := K_ hbk; replace HB := K_ (hbel _ _ GE19.out (BL HB)); clear hbk hfar hbel))
            obtain ⟨⟨q0, q1⟩, q2, q3⟩ := ce2 BK19
            rcases HPO2.out with ⟨hE, ha, hok, hxs⟩ | ⟨hE, hno⟩
            ·obtain rfl := hE
             obtain rfl := ha
             have HOK2 := K_ hok
             have HYS := K_ hxs
             clear hok hxs
             have HALL := K_ (show xW l PN from ⟨by rw [HBEG.out]; exact HKL.out, by rw [HBEG.out, ← HPR.out]; exact HOK1.out, by rw [HBEG.out, ← HEN.out, ← HTX.out]; exact HNUM.out, by rw [← HEN.out, ← HSF.out]; exact HOK2.out⟩)
             obtain ⟨B1, d1, rfl⟩ := Kd.R_slice HO1.out
             obtain ⟨B2, d2, rfl⟩ := Kd.R_slice HO2.out
             go_upto_region 54 with (fail)
             clear q0 q1 q2 q3
             refine vQ (n := 13) (S := fun w' => w'.heap[g20]? = some (.cells PN.cs 26 (0, 0))) (ds := []) #[false, false, false, false, false, false, false, false, false, false, false, false, false] (by kernel_rfl) rfl rfl (BK BK20) (fun _ => ?_)
             refine yC (fun W => W.heap[g20]? = some (.cells PN.cs 26 (0, 0)) ∧ Kd.R k80 80 W w.heap.size (fun _ => True) (.slice B1 xs.length d1) xs ∧ Kd.R k80 80 W w.heap.size (fun _ => True) (.slice B2 ys.length d2) ys ∧ W.heap[g6]? = some (.cells Z76 76 (0, 0)) ∧ W.heap[g7]? = some (.cells Z51 51 (0, 0)) ∧ W.heap[g10]? = some (.cells (uS (.slice none 0 0) (.slice none 0 0) jL at_ pad 0) 76 (0, 0)) ∧ Below w.heap.size w W) ⟨BK BK20, RB HO1.out, RB HO2.out, BK BK6, BK BK7, BK BK10, BL HB⟩ ?_
             clear HO1 HO2 BK6 BK7 BK10 HB
             rintro W ⟨hHeld, ho1, ho2, hb6, hb7, hb10, hbw⟩
             have HO1 := K_ ho1
             have HO2 := K_ ho2
             have BK6 := K_ hb6
             have BK7 := K_ hb7
             have BK10 := K_ hb10
             have HB := K_ hbw
             clear ho1 ho2 hb6 hb7 hb10 hbw
             refine pw_ 0 236 (bb 13 1) ?_
             refine pw_ 1 237 (bb 13 3) ?_
             refine pw_ 3 239 (bb 13 11) ?_
             refine pw_ 4 240 (bb 13 27) ?_
             refine pw_ 5 241 (bb 13 59) ?_
             refine tr_ 2 238 (bb 13 63) (PN.cs) (fun _ hs => ⟨hs⟩) Tryz.underlying26 yO hHeld ?_
             refine on_ 6 none (bb 13 127) (fun K hK => ?_)
             have hs : W.cell? ⟨g10, 0, none⟩ = some (.slice none 0 0) := (zD BK10.out 0).trans rfl
             have hf := zM BK10.out 0
             refine zbm (w1 := W.setCell ⟨g10, 0, none⟩ (.slice B1 xs.length d1)) (by rfl) rfl (by go_simp; try rfl) ?_
             refine hK.out _ _ (zR hHeld (Ne.symm N10M.out) _) (fun _ => ?_)
             clear hK K hs hf
             refine yC (fun W => W.heap[g20]? = some (.cells PN.cs 26 (0, 0)) ∧ Kd.R k80 80 W w.heap.size (fun _ => True) (.slice B1 xs.length d1) xs ∧ Kd.R k80 80 W w.heap.size (fun _ => True) (.slice B2 ys.length d2) ys ∧ W.heap[g6]? = some (.cells Z76 76 (0, 0)) ∧ W.heap[g7]? = some (.cells Z51 51 (0, 0)) ∧ W.heap[g10]? = some (.cells (uS (.slice B1 xs.length d1) (.slice none 0 0) jL at_ pad 0) 76 (0, 0)) ∧ Below w.heap.size w W) ⟨zR hHeld (Ne.symm N10M.out) _, Kd.R_set HO1.out BK10.out (by decide) _ _, Kd.R_set HO2.out BK10.out (by decide) _ _, zR BK6.out N6.out _, zR BK7.out N7.out _, xR BK10.out rfl, BL HB⟩ ?_
             clear HO1 HO2 BK6 BK7 BK10 HB
             rintro W ⟨hHeld, ho1, ho2, hb6, hb7, hb10, hbw⟩
             have HO1 := K_ ho1
             have HO2 := K_ ho2
             have BK6 := K_ hb6
             have BK7 := K_ hb7
             have BK10 := K_ hb10
             have HB := K_ hbw
             clear ho1 ho2 hb6 hb7 hb10 hbw
             refine pw_ 7 242 (bb 13 255) ?_
             refine on_ 8 none (bb 13 511) (fun K hK => ?_)
             have hs : W.cell? ⟨g10, 1, none⟩ = some (.slice none 0 0) := (zD BK10.out 1).trans rfl
             have hf := zM BK10.out 1
             refine zbm (w1 := W.setCell ⟨g10, 1, none⟩ (.slice B2 ys.length d2)) (by rfl) rfl (by go_simp; try rfl) ?_
             refine hK.out _ _ (zR hHeld (Ne.symm N10M.out) _) (fun _ => ?_)
             clear hK K hs hf
             refine yC (fun W => W.heap[g20]? = some (.cells PN.cs 26 (0, 0)) ∧ Kd.R k80 80 W w.heap.size (fun _ => True) (.slice B1 xs.length d1) xs ∧ Kd.R k80 80 W w.heap.size (fun _ => True) (.slice B2 ys.length d2) ys ∧ W.heap[g6]? = some (.cells Z76 76 (0, 0)) ∧ W.heap[g7]? = some (.cells Z51 51 (0, 0)) ∧ W.heap[g10]? = some (.cells (uS (.slice B1 xs.length d1) (.slice B2 ys.length d2) jL at_ pad 0) 76 (0, 0)) ∧ Below w.heap.size w W) ⟨zR hHeld (Ne.symm N10M.out) _, Kd.R_set HO1.out BK10.out (by decide) _ _, Kd.R_set HO2.out BK10.out (by decide) _ _, zR BK6.out N6.out _, zR BK7.out N7.out _, xR BK10.out rfl, BL HB⟩ ?_
             clear HO1 HO2 BK6 BK7 BK10 HB
             rintro W ⟨hHeld, ho1, ho2, hb6, hb7, hb10, hbw⟩
             have HO1 := K_ ho1
             have HO2 := K_ ho2
             have BK6 := K_ hb6
             have BK7 := K_ hb7
             have BK10 := K_ hb10
             have HB := K_ hbw
             clear ho1 ho2 hb6 hb7 hb10 hbw
             refine pw_ 9 243 (bb 13 1023) ?_
             refine on_ 10 none (bb 13 2047) (fun K hK => ?_)
             refine zoq (g := g10) (cs' := uS (.slice B1 xs.length d1) (.slice B2 ys.length d2) PN at_ pad 0) 2 PN.cs BK10 ?_ rfl rfl rfl rfl rfl yO (by show 22 ≤ 25; decide) rfl rfl
             intro w8 hbk hfar hbel
             refine hK.out _ _ (hfar g20 _ (Ne.symm N10M.out) hHeld) (fun _ => ?_)
             clear hK K
             refine yC (fun W => W.heap[g20]? = some (.cells PN.cs 26 (0, 0)) ∧ Kd.R k80 80 W w.heap.size (fun _ => True) (.slice B1 xs.length d1) xs ∧ Kd.R k80 80 W w.heap.size (fun _ => True) (.slice B2 ys.length d2) ys ∧ W.heap[g6]? = some (.cells Z76 76 (0, 0)) ∧ W.heap[g7]? = some (.cells Z51 51 (0, 0)) ∧ W.heap[g10]? = some (.cells (uS (.slice B1 xs.length d1) (.slice B2 ys.length d2) PN at_ pad 0) 76 (0, 0)) ∧ Below w.heap.size w W) ⟨hfar g20 _ (Ne.symm N10M.out) hHeld, uA HO1.out BK10.out (by decide) hfar, uA HO2.out BK10.out (by decide) hfar, hfar g6 _ N6.out BK6.out, hfar g7 _ N7.out BK7.out, hbk, hbel _ _ GE10.out HB.out⟩ ?_
             clear HO1 HO2 BK6 BK7 BK10 HB
             rintro W ⟨hHeld, ho1, ho2, hb6, hb7, hb10, hbw⟩
             have HO1 := K_ ho1
             have HO2 := K_ ho2
             have BK6 := K_ hb6
             have BK7 := K_ hb7
             have BK10 := K_ hb10
             have HB := K_ hbw
             clear ho1 ho2 hb6 hb7 hb10 hbw
             refine pw_ 11 244 (bb 13 4095) ?_
             refine on_ 12 none (bb 13 8191) (fun K hK => ?_)
             have hs : W.cell? ⟨g10, 24, none⟩ = some (.int .i64 0) := (zD BK10.out 24).trans rfl
             have hf := zM BK10.out 24
             refine zbm (w1 := W.setCell ⟨g10, 24, none⟩ (.int .i64 (tx.size : Int))) (by rfl) rfl (by go_simp; try rfl) ?_
             refine hK.out _ _ (zR hHeld (Ne.symm N10M.out) _) (fun _ => ?_)
             clear hK K hs hf
             refine yC (fun W => W.heap[g20]? = some (.cells PN.cs 26 (0, 0)) ∧ Kd.R k80 80 W w.heap.size (fun _ => True) (.slice B1 xs.length d1) xs ∧ Kd.R k80 80 W w.heap.size (fun _ => True) (.slice B2 ys.length d2) ys ∧ W.heap[g6]? = some (.cells Z76 76 (0, 0)) ∧ W.heap[g7]? = some (.cells Z51 51 (0, 0)) ∧ W.heap[g10]? = some (.cells (uS (.slice B1 xs.length d1) (.slice B2 ys.length d2) PN at_ pad (tx.size : Int)) 76 (0, 0)) ∧ Below w.heap.size w W) ⟨zR hHeld (Ne.symm N10M.out) _, Kd.R_set HO1.out BK10.out (by decide) _ _, Kd.R_set HO2.out BK10.out (by decide) _ _, zR BK6.out N6.out _, zR BK7.out N7.out _, xR BK10.out rfl, BL HB⟩ ?_
             clear HO1 HO2 BK6 BK7 BK10 HB
             rintro W ⟨hHeld, ho1, ho2, hb6, hb7, hb10, hbw⟩
             have HO1 := K_ ho1
             have HO2 := K_ ho2
             have BK6 := K_ hb6
             have BK7 := K_ hb7
             have BK10 := K_ hb10
             have HB := K_ hbw
             clear ho1 ho2 hb6 hb7 hb10 hbw
             refine vS (by kernel_rfl) ?_
             go_wp2_with (first
              | ((with_reducible refine zF (N := 245) rfl ?_); refine lo_ (g := g10) (cs := uS (.slice B1 xs.length d1) (.slice B2 ys.length d2) PN at_ pad (tx.size : Int)) _ ⟨BK BK10⟩ ?_ rfl rfl rfl Tryz.underlying76 rfl zbA)
              | ((with_reducible refine zW (p := 6) rfl ?_); refine so_ (g := g6) (cs := Z76) (uS (.slice B1 xs.length d1) (.slice B2 ys.length d2) PN at_ pad (tx.size : Int)) ⟨BK BK6⟩ ?_ rfl rfl rfl rfl rfl zbA rfl rfl; intro w9 hbk hfar hbel; replace HO1 := K_ (uA (RB HO1.out) (BK BK6) (by decide) hfar); replace HO2 := K_ (uA (RB HO2.out) (BK BK6) (by decide) hfar); replace BK7 := K_ (hfar g7 _ (Ne.symm NB.out) (BK BK7)); replace BK6 := K_ hbk; replace HB := K_ (hbel _ _ GE6.out (BL HB)); clear hbk hfar hbel)
              | ((with_reducible refine zW (p := 7) rfl ?_); refine so_ (g := g7) (cs := Z51) Z51 ⟨BK BK7⟩ ?_ rfl rfl rfl rfl rfl uT rfl rfl; intro w9 hbk hfar hbel; replace HO1 := K_ (uA (RB HO1.out) (BK BK7) (by decide) hfar); replace HO2 := K_ (uA (RB HO2.out) (BK BK7) (by decide) hfar); replace BK6 := K_ (hfar g6 _ NB.out (BK BK6)); replace BK7 := K_ hbk; replace HB := K_ (hbel _ _ GE7.out (BL HB)); clear hbk hfar hbel))
             refine bodyPost_ret (qR rfl _ _ g6 g7 76 51 (uS (.slice B1 xs.length d1) (.slice B2 ys.length d2) PN at_ pad (tx.size : Int)) Z51 (0, 0) (0, 0) _ _ rfl BK6.out Tryz.underlying76 rfl zbA rfl BK7.out Tryz.underlying51 rfl uT) rfl ?_
             exact ⟨_, _, xs, ys, PN, at_, pad, (tx.size : Int), 0, 0, rfl, HO1.out, HO2.out, BL HB, fun _ => ⟨HALL.out, by rw [HBEG.out, ← HPR.out]; exact HXS.out, by rw [← HEN.out, ← HSF.out]; exact HYS.out⟩, fun _ _ => rfl⟩
            have dE : (E3 != 0) = true := by simpa using hE
            have HEV := K_ hE
            have HE := K_ (show (∀ x ∈ l, x.f1 = false) → (∃ P, xW l P) → E3 = 0 by
             rintro _ ⟨P, h⟩; have := h.2.2.2; rw [← HEN.out, ← HSF.out, hno] at this; cases this)
            clear hE hno
            go_upto_region 53 with (fail)
            clear q0 q1 q2 q3
            refine vQ (n := 4) (S := fun w' => w'.heap[g19]? = some (.cells #[.int .i64 E3, .int .i64 a3] 51 (0, 0))) (ds := []) #[false, false, false, false] (by kernel_rfl) rfl rfl (BK BK19) (fun hHeld => ?_)
            refine yC (fun W => W.heap[g19]? = some (.cells #[.int .i64 E3, .int .i64 a3] 51 (0, 0)) ∧ W.heap[g6]? = some (.cells Z76 76 (0, 0)) ∧ W.heap[g7]? = some (.cells Z51 51 (0, 0)) ∧ Below w.heap.size w W) ⟨BK BK19, BK BK6, BK BK7, BL HB⟩ ?_
            clear hHeld
            rintro W ⟨hHeld, hb6, hb7, hbw⟩
            replace BK6 := K_ hb6
            replace BK7 := K_ hb7
            replace HB := K_ hbw
            clear hb6 hb7 hbw
            refine pw_ 0 234 (bb 4 1) ?_
            refine tr_ 1 235 (bb 4 3) (#[.int .i64 E3, .int .i64 a3]) (fun _ hs => ⟨hs⟩) Tryz.underlying51 uT hHeld ?_
            refine on_ 2 none (bb 4 7) (fun K hK => ?_)
            refine uC (g := g6) (cs := Z76) Z76 BK6 ?_ rfl rfl rfl rfl rfl zbA rfl rfl
            intro w8 hbk hfar hbel
            have hHeld2 := hfar g19 _ (Ne.symm N6L.out) hHeld
            replace BK7 := K_ (hfar g7 _ (Ne.symm NB.out) BK7.out)
            replace BK6 := K_ hbk
            replace HB := K_ (hbel _ _ GE6.out HB.out)
            refine hK.out _ _ hHeld2 (fun _ => ?_)
            clear hK K hbk hfar hbel
            refine on_ 3 none (bb 4 15) (fun K hK => ?_)
            refine uC (g := g7) (cs := Z51) #[.int .i64 E3, .int .i64 a3] BK7 ?_ rfl rfl rfl rfl rfl uT rfl rfl
            intro w9 hbk hfar hbel
            have hHeld3 := hfar g19 _ (Ne.symm N7L.out) hHeld2
            replace BK6 := K_ (hfar g6 _ NB.out BK6.out)
            replace BK7 := K_ hbk
            replace HB := K_ (hbel _ _ GE7.out HB.out)
            refine hK.out _ _ hHeld3 (fun _ => ?_)
            clear hK K hbk hfar hbel
            refine vS (by kernel_rfl) ?_
            go_wp2_with (fail)
            (
             refine bodyPost_ret (qR rfl _ _ g6 g7 76 51 Z76 #[.int .i64 E3, .int .i64 a3] (0, 0) (0, 0) _ _ rfl BK6.out Tryz.underlying76 rfl zbA rfl BK7.out Tryz.underlying51 rfl uT) rfl ?_
             exact ⟨_, _, [], [], jL, 0, 0, 0, E3, a3, rfl, Kd.R_nil _ _ _ _ _, Kd.R_nil _ _ _ _ _, BL HB, fun h => absurd h HEV.out, HE.out⟩)
           have dE : (E2 != 0) = true := by simpa using hE
           have HEV := K_ hE
           have HE := K_ (show (∀ x ∈ l, x.f1 = false) → (∃ P, xW l P) → E2 = 0 by
            rintro _ ⟨P, h⟩; have := h.2.2.1; rw [HBEG.out, ← HEN.out, ← HTX.out, hno] at this; cases this)
           clear hE hno
           have hkl := HKL.out
           obtain ⟨x9, hx9⟩ : ∃ x9, x9 = l[k] := ⟨_, rfl⟩
           obtain ⟨ad2, ea, h0, h1, h2, h3⟩ := zas (Kd.C_below HR.out HB.out) ((k : Nat) : Int) (by omega) (by omega)
           rw [zcA hkl, ← hx9] at h0 h1 h2 h3
           simp only [Int.toNat_natCast] at h0 h1 h2 h3
           obtain rfl := Option.some.inj ea
           clear hx9 ea
           have hbw : (ad.add (k * 4)).block < w.heap.size := by
            obtain ⟨ad3, ea3, h03, _⟩ := zas HR.out ((k : Nat) : Int) (by omega) (by omega)
            obtain rfl := Option.some.inj ea3
            simp only [Int.toNat_natCast] at h03
            exact World.block_lt_of_cell? _ _ h03
           have hi0 : (0 : Int) ≤ (k : Int) := by omega
           have hi1 : (k : Int) < (l.length : Int) := by omega
           clear q0 q1 q2 q3
           go_upto_region 50 with (fail)
           have hb6 : (ad.add (k * 4)).block ≠ g6 := Nat.ne_of_lt (Nat.lt_of_lt_of_le hbw GE6.out)
           have hb7 : (ad.add (k * 4)).block ≠ g7 := Nat.ne_of_lt (Nat.lt_of_lt_of_le hbw GE7.out)
           go_upto_region 50 with (fail)
           refine vQ (n := 11) (S := fun w' => w'.cell? ⟨(ad.add (k * 4)).block, (ad.add (k * 4)).off + 2, none⟩ = some (.int .i64 x9.f0.f2)) (ds := []) #[false, false, false, false, false, false, false, false, false, false, false] (by kernel_rfl) rfl rfl h2 (fun hHeld => ?_)
           obtain ⟨W, hW⟩ : ∃ W, W = World.drew w9 := ⟨_, rfl⟩
           rw [← hW] at hHeld ⊢
           replace BK6 := K_ (show W.heap[g6]? = some (.cells Z76 76 (0, 0)) by rw [hW]; exact BK BK6)
           replace BK7 := K_ (show W.heap[g7]? = some (.cells Z51 51 (0, 0)) by rw [hW]; exact BK BK7)
           replace HB := K_ (show Below w.heap.size w W by rw [hW]; exact BL HB)
           clear hW h0 h1 h2 h3
           refine pw_ 0 217 (bb 11 1) ?_
           refine pw_ 1 218 (bb 11 3) ?_
           refine pw_ 2 219 (bb 11 7) ?_
           refine pw_ 3 220 (bb 11 15) ?_
           refine pw_ 4 221 (bb 11 31) ?_
           refine pw_ 5 222 (bb 11 63) ?_
           refine pw_ 6 223 (bb 11 127) ?_
           refine tw_ 7 224 (bb 11 255) hHeld ?_
           refine pw_ 8 225 (bb 11 511) ?_
           refine on_ 9 none (bb 11 1023) (fun K hK => ?_)
           refine uC (g := g6) (cs := Z76) Z76 BK6 ?_ rfl rfl rfl rfl rfl zbA rfl rfl
           intro w8 hbk hfar hbel
           have hHeld2 := zaq hfar (p := ⟨(ad.add (k * 4)).block, (ad.add (k * 4)).off + 2, none⟩) hb6 hHeld
           replace BK7 := K_ (hfar g7 _ (Ne.symm NB.out) BK7.out)
           replace BK6 := K_ hbk
           replace HB := K_ (hbel _ _ GE6.out HB.out)
           refine hK.out _ _ hHeld2 (fun _ => ?_)
           clear hK K hbk hfar hbel
           refine on_ 10 none (bb 11 2047) (fun K hK => ?_)
           refine uC (g := g7) (cs := Z51) #[.int .i64 E2, .int .i64 x9.f0.f2] BK7 ?_ rfl rfl rfl rfl rfl uT rfl rfl
           intro w9 hbk hfar hbel
           have hHeld3 := zaq hfar (p := ⟨(ad.add (k * 4)).block, (ad.add (k * 4)).off + 2, none⟩) hb7 hHeld2
           replace BK6 := K_ (hfar g6 _ NB.out BK6.out)
           replace BK7 := K_ hbk
           replace HB := K_ (hbel _ _ GE7.out HB.out)
           refine hK.out _ _ hHeld3 (fun _ => ?_)
           clear hK K hbk hfar hbel
           refine vS (by kernel_rfl) ?_
           go_wp2_with (fail)
           (
            refine bodyPost_ret (qR rfl _ _ g6 g7 76 51 Z76 #[.int .i64 E2, .int .i64 x9.f0.f2] (0, 0) (0, 0) _ _ rfl BK6.out Tryz.underlying76 rfl zbA rfl BK7.out Tryz.underlying51 rfl uT) rfl ?_
            exact ⟨_, _, [], [], jL, 0, 0, 0, E2, x9.f0.f2, rfl, Kd.R_nil _ _ _ _ _, Kd.R_nil _ _ _ _ _, BL HB, fun h => absurd h HEV.out, HE.out⟩)
          have dE : (E1 != 0) = true := by simpa using hE
          have HEV := K_ hE
          have HE := K_ (show (∀ x ∈ l, x.f1 = false) → (∃ P, xW l P) → E1 = 0 by
           rintro _ ⟨P, h⟩; have := h.2.1; rw [HBEG.out, ← HPR.out, hno] at this; cases this)
          clear hE hno
          go_upto_region 47 with (fail)
          clear q0 q1 q2 q3
          refine vQ (n := 4) (S := fun w' => w'.heap[g19]? = some (.cells #[.int .i64 E1, .int .i64 a1] 51 (0, 0))) (ds := []) #[false, false, false, false] (by kernel_rfl) rfl rfl (BK BK19) (fun hHeld => ?_)
          refine yC (fun W => W.heap[g19]? = some (.cells #[.int .i64 E1, .int .i64 a1] 51 (0, 0)) ∧ W.heap[g6]? = some (.cells Z76 76 (0, 0)) ∧ W.heap[g7]? = some (.cells Z51 51 (0, 0)) ∧ Below w.heap.size w W) ⟨BK BK19, BK BK6, BK BK7, BL HB⟩ ?_
          clear hHeld
          rintro W ⟨hHeld, hb6, hb7, hbw⟩
          replace BK6 := K_ hb6
          replace BK7 := K_ hb7
          replace HB := K_ hbw
          clear hb6 hb7 hbw
          refine pw_ 0 208 (bb 4 1) ?_
          refine tr_ 1 209 (bb 4 3) (#[.int .i64 E1, .int .i64 a1]) (fun _ hs => ⟨hs⟩) Tryz.underlying51 uT hHeld ?_
          refine on_ 2 none (bb 4 7) (fun K hK => ?_)
          refine uC (g := g6) (cs := Z76) Z76 BK6 ?_ rfl rfl rfl rfl rfl zbA rfl rfl
          intro w8 hbk hfar hbel
          have hHeld2 := hfar g19 _ (Ne.symm N6L.out) hHeld
          replace BK7 := K_ (hfar g7 _ (Ne.symm NB.out) BK7.out)
          replace BK6 := K_ hbk
          replace HB := K_ (hbel _ _ GE6.out HB.out)
          refine hK.out _ _ hHeld2 (fun _ => ?_)
          clear hK K hbk hfar hbel
          refine on_ 3 none (bb 4 15) (fun K hK => ?_)
          refine uC (g := g7) (cs := Z51) #[.int .i64 E1, .int .i64 a1] BK7 ?_ rfl rfl rfl rfl rfl uT rfl rfl
          intro w9 hbk hfar hbel
          have hHeld3 := hfar g19 _ (Ne.symm N7L.out) hHeld2
          replace BK6 := K_ (hfar g6 _ NB.out BK6.out)
          replace BK7 := K_ hbk
          replace HB := K_ (hbel _ _ GE7.out HB.out)
          refine hK.out _ _ hHeld3 (fun _ => ?_)
          clear hK K hbk hfar hbel
          refine vS (by kernel_rfl) ?_
          go_wp2_with (fail)
          (
           refine bodyPost_ret (qR rfl _ _ g6 g7 76 51 Z76 #[.int .i64 E1, .int .i64 a1] (0, 0) (0, 0) _ _ rfl BK6.out Tryz.underlying76 rfl zbA rfl BK7.out Tryz.underlying51 rfl uT) rfl ?_
           exact ⟨_, _, [], [], jL, 0, 0, 0, E1, a1, rfl, Kd.R_nil _ _ _ _ _, Kd.R_nil _ _ _ _ _, BL HB, fun h => absurd h HEV.out, HE.out⟩)
     have hjl := zeo hb
     have HR2 := K_ (show qB vH l (j + 1) = qB vH l k by rw [← zjt hb]; exact HRun.out)
     clear hb
     go_wp2
     go_roundw
     case rel => exact ⟨j + 1, by omega, by omega, by go_num, HR2.out, BK BK6, BK BK7, BL HB⟩
     case measure => simp [intOf]; omega
  obtain rfl : k = l.length := by omega
  have dlt : decide ((l.length : Int) < (l.length : Int)) = false := decide_eq_false (by omega)
  have HE := K_ (show (∀ x ∈ l, x.f1 = false) → (∃ P, xW l P) → (4 : Int) = 0 by
   rintro _ ⟨P, h⟩; have := h.1; rw [← HRun.out, zic (Nat.le_refl _)] at this; omega)
  go_upto_if 40 with (fail)
  (
   go_wp2_with (first
    | ((with_reducible refine zW (p := 6) rfl ?_); refine so_ (g := g6) (cs := Z76) Z76 ⟨BK BK6⟩ ?_ rfl rfl rfl rfl rfl zbA rfl rfl; intro w9 hbk hfar hbel; replace BK7 := K_ (hfar g7 _ (Ne.symm (Aside0.out NB)) (BK BK7)); replace BK6 := K_ hbk; replace HB := K_ (hbel _ _ GE6.out (BL HB)); clear hbk hfar hbel)
    | ((with_reducible refine zW (p := 7) rfl ?_); refine so_ (g := g7) (cs := Z51) #[.int .i64 4, .int .i64 b0] ⟨BK BK7⟩ ?_ rfl rfl rfl rfl rfl uT rfl rfl; intro w9 hbk hfar hbel; replace BK6 := K_ (hfar g6 _ (Aside0.out NB) (BK BK6)); replace BK7 := K_ hbk; replace HB := K_ (hbel _ _ GE7.out (BL HB)); clear hbk hfar hbel))
   refine bodyPost_ret (qR rfl _ _ g6 g7 76 51 Z76 #[.int .i64 4, .int .i64 b0] (0, 0) (0, 0) _ _ rfl BK6.out Tryz.underlying76 rfl zbA rfl BK7.out Tryz.underlying51 rfl uT) rfl ?_
   exact ⟨_, _, [], [], jL, 0, 0, 0, 4, b0, rfl, Kd.R_nil _ _ _ _ _, Kd.R_nil _ _ _ _ _, BL HB, fun h => absurd h (by decide), HE.out⟩)
section
section
variable {P : Program} {ops : Array Oper} {rest : List Oper} {o : Oper} {a : Act} {Q : Exit → Act → World → Prop}
theorem zpr {W : World} (N : Tmp) (n : Nat) (cs : Array Value) (t : TypeId) (h : ∀ g, g = W.heap.size → ∀ w1, w1.heap[g]? = some (.cells cs t (0, 0)) → Below W.heap.size W w1 → wpList P ops Q rest (a.put o.dst (.slice (some ⟨g, 0, none⟩) n n)) w1)
  (hd : o.dst = some N := by with_reducible rfl) (hgd : o.guard = none := by rfl) (hrun : (execOp a.eval o).run P W = .ok (.value (.slice (some ⟨W.heap.size, 0, none⟩) n n)) (W.alloc (.cells cs t (0, 0))) := by (first | (go_simp; done) | (go_simp; rfl))) : wpList P ops Q (o :: rest) a W :=
 Kd.event_run hgd hrun (h _ rfl _ (zby W _) (vV (Below.refl _ _) _))
end
theorem zoG {l : List S80} {k : Nat} (h : k < l.length) : uZ l (k : Int) = l[k] := by unfold uZ; rw [Int.toNat_natCast, List.getD_eq_getElem?_getD, List.getElem?_eq_getElem h]; rfl
theorem zla {a : Int} {l : List S80} {j : Nat} (h : j < l.length) : zaW a (l.take (j + 1)) = zaW a (l.take j) + if l[j].f0 = a then 1 else 0 := by
 unfold zaW
 rw [List.take_succ_eq_append_getElem h, List.countP_append, List.countP_cons, List.countP_nil, Nat.zero_add]
 congr 1
 by_cases e : l[j].f0 = a
 ·rw [if_pos e, if_pos (by simpa using e)]
 rw [if_neg e, if_neg (by simpa using e)]
theorem zjH (a : Int) (l : List S80) : zaW a l ≤ l.length := List.countP_le_length
def zcC (a : Int) (L : List PL) (k : Nat) : Nat := ((L.take k).map fun x => zaW a x.l).sum
theorem zhq {a : Int} {L : List PL} {k : Nat} (h : k < L.length) : zcC a L (k + 1) = zcC a L k + zaW a (yP L k).l := by
 unfold zcC; rw [zes h]; simp
theorem zjJ {a : Int} {L : List PL} (hl : ∀ k, k < L.length → (yP L k).l.length ≤ 1000) : ∀ k, k ≤ L.length → zcC a L k ≤ 1000 * k
 | 0, _ => by simp [zcC]
 | k + 1, h => by have := zjJ (a := a) hl k (by omega); have := hl k (by omega); have := zjH a (yP L k).l; rw [zhq (by omega)]; omega
set_option maxHeartbeats 4000000 in
set_option maxRecDepth 100000 in
theorem zjY (q : Pat) (kd : Int) (w : World) (h0 : Kd.C k80 w q.A0 q.l0.length q.l0) (h1 : Kd.C k80 w q.A1 q.l1.length q.l1) (h3 : Kd.C k80 w q.A3 q.l3.length q.l3) (h4 : Kd.C k80 w q.A4 q.l4.length q.l4)
  (s0 : q.l0.length ≤ 1000) (s1 : q.l1.length ≤ 1000) (s3 : q.l3.length ≤ 1000) (s4 : q.l4.length ≤ 1000) :
  Calls Tryz.prog 53 #[.agg q.cs, .int .i64 kd] w fun e w' => e = .returned (.int .i64 ((sgn kd q.l0 q.l1 q.l3 q.l4 : Nat) : Int)) ∧ Below w.heap.size w w' := by
 have HB := K_ (Below.refl w.heap.size w)
 obtain ⟨L, hL⟩ : ∃ L : List PL, L = [⟨q.A0, q.c0, q.l0⟩, ⟨q.A1, q.c1, q.l1⟩, ⟨q.A3, q.c3, q.l3⟩, ⟨q.A4, q.c4, q.l4⟩] := ⟨_, rfl⟩
 have hk : ∀ k, k < 4 → (k = 0 ∧ yP L k = ⟨q.A0, q.c0, q.l0⟩) ∨ (k = 1 ∧ yP L k = ⟨q.A1, q.c1, q.l1⟩) ∨ (k = 2 ∧ yP L k = ⟨q.A3, q.c3, q.l3⟩) ∨ (k = 3 ∧ yP L k = ⟨q.A4, q.c4, q.l4⟩) := by
  intro k hk
  rw [hL]
  match k, hk with
  | 0, _ => exact .inl ⟨rfl, rfl⟩
  | 1, _ => exact .inr (.inl ⟨rfl, rfl⟩)
  | 2, _ => exact .inr (.inr (.inl ⟨rfl, rfl⟩))
  | 3, _ => exact .inr (.inr (.inr ⟨rfl, rfl⟩))
 have hlen : ∀ k, k < L.length → (yP L k).l.length ≤ 1000 := by
  intro k h
  rcases hk k (by rw [hL] at h; exact h) with ⟨_, e⟩ | ⟨_, e⟩ | ⟨_, e⟩ | ⟨_, e⟩ <;> rw [e] <;> assumption
 have HR := K_ (show ∀ k, k < 4 → Kd.C k80 w (yP L k).A (yP L k).l.length (yP L k).l ∧ (yP L k).l.length ≤ 1000 ∧ zcC kd L (k + 1) = zcC kd L k + zaW kd (yP L k).l ∧ zcC kd L k ≤ 4000 from fun k h => by
  have hl : L.length = 4 := by rw [hL]; rfl
  refine ⟨?_, hlen k (by omega), zhq (by omega), by have := zjJ (a := kd) hlen k (by omega); omega⟩
  rcases hk k h with ⟨_, e⟩ | ⟨_, e⟩ | ⟨_, e⟩ | ⟨_, e⟩ <;> rw [e] <;> assumption)
 have HT := K_ (show zcC kd L 4 = sgn kd q.l0 q.l1 q.l3 q.l4 by rw [hL]; unfold zcC sgn; simp; omega)
 have HK := K_ hk
 clear hL hk hlen h0 h1 h3 h4
 go_enter Tryz.func53, Tryz.ntmps53
 go_upto_region 2 with ((with_reducible refine zF (N := 2) rfl ?_); refine bx_ 2 q.cs 26 ?_ rfl rfl rfl rfl rfl; intro g2 hg w2 hbox hb; have BK2 := K_ hbox; replace HB := zE HB hb; clear hb hbox hg)
 have e0 : w2.cell? ⟨g2, 0, none⟩ = some (.slice q.A0 q.l0.length q.c0) := (zD BK2.out 0).trans rfl
 have e1 : w2.cell? ⟨g2, 1, none⟩ = some (.slice q.A1 q.l1.length q.c1) := (zD BK2.out 1).trans rfl
 have e3 : w2.cell? ⟨g2, 3, none⟩ = some (.slice q.A3 q.l3.length q.c3) := (zD BK2.out 3).trans rfl
 have e4 : w2.cell? ⟨g2, 4, none⟩ = some (.slice q.A4 q.l4.length q.c4) := (zD BK2.out 4).trans rfl
 go_wp2_with ((with_reducible refine zF (N := 17) rfl ?_); refine zpr 17 4 #[.slice q.A0 q.l0.length q.c0, .slice q.A1 q.l1.length q.c1, .slice q.A3 q.l3.length q.c3, .slice q.A4 q.l4.length q.c4] 24 ?_; intro g17 hg w3 hbox hb; have BK17 := K_ hbox; replace HB := zE HB hb; clear hb hbox hg)
 clear e0 e1 e3 e4
 have HC := K_ (show ∀ k, k < 4 → w3.cell? ⟨g17, k, none⟩ = some (.slice (yP L k).A (yP L k).l.length (yP L k).c) from fun k h => by
  rcases HK.out k h with ⟨rfl, e⟩ | ⟨rfl, e⟩ | ⟨rfl, e⟩ | ⟨rfl, e⟩ <;> rw [e] <;> exact (zD BK17.out _).trans rfl)
 go_loop [5, 19] (fun n i => ∃ j : Nat, j ≤ 4 ∧ i = .int .i64 j ∧ n = .int .i64 (zcC kd L j)) (fun _ i => 4 - (intOf i).toNat)
 case atStart => exact ⟨0, by omega, rfl, rfl⟩
 case round =>
  obtain ⟨j, hj, rfl, rfl⟩ := hrel
  by_cases hlt : j < 4
  ·have hc := HC.out j hlt
   obtain ⟨hq, hql, hqs, hqt⟩ := HR.out j hlt
   have HQS := K_ hqs
   have HQ := K_ (Kd.C_below hq HB.out)
   have dlt : decide ((j : Int) < 4) = true := decide_eq_true (by omega)
   clear hq hqs
   go_wp2
   go_loop [5, 8] (fun n i => ∃ t : Nat, t ≤ (yP L j).l.length ∧ i = .int .i64 t ∧ n = .int .i64 ((zcC kd L j + zaW kd ((yP L j).l.take t) : Nat) : Int)) (fun _ i => (yP L j).l.length - (intOf i).toNat)
   case atStart => exact ⟨0, by omega, rfl, by rw [List.take_zero]; rfl⟩
   case round =>
    obtain ⟨t, ht, rfl, rfl⟩ := hrel
    by_cases htl : t < (yP L j).l.length
    ·obtain ⟨x, hx⟩ : ∃ x, x = (yP L j).l[t] := ⟨_, rfl⟩
     obtain ⟨ad, ea, hx0, hx1⟩ := zia HQ.out (t : Int) (by omega) (by omega)
     rw [zoG htl, ← hx] at hx0 hx1
     simp only [Int.toNat_natCast] at hx0 hx1
     have HA := K_ ea
     have hs := zla (a := kd) htl
     rw [← hx] at hs
     have HS := K_ hs
     have hb : zaW kd ((yP L j).l.take t) ≤ 1000 := Nat.le_trans (zjH _ _) (by rw [List.length_take]; omega)
     have dt : decide ((t : Int) < ((yP L j).l.length : Int)) = true := decide_eq_true (by omega)
     clear hs hx
     rw [ea] at hc
     rw [HA.out]
     by_cases hk : x.f0 = kd
     ·have dk : (x.f0 == kd) = true := beq_iff_eq.2 hk
      have HS2 := K_ (show zaW kd ((yP L j).l.take (t + 1)) = zaW kd ((yP L j).l.take t) + 1 by rw [HS.out, if_pos hk])
      clear hk
      go_wp2
      go_round
      case rel => exact ⟨t + 1, by omega, by go_num, by rw [HS2.out]; go_num⟩
      case measure => simp [intOf]; omega
     have dk : (x.f0 == kd) = false := beq_eq_false_iff_ne.2 hk
     have HS2 := K_ (show zaW kd ((yP L j).l.take (t + 1)) = zaW kd ((yP L j).l.take t) by rw [HS.out, if_neg hk, Nat.add_zero])
     clear hk
     go_wp2
     go_round
     case rel => exact ⟨t + 1, by omega, by go_num, by rw [HS2.out]⟩
     case measure => simp [intOf]; omega
    obtain rfl : t = (yP L j).l.length := by omega
    have dt : decide (((yP L j).l.length : Int) < ((yP L j).l.length : Int)) = false := decide_eq_false (by omega)
    go_wp2
    go_round
    case rel => exact ⟨j + 1, by omega, by go_num, by rw [HQS.out, List.take_length]⟩
    case measure => simp [intOf]; omega
  obtain rfl : j = 4 := by omega
  go_wp2
  go_ret
  exact ⟨by rw [HT.out]; rfl, HB.out⟩
theorem zdH (A0 A1 A3 A4 : Option Addr) (c0 c1 c3 c4 : Nat) (a b c d : List S80) (hn : Bool) (P : yJ) (at_ pad wd kd : Int) (w : World) {b0 : Nat} {ok : Nat → Prop}
  (h0 : Kd.R k80 80 w b0 ok (.slice A0 a.length c0) a) (h1 : Kd.R k80 80 w b0 ok (.slice A1 b.length c1) b) (h3 : Kd.R k80 80 w b0 ok (.slice A3 c.length c3) c) (h4 : Kd.R k80 80 w b0 ok (.slice A4 d.length c4) d)
  (ha : a.length ≤ 1000) (hb : b.length ≤ 1000) (hc : c.length ≤ 1000) (hd : d.length ≤ 1000) :
  Calls Tryz.prog 53 #[.agg (xY (.slice A0 a.length c0) (.slice A1 b.length c1) hn (.slice A3 c.length c3) (.slice A4 d.length c4) P at_ pad wd), .int .i64 kd] w fun e w' => e = .returned (.int .i64 ((sgn kd a b c d : Nat) : Int)) ∧ Below w.heap.size w w' :=
 zjY ⟨A0, A1, A3, A4, c0, c1, c3, c4, a, b, c, d, hn, P, at_, pad, wd⟩ kd w (Kd.R_reads' h0).2.2 (Kd.R_reads' h1).2.2 (Kd.R_reads' h3).2.2 (Kd.R_reads' h4).2.2 ha hb hc hd
end
set_option maxHeartbeats 16000000 in
set_option maxRecDepth 100000 in
theorem zle (s : ByteArray) (hs : s.size ≤ 1048576) (w : World) : Calls Tryz.prog 31 #[.string s] w (zmy s w) := by
 obtain ⟨⟨l, E1, a1⟩, hEv, h4⟩ := zmX s hs
 obtain ⟨K0, hK0⟩ := Ev.rounds hEv
 have HK := K_ hK0
 have HEV1 := K_ hEv
 have H4 := K_ (show E1 = 0 → l.length ≤ 400 from h4)
 have HB := K_ (Below.refl w.heap.size w)
 clear hs hEv hK0 h4
 go_enter Tryz.func31, Tryz.ntmps31
 go_upto_region 2 with (first
  | ((with_reducible refine zF (N := 2) rfl ?_); refine be_ 2 Z26 26 ?_; intro g2 hg w2 hbox hb; have BK2 := K_ hbox; have GE2 := ge_ hg HB; replace HB := zE HB hb; clear hb hbox hg)
  | ((with_reducible refine zF (N := 3) rfl ?_); refine be_ 3 Z51 51 ?_; intro g3 hg w4 hbox hb; have BK3 := K_ hbox; have GE3 := ge_ hg HB; have NB := nb_ hg BK2; replace BK2 := zC BK2 hb; replace HB := zE HB hb; clear hb hbox hg)
  | (go_at_call 55; refine (zG.calls K0 s l E1 a1 _ HK.out).mono ?_; rintro e9 w' ⟨v0, rfl, ho, hb⟩; have HO := K_ (Kd.R_lower ho (zP (BL HB))); replace HB := zE HB hb; replace BK2 := zC BK2 hb; replace BK3 := zC BK3 hb; clear hb ho)
  | ((with_reducible refine zF (N := 5) rfl ?_); refine be_ 5 Z51 51 ?_; intro g5 hg w10 hbox hb; have BK5 := K_ hbox; have GE5 := ge_ hg HB; have N2F := nb_ hg BK2; have N3F := nb_ hg BK3; replace HO := K_ (Kd.R_below (RB HO.out) hb); replace HB := zE HB hb; replace BK2 := zC BK2 hb; replace BK3 := zC BK3 hb; clear hb hbox hg)
  | ((with_reducible refine zW (p := 5) rfl ?_); refine so_ (g := g5) (cs := Z51) #[.int .i64 E1, .int .i64 a1] ⟨BK BK5⟩ ?_ rfl rfl rfl rfl rfl uT rfl rfl; intro w9 hbk hfar hbel; replace HO := K_ (uA (RB HO.out) (BK BK5) (by decide) hfar); replace BK2 := K_ (hfar g2 _ N2F.out (BK BK2)); replace BK3 := K_ (hfar g3 _ N3F.out (BK BK3)); replace BK5 := K_ hbk; replace HB := K_ (hbel _ _ GE5.out (BL HB)); clear hbk hfar hbel))
 obtain ⟨⟨q0, q1⟩, q2, q3⟩ := ce2 BK5
 by_cases hE : E1 = 0
 ·subst hE
  have HL := K_ (H4.out rfl)
  clear H4
  go_upto_region 4 with (fail)
  clear q0 q1 q2 q3
  obtain ⟨A1, c1, rfl⟩ := Kd.R_slice HO.out
  go_wp2_with (fail)
  go_loopw [6, 7] (fun v i wr => ∃ (k : Nat) (xs : List S73), k ≤ l.length ∧ i = .int .i64 k ∧ xs.length ≤ k ∧ Kd.R k71 71 wr w.heap.size (fun _ => True) (.slice A1 l.length c1) l ∧ Kd.R k73 73 wr w.heap.size (fun _ => True) v xs ∧ (xP l → xs = (l.take k).map mk73) ∧ wr.heap[g5]? = some (.cells #[.int .i64 0, .int .i64 a1] 51 (0, 0)) ∧ wr.heap[g2]? = some (.cells Z26 26 (0, 0)) ∧ wr.heap[g3]? = some (.cells Z51 51 (0, 0)) ∧ Below w.heap.size w wr) (fun _ i _ => l.length - (intOf i).toNat)
  case atStart => exact ⟨0, [], by omega, rfl, Nat.le_refl _, RB HO.out, Kd.R_nil _ _ _ _ _, fun _ => rfl, BK BK5, BK BK2, BK BK3, BL HB⟩
  case round =>
   obtain ⟨k, xs, hk, rfl, hxl, ho, hz, hst, hb5, hb2, hb3, hbw⟩ := hrel
   replace HO := K_ ho
   have HZ := K_ hz
   have HST := K_ hst
   replace BK5 := K_ hb5
   replace BK2 := K_ hb2
   replace BK3 := K_ hb3
   replace HB := K_ hbw
   clear ho hz hst hb5 hb2 hb3 hbw
   have hll := HL.out
   have hcl := (Kd.R_reads' HO.out).2.1
   by_cases hlt : k < l.length
   ·obtain ⟨x, hx⟩ : ∃ x, x = l[k] := ⟨_, rfl⟩
    obtain ⟨ad, ea, h0, h1, h2⟩ := ziy (Kd.R_reads' HO.out).2.2 (k : Int) (by omega) (by omega)
    rw [zmm hlt, ← hx] at h0 h1 h2
    simp only [Int.toNat_natCast] at h0 h1 h2
    subst ea
    have HX := K_ hx
    clear hx
    have dlt : decide (((k : Nat) : Int) < (l.length : Int)) = true := decide_eq_true (by omega)
    go_upto_region 9 with (first
     | ((with_reducible refine zF (N := 8) rfl ?_); refine be_ 8 #[.int .i32 0, .bool false, .int .i64 0, .bool false] 73 ?_; intro g8 hg w10 hbox hb; have BK8 := K_ hbox; have GE8 := ge_ hg HB; have N5E := nb_ hg BK5; have N2E := nb_ hg BK2; have N3E := nb_ hg BK3; replace HZ := K_ (Kd.R_below (Kd.R_elderB (RB HZ.out) g8 (Nat.le_of_eq hg.symm)) hb); replace HO := K_ (Kd.R_below (RB HO.out) hb); replace HB := zE HB hb; replace BK2 := zC BK2 hb; replace BK3 := zC BK3 hb; replace BK5 := zC BK5 hb; clear hb hbox hg)
     | ((with_reducible refine zW (p := 8) rfl ?_); refine so_ (g := g8) (cs := #[.int .i32 0, .bool false, .int .i64 0, .bool false]) #[.int .i32 x.f0, .bool x.f1, .int .i64 x.f2, .bool false] ⟨BK BK8⟩ ?_ rfl rfl rfl rfl rfl zil rfl rfl; intro w9 hbk hfar hbel; replace BK5 := K_ (hfar g5 _ N5E.out (BK BK5)); replace BK2 := K_ (hfar g2 _ N2E.out (BK BK2)); replace BK3 := K_ (hfar g3 _ N3E.out (BK BK3)); replace HO := K_ (uA (RB HO.out) (BK BK8) (by decide) hfar); replace HZ := K_ (zng (ok := fun q => True ∧ q ≠ g8) (RB HZ.out) (fun q hq => hq.2) hfar); replace BK8 := K_ hbk; replace HB := K_ (hbel _ _ GE8.out (BL HB)); clear hbk hfar hbel))
    obtain ⟨A3, c3, rfl⟩ := Kd.R_slice HZ.out
    cases hstar : zal (mk73 x) 42
    ·have HC : ∀ W, Aside0 (Calls Tryz.prog 56 #[.agg #[.int .i32 x.f0, .bool x.f1, .int .i64 x.f2, .bool false], .int .i32 42] W fun e w' => e = .returned (.bool false) ∧ Below W.heap.size W w') := fun W => ⟨by have h := zbu (mk73 x) 42 W; rw [hstar] at h; exact h⟩
     have HST2 := K_ (show xP l → xs ++ [mk73 x] = (l.take (k + 1)).map mk73 from fun h => by rw [znI hlt, ← HX.out, HST.out h])
     have HN5 := K_ (Kd.R_ne HZ.out BK5.out (by decide))
     have HN2 := K_ (Kd.R_ne HZ.out BK2.out (by decide))
     have HN3 := K_ (Kd.R_ne HZ.out BK3.out (by decide))
     have HLN := K_ (show (xs.length + 1) * 24 ≤ 140737488355328 by omega)
     clear hstar h0 h1 h2
     go_wp2_with (first
      | ((with_reducible refine zF (N := 37) rfl ?_); refine lo_ (g := g8) (cs := #[.int .i32 x.f0, .bool x.f1, .int .i64 x.f2, .bool false]) _ ⟨BK BK8⟩ ?_ rfl rfl rfl Tryz.underlying73 rfl zil)
      | ((with_reducible refine zF (N := 61) rfl ?_); refine lo_ (g := g8) (cs := #[.int .i32 x.f0, .bool x.f1, .int .i64 x.f2, .bool false]) _ ⟨BK BK8⟩ ?_ rfl rfl rfl Tryz.underlying73 rfl zil)
      | (go_at_call 56; refine ((HC _).out).mono ?_; rintro e w' ⟨rfl, hb⟩; replace HO := K_ (Kd.R_below (RB HO.out) hb); replace HZ := K_ (Kd.R_below (RB HZ.out) hb); replace HB := zE HB hb; replace BK2 := zC BK2 hb; replace BK3 := zC BK3 hb; replace BK5 := zC BK5 hb; replace BK8 := zC BK8 hb; clear hb)
      | ((with_reducible refine jE (b := .append) (xs := #[.tmp 60, .tmp 62]) rfl ?_); at_builtin; (refine Kd.R_append k73 (w0 := w) w.heap.size rfl (.tmp 60) (.tmp 62) 69 73 (.agg #[(.int .i32 0), (.bool false), (.int .i64 0), (.bool false)]) 24 rfl Tryz.underlying69 ziu rfl (by decide) (by omega) (.slice A3 xs.length c3) xs (mk73 x) [.int .i32 x.f0, .bool x.f1, .int .i64 x.f2, .bool false] (fun q => True ∧ q ≠ g8) (fun _ => False) rfl (by first | (go_simp; done) | (go_simp; rfl)) (zji _ _ _ (mk73 x)) (fun _ hk => hk.elim) ?aF ?aO ?aB ?aS ?aL ?_; (case aF => exact fun q hq => ⟨trivial, fun he => absurd (zcp (BK BK8)) (Nat.not_lt.2 (he ▸ hq))⟩); (case aO => exact RB HZ.out); (case aB => exact BL HB); (case aS => exact zP (BL HB)); (case aL => exact HLN.out); intro v1 w5 ho2 hb2 hg2 hat2; have HO3 := K_ (Kd.R_mono (ok' := fun _ => True) ho2 (fun _ _ => trivial)); replace HO := K_ (Kd.R_over (RB HO.out) (RB HZ.out) (by decide) hg2); have BK5a := K_ (yW (BK BK5) hg2 HN5.out); have BK2a := K_ (yW (BK BK2) hg2 HN2.out); have BK3a := K_ (yW (BK BK3) hg2 HN3.out); replace HB := K_ hb2; clear ho2 hb2 hg2 hat2)))
     go_roundw
     case rel => exact ⟨k + 1, xs ++ [mk73 x], by omega, by go_num, by rw [List.length_append]; simp; omega, RB HO.out, RB HO3.out, HST2.out, BK BK5a, BK BK2a, BK BK3a, BL HB⟩
     case measure => simp [intOf]; omega
    have HC : ∀ W, Aside0 (Calls Tryz.prog 56 #[.agg #[.int .i32 x.f0, .bool x.f1, .int .i64 x.f2, .bool false], .int .i32 42] W fun e w' => e = .returned (.bool true) ∧ Below W.heap.size W w') := fun W => ⟨by have h := zbu (mk73 x) 42 W; rw [hstar] at h; exact h⟩
    have HNS := K_ (show xP l → False from fun h => by have := h l[k] (List.getElem_mem hlt); rw [← HX.out, hstar] at this; cases this)
    clear hstar h0 h1 h2
    go_upto_region 10 with (first
     | ((with_reducible refine zF (N := 37) rfl ?_); refine lo_ (g := g8) (cs := #[.int .i32 x.f0, .bool x.f1, .int .i64 x.f2, .bool false]) _ ⟨BK BK8⟩ ?_ rfl rfl rfl Tryz.underlying73 rfl zil)
     | (go_at_call 56; refine ((HC _).out).mono ?_; rintro e w' ⟨rfl, hb⟩; replace HO := K_ (Kd.R_below (RB HO.out) hb); replace HZ := K_ (Kd.R_below (RB HZ.out) hb); replace HB := zE HB hb; replace BK2 := zC BK2 hb; replace BK3 := zC BK3 hb; replace BK5 := zC BK5 hb; replace BK8 := zC BK8 hb; clear hb))
    have hwk : IntKind.i64.wrap ((k : Int) + 1) = (k : Int) + 1 := by rw [IntKind.wrap_i64]; omega
    by_cases hl1 : k + 1 = l.length
    ·have de : ((k : Int) + 1 == (l.length : Int)) = true := beq_iff_eq.2 (by omega)
     go_upto_region 11 with (fail)
     have HEV := K_ (show (7 : Int) ≠ 0 by decide)
     have HE := K_ (show ∀ l', Ev (fun k => zG.f k s) (l', 0, 0) → xP l' → zay l' → ∀ P0, xW (l'.map mk73) P0 → ¬ mixed (jH (uG (l'.map mk73) (uW (l'.map mk73)) l'.length)) (jH (uF (l'.map mk73) (uR (l'.map mk73)) l'.length)) (⟨2, 0⟩ :: jH (uG (l'.map mk73) (uW (l'.map mk73)) l'.length)) (jH (uF (l'.map mk73) (uR (l'.map mk73)) l'.length)) → False from fun l' h1 hns _ _ _ _ => (HNS.out (by have e := zdr h1 HEV1.out; have e2 : l' = l := congrArg (fun r => r.1) e; rw [← e2]; exact hns)))
     refine vQ (n := 7) (S := fun w' => w'.cell? ⟨g8, 2, none⟩ = some (.int .i64 x.f2)) (ds := []) #[false, false, false, false, false, false, false] (by kernel_rfl) rfl rfl ((zD (BK BK8) 2).trans rfl) (fun hHeld => ?_)
     refine yC (fun W => W.cell? ⟨g8, 2, none⟩ = some (.int .i64 x.f2) ∧ W.heap[g2]? = some (.cells Z26 26 (0, 0)) ∧ W.heap[g3]? = some (.cells Z51 51 (0, 0)) ∧ Below w.heap.size w W) ⟨((zD (BK BK8) 2).trans rfl), BK BK2, BK BK3, BL HB⟩ ?_
     clear hHeld
     rintro W ⟨hHeld, hb2, hb3, hbw⟩
     replace BK2 := K_ hb2
     replace BK3 := K_ hb3
     replace HB := K_ hbw
     clear hb2 hb3 hbw
     refine pw_ 0 44 (bb 7 1) ?_
     refine pw_ 1 45 (bb 7 3) ?_
     refine pw_ 2 46 (bb 7 7) ?_
     refine tw_ 3 47 (bb 7 15) hHeld ?_
     refine pw_ 4 48 (bb 7 31) ?_
     refine on_ 5 none (bb 7 63) (fun K hK => ?_)
     refine uC (g := g2) (cs := Z26) Z26 BK2 ?_ rfl rfl rfl rfl rfl yO rfl rfl
     intro w8 hbk hfar hbel
     have hHeld2 := zaq hfar (p := ⟨g8, 2, none⟩) (Ne.symm N2E.out) hHeld
     replace BK3 := K_ (hfar g3 _ (Ne.symm NB.out) BK3.out)
     replace BK2 := K_ hbk
     replace HB := K_ (hbel _ _ GE2.out HB.out)
     refine hK.out _ _ hHeld2 (fun _ => ?_)
     clear hK K hbk hfar hbel
     refine on_ 6 none (bb 7 127) (fun K hK => ?_)
     refine uC (g := g3) (cs := Z51) #[.int .i64 7, .int .i64 x.f2] BK3 ?_ rfl rfl rfl rfl rfl uT rfl rfl
     intro w9 hbk hfar hbel
     have hHeld3 := zaq hfar (p := ⟨g8, 2, none⟩) (Ne.symm N3E.out) hHeld2
     replace BK2 := K_ (hfar g2 _ NB.out BK2.out)
     replace BK3 := K_ hbk
     replace HB := K_ (hbel _ _ GE3.out HB.out)
     refine hK.out _ _ hHeld3 (fun _ => ?_)
     clear hK K hbk hfar hbel
     refine vS (by kernel_rfl) ?_
     go_wp2_with (fail)
     (
      refine bodyPost_ret (qR rfl _ _ g2 g3 26 51 Z26 #[.int .i64 7, .int .i64 x.f2] (0, 0) (0, 0) _ _ rfl BK2.out Tryz.underlying26 rfl yO rfl BK3.out Tryz.underlying51 rfl uT) rfl ?_
      exact ⟨_, _, _, _, [], [], [], [], jL, false, 0, 0, 0, 7, x.f2, rfl, Kd.R_nil _ _ _ _ _, Kd.R_nil _ _ _ _ _, Kd.R_nil _ _ _ _ _, Kd.R_nil _ _ _ _ _, BL HB, fun h => absurd h HEV.out, fun l' h1 h2 h3 P0 h4 h5 => (HE.out l' h1 h2 h3 P0 h4 h5).elim⟩)
    have de : ((k : Int) + 1 == (l.length : Int)) = false := beq_eq_false_iff_ne.2 (by omega)
    obtain ⟨⟨c0, c1', c2, c3'⟩, f0, f1, f2, f3⟩ := ce4 BK8
    have hlt2 : k + 1 < l.length := by omega
    obtain ⟨ad2, ea, h0, h1, h2⟩ := ziy (Kd.R_reads' HO.out).2.2 ((k + 1 : Nat) : Int) (by omega) (by omega)
    obtain ⟨y, hy⟩ : ∃ y, y = l[k + 1] := ⟨_, rfl⟩
    rw [zmm hlt2, ← hy] at h0 h1 h2
    simp only [Int.toNat_natCast] at h0 h1 h2
    obtain rfl := Option.some.inj ea
    have hn1 : ((k : Int) + 1).toNat = k + 1 := by omega
    have H8 := K_ (Kd.R_ne HO.out BK8.out (by decide))
    have hbn : (ad.add ((k + 1) * 3)).block ≠ g8 := by
     rw [zda]; intro e; exact H8.out (by simp [Value.ownBlock, e])
    have hfar2 : ∀ (W : World) j v, (W.setCell ⟨g8, j, none⟩ v).cell? (ad.add ((k + 1) * 3)) = W.cell? (ad.add ((k + 1) * 3)) := fun W j v => uB hbn v
    have hi0 : (0 : Int) ≤ (k : Int) + 1 := by omega
    have hi1 : (k : Int) + 1 < (l.length : Int) := by omega
    clear hy ea h1 h2
    go_upto_region 14 with (fail)
    have hfar : ∀ k o, k ≠ g8 → w'.heap[k]? = some o → ((w'.setCell ⟨g8, 3, none⟩ (.bool true)).setCell ⟨g8, 0, none⟩ (.int .i32 y.f0)).heap[k]? = some o := fun k o hk e => (Below.heap_setCell _ _ _ _ hk).trans ((Below.heap_setCell _ _ _ _ hk).trans e)
    refine zbp (fun W => Kd.R k71 71 W w.heap.size (fun _ => True) (.slice (some ad) l.length c1) l ∧ Kd.R k73 73 W w.heap.size (fun q => True ∧ q ≠ g8) (.slice A3 xs.length c3) xs ∧ W.heap[g5]? = some (.cells #[.int .i64 0, .int .i64 a1] 51 (0, 0)) ∧ W.heap[g2]? = some (.cells Z26 26 (0, 0)) ∧ W.heap[g3]? = some (.cells Z51 51 (0, 0)) ∧ W.heap[g8]? = some (.cells #[.int .i32 y.f0, .bool x.f1, .int .i64 x.f2, .bool true] 73 (0, 0)) ∧ Below w.heap.size w W) ⟨uA (RB HO.out) (BK BK8) (by decide) hfar, zng (ok := fun q => True ∧ q ≠ g8) (RB HZ.out) (fun q hq => hq.2) hfar, hfar g5 _ N5E.out (BK BK5), hfar g2 _ N2E.out (BK BK2), hfar g3 _ N3E.out (BK BK3), BP BK8, BL HB⟩ ?_
    clear hfar HO HZ BK5 BK2 BK3 BK8 HB f0 f1 f2 f3 c0 c1' c2 c3' H8 hbn hfar2 h0
    rintro W ⟨ho, hz, hb5, hb2, hb3, hb8, hbw⟩
    have HO := K_ ho
    have HZ := K_ hz
    have BK5 := K_ hb5
    have BK2 := K_ hb2
    have BK3 := K_ hb3
    have BK8 := K_ hb8
    have HB := K_ hbw
    clear ho hz hb5 hb2 hb3 hb8 hbw
    have HN5 := K_ (Kd.R_ne HZ.out BK5.out (by decide))
    have HN2 := K_ (Kd.R_ne HZ.out BK2.out (by decide))
    have HN3 := K_ (Kd.R_ne HZ.out BK3.out (by decide))
    have HLN := K_ (show (xs.length + 1) * 24 ≤ 140737488355328 by omega)
    go_wp2_with (first
     | ((with_reducible refine zF (N := 61) rfl ?_); refine lo_ (g := g8) (cs := #[.int .i32 y.f0, .bool x.f1, .int .i64 x.f2, .bool true]) _ ⟨BK BK8⟩ ?_ rfl rfl rfl Tryz.underlying73 rfl zil)
     | ((with_reducible refine jE (b := .append) (xs := #[.tmp 60, .tmp 62]) rfl ?_); at_builtin; (refine Kd.R_append k73 (w0 := w) w.heap.size rfl (.tmp 60) (.tmp 62) 69 73 (.agg #[(.int .i32 0), (.bool false), (.int .i64 0), (.bool false)]) 24 rfl Tryz.underlying69 ziu rfl (by decide) (by omega) (.slice A3 xs.length c3) xs (⟨⟨y.f0, x.f1, x.f2⟩, true⟩ : S73) [.int .i32 y.f0, .bool x.f1, .int .i64 x.f2, .bool true] (fun q => True ∧ q ≠ g8) (fun _ => False) rfl (by first | (go_simp; done) | (go_simp; rfl)) (zji _ _ _ (⟨⟨y.f0, x.f1, x.f2⟩, true⟩ : S73)) (fun _ hk => hk.elim) ?aF ?aO ?aB ?aS ?aL ?_; (case aF => exact fun q hq => ⟨trivial, fun he => absurd (zcp (BK BK8)) (Nat.not_lt.2 (he ▸ hq))⟩); (case aO => exact RB HZ.out); (case aB => exact BL HB); (case aS => exact zP (BL HB)); (case aL => exact HLN.out); intro v1 w5 ho2 hb2 hg2 hat2; have HO3 := K_ (Kd.R_mono (ok' := fun _ => True) ho2 (fun _ _ => trivial)); replace HO := K_ (Kd.R_over (RB HO.out) (RB HZ.out) (by decide) hg2); have BK5a := K_ (yW (BK BK5) hg2 HN5.out); have BK2a := K_ (yW (BK BK2) hg2 HN2.out); have BK3a := K_ (yW (BK BK3) hg2 HN3.out); replace HB := K_ hb2; clear ho2 hb2 hg2 hat2)))
    go_roundw
    case rel => exact ⟨k + 2, xs ++ [(⟨⟨y.f0, x.f1, x.f2⟩, true⟩ : S73)], by omega, by go_num, by rw [List.length_append]; simp; omega, RB HO.out, RB HO3.out, fun h => (HNS.out h).elim, BK BK5a, BK BK2a, BK BK3a, BL HB⟩
    case measure => simp [intOf]; omega
   obtain rfl : k = l.length := by omega
   have dlt : decide ((l.length : Int) < (l.length : Int)) = false := decide_eq_false (by omega)
   have HXS := K_ (show xP l → xs = l.map mk73 from fun h => by have := HST.out h; rw [List.take_length] at this; exact this)
   have hxl2 : xs.length ≤ 400 := by omega
   obtain ⟨A3, c3, rfl⟩ := Kd.R_slice HZ.out
   clear hll hcl HST HL
   go_wp2_with (fail)
   clear HO
   go_loopw [9, 10] (fun m i wr => ∃ (j : Nat) (sm : Int), j ≤ xs.length ∧ i = .int .i64 j ∧ m = .int .i64 sm ∧ (sm = -1 ∨ (0 ≤ sm ∧ sm < j)) ∧ (xP l → zay l → sm = -1) ∧ Kd.R k73 73 wr w.heap.size (fun _ => True) (.slice A3 xs.length c3) xs ∧ wr.heap[g5]? = some (.cells #[.int .i64 0, .int .i64 a1] 51 (0, 0)) ∧ wr.heap[g2]? = some (.cells Z26 26 (0, 0)) ∧ wr.heap[g3]? = some (.cells Z51 51 (0, 0)) ∧ Below w.heap.size w wr) (fun _ i _ => xs.length - (intOf i).toNat)
   case atStart => exact ⟨0, -1, Nat.zero_le _, rfl, rfl, .inl rfl, fun _ _ => rfl, RB HZ.out, BK BK5, BK BK2, BK BK3, BL HB⟩
   case round =>
    obtain ⟨j, sm, hj, rfl, rfl, hsm, hns, hz, hb5, hb2, hb3, hbw⟩ := hrel
    replace HZ := K_ hz
    have HNS := K_ hns
    have HSM := K_ hsm
    replace BK5 := K_ hb5
    replace BK2 := K_ hb2
    replace BK3 := K_ hb3
    replace HB := K_ hbw
    clear hz hns hsm hb5 hb2 hb3 hbw
    have hcl := (Kd.R_reads' HZ.out).2.1
    by_cases hlt : j < xs.length
    ·obtain ⟨x, hx⟩ : ∃ x, x = xs[j] := ⟨_, rfl⟩
     obtain ⟨ad, ea, h0, h1, h2, h3⟩ := zas (Kd.R_reads' HZ.out).2.2 (j : Int) (by omega) (by omega)
     rw [zcA hlt, ← hx] at h0 h1 h2 h3
     simp only [Int.toNat_natCast] at h0 h1 h2 h3
     have HX := K_ hx
     obtain rfl := ea
     clear hx
     have dlt : decide (((j : Nat) : Int) < (xs.length : Int)) = true := decide_eq_true (by omega)
     cases hst : zal x 59
     ·have HC : ∀ W, Aside0 (Calls Tryz.prog 56 #[.agg #[.int .i32 x.f0.f0, .bool x.f0.f1, .int .i64 x.f0.f2, .bool x.f1], .int .i32 59] W fun e w' => e = .returned (.bool false) ∧ Below W.heap.size W w') := fun W => ⟨by have h := zbu x 59 W; rw [hst] at h; exact h⟩
      clear hst
      go_wp2_with (go_at_call 56; refine ((HC _).out).mono ?_; rintro e w' ⟨rfl, hb⟩; replace HZ := K_ (Kd.R_below (RB HZ.out) hb); replace HB := zE HB hb; replace BK2 := zC BK2 hb; replace BK3 := zC BK3 hb; replace BK5 := zC BK5 hb; clear hb)
      go_roundw
      case rel => exact ⟨j + 1, sm, by omega, by go_num, rfl, by have := HSM.out; omega, HNS.out, RB HZ.out, BK BK5, BK BK2, BK BK3, BL HB⟩
      case measure => simp [intOf]; omega
     have HC : ∀ W, Aside0 (Calls Tryz.prog 56 #[.agg #[.int .i32 x.f0.f0, .bool x.f0.f1, .int .i64 x.f0.f2, .bool x.f1], .int .i32 59] W fun e w' => e = .returned (.bool true) ∧ Below W.heap.size W w') := fun W => ⟨by have h := zbu x 59 W; rw [hst] at h; exact h⟩
     have HNT := K_ (show xP l → zay l → False from fun q1 q2 => by
      have e := HXS.out q1
      have hm : x ∈ l.map mk73 := by rw [← e, HX.out]; exact List.getElem_mem hlt
      obtain ⟨t, ht, rfl⟩ := List.mem_map.1 hm
      rw [q2 t ht] at hst; cases hst)
     clear hst
     by_cases hs0 : 0 ≤ sm
     ·have dsm : decide (0 ≤ sm) = true := decide_eq_true hs0
      have hlt2 := hlt
      go_upto_region 22 with (go_at_call 56; refine ((HC _).out).mono ?_; rintro e w' ⟨rfl, hb⟩; replace HZ := K_ (Kd.R_below (RB HZ.out) hb); replace HB := zE HB hb; replace BK2 := zC BK2 hb; replace BK3 := zC BK3 hb; replace BK5 := zC BK5 hb; clear hb)
      clear h0 h1 h2 h3
      obtain ⟨ad2, ea, h0, h1, h2, h3⟩ := zas (Kd.R_reads' HZ.out).2.2 (j : Int) (by omega) (by omega)
      obtain rfl := Option.some.inj ea
      rw [zcA hlt, ← HX.out] at h0 h1 h2 h3
      simp only [Int.toNat_natCast] at h0 h1 h2 h3
      have H2 := K_ (Kd.R_ne HZ.out BK2.out (by decide))
      have H3 := K_ (Kd.R_ne HZ.out BK3.out (by decide))
      have hb2 : (ad.add (j * 4)).block ≠ g2 := by
       rw [zda]; intro e; exact H2.out (by simp [Value.ownBlock, e])
      have hb3 : (ad.add (j * 4)).block ≠ g3 := by
       rw [zda]; intro e; exact H3.out (by simp [Value.ownBlock, e])
      have HEV := K_ (show (4 : Int) ≠ 0 by decide)
      have HE := K_ (show ∀ l', Ev (fun k => zG.f k s) (l', 0, 0) → xP l' → zay l' → ∀ P0, xW (l'.map mk73) P0 → ¬ mixed (jH (uG (l'.map mk73) (uW (l'.map mk73)) l'.length)) (jH (uF (l'.map mk73) (uR (l'.map mk73)) l'.length)) (⟨2, 0⟩ :: jH (uG (l'.map mk73) (uW (l'.map mk73)) l'.length)) (jH (uF (l'.map mk73) (uR (l'.map mk73)) l'.length)) → False from fun l' h1 hns hsm _ _ _ => (by have e := zdr h1 HEV1.out; have e2 : l' = l := congrArg (fun r => r.1) e; rw [e2] at hns hsm; exact HNT.out hns hsm))
      refine vQ (n := 10) (S := fun w' => w'.cell? ⟨(ad.add (j * 4)).block, (ad.add (j * 4)).off + 2, none⟩ = some (.int .i64 x.f0.f2)) (ds := []) #[false, false, false, false, false, false, false, false, false, false] (by kernel_rfl) rfl rfl h2 (fun hHeld => ?_)
      refine yC (fun W => W.cell? ⟨(ad.add (j * 4)).block, (ad.add (j * 4)).off + 2, none⟩ = some (.int .i64 x.f0.f2) ∧ W.heap[g2]? = some (.cells Z26 26 (0, 0)) ∧ W.heap[g3]? = some (.cells Z51 51 (0, 0)) ∧ Below w.heap.size w W) ⟨h2, BK BK2, BK BK3, BL HB⟩ ?_
      clear hHeld
      rintro W ⟨hHeld, hb2, hb3, hbw⟩
      replace BK2 := K_ hb2
      replace BK3 := K_ hb3
      replace HB := K_ hbw
      clear hb2 hb3 hbw
      refine pw_ 0 77 (bb 10 1) ?_
      refine pw_ 1 78 (bb 10 3) ?_
      refine pw_ 2 79 (bb 10 7) ?_
      refine pw_ 3 80 (bb 10 15) ?_
      refine pw_ 4 81 (bb 10 31) ?_
      refine pw_ 5 82 (bb 10 63) ?_
      refine tw_ 6 83 (bb 10 127) hHeld ?_
      refine pw_ 7 84 (bb 10 255) ?_
      refine on_ 8 none (bb 10 511) (fun K hK => ?_)
      refine uC (g := g2) (cs := Z26) Z26 BK2 ?_ rfl rfl rfl rfl rfl yO rfl rfl
      intro w8 hbk hfar hbel
      have hHeld2 := zaq hfar (p := ⟨(ad.add (j * 4)).block, (ad.add (j * 4)).off + 2, none⟩) hb2 hHeld
      replace BK3 := K_ (hfar g3 _ (Ne.symm NB.out) BK3.out)
      replace BK2 := K_ hbk
      replace HB := K_ (hbel _ _ GE2.out HB.out)
      refine hK.out _ _ hHeld2 (fun _ => ?_)
      clear hK K hbk hfar hbel
      refine on_ 9 none (bb 10 1023) (fun K hK => ?_)
      refine uC (g := g3) (cs := Z51) #[.int .i64 4, .int .i64 x.f0.f2] BK3 ?_ rfl rfl rfl rfl rfl uT rfl rfl
      intro w9 hbk hfar hbel
      have hHeld3 := zaq hfar (p := ⟨(ad.add (j * 4)).block, (ad.add (j * 4)).off + 2, none⟩) hb3 hHeld2
      replace BK2 := K_ (hfar g2 _ NB.out BK2.out)
      replace BK3 := K_ hbk
      replace HB := K_ (hbel _ _ GE3.out HB.out)
      refine hK.out _ _ hHeld3 (fun _ => ?_)
      clear hK K hbk hfar hbel
      refine vS (by kernel_rfl) ?_
      go_wp2_with (fail)
      (
       refine bodyPost_ret (qR rfl _ _ g2 g3 26 51 Z26 #[.int .i64 4, .int .i64 x.f0.f2] (0, 0) (0, 0) _ _ rfl BK2.out Tryz.underlying26 rfl yO rfl BK3.out Tryz.underlying51 rfl uT) rfl ?_
       exact ⟨_, _, _, _, [], [], [], [], jL, false, 0, 0, 0, 4, x.f0.f2, rfl, Kd.R_nil _ _ _ _ _, Kd.R_nil _ _ _ _ _, Kd.R_nil _ _ _ _ _, Kd.R_nil _ _ _ _ _, BL HB, fun h => absurd h HEV.out, fun l' h1 h2 h3 P0 h4 h5 => (HE.out l' h1 h2 h3 P0 h4 h5).elim⟩)
     have dsm : decide (0 ≤ sm) = false := decide_eq_false hs0
     go_wp2_with (go_at_call 56; refine ((HC _).out).mono ?_; rintro e w' ⟨rfl, hb⟩; replace HZ := K_ (Kd.R_below (RB HZ.out) hb); replace HB := zE HB hb; replace BK2 := zC BK2 hb; replace BK3 := zC BK3 hb; replace BK5 := zC BK5 hb; clear hb)
     go_roundw
     case rel => exact ⟨j + 1, (j : Int), by omega, by go_num, rfl, by omega, fun h1 h2 => (HNT.out h1 h2).elim, RB HZ.out, BK BK5, BK BK2, BK BK3, BL HB⟩
     case measure => simp [intOf]; omega
    obtain rfl : j = xs.length := by omega
    have dlt : decide ((xs.length : Int) < (xs.length : Int)) = false := decide_eq_false (by omega)
    have hcl := (Kd.R_reads' HZ.out).2.1
    go_upto_if 88 with (fail)
    go_cut [11] from 87 to 91 (fun v wx => (∃ n : Nat, n ≤ xs.length ∧ (sm = -1 → n = xs.length) ∧ v = .slice A3 n c3) ∧ Kd.R k73 73 wx w.heap.size (fun _ => True) (.slice A3 xs.length c3) xs ∧ wx.heap[g5]? = some (.cells #[.int .i64 0, .int .i64 a1] 51 (0, 0)) ∧ wx.heap[g2]? = some (.cells Z26 26 (0, 0)) ∧ wx.heap[g3]? = some (.cells Z51 51 (0, 0)) ∧ Below w.heap.size w wx)
    case first =>
     by_cases hs0 : 0 ≤ sm
     ·have dsm : decide (0 ≤ sm) = true := decide_eq_true hs0
      obtain ⟨m, hm⟩ := Int.eq_ofNat_of_zero_le hs0
      have hml : m < xs.length := by have := HSM.out; omega
      subst hm
      have q1 : (0 : Int) ≤ (m : Int) := by omega
      have q2 : (m : Int) ≤ (c3 : Int) := by omega
      have q3 : m ≤ c3 := by omega
      have q4 : ((m : Int)).toNat = m := Int.toNat_natCast _
      go_wp2
      go_meet
      case rel => exact ⟨⟨m, by omega, by omega, rfl⟩, RB HZ.out, BK BK5, BK BK2, BK BK3, BL HB⟩
     have dsm : decide (0 ≤ sm) = false := decide_eq_false hs0
     go_wp2
     go_meet
     case rel => exact ⟨⟨xs.length, Nat.le_refl _, fun _ => rfl, rfl⟩, RB HZ.out, BK BK5, BK BK2, BK BK3, BL HB⟩
    case rest =>
     obtain ⟨⟨n, hn, hnx, rfl⟩, hz, hb5, hb2, hb3, hbw⟩ := hcut
     replace HZ := K_ hz
     replace BK5 := K_ hb5
     replace BK2 := K_ hb2
     replace BK3 := K_ hb3
     replace HB := K_ hbw
     have hy := Kd.R_take hz hn
     clear hz hb5 hb2 hb3 hbw
     obtain ⟨ys, hys⟩ : ∃ ys, ys = xs.take n := ⟨_, rfl⟩
     rw [← hys] at hy
     obtain rfl : n = ys.length := by rw [hys, List.length_take]; omega
     have HY := K_ hy
     have EQL := K_ (show ∀ l', Ev (fun k => zG.f k s) (l', 0, 0) → l' = l from fun l' h1 => congrArg (fun r => r.1) (zdr h1 HEV1.out))
     have HEQ := K_ (show xP l → zay l → ys = l.map mk73 from fun h1 h2 => by
      have h3 := hnx (HNS.out h1 h2)
      rw [hys, h3, List.take_length]; exact HXS.out h1)
     clear hy hys hnx
     go_upto_region 28 with (first
      | (go_at_call 57; refine (zbT A3 c3 ys 0 true _ (Kd.R_reads' (RB HY.out)).2.2 (Kd.R_reads' HY.out).2.1 (by omega)).mono ?_; rintro e9 w' ⟨v1, v2, px, sx, PN, at_, pad, long, E2, a2, rfl, ho1, ho2, hb, hpost, hex⟩; obtain ⟨B1, d1, rfl⟩ := Kd.R_slice ho1; obtain ⟨B2, d2, rfl⟩ := Kd.R_slice ho2; have HO1 := K_ (Kd.R_lower ho1 (zP (BL HB))); have HO2 := K_ (Kd.R_lower ho2 (zP (BL HB))); have HPO := K_ hpost; have HEX := K_ hex; replace HZ := K_ (Kd.R_below (RB HZ.out) hb); replace HB := zE HB hb; replace BK2 := zC BK2 hb; replace BK3 := zC BK3 hb; replace BK5 := zC BK5 hb; clear hb ho1 ho2 hpost hex)
      | ((with_reducible refine zF (N := 12) rfl ?_); refine be_ 12 Z76 76 ?_; intro g12 hg w2 hbox hb; have BK12 := K_ hbox; have GE12 := ge_ hg HB; have N2L := nb_ hg BK2; have N3L := nb_ hg BK3; have N5L := nb_ hg BK5; replace HZ := K_ (Kd.R_below (RB HZ.out) hb); replace HO1 := K_ (Kd.R_below (RB HO1.out) hb); replace HO2 := K_ (Kd.R_below (RB HO2.out) hb); replace HB := zE HB hb; replace BK2 := zC BK2 hb; replace BK3 := zC BK3 hb; replace BK5 := zC BK5 hb; clear hb hbox hg)
      | ((with_reducible refine zW (p := 12) rfl ?_); refine so_ (g := g12) (cs := Z76) (uS (.slice B1 px.length d1) (.slice B2 sx.length d2) PN at_ pad long) ⟨BK BK12⟩ ?_ rfl rfl rfl rfl rfl zbA rfl rfl; intro w9 hbk hfar hbel; replace HZ := K_ (uA (RB HZ.out) (BK BK12) (by decide) hfar); replace HO1 := K_ (uA (RB HO1.out) (BK BK12) (by decide) hfar); replace HO2 := K_ (uA (RB HO2.out) (BK BK12) (by decide) hfar); replace BK2 := K_ (hfar _ _ N2L.out (BK BK2)); replace BK3 := K_ (hfar _ _ N3L.out (BK BK3)); replace BK5 := K_ (hfar _ _ N5L.out (BK BK5)); replace BK12 := K_ hbk; replace HB := K_ (hbel _ _ GE12.out (BL HB)); clear hbk hfar hbel)
      | ((with_reducible refine zW (p := 5) rfl ?_); refine so_ (g := g5) (cs := #[.int .i64 0, .int .i64 a1]) (#[.int .i64 E2, .int .i64 a2]) ⟨BK BK5⟩ ?_ rfl rfl rfl rfl rfl uT rfl rfl; intro w9 hbk hfar hbel; replace HZ := K_ (uA (RB HZ.out) (BK BK5) (by decide) hfar); replace HO1 := K_ (uA (RB HO1.out) (BK BK5) (by decide) hfar); replace HO2 := K_ (uA (RB HO2.out) (BK BK5) (by decide) hfar); replace BK2 := K_ (hfar _ _ N2F.out (BK BK2)); replace BK3 := K_ (hfar _ _ N3F.out (BK BK3)); replace BK12 := K_ (hfar _ _ (Ne.symm N5L.out) (BK BK12)); replace BK5 := K_ hbk; replace HB := K_ (hbel _ _ GE5.out (BL HB)); clear hbk hfar hbel))
     obtain ⟨⟨q0, q1⟩, q2, q3⟩ := ce2 BK5
     by_cases hE : E2 = 0
     ·subst hE
      have HPOK := K_ (HPO.out rfl)
      clear HPO HEX
      have hp1 : px.length ≤ 400 := by
       rw [HPOK.out.2.1]; refine Nat.le_trans (zde _) (Nat.le_trans (zeO _ _ _) (by omega))
      have hp2 : sx.length ≤ 400 := by
       rw [HPOK.out.2.2]; refine Nat.le_trans (zde _) (Nat.le_trans (zeI _ _ _) (by omega))
      go_upto_region 31 with (first
       | ((with_reducible refine zF (N := 103) rfl ?_); refine lm_ (g := g12) (cs := uS (.slice B1 px.length d1) (.slice B2 sx.length d2) PN at_ pad long) 2 PN.cs _ ⟨BK BK12⟩ ?_ rfl rfl rfl Tryz.underlying26 rfl yO (zmc _ _ _ _ _ _))
       | ((with_reducible refine zF (N := 13) rfl ?_); refine be_ 13 Z26 26 ?_; intro g13 hg w3 hbox hb; have BK13 := K_ hbox; have GE13 := ge_ hg HB; have N2P := nb_ hg BK2; have N3P := nb_ hg BK3; have N12P := nb_ hg BK12; replace HZ := K_ (Kd.R_below (RB HZ.out) hb); replace HO1 := K_ (Kd.R_below (RB HO1.out) hb); replace HO2 := K_ (Kd.R_below (RB HO2.out) hb); replace HB := zE HB hb; replace BK2 := zC BK2 hb; replace BK3 := zC BK3 hb; replace BK12 := zC BK12 hb; clear hb hbox hg)
       | ((with_reducible refine zW (p := 13) rfl ?_); refine so_ (g := g13) (cs := Z26) (PN.cs) ⟨BK BK13⟩ ?_ rfl rfl rfl rfl rfl yO rfl rfl; intro w9 hbk hfar hbel; replace HZ := K_ (uA (RB HZ.out) (BK BK13) (by decide) hfar); replace HO1 := K_ (uA (RB HO1.out) (BK BK13) (by decide) hfar); replace HO2 := K_ (uA (RB HO2.out) (BK BK13) (by decide) hfar); replace BK2 := K_ (hfar _ _ N2P.out (BK BK2)); replace BK3 := K_ (hfar _ _ N3P.out (BK BK3)); replace BK12 := K_ (hfar _ _ N12P.out (BK BK12)); replace BK13 := K_ hbk; replace HB := K_ (hbel _ _ GE13.out (BL HB)); clear hbk hfar hbel))
      clear q0 q1 q2 q3
      have HEX2 := K_ True.intro
      refine vQ (n := 16) (S := fun W => W.cell? ⟨g12, 0, none⟩ = some (.slice B1 px.length d1) ∧ W.cell? ⟨g12, 1, none⟩ = some (.slice B2 sx.length d2) ∧ W.cell? ⟨g12, 22, none⟩ = some (.int .i64 at_) ∧ W.cell? ⟨g12, 23, none⟩ = some (.int .i32 pad)) (ds := []) #[false, false, false, false, false, false, false, false, false, false, false, false, false, false, false, false] (by kernel_rfl) rfl rfl ⟨(zD (BK BK12) 0).trans rfl, (zD (BK BK12) 1).trans rfl, (zD (BK BK12) 22).trans rfl, (zD (BK BK12) 23).trans rfl⟩ (fun hHeld => ?_)
      refine yC (fun W => W.heap[g12]? = some (.cells (uS (.slice B1 px.length d1) (.slice B2 sx.length d2) PN at_ pad long) 76 (0, 0)) ∧ W.heap[g13]? = some (.cells (PN.cs) 26 (0, 0)) ∧ Kd.R k73 73 W w.heap.size (fun _ => True) (.slice A3 xs.length c3) xs ∧ Kd.R k80 80 W w.heap.size (fun _ => True) (.slice B1 px.length d1) px ∧ Kd.R k80 80 W w.heap.size (fun _ => True) (.slice B2 sx.length d2) sx ∧ W.heap[g2]? = some (.cells Z26 26 (0, 0)) ∧ W.heap[g3]? = some (.cells Z51 51 (0, 0)) ∧ Below w.heap.size w W) ⟨BK BK12, BK BK13, RB HZ.out, RB HO1.out, RB HO2.out, BK BK2, BK BK3, BL HB⟩ ?_
      clear hHeld
      rintro W ⟨hb12, hb13, hz, ho1, ho2, hb2, hb3, hbw⟩
      replace BK12 := K_ hb12
      replace BK13 := K_ hb13
      replace HZ := K_ hz
      replace HO1 := K_ ho1
      replace HO2 := K_ ho2
      replace BK2 := K_ hb2
      replace BK3 := K_ hb3
      replace HB := K_ hbw
      clear hb12 hb13 hz ho1 ho2 hb2 hb3 hbw
      have hHeld := (show W.cell? ⟨g12, 0, none⟩ = some (.slice B1 px.length d1) ∧ W.cell? ⟨g12, 1, none⟩ = some (.slice B2 sx.length d2) ∧ W.cell? ⟨g12, 22, none⟩ = some (.int .i64 at_) ∧ W.cell? ⟨g12, 23, none⟩ = some (.int .i32 pad) from ⟨(zD BK12.out 0).trans rfl, (zD BK12.out 1).trans rfl, (zD BK12.out 22).trans rfl, (zD BK12.out 23).trans rfl⟩)
      refine pw_ 0 104 (bb 16 1) ?_
      refine pw_ 2 106 (bb 16 5) ?_
      refine pw_ 4 108 (bb 16 21) ?_
      refine pw_ 6 110 (bb 16 85) ?_
      refine tw_ 1 105 (bb 16 87) hHeld ?_
      refine tw_ 3 107 (bb 16 95) hHeld ?_
      refine tw_ 5 109 (bb 16 127) hHeld ?_
      refine tw_ 7 111 (bb 16 255) hHeld ?_
      refine pw_ 8 112 (bb 16 511) ?_
      refine on_ 9 none (bb 16 1023) (fun K hK => ?_)
      have hs : W.cell? ⟨g13, 0, none⟩ = some (.slice none 0 0) := (zD BK13.out 0).trans rfl
      have hf := zM BK13.out 0
      refine zbm (w1 := W.setCell ⟨g13, 0, none⟩ (.slice B1 px.length d1)) (by rfl) rfl (by go_simp; try rfl) ?_
      refine hK.out _ _ (show (W.setCell ⟨g13, 0, none⟩ (.slice B1 px.length d1)).cell? ⟨g12, 0, none⟩ = some (.slice B1 px.length d1) ∧ (W.setCell ⟨g13, 0, none⟩ (.slice B1 px.length d1)).cell? ⟨g12, 1, none⟩ = some (.slice B2 sx.length d2) ∧ (W.setCell ⟨g13, 0, none⟩ (.slice B1 px.length d1)).cell? ⟨g12, 22, none⟩ = some (.int .i64 at_) ∧ (W.setCell ⟨g13, 0, none⟩ (.slice B1 px.length d1)).cell? ⟨g12, 23, none⟩ = some (.int .i32 pad) from ⟨(zD (zR BK12.out N12P.out _) 0).trans rfl, (zD (zR BK12.out N12P.out _) 1).trans rfl, (zD (zR BK12.out N12P.out _) 22).trans rfl, (zD (zR BK12.out N12P.out _) 23).trans rfl⟩) (fun _ => ?_)
      clear hK K hs hf hHeld
      refine yC (fun W => W.heap[g12]? = some (.cells (uS (.slice B1 px.length d1) (.slice B2 sx.length d2) PN at_ pad long) 76 (0, 0)) ∧ W.heap[g13]? = some (.cells (xY (.slice B1 px.length d1) (.slice none 0 0) false (.slice none 0 0) (.slice none 0 0) PN 0 0 0) 26 (0, 0)) ∧ Kd.R k73 73 W w.heap.size (fun _ => True) (.slice A3 xs.length c3) xs ∧ Kd.R k80 80 W w.heap.size (fun _ => True) (.slice B1 px.length d1) px ∧ Kd.R k80 80 W w.heap.size (fun _ => True) (.slice B2 sx.length d2) sx ∧ W.heap[g2]? = some (.cells Z26 26 (0, 0)) ∧ W.heap[g3]? = some (.cells Z51 51 (0, 0)) ∧ Below w.heap.size w W) ⟨zR BK12.out N12P.out _, xR BK13.out rfl, Kd.R_set HZ.out BK13.out (by decide) _ _, Kd.R_set HO1.out BK13.out (by decide) _ _, Kd.R_set HO2.out BK13.out (by decide) _ _, zR BK2.out N2P.out _, zR BK3.out N3P.out _, BL HB⟩ ?_
      clear BK12 BK13 HZ HO1 HO2 BK2 BK3 HB
      rintro W ⟨hb12, hb13, hz, ho1, ho2, hb2, hb3, hbw⟩
      have BK12 := K_ hb12
      have BK13 := K_ hb13
      have HZ := K_ hz
      have HO1 := K_ ho1
      have HO2 := K_ ho2
      have BK2 := K_ hb2
      have BK3 := K_ hb3
      have HB := K_ hbw
      clear hb12 hb13 hz ho1 ho2 hb2 hb3 hbw
      have hHeld := (show W.cell? ⟨g12, 0, none⟩ = some (.slice B1 px.length d1) ∧ W.cell? ⟨g12, 1, none⟩ = some (.slice B2 sx.length d2) ∧ W.cell? ⟨g12, 22, none⟩ = some (.int .i64 at_) ∧ W.cell? ⟨g12, 23, none⟩ = some (.int .i32 pad) from ⟨(zD BK12.out 0).trans rfl, (zD BK12.out 1).trans rfl, (zD BK12.out 22).trans rfl, (zD BK12.out 23).trans rfl⟩)
      refine pw_ 10 113 (bb 16 2047) ?_
      refine on_ 11 none (bb 16 4095) (fun K hK => ?_)
      have hs : W.cell? ⟨g13, 1, none⟩ = some (.slice none 0 0) := (zD BK13.out 1).trans rfl
      have hf := zM BK13.out 1
      refine zbm (w1 := W.setCell ⟨g13, 1, none⟩ (.slice B2 sx.length d2)) (by rfl) rfl (by go_simp; try rfl) ?_
      refine hK.out _ _ (show (W.setCell ⟨g13, 1, none⟩ (.slice B2 sx.length d2)).cell? ⟨g12, 0, none⟩ = some (.slice B1 px.length d1) ∧ (W.setCell ⟨g13, 1, none⟩ (.slice B2 sx.length d2)).cell? ⟨g12, 1, none⟩ = some (.slice B2 sx.length d2) ∧ (W.setCell ⟨g13, 1, none⟩ (.slice B2 sx.length d2)).cell? ⟨g12, 22, none⟩ = some (.int .i64 at_) ∧ (W.setCell ⟨g13, 1, none⟩ (.slice B2 sx.length d2)).cell? ⟨g12, 23, none⟩ = some (.int .i32 pad) from ⟨(zD (zR BK12.out N12P.out _) 0).trans rfl, (zD (zR BK12.out N12P.out _) 1).trans rfl, (zD (zR BK12.out N12P.out _) 22).trans rfl, (zD (zR BK12.out N12P.out _) 23).trans rfl⟩) (fun _ => ?_)
      clear hK K hs hf hHeld
      refine yC (fun W => W.heap[g12]? = some (.cells (uS (.slice B1 px.length d1) (.slice B2 sx.length d2) PN at_ pad long) 76 (0, 0)) ∧ W.heap[g13]? = some (.cells (xY (.slice B1 px.length d1) (.slice B2 sx.length d2) false (.slice none 0 0) (.slice none 0 0) PN 0 0 0) 26 (0, 0)) ∧ Kd.R k73 73 W w.heap.size (fun _ => True) (.slice A3 xs.length c3) xs ∧ Kd.R k80 80 W w.heap.size (fun _ => True) (.slice B1 px.length d1) px ∧ Kd.R k80 80 W w.heap.size (fun _ => True) (.slice B2 sx.length d2) sx ∧ W.heap[g2]? = some (.cells Z26 26 (0, 0)) ∧ W.heap[g3]? = some (.cells Z51 51 (0, 0)) ∧ Below w.heap.size w W) ⟨zR BK12.out N12P.out _, xR BK13.out rfl, Kd.R_set HZ.out BK13.out (by decide) _ _, Kd.R_set HO1.out BK13.out (by decide) _ _, Kd.R_set HO2.out BK13.out (by decide) _ _, zR BK2.out N2P.out _, zR BK3.out N3P.out _, BL HB⟩ ?_
      clear BK12 BK13 HZ HO1 HO2 BK2 BK3 HB
      rintro W ⟨hb12, hb13, hz, ho1, ho2, hb2, hb3, hbw⟩
      have BK12 := K_ hb12
      have BK13 := K_ hb13
      have HZ := K_ hz
      have HO1 := K_ ho1
      have HO2 := K_ ho2
      have BK2 := K_ hb2
      have BK3 := K_ hb3
      have HB := K_ hbw
      clear hb12 hb13 hz ho1 ho2 hb2 hb3 hbw
      have hHeld := (show W.cell? ⟨g12, 0, none⟩ = some (.slice B1 px.length d1) ∧ W.cell? ⟨g12, 1, none⟩ = some (.slice B2 sx.length d2) ∧ W.cell? ⟨g12, 22, none⟩ = some (.int .i64 at_) ∧ W.cell? ⟨g12, 23, none⟩ = some (.int .i32 pad) from ⟨(zD BK12.out 0).trans rfl, (zD BK12.out 1).trans rfl, (zD BK12.out 22).trans rfl, (zD BK12.out 23).trans rfl⟩)
      refine pw_ 12 114 (bb 16 8191) ?_
      refine on_ 13 none (bb 16 16383) (fun K hK => ?_)
      have hs : W.cell? ⟨g13, 17, none⟩ = some (.int .i64 0) := (zD BK13.out 17).trans rfl
      have hf := zM BK13.out 17
      refine zbm (w1 := W.setCell ⟨g13, 17, none⟩ (.int .i64 at_)) (by rfl) rfl (by go_simp; try rfl) ?_
      refine hK.out _ _ (show (W.setCell ⟨g13, 17, none⟩ (.int .i64 at_)).cell? ⟨g12, 0, none⟩ = some (.slice B1 px.length d1) ∧ (W.setCell ⟨g13, 17, none⟩ (.int .i64 at_)).cell? ⟨g12, 1, none⟩ = some (.slice B2 sx.length d2) ∧ (W.setCell ⟨g13, 17, none⟩ (.int .i64 at_)).cell? ⟨g12, 22, none⟩ = some (.int .i64 at_) ∧ (W.setCell ⟨g13, 17, none⟩ (.int .i64 at_)).cell? ⟨g12, 23, none⟩ = some (.int .i32 pad) from ⟨(zD (zR BK12.out N12P.out _) 0).trans rfl, (zD (zR BK12.out N12P.out _) 1).trans rfl, (zD (zR BK12.out N12P.out _) 22).trans rfl, (zD (zR BK12.out N12P.out _) 23).trans rfl⟩) (fun _ => ?_)
      clear hK K hs hf hHeld
      refine yC (fun W => W.heap[g12]? = some (.cells (uS (.slice B1 px.length d1) (.slice B2 sx.length d2) PN at_ pad long) 76 (0, 0)) ∧ W.heap[g13]? = some (.cells (xY (.slice B1 px.length d1) (.slice B2 sx.length d2) false (.slice none 0 0) (.slice none 0 0) PN at_ 0 0) 26 (0, 0)) ∧ Kd.R k73 73 W w.heap.size (fun _ => True) (.slice A3 xs.length c3) xs ∧ Kd.R k80 80 W w.heap.size (fun _ => True) (.slice B1 px.length d1) px ∧ Kd.R k80 80 W w.heap.size (fun _ => True) (.slice B2 sx.length d2) sx ∧ W.heap[g2]? = some (.cells Z26 26 (0, 0)) ∧ W.heap[g3]? = some (.cells Z51 51 (0, 0)) ∧ Below w.heap.size w W) ⟨zR BK12.out N12P.out _, xR BK13.out rfl, Kd.R_set HZ.out BK13.out (by decide) _ _, Kd.R_set HO1.out BK13.out (by decide) _ _, Kd.R_set HO2.out BK13.out (by decide) _ _, zR BK2.out N2P.out _, zR BK3.out N3P.out _, BL HB⟩ ?_
      clear BK12 BK13 HZ HO1 HO2 BK2 BK3 HB
      rintro W ⟨hb12, hb13, hz, ho1, ho2, hb2, hb3, hbw⟩
      have BK12 := K_ hb12
      have BK13 := K_ hb13
      have HZ := K_ hz
      have HO1 := K_ ho1
      have HO2 := K_ ho2
      have BK2 := K_ hb2
      have BK3 := K_ hb3
      have HB := K_ hbw
      clear hb12 hb13 hz ho1 ho2 hb2 hb3 hbw
      have hHeld := (show W.cell? ⟨g12, 0, none⟩ = some (.slice B1 px.length d1) ∧ W.cell? ⟨g12, 1, none⟩ = some (.slice B2 sx.length d2) ∧ W.cell? ⟨g12, 22, none⟩ = some (.int .i64 at_) ∧ W.cell? ⟨g12, 23, none⟩ = some (.int .i32 pad) from ⟨(zD BK12.out 0).trans rfl, (zD BK12.out 1).trans rfl, (zD BK12.out 22).trans rfl, (zD BK12.out 23).trans rfl⟩)
      refine pw_ 14 115 (bb 16 32767) ?_
      refine on_ 15 none (bb 16 65535) (fun K hK => ?_)
      have hs : W.cell? ⟨g13, 18, none⟩ = some (.int .i32 0) := (zD BK13.out 18).trans rfl
      have hf := zM BK13.out 18
      refine zbm (w1 := W.setCell ⟨g13, 18, none⟩ (.int .i32 pad)) (by rfl) rfl (by go_simp; try rfl) ?_
      refine hK.out _ _ (show (W.setCell ⟨g13, 18, none⟩ (.int .i32 pad)).cell? ⟨g12, 0, none⟩ = some (.slice B1 px.length d1) ∧ (W.setCell ⟨g13, 18, none⟩ (.int .i32 pad)).cell? ⟨g12, 1, none⟩ = some (.slice B2 sx.length d2) ∧ (W.setCell ⟨g13, 18, none⟩ (.int .i32 pad)).cell? ⟨g12, 22, none⟩ = some (.int .i64 at_) ∧ (W.setCell ⟨g13, 18, none⟩ (.int .i32 pad)).cell? ⟨g12, 23, none⟩ = some (.int .i32 pad) from ⟨(zD (zR BK12.out N12P.out _) 0).trans rfl, (zD (zR BK12.out N12P.out _) 1).trans rfl, (zD (zR BK12.out N12P.out _) 22).trans rfl, (zD (zR BK12.out N12P.out _) 23).trans rfl⟩) (fun _ => ?_)
      clear hK K hs hf hHeld
      refine yC (fun W => W.heap[g12]? = some (.cells (uS (.slice B1 px.length d1) (.slice B2 sx.length d2) PN at_ pad long) 76 (0, 0)) ∧ W.heap[g13]? = some (.cells (xY (.slice B1 px.length d1) (.slice B2 sx.length d2) false (.slice none 0 0) (.slice none 0 0) PN at_ pad 0) 26 (0, 0)) ∧ Kd.R k73 73 W w.heap.size (fun _ => True) (.slice A3 xs.length c3) xs ∧ Kd.R k80 80 W w.heap.size (fun _ => True) (.slice B1 px.length d1) px ∧ Kd.R k80 80 W w.heap.size (fun _ => True) (.slice B2 sx.length d2) sx ∧ W.heap[g2]? = some (.cells Z26 26 (0, 0)) ∧ W.heap[g3]? = some (.cells Z51 51 (0, 0)) ∧ Below w.heap.size w W) ⟨zR BK12.out N12P.out _, xR BK13.out rfl, Kd.R_set HZ.out BK13.out (by decide) _ _, Kd.R_set HO1.out BK13.out (by decide) _ _, Kd.R_set HO2.out BK13.out (by decide) _ _, zR BK2.out N2P.out _, zR BK3.out N3P.out _, BL HB⟩ ?_
      clear BK12 BK13 HZ HO1 HO2 BK2 BK3 HB
      rintro W ⟨hb12, hb13, hz, ho1, ho2, hb2, hb3, hbw⟩
      have BK12 := K_ hb12
      have BK13 := K_ hb13
      have HZ := K_ hz
      have HO1 := K_ ho1
      have HO2 := K_ ho2
      have BK2 := K_ hb2
      have BK3 := K_ hb3
      have HB := K_ hbw
      clear hb12 hb13 hz ho1 ho2 hb2 hb3 hbw
      have hHeld := (show W.cell? ⟨g12, 0, none⟩ = some (.slice B1 px.length d1) ∧ W.cell? ⟨g12, 1, none⟩ = some (.slice B2 sx.length d2) ∧ W.cell? ⟨g12, 22, none⟩ = some (.int .i64 at_) ∧ W.cell? ⟨g12, 23, none⟩ = some (.int .i32 pad) from ⟨(zD BK12.out 0).trans rfl, (zD BK12.out 1).trans rfl, (zD BK12.out 22).trans rfl, (zD BK12.out 23).trans rfl⟩)
      refine vS (by kernel_rfl) ?_
      clear hHeld
      have e0 : W.cell? ⟨g12, 0, none⟩ = some (.slice B1 px.length d1) := (zD BK12.out 0).trans rfl
      have e1 : W.cell? ⟨g12, 1, none⟩ = some (.slice B2 sx.length d2) := (zD BK12.out 1).trans rfl
      have e22 : W.cell? ⟨g12, 22, none⟩ = some (.int .i64 at_) := (zD BK12.out 22).trans rfl
      have e24 : W.cell? ⟨g12, 24, none⟩ = some (.int .i64 long) := (zD BK12.out 24).trans rfl
      have s19 : W.cell? ⟨g13, 19, none⟩ = some (.int .i64 0) := (zD BK13.out 19).trans rfl
      have f19 := zM BK13.out 19
      go_upto_if 118 with (fail)
      go_cut [] from 116 to 129 (fun wx => ∃ wd : Int, wx.heap[g12]? = some (.cells (uS (.slice B1 px.length d1) (.slice B2 sx.length d2) PN at_ pad long) 76 (0, 0)) ∧ wx.heap[g13]? = some (.cells (xY (.slice B1 px.length d1) (.slice B2 sx.length d2) false (.slice none 0 0) (.slice none 0 0) PN at_ pad wd) 26 (0, 0)) ∧ Kd.R k73 73 wx w.heap.size (fun _ => True) (.slice A3 xs.length c3) xs ∧ Kd.R k80 80 wx w.heap.size (fun _ => True) (.slice B1 px.length d1) px ∧ Kd.R k80 80 wx w.heap.size (fun _ => True) (.slice B2 sx.length d2) sx ∧ wx.heap[g2]? = some (.cells Z26 26 (0, 0)) ∧ wx.heap[g3]? = some (.cells Z51 51 (0, 0)) ∧ Below w.heap.size w wx)
      case first =>
       by_cases ha : 0 < at_
       ·have da : decide (0 < at_) = true := decide_eq_true ha
        go_wp2
        go_meet
        case rel => exact ⟨_, zR BK12.out N12P.out _, xR BK13.out rfl, Kd.R_set HZ.out BK13.out (by decide) _ _, Kd.R_set HO1.out BK13.out (by decide) _ _, Kd.R_set HO2.out BK13.out (by decide) _ _, zR BK2.out N2P.out _, zR BK3.out N3P.out _, BL HB⟩
       have da : decide (0 < at_) = false := decide_eq_false ha
       go_wp2
       go_meet
       case rel => exact ⟨0, BK BK12, BK BK13, RB HZ.out, RB HO1.out, RB HO2.out, BK BK2, BK BK3, BL HB⟩
      case rest =>
       obtain ⟨wd, hb12, hb13, hz, ho1, ho2, hb2, hb3, hbw⟩ := hcut
       clear e0 e1 e22 e24 s19 f19
       replace BK12 := K_ hb12
       replace BK13 := K_ hb13
       replace HZ := K_ hz
       replace HO1 := K_ ho1
       replace HO2 := K_ ho2
       replace BK2 := K_ hb2
       replace BK3 := K_ hb3
       replace HB := K_ hbw
       clear hb12 hb13 hz ho1 ho2 hb2 hb3 hbw
       have e0 := (show wc.cell? ⟨g12, 0, none⟩ = some (.slice B1 px.length d1) from (zD BK12.out 0).trans rfl)
       have HLEN := K_ (show (([⟨2, 0⟩] : List S80).length + px.length) * 16 ≤ 140737488355328 by simp; omega)
       go_upto_region 35 with (first
        | ((with_reducible refine zF (N := 131) rfl ?_); refine Kd.R_lit k80 (w0 := w) w.heap.size 80 ?hg (N := 131) ?hd (xs := ([⟨2, 0⟩] : List S80)) (inner := [.int .i64 2, .int .i32 0]) (ok := fun _ => True) (okp := fun _ => True) ?hr ?hp (fun _ hk => hk) trivial (BL HB) (zP (BL HB)) (by simp) ?_; (case hd => rfl); (case hg => rfl); (case hr => first | (go_simp; done) | (go_simp; rfl)); (case hp => exact zon _ _ _ (⟨2, 0⟩ : S80)); intro v5 w6 ho5 hb5 hg5 hnew; obtain ⟨b5, hv5, hb5s⟩ := hnew; have hbl := Below.grown (Below.refl _ _) hg5 (Nat.le_refl _) (fun _ h => by cases h); replace HO1 := K_ (Kd.R_elder' (RB HO1.out) (fun k hk => by rw [hv5] at hk; cases hk; exact hb5s) hbl); replace HO2 := K_ (Kd.R_elder' (RB HO2.out) (fun k hk => by rw [hv5] at hk; cases hk; exact hb5s) hbl); replace HZ := K_ (Kd.R_below (RB HZ.out) hbl); replace BK12 := zC BK12 hbl; replace BK13 := zC BK13 hbl; replace BK2 := zC BK2 hbl; replace BK3 := zC BK3 hbl; replace HB := K_ hb5; have HO5 := K_ ho5; clear ho5 hb5 hg5 hv5 hb5s hbl e0; have e0 := (show w6.cell? ⟨g12, 0, none⟩ = some (.slice B1 px.length d1) from (zD BK12.out 0).trans rfl))
        | ((with_reducible refine jE (b := .append) (xs := #[.tmp 131, .tmp 133]) rfl ?_); at_builtin; (refine Kd.R_append_rows k80 (w0 := w) w.heap.size rfl (.tmp 131) (.tmp 133) 24 80 (.agg #[(.int .i64 0), (.int .i32 0)]) 16 rfl Tryz.underlying24 zpb rfl (by decide) (by omega) v5 ([⟨2, 0⟩] : List S80) px B1 px.length d1 (fun _ => True) (fun _ => False) rfl rfl ?aO ?aR (fun _ _ h => h) (fun _ h => h.elim) (fun _ _ => trivial) ?aB ?aS ?aL ?_; (case aO => exact RB HO5.out); (case aR => exact (Kd.R_reads' HO1.out).2.2); (case aB => exact BL HB); (case aS => exact zP (BL HB)); (case aL => exact HLEN.out); intro v6 w7 ho6 hb6 hg6 hat6; obtain ⟨A6, c6, rfl⟩ := Kd.R_slice ho6; have HO6 := K_ ho6; replace HO1 := K_ (Kd.R_mono (ok' := fun _ => True) (Kd.R_grown HO1.out hg6 (fun k hk => hk.2)) (fun _ _ => trivial)); replace HO2 := K_ (Kd.R_mono (ok' := fun _ => True) (Kd.R_grown HO2.out hg6 (fun k hk => hk.2)) (fun _ _ => trivial)); replace HZ := K_ (Kd.R_over HZ.out HO5.out (by decide) hg6); replace BK12 := K_ (yW BK12.out hg6 (Kd.R_ne HO5.out BK12.out (by decide))); replace BK13 := K_ (yW BK13.out hg6 (Kd.R_ne HO5.out BK13.out (by decide))); replace BK2 := K_ (yW BK2.out hg6 (Kd.R_ne HO5.out BK2.out (by decide))); replace BK3 := K_ (yW BK3.out hg6 (Kd.R_ne HO5.out BK3.out (by decide))); replace HB := K_ hb6; clear ho6 hb6 hg6 hat6 HO5; have s3 := (show w7.cell? ⟨g13, 3, none⟩ = some (.slice none 0 0) from (zD BK13.out 3).trans rfl); have f3 := zM BK13.out 3)))
       refine zbp (fun W => Kd.R k80 80 W w.heap.size (fun _ => True) (.slice A6 ([(⟨2, 0⟩ : S80)] ++ px).length c6) ([⟨2, 0⟩] ++ px) ∧ W.heap[g12]? = some (.cells (uS (.slice B1 px.length d1) (.slice B2 sx.length d2) PN at_ pad long) 76 (0, 0)) ∧ W.heap[g13]? = some (.cells (xY (.slice B1 px.length d1) (.slice B2 sx.length d2) false (.slice A6 ([(⟨2, 0⟩ : S80)] ++ px).length c6) (.slice none 0 0) PN at_ pad wd) 26 (0, 0)) ∧ Kd.R k73 73 W w.heap.size (fun _ => True) (.slice A3 xs.length c3) xs ∧ Kd.R k80 80 W w.heap.size (fun _ => True) (.slice B1 px.length d1) px ∧ Kd.R k80 80 W w.heap.size (fun _ => True) (.slice B2 sx.length d2) sx ∧ W.heap[g2]? = some (.cells Z26 26 (0, 0)) ∧ W.heap[g3]? = some (.cells Z51 51 (0, 0)) ∧ Below w.heap.size w W) ⟨Kd.R_set HO6.out BK13.out (by decide) _ _, zR BK12.out N12P.out _, xR BK13.out rfl, Kd.R_set HZ.out BK13.out (by decide) _ _, Kd.R_set HO1.out BK13.out (by decide) _ _, Kd.R_set HO2.out BK13.out (by decide) _ _, zR BK2.out N2P.out _, zR BK3.out N3P.out _, BL HB⟩ ?_
       clear e0 s3 f3 HO6 BK12 BK13 HZ HO1 HO2 BK2 BK3 HB
       rintro W5 ⟨ho6, hb12, hb13, hz, ho1, ho2, hb2, hb3, hbw⟩
       have HO6 := K_ ho6
       have BK12 := K_ hb12
       have BK13 := K_ hb13
       have HZ := K_ hz
       have HO1 := K_ ho1
       have HO2 := K_ ho2
       have BK2 := K_ hb2
       have BK3 := K_ hb3
       have HB := K_ hbw
       clear hb12 hb13 hz ho1 ho2 hb2 hb3 hbw
       clear ho6
       have e1 := (show W5.cell? ⟨g12, 1, none⟩ = some (.slice B2 sx.length d2) from (zD BK12.out 1).trans rfl)
       have s4 := (show W5.cell? ⟨g13, 4, none⟩ = some (.slice none 0 0) from (zD BK13.out 4).trans rfl)
       have f4 := zM BK13.out 4
       go_upto_if 140 with (fail)
       refine zbp (fun W => Kd.R k80 80 W w.heap.size (fun _ => True) (.slice A6 ([(⟨2, 0⟩ : S80)] ++ px).length c6) ([⟨2, 0⟩] ++ px) ∧ W.heap[g12]? = some (.cells (uS (.slice B1 px.length d1) (.slice B2 sx.length d2) PN at_ pad long) 76 (0, 0)) ∧ W.heap[g13]? = some (.cells (xY (.slice B1 px.length d1) (.slice B2 sx.length d2) false (.slice A6 ([(⟨2, 0⟩ : S80)] ++ px).length c6) (.slice B2 sx.length d2) PN at_ pad wd) 26 (0, 0)) ∧ Kd.R k73 73 W w.heap.size (fun _ => True) (.slice A3 xs.length c3) xs ∧ Kd.R k80 80 W w.heap.size (fun _ => True) (.slice B1 px.length d1) px ∧ Kd.R k80 80 W w.heap.size (fun _ => True) (.slice B2 sx.length d2) sx ∧ W.heap[g2]? = some (.cells Z26 26 (0, 0)) ∧ W.heap[g3]? = some (.cells Z51 51 (0, 0)) ∧ Below w.heap.size w W) ⟨Kd.R_set HO6.out BK13.out (by decide) _ _, zR BK12.out N12P.out _, xR BK13.out rfl, Kd.R_set HZ.out BK13.out (by decide) _ _, Kd.R_set HO1.out BK13.out (by decide) _ _, Kd.R_set HO2.out BK13.out (by decide) _ _, zR BK2.out N2P.out _, zR BK3.out N3P.out _, BL HB⟩ ?_
       clear e1 s4 f4 HO6 BK12 BK13 HZ HO1 HO2 BK2 BK3 HB
       rintro W6 ⟨ho6, hb12, hb13, hz, ho1, ho2, hb2, hb3, hbw⟩
       have HO6 := K_ ho6
       have BK12 := K_ hb12
       have BK13 := K_ hb13
       have HZ := K_ hz
       have HO1 := K_ ho1
       have HO2 := K_ ho2
       have BK2 := K_ hb2
       have BK3 := K_ hb3
       have HB := K_ hbw
       clear hb12 hb13 hz ho1 ho2 hb2 hb3 hbw
       clear ho6
       have HG1 := K_ (show vU px by rw [HPOK.out.2.1]; exact zcn _)
       have HG2 := K_ (show vU sx by rw [HPOK.out.2.2]; exact zcn _)
       go_cut [14, 15] from 139 to 167 (fun _ _ wx => ∃ (hn : Bool) (v3 v4 : Value) (nx ny : List S80), Kd.R k80 80 wx w.heap.size (fun _ => True) v3 nx ∧ Kd.R k80 80 wx w.heap.size (fun _ => True) v4 ny ∧ (vU nx ∧ vU ny) ∧ nx.length ≤ 1000 ∧ ny.length ≤ 1000 ∧ (xP l → zay l → nx = ⟨2, 0⟩ :: px ∧ ny = sx) ∧ wx.heap[g13]? = some (.cells (xY (.slice B1 px.length d1) (.slice B2 sx.length d2) hn v3 v4 PN at_ pad wd) 26 (0, 0)) ∧ Kd.R k80 80 wx w.heap.size (fun _ => True) (.slice B1 px.length d1) px ∧ Kd.R k80 80 wx w.heap.size (fun _ => True) (.slice B2 sx.length d2) sx ∧ wx.heap[g2]? = some (.cells Z26 26 (0, 0)) ∧ wx.heap[g3]? = some (.cells Z51 51 (0, 0)) ∧ Below w.heap.size w wx)
       case first =>
        by_cases hs0 : 0 ≤ sm
        ·have dsm : decide (0 ≤ sm) = true := decide_eq_true hs0
         obtain ⟨m, hm⟩ := Int.eq_ofNat_of_zero_le hs0
         have hml : m < xs.length := by have := HSM.out; omega
         subst hm
         have HNT := K_ (show xP l → zay l → False from fun q1 q2 => by have := HNS.out q1 q2; omega)
         go_upto_region 37 with (fail)
         obtain ⟨x, hx⟩ : ∃ x, x = xs[m] := ⟨_, rfl⟩
         have hcx := (Kd.R_reads' HZ.out).2.1
         obtain ⟨ad, ea, h0, h1, h2, h3⟩ := zas (Kd.R_reads' HZ.out).2.2 (m : Int) (by omega) (by omega)
         obtain rfl := ea
         rw [zcA hml, ← hx] at h0 h1 h2 h3
         simp only [Int.toNat_natCast] at h0 h1 h2 h3
         clear hx h0 h1 h3
         obtain ⟨m1, hm1⟩ : ∃ m1, m1 = m + 1 := ⟨_, rfl⟩
         have hm1l : m1 ≤ xs.length := by omega
         have hwm : IntKind.i64.wrap ((m : Int) + 1) = ((m1 : Nat) : Int) := by rw [IntKind.wrap_i64]; omega
         have hww : wrap64 ((m : Int) + 1) = ((m1 : Nat) : Int) := by unfold wrap64; omega
         obtain ⟨zs, hzs⟩ : ∃ zs, zs = xs.drop m1 := ⟨_, rfl⟩
         obtain ⟨A4, hA4⟩ : ∃ A4 : Option Addr, (if c3 = m1 then some ad else (some ad).map (·.add (m1 * 4))) = A4 := ⟨_, rfl⟩
         have hzl : xs.length - m1 = zs.length := by rw [hzs, List.length_drop]
         have hzl4 : zs.length ≤ 400 := by omega
         have hc4 := Kd.C_drop (Kd.R_reads' HZ.out).2.2 hm1l hcx
         rw [← hzs, show k73.sz = 4 from rfl, hA4] at hc4
         have HC4 := K_ hc4
         obtain ⟨cz, hcz⟩ : ∃ cz, c3 - m1 = cz := ⟨_, rfl⟩
         have hczl : zs.length ≤ cz := by omega
         have hi0 : (0 : Int) ≤ (m : Int) := by omega
         have hi1 : (m : Int) < (xs.length : Int) := by omega
         obtain ⟨i73, hi73, hsz73⟩ := znY
         have HBX := K_ (Below.refl W6.heap.size W6)
         clear hc4 hzs hm1
         refine vQ (n := 19) (S := fun W => W.cell? ⟨(ad.add (m * 4)).block, (ad.add (m * 4)).off + 2, none⟩ = some (.int .i64 x.f0.f2)) (ds := []) #[false, false, false, false, false, false, false, false, false, false, false, false, false, false, false, false, false, false, false] (by kernel_rfl) rfl rfl h2 (fun hHeld => ?_)
         refine yC (fun W => W.cell? ⟨(ad.add (m * 4)).block, (ad.add (m * 4)).off + 2, none⟩ = some (.int .i64 x.f0.f2) ∧ Kd.C k73 W A4 zs.length zs ∧ W.heap[g13]? = some (.cells (xY (.slice B1 px.length d1) (.slice B2 sx.length d2) false (.slice A6 ([(⟨2, 0⟩ : S80)] ++ px).length c6) (.slice B2 sx.length d2) PN at_ pad wd) 26 (0, 0)) ∧ Kd.R k80 80 W w.heap.size (fun _ => True) (.slice B1 px.length d1) px ∧ Kd.R k80 80 W w.heap.size (fun _ => True) (.slice B2 sx.length d2) sx ∧ W.heap[g2]? = some (.cells Z26 26 (0, 0)) ∧ W.heap[g3]? = some (.cells Z51 51 (0, 0)) ∧ Below w.heap.size w W) ⟨h2, Kd.C_below HC4.out (BL HBX), BK BK13, RB HO1.out, RB HO2.out, BK BK2, BK BK3, BL HB⟩ ?_
         clear hHeld h2 HC4 BK12 HZ HO6 HBX BK13 HO1 HO2 BK2 BK3 HB
         rintro W ⟨hHeld, hc4, hb13, ho1, ho2, hb2, hb3, hbw⟩
         have HC4 := K_ hc4
         have BK13 := K_ hb13
         have HO1 := K_ ho1
         have HO2 := K_ ho2
         have BK2 := K_ hb2
         have BK3 := K_ hb3
         have HB := K_ hbw
         clear hc4 hb13 ho1 ho2 hb2 hb3 hbw
         refine pw_ 0 142 (bb 19 1) ?_
         refine pw_ 1 143 (bb 19 3) ?_
         refine pw_ 2 144 (bb 19 7) ?_
         refine xF (i := 3) (N := some 145) (bb 19 15) rfl rfl (by kernel_rfl) (fun _ _ _ h => h) (v := .slice A4 zs.length cz) (Or.inl ⟨by rfl, zoN rfl rfl rfl Tryz.underlying69 hi73 hsz73 hm1l hA4 hzl hcz⟩) (by simp only [Act.put, List.setIfInBounds_toArray, List.set_cons_zero, List.set_cons_succ]; rfl) ?_
         refine pw_ 4 146 (bb 19 31) ?_
         refine pw_ 5 147 (bb 19 63) ?_
         refine pw_ 6 148 (bb 19 127) ?_
         refine pw_ 7 149 (bb 19 255) ?_
         refine pw_ 8 150 (bb 19 511) ?_
         refine tw_ 9 151 (bb 19 1023) hHeld ?_
         refine pw_ 10 152 (bb 19 2047) ?_
         clear hwm hww hi0 hi1 hi73 hsz73
         refine zcX (σ := Value × Int × Int × Nat × Nat) 2 (bb 19 131071) (fun s : Value × Int × Int × Nat × Nat => [(153, .tuple #[s.1, .agg #[.int .i64 s.2.1, .int .i64 s.2.2.1]]), (141, .tuple #[s.1, .agg #[.int .i64 s.2.1, .int .i64 s.2.2.1]]), (154, s.1), (155, .agg #[.int .i64 s.2.1, .int .i64 s.2.2.1]), (14, .pointer (some ⟨s.2.2.2.1, 0, none⟩)), (15, .pointer (some ⟨s.2.2.2.2, 0, none⟩))]) (fun s W => (∃ (B5 : Option Addr) (e5 : Nat) (B6 : Option Addr) (e6 : Nat) (px2 sx2 : List S80) (P2 : yJ) (at2 pad2 long2 : Int), s.1 = .agg (uS (.slice B5 px2.length e5) (.slice B6 sx2.length e6) P2 at2 pad2 long2) ∧ Kd.R k80 80 W w.heap.size (fun _ => True) (.slice B5 px2.length e5) px2 ∧ Kd.R k80 80 W w.heap.size (fun _ => True) (.slice B6 sx2.length e6) sx2 ∧ (s.2.1 = 0 → xW zs P2 ∧ px2 = jH (uG zs (uW zs) zs.length) ∧ sx2 = jH (uF zs (uR zs) zs.length))) ∧ W.heap[s.2.2.2.1]? = some (.cells Z76 76 (0, 0)) ∧ W.heap[s.2.2.2.2]? = some (.cells Z51 51 (0, 0)) ∧ s.2.2.2.1 ≠ s.2.2.2.2 ∧ g2 ≠ s.2.2.2.1 ∧ g2 ≠ s.2.2.2.2 ∧ g3 ≠ s.2.2.2.1 ∧ g3 ≠ s.2.2.2.2 ∧ g13 ≠ s.2.2.2.1 ∧ g13 ≠ s.2.2.2.2 ∧ w.heap.size ≤ s.2.2.2.1 ∧ w.heap.size ≤ s.2.2.2.2 ∧ (ad.add (m * 4)).block ≠ s.2.2.2.1 ∧ (ad.add (m * 4)).block ≠ s.2.2.2.2 ∧ W.cell? ⟨(ad.add (m * 4)).block, (ad.add (m * 4)).off + 2, none⟩ = some (.int .i64 x.f0.f2) ∧ W.heap[g13]? = some (.cells (xY (.slice B1 px.length d1) (.slice B2 sx.length d2) false (.slice A6 ([(⟨2, 0⟩ : S80)] ++ px).length c6) (.slice B2 sx.length d2) PN at_ pad wd) 26 (0, 0)) ∧ Kd.R k80 80 W w.heap.size (fun _ => True) (.slice B1 px.length d1) px ∧ Kd.R k80 80 W w.heap.size (fun _ => True) (.slice B2 sx.length d2) sx ∧ W.heap[g2]? = some (.cells Z26 26 (0, 0)) ∧ W.heap[g3]? = some (.cells Z51 51 (0, 0)) ∧ Below w.heap.size w W) ?hc37 ?hr37
         case hr37 =>
          intro hCont
          refine zoJ (i := 11) (j := 15) (k := 16) (Ni := some 153) (Nj := some 14) (Nk := some 15) (bb 19 4095) (bb 19 34815) (bb 19 67583) rfl rfl rfl rfl rfl rfl (by kernel_rfl) (by decide) (by decide) (by decide) (fun K hK => ?_) (fun K hK => ?_) (fun K hK => ?_)
          ·skip
           refine gq_ Tryz.func57 #[.slice A4 zs.length cz, .int .i64 _, .bool false] ?_
           refine (zbT A4 cz zs _ false _ HC4.out hczl (by omega)).mono ?_
           rintro e9 w20 ⟨v1, v2, px2, sx2, P2, at2, pad2, long2, E3, a3, rfl, hq1, hq2, hb, hpost, -⟩
           obtain ⟨B5, e5, rfl⟩ := Kd.R_slice hq1
           obtain ⟨B6, e6, rfl⟩ := Kd.R_slice hq2
           refine ⟨_, rfl, ?_⟩
           have HPQ := K_ hpost
           have HQ1 := K_ (Kd.R_lower hq1 (zP HB.out))
           have HQ2 := K_ (Kd.R_lower hq2 (zP HB.out))
           have hh20 := (Below.cell hb (World.block_lt_of_cell? _ _ hHeld)).trans hHeld
           replace HC4 := K_ (Kd.C_below HC4.out hb)
           replace HO1 := K_ (Kd.R_below HO1.out hb)
           replace HO2 := K_ (Kd.R_below HO2.out hb)
           replace BK13 := zC BK13 hb
           replace BK2 := zC BK2 hb
           replace BK3 := zC BK3 hb
           replace HB := zE HB hb
           clear hb hpost hq1 hq2 hHeld
           have hHeld := hh20
           clear hh20
           refine hK.out _ _ hHeld (fun _ => ?_)
           clear hK K
           refine no_ (some 153) ?_
           refine pw_ 12 141 (bb 19 8191) ?_
           refine pw_ 13 154 (bb 19 16383) ?_
           refine pw_ 14 155 (bb 19 32767) ?_
           refine zek (i := 15) (j := 16) (Ni := some 14) (Nj := some 15) (bb 19 65535) (bb 19 98303) rfl rfl rfl rfl (by kernel_rfl) (by decide) (by decide) (fun K hK => ?_) (fun K hK => ?_)
           ·skip
            refine bs_ 14 (Z76) 76 ?_
            intro g14 hg w21 hbox hb
            have BK14 := K_ hbox
            have GE14 := ge_ hg HB
            have N2x14 := nb_ hg BK2
            have N3x14 := nb_ hg BK3
            have N13x14 := nb_ hg BK13
            have NCx14 := zdj hHeld hg
            have hh21 := (Below.cell hb (World.block_lt_of_cell? _ _ hHeld)).trans hHeld
            replace HC4 := K_ (Kd.C_below HC4.out hb)
            replace HO1 := K_ (Kd.R_below HO1.out hb)
            replace HO2 := K_ (Kd.R_below HO2.out hb)
            replace HQ1 := K_ (Kd.R_below HQ1.out hb)
            replace HQ2 := K_ (Kd.R_below HQ2.out hb)
            replace BK13 := zC BK13 hb
            replace BK2 := zC BK2 hb
            replace BK3 := zC BK3 hb
            replace HB := zE HB hb
            clear hb hbox hg hHeld
            have hHeld := hh21
            clear hh21
            refine hK.out _ _ hHeld (fun _ => ?_)
            clear hK K
            refine no_ (some 14) ?_
            refine on_ 16 (some 15) (bb 19 131071) (fun K hK => ?_)
            refine bs_ 15 (Z51) 51 ?_
            intro g15 hg w22 hbox hb
            have BK15 := K_ hbox
            have GE15 := ge_ hg HB
            have N2x15 := nb_ hg BK2
            have N3x15 := nb_ hg BK3
            have N13x15 := nb_ hg BK13
            have NCx15 := zdj hHeld hg
            have N1415 := nb_ hg BK14
            have hh22 := (Below.cell hb (World.block_lt_of_cell? _ _ hHeld)).trans hHeld
            replace HC4 := K_ (Kd.C_below HC4.out hb)
            replace HO1 := K_ (Kd.R_below HO1.out hb)
            replace HO2 := K_ (Kd.R_below HO2.out hb)
            replace HQ1 := K_ (Kd.R_below HQ1.out hb)
            replace HQ2 := K_ (Kd.R_below HQ2.out hb)
            replace BK13 := zC BK13 hb
            replace BK2 := zC BK2 hb
            replace BK3 := zC BK3 hb
            replace BK14 := zC BK14 hb
            replace HB := zE HB hb
            clear hb hbox hg hHeld
            have hHeld := hh22
            clear hh22
            refine hK.out _ _ hHeld (fun _ => ?_)
            clear hK K
            refine no_ (some 15) ?_
            exact nj_ (hCont (.agg (uS (.slice B5 px2.length e5) (.slice B6 sx2.length e6) P2 at2 pad2 long2), E3, a3, g14, g15) _ ⟨⟨B5, e5, B6, e6, px2, sx2, P2, at2, pad2, long2, rfl, HQ1.out, HQ2.out, HPQ.out⟩, BK14.out, BK15.out, N1415.out, N2x14.out, N2x15.out, N3x14.out, N3x15.out, N13x14.out, N13x15.out, GE14.out, GE15.out, NCx14, NCx15, hHeld, BK13.out, HO1.out, HO2.out, BK2.out, BK3.out, HB.out⟩)
           skip
           refine bs_ 15 (Z51) 51 ?_
           intro g15 hg w21 hbox hb
           have BK15 := K_ hbox
           have GE15 := ge_ hg HB
           have N2x15 := nb_ hg BK2
           have N3x15 := nb_ hg BK3
           have N13x15 := nb_ hg BK13
           have NCx15 := zdj hHeld hg
           have hh21 := (Below.cell hb (World.block_lt_of_cell? _ _ hHeld)).trans hHeld
           replace HC4 := K_ (Kd.C_below HC4.out hb)
           replace HO1 := K_ (Kd.R_below HO1.out hb)
           replace HO2 := K_ (Kd.R_below HO2.out hb)
           replace HQ1 := K_ (Kd.R_below HQ1.out hb)
           replace HQ2 := K_ (Kd.R_below HQ2.out hb)
           replace BK13 := zC BK13 hb
           replace BK2 := zC BK2 hb
           replace BK3 := zC BK3 hb
           replace HB := zE HB hb
           clear hb hbox hg hHeld
           have hHeld := hh21
           clear hh21
           refine hK.out _ _ hHeld (fun _ => ?_)
           clear hK K
           refine no_ (some 15) ?_
           refine on_ 15 (some 14) (bb 19 131071) (fun K hK => ?_)
           refine bs_ 14 (Z76) 76 ?_
           intro g14 hg w22 hbox hb
           have BK14 := K_ hbox
           have GE14 := ge_ hg HB
           have N2x14 := nb_ hg BK2
           have N3x14 := nb_ hg BK3
           have N13x14 := nb_ hg BK13
           have NCx14 := zdj hHeld hg
           have NX := nb_ hg BK15
           have N1415 := K_ (Ne.symm NX.out)
           clear NX
           have hh22 := (Below.cell hb (World.block_lt_of_cell? _ _ hHeld)).trans hHeld
           replace HC4 := K_ (Kd.C_below HC4.out hb)
           replace HO1 := K_ (Kd.R_below HO1.out hb)
           replace HO2 := K_ (Kd.R_below HO2.out hb)
           replace HQ1 := K_ (Kd.R_below HQ1.out hb)
           replace HQ2 := K_ (Kd.R_below HQ2.out hb)
           replace BK13 := zC BK13 hb
           replace BK2 := zC BK2 hb
           replace BK3 := zC BK3 hb
           replace BK15 := zC BK15 hb
           replace HB := zE HB hb
           clear hb hbox hg hHeld
           have hHeld := hh22
           clear hh22
           refine hK.out _ _ hHeld (fun _ => ?_)
           clear hK K
           refine no_ (some 14) ?_
           exact nj_ (hCont (.agg (uS (.slice B5 px2.length e5) (.slice B6 sx2.length e6) P2 at2 pad2 long2), E3, a3, g14, g15) _ ⟨⟨B5, e5, B6, e6, px2, sx2, P2, at2, pad2, long2, rfl, HQ1.out, HQ2.out, HPQ.out⟩, BK14.out, BK15.out, N1415.out, N2x14.out, N2x15.out, N3x14.out, N3x15.out, N13x14.out, N13x15.out, GE14.out, GE15.out, NCx14, NCx15, hHeld, BK13.out, HO1.out, HO2.out, BK2.out, BK3.out, HB.out⟩)
          ·skip
           refine bs_ 14 (Z76) 76 ?_
           intro g14 hg w20 hbox hb
           have BK14 := K_ hbox
           have GE14 := ge_ hg HB
           have N2x14 := nb_ hg BK2
           have N3x14 := nb_ hg BK3
           have N13x14 := nb_ hg BK13
           have NCx14 := zdj hHeld hg
           have hh20 := (Below.cell hb (World.block_lt_of_cell? _ _ hHeld)).trans hHeld
           replace HC4 := K_ (Kd.C_below HC4.out hb)
           replace HO1 := K_ (Kd.R_below HO1.out hb)
           replace HO2 := K_ (Kd.R_below HO2.out hb)
           replace BK13 := zC BK13 hb
           replace BK2 := zC BK2 hb
           replace BK3 := zC BK3 hb
           replace HB := zE HB hb
           clear hb hbox hg hHeld
           have hHeld := hh20
           clear hh20
           refine hK.out _ _ hHeld (fun _ => ?_)
           clear hK K
           refine no_ (some 14) ?_
           refine zek (i := 11) (j := 16) (Ni := some 153) (Nj := some 15) (bb 19 36863) (bb 19 100351) rfl rfl rfl rfl (by kernel_rfl) (by decide) (by decide) (fun K hK => ?_) (fun K hK => ?_)
           ·skip
            refine gq_ Tryz.func57 #[.slice A4 zs.length cz, .int .i64 _, .bool false] ?_
            refine (zbT A4 cz zs _ false _ HC4.out hczl (by omega)).mono ?_
            rintro e9 w21 ⟨v1, v2, px2, sx2, P2, at2, pad2, long2, E3, a3, rfl, hq1, hq2, hb, hpost, -⟩
            obtain ⟨B5, e5, rfl⟩ := Kd.R_slice hq1
            obtain ⟨B6, e6, rfl⟩ := Kd.R_slice hq2
            refine ⟨_, rfl, ?_⟩
            have HPQ := K_ hpost
            have HQ1 := K_ (Kd.R_lower hq1 (zP HB.out))
            have HQ2 := K_ (Kd.R_lower hq2 (zP HB.out))
            have hh21 := (Below.cell hb (World.block_lt_of_cell? _ _ hHeld)).trans hHeld
            replace HC4 := K_ (Kd.C_below HC4.out hb)
            replace HO1 := K_ (Kd.R_below HO1.out hb)
            replace HO2 := K_ (Kd.R_below HO2.out hb)
            replace BK13 := zC BK13 hb
            replace BK2 := zC BK2 hb
            replace BK3 := zC BK3 hb
            replace BK14 := zC BK14 hb
            replace HB := zE HB hb
            clear hb hpost hq1 hq2 hHeld
            have hHeld := hh21
            clear hh21
            refine hK.out _ _ hHeld (fun _ => ?_)
            clear hK K
            refine no_ (some 153) ?_
            refine pw_ 12 141 (bb 19 40959) ?_
            refine pw_ 13 154 (bb 19 49151) ?_
            refine pw_ 14 155 (bb 19 65535) ?_
            refine on_ 16 (some 15) (bb 19 131071) (fun K hK => ?_)
            refine bs_ 15 (Z51) 51 ?_
            intro g15 hg w22 hbox hb
            have BK15 := K_ hbox
            have GE15 := ge_ hg HB
            have N2x15 := nb_ hg BK2
            have N3x15 := nb_ hg BK3
            have N13x15 := nb_ hg BK13
            have NCx15 := zdj hHeld hg
            have N1415 := nb_ hg BK14
            have hh22 := (Below.cell hb (World.block_lt_of_cell? _ _ hHeld)).trans hHeld
            replace HC4 := K_ (Kd.C_below HC4.out hb)
            replace HO1 := K_ (Kd.R_below HO1.out hb)
            replace HO2 := K_ (Kd.R_below HO2.out hb)
            replace HQ1 := K_ (Kd.R_below HQ1.out hb)
            replace HQ2 := K_ (Kd.R_below HQ2.out hb)
            replace BK13 := zC BK13 hb
            replace BK2 := zC BK2 hb
            replace BK3 := zC BK3 hb
            replace BK14 := zC BK14 hb
            replace HB := zE HB hb
            clear hb hbox hg hHeld
            have hHeld := hh22
            clear hh22
            refine hK.out _ _ hHeld (fun _ => ?_)
            clear hK K
            refine no_ (some 15) ?_
            exact nj_ (hCont (.agg (uS (.slice B5 px2.length e5) (.slice B6 sx2.length e6) P2 at2 pad2 long2), E3, a3, g14, g15) _ ⟨⟨B5, e5, B6, e6, px2, sx2, P2, at2, pad2, long2, rfl, HQ1.out, HQ2.out, HPQ.out⟩, BK14.out, BK15.out, N1415.out, N2x14.out, N2x15.out, N3x14.out, N3x15.out, N13x14.out, N13x15.out, GE14.out, GE15.out, NCx14, NCx15, hHeld, BK13.out, HO1.out, HO2.out, BK2.out, BK3.out, HB.out⟩)
           skip
           refine bs_ 15 (Z51) 51 ?_
           intro g15 hg w21 hbox hb
           have BK15 := K_ hbox
           have GE15 := ge_ hg HB
           have N2x15 := nb_ hg BK2
           have N3x15 := nb_ hg BK3
           have N13x15 := nb_ hg BK13
           have NCx15 := zdj hHeld hg
           have N1415 := nb_ hg BK14
           have hh21 := (Below.cell hb (World.block_lt_of_cell? _ _ hHeld)).trans hHeld
           replace HC4 := K_ (Kd.C_below HC4.out hb)
           replace HO1 := K_ (Kd.R_below HO1.out hb)
           replace HO2 := K_ (Kd.R_below HO2.out hb)
           replace BK13 := zC BK13 hb
           replace BK2 := zC BK2 hb
           replace BK3 := zC BK3 hb
           replace BK14 := zC BK14 hb
           replace HB := zE HB hb
           clear hb hbox hg hHeld
           have hHeld := hh21
           clear hh21
           refine hK.out _ _ hHeld (fun _ => ?_)
           clear hK K
           refine no_ (some 15) ?_
           refine on_ 11 (some 153) (bb 19 102399) (fun K hK => ?_)
           refine gq_ Tryz.func57 #[.slice A4 zs.length cz, .int .i64 _, .bool false] ?_
           refine (zbT A4 cz zs _ false _ HC4.out hczl (by omega)).mono ?_
           rintro e9 w22 ⟨v1, v2, px2, sx2, P2, at2, pad2, long2, E3, a3, rfl, hq1, hq2, hb, hpost, -⟩
           obtain ⟨B5, e5, rfl⟩ := Kd.R_slice hq1
           obtain ⟨B6, e6, rfl⟩ := Kd.R_slice hq2
           refine ⟨_, rfl, ?_⟩
           have HPQ := K_ hpost
           have HQ1 := K_ (Kd.R_lower hq1 (zP HB.out))
           have HQ2 := K_ (Kd.R_lower hq2 (zP HB.out))
           have hh22 := (Below.cell hb (World.block_lt_of_cell? _ _ hHeld)).trans hHeld
           replace HC4 := K_ (Kd.C_below HC4.out hb)
           replace HO1 := K_ (Kd.R_below HO1.out hb)
           replace HO2 := K_ (Kd.R_below HO2.out hb)
           replace BK13 := zC BK13 hb
           replace BK2 := zC BK2 hb
           replace BK3 := zC BK3 hb
           replace BK14 := zC BK14 hb
           replace BK15 := zC BK15 hb
           replace HB := zE HB hb
           clear hb hpost hq1 hq2 hHeld
           have hHeld := hh22
           clear hh22
           refine hK.out _ _ hHeld (fun _ => ?_)
           clear hK K
           refine no_ (some 153) ?_
           refine pw_ 12 141 (bb 19 106495) ?_
           refine pw_ 13 154 (bb 19 114687) ?_
           refine pw_ 14 155 (bb 19 131071) ?_
           exact nj_ (hCont (.agg (uS (.slice B5 px2.length e5) (.slice B6 sx2.length e6) P2 at2 pad2 long2), E3, a3, g14, g15) _ ⟨⟨B5, e5, B6, e6, px2, sx2, P2, at2, pad2, long2, rfl, HQ1.out, HQ2.out, HPQ.out⟩, BK14.out, BK15.out, N1415.out, N2x14.out, N2x15.out, N3x14.out, N3x15.out, N13x14.out, N13x15.out, GE14.out, GE15.out, NCx14, NCx15, hHeld, BK13.out, HO1.out, HO2.out, BK2.out, BK3.out, HB.out⟩)
          skip
          refine bs_ 15 (Z51) 51 ?_
          intro g15 hg w20 hbox hb
          have BK15 := K_ hbox
          have GE15 := ge_ hg HB
          have N2x15 := nb_ hg BK2
          have N3x15 := nb_ hg BK3
          have N13x15 := nb_ hg BK13
          have NCx15 := zdj hHeld hg
          have hh20 := (Below.cell hb (World.block_lt_of_cell? _ _ hHeld)).trans hHeld
          replace HC4 := K_ (Kd.C_below HC4.out hb)
          replace HO1 := K_ (Kd.R_below HO1.out hb)
          replace HO2 := K_ (Kd.R_below HO2.out hb)
          replace BK13 := zC BK13 hb
          replace BK2 := zC BK2 hb
          replace BK3 := zC BK3 hb
          replace HB := zE HB hb
          clear hb hbox hg hHeld
          have hHeld := hh20
          clear hh20
          refine hK.out _ _ hHeld (fun _ => ?_)
          clear hK K
          refine no_ (some 15) ?_
          refine zek (i := 11) (j := 15) (Ni := some 153) (Nj := some 14) (bb 19 69631) (bb 19 100351) rfl rfl rfl rfl (by kernel_rfl) (by decide) (by decide) (fun K hK => ?_) (fun K hK => ?_)
          ·skip
           refine gq_ Tryz.func57 #[.slice A4 zs.length cz, .int .i64 _, .bool false] ?_
           refine (zbT A4 cz zs _ false _ HC4.out hczl (by omega)).mono ?_
           rintro e9 w21 ⟨v1, v2, px2, sx2, P2, at2, pad2, long2, E3, a3, rfl, hq1, hq2, hb, hpost, -⟩
           obtain ⟨B5, e5, rfl⟩ := Kd.R_slice hq1
           obtain ⟨B6, e6, rfl⟩ := Kd.R_slice hq2
           refine ⟨_, rfl, ?_⟩
           have HPQ := K_ hpost
           have HQ1 := K_ (Kd.R_lower hq1 (zP HB.out))
           have HQ2 := K_ (Kd.R_lower hq2 (zP HB.out))
           have hh21 := (Below.cell hb (World.block_lt_of_cell? _ _ hHeld)).trans hHeld
           replace HC4 := K_ (Kd.C_below HC4.out hb)
           replace HO1 := K_ (Kd.R_below HO1.out hb)
           replace HO2 := K_ (Kd.R_below HO2.out hb)
           replace BK13 := zC BK13 hb
           replace BK2 := zC BK2 hb
           replace BK3 := zC BK3 hb
           replace BK15 := zC BK15 hb
           replace HB := zE HB hb
           clear hb hpost hq1 hq2 hHeld
           have hHeld := hh21
           clear hh21
           refine hK.out _ _ hHeld (fun _ => ?_)
           clear hK K
           refine no_ (some 153) ?_
           refine pw_ 12 141 (bb 19 73727) ?_
           refine pw_ 13 154 (bb 19 81919) ?_
           refine pw_ 14 155 (bb 19 98303) ?_
           refine on_ 15 (some 14) (bb 19 131071) (fun K hK => ?_)
           refine bs_ 14 (Z76) 76 ?_
           intro g14 hg w22 hbox hb
           have BK14 := K_ hbox
           have GE14 := ge_ hg HB
           have N2x14 := nb_ hg BK2
           have N3x14 := nb_ hg BK3
           have N13x14 := nb_ hg BK13
           have NCx14 := zdj hHeld hg
           have NX := nb_ hg BK15
           have N1415 := K_ (Ne.symm NX.out)
           clear NX
           have hh22 := (Below.cell hb (World.block_lt_of_cell? _ _ hHeld)).trans hHeld
           replace HC4 := K_ (Kd.C_below HC4.out hb)
           replace HO1 := K_ (Kd.R_below HO1.out hb)
           replace HO2 := K_ (Kd.R_below HO2.out hb)
           replace HQ1 := K_ (Kd.R_below HQ1.out hb)
           replace HQ2 := K_ (Kd.R_below HQ2.out hb)
           replace BK13 := zC BK13 hb
           replace BK2 := zC BK2 hb
           replace BK3 := zC BK3 hb
           replace BK15 := zC BK15 hb
           replace HB := zE HB hb
           clear hb hbox hg hHeld
           have hHeld := hh22
           clear hh22
           refine hK.out _ _ hHeld (fun _ => ?_)
           clear hK K
           refine no_ (some 14) ?_
           exact nj_ (hCont (.agg (uS (.slice B5 px2.length e5) (.slice B6 sx2.length e6) P2 at2 pad2 long2), E3, a3, g14, g15) _ ⟨⟨B5, e5, B6, e6, px2, sx2, P2, at2, pad2, long2, rfl, HQ1.out, HQ2.out, HPQ.out⟩, BK14.out, BK15.out, N1415.out, N2x14.out, N2x15.out, N3x14.out, N3x15.out, N13x14.out, N13x15.out, GE14.out, GE15.out, NCx14, NCx15, hHeld, BK13.out, HO1.out, HO2.out, BK2.out, BK3.out, HB.out⟩)
          skip
          refine bs_ 14 (Z76) 76 ?_
          intro g14 hg w21 hbox hb
          have BK14 := K_ hbox
          have GE14 := ge_ hg HB
          have N2x14 := nb_ hg BK2
          have N3x14 := nb_ hg BK3
          have N13x14 := nb_ hg BK13
          have NCx14 := zdj hHeld hg
          have NX := nb_ hg BK15
          have N1415 := K_ (Ne.symm NX.out)
          clear NX
          have hh21 := (Below.cell hb (World.block_lt_of_cell? _ _ hHeld)).trans hHeld
          replace HC4 := K_ (Kd.C_below HC4.out hb)
          replace HO1 := K_ (Kd.R_below HO1.out hb)
          replace HO2 := K_ (Kd.R_below HO2.out hb)
          replace BK13 := zC BK13 hb
          replace BK2 := zC BK2 hb
          replace BK3 := zC BK3 hb
          replace BK15 := zC BK15 hb
          replace HB := zE HB hb
          clear hb hbox hg hHeld
          have hHeld := hh21
          clear hh21
          refine hK.out _ _ hHeld (fun _ => ?_)
          clear hK K
          refine no_ (some 14) ?_
          refine on_ 11 (some 153) (bb 19 102399) (fun K hK => ?_)
          refine gq_ Tryz.func57 #[.slice A4 zs.length cz, .int .i64 _, .bool false] ?_
          refine (zbT A4 cz zs _ false _ HC4.out hczl (by omega)).mono ?_
          rintro e9 w22 ⟨v1, v2, px2, sx2, P2, at2, pad2, long2, E3, a3, rfl, hq1, hq2, hb, hpost, -⟩
          obtain ⟨B5, e5, rfl⟩ := Kd.R_slice hq1
          obtain ⟨B6, e6, rfl⟩ := Kd.R_slice hq2
          refine ⟨_, rfl, ?_⟩
          have HPQ := K_ hpost
          have HQ1 := K_ (Kd.R_lower hq1 (zP HB.out))
          have HQ2 := K_ (Kd.R_lower hq2 (zP HB.out))
          have hh22 := (Below.cell hb (World.block_lt_of_cell? _ _ hHeld)).trans hHeld
          replace HC4 := K_ (Kd.C_below HC4.out hb)
          replace HO1 := K_ (Kd.R_below HO1.out hb)
          replace HO2 := K_ (Kd.R_below HO2.out hb)
          replace BK13 := zC BK13 hb
          replace BK2 := zC BK2 hb
          replace BK3 := zC BK3 hb
          replace BK14 := zC BK14 hb
          replace BK15 := zC BK15 hb
          replace HB := zE HB hb
          clear hb hpost hq1 hq2 hHeld
          have hHeld := hh22
          clear hh22
          refine hK.out _ _ hHeld (fun _ => ?_)
          clear hK K
          refine no_ (some 153) ?_
          refine pw_ 12 141 (bb 19 106495) ?_
          refine pw_ 13 154 (bb 19 114687) ?_
          refine pw_ 14 155 (bb 19 131071) ?_
          exact nj_ (hCont (.agg (uS (.slice B5 px2.length e5) (.slice B6 sx2.length e6) P2 at2 pad2 long2), E3, a3, g14, g15) _ ⟨⟨B5, e5, B6, e6, px2, sx2, P2, at2, pad2, long2, rfl, HQ1.out, HQ2.out, HPQ.out⟩, BK14.out, BK15.out, N1415.out, N2x14.out, N2x15.out, N3x14.out, N3x15.out, N13x14.out, N13x15.out, GE14.out, GE15.out, NCx14, NCx15, hHeld, BK13.out, HO1.out, HO2.out, BK2.out, BK3.out, HB.out⟩)
         case hc37 =>
          rintro ⟨V, E3, a3, g14, g15⟩ W7 ⟨⟨B5, e5, B6, e6, px2, sx2, P2, at2, pad2, long2, hV, hq1, hq2, hpq⟩, hb14, hb15, n1415, n2x14, n2x15, n3x14, n3x15, n13x14, n13x15, ge14, ge15, ncx14, ncx15, hHeld, hb13, ho1, ho2, hb2, hb3, hbw⟩
          dsimp only at hV hq1 hq2 hpq hb14 hb15 n1415 n2x14 n2x15 n3x14 n3x15 n13x14 n13x15 ge14 ge15 ncx14 ncx15
          subst hV
          have BK14 := K_ hb14
          have BK15 := K_ hb15
          have N1415 := K_ n1415
          have N2x14 := K_ n2x14
          have N2x15 := K_ n2x15
          have N3x14 := K_ n3x14
          have N3x15 := K_ n3x15
          have N13x14 := K_ n13x14
          have N13x15 := K_ n13x15
          have HQ1 := K_ hq1
          have HQ2 := K_ hq2
          have HPQ := K_ hpq
          have BK13 := K_ hb13
          have HO1 := K_ ho1
          have HO2 := K_ ho2
          have BK2 := K_ hb2
          have BK3 := K_ hb3
          have HB := K_ hbw
          clear hb14 hb15 n1415 n2x14 n2x15 n3x14 n3x15 n13x14 n13x15 hq1 hq2 hpq hb13 ho1 ho2 hb2 hb3 hbw
          refine np_ ?_
          refine on_ 17 none (bb 19 262143) (fun K hK => ?_)
          refine uC (g := g14) (cs := Z76) (uS (.slice B5 px2.length e5) (.slice B6 sx2.length e6) P2 at2 pad2 long2) BK14 ?_ rfl rfl rfl rfl rfl zbA rfl rfl
          intro w17 hbk hfar hbel
          have hh := zaq hfar (p := ⟨(ad.add (m * 4)).block, (ad.add (m * 4)).off + 2, none⟩) ncx14 hHeld
          replace HQ1 := K_ (uA HQ1.out BK14.out (by decide) hfar)
          replace HQ2 := K_ (uA HQ2.out BK14.out (by decide) hfar)
          replace HO1 := K_ (uA HO1.out BK14.out (by decide) hfar)
          replace HO2 := K_ (uA HO2.out BK14.out (by decide) hfar)
          replace BK13 := K_ (hfar _ _ N13x14.out BK13.out)
          replace BK2 := K_ (hfar _ _ N2x14.out BK2.out)
          replace BK3 := K_ (hfar _ _ N3x14.out BK3.out)
          replace BK15 := K_ (hfar _ _ (Ne.symm N1415.out) BK15.out)
          replace BK14 := K_ hbk
          replace HB := K_ (hbel _ _ ge14 HB.out)
          clear hHeld
          have hHeld := hh
          refine hK.out _ _ hHeld (fun _ => ?_)
          clear hK K hbk hfar hbel hh
          refine on_ 18 none (bb 19 524287) (fun K hK => ?_)
          refine uC (g := g15) (cs := Z51) (#[.int .i64 E3, .int .i64 a3]) BK15 ?_ rfl rfl rfl rfl rfl uT rfl rfl
          intro w18 hbk hfar hbel
          have hh := zaq hfar (p := ⟨(ad.add (m * 4)).block, (ad.add (m * 4)).off + 2, none⟩) ncx15 hHeld
          replace HQ1 := K_ (uA HQ1.out BK15.out (by decide) hfar)
          replace HQ2 := K_ (uA HQ2.out BK15.out (by decide) hfar)
          replace HO1 := K_ (uA HO1.out BK15.out (by decide) hfar)
          replace HO2 := K_ (uA HO2.out BK15.out (by decide) hfar)
          replace BK13 := K_ (hfar _ _ N13x15.out BK13.out)
          replace BK2 := K_ (hfar _ _ N2x15.out BK2.out)
          replace BK3 := K_ (hfar _ _ N3x15.out BK3.out)
          replace BK14 := K_ (hfar _ _ N1415.out BK14.out)
          replace BK15 := K_ hbk
          replace HB := K_ (hbel _ _ ge15 HB.out)
          clear hHeld
          have hHeld := hh
          refine hK.out _ _ hHeld (fun _ => ?_)
          clear hK K hbk hfar hbel hh
          refine vS (by kernel_rfl) ?_
          clear hHeld ncx14 ncx15 ge14 ge15
          obtain ⟨⟨q0, q1⟩, q2, q3⟩ := ce2 BK15
          by_cases hE : E3 = 0
          ·subst hE
           have HQK := K_ (HPQ.out rfl)
           have hq1l : px2.length ≤ 1000 := by
            rw [HQK.out.2.1]; refine Nat.le_trans (zde _) (Nat.le_trans (zeO _ _ _) (by omega))
           have hq2l : sx2.length ≤ 1000 := by
            rw [HQK.out.2.2]; refine Nat.le_trans (zde _) (Nat.le_trans (zeI _ _ _) (by omega))
           have HGQ := K_ (show vU px2 ∧ vU sx2 by rw [HQK.out.2.1, HQK.out.2.2]; exact ⟨zcn _, zcn _⟩)
           go_upto_region 40 with (fail)
           clear q0 q1 q2 q3
           refine vQ (n := 10) (S := fun W => W.cell? ⟨g14, 0, none⟩ = some (.slice B5 px2.length e5) ∧ W.cell? ⟨g14, 1, none⟩ = some (.slice B6 sx2.length e6)) (ds := []) #[false, false, false, false, false, false, false, false, false, false] (by kernel_rfl) rfl rfl ⟨(zD (BK BK14) 0).trans rfl, (zD (BK BK14) 1).trans rfl⟩ (fun hHeld => ?_)
           refine yC (fun W => W.heap[g14]? = some (.cells (uS (.slice B5 px2.length e5) (.slice B6 sx2.length e6) P2 at2 pad2 long2) 76 (0, 0)) ∧ Kd.R k80 80 W w.heap.size (fun _ => True) (.slice B5 px2.length e5) px2 ∧ Kd.R k80 80 W w.heap.size (fun _ => True) (.slice B6 sx2.length e6) sx2 ∧ W.heap[g13]? = some (.cells (xY (.slice B1 px.length d1) (.slice B2 sx.length d2) false (.slice A6 ([(⟨2, 0⟩ : S80)] ++ px).length c6) (.slice B2 sx.length d2) PN at_ pad wd) 26 (0, 0)) ∧ Kd.R k80 80 W w.heap.size (fun _ => True) (.slice B1 px.length d1) px ∧ Kd.R k80 80 W w.heap.size (fun _ => True) (.slice B2 sx.length d2) sx ∧ W.heap[g2]? = some (.cells Z26 26 (0, 0)) ∧ W.heap[g3]? = some (.cells Z51 51 (0, 0)) ∧ Below w.heap.size w W) ⟨BK BK14, RB HQ1.out, RB HQ2.out, BK BK13, RB HO1.out, RB HO2.out, BK BK2, BK BK3, BL HB⟩ ?_
           clear hHeld
           clear BK14 HQ1 HQ2 BK13 HO1 HO2 BK2 BK3 HB
           rintro W ⟨hb14, hq1, hq2, hb13, ho1, ho2, hb2, hb3, hbw⟩
           have BK14 := K_ hb14
           have HQ1 := K_ hq1
           have HQ2 := K_ hq2
           have BK13 := K_ hb13
           have HO1 := K_ ho1
           have HO2 := K_ ho2
           have BK2 := K_ hb2
           have BK3 := K_ hb3
           have HB := K_ hbw
           clear hb14 hq1 hq2 hb13 ho1 ho2 hb2 hb3 hbw
           have hHeld := (show W.cell? ⟨g14, 0, none⟩ = some (.slice B5 px2.length e5) ∧ W.cell? ⟨g14, 1, none⟩ = some (.slice B6 sx2.length e6) from ⟨(zD BK14.out 0).trans rfl, (zD BK14.out 1).trans rfl⟩)
           refine pw_ 0 161 (bb 10 1) ?_
           refine pw_ 2 163 (bb 10 5) ?_
           refine tw_ 1 162 (bb 10 7) hHeld ?_
           refine tw_ 3 164 (bb 10 15) hHeld ?_
           refine pw_ 4 165 (bb 10 31) ?_
           refine on_ 5 none (bb 10 63) (fun K hK => ?_)
           have hs : W.cell? ⟨g13, 2, none⟩ = some (.bool false) := (zD BK13.out 2).trans rfl
           have hf := zM BK13.out 2
           refine zbm (w1 := W.setCell ⟨g13, 2, none⟩ (.bool true)) (by rfl) rfl (by go_simp; try rfl) ?_
           refine hK.out _ _ (show (W.setCell ⟨g13, 2, none⟩ (.bool true)).cell? ⟨g14, 0, none⟩ = some (.slice B5 px2.length e5) ∧ (W.setCell ⟨g13, 2, none⟩ (.bool true)).cell? ⟨g14, 1, none⟩ = some (.slice B6 sx2.length e6) from ⟨(zD (zR BK14.out (Ne.symm N13x14.out) _) 0).trans rfl, (zD (zR BK14.out (Ne.symm N13x14.out) _) 1).trans rfl⟩) (fun _ => ?_)
           clear hK K hs hf hHeld
           refine yC (fun W => W.heap[g14]? = some (.cells (uS (.slice B5 px2.length e5) (.slice B6 sx2.length e6) P2 at2 pad2 long2) 76 (0, 0)) ∧ Kd.R k80 80 W w.heap.size (fun _ => True) (.slice B5 px2.length e5) px2 ∧ Kd.R k80 80 W w.heap.size (fun _ => True) (.slice B6 sx2.length e6) sx2 ∧ W.heap[g13]? = some (.cells (xY (.slice B1 px.length d1) (.slice B2 sx.length d2) true (.slice A6 ([(⟨2, 0⟩ : S80)] ++ px).length c6) (.slice B2 sx.length d2) PN at_ pad wd) 26 (0, 0)) ∧ Kd.R k80 80 W w.heap.size (fun _ => True) (.slice B1 px.length d1) px ∧ Kd.R k80 80 W w.heap.size (fun _ => True) (.slice B2 sx.length d2) sx ∧ W.heap[g2]? = some (.cells Z26 26 (0, 0)) ∧ W.heap[g3]? = some (.cells Z51 51 (0, 0)) ∧ Below w.heap.size w W) ⟨zR BK14.out (Ne.symm N13x14.out) _, Kd.R_set HQ1.out BK13.out (by decide) _ _, Kd.R_set HQ2.out BK13.out (by decide) _ _, xR BK13.out rfl, Kd.R_set HO1.out BK13.out (by decide) _ _, Kd.R_set HO2.out BK13.out (by decide) _ _, zR BK2.out N2P.out _, zR BK3.out N3P.out _, BL HB⟩ ?_
           clear BK14 HQ1 HQ2 BK13 HO1 HO2 BK2 BK3 HB
           rintro W ⟨hb14, hq1, hq2, hb13, ho1, ho2, hb2, hb3, hbw⟩
           have BK14 := K_ hb14
           have HQ1 := K_ hq1
           have HQ2 := K_ hq2
           have BK13 := K_ hb13
           have HO1 := K_ ho1
           have HO2 := K_ ho2
           have BK2 := K_ hb2
           have BK3 := K_ hb3
           have HB := K_ hbw
           clear hb14 hq1 hq2 hb13 ho1 ho2 hb2 hb3 hbw
           have hHeld := (show W.cell? ⟨g14, 0, none⟩ = some (.slice B5 px2.length e5) ∧ W.cell? ⟨g14, 1, none⟩ = some (.slice B6 sx2.length e6) from ⟨(zD BK14.out 0).trans rfl, (zD BK14.out 1).trans rfl⟩)
           refine pw_ 6 166 (bb 10 127) ?_
           refine on_ 7 none (bb 10 255) (fun K hK => ?_)
           have hs : W.cell? ⟨g13, 3, none⟩ = some (.slice A6 ([(⟨2, 0⟩ : S80)] ++ px).length c6) := (zD BK13.out 3).trans rfl
           have hf := zM BK13.out 3
           refine zbm (w1 := W.setCell ⟨g13, 3, none⟩ (.slice B5 px2.length e5)) (by rfl) rfl (by go_simp; try rfl) ?_
           refine hK.out _ _ (show (W.setCell ⟨g13, 3, none⟩ (.slice B5 px2.length e5)).cell? ⟨g14, 0, none⟩ = some (.slice B5 px2.length e5) ∧ (W.setCell ⟨g13, 3, none⟩ (.slice B5 px2.length e5)).cell? ⟨g14, 1, none⟩ = some (.slice B6 sx2.length e6) from ⟨(zD (zR BK14.out (Ne.symm N13x14.out) _) 0).trans rfl, (zD (zR BK14.out (Ne.symm N13x14.out) _) 1).trans rfl⟩) (fun _ => ?_)
           clear hK K hs hf hHeld
           refine yC (fun W => W.heap[g14]? = some (.cells (uS (.slice B5 px2.length e5) (.slice B6 sx2.length e6) P2 at2 pad2 long2) 76 (0, 0)) ∧ Kd.R k80 80 W w.heap.size (fun _ => True) (.slice B5 px2.length e5) px2 ∧ Kd.R k80 80 W w.heap.size (fun _ => True) (.slice B6 sx2.length e6) sx2 ∧ W.heap[g13]? = some (.cells (xY (.slice B1 px.length d1) (.slice B2 sx.length d2) true (.slice B5 px2.length e5) (.slice B2 sx.length d2) PN at_ pad wd) 26 (0, 0)) ∧ Kd.R k80 80 W w.heap.size (fun _ => True) (.slice B1 px.length d1) px ∧ Kd.R k80 80 W w.heap.size (fun _ => True) (.slice B2 sx.length d2) sx ∧ W.heap[g2]? = some (.cells Z26 26 (0, 0)) ∧ W.heap[g3]? = some (.cells Z51 51 (0, 0)) ∧ Below w.heap.size w W) ⟨zR BK14.out (Ne.symm N13x14.out) _, Kd.R_set HQ1.out BK13.out (by decide) _ _, Kd.R_set HQ2.out BK13.out (by decide) _ _, xR BK13.out rfl, Kd.R_set HO1.out BK13.out (by decide) _ _, Kd.R_set HO2.out BK13.out (by decide) _ _, zR BK2.out N2P.out _, zR BK3.out N3P.out _, BL HB⟩ ?_
           clear BK14 HQ1 HQ2 BK13 HO1 HO2 BK2 BK3 HB
           rintro W ⟨hb14, hq1, hq2, hb13, ho1, ho2, hb2, hb3, hbw⟩
           have BK14 := K_ hb14
           have HQ1 := K_ hq1
           have HQ2 := K_ hq2
           have BK13 := K_ hb13
           have HO1 := K_ ho1
           have HO2 := K_ ho2
           have BK2 := K_ hb2
           have BK3 := K_ hb3
           have HB := K_ hbw
           clear hb14 hq1 hq2 hb13 ho1 ho2 hb2 hb3 hbw
           have hHeld := (show W.cell? ⟨g14, 0, none⟩ = some (.slice B5 px2.length e5) ∧ W.cell? ⟨g14, 1, none⟩ = some (.slice B6 sx2.length e6) from ⟨(zD BK14.out 0).trans rfl, (zD BK14.out 1).trans rfl⟩)
           refine pw_ 8 167 (bb 10 511) ?_
           refine on_ 9 none (bb 10 1023) (fun K hK => ?_)
           have hs : W.cell? ⟨g13, 4, none⟩ = some (.slice B2 sx.length d2) := (zD BK13.out 4).trans rfl
           have hf := zM BK13.out 4
           refine zbm (w1 := W.setCell ⟨g13, 4, none⟩ (.slice B6 sx2.length e6)) (by rfl) rfl (by go_simp; try rfl) ?_
           refine hK.out _ _ (show (W.setCell ⟨g13, 4, none⟩ (.slice B6 sx2.length e6)).cell? ⟨g14, 0, none⟩ = some (.slice B5 px2.length e5) ∧ (W.setCell ⟨g13, 4, none⟩ (.slice B6 sx2.length e6)).cell? ⟨g14, 1, none⟩ = some (.slice B6 sx2.length e6) from ⟨(zD (zR BK14.out (Ne.symm N13x14.out) _) 0).trans rfl, (zD (zR BK14.out (Ne.symm N13x14.out) _) 1).trans rfl⟩) (fun _ => ?_)
           clear hK K hs hf hHeld
           refine yC (fun W => W.heap[g14]? = some (.cells (uS (.slice B5 px2.length e5) (.slice B6 sx2.length e6) P2 at2 pad2 long2) 76 (0, 0)) ∧ Kd.R k80 80 W w.heap.size (fun _ => True) (.slice B5 px2.length e5) px2 ∧ Kd.R k80 80 W w.heap.size (fun _ => True) (.slice B6 sx2.length e6) sx2 ∧ W.heap[g13]? = some (.cells (xY (.slice B1 px.length d1) (.slice B2 sx.length d2) true (.slice B5 px2.length e5) (.slice B6 sx2.length e6) PN at_ pad wd) 26 (0, 0)) ∧ Kd.R k80 80 W w.heap.size (fun _ => True) (.slice B1 px.length d1) px ∧ Kd.R k80 80 W w.heap.size (fun _ => True) (.slice B2 sx.length d2) sx ∧ W.heap[g2]? = some (.cells Z26 26 (0, 0)) ∧ W.heap[g3]? = some (.cells Z51 51 (0, 0)) ∧ Below w.heap.size w W) ⟨zR BK14.out (Ne.symm N13x14.out) _, Kd.R_set HQ1.out BK13.out (by decide) _ _, Kd.R_set HQ2.out BK13.out (by decide) _ _, xR BK13.out rfl, Kd.R_set HO1.out BK13.out (by decide) _ _, Kd.R_set HO2.out BK13.out (by decide) _ _, zR BK2.out N2P.out _, zR BK3.out N3P.out _, BL HB⟩ ?_
           clear BK14 HQ1 HQ2 BK13 HO1 HO2 BK2 BK3 HB
           rintro W ⟨hb14, hq1, hq2, hb13, ho1, ho2, hb2, hb3, hbw⟩
           have BK14 := K_ hb14
           have HQ1 := K_ hq1
           have HQ2 := K_ hq2
           have BK13 := K_ hb13
           have HO1 := K_ ho1
           have HO2 := K_ ho2
           have BK2 := K_ hb2
           have BK3 := K_ hb3
           have HB := K_ hbw
           clear hb14 hq1 hq2 hb13 ho1 ho2 hb2 hb3 hbw
           have hHeld := (show W.cell? ⟨g14, 0, none⟩ = some (.slice B5 px2.length e5) ∧ W.cell? ⟨g14, 1, none⟩ = some (.slice B6 sx2.length e6) from ⟨(zD BK14.out 0).trans rfl, (zD BK14.out 1).trans rfl⟩)
           refine vS (by kernel_rfl) ?_
           clear hHeld
           go_wp2_with (fail)
           go_meet
           case rel => exact ⟨true, _, _, px2, sx2, RB HQ1.out, RB HQ2.out, HGQ.out, hq1l, hq2l, fun q1 q2 => (HNT.out q1 q2).elim, BK BK13, RB HO1.out, RB HO2.out, BK BK2, BK BK3, BL HB⟩
          have dE3 : (E3 != 0) = true := by simpa using hE
          have HEV := K_ hE
          have HE := K_ (show ∀ l', Ev (fun k => zG.f k s) (l', 0, 0) → xP l' → zay l' → ∀ P0, xW (l'.map mk73) P0 → ¬ mixed (jH (uG (l'.map mk73) (uW (l'.map mk73)) l'.length)) (jH (uF (l'.map mk73) (uR (l'.map mk73)) l'.length)) (⟨2, 0⟩ :: jH (uG (l'.map mk73) (uW (l'.map mk73)) l'.length)) (jH (uF (l'.map mk73) (uR (l'.map mk73)) l'.length)) → False from fun l' h1 hns hsm _ _ _ => HNT.out (EQL.out l' h1 ▸ hns) (EQL.out l' h1 ▸ hsm))
          clear hE
          go_upto_region 39 with (fail)
          clear q0 q1 q2 q3
          refine vQ (n := 4) (S := fun w' => w'.heap[g15]? = some (.cells #[.int .i64 E3, .int .i64 a3] 51 (0, 0))) (ds := []) #[false, false, false, false] (by kernel_rfl) rfl rfl (BK BK15) (fun hHeld => ?_)
          refine yC (fun W => W.heap[g15]? = some (.cells #[.int .i64 E3, .int .i64 a3] 51 (0, 0)) ∧ W.heap[g2]? = some (.cells Z26 26 (0, 0)) ∧ W.heap[g3]? = some (.cells Z51 51 (0, 0)) ∧ Below w.heap.size w W) ⟨BK BK15, BK BK2, BK BK3, BL HB⟩ ?_
          clear hHeld
          rintro W ⟨hHeld, hb2, hb3, hbw⟩
          replace BK2 := K_ hb2
          replace BK3 := K_ hb3
          replace HB := K_ hbw
          clear hb2 hb3 hbw
          refine pw_ 0 159 (bb 4 1) ?_
          refine tr_ 1 160 (bb 4 3) (#[.int .i64 E3, .int .i64 a3]) (fun _ hs => ⟨hs⟩) Tryz.underlying51 uT hHeld ?_
          refine on_ 2 none (bb 4 7) (fun K hK => ?_)
          refine uC (g := g2) (cs := Z26) Z26 BK2 ?_ rfl rfl rfl rfl rfl yO rfl rfl
          intro w8 hbk hfar hbel
          have hHeld2 := hfar g15 _ (Ne.symm N2x15.out) hHeld
          replace BK3 := K_ (hfar g3 _ (Ne.symm NB.out) BK3.out)
          replace BK2 := K_ hbk
          replace HB := K_ (hbel _ _ GE2.out HB.out)
          refine hK.out _ _ hHeld2 (fun _ => ?_)
          clear hK K hbk hfar hbel
          refine on_ 3 none (bb 4 15) (fun K hK => ?_)
          refine uC (g := g3) (cs := Z51) #[.int .i64 E3, .int .i64 a3] BK3 ?_ rfl rfl rfl rfl rfl uT rfl rfl
          intro w9 hbk hfar hbel
          have hHeld3 := hfar g15 _ (Ne.symm N3x15.out) hHeld2
          replace BK2 := K_ (hfar g2 _ NB.out BK2.out)
          replace BK3 := K_ hbk
          replace HB := K_ (hbel _ _ GE3.out HB.out)
          refine hK.out _ _ hHeld3 (fun _ => ?_)
          clear hK K hbk hfar hbel
          refine vS (by kernel_rfl) ?_
          go_wp2_with (fail)
          (
           refine bodyPost_ret (qR rfl _ _ g2 g3 26 51 Z26 #[.int .i64 E3, .int .i64 a3] (0, 0) (0, 0) _ _ rfl BK2.out Tryz.underlying26 rfl yO rfl BK3.out Tryz.underlying51 rfl uT) rfl ?_
           exact ⟨_, _, _, _, [], [], [], [], jL, false, 0, 0, 0, E3, a3, rfl, Kd.R_nil _ _ _ _ _, Kd.R_nil _ _ _ _ _, Kd.R_nil _ _ _ _ _, Kd.R_nil _ _ _ _ _, BL HB, fun h => absurd h HEV.out, fun l' h1 h2 h3 P0 h4 h5 => (HE.out l' h1 h2 h3 P0 h4 h5).elim⟩)
        have dsm : decide (0 ≤ sm) = false := decide_eq_false hs0
        go_wp2
        go_meet
        case rel => exact ⟨false, _, _, [⟨2, 0⟩] ++ px, sx, RB HO6.out, RB HO2.out, ⟨fun x hx => by rcases List.mem_cons.1 hx with rfl | hx; exact ⟨by decide, by decide, fun _ => rfl⟩; exact HG1.out x hx, HG2.out⟩, by simp; omega, by omega, fun _ _ => ⟨rfl, rfl⟩, BK BK13, RB HO1.out, RB HO2.out, BK BK2, BK BK3, BL HB⟩
       case rest =>
        obtain ⟨hn, v3, v4, nx, ny, ho3, ho4, hgood, hnl, hyl, hex, hb13, ho1, ho2, hb2, hb3, hbw⟩ := hcut
        have HO3 := K_ ho3
        have HO4 := K_ ho4
        have HG := K_ hgood
        have HEN := K_ hex
        replace BK13 := K_ hb13
        replace HO1 := K_ ho1
        replace HO2 := K_ ho2
        replace BK2 := K_ hb2
        replace BK3 := K_ hb3
        replace HB := K_ hbw
        clear hb13 ho1 ho2 hb2 hb3 hbw
        clear ho3 ho4 hgood hex
        obtain ⟨B3, d3, rfl⟩ := Kd.R_slice HO3.out
        obtain ⟨B4, d4, rfl⟩ := Kd.R_slice HO4.out
        clear HZ BK12
        go_upto_region 41 with (fail)
        go_cut [175] from 168 to 175 (fun c wx => c = .bool (decide (0 < sgn 4 px sx nx ny) && decide (0 < sgn 5 px sx nx ny)) ∧ Kd.R k80 80 wx w.heap.size (fun _ => True) (.slice B1 px.length d1) px ∧ Kd.R k80 80 wx w.heap.size (fun _ => True) (.slice B2 sx.length d2) sx ∧ Kd.R k80 80 wx w.heap.size (fun _ => True) (.slice B3 nx.length d3) nx ∧ Kd.R k80 80 wx w.heap.size (fun _ => True) (.slice B4 ny.length d4) ny ∧ wx.heap[g13]? = some (.cells (xY (.slice B1 px.length d1) (.slice B2 sx.length d2) hn (.slice B3 nx.length d3) (.slice B4 ny.length d4) PN at_ pad wd) 26 (0, 0)) ∧ wx.heap[g2]? = some (.cells Z26 26 (0, 0)) ∧ wx.heap[g3]? = some (.cells Z51 51 (0, 0)) ∧ Below w.heap.size w wx)
        case first =>
         by_cases h4 : 0 < sgn 4 px sx nx ny
         ·have p4 : decide (0 < sgn 4 px sx nx ny) = true := decide_eq_true h4
          have r4 : decide ((0 : Int) < ((sgn 4 px sx nx ny : Nat) : Int)) = true := decide_eq_true (by omega)
          have z4 : ¬ sgn 4 px sx nx ny = 0 := by omega
          by_cases h5 : 0 < sgn 5 px sx nx ny
          ·have p5 : decide (0 < sgn 5 px sx nx ny) = true := decide_eq_true h5
           have r5 : decide ((0 : Int) < ((sgn 5 px sx nx ny : Nat) : Int)) = true := decide_eq_true (by omega)
           have z5 : ¬ sgn 5 px sx nx ny = 0 := by omega
           go_wp2_with (first | ((with_reducible refine zF (N := 168) rfl ?_); refine lo_ (g := g13) (cs := xY (.slice B1 px.length d1) (.slice B2 sx.length d2) hn (.slice B3 nx.length d3) (.slice B4 ny.length d4) PN at_ pad wd) _ ⟨BK BK13⟩ ?_ rfl rfl rfl Tryz.underlying26 rfl yO) | ((with_reducible refine zF (N := 172) rfl ?_); refine zck (g := g13) (cs := xY (.slice B1 px.length d1) (.slice B2 sx.length d2) hn (.slice B3 nx.length d3) (.slice B4 ny.length d4) PN at_ pad wd) _ ⟨BK BK13⟩ ?_ (by rfl) rfl rfl Tryz.underlying26 rfl yO) | (go_at_call 53; refine (zdH B1 B2 B3 B4 d1 d2 d3 d4 px sx nx ny hn PN at_ pad wd _ _ HO1.out HO2.out HO3.out HO4.out (by omega) (by omega) hnl hyl).mono ?_; rintro e9 w' ⟨rfl, hb⟩; replace HO1 := K_ (Kd.R_below (RB HO1.out) hb); replace HO2 := K_ (Kd.R_below (RB HO2.out) hb); replace HO3 := K_ (Kd.R_below (RB HO3.out) hb); replace HO4 := K_ (Kd.R_below (RB HO4.out) hb); replace HB := zE HB hb; replace BK2 := zC BK2 hb; replace BK3 := zC BK3 hb; replace BK13 := zC BK13 hb; clear hb))
           go_meet
           case rel => exact ⟨by rw [p4, p5]; rfl, RB HO1.out, RB HO2.out, RB HO3.out, RB HO4.out, BK BK13, BK BK2, BK BK3, BL HB⟩
          have p5 : decide (0 < sgn 5 px sx nx ny) = false := decide_eq_false h5
          have r5 : decide ((0 : Int) < ((sgn 5 px sx nx ny : Nat) : Int)) = false := decide_eq_false (by omega)
          have z5 : sgn 5 px sx nx ny = 0 := by omega
          go_wp2_with (first | ((with_reducible refine zF (N := 168) rfl ?_); refine lo_ (g := g13) (cs := xY (.slice B1 px.length d1) (.slice B2 sx.length d2) hn (.slice B3 nx.length d3) (.slice B4 ny.length d4) PN at_ pad wd) _ ⟨BK BK13⟩ ?_ rfl rfl rfl Tryz.underlying26 rfl yO) | ((with_reducible refine zF (N := 172) rfl ?_); refine zck (g := g13) (cs := xY (.slice B1 px.length d1) (.slice B2 sx.length d2) hn (.slice B3 nx.length d3) (.slice B4 ny.length d4) PN at_ pad wd) _ ⟨BK BK13⟩ ?_ (by rfl) rfl rfl Tryz.underlying26 rfl yO) | (go_at_call 53; refine (zdH B1 B2 B3 B4 d1 d2 d3 d4 px sx nx ny hn PN at_ pad wd _ _ HO1.out HO2.out HO3.out HO4.out (by omega) (by omega) hnl hyl).mono ?_; rintro e9 w' ⟨rfl, hb⟩; replace HO1 := K_ (Kd.R_below (RB HO1.out) hb); replace HO2 := K_ (Kd.R_below (RB HO2.out) hb); replace HO3 := K_ (Kd.R_below (RB HO3.out) hb); replace HO4 := K_ (Kd.R_below (RB HO4.out) hb); replace HB := zE HB hb; replace BK2 := zC BK2 hb; replace BK3 := zC BK3 hb; replace BK13 := zC BK13 hb; clear hb))
          go_meet
          case rel => exact ⟨by rw [p4, p5]; rfl, RB HO1.out, RB HO2.out, RB HO3.out, RB HO4.out, BK BK13, BK BK2, BK BK3, BL HB⟩
         have p4 : decide (0 < sgn 4 px sx nx ny) = false := decide_eq_false h4
         have r4 : decide ((0 : Int) < ((sgn 4 px sx nx ny : Nat) : Int)) = false := decide_eq_false (by omega)
         have z4 : sgn 4 px sx nx ny = 0 := by omega
         go_wp2_with (first | ((with_reducible refine zF (N := 168) rfl ?_); refine lo_ (g := g13) (cs := xY (.slice B1 px.length d1) (.slice B2 sx.length d2) hn (.slice B3 nx.length d3) (.slice B4 ny.length d4) PN at_ pad wd) _ ⟨BK BK13⟩ ?_ rfl rfl rfl Tryz.underlying26 rfl yO) | ((with_reducible refine zF (N := 172) rfl ?_); refine zck (g := g13) (cs := xY (.slice B1 px.length d1) (.slice B2 sx.length d2) hn (.slice B3 nx.length d3) (.slice B4 ny.length d4) PN at_ pad wd) _ ⟨BK BK13⟩ ?_ (by rfl) rfl rfl Tryz.underlying26 rfl yO) | (go_at_call 53; refine (zdH B1 B2 B3 B4 d1 d2 d3 d4 px sx nx ny hn PN at_ pad wd _ _ HO1.out HO2.out HO3.out HO4.out (by omega) (by omega) hnl hyl).mono ?_; rintro e9 w' ⟨rfl, hb⟩; replace HO1 := K_ (Kd.R_below (RB HO1.out) hb); replace HO2 := K_ (Kd.R_below (RB HO2.out) hb); replace HO3 := K_ (Kd.R_below (RB HO3.out) hb); replace HO4 := K_ (Kd.R_below (RB HO4.out) hb); replace HB := zE HB hb; replace BK2 := zC BK2 hb; replace BK3 := zC BK3 hb; replace BK13 := zC BK13 hb; clear hb))
         go_meet
         case rel => exact ⟨by rw [p4]; rfl, RB HO1.out, RB HO2.out, RB HO3.out, RB HO4.out, BK BK13, BK BK2, BK BK3, BL HB⟩
        case rest =>
         obtain ⟨rfl, ho1, ho2, ho3, ho4, hb13, hb2, hb3, hbw⟩ := hcut
         replace HO1 := K_ ho1
         replace HO2 := K_ ho2
         replace HO3 := K_ ho3
         replace HO4 := K_ ho4
         replace BK13 := K_ hb13
         replace BK2 := K_ hb2
         replace BK3 := K_ hb3
         replace HB := K_ hbw
         clear ho1 ho2 ho3 ho4 hb13 hb2 hb3 hbw
         by_cases hm : mixed px sx nx ny
         ·have et : (decide (0 < sgn 4 px sx nx ny) && decide (0 < sgn 5 px sx nx ny)) = true := by rw [decide_eq_true hm.1, decide_eq_true hm.2]; rfl
          rw [et]
          have HEV := K_ (show (6 : Int) ≠ 0 by decide)
          have HE := K_ (show ∀ l', Ev (fun k => zG.f k s) (l', 0, 0) → xP l' → zay l' → ∀ P0, xW (l'.map mk73) P0 → ¬ mixed (jH (uG (l'.map mk73) (uW (l'.map mk73)) l'.length)) (jH (uF (l'.map mk73) (uR (l'.map mk73)) l'.length)) (⟨2, 0⟩ :: jH (uG (l'.map mk73) (uW (l'.map mk73)) l'.length)) (jH (uF (l'.map mk73) (uR (l'.map mk73)) l'.length)) → False from fun l' h1 hns hsm P0 hok hnm => by
           have e := EQL.out l' h1
           subst e
           have e2 := HEQ.out hns hsm
           obtain ⟨e3, e4⟩ := HEN.out hns hsm
           have e5 := HPOK.out.2
           rw [e2] at e5
           simp only [List.length_map] at e5
           rw [← e5.1, ← e5.2] at hnm
           rw [e3, e4] at hm
           exact hnm hm)
          clear et hm
          go_wp2_with (first
           | ((with_reducible refine zW (p := 2) rfl ?_); refine so_ (g := g2) (cs := Z26) (Z26) ⟨BK BK2⟩ ?_ rfl rfl rfl rfl rfl yO rfl rfl; intro w9 hbk hfar hbel; replace BK3 := K_ (hfar _ _ (Ne.symm NB.out) (BK BK3)); replace BK2 := K_ hbk; replace HB := K_ (hbel _ _ GE2.out (BL HB)); clear hbk hfar hbel)
           | ((with_reducible refine zW (p := 3) rfl ?_); refine so_ (g := g3) (cs := Z51) (#[.int .i64 6, .int .i64 0]) ⟨BK BK3⟩ ?_ rfl rfl rfl rfl rfl uT rfl rfl; intro w9 hbk hfar hbel; replace BK2 := K_ (hfar _ _ NB.out (BK BK2)); replace BK3 := K_ hbk; replace HB := K_ (hbel _ _ GE3.out (BL HB)); clear hbk hfar hbel))
          (
           refine bodyPost_ret (qR rfl _ _ g2 g3 26 51 Z26 #[.int .i64 6, .int .i64 0] (0, 0) (0, 0) _ _ rfl BK2.out Tryz.underlying26 rfl yO rfl BK3.out Tryz.underlying51 rfl uT) rfl ?_
           exact ⟨_, _, _, _, [], [], [], [], jL, false, 0, 0, 0, 6, 0, rfl, Kd.R_nil _ _ _ _ _, Kd.R_nil _ _ _ _ _, Kd.R_nil _ _ _ _ _, Kd.R_nil _ _ _ _ _, BL HB, fun h => absurd h HEV.out, fun l' h1 h2 h3 P0 h4 h5 => (HE.out l' h1 h2 h3 P0 h4 h5).elim⟩)
         have et : (decide (0 < sgn 4 px sx nx ny) && decide (0 < sgn 5 px sx nx ny)) = false := by
          cases h : (decide (0 < sgn 4 px sx nx ny) && decide (0 < sgn 5 px sx nx ny))
          ·rfl
          rw [Bool.and_eq_true, decide_eq_true_eq, decide_eq_true_eq] at h; exact (hm h).elim
         rw [et]
         have HM := K_ hm
         clear et hm
         go_wp2_with (first
          | ((with_reducible refine zF (N := 178) rfl ?_); refine lo_ (g := g13) (cs := xY (.slice B1 px.length d1) (.slice B2 sx.length d2) hn (.slice B3 nx.length d3) (.slice B4 ny.length d4) PN at_ pad wd) _ ⟨BK BK13⟩ ?_ rfl rfl rfl Tryz.underlying26 rfl yO)
          | ((with_reducible refine zW (p := 2) rfl ?_); refine so_ (g := g2) (cs := Z26) (xY (.slice B1 px.length d1) (.slice B2 sx.length d2) hn (.slice B3 nx.length d3) (.slice B4 ny.length d4) PN at_ pad wd) ⟨BK BK2⟩ ?_ rfl rfl rfl rfl rfl yO rfl rfl; intro w9 hbk hfar hbel; replace HO1 := K_ (uA (RB HO1.out) (BK BK2) (by decide) hfar); replace HO2 := K_ (uA (RB HO2.out) (BK BK2) (by decide) hfar); replace HO3 := K_ (uA (RB HO3.out) (BK BK2) (by decide) hfar); replace HO4 := K_ (uA (RB HO4.out) (BK BK2) (by decide) hfar); replace BK3 := K_ (hfar _ _ (Ne.symm NB.out) (BK BK3)); replace BK2 := K_ hbk; replace HB := K_ (hbel _ _ GE2.out (BL HB)); clear hbk hfar hbel)
          | ((with_reducible refine zW (p := 3) rfl ?_); refine so_ (g := g3) (cs := Z51) (Z51) ⟨BK BK3⟩ ?_ rfl rfl rfl rfl rfl uT rfl rfl; intro w9 hbk hfar hbel; replace HO1 := K_ (uA (RB HO1.out) (BK BK3) (by decide) hfar); replace HO2 := K_ (uA (RB HO2.out) (BK BK3) (by decide) hfar); replace HO3 := K_ (uA (RB HO3.out) (BK BK3) (by decide) hfar); replace HO4 := K_ (uA (RB HO4.out) (BK BK3) (by decide) hfar); replace BK2 := K_ (hfar _ _ NB.out (BK BK2)); replace BK3 := K_ hbk; replace HB := K_ (hbel _ _ GE3.out (BL HB)); clear hbk hfar hbel))
         refine bodyPost_ret (qR rfl _ _ g2 g3 26 51 (xY (.slice B1 px.length d1) (.slice B2 sx.length d2) hn (.slice B3 nx.length d3) (.slice B4 ny.length d4) PN at_ pad wd) Z51 (0, 0) (0, 0) _ _ rfl BK2.out Tryz.underlying26 rfl yO rfl BK3.out Tryz.underlying51 rfl uT) rfl ?_
         refine ⟨_, _, _, _, px, sx, nx, ny, PN, hn, at_, pad, wd, 0, 0, rfl, HO1.out, HO2.out, HO3.out, HO4.out, BL HB, fun _ => ⟨⟨_, HPOK.out.1.2.2.1⟩, HG1.out, HG2.out, HG.out.1, HG.out.2, HM.out, by omega, by omega, hnl, hyl⟩, fun l' h1 hns hsm P0 hok hnm => ?_⟩
         have e := EQL.out l' h1
         subst e
         have e2 := HEQ.out hns hsm
         obtain ⟨e3, e4⟩ := HEN.out hns hsm
         have e5 := HPOK.out
         rw [e2] at e5
         simp only [List.length_map] at e5
         refine ⟨rfl, Option.some.inj (e5.1.2.2.1.symm.trans hok.2.2.1), e5.2.1, e5.2.2, ?_, ?_⟩
         ·rw [e3]
         rw [e4]
     have dE2 : (E2 != 0) = true := by simpa using hE
     have HEV := K_ hE
     have HE := K_ (show ∀ l', Ev (fun k => zG.f k s) (l', 0, 0) → xP l' → zay l' → ∀ P0, xW (l'.map mk73) P0 → ¬ mixed (jH (uG (l'.map mk73) (uW (l'.map mk73)) l'.length)) (jH (uF (l'.map mk73) (uR (l'.map mk73)) l'.length)) (⟨2, 0⟩ :: jH (uG (l'.map mk73) (uW (l'.map mk73)) l'.length)) (jH (uF (l'.map mk73) (uR (l'.map mk73)) l'.length)) → False from fun l' h1 hns hsm P0 hok _ => HEV.out (HEX.out (by rw [HEQ.out (EQL.out l' h1 ▸ hns) (EQL.out l' h1 ▸ hsm)]; intro x hx; obtain ⟨t, _, rfl⟩ := List.mem_map.1 hx; rfl) ⟨P0, by rw [HEQ.out (EQL.out l' h1 ▸ hns) (EQL.out l' h1 ▸ hsm), ← EQL.out l' h1]; exact hok⟩))
     clear hE
     go_upto_region 29 with (fail)
     clear q0 q1 q2 q3
     refine vQ (n := 4) (S := fun w' => w'.heap[g5]? = some (.cells #[.int .i64 E2, .int .i64 a2] 51 (0, 0))) (ds := []) #[false, false, false, false] (by kernel_rfl) rfl rfl (BK BK5) (fun hHeld => ?_)
     refine yC (fun W => W.heap[g5]? = some (.cells #[.int .i64 E2, .int .i64 a2] 51 (0, 0)) ∧ W.heap[g2]? = some (.cells Z26 26 (0, 0)) ∧ W.heap[g3]? = some (.cells Z51 51 (0, 0)) ∧ Below w.heap.size w W) ⟨BK BK5, BK BK2, BK BK3, BL HB⟩ ?_
     clear hHeld
     rintro W ⟨hHeld, hb2, hb3, hbw⟩
     replace BK2 := K_ hb2
     replace BK3 := K_ hb3
     replace HB := K_ hbw
     clear hb2 hb3 hbw
     refine pw_ 0 100 (bb 4 1) ?_
     refine tr_ 1 101 (bb 4 3) (#[.int .i64 E2, .int .i64 a2]) (fun _ hs => ⟨hs⟩) Tryz.underlying51 uT hHeld ?_
     refine on_ 2 none (bb 4 7) (fun K hK => ?_)
     refine uC (g := g2) (cs := Z26) Z26 BK2 ?_ rfl rfl rfl rfl rfl yO rfl rfl
     intro w8 hbk hfar hbel
     have hHeld2 := hfar g5 _ (Ne.symm N2F.out) hHeld
     replace BK3 := K_ (hfar g3 _ (Ne.symm NB.out) BK3.out)
     replace BK2 := K_ hbk
     replace HB := K_ (hbel _ _ GE2.out HB.out)
     refine hK.out _ _ hHeld2 (fun _ => ?_)
     clear hK K hbk hfar hbel
     refine on_ 3 none (bb 4 15) (fun K hK => ?_)
     refine uC (g := g3) (cs := Z51) #[.int .i64 E2, .int .i64 a2] BK3 ?_ rfl rfl rfl rfl rfl uT rfl rfl
     intro w9 hbk hfar hbel
     have hHeld3 := hfar g5 _ (Ne.symm N3F.out) hHeld2
     replace BK2 := K_ (hfar g2 _ NB.out BK2.out)
     replace BK3 := K_ hbk
     replace HB := K_ (hbel _ _ GE3.out HB.out)
     refine hK.out _ _ hHeld3 (fun _ => ?_)
     clear hK K hbk hfar hbel
     refine vS (by kernel_rfl) ?_
     go_wp2_with (fail)
     (
      refine bodyPost_ret (qR rfl _ _ g2 g3 26 51 Z26 #[.int .i64 E2, .int .i64 a2] (0, 0) (0, 0) _ _ rfl BK2.out Tryz.underlying26 rfl yO rfl BK3.out Tryz.underlying51 rfl uT) rfl ?_
      exact ⟨_, _, _, _, [], [], [], [], jL, false, 0, 0, 0, E2, a2, rfl, Kd.R_nil _ _ _ _ _, Kd.R_nil _ _ _ _ _, Kd.R_nil _ _ _ _ _, Kd.R_nil _ _ _ _ _, BL HB, fun h => absurd h HEV.out, fun l' h1 h2 h3 P0 h4 h5 => (HE.out l' h1 h2 h3 P0 h4 h5).elim⟩)
 have dE : (E1 != 0) = true := by simpa using hE
 have HEV := K_ hE
 have HE := K_ (show ∀ l', Ev (fun k => zG.f k s) (l', 0, 0) → xP l' → zay l' → ∀ P0, xW (l'.map mk73) P0 → ¬ mixed (jH (uG (l'.map mk73) (uW (l'.map mk73)) l'.length)) (jH (uF (l'.map mk73) (uR (l'.map mk73)) l'.length)) (⟨2, 0⟩ :: jH (uG (l'.map mk73) (uW (l'.map mk73)) l'.length)) (jH (uF (l'.map mk73) (uR (l'.map mk73)) l'.length)) → False from fun l' h1 _ _ _ _ _ => hE (by have e := zdr h1 HEV1.out; have e2 := congrArg (fun r => r.2.1) e; exact e2.symm))
 clear hE
 go_upto_region 3 with (fail)
 clear q0 q1 q2 q3
 refine vQ (n := 4) (S := fun w' => w'.heap[g5]? = some (.cells #[.int .i64 E1, .int .i64 a1] 51 (0, 0))) (ds := []) #[false, false, false, false] (by kernel_rfl) rfl rfl (BK BK5) (fun hHeld => ?_)
 refine yC (fun W => W.heap[g5]? = some (.cells #[.int .i64 E1, .int .i64 a1] 51 (0, 0)) ∧ W.heap[g2]? = some (.cells Z26 26 (0, 0)) ∧ W.heap[g3]? = some (.cells Z51 51 (0, 0)) ∧ Below w.heap.size w W) ⟨BK BK5, BK BK2, BK BK3, BL HB⟩ ?_
 clear hHeld
 rintro W ⟨hHeld, hb2, hb3, hbw⟩
 replace BK2 := K_ hb2
 replace BK3 := K_ hb3
 replace HB := K_ hbw
 clear hb2 hb3 hbw
 refine pw_ 0 24 (bb 4 1) ?_
 refine tr_ 1 25 (bb 4 3) (#[.int .i64 E1, .int .i64 a1]) (fun _ hs => ⟨hs⟩) Tryz.underlying51 uT hHeld ?_
 refine on_ 2 none (bb 4 7) (fun K hK => ?_)
 refine uC (g := g2) (cs := Z26) Z26 BK2 ?_ rfl rfl rfl rfl rfl yO rfl rfl
 intro w8 hbk hfar hbel
 have hHeld2 := hfar g5 _ (Ne.symm N2F.out) hHeld
 replace BK3 := K_ (hfar g3 _ (Ne.symm NB.out) BK3.out)
 replace BK2 := K_ hbk
 replace HB := K_ (hbel _ _ GE2.out HB.out)
 refine hK.out _ _ hHeld2 (fun _ => ?_)
 clear hK K hbk hfar hbel
 refine on_ 3 none (bb 4 15) (fun K hK => ?_)
 refine uC (g := g3) (cs := Z51) #[.int .i64 E1, .int .i64 a1] BK3 ?_ rfl rfl rfl rfl rfl uT rfl rfl
 intro w9 hbk hfar hbel
 have hHeld3 := hfar g5 _ (Ne.symm N3F.out) hHeld2
 replace BK2 := K_ (hfar g2 _ NB.out BK2.out)
 replace BK3 := K_ hbk
 replace HB := K_ (hbel _ _ GE3.out HB.out)
 refine hK.out _ _ hHeld3 (fun _ => ?_)
 clear hK K hbk hfar hbel
 refine vS (by kernel_rfl) ?_
 go_wp2_with (fail)
 (
  refine bodyPost_ret (qR rfl _ _ g2 g3 26 51 Z26 #[.int .i64 E1, .int .i64 a1] (0, 0) (0, 0) _ _ rfl BK2.out Tryz.underlying26 rfl yO rfl BK3.out Tryz.underlying51 rfl uT) rfl ?_
  exact ⟨_, _, _, _, [], [], [], [], jL, false, 0, 0, 0, E1, a1, rfl, Kd.R_nil _ _ _ _ _, Kd.R_nil _ _ _ _ _, Kd.R_nil _ _ _ _ _, Kd.R_nil _ _ _ _ _, BL HB, fun h => absurd h HEV.out, fun l' h1 h2 h3 P0 h4 h5 => (HE.out l' h1 h2 h3 P0 h4 h5).elim⟩)
end Go.Proofs.YtcmgdjnjmobkoaaGreatDoor.Px
namespace Go.Proofs.YtcmgdjnjmobkoaaGreatDoor.Px
open Fig Go.RowKit Go.Proofs.YtcmgdjnjmobkoaaGreatDoorW.PrintWords Go.Proofs.YtcmgdjnjmobkoaaGreatDoorW.PrintLast Go.Proofs.YtcmgdjnjmobkoaaGreatDoorW.PrintMore
attribute [local go_sem] vK vO uE uD yZ yY vM vN
attribute [local go_sem] qJ qW qM qX qV qU qT qP qH qY qK qQ qO qS
def zQ.l0 : Nat → ByteArray → Int → Option (Bool)
 | 0, _, _ => none
 | k + 1, x0, x3 => if x3 < (x0.size : Int) then (if 0 ≤ x3 then (if (bt x0 x3) < 48 then (some false) else (if (bt x0 x3) > 57 then (some false) else (zQ.l0 k x0 (wrap64 (x3 + 1))))) else (none)) else (some (x0.toList != ([] : List UInt8)))
def zQ.f (k : Nat) (a0 : ByteArray) : Option (Bool) := zQ.l0 k a0 0
theorem zQ.mono_l : ∀ k, (∀ y0 y1, LeO (zQ.l0 k y0 y1) (zQ.l0 (k + 1) y0 y1))
 | 0 => fun _ _ r h => by simp [zQ.l0] at h
 | k + 1 => by
  have ih0 := zQ.mono_l k
  intro y0 y1
  unfold zQ.l0
  repeat' first
  | (with_reducible exact ih0 _ _)
  | (with_reducible exact LeO.refl _)
  | (with_reducible exact LeO.none _)
  | (with_reducible refine LeO.ite ?_ ?_)
  | (with_reducible refine LeO.bind ?_ (fun _ => ?_))
  | exact ih0 _ _
  | exact LeO.none _
  | refine LeO.ite ?_ ?_
  | refine LeO.bind ?_ (fun _ => ?_)
theorem zQ.mono : ∀ a0 k, LeO (zQ.f k a0) (zQ.f (k + 1) a0) := by
 intro a0 k
 have ih0 := zQ.mono_l k
 unfold zQ.f
 repeat' first
   | (with_reducible exact ih0 _ _)
   | (with_reducible exact LeO.refl _)
   | (with_reducible exact LeO.none _)
   | (with_reducible refine LeO.ite ?_ ?_)
   | (with_reducible refine LeO.bind ?_ (fun _ => ?_))
   | exact ih0 _ _
   | exact LeO.none _
   | refine LeO.ite ?_ ?_
   | refine LeO.bind ?_ (fun _ => ?_)
set_option maxHeartbeats 8000000 in
set_option maxRecDepth 100000 in
theorem zQ.calls (k : Nat) (a0 : ByteArray) (r : Bool) (w : World) (h : zQ.f k a0 = some r) :
  Calls Tryz.prog 68 #[.string a0] w fun e w' => e = .returned (.bool r) ∧ zJ w w' := by
 have H : (zQ.l0 k a0 0) = some r := h
 clear h
 have H' := K_ H
 clear H
 go_enter Tryz.func68, Tryz.ntmps68
 go_wp2
 go_loopg [3] k (fun kq v3 w' => ∃ (x3_1 : Int), v3 = .int .i64 x3_1 ∧ Aside0 (zQ.l0 kq a0 x3_1 = some r) ∧ Aside0 (kq ≤ k) ∧ zJ w w')
 case atStart => exact ⟨(0), SR, H', ⟨Nat.le_refl _⟩, by repeat (first | exact zJ.refl _ | apply zJ.step)⟩
 case round =>
  clear H'
  obtain ⟨x3_1, rfl, HA, HK1, ⟨m1, rfl⟩⟩ := hrel
  obtain _ | k1 := gk
  ·exact absurd HA.out (by simp [zQ.l0])
  have H := HA.out
  clear HA
  simp only [zQ.l0] at H
  by_cases c2 : x3_1 < (a0.size : Int)
  ·rw [if_pos c2] at H
   have c2b0 : decide (x3_1 < (a0.size : Int)) = true := decide_eq_true c2
   clear c2
   by_cases c3 : 0 ≤ x3_1
   ·rw [if_pos c3] at H
    have c3b0 : decide (0 ≤ x3_1) = true := decide_eq_true c3
    clear c3
    by_cases c5 : (bt a0 x3_1) < 48
    ·rw [if_pos c5] at H
     have c5b0 : decide ((bt a0 x3_1) < 48) = true := decide_eq_true c5
     clear c5
     obtain rfl := Option.some.inj H
     have p4 : 0 ≤ (x3_1 : Int) := of_decide_eq_true (by first | (with_reducible assumption) | assumption)
     have q4 : x3_1 < (a0.size : Int) := of_decide_eq_true (by first | (with_reducible assumption) | assumption)
     have hx4 := zam a0 x3_1
     replace p4 := eq_true p4
     replace q4 := eq_true q4
     go_wp2
     go_ret
     exact ⟨by first | rfl | (simp; done) | (simp [*]; done) | (simp [*, Fig.bne_nil]; done), by repeat (first | exact zJ.refl _ | apply zJ.step)⟩
    rw [if_neg c5] at H
    have c5b0 : decide ((bt a0 x3_1) < 48) = false := decide_eq_false c5
    clear c5
    by_cases c7 : (bt a0 x3_1) > 57
    ·rw [if_pos c7] at H
     have c7b0 : decide (57 < (bt a0 x3_1)) = true := decide_eq_true c7
     clear c7
     obtain rfl := Option.some.inj H
     have p4 : 0 ≤ (x3_1 : Int) := of_decide_eq_true (by first | (with_reducible assumption) | assumption)
     have q4 : x3_1 < (a0.size : Int) := of_decide_eq_true (by first | (with_reducible assumption) | assumption)
     have hx4 := zam a0 x3_1
     replace p4 := eq_true p4
     replace q4 := eq_true q4
     have p6 : 0 ≤ (x3_1 : Int) := of_decide_eq_true (by first | (with_reducible assumption) | assumption)
     have q6 : x3_1 < (a0.size : Int) := of_decide_eq_true (by first | (with_reducible assumption) | assumption)
     have hx6 := zam a0 x3_1
     replace p6 := eq_true p6
     replace q6 := eq_true q6
     go_wp2
     go_ret
     exact ⟨by first | rfl | (simp; done) | (simp [*]; done) | (simp [*, Fig.bne_nil]; done), by repeat (first | exact zJ.refl _ | apply zJ.step)⟩
    rw [if_neg c7] at H
    have c7b0 : decide (57 < (bt a0 x3_1)) = false := decide_eq_false c7
    clear c7
    have H' := K_ H
    clear H
    have p4 : 0 ≤ (x3_1 : Int) := of_decide_eq_true (by first | (with_reducible assumption) | assumption)
    have q4 : x3_1 < (a0.size : Int) := of_decide_eq_true (by first | (with_reducible assumption) | assumption)
    have hx4 := zam a0 x3_1
    replace p4 := eq_true p4
    replace q4 := eq_true q4
    have p6 : 0 ≤ (x3_1 : Int) := of_decide_eq_true (by first | (with_reducible assumption) | assumption)
    have q6 : x3_1 < (a0.size : Int) := of_decide_eq_true (by first | (with_reducible assumption) | assumption)
    have hx6 := zam a0 x3_1
    replace p6 := eq_true p6
    replace q6 := eq_true q6
    go_wp2
    go_roundg k1
    case measure => have := HK1.out; omega
    case rel => exact ⟨(wrap64 (x3_1 + 1)), SR, H', ⟨by have := HK1.out; omega⟩, by repeat (first | exact zJ.refl _ | apply zJ.step)⟩
   rw [if_neg c3] at H
   exact absurd H (by simp)
  rw [if_neg c2] at H
  have c2b0 : decide (x3_1 < (a0.size : Int)) = false := decide_eq_false c2
  clear c2
  obtain rfl := Option.some.inj H
  go_wp2
  go_ret
  exact ⟨by first | rfl | (simp; done) | (simp [*]; done) | (simp [*, Fig.bne_nil]; done), by repeat (first | exact zJ.refl _ | apply zJ.step)⟩
theorem zeW (s : ByteArray) (hs : s.size ≤ 4611686018427387904) : ∀ (d n : Nat), s.size - n = d → n ≤ s.size → Ev (fun k => zQ.l0 k s (n : Int)) (yV (s.data.toList.drop n) && decide (s.size ≠ 0))
 | 0, n, hd, hn => by
  refine qZ (r' := (s.toList != ([] : List UInt8))) (fun k => ?_) ?_
  ·simp only [zQ.l0]; rw [if_neg (by omega)]
  rw [List.drop_of_length_le (by rw [← zU]; omega), bne_nil, ByteArray.toList_eq, zU]
  cases s.data.toList <;> simp [yV]
 | d + 1, n, hd, hn => by
  have hlt : n < s.size := by omega
  have hbt := zdq hlt
  have hc := List.drop_eq_getElem_cons (l := s.data.toList) (i := n) (by rw [← zU]; exact hlt)
  rw [hc]
  generalize hx : s.data.toList[n]'(by rw [← zU]; exact hlt) = c at hbt
  by_cases h1 : c.toNat < 48
  ·refine qZ (r' := false) (fun k => ?_) ?_
   ·simp only [zQ.l0]; rw [if_pos (by omega), if_pos (by omega), hbt, if_pos (by omega)]
   have : isD c = false := by unfold isD; simp; omega
   simp [yV, this]
  by_cases h2 : c.toNat > 57
  ·refine qZ (r' := false) (fun k => ?_) ?_
   ·simp only [zQ.l0]; rw [if_pos (by omega), if_pos (by omega), hbt, if_neg (by omega), if_pos (by omega)]
   have : isD c = false := by unfold isD; simp; omega
   simp [yV, this]
  have hd1 : isD c = true := zaa.2 ⟨by omega, by omega⟩
  refine zdk (Ev.step (f := fun k => zQ.l0 k s ((n + 1 : Nat) : Int)) (fun k => ?_) (zeW s hs d (n + 1) (by omega) (by omega))) ?_
  ·simp only [zQ.l0]; rw [if_pos (by omega), if_pos (by omega), hbt, if_neg (by omega), if_neg (by omega), zaz _ (by omega)]
  simp [yV, hd1]
theorem ziZ {s : ByteArray} (hs : s.size ≤ 4611686018427387904) : Ev (fun k => zQ.f k s) (dB s && decide (s.size ≠ 0)) := by
 have := zeW s hs s.size 0 (by omega) (by omega)
 rw [List.drop_zero] at this
 exact this
def yU.f (k : Nat) (a0_0 : Bool) (a0_1 : ByteArray) (a0_2 : Int) : Option (Bool) := (zQ.f k a0_1).bind fun t590 => (if t590 = true then (if (a0_1.size : Int) ≤ 1000 then (if a0_2 ≥ (-1000) then (some (decide (a0_2 ≤ 1000))) else (some false)) else (some false)) else (some false))
theorem yU.mono : ∀ a0 a1 a2 k, LeO (yU.f k a0 a1 a2) (yU.f (k + 1) a0 a1 a2) := by
 intro a0 a1 a2 k
 unfold yU.f
 repeat' first
   | (with_reducible exact zQ.mono _ _)
   | (with_reducible exact LeO.refl _)
   | (with_reducible exact LeO.none _)
   | (with_reducible refine LeO.ite ?_ ?_)
   | (with_reducible refine LeO.bind ?_ (fun _ => ?_))
   | exact zQ.mono _ _
   | exact LeO.none _
   | refine LeO.ite ?_ ?_
   | refine LeO.bind ?_ (fun _ => ?_)
set_option maxHeartbeats 8000000 in
set_option maxRecDepth 100000 in
theorem yU.calls (k : Nat) (a0_0 : Bool) (a0_1 : ByteArray) (a0_2 : Int) (r : Bool) (w : World) (h : yU.f k a0_0 a0_1 a0_2 = some r) :
  Calls Tryz.prog 40 #[.agg #[.bool a0_0, .string a0_1, .int .i64 a0_2]] w fun e w' => e = .returned (.bool r) ∧ Below w.heap.size w w' := by
 have hu23 := Tryz.underlying23
 have HB := K_ (Below.refl w.heap.size w)
 have H : ((zQ.f k a0_1).bind fun t590 => (if t590 = true then (if (a0_1.size : Int) ≤ 1000 then (if a0_2 ≥ (-1000) then (some (decide (a0_2 ≤ 1000))) else (some false)) else (some false)) else (some false))) = some r := h
 clear h
 obtain ⟨t590, A20, H⟩ := Option.bind_eq_some_iff.mp H
 (try dsimp -simprocs only at H)
 have A2 := K_ A20
 clear A20
 by_cases c3 : t590 = true
 ·subst c3
  rw [if_pos rfl] at H
  by_cases c4 : (a0_1.size : Int) ≤ 1000
  ·rw [if_pos c4] at H
   have c4b0 : decide ((a0_1.size : Int) ≤ 1000) = true := decide_eq_true c4
   have c4b1 : decide (a0_1.size ≤ 1000) = true := decide_eq_true (by omega)
   clear c4
   by_cases c5 : a0_2 ≥ (-1000)
   ·rw [if_pos c5] at H
    have c5b0 : decide ((-1000) ≤ a0_2) = true := decide_eq_true c5
    clear c5
    obtain rfl := Option.some.inj H
    go_enter Tryz.func40, Tryz.ntmps40
    go_wp2_with (first | ((with_reducible refine zF (N := 1) rfl ?_); (try (refine vL (by rfl) ?_; dsimp only)); refine be_ 1 #[.bool a0_0, .string a0_1, .int .i64 a0_2] 23 ?_; intro gb589 hg w6 hbox hb; have BK589 := K_ (hbox); have GW589 := ge_ hg HB; have GE589 := ge_ hg HB; replace HB := zE HB hb; clear hb hbox hg; obtain ⟨⟨hcz7_0, hcz7_1, hcz7_2⟩, hfz7_0, hfz7_1, hfz7_2⟩ := ce3 BK589) | ((with_reducible refine zK (f := 68) rfl ?_); refine zY (some 5) rfl rfl Tryz.func68 (by kernel_rfl) rfl #[.string a0_1] rfl MP ?_; (with_reducible refine (zQ.calls k a0_1 true _ A2.out).mono ?_); rintro e w' ⟨rfl, ⟨nd, rfl⟩⟩; refine ⟨_, rfl, ?_⟩))
    go_ret
    exact ⟨ER, BL HB⟩
   rw [if_neg c5] at H
   have c5b0 : decide ((-1000) ≤ a0_2) = false := decide_eq_false c5
   clear c5
   obtain rfl := Option.some.inj H
   go_enter Tryz.func40, Tryz.ntmps40
   go_wp2_with (first | ((with_reducible refine zF (N := 1) rfl ?_); (try (refine vL (by rfl) ?_; dsimp only)); refine be_ 1 #[.bool a0_0, .string a0_1, .int .i64 a0_2] 23 ?_; intro gb589 hg w8 hbox hb; have BK589 := K_ (hbox); have GW589 := ge_ hg HB; have GE589 := ge_ hg HB; replace HB := zE HB hb; clear hb hbox hg; obtain ⟨⟨hcz9_0, hcz9_1, hcz9_2⟩, hfz9_0, hfz9_1, hfz9_2⟩ := ce3 BK589) | ((with_reducible refine zK (f := 68) rfl ?_); refine zY (some 5) rfl rfl Tryz.func68 (by kernel_rfl) rfl #[.string a0_1] rfl MP ?_; (with_reducible refine (zQ.calls k a0_1 true _ A2.out).mono ?_); rintro e w' ⟨rfl, ⟨nd, rfl⟩⟩; refine ⟨_, rfl, ?_⟩))
   go_ret
   exact ⟨ER, BL HB⟩
  rw [if_neg c4] at H
  have c4b0 : decide ((a0_1.size : Int) ≤ 1000) = false := decide_eq_false c4
  have c4b1 : decide (a0_1.size ≤ 1000) = false := decide_eq_false (by omega)
  clear c4
  obtain rfl := Option.some.inj H
  go_enter Tryz.func40, Tryz.ntmps40
  go_wp2_with (first | ((with_reducible refine zF (N := 1) rfl ?_); (try (refine vL (by rfl) ?_; dsimp only)); refine be_ 1 #[.bool a0_0, .string a0_1, .int .i64 a0_2] 23 ?_; intro gb589 hg w10 hbox hb; have BK589 := K_ (hbox); have GW589 := ge_ hg HB; have GE589 := ge_ hg HB; replace HB := zE HB hb; clear hb hbox hg; obtain ⟨⟨hcz11_0, hcz11_1, hcz11_2⟩, hfz11_0, hfz11_1, hfz11_2⟩ := ce3 BK589) | ((with_reducible refine zK (f := 68) rfl ?_); refine zY (some 5) rfl rfl Tryz.func68 (by kernel_rfl) rfl #[.string a0_1] rfl MP ?_; (with_reducible refine (zQ.calls k a0_1 true _ A2.out).mono ?_); rintro e w' ⟨rfl, ⟨nd, rfl⟩⟩; refine ⟨_, rfl, ?_⟩))
  go_ret
  exact ⟨ER, BL HB⟩
 replace c3 := Bool.eq_false_iff.mpr c3
 subst c3
 rw [if_neg (show ¬ (false = true) by decide)] at H
 obtain rfl := Option.some.inj H
 go_enter Tryz.func40, Tryz.ntmps40
 go_wp2_with (first | ((with_reducible refine zF (N := 1) rfl ?_); (try (refine vL (by rfl) ?_; dsimp only)); refine be_ 1 #[.bool a0_0, .string a0_1, .int .i64 a0_2] 23 ?_; intro gb589 hg w12 hbox hb; have BK589 := K_ (hbox); have GW589 := ge_ hg HB; have GE589 := ge_ hg HB; replace HB := zE HB hb; clear hb hbox hg; obtain ⟨⟨hcz13_0, hcz13_1, hcz13_2⟩, hfz13_0, hfz13_1, hfz13_2⟩ := ce3 BK589) | ((with_reducible refine zK (f := 68) rfl ?_); refine zY (some 5) rfl rfl Tryz.func68 (by kernel_rfl) rfl #[.string a0_1] rfl MP ?_; (with_reducible refine (zQ.calls k a0_1 false _ A2.out).mono ?_); rintro e w' ⟨rfl, ⟨nd, rfl⟩⟩; refine ⟨_, rfl, ?_⟩))
 go_ret
 exact ⟨ER, BL HB⟩
theorem zlc {b : Bool} {s : ByteArray} {e : Int} (hs : s.size ≤ 4611686018427387904) : Ev (fun k => yU.f k b s e) (zca s e) := by
 unfold yU.f
 refine Ev.bind (ziZ hs) ?_
 unfold zca
 cases hd : (dB s && decide (s.size ≠ 0))
 ·simp only [Bool.false_eq_true, if_false, Bool.false_and]
  exact Ev.now _
 simp only [if_true, Bool.true_and]
 by_cases h1 : s.size ≤ 1000
 ·have h1' : (s.size : Int) ≤ 1000 := by omega
  simp only [h1', h1, if_true, decide_true, Bool.true_and]
  by_cases h2 : e ≥ -1000
  ·have h2' : -1000 ≤ e := h2
   simp only [h2, h2', if_true, decide_true, Bool.true_and]
   exact Ev.now _
  have h2' : ¬ -1000 ≤ e := h2
  simp only [h2, h2', if_false, decide_false, Bool.false_and]
  exact Ev.now _
 have h1' : ¬ (s.size : Int) ≤ 1000 := by omega
 simp only [h1', h1, if_false, decide_false, Bool.false_and]
 exact Ev.now _
def zS.l0 : Nat → ByteArray → Int → Bool → ByteArray → Int → Option (Bool × ByteArray × Int)
 | 0, _, _, _, _, _ => none
 | k + 1, x3, x4, x592000, x592001, x592002 => if 0 ≤ (wrap64 ((x3.size : Int) - 1)) then (if (wrap64 ((x3.size : Int) - 1)) < (x3.size : Int) then (if (bt x3 (wrap64 ((x3.size : Int) - 1))) = 48 then (if (wrap64 ((x3.size : Int) - 1)) ≤ (x3.size : Int) then (zS.l0 k (x3.extract 0 ((wrap64 ((x3.size : Int) - 1)) : Int).toNat) (wrap64 (x4 + 1)) x592000 x592001 x592002) else (none)) else (some (x592000, x3, x4))) else (none)) else (none)
def zS.f (k : Nat) (a0_0 : Bool) (a0_1 : ByteArray) (a0_2 : Int) : Option (Bool × ByteArray × Int) := (zO.f k a0_1).bind fun t593 => (if t593.toList = ([] : List UInt8) then (some (a0_0, (⟨#[48]⟩ : ByteArray), 0)) else (zS.l0 k t593 a0_2 a0_0 a0_1 a0_2))
theorem zS.mono_l : ∀ k, (∀ y0 y1 y2 y3 y4, LeO (zS.l0 k y0 y1 y2 y3 y4) (zS.l0 (k + 1) y0 y1 y2 y3 y4))
 | 0 => fun _ _ _ _ _ r h => by simp [zS.l0] at h
 | k + 1 => by
  have ih0 := zS.mono_l k
  intro y0 y1 y2 y3 y4
  unfold zS.l0
  repeat' first
  | (with_reducible exact ih0 _ _ _ _ _)
  | (with_reducible exact zO.mono _ _)
  | (with_reducible exact LeO.refl _)
  | (with_reducible exact LeO.none _)
  | (with_reducible refine LeO.ite ?_ ?_)
  | (with_reducible refine LeO.bind ?_ (fun _ => ?_))
  | exact ih0 _ _ _ _ _
  | exact zO.mono _ _
  | exact LeO.none _
  | refine LeO.ite ?_ ?_
  | refine LeO.bind ?_ (fun _ => ?_)
theorem zS.mono : ∀ a0 a1 a2 k, LeO (zS.f k a0 a1 a2) (zS.f (k + 1) a0 a1 a2) := by
 intro a0 a1 a2 k
 have ih0 := zS.mono_l k
 unfold zS.f
 repeat' first
   | (with_reducible exact ih0 _ _ _ _ _)
   | (with_reducible exact zO.mono _ _)
   | (with_reducible exact LeO.refl _)
   | (with_reducible exact LeO.none _)
   | (with_reducible refine LeO.ite ?_ ?_)
   | (with_reducible refine LeO.bind ?_ (fun _ => ?_))
   | exact ih0 _ _ _ _ _
   | exact zO.mono _ _
   | exact LeO.none _
   | refine LeO.ite ?_ ?_
   | refine LeO.bind ?_ (fun _ => ?_)
set_option maxHeartbeats 8000000 in
set_option maxRecDepth 100000 in
theorem zS.calls (k : Nat) (a0_0 : Bool) (a0_1 : ByteArray) (a0_2 : Int) (r1 : Bool) (r2 : ByteArray) (r3 : Int) (w : World) (h : zS.f k a0_0 a0_1 a0_2 = some (r1, r2, r3)) :
  Calls Tryz.prog 50 #[.agg #[.bool a0_0, .string a0_1, .int .i64 a0_2]] w fun e w' => e = .returned (.agg #[.bool r1, .string r2, .int .i64 r3]) ∧ Below w.heap.size w w' := by
 have hu23 := Tryz.underlying23
 have HB := K_ (Below.refl w.heap.size w)
 have H : ((zO.f k a0_1).bind fun t593 => (if t593.toList = ([] : List UInt8) then (some (a0_0, (⟨#[48]⟩ : ByteArray), 0)) else (zS.l0 k t593 a0_2 a0_0 a0_1 a0_2))) = some (r1, r2, r3) := h
 clear h
 obtain ⟨t593, A20, H⟩ := Option.bind_eq_some_iff.mp H
 (try dsimp -simprocs only at H)
 have A2 := K_ A20
 clear A20
 by_cases c3 : t593.toList = ([] : List UInt8)
 ·rw [if_pos c3] at H
  have c3b0 : (t593.toList == ([] : List UInt8)) = true := beq_iff_eq.mpr c3
  have c3b1 : (t593.toList != ([] : List UInt8)) = false := bne_eq_false_iff_eq.mpr c3
  clear c3
  simp only [Option.some.injEq, Prod.mk.injEq] at H
  obtain ⟨rfl, rfl, rfl⟩ := H
  go_enter Tryz.func50, Tryz.ntmps50
  go_wp2_with (first | (refine be_ 1 #[.bool a0_0, .string a0_1, .int .i64 a0_2] 23 ?_; intro gb591 hg w4 hbox hb; have BK591 := K_ (hbox); have GW591 := ge_ hg HB; have GE591 := ge_ hg HB; replace HB := zE HB hb; clear hb hbox hg) | (refine be_ 2 #[.bool false, .string (⟨#[]⟩ : ByteArray), .int .i64 0] 23 ?_; intro gb592 hg w5 hbox hb; have BK592 := K_ (hbox); have GW592 := ge_ hg HB; have GE592 := ge_ hg HB; replace HB := zE HB hb; have NB591_592 := nb_ hg BK591; have NB592_591 := nc_ hg BK591; replace BK591 := zC BK591 hb; clear hb hbox hg; have hnb6 := NB591_592.out; have hnc6 := NB592_591.out; obtain ⟨⟨hcz7_0, hcz7_1, hcz7_2⟩, hfz7_0, hfz7_1, hfz7_2⟩ := ce3 BK591) | ((with_reducible refine zK (f := 69) rfl ?_); refine zY (some 7) rfl rfl Tryz.func69 (by kernel_rfl) rfl #[.string a0_1] rfl MP ?_; (with_reducible refine (zO.calls k a0_1 t593 _ A2.out).mono ?_); rintro e w' ⟨rfl, ⟨nd, rfl⟩⟩; refine ⟨_, rfl, ?_⟩; (try (rw [zaI w5]; generalize hq_ : World.drewN w5 _ = w5; replace BK591 := zbM BK591 hq_; replace BK592 := zbM BK592 hq_; replace HB := zeC HB hq_; clear hq_)); (try (obtain ⟨⟨hcz9066_0, hcz9066_1, hcz9066_2⟩, hfz9066_0, hfz9066_1, hfz9066_2⟩ := ce3 BK591)); (try (obtain ⟨⟨hcz9067_0, hcz9067_1, hcz9067_2⟩, hfz9067_0, hfz9067_1, hfz9067_2⟩ := ce3 BK592)); obtain ⟨⟨hcz8_0, hcz8_1, hcz8_2⟩, hfz8_0, hfz8_1, hfz8_2⟩ := ce3 BK592))
  refine bodyPost_ret (results_cell_row rfl _ _ gb592 23 #[.bool a0_0, .string (⟨#[48]⟩ : ByteArray), .int .i64 0] (0, 0) _ rfl (BP BK592) Tryz.underlying23 rfl (by kernel_rfl)) rfl ?_
  exact ⟨ER, BL HB⟩
 rw [if_neg c3] at H
 have c3b0 : (t593.toList == ([] : List UInt8)) = false := beq_eq_false_iff_ne.mpr c3
 have c3b1 : (t593.toList != ([] : List UInt8)) = true := bne_iff_ne.mpr c3
 have H' := K_ H
 clear H
 go_enter Tryz.func50, Tryz.ntmps50
 go_wp2_with (first | (refine be_ 1 #[.bool a0_0, .string a0_1, .int .i64 a0_2] 23 ?_; intro gb591 hg w9 hbox hb; have BK591 := K_ (hbox); have GW591 := ge_ hg HB; have GE591 := ge_ hg HB; replace HB := zE HB hb; clear hb hbox hg) | (refine be_ 2 #[.bool false, .string (⟨#[]⟩ : ByteArray), .int .i64 0] 23 ?_; intro gb592 hg w10 hbox hb; have BK592 := K_ (hbox); have GW592 := ge_ hg HB; have GE592 := ge_ hg HB; replace HB := zE HB hb; have NB591_592 := nb_ hg BK591; have NB592_591 := nc_ hg BK591; replace BK591 := zC BK591 hb; clear hb hbox hg; have hnb11 := NB591_592.out; have hnc11 := NB592_591.out; obtain ⟨⟨hcz12_0, hcz12_1, hcz12_2⟩, hfz12_0, hfz12_1, hfz12_2⟩ := ce3 BK591) | ((with_reducible refine zK (f := 69) rfl ?_); refine zY (some 7) rfl rfl Tryz.func69 (by kernel_rfl) rfl #[.string a0_1] rfl MP ?_; (with_reducible refine (zO.calls k a0_1 t593 _ A2.out).mono ?_); rintro e w' ⟨rfl, ⟨nd, rfl⟩⟩; refine ⟨_, rfl, ?_⟩))
 go_loopg [3, 4] k (fun kq v3 v4 w' => ∃ (x3_1 : ByteArray) (x4_1 : Int), v3 = .string x3_1 ∧ v4 = .int .i64 x4_1 ∧ Aside0 (zS.l0 kq x3_1 x4_1 a0_0 a0_1 a0_2 = some (r1, r2, r3)) ∧ Aside0 (kq ≤ k) ∧ Aside0 (w'.heap[gb591]? = some (.cells #[.bool a0_0, .string a0_1, .int .i64 a0_2] 23 (0, 0))) ∧ Aside0 (w'.heap[gb592]? = some (.cells #[.bool false, .string (⟨#[]⟩ : ByteArray), .int .i64 0] 23 (0, 0))) ∧ Aside0 (Below w.heap.size w w'))
 case atStart => exact ⟨(t593), (a0_2), SR, SR, H', ⟨Nat.le_refl _⟩, ⟨BK BK591⟩, ⟨BK BK592⟩, ⟨BL HB⟩⟩
 case round =>
  clear H'
  try clear c3
  try clear c3b0
  try clear c3b1
  try clear hcz12_0
  try clear hcz12_1
  try clear hcz12_2
  try clear hfz12_0
  try clear hfz12_1
  try clear hfz12_2
  obtain ⟨x3_1, x4_1, rfl, rfl, HA, HK1, BK591, BK592, HB⟩ := hrel
  obtain _ | k1 := gk
  ·exact absurd HA.out (by simp [zS.l0])
  have H := HA.out
  clear HA
  simp only [zS.l0] at H
  obtain ⟨ji13, hji13⟩ : ∃ j_ : Int, (wrap64 ((x3_1.size : Int) - 1)) = j_ := ⟨_, rfl⟩
  replace H : (if 0 ≤ (ji13) then (if (ji13) < (x3_1.size : Int) then (if (bt x3_1 (ji13)) = 48 then (if (ji13) ≤ (x3_1.size : Int) then (zS.l0 k1 (x3_1.extract 0 ((ji13) : Int).toNat) (wrap64 (x4_1 + 1)) a0_0 a0_1 a0_2) else (none)) else (some (a0_0, x3_1, x4_1))) else (none)) else (none)) = some (r1, r2, r3) := by first | (rw [hji13] at H; exact H) | (simp only [hji13] at H ⊢; exact H)
  have hji13w : (IntKind.i64.wrap ((x3_1.size : Int) - 1)) = ji13 := (uO _).trans hji13
  by_cases c14 : 0 ≤ (ji13)
  ·rw [if_pos c14] at H
   have c14b0 : decide (0 ≤ (ji13)) = true := decide_eq_true c14
   clear c14
   by_cases c15 : (ji13) < (x3_1.size : Int)
   ·rw [if_pos c15] at H
    have c15b0 : decide ((ji13) < (x3_1.size : Int)) = true := decide_eq_true c15
    clear c15
    by_cases c17 : (bt x3_1 (ji13)) = 48
    ·rw [if_pos c17] at H
     have c17b0 : ((bt x3_1 (ji13)) == 48) = true := beq_iff_eq.mpr c17
     have c17b1 : ((bt x3_1 (ji13)) != 48) = false := bne_eq_false_iff_eq.mpr c17
     clear c17
     have c18b0 := eq_true (of_decide_eq_true (by first | (with_reducible assumption) | assumption) : 0 ≤ (ji13))
     by_cases c19 : (ji13) ≤ (x3_1.size : Int)
     ·rw [if_pos c19] at H
      have c19b0 := eq_true c19
      have c19b1 : decide ((ji13) ≤ (x3_1.size : Int)) = true := decide_eq_true c19
      clear c19
      have H' := K_ H
      clear H
      have p16 : 0 ≤ ((ji13) : Int) := of_decide_eq_true (by first | (with_reducible assumption) | assumption)
      have q16 : (ji13) < (x3_1.size : Int) := of_decide_eq_true (by first | (with_reducible assumption) | assumption)
      have hx16 := zam x3_1 (ji13)
      replace p16 := eq_true p16
      replace q16 := eq_true q16
      go_wp2
      go_roundg k1
      case measure => have := HK1.out; omega
      case rel => exact ⟨(x3_1.extract 0 ((ji13) : Int).toNat), (wrap64 (x4_1 + 1)), (by first | rfl | (simp; done) | (simp only [← hji13] <;> (first | rfl | simp)) | (simp [*]; done) | (simp [*, Fig.bne_nil]; done)), SR, H', ⟨by have := HK1.out; omega⟩, ⟨BK BK591⟩, ⟨BK BK592⟩, ⟨BL HB⟩⟩
     rw [if_neg c19] at H
     exact absurd H (by simp)
    rw [if_neg c17] at H
    have c17b0 : ((bt x3_1 (ji13)) == 48) = false := beq_eq_false_iff_ne.mpr c17
    have c17b1 : ((bt x3_1 (ji13)) != 48) = true := bne_iff_ne.mpr c17
    simp only [Option.some.injEq, Prod.mk.injEq] at H
    obtain ⟨rfl, rfl, rfl⟩ := H
    have p16 : 0 ≤ ((ji13) : Int) := of_decide_eq_true (by first | (with_reducible assumption) | assumption)
    have q16 : (ji13) < (x3_1.size : Int) := of_decide_eq_true (by first | (with_reducible assumption) | assumption)
    have hx16 := zam x3_1 (ji13)
    replace p16 := eq_true p16
    replace q16 := eq_true q16
    have hnb20 := NB591_592.out
    have hnc20 := NB592_591.out
    obtain ⟨⟨hcz21_0, hcz21_1, hcz21_2⟩, hfz21_0, hfz21_1, hfz21_2⟩ := ce3 BK591
    obtain ⟨⟨hcz22_0, hcz22_1, hcz22_2⟩, hfz22_0, hfz22_1, hfz22_2⟩ := ce3 BK592
    go_wp2
    refine bodyPost_ret (results_cell_row rfl _ _ gb592 23 #[.bool a0_0, .string x3_1, .int .i64 x4_1] (0, 0) _ rfl (BP BK592) Tryz.underlying23 rfl (by kernel_rfl)) rfl ?_
    exact ⟨by first | rfl | (simp [vE, vD] <;> rfl) | (simp only [← hji13]; first | rfl | (simp [vE, vD] <;> rfl)) | (simp [*, vE, vD] <;> rfl), BL HB⟩
   rw [if_neg c15] at H
   exact absurd H (by simp)
  rw [if_neg c14] at H
  exact absurd H (by simp)
theorem znP {n : Nat} (h : n ≠ 0) : bt (jD n) (((jD n).size : Int) - 1) = ((48 + n % 10 : Nat) : Int) := by
 have hs := zdU h
 have hl := zhs h
 have hlt : (jD (n / 10)).size < (jD n).size := by omega
 rw [show ((jD n).size : Int) - 1 = ((jD (n / 10)).size : Int) by omega, zdq hlt]
 have hg := List.getElem?_eq_getElem (l := (jD n).data.toList) (i := (jD (n / 10)).size) (by rw [← zU]; exact hlt)
 rw [hl] at hg
 rw [← Option.some.inj hg, zaR]
theorem zfe (b b2 : Bool) (s2 : ByteArray) (e2 : Int) : ∀ (d n : Nat) (e : Int), n ≠ 0 → n < d → (jD n).size ≤ 1000000 → -1000000 ≤ e → e + ((jD n).size : Int) ≤ 2000000 → Ev (fun k => zS.l0 k (jD n) e b s2 e2) (b, nD n, nE n e)
 | 0, n, e, h0, hd, hz, h1, h2 => absurd hd (by omega)
 | d + 1, n, e, h0, hd, hz, h1, h2 => by
  have hs := zdU h0
  have hb := znP h0
  have hw : wrap64 (((jD n).size : Int) - 1) = ((jD n).size : Int) - 1 := w64 (by omega) (by omega)
  by_cases hm : n % 10 = 0
  ·have h3 : n / 10 ≠ 0 := by omega
   have h4 : n / 10 < d := by have := zfu h0; omega
   have e1 : nD n = nD (n / 10) := by
    conv => lhs; rw [show n = n / 10 * 10 ^ 1 by omega]
    exact zhM _ _
   have e2' : nE n e = nE (n / 10) (e + 1) := by
    conv => lhs; rw [show n = n / 10 * 10 ^ 1 by omega]
    exact zhL _ _ _
   rw [e1, e2']
   refine Ev.step (f := fun k => zS.l0 k (jD (n / 10)) (e + 1) b s2 e2) (fun k => ?_) (zfe b b2 s2 e2 d (n / 10) (e + 1) h3 h4 (by omega) (by omega) (by omega))
   simp only [zS.l0]
   rw [hw, if_pos (by omega), if_pos (by omega), hb, if_pos (by omega), if_pos (by omega), w64 (x := e + 1) (by omega) (by omega)]
   rw [show (((jD n).size : Int) - 1).toNat = (jD (n / 10)).size by omega, zhw h0]
  rw [zpf hm, zoY hm]
  refine qZ (r' := (b, jD n, e)) (fun k => ?_) rfl
  simp only [zS.l0]
  rw [hw, if_pos (by omega), if_pos (by omega), hb, if_neg (by omega)]
theorem zkr {b : Bool} {s : ByteArray} {e : Int} (hd : dB s = true) (hz : s.size ≤ 1000000) (h1 : -1000000 ≤ e) (h2 : e ≤ 1000000) : Ev (fun k => zS.f k b s e) (b, nD (vB s), nE (vB s) e) := by
 have hv : (jD (vB s)).size ≤ s.size := zau (zhA hd)
 unfold zS.f
 refine Ev.bind (zha (by omega) hd) ?_
 by_cases h0 : vB s = 0
 ·simp only [uY.2 h0, if_true]
  rw [h0]
  exact Ev.now _
 have h3 : ¬ (jD (vB s)).toList = ([] : List UInt8) := fun hh => h0 (uY.1 hh)
 simp only [h3, if_false]
 exact zfe b b s e (vB s + 1) (vB s) e h0 (by omega) (by omega) (by omega) (by omega)
theorem zkP {b : Bool} {s : ByteArray} {e : Int} (h : OkD s e) : Ev (fun k => zS.f k b s e) (b, nD (vB s), nE (vB s) e) := by
 have h1 := h.sz
 have h2 := h.lo
 have h3 := h.hi
 exact zkr h.d (by omega) (by omega) (by omega)
def yR.f (k : Nat) (a0_0 : Bool) (a0_1 : ByteArray) (a0_2 : Int) : Option (Bool) := (zS.f k a0_0 a0_1 a0_2).bind fun bt595 => (if bt595.2.1.toList = ([48] : List UInt8) then (some true) else (if bt595.2.2 ≥ (-300) then (some (decide ((wrap64 (bt595.2.2 + (bt595.2.1.size : Int))) ≤ 300))) else (some false)))
theorem yR.mono : ∀ a0 a1 a2 k, LeO (yR.f k a0 a1 a2) (yR.f (k + 1) a0 a1 a2) := by
 intro a0 a1 a2 k
 unfold yR.f
 repeat' first
   | (with_reducible exact zS.mono _ _ _ _)
   | (with_reducible exact LeO.refl _)
   | (with_reducible exact LeO.none _)
   | (with_reducible refine LeO.ite ?_ ?_)
   | (with_reducible refine LeO.bind ?_ (fun _ => ?_))
   | exact zS.mono _ _ _ _
   | exact LeO.none _
   | refine LeO.ite ?_ ?_
   | refine LeO.bind ?_ (fun _ => ?_)
set_option maxHeartbeats 8000000 in
set_option maxRecDepth 100000 in
theorem yR.calls (k : Nat) (a0_0 : Bool) (a0_1 : ByteArray) (a0_2 : Int) (r : Bool) (w : World) (h : yR.f k a0_0 a0_1 a0_2 = some r) :
  Calls Tryz.prog 41 #[.agg #[.bool a0_0, .string a0_1, .int .i64 a0_2]] w fun e w' => e = .returned (.bool r) ∧ Below w.heap.size w w' := by
 have hu23 := Tryz.underlying23
 have HB := K_ (Below.refl w.heap.size w)
 have H : ((zS.f k a0_0 a0_1 a0_2).bind fun bt595 => (if bt595.2.1.toList = ([48] : List UInt8) then (some true) else (if bt595.2.2 ≥ (-300) then (some (decide ((wrap64 (bt595.2.2 + (bt595.2.1.size : Int))) ≤ 300))) else (some false)))) = some r := h
 clear h
 obtain ⟨⟨t595, t596, t597⟩, A20, H⟩ := Option.bind_eq_some_iff.mp H
 (try dsimp -simprocs only at H)
 have A2 := K_ A20
 clear A20
 by_cases c3 : t596.toList = ([48] : List UInt8)
 ·rw [if_pos c3] at H
  have c3b0 : (t596.toList == ([48] : List UInt8)) = true := beq_iff_eq.mpr c3
  have c3b1 : (t596.toList != ([48] : List UInt8)) = false := bne_eq_false_iff_eq.mpr c3
  clear c3
  obtain rfl := Option.some.inj H
  go_enter Tryz.func41, Tryz.ntmps41
  go_wp2_with (first | ((with_reducible refine zF (N := 1) rfl ?_); (try (refine vL (by rfl) ?_; dsimp only)); refine be_ 1 #[.bool a0_0, .string a0_1, .int .i64 a0_2] 23 ?_; intro gb594 hg w4 hbox hb; have BK594 := K_ (hbox); have GW594 := ge_ hg HB; have GE594 := ge_ hg HB; replace HB := zE HB hb; clear hb hbox hg; obtain ⟨⟨hcz5_0, hcz5_1, hcz5_2⟩, hfz5_0, hfz5_1, hfz5_2⟩ := ce3 BK594) | ((with_reducible refine zK (f := 50) rfl ?_); refine zY (some 5) rfl rfl Tryz.func50 (by kernel_rfl) rfl #[.agg #[.bool a0_0, .string a0_1, .int .i64 a0_2]] rfl MP ?_; (with_reducible refine (zS.calls k a0_0 a0_1 a0_2 t595 t596 t597 _ A2.out).mono ?_); rintro e w6 ⟨rfl, hb⟩; refine ⟨_, rfl, ?_⟩; replace BK594 := zC BK594 hb; replace HB := zE HB hb; (try clear hb); (try clear hb2); (try clear hk); (try clear hi)) | ((with_reducible refine zF (N := 3) rfl ?_); (try (refine vL (by rfl) ?_; dsimp only)); refine be_ 3 #[.bool false, .string (⟨#[]⟩ : ByteArray), .int .i64 0] 23 ?_; intro gb598 hg w7 hbox hb; have BK598 := K_ (hbox); have GW598 := ge_ hg HB; have GE598 := ge_ hg HB; replace HB := zE HB hb; have NB594_598 := nb_ hg BK594; have NB598_594 := nc_ hg BK594; replace BK594 := zC BK594 hb; clear hb hbox hg; have hnb8 := NB598_594.out; have hnc8 := NB594_598.out; obtain ⟨⟨hcz9_0, hcz9_1, hcz9_2⟩, hfz9_0, hfz9_1, hfz9_2⟩ := ce3 BK598))
  go_ret
  exact ⟨ER, BL HB⟩
 rw [if_neg c3] at H
 have c3b0 : (t596.toList == ([48] : List UInt8)) = false := beq_eq_false_iff_ne.mpr c3
 have c3b1 : (t596.toList != ([48] : List UInt8)) = true := bne_iff_ne.mpr c3
 by_cases c10 : t597 ≥ (-300)
 ·rw [if_pos c10] at H
  have c10b0 : decide ((-300) ≤ t597) = true := decide_eq_true c10
  clear c10
  obtain rfl := Option.some.inj H
  go_enter Tryz.func41, Tryz.ntmps41
  go_wp2_with (first | ((with_reducible refine zF (N := 1) rfl ?_); (try (refine vL (by rfl) ?_; dsimp only)); refine be_ 1 #[.bool a0_0, .string a0_1, .int .i64 a0_2] 23 ?_; intro gb594 hg w11 hbox hb; have BK594 := K_ (hbox); have GW594 := ge_ hg HB; have GE594 := ge_ hg HB; replace HB := zE HB hb; clear hb hbox hg; obtain ⟨⟨hcz12_0, hcz12_1, hcz12_2⟩, hfz12_0, hfz12_1, hfz12_2⟩ := ce3 BK594) | ((with_reducible refine zK (f := 50) rfl ?_); refine zY (some 5) rfl rfl Tryz.func50 (by kernel_rfl) rfl #[.agg #[.bool a0_0, .string a0_1, .int .i64 a0_2]] rfl MP ?_; (with_reducible refine (zS.calls k a0_0 a0_1 a0_2 t595 t596 t597 _ A2.out).mono ?_); rintro e w13 ⟨rfl, hb⟩; refine ⟨_, rfl, ?_⟩; replace BK594 := zC BK594 hb; replace HB := zE HB hb; (try clear hb); (try clear hb2); (try clear hk); (try clear hi)) | ((with_reducible refine zF (N := 3) rfl ?_); (try (refine vL (by rfl) ?_; dsimp only)); refine be_ 3 #[.bool false, .string (⟨#[]⟩ : ByteArray), .int .i64 0] 23 ?_; intro gb598 hg w14 hbox hb; have BK598 := K_ (hbox); have GW598 := ge_ hg HB; have GE598 := ge_ hg HB; replace HB := zE HB hb; have NB594_598 := nb_ hg BK594; have NB598_594 := nc_ hg BK594; replace BK594 := zC BK594 hb; clear hb hbox hg; have hnb15 := NB598_594.out; have hnc15 := NB594_598.out; obtain ⟨⟨hcz16_0, hcz16_1, hcz16_2⟩, hfz16_0, hfz16_1, hfz16_2⟩ := ce3 BK598))
  go_ret
  exact ⟨ER, BL HB⟩
 rw [if_neg c10] at H
 have c10b0 : decide ((-300) ≤ t597) = false := decide_eq_false c10
 clear c10
 obtain rfl := Option.some.inj H
 go_enter Tryz.func41, Tryz.ntmps41
 go_wp2_with (first | ((with_reducible refine zF (N := 1) rfl ?_); (try (refine vL (by rfl) ?_; dsimp only)); refine be_ 1 #[.bool a0_0, .string a0_1, .int .i64 a0_2] 23 ?_; intro gb594 hg w17 hbox hb; have BK594 := K_ (hbox); have GW594 := ge_ hg HB; have GE594 := ge_ hg HB; replace HB := zE HB hb; clear hb hbox hg; obtain ⟨⟨hcz18_0, hcz18_1, hcz18_2⟩, hfz18_0, hfz18_1, hfz18_2⟩ := ce3 BK594) | ((with_reducible refine zK (f := 50) rfl ?_); refine zY (some 5) rfl rfl Tryz.func50 (by kernel_rfl) rfl #[.agg #[.bool a0_0, .string a0_1, .int .i64 a0_2]] rfl MP ?_; (with_reducible refine (zS.calls k a0_0 a0_1 a0_2 t595 t596 t597 _ A2.out).mono ?_); rintro e w19 ⟨rfl, hb⟩; refine ⟨_, rfl, ?_⟩; replace BK594 := zC BK594 hb; replace HB := zE HB hb; (try clear hb); (try clear hb2); (try clear hk); (try clear hi)) | ((with_reducible refine zF (N := 3) rfl ?_); (try (refine vL (by rfl) ?_; dsimp only)); refine be_ 3 #[.bool false, .string (⟨#[]⟩ : ByteArray), .int .i64 0] 23 ?_; intro gb598 hg w20 hbox hb; have BK598 := K_ (hbox); have GW598 := ge_ hg HB; have GE598 := ge_ hg HB; replace HB := zE HB hb; have NB594_598 := nb_ hg BK594; have NB598_594 := nc_ hg BK594; replace BK594 := zC BK594 hb; clear hb hbox hg; have hnb21 := NB598_594.out; have hnc21 := NB594_598.out; obtain ⟨⟨hcz22_0, hcz22_1, hcz22_2⟩, hfz22_0, hfz22_1, hfz22_2⟩ := ce3 BK598))
 go_ret
 exact ⟨ER, BL HB⟩
theorem ziU {b : Bool} {s : ByteArray} {e : Int} (h : OkD s e) : Ev (fun k => yR.f k b s e) (zbx (vB s) e) := by
 have h1 := h.sz
 have h2 := h.lo
 have h3 := h.hi
 have hz := h.val
 unfold yR.f
 refine Ev.bind (zkP h) ?_
 unfold zbx
 have hn : (nD (vB s)).toList = ([48] : List UInt8) ↔ vB s = 0 := by
  rw [← zcB]
  constructor
  ·intro h; apply xV; rw [← ByteArray.toList_eq, h]; rfl
  intro h; rw [h, ByteArray.toList_eq]; rfl
 by_cases h0 : vB s = 0
 ·simp only [hn.2 h0, if_true]
  refine zdk (Ev.now _) ?_
  simp [h0]
 have hn2 : ¬ (nD (vB s)).toList = ([48] : List UInt8) := fun hh => h0 (hn.1 hh)
 simp only [hn2, if_false]
 by_cases hr : nE (vB s) e ≥ -300
 ·have hl := zbc h0
  have hnd : nD (vB s) = jD (yK (vB s)) := by unfold nD; rw [if_neg h0]
  have hne : nE (vB s) e = e + (tz (vB s) : Int) := by unfold nE; rw [if_neg h0]
  have hw : wrap64 (nE (vB s) e + ((nD (vB s)).size : Int)) = nE (vB s) e + ((nD (vB s)).size : Int) := by
   rw [hnd, hne, w64 (by omega) (by omega)]
  simp only [hr, if_true, hw]
  refine zdk (Ev.now _) ?_
  rw [decide_eq_decide]
  have hr' : -300 ≤ nE (vB s) e := hr
  unfold jZ
  rw [if_neg h0, hnd]
  simp only [h0, hr', false_or, true_and]
  rw [hne]; omega
 have hr' : ¬ -300 ≤ nE (vB s) e := hr
 simp only [hr, if_false]
 refine zdk (Ev.now _) ?_
 simp [h0, hr']
end Go.Proofs.YtcmgdjnjmobkoaaGreatDoor.Px
namespace Go.Proofs.YtcmgdjnjmobkoaaGreatDoor.Px
set_option linter.all false
open Fig Go.RowKit Go.Proofs.YtcmgdjnjmobkoaaGreatDoorW.PrintWords Go.Proofs.YtcmgdjnjmobkoaaGreatDoorW.PrintLast Go.Proofs.YtcmgdjnjmobkoaaGreatDoorW.PrintMore
attribute [local go_sem] vK vO uE uD yZ yY vM vN
structure zaj (q : Pat) (W : World) (b : Nat) : Prop where
 r0 : Kd.R k80 80 W b (fun _ => True) (.slice q.A0 q.l0.length q.c0) q.l0
 r1 : Kd.R k80 80 W b (fun _ => True) (.slice q.A1 q.l1.length q.c1) q.l1
 r3 : Kd.R k80 80 W b (fun _ => True) (.slice q.A3 q.l3.length q.c3) q.l3
 r4 : Kd.R k80 80 W b (fun _ => True) (.slice q.A4 q.l4.length q.c4) q.l4
theorem zaj.below {q : Pat} {W W' : World} {b : Nat} (h : zaj q W b) (hb : Below W.heap.size W W') : zaj q W' b := ⟨Kd.R_below h.r0 hb, Kd.R_below h.r1 hb, Kd.R_below h.r3 hb, Kd.R_below h.r4 hb⟩
theorem zaj.lower {q : Pat} {W : World} {b b' : Nat} (h : zaj q W b) (hb : b' ≤ b) : zaj q W b' := ⟨Kd.R_lower h.r0 hb, Kd.R_lower h.r1 hb, Kd.R_lower h.r3 hb, Kd.R_lower h.r4 hb⟩
theorem zgb {t : TypeId} (ht : (80 : Nat) ≠ t) : ∀ q, q ∈ 80 :: k80.E → q ≠ t := by
 intro q hq
 have h8 : (80 :: k80.E) = [80] := rfl
 rw [h8] at hq
 have : q = 80 := by simpa using hq
 rw [this]; exact ht
theorem zaj.so {q : Pat} {W w1 : World} {b g t : Nat} {cs : Array Value} (h : zaj q W b) (hb : W.heap[g]? = some (.cells cs t (0, 0))) (ht : (80 : Nat) ≠ t) (hfar : ∀ k o, k ≠ g → W.heap[k]? = some o → w1.heap[k]? = some o) : zaj q w1 b :=
 ⟨uA h.r0 hb (zgb ht) hfar, uA h.r1 hb (zgb ht) hfar, uA h.r3 hb (zgb ht) hfar, uA h.r4 hb (zgb ht) hfar⟩
structure zbw (q : Pat) : Prop where
 num : ∃ t, vA t = some q.P
 g0 : vU q.l0
 g1 : vU q.l1
 g3 : vU q.l3
 g4 : vU q.l4
 nmix : ¬ mixed q.l0 q.l1 q.l3 q.l4
 s0 : q.l0.length ≤ 1000
 s1 : q.l1.length ≤ 1000
 s3 : q.l3.length ≤ 1000
 s4 : q.l4.length ≤ 1000
theorem zbw.good {q : Pat} (h : zbw q) : xN q.P := by obtain ⟨t, ht⟩ := h.num; exact zkZ ht
theorem zbw.more {q : Pat} (h : zbw q) : zcK q.P := by obtain ⟨t, ht⟩ := h.num; exact zlB ht
theorem zaj.ok {q : Pat} {W : World} {b : Nat} (h : zaj q W b) (g : zbw q) : zba q W :=
 ⟨(Kd.R_reads' h.r0).2.2, (Kd.R_reads' h.r1).2.2, (Kd.R_reads' h.r3).2.2, (Kd.R_reads' h.r4).2.2, (Kd.R_reads' h.r0).2.1, (Kd.R_reads' h.r1).2.1, (Kd.R_reads' h.r3).2.1, (Kd.R_reads' h.r4).2.1, g.s0, g.s1, g.s3, g.s4, g.g0, g.g1, g.g3, g.g4⟩
def zkV (s : ByteArray) (q : Pat) (E : Int) : Prop := ∀ l, Ev (fun k => zG.f k s) (l, 0, 0) → xP l → zay l → ∀ P0, xW (l.map mk73) P0 →
   ¬ mixed (jH (uG (l.map mk73) (uW (l.map mk73)) l.length)) (jH (uF (l.map mk73) (uR (l.map mk73)) l.length)) (⟨2, 0⟩ :: jH (uG (l.map mk73) (uW (l.map mk73)) l.length)) (jH (uF (l.map mk73) (uR (l.map mk73)) l.length)) →
   E = 0 ∧ q.P = P0 ∧ q.l0 = jH (uG (l.map mk73) (uW (l.map mk73)) l.length) ∧ q.l1 = jH (uF (l.map mk73) (uR (l.map mk73)) l.length) ∧ q.l3 = ⟨2, 0⟩ :: q.l0 ∧ q.l4 = q.l1
theorem ziE (s : ByteArray) (hs : s.size ≤ 1048576) (w : World) : Calls Tryz.prog 31 #[.string s] w fun e w' => ∃ (q : Pat) (E a : Int), e = .returned (.tuple #[.agg q.cs, .agg #[.int .i64 E, .int .i64 a]]) ∧ zaj q w' w.heap.size ∧ Below w.heap.size w w' ∧ (E = 0 → zbw q) ∧ zkV s q E := by
 refine (zle s hs w).mono ?_
 rintro e w' ⟨v1, v2, v3, v4, px, sx, nx, ny, P, hn, at_, pad, wd, E, a, rfl, h1, h2, h3, h4, hb, hg, hex⟩
 obtain ⟨A0, c0, rfl⟩ := Kd.R_slice h1
 obtain ⟨A1, c1, rfl⟩ := Kd.R_slice h2
 obtain ⟨A3, c3, rfl⟩ := Kd.R_slice h3
 obtain ⟨A4, c4, rfl⟩ := Kd.R_slice h4
 refine ⟨⟨A0, A1, A3, A4, c0, c1, c3, c4, px, sx, nx, ny, hn, P, at_, pad, wd⟩, E, a, rfl, ⟨h1, h2, h3, h4⟩, hb, fun hE => ?_, hex⟩
 obtain ⟨i1, i2, i3, i4, i5, i6, i7, i8, i9, i10⟩ := hg hE
 exact ⟨i1, i2, i3, i4, i5, i6, i7, i8, i9, i10⟩
abbrev zgn := Bool × ByteArray × Int
def zcN (W : World) (ad : Addr) (L : List zgn) : Prop := ∀ i (h : i < L.length), W.cell? (ad.add (i * 3)) = some (.bool L[i].1) ∧ W.cell? ⟨(ad.add (i * 3)).block, (ad.add (i * 3)).off + 1, none⟩ = some (.string L[i].2.1) ∧ W.cell? ⟨(ad.add (i * 3)).block, (ad.add (i * 3)).off + 2, none⟩ = some (.int .i64 L[i].2.2)
theorem zcN.below {W W' : World} {ad : Addr} {L : List zgn} (h : zcN W ad L) (hb : Below W.heap.size W W') : zcN W' ad L := fun i hi => by
 obtain ⟨h1, h2, h3⟩ := h i hi
 exact ⟨(hb.cell (World.block_lt_of_cell? _ _ h1)).trans h1, (hb.cell (World.block_lt_of_cell? _ _ h2)).trans h2, (hb.cell (World.block_lt_of_cell? _ _ h3)).trans h3⟩
def zdC (d : zgn) : Prop := d.2.1.size ≤ 120 ∧ zca d.2.1 d.2.2 = true ∧ zbx (vB d.2.1) d.2.2 = true
set_option maxHeartbeats 8000000 in
set_option maxRecDepth 100000 in
theorem ziY (s : ByteArray) (hs : s.size ≤ 1048576) (ad : Addr) (L : List zgn) (hL : L.length ≤ 10) (hsz : ∀ d ∈ L, d.2.1.size ≤ 4611686018427387904) (c : Nat) (hc : L.length ≤ c) (w : World) (hd : zcN w ad L) :
  Calls Tryz.prog 17 #[.string s, .slice (some ad) L.length c] w fun e w' => ∃ (q : Pat) (ok : Bool), e = .returned (.tuple #[.agg q.cs, .bool ok]) ∧ zaj q w' w.heap.size ∧ Below w.heap.size w w' ∧ (ok = true → zbw q ∧ ∀ d ∈ L, zdC d) := by
 have HB := K_ (Below.refl w.heap.size w)
 have HDA := K_ hd
 have HSZ := K_ hsz
 clear hd hsz
 go_enter Tryz.func17, Tryz.ntmps17
 go_upto_region 2 with (first | ((with_reducible refine zF (N := 4) rfl ?_); refine be_ 4 (Z26) 26 ?_; intro g4 hg w2 hbox hb; have BK4 := K_ hbox; have GE4 := ge_ hg HB; replace HB := zE HB hb; clear hb hbox hg) | (go_at_call 31; refine (ziE s hs _).mono ?_; rintro e9 w' ⟨q, E, a, rfl, hrr, hb, hqg, -⟩; have HRR := K_ (hrr.lower (zP (BL HB))); have HQ := K_ hqg; replace HB := zE HB hb; replace BK4 := zC BK4 hb; clear hb hrr hqg) | ((with_reducible refine zF (N := 6) rfl ?_); refine be_ 6 (Z26) 26 ?_; intro g6 hg w2 hbox hb; have BK6 := K_ hbox; have GE6 := ge_ hg HB; have NB4_6 := nb_ hg BK4; replace BK4 := zC BK4 hb; replace HRR := K_ (HRR.out.below hb); replace HB := zE HB hb; clear hb hbox hg) | ((with_reducible refine zF (N := 7) rfl ?_); refine be_ 7 (Z51) 51 ?_; intro g7 hg w2 hbox hb; have BK7 := K_ hbox; have GE7 := ge_ hg HB; have NB4_7 := nb_ hg BK4; replace BK4 := zC BK4 hb; have NB6_7 := nb_ hg BK6; replace BK6 := zC BK6 hb; replace HRR := K_ (HRR.out.below hb); replace HB := zE HB hb; clear hb hbox hg) | ((with_reducible refine zW (p := 6) rfl ?_); refine so_ (g := g6) (cs := Z26) (q.cs) ⟨BK BK6⟩ ?_ rfl rfl rfl rfl rfl yO rfl rfl; intro w9 hbk hfar hbel; replace BK4 := K_ (hfar _ _ (by first | exact NB4_6.out | exact Ne.symm NB6_4.out) (BK BK4)); replace BK7 := K_ (hfar _ _ (by first | exact NB7_6.out | exact Ne.symm NB6_7.out) (BK BK7)); replace HRR := K_ (HRR.out.so (BK BK6) (by decide) hfar); replace BK6 := K_ hbk; replace HB := K_ (hbel _ _ GE6.out (BL HB)); clear hbk hfar hbel) | ((with_reducible refine zW (p := 7) rfl ?_); refine so_ (g := g7) (cs := Z51) (#[.int .i64 E, .int .i64 a]) ⟨BK BK7⟩ ?_ rfl rfl rfl rfl rfl uT rfl rfl; intro w9 hbk hfar hbel; replace BK4 := K_ (hfar _ _ (by first | exact NB4_7.out | exact Ne.symm NB7_4.out) (BK BK4)); replace BK6 := K_ (hfar _ _ (by first | exact NB6_7.out | exact Ne.symm NB7_6.out) (BK BK6)); replace HRR := K_ (HRR.out.so (BK BK7) (by decide) hfar); replace BK7 := K_ hbk; replace HB := K_ (hbel _ _ GE7.out (BL HB)); clear hbk hfar hbel))
 replace HDA := K_ (HDA.out.below HB.out)
 obtain ⟨⟨q0, q1⟩, q2, q3⟩ := ce2 BK7
 simp only [Act.put, List.setIfInBounds_toArray, List.set_cons_zero, List.set_cons_succ]
 go_cut [8] from 15 to 22 (fun v wx => (∃ b0 : Bool, v = .bool b0 ∧ (b0 = true → zbw q)) ∧ zcN wx ad L ∧ wx.heap[g4]? = some (.cells Z26 26 (0, 0)) ∧ wx.heap[g6]? = some (.cells q.cs 26 (0, 0)) ∧ zaj q wx w.heap.size ∧ Below w.heap.size w wx)
 case first =>
  by_cases hE : E = 0
  ·have dE : (E == 0) = true := beq_iff_eq.2 hE
   by_cases h3 : s.size ≤ 300
   ·have d3 : decide ((s.size : Int) ≤ 300) = true := decide_eq_true (by omega)
    go_wp2
    go_meet
    case rel => exact ⟨⟨true, rfl, fun _ => HQ.out hE⟩, HDA.out, BK BK4, BK BK6, HRR.out, BL HB⟩
   have d3 : decide ((s.size : Int) ≤ 300) = false := decide_eq_false (by omega)
   go_wp2
   go_meet
   case rel => exact ⟨⟨false, rfl, fun h => by cases h⟩, HDA.out, BK BK4, BK BK6, HRR.out, BL HB⟩
  have dE : (E == 0) = false := beq_eq_false_iff_ne.2 hE
  go_wp2
  go_meet
  case rel => exact ⟨⟨false, rfl, fun h => by cases h⟩, HDA.out, BK BK4, BK BK6, HRR.out, BL HB⟩
 case rest =>
  obtain ⟨⟨b0, rfl, hb0⟩, hda, hb4, hb6, hrr, hbw⟩ := hcut
  replace HDA := K_ hda
  have HB0 := K_ hb0
  clear hda hb0 q0 q1 q2 q3
  replace BK4 := K_ hb4
  replace BK6 := K_ hb6
  replace HRR := K_ hrr
  replace HB := K_ hbw
  clear hb4 hb6 hrr hbw
  go_wp2_with (fail)
  go_loopw [8, 9] (fun v i wr => ∃ (j : Nat) (bb : Bool), j ≤ L.length ∧ i = .int .i64 j ∧ v = .bool bb ∧ zcN wr ad L ∧ (bb = true → zbw q ∧ ∀ k (h : k < L.length), k < j → zdC L[k]) ∧ wr.heap[g4]? = some (.cells Z26 26 (0, 0)) ∧ wr.heap[g6]? = some (.cells q.cs 26 (0, 0)) ∧ zaj q wr w.heap.size ∧ Below w.heap.size w wr) (fun _ i _ => L.length - (intOf i).toNat)
  case atStart => exact ⟨0, b0, Nat.zero_le _, rfl, rfl, HDA.out, fun h => ⟨HB0.out h, fun k _ h => absurd h (Nat.not_lt_zero _)⟩, BK BK4, BK BK6, HRR.out, BL HB⟩
  case round =>
   obtain ⟨i, bb, hi, rfl, rfl, hda, hok, hb4, hb6, hrr, hbw⟩ := hrel
   replace HDA := K_ hda
   have HOK := K_ hok
   clear hda hok
   replace BK4 := K_ hb4
   replace BK6 := K_ hb6
   replace HRR := K_ hrr
   replace HB := K_ hbw
   clear hb4 hb6 hrr hbw
   by_cases hlt : i < L.length
   ·have dlt : decide (((i : Nat) : Int) < (L.length : Int)) = true := decide_eq_true (by omega)
    obtain ⟨d, hdd⟩ : ∃ d, d = L[i] := ⟨_, rfl⟩
    obtain ⟨h0, h1, h2⟩ := HDA.out i hlt
    rw [← hdd] at h0 h1 h2
    have HD := K_ hdd
    have hds : d.2.1.size ≤ 4611686018427387904 := by rw [hdd]; exact HSZ.out _ (List.getElem_mem hlt)
    clear hdd
    cases bb
    ·go_wp2
     go_roundw
     case rel => exact ⟨i + 1, false, by omega, by go_num, rfl, HDA.out, (by intro h; cases h), BK BK4, BK BK6, HRR.out, BL HB⟩
     case measure => simp [intOf]; omega
    by_cases hz : d.2.1.size ≤ 120
    ·have dz : decide ((d.2.1.size : Int) ≤ 120) = true := decide_eq_true (by omega)
     obtain ⟨kg, hkg⟩ := Ev.rounds (zlc (b := d.1) (s := d.2.1) (e := d.2.2) hds)
     cases hg : zca d.2.1 d.2.2
     ·rw [hg] at hkg
      have HKG := K_ hkg
      clear hkg
      go_wp2_with (first | (go_at_call 40; refine (yU.calls kg d.1 d.2.1 d.2.2 false _ HKG.out).mono ?_; rintro e9 w' ⟨rfl, hb⟩; replace HRR := K_ (HRR.out.below hb); replace HB := zE HB hb; replace BK4 := zC BK4 hb; replace BK6 := zC BK6 hb; replace HDA := K_ (HDA.out.below hb); clear hb h0 h1 h2; obtain ⟨h0, h1, h2⟩ := HDA.out i hlt; rw [← HD.out] at h0 h1 h2))
      go_roundw
      case rel => exact ⟨i + 1, false, by omega, by go_num, rfl, HDA.out, (by intro h; cases h), BK BK4, BK BK6, HRR.out, BL HB⟩
      case measure => simp [intOf]; omega
     rw [hg] at hkg
     have HKG := K_ hkg
     obtain ⟨kr, hkr⟩ := Ev.rounds (ziU (b := d.1) (OkD.of_good hg))
     clear hkg
     cases hr : zbx (vB d.2.1) d.2.2
     ·rw [hr] at hkr
      have HKR := K_ hkr
      clear hkr
      go_wp2_with (first | (go_at_call 40; refine (yU.calls kg d.1 d.2.1 d.2.2 true _ HKG.out).mono ?_; rintro e9 w' ⟨rfl, hb⟩; replace HRR := K_ (HRR.out.below hb); replace HB := zE HB hb; replace BK4 := zC BK4 hb; replace BK6 := zC BK6 hb; replace HDA := K_ (HDA.out.below hb); clear hb h0 h1 h2; obtain ⟨h0, h1, h2⟩ := HDA.out i hlt; rw [← HD.out] at h0 h1 h2) | (go_at_call 41; refine (yR.calls kr d.1 d.2.1 d.2.2 false _ HKR.out).mono ?_; rintro e9 w' ⟨rfl, hb⟩; replace HRR := K_ (HRR.out.below hb); replace HB := zE HB hb; replace BK4 := zC BK4 hb; replace BK6 := zC BK6 hb; replace HDA := K_ (HDA.out.below hb); clear hb h0 h1 h2))
      go_roundw
      case rel => exact ⟨i + 1, false, by omega, by go_num, rfl, HDA.out, (by intro h; cases h), BK BK4, BK BK6, HRR.out, BL HB⟩
      case measure => simp [intOf]; omega
     rw [hr] at hkr
     have HKR := K_ hkr
     have HDO := K_ (show zdC L[i] by rw [← HD.out]; exact ⟨hz, hg, hr⟩)
     clear hkr
     go_wp2_with (first | (go_at_call 40; refine (yU.calls kg d.1 d.2.1 d.2.2 true _ HKG.out).mono ?_; rintro e9 w' ⟨rfl, hb⟩; replace HRR := K_ (HRR.out.below hb); replace HB := zE HB hb; replace BK4 := zC BK4 hb; replace BK6 := zC BK6 hb; replace HDA := K_ (HDA.out.below hb); clear hb h0 h1 h2; obtain ⟨h0, h1, h2⟩ := HDA.out i hlt; rw [← HD.out] at h0 h1 h2) | (go_at_call 41; refine (yR.calls kr d.1 d.2.1 d.2.2 true _ HKR.out).mono ?_; rintro e9 w' ⟨rfl, hb⟩; replace HRR := K_ (HRR.out.below hb); replace HB := zE HB hb; replace BK4 := zC BK4 hb; replace BK6 := zC BK6 hb; replace HDA := K_ (HDA.out.below hb); clear hb h0 h1 h2))
     go_roundw
     case rel => exact ⟨i + 1, true, by omega, by go_num, rfl, HDA.out, fun _ => ⟨(HOK.out (by trivial)).1, fun k hk hk2 => by rcases Nat.lt_succ_iff_lt_or_eq.1 hk2 with h | h; exact (HOK.out (by trivial)).2 k hk h; subst h; exact HDO.out⟩, BK BK4, BK BK6, HRR.out, BL HB⟩
     case measure => simp [intOf]; omega
    have dz : decide ((d.2.1.size : Int) ≤ 120) = false := decide_eq_false (by omega)
    go_wp2
    go_roundw
    case rel => exact ⟨i + 1, false, by omega, by go_num, rfl, HDA.out, (by intro h; cases h), BK BK4, BK BK6, HRR.out, BL HB⟩
    case measure => simp [intOf]; omega
   obtain rfl : i = L.length := by omega
   have dlt : decide ((L.length : Int) < (L.length : Int)) = false := decide_eq_false (by omega)
   go_wp2_with (first | ((with_reducible refine zF (N := 53) rfl ?_); refine lo_ (g := g6) (cs := q.cs) _ ⟨BK BK6⟩ ?_ rfl rfl rfl Tryz.underlying26 rfl yO) | ((with_reducible refine zW (p := 4) rfl ?_); refine so_ (g := g4) (cs := Z26) (q.cs) ⟨BK BK4⟩ ?_ rfl rfl rfl rfl rfl yO rfl rfl; intro w9 hbk hfar hbel; replace BK6 := K_ (hfar _ _ (by first | exact NB6_4.out | exact Ne.symm NB4_6.out) (BK BK6)); replace HRR := K_ (HRR.out.so (BK BK4) (by decide) hfar); replace BK4 := K_ hbk; replace HB := K_ (hbel _ _ GE4.out (BL HB)); clear hbk hfar hbel))
   refine bodyPost_ret (jF rfl _ _ g4 26 q.cs (0, 0) _ rfl BK4.out Tryz.underlying26 rfl yO) rfl ?_
   exact ⟨q, bb, rfl, HRR.out, BL HB, fun h => ⟨(HOK.out h).1, fun d hd => by
    obtain ⟨k, hk, rfl⟩ := List.getElem_of_mem hd
    exact (HOK.out h).2 k hk hk⟩⟩
end Go.Proofs.YtcmgdjnjmobkoaaGreatDoor.Px
namespace Go.Proofs.YtcmgdjnjmobkoaaGreatDoor.Px
open Fig Go.RowKit Go.Proofs.YtcmgdjnjmobkoaaGreatDoorW.PrintWords Go.Proofs.YtcmgdjnjmobkoaaGreatDoorW.PrintLast Go.Proofs.YtcmgdjnjmobkoaaGreatDoorW.PrintMore
attribute [local go_sem] vK vO uE uD yZ yY vM vN
attribute [local go_sem] qJ qW qM qX qV qU qT qP qH qY qK qQ qO qS
def zcr.f (a0_0 : Bool) (a0_1 : ByteArray) (a0_2 : Int) : Option (Bool × ByteArray × Int) := (jV.f false a0_1 a0_2).bind fun bt653 => (some (bt653.1, bt653.2.1, bt653.2.2))
set_option maxHeartbeats 8000000 in
set_option maxRecDepth 100000 in
theorem zcr.calls (a0_0 : Bool) (a0_1 : ByteArray) (a0_2 : Int) (r1 : Bool) (r2 : ByteArray) (r3 : Int) (w : World) (h : zcr.f a0_0 a0_1 a0_2 = some (r1, r2, r3)) :
  Calls Tryz.prog 72 #[.agg #[.bool a0_0, .string a0_1, .int .i64 a0_2]] w fun e w' => e = .returned (.agg #[.bool r1, .string r2, .int .i64 r3]) ∧ Below w.heap.size w w' := by
 have hu23 := Tryz.underlying23
 have HB := K_ (Below.refl w.heap.size w)
 have H : ((jV.f false a0_1 a0_2).bind fun bt653 => (some (bt653.1, bt653.2.1, bt653.2.2))) = some (r1, r2, r3) := h
 clear h
 obtain ⟨⟨t653, t654, t655⟩, A20, H⟩ := Option.bind_eq_some_iff.mp H
 (try dsimp -simprocs only at H)
 have A2 := K_ A20
 clear A20
 simp only [Option.some.injEq, Prod.mk.injEq] at H
 obtain ⟨rfl, rfl, rfl⟩ := H
 go_enter Tryz.func72, Tryz.ntmps72
 go_wp2_with (first | (refine be_ 1 #[.bool a0_0, .string a0_1, .int .i64 a0_2] 23 ?_; intro gb651 hg w3 hbox hb; have BK651 := K_ (hbox); have GW651 := ge_ hg HB; have GE651 := ge_ hg HB; replace HB := zE HB hb; clear hb hbox hg) | (refine be_ 2 #[.bool false, .string (⟨#[]⟩ : ByteArray), .int .i64 0] 23 ?_; intro gb652 hg w4 hbox hb; have BK652 := K_ (hbox); have GW652 := ge_ hg HB; have GE652 := ge_ hg HB; replace HB := zE HB hb; have NB651_652 := nb_ hg BK651; have NB652_651 := nc_ hg BK651; replace BK651 := zC BK651 hb; clear hb hbox hg; have hnb5 := NB651_652.out; have hnc5 := NB652_651.out; obtain ⟨⟨hcz6_0, hcz6_1, hcz6_2⟩, hfz6_0, hfz6_1, hfz6_2⟩ := ce3 BK651) | ((with_reducible refine zK (f := 59) rfl ?_); refine zY (some 5) rfl rfl Tryz.func59 (by kernel_rfl) rfl #[.agg #[.bool false, .string a0_1, .int .i64 a0_2]] rfl MP ?_; (with_reducible refine (jV.calls false a0_1 a0_2 t653 t654 t655 _ A2.out).mono ?_); rintro e w7 ⟨rfl, hb⟩; refine ⟨_, rfl, ?_⟩; replace BK651 := K_ (zaD (g := gb651) (o := .cells #[.bool false, .string a0_1, .int .i64 a0_2] 23 (0, 0)) (BP BK651) hb); replace BK652 := K_ (zaD (g := gb652) (o := .cells #[.bool false, .string (⟨#[]⟩ : ByteArray), .int .i64 0] 23 (0, 0)) (by (with_reducible repeat (first | refine jC ?_ _ | refine zX ?_ | refine jB ?_ _)); refine zR ?_ NB652_651.out _; (with_reducible repeat (first | refine jC ?_ _ | refine zX ?_ | refine jB ?_ _)); exact BK652.out) hb); replace HB := zE HB hb; (try clear hb); (try clear hb2); (try clear hk); (try clear hi); obtain ⟨⟨hcz8_0, hcz8_1, hcz8_2⟩, hfz8_0, hfz8_1, hfz8_2⟩ := ce3 BK652))
 refine bodyPost_ret (results_cell_row rfl _ _ gb652 23 #[.bool t653, .string t654, .int .i64 t655] (0, 0) _ rfl (BP BK652) Tryz.underlying23 rfl (by kernel_rfl)) rfl ?_
 exact ⟨ER, BL HB⟩
def qA.f (a0 : Bool) (l1 : List Int) (a2 : Int) : Option (Bool × ByteArray × Int) := (vC.f l1).bind fun t657 => ((jV.f a0 t657 a2).bind fun bt658 => (if bt658.1 = true then (some (decide ((l1.length : Int) > 0), bt658.2.1, bt658.2.2)) else (some (false, bt658.2.1, bt658.2.2))))
set_option maxHeartbeats 8000000 in
set_option maxRecDepth 100000 in
theorem qA.calls (a0 : Bool) (A1 : Option Addr) (c1 : Nat) (l1 : List Int) (a2 : Int) (r1 : Bool) (r2 : ByteArray) (r3 : Int) (w : World) (hr1 : Kd.C (Kd.int .u32) w A1 l1.length l1) (hc1 : l1.length ≤ c1) (h : qA.f a0 l1 a2 = some (r1, r2, r3)) :
  Calls Tryz.prog 130 #[.bool a0, .slice A1 l1.length c1, .int .i64 a2] w fun e w' => e = .returned (.agg #[.bool r1, .string r2, .int .i64 r3]) ∧ Below w.heap.size w w' := by
 have hu23 := Tryz.underlying23
 have HR1 := K_ hr1
 have HC1 := K_ hc1
 clear hr1 hc1
 have HB := K_ (Below.refl w.heap.size w)
 have H : ((vC.f l1).bind fun t657 => ((jV.f a0 t657 a2).bind fun bt658 => (if bt658.1 = true then (some (decide ((l1.length : Int) > 0), bt658.2.1, bt658.2.2)) else (some (false, bt658.2.1, bt658.2.2))))) = some (r1, r2, r3) := h
 clear h
 obtain ⟨t657, A40, H⟩ := Option.bind_eq_some_iff.mp H
 (try dsimp -simprocs only at H)
 have A4 := K_ A40
 clear A40
 obtain ⟨⟨t658, t659, t660⟩, A50, H⟩ := Option.bind_eq_some_iff.mp H
 (try dsimp -simprocs only at H)
 have A5 := K_ A50
 clear A50
 by_cases c6 : t658 = true
 ·subst c6
  rw [if_pos rfl] at H
  simp only [Option.some.injEq, Prod.mk.injEq] at H
  obtain ⟨rfl, rfl, rfl⟩ := H
  rw [show decide ((l1.length : Int) > 0) = decide (0 < l1.length) from by rw [decide_eq_decide]; omega]
  go_enter Tryz.func130, Tryz.ntmps130
  go_wp2_with (first | ((with_reducible refine zF (N := 6) rfl ?_); (try (refine vL (by rfl) ?_; dsimp only)); refine be_ 6 #[.bool false, .string (⟨#[]⟩ : ByteArray), .int .i64 0] 23 ?_; intro gb656 hg w7 hbox hb; have BK656 := K_ (hbox); have GW656 := ge_ hg HB; have GE656 := ge_ hg HB; replace HB := zE HB hb; clear hb hbox hg) | ((with_reducible refine zK (f := 80) rfl ?_); refine zY (some 10) rfl rfl Tryz.func80 (by kernel_rfl) rfl #[.slice A1 l1.length c1] rfl MP ?_; (with_reducible refine (vC.calls _ _ l1 t657 _ ?side1 ?side2 A4.out).mono ?_); (case side1 => exact CB (Kd.C_below HR1.out HB.out)); (case side2 => exact HC1.out); rintro e w8 ⟨rfl, hb⟩; refine ⟨_, rfl, ?_⟩; replace BK656 := zC BK656 hb; replace HB := zE HB hb; (try clear hb); (try clear hb2); (try clear hk); (try clear hi)) | ((with_reducible refine zK (f := 59) rfl ?_); refine zY (some 13) rfl rfl Tryz.func59 (by kernel_rfl) rfl #[.agg #[.bool a0, .string t657, .int .i64 a2]] rfl MP ?_; (with_reducible refine (jV.calls a0 t657 a2 true t659 t660 _ A5.out).mono ?_); rintro e w9 ⟨rfl, hb⟩; refine ⟨_, rfl, ?_⟩; replace BK656 := zC BK656 hb; replace HB := zE HB hb; (try clear hb); (try clear hb2); (try clear hk); (try clear hi)) | ((with_reducible refine zF (N := 7) rfl ?_); (try (refine vL (by rfl) ?_; dsimp only)); refine be_ 7 #[.bool false, .string (⟨#[]⟩ : ByteArray), .int .i64 0] 23 ?_; intro gb661 hg w10 hbox hb; have BK661 := K_ (hbox); have GW661 := ge_ hg HB; have GE661 := ge_ hg HB; replace HB := zE HB hb; have NB656_661 := nb_ hg BK656; have NB661_656 := nc_ hg BK656; replace BK656 := zC BK656 hb; clear hb hbox hg; have hnb11 := NB661_656.out; have hnc11 := NB656_661.out; obtain ⟨⟨hcz12_0, hcz12_1, hcz12_2⟩, hfz12_0, hfz12_1, hfz12_2⟩ := ce3 BK661; obtain ⟨⟨hcz13_0, hcz13_1, hcz13_2⟩, hfz13_0, hfz13_1, hfz13_2⟩ := ce3 BK656))
  refine bodyPost_ret (results_cell_row rfl _ _ gb656 23 #[.bool (decide (0 < l1.length)), .string t659, .int .i64 t660] (0, 0) _ rfl (by (with_reducible repeat (first | refine jC ?_ _ | refine zX ?_ | refine jB ?_ _)); refine zcj (cs := #[.bool (decide (0 < l1.length)), .string t659, .int .i64 0]) ?_ 2 _ rfl; (with_reducible repeat (first | refine jC ?_ _ | refine zX ?_ | refine jB ?_ _)); refine zcj (cs := #[.bool (decide (0 < l1.length)), .string (⟨#[]⟩ : ByteArray), .int .i64 0]) ?_ 1 _ rfl; (with_reducible repeat (first | refine jC ?_ _ | refine zX ?_ | refine jB ?_ _)); refine zcj (cs := #[.bool false, .string (⟨#[]⟩ : ByteArray), .int .i64 0]) ?_ 0 _ rfl; (with_reducible repeat (first | refine jC ?_ _ | refine zX ?_ | refine jB ?_ _)); refine zR ?_ NB656_661.out _; (with_reducible repeat (first | refine jC ?_ _ | refine zX ?_ | refine jB ?_ _)); refine zR ?_ NB656_661.out _; (with_reducible repeat (first | refine jC ?_ _ | refine zX ?_ | refine jB ?_ _)); refine zR ?_ NB656_661.out _; (with_reducible repeat (first | refine jC ?_ _ | refine zX ?_ | refine jB ?_ _)); refine zR ?_ NB656_661.out _; (with_reducible repeat (first | refine jC ?_ _ | refine zX ?_ | refine jB ?_ _)); exact BK656.out) Tryz.underlying23 rfl (by kernel_rfl)) rfl ?_
  exact ⟨ER, BL HB⟩
 replace c6 := Bool.eq_false_iff.mpr c6
 subst c6
 rw [if_neg (show ¬ (false = true) by decide)] at H
 simp only [Option.some.injEq, Prod.mk.injEq] at H
 obtain ⟨rfl, rfl, rfl⟩ := H
 go_enter Tryz.func130, Tryz.ntmps130
 go_wp2_with (first | ((with_reducible refine zF (N := 6) rfl ?_); (try (refine vL (by rfl) ?_; dsimp only)); refine be_ 6 #[.bool false, .string (⟨#[]⟩ : ByteArray), .int .i64 0] 23 ?_; intro gb656 hg w14 hbox hb; have BK656 := K_ (hbox); have GW656 := ge_ hg HB; have GE656 := ge_ hg HB; replace HB := zE HB hb; clear hb hbox hg) | ((with_reducible refine zK (f := 80) rfl ?_); refine zY (some 10) rfl rfl Tryz.func80 (by kernel_rfl) rfl #[.slice A1 l1.length c1] rfl MP ?_; (with_reducible refine (vC.calls _ _ l1 t657 _ ?side1 ?side2 A4.out).mono ?_); (case side1 => exact CB (Kd.C_below HR1.out HB.out)); (case side2 => exact HC1.out); rintro e w15 ⟨rfl, hb⟩; refine ⟨_, rfl, ?_⟩; replace BK656 := zC BK656 hb; replace HB := zE HB hb; (try clear hb); (try clear hb2); (try clear hk); (try clear hi)) | ((with_reducible refine zK (f := 59) rfl ?_); refine zY (some 13) rfl rfl Tryz.func59 (by kernel_rfl) rfl #[.agg #[.bool a0, .string t657, .int .i64 a2]] rfl MP ?_; (with_reducible refine (jV.calls a0 t657 a2 false t659 t660 _ A5.out).mono ?_); rintro e w16 ⟨rfl, hb⟩; refine ⟨_, rfl, ?_⟩; replace BK656 := zC BK656 hb; replace HB := zE HB hb; (try clear hb); (try clear hb2); (try clear hk); (try clear hi)) | ((with_reducible refine zF (N := 7) rfl ?_); (try (refine vL (by rfl) ?_; dsimp only)); refine be_ 7 #[.bool false, .string (⟨#[]⟩ : ByteArray), .int .i64 0] 23 ?_; intro gb661 hg w17 hbox hb; have BK661 := K_ (hbox); have GW661 := ge_ hg HB; have GE661 := ge_ hg HB; replace HB := zE HB hb; have NB656_661 := nb_ hg BK656; have NB661_656 := nc_ hg BK656; replace BK656 := zC BK656 hb; clear hb hbox hg; have hnb18 := NB661_656.out; have hnc18 := NB656_661.out; obtain ⟨⟨hcz19_0, hcz19_1, hcz19_2⟩, hfz19_0, hfz19_1, hfz19_2⟩ := ce3 BK661; obtain ⟨⟨hcz20_0, hcz20_1, hcz20_2⟩, hfz20_0, hfz20_1, hfz20_2⟩ := ce3 BK656))
 refine bodyPost_ret (results_cell_row rfl _ _ gb656 23 #[.bool false, .string t659, .int .i64 t660] (0, 0) _ rfl (by (with_reducible repeat (first | refine jC ?_ _ | refine zX ?_ | refine jB ?_ _)); refine zcj (cs := #[.bool false, .string t659, .int .i64 0]) ?_ 2 _ rfl; (with_reducible repeat (first | refine jC ?_ _ | refine zX ?_ | refine jB ?_ _)); refine zcj (cs := #[.bool false, .string (⟨#[]⟩ : ByteArray), .int .i64 0]) ?_ 1 _ rfl; (with_reducible repeat (first | refine jC ?_ _ | refine zX ?_ | refine jB ?_ _)); refine zcj (cs := #[.bool false, .string (⟨#[]⟩ : ByteArray), .int .i64 0]) ?_ 0 _ rfl; (with_reducible repeat (first | refine jC ?_ _ | refine zX ?_ | refine jB ?_ _)); refine zR ?_ NB656_661.out _; (with_reducible repeat (first | refine jC ?_ _ | refine zX ?_ | refine jB ?_ _)); refine zR ?_ NB656_661.out _; (with_reducible repeat (first | refine jC ?_ _ | refine zX ?_ | refine jB ?_ _)); refine zR ?_ NB656_661.out _; (with_reducible repeat (first | refine jC ?_ _ | refine zX ?_ | refine jB ?_ _)); refine zR ?_ NB656_661.out _; (with_reducible repeat (first | refine jC ?_ _ | refine zX ?_ | refine jB ?_ _)); exact BK656.out) Tryz.underlying23 rfl (by kernel_rfl)) rfl ?_
 exact ⟨ER, BL HB⟩
end Go.Proofs.YtcmgdjnjmobkoaaGreatDoor.Px
