/- The functions that the law ShapeCountsUpto reaches, told as plain functions, with what is proved of them, and the words they need (part 4). -/
import Derived.Test.YtcmgdjnjmobkoaaGreatDoorCShapeCountsUpto0
import Derived.Test.YtcmgdjnjmobkoaaGreatDoorCShapeCountsUpto1
import Derived.Test.YtcmgdjnjmobkoaaGreatDoorCShapeCountsUpto3
import Derived.Test.YtcmgdjnjmobkoaaGreatDoorCShapeCountsUpto2
set_option linter.unusedVariables false
set_option linter.unusedSimpArgs false
namespace Go.Proofs.YtcmgdjnjmobkoaaGreatDoor.Px
set_option linter.all false
open Fig Go.RowKit Go.Proofs.YtcmgdjnjmobkoaaGreatDoorW.PrintWords Go.Proofs.YtcmgdjnjmobkoaaGreatDoorW.PrintLast Go.Proofs.YtcmgdjnjmobkoaaGreatDoorW.PrintMore
attribute [local go_sem] vN vM uD uC yY yX vK vL
set_option maxHeartbeats 16000000 in
set_option maxRecDepth 100000 in
theorem zbF (A : Option Addr) (c : Nat) (l : List S73) (b0 : Int) (fst : Bool) (w : World) (hr : Kd.C k73 w A l.length l) (hc : l.length ≤ c) (hl : l.length ≤ 1000) :
  Calls Tryz.prog 57 #[.slice A l.length c, .int .i64 b0, .bool fst] w (zlK l w) := by
 have HR := K_ hr
 have HL := K_ hl
 have HCC := K_ hc
 have HB := K_ (Below.refl w.heap.size w)
 clear hr hc
 go_enter Tryz.func57, Tryz.ntmps57
 go_upto_region 1 with (first
  | ((with_reducible refine zH (N := 6) rfl ?_); refine be_ 6 Z76 76 ?_; intro g6 hg w2 hbox hb; have BK6 := K_ hbox; have GE6 := ge_ hg HB; replace HB := zG HB hb; clear hb hbox hg)
  | ((with_reducible refine zH (N := 7) rfl ?_); refine be_ 7 Z51 51 ?_; intro g7 hg w4 hbox hb; have BK7 := K_ hbox; have GE7 := ge_ hg HB; have NB := nb_ hg BK6; replace BK6 := zD BK6 hb; replace HB := zG HB hb; clear hb hbox hg))
 go_wp2_with (fail)
 go_loopw [8] (fun v wr => ∃ k : Nat, k ≤ l.length ∧ v = .int .i64 k ∧ qA (fun x => !vH x) l k = uX l ∧ wr.heap[g6]? = some (.cells Z76 76 (0, 0)) ∧ wr.heap[g7]? = some (.cells Z51 51 (0, 0)) ∧ Below w.heap.size w wr) (fun v _ => l.length - (intOf v).toNat)
 case atStart => exact ⟨0, by omega, rfl, rfl, BK BK6, BK BK7, BL HB⟩
 case round =>
  obtain ⟨k, hk, rfl, hrun, hb6, hb7, hbw⟩ := hrel
  have HRun := K_ hrun
  replace BK6 := K_ hb6
  replace BK7 := K_ hb7
  replace HB := K_ hbw
  clear hrun hb6 hb7 hbw
  have hcl := HCC.out
  by_cases hlt : k < l.length
  ·have dlt : decide ((k : Int) < (l.length : Int)) = true := decide_eq_true (by omega)
   obtain ⟨x, hx⟩ : ∃ x, x = l[k] := ⟨_, rfl⟩
   obtain ⟨ad, ea, h0, h1, h2, h3⟩ := zas (Kd.C_below HR.out HB.out) (k : Int) (by omega) (by omega)
   rw [zcl hlt, ← hx] at h0 h1 h2 h3
   simp only [Int.toNat_natCast] at h0 h1 h2 h3
   have HX := K_ hx
   have HA := K_ ea
   clear hx
   subst ea
   cases hb : vH x
   ·have HC : ∀ W, Aside0 (Calls Tryz.prog 87 #[.agg #[.int .i32 x.f0.f0, .bool x.f0.f1, .int .i64 x.f0.f2, .bool x.f1]] W fun e w' => e = .returned (.bool false) ∧ Below W.heap.size W w') := fun W => ⟨by have h := zcW x W; rw [hb] at h; exact h⟩
    have HR2 := K_ (show qA (fun x => !vH x) l (k + 1) = uX l by rw [← zgl hlt (by rw [← HX.out, hb]; rfl)]; exact HRun.out)
    clear hb
    go_wp2_with (go_at_call 87; refine ((HC _).out).mono ?_; rintro e w' ⟨rfl, hb⟩; replace HB := zG HB hb; replace BK6 := zD BK6 hb; replace BK7 := zD BK7 hb; clear hb)
    go_roundw
    case rel => exact ⟨k + 1, by omega, by go_num, HR2.out, BK BK6, BK BK7, BL HB⟩
    case measure => simp [intOf]; omega
   have HC : ∀ W, Aside0 (Calls Tryz.prog 87 #[.agg #[.int .i32 x.f0.f0, .bool x.f0.f1, .int .i64 x.f0.f2, .bool x.f1]] W fun e w' => e = .returned (.bool true) ∧ Below W.heap.size W w') := fun W => ⟨by have h := zcW x W; rw [hb] at h; exact h⟩
   have HBEG := K_ (show uX l = k by rw [← HRun.out]; exact zdU hlt (by rw [← HX.out, hb]; rfl))
   have HKL := K_ hlt
   have dne : ((k : Int) == (l.length : Int)) = false := beq_eq_false_iff_ne.2 (by omega)
   clear hb
   go_upto_region 6 with (go_at_call 87; refine ((HC _).out).mono ?_; rintro e w' ⟨rfl, hb⟩; replace HB := zG HB hb; replace BK6 := zD BK6 hb; replace BK7 := zD BK7 hb; clear hb)
   go_wp2_with (fail)
   go_loopw [9] (fun v wr => ∃ j : Nat, k ≤ j ∧ j ≤ l.length ∧ v = .int .i64 j ∧ qA vH l j = qA vH l (k) ∧ wr.heap[g6]? = some (.cells Z76 76 (0, 0)) ∧ wr.heap[g7]? = some (.cells Z51 51 (0, 0)) ∧ Below w.heap.size w wr) (fun v _ => l.length - (intOf v).toNat)
   case atStart => exact ⟨k, Nat.le_refl _, by omega, rfl, rfl, BK BK6, BK BK7, BL HB⟩
   case round =>
    obtain ⟨j, hj0, hj, rfl, hrun, hb6, hb7, hbw⟩ := hrel
    have HRun := K_ hrun
    replace BK6 := K_ hb6
    replace BK7 := K_ hb7
    replace HB := K_ hbw
    clear hrun hb6 hb7 hbw
    go_upto_region 7 with (fail)
    go_cut [55] from 45 to 55 (fun c wx => c = .bool (zat l j) ∧ wx.heap[g6]? = some (.cells Z76 76 (0, 0)) ∧ wx.heap[g7]? = some (.cells Z51 51 (0, 0)) ∧ Below w.heap.size w wx)
    case first =>
     have hcl := HCC.out
     by_cases hlt : j < l.length
     ·have dlt : decide (((j : Nat) : Int) < (l.length : Int)) = true := decide_eq_true (by omega)
      obtain ⟨x, hx⟩ : ∃ x, x = l[j] := ⟨_, rfl⟩
      obtain ⟨ad2, ea, h0, h1, h2, h3⟩ := zas (Kd.C_below HR.out HB.out) ((j : Nat) : Int) (by omega) (by omega)
      rw [zcl hlt, ← hx] at h0 h1 h2 h3
      simp only [Int.toNat_natCast] at h0 h1 h2 h3
      have HX := K_ hx
      obtain rfl := Option.some.inj ea
      clear hx ea
      have HV := K_ (show zat l j = vH x by rw [HX.out]; exact zdc hlt)
      cases hb : vH x
      all_goals
       rw [hb] at HV
       have HC : ∀ W, Aside0 (Calls Tryz.prog 87 #[.agg #[.int .i32 x.f0.f0, .bool x.f0.f1, .int .i64 x.f0.f2, .bool x.f1]] W fun e w' => e = .returned (.bool _) ∧ Below W.heap.size W w') := fun W => ⟨by have h := zcW x W; rw [hb] at h; exact h⟩
       clear hb
       go_wp2_with (go_at_call 87; refine ((HC _).out).mono ?_; rintro e w' ⟨rfl, hb⟩; replace HB := zG HB hb; replace BK6 := zD BK6 hb; replace BK7 := zD BK7 hb; clear hb)
       go_meet
       case rel => exact ⟨by rw [HV.out], BK BK6, BK BK7, BL HB⟩
     have dlt : decide (((j : Nat) : Int) < (l.length : Int)) = false := decide_eq_false (by omega)
     have HV := K_ (show zat l j = false from zdB (by omega))
     go_wp2
     go_meet
     case rel => exact ⟨by rw [HV.out], BK BK6, BK BK7, BL HB⟩
    case rest =>
     obtain ⟨rfl, hb6, hb7, hbw⟩ := hcut
     replace BK6 := K_ hb6
     replace BK7 := K_ hb7
     replace HB := K_ hbw
     clear hb6 hb7 hbw
     cases hb : zat l j
     ·have HE0 := K_ (show qA vH l k = j by rw [← HRun.out]; exact zkF hb)
      clear hb
      have HEND := K_ (show uU l = zer l j by unfold uU; rw [HBEG.out, HE0.out])
      go_upto_region 9 with (fail)
      go_cut [68] from 58 to 68 (fun c wx => c = .bool (atS l j 69) ∧ wx.heap[g6]? = some (.cells Z76 76 (0, 0)) ∧ wx.heap[g7]? = some (.cells Z51 51 (0, 0)) ∧ Below w.heap.size w wx)
      case first =>
       have hcl := HCC.out
       by_cases hlt : j < l.length
       ·have dlt : decide (((j : Nat) : Int) < (l.length : Int)) = true := decide_eq_true (by omega)
        obtain ⟨x, hx⟩ : ∃ x, x = l[j] := ⟨_, rfl⟩
        obtain ⟨ad2, ea, h0, h1, h2, h3⟩ := zas (Kd.C_below HR.out HB.out) ((j : Nat) : Int) (by omega) (by omega)
        rw [zcl hlt, ← hx] at h0 h1 h2 h3
        simp only [Int.toNat_natCast] at h0 h1 h2 h3
        have HX := K_ hx
        obtain rfl := Option.some.inj ea
        clear hx ea
        have HV := K_ (show atS l j 69 = zah x 69 by rw [HX.out]; exact zfv hlt 69)
        cases hb : zah x 69
        all_goals
         rw [hb] at HV
         have HC : ∀ W, Aside0 (Calls Tryz.prog 56 #[.agg #[.int .i32 x.f0.f0, .bool x.f0.f1, .int .i64 x.f0.f2, .bool x.f1], .int .i32 69] W fun e w' => e = .returned (.bool _) ∧ Below W.heap.size W w') := fun W => ⟨by have h := zbk x 69 W; rw [hb] at h; exact h⟩
         clear hb
         go_wp2_with (go_at_call 56; refine ((HC _).out).mono ?_; rintro e w' ⟨rfl, hb⟩; replace HB := zG HB hb; replace BK6 := zD BK6 hb; replace BK7 := zD BK7 hb; clear hb)
         go_meet
         case rel => exact ⟨by rw [HV.out], BK BK6, BK BK7, BL HB⟩
       have dlt : decide (((j : Nat) : Int) < (l.length : Int)) = false := decide_eq_false (by omega)
       have HV := K_ (show atS l j 69 = false from zdr (by omega) 69)
       go_wp2
       go_meet
       case rel => exact ⟨by rw [HV.out], BK BK6, BK BK7, BL HB⟩
      case rest =>
       obtain ⟨rfl, hb6, hb7, hbw⟩ := hcut
       replace BK6 := K_ hb6
       replace BK7 := K_ hb7
       replace HB := K_ hbw
       clear hb6 hb7 hbw
       go_upto_if 68 with (fail)
       go_cut [9] from 58 to 96 (fun v wx => v = .int .i64 ((uU l : Nat) : Int) ∧ wx.heap[g6]? = some (.cells Z76 76 (0, 0)) ∧ wx.heap[g7]? = some (.cells Z51 51 (0, 0)) ∧ Below w.heap.size w wx)
       case first =>
        have hll := HL.out
        cases h69 : atS l j 69
        ·have HEND2 := K_ (show uU l = j by rw [HEND.out]; unfold zer; rw [if_neg (by rw [h69]; decide)])
         clear h69
         go_wp2
         go_meet
         case rel => exact ⟨by rw [HEND2.out], BK BK6, BK BK7, BL HB⟩
        have hj1 := zkI h69
        have HEND2 := K_ (show uU l = qA vH l (if atS l (j + 1) 43 = true then j + 2 else j + 1) by rw [HEND.out]; unfold zer; rw [if_pos h69])
        have hwj : IntKind.i64.wrap ((j : Int) + 1) = (j : Int) + 1 := by rw [IntKind.wrap_i64]; omega
        clear h69
        go_upto_region 11 with (fail)
        obtain ⟨j1, hj2⟩ : ∃ j1 : Nat, j1 = j + 1 := ⟨_, rfl⟩
        have hc1 : ((j : Int) + 1) = ((j1 : Nat) : Int) := by omega
        have hj3 : j1 ≤ l.length := by omega
        have HEND3 := K_ (show uU l = qA vH l (if atS l j1 43 = true then j1 + 1 else j1) by rw [HEND2.out, hj2])
        rw [hc1]
        clear hc1 hwj hj2 HEND2
        go_cut [81] from 71 to 81 (fun c wx => c = .bool (atS l j1 43) ∧ wx.heap[g6]? = some (.cells Z76 76 (0, 0)) ∧ wx.heap[g7]? = some (.cells Z51 51 (0, 0)) ∧ Below w.heap.size w wx)
        case first =>
         have hcl := HCC.out
         by_cases hlt : j1 < l.length
         ·have dlt : decide (((j1 : Nat) : Int) < (l.length : Int)) = true := decide_eq_true (by omega)
          obtain ⟨x, hx⟩ : ∃ x, x = l[j1] := ⟨_, rfl⟩
          obtain ⟨ad2, ea, h0, h1, h2, h3⟩ := zas (Kd.C_below HR.out HB.out) ((j1 : Nat) : Int) (by omega) (by omega)
          rw [zcl hlt, ← hx] at h0 h1 h2 h3
          simp only [Int.toNat_natCast] at h0 h1 h2 h3
          have HX := K_ hx
          obtain rfl := Option.some.inj ea
          clear hx ea
          have HV := K_ (show atS l j1 43 = zah x 43 by rw [HX.out]; exact zfv hlt 43)
          cases hb : zah x 43
          all_goals
           rw [hb] at HV
           have HC : ∀ W, Aside0 (Calls Tryz.prog 56 #[.agg #[.int .i32 x.f0.f0, .bool x.f0.f1, .int .i64 x.f0.f2, .bool x.f1], .int .i32 43] W fun e w' => e = .returned (.bool _) ∧ Below W.heap.size W w') := fun W => ⟨by have h := zbk x 43 W; rw [hb] at h; exact h⟩
           clear hb
           go_wp2_with (go_at_call 56; refine ((HC _).out).mono ?_; rintro e w' ⟨rfl, hb⟩; replace HB := zG HB hb; replace BK6 := zD BK6 hb; replace BK7 := zD BK7 hb; clear hb)
           go_meet
           case rel => exact ⟨by rw [HV.out], BK BK6, BK BK7, BL HB⟩
         have dlt : decide (((j1 : Nat) : Int) < (l.length : Int)) = false := decide_eq_false (by omega)
         have HV := K_ (show atS l j1 43 = false from zdr (by omega) 43)
         go_wp2
         go_meet
         case rel => exact ⟨by rw [HV.out], BK BK6, BK BK7, BL HB⟩
        case rest =>
         obtain ⟨rfl, hb6, hb7, hbw⟩ := hcut
         replace BK6 := K_ hb6
         replace BK7 := K_ hb7
         replace HB := K_ hbw
         clear hb6 hb7 hbw
         go_upto_if 81 with (fail)
         go_cut [9] from 71 to 83 (fun v wx => v = .int .i64 (((if atS l j1 43 = true then j1 + 1 else j1) : Nat) : Int) ∧ wx.heap[g6]? = some (.cells Z76 76 (0, 0)) ∧ wx.heap[g7]? = some (.cells Z51 51 (0, 0)) ∧ Below w.heap.size w wx)
         case first =>
          cases h43 : atS l j1 43
          ·go_wp2
           go_meet
           case rel => exact ⟨by rw [h43]; rfl, BK BK6, BK BK7, BL HB⟩
          have hwj : IntKind.i64.wrap ((j1 : Int) + 1) = (j1 : Int) + 1 := by rw [IntKind.wrap_i64]; omega
          go_wp2
          go_meet
          case rel => exact ⟨by rw [h43]; rfl, BK BK6, BK BK7, BL HB⟩
         case rest =>
          obtain ⟨rfl, hb6, hb7, hbw⟩ := hcut
          replace BK6 := K_ hb6
          replace BK7 := K_ hb7
          replace HB := K_ hbw
          clear hb6 hb7 hbw
          obtain ⟨e1, he1⟩ : ∃ e1 : Nat, e1 = if atS l j1 43 = true then j1 + 1 else j1 := ⟨_, rfl⟩
          have hel : e1 ≤ l.length := by
           rw [he1]; split
           ·rename_i h; have := zkI h; omega
           exact hj3
          have HEND4 := K_ (show uU l = qA vH l e1 by rw [HEND3.out, he1])
          rw [← he1]
          clear he1 HEND3
          go_wp2_with (fail)
          go_loopw [9] (fun v wr => ∃ j : Nat, e1 ≤ j ∧ j ≤ l.length ∧ v = .int .i64 j ∧ qA vH l j = qA vH l (e1) ∧ wr.heap[g6]? = some (.cells Z76 76 (0, 0)) ∧ wr.heap[g7]? = some (.cells Z51 51 (0, 0)) ∧ Below w.heap.size w wr) (fun v _ => l.length - (intOf v).toNat)
          case atStart => exact ⟨e1, Nat.le_refl _, by omega, rfl, rfl, BK BK6, BK BK7, BL HB⟩
          case round =>
           obtain ⟨j, hj0, hj, rfl, hrun, hb6, hb7, hbw⟩ := hrel
           have HRun := K_ hrun
           replace BK6 := K_ hb6
           replace BK7 := K_ hb7
           replace HB := K_ hbw
           clear hrun hb6 hb7 hbw
           go_upto_region 13 with (fail)
           go_cut [94] from 84 to 94 (fun c wx => c = .bool (zat l j) ∧ wx.heap[g6]? = some (.cells Z76 76 (0, 0)) ∧ wx.heap[g7]? = some (.cells Z51 51 (0, 0)) ∧ Below w.heap.size w wx)
           case first =>
            have hcl := HCC.out
            by_cases hlt : j < l.length
            ·have dlt : decide (((j : Nat) : Int) < (l.length : Int)) = true := decide_eq_true (by omega)
             obtain ⟨x, hx⟩ : ∃ x, x = l[j] := ⟨_, rfl⟩
             obtain ⟨ad2, ea, h0, h1, h2, h3⟩ := zas (Kd.C_below HR.out HB.out) ((j : Nat) : Int) (by omega) (by omega)
             rw [zcl hlt, ← hx] at h0 h1 h2 h3
             simp only [Int.toNat_natCast] at h0 h1 h2 h3
             have HX := K_ hx
             obtain rfl := Option.some.inj ea
             clear hx ea
             have HV := K_ (show zat l j = vH x by rw [HX.out]; exact zdc hlt)
             cases hb : vH x
             all_goals
              rw [hb] at HV
              have HC : ∀ W, Aside0 (Calls Tryz.prog 87 #[.agg #[.int .i32 x.f0.f0, .bool x.f0.f1, .int .i64 x.f0.f2, .bool x.f1]] W fun e w' => e = .returned (.bool _) ∧ Below W.heap.size W w') := fun W => ⟨by have h := zcW x W; rw [hb] at h; exact h⟩
              clear hb
              go_wp2_with (go_at_call 87; refine ((HC _).out).mono ?_; rintro e w' ⟨rfl, hb⟩; replace HB := zG HB hb; replace BK6 := zD BK6 hb; replace BK7 := zD BK7 hb; clear hb)
              go_meet
              case rel => exact ⟨by rw [HV.out], BK BK6, BK BK7, BL HB⟩
            have dlt : decide (((j : Nat) : Int) < (l.length : Int)) = false := decide_eq_false (by omega)
            have HV := K_ (show zat l j = false from zdB (by omega))
            go_wp2
            go_meet
            case rel => exact ⟨by rw [HV.out], BK BK6, BK BK7, BL HB⟩
           case rest =>
            obtain ⟨rfl, hb6, hb7, hbw⟩ := hcut
            replace BK6 := K_ hb6
            replace BK7 := K_ hb7
            replace HB := K_ hbw
            clear hb6 hb7 hbw
            cases hb : zat l j
            ·have HE9 := K_ (show uU l = j by rw [HEND4.out, ← HRun.out]; exact zkF hb)
             clear hb
             go_wp2
             go_meet
             case rel => exact ⟨by rw [HE9.out], BK BK6, BK BK7, BL HB⟩
            have hjl := zeh hb
            have HR2 := K_ (show qA vH l (j + 1) = qA vH l e1 by rw [← ziF hb]; exact HRun.out)
            clear hb
            go_wp2
            go_roundw
            case rel => exact ⟨j + 1, by omega, by omega, by go_num, HR2.out, BK BK6, BK BK7, BL HB⟩
            case measure => simp [intOf]; omega
       case rest =>
        obtain ⟨rfl, hb6, hb7, hbw⟩ := hcut
        replace BK6 := K_ hb6
        replace BK7 := K_ hb7
        replace HB := K_ hbw
        clear hb6 hb7 hbw
        clear HEND HE0 HC HRun hk hj0 hj
        obtain ⟨e, hen⟩ : ∃ e, e = uU l := ⟨_, rfl⟩
        have HEN := K_ hen
        rw [← hen]
        clear hen
        go_upto_region 16 with (first
         | ((with_reducible refine zH (N := 10) rfl ?_); refine be_ 10 Z76 76 ?_; intro g10 hg w10 hbox hb; have BK10 := K_ hbox; have GE10 := ge_ hg HB; have N6 := nb_ hg BK6; have N7 := nb_ hg BK7; replace BK6 := zD BK6 hb; replace BK7 := zD BK7 hb; replace HB := zG HB hb; clear hb hbox hg)
         | ((with_reducible refine zW (p := 10) rfl ?_); refine so_ (g := g10) (cs := Z76) Z76 ⟨BK BK10⟩ ?_ rfl rfl rfl rfl rfl zbq rfl rfl; intro w9 hbk hfar hbel; replace BK6 := K_ (hfar g6 _ N6.out (BK BK6)); replace BK7 := K_ (hfar g7 _ N7.out (BK BK7)); replace BK10 := K_ hbk; replace HB := K_ (hbel _ _ GE10.out (BL HB)); clear hbk hfar hbel))
        go_wp2_with (fail)
        go_loopw [11, 12] (fun p i wr => ∃ (k pads : Nat) (at_ pad : Int), k ≤ l.length ∧ pads ≤ k ∧ i = .int .i64 k ∧ p = .int .i64 pads ∧ wr.heap[g10]? = some (.cells (uS (.slice none 0 0) (.slice none 0 0) jJ at_ pad 0) 76 (0, 0)) ∧ wr.heap[g6]? = some (.cells Z76 76 (0, 0)) ∧ wr.heap[g7]? = some (.cells Z51 51 (0, 0)) ∧ Below w.heap.size w wr) (fun _ i _ => l.length - (intOf i).toNat)
        case atStart => exact ⟨0, 0, 0, 0, by omega, by omega, rfl, rfl, BK BK10, BK BK6, BK BK7, BL HB⟩
        case round =>
         obtain ⟨i, pads, at_, pad, hi, hpd, rfl, rfl, hb10, hb6, hb7, hbw⟩ := hrel
         replace BK10 := K_ hb10
         replace BK6 := K_ hb6
         replace BK7 := K_ hb7
         replace HB := K_ hbw
         clear hb10 hb6 hb7 hbw
         have hcl := HCC.out
         have hll := HL.out
         by_cases hlt : i < l.length
         ·have dlt : decide (((i : Nat) : Int) < (l.length : Int)) = true := decide_eq_true (by omega)
          obtain ⟨x, hx⟩ : ∃ x, x = l[i] := ⟨_, rfl⟩
          obtain ⟨ad2, ea, h0, h1, h2, h3⟩ := zas (Kd.C_below HR.out HB.out) ((i : Nat) : Int) (by omega) (by omega)
          rw [zcl hlt, ← hx] at h0 h1 h2 h3
          simp only [Int.toNat_natCast] at h0 h1 h2 h3
          have HX := K_ hx
          obtain rfl := Option.some.inj ea
          clear hx ea
          cases hp : x.f1
          ·rw [hp] at h3
           clear hp
           go_wp2
           go_roundw
           case rel => exact ⟨i + 1, pads, at_, pad, by omega, by omega, by go_num, rfl, BK BK10, BK BK6, BK BK7, BL HB⟩
           case measure => simp [intOf]; omega
          have HPAD := K_ (show (∀ x ∈ l, x.f1 = false) → False by
           intro h; have := h l[i] (List.getElem_mem hlt); rw [← HX.out, hp] at this; cases this)
          rw [hp] at h3
          clear hp
          have HXO := K_ ((zas HR.out ((i : Nat) : Int) (by omega) (by omega)).choose_spec.2.1)
          go_upto_block 8 with (fail)
          go_cut [13] from 110 to 127 (fun v wx => (∃ a : Int, v = .int .i64 a) ∧ wx.heap[g10]? = some (.cells (uS (.slice none 0 0) (.slice none 0 0) jJ at_ pad 0) 76 (0, 0)) ∧ wx.heap[g6]? = some (.cells Z76 76 (0, 0)) ∧ wx.heap[g7]? = some (.cells Z51 51 (0, 0)) ∧ Below w.heap.size w wx)
          case first =>
           have hwk : IntKind.i64.wrap ((k : Int) - 1) = (k : Int) - 1 := by rw [IntKind.wrap_i64]; omega
           have hwl : IntKind.i64.wrap ((l.length : Int) - 1) = (l.length : Int) - 1 := by rw [IntKind.wrap_i64]; omega
           by_cases q1 : ((i : Nat) : Int) = 0
           ·have e1 : (((i : Nat) : Int) == 0) = true := beq_iff_eq.2 q1
            clear q1
            go_wp2
            go_meet
            case rel => exact ⟨⟨_, rfl⟩, BK BK10, BK BK6, BK BK7, BL HB⟩
           have e1 : (((i : Nat) : Int) == 0) = false := beq_eq_false_iff_ne.2 q1
           by_cases q2 : ((i : Nat) : Int) = (k : Int) - 1
           ·have e2 : (((i : Nat) : Int) == (k : Int) - 1) = true := beq_iff_eq.2 q2
            clear q1 q2
            go_wp2
            go_meet
            case rel => exact ⟨⟨_, rfl⟩, BK BK10, BK BK6, BK BK7, BL HB⟩
           have e2 : (((i : Nat) : Int) == (k : Int) - 1) = false := beq_eq_false_iff_ne.2 q2
           by_cases q3 : ((i : Nat) : Int) = (e : Int)
           ·have e3 : (((i : Nat) : Int) == (e : Int)) = true := beq_iff_eq.2 q3
            clear q1 q2 q3
            go_wp2
            go_meet
            case rel => exact ⟨⟨_, rfl⟩, BK BK10, BK BK6, BK BK7, BL HB⟩
           have e3 : (((i : Nat) : Int) == (e : Int)) = false := beq_eq_false_iff_ne.2 q3
           by_cases q4 : ((i : Nat) : Int) = (l.length : Int) - 1
           ·have e4 : (((i : Nat) : Int) == (l.length : Int) - 1) = true := beq_iff_eq.2 q4
            clear q1 q2 q3 q4
            go_wp2
            go_meet
            case rel => exact ⟨⟨_, rfl⟩, BK BK10, BK BK6, BK BK7, BL HB⟩
           have e4 : (((i : Nat) : Int) == (l.length : Int) - 1) = false := beq_eq_false_iff_ne.2 q4
           clear q1 q2 q3 q4
           go_wp2
           go_meet
           case rel => exact ⟨⟨_, rfl⟩, BK BK10, BK BK6, BK BK7, BL HB⟩
          case rest =>
           obtain ⟨⟨a, rfl⟩, hb10, hb6, hb7, hbw⟩ := hcut
           replace BK10 := K_ hb10
           replace BK6 := K_ hb6
           replace BK7 := K_ hb7
           replace HB := K_ hbw
           clear hb10 hb6 hb7 hbw h0 h1 h2 h3
           have hwp : IntKind.i64.wrap ((pads : Int) + 1) = (pads : Int) + 1 := by rw [IntKind.wrap_i64]; omega
           go_upto_region 31 with (fail)
           go_cut [139] from 130 to 139 (fun v wx => (∃ t : Bool, v = .bool t) ∧ wx.heap[g10]? = some (.cells (uS (.slice none 0 0) (.slice none 0 0) jJ at_ pad 0) 76 (0, 0)) ∧ wx.heap[g6]? = some (.cells Z76 76 (0, 0)) ∧ wx.heap[g7]? = some (.cells Z51 51 (0, 0)) ∧ Below w.heap.size w wx)
           case first =>
            by_cases q1 : a = 0
            ·have e1 : (a == 0) = true := beq_iff_eq.2 q1
             clear q1
             go_wp2
             go_meet
             case rel => exact ⟨⟨_, rfl⟩, BK BK10, BK BK6, BK BK7, BL HB⟩
            have e1 : (a == 0) = false := beq_eq_false_iff_ne.2 q1
            by_cases q2 : (pads : Int) + 1 > 1
            ·have e2 : decide ((pads : Int) + 1 > 1) = true := decide_eq_true q2
             go_wp2
             go_meet
             case rel => exact ⟨⟨_, rfl⟩, BK BK10, BK BK6, BK BK7, BL HB⟩
            have e2 : decide ((pads : Int) + 1 > 1) = false := decide_eq_false q2
            go_wp2
            go_meet
            case rel => exact ⟨⟨_, rfl⟩, BK BK10, BK BK6, BK BK7, BL HB⟩
           case rest =>
            obtain ⟨⟨t, rfl⟩, hb10, hb6, hb7, hbw⟩ := hcut
            replace BK10 := K_ hb10
            replace BK6 := K_ hb6
            replace BK7 := K_ hb7
            replace HB := K_ hbw
            clear hb10 hb6 hb7 hbw
            obtain ⟨ad2, ea, h0, h1, h2, h3⟩ := zas (Kd.C_below HR.out HB.out) ((i : Nat) : Int) (by omega) (by omega)
            rw [zcl hlt, ← HX.out] at h0 h1 h2 h3
            simp only [Int.toNat_natCast] at h0 h1 h2 h3
            obtain rfl := Option.some.inj ea
            clear ea
            have hbw : (ad.add (i * 4)).block < w.heap.size := by
             obtain ⟨ad3, ea3, h03, _⟩ := zas HR.out ((i : Nat) : Int) (by omega) (by omega)
             obtain rfl := Option.some.inj ea3
             simp only [Int.toNat_natCast] at h03
             exact World.block_lt_of_cell? _ _ h03
            cases t
            ·have hbn : (ad.add (i * 4)).block ≠ g10 := Nat.ne_of_lt (Nat.lt_of_lt_of_le hbw GE10.out)
             have hcell2 : ∀ j v, (wc.setCell ⟨g10, j, none⟩ v).cell? (ad.add (i * 4)) = some (.int .i32 x.f0.f0) := fun j v => (jF hbn v).trans h0
             have hi0 : (0 : Int) ≤ (i : Int) := by omega
             have hi1 : (i : Int) < (l.length : Int) := by omega
             have hi2 : i + 1 ≤ l.length := hlt
             clear hbw
             obtain ⟨⟨cz0, cz1, cz2, cz3, cz4, cz5, cz6, cz7, cz8, cz9, cz10, cz11, cz12, cz13, cz14, cz15, cz16, cz17, cz18, cz19, cz20, cz21, cz22, cz23, cz24⟩, fz0, fz1, fz2, fz3, fz4, fz5, fz6, fz7, fz8, fz9, fz10, fz11, fz12, fz13, fz14, fz15, fz16, fz17, fz18, fz19, fz20, fz21, fz22, fz23, fz24⟩ := zoE BK10
             go_upto_region 33 with (fail)
             go_region
             all_goals
              go_wp2_with (fail)
              go_roundw
              case rel => exact ⟨i + 1, pads + 1, a, x.f0.f0, by omega, by omega, by go_num, by go_num, BP BK10, (by (repeat (first | (with_reducible exact Aside0.out BK6) | (with_reducible refine jU ?_ _) | (with_reducible refine zX ?_) | (with_reducible refine jT ?_ _) | refine zQ ?_ (Aside0.out N6) _))), (by (repeat (first | (with_reducible exact Aside0.out BK7) | (with_reducible refine jU ?_ _) | (with_reducible refine zX ?_) | (with_reducible refine jT ?_ _) | refine zQ ?_ (Aside0.out N7) _))), BL HB⟩
              case measure => simp [intOf]; omega
            have hi0 : (0 : Int) ≤ (i : Int) := by omega
            have hi1 : (i : Int) < (l.length : Int) := by omega
            have HE := K_ (show (∀ x ∈ l, x.f1 = false) → (∃ P, xU l P) → (7 : Int) = 0 from fun h _ => (HPAD.out h).elim)
            have hb6 : (ad.add (i * 4)).block ≠ g6 := Nat.ne_of_lt (Nat.lt_of_lt_of_le hbw GE6.out)
            have hb7 : (ad.add (i * 4)).block ≠ g7 := Nat.ne_of_lt (Nat.lt_of_lt_of_le hbw GE7.out)
            go_upto_region 32 with (fail)
            refine yL (n := 10) (S := fun w' => w'.cell? ⟨(ad.add (i * 4)).block, (ad.add (i * 4)).off + 2, none⟩ = some (.int .i64 x.f0.f2)) (ds := []) #[false, false, false, false, false, false, false, false, false, false] (by kernel_rfl) rfl rfl h2 (fun hHeld => ?_)
            obtain ⟨W, hW⟩ : ∃ W, W = World.drew wc := ⟨_, rfl⟩
            rw [← hW] at hHeld ⊢
            replace BK6 := K_ (show W.heap[g6]? = some (.cells Z76 76 (0, 0)) by rw [hW]; exact BK BK6)
            replace BK7 := K_ (show W.heap[g7]? = some (.cells Z51 51 (0, 0)) by rw [hW]; exact BK BK7)
            replace HB := K_ (show Below w.heap.size w W by rw [hW]; exact BL HB)
            clear hW h0 h1 h2 h3
            refine pu_ 0 (some 140) (bb 10 1) (by kernel_rfl) ?_
            refine pu_ 1 (some 141) (bb 10 3) (by kernel_rfl) ?_
            refine pu_ 2 (some 142) (bb 10 7) (by kernel_rfl) ?_
            refine pu_ 3 (some 143) (bb 10 15) (by kernel_rfl) ?_
            refine pu_ 4 (some 144) (bb 10 31) (by kernel_rfl) ?_
            refine pu_ 5 (some 145) (bb 10 63) (by kernel_rfl) ?_
            refine tk_ 6 (some 146) (bb 10 127) (by kernel_rfl) hHeld ?_
            refine pu_ 7 (some 147) (bb 10 255) (by kernel_rfl) ?_
            refine zY (i := 8) (N := none) (bb 10 511) rfl rfl (by kernel_rfl) (by decide) (fun K hK => ?_)
            refine vF (g := g6) (cs := Z76) Z76 BK6 ?_ rfl rfl rfl rfl rfl zbq rfl rfl
            intro w8 hbk hfar hbel
            have hHeld2 := zam hfar (p := ⟨(ad.add (i * 4)).block, (ad.add (i * 4)).off + 2, none⟩) hb6 hHeld
            replace BK7 := K_ (hfar g7 _ (Ne.symm NB.out) BK7.out)
            replace BK6 := K_ hbk
            replace HB := K_ (hbel _ _ GE6.out HB.out)
            refine hK.out _ _ hHeld2 (fun _ => ?_)
            clear hK K hbk hfar hbel
            refine zY (i := 9) (N := none) (bb 10 1023) rfl rfl (by kernel_rfl) (by decide) (fun K hK => ?_)
            refine vF (g := g7) (cs := Z51) #[.int .i64 7, .int .i64 x.f0.f2] BK7 ?_ rfl rfl rfl rfl rfl uT rfl rfl
            intro w9 hbk hfar hbel
            have hHeld3 := zam hfar (p := ⟨(ad.add (i * 4)).block, (ad.add (i * 4)).off + 2, none⟩) hb7 hHeld2
            replace BK6 := K_ (hfar g6 _ NB.out BK6.out)
            replace BK7 := K_ hbk
            replace HB := K_ (hbel _ _ GE7.out HB.out)
            refine hK.out _ _ hHeld3 (fun _ => ?_)
            clear hK K hbk hfar hbel
            refine yV (by kernel_rfl) ?_
            go_wp2_with (fail)
            (
             refine bodyPost_ret (qT rfl _ _ g6 g7 76 51 Z76 #[.int .i64 7, .int .i64 x.f0.f2] (0, 0) (0, 0) _ _ rfl BK6.out Tryz.underlying76 rfl zbq rfl BK7.out Tryz.underlying51 rfl uT) rfl ?_
             exact ⟨_, _, [], [], jJ, 0, 0, 0, 7, x.f0.f2, rfl, Kd.R_nil _ _ _ _ _, Kd.R_nil _ _ _ _ _, BL HB, fun h => absurd h (by decide), HE.out⟩)
         obtain rfl : i = l.length := by omega
         have dlt : decide (((l.length : Nat) : Int) < (l.length : Int)) = false := decide_eq_false (by omega)
         go_upto_region 34 with (fail)
         have hke : k ≤ e := by have := zmW l; rw [HBEG.out, ← HEN.out] at this; exact this
         have HKE := K_ hke
         have hle : e ≤ l.length := by rw [HEN.out]; exact zmH l
         have HLE := K_ hle
         clear hke hle dlt
         go_wp2_with (fail)
         go_loopw [14, 15, 16, 17] (fun v14 v15 s i wr => ∃ j : Nat, j ≤ l.length ∧ i = .int .i64 j ∧ s = .string (zaK l k e j) ∧ Kd.R k71 71 wr w.heap.size (fun _ => True) v14 (uF l k j) ∧ Kd.R k71 71 wr w.heap.size (fun q => some q ≠ v14.ownBlock) v15 (uG l e j) ∧ (j ≤ e → v15 = .slice none 0 0) ∧ wr.heap[g10]? = some (.cells (uS (.slice none 0 0) (.slice none 0 0) jJ at_ pad 0) 76 (0, 0)) ∧ wr.heap[g6]? = some (.cells Z76 76 (0, 0)) ∧ wr.heap[g7]? = some (.cells Z51 51 (0, 0)) ∧ Below w.heap.size w wr) (fun _ _ _ i _ => l.length - (intOf i).toNat)
         case atStart => exact ⟨0, by omega, rfl, by rw [zla], by rw [zlg]; exact Kd.R_nil _ _ _ _ _, by rw [zhL (Nat.zero_le _)]; exact Kd.R_nil _ _ _ _ _, fun _ => rfl, BK BK10, BK BK6, BK BK7, BL HB⟩
         case round =>
          obtain ⟨j, hj, rfl, rfl, hz14, hz15, hnil, hb10, hb6, hb7, hbw⟩ := hrel
          replace BK10 := K_ hb10
          replace BK6 := K_ hb6
          replace BK7 := K_ hb7
          replace HB := K_ hbw
          have HZ1 := K_ hz14
          have HZ2 := K_ hz15
          have HNIL := K_ hnil
          clear hz14 hz15 hnil hb10 hb6 hb7 hbw
          have hcl := HCC.out
          have hll := HL.out
          by_cases hlt : j < l.length
          ·have dlt : decide (((j : Nat) : Int) < (l.length : Int)) = true := decide_eq_true (by omega)
           obtain ⟨x, hx⟩ : ∃ x, x = l[j] := ⟨_, rfl⟩
           obtain ⟨ad2, ea, h0, h1, h2, h3⟩ := zas (Kd.C_below HR.out HB.out) ((j : Nat) : Int) (by omega) (by omega)
           rw [zcl hlt, ← hx] at h0 h1 h2 h3
           simp only [Int.toNat_natCast] at h0 h1 h2 h3
           have HX := K_ hx
           obtain rfl := Option.some.inj ea
           clear hx ea
           have HP1 := K_ (zmM (n := k) hlt)
           have HS1 := K_ (zmy (e := e) hlt)
           have HT1 := K_ (znp (n := k) (e := e) hlt)
           rw [← HX.out] at HP1 HS1 HT1
           cases hp : x.f1
           ·rw [hp] at h3
            by_cases q1 : j < k
            ·obtain rfl := HNIL.out (Nat.le_of_lt (Nat.lt_of_lt_of_le q1 HKE.out))
             have d1 : decide (((j : Nat) : Int) < (k : Int)) = true := decide_eq_true (by omega)
             replace HP1 := K_ (show uF l k (j + 1) = uF l k j ++ [x.f0] by rw [HP1.out, if_pos ⟨q1, hp⟩])
             replace HS1 := K_ (show uG l e (j + 1) = [] from zhL (Nat.le_trans q1 HKE.out))
             replace HT1 := K_ (show zaK l k e (j + 1) = zaK l k e j by rw [HT1.out, if_neg (by omega)])
             have HN6 := K_ (Kd.R_ne HZ1.out BK6.out (by decide))
             have HN7 := K_ (Kd.R_ne HZ1.out BK7.out (by decide))
             have HN10 := K_ (Kd.R_ne HZ1.out BK10.out (by decide))
             have HLN := K_ (show ((uF l k j).length + 1) * 16 ≤ 140737488355328 by have := zeF l k j; omega)
             have HQ := K_ (show j + 1 ≤ e from Nat.le_trans q1 HKE.out)
             obtain ⟨A1, c1, rfl⟩ := Kd.R_slice HZ1.out
             clear hp
             go_wp2_with (((with_reducible refine jD (b := .append) (xs := #[.tmp 171, .tmp 177]) rfl ?_); at_builtin; (refine Kd.R_append k71 (w0 := w) w.heap.size rfl (.tmp 171) (.tmp 177) 66 71 (.agg #[(.int .i32 0), (.bool false), (.int .i64 0)]) 16 rfl Tryz.underlying66 zfP rfl (by decide) (by omega) (.slice A1 (uF l k j).length c1) (uF l k j) x.f0 [.int .i32 x.f0.f0, .bool x.f0.f1, .int .i64 x.f0.f2] (fun _ => True) (fun _ => False) rfl (by first | (go_simp; done) | (go_simp; rfl)) (zdt _ _ _ x.f0) (fun _ hk => hk.elim) (fun _ _ => trivial) ?aO ?aB ?aS ?aL ?_; (case aO => exact RB HZ1.out); (case aB => exact BL HB); (case aS => exact zJ (BL HB)); (case aL => exact HLN.out); intro v1 w5 ho2 hb2 hg2 hat2; rw [← HP1.out] at ho2; have HO3 := K_ ho2; have BK6a := K_ (yS (BK BK6) hg2 HN6.out); have BK7a := K_ (yS (BK BK7) hg2 HN7.out); have BK10a := K_ (yS (BK BK10) hg2 HN10.out); replace HB := K_ hb2; clear ho2 hb2 hg2 hat2)))
             go_roundw
             case rel => exact ⟨j + 1, by omega, by go_num, by rw [HT1.out], RB HO3.out, by rw [HS1.out]; exact Kd.R_nil _ _ _ _ _, fun _ => rfl, BK BK10a, BK BK6a, BK BK7a, BL HB⟩
             case measure => simp [intOf]; omega
            have d1 : decide (((j : Nat) : Int) < (k : Int)) = false := decide_eq_false (by omega)
            replace HP1 := K_ (show uF l k (j + 1) = uF l k j by rw [HP1.out, if_neg (by omega)])
            by_cases q2 : j < e
            ·have d2 : decide (((j : Nat) : Int) < (e : Int)) = true := decide_eq_true (by omega)
             obtain ⟨_, hr0, hr1⟩ := zhD (x := x) (by rw [HX.out]; exact zho l j (by rw [HBEG.out]; omega) (by rw [← HEN.out]; exact q2) hlt)
             have HBY := K_ (zei hr0 hr1)
             replace HS1 := K_ (show uG l e (j + 1) = uG l e j by rw [HS1.out, if_neg (by omega)])
             replace HT1 := K_ (show zaK l k e (j + 1) = zaK l k e j ++ strOfNums [x.f0.f0] by rw [HT1.out, if_pos ⟨by omega, q2⟩]; rfl)
             have HNI := K_ (HNIL.out (Nat.le_of_lt q2))
             have hts := ziB l k e j
             have hfb : ¬ 9223372036854775807 < (zaK l k e j).size + (strOfNums [x.f0.f0]).size := by
              have : (strOfNums [x.f0.f0]).size = 1 := rfl
              omega
             clear hp hr0 hr1
             go_wp2_with (go_at_call 88; refine (yT.calls x.f0.f0 [x.f0.f0] _ HBY.out).mono ?_; rintro e9 w' ⟨v0, rfl, ho0, hb⟩; obtain ⟨A9, c9, rfl⟩ : ∃ A9 c9, v0 = .slice A9 1 c9 := Kd.R_slice ho0; have hcv := Kd.C_string (c := c9) Tryz.underlying107 Tryz.underlying5 Tryz.underlying9 (show (Kd.int .u8).C w' A9 1 [x.f0.f0] from (Kd.R_reads' ho0).2.2); replace HZ1 := K_ (Kd.R_below (RB HZ1.out) hb); replace HZ2 := K_ (Kd.R_below (RB HZ2.out) hb); replace HB := zG HB hb; replace BK6 := zD BK6 hb; replace BK7 := zD BK7 hb; replace BK10 := zD BK10 hb; clear hb ho0)
             go_roundw
             case rel => exact ⟨j + 1, by omega, by go_num, by rw [HT1.out], by rw [HP1.out]; exact RB HZ1.out, by rw [HS1.out]; exact RB HZ2.out, fun _ => HNI.out, BK BK10, BK BK6, BK BK7, BL HB⟩
             case measure => simp [intOf]; omega
            have d2 : decide (((j : Nat) : Int) < (e : Int)) = false := decide_eq_false (by omega)
            replace HS1 := K_ (show uG l e (j + 1) = uG l e j ++ [x.f0] by rw [HS1.out, if_pos ⟨by omega, hp⟩])
            replace HT1 := K_ (show zaK l k e (j + 1) = zaK l k e j by rw [HT1.out, if_neg (by omega)])
            have HN6 := K_ (Kd.R_ne HZ2.out BK6.out (by decide))
            have HN7 := K_ (Kd.R_ne HZ2.out BK7.out (by decide))
            have HN10 := K_ (Kd.R_ne HZ2.out BK10.out (by decide))
            have HLN := K_ (show ((uG l e j).length + 1) * 16 ≤ 140737488355328 by have := zeC l e j; omega)
            obtain ⟨A1, c1, rfl⟩ := Kd.R_slice HZ1.out
            obtain ⟨A2, c2, rfl⟩ := Kd.R_slice HZ2.out
            clear hp
            go_wp2_with (((with_reducible refine jD (b := .append) (xs := #[.tmp 192, .tmp 198]) rfl ?_); at_builtin; (refine Kd.R_append k71 (w0 := w) w.heap.size rfl (.tmp 192) (.tmp 198) 66 71 (.agg #[(.int .i32 0), (.bool false), (.int .i64 0)]) 16 rfl Tryz.underlying66 zfP rfl (by decide) (by omega) (.slice A2 (uG l e j).length c2) (uG l e j) x.f0 [.int .i32 x.f0.f0, .bool x.f0.f1, .int .i64 x.f0.f2] (fun q => some q ≠ (Value.slice A1 (uF l k j).length c1).ownBlock) (fun _ => False) rfl (by first | (go_simp; done) | (go_simp; rfl)) (zdt _ _ _ x.f0) (fun _ hk => hk.elim) ?aF ?aO ?aB ?aS ?aL ?_; (case aF => exact fun q hq he => absurd hq (Nat.not_le.2 (Kd.R_lt (RB HZ1.out) q he.symm))); (case aO => exact RB HZ2.out); (case aB => exact BL HB); (case aS => exact zJ (BL HB)); (case aL => exact HLN.out); intro v1 w5 ho2 hb2 hg2 hat2; rw [← HS1.out] at ho2; have HO3 := K_ ho2; replace HZ1 := K_ (Kd.R_mono (ok' := fun _ => True) (Kd.R_grown (Kd.R_tight rfl (RB HZ1.out)) hg2 (fun q hq => Kd.R_away HZ2.out (fun q2 hq2 he => hq2 (by rw [he]; exact hq)))) (fun _ _ => trivial)); have BK6a := K_ (yS (BK BK6) hg2 HN6.out); have BK7a := K_ (yS (BK BK7) hg2 HN7.out); have BK10a := K_ (yS (BK BK10) hg2 HN10.out); replace HB := K_ hb2; clear ho2 hb2 hg2 hat2)))
            go_roundw
            case rel => exact ⟨j + 1, by omega, by go_num, by rw [HT1.out], by rw [HP1.out]; exact RB HZ1.out, RB HO3.out, fun h => absurd h (by omega), BK BK10a, BK BK6a, BK BK7a, BL HB⟩
            case measure => simp [intOf]; omega
           have hnt : ¬ (k ≤ j ∧ j < e) := fun h => by
            have := (zhD (x := x) (by rw [HX.out]; exact zho l j (by rw [HBEG.out]; exact h.1) (by rw [← HEN.out]; exact h.2) hlt)).1
            rw [hp] at this; cases this
           replace HP1 := K_ (show uF l k (j + 1) = uF l k j by rw [HP1.out, if_neg (by rw [hp]; simp)])
           replace HS1 := K_ (show uG l e (j + 1) = uG l e j by rw [HS1.out, if_neg (by rw [hp]; simp)])
           replace HT1 := K_ (show zaK l k e (j + 1) = zaK l k e j by rw [HT1.out, if_neg hnt])
           rw [hp] at h3
           clear hp hnt
           go_wp2
           go_roundw
           case rel => exact ⟨j + 1, by omega, by go_num, by rw [HT1.out], by rw [HP1.out]; exact RB HZ1.out, by rw [HS1.out]; exact RB HZ2.out, fun h => HNIL.out (by omega), BK BK10, BK BK6, BK BK7, BL HB⟩
           case measure => simp [intOf]; omega
          obtain rfl : j = l.length := by omega
          have dlt : decide (((l.length : Nat) : Int) < (l.length : Int)) = false := decide_eq_false (by omega)
          go_upto_region 45 with (fail)
          obtain ⟨pr, hpr⟩ : ∃ pr, pr = uF l k l.length := ⟨_, rfl⟩
          obtain ⟨sf, hsf⟩ : ∃ sf, sf = uG l e l.length := ⟨_, rfl⟩
          obtain ⟨tx, htx⟩ : ∃ tx, tx = zaK l k e l.length := ⟨_, rfl⟩
          have hpl := zeF l k l.length
          have hsl := zeC l e l.length
          have htl := ziB l k e l.length
          rw [← hpr] at HZ1 hpl
          rw [← hsf] at HZ2 hsl
          rw [← htx] at htl ⊢
          have HPR := K_ hpr
          have HSF := K_ hsf
          have HTX := K_ htx
          have HPL := K_ (show pr.length ≤ 100000 by omega)
          have HSL := K_ (show sf.length ≤ 100000 by omega)
          have HTL := K_ (show tx.size ≤ 1048576 by omega)
          obtain ⟨A1, c1, rfl⟩ := Kd.R_slice HZ1.out
          obtain ⟨A2, c2, rfl⟩ := Kd.R_slice HZ2.out
          clear hpr hsf htx hpl hsl htl dlt hj hlt
          go_upto_region 46 with (first
           | (go_at_call 89; refine (zfK A1 c1 pr _ (Kd.R_reads' (RB HZ1.out)).2.2 (Kd.R_reads' HZ1.out).2.1 HPL.out).mono ?_; rintro e9 w' ⟨v1, xs, E1, a1, rfl, ho1, hb, hpost⟩; have HO1 := K_ (Kd.R_lower ho1 (zJ (BL HB))); have HPO := K_ hpost; replace HZ2 := K_ (Kd.R_below (RB HZ2.out) hb); replace HB := zG HB hb; replace BK6 := zD BK6 hb; replace BK7 := zD BK7 hb; replace BK10 := zD BK10 hb; clear hb ho1 hpost)
           | ((with_reducible refine zH (N := 19) rfl ?_); refine be_ 19 Z51 51 ?_; intro g19 hg w10 hbox hb; have BK19 := K_ hbox; have GE19 := ge_ hg HB; have N6L := nb_ hg BK6; have N7L := nb_ hg BK7; have N10L := nb_ hg BK10; replace HO1 := K_ (Kd.R_below (RB HO1.out) hb); replace HZ2 := K_ (Kd.R_below (RB HZ2.out) hb); replace HB := zG HB hb; replace BK6 := zD BK6 hb; replace BK7 := zD BK7 hb; replace BK10 := zD BK10 hb; clear hb hbox hg)
           | ((with_reducible refine zW (p := 19) rfl ?_); refine so_ (g := g19) (cs := Z51) #[.int .i64 E1, .int .i64 a1] ⟨BK BK19⟩ ?_ rfl rfl rfl rfl rfl uT rfl rfl; intro w9 hbk hfar hbel; replace HO1 := K_ (vY (RB HO1.out) (BK BK19) (by decide) hfar); replace HZ2 := K_ (vY (RB HZ2.out) (BK BK19) (by decide) hfar); replace BK6 := K_ (hfar g6 _ N6L.out (BK BK6)); replace BK7 := K_ (hfar g7 _ N7L.out (BK BK7)); replace BK10 := K_ (hfar g10 _ N10L.out (BK BK10)); replace BK19 := K_ hbk; replace HB := K_ (hbel _ _ GE19.out (BL HB)); clear hbk hfar hbel))
          obtain ⟨⟨q0, q1⟩, q2, q3⟩ := ce2 BK19
          rcases HPO.out with ⟨hE, ha, hok, hxs⟩ | ⟨hE, hno⟩
          ·obtain rfl := hE
           obtain rfl := ha
           have HOK1 := K_ hok
           have HXS := K_ hxs
           clear hok hxs
           go_upto_region 49 with (first
            | (go_at_call 90; refine (zio tx HTL.out _).mono ?_; rintro e9 w' ⟨PN, E2, rfl, hb, hpost⟩; have HNU := K_ hpost; replace HO1 := K_ (Kd.R_below (RB HO1.out) hb); replace HZ2 := K_ (Kd.R_below (RB HZ2.out) hb); replace HB := zG HB hb; replace BK6 := zD BK6 hb; replace BK7 := zD BK7 hb; replace BK10 := zD BK10 hb; replace BK19 := zD BK19 hb; clear hb hpost)
            | ((with_reducible refine zH (N := 20) rfl ?_); refine be_ 20 Z26 26 ?_; intro g20 hg w10 hbox hb; have BK20 := K_ hbox; have GE20 := ge_ hg HB; have N6M := nb_ hg BK6; have N7M := nb_ hg BK7; have N10M := nb_ hg BK10; have N19M := nb_ hg BK19; replace HO1 := K_ (Kd.R_below (RB HO1.out) hb); replace HZ2 := K_ (Kd.R_below (RB HZ2.out) hb); replace HB := zG HB hb; replace BK6 := zD BK6 hb; replace BK7 := zD BK7 hb; replace BK10 := zD BK10 hb; replace BK19 := zD BK19 hb; clear hb hbox hg)
            | ((with_reducible refine zW (p := 20) rfl ?_); refine so_ (g := g20) (cs := Z26) PN.cs ⟨BK BK20⟩ ?_ rfl rfl rfl rfl rfl jX rfl rfl; intro w9 hbk hfar hbel; replace HO1 := K_ (vY (RB HO1.out) (BK BK20) (by decide) hfar); replace HZ2 := K_ (vY (RB HZ2.out) (BK BK20) (by decide) hfar); replace BK6 := K_ (hfar g6 _ N6M.out (BK BK6)); replace BK7 := K_ (hfar g7 _ N7M.out (BK BK7)); replace BK10 := K_ (hfar g10 _ N10M.out (BK BK10)); replace BK19 := K_ (hfar g19 _ N19M.out (BK BK19)); replace BK20 := K_ hbk; replace HB := K_ (hbel _ _ GE20.out (BL HB)); clear hbk hfar hbel))
           rcases HNU.out with ⟨hE, hnum⟩ | ⟨hE, hno⟩
           ·obtain rfl := hE
            have HNUM := K_ hnum
            clear hnum q0 q1 q2 q3
            go_upto_region 52 with (first
             | (go_at_call 89; refine (zfK A2 c2 sf _ (Kd.R_reads' (RB HZ2.out)).2.2 (Kd.R_reads' HZ2.out).2.1 HSL.out).mono ?_; rintro e9 w' ⟨v2, ys, E3, a3, rfl, ho2, hb, hpost⟩; have HO2 := K_ (Kd.R_lower ho2 (zJ (BL HB))); have HPO2 := K_ hpost; replace HO1 := K_ (Kd.R_below (RB HO1.out) hb); replace HB := zG HB hb; replace BK6 := zD BK6 hb; replace BK7 := zD BK7 hb; replace BK10 := zD BK10 hb; replace BK19 := zD BK19 hb; replace BK20 := zD BK20 hb; clear hb ho2 hpost)
             | ((with_reducible refine zW (p := 19) rfl ?_); refine so_ (g := g19) (cs := Z51) #[.int .i64 E3, .int .i64 a3] ⟨BK BK19⟩ ?_ rfl rfl rfl rfl rfl uT rfl rfl; intro w9 hbk hfar hbel; replace HO1 := K_ (vY (RB HO1.out) (BK BK19) (by decide) hfar); replace HO2 := K_ (vY (RB HO2.out) (BK BK19) (by decide) hfar); replace BK6 := K_ (hfar g6 _ N6L.out (BK BK6)); replace BK7 := K_ (hfar g7 _ N7L.out (BK BK7)); replace BK10 := K_ (hfar g10 _ N10L.out (BK BK10)); replace BK20 := K_ (hfar g20 _ (Ne.symm N19M.out) (BK BK20)); replace BK19 := K_ hbk; replace HB := K_ (hbel _ _ GE19.out (BL HB)); clear hbk hfar hbel))
            obtain ⟨⟨q0, q1⟩, q2, q3⟩ := ce2 BK19
            rcases HPO2.out with ⟨hE, ha, hok, hxs⟩ | ⟨hE, hno⟩
            ·obtain rfl := hE
             obtain rfl := ha
             have HOK2 := K_ hok
             have HYS := K_ hxs
             clear hok hxs
             have HALL := K_ (show xU l PN from ⟨by rw [HBEG.out]; exact HKL.out, by rw [HBEG.out, ← HPR.out]; exact HOK1.out, by rw [HBEG.out, ← HEN.out, ← HTX.out]; exact HNUM.out, by rw [← HEN.out, ← HSF.out]; exact HOK2.out⟩)
             obtain ⟨B1, d1, rfl⟩ := Kd.R_slice HO1.out
             obtain ⟨B2, d2, rfl⟩ := Kd.R_slice HO2.out
             go_upto_region 54 with (fail)
             clear q0 q1 q2 q3
             refine yL (n := 13) (S := fun w' => w'.heap[g20]? = some (.cells PN.cs 26 (0, 0))) (ds := []) #[false, false, false, false, false, false, false, false, false, false, false, false, false] (by kernel_rfl) rfl rfl (BK BK20) (fun _ => ?_)
             refine jM (fun W => W.heap[g20]? = some (.cells PN.cs 26 (0, 0)) ∧ Kd.R k80 80 W w.heap.size (fun _ => True) (.slice B1 xs.length d1) xs ∧ Kd.R k80 80 W w.heap.size (fun _ => True) (.slice B2 ys.length d2) ys ∧ W.heap[g6]? = some (.cells Z76 76 (0, 0)) ∧ W.heap[g7]? = some (.cells Z51 51 (0, 0)) ∧ W.heap[g10]? = some (.cells (uS (.slice none 0 0) (.slice none 0 0) jJ at_ pad 0) 76 (0, 0)) ∧ Below w.heap.size w W) ⟨BK BK20, RB HO1.out, RB HO2.out, BK BK6, BK BK7, BK BK10, BL HB⟩ ?_
             clear HO1 HO2 BK6 BK7 BK10 HB
             rintro W ⟨hHeld, ho1, ho2, hb6, hb7, hb10, hbw⟩
             have HO1 := K_ ho1
             have HO2 := K_ ho2
             have BK6 := K_ hb6
             have BK7 := K_ hb7
             have BK10 := K_ hb10
             have HB := K_ hbw
             clear ho1 ho2 hb6 hb7 hb10 hbw
             refine pu_ 0 (some 236) (bb 13 1) (by kernel_rfl) ?_
             refine pu_ 1 (some 237) (bb 13 3) (by kernel_rfl) ?_
             refine pu_ 3 (some 239) (bb 13 11) (by kernel_rfl) ?_
             refine pu_ 4 (some 240) (bb 13 27) (by kernel_rfl) ?_
             refine pu_ 5 (some 241) (bb 13 59) (by kernel_rfl) ?_
             refine take_ (i := 2) (N := some 238) (bb 13 63) rfl rfl (by kernel_rfl) (fun _ _ _ h => h) (v := .agg PN.cs) (Or.inl ⟨by rfl, fun w' hs => vO _ ⟨hs⟩ rfl rfl Tryz.underlying26 rfl jX⟩) hHeld (by simp only [Act.put, List.setIfInBounds_toArray, List.set_cons_zero, List.set_cons_succ]; rfl) ?_
             refine zY (i := 6) (N := none) (bb 13 127) rfl rfl (by kernel_rfl) (by decide) (fun K hK => ?_)
             have hs : W.cell? ⟨g10, 0, none⟩ = some (.slice none 0 0) := (zA BK10.out 0).trans rfl
             have hf := zI BK10.out 0
             refine zak (w1 := W.setCell ⟨g10, 0, none⟩ (.slice B1 xs.length d1)) (by rfl) rfl (by go_simp; try rfl) ?_
             refine hK.out _ _ (zQ hHeld (Ne.symm N10M.out) _) (fun _ => ?_)
             clear hK K hs hf
             refine jM (fun W => W.heap[g20]? = some (.cells PN.cs 26 (0, 0)) ∧ Kd.R k80 80 W w.heap.size (fun _ => True) (.slice B1 xs.length d1) xs ∧ Kd.R k80 80 W w.heap.size (fun _ => True) (.slice B2 ys.length d2) ys ∧ W.heap[g6]? = some (.cells Z76 76 (0, 0)) ∧ W.heap[g7]? = some (.cells Z51 51 (0, 0)) ∧ W.heap[g10]? = some (.cells (uS (.slice B1 xs.length d1) (.slice none 0 0) jJ at_ pad 0) 76 (0, 0)) ∧ Below w.heap.size w W) ⟨zQ hHeld (Ne.symm N10M.out) _, Kd.R_set HO1.out BK10.out (by decide) _ _, Kd.R_set HO2.out BK10.out (by decide) _ _, zQ BK6.out N6.out _, zQ BK7.out N7.out _, qX BK10.out rfl, BL HB⟩ ?_
             clear HO1 HO2 BK6 BK7 BK10 HB
             rintro W ⟨hHeld, ho1, ho2, hb6, hb7, hb10, hbw⟩
             have HO1 := K_ ho1
             have HO2 := K_ ho2
             have BK6 := K_ hb6
             have BK7 := K_ hb7
             have BK10 := K_ hb10
             have HB := K_ hbw
             clear ho1 ho2 hb6 hb7 hb10 hbw
             refine pu_ 7 (some 242) (bb 13 255) (by kernel_rfl) ?_
             refine zY (i := 8) (N := none) (bb 13 511) rfl rfl (by kernel_rfl) (by decide) (fun K hK => ?_)
             have hs : W.cell? ⟨g10, 1, none⟩ = some (.slice none 0 0) := (zA BK10.out 1).trans rfl
             have hf := zI BK10.out 1
             refine zak (w1 := W.setCell ⟨g10, 1, none⟩ (.slice B2 ys.length d2)) (by rfl) rfl (by go_simp; try rfl) ?_
             refine hK.out _ _ (zQ hHeld (Ne.symm N10M.out) _) (fun _ => ?_)
             clear hK K hs hf
             refine jM (fun W => W.heap[g20]? = some (.cells PN.cs 26 (0, 0)) ∧ Kd.R k80 80 W w.heap.size (fun _ => True) (.slice B1 xs.length d1) xs ∧ Kd.R k80 80 W w.heap.size (fun _ => True) (.slice B2 ys.length d2) ys ∧ W.heap[g6]? = some (.cells Z76 76 (0, 0)) ∧ W.heap[g7]? = some (.cells Z51 51 (0, 0)) ∧ W.heap[g10]? = some (.cells (uS (.slice B1 xs.length d1) (.slice B2 ys.length d2) jJ at_ pad 0) 76 (0, 0)) ∧ Below w.heap.size w W) ⟨zQ hHeld (Ne.symm N10M.out) _, Kd.R_set HO1.out BK10.out (by decide) _ _, Kd.R_set HO2.out BK10.out (by decide) _ _, zQ BK6.out N6.out _, zQ BK7.out N7.out _, qX BK10.out rfl, BL HB⟩ ?_
             clear HO1 HO2 BK6 BK7 BK10 HB
             rintro W ⟨hHeld, ho1, ho2, hb6, hb7, hb10, hbw⟩
             have HO1 := K_ ho1
             have HO2 := K_ ho2
             have BK6 := K_ hb6
             have BK7 := K_ hb7
             have BK10 := K_ hb10
             have HB := K_ hbw
             clear ho1 ho2 hb6 hb7 hb10 hbw
             refine pu_ 9 (some 243) (bb 13 1023) (by kernel_rfl) ?_
             refine zY (i := 10) (N := none) (bb 13 2047) rfl rfl (by kernel_rfl) (by decide) (fun K hK => ?_)
             refine znZ (g := g10) (cs' := uS (.slice B1 xs.length d1) (.slice B2 ys.length d2) PN at_ pad 0) 2 PN.cs BK10 ?_ rfl rfl rfl rfl rfl jX (by show 22 ≤ 25; decide) rfl rfl
             intro w8 hbk hfar hbel
             refine hK.out _ _ (hfar g20 _ (Ne.symm N10M.out) hHeld) (fun _ => ?_)
             clear hK K
             refine jM (fun W => W.heap[g20]? = some (.cells PN.cs 26 (0, 0)) ∧ Kd.R k80 80 W w.heap.size (fun _ => True) (.slice B1 xs.length d1) xs ∧ Kd.R k80 80 W w.heap.size (fun _ => True) (.slice B2 ys.length d2) ys ∧ W.heap[g6]? = some (.cells Z76 76 (0, 0)) ∧ W.heap[g7]? = some (.cells Z51 51 (0, 0)) ∧ W.heap[g10]? = some (.cells (uS (.slice B1 xs.length d1) (.slice B2 ys.length d2) PN at_ pad 0) 76 (0, 0)) ∧ Below w.heap.size w W) ⟨hfar g20 _ (Ne.symm N10M.out) hHeld, vY HO1.out BK10.out (by decide) hfar, vY HO2.out BK10.out (by decide) hfar, hfar g6 _ N6.out BK6.out, hfar g7 _ N7.out BK7.out, hbk, hbel _ _ GE10.out HB.out⟩ ?_
             clear HO1 HO2 BK6 BK7 BK10 HB
             rintro W ⟨hHeld, ho1, ho2, hb6, hb7, hb10, hbw⟩
             have HO1 := K_ ho1
             have HO2 := K_ ho2
             have BK6 := K_ hb6
             have BK7 := K_ hb7
             have BK10 := K_ hb10
             have HB := K_ hbw
             clear ho1 ho2 hb6 hb7 hb10 hbw
             refine pu_ 11 (some 244) (bb 13 4095) (by kernel_rfl) ?_
             refine zY (i := 12) (N := none) (bb 13 8191) rfl rfl (by kernel_rfl) (by decide) (fun K hK => ?_)
             have hs : W.cell? ⟨g10, 24, none⟩ = some (.int .i64 0) := (zA BK10.out 24).trans rfl
             have hf := zI BK10.out 24
             refine zak (w1 := W.setCell ⟨g10, 24, none⟩ (.int .i64 (tx.size : Int))) (by rfl) rfl (by go_simp; try rfl) ?_
             refine hK.out _ _ (zQ hHeld (Ne.symm N10M.out) _) (fun _ => ?_)
             clear hK K hs hf
             refine jM (fun W => W.heap[g20]? = some (.cells PN.cs 26 (0, 0)) ∧ Kd.R k80 80 W w.heap.size (fun _ => True) (.slice B1 xs.length d1) xs ∧ Kd.R k80 80 W w.heap.size (fun _ => True) (.slice B2 ys.length d2) ys ∧ W.heap[g6]? = some (.cells Z76 76 (0, 0)) ∧ W.heap[g7]? = some (.cells Z51 51 (0, 0)) ∧ W.heap[g10]? = some (.cells (uS (.slice B1 xs.length d1) (.slice B2 ys.length d2) PN at_ pad (tx.size : Int)) 76 (0, 0)) ∧ Below w.heap.size w W) ⟨zQ hHeld (Ne.symm N10M.out) _, Kd.R_set HO1.out BK10.out (by decide) _ _, Kd.R_set HO2.out BK10.out (by decide) _ _, zQ BK6.out N6.out _, zQ BK7.out N7.out _, qX BK10.out rfl, BL HB⟩ ?_
             clear HO1 HO2 BK6 BK7 BK10 HB
             rintro W ⟨hHeld, ho1, ho2, hb6, hb7, hb10, hbw⟩
             have HO1 := K_ ho1
             have HO2 := K_ ho2
             have BK6 := K_ hb6
             have BK7 := K_ hb7
             have BK10 := K_ hb10
             have HB := K_ hbw
             clear ho1 ho2 hb6 hb7 hb10 hbw
             refine yV (by kernel_rfl) ?_
             go_wp2_with (first
              | ((with_reducible refine zH (N := 245) rfl ?_); refine lo_ (g := g10) (cs := uS (.slice B1 xs.length d1) (.slice B2 ys.length d2) PN at_ pad (tx.size : Int)) _ ⟨BK BK10⟩ ?_ rfl rfl rfl Tryz.underlying76 rfl zbq)
              | ((with_reducible refine zW (p := 6) rfl ?_); refine so_ (g := g6) (cs := Z76) (uS (.slice B1 xs.length d1) (.slice B2 ys.length d2) PN at_ pad (tx.size : Int)) ⟨BK BK6⟩ ?_ rfl rfl rfl rfl rfl zbq rfl rfl; intro w9 hbk hfar hbel; replace HO1 := K_ (vY (RB HO1.out) (BK BK6) (by decide) hfar); replace HO2 := K_ (vY (RB HO2.out) (BK BK6) (by decide) hfar); replace BK7 := K_ (hfar g7 _ (Ne.symm NB.out) (BK BK7)); replace BK6 := K_ hbk; replace HB := K_ (hbel _ _ GE6.out (BL HB)); clear hbk hfar hbel)
              | ((with_reducible refine zW (p := 7) rfl ?_); refine so_ (g := g7) (cs := Z51) Z51 ⟨BK BK7⟩ ?_ rfl rfl rfl rfl rfl uT rfl rfl; intro w9 hbk hfar hbel; replace HO1 := K_ (vY (RB HO1.out) (BK BK7) (by decide) hfar); replace HO2 := K_ (vY (RB HO2.out) (BK BK7) (by decide) hfar); replace BK6 := K_ (hfar g6 _ NB.out (BK BK6)); replace BK7 := K_ hbk; replace HB := K_ (hbel _ _ GE7.out (BL HB)); clear hbk hfar hbel))
             refine bodyPost_ret (qT rfl _ _ g6 g7 76 51 (uS (.slice B1 xs.length d1) (.slice B2 ys.length d2) PN at_ pad (tx.size : Int)) Z51 (0, 0) (0, 0) _ _ rfl BK6.out Tryz.underlying76 rfl zbq rfl BK7.out Tryz.underlying51 rfl uT) rfl ?_
             exact ⟨_, _, xs, ys, PN, at_, pad, (tx.size : Int), 0, 0, rfl, HO1.out, HO2.out, BL HB, fun _ => ⟨HALL.out, by rw [HBEG.out, ← HPR.out]; exact HXS.out, by rw [← HEN.out, ← HSF.out]; exact HYS.out⟩, fun _ _ => rfl⟩
            have dE : (E3 != 0) = true := by simpa using hE
            have HEV := K_ hE
            have HE := K_ (show (∀ x ∈ l, x.f1 = false) → (∃ P, xU l P) → E3 = 0 by
             rintro _ ⟨P, h⟩; have := h.2.2.2; rw [← HEN.out, ← HSF.out, hno] at this; cases this)
            clear hE hno
            go_upto_region 53 with (fail)
            clear q0 q1 q2 q3
            refine yL (n := 4) (S := fun w' => w'.heap[g19]? = some (.cells #[.int .i64 E3, .int .i64 a3] 51 (0, 0))) (ds := []) #[false, false, false, false] (by kernel_rfl) rfl rfl (BK BK19) (fun hHeld => ?_)
            refine jM (fun W => W.heap[g19]? = some (.cells #[.int .i64 E3, .int .i64 a3] 51 (0, 0)) ∧ W.heap[g6]? = some (.cells Z76 76 (0, 0)) ∧ W.heap[g7]? = some (.cells Z51 51 (0, 0)) ∧ Below w.heap.size w W) ⟨BK BK19, BK BK6, BK BK7, BL HB⟩ ?_
            clear hHeld
            rintro W ⟨hHeld, hb6, hb7, hbw⟩
            replace BK6 := K_ hb6
            replace BK7 := K_ hb7
            replace HB := K_ hbw
            clear hb6 hb7 hbw
            refine pu_ 0 (some 234) (bb 4 1) (by kernel_rfl) ?_
            refine take_ (i := 1) (N := some 235) (bb 4 3) rfl rfl (by kernel_rfl) (fun _ _ _ h => h) (v := .agg #[.int .i64 E3, .int .i64 a3]) (Or.inl ⟨by rfl, fun w' hs => vO _ ⟨hs⟩ rfl rfl Tryz.underlying51 rfl uT⟩) hHeld (by simp only [Act.put, List.setIfInBounds_toArray, List.set_cons_zero, List.set_cons_succ]; rfl) ?_
            refine zY (i := 2) (N := none) (bb 4 7) rfl rfl (by kernel_rfl) (by decide) (fun K hK => ?_)
            refine vF (g := g6) (cs := Z76) Z76 BK6 ?_ rfl rfl rfl rfl rfl zbq rfl rfl
            intro w8 hbk hfar hbel
            have hHeld2 := hfar g19 _ (Ne.symm N6L.out) hHeld
            replace BK7 := K_ (hfar g7 _ (Ne.symm NB.out) BK7.out)
            replace BK6 := K_ hbk
            replace HB := K_ (hbel _ _ GE6.out HB.out)
            refine hK.out _ _ hHeld2 (fun _ => ?_)
            clear hK K hbk hfar hbel
            refine zY (i := 3) (N := none) (bb 4 15) rfl rfl (by kernel_rfl) (by decide) (fun K hK => ?_)
            refine vF (g := g7) (cs := Z51) #[.int .i64 E3, .int .i64 a3] BK7 ?_ rfl rfl rfl rfl rfl uT rfl rfl
            intro w9 hbk hfar hbel
            have hHeld3 := hfar g19 _ (Ne.symm N7L.out) hHeld2
            replace BK6 := K_ (hfar g6 _ NB.out BK6.out)
            replace BK7 := K_ hbk
            replace HB := K_ (hbel _ _ GE7.out HB.out)
            refine hK.out _ _ hHeld3 (fun _ => ?_)
            clear hK K hbk hfar hbel
            refine yV (by kernel_rfl) ?_
            go_wp2_with (fail)
            (
             refine bodyPost_ret (qT rfl _ _ g6 g7 76 51 Z76 #[.int .i64 E3, .int .i64 a3] (0, 0) (0, 0) _ _ rfl BK6.out Tryz.underlying76 rfl zbq rfl BK7.out Tryz.underlying51 rfl uT) rfl ?_
             exact ⟨_, _, [], [], jJ, 0, 0, 0, E3, a3, rfl, Kd.R_nil _ _ _ _ _, Kd.R_nil _ _ _ _ _, BL HB, fun h => absurd h HEV.out, HE.out⟩)
           have dE : (E2 != 0) = true := by simpa using hE
           have HEV := K_ hE
           have HE := K_ (show (∀ x ∈ l, x.f1 = false) → (∃ P, xU l P) → E2 = 0 by
            rintro _ ⟨P, h⟩; have := h.2.2.1; rw [HBEG.out, ← HEN.out, ← HTX.out, hno] at this; cases this)
           clear hE hno
           have hkl := HKL.out
           obtain ⟨x9, hx9⟩ : ∃ x9, x9 = l[k] := ⟨_, rfl⟩
           obtain ⟨ad2, ea, h0, h1, h2, h3⟩ := zas (Kd.C_below HR.out HB.out) ((k : Nat) : Int) (by omega) (by omega)
           rw [zcl hkl, ← hx9] at h0 h1 h2 h3
           simp only [Int.toNat_natCast] at h0 h1 h2 h3
           obtain rfl := Option.some.inj ea
           clear hx9 ea
           have hbw : (ad.add (k * 4)).block < w.heap.size := by
            obtain ⟨ad3, ea3, h03, _⟩ := zas HR.out ((k : Nat) : Int) (by omega) (by omega)
            obtain rfl := Option.some.inj ea3
            simp only [Int.toNat_natCast] at h03
            exact World.block_lt_of_cell? _ _ h03
           have hi0 : (0 : Int) ≤ (k : Int) := by omega
           have hi1 : (k : Int) < (l.length : Int) := by omega
           clear q0 q1 q2 q3
           go_upto_region 50 with (fail)
           have hb6 : (ad.add (k * 4)).block ≠ g6 := Nat.ne_of_lt (Nat.lt_of_lt_of_le hbw GE6.out)
           have hb7 : (ad.add (k * 4)).block ≠ g7 := Nat.ne_of_lt (Nat.lt_of_lt_of_le hbw GE7.out)
           go_upto_region 50 with (fail)
           refine yL (n := 11) (S := fun w' => w'.cell? ⟨(ad.add (k * 4)).block, (ad.add (k * 4)).off + 2, none⟩ = some (.int .i64 x9.f0.f2)) (ds := []) #[false, false, false, false, false, false, false, false, false, false, false] (by kernel_rfl) rfl rfl h2 (fun hHeld => ?_)
           obtain ⟨W, hW⟩ : ∃ W, W = World.drew w9 := ⟨_, rfl⟩
           rw [← hW] at hHeld ⊢
           replace BK6 := K_ (show W.heap[g6]? = some (.cells Z76 76 (0, 0)) by rw [hW]; exact BK BK6)
           replace BK7 := K_ (show W.heap[g7]? = some (.cells Z51 51 (0, 0)) by rw [hW]; exact BK BK7)
           replace HB := K_ (show Below w.heap.size w W by rw [hW]; exact BL HB)
           clear hW h0 h1 h2 h3
           refine pu_ 0 (some 217) (bb 11 1) (by kernel_rfl) ?_
           refine pu_ 1 (some 218) (bb 11 3) (by kernel_rfl) ?_
           refine pu_ 2 (some 219) (bb 11 7) (by kernel_rfl) ?_
           refine pu_ 3 (some 220) (bb 11 15) (by kernel_rfl) ?_
           refine pu_ 4 (some 221) (bb 11 31) (by kernel_rfl) ?_
           refine pu_ 5 (some 222) (bb 11 63) (by kernel_rfl) ?_
           refine pu_ 6 (some 223) (bb 11 127) (by kernel_rfl) ?_
           refine tk_ 7 (some 224) (bb 11 255) (by kernel_rfl) hHeld ?_
           refine pu_ 8 (some 225) (bb 11 511) (by kernel_rfl) ?_
           refine zY (i := 9) (N := none) (bb 11 1023) rfl rfl (by kernel_rfl) (by decide) (fun K hK => ?_)
           refine vF (g := g6) (cs := Z76) Z76 BK6 ?_ rfl rfl rfl rfl rfl zbq rfl rfl
           intro w8 hbk hfar hbel
           have hHeld2 := zam hfar (p := ⟨(ad.add (k * 4)).block, (ad.add (k * 4)).off + 2, none⟩) hb6 hHeld
           replace BK7 := K_ (hfar g7 _ (Ne.symm NB.out) BK7.out)
           replace BK6 := K_ hbk
           replace HB := K_ (hbel _ _ GE6.out HB.out)
           refine hK.out _ _ hHeld2 (fun _ => ?_)
           clear hK K hbk hfar hbel
           refine zY (i := 10) (N := none) (bb 11 2047) rfl rfl (by kernel_rfl) (by decide) (fun K hK => ?_)
           refine vF (g := g7) (cs := Z51) #[.int .i64 E2, .int .i64 x9.f0.f2] BK7 ?_ rfl rfl rfl rfl rfl uT rfl rfl
           intro w9 hbk hfar hbel
           have hHeld3 := zam hfar (p := ⟨(ad.add (k * 4)).block, (ad.add (k * 4)).off + 2, none⟩) hb7 hHeld2
           replace BK6 := K_ (hfar g6 _ NB.out BK6.out)
           replace BK7 := K_ hbk
           replace HB := K_ (hbel _ _ GE7.out HB.out)
           refine hK.out _ _ hHeld3 (fun _ => ?_)
           clear hK K hbk hfar hbel
           refine yV (by kernel_rfl) ?_
           go_wp2_with (fail)
           (
            refine bodyPost_ret (qT rfl _ _ g6 g7 76 51 Z76 #[.int .i64 E2, .int .i64 x9.f0.f2] (0, 0) (0, 0) _ _ rfl BK6.out Tryz.underlying76 rfl zbq rfl BK7.out Tryz.underlying51 rfl uT) rfl ?_
            exact ⟨_, _, [], [], jJ, 0, 0, 0, E2, x9.f0.f2, rfl, Kd.R_nil _ _ _ _ _, Kd.R_nil _ _ _ _ _, BL HB, fun h => absurd h HEV.out, HE.out⟩)
          have dE : (E1 != 0) = true := by simpa using hE
          have HEV := K_ hE
          have HE := K_ (show (∀ x ∈ l, x.f1 = false) → (∃ P, xU l P) → E1 = 0 by
           rintro _ ⟨P, h⟩; have := h.2.1; rw [HBEG.out, ← HPR.out, hno] at this; cases this)
          clear hE hno
          go_upto_region 47 with (fail)
          clear q0 q1 q2 q3
          refine yL (n := 4) (S := fun w' => w'.heap[g19]? = some (.cells #[.int .i64 E1, .int .i64 a1] 51 (0, 0))) (ds := []) #[false, false, false, false] (by kernel_rfl) rfl rfl (BK BK19) (fun hHeld => ?_)
          refine jM (fun W => W.heap[g19]? = some (.cells #[.int .i64 E1, .int .i64 a1] 51 (0, 0)) ∧ W.heap[g6]? = some (.cells Z76 76 (0, 0)) ∧ W.heap[g7]? = some (.cells Z51 51 (0, 0)) ∧ Below w.heap.size w W) ⟨BK BK19, BK BK6, BK BK7, BL HB⟩ ?_
          clear hHeld
          rintro W ⟨hHeld, hb6, hb7, hbw⟩
          replace BK6 := K_ hb6
          replace BK7 := K_ hb7
          replace HB := K_ hbw
          clear hb6 hb7 hbw
          refine pu_ 0 (some 208) (bb 4 1) (by kernel_rfl) ?_
          refine take_ (i := 1) (N := some 209) (bb 4 3) rfl rfl (by kernel_rfl) (fun _ _ _ h => h) (v := .agg #[.int .i64 E1, .int .i64 a1]) (Or.inl ⟨by rfl, fun w' hs => vO _ ⟨hs⟩ rfl rfl Tryz.underlying51 rfl uT⟩) hHeld (by simp only [Act.put, List.setIfInBounds_toArray, List.set_cons_zero, List.set_cons_succ]; rfl) ?_
          refine zY (i := 2) (N := none) (bb 4 7) rfl rfl (by kernel_rfl) (by decide) (fun K hK => ?_)
          refine vF (g := g6) (cs := Z76) Z76 BK6 ?_ rfl rfl rfl rfl rfl zbq rfl rfl
          intro w8 hbk hfar hbel
          have hHeld2 := hfar g19 _ (Ne.symm N6L.out) hHeld
          replace BK7 := K_ (hfar g7 _ (Ne.symm NB.out) BK7.out)
          replace BK6 := K_ hbk
          replace HB := K_ (hbel _ _ GE6.out HB.out)
          refine hK.out _ _ hHeld2 (fun _ => ?_)
          clear hK K hbk hfar hbel
          refine zY (i := 3) (N := none) (bb 4 15) rfl rfl (by kernel_rfl) (by decide) (fun K hK => ?_)
          refine vF (g := g7) (cs := Z51) #[.int .i64 E1, .int .i64 a1] BK7 ?_ rfl rfl rfl rfl rfl uT rfl rfl
          intro w9 hbk hfar hbel
          have hHeld3 := hfar g19 _ (Ne.symm N7L.out) hHeld2
          replace BK6 := K_ (hfar g6 _ NB.out BK6.out)
          replace BK7 := K_ hbk
          replace HB := K_ (hbel _ _ GE7.out HB.out)
          refine hK.out _ _ hHeld3 (fun _ => ?_)
          clear hK K hbk hfar hbel
          refine yV (by kernel_rfl) ?_
          go_wp2_with (fail)
          (
           refine bodyPost_ret (qT rfl _ _ g6 g7 76 51 Z76 #[.int .i64 E1, .int .i64 a1] (0, 0) (0, 0) _ _ rfl BK6.out Tryz.underlying76 rfl zbq rfl BK7.out Tryz.underlying51 rfl uT) rfl ?_
           exact ⟨_, _, [], [], jJ, 0, 0, 0, E1, a1, rfl, Kd.R_nil _ _ _ _ _, Kd.R_nil _ _ _ _ _, BL HB, fun h => absurd h HEV.out, HE.out⟩)
     have hjl := zeh hb
     have HR2 := K_ (show qA vH l (j + 1) = qA vH l k by rw [← ziF hb]; exact HRun.out)
     clear hb
     go_wp2
     go_roundw
     case rel => exact ⟨j + 1, by omega, by omega, by go_num, HR2.out, BK BK6, BK BK7, BL HB⟩
     case measure => simp [intOf]; omega
  obtain rfl : k = l.length := by omega
  have dlt : decide ((l.length : Int) < (l.length : Int)) = false := decide_eq_false (by omega)
  have HE := K_ (show (∀ x ∈ l, x.f1 = false) → (∃ P, xU l P) → (4 : Int) = 0 by
   rintro _ ⟨P, h⟩; have := h.1; rw [← HRun.out, zhq (Nat.le_refl _)] at this; omega)
  go_upto_if 40 with (fail)
  (
   go_wp2_with (first
    | ((with_reducible refine zW (p := 6) rfl ?_); refine so_ (g := g6) (cs := Z76) Z76 ⟨BK BK6⟩ ?_ rfl rfl rfl rfl rfl zbq rfl rfl; intro w9 hbk hfar hbel; replace BK7 := K_ (hfar g7 _ (Ne.symm (Aside0.out NB)) (BK BK7)); replace BK6 := K_ hbk; replace HB := K_ (hbel _ _ GE6.out (BL HB)); clear hbk hfar hbel)
    | ((with_reducible refine zW (p := 7) rfl ?_); refine so_ (g := g7) (cs := Z51) #[.int .i64 4, .int .i64 b0] ⟨BK BK7⟩ ?_ rfl rfl rfl rfl rfl uT rfl rfl; intro w9 hbk hfar hbel; replace BK6 := K_ (hfar g6 _ (Aside0.out NB) (BK BK6)); replace BK7 := K_ hbk; replace HB := K_ (hbel _ _ GE7.out (BL HB)); clear hbk hfar hbel))
   refine bodyPost_ret (qT rfl _ _ g6 g7 76 51 Z76 #[.int .i64 4, .int .i64 b0] (0, 0) (0, 0) _ _ rfl BK6.out Tryz.underlying76 rfl zbq rfl BK7.out Tryz.underlying51 rfl uT) rfl ?_
   exact ⟨_, _, [], [], jJ, 0, 0, 0, 4, b0, rfl, Kd.R_nil _ _ _ _ _, Kd.R_nil _ _ _ _ _, BL HB, fun h => absurd h (by decide), HE.out⟩)
section
section
variable {P : Program} {ops : Array Oper} {rest : List Oper} {o : Oper} {a : Act} {Q : Exit → Act → World → Prop}
theorem zoA {W : World} (N : Tmp) (n : Nat) (cs : Array Value) (t : TypeId) (h : ∀ g, g = W.heap.size → ∀ w1, w1.heap[g]? = some (.cells cs t (0, 0)) → Below W.heap.size W w1 → wpList P ops Q rest (a.put o.dst (.slice (some ⟨g, 0, none⟩) n n)) w1)
  (hd : o.dst = some N := by with_reducible rfl) (hgd : o.guard = none := by rfl) (hrun : (execOp a.eval o).run P W = .ok (.value (.slice (some ⟨W.heap.size, 0, none⟩) n n)) (W.alloc (.cells cs t (0, 0))) := by (first | (go_simp; done) | (go_simp; rfl))) : wpList P ops Q (o :: rest) a W :=
 Kd.event_run hgd hrun (h _ rfl _ (zcy W _) (uL (Below.refl _ _) _))
end
theorem zoa {l : List S80} {k : Nat} (h : k < l.length) : uZ l (k : Int) = l[k] := by unfold uZ; rw [Int.toNat_natCast, List.getD_eq_getElem?_getD, List.getElem?_eq_getElem h]; rfl
theorem zkK {a : Int} {l : List S80} {j : Nat} (h : j < l.length) : zaP a (l.take (j + 1)) = zaP a (l.take j) + if l[j].f0 = a then 1 else 0 := by
 unfold zaP
 rw [List.take_succ_eq_append_getElem h, List.countP_append, List.countP_cons, List.countP_nil, Nat.zero_add]
 congr 1
 by_cases e : l[j].f0 = a
 ·rw [if_pos e, if_pos (by simpa using e)]
 rw [if_neg e, if_neg (by simpa using e)]
theorem zjd (a : Int) (l : List S80) : zaP a l ≤ l.length := List.countP_le_length
def zco (a : Int) (L : List PL) (k : Nat) : Nat := ((L.take k).map fun x => zaP a x.l).sum
theorem zgu {a : Int} {L : List PL} {k : Nat} (h : k < L.length) : zco a L (k + 1) = zco a L k + zaP a (yP L k).l := by
 unfold zco; rw [zdX h]; simp
theorem zje {a : Int} {L : List PL} (hl : ∀ k, k < L.length → (yP L k).l.length ≤ 1000) : ∀ k, k ≤ L.length → zco a L k ≤ 1000 * k
 | 0, _ => by simp [zco]
 | k + 1, h => by have := zje (a := a) hl k (by omega); have := hl k (by omega); have := zjd a (yP L k).l; rw [zgu (by omega)]; omega
set_option maxHeartbeats 4000000 in
set_option maxRecDepth 100000 in
theorem zjE (q : Pat) (kd : Int) (w : World) (h0 : Kd.C k80 w q.A0 q.l0.length q.l0) (h1 : Kd.C k80 w q.A1 q.l1.length q.l1) (h3 : Kd.C k80 w q.A3 q.l3.length q.l3) (h4 : Kd.C k80 w q.A4 q.l4.length q.l4)
  (s0 : q.l0.length ≤ 1000) (s1 : q.l1.length ≤ 1000) (s3 : q.l3.length ≤ 1000) (s4 : q.l4.length ≤ 1000) :
  Calls Tryz.prog 53 #[.agg q.cs, .int .i64 kd] w fun e w' => e = .returned (.int .i64 ((sgn kd q.l0 q.l1 q.l3 q.l4 : Nat) : Int)) ∧ Below w.heap.size w w' := by
 have HB := K_ (Below.refl w.heap.size w)
 obtain ⟨L, hL⟩ : ∃ L : List PL, L = [⟨q.A0, q.c0, q.l0⟩, ⟨q.A1, q.c1, q.l1⟩, ⟨q.A3, q.c3, q.l3⟩, ⟨q.A4, q.c4, q.l4⟩] := ⟨_, rfl⟩
 have hk : ∀ k, k < 4 → (k = 0 ∧ yP L k = ⟨q.A0, q.c0, q.l0⟩) ∨ (k = 1 ∧ yP L k = ⟨q.A1, q.c1, q.l1⟩) ∨ (k = 2 ∧ yP L k = ⟨q.A3, q.c3, q.l3⟩) ∨ (k = 3 ∧ yP L k = ⟨q.A4, q.c4, q.l4⟩) := by
  intro k hk
  rw [hL]
  match k, hk with
  | 0, _ => exact .inl ⟨rfl, rfl⟩
  | 1, _ => exact .inr (.inl ⟨rfl, rfl⟩)
  | 2, _ => exact .inr (.inr (.inl ⟨rfl, rfl⟩))
  | 3, _ => exact .inr (.inr (.inr ⟨rfl, rfl⟩))
 have hlen : ∀ k, k < L.length → (yP L k).l.length ≤ 1000 := by
  intro k h
  rcases hk k (by rw [hL] at h; exact h) with ⟨_, e⟩ | ⟨_, e⟩ | ⟨_, e⟩ | ⟨_, e⟩ <;> rw [e] <;> assumption
 have HR := K_ (show ∀ k, k < 4 → Kd.C k80 w (yP L k).A (yP L k).l.length (yP L k).l ∧ (yP L k).l.length ≤ 1000 ∧ zco kd L (k + 1) = zco kd L k + zaP kd (yP L k).l ∧ zco kd L k ≤ 4000 from fun k h => by
  have hl : L.length = 4 := by rw [hL]; rfl
  refine ⟨?_, hlen k (by omega), zgu (by omega), by have := zje (a := kd) hlen k (by omega); omega⟩
  rcases hk k h with ⟨_, e⟩ | ⟨_, e⟩ | ⟨_, e⟩ | ⟨_, e⟩ <;> rw [e] <;> assumption)
 have HT := K_ (show zco kd L 4 = sgn kd q.l0 q.l1 q.l3 q.l4 by rw [hL]; unfold zco sgn; simp; omega)
 have HK := K_ hk
 clear hL hk hlen h0 h1 h3 h4
 go_enter Tryz.func53, Tryz.ntmps53
 go_upto_region 2 with ((with_reducible refine zH (N := 2) rfl ?_); refine bx_ 2 q.cs 26 ?_ rfl rfl rfl rfl rfl; intro g2 hg w2 hbox hb; have BK2 := K_ hbox; replace HB := zG HB hb; clear hb hbox hg)
 have e0 : w2.cell? ⟨g2, 0, none⟩ = some (.slice q.A0 q.l0.length q.c0) := (zA BK2.out 0).trans rfl
 have e1 : w2.cell? ⟨g2, 1, none⟩ = some (.slice q.A1 q.l1.length q.c1) := (zA BK2.out 1).trans rfl
 have e3 : w2.cell? ⟨g2, 3, none⟩ = some (.slice q.A3 q.l3.length q.c3) := (zA BK2.out 3).trans rfl
 have e4 : w2.cell? ⟨g2, 4, none⟩ = some (.slice q.A4 q.l4.length q.c4) := (zA BK2.out 4).trans rfl
 go_wp2_with ((with_reducible refine zH (N := 17) rfl ?_); refine zoA 17 4 #[.slice q.A0 q.l0.length q.c0, .slice q.A1 q.l1.length q.c1, .slice q.A3 q.l3.length q.c3, .slice q.A4 q.l4.length q.c4] 24 ?_; intro g17 hg w3 hbox hb; have BK17 := K_ hbox; replace HB := zG HB hb; clear hb hbox hg)
 clear e0 e1 e3 e4
 have HC := K_ (show ∀ k, k < 4 → w3.cell? ⟨g17, k, none⟩ = some (.slice (yP L k).A (yP L k).l.length (yP L k).c) from fun k h => by
  rcases HK.out k h with ⟨rfl, e⟩ | ⟨rfl, e⟩ | ⟨rfl, e⟩ | ⟨rfl, e⟩ <;> rw [e] <;> exact (zA BK17.out _).trans rfl)
 go_loop [5, 19] (fun n i => ∃ j : Nat, j ≤ 4 ∧ i = .int .i64 j ∧ n = .int .i64 (zco kd L j)) (fun _ i => 4 - (intOf i).toNat)
 case atStart => exact ⟨0, by omega, rfl, rfl⟩
 case round =>
  obtain ⟨j, hj, rfl, rfl⟩ := hrel
  by_cases hlt : j < 4
  ·have hc := HC.out j hlt
   obtain ⟨hq, hql, hqs, hqt⟩ := HR.out j hlt
   have HQS := K_ hqs
   have HQ := K_ (Kd.C_below hq HB.out)
   have dlt : decide ((j : Int) < 4) = true := decide_eq_true (by omega)
   clear hq hqs
   go_wp2
   go_loop [5, 8] (fun n i => ∃ t : Nat, t ≤ (yP L j).l.length ∧ i = .int .i64 t ∧ n = .int .i64 ((zco kd L j + zaP kd ((yP L j).l.take t) : Nat) : Int)) (fun _ i => (yP L j).l.length - (intOf i).toNat)
   case atStart => exact ⟨0, by omega, rfl, by rw [List.take_zero]; rfl⟩
   case round =>
    obtain ⟨t, ht, rfl, rfl⟩ := hrel
    by_cases htl : t < (yP L j).l.length
    ·obtain ⟨x, hx⟩ : ∃ x, x = (yP L j).l[t] := ⟨_, rfl⟩
     obtain ⟨ad, ea, hx0, hx1⟩ := zhO HQ.out (t : Int) (by omega) (by omega)
     rw [zoa htl, ← hx] at hx0 hx1
     simp only [Int.toNat_natCast] at hx0 hx1
     have HA := K_ ea
     have hs := zkK (a := kd) htl
     rw [← hx] at hs
     have HS := K_ hs
     have hb : zaP kd ((yP L j).l.take t) ≤ 1000 := Nat.le_trans (zjd _ _) (by rw [List.length_take]; omega)
     have dt : decide ((t : Int) < ((yP L j).l.length : Int)) = true := decide_eq_true (by omega)
     clear hs hx
     rw [ea] at hc
     rw [HA.out]
     by_cases hk : x.f0 = kd
     ·have dk : (x.f0 == kd) = true := beq_iff_eq.2 hk
      have HS2 := K_ (show zaP kd ((yP L j).l.take (t + 1)) = zaP kd ((yP L j).l.take t) + 1 by rw [HS.out, if_pos hk])
      clear hk
      go_wp2
      go_round
      case rel => exact ⟨t + 1, by omega, by go_num, by rw [HS2.out]; go_num⟩
      case measure => simp [intOf]; omega
     have dk : (x.f0 == kd) = false := beq_eq_false_iff_ne.2 hk
     have HS2 := K_ (show zaP kd ((yP L j).l.take (t + 1)) = zaP kd ((yP L j).l.take t) by rw [HS.out, if_neg hk, Nat.add_zero])
     clear hk
     go_wp2
     go_round
     case rel => exact ⟨t + 1, by omega, by go_num, by rw [HS2.out]⟩
     case measure => simp [intOf]; omega
    obtain rfl : t = (yP L j).l.length := by omega
    have dt : decide (((yP L j).l.length : Int) < ((yP L j).l.length : Int)) = false := decide_eq_false (by omega)
    go_wp2
    go_round
    case rel => exact ⟨j + 1, by omega, by go_num, by rw [HQS.out, List.take_length]⟩
    case measure => simp [intOf]; omega
  obtain rfl : j = 4 := by omega
  go_wp2
  go_ret
  exact ⟨by rw [HT.out]; rfl, HB.out⟩
theorem zdv (A0 A1 A3 A4 : Option Addr) (c0 c1 c3 c4 : Nat) (a b c d : List S80) (hn : Bool) (P : jW) (at_ pad wd kd : Int) (w : World) {b0 : Nat} {ok : Nat → Prop}
  (h0 : Kd.R k80 80 w b0 ok (.slice A0 a.length c0) a) (h1 : Kd.R k80 80 w b0 ok (.slice A1 b.length c1) b) (h3 : Kd.R k80 80 w b0 ok (.slice A3 c.length c3) c) (h4 : Kd.R k80 80 w b0 ok (.slice A4 d.length c4) d)
  (ha : a.length ≤ 1000) (hb : b.length ≤ 1000) (hc : c.length ≤ 1000) (hd : d.length ≤ 1000) :
  Calls Tryz.prog 53 #[.agg (xW (.slice A0 a.length c0) (.slice A1 b.length c1) hn (.slice A3 c.length c3) (.slice A4 d.length c4) P at_ pad wd), .int .i64 kd] w fun e w' => e = .returned (.int .i64 ((sgn kd a b c d : Nat) : Int)) ∧ Below w.heap.size w w' :=
 zjE ⟨A0, A1, A3, A4, c0, c1, c3, c4, a, b, c, d, hn, P, at_, pad, wd⟩ kd w (Kd.R_reads' h0).2.2 (Kd.R_reads' h1).2.2 (Kd.R_reads' h3).2.2 (Kd.R_reads' h4).2.2 ha hb hc hd
end
set_option maxHeartbeats 16000000 in
set_option maxRecDepth 100000 in
theorem zkj (s : ByteArray) (hs : s.size ≤ 1048576) (w : World) : Calls Tryz.prog 31 #[.string s] w (zmj s w) := by
 obtain ⟨⟨l, E1, a1⟩, hEv, h4⟩ := zlM s hs
 obtain ⟨K0, hK0⟩ := Ev.rounds hEv
 have HK := K_ hK0
 have HEV1 := K_ hEv
 have H4 := K_ (show E1 = 0 → l.length ≤ 400 from h4)
 have HB := K_ (Below.refl w.heap.size w)
 clear hs hEv hK0 h4
 go_enter Tryz.func31, Tryz.ntmps31
 go_upto_region 2 with (first
  | ((with_reducible refine zH (N := 2) rfl ?_); refine be_ 2 Z26 26 ?_; intro g2 hg w2 hbox hb; have BK2 := K_ hbox; have GE2 := ge_ hg HB; replace HB := zG HB hb; clear hb hbox hg)
  | ((with_reducible refine zH (N := 3) rfl ?_); refine be_ 3 Z51 51 ?_; intro g3 hg w4 hbox hb; have BK3 := K_ hbox; have GE3 := ge_ hg HB; have NB := nb_ hg BK2; replace BK2 := zD BK2 hb; replace HB := zG HB hb; clear hb hbox hg)
  | (go_at_call 55; refine (zE.calls K0 s l E1 a1 _ HK.out).mono ?_; rintro e9 w' ⟨v0, rfl, ho, hb⟩; have HO := K_ (Kd.R_lower ho (zJ (BL HB))); replace HB := zG HB hb; replace BK2 := zD BK2 hb; replace BK3 := zD BK3 hb; clear hb ho)
  | ((with_reducible refine zH (N := 5) rfl ?_); refine be_ 5 Z51 51 ?_; intro g5 hg w10 hbox hb; have BK5 := K_ hbox; have GE5 := ge_ hg HB; have N2F := nb_ hg BK2; have N3F := nb_ hg BK3; replace HO := K_ (Kd.R_below (RB HO.out) hb); replace HB := zG HB hb; replace BK2 := zD BK2 hb; replace BK3 := zD BK3 hb; clear hb hbox hg)
  | ((with_reducible refine zW (p := 5) rfl ?_); refine so_ (g := g5) (cs := Z51) #[.int .i64 E1, .int .i64 a1] ⟨BK BK5⟩ ?_ rfl rfl rfl rfl rfl uT rfl rfl; intro w9 hbk hfar hbel; replace HO := K_ (vY (RB HO.out) (BK BK5) (by decide) hfar); replace BK2 := K_ (hfar g2 _ N2F.out (BK BK2)); replace BK3 := K_ (hfar g3 _ N3F.out (BK BK3)); replace BK5 := K_ hbk; replace HB := K_ (hbel _ _ GE5.out (BL HB)); clear hbk hfar hbel))
 obtain ⟨⟨q0, q1⟩, q2, q3⟩ := ce2 BK5
 by_cases hE : E1 = 0
 ·subst hE
  have HL := K_ (H4.out rfl)
  clear H4
  go_upto_region 4 with (fail)
  clear q0 q1 q2 q3
  obtain ⟨A1, c1, rfl⟩ := Kd.R_slice HO.out
  go_wp2_with (fail)
  go_loopw [6, 7] (fun v i wr => ∃ (k : Nat) (xs : List S73), k ≤ l.length ∧ i = .int .i64 k ∧ xs.length ≤ k ∧ Kd.R k71 71 wr w.heap.size (fun _ => True) (.slice A1 l.length c1) l ∧ Kd.R k73 73 wr w.heap.size (fun _ => True) v xs ∧ (xP l → xs = (l.take k).map mk73) ∧ wr.heap[g5]? = some (.cells #[.int .i64 0, .int .i64 a1] 51 (0, 0)) ∧ wr.heap[g2]? = some (.cells Z26 26 (0, 0)) ∧ wr.heap[g3]? = some (.cells Z51 51 (0, 0)) ∧ Below w.heap.size w wr) (fun _ i _ => l.length - (intOf i).toNat)
  case atStart => exact ⟨0, [], by omega, rfl, Nat.le_refl _, RB HO.out, Kd.R_nil _ _ _ _ _, fun _ => rfl, BK BK5, BK BK2, BK BK3, BL HB⟩
  case round =>
   obtain ⟨k, xs, hk, rfl, hxl, ho, hz, hst, hb5, hb2, hb3, hbw⟩ := hrel
   replace HO := K_ ho
   have HZ := K_ hz
   have HST := K_ hst
   replace BK5 := K_ hb5
   replace BK2 := K_ hb2
   replace BK3 := K_ hb3
   replace HB := K_ hbw
   clear ho hz hst hb5 hb2 hb3 hbw
   have hll := HL.out
   have hcl := (Kd.R_reads' HO.out).2.1
   by_cases hlt : k < l.length
   ·obtain ⟨x, hx⟩ : ∃ x, x = l[k] := ⟨_, rfl⟩
    obtain ⟨ad, ea, h0, h1, h2⟩ := zhR (Kd.R_reads' HO.out).2.2 (k : Int) (by omega) (by omega)
    rw [zlP hlt, ← hx] at h0 h1 h2
    simp only [Int.toNat_natCast] at h0 h1 h2
    subst ea
    have HX := K_ hx
    clear hx
    have dlt : decide (((k : Nat) : Int) < (l.length : Int)) = true := decide_eq_true (by omega)
    go_upto_region 9 with (first
     | ((with_reducible refine zH (N := 8) rfl ?_); refine be_ 8 #[.int .i32 0, .bool false, .int .i64 0, .bool false] 73 ?_; intro g8 hg w10 hbox hb; have BK8 := K_ hbox; have GE8 := ge_ hg HB; have N5E := nb_ hg BK5; have N2E := nb_ hg BK2; have N3E := nb_ hg BK3; replace HZ := K_ (Kd.R_below (Kd.R_elderB (RB HZ.out) g8 (Nat.le_of_eq hg.symm)) hb); replace HO := K_ (Kd.R_below (RB HO.out) hb); replace HB := zG HB hb; replace BK2 := zD BK2 hb; replace BK3 := zD BK3 hb; replace BK5 := zD BK5 hb; clear hb hbox hg)
     | ((with_reducible refine zW (p := 8) rfl ?_); refine so_ (g := g8) (cs := #[.int .i32 0, .bool false, .int .i64 0, .bool false]) #[.int .i32 x.f0, .bool x.f1, .int .i64 x.f2, .bool false] ⟨BK BK8⟩ ?_ rfl rfl rfl rfl rfl zhF rfl rfl; intro w9 hbk hfar hbel; replace BK5 := K_ (hfar g5 _ N5E.out (BK BK5)); replace BK2 := K_ (hfar g2 _ N2E.out (BK BK2)); replace BK3 := K_ (hfar g3 _ N3E.out (BK BK3)); replace HO := K_ (vY (RB HO.out) (BK BK8) (by decide) hfar); replace HZ := K_ (zmt (ok := fun q => True ∧ q ≠ g8) (RB HZ.out) (fun q hq => hq.2) hfar); replace BK8 := K_ hbk; replace HB := K_ (hbel _ _ GE8.out (BL HB)); clear hbk hfar hbel))
    obtain ⟨A3, c3, rfl⟩ := Kd.R_slice HZ.out
    cases hstar : zah (mk73 x) 42
    ·have HC : ∀ W, Aside0 (Calls Tryz.prog 56 #[.agg #[.int .i32 x.f0, .bool x.f1, .int .i64 x.f2, .bool false], .int .i32 42] W fun e w' => e = .returned (.bool false) ∧ Below W.heap.size W w') := fun W => ⟨by have h := zbk (mk73 x) 42 W; rw [hstar] at h; exact h⟩
     have HST2 := K_ (show xP l → xs ++ [mk73 x] = (l.take (k + 1)).map mk73 from fun h => by rw [zmD hlt, ← HX.out, HST.out h])
     have HN5 := K_ (Kd.R_ne HZ.out BK5.out (by decide))
     have HN2 := K_ (Kd.R_ne HZ.out BK2.out (by decide))
     have HN3 := K_ (Kd.R_ne HZ.out BK3.out (by decide))
     have HLN := K_ (show (xs.length + 1) * 24 ≤ 140737488355328 by omega)
     clear hstar h0 h1 h2
     go_wp2_with (first
      | ((with_reducible refine zH (N := 37) rfl ?_); refine lo_ (g := g8) (cs := #[.int .i32 x.f0, .bool x.f1, .int .i64 x.f2, .bool false]) _ ⟨BK BK8⟩ ?_ rfl rfl rfl Tryz.underlying73 rfl zhF)
      | ((with_reducible refine zH (N := 61) rfl ?_); refine lo_ (g := g8) (cs := #[.int .i32 x.f0, .bool x.f1, .int .i64 x.f2, .bool false]) _ ⟨BK BK8⟩ ?_ rfl rfl rfl Tryz.underlying73 rfl zhF)
      | (go_at_call 56; refine ((HC _).out).mono ?_; rintro e w' ⟨rfl, hb⟩; replace HO := K_ (Kd.R_below (RB HO.out) hb); replace HZ := K_ (Kd.R_below (RB HZ.out) hb); replace HB := zG HB hb; replace BK2 := zD BK2 hb; replace BK3 := zD BK3 hb; replace BK5 := zD BK5 hb; replace BK8 := zD BK8 hb; clear hb)
      | ((with_reducible refine jD (b := .append) (xs := #[.tmp 60, .tmp 62]) rfl ?_); at_builtin; (refine Kd.R_append k73 (w0 := w) w.heap.size rfl (.tmp 60) (.tmp 62) 69 73 (.agg #[(.int .i32 0), (.bool false), (.int .i64 0), (.bool false)]) 24 rfl Tryz.underlying69 zif rfl (by decide) (by omega) (.slice A3 xs.length c3) xs (mk73 x) [.int .i32 x.f0, .bool x.f1, .int .i64 x.f2, .bool false] (fun q => True ∧ q ≠ g8) (fun _ => False) rfl (by first | (go_simp; done) | (go_simp; rfl)) (ziZ _ _ _ (mk73 x)) (fun _ hk => hk.elim) ?aF ?aO ?aB ?aS ?aL ?_; (case aF => exact fun q hq => ⟨trivial, fun he => absurd (zci (BK BK8)) (Nat.not_lt.2 (he ▸ hq))⟩); (case aO => exact RB HZ.out); (case aB => exact BL HB); (case aS => exact zJ (BL HB)); (case aL => exact HLN.out); intro v1 w5 ho2 hb2 hg2 hat2; have HO3 := K_ (Kd.R_mono (ok' := fun _ => True) ho2 (fun _ _ => trivial)); replace HO := K_ (Kd.R_over (RB HO.out) (RB HZ.out) (by decide) hg2); have BK5a := K_ (yS (BK BK5) hg2 HN5.out); have BK2a := K_ (yS (BK BK2) hg2 HN2.out); have BK3a := K_ (yS (BK BK3) hg2 HN3.out); replace HB := K_ hb2; clear ho2 hb2 hg2 hat2)))
     go_roundw
     case rel => exact ⟨k + 1, xs ++ [mk73 x], by omega, by go_num, by rw [List.length_append]; simp; omega, RB HO.out, RB HO3.out, HST2.out, BK BK5a, BK BK2a, BK BK3a, BL HB⟩
     case measure => simp [intOf]; omega
    have HC : ∀ W, Aside0 (Calls Tryz.prog 56 #[.agg #[.int .i32 x.f0, .bool x.f1, .int .i64 x.f2, .bool false], .int .i32 42] W fun e w' => e = .returned (.bool true) ∧ Below W.heap.size W w') := fun W => ⟨by have h := zbk (mk73 x) 42 W; rw [hstar] at h; exact h⟩
    have HNS := K_ (show xP l → False from fun h => by have := h l[k] (List.getElem_mem hlt); rw [← HX.out, hstar] at this; cases this)
    clear hstar h0 h1 h2
    go_upto_region 10 with (first
     | ((with_reducible refine zH (N := 37) rfl ?_); refine lo_ (g := g8) (cs := #[.int .i32 x.f0, .bool x.f1, .int .i64 x.f2, .bool false]) _ ⟨BK BK8⟩ ?_ rfl rfl rfl Tryz.underlying73 rfl zhF)
     | (go_at_call 56; refine ((HC _).out).mono ?_; rintro e w' ⟨rfl, hb⟩; replace HO := K_ (Kd.R_below (RB HO.out) hb); replace HZ := K_ (Kd.R_below (RB HZ.out) hb); replace HB := zG HB hb; replace BK2 := zD BK2 hb; replace BK3 := zD BK3 hb; replace BK5 := zD BK5 hb; replace BK8 := zD BK8 hb; clear hb))
    have hwk : IntKind.i64.wrap ((k : Int) + 1) = (k : Int) + 1 := by rw [IntKind.wrap_i64]; omega
    by_cases hl1 : k + 1 = l.length
    ·have de : ((k : Int) + 1 == (l.length : Int)) = true := beq_iff_eq.2 (by omega)
     go_upto_region 11 with (fail)
     have HEV := K_ (show (7 : Int) ≠ 0 by decide)
     have HE := K_ (show ∀ l', Ev (fun k => zE.f k s) (l', 0, 0) → xP l' → zau l' → ∀ P0, xU (l'.map mk73) P0 → ¬ mixed (jG (uF (l'.map mk73) (uX (l'.map mk73)) l'.length)) (jG (uG (l'.map mk73) (uU (l'.map mk73)) l'.length)) (⟨2, 0⟩ :: jG (uF (l'.map mk73) (uX (l'.map mk73)) l'.length)) (jG (uG (l'.map mk73) (uU (l'.map mk73)) l'.length)) → False from fun l' h1 hns _ _ _ _ => (HNS.out (by have e := zdo h1 HEV1.out; have e2 : l' = l := congrArg (fun r => r.1) e; rw [← e2]; exact hns)))
     refine yL (n := 7) (S := fun w' => w'.cell? ⟨g8, 2, none⟩ = some (.int .i64 x.f2)) (ds := []) #[false, false, false, false, false, false, false] (by kernel_rfl) rfl rfl ((zA (BK BK8) 2).trans rfl) (fun hHeld => ?_)
     refine jM (fun W => W.cell? ⟨g8, 2, none⟩ = some (.int .i64 x.f2) ∧ W.heap[g2]? = some (.cells Z26 26 (0, 0)) ∧ W.heap[g3]? = some (.cells Z51 51 (0, 0)) ∧ Below w.heap.size w W) ⟨((zA (BK BK8) 2).trans rfl), BK BK2, BK BK3, BL HB⟩ ?_
     clear hHeld
     rintro W ⟨hHeld, hb2, hb3, hbw⟩
     replace BK2 := K_ hb2
     replace BK3 := K_ hb3
     replace HB := K_ hbw
     clear hb2 hb3 hbw
     refine pu_ 0 (some 44) (bb 7 1) (by kernel_rfl) ?_
     refine pu_ 1 (some 45) (bb 7 3) (by kernel_rfl) ?_
     refine pu_ 2 (some 46) (bb 7 7) (by kernel_rfl) ?_
     refine tk_ 3 (some 47) (bb 7 15) (by kernel_rfl) hHeld ?_
     refine pu_ 4 (some 48) (bb 7 31) (by kernel_rfl) ?_
     refine zY (i := 5) (N := none) (bb 7 63) rfl rfl (by kernel_rfl) (by decide) (fun K hK => ?_)
     refine vF (g := g2) (cs := Z26) Z26 BK2 ?_ rfl rfl rfl rfl rfl jX rfl rfl
     intro w8 hbk hfar hbel
     have hHeld2 := zam hfar (p := ⟨g8, 2, none⟩) (Ne.symm N2E.out) hHeld
     replace BK3 := K_ (hfar g3 _ (Ne.symm NB.out) BK3.out)
     replace BK2 := K_ hbk
     replace HB := K_ (hbel _ _ GE2.out HB.out)
     refine hK.out _ _ hHeld2 (fun _ => ?_)
     clear hK K hbk hfar hbel
     refine zY (i := 6) (N := none) (bb 7 127) rfl rfl (by kernel_rfl) (by decide) (fun K hK => ?_)
     refine vF (g := g3) (cs := Z51) #[.int .i64 7, .int .i64 x.f2] BK3 ?_ rfl rfl rfl rfl rfl uT rfl rfl
     intro w9 hbk hfar hbel
     have hHeld3 := zam hfar (p := ⟨g8, 2, none⟩) (Ne.symm N3E.out) hHeld2
     replace BK2 := K_ (hfar g2 _ NB.out BK2.out)
     replace BK3 := K_ hbk
     replace HB := K_ (hbel _ _ GE3.out HB.out)
     refine hK.out _ _ hHeld3 (fun _ => ?_)
     clear hK K hbk hfar hbel
     refine yV (by kernel_rfl) ?_
     go_wp2_with (fail)
     (
      refine bodyPost_ret (qT rfl _ _ g2 g3 26 51 Z26 #[.int .i64 7, .int .i64 x.f2] (0, 0) (0, 0) _ _ rfl BK2.out Tryz.underlying26 rfl jX rfl BK3.out Tryz.underlying51 rfl uT) rfl ?_
      exact ⟨_, _, _, _, [], [], [], [], jJ, false, 0, 0, 0, 7, x.f2, rfl, Kd.R_nil _ _ _ _ _, Kd.R_nil _ _ _ _ _, Kd.R_nil _ _ _ _ _, Kd.R_nil _ _ _ _ _, BL HB, fun h => absurd h HEV.out, fun l' h1 h2 h3 P0 h4 h5 => (HE.out l' h1 h2 h3 P0 h4 h5).elim⟩)
    have de : ((k : Int) + 1 == (l.length : Int)) = false := beq_eq_false_iff_ne.2 (by omega)
    obtain ⟨⟨c0, c1', c2, c3'⟩, f0, f1, f2, f3⟩ := ce4 BK8
    have hlt2 : k + 1 < l.length := by omega
    obtain ⟨ad2, ea, h0, h1, h2⟩ := zhR (Kd.R_reads' HO.out).2.2 ((k + 1 : Nat) : Int) (by omega) (by omega)
    obtain ⟨y, hy⟩ : ∃ y, y = l[k + 1] := ⟨_, rfl⟩
    rw [zlP hlt2, ← hy] at h0 h1 h2
    simp only [Int.toNat_natCast] at h0 h1 h2
    obtain rfl := Option.some.inj ea
    have hn1 : ((k : Int) + 1).toNat = k + 1 := by omega
    have H8 := K_ (Kd.R_ne HO.out BK8.out (by decide))
    have hbn : (ad.add ((k + 1) * 3)).block ≠ g8 := by
     rw [zcY]; intro e; exact H8.out (by simp [Value.ownBlock, e])
    have hfar2 : ∀ (W : World) j v, (W.setCell ⟨g8, j, none⟩ v).cell? (ad.add ((k + 1) * 3)) = W.cell? (ad.add ((k + 1) * 3)) := fun W j v => jF hbn v
    have hi0 : (0 : Int) ≤ (k : Int) + 1 := by omega
    have hi1 : (k : Int) + 1 < (l.length : Int) := by omega
    clear hy ea h1 h2
    go_upto_region 14 with (fail)
    have hfar : ∀ k o, k ≠ g8 → w'.heap[k]? = some o → ((w'.setCell ⟨g8, 3, none⟩ (.bool true)).setCell ⟨g8, 0, none⟩ (.int .i32 y.f0)).heap[k]? = some o := fun k o hk e => (Below.heap_setCell _ _ _ _ hk).trans ((Below.heap_setCell _ _ _ _ hk).trans e)
    refine zbi (fun W => Kd.R k71 71 W w.heap.size (fun _ => True) (.slice (some ad) l.length c1) l ∧ Kd.R k73 73 W w.heap.size (fun q => True ∧ q ≠ g8) (.slice A3 xs.length c3) xs ∧ W.heap[g5]? = some (.cells #[.int .i64 0, .int .i64 a1] 51 (0, 0)) ∧ W.heap[g2]? = some (.cells Z26 26 (0, 0)) ∧ W.heap[g3]? = some (.cells Z51 51 (0, 0)) ∧ W.heap[g8]? = some (.cells #[.int .i32 y.f0, .bool x.f1, .int .i64 x.f2, .bool true] 73 (0, 0)) ∧ Below w.heap.size w W) ⟨vY (RB HO.out) (BK BK8) (by decide) hfar, zmt (ok := fun q => True ∧ q ≠ g8) (RB HZ.out) (fun q hq => hq.2) hfar, hfar g5 _ N5E.out (BK BK5), hfar g2 _ N2E.out (BK BK2), hfar g3 _ N3E.out (BK BK3), BP BK8, BL HB⟩ ?_
    clear hfar HO HZ BK5 BK2 BK3 BK8 HB f0 f1 f2 f3 c0 c1' c2 c3' H8 hbn hfar2 h0
    rintro W ⟨ho, hz, hb5, hb2, hb3, hb8, hbw⟩
    have HO := K_ ho
    have HZ := K_ hz
    have BK5 := K_ hb5
    have BK2 := K_ hb2
    have BK3 := K_ hb3
    have BK8 := K_ hb8
    have HB := K_ hbw
    clear ho hz hb5 hb2 hb3 hb8 hbw
    have HN5 := K_ (Kd.R_ne HZ.out BK5.out (by decide))
    have HN2 := K_ (Kd.R_ne HZ.out BK2.out (by decide))
    have HN3 := K_ (Kd.R_ne HZ.out BK3.out (by decide))
    have HLN := K_ (show (xs.length + 1) * 24 ≤ 140737488355328 by omega)
    go_wp2_with (first
     | ((with_reducible refine zH (N := 61) rfl ?_); refine lo_ (g := g8) (cs := #[.int .i32 y.f0, .bool x.f1, .int .i64 x.f2, .bool true]) _ ⟨BK BK8⟩ ?_ rfl rfl rfl Tryz.underlying73 rfl zhF)
     | ((with_reducible refine jD (b := .append) (xs := #[.tmp 60, .tmp 62]) rfl ?_); at_builtin; (refine Kd.R_append k73 (w0 := w) w.heap.size rfl (.tmp 60) (.tmp 62) 69 73 (.agg #[(.int .i32 0), (.bool false), (.int .i64 0), (.bool false)]) 24 rfl Tryz.underlying69 zif rfl (by decide) (by omega) (.slice A3 xs.length c3) xs (⟨⟨y.f0, x.f1, x.f2⟩, true⟩ : S73) [.int .i32 y.f0, .bool x.f1, .int .i64 x.f2, .bool true] (fun q => True ∧ q ≠ g8) (fun _ => False) rfl (by first | (go_simp; done) | (go_simp; rfl)) (ziZ _ _ _ (⟨⟨y.f0, x.f1, x.f2⟩, true⟩ : S73)) (fun _ hk => hk.elim) ?aF ?aO ?aB ?aS ?aL ?_; (case aF => exact fun q hq => ⟨trivial, fun he => absurd (zci (BK BK8)) (Nat.not_lt.2 (he ▸ hq))⟩); (case aO => exact RB HZ.out); (case aB => exact BL HB); (case aS => exact zJ (BL HB)); (case aL => exact HLN.out); intro v1 w5 ho2 hb2 hg2 hat2; have HO3 := K_ (Kd.R_mono (ok' := fun _ => True) ho2 (fun _ _ => trivial)); replace HO := K_ (Kd.R_over (RB HO.out) (RB HZ.out) (by decide) hg2); have BK5a := K_ (yS (BK BK5) hg2 HN5.out); have BK2a := K_ (yS (BK BK2) hg2 HN2.out); have BK3a := K_ (yS (BK BK3) hg2 HN3.out); replace HB := K_ hb2; clear ho2 hb2 hg2 hat2)))
    go_roundw
    case rel => exact ⟨k + 2, xs ++ [(⟨⟨y.f0, x.f1, x.f2⟩, true⟩ : S73)], by omega, by go_num, by rw [List.length_append]; simp; omega, RB HO.out, RB HO3.out, fun h => (HNS.out h).elim, BK BK5a, BK BK2a, BK BK3a, BL HB⟩
    case measure => simp [intOf]; omega
   obtain rfl : k = l.length := by omega
   have dlt : decide ((l.length : Int) < (l.length : Int)) = false := decide_eq_false (by omega)
   have HXS := K_ (show xP l → xs = l.map mk73 from fun h => by have := HST.out h; rw [List.take_length] at this; exact this)
   have hxl2 : xs.length ≤ 400 := by omega
   obtain ⟨A3, c3, rfl⟩ := Kd.R_slice HZ.out
   clear hll hcl HST HL
   go_wp2_with (fail)
   clear HO
   go_loopw [9, 10] (fun m i wr => ∃ (j : Nat) (sm : Int), j ≤ xs.length ∧ i = .int .i64 j ∧ m = .int .i64 sm ∧ (sm = -1 ∨ (0 ≤ sm ∧ sm < j)) ∧ (xP l → zau l → sm = -1) ∧ Kd.R k73 73 wr w.heap.size (fun _ => True) (.slice A3 xs.length c3) xs ∧ wr.heap[g5]? = some (.cells #[.int .i64 0, .int .i64 a1] 51 (0, 0)) ∧ wr.heap[g2]? = some (.cells Z26 26 (0, 0)) ∧ wr.heap[g3]? = some (.cells Z51 51 (0, 0)) ∧ Below w.heap.size w wr) (fun _ i _ => xs.length - (intOf i).toNat)
   case atStart => exact ⟨0, -1, Nat.zero_le _, rfl, rfl, .inl rfl, fun _ _ => rfl, RB HZ.out, BK BK5, BK BK2, BK BK3, BL HB⟩
   case round =>
    obtain ⟨j, sm, hj, rfl, rfl, hsm, hns, hz, hb5, hb2, hb3, hbw⟩ := hrel
    replace HZ := K_ hz
    have HNS := K_ hns
    have HSM := K_ hsm
    replace BK5 := K_ hb5
    replace BK2 := K_ hb2
    replace BK3 := K_ hb3
    replace HB := K_ hbw
    clear hz hns hsm hb5 hb2 hb3 hbw
    have hcl := (Kd.R_reads' HZ.out).2.1
    by_cases hlt : j < xs.length
    ·obtain ⟨x, hx⟩ : ∃ x, x = xs[j] := ⟨_, rfl⟩
     obtain ⟨ad, ea, h0, h1, h2, h3⟩ := zas (Kd.R_reads' HZ.out).2.2 (j : Int) (by omega) (by omega)
     rw [zcl hlt, ← hx] at h0 h1 h2 h3
     simp only [Int.toNat_natCast] at h0 h1 h2 h3
     have HX := K_ hx
     obtain rfl := ea
     clear hx
     have dlt : decide (((j : Nat) : Int) < (xs.length : Int)) = true := decide_eq_true (by omega)
     cases hst : zah x 59
     ·have HC : ∀ W, Aside0 (Calls Tryz.prog 56 #[.agg #[.int .i32 x.f0.f0, .bool x.f0.f1, .int .i64 x.f0.f2, .bool x.f1], .int .i32 59] W fun e w' => e = .returned (.bool false) ∧ Below W.heap.size W w') := fun W => ⟨by have h := zbk x 59 W; rw [hst] at h; exact h⟩
      clear hst
      go_wp2_with (go_at_call 56; refine ((HC _).out).mono ?_; rintro e w' ⟨rfl, hb⟩; replace HZ := K_ (Kd.R_below (RB HZ.out) hb); replace HB := zG HB hb; replace BK2 := zD BK2 hb; replace BK3 := zD BK3 hb; replace BK5 := zD BK5 hb; clear hb)
      go_roundw
      case rel => exact ⟨j + 1, sm, by omega, by go_num, rfl, by have := HSM.out; omega, HNS.out, RB HZ.out, BK BK5, BK BK2, BK BK3, BL HB⟩
      case measure => simp [intOf]; omega
     have HC : ∀ W, Aside0 (Calls Tryz.prog 56 #[.agg #[.int .i32 x.f0.f0, .bool x.f0.f1, .int .i64 x.f0.f2, .bool x.f1], .int .i32 59] W fun e w' => e = .returned (.bool true) ∧ Below W.heap.size W w') := fun W => ⟨by have h := zbk x 59 W; rw [hst] at h; exact h⟩
     have HNT := K_ (show xP l → zau l → False from fun q1 q2 => by
      have e := HXS.out q1
      have hm : x ∈ l.map mk73 := by rw [← e, HX.out]; exact List.getElem_mem hlt
      obtain ⟨t, ht, rfl⟩ := List.mem_map.1 hm
      rw [q2 t ht] at hst; cases hst)
     clear hst
     by_cases hs0 : 0 ≤ sm
     ·have dsm : decide (0 ≤ sm) = true := decide_eq_true hs0
      have hlt2 := hlt
      go_upto_region 22 with (go_at_call 56; refine ((HC _).out).mono ?_; rintro e w' ⟨rfl, hb⟩; replace HZ := K_ (Kd.R_below (RB HZ.out) hb); replace HB := zG HB hb; replace BK2 := zD BK2 hb; replace BK3 := zD BK3 hb; replace BK5 := zD BK5 hb; clear hb)
      clear h0 h1 h2 h3
      obtain ⟨ad2, ea, h0, h1, h2, h3⟩ := zas (Kd.R_reads' HZ.out).2.2 (j : Int) (by omega) (by omega)
      obtain rfl := Option.some.inj ea
      rw [zcl hlt, ← HX.out] at h0 h1 h2 h3
      simp only [Int.toNat_natCast] at h0 h1 h2 h3
      have H2 := K_ (Kd.R_ne HZ.out BK2.out (by decide))
      have H3 := K_ (Kd.R_ne HZ.out BK3.out (by decide))
      have hb2 : (ad.add (j * 4)).block ≠ g2 := by
       rw [zcY]; intro e; exact H2.out (by simp [Value.ownBlock, e])
      have hb3 : (ad.add (j * 4)).block ≠ g3 := by
       rw [zcY]; intro e; exact H3.out (by simp [Value.ownBlock, e])
      have HEV := K_ (show (4 : Int) ≠ 0 by decide)
      have HE := K_ (show ∀ l', Ev (fun k => zE.f k s) (l', 0, 0) → xP l' → zau l' → ∀ P0, xU (l'.map mk73) P0 → ¬ mixed (jG (uF (l'.map mk73) (uX (l'.map mk73)) l'.length)) (jG (uG (l'.map mk73) (uU (l'.map mk73)) l'.length)) (⟨2, 0⟩ :: jG (uF (l'.map mk73) (uX (l'.map mk73)) l'.length)) (jG (uG (l'.map mk73) (uU (l'.map mk73)) l'.length)) → False from fun l' h1 hns hsm _ _ _ => (by have e := zdo h1 HEV1.out; have e2 : l' = l := congrArg (fun r => r.1) e; rw [e2] at hns hsm; exact HNT.out hns hsm))
      refine yL (n := 10) (S := fun w' => w'.cell? ⟨(ad.add (j * 4)).block, (ad.add (j * 4)).off + 2, none⟩ = some (.int .i64 x.f0.f2)) (ds := []) #[false, false, false, false, false, false, false, false, false, false] (by kernel_rfl) rfl rfl h2 (fun hHeld => ?_)
      refine jM (fun W => W.cell? ⟨(ad.add (j * 4)).block, (ad.add (j * 4)).off + 2, none⟩ = some (.int .i64 x.f0.f2) ∧ W.heap[g2]? = some (.cells Z26 26 (0, 0)) ∧ W.heap[g3]? = some (.cells Z51 51 (0, 0)) ∧ Below w.heap.size w W) ⟨h2, BK BK2, BK BK3, BL HB⟩ ?_
      clear hHeld
      rintro W ⟨hHeld, hb2, hb3, hbw⟩
      replace BK2 := K_ hb2
      replace BK3 := K_ hb3
      replace HB := K_ hbw
      clear hb2 hb3 hbw
      refine pu_ 0 (some 77) (bb 10 1) (by kernel_rfl) ?_
      refine pu_ 1 (some 78) (bb 10 3) (by kernel_rfl) ?_
      refine pu_ 2 (some 79) (bb 10 7) (by kernel_rfl) ?_
      refine pu_ 3 (some 80) (bb 10 15) (by kernel_rfl) ?_
      refine pu_ 4 (some 81) (bb 10 31) (by kernel_rfl) ?_
      refine pu_ 5 (some 82) (bb 10 63) (by kernel_rfl) ?_
      refine tk_ 6 (some 83) (bb 10 127) (by kernel_rfl) hHeld ?_
      refine pu_ 7 (some 84) (bb 10 255) (by kernel_rfl) ?_
      refine zY (i := 8) (N := none) (bb 10 511) rfl rfl (by kernel_rfl) (by decide) (fun K hK => ?_)
      refine vF (g := g2) (cs := Z26) Z26 BK2 ?_ rfl rfl rfl rfl rfl jX rfl rfl
      intro w8 hbk hfar hbel
      have hHeld2 := zam hfar (p := ⟨(ad.add (j * 4)).block, (ad.add (j * 4)).off + 2, none⟩) hb2 hHeld
      replace BK3 := K_ (hfar g3 _ (Ne.symm NB.out) BK3.out)
      replace BK2 := K_ hbk
      replace HB := K_ (hbel _ _ GE2.out HB.out)
      refine hK.out _ _ hHeld2 (fun _ => ?_)
      clear hK K hbk hfar hbel
      refine zY (i := 9) (N := none) (bb 10 1023) rfl rfl (by kernel_rfl) (by decide) (fun K hK => ?_)
      refine vF (g := g3) (cs := Z51) #[.int .i64 4, .int .i64 x.f0.f2] BK3 ?_ rfl rfl rfl rfl rfl uT rfl rfl
      intro w9 hbk hfar hbel
      have hHeld3 := zam hfar (p := ⟨(ad.add (j * 4)).block, (ad.add (j * 4)).off + 2, none⟩) hb3 hHeld2
      replace BK2 := K_ (hfar g2 _ NB.out BK2.out)
      replace BK3 := K_ hbk
      replace HB := K_ (hbel _ _ GE3.out HB.out)
      refine hK.out _ _ hHeld3 (fun _ => ?_)
      clear hK K hbk hfar hbel
      refine yV (by kernel_rfl) ?_
      go_wp2_with (fail)
      (
       refine bodyPost_ret (qT rfl _ _ g2 g3 26 51 Z26 #[.int .i64 4, .int .i64 x.f0.f2] (0, 0) (0, 0) _ _ rfl BK2.out Tryz.underlying26 rfl jX rfl BK3.out Tryz.underlying51 rfl uT) rfl ?_
       exact ⟨_, _, _, _, [], [], [], [], jJ, false, 0, 0, 0, 4, x.f0.f2, rfl, Kd.R_nil _ _ _ _ _, Kd.R_nil _ _ _ _ _, Kd.R_nil _ _ _ _ _, Kd.R_nil _ _ _ _ _, BL HB, fun h => absurd h HEV.out, fun l' h1 h2 h3 P0 h4 h5 => (HE.out l' h1 h2 h3 P0 h4 h5).elim⟩)
     have dsm : decide (0 ≤ sm) = false := decide_eq_false hs0
     go_wp2_with (go_at_call 56; refine ((HC _).out).mono ?_; rintro e w' ⟨rfl, hb⟩; replace HZ := K_ (Kd.R_below (RB HZ.out) hb); replace HB := zG HB hb; replace BK2 := zD BK2 hb; replace BK3 := zD BK3 hb; replace BK5 := zD BK5 hb; clear hb)
     go_roundw
     case rel => exact ⟨j + 1, (j : Int), by omega, by go_num, rfl, by omega, fun h1 h2 => (HNT.out h1 h2).elim, RB HZ.out, BK BK5, BK BK2, BK BK3, BL HB⟩
     case measure => simp [intOf]; omega
    obtain rfl : j = xs.length := by omega
    have dlt : decide ((xs.length : Int) < (xs.length : Int)) = false := decide_eq_false (by omega)
    have hcl := (Kd.R_reads' HZ.out).2.1
    go_upto_if 88 with (fail)
    go_cut [11] from 87 to 91 (fun v wx => (∃ n : Nat, n ≤ xs.length ∧ (sm = -1 → n = xs.length) ∧ v = .slice A3 n c3) ∧ Kd.R k73 73 wx w.heap.size (fun _ => True) (.slice A3 xs.length c3) xs ∧ wx.heap[g5]? = some (.cells #[.int .i64 0, .int .i64 a1] 51 (0, 0)) ∧ wx.heap[g2]? = some (.cells Z26 26 (0, 0)) ∧ wx.heap[g3]? = some (.cells Z51 51 (0, 0)) ∧ Below w.heap.size w wx)
    case first =>
     by_cases hs0 : 0 ≤ sm
     ·have dsm : decide (0 ≤ sm) = true := decide_eq_true hs0
      obtain ⟨m, hm⟩ := Int.eq_ofNat_of_zero_le hs0
      have hml : m < xs.length := by have := HSM.out; omega
      subst hm
      have q1 : (0 : Int) ≤ (m : Int) := by omega
      have q2 : (m : Int) ≤ (c3 : Int) := by omega
      have q3 : m ≤ c3 := by omega
      have q4 : ((m : Int)).toNat = m := Int.toNat_natCast _
      go_wp2
      go_meet
      case rel => exact ⟨⟨m, by omega, by omega, rfl⟩, RB HZ.out, BK BK5, BK BK2, BK BK3, BL HB⟩
     have dsm : decide (0 ≤ sm) = false := decide_eq_false hs0
     go_wp2
     go_meet
     case rel => exact ⟨⟨xs.length, Nat.le_refl _, fun _ => rfl, rfl⟩, RB HZ.out, BK BK5, BK BK2, BK BK3, BL HB⟩
    case rest =>
     obtain ⟨⟨n, hn, hnx, rfl⟩, hz, hb5, hb2, hb3, hbw⟩ := hcut
     replace HZ := K_ hz
     replace BK5 := K_ hb5
     replace BK2 := K_ hb2
     replace BK3 := K_ hb3
     replace HB := K_ hbw
     have hy := Kd.R_take hz hn
     clear hz hb5 hb2 hb3 hbw
     obtain ⟨ys, hys⟩ : ∃ ys, ys = xs.take n := ⟨_, rfl⟩
     rw [← hys] at hy
     obtain rfl : n = ys.length := by rw [hys, List.length_take]; omega
     have HY := K_ hy
     have EQL := K_ (show ∀ l', Ev (fun k => zE.f k s) (l', 0, 0) → l' = l from fun l' h1 => congrArg (fun r => r.1) (zdo h1 HEV1.out))
     have HEQ := K_ (show xP l → zau l → ys = l.map mk73 from fun h1 h2 => by
      have h3 := hnx (HNS.out h1 h2)
      rw [hys, h3, List.take_length]; exact HXS.out h1)
     clear hy hys hnx
     go_upto_region 28 with (first
      | (go_at_call 57; refine (zbF A3 c3 ys 0 true _ (Kd.R_reads' (RB HY.out)).2.2 (Kd.R_reads' HY.out).2.1 (by omega)).mono ?_; rintro e9 w' ⟨v1, v2, px, sx, PN, at_, pad, long, E2, a2, rfl, ho1, ho2, hb, hpost, hex⟩; obtain ⟨B1, d1, rfl⟩ := Kd.R_slice ho1; obtain ⟨B2, d2, rfl⟩ := Kd.R_slice ho2; have HO1 := K_ (Kd.R_lower ho1 (zJ (BL HB))); have HO2 := K_ (Kd.R_lower ho2 (zJ (BL HB))); have HPO := K_ hpost; have HEX := K_ hex; replace HZ := K_ (Kd.R_below (RB HZ.out) hb); replace HB := zG HB hb; replace BK2 := zD BK2 hb; replace BK3 := zD BK3 hb; replace BK5 := zD BK5 hb; clear hb ho1 ho2 hpost hex)
      | ((with_reducible refine zH (N := 12) rfl ?_); refine be_ 12 Z76 76 ?_; intro g12 hg w2 hbox hb; have BK12 := K_ hbox; have GE12 := ge_ hg HB; have N2L := nb_ hg BK2; have N3L := nb_ hg BK3; have N5L := nb_ hg BK5; replace HZ := K_ (Kd.R_below (RB HZ.out) hb); replace HO1 := K_ (Kd.R_below (RB HO1.out) hb); replace HO2 := K_ (Kd.R_below (RB HO2.out) hb); replace HB := zG HB hb; replace BK2 := zD BK2 hb; replace BK3 := zD BK3 hb; replace BK5 := zD BK5 hb; clear hb hbox hg)
      | ((with_reducible refine zW (p := 12) rfl ?_); refine so_ (g := g12) (cs := Z76) (uS (.slice B1 px.length d1) (.slice B2 sx.length d2) PN at_ pad long) ⟨BK BK12⟩ ?_ rfl rfl rfl rfl rfl zbq rfl rfl; intro w9 hbk hfar hbel; replace HZ := K_ (vY (RB HZ.out) (BK BK12) (by decide) hfar); replace HO1 := K_ (vY (RB HO1.out) (BK BK12) (by decide) hfar); replace HO2 := K_ (vY (RB HO2.out) (BK BK12) (by decide) hfar); replace BK2 := K_ (hfar _ _ N2L.out (BK BK2)); replace BK3 := K_ (hfar _ _ N3L.out (BK BK3)); replace BK5 := K_ (hfar _ _ N5L.out (BK BK5)); replace BK12 := K_ hbk; replace HB := K_ (hbel _ _ GE12.out (BL HB)); clear hbk hfar hbel)
      | ((with_reducible refine zW (p := 5) rfl ?_); refine so_ (g := g5) (cs := #[.int .i64 0, .int .i64 a1]) (#[.int .i64 E2, .int .i64 a2]) ⟨BK BK5⟩ ?_ rfl rfl rfl rfl rfl uT rfl rfl; intro w9 hbk hfar hbel; replace HZ := K_ (vY (RB HZ.out) (BK BK5) (by decide) hfar); replace HO1 := K_ (vY (RB HO1.out) (BK BK5) (by decide) hfar); replace HO2 := K_ (vY (RB HO2.out) (BK BK5) (by decide) hfar); replace BK2 := K_ (hfar _ _ N2F.out (BK BK2)); replace BK3 := K_ (hfar _ _ N3F.out (BK BK3)); replace BK12 := K_ (hfar _ _ (Ne.symm N5L.out) (BK BK12)); replace BK5 := K_ hbk; replace HB := K_ (hbel _ _ GE5.out (BL HB)); clear hbk hfar hbel))
     obtain ⟨⟨q0, q1⟩, q2, q3⟩ := ce2 BK5
     by_cases hE : E2 = 0
     ·subst hE
      have HPOK := K_ (HPO.out rfl)
      clear HPO HEX
      have hp1 : px.length ≤ 400 := by
       rw [HPOK.out.2.1]; refine Nat.le_trans (zcS _) (Nat.le_trans (zeF _ _ _) (by omega))
      have hp2 : sx.length ≤ 400 := by
       rw [HPOK.out.2.2]; refine Nat.le_trans (zcS _) (Nat.le_trans (zeC _ _ _) (by omega))
      go_upto_region 31 with (first
       | ((with_reducible refine zH (N := 103) rfl ?_); refine lm_ (g := g12) (cs := uS (.slice B1 px.length d1) (.slice B2 sx.length d2) PN at_ pad long) 2 PN.cs _ ⟨BK BK12⟩ ?_ rfl rfl rfl Tryz.underlying26 rfl jX (zlw _ _ _ _ _ _))
       | ((with_reducible refine zH (N := 13) rfl ?_); refine be_ 13 Z26 26 ?_; intro g13 hg w3 hbox hb; have BK13 := K_ hbox; have GE13 := ge_ hg HB; have N2P := nb_ hg BK2; have N3P := nb_ hg BK3; have N12P := nb_ hg BK12; replace HZ := K_ (Kd.R_below (RB HZ.out) hb); replace HO1 := K_ (Kd.R_below (RB HO1.out) hb); replace HO2 := K_ (Kd.R_below (RB HO2.out) hb); replace HB := zG HB hb; replace BK2 := zD BK2 hb; replace BK3 := zD BK3 hb; replace BK12 := zD BK12 hb; clear hb hbox hg)
       | ((with_reducible refine zW (p := 13) rfl ?_); refine so_ (g := g13) (cs := Z26) (PN.cs) ⟨BK BK13⟩ ?_ rfl rfl rfl rfl rfl jX rfl rfl; intro w9 hbk hfar hbel; replace HZ := K_ (vY (RB HZ.out) (BK BK13) (by decide) hfar); replace HO1 := K_ (vY (RB HO1.out) (BK BK13) (by decide) hfar); replace HO2 := K_ (vY (RB HO2.out) (BK BK13) (by decide) hfar); replace BK2 := K_ (hfar _ _ N2P.out (BK BK2)); replace BK3 := K_ (hfar _ _ N3P.out (BK BK3)); replace BK12 := K_ (hfar _ _ N12P.out (BK BK12)); replace BK13 := K_ hbk; replace HB := K_ (hbel _ _ GE13.out (BL HB)); clear hbk hfar hbel))
      clear q0 q1 q2 q3
      have HEX2 := K_ True.intro
      refine yL (n := 16) (S := fun W => W.cell? ⟨g12, 0, none⟩ = some (.slice B1 px.length d1) ∧ W.cell? ⟨g12, 1, none⟩ = some (.slice B2 sx.length d2) ∧ W.cell? ⟨g12, 22, none⟩ = some (.int .i64 at_) ∧ W.cell? ⟨g12, 23, none⟩ = some (.int .i32 pad)) (ds := []) #[false, false, false, false, false, false, false, false, false, false, false, false, false, false, false, false] (by kernel_rfl) rfl rfl ⟨(zA (BK BK12) 0).trans rfl, (zA (BK BK12) 1).trans rfl, (zA (BK BK12) 22).trans rfl, (zA (BK BK12) 23).trans rfl⟩ (fun hHeld => ?_)
      refine jM (fun W => W.heap[g12]? = some (.cells (uS (.slice B1 px.length d1) (.slice B2 sx.length d2) PN at_ pad long) 76 (0, 0)) ∧ W.heap[g13]? = some (.cells (PN.cs) 26 (0, 0)) ∧ Kd.R k73 73 W w.heap.size (fun _ => True) (.slice A3 xs.length c3) xs ∧ Kd.R k80 80 W w.heap.size (fun _ => True) (.slice B1 px.length d1) px ∧ Kd.R k80 80 W w.heap.size (fun _ => True) (.slice B2 sx.length d2) sx ∧ W.heap[g2]? = some (.cells Z26 26 (0, 0)) ∧ W.heap[g3]? = some (.cells Z51 51 (0, 0)) ∧ Below w.heap.size w W) ⟨BK BK12, BK BK13, RB HZ.out, RB HO1.out, RB HO2.out, BK BK2, BK BK3, BL HB⟩ ?_
      clear hHeld
      rintro W ⟨hb12, hb13, hz, ho1, ho2, hb2, hb3, hbw⟩
      replace BK12 := K_ hb12
      replace BK13 := K_ hb13
      replace HZ := K_ hz
      replace HO1 := K_ ho1
      replace HO2 := K_ ho2
      replace BK2 := K_ hb2
      replace BK3 := K_ hb3
      replace HB := K_ hbw
      clear hb12 hb13 hz ho1 ho2 hb2 hb3 hbw
      have hHeld := (show W.cell? ⟨g12, 0, none⟩ = some (.slice B1 px.length d1) ∧ W.cell? ⟨g12, 1, none⟩ = some (.slice B2 sx.length d2) ∧ W.cell? ⟨g12, 22, none⟩ = some (.int .i64 at_) ∧ W.cell? ⟨g12, 23, none⟩ = some (.int .i32 pad) from ⟨(zA BK12.out 0).trans rfl, (zA BK12.out 1).trans rfl, (zA BK12.out 22).trans rfl, (zA BK12.out 23).trans rfl⟩)
      refine pu_ 0 (some 104) (bb 16 1) (by kernel_rfl) ?_
      refine pu_ 2 (some 106) (bb 16 5) (by kernel_rfl) ?_
      refine pu_ 4 (some 108) (bb 16 21) (by kernel_rfl) ?_
      refine pu_ 6 (some 110) (bb 16 85) (by kernel_rfl) ?_
      refine tk_ 1 (some 105) (bb 16 87) (by kernel_rfl) hHeld ?_
      refine tk_ 3 (some 107) (bb 16 95) (by kernel_rfl) hHeld ?_
      refine tk_ 5 (some 109) (bb 16 127) (by kernel_rfl) hHeld ?_
      refine tk_ 7 (some 111) (bb 16 255) (by kernel_rfl) hHeld ?_
      refine pu_ 8 (some 112) (bb 16 511) (by kernel_rfl) ?_
      refine zY (i := 9) (N := none) (bb 16 1023) rfl rfl (by kernel_rfl) (by decide) (fun K hK => ?_)
      have hs : W.cell? ⟨g13, 0, none⟩ = some (.slice none 0 0) := (zA BK13.out 0).trans rfl
      have hf := zI BK13.out 0
      refine zak (w1 := W.setCell ⟨g13, 0, none⟩ (.slice B1 px.length d1)) (by rfl) rfl (by go_simp; try rfl) ?_
      refine hK.out _ _ (show (W.setCell ⟨g13, 0, none⟩ (.slice B1 px.length d1)).cell? ⟨g12, 0, none⟩ = some (.slice B1 px.length d1) ∧ (W.setCell ⟨g13, 0, none⟩ (.slice B1 px.length d1)).cell? ⟨g12, 1, none⟩ = some (.slice B2 sx.length d2) ∧ (W.setCell ⟨g13, 0, none⟩ (.slice B1 px.length d1)).cell? ⟨g12, 22, none⟩ = some (.int .i64 at_) ∧ (W.setCell ⟨g13, 0, none⟩ (.slice B1 px.length d1)).cell? ⟨g12, 23, none⟩ = some (.int .i32 pad) from ⟨(zA (zQ BK12.out N12P.out _) 0).trans rfl, (zA (zQ BK12.out N12P.out _) 1).trans rfl, (zA (zQ BK12.out N12P.out _) 22).trans rfl, (zA (zQ BK12.out N12P.out _) 23).trans rfl⟩) (fun _ => ?_)
      clear hK K hs hf hHeld
      refine jM (fun W => W.heap[g12]? = some (.cells (uS (.slice B1 px.length d1) (.slice B2 sx.length d2) PN at_ pad long) 76 (0, 0)) ∧ W.heap[g13]? = some (.cells (xW (.slice B1 px.length d1) (.slice none 0 0) false (.slice none 0 0) (.slice none 0 0) PN 0 0 0) 26 (0, 0)) ∧ Kd.R k73 73 W w.heap.size (fun _ => True) (.slice A3 xs.length c3) xs ∧ Kd.R k80 80 W w.heap.size (fun _ => True) (.slice B1 px.length d1) px ∧ Kd.R k80 80 W w.heap.size (fun _ => True) (.slice B2 sx.length d2) sx ∧ W.heap[g2]? = some (.cells Z26 26 (0, 0)) ∧ W.heap[g3]? = some (.cells Z51 51 (0, 0)) ∧ Below w.heap.size w W) ⟨zQ BK12.out N12P.out _, qX BK13.out rfl, Kd.R_set HZ.out BK13.out (by decide) _ _, Kd.R_set HO1.out BK13.out (by decide) _ _, Kd.R_set HO2.out BK13.out (by decide) _ _, zQ BK2.out N2P.out _, zQ BK3.out N3P.out _, BL HB⟩ ?_
      clear BK12 BK13 HZ HO1 HO2 BK2 BK3 HB
      rintro W ⟨hb12, hb13, hz, ho1, ho2, hb2, hb3, hbw⟩
      have BK12 := K_ hb12
      have BK13 := K_ hb13
      have HZ := K_ hz
      have HO1 := K_ ho1
      have HO2 := K_ ho2
      have BK2 := K_ hb2
      have BK3 := K_ hb3
      have HB := K_ hbw
      clear hb12 hb13 hz ho1 ho2 hb2 hb3 hbw
      have hHeld := (show W.cell? ⟨g12, 0, none⟩ = some (.slice B1 px.length d1) ∧ W.cell? ⟨g12, 1, none⟩ = some (.slice B2 sx.length d2) ∧ W.cell? ⟨g12, 22, none⟩ = some (.int .i64 at_) ∧ W.cell? ⟨g12, 23, none⟩ = some (.int .i32 pad) from ⟨(zA BK12.out 0).trans rfl, (zA BK12.out 1).trans rfl, (zA BK12.out 22).trans rfl, (zA BK12.out 23).trans rfl⟩)
      refine pu_ 10 (some 113) (bb 16 2047) (by kernel_rfl) ?_
      refine zY (i := 11) (N := none) (bb 16 4095) rfl rfl (by kernel_rfl) (by decide) (fun K hK => ?_)
      have hs : W.cell? ⟨g13, 1, none⟩ = some (.slice none 0 0) := (zA BK13.out 1).trans rfl
      have hf := zI BK13.out 1
      refine zak (w1 := W.setCell ⟨g13, 1, none⟩ (.slice B2 sx.length d2)) (by rfl) rfl (by go_simp; try rfl) ?_
      refine hK.out _ _ (show (W.setCell ⟨g13, 1, none⟩ (.slice B2 sx.length d2)).cell? ⟨g12, 0, none⟩ = some (.slice B1 px.length d1) ∧ (W.setCell ⟨g13, 1, none⟩ (.slice B2 sx.length d2)).cell? ⟨g12, 1, none⟩ = some (.slice B2 sx.length d2) ∧ (W.setCell ⟨g13, 1, none⟩ (.slice B2 sx.length d2)).cell? ⟨g12, 22, none⟩ = some (.int .i64 at_) ∧ (W.setCell ⟨g13, 1, none⟩ (.slice B2 sx.length d2)).cell? ⟨g12, 23, none⟩ = some (.int .i32 pad) from ⟨(zA (zQ BK12.out N12P.out _) 0).trans rfl, (zA (zQ BK12.out N12P.out _) 1).trans rfl, (zA (zQ BK12.out N12P.out _) 22).trans rfl, (zA (zQ BK12.out N12P.out _) 23).trans rfl⟩) (fun _ => ?_)
      clear hK K hs hf hHeld
      refine jM (fun W => W.heap[g12]? = some (.cells (uS (.slice B1 px.length d1) (.slice B2 sx.length d2) PN at_ pad long) 76 (0, 0)) ∧ W.heap[g13]? = some (.cells (xW (.slice B1 px.length d1) (.slice B2 sx.length d2) false (.slice none 0 0) (.slice none 0 0) PN 0 0 0) 26 (0, 0)) ∧ Kd.R k73 73 W w.heap.size (fun _ => True) (.slice A3 xs.length c3) xs ∧ Kd.R k80 80 W w.heap.size (fun _ => True) (.slice B1 px.length d1) px ∧ Kd.R k80 80 W w.heap.size (fun _ => True) (.slice B2 sx.length d2) sx ∧ W.heap[g2]? = some (.cells Z26 26 (0, 0)) ∧ W.heap[g3]? = some (.cells Z51 51 (0, 0)) ∧ Below w.heap.size w W) ⟨zQ BK12.out N12P.out _, qX BK13.out rfl, Kd.R_set HZ.out BK13.out (by decide) _ _, Kd.R_set HO1.out BK13.out (by decide) _ _, Kd.R_set HO2.out BK13.out (by decide) _ _, zQ BK2.out N2P.out _, zQ BK3.out N3P.out _, BL HB⟩ ?_
      clear BK12 BK13 HZ HO1 HO2 BK2 BK3 HB
      rintro W ⟨hb12, hb13, hz, ho1, ho2, hb2, hb3, hbw⟩
      have BK12 := K_ hb12
      have BK13 := K_ hb13
      have HZ := K_ hz
      have HO1 := K_ ho1
      have HO2 := K_ ho2
      have BK2 := K_ hb2
      have BK3 := K_ hb3
      have HB := K_ hbw
      clear hb12 hb13 hz ho1 ho2 hb2 hb3 hbw
      have hHeld := (show W.cell? ⟨g12, 0, none⟩ = some (.slice B1 px.length d1) ∧ W.cell? ⟨g12, 1, none⟩ = some (.slice B2 sx.length d2) ∧ W.cell? ⟨g12, 22, none⟩ = some (.int .i64 at_) ∧ W.cell? ⟨g12, 23, none⟩ = some (.int .i32 pad) from ⟨(zA BK12.out 0).trans rfl, (zA BK12.out 1).trans rfl, (zA BK12.out 22).trans rfl, (zA BK12.out 23).trans rfl⟩)
      refine pu_ 12 (some 114) (bb 16 8191) (by kernel_rfl) ?_
      refine zY (i := 13) (N := none) (bb 16 16383) rfl rfl (by kernel_rfl) (by decide) (fun K hK => ?_)
      have hs : W.cell? ⟨g13, 17, none⟩ = some (.int .i64 0) := (zA BK13.out 17).trans rfl
      have hf := zI BK13.out 17
      refine zak (w1 := W.setCell ⟨g13, 17, none⟩ (.int .i64 at_)) (by rfl) rfl (by go_simp; try rfl) ?_
      refine hK.out _ _ (show (W.setCell ⟨g13, 17, none⟩ (.int .i64 at_)).cell? ⟨g12, 0, none⟩ = some (.slice B1 px.length d1) ∧ (W.setCell ⟨g13, 17, none⟩ (.int .i64 at_)).cell? ⟨g12, 1, none⟩ = some (.slice B2 sx.length d2) ∧ (W.setCell ⟨g13, 17, none⟩ (.int .i64 at_)).cell? ⟨g12, 22, none⟩ = some (.int .i64 at_) ∧ (W.setCell ⟨g13, 17, none⟩ (.int .i64 at_)).cell? ⟨g12, 23, none⟩ = some (.int .i32 pad) from ⟨(zA (zQ BK12.out N12P.out _) 0).trans rfl, (zA (zQ BK12.out N12P.out _) 1).trans rfl, (zA (zQ BK12.out N12P.out _) 22).trans rfl, (zA (zQ BK12.out N12P.out _) 23).trans rfl⟩) (fun _ => ?_)
      clear hK K hs hf hHeld
      refine jM (fun W => W.heap[g12]? = some (.cells (uS (.slice B1 px.length d1) (.slice B2 sx.length d2) PN at_ pad long) 76 (0, 0)) ∧ W.heap[g13]? = some (.cells (xW (.slice B1 px.length d1) (.slice B2 sx.length d2) false (.slice none 0 0) (.slice none 0 0) PN at_ 0 0) 26 (0, 0)) ∧ Kd.R k73 73 W w.heap.size (fun _ => True) (.slice A3 xs.length c3) xs ∧ Kd.R k80 80 W w.heap.size (fun _ => True) (.slice B1 px.length d1) px ∧ Kd.R k80 80 W w.heap.size (fun _ => True) (.slice B2 sx.length d2) sx ∧ W.heap[g2]? = some (.cells Z26 26 (0, 0)) ∧ W.heap[g3]? = some (.cells Z51 51 (0, 0)) ∧ Below w.heap.size w W) ⟨zQ BK12.out N12P.out _, qX BK13.out rfl, Kd.R_set HZ.out BK13.out (by decide) _ _, Kd.R_set HO1.out BK13.out (by decide) _ _, Kd.R_set HO2.out BK13.out (by decide) _ _, zQ BK2.out N2P.out _, zQ BK3.out N3P.out _, BL HB⟩ ?_
      clear BK12 BK13 HZ HO1 HO2 BK2 BK3 HB
      rintro W ⟨hb12, hb13, hz, ho1, ho2, hb2, hb3, hbw⟩
      have BK12 := K_ hb12
      have BK13 := K_ hb13
      have HZ := K_ hz
      have HO1 := K_ ho1
      have HO2 := K_ ho2
      have BK2 := K_ hb2
      have BK3 := K_ hb3
      have HB := K_ hbw
      clear hb12 hb13 hz ho1 ho2 hb2 hb3 hbw
      have hHeld := (show W.cell? ⟨g12, 0, none⟩ = some (.slice B1 px.length d1) ∧ W.cell? ⟨g12, 1, none⟩ = some (.slice B2 sx.length d2) ∧ W.cell? ⟨g12, 22, none⟩ = some (.int .i64 at_) ∧ W.cell? ⟨g12, 23, none⟩ = some (.int .i32 pad) from ⟨(zA BK12.out 0).trans rfl, (zA BK12.out 1).trans rfl, (zA BK12.out 22).trans rfl, (zA BK12.out 23).trans rfl⟩)
      refine pu_ 14 (some 115) (bb 16 32767) (by kernel_rfl) ?_
      refine zY (i := 15) (N := none) (bb 16 65535) rfl rfl (by kernel_rfl) (by decide) (fun K hK => ?_)
      have hs : W.cell? ⟨g13, 18, none⟩ = some (.int .i32 0) := (zA BK13.out 18).trans rfl
      have hf := zI BK13.out 18
      refine zak (w1 := W.setCell ⟨g13, 18, none⟩ (.int .i32 pad)) (by rfl) rfl (by go_simp; try rfl) ?_
      refine hK.out _ _ (show (W.setCell ⟨g13, 18, none⟩ (.int .i32 pad)).cell? ⟨g12, 0, none⟩ = some (.slice B1 px.length d1) ∧ (W.setCell ⟨g13, 18, none⟩ (.int .i32 pad)).cell? ⟨g12, 1, none⟩ = some (.slice B2 sx.length d2) ∧ (W.setCell ⟨g13, 18, none⟩ (.int .i32 pad)).cell? ⟨g12, 22, none⟩ = some (.int .i64 at_) ∧ (W.setCell ⟨g13, 18, none⟩ (.int .i32 pad)).cell? ⟨g12, 23, none⟩ = some (.int .i32 pad) from ⟨(zA (zQ BK12.out N12P.out _) 0).trans rfl, (zA (zQ BK12.out N12P.out _) 1).trans rfl, (zA (zQ BK12.out N12P.out _) 22).trans rfl, (zA (zQ BK12.out N12P.out _) 23).trans rfl⟩) (fun _ => ?_)
      clear hK K hs hf hHeld
      refine jM (fun W => W.heap[g12]? = some (.cells (uS (.slice B1 px.length d1) (.slice B2 sx.length d2) PN at_ pad long) 76 (0, 0)) ∧ W.heap[g13]? = some (.cells (xW (.slice B1 px.length d1) (.slice B2 sx.length d2) false (.slice none 0 0) (.slice none 0 0) PN at_ pad 0) 26 (0, 0)) ∧ Kd.R k73 73 W w.heap.size (fun _ => True) (.slice A3 xs.length c3) xs ∧ Kd.R k80 80 W w.heap.size (fun _ => True) (.slice B1 px.length d1) px ∧ Kd.R k80 80 W w.heap.size (fun _ => True) (.slice B2 sx.length d2) sx ∧ W.heap[g2]? = some (.cells Z26 26 (0, 0)) ∧ W.heap[g3]? = some (.cells Z51 51 (0, 0)) ∧ Below w.heap.size w W) ⟨zQ BK12.out N12P.out _, qX BK13.out rfl, Kd.R_set HZ.out BK13.out (by decide) _ _, Kd.R_set HO1.out BK13.out (by decide) _ _, Kd.R_set HO2.out BK13.out (by decide) _ _, zQ BK2.out N2P.out _, zQ BK3.out N3P.out _, BL HB⟩ ?_
      clear BK12 BK13 HZ HO1 HO2 BK2 BK3 HB
      rintro W ⟨hb12, hb13, hz, ho1, ho2, hb2, hb3, hbw⟩
      have BK12 := K_ hb12
      have BK13 := K_ hb13
      have HZ := K_ hz
      have HO1 := K_ ho1
      have HO2 := K_ ho2
      have BK2 := K_ hb2
      have BK3 := K_ hb3
      have HB := K_ hbw
      clear hb12 hb13 hz ho1 ho2 hb2 hb3 hbw
      have hHeld := (show W.cell? ⟨g12, 0, none⟩ = some (.slice B1 px.length d1) ∧ W.cell? ⟨g12, 1, none⟩ = some (.slice B2 sx.length d2) ∧ W.cell? ⟨g12, 22, none⟩ = some (.int .i64 at_) ∧ W.cell? ⟨g12, 23, none⟩ = some (.int .i32 pad) from ⟨(zA BK12.out 0).trans rfl, (zA BK12.out 1).trans rfl, (zA BK12.out 22).trans rfl, (zA BK12.out 23).trans rfl⟩)
      refine yV (by kernel_rfl) ?_
      clear hHeld
      have e0 : W.cell? ⟨g12, 0, none⟩ = some (.slice B1 px.length d1) := (zA BK12.out 0).trans rfl
      have e1 : W.cell? ⟨g12, 1, none⟩ = some (.slice B2 sx.length d2) := (zA BK12.out 1).trans rfl
      have e22 : W.cell? ⟨g12, 22, none⟩ = some (.int .i64 at_) := (zA BK12.out 22).trans rfl
      have e24 : W.cell? ⟨g12, 24, none⟩ = some (.int .i64 long) := (zA BK12.out 24).trans rfl
      have s19 : W.cell? ⟨g13, 19, none⟩ = some (.int .i64 0) := (zA BK13.out 19).trans rfl
      have f19 := zI BK13.out 19
      go_upto_if 118 with (fail)
      go_cut [] from 116 to 129 (fun wx => ∃ wd : Int, wx.heap[g12]? = some (.cells (uS (.slice B1 px.length d1) (.slice B2 sx.length d2) PN at_ pad long) 76 (0, 0)) ∧ wx.heap[g13]? = some (.cells (xW (.slice B1 px.length d1) (.slice B2 sx.length d2) false (.slice none 0 0) (.slice none 0 0) PN at_ pad wd) 26 (0, 0)) ∧ Kd.R k73 73 wx w.heap.size (fun _ => True) (.slice A3 xs.length c3) xs ∧ Kd.R k80 80 wx w.heap.size (fun _ => True) (.slice B1 px.length d1) px ∧ Kd.R k80 80 wx w.heap.size (fun _ => True) (.slice B2 sx.length d2) sx ∧ wx.heap[g2]? = some (.cells Z26 26 (0, 0)) ∧ wx.heap[g3]? = some (.cells Z51 51 (0, 0)) ∧ Below w.heap.size w wx)
      case first =>
       by_cases ha : 0 < at_
       ·have da : decide (0 < at_) = true := decide_eq_true ha
        go_wp2
        go_meet
        case rel => exact ⟨_, zQ BK12.out N12P.out _, qX BK13.out rfl, Kd.R_set HZ.out BK13.out (by decide) _ _, Kd.R_set HO1.out BK13.out (by decide) _ _, Kd.R_set HO2.out BK13.out (by decide) _ _, zQ BK2.out N2P.out _, zQ BK3.out N3P.out _, BL HB⟩
       have da : decide (0 < at_) = false := decide_eq_false ha
       go_wp2
       go_meet
       case rel => exact ⟨0, BK BK12, BK BK13, RB HZ.out, RB HO1.out, RB HO2.out, BK BK2, BK BK3, BL HB⟩
      case rest =>
       obtain ⟨wd, hb12, hb13, hz, ho1, ho2, hb2, hb3, hbw⟩ := hcut
       clear e0 e1 e22 e24 s19 f19
       replace BK12 := K_ hb12
       replace BK13 := K_ hb13
       replace HZ := K_ hz
       replace HO1 := K_ ho1
       replace HO2 := K_ ho2
       replace BK2 := K_ hb2
       replace BK3 := K_ hb3
       replace HB := K_ hbw
       clear hb12 hb13 hz ho1 ho2 hb2 hb3 hbw
       have e0 := (show wc.cell? ⟨g12, 0, none⟩ = some (.slice B1 px.length d1) from (zA BK12.out 0).trans rfl)
       have HLEN := K_ (show (([⟨2, 0⟩] : List S80).length + px.length) * 16 ≤ 140737488355328 by simp; omega)
       go_upto_region 35 with (first
        | ((with_reducible refine zH (N := 131) rfl ?_); refine Kd.R_lit k80 (w0 := w) w.heap.size 80 ?hg (N := 131) ?hd (xs := ([⟨2, 0⟩] : List S80)) (inner := [.int .i64 2, .int .i32 0]) (ok := fun _ => True) (okp := fun _ => True) ?hr ?hp (fun _ hk => hk) trivial (BL HB) (zJ (BL HB)) (by simp) ?_; (case hd => rfl); (case hg => rfl); (case hr => first | (go_simp; done) | (go_simp; rfl)); (case hp => exact zoi _ _ _ (⟨2, 0⟩ : S80)); intro v5 w6 ho5 hb5 hg5 hnew; obtain ⟨b5, hv5, hb5s⟩ := hnew; have hbl := Below.grown (Below.refl _ _) hg5 (Nat.le_refl _) (fun _ h => by cases h); replace HO1 := K_ (Kd.R_elder' (RB HO1.out) (fun k hk => by rw [hv5] at hk; cases hk; exact hb5s) hbl); replace HO2 := K_ (Kd.R_elder' (RB HO2.out) (fun k hk => by rw [hv5] at hk; cases hk; exact hb5s) hbl); replace HZ := K_ (Kd.R_below (RB HZ.out) hbl); replace BK12 := zD BK12 hbl; replace BK13 := zD BK13 hbl; replace BK2 := zD BK2 hbl; replace BK3 := zD BK3 hbl; replace HB := K_ hb5; have HO5 := K_ ho5; clear ho5 hb5 hg5 hv5 hb5s hbl e0; have e0 := (show w6.cell? ⟨g12, 0, none⟩ = some (.slice B1 px.length d1) from (zA BK12.out 0).trans rfl))
        | ((with_reducible refine jD (b := .append) (xs := #[.tmp 131, .tmp 133]) rfl ?_); at_builtin; (refine Kd.R_append_rows k80 (w0 := w) w.heap.size rfl (.tmp 131) (.tmp 133) 24 80 (.agg #[(.int .i64 0), (.int .i32 0)]) 16 rfl Tryz.underlying24 zoz rfl (by decide) (by omega) v5 ([⟨2, 0⟩] : List S80) px B1 px.length d1 (fun _ => True) (fun _ => False) rfl rfl ?aO ?aR (fun _ _ h => h) (fun _ h => h.elim) (fun _ _ => trivial) ?aB ?aS ?aL ?_; (case aO => exact RB HO5.out); (case aR => exact (Kd.R_reads' HO1.out).2.2); (case aB => exact BL HB); (case aS => exact zJ (BL HB)); (case aL => exact HLEN.out); intro v6 w7 ho6 hb6 hg6 hat6; obtain ⟨A6, c6, rfl⟩ := Kd.R_slice ho6; have HO6 := K_ ho6; replace HO1 := K_ (Kd.R_mono (ok' := fun _ => True) (Kd.R_grown HO1.out hg6 (fun k hk => hk.2)) (fun _ _ => trivial)); replace HO2 := K_ (Kd.R_mono (ok' := fun _ => True) (Kd.R_grown HO2.out hg6 (fun k hk => hk.2)) (fun _ _ => trivial)); replace HZ := K_ (Kd.R_over HZ.out HO5.out (by decide) hg6); replace BK12 := K_ (yS BK12.out hg6 (Kd.R_ne HO5.out BK12.out (by decide))); replace BK13 := K_ (yS BK13.out hg6 (Kd.R_ne HO5.out BK13.out (by decide))); replace BK2 := K_ (yS BK2.out hg6 (Kd.R_ne HO5.out BK2.out (by decide))); replace BK3 := K_ (yS BK3.out hg6 (Kd.R_ne HO5.out BK3.out (by decide))); replace HB := K_ hb6; clear ho6 hb6 hg6 hat6 HO5; have s3 := (show w7.cell? ⟨g13, 3, none⟩ = some (.slice none 0 0) from (zA BK13.out 3).trans rfl); have f3 := zI BK13.out 3)))
       refine zbi (fun W => Kd.R k80 80 W w.heap.size (fun _ => True) (.slice A6 ([(⟨2, 0⟩ : S80)] ++ px).length c6) ([⟨2, 0⟩] ++ px) ∧ W.heap[g12]? = some (.cells (uS (.slice B1 px.length d1) (.slice B2 sx.length d2) PN at_ pad long) 76 (0, 0)) ∧ W.heap[g13]? = some (.cells (xW (.slice B1 px.length d1) (.slice B2 sx.length d2) false (.slice A6 ([(⟨2, 0⟩ : S80)] ++ px).length c6) (.slice none 0 0) PN at_ pad wd) 26 (0, 0)) ∧ Kd.R k73 73 W w.heap.size (fun _ => True) (.slice A3 xs.length c3) xs ∧ Kd.R k80 80 W w.heap.size (fun _ => True) (.slice B1 px.length d1) px ∧ Kd.R k80 80 W w.heap.size (fun _ => True) (.slice B2 sx.length d2) sx ∧ W.heap[g2]? = some (.cells Z26 26 (0, 0)) ∧ W.heap[g3]? = some (.cells Z51 51 (0, 0)) ∧ Below w.heap.size w W) ⟨Kd.R_set HO6.out BK13.out (by decide) _ _, zQ BK12.out N12P.out _, qX BK13.out rfl, Kd.R_set HZ.out BK13.out (by decide) _ _, Kd.R_set HO1.out BK13.out (by decide) _ _, Kd.R_set HO2.out BK13.out (by decide) _ _, zQ BK2.out N2P.out _, zQ BK3.out N3P.out _, BL HB⟩ ?_
       clear e0 s3 f3 HO6 BK12 BK13 HZ HO1 HO2 BK2 BK3 HB
       rintro W5 ⟨ho6, hb12, hb13, hz, ho1, ho2, hb2, hb3, hbw⟩
       have HO6 := K_ ho6
       have BK12 := K_ hb12
       have BK13 := K_ hb13
       have HZ := K_ hz
       have HO1 := K_ ho1
       have HO2 := K_ ho2
       have BK2 := K_ hb2
       have BK3 := K_ hb3
       have HB := K_ hbw
       clear hb12 hb13 hz ho1 ho2 hb2 hb3 hbw
       clear ho6
       have e1 := (show W5.cell? ⟨g12, 1, none⟩ = some (.slice B2 sx.length d2) from (zA BK12.out 1).trans rfl)
       have s4 := (show W5.cell? ⟨g13, 4, none⟩ = some (.slice none 0 0) from (zA BK13.out 4).trans rfl)
       have f4 := zI BK13.out 4
       go_upto_if 140 with (fail)
       refine zbi (fun W => Kd.R k80 80 W w.heap.size (fun _ => True) (.slice A6 ([(⟨2, 0⟩ : S80)] ++ px).length c6) ([⟨2, 0⟩] ++ px) ∧ W.heap[g12]? = some (.cells (uS (.slice B1 px.length d1) (.slice B2 sx.length d2) PN at_ pad long) 76 (0, 0)) ∧ W.heap[g13]? = some (.cells (xW (.slice B1 px.length d1) (.slice B2 sx.length d2) false (.slice A6 ([(⟨2, 0⟩ : S80)] ++ px).length c6) (.slice B2 sx.length d2) PN at_ pad wd) 26 (0, 0)) ∧ Kd.R k73 73 W w.heap.size (fun _ => True) (.slice A3 xs.length c3) xs ∧ Kd.R k80 80 W w.heap.size (fun _ => True) (.slice B1 px.length d1) px ∧ Kd.R k80 80 W w.heap.size (fun _ => True) (.slice B2 sx.length d2) sx ∧ W.heap[g2]? = some (.cells Z26 26 (0, 0)) ∧ W.heap[g3]? = some (.cells Z51 51 (0, 0)) ∧ Below w.heap.size w W) ⟨Kd.R_set HO6.out BK13.out (by decide) _ _, zQ BK12.out N12P.out _, qX BK13.out rfl, Kd.R_set HZ.out BK13.out (by decide) _ _, Kd.R_set HO1.out BK13.out (by decide) _ _, Kd.R_set HO2.out BK13.out (by decide) _ _, zQ BK2.out N2P.out _, zQ BK3.out N3P.out _, BL HB⟩ ?_
       clear e1 s4 f4 HO6 BK12 BK13 HZ HO1 HO2 BK2 BK3 HB
       rintro W6 ⟨ho6, hb12, hb13, hz, ho1, ho2, hb2, hb3, hbw⟩
       have HO6 := K_ ho6
       have BK12 := K_ hb12
       have BK13 := K_ hb13
       have HZ := K_ hz
       have HO1 := K_ ho1
       have HO2 := K_ ho2
       have BK2 := K_ hb2
       have BK3 := K_ hb3
       have HB := K_ hbw
       clear hb12 hb13 hz ho1 ho2 hb2 hb3 hbw
       clear ho6
       have HG1 := K_ (show vT px by rw [HPOK.out.2.1]; exact zca _)
       have HG2 := K_ (show vT sx by rw [HPOK.out.2.2]; exact zca _)
       go_cut [14, 15] from 139 to 167 (fun _ _ wx => ∃ (hn : Bool) (v3 v4 : Value) (nx ny : List S80), Kd.R k80 80 wx w.heap.size (fun _ => True) v3 nx ∧ Kd.R k80 80 wx w.heap.size (fun _ => True) v4 ny ∧ (vT nx ∧ vT ny) ∧ nx.length ≤ 1000 ∧ ny.length ≤ 1000 ∧ (xP l → zau l → nx = ⟨2, 0⟩ :: px ∧ ny = sx) ∧ wx.heap[g13]? = some (.cells (xW (.slice B1 px.length d1) (.slice B2 sx.length d2) hn v3 v4 PN at_ pad wd) 26 (0, 0)) ∧ Kd.R k80 80 wx w.heap.size (fun _ => True) (.slice B1 px.length d1) px ∧ Kd.R k80 80 wx w.heap.size (fun _ => True) (.slice B2 sx.length d2) sx ∧ wx.heap[g2]? = some (.cells Z26 26 (0, 0)) ∧ wx.heap[g3]? = some (.cells Z51 51 (0, 0)) ∧ Below w.heap.size w wx)
       case first =>
        by_cases hs0 : 0 ≤ sm
        ·have dsm : decide (0 ≤ sm) = true := decide_eq_true hs0
         obtain ⟨m, hm⟩ := Int.eq_ofNat_of_zero_le hs0
         have hml : m < xs.length := by have := HSM.out; omega
         subst hm
         have HNT := K_ (show xP l → zau l → False from fun q1 q2 => by have := HNS.out q1 q2; omega)
         go_upto_region 37 with (fail)
         obtain ⟨x, hx⟩ : ∃ x, x = xs[m] := ⟨_, rfl⟩
         have hcx := (Kd.R_reads' HZ.out).2.1
         obtain ⟨ad, ea, h0, h1, h2, h3⟩ := zas (Kd.R_reads' HZ.out).2.2 (m : Int) (by omega) (by omega)
         obtain rfl := ea
         rw [zcl hml, ← hx] at h0 h1 h2 h3
         simp only [Int.toNat_natCast] at h0 h1 h2 h3
         clear hx h0 h1 h3
         obtain ⟨m1, hm1⟩ : ∃ m1, m1 = m + 1 := ⟨_, rfl⟩
         have hm1l : m1 ≤ xs.length := by omega
         have hwm : IntKind.i64.wrap ((m : Int) + 1) = ((m1 : Nat) : Int) := by rw [IntKind.wrap_i64]; omega
         have hww : wrap64 ((m : Int) + 1) = ((m1 : Nat) : Int) := by unfold wrap64; omega
         obtain ⟨zs, hzs⟩ : ∃ zs, zs = xs.drop m1 := ⟨_, rfl⟩
         obtain ⟨A4, hA4⟩ : ∃ A4 : Option Addr, (if c3 = m1 then some ad else (some ad).map (·.add (m1 * 4))) = A4 := ⟨_, rfl⟩
         have hzl : xs.length - m1 = zs.length := by rw [hzs, List.length_drop]
         have hzl4 : zs.length ≤ 400 := by omega
         have hc4 := Kd.C_drop (Kd.R_reads' HZ.out).2.2 hm1l hcx
         rw [← hzs, show k73.sz = 4 from rfl, hA4] at hc4
         have HC4 := K_ hc4
         obtain ⟨cz, hcz⟩ : ∃ cz, c3 - m1 = cz := ⟨_, rfl⟩
         have hczl : zs.length ≤ cz := by omega
         have hi0 : (0 : Int) ≤ (m : Int) := by omega
         have hi1 : (m : Int) < (xs.length : Int) := by omega
         obtain ⟨i73, hi73, hsz73⟩ := znl
         have HBX := K_ (Below.refl W6.heap.size W6)
         clear hc4 hzs hm1
         refine yL (n := 19) (S := fun W => W.cell? ⟨(ad.add (m * 4)).block, (ad.add (m * 4)).off + 2, none⟩ = some (.int .i64 x.f0.f2)) (ds := []) #[false, false, false, false, false, false, false, false, false, false, false, false, false, false, false, false, false, false, false] (by kernel_rfl) rfl rfl h2 (fun hHeld => ?_)
         refine jM (fun W => W.cell? ⟨(ad.add (m * 4)).block, (ad.add (m * 4)).off + 2, none⟩ = some (.int .i64 x.f0.f2) ∧ Kd.C k73 W A4 zs.length zs ∧ W.heap[g13]? = some (.cells (xW (.slice B1 px.length d1) (.slice B2 sx.length d2) false (.slice A6 ([(⟨2, 0⟩ : S80)] ++ px).length c6) (.slice B2 sx.length d2) PN at_ pad wd) 26 (0, 0)) ∧ Kd.R k80 80 W w.heap.size (fun _ => True) (.slice B1 px.length d1) px ∧ Kd.R k80 80 W w.heap.size (fun _ => True) (.slice B2 sx.length d2) sx ∧ W.heap[g2]? = some (.cells Z26 26 (0, 0)) ∧ W.heap[g3]? = some (.cells Z51 51 (0, 0)) ∧ Below w.heap.size w W) ⟨h2, Kd.C_below HC4.out (BL HBX), BK BK13, RB HO1.out, RB HO2.out, BK BK2, BK BK3, BL HB⟩ ?_
         clear hHeld h2 HC4 BK12 HZ HO6 HBX BK13 HO1 HO2 BK2 BK3 HB
         rintro W ⟨hHeld, hc4, hb13, ho1, ho2, hb2, hb3, hbw⟩
         have HC4 := K_ hc4
         have BK13 := K_ hb13
         have HO1 := K_ ho1
         have HO2 := K_ ho2
         have BK2 := K_ hb2
         have BK3 := K_ hb3
         have HB := K_ hbw
         clear hc4 hb13 ho1 ho2 hb2 hb3 hbw
         refine pu_ 0 (some 142) (bb 19 1) (by kernel_rfl) ?_
         refine pu_ 1 (some 143) (bb 19 3) (by kernel_rfl) ?_
         refine pu_ 2 (some 144) (bb 19 7) (by kernel_rfl) ?_
         refine yN (i := 3) (N := some 145) (bb 19 15) rfl rfl (by kernel_rfl) (fun _ _ _ h => h) (v := .slice A4 zs.length cz) (Or.inl ⟨by rfl, znF rfl rfl rfl Tryz.underlying69 hi73 hsz73 hm1l hA4 hzl hcz⟩) (by simp only [Act.put, List.setIfInBounds_toArray, List.set_cons_zero, List.set_cons_succ]; rfl) ?_
         refine pu_ 4 (some 146) (bb 19 31) (by kernel_rfl) ?_
         refine pu_ 5 (some 147) (bb 19 63) (by kernel_rfl) ?_
         refine pu_ 6 (some 148) (bb 19 127) (by kernel_rfl) ?_
         refine pu_ 7 (some 149) (bb 19 255) (by kernel_rfl) ?_
         refine pu_ 8 (some 150) (bb 19 511) (by kernel_rfl) ?_
         refine tk_ 9 (some 151) (bb 19 1023) (by kernel_rfl) hHeld ?_
         refine pu_ 10 (some 152) (bb 19 2047) (by kernel_rfl) ?_
         clear hwm hww hi0 hi1 hi73 hsz73
         refine zgU (σ := Value × Int × Int × Nat × Nat) 2 (bb 19 131071) (fun s : Value × Int × Int × Nat × Nat => [(153, .tuple #[s.1, .agg #[.int .i64 s.2.1, .int .i64 s.2.2.1]]), (141, .tuple #[s.1, .agg #[.int .i64 s.2.1, .int .i64 s.2.2.1]]), (154, s.1), (155, .agg #[.int .i64 s.2.1, .int .i64 s.2.2.1]), (14, .pointer (some ⟨s.2.2.2.1, 0, none⟩)), (15, .pointer (some ⟨s.2.2.2.2, 0, none⟩))]) (fun s W => (∃ (B5 : Option Addr) (e5 : Nat) (B6 : Option Addr) (e6 : Nat) (px2 sx2 : List S80) (P2 : jW) (at2 pad2 long2 : Int), s.1 = .agg (uS (.slice B5 px2.length e5) (.slice B6 sx2.length e6) P2 at2 pad2 long2) ∧ Kd.R k80 80 W w.heap.size (fun _ => True) (.slice B5 px2.length e5) px2 ∧ Kd.R k80 80 W w.heap.size (fun _ => True) (.slice B6 sx2.length e6) sx2 ∧ (s.2.1 = 0 → xU zs P2 ∧ px2 = jG (uF zs (uX zs) zs.length) ∧ sx2 = jG (uG zs (uU zs) zs.length))) ∧ W.heap[s.2.2.2.1]? = some (.cells Z76 76 (0, 0)) ∧ W.heap[s.2.2.2.2]? = some (.cells Z51 51 (0, 0)) ∧ s.2.2.2.1 ≠ s.2.2.2.2 ∧ g2 ≠ s.2.2.2.1 ∧ g2 ≠ s.2.2.2.2 ∧ g3 ≠ s.2.2.2.1 ∧ g3 ≠ s.2.2.2.2 ∧ g13 ≠ s.2.2.2.1 ∧ g13 ≠ s.2.2.2.2 ∧ w.heap.size ≤ s.2.2.2.1 ∧ w.heap.size ≤ s.2.2.2.2 ∧ (ad.add (m * 4)).block ≠ s.2.2.2.1 ∧ (ad.add (m * 4)).block ≠ s.2.2.2.2 ∧ W.cell? ⟨(ad.add (m * 4)).block, (ad.add (m * 4)).off + 2, none⟩ = some (.int .i64 x.f0.f2) ∧ W.heap[g13]? = some (.cells (xW (.slice B1 px.length d1) (.slice B2 sx.length d2) false (.slice A6 ([(⟨2, 0⟩ : S80)] ++ px).length c6) (.slice B2 sx.length d2) PN at_ pad wd) 26 (0, 0)) ∧ Kd.R k80 80 W w.heap.size (fun _ => True) (.slice B1 px.length d1) px ∧ Kd.R k80 80 W w.heap.size (fun _ => True) (.slice B2 sx.length d2) sx ∧ W.heap[g2]? = some (.cells Z26 26 (0, 0)) ∧ W.heap[g3]? = some (.cells Z51 51 (0, 0)) ∧ Below w.heap.size w W) ?hc37 ?hr37
         case hr37 =>
          intro hCont
          refine zoh (i := 11) (j := 15) (k := 16) (Ni := some 153) (Nj := some 14) (Nk := some 15) (bb 19 4095) (bb 19 34815) (bb 19 67583) rfl rfl rfl rfl rfl rfl (by kernel_rfl) (by decide) (by decide) (by decide) (fun K hK => ?_) (fun K hK => ?_) (fun K hK => ?_)
          ·skip
           refine jN Tryz.func57 (by kernel_rfl) rfl #[.slice A4 zs.length cz, .int .i64 _, .bool false] (by rfl) rfl rfl (by (try simp only [List.map_toArray]); (try simp only [List.map_cons]); (try simp only [List.map_nil]); first | done | rfl) ?_
           refine (zbF A4 cz zs _ false _ HC4.out hczl (by omega)).mono ?_
           rintro e9 w20 ⟨v1, v2, px2, sx2, P2, at2, pad2, long2, E3, a3, rfl, hq1, hq2, hb, hpost, -⟩
           obtain ⟨B5, e5, rfl⟩ := Kd.R_slice hq1
           obtain ⟨B6, e6, rfl⟩ := Kd.R_slice hq2
           refine ⟨_, rfl, ?_⟩
           have HPQ := K_ hpost
           have HQ1 := K_ (Kd.R_lower hq1 (zJ HB.out))
           have HQ2 := K_ (Kd.R_lower hq2 (zJ HB.out))
           have hh20 := (Below.cell hb (World.block_lt_of_cell? _ _ hHeld)).trans hHeld
           replace HC4 := K_ (Kd.C_below HC4.out hb)
           replace HO1 := K_ (Kd.R_below HO1.out hb)
           replace HO2 := K_ (Kd.R_below HO2.out hb)
           replace BK13 := zD BK13 hb
           replace BK2 := zD BK2 hb
           replace BK3 := zD BK3 hb
           replace HB := zG HB hb
           clear hb hpost hq1 hq2 hHeld
           have hHeld := hh20
           clear hh20
           refine hK.out _ _ hHeld (fun _ => ?_)
           clear hK K
           refine jL (a' := ?_) ?_ ?_
           rotate_left
           ·show Act.put _ (some 153) _ = _
            simp only [Act.put, List.setIfInBounds_toArray, List.set_cons_zero, List.set_cons_succ]
            rfl
           refine pu_ 12 (some 141) (bb 19 8191) (by kernel_rfl) ?_
           refine pu_ 13 (some 154) (bb 19 16383) (by kernel_rfl) ?_
           refine pu_ 14 (some 155) (bb 19 32767) (by kernel_rfl) ?_
           refine zev (i := 15) (j := 16) (Ni := some 14) (Nj := some 15) (bb 19 65535) (bb 19 98303) rfl rfl rfl rfl (by kernel_rfl) (by decide) (by decide) (fun K hK => ?_) (fun K hK => ?_)
           ·skip
            refine qZ ?hg (N := 14) ?hd (cs := Z76) (t := 76) ?hr ?_; (case hd => rfl); (case hg => rfl); (case hr => first | (go_simp; done) | (go_simp; rfl))
            intro g14 hg w21 hbox hb
            have BK14 := K_ hbox
            have GE14 := ge_ hg HB
            have N2x14 := nb_ hg BK2
            have N3x14 := nb_ hg BK3
            have N13x14 := nb_ hg BK13
            have NCx14 := zdg hHeld hg
            have hh21 := (Below.cell hb (World.block_lt_of_cell? _ _ hHeld)).trans hHeld
            replace HC4 := K_ (Kd.C_below HC4.out hb)
            replace HO1 := K_ (Kd.R_below HO1.out hb)
            replace HO2 := K_ (Kd.R_below HO2.out hb)
            replace HQ1 := K_ (Kd.R_below HQ1.out hb)
            replace HQ2 := K_ (Kd.R_below HQ2.out hb)
            replace BK13 := zD BK13 hb
            replace BK2 := zD BK2 hb
            replace BK3 := zD BK3 hb
            replace HB := zG HB hb
            clear hb hbox hg hHeld
            have hHeld := hh21
            clear hh21
            refine hK.out _ _ hHeld (fun _ => ?_)
            clear hK K
            refine jL (a' := ?_) ?_ ?_
            rotate_left
            ·show Act.put _ (some 14) _ = _
             simp only [Act.put, List.setIfInBounds_toArray, List.set_cons_zero, List.set_cons_succ]
             rfl
            refine zY (i := 16) (N := some 15) (bb 19 131071) rfl rfl (by kernel_rfl) (by decide) (fun K hK => ?_)
            refine qZ ?hg (N := 15) ?hd (cs := Z51) (t := 51) ?hr ?_; (case hd => rfl); (case hg => rfl); (case hr => first | (go_simp; done) | (go_simp; rfl))
            intro g15 hg w22 hbox hb
            have BK15 := K_ hbox
            have GE15 := ge_ hg HB
            have N2x15 := nb_ hg BK2
            have N3x15 := nb_ hg BK3
            have N13x15 := nb_ hg BK13
            have NCx15 := zdg hHeld hg
            have N1415 := nb_ hg BK14
            have hh22 := (Below.cell hb (World.block_lt_of_cell? _ _ hHeld)).trans hHeld
            replace HC4 := K_ (Kd.C_below HC4.out hb)
            replace HO1 := K_ (Kd.R_below HO1.out hb)
            replace HO2 := K_ (Kd.R_below HO2.out hb)
            replace HQ1 := K_ (Kd.R_below HQ1.out hb)
            replace HQ2 := K_ (Kd.R_below HQ2.out hb)
            replace BK13 := zD BK13 hb
            replace BK2 := zD BK2 hb
            replace BK3 := zD BK3 hb
            replace BK14 := zD BK14 hb
            replace HB := zG HB hb
            clear hb hbox hg hHeld
            have hHeld := hh22
            clear hh22
            refine hK.out _ _ hHeld (fun _ => ?_)
            clear hK K
            refine jL (a' := ?_) ?_ ?_
            rotate_left
            ·show Act.put _ (some 15) _ = _
             simp only [Act.put, List.setIfInBounds_toArray, List.set_cons_zero, List.set_cons_succ]
             rfl
            exact jL (by simp only [xB, Act.put, List.setIfInBounds_toArray, List.set_cons_zero, List.set_cons_succ]) (hCont (.agg (uS (.slice B5 px2.length e5) (.slice B6 sx2.length e6) P2 at2 pad2 long2), E3, a3, g14, g15) _ ⟨⟨B5, e5, B6, e6, px2, sx2, P2, at2, pad2, long2, rfl, HQ1.out, HQ2.out, HPQ.out⟩, BK14.out, BK15.out, N1415.out, N2x14.out, N2x15.out, N3x14.out, N3x15.out, N13x14.out, N13x15.out, GE14.out, GE15.out, NCx14, NCx15, hHeld, BK13.out, HO1.out, HO2.out, BK2.out, BK3.out, HB.out⟩)
           skip
           refine qZ ?hg (N := 15) ?hd (cs := Z51) (t := 51) ?hr ?_; (case hd => rfl); (case hg => rfl); (case hr => first | (go_simp; done) | (go_simp; rfl))
           intro g15 hg w21 hbox hb
           have BK15 := K_ hbox
           have GE15 := ge_ hg HB
           have N2x15 := nb_ hg BK2
           have N3x15 := nb_ hg BK3
           have N13x15 := nb_ hg BK13
           have NCx15 := zdg hHeld hg
           have hh21 := (Below.cell hb (World.block_lt_of_cell? _ _ hHeld)).trans hHeld
           replace HC4 := K_ (Kd.C_below HC4.out hb)
           replace HO1 := K_ (Kd.R_below HO1.out hb)
           replace HO2 := K_ (Kd.R_below HO2.out hb)
           replace HQ1 := K_ (Kd.R_below HQ1.out hb)
           replace HQ2 := K_ (Kd.R_below HQ2.out hb)
           replace BK13 := zD BK13 hb
           replace BK2 := zD BK2 hb
           replace BK3 := zD BK3 hb
           replace HB := zG HB hb
           clear hb hbox hg hHeld
           have hHeld := hh21
           clear hh21
           refine hK.out _ _ hHeld (fun _ => ?_)
           clear hK K
           refine jL (a' := ?_) ?_ ?_
           rotate_left
           ·show Act.put _ (some 15) _ = _
            simp only [Act.put, List.setIfInBounds_toArray, List.set_cons_zero, List.set_cons_succ]
            rfl
           refine zY (i := 15) (N := some 14) (bb 19 131071) rfl rfl (by kernel_rfl) (by decide) (fun K hK => ?_)
           refine qZ ?hg (N := 14) ?hd (cs := Z76) (t := 76) ?hr ?_; (case hd => rfl); (case hg => rfl); (case hr => first | (go_simp; done) | (go_simp; rfl))
           intro g14 hg w22 hbox hb
           have BK14 := K_ hbox
           have GE14 := ge_ hg HB
           have N2x14 := nb_ hg BK2
           have N3x14 := nb_ hg BK3
           have N13x14 := nb_ hg BK13
           have NCx14 := zdg hHeld hg
           have NX := nb_ hg BK15
           have N1415 := K_ (Ne.symm NX.out)
           clear NX
           have hh22 := (Below.cell hb (World.block_lt_of_cell? _ _ hHeld)).trans hHeld
           replace HC4 := K_ (Kd.C_below HC4.out hb)
           replace HO1 := K_ (Kd.R_below HO1.out hb)
           replace HO2 := K_ (Kd.R_below HO2.out hb)
           replace HQ1 := K_ (Kd.R_below HQ1.out hb)
           replace HQ2 := K_ (Kd.R_below HQ2.out hb)
           replace BK13 := zD BK13 hb
           replace BK2 := zD BK2 hb
           replace BK3 := zD BK3 hb
           replace BK15 := zD BK15 hb
           replace HB := zG HB hb
           clear hb hbox hg hHeld
           have hHeld := hh22
           clear hh22
           refine hK.out _ _ hHeld (fun _ => ?_)
           clear hK K
           refine jL (a' := ?_) ?_ ?_
           rotate_left
           ·show Act.put _ (some 14) _ = _
            simp only [Act.put, List.setIfInBounds_toArray, List.set_cons_zero, List.set_cons_succ]
            rfl
           exact jL (by simp only [xB, Act.put, List.setIfInBounds_toArray, List.set_cons_zero, List.set_cons_succ]) (hCont (.agg (uS (.slice B5 px2.length e5) (.slice B6 sx2.length e6) P2 at2 pad2 long2), E3, a3, g14, g15) _ ⟨⟨B5, e5, B6, e6, px2, sx2, P2, at2, pad2, long2, rfl, HQ1.out, HQ2.out, HPQ.out⟩, BK14.out, BK15.out, N1415.out, N2x14.out, N2x15.out, N3x14.out, N3x15.out, N13x14.out, N13x15.out, GE14.out, GE15.out, NCx14, NCx15, hHeld, BK13.out, HO1.out, HO2.out, BK2.out, BK3.out, HB.out⟩)
          ·skip
           refine qZ ?hg (N := 14) ?hd (cs := Z76) (t := 76) ?hr ?_; (case hd => rfl); (case hg => rfl); (case hr => first | (go_simp; done) | (go_simp; rfl))
           intro g14 hg w20 hbox hb
           have BK14 := K_ hbox
           have GE14 := ge_ hg HB
           have N2x14 := nb_ hg BK2
           have N3x14 := nb_ hg BK3
           have N13x14 := nb_ hg BK13
           have NCx14 := zdg hHeld hg
           have hh20 := (Below.cell hb (World.block_lt_of_cell? _ _ hHeld)).trans hHeld
           replace HC4 := K_ (Kd.C_below HC4.out hb)
           replace HO1 := K_ (Kd.R_below HO1.out hb)
           replace HO2 := K_ (Kd.R_below HO2.out hb)
           replace BK13 := zD BK13 hb
           replace BK2 := zD BK2 hb
           replace BK3 := zD BK3 hb
           replace HB := zG HB hb
           clear hb hbox hg hHeld
           have hHeld := hh20
           clear hh20
           refine hK.out _ _ hHeld (fun _ => ?_)
           clear hK K
           refine jL (a' := ?_) ?_ ?_
           rotate_left
           ·show Act.put _ (some 14) _ = _
            simp only [Act.put, List.setIfInBounds_toArray, List.set_cons_zero, List.set_cons_succ]
            rfl
           refine zev (i := 11) (j := 16) (Ni := some 153) (Nj := some 15) (bb 19 36863) (bb 19 100351) rfl rfl rfl rfl (by kernel_rfl) (by decide) (by decide) (fun K hK => ?_) (fun K hK => ?_)
           ·skip
            refine jN Tryz.func57 (by kernel_rfl) rfl #[.slice A4 zs.length cz, .int .i64 _, .bool false] (by rfl) rfl rfl (by (try simp only [List.map_toArray]); (try simp only [List.map_cons]); (try simp only [List.map_nil]); first | done | rfl) ?_
            refine (zbF A4 cz zs _ false _ HC4.out hczl (by omega)).mono ?_
            rintro e9 w21 ⟨v1, v2, px2, sx2, P2, at2, pad2, long2, E3, a3, rfl, hq1, hq2, hb, hpost, -⟩
            obtain ⟨B5, e5, rfl⟩ := Kd.R_slice hq1
            obtain ⟨B6, e6, rfl⟩ := Kd.R_slice hq2
            refine ⟨_, rfl, ?_⟩
            have HPQ := K_ hpost
            have HQ1 := K_ (Kd.R_lower hq1 (zJ HB.out))
            have HQ2 := K_ (Kd.R_lower hq2 (zJ HB.out))
            have hh21 := (Below.cell hb (World.block_lt_of_cell? _ _ hHeld)).trans hHeld
            replace HC4 := K_ (Kd.C_below HC4.out hb)
            replace HO1 := K_ (Kd.R_below HO1.out hb)
            replace HO2 := K_ (Kd.R_below HO2.out hb)
            replace BK13 := zD BK13 hb
            replace BK2 := zD BK2 hb
            replace BK3 := zD BK3 hb
            replace BK14 := zD BK14 hb
            replace HB := zG HB hb
            clear hb hpost hq1 hq2 hHeld
            have hHeld := hh21
            clear hh21
            refine hK.out _ _ hHeld (fun _ => ?_)
            clear hK K
            refine jL (a' := ?_) ?_ ?_
            rotate_left
            ·show Act.put _ (some 153) _ = _
             simp only [Act.put, List.setIfInBounds_toArray, List.set_cons_zero, List.set_cons_succ]
             rfl
            refine pu_ 12 (some 141) (bb 19 40959) (by kernel_rfl) ?_
            refine pu_ 13 (some 154) (bb 19 49151) (by kernel_rfl) ?_
            refine pu_ 14 (some 155) (bb 19 65535) (by kernel_rfl) ?_
            refine zY (i := 16) (N := some 15) (bb 19 131071) rfl rfl (by kernel_rfl) (by decide) (fun K hK => ?_)
            refine qZ ?hg (N := 15) ?hd (cs := Z51) (t := 51) ?hr ?_; (case hd => rfl); (case hg => rfl); (case hr => first | (go_simp; done) | (go_simp; rfl))
            intro g15 hg w22 hbox hb
            have BK15 := K_ hbox
            have GE15 := ge_ hg HB
            have N2x15 := nb_ hg BK2
            have N3x15 := nb_ hg BK3
            have N13x15 := nb_ hg BK13
            have NCx15 := zdg hHeld hg
            have N1415 := nb_ hg BK14
            have hh22 := (Below.cell hb (World.block_lt_of_cell? _ _ hHeld)).trans hHeld
            replace HC4 := K_ (Kd.C_below HC4.out hb)
            replace HO1 := K_ (Kd.R_below HO1.out hb)
            replace HO2 := K_ (Kd.R_below HO2.out hb)
            replace HQ1 := K_ (Kd.R_below HQ1.out hb)
            replace HQ2 := K_ (Kd.R_below HQ2.out hb)
            replace BK13 := zD BK13 hb
            replace BK2 := zD BK2 hb
            replace BK3 := zD BK3 hb
            replace BK14 := zD BK14 hb
            replace HB := zG HB hb
            clear hb hbox hg hHeld
            have hHeld := hh22
            clear hh22
            refine hK.out _ _ hHeld (fun _ => ?_)
            clear hK K
            refine jL (a' := ?_) ?_ ?_
            rotate_left
            ·show Act.put _ (some 15) _ = _
             simp only [Act.put, List.setIfInBounds_toArray, List.set_cons_zero, List.set_cons_succ]
             rfl
            exact jL (by simp only [xB, Act.put, List.setIfInBounds_toArray, List.set_cons_zero, List.set_cons_succ]) (hCont (.agg (uS (.slice B5 px2.length e5) (.slice B6 sx2.length e6) P2 at2 pad2 long2), E3, a3, g14, g15) _ ⟨⟨B5, e5, B6, e6, px2, sx2, P2, at2, pad2, long2, rfl, HQ1.out, HQ2.out, HPQ.out⟩, BK14.out, BK15.out, N1415.out, N2x14.out, N2x15.out, N3x14.out, N3x15.out, N13x14.out, N13x15.out, GE14.out, GE15.out, NCx14, NCx15, hHeld, BK13.out, HO1.out, HO2.out, BK2.out, BK3.out, HB.out⟩)
           skip
           refine qZ ?hg (N := 15) ?hd (cs := Z51) (t := 51) ?hr ?_; (case hd => rfl); (case hg => rfl); (case hr => first | (go_simp; done) | (go_simp; rfl))
           intro g15 hg w21 hbox hb
           have BK15 := K_ hbox
           have GE15 := ge_ hg HB
           have N2x15 := nb_ hg BK2
           have N3x15 := nb_ hg BK3
           have N13x15 := nb_ hg BK13
           have NCx15 := zdg hHeld hg
           have N1415 := nb_ hg BK14
           have hh21 := (Below.cell hb (World.block_lt_of_cell? _ _ hHeld)).trans hHeld
           replace HC4 := K_ (Kd.C_below HC4.out hb)
           replace HO1 := K_ (Kd.R_below HO1.out hb)
           replace HO2 := K_ (Kd.R_below HO2.out hb)
           replace BK13 := zD BK13 hb
           replace BK2 := zD BK2 hb
           replace BK3 := zD BK3 hb
           replace BK14 := zD BK14 hb
           replace HB := zG HB hb
           clear hb hbox hg hHeld
           have hHeld := hh21
           clear hh21
           refine hK.out _ _ hHeld (fun _ => ?_)
           clear hK K
           refine jL (a' := ?_) ?_ ?_
           rotate_left
           ·show Act.put _ (some 15) _ = _
            simp only [Act.put, List.setIfInBounds_toArray, List.set_cons_zero, List.set_cons_succ]
            rfl
           refine zY (i := 11) (N := some 153) (bb 19 102399) rfl rfl (by kernel_rfl) (by decide) (fun K hK => ?_)
           refine jN Tryz.func57 (by kernel_rfl) rfl #[.slice A4 zs.length cz, .int .i64 _, .bool false] (by rfl) rfl rfl (by (try simp only [List.map_toArray]); (try simp only [List.map_cons]); (try simp only [List.map_nil]); first | done | rfl) ?_
           refine (zbF A4 cz zs _ false _ HC4.out hczl (by omega)).mono ?_
           rintro e9 w22 ⟨v1, v2, px2, sx2, P2, at2, pad2, long2, E3, a3, rfl, hq1, hq2, hb, hpost, -⟩
           obtain ⟨B5, e5, rfl⟩ := Kd.R_slice hq1
           obtain ⟨B6, e6, rfl⟩ := Kd.R_slice hq2
           refine ⟨_, rfl, ?_⟩
           have HPQ := K_ hpost
           have HQ1 := K_ (Kd.R_lower hq1 (zJ HB.out))
           have HQ2 := K_ (Kd.R_lower hq2 (zJ HB.out))
           have hh22 := (Below.cell hb (World.block_lt_of_cell? _ _ hHeld)).trans hHeld
           replace HC4 := K_ (Kd.C_below HC4.out hb)
           replace HO1 := K_ (Kd.R_below HO1.out hb)
           replace HO2 := K_ (Kd.R_below HO2.out hb)
           replace BK13 := zD BK13 hb
           replace BK2 := zD BK2 hb
           replace BK3 := zD BK3 hb
           replace BK14 := zD BK14 hb
           replace BK15 := zD BK15 hb
           replace HB := zG HB hb
           clear hb hpost hq1 hq2 hHeld
           have hHeld := hh22
           clear hh22
           refine hK.out _ _ hHeld (fun _ => ?_)
           clear hK K
           refine jL (a' := ?_) ?_ ?_
           rotate_left
           ·show Act.put _ (some 153) _ = _
            simp only [Act.put, List.setIfInBounds_toArray, List.set_cons_zero, List.set_cons_succ]
            rfl
           refine pu_ 12 (some 141) (bb 19 106495) (by kernel_rfl) ?_
           refine pu_ 13 (some 154) (bb 19 114687) (by kernel_rfl) ?_
           refine pu_ 14 (some 155) (bb 19 131071) (by kernel_rfl) ?_
           exact jL (by simp only [xB, Act.put, List.setIfInBounds_toArray, List.set_cons_zero, List.set_cons_succ]) (hCont (.agg (uS (.slice B5 px2.length e5) (.slice B6 sx2.length e6) P2 at2 pad2 long2), E3, a3, g14, g15) _ ⟨⟨B5, e5, B6, e6, px2, sx2, P2, at2, pad2, long2, rfl, HQ1.out, HQ2.out, HPQ.out⟩, BK14.out, BK15.out, N1415.out, N2x14.out, N2x15.out, N3x14.out, N3x15.out, N13x14.out, N13x15.out, GE14.out, GE15.out, NCx14, NCx15, hHeld, BK13.out, HO1.out, HO2.out, BK2.out, BK3.out, HB.out⟩)
          skip
          refine qZ ?hg (N := 15) ?hd (cs := Z51) (t := 51) ?hr ?_; (case hd => rfl); (case hg => rfl); (case hr => first | (go_simp; done) | (go_simp; rfl))
          intro g15 hg w20 hbox hb
          have BK15 := K_ hbox
          have GE15 := ge_ hg HB
          have N2x15 := nb_ hg BK2
          have N3x15 := nb_ hg BK3
          have N13x15 := nb_ hg BK13
          have NCx15 := zdg hHeld hg
          have hh20 := (Below.cell hb (World.block_lt_of_cell? _ _ hHeld)).trans hHeld
          replace HC4 := K_ (Kd.C_below HC4.out hb)
          replace HO1 := K_ (Kd.R_below HO1.out hb)
          replace HO2 := K_ (Kd.R_below HO2.out hb)
          replace BK13 := zD BK13 hb
          replace BK2 := zD BK2 hb
          replace BK3 := zD BK3 hb
          replace HB := zG HB hb
          clear hb hbox hg hHeld
          have hHeld := hh20
          clear hh20
          refine hK.out _ _ hHeld (fun _ => ?_)
          clear hK K
          refine jL (a' := ?_) ?_ ?_
          rotate_left
          ·show Act.put _ (some 15) _ = _
           simp only [Act.put, List.setIfInBounds_toArray, List.set_cons_zero, List.set_cons_succ]
           rfl
          refine zev (i := 11) (j := 15) (Ni := some 153) (Nj := some 14) (bb 19 69631) (bb 19 100351) rfl rfl rfl rfl (by kernel_rfl) (by decide) (by decide) (fun K hK => ?_) (fun K hK => ?_)
          ·skip
           refine jN Tryz.func57 (by kernel_rfl) rfl #[.slice A4 zs.length cz, .int .i64 _, .bool false] (by rfl) rfl rfl (by (try simp only [List.map_toArray]); (try simp only [List.map_cons]); (try simp only [List.map_nil]); first | done | rfl) ?_
           refine (zbF A4 cz zs _ false _ HC4.out hczl (by omega)).mono ?_
           rintro e9 w21 ⟨v1, v2, px2, sx2, P2, at2, pad2, long2, E3, a3, rfl, hq1, hq2, hb, hpost, -⟩
           obtain ⟨B5, e5, rfl⟩ := Kd.R_slice hq1
           obtain ⟨B6, e6, rfl⟩ := Kd.R_slice hq2
           refine ⟨_, rfl, ?_⟩
           have HPQ := K_ hpost
           have HQ1 := K_ (Kd.R_lower hq1 (zJ HB.out))
           have HQ2 := K_ (Kd.R_lower hq2 (zJ HB.out))
           have hh21 := (Below.cell hb (World.block_lt_of_cell? _ _ hHeld)).trans hHeld
           replace HC4 := K_ (Kd.C_below HC4.out hb)
           replace HO1 := K_ (Kd.R_below HO1.out hb)
           replace HO2 := K_ (Kd.R_below HO2.out hb)
           replace BK13 := zD BK13 hb
           replace BK2 := zD BK2 hb
           replace BK3 := zD BK3 hb
           replace BK15 := zD BK15 hb
           replace HB := zG HB hb
           clear hb hpost hq1 hq2 hHeld
           have hHeld := hh21
           clear hh21
           refine hK.out _ _ hHeld (fun _ => ?_)
           clear hK K
           refine jL (a' := ?_) ?_ ?_
           rotate_left
           ·show Act.put _ (some 153) _ = _
            simp only [Act.put, List.setIfInBounds_toArray, List.set_cons_zero, List.set_cons_succ]
            rfl
           refine pu_ 12 (some 141) (bb 19 73727) (by kernel_rfl) ?_
           refine pu_ 13 (some 154) (bb 19 81919) (by kernel_rfl) ?_
           refine pu_ 14 (some 155) (bb 19 98303) (by kernel_rfl) ?_
           refine zY (i := 15) (N := some 14) (bb 19 131071) rfl rfl (by kernel_rfl) (by decide) (fun K hK => ?_)
           refine qZ ?hg (N := 14) ?hd (cs := Z76) (t := 76) ?hr ?_; (case hd => rfl); (case hg => rfl); (case hr => first | (go_simp; done) | (go_simp; rfl))
           intro g14 hg w22 hbox hb
           have BK14 := K_ hbox
           have GE14 := ge_ hg HB
           have N2x14 := nb_ hg BK2
           have N3x14 := nb_ hg BK3
           have N13x14 := nb_ hg BK13
           have NCx14 := zdg hHeld hg
           have NX := nb_ hg BK15
           have N1415 := K_ (Ne.symm NX.out)
           clear NX
           have hh22 := (Below.cell hb (World.block_lt_of_cell? _ _ hHeld)).trans hHeld
           replace HC4 := K_ (Kd.C_below HC4.out hb)
           replace HO1 := K_ (Kd.R_below HO1.out hb)
           replace HO2 := K_ (Kd.R_below HO2.out hb)
           replace HQ1 := K_ (Kd.R_below HQ1.out hb)
           replace HQ2 := K_ (Kd.R_below HQ2.out hb)
           replace BK13 := zD BK13 hb
           replace BK2 := zD BK2 hb
           replace BK3 := zD BK3 hb
           replace BK15 := zD BK15 hb
           replace HB := zG HB hb
           clear hb hbox hg hHeld
           have hHeld := hh22
           clear hh22
           refine hK.out _ _ hHeld (fun _ => ?_)
           clear hK K
           refine jL (a' := ?_) ?_ ?_
           rotate_left
           ·show Act.put _ (some 14) _ = _
            simp only [Act.put, List.setIfInBounds_toArray, List.set_cons_zero, List.set_cons_succ]
            rfl
           exact jL (by simp only [xB, Act.put, List.setIfInBounds_toArray, List.set_cons_zero, List.set_cons_succ]) (hCont (.agg (uS (.slice B5 px2.length e5) (.slice B6 sx2.length e6) P2 at2 pad2 long2), E3, a3, g14, g15) _ ⟨⟨B5, e5, B6, e6, px2, sx2, P2, at2, pad2, long2, rfl, HQ1.out, HQ2.out, HPQ.out⟩, BK14.out, BK15.out, N1415.out, N2x14.out, N2x15.out, N3x14.out, N3x15.out, N13x14.out, N13x15.out, GE14.out, GE15.out, NCx14, NCx15, hHeld, BK13.out, HO1.out, HO2.out, BK2.out, BK3.out, HB.out⟩)
          skip
          refine qZ ?hg (N := 14) ?hd (cs := Z76) (t := 76) ?hr ?_; (case hd => rfl); (case hg => rfl); (case hr => first | (go_simp; done) | (go_simp; rfl))
          intro g14 hg w21 hbox hb
          have BK14 := K_ hbox
          have GE14 := ge_ hg HB
          have N2x14 := nb_ hg BK2
          have N3x14 := nb_ hg BK3
          have N13x14 := nb_ hg BK13
          have NCx14 := zdg hHeld hg
          have NX := nb_ hg BK15
          have N1415 := K_ (Ne.symm NX.out)
          clear NX
          have hh21 := (Below.cell hb (World.block_lt_of_cell? _ _ hHeld)).trans hHeld
          replace HC4 := K_ (Kd.C_below HC4.out hb)
          replace HO1 := K_ (Kd.R_below HO1.out hb)
          replace HO2 := K_ (Kd.R_below HO2.out hb)
          replace BK13 := zD BK13 hb
          replace BK2 := zD BK2 hb
          replace BK3 := zD BK3 hb
          replace BK15 := zD BK15 hb
          replace HB := zG HB hb
          clear hb hbox hg hHeld
          have hHeld := hh21
          clear hh21
          refine hK.out _ _ hHeld (fun _ => ?_)
          clear hK K
          refine jL (a' := ?_) ?_ ?_
          rotate_left
          ·show Act.put _ (some 14) _ = _
           simp only [Act.put, List.setIfInBounds_toArray, List.set_cons_zero, List.set_cons_succ]
           rfl
          refine zY (i := 11) (N := some 153) (bb 19 102399) rfl rfl (by kernel_rfl) (by decide) (fun K hK => ?_)
          refine jN Tryz.func57 (by kernel_rfl) rfl #[.slice A4 zs.length cz, .int .i64 _, .bool false] (by rfl) rfl rfl (by (try simp only [List.map_toArray]); (try simp only [List.map_cons]); (try simp only [List.map_nil]); first | done | rfl) ?_
          refine (zbF A4 cz zs _ false _ HC4.out hczl (by omega)).mono ?_
          rintro e9 w22 ⟨v1, v2, px2, sx2, P2, at2, pad2, long2, E3, a3, rfl, hq1, hq2, hb, hpost, -⟩
          obtain ⟨B5, e5, rfl⟩ := Kd.R_slice hq1
          obtain ⟨B6, e6, rfl⟩ := Kd.R_slice hq2
          refine ⟨_, rfl, ?_⟩
          have HPQ := K_ hpost
          have HQ1 := K_ (Kd.R_lower hq1 (zJ HB.out))
          have HQ2 := K_ (Kd.R_lower hq2 (zJ HB.out))
          have hh22 := (Below.cell hb (World.block_lt_of_cell? _ _ hHeld)).trans hHeld
          replace HC4 := K_ (Kd.C_below HC4.out hb)
          replace HO1 := K_ (Kd.R_below HO1.out hb)
          replace HO2 := K_ (Kd.R_below HO2.out hb)
          replace BK13 := zD BK13 hb
          replace BK2 := zD BK2 hb
          replace BK3 := zD BK3 hb
          replace BK14 := zD BK14 hb
          replace BK15 := zD BK15 hb
          replace HB := zG HB hb
          clear hb hpost hq1 hq2 hHeld
          have hHeld := hh22
          clear hh22
          refine hK.out _ _ hHeld (fun _ => ?_)
          clear hK K
          refine jL (a' := ?_) ?_ ?_
          rotate_left
          ·show Act.put _ (some 153) _ = _
           simp only [Act.put, List.setIfInBounds_toArray, List.set_cons_zero, List.set_cons_succ]
           rfl
          refine pu_ 12 (some 141) (bb 19 106495) (by kernel_rfl) ?_
          refine pu_ 13 (some 154) (bb 19 114687) (by kernel_rfl) ?_
          refine pu_ 14 (some 155) (bb 19 131071) (by kernel_rfl) ?_
          exact jL (by simp only [xB, Act.put, List.setIfInBounds_toArray, List.set_cons_zero, List.set_cons_succ]) (hCont (.agg (uS (.slice B5 px2.length e5) (.slice B6 sx2.length e6) P2 at2 pad2 long2), E3, a3, g14, g15) _ ⟨⟨B5, e5, B6, e6, px2, sx2, P2, at2, pad2, long2, rfl, HQ1.out, HQ2.out, HPQ.out⟩, BK14.out, BK15.out, N1415.out, N2x14.out, N2x15.out, N3x14.out, N3x15.out, N13x14.out, N13x15.out, GE14.out, GE15.out, NCx14, NCx15, hHeld, BK13.out, HO1.out, HO2.out, BK2.out, BK3.out, HB.out⟩)
         case hc37 =>
          rintro ⟨V, E3, a3, g14, g15⟩ W7 ⟨⟨B5, e5, B6, e6, px2, sx2, P2, at2, pad2, long2, hV, hq1, hq2, hpq⟩, hb14, hb15, n1415, n2x14, n2x15, n3x14, n3x15, n13x14, n13x15, ge14, ge15, ncx14, ncx15, hHeld, hb13, ho1, ho2, hb2, hb3, hbw⟩
          dsimp only at hV hq1 hq2 hpq hb14 hb15 n1415 n2x14 n2x15 n3x14 n3x15 n13x14 n13x15 ge14 ge15 ncx14 ncx15
          subst hV
          have BK14 := K_ hb14
          have BK15 := K_ hb15
          have N1415 := K_ n1415
          have N2x14 := K_ n2x14
          have N2x15 := K_ n2x15
          have N3x14 := K_ n3x14
          have N3x15 := K_ n3x15
          have N13x14 := K_ n13x14
          have N13x15 := K_ n13x15
          have HQ1 := K_ hq1
          have HQ2 := K_ hq2
          have HPQ := K_ hpq
          have BK13 := K_ hb13
          have HO1 := K_ ho1
          have HO2 := K_ ho2
          have BK2 := K_ hb2
          have BK3 := K_ hb3
          have HB := K_ hbw
          clear hb14 hb15 n1415 n2x14 n2x15 n3x14 n3x15 n13x14 n13x15 hq1 hq2 hpq hb13 ho1 ho2 hb2 hb3 hbw
          refine jL (a' := ?_) ?_ ?_
          rotate_left
          ·simp only [xB, Act.put, List.setIfInBounds_toArray, List.set_cons_zero, List.set_cons_succ]
           rfl
          refine zY (i := 17) (N := none) (bb 19 262143) rfl rfl (by kernel_rfl) (by decide) (fun K hK => ?_)
          refine vF (g := g14) (cs := Z76) (uS (.slice B5 px2.length e5) (.slice B6 sx2.length e6) P2 at2 pad2 long2) BK14 ?_ rfl rfl rfl rfl rfl zbq rfl rfl
          intro w17 hbk hfar hbel
          have hh := zam hfar (p := ⟨(ad.add (m * 4)).block, (ad.add (m * 4)).off + 2, none⟩) ncx14 hHeld
          replace HQ1 := K_ (vY HQ1.out BK14.out (by decide) hfar)
          replace HQ2 := K_ (vY HQ2.out BK14.out (by decide) hfar)
          replace HO1 := K_ (vY HO1.out BK14.out (by decide) hfar)
          replace HO2 := K_ (vY HO2.out BK14.out (by decide) hfar)
          replace BK13 := K_ (hfar _ _ N13x14.out BK13.out)
          replace BK2 := K_ (hfar _ _ N2x14.out BK2.out)
          replace BK3 := K_ (hfar _ _ N3x14.out BK3.out)
          replace BK15 := K_ (hfar _ _ (Ne.symm N1415.out) BK15.out)
          replace BK14 := K_ hbk
          replace HB := K_ (hbel _ _ ge14 HB.out)
          clear hHeld
          have hHeld := hh
          refine hK.out _ _ hHeld (fun _ => ?_)
          clear hK K hbk hfar hbel hh
          refine zY (i := 18) (N := none) (bb 19 524287) rfl rfl (by kernel_rfl) (by decide) (fun K hK => ?_)
          refine vF (g := g15) (cs := Z51) (#[.int .i64 E3, .int .i64 a3]) BK15 ?_ rfl rfl rfl rfl rfl uT rfl rfl
          intro w18 hbk hfar hbel
          have hh := zam hfar (p := ⟨(ad.add (m * 4)).block, (ad.add (m * 4)).off + 2, none⟩) ncx15 hHeld
          replace HQ1 := K_ (vY HQ1.out BK15.out (by decide) hfar)
          replace HQ2 := K_ (vY HQ2.out BK15.out (by decide) hfar)
          replace HO1 := K_ (vY HO1.out BK15.out (by decide) hfar)
          replace HO2 := K_ (vY HO2.out BK15.out (by decide) hfar)
          replace BK13 := K_ (hfar _ _ N13x15.out BK13.out)
          replace BK2 := K_ (hfar _ _ N2x15.out BK2.out)
          replace BK3 := K_ (hfar _ _ N3x15.out BK3.out)
          replace BK14 := K_ (hfar _ _ N1415.out BK14.out)
          replace BK15 := K_ hbk
          replace HB := K_ (hbel _ _ ge15 HB.out)
          clear hHeld
          have hHeld := hh
          refine hK.out _ _ hHeld (fun _ => ?_)
          clear hK K hbk hfar hbel hh
          refine yV (by kernel_rfl) ?_
          clear hHeld ncx14 ncx15 ge14 ge15
          obtain ⟨⟨q0, q1⟩, q2, q3⟩ := ce2 BK15
          by_cases hE : E3 = 0
          ·subst hE
           have HQK := K_ (HPQ.out rfl)
           have hq1l : px2.length ≤ 1000 := by
            rw [HQK.out.2.1]; refine Nat.le_trans (zcS _) (Nat.le_trans (zeF _ _ _) (by omega))
           have hq2l : sx2.length ≤ 1000 := by
            rw [HQK.out.2.2]; refine Nat.le_trans (zcS _) (Nat.le_trans (zeC _ _ _) (by omega))
           have HGQ := K_ (show vT px2 ∧ vT sx2 by rw [HQK.out.2.1, HQK.out.2.2]; exact ⟨zca _, zca _⟩)
           go_upto_region 40 with (fail)
           clear q0 q1 q2 q3
           refine yL (n := 10) (S := fun W => W.cell? ⟨g14, 0, none⟩ = some (.slice B5 px2.length e5) ∧ W.cell? ⟨g14, 1, none⟩ = some (.slice B6 sx2.length e6)) (ds := []) #[false, false, false, false, false, false, false, false, false, false] (by kernel_rfl) rfl rfl ⟨(zA (BK BK14) 0).trans rfl, (zA (BK BK14) 1).trans rfl⟩ (fun hHeld => ?_)
           refine jM (fun W => W.heap[g14]? = some (.cells (uS (.slice B5 px2.length e5) (.slice B6 sx2.length e6) P2 at2 pad2 long2) 76 (0, 0)) ∧ Kd.R k80 80 W w.heap.size (fun _ => True) (.slice B5 px2.length e5) px2 ∧ Kd.R k80 80 W w.heap.size (fun _ => True) (.slice B6 sx2.length e6) sx2 ∧ W.heap[g13]? = some (.cells (xW (.slice B1 px.length d1) (.slice B2 sx.length d2) false (.slice A6 ([(⟨2, 0⟩ : S80)] ++ px).length c6) (.slice B2 sx.length d2) PN at_ pad wd) 26 (0, 0)) ∧ Kd.R k80 80 W w.heap.size (fun _ => True) (.slice B1 px.length d1) px ∧ Kd.R k80 80 W w.heap.size (fun _ => True) (.slice B2 sx.length d2) sx ∧ W.heap[g2]? = some (.cells Z26 26 (0, 0)) ∧ W.heap[g3]? = some (.cells Z51 51 (0, 0)) ∧ Below w.heap.size w W) ⟨BK BK14, RB HQ1.out, RB HQ2.out, BK BK13, RB HO1.out, RB HO2.out, BK BK2, BK BK3, BL HB⟩ ?_
           clear hHeld
           clear BK14 HQ1 HQ2 BK13 HO1 HO2 BK2 BK3 HB
           rintro W ⟨hb14, hq1, hq2, hb13, ho1, ho2, hb2, hb3, hbw⟩
           have BK14 := K_ hb14
           have HQ1 := K_ hq1
           have HQ2 := K_ hq2
           have BK13 := K_ hb13
           have HO1 := K_ ho1
           have HO2 := K_ ho2
           have BK2 := K_ hb2
           have BK3 := K_ hb3
           have HB := K_ hbw
           clear hb14 hq1 hq2 hb13 ho1 ho2 hb2 hb3 hbw
           have hHeld := (show W.cell? ⟨g14, 0, none⟩ = some (.slice B5 px2.length e5) ∧ W.cell? ⟨g14, 1, none⟩ = some (.slice B6 sx2.length e6) from ⟨(zA BK14.out 0).trans rfl, (zA BK14.out 1).trans rfl⟩)
           refine pu_ 0 (some 161) (bb 10 1) (by kernel_rfl) ?_
           refine pu_ 2 (some 163) (bb 10 5) (by kernel_rfl) ?_
           refine tk_ 1 (some 162) (bb 10 7) (by kernel_rfl) hHeld ?_
           refine tk_ 3 (some 164) (bb 10 15) (by kernel_rfl) hHeld ?_
           refine pu_ 4 (some 165) (bb 10 31) (by kernel_rfl) ?_
           refine zY (i := 5) (N := none) (bb 10 63) rfl rfl (by kernel_rfl) (by decide) (fun K hK => ?_)
           have hs : W.cell? ⟨g13, 2, none⟩ = some (.bool false) := (zA BK13.out 2).trans rfl
           have hf := zI BK13.out 2
           refine zak (w1 := W.setCell ⟨g13, 2, none⟩ (.bool true)) (by rfl) rfl (by go_simp; try rfl) ?_
           refine hK.out _ _ (show (W.setCell ⟨g13, 2, none⟩ (.bool true)).cell? ⟨g14, 0, none⟩ = some (.slice B5 px2.length e5) ∧ (W.setCell ⟨g13, 2, none⟩ (.bool true)).cell? ⟨g14, 1, none⟩ = some (.slice B6 sx2.length e6) from ⟨(zA (zQ BK14.out (Ne.symm N13x14.out) _) 0).trans rfl, (zA (zQ BK14.out (Ne.symm N13x14.out) _) 1).trans rfl⟩) (fun _ => ?_)
           clear hK K hs hf hHeld
           refine jM (fun W => W.heap[g14]? = some (.cells (uS (.slice B5 px2.length e5) (.slice B6 sx2.length e6) P2 at2 pad2 long2) 76 (0, 0)) ∧ Kd.R k80 80 W w.heap.size (fun _ => True) (.slice B5 px2.length e5) px2 ∧ Kd.R k80 80 W w.heap.size (fun _ => True) (.slice B6 sx2.length e6) sx2 ∧ W.heap[g13]? = some (.cells (xW (.slice B1 px.length d1) (.slice B2 sx.length d2) true (.slice A6 ([(⟨2, 0⟩ : S80)] ++ px).length c6) (.slice B2 sx.length d2) PN at_ pad wd) 26 (0, 0)) ∧ Kd.R k80 80 W w.heap.size (fun _ => True) (.slice B1 px.length d1) px ∧ Kd.R k80 80 W w.heap.size (fun _ => True) (.slice B2 sx.length d2) sx ∧ W.heap[g2]? = some (.cells Z26 26 (0, 0)) ∧ W.heap[g3]? = some (.cells Z51 51 (0, 0)) ∧ Below w.heap.size w W) ⟨zQ BK14.out (Ne.symm N13x14.out) _, Kd.R_set HQ1.out BK13.out (by decide) _ _, Kd.R_set HQ2.out BK13.out (by decide) _ _, qX BK13.out rfl, Kd.R_set HO1.out BK13.out (by decide) _ _, Kd.R_set HO2.out BK13.out (by decide) _ _, zQ BK2.out N2P.out _, zQ BK3.out N3P.out _, BL HB⟩ ?_
           clear BK14 HQ1 HQ2 BK13 HO1 HO2 BK2 BK3 HB
           rintro W ⟨hb14, hq1, hq2, hb13, ho1, ho2, hb2, hb3, hbw⟩
           have BK14 := K_ hb14
           have HQ1 := K_ hq1
           have HQ2 := K_ hq2
           have BK13 := K_ hb13
           have HO1 := K_ ho1
           have HO2 := K_ ho2
           have BK2 := K_ hb2
           have BK3 := K_ hb3
           have HB := K_ hbw
           clear hb14 hq1 hq2 hb13 ho1 ho2 hb2 hb3 hbw
           have hHeld := (show W.cell? ⟨g14, 0, none⟩ = some (.slice B5 px2.length e5) ∧ W.cell? ⟨g14, 1, none⟩ = some (.slice B6 sx2.length e6) from ⟨(zA BK14.out 0).trans rfl, (zA BK14.out 1).trans rfl⟩)
           refine pu_ 6 (some 166) (bb 10 127) (by kernel_rfl) ?_
           refine zY (i := 7) (N := none) (bb 10 255) rfl rfl (by kernel_rfl) (by decide) (fun K hK => ?_)
           have hs : W.cell? ⟨g13, 3, none⟩ = some (.slice A6 ([(⟨2, 0⟩ : S80)] ++ px).length c6) := (zA BK13.out 3).trans rfl
           have hf := zI BK13.out 3
           refine zak (w1 := W.setCell ⟨g13, 3, none⟩ (.slice B5 px2.length e5)) (by rfl) rfl (by go_simp; try rfl) ?_
           refine hK.out _ _ (show (W.setCell ⟨g13, 3, none⟩ (.slice B5 px2.length e5)).cell? ⟨g14, 0, none⟩ = some (.slice B5 px2.length e5) ∧ (W.setCell ⟨g13, 3, none⟩ (.slice B5 px2.length e5)).cell? ⟨g14, 1, none⟩ = some (.slice B6 sx2.length e6) from ⟨(zA (zQ BK14.out (Ne.symm N13x14.out) _) 0).trans rfl, (zA (zQ BK14.out (Ne.symm N13x14.out) _) 1).trans rfl⟩) (fun _ => ?_)
           clear hK K hs hf hHeld
           refine jM (fun W => W.heap[g14]? = some (.cells (uS (.slice B5 px2.length e5) (.slice B6 sx2.length e6) P2 at2 pad2 long2) 76 (0, 0)) ∧ Kd.R k80 80 W w.heap.size (fun _ => True) (.slice B5 px2.length e5) px2 ∧ Kd.R k80 80 W w.heap.size (fun _ => True) (.slice B6 sx2.length e6) sx2 ∧ W.heap[g13]? = some (.cells (xW (.slice B1 px.length d1) (.slice B2 sx.length d2) true (.slice B5 px2.length e5) (.slice B2 sx.length d2) PN at_ pad wd) 26 (0, 0)) ∧ Kd.R k80 80 W w.heap.size (fun _ => True) (.slice B1 px.length d1) px ∧ Kd.R k80 80 W w.heap.size (fun _ => True) (.slice B2 sx.length d2) sx ∧ W.heap[g2]? = some (.cells Z26 26 (0, 0)) ∧ W.heap[g3]? = some (.cells Z51 51 (0, 0)) ∧ Below w.heap.size w W) ⟨zQ BK14.out (Ne.symm N13x14.out) _, Kd.R_set HQ1.out BK13.out (by decide) _ _, Kd.R_set HQ2.out BK13.out (by decide) _ _, qX BK13.out rfl, Kd.R_set HO1.out BK13.out (by decide) _ _, Kd.R_set HO2.out BK13.out (by decide) _ _, zQ BK2.out N2P.out _, zQ BK3.out N3P.out _, BL HB⟩ ?_
           clear BK14 HQ1 HQ2 BK13 HO1 HO2 BK2 BK3 HB
           rintro W ⟨hb14, hq1, hq2, hb13, ho1, ho2, hb2, hb3, hbw⟩
           have BK14 := K_ hb14
           have HQ1 := K_ hq1
           have HQ2 := K_ hq2
           have BK13 := K_ hb13
           have HO1 := K_ ho1
           have HO2 := K_ ho2
           have BK2 := K_ hb2
           have BK3 := K_ hb3
           have HB := K_ hbw
           clear hb14 hq1 hq2 hb13 ho1 ho2 hb2 hb3 hbw
           have hHeld := (show W.cell? ⟨g14, 0, none⟩ = some (.slice B5 px2.length e5) ∧ W.cell? ⟨g14, 1, none⟩ = some (.slice B6 sx2.length e6) from ⟨(zA BK14.out 0).trans rfl, (zA BK14.out 1).trans rfl⟩)
           refine pu_ 8 (some 167) (bb 10 511) (by kernel_rfl) ?_
           refine zY (i := 9) (N := none) (bb 10 1023) rfl rfl (by kernel_rfl) (by decide) (fun K hK => ?_)
           have hs : W.cell? ⟨g13, 4, none⟩ = some (.slice B2 sx.length d2) := (zA BK13.out 4).trans rfl
           have hf := zI BK13.out 4
           refine zak (w1 := W.setCell ⟨g13, 4, none⟩ (.slice B6 sx2.length e6)) (by rfl) rfl (by go_simp; try rfl) ?_
           refine hK.out _ _ (show (W.setCell ⟨g13, 4, none⟩ (.slice B6 sx2.length e6)).cell? ⟨g14, 0, none⟩ = some (.slice B5 px2.length e5) ∧ (W.setCell ⟨g13, 4, none⟩ (.slice B6 sx2.length e6)).cell? ⟨g14, 1, none⟩ = some (.slice B6 sx2.length e6) from ⟨(zA (zQ BK14.out (Ne.symm N13x14.out) _) 0).trans rfl, (zA (zQ BK14.out (Ne.symm N13x14.out) _) 1).trans rfl⟩) (fun _ => ?_)
           clear hK K hs hf hHeld
           refine jM (fun W => W.heap[g14]? = some (.cells (uS (.slice B5 px2.length e5) (.slice B6 sx2.length e6) P2 at2 pad2 long2) 76 (0, 0)) ∧ Kd.R k80 80 W w.heap.size (fun _ => True) (.slice B5 px2.length e5) px2 ∧ Kd.R k80 80 W w.heap.size (fun _ => True) (.slice B6 sx2.length e6) sx2 ∧ W.heap[g13]? = some (.cells (xW (.slice B1 px.length d1) (.slice B2 sx.length d2) true (.slice B5 px2.length e5) (.slice B6 sx2.length e6) PN at_ pad wd) 26 (0, 0)) ∧ Kd.R k80 80 W w.heap.size (fun _ => True) (.slice B1 px.length d1) px ∧ Kd.R k80 80 W w.heap.size (fun _ => True) (.slice B2 sx.length d2) sx ∧ W.heap[g2]? = some (.cells Z26 26 (0, 0)) ∧ W.heap[g3]? = some (.cells Z51 51 (0, 0)) ∧ Below w.heap.size w W) ⟨zQ BK14.out (Ne.symm N13x14.out) _, Kd.R_set HQ1.out BK13.out (by decide) _ _, Kd.R_set HQ2.out BK13.out (by decide) _ _, qX BK13.out rfl, Kd.R_set HO1.out BK13.out (by decide) _ _, Kd.R_set HO2.out BK13.out (by decide) _ _, zQ BK2.out N2P.out _, zQ BK3.out N3P.out _, BL HB⟩ ?_
           clear BK14 HQ1 HQ2 BK13 HO1 HO2 BK2 BK3 HB
           rintro W ⟨hb14, hq1, hq2, hb13, ho1, ho2, hb2, hb3, hbw⟩
           have BK14 := K_ hb14
           have HQ1 := K_ hq1
           have HQ2 := K_ hq2
           have BK13 := K_ hb13
           have HO1 := K_ ho1
           have HO2 := K_ ho2
           have BK2 := K_ hb2
           have BK3 := K_ hb3
           have HB := K_ hbw
           clear hb14 hq1 hq2 hb13 ho1 ho2 hb2 hb3 hbw
           have hHeld := (show W.cell? ⟨g14, 0, none⟩ = some (.slice B5 px2.length e5) ∧ W.cell? ⟨g14, 1, none⟩ = some (.slice B6 sx2.length e6) from ⟨(zA BK14.out 0).trans rfl, (zA BK14.out 1).trans rfl⟩)
           refine yV (by kernel_rfl) ?_
           clear hHeld
           go_wp2_with (fail)
           go_meet
           case rel => exact ⟨true, _, _, px2, sx2, RB HQ1.out, RB HQ2.out, HGQ.out, hq1l, hq2l, fun q1 q2 => (HNT.out q1 q2).elim, BK BK13, RB HO1.out, RB HO2.out, BK BK2, BK BK3, BL HB⟩
          have dE3 : (E3 != 0) = true := by simpa using hE
          have HEV := K_ hE
          have HE := K_ (show ∀ l', Ev (fun k => zE.f k s) (l', 0, 0) → xP l' → zau l' → ∀ P0, xU (l'.map mk73) P0 → ¬ mixed (jG (uF (l'.map mk73) (uX (l'.map mk73)) l'.length)) (jG (uG (l'.map mk73) (uU (l'.map mk73)) l'.length)) (⟨2, 0⟩ :: jG (uF (l'.map mk73) (uX (l'.map mk73)) l'.length)) (jG (uG (l'.map mk73) (uU (l'.map mk73)) l'.length)) → False from fun l' h1 hns hsm _ _ _ => HNT.out (EQL.out l' h1 ▸ hns) (EQL.out l' h1 ▸ hsm))
          clear hE
          go_upto_region 39 with (fail)
          clear q0 q1 q2 q3
          refine yL (n := 4) (S := fun w' => w'.heap[g15]? = some (.cells #[.int .i64 E3, .int .i64 a3] 51 (0, 0))) (ds := []) #[false, false, false, false] (by kernel_rfl) rfl rfl (BK BK15) (fun hHeld => ?_)
          refine jM (fun W => W.heap[g15]? = some (.cells #[.int .i64 E3, .int .i64 a3] 51 (0, 0)) ∧ W.heap[g2]? = some (.cells Z26 26 (0, 0)) ∧ W.heap[g3]? = some (.cells Z51 51 (0, 0)) ∧ Below w.heap.size w W) ⟨BK BK15, BK BK2, BK BK3, BL HB⟩ ?_
          clear hHeld
          rintro W ⟨hHeld, hb2, hb3, hbw⟩
          replace BK2 := K_ hb2
          replace BK3 := K_ hb3
          replace HB := K_ hbw
          clear hb2 hb3 hbw
          refine pu_ 0 (some 159) (bb 4 1) (by kernel_rfl) ?_
          refine take_ (i := 1) (N := some 160) (bb 4 3) rfl rfl (by kernel_rfl) (fun _ _ _ h => h) (v := .agg #[.int .i64 E3, .int .i64 a3]) (Or.inl ⟨by rfl, fun w' hs => vO _ ⟨hs⟩ rfl rfl Tryz.underlying51 rfl uT⟩) hHeld (by simp only [Act.put, List.setIfInBounds_toArray, List.set_cons_zero, List.set_cons_succ]; rfl) ?_
          refine zY (i := 2) (N := none) (bb 4 7) rfl rfl (by kernel_rfl) (by decide) (fun K hK => ?_)
          refine vF (g := g2) (cs := Z26) Z26 BK2 ?_ rfl rfl rfl rfl rfl jX rfl rfl
          intro w8 hbk hfar hbel
          have hHeld2 := hfar g15 _ (Ne.symm N2x15.out) hHeld
          replace BK3 := K_ (hfar g3 _ (Ne.symm NB.out) BK3.out)
          replace BK2 := K_ hbk
          replace HB := K_ (hbel _ _ GE2.out HB.out)
          refine hK.out _ _ hHeld2 (fun _ => ?_)
          clear hK K hbk hfar hbel
          refine zY (i := 3) (N := none) (bb 4 15) rfl rfl (by kernel_rfl) (by decide) (fun K hK => ?_)
          refine vF (g := g3) (cs := Z51) #[.int .i64 E3, .int .i64 a3] BK3 ?_ rfl rfl rfl rfl rfl uT rfl rfl
          intro w9 hbk hfar hbel
          have hHeld3 := hfar g15 _ (Ne.symm N3x15.out) hHeld2
          replace BK2 := K_ (hfar g2 _ NB.out BK2.out)
          replace BK3 := K_ hbk
          replace HB := K_ (hbel _ _ GE3.out HB.out)
          refine hK.out _ _ hHeld3 (fun _ => ?_)
          clear hK K hbk hfar hbel
          refine yV (by kernel_rfl) ?_
          go_wp2_with (fail)
          (
           refine bodyPost_ret (qT rfl _ _ g2 g3 26 51 Z26 #[.int .i64 E3, .int .i64 a3] (0, 0) (0, 0) _ _ rfl BK2.out Tryz.underlying26 rfl jX rfl BK3.out Tryz.underlying51 rfl uT) rfl ?_
           exact ⟨_, _, _, _, [], [], [], [], jJ, false, 0, 0, 0, E3, a3, rfl, Kd.R_nil _ _ _ _ _, Kd.R_nil _ _ _ _ _, Kd.R_nil _ _ _ _ _, Kd.R_nil _ _ _ _ _, BL HB, fun h => absurd h HEV.out, fun l' h1 h2 h3 P0 h4 h5 => (HE.out l' h1 h2 h3 P0 h4 h5).elim⟩)
        have dsm : decide (0 ≤ sm) = false := decide_eq_false hs0
        go_wp2
        go_meet
        case rel => exact ⟨false, _, _, [⟨2, 0⟩] ++ px, sx, RB HO6.out, RB HO2.out, ⟨fun x hx => by rcases List.mem_cons.1 hx with rfl | hx; exact ⟨by decide, by decide, fun _ => rfl⟩; exact HG1.out x hx, HG2.out⟩, by simp; omega, by omega, fun _ _ => ⟨rfl, rfl⟩, BK BK13, RB HO1.out, RB HO2.out, BK BK2, BK BK3, BL HB⟩
       case rest =>
        obtain ⟨hn, v3, v4, nx, ny, ho3, ho4, hgood, hnl, hyl, hex, hb13, ho1, ho2, hb2, hb3, hbw⟩ := hcut
        have HO3 := K_ ho3
        have HO4 := K_ ho4
        have HG := K_ hgood
        have HEN := K_ hex
        replace BK13 := K_ hb13
        replace HO1 := K_ ho1
        replace HO2 := K_ ho2
        replace BK2 := K_ hb2
        replace BK3 := K_ hb3
        replace HB := K_ hbw
        clear hb13 ho1 ho2 hb2 hb3 hbw
        clear ho3 ho4 hgood hex
        obtain ⟨B3, d3, rfl⟩ := Kd.R_slice HO3.out
        obtain ⟨B4, d4, rfl⟩ := Kd.R_slice HO4.out
        clear HZ BK12
        go_upto_region 41 with (fail)
        go_cut [175] from 168 to 175 (fun c wx => c = .bool (decide (0 < sgn 4 px sx nx ny) && decide (0 < sgn 5 px sx nx ny)) ∧ Kd.R k80 80 wx w.heap.size (fun _ => True) (.slice B1 px.length d1) px ∧ Kd.R k80 80 wx w.heap.size (fun _ => True) (.slice B2 sx.length d2) sx ∧ Kd.R k80 80 wx w.heap.size (fun _ => True) (.slice B3 nx.length d3) nx ∧ Kd.R k80 80 wx w.heap.size (fun _ => True) (.slice B4 ny.length d4) ny ∧ wx.heap[g13]? = some (.cells (xW (.slice B1 px.length d1) (.slice B2 sx.length d2) hn (.slice B3 nx.length d3) (.slice B4 ny.length d4) PN at_ pad wd) 26 (0, 0)) ∧ wx.heap[g2]? = some (.cells Z26 26 (0, 0)) ∧ wx.heap[g3]? = some (.cells Z51 51 (0, 0)) ∧ Below w.heap.size w wx)
        case first =>
         by_cases h4 : 0 < sgn 4 px sx nx ny
         ·have p4 : decide (0 < sgn 4 px sx nx ny) = true := decide_eq_true h4
          have r4 : decide ((0 : Int) < ((sgn 4 px sx nx ny : Nat) : Int)) = true := decide_eq_true (by omega)
          have z4 : ¬ sgn 4 px sx nx ny = 0 := by omega
          by_cases h5 : 0 < sgn 5 px sx nx ny
          ·have p5 : decide (0 < sgn 5 px sx nx ny) = true := decide_eq_true h5
           have r5 : decide ((0 : Int) < ((sgn 5 px sx nx ny : Nat) : Int)) = true := decide_eq_true (by omega)
           have z5 : ¬ sgn 5 px sx nx ny = 0 := by omega
           go_wp2_with (first | ((with_reducible refine zH (N := 168) rfl ?_); refine lo_ (g := g13) (cs := xW (.slice B1 px.length d1) (.slice B2 sx.length d2) hn (.slice B3 nx.length d3) (.slice B4 ny.length d4) PN at_ pad wd) _ ⟨BK BK13⟩ ?_ rfl rfl rfl Tryz.underlying26 rfl jX) | ((with_reducible refine zH (N := 172) rfl ?_); refine zcC (g := g13) (cs := xW (.slice B1 px.length d1) (.slice B2 sx.length d2) hn (.slice B3 nx.length d3) (.slice B4 ny.length d4) PN at_ pad wd) _ ⟨BK BK13⟩ ?_ (by rfl) rfl rfl Tryz.underlying26 rfl jX) | (go_at_call 53; refine (zdv B1 B2 B3 B4 d1 d2 d3 d4 px sx nx ny hn PN at_ pad wd _ _ HO1.out HO2.out HO3.out HO4.out (by omega) (by omega) hnl hyl).mono ?_; rintro e9 w' ⟨rfl, hb⟩; replace HO1 := K_ (Kd.R_below (RB HO1.out) hb); replace HO2 := K_ (Kd.R_below (RB HO2.out) hb); replace HO3 := K_ (Kd.R_below (RB HO3.out) hb); replace HO4 := K_ (Kd.R_below (RB HO4.out) hb); replace HB := zG HB hb; replace BK2 := zD BK2 hb; replace BK3 := zD BK3 hb; replace BK13 := zD BK13 hb; clear hb))
           go_meet
           case rel => exact ⟨by rw [p4, p5]; rfl, RB HO1.out, RB HO2.out, RB HO3.out, RB HO4.out, BK BK13, BK BK2, BK BK3, BL HB⟩
          have p5 : decide (0 < sgn 5 px sx nx ny) = false := decide_eq_false h5
          have r5 : decide ((0 : Int) < ((sgn 5 px sx nx ny : Nat) : Int)) = false := decide_eq_false (by omega)
          have z5 : sgn 5 px sx nx ny = 0 := by omega
          go_wp2_with (first | ((with_reducible refine zH (N := 168) rfl ?_); refine lo_ (g := g13) (cs := xW (.slice B1 px.length d1) (.slice B2 sx.length d2) hn (.slice B3 nx.length d3) (.slice B4 ny.length d4) PN at_ pad wd) _ ⟨BK BK13⟩ ?_ rfl rfl rfl Tryz.underlying26 rfl jX) | ((with_reducible refine zH (N := 172) rfl ?_); refine zcC (g := g13) (cs := xW (.slice B1 px.length d1) (.slice B2 sx.length d2) hn (.slice B3 nx.length d3) (.slice B4 ny.length d4) PN at_ pad wd) _ ⟨BK BK13⟩ ?_ (by rfl) rfl rfl Tryz.underlying26 rfl jX) | (go_at_call 53; refine (zdv B1 B2 B3 B4 d1 d2 d3 d4 px sx nx ny hn PN at_ pad wd _ _ HO1.out HO2.out HO3.out HO4.out (by omega) (by omega) hnl hyl).mono ?_; rintro e9 w' ⟨rfl, hb⟩; replace HO1 := K_ (Kd.R_below (RB HO1.out) hb); replace HO2 := K_ (Kd.R_below (RB HO2.out) hb); replace HO3 := K_ (Kd.R_below (RB HO3.out) hb); replace HO4 := K_ (Kd.R_below (RB HO4.out) hb); replace HB := zG HB hb; replace BK2 := zD BK2 hb; replace BK3 := zD BK3 hb; replace BK13 := zD BK13 hb; clear hb))
          go_meet
          case rel => exact ⟨by rw [p4, p5]; rfl, RB HO1.out, RB HO2.out, RB HO3.out, RB HO4.out, BK BK13, BK BK2, BK BK3, BL HB⟩
         have p4 : decide (0 < sgn 4 px sx nx ny) = false := decide_eq_false h4
         have r4 : decide ((0 : Int) < ((sgn 4 px sx nx ny : Nat) : Int)) = false := decide_eq_false (by omega)
         have z4 : sgn 4 px sx nx ny = 0 := by omega
         go_wp2_with (first | ((with_reducible refine zH (N := 168) rfl ?_); refine lo_ (g := g13) (cs := xW (.slice B1 px.length d1) (.slice B2 sx.length d2) hn (.slice B3 nx.length d3) (.slice B4 ny.length d4) PN at_ pad wd) _ ⟨BK BK13⟩ ?_ rfl rfl rfl Tryz.underlying26 rfl jX) | ((with_reducible refine zH (N := 172) rfl ?_); refine zcC (g := g13) (cs := xW (.slice B1 px.length d1) (.slice B2 sx.length d2) hn (.slice B3 nx.length d3) (.slice B4 ny.length d4) PN at_ pad wd) _ ⟨BK BK13⟩ ?_ (by rfl) rfl rfl Tryz.underlying26 rfl jX) | (go_at_call 53; refine (zdv B1 B2 B3 B4 d1 d2 d3 d4 px sx nx ny hn PN at_ pad wd _ _ HO1.out HO2.out HO3.out HO4.out (by omega) (by omega) hnl hyl).mono ?_; rintro e9 w' ⟨rfl, hb⟩; replace HO1 := K_ (Kd.R_below (RB HO1.out) hb); replace HO2 := K_ (Kd.R_below (RB HO2.out) hb); replace HO3 := K_ (Kd.R_below (RB HO3.out) hb); replace HO4 := K_ (Kd.R_below (RB HO4.out) hb); replace HB := zG HB hb; replace BK2 := zD BK2 hb; replace BK3 := zD BK3 hb; replace BK13 := zD BK13 hb; clear hb))
         go_meet
         case rel => exact ⟨by rw [p4]; rfl, RB HO1.out, RB HO2.out, RB HO3.out, RB HO4.out, BK BK13, BK BK2, BK BK3, BL HB⟩
        case rest =>
         obtain ⟨rfl, ho1, ho2, ho3, ho4, hb13, hb2, hb3, hbw⟩ := hcut
         replace HO1 := K_ ho1
         replace HO2 := K_ ho2
         replace HO3 := K_ ho3
         replace HO4 := K_ ho4
         replace BK13 := K_ hb13
         replace BK2 := K_ hb2
         replace BK3 := K_ hb3
         replace HB := K_ hbw
         clear ho1 ho2 ho3 ho4 hb13 hb2 hb3 hbw
         by_cases hm : mixed px sx nx ny
         ·have et : (decide (0 < sgn 4 px sx nx ny) && decide (0 < sgn 5 px sx nx ny)) = true := by rw [decide_eq_true hm.1, decide_eq_true hm.2]; rfl
          rw [et]
          have HEV := K_ (show (6 : Int) ≠ 0 by decide)
          have HE := K_ (show ∀ l', Ev (fun k => zE.f k s) (l', 0, 0) → xP l' → zau l' → ∀ P0, xU (l'.map mk73) P0 → ¬ mixed (jG (uF (l'.map mk73) (uX (l'.map mk73)) l'.length)) (jG (uG (l'.map mk73) (uU (l'.map mk73)) l'.length)) (⟨2, 0⟩ :: jG (uF (l'.map mk73) (uX (l'.map mk73)) l'.length)) (jG (uG (l'.map mk73) (uU (l'.map mk73)) l'.length)) → False from fun l' h1 hns hsm P0 hok hnm => by
           have e := EQL.out l' h1
           subst e
           have e2 := HEQ.out hns hsm
           obtain ⟨e3, e4⟩ := HEN.out hns hsm
           have e5 := HPOK.out.2
           rw [e2] at e5
           simp only [List.length_map] at e5
           rw [← e5.1, ← e5.2] at hnm
           rw [e3, e4] at hm
           exact hnm hm)
          clear et hm
          go_wp2_with (first
           | ((with_reducible refine zW (p := 2) rfl ?_); refine so_ (g := g2) (cs := Z26) (Z26) ⟨BK BK2⟩ ?_ rfl rfl rfl rfl rfl jX rfl rfl; intro w9 hbk hfar hbel; replace BK3 := K_ (hfar _ _ (Ne.symm NB.out) (BK BK3)); replace BK2 := K_ hbk; replace HB := K_ (hbel _ _ GE2.out (BL HB)); clear hbk hfar hbel)
           | ((with_reducible refine zW (p := 3) rfl ?_); refine so_ (g := g3) (cs := Z51) (#[.int .i64 6, .int .i64 0]) ⟨BK BK3⟩ ?_ rfl rfl rfl rfl rfl uT rfl rfl; intro w9 hbk hfar hbel; replace BK2 := K_ (hfar _ _ NB.out (BK BK2)); replace BK3 := K_ hbk; replace HB := K_ (hbel _ _ GE3.out (BL HB)); clear hbk hfar hbel))
          (
           refine bodyPost_ret (qT rfl _ _ g2 g3 26 51 Z26 #[.int .i64 6, .int .i64 0] (0, 0) (0, 0) _ _ rfl BK2.out Tryz.underlying26 rfl jX rfl BK3.out Tryz.underlying51 rfl uT) rfl ?_
           exact ⟨_, _, _, _, [], [], [], [], jJ, false, 0, 0, 0, 6, 0, rfl, Kd.R_nil _ _ _ _ _, Kd.R_nil _ _ _ _ _, Kd.R_nil _ _ _ _ _, Kd.R_nil _ _ _ _ _, BL HB, fun h => absurd h HEV.out, fun l' h1 h2 h3 P0 h4 h5 => (HE.out l' h1 h2 h3 P0 h4 h5).elim⟩)
         have et : (decide (0 < sgn 4 px sx nx ny) && decide (0 < sgn 5 px sx nx ny)) = false := by
          cases h : (decide (0 < sgn 4 px sx nx ny) && decide (0 < sgn 5 px sx nx ny))
          ·rfl
          rw [Bool.and_eq_true, decide_eq_true_eq, decide_eq_true_eq] at h; exact (hm h).elim
         rw [et]
         have HM := K_ hm
         clear et hm
         go_wp2_with (first
          | ((with_reducible refine zH (N := 178) rfl ?_); refine lo_ (g := g13) (cs := xW (.slice B1 px.length d1) (.slice B2 sx.length d2) hn (.slice B3 nx.length d3) (.slice B4 ny.length d4) PN at_ pad wd) _ ⟨BK BK13⟩ ?_ rfl rfl rfl Tryz.underlying26 rfl jX)
          | ((with_reducible refine zW (p := 2) rfl ?_); refine so_ (g := g2) (cs := Z26) (xW (.slice B1 px.length d1) (.slice B2 sx.length d2) hn (.slice B3 nx.length d3) (.slice B4 ny.length d4) PN at_ pad wd) ⟨BK BK2⟩ ?_ rfl rfl rfl rfl rfl jX rfl rfl; intro w9 hbk hfar hbel; replace HO1 := K_ (vY (RB HO1.out) (BK BK2) (by decide) hfar); replace HO2 := K_ (vY (RB HO2.out) (BK BK2) (by decide) hfar); replace HO3 := K_ (vY (RB HO3.out) (BK BK2) (by decide) hfar); replace HO4 := K_ (vY (RB HO4.out) (BK BK2) (by decide) hfar); replace BK3 := K_ (hfar _ _ (Ne.symm NB.out) (BK BK3)); replace BK2 := K_ hbk; replace HB := K_ (hbel _ _ GE2.out (BL HB)); clear hbk hfar hbel)
          | ((with_reducible refine zW (p := 3) rfl ?_); refine so_ (g := g3) (cs := Z51) (Z51) ⟨BK BK3⟩ ?_ rfl rfl rfl rfl rfl uT rfl rfl; intro w9 hbk hfar hbel; replace HO1 := K_ (vY (RB HO1.out) (BK BK3) (by decide) hfar); replace HO2 := K_ (vY (RB HO2.out) (BK BK3) (by decide) hfar); replace HO3 := K_ (vY (RB HO3.out) (BK BK3) (by decide) hfar); replace HO4 := K_ (vY (RB HO4.out) (BK BK3) (by decide) hfar); replace BK2 := K_ (hfar _ _ NB.out (BK BK2)); replace BK3 := K_ hbk; replace HB := K_ (hbel _ _ GE3.out (BL HB)); clear hbk hfar hbel))
         refine bodyPost_ret (qT rfl _ _ g2 g3 26 51 (xW (.slice B1 px.length d1) (.slice B2 sx.length d2) hn (.slice B3 nx.length d3) (.slice B4 ny.length d4) PN at_ pad wd) Z51 (0, 0) (0, 0) _ _ rfl BK2.out Tryz.underlying26 rfl jX rfl BK3.out Tryz.underlying51 rfl uT) rfl ?_
         refine ⟨_, _, _, _, px, sx, nx, ny, PN, hn, at_, pad, wd, 0, 0, rfl, HO1.out, HO2.out, HO3.out, HO4.out, BL HB, fun _ => ⟨⟨_, HPOK.out.1.2.2.1⟩, HG1.out, HG2.out, HG.out.1, HG.out.2, HM.out, by omega, by omega, hnl, hyl⟩, fun l' h1 hns hsm P0 hok hnm => ?_⟩
         have e := EQL.out l' h1
         subst e
         have e2 := HEQ.out hns hsm
         obtain ⟨e3, e4⟩ := HEN.out hns hsm
         have e5 := HPOK.out
         rw [e2] at e5
         simp only [List.length_map] at e5
         refine ⟨rfl, Option.some.inj (e5.1.2.2.1.symm.trans hok.2.2.1), e5.2.1, e5.2.2, ?_, ?_⟩
         ·rw [e3]
         rw [e4]
     have dE2 : (E2 != 0) = true := by simpa using hE
     have HEV := K_ hE
     have HE := K_ (show ∀ l', Ev (fun k => zE.f k s) (l', 0, 0) → xP l' → zau l' → ∀ P0, xU (l'.map mk73) P0 → ¬ mixed (jG (uF (l'.map mk73) (uX (l'.map mk73)) l'.length)) (jG (uG (l'.map mk73) (uU (l'.map mk73)) l'.length)) (⟨2, 0⟩ :: jG (uF (l'.map mk73) (uX (l'.map mk73)) l'.length)) (jG (uG (l'.map mk73) (uU (l'.map mk73)) l'.length)) → False from fun l' h1 hns hsm P0 hok _ => HEV.out (HEX.out (by rw [HEQ.out (EQL.out l' h1 ▸ hns) (EQL.out l' h1 ▸ hsm)]; intro x hx; obtain ⟨t, _, rfl⟩ := List.mem_map.1 hx; rfl) ⟨P0, by rw [HEQ.out (EQL.out l' h1 ▸ hns) (EQL.out l' h1 ▸ hsm), ← EQL.out l' h1]; exact hok⟩))
     clear hE
     go_upto_region 29 with (fail)
     clear q0 q1 q2 q3
     refine yL (n := 4) (S := fun w' => w'.heap[g5]? = some (.cells #[.int .i64 E2, .int .i64 a2] 51 (0, 0))) (ds := []) #[false, false, false, false] (by kernel_rfl) rfl rfl (BK BK5) (fun hHeld => ?_)
     refine jM (fun W => W.heap[g5]? = some (.cells #[.int .i64 E2, .int .i64 a2] 51 (0, 0)) ∧ W.heap[g2]? = some (.cells Z26 26 (0, 0)) ∧ W.heap[g3]? = some (.cells Z51 51 (0, 0)) ∧ Below w.heap.size w W) ⟨BK BK5, BK BK2, BK BK3, BL HB⟩ ?_
     clear hHeld
     rintro W ⟨hHeld, hb2, hb3, hbw⟩
     replace BK2 := K_ hb2
     replace BK3 := K_ hb3
     replace HB := K_ hbw
     clear hb2 hb3 hbw
     refine pu_ 0 (some 100) (bb 4 1) (by kernel_rfl) ?_
     refine take_ (i := 1) (N := some 101) (bb 4 3) rfl rfl (by kernel_rfl) (fun _ _ _ h => h) (v := .agg #[.int .i64 E2, .int .i64 a2]) (Or.inl ⟨by rfl, fun w' hs => vO _ ⟨hs⟩ rfl rfl Tryz.underlying51 rfl uT⟩) hHeld (by simp only [Act.put, List.setIfInBounds_toArray, List.set_cons_zero, List.set_cons_succ]; rfl) ?_
     refine zY (i := 2) (N := none) (bb 4 7) rfl rfl (by kernel_rfl) (by decide) (fun K hK => ?_)
     refine vF (g := g2) (cs := Z26) Z26 BK2 ?_ rfl rfl rfl rfl rfl jX rfl rfl
     intro w8 hbk hfar hbel
     have hHeld2 := hfar g5 _ (Ne.symm N2F.out) hHeld
     replace BK3 := K_ (hfar g3 _ (Ne.symm NB.out) BK3.out)
     replace BK2 := K_ hbk
     replace HB := K_ (hbel _ _ GE2.out HB.out)
     refine hK.out _ _ hHeld2 (fun _ => ?_)
     clear hK K hbk hfar hbel
     refine zY (i := 3) (N := none) (bb 4 15) rfl rfl (by kernel_rfl) (by decide) (fun K hK => ?_)
     refine vF (g := g3) (cs := Z51) #[.int .i64 E2, .int .i64 a2] BK3 ?_ rfl rfl rfl rfl rfl uT rfl rfl
     intro w9 hbk hfar hbel
     have hHeld3 := hfar g5 _ (Ne.symm N3F.out) hHeld2
     replace BK2 := K_ (hfar g2 _ NB.out BK2.out)
     replace BK3 := K_ hbk
     replace HB := K_ (hbel _ _ GE3.out HB.out)
     refine hK.out _ _ hHeld3 (fun _ => ?_)
     clear hK K hbk hfar hbel
     refine yV (by kernel_rfl) ?_
     go_wp2_with (fail)
     (
      refine bodyPost_ret (qT rfl _ _ g2 g3 26 51 Z26 #[.int .i64 E2, .int .i64 a2] (0, 0) (0, 0) _ _ rfl BK2.out Tryz.underlying26 rfl jX rfl BK3.out Tryz.underlying51 rfl uT) rfl ?_
      exact ⟨_, _, _, _, [], [], [], [], jJ, false, 0, 0, 0, E2, a2, rfl, Kd.R_nil _ _ _ _ _, Kd.R_nil _ _ _ _ _, Kd.R_nil _ _ _ _ _, Kd.R_nil _ _ _ _ _, BL HB, fun h => absurd h HEV.out, fun l' h1 h2 h3 P0 h4 h5 => (HE.out l' h1 h2 h3 P0 h4 h5).elim⟩)
 have dE : (E1 != 0) = true := by simpa using hE
 have HEV := K_ hE
 have HE := K_ (show ∀ l', Ev (fun k => zE.f k s) (l', 0, 0) → xP l' → zau l' → ∀ P0, xU (l'.map mk73) P0 → ¬ mixed (jG (uF (l'.map mk73) (uX (l'.map mk73)) l'.length)) (jG (uG (l'.map mk73) (uU (l'.map mk73)) l'.length)) (⟨2, 0⟩ :: jG (uF (l'.map mk73) (uX (l'.map mk73)) l'.length)) (jG (uG (l'.map mk73) (uU (l'.map mk73)) l'.length)) → False from fun l' h1 _ _ _ _ _ => hE (by have e := zdo h1 HEV1.out; have e2 := congrArg (fun r => r.2.1) e; exact e2.symm))
 clear hE
 go_upto_region 3 with (fail)
 clear q0 q1 q2 q3
 refine yL (n := 4) (S := fun w' => w'.heap[g5]? = some (.cells #[.int .i64 E1, .int .i64 a1] 51 (0, 0))) (ds := []) #[false, false, false, false] (by kernel_rfl) rfl rfl (BK BK5) (fun hHeld => ?_)
 refine jM (fun W => W.heap[g5]? = some (.cells #[.int .i64 E1, .int .i64 a1] 51 (0, 0)) ∧ W.heap[g2]? = some (.cells Z26 26 (0, 0)) ∧ W.heap[g3]? = some (.cells Z51 51 (0, 0)) ∧ Below w.heap.size w W) ⟨BK BK5, BK BK2, BK BK3, BL HB⟩ ?_
 clear hHeld
 rintro W ⟨hHeld, hb2, hb3, hbw⟩
 replace BK2 := K_ hb2
 replace BK3 := K_ hb3
 replace HB := K_ hbw
 clear hb2 hb3 hbw
 refine pu_ 0 (some 24) (bb 4 1) (by kernel_rfl) ?_
 refine take_ (i := 1) (N := some 25) (bb 4 3) rfl rfl (by kernel_rfl) (fun _ _ _ h => h) (v := .agg #[.int .i64 E1, .int .i64 a1]) (Or.inl ⟨by rfl, fun w' hs => vO _ ⟨hs⟩ rfl rfl Tryz.underlying51 rfl uT⟩) hHeld (by simp only [Act.put, List.setIfInBounds_toArray, List.set_cons_zero, List.set_cons_succ]; rfl) ?_
 refine zY (i := 2) (N := none) (bb 4 7) rfl rfl (by kernel_rfl) (by decide) (fun K hK => ?_)
 refine vF (g := g2) (cs := Z26) Z26 BK2 ?_ rfl rfl rfl rfl rfl jX rfl rfl
 intro w8 hbk hfar hbel
 have hHeld2 := hfar g5 _ (Ne.symm N2F.out) hHeld
 replace BK3 := K_ (hfar g3 _ (Ne.symm NB.out) BK3.out)
 replace BK2 := K_ hbk
 replace HB := K_ (hbel _ _ GE2.out HB.out)
 refine hK.out _ _ hHeld2 (fun _ => ?_)
 clear hK K hbk hfar hbel
 refine zY (i := 3) (N := none) (bb 4 15) rfl rfl (by kernel_rfl) (by decide) (fun K hK => ?_)
 refine vF (g := g3) (cs := Z51) #[.int .i64 E1, .int .i64 a1] BK3 ?_ rfl rfl rfl rfl rfl uT rfl rfl
 intro w9 hbk hfar hbel
 have hHeld3 := hfar g5 _ (Ne.symm N3F.out) hHeld2
 replace BK2 := K_ (hfar g2 _ NB.out BK2.out)
 replace BK3 := K_ hbk
 replace HB := K_ (hbel _ _ GE3.out HB.out)
 refine hK.out _ _ hHeld3 (fun _ => ?_)
 clear hK K hbk hfar hbel
 refine yV (by kernel_rfl) ?_
 go_wp2_with (fail)
 (
  refine bodyPost_ret (qT rfl _ _ g2 g3 26 51 Z26 #[.int .i64 E1, .int .i64 a1] (0, 0) (0, 0) _ _ rfl BK2.out Tryz.underlying26 rfl jX rfl BK3.out Tryz.underlying51 rfl uT) rfl ?_
  exact ⟨_, _, _, _, [], [], [], [], jJ, false, 0, 0, 0, E1, a1, rfl, Kd.R_nil _ _ _ _ _, Kd.R_nil _ _ _ _ _, Kd.R_nil _ _ _ _ _, Kd.R_nil _ _ _ _ _, BL HB, fun h => absurd h HEV.out, fun l' h1 h2 h3 P0 h4 h5 => (HE.out l' h1 h2 h3 P0 h4 h5).elim⟩)
end Go.Proofs.YtcmgdjnjmobkoaaGreatDoor.Px
namespace Go.Proofs.YtcmgdjnjmobkoaaGreatDoor.Px
open Fig Go.RowKit Go.Proofs.YtcmgdjnjmobkoaaGreatDoorW.PrintWords Go.Proofs.YtcmgdjnjmobkoaaGreatDoorW.PrintLast Go.Proofs.YtcmgdjnjmobkoaaGreatDoorW.PrintMore
attribute [local go_sem] vN vM uD uC yY yX vK vL
attribute [local go_sem] qU qN qG qR qL qS qJ qK qH qF qI qM qQ qP




end Go.Proofs.YtcmgdjnjmobkoaaGreatDoor.Px
namespace Go.Proofs.YtcmgdjnjmobkoaaGreatDoor.Px
set_option linter.all false
open Fig Go.RowKit Go.Proofs.YtcmgdjnjmobkoaaGreatDoorW.PrintWords Go.Proofs.YtcmgdjnjmobkoaaGreatDoorW.PrintLast Go.Proofs.YtcmgdjnjmobkoaaGreatDoorW.PrintMore
attribute [local go_sem] vN vM uD uC yY yX vK vL
structure xJ (q : Pat) (W : World) (b : Nat) : Prop where
 r0 : Kd.R k80 80 W b (fun _ => True) (.slice q.A0 q.l0.length q.c0) q.l0
 r1 : Kd.R k80 80 W b (fun _ => True) (.slice q.A1 q.l1.length q.c1) q.l1
 r3 : Kd.R k80 80 W b (fun _ => True) (.slice q.A3 q.l3.length q.c3) q.l3
 r4 : Kd.R k80 80 W b (fun _ => True) (.slice q.A4 q.l4.length q.c4) q.l4
theorem xJ.below {q : Pat} {W W' : World} {b : Nat} (h : xJ q W b) (hb : Below W.heap.size W W') : xJ q W' b := ⟨Kd.R_below h.r0 hb, Kd.R_below h.r1 hb, Kd.R_below h.r3 hb, Kd.R_below h.r4 hb⟩
theorem xJ.lower {q : Pat} {W : World} {b b' : Nat} (h : xJ q W b) (hb : b' ≤ b) : xJ q W b' := ⟨Kd.R_lower h.r0 hb, Kd.R_lower h.r1 hb, Kd.R_lower h.r3 hb, Kd.R_lower h.r4 hb⟩
theorem zfz {t : TypeId} (ht : (80 : Nat) ≠ t) : ∀ q, q ∈ 80 :: k80.E → q ≠ t := by
 intro q hq
 have h8 : (80 :: k80.E) = [80] := rfl
 rw [h8] at hq
 have : q = 80 := by simpa using hq
 rw [this]; exact ht
theorem xJ.so {q : Pat} {W w1 : World} {b g t : Nat} {cs : Array Value} (h : xJ q W b) (hb : W.heap[g]? = some (.cells cs t (0, 0))) (ht : (80 : Nat) ≠ t) (hfar : ∀ k o, k ≠ g → W.heap[k]? = some o → w1.heap[k]? = some o) : xJ q w1 b :=
 ⟨vY h.r0 hb (zfz ht) hfar, vY h.r1 hb (zfz ht) hfar, vY h.r3 hb (zfz ht) hfar, vY h.r4 hb (zfz ht) hfar⟩
structure zbl (q : Pat) : Prop where
 num : ∃ t, yZ t = some q.P
 g0 : vT q.l0
 g1 : vT q.l1
 g3 : vT q.l3
 g4 : vT q.l4
 nmix : ¬ mixed q.l0 q.l1 q.l3 q.l4
 s0 : q.l0.length ≤ 1000
 s1 : q.l1.length ≤ 1000
 s3 : q.l3.length ≤ 1000
 s4 : q.l4.length ≤ 1000
theorem zbl.good {q : Pat} (h : zbl q) : uE q.P := by obtain ⟨t, ht⟩ := h.num; exact zka ht
theorem zbl.more {q : Pat} (h : zbl q) : zcA q.P := by obtain ⟨t, ht⟩ := h.num; exact zkp ht
theorem xJ.ok {q : Pat} {W : World} {b : Nat} (h : xJ q W b) (g : zbl q) : zbc q W :=
 ⟨(Kd.R_reads' h.r0).2.2, (Kd.R_reads' h.r1).2.2, (Kd.R_reads' h.r3).2.2, (Kd.R_reads' h.r4).2.2, (Kd.R_reads' h.r0).2.1, (Kd.R_reads' h.r1).2.1, (Kd.R_reads' h.r3).2.1, (Kd.R_reads' h.r4).2.1, g.s0, g.s1, g.s3, g.s4, g.g0, g.g1, g.g3, g.g4⟩
def zkS (s : ByteArray) (q : Pat) (E : Int) : Prop := ∀ l, Ev (fun k => zE.f k s) (l, 0, 0) → xP l → zau l → ∀ P0, xU (l.map mk73) P0 →
   ¬ mixed (jG (uF (l.map mk73) (uX (l.map mk73)) l.length)) (jG (uG (l.map mk73) (uU (l.map mk73)) l.length)) (⟨2, 0⟩ :: jG (uF (l.map mk73) (uX (l.map mk73)) l.length)) (jG (uG (l.map mk73) (uU (l.map mk73)) l.length)) →
   E = 0 ∧ q.P = P0 ∧ q.l0 = jG (uF (l.map mk73) (uX (l.map mk73)) l.length) ∧ q.l1 = jG (uG (l.map mk73) (uU (l.map mk73)) l.length) ∧ q.l3 = ⟨2, 0⟩ :: q.l0 ∧ q.l4 = q.l1
theorem zia (s : ByteArray) (hs : s.size ≤ 1048576) (w : World) : Calls Tryz.prog 31 #[.string s] w fun e w' => ∃ (q : Pat) (E a : Int), e = .returned (.tuple #[.agg q.cs, .agg #[.int .i64 E, .int .i64 a]]) ∧ xJ q w' w.heap.size ∧ Below w.heap.size w w' ∧ (E = 0 → zbl q) ∧ zkS s q E := by
 refine (zkj s hs w).mono ?_
 rintro e w' ⟨v1, v2, v3, v4, px, sx, nx, ny, P, hn, at_, pad, wd, E, a, rfl, h1, h2, h3, h4, hb, hg, hex⟩
 obtain ⟨A0, c0, rfl⟩ := Kd.R_slice h1
 obtain ⟨A1, c1, rfl⟩ := Kd.R_slice h2
 obtain ⟨A3, c3, rfl⟩ := Kd.R_slice h3
 obtain ⟨A4, c4, rfl⟩ := Kd.R_slice h4
 refine ⟨⟨A0, A1, A3, A4, c0, c1, c3, c4, px, sx, nx, ny, hn, P, at_, pad, wd⟩, E, a, rfl, ⟨h1, h2, h3, h4⟩, hb, fun hE => ?_, hex⟩
 obtain ⟨i1, i2, i3, i4, i5, i6, i7, i8, i9, i10⟩ := hg hE
 exact ⟨i1, i2, i3, i4, i5, i6, i7, i8, i9, i10⟩
abbrev znQ := Bool × ByteArray × Int
def zhN (W : World) (ad : Addr) (L : List znQ) : Prop := ∀ i (h : i < L.length), W.cell? (ad.add (i * 3)) = some (.bool L[i].1) ∧ W.cell? ⟨(ad.add (i * 3)).block, (ad.add (i * 3)).off + 1, none⟩ = some (.string L[i].2.1) ∧ W.cell? ⟨(ad.add (i * 3)).block, (ad.add (i * 3)).off + 2, none⟩ = some (.int .i64 L[i].2.2)
theorem zhN.below {W W' : World} {ad : Addr} {L : List znQ} (h : zhN W ad L) (hb : Below W.heap.size W W') : zhN W' ad L := fun i hi => by
 obtain ⟨h1, h2, h3⟩ := h i hi
 exact ⟨(hb.cell (World.block_lt_of_cell? _ _ h1)).trans h1, (hb.cell (World.block_lt_of_cell? _ _ h2)).trans h2, (hb.cell (World.block_lt_of_cell? _ _ h3)).trans h3⟩
theorem a24 : vG.f false ⟨#[49]⟩ (-2) (-2) = some (false, ⟨#[49]⟩, -4) := by kernel_rfl
theorem c24 : vG.f false ⟨#[49, 50, 51, 52]⟩ (-4) 2 = some (false, ⟨#[49, 50, 51, 52]⟩, -2) := by kernel_rfl
theorem e24 : zaa.f false ⟨#[49, 50, 51, 52]⟩ (-2) (-2) = some true := by kernel_rfl
end Go.Proofs.YtcmgdjnjmobkoaaGreatDoor.Px
namespace Go.Proofs.YtcmgdjnjmobkoaaGreatDoor.Px
open Fig Go.RowKit Go.Proofs.YtcmgdjnjmobkoaaGreatDoorW.PrintWords Go.Proofs.YtcmgdjnjmobkoaaGreatDoorW.PrintLast Go.Proofs.YtcmgdjnjmobkoaaGreatDoorW.PrintMore
attribute [local go_sem] vN vM uD uC yY yX vK vL
attribute [local go_sem] qU qN qG qR qL qS qJ qK qH qF qI qM qQ qP
theorem zjN (m : Int) : yA.f m = some (decide (0 ≤ m ∧ m < 8)) := by
 unfold yA.f
 by_cases h : m ≥ 0
 ·rw [if_pos h]; congr 1; rw [decide_eq_decide]; omega
 rw [if_neg h]; congr 1; symm; rw [decide_eq_false_iff_not]; omega
theorem zor (e : Int) (p : Nat) (h1 : -1000000 ≤ e) (h2 : e ≤ 1000000) (hp : p ≤ 1000000) : wrap64 (e + (p : Int)) = e + (p : Int) := w64 (by omega) (by omega)
theorem znT (e : Int) (p q : Nat) (h1 : -1000000 ≤ e) (h2 : e ≤ 1000000) (hp : p ≤ 1000000) (hq : q ≤ 1000000) : wrap64 (wrap64 (e + (p : Int)) - (q : Int)) = e + (p : Int) - (q : Int) := by rw [zor e p h1 h2 hp, w64 (by omega) (by omega)]
theorem zcq {b : Bool} {s : ByteArray} {e : Int} (h : OkD s e) : jS.f b s e = some (b, nD (vB s), nE (vB s) e) := by
 have hz := h.val
 have h1 := h.sz
 have h2 := h.lo
 have h3 := h.hi
 unfold jS.f
 rw [show uP.f s (⟨#[48]⟩ : ByteArray) = some (jZ (vB s)) by unfold uP.f; rw [if_pos rfl, zkk h.d]]
 simp only [Option.bind_some]
 by_cases h0 : vB s = 0
 ·rw [if_pos (zcR.2 h0), h0]; rfl
 rw [if_neg (fun hh => h0 (zcR.1 hh))]
 have hl := zbz h0
 have ht : uV.f (jZ (vB s)) (⟨#[48]⟩ : ByteArray) = some (jZ (vA (vB s))) := by
  unfold uV.f
  rw [if_pos ⟨rfl, by omega⟩]
  show some (⟨(Lib.trimRightB (uH (vB s)) 48).toArray⟩ : ByteArray) = _
  unfold Lib.trimRightB; rw [zjf h0]; rfl
 rw [ht]
 simp only [Option.bind_some]
 rw [znT e _ _ (by omega) (by omega) (by omega) (by omega)]
 unfold nD nE
 rw [if_neg h0, if_neg h0, show e + ((jZ (vB s)).size : Int) - ((jZ (vA (vB s))).size : Int) = e + (tz (vB s) : Int) by omega]
theorem zoC {s : ByteArray} (h : dB s = true) (hne : s.size ≠ 0) (hs : s.size ≤ 140737488351232) : vX.f s = some (zT (vB s), true) := by
 unfold vX.f; rw [if_pos hs, if_pos ⟨h, hne⟩]
theorem zmq {b : Bool} {s : ByteArray} {e : Int} (h : OkD s e) : zaE.f b s e = some (zT (vB s)) := by
 have := h.sz
 unfold zaE.f; rw [zoC h.d h.ne (by omega)]; rfl
theorem zib {s : ByteArray} {e : Int} (h : OkD s e) : (zT (vB s)).length ≤ 100000 := by
 have := yK (vB s)
 have := h.val
 have := h.sz
 omega
theorem zic {l : List Int} {n : Int} (g : zU l = true) (hl : l.length ≤ 500000) (hn : n ≤ 1000000) : uI.f l n = some (zT (zF l * 10 ^ n.toNat)) := by unfold uI.f; rw [if_pos ⟨g, hl, hn⟩]
theorem zeB (m : Int) (neg odd : Bool) (half : Int) : uN.f m neg odd half = some (upB m neg odd half) := rfl
theorem znM {b : Bool} {s : ByteArray} {e p : Int} (h : OkS s e) (h1 : -10000 ≤ p) (h2 : p ≤ 10000) : uB.f b s e p = some (zT (vB s / 10 ^ (p - e).toNat), zT (vB s % 10 ^ (p - e).toNat)) := by
 have hl := h.lo
 have hh := h.hi
 have hc := zib h.ok
 unfold uB.f
 rw [zmq h.ok]
 simp only [Option.bind_some]
 rw [w64 (x := p - e) (by omega) (by omega)]
 have : zbG.f (zT (vB s)) (p - e) = some (zT (vB s / 10 ^ (p - e).toNat), zT (vB s % 10 ^ (p - e).toNat)) := by
  unfold zbG.f; rw [if_pos ⟨jQ _, by omega, by omega⟩, jK]
 rw [this]; rfl
theorem zon {b : Bool} {s : ByteArray} {e p : Int} (h : OkS s e) (h1 : -10000 ≤ p) (h2 : p ≤ 10000) : zaa.f b s e p = some (decide (atE (vB s) e (min e p) % atE 1 p (min e p) = 0)) := by
 unfold zaa.f
 by_cases hp : p ≤ e
 ·rw [if_pos hp, show min e p = p by omega, zcE, Nat.mod_one]; rfl
 rw [if_neg hp, znM h h1 h2]
 simp only [Option.bind_some, Option.some.injEq]
 rw [show min e p = e by omega, zcE, show atE 1 p e = 10 ^ (p - e).toNat by unfold atE; rw [Nat.one_mul]]
 rw [Bool.eq_iff_iff, beq_iff_eq, decide_eq_true_eq]
 constructor
 ·intro hh; exact zaz.1 (List.eq_nil_of_length_eq_zero (by omega))
 intro hh; rw [hh, zaD]; rfl
theorem zjL {q : Nat} (h : q ≠ 0) : (zT q).length > 0 ∧ rd (zT q) 0 = ((q % 1000000000 : Nat) : Int) := by
 have hv := jK q
 have hg := jQ q
 rcases hl : zT q with _ | ⟨x, l⟩
 ·exact absurd (zaz.1 hl) h
 rw [hl] at hv hg
 obtain ⟨hx, _⟩ := yJ.1 hg
 simp only [zF] at hv
 refine ⟨by simp, ?_⟩
 show x = _
 omega
theorem zkT (v : Nat) : dB (zax v) = true ∧ (zax v).size ≠ 0 ∧ vB (zax v) = v := by
 unfold zax
 by_cases h : v = 0
 ·rw [if_pos h, h]; exact ⟨rfl, by decide, rfl⟩
 rw [if_neg h]; exact ⟨zgp v, fun e => h (xV.1 e), zeK v⟩
theorem zig {v k : Nat} (h : (jZ v).size ≤ k) (hk : 1 ≤ k) : (zax v).size ≤ k := by
 unfold zax
 by_cases h0 : v = 0
 ·rw [if_pos h0]; exact hk
 rw [if_neg h0]; exact h
theorem zlx {v k : Nat} (h : (jZ v).size ≤ k) (hk : k ≤ 1000000) : vJ.f (zT v) = some (zax v) := by
 have := yK v
 unfold vJ.f; rw [if_pos ⟨jQ v, by omega⟩, jK]
theorem zgI {b : Bool} {v : Nat} {p : Int} (hz : (jZ v).size ≤ 50000) (h1 : -100000 ≤ p) (h2 : p ≤ 100000) : ((vJ.f (zT v)).bind fun t => (jS.f b t p).bind fun u => some (u.1, u.2.1, u.2.2, (0 : Int))) = some (b, nD v, nE v p, 0) := by
 obtain ⟨d1, d2, d3⟩ := zkT v
 have d4 := zig (k := 50000) hz (by decide)
 rw [zlx hz (by decide)]
 simp only [Option.bind_some]
 rw [zcq ⟨d1, d2, by omega, h1, h2⟩, d3]; rfl
theorem zmR {q : Nat} (h : (jZ q).size ≤ 1000000) : uK.f (zT q) ([1] : List Int) = some (zT (q + 1)) := by
 have hl := yK q
 have h1 : ([1] : List Int).length ≤ 1000000000000 := by show 1 ≤ 1000000000000; omega
 have := zeN (jQ q) (b := [1]) (by decide) (by omega) h1
 rwa [jK, show zF [1] = 1 from rfl] at this
theorem zmz {α β : Type} {x : Option α} {f : α → Option β} {a : α} {r : Option β} (h : x = some a) (h2 : f a = r) : x.bind f = r := by subst h; exact h2
theorem zdQ {b : Bool} {s : ByteArray} {e p : Int} {q : Nat} {u : Bool} (hz : (jZ q).size ≤ 40000) (h1 : -10000 ≤ p) (h2 : p ≤ 10000) : Ev (fun k => zP.j0 k p (zT q) u b s e) (b, nD (q + if u = true then 1 else 0), nE (q + if u = true then 1 else 0) p, 0) := by
 cases u
 ·refine zcj (r' := (b, nD q, nE q p, 0)) (fun k => ?_) (by simp)
  simp only [zP.j0, Bool.false_eq_true, if_false]
  exact zgI (by omega) (by omega) (by omega)
 have ha := zmR (q := q) (by omega)
 have hz2 := zbw (m := q) (n := 1) (p := 40000) hz (by rw [zaV]; omega)
 refine zcj (r' := (b, nD (q + 1), nE (q + 1) p, 0)) (fun k => ?_) (by simp)
 simp only [zP.j0, if_true]
 exact zmz ha (zgI (by omega) (by omega) (by omega))
theorem zdS {m : Int} {b : Bool} {s : ByteArray} {e p : Int} (hm : 0 ≤ m) (hm7 : m ≤ 7) (h : OkS s e) (h1 : -10000 ≤ p) (h2 : p ≤ 10000) : Ev (fun k => zP.f k m b s e p) (zar m b (vB s) e 1 p) := by
 have hv := h.ok.val
 have hsz := h.sz
 have hlo := h.lo
 have hhi := h.hi
 unfold zP.f
 refine evE (zjN m) (evT (by simp; omega) (evE (zon h h1 h2) ?_))
 by_cases hf : atE (vB s) e (min e p) % atE 1 p (min e p) = 0
 ·rw [zdG hf]
  exact evT (decide_eq_true hf) (evE (zcq h.ok) (Ev.now _))
 refine evF (by simpa using hf) ?_
 have hpe : e < p := by
  apply Classical.byContradiction; intro hn
  rw [show min e p = p by omega, zcE, Nat.mod_one] at hf
  exact hf rfl
 by_cases h7 : m = 7
 ·subst h7
  rw [zcH hf]
  exact evT rfl (Ev.now _)
 refine evF h7 ?_
 have hme : min e p = e := by omega
 obtain ⟨B, hB⟩ : ∃ B, B = 10 ^ (p - e).toNat := ⟨_, rfl⟩
 have hB1 : atE 1 p e = B := by unfold atE; rw [Nat.one_mul, hB]
 rw [hme, zcE, hB1] at hf
 have hB0 : 0 < B := by rw [hB]; exact zen _
 have hzB : (jZ B).size ≤ 20001 := by rw [hB, zgQ]; omega
 have zq := zan (Nat.div_le_self (vB s) B) hv
 have zr := zan (Nat.mod_le (vB s) B) hv
 have lq := yK (vB s / B)
 have lr := yK (vB s % B)
 have z2 := zbw zr zr
 have l2 := yK (vB s % B + vB s % B)
 have lB := yK B
 have hcut := znM (b := b) h h1 h2
 rw [← hB] at hcut
 refine evE hcut ?_
 have ha : uK.f (zT (vB s % B)) (zT (vB s % B)) = some (zT (vB s % B + vB s % B)) := by
  have := zeN (jQ (vB s % B)) (jQ (vB s % B)) (by omega) (by omega)
  rwa [jK] at this
 have hs : uI.f ([1] : List Int) (wrap64 (p - e)) = some (zT B) := by
  rw [w64 (x := p - e) (by omega) (by omega), zic (by decide) (by decide) (by omega), show zF [1] = 1 by decide, Nat.one_mul, hB]
 have hc : uO.f (zT (vB s % B + vB s % B)) (zT B) = some (vV (vB s % B + vB s % B) B) := by
  have := zeD (jQ (vB s % B + vB s % B)) (jQ B) (by omega) (by omega)
  rwa [jK, jK] at this
 refine evE ha (evE hs (evE hc ?_))
 have hres : zar m b (vB s) e 1 p = (b, nD (vB s / B + if upB m b (vB s / B % 2 == 1) (vV (vB s % B + vB s % B) B) = true then 1 else 0), nE (vB s / B + if upB m b (vB s / B % 2 == 1) (vV (vB s % B + vB s % B) B) = true then 1 else 0) p, 0) := by
  rw [zkz h7 b (vB s) e 1 p e (Int.le_refl e) (by omega)]
  unfold rv0
  rw [zcE, hB1]
  have hq : rq m b (vB s) B = vB s / B + if upB m b (vB s / B % 2 == 1) (vV (vB s % B + vB s % B) B) = true then 1 else 0 := by
   unfold rq; simp only [ne_eq, hf, not_false_eq_true, true_and]
  rw [hq, hB, zlj, zkP, show e + ((p - e).toNat : Int) = p by omega]
 rw [hres]
 dsimp only
 by_cases hq0 : vB s / B = 0
 ·refine evF (by rw [hq0, zaD]; decide) (evE (zeB _ _ _ _) ?_)
  have : (vB s / B % 2 == 1) = false := by rw [hq0]; rfl
  rw [this]
  exact zdQ (by omega) h1 h2
 obtain ⟨g1, g2⟩ := zjL hq0
 refine evT (by omega) (evT (by omega) ?_)
 have : (Int.tmod (rd (zT (vB s / B)) 0) 2 == 1) = (vB s / B % 2 == 1) := by
  rw [g2, Int.tmod_eq_emod_of_nonneg (by omega), Bool.eq_iff_iff, beq_iff_eq, beq_iff_eq]; omega
 rw [this]
 refine evE (zeB _ _ _ _) ?_
 exact zdQ (by omega) h1 h2
theorem zfM (n : Nat) : (nD n).toList = ([48] : List UInt8) ↔ n = 0 := by
 rw [← zdN]
 constructor
 ·intro h; apply zaw; rw [← ByteArray.toList_eq, h]; rfl
 intro h; rw [h, ByteArray.toList_eq]; rfl
theorem zoy (e : Int) (p : Nat) (h1 : -1000000 ≤ e) (h2 : e ≤ 1000000) (hp : p ≤ 1000000) : wrap64 (wrap64 (e + (p : Int)) - 1) = e + (p : Int) - 1 := by
 rw [w64 (x := e + (p : Int)) (by omega) (by omega), w64 (by omega) (by omega)]
theorem zjv {b : Bool} {s : ByteArray} {e : Int} (h : OkD s e) : zay.f b s e = some (vC (vB s) e) := by
 have hz := h.val
 have h1 := h.sz
 have h2 := h.lo
 have h3 := h.hi
 unfold zay.f
 rw [zcq h]
 simp only [Option.bind_some]
 by_cases h0 : vB s = 0
 ·rw [if_pos ((zfM _).2 h0), h0]; rfl
 rw [if_neg (fun hh => h0 ((zfM _).1 hh))]
 have hl := zbz h0
 have hnd : nD (vB s) = jZ (vA (vB s)) := by unfold nD; rw [if_neg h0]
 have hne : nE (vB s) e = e + (tz (vB s) : Int) := by unfold nE; rw [if_neg h0]
 rw [hnd, hne, zoy _ _ (by omega) (by omega) (by omega)]
 unfold vC; rw [if_neg h0]; congr 1; omega
theorem zni {s : ByteArray} {e : Int} (h : OkS s e) : -10000 ≤ vC (vB s) e ∧ vC (vB s) e ≤ 20000 := by
 have hv := h.ok.val
 have hsz := h.sz
 have hlo := h.lo
 have hhi := h.hi
 unfold vC
 split
 ·omega
 rename_i h0
 have : (jZ (vB s)).size ≠ 0 := fun hh => h0 (xV.1 hh)
 omega
theorem zku {b : Bool} {s : ByteArray} {e n : Int} (h : OkS s e) (h1 : n ≤ 100000) : zbC.f b s e n = some (vC (vB s) e - max n 1 + 1) := by
 have hb := zni h
 have hm : mx n 1 = max n 1 := by unfold mx; omega
 unfold zbC.f
 rw [zjv h.ok]
 simp only [Option.bind_some]
 rw [hm, w64 (x := vC (vB s) e - max n 1) (by omega) (by omega), w64 (by omega) (by omega)]
theorem ziu {m : Int} {b : Bool} {s : ByteArray} {e : Int} {c : Nat} (hm : 0 ≤ m) (hm7 : m ≤ 7) (hc : 1 ≤ c) (hc2 : c ≤ 5000) (h : OkS s e) (ht : vC (vB s) e ≤ 10000) (ht2 : -5000 ≤ vC (vB s) e) : Ev (fun k => jP.f k m b s e (c : Int)) (zar m b (vB s) e 1 (vC (vB s) e - (c : Int) + 1)) := by
 unfold jP.f
 refine evE (zjN m) (evT (by simp; omega) ?_)
 have : decide ((c : Int) < 1) = false := decide_eq_false (by omega)
 rw [this]
 refine Ev.step (fun k => by simp only [jP.j0, Bool.false_eq_true, if_false]; rfl) ?_
 refine evE (zku h (by omega)) ?_
 rw [show max (c : Int) 1 = (c : Int) by omega]
 exact Ev.bind (zdS hm hm7 h (by omega) (by omega)) (Ev.now _)
theorem zjX (p q : Nat) (hp : p ≤ 1000000000) (hq : q ≤ 1000000000) : (((p : Int) + (q : Int)) % 4294967296) / 2 = (((p + q) / 2 : Nat) : Int) := by omega
theorem zjw (r b : List Int) (gr : zU r = true) (gb : zU b = true) (lr : r.length ≤ 1000001) (lb : b.length ≤ 1000000) : ∀ (d p q : Nat), q - p = d → p < q → q ≤ 1000000000 → zF b * p ≤ zF r → zF r < zF b * q →
  Ev (fun k => jO.l0 k r b (p : Int) (q : Int)) (((zF r / zF b : Nat) : Int), zT (zF r % zF b)) := by
 intro d
 induction d using Nat.strongRecOn with
 | _ d ih =>
 intro p q hd hpq hq h1 h2
 by_cases hs : 1 < q - p
 ·have hm1 : p < (p + q) / 2 := by omega
  have hm2 : (p + q) / 2 < q := by omega
  have lm : (zT (zF b * ((p + q) / 2) + 0)).length ≤ 1000001 := by
   have := xS gb
   have h3 : zF b * ((p + q) / 2) < 1000000000 ^ b.length * 1000000000 := Nat.mul_lt_mul'' this (by omega)
   rw [← Nat.pow_succ] at h3
   exact zdu h3 (by omega)
  refine Ev.step (f := fun k => (vQ.f k b (((p + q) / 2 : Nat) : Int) ((0 : Nat) : Int)).bind fun t => (uO.f t r).bind fun t2 => if t2 ≤ 0 then jO.l0 k r b (((p + q) / 2 : Nat) : Int) (q : Int) else jO.l0 k r b (p : Int) (((p + q) / 2 : Nat) : Int)) (fun k => ?_) (Ev.bind (zdK gb lb (by omega) (by omega)) (Ev.bind (zbJ fun _ => zeD (jQ _) gr (by omega) (by omega)) ?_))
  ·simp only [jO.l0]
   rw [if_pos (by omega), zjX p q (by omega) hq]; rfl
  rw [jK, Nat.add_zero]
  by_cases hc : zF b * ((p + q) / 2) ≤ zF r
  ·have c0 : vV (zF b * ((p + q) / 2)) (zF r) ≤ 0 := by
    unfold vV
    split
    ·omega
    rw [if_neg (by omega)]; omega
   simp only [c0, if_true]
   exact ih _ (by omega) _ _ rfl hm2 hq hc h2
  have c0 : ¬ vV (zF b * ((p + q) / 2)) (zF r) ≤ 0 := by unfold vV; rw [if_neg (by omega), if_pos (by omega)]; omega
  simp only [c0, if_false]
  exact ih _ (by omega) _ _ rfl hm1 (by omega) h1 (by omega)
 have hq1 : q = p + 1 := by omega
 subst hq1
 have hb0 : 0 < zF b := by
  rcases Nat.eq_zero_or_pos (zF b) with h0 | h0
  ·rw [h0] at h2; omega
  exact h0
 have e1 : zF r / zF b = p := by
  rw [Nat.mul_add] at h2
  exact Nat.div_eq_of_lt_le (by rw [Nat.mul_comm]; exact h1) (by rw [Nat.add_mul, Nat.mul_comm p]; omega)
 have e2 : zF r % zF b = zF r - zF b * p := by
  have := Nat.div_add_mod (zF r) (zF b)
  rw [e1] at this; omega
 have lm : (zT (zF b * p + 0)).length ≤ 1000001 := by
  exact zdu (Nat.lt_of_le_of_lt h1 (xS gr)) lr
 refine Ev.step (f := fun k => (vQ.f k b ((p : Nat) : Int) ((0 : Nat) : Int)).bind fun t => (zcB.f r t).bind fun t2 => some (((p : Nat) : Int), t2.1)) (fun k => ?_) (Ev.bind (zdK gb lb (by omega) (by omega)) (Ev.bind (zbJ fun _ => zne gr (jQ _) (by omega) (by omega) (by rw [jK]; omega)) ?_))
 ·simp only [jO.l0]
  rw [if_neg (by omega)]; rfl
 rw [jK, Nat.add_zero, e1, e2]; exact Ev.now _
theorem zlE {r b : List Int} (gr : zU r = true) (gb : zU b = true) (lr : r.length ≤ 1000001) (lb : b.length ≤ 1000000) (h : zF r < 1000000000 * zF b) : Ev (fun k => jO.f k r b) (((zF r / zF b : Nat) : Int), zT (zF r % zF b)) := by
 have := zjw r b gr gb lr lb _ 0 1000000000 rfl (by omega) (by omega) (by omega) (by rw [Nat.mul_comm]; exact h)
 exact this
theorem zmi (A V y p r X Q R : Nat) (h : X * y + r = V) (hq : Q = (p + 1000000000 * r) / y) (hr : R = (p + 1000000000 * r) % y) : (Q + 1000000000 * X) * y + R = p + 1000000000 * V := by
 have := Nat.div_add_mod (p + 1000000000 * r) y
 rw [← hq, ← hr] at this
 rw [Nat.add_mul, Nat.mul_assoc, Nat.mul_comm _ y, ← h, Nat.mul_add]; omega
theorem zeZ (a b : List Int) (ga : zU a = true) (gb : zU b = true) (la : a.length ≤ 1000000) (lb : b.length ≤ 1000000) (hb : 0 < zF b) : ∀ (n : Nat) (q r : List Int), n ≤ a.length → q.length = a.length → zU q = true → zU r = true → r.length ≤ 1000000 → zF r < zF b → zF (q.drop n) * zF b + zF r = zF (a.drop n) →
  Ev (fun k => jC.l0 k a b q r ((n : Int) - 1)) (zT (zF a / zF b), zT (zF a % zF b), true)
 | 0, q, r, hn, hq, gq, gr, lr, hr, hv => by
  rw [List.drop_zero, List.drop_zero] at hv
  have e1 : zF q = zF a / zF b := by rw [← hv, Nat.mul_comm, Nat.mul_add_div hb, Nat.div_eq_of_lt hr]; rfl
  have e2 : zF r = zF a % zF b := by rw [← hv, Nat.mul_comm, Nat.mul_add_mod, Nat.mod_eq_of_lt hr]
  refine zhP (Ev.step (f := fun _ => (jR.f q).bind fun t => (jR.f r).bind fun t2 => some (t, t2, true)) (fun k => ?_) (Ev.bind (zbJ fun _ => qW gq (by omega)) (Ev.bind (zbJ fun _ => qW gr (by omega)) (Ev.now _)))) ?_
  ·simp only [jC.l0]; rw [if_neg (by omega)]
  rw [e1, e2]
 | n + 1, q, r, hn, hq, gq, gr, lr, hr, hv => by
  have hna : n < a.length := by omega
  have hnq : n < q.length := by omega
  have pa := yF.1 ga _ (List.getElem_mem hna)
  obtain ⟨p, hp⟩ : ∃ v : Nat, a[n] = (v : Int) := ⟨a[n].toNat, by omega⟩
  have hp9 : p < 1000000000 := by omega
  have gpr : zU ([(p : Int)] ++ r) = true := yM.2 ⟨yJ.2 ⟨by omega, rfl⟩, gr⟩
  have vpr : zF ([(p : Int)] ++ r) = p + 1000000000 * zF r := by simp [zF]
  have hlt : p + 1000000000 * zF r < 1000000000 * zF b := by omega
  have hqb : (p + 1000000000 * zF r) / zF b < 1000000000 := by rw [Nat.div_lt_iff_lt_mul hb]; exact hlt
  have hmod := Nat.mod_lt (p + 1000000000 * zF r) hb
  have lt2 : (zT (p + 1000000000 * zF r)).length ≤ 1000001 := by
   rw [← vpr]
   exact Nat.le_trans (zaH (xS gpr)) (by simp; omega)
  have lm : (zT ((p + 1000000000 * zF r) % zF b)).length ≤ 1000000 := by
   have := xS gb
   exact zdu (Nat.lt_trans hmod this) lb
  have ex : (((n + 1 : Nat) : Int) - 1) = (n : Int) := by omega
  refine Ev.step (f := fun k => (jR.f ([(p : Int)] ++ r)).bind fun t => (jO.f k t b).bind fun t2 => jC.l0 k a b (q.set n t2.1) t2.2 ((n : Int) - 1)) (fun k => ?_) (Ev.bind (zbJ fun _ => qW gpr (by simp; omega)) ?_)
  ·simp only [ex, jC.l0, Option.bind_some]
   rw [if_pos (by omega), if_pos (by omega), if_pos (by omega), vU hna, hp, if_pos (by simp; omega)]
   have c1 : (n : Int) < (q.length : Int) := by omega
   simp only [c1, if_true, Int.toNat_natCast, w64 (x := (n : Int) - 1) (by omega) (by omega)]
  rw [vpr]
  refine Ev.bind (zlE (jQ _) gb (by omega) lb (by rw [jK]; exact hlt)) ?_
  rw [jK]
  refine zeZ a b ga gb la lb hb n _ _ (by omega) (by simpa using hq) (zcT gq n (ziL hqb)) (jQ _) lm (by rw [jK]; exact hmod) ?_
  rw [jK, zcn q n _ hnq, List.drop_eq_getElem_cons hna, hp]
  exact zmi 0 _ _ p _ _ _ _ hv rfl rfl
theorem zkA {a b : List Int} (ga : zU a = true) (gb : zU b = true) (la : a.length ≤ 1000000) (lb : b.length ≤ 1000000) (hb : 0 < zF b) : Ev (fun k => jC.f k a b) (zT (zF a / zF b), zT (zF a % zF b), true) := by
 unfold jC.f
 refine Ev.bind (zbJ fun _ => qW gb (by omega)) ?_
 have lb2 : (zT (zF b)).length ≤ 1000000 := Nat.le_trans (zaH (xS gb)) lb
 have h0 : ¬ ((zT (zF b)).length : Int) = 0 := by
  intro h
  have : zT (zF b) = [] := List.eq_nil_of_length_eq_zero (by omega)
  have := zaz.1 this; omega
 have h1 : (0 : Int) ≤ (a.length : Int) := by omega
 have h2 : a.length ≤ 70368744177664 := by omega
 simp only [h0, h1, if_true, if_false, Int.toNat_natCast, h2]
 rw [w64 (by omega) (by omega)]
 have := zeZ a (zT (zF b)) ga (jQ _) la lb2 (by rw [jK]; exact hb) a.length (List.replicate a.length 0) [] (Nat.le_refl _) (by simp) (zad _) rfl (by simp) (by rw [jK]; exact hb) (by
  rw [List.drop_of_length_le (by simp), List.drop_of_length_le (Nat.le_refl _)]; simp [zF])
 rwa [jK] at this
theorem zhd (a b : List Int) (ga : zU a = true) (gb : zU b = true) (la : a.length ≤ 1000000) (lb : b.length ≤ 1000000) : ∀ (d n : Nat) (x : List Int), b.length - n = d → n ≤ b.length → zU x = true → x.length = a.length + b.length + 1 → zF x = zF a * zF (b.take n) →
  Ev (fun k => yB.l0 k a x b (b.length : Int) (n : Int)) (zT (zF a * zF b))
 | 0, n, x, h1, h2, gx, hx, hv => by
  refine zcj (r' := zT (zF x)) (fun k => ?_) ?_
  ·simp only [yB.l0, jR.f]; rw [if_neg (by omega), qW gx (by omega)]; rfl
  rw [hv, List.take_of_length_le (by omega)]
 | d + 1, n, x, h1, h2, gx, hx, hv => by
  have hnb : n < b.length := by omega
  have pb := yF.1 gb _ (List.getElem_mem hnb)
  obtain ⟨y, hy⟩ : ∃ v : Nat, b[n] = (v : Int) := ⟨b[n].toNat, by omega⟩
  have e : zF (b.take (n + 1)) = zF (b.take n) + 1000000000 ^ n * y := by
   rw [List.take_succ_eq_append_getElem hnb, uW, hy, Int.toNat_natCast, List.length_take, Nat.min_eq_left (by omega)]
  have key : zF x + 1000000000 ^ n * (zF a * y) = zF a * zF (b.take (n + 1)) := by
   rw [hv, e, Nat.mul_add, Nat.mul_left_comm (1000000000 ^ n)]
  have hlt : zF x + 1000000000 ^ n * (zF a * y) < 1000000000 ^ x.length := by
   rw [key, hx]
   have va := xS ga
   have vb := xS (zcu gb (n + 1))
   have h3 := Nat.mul_lt_mul'' va vb
   rw [← Nat.pow_add] at h3
   exact Nat.lt_of_lt_of_le h3 (Nat.pow_le_pow_right (by omega) (by rw [List.length_take]; omega))
  obtain ⟨r, hr, g1, g2, g3⟩ := zkh (p := n) gx ga (show y < 1000000000 by omega) (by omega) (by omega) hlt
  refine Ev.step (f := fun k => (jE.f k x a (y : Int) (n : Int)).bind fun t => yB.l0 k a t b (b.length : Int) ((n + 1 : Nat) : Int)) (fun k => ?_) (Ev.bind hr (zhd a b ga gb la lb d (n + 1) r (by omega) (by omega) g1 (by omega) (by rw [g3, key])))
  simp only [yB.l0]; rw [if_pos (by omega), if_pos (by omega), if_pos (by omega), vU hnb, hy, zaA _ (by omega)]
theorem zkM {a b : List Int} (ga : zU a = true) (gb : zU b = true) (la : a.length ≤ 1000000) (lb : b.length ≤ 1000000) : Ev (fun k => yB.f k a b) (zT (zF a * zF b)) := by
 unfold yB.f
 rw [zjT _ _ la lb]
 have c1 : (0 : Int) ≤ ((a.length + b.length + 1 : Nat) : Int) := by omega
 have c2 : a.length + b.length + 1 ≤ 70368744177664 := by omega
 simp only [Int.toNat_natCast, c1, c2, if_true]
 exact zhd a b ga gb la lb b.length 0 _ rfl (by omega) (zad _) (by simp) (by rw [zaJ]; simp [zF])
theorem mnP (a b : Int) : mn a b = min b a := by unfold mn; split <;> omega
theorem zlX {q : Nat} (h : q ≠ 0) : (zT q).length > 0 ∧ rd (zT q) 0 = ((q % 1000000000 : Nat) : Int) := by
 have hv := jK q
 have hg := jQ q
 rcases hl : zT q with _ | ⟨x, l⟩
 ·exact absurd (zaz.1 hl) h
 rw [hl] at hv hg
 obtain ⟨hx, _⟩ := yJ.1 hg
 simp only [zF] at hv
 refine ⟨by simp, ?_⟩
 show x = _
 omega
theorem zkl (v : Nat) : dB (zax v) = true ∧ (zax v).size ≠ 0 ∧ vB (zax v) = v := by
 unfold zax
 by_cases h : v = 0
 ·rw [if_pos h, h]; exact ⟨rfl, by decide, rfl⟩
 rw [if_neg h]; exact ⟨zgp v, fun e => h (xV.1 e), zeK v⟩
theorem zgk {v k : Nat} (h : (jZ v).size ≤ k) (hk : 1 ≤ k) : (zax v).size ≤ k := by
 unfold zax
 by_cases h0 : v = 0
 ·rw [if_pos h0]; exact hk
 rw [if_neg h0]; exact h
theorem zjm {v k : Nat} (h : (jZ v).size ≤ k) (hk : k ≤ 1000000) : vJ.f (zT v) = some (zax v) := by
 have := yK v
 unfold vJ.f; rw [if_pos ⟨jQ v, by omega⟩, jK]
theorem ziT {b : Bool} {v : Nat} {p : Int} (hz : (jZ v).size ≤ 100000) (h1 : -100000 ≤ p) (h2 : p ≤ 100000) : ((vJ.f (zT v)).bind fun t => (jS.f b t p).bind fun u => some (u.1, u.2.1, u.2.2, (0 : Int))) = some (b, nD v, nE v p, 0) := by
 obtain ⟨d1, d2, d3⟩ := zkl v
 have d4 := zgk (k := 100000) hz (by decide)
 rw [zjm hz (by decide)]
 simp only [Option.bind_some]
 rw [zcq ⟨d1, d2, by omega, h1, h2⟩, d3]; rfl
theorem zmZ {q : Nat} (h : (jZ q).size ≤ 1000000) : uK.f (zT q) ([1] : List Int) = some (zT (q + 1)) := by
 have hl := yK q
 have h1 : ([1] : List Int).length ≤ 1000000000000 := by show 1 ≤ 1000000000000; omega
 have := zeN (jQ q) (b := [1]) (by decide) (by omega) h1
 rwa [jK, show zF [1] = 1 from rfl] at this
theorem zkt {b : Bool} {s : ByteArray} {e E : Int} {q B : Nat} {u : Bool} (hz : (jZ q).size ≤ 40000) (hB : (jZ B).size ≤ 40000) (h1 : -100000 ≤ E) (h2 : E ≤ 100000) : Ev (fun k => zR.j1 k (zT B) E (zT q) u b s e) (b, nD ((q + if u = true then 1 else 0) * B), nE ((q + if u = true then 1 else 0) * B) E, 0) := by
 have lB := yK B
 cases u
 ·have lq := yK q
  have hm := zeU hz hB
  have := zkM (jQ q) (jQ B) (by omega) (by omega)
  rw [jK, jK] at this
  refine Ev.step (fun k => by simp only [zR.j1, Bool.false_eq_true, if_false]; rfl) (Ev.bind this (zbJ fun _ => ?_))
  simp only [Bool.false_eq_true, if_false, Nat.add_zero]
  exact ziT (by omega) h1 h2
 have ha := zmZ (q := q) (by omega)
 have h3 := zbw (m := q) (n := 1) (p := 40000) hz (by rw [zaV]; omega)
 have lq := yK (q + 1)
 have hm := zeU h3 hB
 have := zkM (jQ (q + 1)) (jQ B) (by omega) (by omega)
 rw [jK, jK] at this
 refine Ev.step (fun k => by simp only [zR.j1, if_true]; rfl) (evE ha (Ev.bind this (zbJ fun _ => ?_)))
 simp only [if_true]
 exact ziT (by omega) h1 h2
theorem znJ {m : Int} {b : Bool} {s : ByteArray} {e p : Int} {S : Nat} (h : OkS s e) (hS0 : S ≠ 0) (hS : (jZ S).size ≤ 1000) (h1 : -10000 ≤ p) (h2 : p ≤ 10000) : Ev (fun k => zR.j0 k m p (zT S) false b s e) (zar m b (vB s) e S p) := by
 have hv := h.ok.val
 have hz := h.sz
 have hlo := h.lo
 have hhi := h.hi
 have hc := zib h.ok
 have lS := yK S
 obtain ⟨E, hE⟩ : ∃ E, E = mn e p := ⟨_, rfl⟩
 have hE2 : E = min e p := by rw [hE, mnP]; omega
 have sB : uI.f (zT S) (wrap64 (p - E)) = some (zT (atE S p E)) := by
  rw [w64 (x := p - E) (by omega) (by omega), zic (jQ _) (by omega) (by omega), jK]; rfl
 have sN : uI.f (zT (vB s)) (wrap64 (e - E)) = some (zT (atE (vB s) e E)) := by
  rw [w64 (x := e - E) (by omega) (by omega), zic (jQ _) (by omega) (by omega), jK]; rfl
 have zB : (jZ (atE S p E)).size ≤ 30000 := by
  unfold atE; rw [zbN hS0]; omega
 have zN := zgb b (n := vB s) (p := 10000) e E (by omega)
 rw [zef] at zN
 have hB0 := ziO hS0 p E
 refine Ev.step (fun k => by simp only [zR.j0, Bool.false_eq_true, if_false, ← hE]; rfl) ?_
 refine evE sB (evE (zmq h.ok) (evE sN ?_))
 obtain ⟨N, hN⟩ : ∃ N, N = atE (vB s) e E := ⟨_, rfl⟩
 obtain ⟨B, hBB⟩ : ∃ B, B = atE S p E := ⟨_, rfl⟩
 rw [← hN, ← hBB]
 rw [← hN] at zN
 rw [← hBB] at zB hB0
 have zN2 : (jZ N).size ≤ 30000 := by omega
 have zr := zan (Nat.mod_le N B) zN2
 have zq := zan (Nat.div_le_self N B) zN2
 have lN := yK N
 have lB := yK B
 have lr := yK (N % B)
 have z2 := zbw zr zr
 have l2 := yK (N % B + N % B)
 have hd := zkA (jQ N) (jQ B) (by omega) (by omega) (by rw [jK]; exact hB0)
 rw [jK, jK] at hd
 refine Ev.bind hd ?_
 dsimp only
 by_cases hf : N % B = 0
 ·have hf2 : atE (vB s) e (min e p) % atE S p (min e p) = 0 := by rw [← hE2, ← hN, ← hBB]; exact hf
  rw [zdG hf2]
  exact evT (by rw [hf, zaD]; rfl) (evE (zcq h.ok) (Ev.now _))
 have hf2 : ¬ atE (vB s) e (min e p) % atE S p (min e p) = 0 := by rw [← hE2, ← hN, ← hBB]; exact hf
 refine evF (fun hh => hf (zaz.1 (List.eq_nil_of_length_eq_zero (by omega)))) ?_
 by_cases h7 : m = 7
 ·subst h7
  rw [zcH hf2]
  exact evT rfl (Ev.now _)
 refine evF h7 ?_
 have ha : uK.f (zT (N % B)) (zT (N % B)) = some (zT (N % B + N % B)) := by
  have := zeN (jQ (N % B)) (jQ (N % B)) (by omega) (by omega)
  rwa [jK] at this
 have hcm : uO.f (zT (N % B + N % B)) (zT B) = some (vV (N % B + N % B) B) := by
  have := zeD (jQ (N % B + N % B)) (jQ B) (by omega) (by omega)
  rwa [jK, jK] at this
 have hres : zar m b (vB s) e S p = (b, nD ((N / B + if upB m b (N / B % 2 == 1) (vV (N % B + N % B) B) = true then 1 else 0) * B), nE ((N / B + if upB m b (N / B % 2 == 1) (vV (N % B + N % B) B) = true then 1 else 0) * B) E, 0) := by
  rw [zeo h7, ← hE2]
  unfold rv0
  rw [← hN, ← hBB]
  have hq : rq m b N B = N / B + if upB m b (N / B % 2 == 1) (vV (N % B + N % B) B) = true then 1 else 0 := by
   unfold rq; simp only [ne_eq, hf, not_false_eq_true, true_and]
  rw [hq]
 rw [hres]
 by_cases hq0 : N / B = 0
 ·refine evF (by rw [hq0, zaD]; decide) (evE ha (evE hcm (evE (zeB _ _ _ _) ?_)))
  have : (N / B % 2 == 1) = false := by rw [hq0]; rfl
  rw [this]
  exact zkt (by omega) (by omega) (by omega) (by omega)
 obtain ⟨g1, g2⟩ := zlX hq0
 refine evT (by omega) (evT (by omega) (evE ha (evE hcm ?_)))
 have : (Int.tmod (rd (zT (N / B)) 0) 2 == 1) = (N / B % 2 == 1) := by
  rw [g2, Int.tmod_eq_emod_of_nonneg (by omega), Bool.eq_iff_iff, beq_iff_eq, beq_iff_eq]; omega
 rw [this]
 refine evE (zeB _ _ _ _) ?_
 exact zkt (by omega) (by omega) (by omega) (by omega)
theorem zmC {st : ByteArray} (hst : st.size ≤ 140737488351232) : vX.f st = some (if dB st = true ∧ st.size ≠ 0 then (zT (vB st), true) else ([], false)) := by unfold vX.f; rw [if_pos hst]
theorem zir {m : Int} {b : Bool} {s st : ByteArray} {e p : Int} (hm : 0 ≤ m) (hm7 : m ≤ 7) (h : OkS s e) (hd : dB st = true) (hs0 : vB st ≠ 0) (hsz : st.size ≤ 40) (h1 : -10000 ≤ p) (h2 : p ≤ 10000) : Ev (fun k => zR.f k m b s e st p) (zar m b (vB s) e (vB st) p) := by
 have hn0 : st.size ≠ 0 := by
  intro h0
  rw [ByteArray.size_eq_zero_iff.1 h0] at hs0; exact hs0 rfl
 have hst := zaI (zjk hd)
 unfold zR.f
 refine evE (zmC (by omega)) (evE (zjN m) (evT (by simp; omega) ?_))
 rw [if_pos ⟨hd, hn0⟩]
 refine evT rfl (evF (by omega) ?_)
 have : (((zT (vB st)).length : Int) == 0) = false := by
  rw [beq_eq_false_iff_ne]
  intro hh
  exact hs0 (zaz.1 (List.eq_nil_of_length_eq_zero (by omega)))
 dsimp only
 rw [this]
 exact znJ h hs0 (by omega) h1 h2
theorem zkX {b : Bool} {s : ByteArray} {e n : Int} (h : OkD s (e + n)) (h1 : -1000000 ≤ e) (h2 : e ≤ 1000000) (h3 : -1000000 ≤ n) (h4 : n ≤ 1000000) : vG.f b s e n = some (b, nD (vB s), nE (vB s) (e + n)) := by
 unfold vG.f; rw [w64 (x := e + n) (by omega) (by omega), zcq h]; rfl
def xX.f (a0_0 : Bool) (a0_1 : ByteArray) (a0_2 : Int) : Option (Bool) := (jS.f a0_0 a0_1 a0_2).bind fun bt552 => (some (bt552.2.1.toList == ([48] : List UInt8)))
set_option maxHeartbeats 8000000 in
set_option maxRecDepth 100000 in
theorem xX.calls (a0_0 : Bool) (a0_1 : ByteArray) (a0_2 : Int) (r : Bool) (w : World) (h : xX.f a0_0 a0_1 a0_2 = some r) :
  Calls Tryz.prog 65 #[.agg #[.bool a0_0, .string a0_1, .int .i64 a0_2]] w fun e w' => e = .returned (.bool r) ∧ Below w.heap.size w w' := by
 have hu23 := Tryz.underlying23
 have HB := K_ (Below.refl w.heap.size w)
 have H : ((jS.f a0_0 a0_1 a0_2).bind fun bt552 => (some (bt552.2.1.toList == ([48] : List UInt8)))) = some r := h
 clear h
 replace H := Option.bind_eq_some_iff.mp H
 obtain ⟨⟨t552, t553, t554⟩, A20, H⟩ := H
 replace H : (some (t553.toList == ([48] : List UInt8))) = some r := H
 have A2 := K_ A20
 clear A20
 obtain rfl := Option.some.inj H
 go_enter Tryz.func65, Tryz.ntmps65
 go_wp2_with (first | (refine be_ 1 #[.bool a0_0, .string a0_1, .int .i64 a0_2] 23 ?_; intro gb551 hg w3 hbox hb; have n0_ := zG HB hb; have n1_ := K_ (hbox); have n2_ := ge_ hg HB; have n3_ := ge_ hg HB; clear HB; have HB := n0_; have BK551 := n1_; have GW551 := n2_; have GE551 := n3_; clear n0_ n1_ n2_ n3_; clear hb hbox hg; have hcz4_0 : w3.cell? ⟨gb551, 0, none⟩ = some (.bool a0_0) := (zA BK551.out 0).trans rfl; have hcz4_1 : w3.cell? ⟨gb551, 1, none⟩ = some (.string a0_1) := (zA BK551.out 1).trans rfl; have hcz4_2 : w3.cell? ⟨gb551, 2, none⟩ = some (.int .i64 a0_2) := (zA BK551.out 2).trans rfl; have hfz4_0 := zI BK551.out 0; have hfz4_1 := zI BK551.out 1; have hfz4_2 := zI BK551.out 2) | ((with_reducible refine zK (f := 59) rfl ?_); refine zV (some 4) rfl rfl Tryz.func59 (by kernel_rfl) rfl #[.agg #[.bool a0_0, .string a0_1, .int .i64 a0_2]] rfl MP ?_; (with_reducible refine (jS.calls a0_0 a0_1 a0_2 t552 t553 t554 _ A2.out).mono ?_); rintro e w5 ⟨rfl, hb⟩; refine ⟨_, rfl, ?_⟩; have n0_ := zD BK551 hb; have n1_ := zG HB hb; clear BK551; clear HB; have BK551 := n0_; have HB := n1_; clear n0_ n1_; (try clear hb); (try clear hb2); (try clear hk); (try clear hi)))
 go_ret
 exact ⟨ER, BL HB⟩
theorem zdY (n : Nat) : (nD n).toList = ([48] : List UInt8) ↔ n = 0 := by
 rw [← zdN]
 constructor
 ·intro h; apply zaw; rw [← ByteArray.toList_eq, h]; rfl
 intro h; rw [h, ByteArray.toList_eq]; rfl
theorem zjD {b : Bool} {s : ByteArray} {e : Int} (h : OkD s e) : xX.f b s e = some (decide (vB s = 0)) := by
 unfold xX.f
 rw [zcq h]
 simp only [Option.bind_some, Option.some.injEq]
 rw [Bool.eq_iff_iff, beq_iff_eq, decide_eq_true_eq]; exact zdY _
theorem zgd {b : Bool} {s : ByteArray} {e : Int} (h : OkD s e) (h2 : OkD (nD (vB s)) (nE (vB s) e)) : xD.f b s e = some (zbI (vB s) e) := by
 unfold xD.f
 rw [zcq h]
 simp only [Option.bind_some]
 unfold zbI
 by_cases h0 : vB s = 0
 ·rw [if_pos ((zdY _).2 h0)]; simp [h0]
 rw [if_neg (fun hh => h0 ((zdY _).1 hh))]
 by_cases h1 : nE (vB s) e ≥ -300
 ·rw [if_pos h1, zjv h2, zfE, zcX]
  have h1' : -300 ≤ nE (vB s) e := h1
  simp only [Option.bind_some, h0, h1', false_or, true_and]
 rw [if_neg h1]
 have h1' : ¬ -300 ≤ nE (vB s) e := h1
 simp [h0, h1']
theorem zjg {b : Bool} {s : ByteArray} {e : Int} (hs : s.size ≤ 140737488351232) : zaF.f b s e = some (zbX s e) := by
 unfold zaF.f zbX
 by_cases h1 : (s.size : Int) > 1000
 ·rw [if_pos h1]; have : ¬ s.size ≤ 1000 := by omega
  simp [this]
 rw [if_neg h1]
 by_cases h2 : e < -1000
 ·rw [if_pos h2]; have : ¬ -1000 ≤ e := by omega
  simp [this]
 rw [if_neg h2]
 by_cases h3 : e > 1000
 ·rw [if_pos h3]; have : ¬ e ≤ 1000 := by omega
  simp [this]
 rw [if_neg h3]
 have c1 : s.size ≤ 1000 := by omega
 have c2 : -1000 ≤ e := by omega
 have c3 : e ≤ 1000 := by omega
 unfold vX.f
 rw [if_pos hs]
 by_cases h4 : dB s = true ∧ s.size ≠ 0
 ·rw [if_pos h4]; simp [h4.1, h4.2, c1, c2, c3]
 rw [if_neg h4]
 have : (dB s && decide (s.size ≠ 0)) = false := by
  cases hd : dB s
  ·rfl
  simp only [Bool.true_and, decide_eq_false_iff_not]; intro hh; exact h4 ⟨hd, hh⟩
 rw [this]; simp
theorem countP {b : Bool} {s : ByteArray} {e : Int} (h : OkD s e) : zcP.f b s e = some ((nD (vB s)).size : Int) := by
 unfold zcP.f; rw [zcq h]; rfl
end Go.Proofs.YtcmgdjnjmobkoaaGreatDoor.Px
namespace Go.Proofs.YtcmgdjnjmobkoaaGreatDoor.Px
set_option linter.all false
open Fig Go.RowKit Go.Proofs.YtcmgdjnjmobkoaaGreatDoorW.PrintWords Go.Proofs.YtcmgdjnjmobkoaaGreatDoorW.PrintLast Go.Proofs.YtcmgdjnjmobkoaaGreatDoorW.PrintMore
attribute [local go_sem] vN vM uD uC yY yX vK vL
theorem zkN {m : Int} {neg : Bool} {n st x y : Nat} {e p k : Int} (hn : (jZ n).size ≤ x) (hs : (jZ st).size ≤ y) (hs0 : st ≠ 0) (h1 : k ≤ e) (h2 : k ≤ p) : (jZ (rv0 m neg n e st p k)).size ≤ max (x + (e - k).toNat) (y + (p - k).toNat) + 1 := by
 have a := zgb neg (n := n) (p := x) e k hn
 have b := zgb neg (n := st) (p := y) p k hs
 rw [zef] at a b
 have hB := ziO hs0 p k
 have h3 := (znq (m := m) (neg := neg) (N := atE n e k) hB).1
 refine zan (n := atE n e k + atE st p k) (by unfold rv0; omega) ?_
 exact zbw (zan (Nat.le_refl _) (by omega)) (zan (Nat.le_refl _) (by omega))
def cS (P : jW) : Nat := (xM P).2.toNat
theorem zjh {P : jW} (hg : uE P) : 1 ≤ cS P ∧ cS P ≤ 80 ∧ (xM P).2 = (cS P : Int) := by
 have := hg.mi0; have := hg.mi4; have := hg.mf0; have := hg.mfx; have := hg.xf4; have := hg.ms0; have := hg.msx; have := hg.xs4
 unfold cS xM
 split
 ·refine ⟨by omega, by omega, by omega⟩
 have h := zbE hg
 have h1 : 1 ≤ jY P + P.xf := by
  unfold jY
  split
  ·omega
  rename_i hn
  by_cases h0 : P.mi + P.xf = 0
  ·exact absurd (.inr (.inr h0)) hn
  omega
 refine ⟨by show 1 ≤ (jY P + P.xf).toNat; omega, by show (jY P + P.xf).toNat ≤ 80; omega, by show jY P + P.xf = ((jY P + P.xf).toNat : Int); omega⟩
def stP (P : jW) (t : Int) : Nat × Int := if P.sci = true ∨ 0 < P.ms then (1, t - (cS P : Int) + 1) else if P.inc.size ≠ 0 then (vB P.inc, -P.xf) else (1, -P.xf)
theorem znN {P : jW} (hg : uE P) (hm : zcA P) (t : Int) : (stP P t).1 ≠ 0 ∧ (jZ (stP P t).1).size ≤ 40 ∧ t - 80 ≤ max (stP P t).2 (t - 80) ∧ ((stP P t).2 = t - (cS P : Int) + 1 ∨ (-40 ≤ (stP P t).2 ∧ (stP P t).2 ≤ 0)) := by
 have := hg.mf0; have := hg.mfx; have := hg.xf4
 unfold stP
 split
 ·exact ⟨by show (1 : Nat) ≠ 0; decide, by show (jZ 1).size ≤ 40; rw [zaV]; decide, by omega, .inl rfl⟩
 split
 ·rename_i hi
  obtain ⟨h1, h2⟩ := hm.dig hi
  exact ⟨h2, Nat.le_trans (zaI (zjk h1)) hg.inc4, by omega, .inr ⟨by show -40 ≤ -P.xf; omega, by show -P.xf ≤ 0; omega⟩⟩
 exact ⟨by show (1 : Nat) ≠ 0; decide, by show (jZ 1).size ≤ 40; rw [zaV]; decide, by omega, .inr ⟨by show -40 ≤ -P.xf; omega, by show -P.xf ≤ 0; omega⟩⟩
theorem zhI {P : jW} (hg : uE P) (hm : zcA P) {m : Int} (h0 : 0 ≤ m) (h7 : m ≤ 7) {b : Bool} {s : ByteArray} {e : Int} (ok : OkS s e) (h1 : vC (vB s) e ≤ 10000) (h2 : -5000 ≤ vC (vB s) e) :
  zfj P m b s e (zar m b (vB s) e (stP P (vC (vB s) e)).1 (stP P (vC (vB s) e)).2) := by
 obtain ⟨c1, c2, c3⟩ := zjh hg
 have := hg.mf0; have := hg.mfx; have := hg.xf4
 refine ⟨fun h => ?_, fun h hi => ?_, fun h hi => ?_⟩
 ·rw [c3]
  have e1 : stP P (vC (vB s) e) = (1, vC (vB s) e - (cS P : Int) + 1) := by unfold stP; rw [if_pos h]
  rw [e1]
  exact ziu h0 h7 c1 (by omega) ok h1 h2
 ·have e1 : stP P (vC (vB s) e) = (vB P.inc, -P.xf) := by unfold stP; rw [if_neg h, if_pos hi]
  rw [e1]
  exact zir h0 h7 ok (hm.dig hi).1 (hm.dig hi).2 hg.inc4 (by omega) (by omega)
 have e1 : stP P (vC (vB s) e) = (1, -P.xf) := by unfold stP; rw [if_neg h, if_neg (by omega)]
 rw [e1]
 exact zdS h0 h7 ok (by omega) (by omega)
theorem ziG (q : Pat) : 0 ≤ q.mult ∧ q.mult ≤ 3 := by unfold Pat.mult; split; omega; split <;> omega
theorem zms {m : Int} (h0 : 0 ≤ m) (h7 : m ≤ 7) : yA.f m = some true := by unfold yA.f; rw [if_pos h0, decide_eq_true (by omega)]
def zlq (b : Bool) (N : Nat) (X : Int) : Bool × ByteArray × Int × Int := if zbI (vA N) X = true then (b, nD N, X, 0) else (false, ⟨#[]⟩, 0, 10)
theorem zjY {n : Nat} {e : Int} (h : (jZ n).size ≤ 1000) (h1 : -1010 ≤ e) (h2 : e ≤ 1010) : -1010 ≤ vC n e ∧ vC n e ≤ 2010 := by
 unfold vC
 split
 ·omega
 rename_i h0
 have : (jZ n).size ≠ 0 := fun hh => h0 (xV.1 hh)
 omega
def rN (q : Pat) (m : Int) (b : Bool) (n : Nat) (e : Int) : Nat := rv0 m b (vA n) (nE n (e + q.mult)) (stP q.P (vC n (e + q.mult))).1 (stP q.P (vC n (e + q.mult))).2 (min (nE n (e + q.mult)) (stP q.P (vC n (e + q.mult))).2)
def rK (q : Pat) (n : Nat) (e : Int) : Int := min (nE n (e + q.mult)) (stP q.P (vC n (e + q.mult))).2
def rX (q : Pat) (m : Int) (b : Bool) (n : Nat) (e : Int) : Int := nE (vA (rN q m b n e)) (nE (rN q m b n e) (rK q n e) + -q.mult)
end Go.Proofs.YtcmgdjnjmobkoaaGreatDoor.Px
namespace Go.Proofs.YtcmgdjnjmobkoaaGreatDoor.Px
open Fig Go.RowKit Go.Proofs.YtcmgdjnjmobkoaaGreatDoorW.PrintWords Go.Proofs.YtcmgdjnjmobkoaaGreatDoorW.PrintLast Go.Proofs.YtcmgdjnjmobkoaaGreatDoorW.PrintMore
attribute [local go_sem] vN vM uD uC yY yX vK vL
attribute [local go_sem] qU qN qG qR qL qS qJ qK qH qF qI qM qQ qP
def zaR.f (a0_0 : Bool) (a0_1 : ByteArray) (a0_2 : Int) (a1 : Int) : Option (Int) := (xX.f a0_0 a0_1 a0_2).bind fun t556 => (if t556 = true then (some 0) else (some (mx 0 (wrap64 (a1 - a0_2)))))
set_option maxHeartbeats 8000000 in
set_option maxRecDepth 100000 in
theorem zaR.calls (a0_0 : Bool) (a0_1 : ByteArray) (a0_2 : Int) (a1 : Int) (r : Int) (w : World) (h : zaR.f a0_0 a0_1 a0_2 a1 = some r) :
  Calls Tryz.prog 64 #[.agg #[.bool a0_0, .string a0_1, .int .i64 a0_2], .int .i64 a1] w fun e w' => e = .returned (.int .i64 r) ∧ Below w.heap.size w w' := by
 have hu23 := Tryz.underlying23
 have HB := K_ (Below.refl w.heap.size w)
 have H : ((xX.f a0_0 a0_1 a0_2).bind fun t556 => (if t556 = true then (some 0) else (some (mx 0 (wrap64 (a1 - a0_2)))))) = some r := h
 clear h
 obtain ⟨t556, A30, H⟩ := Option.bind_eq_some_iff.mp H
 (try dsimp -simprocs only at H)
 have A3 := K_ A30
 clear A30
 by_cases c4 : t556 = true
 ·subst c4
  rw [if_pos rfl] at H
  obtain rfl := Option.some.inj H
  go_enter Tryz.func64, Tryz.ntmps64
  go_wp2_with (first | (refine be_ 2 #[.bool a0_0, .string a0_1, .int .i64 a0_2] 23 ?_; intro gb555 hg w5 hbox hb; have BK555 := K_ (hbox); have GW555 := ge_ hg HB; have GE555 := ge_ hg HB; replace HB := zG HB hb; clear hb hbox hg; obtain ⟨⟨hcz6_0, hcz6_1, hcz6_2⟩, hfz6_0, hfz6_1, hfz6_2⟩ := ce3 BK555) | ((with_reducible refine zK (f := 65) rfl ?_); refine zV (some 6) rfl rfl Tryz.func65 (by kernel_rfl) rfl #[.agg #[.bool a0_0, .string a0_1, .int .i64 a0_2]] rfl MP ?_; (with_reducible refine (xX.calls a0_0 a0_1 a0_2 true _ A3.out).mono ?_); rintro e w7 ⟨rfl, hb⟩; refine ⟨_, rfl, ?_⟩; replace BK555 := zD BK555 hb; replace HB := zG HB hb; (try clear hb); (try clear hb2); (try clear hk); (try clear hi)))
  go_ret
  exact ⟨ER, BL HB⟩
 replace c4 := Bool.eq_false_iff.mpr c4
 subst c4
 rw [if_neg (show ¬ (false = true) by decide)] at H
 obtain ⟨ji8, hji8⟩ : ∃ j_ : Int, (mx 0 (wrap64 (a1 - a0_2))) = j_ := ⟨_, rfl⟩
 replace H : (some ji8) = some r := by first | (rw [hji8] at H; exact H) | (simp only [hji8] at H ⊢; exact H)
 (try rw [hji8] at A3)
 (try (have hji8l : 0 ≤ ji8 := by (rw [← hji8]; unfold mx; (repeat' split) <;> omega)))
 (try (have hji8m : 0 ≤ ji8 := by omega))
 have hji8_ : (if 0 < (wrap64 (a1 - a0_2)) then (wrap64 (a1 - a0_2)) else 0) = ji8 := hji8
 obtain rfl := Option.some.inj H
 go_enter Tryz.func64, Tryz.ntmps64
 go_wp2_with (first | (refine be_ 2 #[.bool a0_0, .string a0_1, .int .i64 a0_2] 23 ?_; intro gb555 hg w9 hbox hb; have BK555 := K_ (hbox); have GW555 := ge_ hg HB; have GE555 := ge_ hg HB; replace HB := zG HB hb; clear hb hbox hg; obtain ⟨⟨hcz10_0, hcz10_1, hcz10_2⟩, hfz10_0, hfz10_1, hfz10_2⟩ := ce3 BK555) | ((with_reducible refine zK (f := 65) rfl ?_); refine zV (some 6) rfl rfl Tryz.func65 (by kernel_rfl) rfl #[.agg #[.bool a0_0, .string a0_1, .int .i64 a0_2]] rfl MP ?_; (with_reducible refine (xX.calls a0_0 a0_1 a0_2 false _ A3.out).mono ?_); rintro e w11 ⟨rfl, hb⟩; refine ⟨_, rfl, ?_⟩; replace BK555 := zD BK555 hb; replace HB := zG HB hb; (try clear hb); (try clear hb2); (try clear hk); (try clear hi); obtain ⟨⟨hcz12_0, hcz12_1, hcz12_2⟩, hfz12_0, hfz12_1, hfz12_2⟩ := ce3 BK555))
 go_ret
 exact ⟨by first | rfl | (simp [yG, yE] <;> rfl) | (simp only [← hji8]; first | rfl | (simp [yG, yE] <;> rfl)) | (simp [*, yG, yE] <;> rfl), BL HB⟩
end Go.Proofs.YtcmgdjnjmobkoaaGreatDoor.Px
namespace Go.Proofs.YtcmgdjnjmobkoaaGreatDoor.Px
set_option linter.all false
open Fig Go.RowKit Go.Proofs.YtcmgdjnjmobkoaaGreatDoorW.PrintWords Go.Proofs.YtcmgdjnjmobkoaaGreatDoorW.PrintLast Go.Proofs.YtcmgdjnjmobkoaaGreatDoorW.PrintMore
attribute [local go_sem] vN vM uD uC yY yX vK vL
theorem xT : (Tryz.prog.info? 36).map (·.size) = some 4 := by kernel_rfl
def zcr (n : Nat) (e p : Int) : Int := if n = 0 then 0 else max 0 (p - e)
def zez (P : jW) (n : Nat) (e : Int) : Int := if n = 0 then (if 0 < P.ms then 1 else P.mi) else max (if 0 < P.ms then 1 else P.mi) (vC n e + 1)
def zes (P : jW) (n : Nat) (e : Int) : Int := max (if 0 < P.ms then P.ms - 1 - vC n e else P.mf) (zcr n e 0)
def zai (P : jW) (n : Nat) (e : Int) : ByteArray × ByteArray × Int := (yD n e (zez P n e - 1) 0, yD n e (-1) (-zes P n e), 0)
def zdd (P : jW) (n : Nat) (e : Int) : Int := if xO P = true then vC n e - vC n e % P.xi else vC n e - jY P + 1
def zdZ (P : jW) (n : Nat) (e : Int) : Int := if xO P = true then vC n e - (vC n e - vC n e % P.xi) + 1 else jY P
def zcL (P : jW) (n : Nat) (e : Int) : Int := if n = 0 then 0 else zdd P n e
def zjy (P : jW) (n : Nat) (e : Int) : Int := max ((xM P).1 - zdZ P n e) (zcr n e (zcL P n e))
def zbo (P : jW) (n : Nat) (e : Int) : ByteArray × ByteArray × Int := (yD n e (zcL P n e + zdZ P n e - 1) (zcL P n e), yD n e (zcL P n e - 1) (zcL P n e - zjy P n e), zcL P n e)
def zfn (r : ByteArray × ByteArray × Int) : ByteArray × ByteArray × Int := if r.1 ++ r.2.1 = ⟨#[]⟩ then (⟨#[48]⟩, r.2.1, r.2.2) else r
def zaL (P : jW) (n : Nat) (e : Int) : ByteArray × ByteArray × Int := zfn (if P.sci = true then zbo P n e else zai P n e)
theorem xY (b : Bool) (s : ByteArray) (e : Int) (ok : OkD s e) (hi lo : Int) (h1 : -200000 ≤ lo) (h2 : hi ≤ 200000) (h3 : lo ≤ 200000) (h4 : -200000 ≤ hi) {x y : Int} (hx : x = hi) (hy : y = lo) (w : World) :
  Calls Tryz.prog 66 #[.agg #[.bool b, .string s, .int .i64 e], .int .i64 x, .int .i64 y] w fun e' w' => e' = .returned (.string (yD (vB s) e hi lo)) ∧ Below w.heap.size w w' := by
 subst hx; subst hy; exact zke b s e ok x y h1 h2 h3 h4 w
theorem zmu {b : Bool} {s : ByteArray} {e p : Int} (ok : OkS s e) (h1 : -100000 ≤ p) (h2 : p ≤ 100000) : zaR.f b s e p = some (zcr (vB s) e p) := by
 have := ok.lo; have := ok.hi
 unfold zaR.f zcr
 rw [zjD ok.ok]
 simp only [Option.bind_some, decide_eq_true_eq]
 split
 ·rfl
 rw [w64 (by omega) (by omega)]
 unfold mx; congr 1; split <;> omega
theorem zdw {s : ByteArray} {e p : Int} (ok : OkS s e) (h1 : -100000 ≤ p) (h2 : p ≤ 100000) : 0 ≤ zcr (vB s) e p ∧ zcr (vB s) e p ≤ 110000 := by
 have := ok.lo
 unfold zcr; split <;> omega
theorem zeO {s : ByteArray} {e : Int} (ok : OkS s e) : -10000 ≤ vC (vB s) e ∧ vC (vB s) e ≤ 20000 := by
 have h1 := ok.lo; have h2 := ok.hi; have h3 := ok.ok.val; have h4 := ok.sz
 unfold vC; split
 ·omega
 rename_i h0
 have : (jZ (vB s)).size ≠ 0 := fun hh => h0 (xV.1 hh)
 omega
set_option maxHeartbeats 8000000 in
set_option maxRecDepth 100000 in
theorem zht (q : Pat) (hg : uE q.P) (b : Bool) (s : ByteArray) (e : Int) (ok : OkS s e) (w : World) :
  Calls Tryz.prog 38 #[.agg q.cs, .agg #[.bool b, .string s, .int .i64 e]] w fun e' w' => e' = .returned (.agg #[.bool b, .string (zai q.P (vB s) e).1, .string (zai q.P (vB s) e).2.1, .int .i64 (zai q.P (vB s) e).2.2]) ∧ Below w.heap.size w w' := by
 have HB := K_ (Below.refl w.heap.size w)
 have HOK := K_ ok
 have HT := K_ (zjv (b := b) ok.ok)
 have HZ := K_ (zjD (b := b) ok.ok)
 have HF := K_ (zmu (b := b) (p := 0) ok (by decide) (by decide))
 have hf := zdw (p := 0) ok (by decide) (by decide)
 have ht := zeO ok
 have hmi := And.intro hg.mi0 hg.mi4
 have hmf := And.intro hg.mf0 (And.intro hg.mfx hg.xf4)
 have hms := And.intro hg.ms0 (And.intro hg.msx hg.xs4)
 obtain ⟨fn, hfn⟩ : ∃ fn, fn = zcr (vB s) e 0 := ⟨_, rfl⟩
 obtain ⟨tp, htp⟩ : ∃ tp, tp = vC (vB s) e := ⟨_, rfl⟩
 obtain ⟨nn, hnn⟩ : ∃ nn, nn = zez q.P (vB s) e := ⟨_, rfl⟩
 obtain ⟨bb, hbb⟩ : ∃ bb, bb = zes q.P (vB s) e := ⟨_, rfl⟩
 have HRES := K_ (show Ending.returned (Value.agg #[.bool b, .string (yD (vB s) e (nn - 1) 0), .string (yD (vB s) e (-1) (-bb)), .int .i64 0]) = .returned (.agg #[.bool b, .string (zai q.P (vB s) e).1, .string (zai q.P (vB s) e).2.1, .int .i64 (zai q.P (vB s) e).2.2]) by rw [hnn, hbb]; rfl)
 unfold zez at hnn
 unfold zes at hbb
 rw [← hfn] at HF hf hbb
 rw [← htp] at HT ht hnn hbb
 have h1 : -20000 ≤ nn ∧ nn ≤ 30000 := by rw [hnn]; split <;> (try split) <;> omega
 have h2 : 0 ≤ bb ∧ bb ≤ 120000 := by rw [hbb]; split <;> omega
 have HNN := K_ hnn
 have HBBE := K_ hbb
 clear hnn hbb hfn htp
 go_enter Tryz.func38, Tryz.ntmps38
 go_upto_region 2 with (first | ((with_reducible refine zH (N := 2) rfl ?_); refine bx_ 2 (q.cs) 26 ?_ rfl rfl rfl rfl rfl; intro g2 hg w2 hbox hb; have BK2 := K_ hbox; have GE2 := ge_ hg HB; replace HB := zG HB hb; clear hb hbox hg) | ((with_reducible refine zH (N := 3) rfl ?_); refine bx_ 3 (#[.bool b, .string s, .int .i64 e]) 23 ?_ rfl rfl rfl rfl rfl; intro g3 hg w2 hbox hb; have BK3 := K_ hbox; have GE3 := ge_ hg HB; have NB2_3 := nb_ hg BK2; replace BK2 := zD BK2 hb; replace HB := zG HB hb; clear hb hbox hg) | ((with_reducible refine zH (N := 4) rfl ?_); refine be_ 4 (#[.bool false, .string (⟨#[]⟩ : ByteArray), .string (⟨#[]⟩ : ByteArray), .int .i64 0]) 36 ?_; intro g4 hg w2 hbox hb; have BK4 := K_ hbox; have GE4 := ge_ hg HB; have NB2_4 := nb_ hg BK2; replace BK2 := zD BK2 hb; have NB3_4 := nb_ hg BK3; replace BK3 := zD BK3 hb; replace HB := zG HB hb; clear hb hbox hg) | ((with_reducible refine zH (N := 8) rfl ?_); refine lo_ (g := g3) (cs := #[.bool b, .string s, .int .i64 e]) _ ⟨BK BK3⟩ ?_ rfl rfl rfl Tryz.underlying23 rfl yH) | (go_at_call 60; refine (zay.calls b s e tp _ HT.out).mono ?_; rintro e9 w' ⟨rfl, hb⟩; replace HB := zG HB hb; replace BK2 := zD BK2 hb; replace BK3 := zD BK3 hb; replace BK4 := zD BK4 hb; clear hb))
 have e5 := (show w'.cell? ⟨g2, 5, none⟩ = some (.int .i64 q.P.mi) from (zA BK2.out 5).trans rfl)
 have e7 := (show w'.cell? ⟨g2, 7, none⟩ = some (.int .i64 q.P.mf) from (zA BK2.out 7).trans rfl)
 have e9 := (show w'.cell? ⟨g2, 9, none⟩ = some (.int .i64 q.P.ms) from (zA BK2.out 9).trans rfl)
 go_region
 have hw9 : wrap64 (tp + 1) = tp + 1 := w64 (by omega) (by omega)
 by_cases h9 : 0 < q.P.ms
 ·have d9 : decide (0 < q.P.ms) = true := decide_eq_true h9
  rw [if_pos h9] at HNN HBBE
  have hw1 : wrap64 (wrap64 (q.P.ms - 1) - tp) = q.P.ms - 1 - tp := by rw [w64 (x := q.P.ms - 1) (by omega) (by omega), w64 (by omega) (by omega)]
  have hm1 : (if q.P.ms - 1 - tp < fn then fn else q.P.ms - 1 - tp) = bb := by rw [HBBE.out]; split <;> omega
  go_upto_region 4 with (fail)
  go_region
  go_upto_region 6 with (first | ((with_reducible refine zH (N := 23) rfl ?_); refine lo_ (g := g3) (cs := #[.bool b, .string s, .int .i64 e]) _ ⟨BK BK3⟩ ?_ rfl rfl rfl Tryz.underlying23 rfl yH) | (go_at_call 64; refine (zaR.calls b s e 0 fn _ HF.out).mono ?_; rintro e9 w' ⟨rfl, hb⟩; replace HB := zG HB hb; replace BK2 := zD BK2 hb; replace BK3 := zD BK3 hb; replace BK4 := zD BK4 hb; clear hb))
  cases hz : decide (vB s = 0)
  ·rw [hz] at HZ
   have h0 : vB s ≠ 0 := of_decide_eq_false hz
   rw [if_neg h0] at HNN
   have hm2 : (if 1 < tp + 1 then tp + 1 else 1) = nn := by rw [HNN.out]; split <;> omega
   go_upto_region 8 with (first | ((with_reducible refine zH (N := 26) rfl ?_); refine lo_ (g := g3) (cs := #[.bool b, .string s, .int .i64 e]) _ ⟨BK BK3⟩ ?_ rfl rfl rfl Tryz.underlying23 rfl yH) | (go_at_call 65; refine (xX.calls b s e false _ HZ.out).mono ?_; rintro e9 w' ⟨rfl, hb⟩; replace HB := zG HB hb; replace BK2 := zD BK2 hb; replace BK3 := zD BK3 hb; replace BK4 := zD BK4 hb; clear hb))
   clear e5 e7 e9
   have hwn : wrap64 (nn - 1) = nn - 1 := w64 (by omega) (by omega)
   have hwb : wrap64 (-bb) = -bb := w64 (by omega) (by omega)
   refine yL (n := 12) (S := fun W => W.heap[g3]? = some (.cells #[.bool b, .string s, .int .i64 e] 23 (0, 0)) ∧ W.cell? ⟨g3, 0, none⟩ = some (.bool b)) (ds := []) #[false, false, false, false, false, false, false, false, false, false, false, false] (by kernel_rfl) rfl rfl ⟨(BK BK3), (zA (BK BK3) 0).trans rfl⟩ (fun hHeld => ?_)
   refine jM (fun W => W.heap[g3]? = some (.cells #[.bool b, .string s, .int .i64 e] 23 (0, 0)) ∧ W.heap[g4]? = some (.cells #[.bool false, .string (⟨#[]⟩ : ByteArray), .string (⟨#[]⟩ : ByteArray), .int .i64 0] 36 (0, 0)) ∧ Below w.heap.size w W) ⟨BK BK3, BK BK4, BL HB⟩ ?_
   clear hHeld BK2 BK3 BK4 HB
   rintro W ⟨hb3, hb4, hbw⟩
   have BK3 := K_ hb3
   have BK4 := K_ hb4
   have HB := K_ hbw
   have hHeld := (show W.heap[g3]? = some (.cells #[.bool b, .string s, .int .i64 e] 23 (0, 0)) ∧ W.cell? ⟨g3, 0, none⟩ = some (.bool b) from ⟨hb3, (zA hb3 0).trans rfl⟩)
   clear hb3 hb4 hbw
   refine pu_ 0 (some 33) (bb 12 1) (by kernel_rfl) ?_
   refine tk_ 1 (some 34) (bb 12 3) (by kernel_rfl) hHeld ?_
   refine take_ (i := 2) (N := some 35) (bb 12 7) rfl rfl (by kernel_rfl) (fun _ _ _ h => h) (v := .agg #[.bool b, .string s, .int .i64 e]) (Or.inl ⟨by rfl, fun w' hs => vO _ ⟨hs.1⟩ rfl rfl Tryz.underlying23 rfl yH⟩) hHeld (by simp only [Act.put, List.setIfInBounds_toArray, List.set_cons_zero, List.set_cons_succ]; rfl) ?_
   refine pu_ 3 (some 36) (bb 12 15) (by kernel_rfl) ?_
   refine pu_ 4 (some 37) (bb 12 31) (by kernel_rfl) ?_
   refine take_ (i := 6) (N := some 39) (bb 12 95) rfl rfl (by kernel_rfl) (fun _ _ _ h => h) (v := .agg #[.bool b, .string s, .int .i64 e]) (Or.inl ⟨by rfl, fun w' hs => vO _ ⟨hs.1⟩ rfl rfl Tryz.underlying23 rfl yH⟩) hHeld (by simp only [Act.put, List.setIfInBounds_toArray, List.set_cons_zero, List.set_cons_succ]; rfl) ?_
   refine pu_ 7 (some 40) (bb 12 223) (by kernel_rfl) ?_
   refine pu_ 8 (some 41) (bb 12 479) (by kernel_rfl) ?_
   refine zY (i := 5) (N := some 38) (bb 12 511) rfl rfl (by kernel_rfl) (by decide) (fun K hK => ?_)
   refine jN Tryz.func66 (by kernel_rfl) rfl #[.agg #[.bool b, .string s, .int .i64 e], .int .i64 (wrap64 (nn - 1)), .int .i64 0] (by rfl) rfl rfl (by (try simp only [List.map_toArray]); (try simp only [List.map_cons]); (try simp only [List.map_nil]); first | done | rfl) ?_
   refine (xY b s e HOK.out.ok (nn - 1) 0 (by decide) (by omega) (by decide) (by omega) (hwn) rfl _).mono ?_
   rintro e9 w' ⟨rfl, hb⟩
   refine ⟨_, rfl, ?_⟩
   replace HB := zG HB hb
   replace BK3 := zD BK3 hb
   replace BK4 := zD BK4 hb
   clear hb
   clear hHeld
   refine hK.out _ _ ⟨BK3.out, (zA BK3.out 0).trans rfl⟩ (fun hHeld => ?_)
   clear hK K
   refine jL (a' := ?_) ?_ ?_
   rotate_left
   ·show Act.put _ (some 38) _ = _
    simp only [Act.put, List.setIfInBounds_toArray, List.set_cons_zero, List.set_cons_succ]
    rfl
   refine zY (i := 9) (N := some 42) (bb 12 1023) rfl rfl (by kernel_rfl) (by decide) (fun K hK => ?_)
   refine jN Tryz.func66 (by kernel_rfl) rfl #[.agg #[.bool b, .string s, .int .i64 e], .int .i64 (-1), .int .i64 (wrap64 (-bb))] (by rfl) rfl rfl (by (try simp only [List.map_toArray]); (try simp only [List.map_cons]); (try simp only [List.map_nil]); first | done | rfl) ?_
   refine (xY b s e HOK.out.ok (-1) (-bb) (by omega) (by decide) (by omega) (by decide) rfl hwb _).mono ?_
   rintro e9 w' ⟨rfl, hb⟩
   refine ⟨_, rfl, ?_⟩
   replace HB := zG HB hb
   replace BK3 := zD BK3 hb
   replace BK4 := zD BK4 hb
   clear hb
   clear hHeld
   refine hK.out _ _ ⟨BK3.out, (zA BK3.out 0).trans rfl⟩ (fun hHeld => ?_)
   clear hK K
   refine jL (a' := ?_) ?_ ?_
   rotate_left
   ·show Act.put _ (some 42) _ = _
    simp only [Act.put, List.setIfInBounds_toArray, List.set_cons_zero, List.set_cons_succ]
    rfl
   refine pu_ 10 (some 43) (bb 12 2047) (by kernel_rfl) ?_
   refine zY (i := 11) (N := none) (bb 12 4095) rfl rfl (by kernel_rfl) (by decide) (fun K hK => ?_)
   refine vF (g := g4) (cs := #[.bool false, .string (⟨#[]⟩ : ByteArray), .string (⟨#[]⟩ : ByteArray), .int .i64 0]) (#[.bool b, .string (yD (vB s) e (nn - 1) 0), .string (yD (vB s) e (-1) (-bb)), .int .i64 0]) BK4 ?_ rfl rfl rfl rfl rfl xT rfl rfl
   intro w9 hbk hfar hbel
   have BK9 := K_ (hfar _ _ NB3_4.out BK3.out)
   replace BK4 := K_ hbk
   replace HB := K_ (hbel _ _ GE4.out HB.out)
   refine hK.out _ _ ⟨BK9.out, (zA BK9.out 0).trans rfl⟩ (fun _ => ?_)
   clear hK K hbk hfar hbel
   refine yV (by kernel_rfl) ?_
   go_wp2_with (fail)
   refine bodyPost_ret (results_cell_row rfl _ _ g4 36 (#[.bool b, .string (yD (vB s) e (nn - 1) 0), .string (yD (vB s) e (-1) (-bb)), .int .i64 0]) (0, 0) _ rfl BK4.out Tryz.underlying36 rfl xT) rfl ?_
   exact ⟨HRES.out, BL HB⟩
  rw [hz] at HZ
  have h0 : vB s = 0 := of_decide_eq_true hz
  rw [if_pos h0] at HNN
  clear h0 hz
  go_upto_region 8 with (first | ((with_reducible refine zH (N := 26) rfl ?_); refine lo_ (g := g3) (cs := #[.bool b, .string s, .int .i64 e]) _ ⟨BK BK3⟩ ?_ rfl rfl rfl Tryz.underlying23 rfl yH) | (go_at_call 65; refine (xX.calls b s e true _ HZ.out).mono ?_; rintro e9 w' ⟨rfl, hb⟩; replace HB := zG HB hb; replace BK2 := zD BK2 hb; replace BK3 := zD BK3 hb; replace BK4 := zD BK4 hb; clear hb))
  clear e5 e7 e9
  have hwn : wrap64 (nn - 1) = nn - 1 := w64 (by omega) (by omega)
  have hwb : wrap64 (-bb) = -bb := w64 (by omega) (by omega)
  refine yL (n := 12) (S := fun W => W.heap[g3]? = some (.cells #[.bool b, .string s, .int .i64 e] 23 (0, 0)) ∧ W.cell? ⟨g3, 0, none⟩ = some (.bool b)) (ds := []) #[false, false, false, false, false, false, false, false, false, false, false, false] (by kernel_rfl) rfl rfl ⟨(BK BK3), (zA (BK BK3) 0).trans rfl⟩ (fun hHeld => ?_)
  refine jM (fun W => W.heap[g3]? = some (.cells #[.bool b, .string s, .int .i64 e] 23 (0, 0)) ∧ W.heap[g4]? = some (.cells #[.bool false, .string (⟨#[]⟩ : ByteArray), .string (⟨#[]⟩ : ByteArray), .int .i64 0] 36 (0, 0)) ∧ Below w.heap.size w W) ⟨BK BK3, BK BK4, BL HB⟩ ?_
  clear hHeld BK2 BK3 BK4 HB
  rintro W ⟨hb3, hb4, hbw⟩
  have BK3 := K_ hb3
  have BK4 := K_ hb4
  have HB := K_ hbw
  have hHeld := (show W.heap[g3]? = some (.cells #[.bool b, .string s, .int .i64 e] 23 (0, 0)) ∧ W.cell? ⟨g3, 0, none⟩ = some (.bool b) from ⟨hb3, (zA hb3 0).trans rfl⟩)
  clear hb3 hb4 hbw
  refine pu_ 0 (some 33) (bb 12 1) (by kernel_rfl) ?_
  refine tk_ 1 (some 34) (bb 12 3) (by kernel_rfl) hHeld ?_
  refine take_ (i := 2) (N := some 35) (bb 12 7) rfl rfl (by kernel_rfl) (fun _ _ _ h => h) (v := .agg #[.bool b, .string s, .int .i64 e]) (Or.inl ⟨by rfl, fun w' hs => vO _ ⟨hs.1⟩ rfl rfl Tryz.underlying23 rfl yH⟩) hHeld (by simp only [Act.put, List.setIfInBounds_toArray, List.set_cons_zero, List.set_cons_succ]; rfl) ?_
  refine pu_ 3 (some 36) (bb 12 15) (by kernel_rfl) ?_
  refine pu_ 4 (some 37) (bb 12 31) (by kernel_rfl) ?_
  refine take_ (i := 6) (N := some 39) (bb 12 95) rfl rfl (by kernel_rfl) (fun _ _ _ h => h) (v := .agg #[.bool b, .string s, .int .i64 e]) (Or.inl ⟨by rfl, fun w' hs => vO _ ⟨hs.1⟩ rfl rfl Tryz.underlying23 rfl yH⟩) hHeld (by simp only [Act.put, List.setIfInBounds_toArray, List.set_cons_zero, List.set_cons_succ]; rfl) ?_
  refine pu_ 7 (some 40) (bb 12 223) (by kernel_rfl) ?_
  refine pu_ 8 (some 41) (bb 12 479) (by kernel_rfl) ?_
  refine zY (i := 5) (N := some 38) (bb 12 511) rfl rfl (by kernel_rfl) (by decide) (fun K hK => ?_)
  refine jN Tryz.func66 (by kernel_rfl) rfl #[.agg #[.bool b, .string s, .int .i64 e], .int .i64 (wrap64 (1 - 1)), .int .i64 0] (by rfl) rfl rfl (by (try simp only [List.map_toArray]); (try simp only [List.map_cons]); (try simp only [List.map_nil]); first | done | rfl) ?_
  refine (xY b s e HOK.out.ok (nn - 1) 0 (by decide) (by omega) (by decide) (by omega) (by rw [HNN.out]; exact w64 (by omega) (by omega)) rfl _).mono ?_
  rintro e9 w' ⟨rfl, hb⟩
  refine ⟨_, rfl, ?_⟩
  replace HB := zG HB hb
  replace BK3 := zD BK3 hb
  replace BK4 := zD BK4 hb
  clear hb
  clear hHeld
  refine hK.out _ _ ⟨BK3.out, (zA BK3.out 0).trans rfl⟩ (fun hHeld => ?_)
  clear hK K
  refine jL (a' := ?_) ?_ ?_
  rotate_left
  ·show Act.put _ (some 38) _ = _
   simp only [Act.put, List.setIfInBounds_toArray, List.set_cons_zero, List.set_cons_succ]
   rfl
  refine zY (i := 9) (N := some 42) (bb 12 1023) rfl rfl (by kernel_rfl) (by decide) (fun K hK => ?_)
  refine jN Tryz.func66 (by kernel_rfl) rfl #[.agg #[.bool b, .string s, .int .i64 e], .int .i64 (-1), .int .i64 (wrap64 (-bb))] (by rfl) rfl rfl (by (try simp only [List.map_toArray]); (try simp only [List.map_cons]); (try simp only [List.map_nil]); first | done | rfl) ?_
  refine (xY b s e HOK.out.ok (-1) (-bb) (by omega) (by decide) (by omega) (by decide) rfl hwb _).mono ?_
  rintro e9 w' ⟨rfl, hb⟩
  refine ⟨_, rfl, ?_⟩
  replace HB := zG HB hb
  replace BK3 := zD BK3 hb
  replace BK4 := zD BK4 hb
  clear hb
  clear hHeld
  refine hK.out _ _ ⟨BK3.out, (zA BK3.out 0).trans rfl⟩ (fun hHeld => ?_)
  clear hK K
  refine jL (a' := ?_) ?_ ?_
  rotate_left
  ·show Act.put _ (some 42) _ = _
   simp only [Act.put, List.setIfInBounds_toArray, List.set_cons_zero, List.set_cons_succ]
   rfl
  refine pu_ 10 (some 43) (bb 12 2047) (by kernel_rfl) ?_
  refine zY (i := 11) (N := none) (bb 12 4095) rfl rfl (by kernel_rfl) (by decide) (fun K hK => ?_)
  refine vF (g := g4) (cs := #[.bool false, .string (⟨#[]⟩ : ByteArray), .string (⟨#[]⟩ : ByteArray), .int .i64 0]) (#[.bool b, .string (yD (vB s) e (nn - 1) 0), .string (yD (vB s) e (-1) (-bb)), .int .i64 0]) BK4 ?_ rfl rfl rfl rfl rfl xT rfl rfl
  intro w9 hbk hfar hbel
  have BK9 := K_ (hfar _ _ NB3_4.out BK3.out)
  replace BK4 := K_ hbk
  replace HB := K_ (hbel _ _ GE4.out HB.out)
  refine hK.out _ _ ⟨BK9.out, (zA BK9.out 0).trans rfl⟩ (fun _ => ?_)
  clear hK K hbk hfar hbel
  refine yV (by kernel_rfl) ?_
  go_wp2_with (fail)
  refine bodyPost_ret (results_cell_row rfl _ _ g4 36 (#[.bool b, .string (yD (vB s) e (nn - 1) 0), .string (yD (vB s) e (-1) (-bb)), .int .i64 0]) (0, 0) _ rfl BK4.out Tryz.underlying36 rfl xT) rfl ?_
  exact ⟨HRES.out, BL HB⟩
 have d9 : decide (0 < q.P.ms) = false := decide_eq_false h9
 rw [if_neg h9] at HNN HBBE
 have hm1 : (if q.P.mf < fn then fn else q.P.mf) = bb := by rw [HBBE.out]; split <;> omega
 go_upto_region 6 with (first | ((with_reducible refine zH (N := 23) rfl ?_); refine lo_ (g := g3) (cs := #[.bool b, .string s, .int .i64 e]) _ ⟨BK BK3⟩ ?_ rfl rfl rfl Tryz.underlying23 rfl yH) | (go_at_call 64; refine (zaR.calls b s e 0 fn _ HF.out).mono ?_; rintro e9 w' ⟨rfl, hb⟩; replace HB := zG HB hb; replace BK2 := zD BK2 hb; replace BK3 := zD BK3 hb; replace BK4 := zD BK4 hb; clear hb))
 cases hz : decide (vB s = 0)
 ·rw [hz] at HZ
  have h0 : vB s ≠ 0 := of_decide_eq_false hz
  rw [if_neg h0] at HNN
  have hm2 : (if q.P.mi < tp + 1 then tp + 1 else q.P.mi) = nn := by rw [HNN.out]; split <;> omega
  go_upto_region 8 with (first | ((with_reducible refine zH (N := 26) rfl ?_); refine lo_ (g := g3) (cs := #[.bool b, .string s, .int .i64 e]) _ ⟨BK BK3⟩ ?_ rfl rfl rfl Tryz.underlying23 rfl yH) | (go_at_call 65; refine (xX.calls b s e false _ HZ.out).mono ?_; rintro e9 w' ⟨rfl, hb⟩; replace HB := zG HB hb; replace BK2 := zD BK2 hb; replace BK3 := zD BK3 hb; replace BK4 := zD BK4 hb; clear hb))
  clear e5 e7 e9
  have hwn : wrap64 (nn - 1) = nn - 1 := w64 (by omega) (by omega)
  have hwb : wrap64 (-bb) = -bb := w64 (by omega) (by omega)
  refine yL (n := 12) (S := fun W => W.heap[g3]? = some (.cells #[.bool b, .string s, .int .i64 e] 23 (0, 0)) ∧ W.cell? ⟨g3, 0, none⟩ = some (.bool b)) (ds := []) #[false, false, false, false, false, false, false, false, false, false, false, false] (by kernel_rfl) rfl rfl ⟨(BK BK3), (zA (BK BK3) 0).trans rfl⟩ (fun hHeld => ?_)
  refine jM (fun W => W.heap[g3]? = some (.cells #[.bool b, .string s, .int .i64 e] 23 (0, 0)) ∧ W.heap[g4]? = some (.cells #[.bool false, .string (⟨#[]⟩ : ByteArray), .string (⟨#[]⟩ : ByteArray), .int .i64 0] 36 (0, 0)) ∧ Below w.heap.size w W) ⟨BK BK3, BK BK4, BL HB⟩ ?_
  clear hHeld BK2 BK3 BK4 HB
  rintro W ⟨hb3, hb4, hbw⟩
  have BK3 := K_ hb3
  have BK4 := K_ hb4
  have HB := K_ hbw
  have hHeld := (show W.heap[g3]? = some (.cells #[.bool b, .string s, .int .i64 e] 23 (0, 0)) ∧ W.cell? ⟨g3, 0, none⟩ = some (.bool b) from ⟨hb3, (zA hb3 0).trans rfl⟩)
  clear hb3 hb4 hbw
  refine pu_ 0 (some 33) (bb 12 1) (by kernel_rfl) ?_
  refine tk_ 1 (some 34) (bb 12 3) (by kernel_rfl) hHeld ?_
  refine take_ (i := 2) (N := some 35) (bb 12 7) rfl rfl (by kernel_rfl) (fun _ _ _ h => h) (v := .agg #[.bool b, .string s, .int .i64 e]) (Or.inl ⟨by rfl, fun w' hs => vO _ ⟨hs.1⟩ rfl rfl Tryz.underlying23 rfl yH⟩) hHeld (by simp only [Act.put, List.setIfInBounds_toArray, List.set_cons_zero, List.set_cons_succ]; rfl) ?_
  refine pu_ 3 (some 36) (bb 12 15) (by kernel_rfl) ?_
  refine pu_ 4 (some 37) (bb 12 31) (by kernel_rfl) ?_
  refine take_ (i := 6) (N := some 39) (bb 12 95) rfl rfl (by kernel_rfl) (fun _ _ _ h => h) (v := .agg #[.bool b, .string s, .int .i64 e]) (Or.inl ⟨by rfl, fun w' hs => vO _ ⟨hs.1⟩ rfl rfl Tryz.underlying23 rfl yH⟩) hHeld (by simp only [Act.put, List.setIfInBounds_toArray, List.set_cons_zero, List.set_cons_succ]; rfl) ?_
  refine pu_ 7 (some 40) (bb 12 223) (by kernel_rfl) ?_
  refine pu_ 8 (some 41) (bb 12 479) (by kernel_rfl) ?_
  refine zY (i := 5) (N := some 38) (bb 12 511) rfl rfl (by kernel_rfl) (by decide) (fun K hK => ?_)
  refine jN Tryz.func66 (by kernel_rfl) rfl #[.agg #[.bool b, .string s, .int .i64 e], .int .i64 (wrap64 (nn - 1)), .int .i64 0] (by rfl) rfl rfl (by (try simp only [List.map_toArray]); (try simp only [List.map_cons]); (try simp only [List.map_nil]); first | done | rfl) ?_
  refine (xY b s e HOK.out.ok (nn - 1) 0 (by decide) (by omega) (by decide) (by omega) (hwn) rfl _).mono ?_
  rintro e9 w' ⟨rfl, hb⟩
  refine ⟨_, rfl, ?_⟩
  replace HB := zG HB hb
  replace BK3 := zD BK3 hb
  replace BK4 := zD BK4 hb
  clear hb
  clear hHeld
  refine hK.out _ _ ⟨BK3.out, (zA BK3.out 0).trans rfl⟩ (fun hHeld => ?_)
  clear hK K
  refine jL (a' := ?_) ?_ ?_
  rotate_left
  ·show Act.put _ (some 38) _ = _
   simp only [Act.put, List.setIfInBounds_toArray, List.set_cons_zero, List.set_cons_succ]
   rfl
  refine zY (i := 9) (N := some 42) (bb 12 1023) rfl rfl (by kernel_rfl) (by decide) (fun K hK => ?_)
  refine jN Tryz.func66 (by kernel_rfl) rfl #[.agg #[.bool b, .string s, .int .i64 e], .int .i64 (-1), .int .i64 (wrap64 (-bb))] (by rfl) rfl rfl (by (try simp only [List.map_toArray]); (try simp only [List.map_cons]); (try simp only [List.map_nil]); first | done | rfl) ?_
  refine (xY b s e HOK.out.ok (-1) (-bb) (by omega) (by decide) (by omega) (by decide) rfl hwb _).mono ?_
  rintro e9 w' ⟨rfl, hb⟩
  refine ⟨_, rfl, ?_⟩
  replace HB := zG HB hb
  replace BK3 := zD BK3 hb
  replace BK4 := zD BK4 hb
  clear hb
  clear hHeld
  refine hK.out _ _ ⟨BK3.out, (zA BK3.out 0).trans rfl⟩ (fun hHeld => ?_)
  clear hK K
  refine jL (a' := ?_) ?_ ?_
  rotate_left
  ·show Act.put _ (some 42) _ = _
   simp only [Act.put, List.setIfInBounds_toArray, List.set_cons_zero, List.set_cons_succ]
   rfl
  refine pu_ 10 (some 43) (bb 12 2047) (by kernel_rfl) ?_
  refine zY (i := 11) (N := none) (bb 12 4095) rfl rfl (by kernel_rfl) (by decide) (fun K hK => ?_)
  refine vF (g := g4) (cs := #[.bool false, .string (⟨#[]⟩ : ByteArray), .string (⟨#[]⟩ : ByteArray), .int .i64 0]) (#[.bool b, .string (yD (vB s) e (nn - 1) 0), .string (yD (vB s) e (-1) (-bb)), .int .i64 0]) BK4 ?_ rfl rfl rfl rfl rfl xT rfl rfl
  intro w9 hbk hfar hbel
  have BK9 := K_ (hfar _ _ NB3_4.out BK3.out)
  replace BK4 := K_ hbk
  replace HB := K_ (hbel _ _ GE4.out HB.out)
  refine hK.out _ _ ⟨BK9.out, (zA BK9.out 0).trans rfl⟩ (fun _ => ?_)
  clear hK K hbk hfar hbel
  refine yV (by kernel_rfl) ?_
  go_wp2_with (fail)
  refine bodyPost_ret (results_cell_row rfl _ _ g4 36 (#[.bool b, .string (yD (vB s) e (nn - 1) 0), .string (yD (vB s) e (-1) (-bb)), .int .i64 0]) (0, 0) _ rfl BK4.out Tryz.underlying36 rfl xT) rfl ?_
  exact ⟨HRES.out, BL HB⟩
 rw [hz] at HZ
 have h0 : vB s = 0 := of_decide_eq_true hz
 rw [if_pos h0] at HNN
 clear h0 hz
 go_upto_region 8 with (first | ((with_reducible refine zH (N := 26) rfl ?_); refine lo_ (g := g3) (cs := #[.bool b, .string s, .int .i64 e]) _ ⟨BK BK3⟩ ?_ rfl rfl rfl Tryz.underlying23 rfl yH) | (go_at_call 65; refine (xX.calls b s e true _ HZ.out).mono ?_; rintro e9 w' ⟨rfl, hb⟩; replace HB := zG HB hb; replace BK2 := zD BK2 hb; replace BK3 := zD BK3 hb; replace BK4 := zD BK4 hb; clear hb))
 clear e5 e7 e9
 have hwn : wrap64 (nn - 1) = nn - 1 := w64 (by omega) (by omega)
 have hwb : wrap64 (-bb) = -bb := w64 (by omega) (by omega)
 refine yL (n := 12) (S := fun W => W.heap[g3]? = some (.cells #[.bool b, .string s, .int .i64 e] 23 (0, 0)) ∧ W.cell? ⟨g3, 0, none⟩ = some (.bool b)) (ds := []) #[false, false, false, false, false, false, false, false, false, false, false, false] (by kernel_rfl) rfl rfl ⟨(BK BK3), (zA (BK BK3) 0).trans rfl⟩ (fun hHeld => ?_)
 refine jM (fun W => W.heap[g3]? = some (.cells #[.bool b, .string s, .int .i64 e] 23 (0, 0)) ∧ W.heap[g4]? = some (.cells #[.bool false, .string (⟨#[]⟩ : ByteArray), .string (⟨#[]⟩ : ByteArray), .int .i64 0] 36 (0, 0)) ∧ Below w.heap.size w W) ⟨BK BK3, BK BK4, BL HB⟩ ?_
 clear hHeld BK2 BK3 BK4 HB
 rintro W ⟨hb3, hb4, hbw⟩
 have BK3 := K_ hb3
 have BK4 := K_ hb4
 have HB := K_ hbw
 have hHeld := (show W.heap[g3]? = some (.cells #[.bool b, .string s, .int .i64 e] 23 (0, 0)) ∧ W.cell? ⟨g3, 0, none⟩ = some (.bool b) from ⟨hb3, (zA hb3 0).trans rfl⟩)
 clear hb3 hb4 hbw
 refine pu_ 0 (some 33) (bb 12 1) (by kernel_rfl) ?_
 refine tk_ 1 (some 34) (bb 12 3) (by kernel_rfl) hHeld ?_
 refine take_ (i := 2) (N := some 35) (bb 12 7) rfl rfl (by kernel_rfl) (fun _ _ _ h => h) (v := .agg #[.bool b, .string s, .int .i64 e]) (Or.inl ⟨by rfl, fun w' hs => vO _ ⟨hs.1⟩ rfl rfl Tryz.underlying23 rfl yH⟩) hHeld (by simp only [Act.put, List.setIfInBounds_toArray, List.set_cons_zero, List.set_cons_succ]; rfl) ?_
 refine pu_ 3 (some 36) (bb 12 15) (by kernel_rfl) ?_
 refine pu_ 4 (some 37) (bb 12 31) (by kernel_rfl) ?_
 refine take_ (i := 6) (N := some 39) (bb 12 95) rfl rfl (by kernel_rfl) (fun _ _ _ h => h) (v := .agg #[.bool b, .string s, .int .i64 e]) (Or.inl ⟨by rfl, fun w' hs => vO _ ⟨hs.1⟩ rfl rfl Tryz.underlying23 rfl yH⟩) hHeld (by simp only [Act.put, List.setIfInBounds_toArray, List.set_cons_zero, List.set_cons_succ]; rfl) ?_
 refine pu_ 7 (some 40) (bb 12 223) (by kernel_rfl) ?_
 refine pu_ 8 (some 41) (bb 12 479) (by kernel_rfl) ?_
 refine zY (i := 5) (N := some 38) (bb 12 511) rfl rfl (by kernel_rfl) (by decide) (fun K hK => ?_)
 refine jN Tryz.func66 (by kernel_rfl) rfl #[.agg #[.bool b, .string s, .int .i64 e], .int .i64 (wrap64 (q.P.mi - 1)), .int .i64 0] (by rfl) rfl rfl (by (try simp only [List.map_toArray]); (try simp only [List.map_cons]); (try simp only [List.map_nil]); first | done | rfl) ?_
 refine (xY b s e HOK.out.ok (nn - 1) 0 (by decide) (by omega) (by decide) (by omega) (by rw [HNN.out]; exact w64 (by omega) (by omega)) rfl _).mono ?_
 rintro e9 w' ⟨rfl, hb⟩
 refine ⟨_, rfl, ?_⟩
 replace HB := zG HB hb
 replace BK3 := zD BK3 hb
 replace BK4 := zD BK4 hb
 clear hb
 clear hHeld
 refine hK.out _ _ ⟨BK3.out, (zA BK3.out 0).trans rfl⟩ (fun hHeld => ?_)
 clear hK K
 refine jL (a' := ?_) ?_ ?_
 rotate_left
 ·show Act.put _ (some 38) _ = _
  simp only [Act.put, List.setIfInBounds_toArray, List.set_cons_zero, List.set_cons_succ]
  rfl
 refine zY (i := 9) (N := some 42) (bb 12 1023) rfl rfl (by kernel_rfl) (by decide) (fun K hK => ?_)
 refine jN Tryz.func66 (by kernel_rfl) rfl #[.agg #[.bool b, .string s, .int .i64 e], .int .i64 (-1), .int .i64 (wrap64 (-bb))] (by rfl) rfl rfl (by (try simp only [List.map_toArray]); (try simp only [List.map_cons]); (try simp only [List.map_nil]); first | done | rfl) ?_
 refine (xY b s e HOK.out.ok (-1) (-bb) (by omega) (by decide) (by omega) (by decide) rfl hwb _).mono ?_
 rintro e9 w' ⟨rfl, hb⟩
 refine ⟨_, rfl, ?_⟩
 replace HB := zG HB hb
 replace BK3 := zD BK3 hb
 replace BK4 := zD BK4 hb
 clear hb
 clear hHeld
 refine hK.out _ _ ⟨BK3.out, (zA BK3.out 0).trans rfl⟩ (fun hHeld => ?_)
 clear hK K
 refine jL (a' := ?_) ?_ ?_
 rotate_left
 ·show Act.put _ (some 42) _ = _
  simp only [Act.put, List.setIfInBounds_toArray, List.set_cons_zero, List.set_cons_succ]
  rfl
 refine pu_ 10 (some 43) (bb 12 2047) (by kernel_rfl) ?_
 refine zY (i := 11) (N := none) (bb 12 4095) rfl rfl (by kernel_rfl) (by decide) (fun K hK => ?_)
 refine vF (g := g4) (cs := #[.bool false, .string (⟨#[]⟩ : ByteArray), .string (⟨#[]⟩ : ByteArray), .int .i64 0]) (#[.bool b, .string (yD (vB s) e (nn - 1) 0), .string (yD (vB s) e (-1) (-bb)), .int .i64 0]) BK4 ?_ rfl rfl rfl rfl rfl xT rfl rfl
 intro w9 hbk hfar hbel
 have BK9 := K_ (hfar _ _ NB3_4.out BK3.out)
 replace BK4 := K_ hbk
 replace HB := K_ (hbel _ _ GE4.out HB.out)
 refine hK.out _ _ ⟨BK9.out, (zA BK9.out 0).trans rfl⟩ (fun _ => ?_)
 clear hK K hbk hfar hbel
 refine yV (by kernel_rfl) ?_
 go_wp2_with (fail)
 refine bodyPost_ret (results_cell_row rfl _ _ g4 36 (#[.bool b, .string (yD (vB s) e (nn - 1) 0), .string (yD (vB s) e (-1) (-bb)), .int .i64 0]) (0, 0) _ rfl BK4.out Tryz.underlying36 rfl xT) rfl ?_
 exact ⟨HRES.out, BL HB⟩
end Go.Proofs.YtcmgdjnjmobkoaaGreatDoor.Px
namespace Go.Proofs.YtcmgdjnjmobkoaaGreatDoor.Px
open Fig Go.RowKit Go.Proofs.YtcmgdjnjmobkoaaGreatDoorW.PrintWords Go.Proofs.YtcmgdjnjmobkoaaGreatDoorW.PrintLast Go.Proofs.YtcmgdjnjmobkoaaGreatDoorW.PrintMore
attribute [local go_sem] vN vM uD uC yY yX vK vL
attribute [local go_sem] qU qN qG qR qL qS qJ qK qH qF qI qM qQ qP
def zbs.f (a0 : Int) (a1 : Int) : Option (Int) := if a1 = 0 then (none) else (if (Int.tmod a0 a1) < 0 then (some (wrap64 ((wrap64 ((wrap64 (Int.tdiv a0 a1)) - 1)) * a1))) else (some (wrap64 ((wrap64 (Int.tdiv a0 a1)) * a1))))
set_option maxHeartbeats 8000000 in
set_option maxRecDepth 100000 in
theorem zbs.calls (a0 : Int) (a1 : Int) (r : Int) (w : World) (h : zbs.f a0 a1 = some r) :
  Calls Tryz.prog 67 #[.int .i64 a0, .int .i64 a1] w fun e w' => e = .returned (.int .i64 r) ∧ zO w w' := by
 have H : (if a1 = 0 then (none) else (if (Int.tmod a0 a1) < 0 then (some (wrap64 ((wrap64 ((wrap64 (Int.tdiv a0 a1)) - 1)) * a1))) else (some (wrap64 ((wrap64 (Int.tdiv a0 a1)) * a1))))) = some r := h
 clear h
 by_cases c3 : a1 = 0
 ·rw [if_pos c3] at H
  exact absurd H (by simp)
 rw [if_neg c3] at H
 have c3b0 : (a1 == 0) = false := beq_eq_false_iff_ne.mpr c3
 have c3b1 : (a1 != 0) = true := bne_iff_ne.mpr c3
 by_cases c4 : (Int.tmod a0 a1) < 0
 ·rw [if_pos c4] at H
  have c4b0 : decide ((Int.tmod a0 a1) < 0) = true := decide_eq_true c4
  clear c4
  obtain rfl := Option.some.inj H
  go_enter Tryz.func67, Tryz.ntmps67
  go_wp2
  go_ret
  exact ⟨by first | rfl | (simp; done) | (simp [*]; done) | (simp [*, Fig.bne_nil]; done), by repeat (first | exact zO.refl _ | apply zO.step)⟩
 rw [if_neg c4] at H
 have c4b0 : decide ((Int.tmod a0 a1) < 0) = false := decide_eq_false c4
 clear c4
 obtain rfl := Option.some.inj H
 go_enter Tryz.func67, Tryz.ntmps67
 go_wp2
 go_ret
 exact ⟨by first | rfl | (simp; done) | (simp [*]; done) | (simp [*, Fig.bne_nil]; done), by repeat (first | exact zO.refl _ | apply zO.step)⟩
end Go.Proofs.YtcmgdjnjmobkoaaGreatDoor.Px
