/- The functions that the law GridZeroUpto reaches, told as plain functions, with what is proved of them, and the words they need (part 4). -/
import Derived.Test.YtcmgdjnjmobkoaaGreatDoorCGridZeroUpto0
import Derived.Test.YtcmgdjnjmobkoaaGreatDoorCGridZeroUpto1
import Derived.Test.YtcmgdjnjmobkoaaGreatDoorCGridZeroUpto3
set_option linter.unusedVariables false
set_option linter.unusedSimpArgs false
namespace Go.Proofs.YtcmgdjnjmobkoaaGreatDoor.Px
set_option linter.all false
open Fig Go.RowKit Go.Proofs.YtcmgdjnjmobkoaaGreatDoorW.PrintWords Go.Proofs.YtcmgdjnjmobkoaaGreatDoorW.PrintLast Go.Proofs.YtcmgdjnjmobkoaaGreatDoorW.PrintMore
attribute [local go_sem] uE uD uW uY vM vO uH uF
set_option maxHeartbeats 16000000 in
set_option maxRecDepth 100000 in
theorem zip (s : ByteArray) (hs : s.size ≤ 1048576) (w : World) : Calls Tryz.prog 90 #[.string s] w (zmR s w) := by
 have HS := K_ hs
 have HB := K_ (Below.refl w.heap.size w)
 obtain ⟨b, x, sc, hcut⟩ : ∃ b x sc, xQ s 69 = (b, x, sc) := ⟨_, _, _, rfl⟩
 have HC : ∀ W, Aside0 (Calls Tryz.prog 116 #[.string s, .int .u8 69] W fun e w' => e = .returned (.tuple #[.string b, .string x, .bool sc]) ∧ zL W w') := fun W => ⟨by
  have h := zhl s 69 (by omega) W; rw [hcut] at h; exact h⟩
 have hsz := zgH s 69
 rw [hcut] at hsz
 have hbs : b.size ≤ 1048576 := Nat.le_trans hsz.1 hs
 have hxs : x.size ≤ 1048576 := Nat.le_trans hsz.2 hs
 have HBS := K_ hbs
 have HXS := K_ hxs
 have HN := K_ (show vD s = if sc = true then
   if (zaU x).size = 0 ∨ (vS (zaU x)).size ≠ 0 then none
   else if (zaU x).size > 9 then none
   else zbH true b { jO with sci := true, me := ((zaU x).size : Int), pe := zbt x }
  else zbH false b jO by unfold vD; rw [hcut])
 clear hs hcut hsz hbs hxs
 go_enter Tryz.func90, Tryz.ntmps90
 go_upto_if 30 with (first
  | (refine be_ 2 Z26 26 ?_; intro g2 hg w2 hbox hb; have BK2 := K_ hbox; have GE2 := ge_ hg HB; replace HB := zE HB hb; clear hb hbox hg)
  | (refine be_ 4 Z26 26 ?_; intro g4 hg w4 hbox hb; have BK4 := K_ hbox; have GE4 := ge_ hg HB; have NB := nb_ hg BK2; replace BK2 := zC BK2 hb; replace HB := zE HB hb; clear hb hbox hg)
  | (refine so_ (g := g4) (cs := Z26) Z26 ⟨BP BK4⟩ ?_ rfl rfl rfl rfl rfl (by kernel_rfl) rfl rfl; intro w5 hbk hfar hbel; replace BK4 := K_ hbk; replace BK2 := K_ (hfar g2 _ NB.out (BK BK2)); replace HB := K_ (hbel _ _ GE4.out (BL HB)); clear hbk hfar hbel)
  | (go_at_call 116; refine ((HC _).out).mono ?_; rintro e w' ⟨rfl, ⟨nd, rfl⟩⟩))
 go_cut [6] from 30 to 57 (fun x' wx => ∃ (y : ByteArray) (P : yK), x' = .string y ∧ wx.heap[g2]? = some (.cells Z26 26 (0, 0)) ∧ wx.heap[g4]? = some (.cells P.cs 26 (0, 0)) ∧ Below w.heap.size w wx ∧ vD s = zbH sc b P ∧ P.ms = 0)
 case first =>
  cases sc
  ·have HN2 := K_ (show vD s = zbH false b jO by rw [HN.out, if_neg (by decide)])
   clear HN
   go_wp2
   go_meet
   case rel => exact ⟨_, jO, rfl, BK BK2, BK BK4, BL HB, HN2.out, rfl⟩
  have HN2 := K_ (show vD s = if (zaU x).size = 0 ∨ (vS (zaU x)).size ≠ 0 then none
   else if (zaU x).size > 9 then none else zbH true b { jO with sci := true, me := ((zaU x).size : Int), pe := zbt x } by rw [HN.out, if_pos rfl])
  clear HN
  go_upto_region 4 with (fail)
  go_cut [38] from 31 to 38 (fun c wx => c = .bool (zbt x) ∧ wx = w5.drewN nd)
  case first =>
   by_cases h0 : 0 < x.size
   ·have hp : (((x[0].toNat : Nat) : Int) == 43) = zbt x := by rw [zlI h0]; exact zbj x[0] 43
    have hd : decide ((x.size : Int) > 0) = true := decide_eq_true (by omega)
    go_wp2
    go_meet
    case rel => exact ⟨rfl, rfl⟩
   have hp := zhE h0
   have hd : decide ((x.size : Int) > 0) = false := decide_eq_false (by omega)
   go_wp2
   go_meet
   case rel => exact ⟨by rw [hp], rfl⟩
  case rest =>
   obtain ⟨rfl, rfl⟩ := hcut
   go_upto_if 38 with (fail)
   go_cut [6] from 31 to 41 (fun x' wx => x' = .string (zaU x) ∧ wx.heap[g2]? = some (.cells Z26 26 (0, 0)) ∧ wx.heap[g4]? = some (.cells ({ jO with pe := zbt x } : yK).cs 26 (0, 0)) ∧ Below w.heap.size w wx)
   case first =>
    cases hp : zbt x
    ·have hx : zaU x = x := by unfold zaU; rw [hp]; rfl
     go_wp2
     go_meet
     case rel => exact ⟨by rw [hx], BK BK2, by rw [hp]; exact BK BK4, BL HB⟩
    have hx : zaU x = x.extract 1 x.size := by unfold zaU; rw [hp]; rfl
    have h0 : 0 < x.size := by
     apply Decidable.byContradiction; intro h; rw [zhE h] at hp; cases hp
    obtain ⟨⟨cz0, cz1, cz2, cz3, cz4, cz5, cz6, cz7, cz8, cz9, cz10, cz11, cz12, cz13, cz14, cz15, cz16, cz17, cz18, cz19⟩, fz0, fz1, fz2, fz3, fz4, fz5, fz6, fz7, fz8, fz9, fz10, fz11, fz12, fz13, fz14, fz15, fz16, fz17, fz18, fz19⟩ := zeo BK4
    go_wp2
    go_meet
    case rel => exact ⟨by rw [hx], (by (repeat (first | (with_reducible exact Aside0.out BK2) | (with_reducible refine jB ?_ _) | (with_reducible refine zV ?_) | (with_reducible refine jA ?_ _) | refine zR ?_ (Aside0.out NB) _))), by rw [hp]; exact BP BK4, BL HB⟩
   case rest =>
    obtain ⟨rfl, hb2, hb4, hbw⟩ := hcut
    replace BK2 := K_ hb2
    replace BK4 := K_ hb4
    replace HB := K_ hbw
    clear hb2 hb4 hbw
    obtain ⟨y, hy⟩ : ∃ y, y = zaU x := ⟨_, rfl⟩
    obtain ⟨P, hP⟩ : ∃ P : yK, P = { jO with pe := zbt x } := ⟨_, rfl⟩
    have hys : y.size ≤ 1048576 := by
     have := HXS.out
     rw [hy]; unfold zaU; split
     ·rw [ByteArray.size_extract]; omega
     exact this
    rw [← hP] at BK4
    replace HN2 := K_ (show vD s = if y.size = 0 ∨ (vS y).size ≠ 0 then none else if y.size > 9 then none else zbH true b { P with sci := true, me := (y.size : Int) } by rw [HN2.out, hP, hy])
    have HP4 := K_ (show P.ms = 0 by rw [hP]; rfl)
    rw [← hy]
    clear hP hy
    have HL := fun W => K_ (zeG y (by omega) W)
    have hls := zjp y
    by_cases h0 : 0 < y.size
    ·have HM := K_ hls
     clear hls
     have hye := zcj h0
     by_cases h1 : 0 < (vS y).size
     ·have HE := K_ (show vD s = none by rw [HN2.out, if_pos (.inr (by omega))])
      have hle := zcj h1
      go_upto_if 48 with (go_at_call 117; refine ((HL _).out).mono ?_; rintro e w' ⟨rfl, ⟨nd, rfl⟩⟩)
      (
       go_wp2_with (refine so_ (g := g2) (cs := Z26) Z26 ⟨(by (repeat (first | (with_reducible exact Aside0.out BK2) | (with_reducible refine jB ?_ _) | (with_reducible refine zV ?_) | (with_reducible refine jA ?_ _) | refine zR ?_ (Aside0.out NB) _)))⟩ ?_ rfl rfl rfl rfl rfl (by kernel_rfl) rfl rfl; intro w9 hbk hfar hbel; replace BK2 := K_ hbk; replace HB := K_ (hbel _ _ GE2.out (BL HB)); clear hbk hfar hbel)
       refine bodyPost_ret (jF rfl _ _ g2 26 jO.cs (0, 0) _ rfl (BP BK2) Tryz.underlying26 rfl (by kernel_rfl)) rfl ?_
       exact ⟨jO, 4, rfl, BL HB, .inr ⟨by decide, HE.out⟩⟩)
     have hle := zet h1
     by_cases h2 : 9 < y.size
     ·have HE := K_ (show vD s = none by rw [HN2.out, if_neg (by omega), if_pos h2])
      have hd : decide ((y.size : Int) > 9) = true := decide_eq_true (by omega)
      go_upto_if 52 with (go_at_call 117; refine ((HL _).out).mono ?_; rintro e w' ⟨rfl, ⟨nd, rfl⟩⟩)
      (
       go_wp2_with (refine so_ (g := g2) (cs := Z26) Z26 ⟨(by (repeat (first | (with_reducible exact Aside0.out BK2) | (with_reducible refine jB ?_ _) | (with_reducible refine zV ?_) | (with_reducible refine jA ?_ _) | refine zR ?_ (Aside0.out NB) _)))⟩ ?_ rfl rfl rfl rfl rfl (by kernel_rfl) rfl rfl; intro w9 hbk hfar hbel; replace BK2 := K_ hbk; replace HB := K_ (hbel _ _ GE2.out (BL HB)); clear hbk hfar hbel)
       refine bodyPost_ret (jF rfl _ _ g2 26 jO.cs (0, 0) _ rfl (BP BK2) Tryz.underlying26 rfl (by kernel_rfl)) rfl ?_
       exact ⟨jO, 8, rfl, BL HB, .inr ⟨by decide, HE.out⟩⟩)
     have HE := K_ (show vD s = zbH true b { P with sci := true, me := (y.size : Int) } by rw [HN2.out, if_neg (by omega), if_neg h2])
     have hd : decide ((y.size : Int) > 9) = false := decide_eq_false (by omega)
     obtain ⟨⟨cz0, cz1, cz2, cz3, cz4, cz5, cz6, cz7, cz8, cz9, cz10, cz11, cz12, cz13, cz14, cz15, cz16, cz17, cz18, cz19⟩, fz0, fz1, fz2, fz3, fz4, fz5, fz6, fz7, fz8, fz9, fz10, fz11, fz12, fz13, fz14, fz15, fz16, fz17, fz18, fz19⟩ := zeo BK4
     go_upto_region 11 with (go_at_call 117; refine ((HL _).out).mono ?_; rintro e w' ⟨rfl, ⟨nd, rfl⟩⟩)
     go_wp2
     go_meet
     case rel => exact ⟨y, _, rfl, (by (repeat (first | (with_reducible exact Aside0.out BK2) | (with_reducible refine jB ?_ _) | (with_reducible refine zV ?_) | (with_reducible refine jA ?_ _) | refine zR ?_ (Aside0.out NB) _))), BP BK4, BL HB, HE.out, HP4.out⟩
    have HE := K_ (show vD s = none by rw [HN2.out, if_pos (.inl (by omega))])
    obtain rfl := zgN h0
    (
     go_wp2_with (refine so_ (g := g2) (cs := Z26) Z26 ⟨(by (repeat (first | (with_reducible exact Aside0.out BK2) | (with_reducible refine jB ?_ _) | (with_reducible refine zV ?_) | (with_reducible refine jA ?_ _) | refine zR ?_ (Aside0.out NB) _)))⟩ ?_ rfl rfl rfl rfl rfl (by kernel_rfl) rfl rfl; intro w9 hbk hfar hbel; replace BK2 := K_ hbk; replace HB := K_ (hbel _ _ GE2.out (BL HB)); clear hbk hfar hbel)
     refine bodyPost_ret (jF rfl _ _ g2 26 jO.cs (0, 0) _ rfl (BP BK2) Tryz.underlying26 rfl (by kernel_rfl)) rfl ?_
     exact ⟨jO, 4, rfl, BL HB, .inr ⟨by decide, HE.out⟩⟩)
 case rest =>
  obtain ⟨y, P, rfl, hb2, hb4, hbw, he, hms⟩ := hcut
  have HMS := K_ hms
  replace BK2 := K_ hb2
  replace BK4 := K_ hb4
  replace HB := K_ hbw
  replace HN := K_ he
  clear hb2 hb4 hbw he hms HXS HC
  go_wp2_with (fail)
  go_loop [8] (fun i => ∃ k : Nat, k ≤ b.size ∧ i = .int .i64 k ∧ (b.data.toList.take k).all okC = true) (fun i => b.size - (intOf i).toNat)
  case atStart => exact ⟨0, by omega, rfl, rfl⟩
  case round =>
   obtain ⟨k, hk, rfl, ha⟩ := hrel
   have HA := K_ ha
   have hbz := HBS.out
   clear ha
   by_cases hlt : k < b.size
   ·have HS1 := fun h2 => K_ (zly (l := b.data.toList) (k := k) (by rw [← zW]; exact hlt) HA.out h2)
    have HS2 := fun h2 => K_ (znQ (l := b.data.toList) (k := k) (by rw [← zW]; exact hlt) h2)
    have HS1 : okC b[k] = true → Aside0 _ := HS1
    have HS2 : okC b[k] = false → Aside0 _ := HS2
    go_upto_region 16 with (fail)
    go_cut [9, 88] from 64 to 88 (fun v c wx => v = .int .u8 (b[k].toNat : Int) ∧ c = .bool (!okC b[k]) ∧ wx = wc)
    case first =>
     have e35 : (((b[k].toNat : Nat) : Int) != 35) = !(b[k] == 35) := congrArg (! ·) (zbj b[k] 35)
     have e64 : (((b[k].toNat : Nat) : Int) != 64) = !(b[k] == 64) := congrArg (! ·) (zbj b[k] 64)
     have e44 : (((b[k].toNat : Nat) : Int) != 44) = !(b[k] == 44) := congrArg (! ·) (zbj b[k] 44)
     have e46 : (((b[k].toNat : Nat) : Int) != 46) = !(b[k] == 46) := congrArg (! ·) (zbj b[k] 46)
     have HO := K_ (show okC b[k] = (b[k] == 35 || (b[k] == 64 || (b[k] == 44 || (b[k] == 46 || (decide (48 ≤ b[k].toNat) && decide (b[k].toNat ≤ 57)))))) from rfl)
     cases h1 : (b[k] == 35)
     ·rw [h1] at e35
      cases h2 : (b[k] == 64)
      ·rw [h2] at e64
       cases h3 : (b[k] == 44)
       ·rw [h3] at e44
        cases h4 : (b[k] == 46)
        ·rw [h4] at e46
         have HO2 := K_ (show okC b[k] = (decide (48 ≤ b[k].toNat) && decide (b[k].toNat ≤ 57)) by rw [HO.out, h1, h2, h3, h4]; rfl)
         clear h1 h2 h3 h4
         by_cases h5 : 48 ≤ b[k].toNat
         ·by_cases h6 : b[k].toNat ≤ 57
          ·have HO3 := K_ (show okC b[k] = true by rw [HO2.out]; simp [h5, h6])
           have d1 : decide (((b[k].toNat : Nat) : Int) < 48) = false := decide_eq_false (by omega)
           have d2 : decide (((b[k].toNat : Nat) : Int) > 57) = false := decide_eq_false (by omega)
           go_wp2
           go_meet
           case rel => exact ⟨rfl, by rw [HO3.out]; rfl, rfl⟩
          have HO3 := K_ (show okC b[k] = false by rw [HO2.out]; simp [h6])
          have d1 : decide (((b[k].toNat : Nat) : Int) < 48) = false := decide_eq_false (by omega)
          have d2 : decide (((b[k].toNat : Nat) : Int) > 57) = true := decide_eq_true (by omega)
          go_wp2
          go_meet
          case rel => exact ⟨rfl, by rw [HO3.out]; rfl, rfl⟩
         have HO3 := K_ (show okC b[k] = false by rw [HO2.out]; simp [h5])
         have d1 : decide (((b[k].toNat : Nat) : Int) < 48) = true := decide_eq_true (by omega)
         go_wp2
         go_meet
         case rel => exact ⟨rfl, by rw [HO3.out]; rfl, rfl⟩
        rw [h4] at e46
        have Q := K_ (show ((b[k].toNat : Nat) : Int) = 46 by simpa using e46)
        have HO3 := K_ (show okC b[k] = true by rw [HO.out, h1, h2, h3, h4]; rfl)
        clear h1 h2 h3 h4
        go_wp2
        go_meet
        case rel => exact ⟨by rw [Q.out], by rw [HO3.out]; rfl, rfl⟩
       rw [h3] at e44
       have Q := K_ (show ((b[k].toNat : Nat) : Int) = 44 by simpa using e44)
       have HO3 := K_ (show okC b[k] = true by rw [HO.out, h1, h2, h3]; rfl)
       clear h1 h2 h3
       go_wp2
       go_meet
       case rel => exact ⟨by rw [Q.out], by rw [HO3.out]; rfl, rfl⟩
      rw [h2] at e64
      have Q := K_ (show ((b[k].toNat : Nat) : Int) = 64 by simpa using e64)
      have HO3 := K_ (show okC b[k] = true by rw [HO.out, h1, h2]; rfl)
      clear h1 h2
      go_wp2
      go_meet
      case rel => exact ⟨by rw [Q.out], by rw [HO3.out]; rfl, rfl⟩
     rw [h1] at e35
     have Q := K_ (show ((b[k].toNat : Nat) : Int) = 35 by simpa using e35)
     have HO3 := K_ (show okC b[k] = true by rw [HO.out, h1]; rfl)
     clear h1
     go_wp2
     go_meet
     case rel => exact ⟨by rw [Q.out], by rw [HO3.out]; rfl, rfl⟩
    case rest =>
     obtain ⟨rfl, rfl, rfl⟩ := hcut
     cases ho : okC b[k]
     ·have HE := K_ (show vD s = none by rw [HN.out]; unfold zbH; rw [if_pos (HS2 ho).out])
      go_upto_if 88 with (fail)
      (
       go_wp2_with (refine so_ (g := g2) (cs := Z26) Z26 ⟨(by (repeat (first | (with_reducible exact Aside0.out BK2) | (with_reducible refine jB ?_ _) | (with_reducible refine zV ?_) | (with_reducible refine jA ?_ _) | refine zR ?_ (Aside0.out NB) _)))⟩ ?_ rfl rfl rfl rfl rfl (by kernel_rfl) rfl rfl; intro w9 hbk hfar hbel; replace BK2 := K_ hbk; replace HB := K_ (hbel _ _ GE2.out (BL HB)); clear hbk hfar hbel)
       refine bodyPost_ret (jF rfl _ _ g2 26 jO.cs (0, 0) _ rfl (BP BK2) Tryz.underlying26 rfl (by kernel_rfl)) rfl ?_
       exact ⟨jO, 4, rfl, BL HB, .inr ⟨by decide, HE.out⟩⟩)
     have HS3 := HS1 ho
     go_wp2
     go_round
     case rel => exact ⟨k + 1, by omega, by go_num, HS3.out⟩
     case measure => simp [intOf]; omega
   obtain rfl : k = b.size := by omega
   have HA2 := K_ (show b.data.toList.all okC = true by have := HA.out; rwa [zW, List.take_length] at this)
   clear HA
   obtain ⟨wh, fr, pt, hc2⟩ : ∃ wh fr pt, xQ b 46 = (wh, fr, pt) := ⟨_, _, _, rfl⟩
   have HC2 : ∀ W, Aside0 (Calls Tryz.prog 116 #[.string b, .int .u8 46] W fun e w' => e = .returned (.tuple #[.string wh, .string fr, .bool pt]) ∧ zL W w') := fun W => ⟨by
    have h := zhl b 46 (by omega) W; rw [hc2] at h; exact h⟩
   have hz2 := zgH b 46
   rw [hc2] at hz2
   have HPF := K_ (show pt = false → fr = ⟨#[]⟩ from fun h => by have := zmB b 46 (by rw [hc2]; exact h); rwa [hc2] at this)
   have hws : wh.size ≤ 1048576 := Nat.le_trans hz2.1 hbz
   have hfs : fr.size ≤ 1048576 := Nat.le_trans hz2.2 hbz
   have HK6 : ∀ W, Aside0 (Calls Tryz.prog 118 #[.string fr, .int .u8 46] W fun e w' => e = .returned (.int .i64 (jN 46 fr.data.toList : Nat)) ∧ w' = W) := fun W => ⟨zaH fr 46 (by omega) W⟩
   have HK4 : ∀ W, Aside0 (Calls Tryz.prog 118 #[.string fr, .int .u8 44] W fun e w' => e = .returned (.int .i64 (jN 44 fr.data.toList : Nat)) ∧ w' = W) := fun W => ⟨zaH fr 44 (by omega) W⟩
   have HN2 := K_ (show vD s = if 0 < jN 46 fr.data.toList ∨ (pt = true ∧ fr.size = 0) then none else if 0 < jN 44 fr.data.toList then none else zeZ sc pt wh fr P by
    rw [HN.out]; unfold zbH; rw [if_neg (by rw [HA2.out]; decide), hc2])
   clear HN
   have HN := HN2
   have HWS := K_ hws
   have HFS := K_ hfs
   clear HN2 hc2 hz2 hws hfs hbz HA2
   go_upto_region 19 with (go_at_call 116; refine ((HC2 _).out).mono ?_; rintro e w' ⟨rfl, ⟨nd2, rfl⟩⟩)
   go_cut [12, 105] from 90 to 105 (fun v c wx => v = .bool pt ∧ c = .bool (decide (0 < jN 46 fr.data.toList) || (pt && decide (fr.size = 0))) ∧ wx = wc.drewN nd2)
   case first =>
    have hfz := HFS.out
    by_cases h1 : 0 < jN 46 fr.data.toList
    ·have d1 : decide (((jN 46 fr.data.toList : Nat) : Int) > 0) = true := decide_eq_true (by omega)
     have d2 : decide (0 < jN 46 fr.data.toList) = true := decide_eq_true h1
     have D := K_ d2
     have d3 : ¬ jN 46 fr.data.toList = 0 := by omega
     go_wp2_with (go_at_call 118; refine ((HK6 _).out).mono ?_; rintro e w' ⟨rfl, rfl⟩)
     go_meet
     case rel => exact ⟨rfl, by rw [D.out]; rfl, rfl⟩
    have d1 : decide (((jN 46 fr.data.toList : Nat) : Int) > 0) = false := decide_eq_false (by omega)
    have d2 : decide (0 < jN 46 fr.data.toList) = false := decide_eq_false h1
    have D := K_ d2
    have d3 : jN 46 fr.data.toList = 0 := by omega
    clear h1
    cases hp : pt
    ·go_wp2_with (go_at_call 118; refine ((HK6 _).out).mono ?_; rintro e w' ⟨rfl, rfl⟩)
     go_meet
     case rel => exact ⟨by rw [hp], by rw [D.out, hp]; rfl, rfl⟩
    by_cases h2 : 0 < fr.size
    ·have hfe := zcj h2
     have D2 := K_ (decide_eq_false (show ¬ fr.size = 0 by omega))
     go_wp2_with (go_at_call 118; refine ((HK6 _).out).mono ?_; rintro e w' ⟨rfl, rfl⟩)
     go_meet
     case rel => exact ⟨by rw [hp], by rw [D.out, hp, D2.out]; rfl, rfl⟩
    have hfe := zet h2
    have D2 := K_ (decide_eq_true (show fr.size = 0 by omega))
    go_wp2_with (go_at_call 118; refine ((HK6 _).out).mono ?_; rintro e w' ⟨rfl, rfl⟩)
    go_meet
    case rel => exact ⟨by rw [hp], by rw [D.out, hp, D2.out]; rfl, rfl⟩
   case rest =>
    obtain ⟨rfl, rfl, rfl⟩ := hcut
    cases hq : (decide (0 < jN 46 fr.data.toList) || (pt && decide (fr.size = 0)))
    ·have HN2 := K_ (show vD s = if 0 < jN 44 fr.data.toList then none else zeZ sc pt wh fr P by
      rw [HN.out, if_neg]; intro h
      have : (decide (0 < jN 46 fr.data.toList) || (pt && decide (fr.size = 0))) = true := by simpa using h
      rw [hq] at this; cases this)
     clear HN hq
     by_cases h4 : 0 < jN 44 fr.data.toList
     ·have HE := K_ (show vD s = none by rw [HN2.out, if_pos h4])
      have d1 : decide (((jN 44 fr.data.toList : Nat) : Int) > 0) = true := decide_eq_true (by omega)
      have d2 : decide (0 < jN 44 fr.data.toList) = true := decide_eq_true h4
      go_upto_if 109 with (go_at_call 118; refine ((HK4 _).out).mono ?_; rintro e w' ⟨rfl, rfl⟩)
      (
       go_wp2_with (refine so_ (g := g2) (cs := Z26) Z26 ⟨(by (repeat (first | (with_reducible exact Aside0.out BK2) | (with_reducible refine jB ?_ _) | (with_reducible refine zV ?_) | (with_reducible refine jA ?_ _) | refine zR ?_ (Aside0.out NB) _)))⟩ ?_ rfl rfl rfl rfl rfl (by kernel_rfl) rfl rfl; intro w9 hbk hfar hbel; replace BK2 := K_ hbk; replace HB := K_ (hbel _ _ GE2.out (BL HB)); clear hbk hfar hbel)
       refine bodyPost_ret (jF rfl _ _ g2 26 jO.cs (0, 0) _ rfl (BP BK2) Tryz.underlying26 rfl (by kernel_rfl)) rfl ?_
       exact ⟨jO, 5, rfl, BL HB, .inr ⟨by decide, HE.out⟩⟩)
     have HN := K_ (show vD s = zeZ sc pt wh fr P by rw [HN2.out, if_neg h4])
     have d1 : decide (((jN 44 fr.data.toList : Nat) : Int) > 0) = false := decide_eq_false (by omega)
     have d2 : decide (0 < jN 44 fr.data.toList) = false := decide_eq_false h4
     clear HN2
     go_upto_region 26 with (go_at_call 118; refine ((HK4 _).out).mono ?_; rintro e w' ⟨rfl, rfl⟩)
     clear d1 d2 h4
     obtain ⟨L, hL⟩ : ∃ L, L = wh.data.toList ++ [44] := ⟨_, rfl⟩
     have hLl : L.length = wh.size + 1 := by rw [hL, List.length_append, ← zW]; rfl
     have HLL := K_ hLl
     have HLD := K_ hL
     go_wp2_with (fail)
     go_loopw [13, 14, 15, 16] (fun vz vp vn vi wr => ∃ k : Nat, k ≤ wh.size + 1 ∧ vi = .int .i64 k ∧ vn = .int .i64 (szS (L.take k)).2 ∧ vp = .string (qI 44 (wh.data.toList.take k)) ∧ (Kd.int .i64).R 3 wr w.heap.size (fun _ => True) vz (szS (L.take k)).1 ∧ wr.heap[g2]? = some (.cells Z26 26 (0, 0)) ∧ wr.heap[g4]? = some (.cells P.cs 26 (0, 0)) ∧ Below w.heap.size w wr) (fun _ _ _ i _ => wh.size + 1 - (intOf i).toNat)
     case atStart => exact ⟨0, by omega, rfl, rfl, rfl, Kd.R_nil _ _ _ _ _, BK BK2, BK BK4, BL HB⟩
     case round =>
      obtain ⟨k, hk, rfl, rfl, rfl, hz, hb2, hb4, hbw⟩ := hrel
      clear BK2 BK4 HB
      have HZ := K_ hz
      have BK2 := K_ hb2
      have BK4 := K_ hb4
      have HB := K_ hbw
      clear hz hb2 hb4 hbw
      have hwz := HWS.out
      by_cases hlt : k ≤ wh.size
      ·have hbd := ziM L k
       have HSU := K_ (zlP (l := L) (k := k) (by rw [HLL.out]; omega))
       obtain ⟨a, ha⟩ : ∃ a, a = szS (L.take k) := ⟨_, rfl⟩
       rw [← ha] at hbd HSU HZ
       simp only [← ha]
       clear ha
       obtain ⟨A4, c4, rfl⟩ := Kd.R_slice HZ.out
       have dle : decide ((k : Int) ≤ (wh.size : Int)) = true := decide_eq_true (by omega)
       have hwk : IntKind.i64.wrap ((k : Int) + 1) = (k : Int) + 1 := by rw [IntKind.wrap_i64]; omega
       have hwn : IntKind.i64.wrap (a.2 + 1) = a.2 + 1 := by rw [IntKind.wrap_i64]; omega
       have HZ2n := K_ (Kd.R_ne HZ.out BK2.out (by decide))
       have HZ4n := K_ (Kd.R_ne HZ.out BK4.out (by decide))
       have HAP := K_ (show (a.1.length + 1) * 8 ≤ 140737488355328 by omega)
       by_cases hlt2 : k < wh.size
       ·have dlt : decide ((k : Int) < (wh.size : Int)) = true := decide_eq_true (by omega)
        have hLk : L[k]'(by rw [HLL.out]; omega) = wh[k] := by
         have := HLD.out; subst this; rw [List.getElem_append_left (by rw [← zW]; exact hlt2)]; rfl
        rw [hLk] at HSU
        have e44 : (((wh[k].toNat : Nat) : Int) != 44) = !(wh[k] == 44) := congrArg (! ·) (zbj wh[k] 44)
        cases hc : (wh[k] == 44)
        ·rw [hc] at e44
         have HF := K_ (zhz (l := wh.data.toList) (k := k) 44 (by rw [← zW]; exact hlt2) (beq_eq_false_iff_ne.1 hc))
         have HSV := K_ (show szS (L.take (k + 1)) = (a.1, a.2 + 1) by rw [HSU.out]; unfold szF; rw [hc]; rfl)
         have hle1 : (k : Int) ≤ (k : Int) + 1 := by omega
         have hle2 : (k : Int) + 1 ≤ (wh.size : Int) := by omega
         have h01 : (0 : Int) ≤ (k : Int) + 1 := by omega
         have hle3 : k + 1 ≤ wh.size := hlt2
         have hn1 : ((k : Int) + 1).toNat = k + 1 := by omega
         have hfl := zdG 44 (wh.data.toList.take k)
         rw [List.length_take] at hfl
         have hfb : ¬ 9223372036854775807 < (qI 44 (List.take k wh.data.toList)).size + 1 := by omega
         clear hLk hc HSU
         go_wp2
         go_roundw
         case rel =>
          refine ⟨k + 1, by omega, by go_num, by rw [HSV.out], ?_, by rw [HSV.out]; exact RB HZ.out, BK BK2, BK BK4, BL HB⟩
          rw [HF.out, zeV hlt2]; rfl
         case measure => simp [intOf]; omega
        rw [hc] at e44
        have HF := K_ (zhf (l := wh.data.toList) (k := k) 44 (by rw [← zW]; exact hlt2) (eq_of_beq hc))
        have HSV := K_ (show szS (L.take (k + 1)) = (a.1 ++ [a.2], 0) by rw [HSU.out]; unfold szF; rw [hc]; rfl)
        clear hLk hc HSU
        go_wp2_with ((with_reducible refine jJ (b := .append) (xs := #[.tmp 136, .tmp 138]) rfl ?_); at_builtin; (refine Kd.R_append (Kd.int .i64) (w0 := w) w.heap.size rfl (.tmp 136) (.tmp 138) 147 3 (.int .i64 0) 8 rfl Tryz.underlying147 zmc rfl (by decide) (by omega) (.slice A4 a.1.length c4) a.1 a.2 [.int .i64 a.2] (fun _ => True) (fun _ => False) rfl rfl rfl (fun _ hk => hk.elim) (fun _ _ => trivial) ?aO ?aB ?aS ?aL ?_; (case aO => exact RB HZ.out); (case aB => exact BL HB); (case aS => exact zJ (BL HB)); (case aL => exact HAP.out); intro v1 w10 ho hb hg hat; have HZ2 := K_ ho; have BK2b := K_ (yY (BK BK2) hg HZ2n.out); have BK4b := K_ (yY (BK BK4) hg HZ4n.out); replace HB := K_ hb; clear ho hb hg hat))
        go_roundw
        case rel => exact ⟨k + 1, by omega, by go_num, by rw [HSV.out], by rw [HF.out], by rw [HSV.out]; exact RB HZ2.out, BK BK2b, BK BK4b, BL HB⟩
        case measure => simp [intOf]; omega
       have dlt : decide ((k : Int) < (wh.size : Int)) = false := decide_eq_false (by omega)
       have hkk : k = wh.size := by omega
       have hLk : L[k]'(by rw [HLL.out]; omega) = 44 := by
        have := HLD.out; subst this; exact List.getElem_concat_length (hkk.trans (zW _)) _
       rw [hLk] at HSU
       have HF := K_ (show qI 44 (wh.data.toList.take (k + 1)) = qI 44 (wh.data.toList.take k) by rw [List.take_of_length_le (by rw [← zW]; omega), List.take_of_length_le (by rw [← zW]; omega)])
       have HSV := K_ (show szS (L.take (k + 1)) = (a.1 ++ [a.2], 0) by rw [HSU.out]; rfl)
       clear hLk hkk HSU
       go_wp2_with ((with_reducible refine jJ (b := .append) (xs := #[.tmp 136, .tmp 138]) rfl ?_); at_builtin; (refine Kd.R_append (Kd.int .i64) (w0 := w) w.heap.size rfl (.tmp 136) (.tmp 138) 147 3 (.int .i64 0) 8 rfl Tryz.underlying147 zmc rfl (by decide) (by omega) (.slice A4 a.1.length c4) a.1 a.2 [.int .i64 a.2] (fun _ => True) (fun _ => False) rfl rfl rfl (fun _ hk => hk.elim) (fun _ _ => trivial) ?aO ?aB ?aS ?aL ?_; (case aO => exact RB HZ.out); (case aB => exact BL HB); (case aS => exact zJ (BL HB)); (case aL => exact HAP.out); intro v1 w10 ho hb hg hat; have HZ2 := K_ ho; have BK2b := K_ (yY (BK BK2) hg HZ2n.out); have BK4b := K_ (yY (BK BK4) hg HZ4n.out); replace HB := K_ hb; clear ho hb hg hat))
       go_roundw
       case rel => exact ⟨k + 1, by omega, by go_num, by rw [HSV.out], by rw [HF.out], by rw [HSV.out]; exact RB HZ2.out, BK BK2b, BK BK4b, BL HB⟩
       case measure => simp [intOf]; omega
      obtain rfl : k = wh.size + 1 := by omega
      have dle : decide (((wh.size + 1 : Nat) : Int) ≤ (wh.size : Int)) = false := decide_eq_false (by omega)
      have eL : L.take (wh.size + 1) = L := List.take_of_length_le (by rw [HLL.out]; exact Nat.le_refl _)
      have eW : wh.data.toList.take (wh.size + 1) = wh.data.toList := List.take_of_length_le (by rw [← zW]; omega)
      have hbd := ziM L (wh.size + 1)
      have hpb := zdG 44 wh.data.toList
      rw [← zW] at hpb
      rw [eL] at HZ hbd
      simp only [eL, eW]
      obtain ⟨sz, hsz⟩ : ∃ sz, sz = (szS L).1 := ⟨_, rfl⟩
      obtain ⟨n0, hn0⟩ : ∃ n0, n0 = (szS L).2 := ⟨_, rfl⟩
      obtain ⟨pl, hpl⟩ : ∃ pl, pl = qI 44 wh.data.toList := ⟨_, rfl⟩
      have HN2 := K_ (show vD s = if sz.length > 1 ∧ 0 ∈ sz then none else zdW sc pt sz pl fr { P with pr := if sz.length > 1 then sz.getD (sz.length - 1) 0 else P.pr, se := if sz.length > 2 then sz.getD (sz.length - 2) 0 else if sz.length > 1 then sz.getD (sz.length - 1) 0 else P.se } by
       rw [HN.out, hsz, hpl, HLD.out]; rfl)
      rw [← hsz] at HZ hbd
      rw [← hpl] at hpb
      simp only [← hsz, ← hn0, ← hpl]
      clear hsz hn0 hpl eL eW HN HLL HLD
      have hszl : sz.length ≤ 1048577 := by omega
      have HSL := K_ hszl
      have HPL := K_ (show pl.size ≤ 1048576 by omega)
      clear hbd hpb hszl hwz
      obtain ⟨A4, c4, rfl⟩ := Kd.R_slice HZ.out
      go_wp2_with (fail)
      go_loop [17] (fun i => ∃ k : Nat, k ≤ sz.length ∧ i = .int .i64 k ∧ (sz.length > 1 → ∀ x ∈ sz.take k, x ≠ 0)) (fun i => sz.length - (intOf i).toNat)
      case atStart => exact ⟨0, by omega, rfl, fun _ x hx => by simp at hx⟩
      case round =>
       obtain ⟨k, hk, rfl, hz⟩ := hrel
       have HK := K_ hz
       have hsz2 := HSL.out
       clear hz
       by_cases hlt : k < sz.length
       ·have dlt : decide ((k : Int) < (sz.length : Int)) = true := decide_eq_true (by omega)
        by_cases h1 : sz.length > 1
        ·have d1 : decide ((sz.length : Int) > 1) = true := decide_eq_true (by omega)
         have d2 : decide (1 < sz.length) = true := decide_eq_true h1
         obtain ⟨ad, ea, hcell⟩ := Kd.at_int (Kd.R_reads' HZ.out).2.2 (k : Int) (by omega) (by omega)
         subst ea
         have hrd : rd sz (k : Int) = sz[k] := by unfold rd; rw [Int.toNat_natCast, List.getD_eq_getElem?_getD, List.getElem?_eq_getElem hlt]; rfl
         rw [hrd, Int.toNat_natCast] at hcell
         obtain ⟨x0, hx0⟩ : ∃ x0, x0 = sz[k] := ⟨_, rfl⟩
         have HX0 := K_ hx0
         rw [← hx0] at hcell
         clear hx0 hrd
         cases hq : (x0 == 0)
         ·have HKK := K_ (show sz.length > 1 → ∀ x ∈ sz.take (k + 1), x ≠ 0 by
           intro _ x hx
           rw [List.take_succ_eq_append_getElem hlt, List.mem_append, List.mem_singleton] at hx
           rcases hx with hx | rfl
           ·exact HK.out h1 x hx
           rw [← HX0.out]; exact beq_eq_false_iff_ne.1 hq)
          go_wp2
          go_round
          case rel => exact ⟨k + 1, by omega, by go_num, HKK.out⟩
          case measure => simp [intOf]; omega
         have HE := K_ (show vD s = none by
          rw [HN2.out, if_pos ⟨h1, by rw [← eq_of_beq hq, HX0.out]; exact List.getElem_mem hlt⟩])
         go_upto_if 155 with (fail)
         (
          go_wp2_with (refine so_ (g := g2) (cs := Z26) Z26 ⟨(by (repeat (first | (with_reducible exact Aside0.out BK2) | (with_reducible refine jB ?_ _) | (with_reducible refine zV ?_) | (with_reducible refine jA ?_ _) | refine zR ?_ (Aside0.out NB) _)))⟩ ?_ rfl rfl rfl rfl rfl (by kernel_rfl) rfl rfl; intro w9 hbk hfar hbel; replace BK2 := K_ hbk; replace HB := K_ (hbel _ _ GE2.out (BL HB)); clear hbk hfar hbel)
          refine bodyPost_ret (jF rfl _ _ g2 26 jO.cs (0, 0) _ rfl (BP BK2) Tryz.underlying26 rfl (by kernel_rfl)) rfl ?_
          exact ⟨jO, 5, rfl, BL HB, .inr ⟨by decide, HE.out⟩⟩)
        have d1 : decide ((sz.length : Int) > 1) = false := decide_eq_false (by omega)
        have d2 : decide (1 < sz.length) = false := decide_eq_false h1
        have HKK := K_ (show sz.length > 1 → ∀ x ∈ sz.take (k + 1), x ≠ 0 from fun h => absurd h h1)
        go_wp2
        go_round
        case rel => exact ⟨k + 1, by omega, by go_num, HKK.out⟩
        case measure => simp [intOf]; omega
       obtain rfl : k = sz.length := by omega
       have HN3 := K_ (show vD s = zdW sc pt sz pl fr { P with pr := if sz.length > 1 then sz.getD (sz.length - 1) 0 else P.pr, se := if sz.length > 2 then sz.getD (sz.length - 2) 0 else if sz.length > 1 then sz.getD (sz.length - 1) 0 else P.se } by
        rw [HN2.out, if_neg]; rintro ⟨h1, h2⟩; have := HK.out h1 0 (by rw [List.take_length]; exact h2); exact this rfl)
       clear HN2 HK
       have dlt : decide ((sz.length : Int) < (sz.length : Int)) = false := decide_eq_false (by omega)
       go_upto_region 39 with (fail)
       obtain ⟨Pa, hPa⟩ : ∃ Pa : yK, Pa = { P with pr := if sz.length > 1 then sz.getD (sz.length - 1) 0 else P.pr, se := if sz.length > 1 then sz.getD (sz.length - 1) 0 else P.se } := ⟨_, rfl⟩
       obtain ⟨P2, hP2⟩ : ∃ P2 : yK, P2 = { Pa with se := if sz.length > 2 then sz.getD (sz.length - 2) 0 else Pa.se } := ⟨_, rfl⟩
       have HN := K_ (show vD s = zdW sc pt sz pl fr P2 by rw [HN3.out, hP2, hPa])
       have HMS2 := K_ (show P2.ms = 0 by rw [hP2, hPa]; exact HMS.out)
       clear HN3
       go_upto_if 159 with (fail)
       go_cut [] from 157 to 173 (fun wx => (Kd.int .i64).R 3 wx w.heap.size (fun _ => True) (.slice A4 sz.length c4) sz ∧ wx.heap[g2]? = some (.cells Z26 26 (0, 0)) ∧ wx.heap[g4]? = some (.cells Pa.cs 26 (0, 0)) ∧ Below w.heap.size w wx)
       case first =>
        by_cases h1 : sz.length > 1
        ·have d1 : decide ((sz.length : Int) > 1) = true := decide_eq_true (by omega)
         have d2 : decide (1 < sz.length) = true := decide_eq_true h1
         obtain ⟨ad, ea, hcell⟩ := Kd.at_int (Kd.R_reads' HZ.out).2.2 ((sz.length : Int) - 1) (by omega) (by omega)
         subst ea
         have hrd : rd sz ((sz.length : Int) - 1) = sz.getD (sz.length - 1) 0 := by unfold rd; congr 1; omega
         rw [hrd, show ((sz.length : Int) - 1).toNat = sz.length - 1 by omega] at hcell
         have h1le : (1 : Int) ≤ (sz.length : Int) := by omega
         obtain ⟨v0, hv0⟩ : ∃ v0, v0 = sz.getD (sz.length - 1) 0 := ⟨_, rfl⟩
         rw [← hv0] at hcell
         have HG4 := K_ (Kd.R_ne HZ.out BK4.out (by decide))
         have hbn : (ad.add (sz.length - 1)).block ≠ g4 := by
          rw [zcO]; intro e; exact HG4.out (by simp [Value.ownBlock, e])
         have hcell2 : ∀ j v, (wr.setCell ⟨g4, j, none⟩ v).cell? (ad.add (sz.length - 1)) = some (.int .i64 v0) := fun j v => (jD hbn v).trans hcell
         have hwl : IntKind.i64.wrap ((sz.length : Int) - 1) = (sz.length : Int) - 1 := by rw [IntKind.wrap_i64]; omega
         have hb0 : (0 : Int) ≤ (sz.length : Int) - 1 := by omega
         have hb1 : (sz.length : Int) - 1 < (sz.length : Int) := by omega
         have ePa := K_ (show Pa = { P with pr := sz.getD (sz.length - 1) 0, se := sz.getD (sz.length - 1) 0 } by rw [hPa, if_pos h1, if_pos h1])
         rw [← hv0] at ePa
         clear hv0 hrd
         have BK40 := BK4
         obtain ⟨⟨cz0, cz1, cz2, cz3, cz4, cz5, cz6, cz7, cz8, cz9, cz10, cz11, cz12, cz13, cz14, cz15, cz16, cz17, cz18, cz19⟩, fz0, fz1, fz2, fz3, fz4, fz5, fz6, fz7, fz8, fz9, fz10, fz11, fz12, fz13, fz14, fz15, fz16, fz17, fz18, fz19⟩ := zeo BK4
         go_upto_region 40 with (fail)
         go_region
         have HZ4 := K_ (Kd.R_types HZ.out BK40.out (by decide))
         all_goals (go_wp2_with (fail); go_meet; exact ⟨(by refine Kd.R_mono (ok := fun k => True ∧ k ≠ g4) ?_ (fun _ hk => hk.1); (repeat (first | (with_reducible exact Aside0.out HZ4) | (with_reducible refine Kd.R_drewN ?_ _) | (with_reducible refine Kd.R_drew ?_) | refine Kd.R_far ?_ (fun _ hk => hk.2) _))), (by (repeat (first | (with_reducible exact Aside0.out BK2) | (with_reducible refine jB ?_ _) | (with_reducible refine zV ?_) | (with_reducible refine jA ?_ _) | refine zR ?_ (Aside0.out NB) _))), by rw [ePa.out]; exact BP BK4, BL HB⟩)
        have d1 : decide ((sz.length : Int) > 1) = false := decide_eq_false (by omega)
        have d2 : decide (1 < sz.length) = false := decide_eq_false h1
        have e2 : Pa = P := by rw [hPa, if_neg h1, if_neg h1]
        go_wp2
        go_meet
        case rel => exact ⟨HZ.out, BK BK2, by rw [e2]; exact BK BK4, BL HB⟩
       case rest =>
        obtain ⟨hz, hb2, hb4, hbw⟩ := hcut
        replace HZ := K_ hz
        replace BK2 := K_ hb2
        replace BK4 := K_ hb4
        replace HB := K_ hbw
        have HP2 := K_ hP2
        clear hz hb2 hb4 hbw hP2 hPa
        go_upto_if 176 with (fail)
        go_cut [] from 174 to 183 (fun wx => (Kd.int .i64).R 3 wx w.heap.size (fun _ => True) (.slice A4 sz.length c4) sz ∧ wx.heap[g2]? = some (.cells Z26 26 (0, 0)) ∧ wx.heap[g4]? = some (.cells P2.cs 26 (0, 0)) ∧ Below w.heap.size w wx)
        case first =>
         have hszl := HSL.out
         by_cases h1 : sz.length > 2
         ·have d1 : decide ((sz.length : Int) > 2) = true := decide_eq_true (by omega)
          have d2 : decide (2 < sz.length) = true := decide_eq_true h1
          obtain ⟨ad, ea, hcell⟩ := Kd.at_int (Kd.R_reads' HZ.out).2.2 ((sz.length : Int) - 2) (by omega) (by omega)
          subst ea
          have hrd : rd sz ((sz.length : Int) - 2) = sz.getD (sz.length - 2) 0 := by unfold rd; congr 1; omega
          rw [hrd, show ((sz.length : Int) - 2).toNat = sz.length - 2 by omega] at hcell
          have h1le : (2 : Int) ≤ (sz.length : Int) := by omega
          have hwl : IntKind.i64.wrap ((sz.length : Int) - 2) = (sz.length : Int) - 2 := by rw [IntKind.wrap_i64]; omega
          have hb0 : (0 : Int) ≤ (sz.length : Int) - 2 := by omega
          have hb1 : (sz.length : Int) - 2 < (sz.length : Int) := by omega
          have eP2 := K_ (show P2 = { Pa with se := sz.getD (sz.length - 2) 0 } by rw [HP2.out, if_pos h1])
          obtain ⟨v0, hv0⟩ : ∃ v0, v0 = sz.getD (sz.length - 2) 0 := ⟨_, rfl⟩
          rw [← hv0] at hcell eP2
          clear hv0 hrd
          have HZ4 := K_ (Kd.R_types HZ.out BK4.out (by decide))
          obtain ⟨⟨cz0, cz1, cz2, cz3, cz4, cz5, cz6, cz7, cz8, cz9, cz10, cz11, cz12, cz13, cz14, cz15, cz16, cz17, cz18, cz19⟩, fz0, fz1, fz2, fz3, fz4, fz5, fz6, fz7, fz8, fz9, fz10, fz11, fz12, fz13, fz14, fz15, fz16, fz17, fz18, fz19⟩ := zeo BK4
          go_wp2
          go_meet
          case rel => exact ⟨(by refine Kd.R_mono (ok := fun k => True ∧ k ≠ g4) ?_ (fun _ hk => hk.1); (repeat (first | (with_reducible exact Aside0.out HZ4) | (with_reducible refine Kd.R_drewN ?_ _) | (with_reducible refine Kd.R_drew ?_) | refine Kd.R_far ?_ (fun _ hk => hk.2) _))), (by (repeat (first | (with_reducible exact Aside0.out BK2) | (with_reducible refine jB ?_ _) | (with_reducible refine zV ?_) | (with_reducible refine jA ?_ _) | refine zR ?_ (Aside0.out NB) _))), by rw [eP2.out]; exact BP BK4, BL HB⟩
         have d1 : decide ((sz.length : Int) > 2) = false := decide_eq_false (by omega)
         have d2 : decide (2 < sz.length) = false := decide_eq_false h1
         have e2 : P2 = Pa := by rw [HP2.out, if_neg h1]
         go_wp2
         go_meet
         case rel => exact ⟨HZ.out, BK BK2, by rw [e2]; exact BK BK4, BL HB⟩
        case rest =>
         obtain ⟨hz, hb2, hb4, hbw⟩ := hcut
         replace HZ := K_ hz
         replace BK2 := K_ hb2
         replace BK4 := K_ hb4
         replace HB := K_ hbw
         clear hz hb2 hb4 hbw HP2
         have hpz := HPL.out
         have hfz := HFS.out
         have hfb : ¬ 9223372036854775807 < pl.size + fr.size := by omega
         go_upto_region 44 with (fail)
         obtain ⟨al, hal⟩ : ∃ al, al = pl ++ fr := ⟨_, rfl⟩
         have hals : al.size ≤ 2097152 := by rw [hal, ByteArray.size_append]; omega
         have HN2 := K_ (show vD s = if al.size = 0 then none else if 0 < jN 64 al.data.toList then (if pt = true ∨ 0 < jN 48 pl.data.toList then none else if uM [35, 64, 35] pl.data.toList = false then none else zaO sc sz pl { P2 with ms := (jN 64 pl.data.toList : Nat), xs := (pl.size : Int) - (xA pl.data.toList : Nat) })
          else if uM [35, 48, 48] pl.data.toList = false ∨ uM [48, 35, 35] fr.data.toList = false then none
          else if (vS (qI 35 al.data.toList)).size ≠ 0 ∧ ((jN 48 fr.data.toList : Int) < (fr.size : Int) ∨ sc = true) then none
          else zaO sc sz pl { P2 with mi := (jN 48 pl.data.toList : Nat), mf := (jN 48 fr.data.toList : Nat), xf := (fr.size : Int), inc := vS (qI 35 al.data.toList), xi := if sc = true then (pl.size : Int) else P2.xi } by rw [HN.out, hal]; rfl)
         clear HN
         have HAL := K_ hal
         have HAS := K_ hals
         rw [← hal]
         have hals2 := hals
         clear hal hals hfb hpz hfz
         by_cases h0 : 0 < al.size
         ·have hle := zcj h0
          have HK := fun W => K_ (zaH al 64 (by omega) W)
          clear hals2
          go_upto_if 192 with (go_at_call 118; refine ((HK _).out).mono ?_; rintro e w' ⟨rfl, rfl⟩)
          go_cut [7, 12, 19, 20, 24, 26, 29, 191, 192] from 193 to 277 (fun v7 v12 _ _ _ _ _ _ _ wx => v7 = .bool sc ∧ v12 = .bool pt ∧ ∃ P' : yK, vD s = zaO sc sz pl P' ∧ (0 < P'.ms → 0 < pl.size) ∧ (Kd.int .i64).R 3 wx w.heap.size (fun _ => True) (.slice A4 sz.length c4) sz ∧ wx.heap[g2]? = some (.cells Z26 26 (0, 0)) ∧ wx.heap[g4]? = some (.cells P'.cs 26 (0, 0)) ∧ Below w.heap.size w wx)
          case first =>
           have hpz := HPL.out
           have hfz := HFS.out
           by_cases h1 : 0 < jN 64 al.data.toList
           ·have d1 : decide (((jN 64 al.data.toList : Nat) : Int) > 0) = true := decide_eq_true (by omega)
            have d2 : decide (0 < jN 64 al.data.toList) = true := decide_eq_true h1
            have d3 : ¬ jN 64 al.data.toList = 0 := by omega
            have HN3 := K_ (show vD s = if pt = true ∨ 0 < jN 48 pl.data.toList then none else if uM [35, 64, 35] pl.data.toList = false then none else zaO sc sz pl { P2 with ms := (jN 64 pl.data.toList : Nat), xs := (pl.size : Int) - (xA pl.data.toList : Nat) } by rw [HN2.out, if_neg (by omega), if_pos h1])
            clear HN2
            cases hp : pt
            ·have hfr := HPF.out hp
             have HLL := K_ (show xA pl.data.toList < pl.size by
              have e : al = pl := by rw [HAL.out, hfr]; exact ByteArray.append_empty
              rw [e] at h1; rw [zW]; exact zmX _ h1)
             have HK1 := fun W => K_ (zaH pl 48 (by omega) W)
             clear hfr
             by_cases h2 : 0 < jN 48 pl.data.toList
             ·have HE := K_ (show vD s = none by rw [HN3.out, if_pos (.inr h2)])
              have e1 : decide (((jN 48 pl.data.toList : Nat) : Int) > 0) = true := decide_eq_true (by omega)
              have e2 : decide (0 < jN 48 pl.data.toList) = true := decide_eq_true h2
              have e3 : ¬ jN 48 pl.data.toList = 0 := by omega
              go_upto_if 198 with (go_at_call 118; refine ((HK1 _).out).mono ?_; rintro e w' ⟨rfl, rfl⟩)
              (
               go_wp2_with (refine so_ (g := g2) (cs := Z26) Z26 ⟨(by (repeat (first | (with_reducible exact Aside0.out BK2) | (with_reducible refine jB ?_ _) | (with_reducible refine zV ?_) | (with_reducible refine jA ?_ _) | refine zR ?_ (Aside0.out NB) _)))⟩ ?_ rfl rfl rfl rfl rfl (by kernel_rfl) rfl rfl; intro w9 hbk hfar hbel; replace BK2 := K_ hbk; replace HB := K_ (hbel _ _ GE2.out (BL HB)); clear hbk hfar hbel)
               refine bodyPost_ret (jF rfl _ _ g2 26 jO.cs (0, 0) _ rfl (BP BK2) Tryz.underlying26 rfl (by kernel_rfl)) rfl ?_
               exact ⟨jO, 6, rfl, BL HB, .inr ⟨by decide, HE.out⟩⟩)
             have e1 : decide (((jN 48 pl.data.toList : Nat) : Int) > 0) = false := decide_eq_false (by omega)
             have e2 : decide (0 < jN 48 pl.data.toList) = false := decide_eq_false h2
             have e3 : jN 48 pl.data.toList = 0 := by omega
             have HR : ∀ W, Aside0 (Calls Tryz.prog 119 #[.string pl, .int .u8 35, .int .u8 64, .int .u8 35] W fun e w' => e = .returned (.bool (uM [35, 64, 35] pl.data.toList)) ∧ Below W.heap.size W w') := fun W => ⟨zeb pl 35 64 35 (by omega) W⟩
             have HN4 := K_ (show vD s = if uM [35, 64, 35] pl.data.toList = false then none else zaO sc sz pl { P2 with ms := (jN 64 pl.data.toList : Nat), xs := (pl.size : Int) - (xA pl.data.toList : Nat) } by
              rw [HN3.out, if_neg]; rintro (h | h); (rw [hp] at h; cases h); exact h2 h)
             clear HN3
             cases hr : uM [35, 64, 35] pl.data.toList
             ·have HE := K_ (show vD s = none by rw [HN4.out, if_pos hr])
              rw [hr] at HR
              go_upto_if 202 with (first | (go_at_call 118; refine ((HK1 _).out).mono ?_; rintro e w' ⟨rfl, rfl⟩) | (go_at_call 119; refine ((HR _).out).mono ?_; rintro e w' ⟨rfl, hb⟩; replace HB := zE HB hb; replace BK2 := zC BK2 hb; clear hb))
              (
               go_wp2_with (refine so_ (g := g2) (cs := Z26) Z26 ⟨(by (repeat (first | (with_reducible exact Aside0.out BK2) | (with_reducible refine jB ?_ _) | (with_reducible refine zV ?_) | (with_reducible refine jA ?_ _) | refine zR ?_ (Aside0.out NB) _)))⟩ ?_ rfl rfl rfl rfl rfl (by kernel_rfl) rfl rfl; intro w9 hbk hfar hbel; replace BK2 := K_ hbk; replace HB := K_ (hbel _ _ GE2.out (BL HB)); clear hbk hfar hbel)
               refine bodyPost_ret (jF rfl _ _ g2 26 jO.cs (0, 0) _ rfl (BP BK2) Tryz.underlying26 rfl (by kernel_rfl)) rfl ?_
               exact ⟨jO, 4, rfl, BL HB, .inr ⟨by decide, HE.out⟩⟩)
             have HN5 := K_ (show vD s = zaO sc sz pl { P2 with ms := (jN 64 pl.data.toList : Nat), xs := (pl.size : Int) - (xA pl.data.toList : Nat) } by rw [HN4.out, hr]; rfl)
             clear HN4
             rw [hr] at HR
             go_upto_region 51 with (first | (go_at_call 118; refine ((HK1 _).out).mono ?_; rintro e w' ⟨rfl, rfl⟩) | (go_at_call 119; refine ((HR _).out).mono ?_; rintro e w' ⟨rfl, hb⟩; replace HZ := K_ (Kd.R_below (RB HZ.out) hb); replace HB := zE HB hb; replace BK2 := zC BK2 hb; replace BK4 := zC BK4 hb; clear hb))
             clear HR HK1 e1 e2 e3 d1 d2 d3
             have HK1 := fun W => K_ (zaH pl 64 (by omega) W)
             have HZ4 := K_ (Kd.R_types HZ.out BK4.out (by decide))
             obtain ⟨⟨cz0, cz1, cz2, cz3, cz4, cz5, cz6, cz7, cz8, cz9, cz10, cz11, cz12, cz13, cz14, cz15, cz16, cz17, cz18, cz19⟩, fz0, fz1, fz2, fz3, fz4, fz5, fz6, fz7, fz8, fz9, fz10, fz11, fz12, fz13, fz14, fz15, fz16, fz17, fz18, fz19⟩ := zeo BK4
             obtain ⟨P3, hP3⟩ : ∃ P3 : yK, P3 = { P2 with ms := (jN 64 pl.data.toList : Nat) } := ⟨_, rfl⟩
             have HN6 := K_ (show vD s = zaO sc sz pl { P3 with xs := (pl.size : Int) - (xA pl.data.toList : Nat) } by rw [HN5.out, hP3])
             clear HN5
             go_wp2_with (go_at_call 118; refine ((HK1 _).out).mono ?_; rintro e w' ⟨rfl, rfl⟩)
             go_loopw [] (fun wr => ∃ k : Nat, k ≤ xA pl.data.toList ∧ (Kd.int .i64).R 3 wr w.heap.size (fun _ => True) (.slice A4 sz.length c4) sz ∧ wr.heap[g2]? = some (.cells Z26 26 (0, 0)) ∧ wr.heap[g4]? = some (.cells ({ P3 with xs := (pl.size : Int) - (k : Int) } : yK).cs 26 (0, 0)) ∧ Below w.heap.size w wr) (fun wr => (intOf ((wr.cell? ⟨g4, 10, none⟩).getD (.bool false))).toNat)
             case atStart => exact ⟨0, by omega, (by refine Kd.R_mono (ok := fun k => True ∧ k ≠ g4) ?_ (fun _ hk => hk.1); (repeat (first | (with_reducible exact Aside0.out HZ4) | (with_reducible refine Kd.R_drewN ?_ _) | (with_reducible refine Kd.R_drew ?_) | refine Kd.R_far ?_ (fun _ hk => hk.2) _))), (by (repeat (first | (with_reducible exact Aside0.out BK2) | (with_reducible refine jB ?_ _) | (with_reducible refine zV ?_) | (with_reducible refine jA ?_ _) | refine zR ?_ (Aside0.out NB) _))), by rw [hP3, show ((pl.size : Int) - ((0 : Nat) : Int)) = (pl.size : Int) by omega]; exact BP BK4, BL HB⟩
             case round =>
              obtain ⟨k, hk, hz, hb2, hb4, hbw⟩ := hrel
              have HZL := K_ hz
              have BK2L := K_ hb2
              have BK4L := K_ hb4
              have HBL := K_ hbw
              clear hz hb2 hb4 hbw
              have hpz := HPL.out
              have hll := HLL.out
              have HZ4L := K_ (Kd.R_types HZL.out BK4L.out (by decide))
              have hwk : IntKind.i64.wrap ((pl.size : Int) - ((pl.size : Int) - (k : Int))) = (k : Int) := by rw [IntKind.wrap_i64]; omega
              have hkp : k < pl.size := by omega
              have hwn : IntKind.i64.wrap ((pl.size : Int) - (k : Int) - 1) = (pl.size : Int) - ((k + 1 : Nat) : Int) := by rw [IntKind.wrap_i64]; omega
              have e35 : (((pl[k].toNat : Nat) : Int) == 35) = (pl[k] == 35) := zbj pl[k] 35
              have hm := K_ (show (wr.cell? ⟨g4, 10, none⟩) = some (.int .i64 ((pl.size : Int) - (k : Int))) from (zD BK4L.out 10).trans rfl)
              obtain ⟨⟨cz0, cz1, cz2, cz3, cz4, cz5, cz6, cz7, cz8, cz9, cz10, cz11, cz12, cz13, cz14, cz15, cz16, cz17, cz18, cz19⟩, fz0, fz1, fz2, fz3, fz4, fz5, fz6, fz7, fz8, fz9, fz10, fz11, fz12, fz13, fz14, fz15, fz16, fz17, fz18, fz19⟩ := zeo BK4L
              cases hc : (pl[k] == 35)
              ·rw [hc] at e35
               have hkk : k = xA pl.data.toList := by
                apply Decidable.byContradiction; intro h
                have := zmy pl.data.toList k (by omega) (by rw [← zW]; exact hkp)
                rw [show pl.data.toList[k]'(by rw [← zW]; exact hkp) = pl[k] from rfl] at this
                rw [this] at hc; cases hc
               have HKK := K_ hkk
               clear hc hkk
               go_wp2
               go_meet
               case rel => exact ⟨rfl, by rw [hp], { P3 with xs := (pl.size : Int) - (xA pl.data.toList : Nat) }, HN6.out, fun _ => by omega, HZL.out, BK BK2L, by rw [← HKK.out]; exact BK BK4L, BL HBL⟩
              rw [hc] at e35
              have hkk : k < xA pl.data.toList := by
               apply Decidable.byContradiction; intro h
               have hke : k = xA pl.data.toList := by omega
               subst hke
               exact zjW pl.data.toList (by rw [← zW]; exact hkp) (eq_of_beq hc)
              have HKK := K_ hkk
              clear hc hkk
              go_wp2
              go_roundw
              case rel => exact ⟨k + 1, HKK.out, (by refine Kd.R_mono (ok := fun k => True ∧ k ≠ g4) ?_ (fun _ hk => hk.1); (repeat (first | (with_reducible exact Aside0.out HZ4L) | (with_reducible refine Kd.R_drewN ?_ _) | (with_reducible refine Kd.R_drew ?_) | refine Kd.R_far ?_ (fun _ hk => hk.2) _))), (by (repeat (first | (with_reducible exact Aside0.out BK2L) | (with_reducible refine jB ?_ _) | (with_reducible refine zV ?_) | (with_reducible refine jA ?_ _) | refine zR ?_ (Aside0.out NB) _))), BP BK4L, BL HBL⟩
              case measure =>
               have hm2 : (wr.setCell ⟨g4, 10, none⟩ (Value.int IntKind.i64 ((pl.size : Int) - ((k : Int) + 1)))).cell? ⟨g4, 10, none⟩ = some (.int .i64 ((pl.size : Int) - ((k : Int) + 1))) := (zD (t := 26) (cs := ({ P3 with xs := (pl.size : Int) - ((k + 1 : Nat) : Int) } : yK).cs) (BP BK4L) 10).trans rfl
               rw [hm2, hm.out]; simp [intOf]; omega
            have HE := K_ (show vD s = none by rw [HN3.out, if_pos (.inl hp)])
            go_upto_if 198 with (fail)
            (
             go_wp2_with (refine so_ (g := g2) (cs := Z26) Z26 ⟨(by (repeat (first | (with_reducible exact Aside0.out BK2) | (with_reducible refine jB ?_ _) | (with_reducible refine zV ?_) | (with_reducible refine jA ?_ _) | refine zR ?_ (Aside0.out NB) _)))⟩ ?_ rfl rfl rfl rfl rfl (by kernel_rfl) rfl rfl; intro w9 hbk hfar hbel; replace BK2 := K_ hbk; replace HB := K_ (hbel _ _ GE2.out (BL HB)); clear hbk hfar hbel)
             refine bodyPost_ret (jF rfl _ _ g2 26 jO.cs (0, 0) _ rfl (BP BK2) Tryz.underlying26 rfl (by kernel_rfl)) rfl ?_
             exact ⟨jO, 6, rfl, BL HB, .inr ⟨by decide, HE.out⟩⟩)
           have d1 : decide (((jN 64 al.data.toList : Nat) : Int) > 0) = false := decide_eq_false (by omega)
           have d2 : decide (0 < jN 64 al.data.toList) = false := decide_eq_false h1
           have d3 : jN 64 al.data.toList = 0 := by omega
           have hals := HAS.out
           have HN3 := K_ (show vD s = if uM [35, 48, 48] pl.data.toList = false ∨ uM [48, 35, 35] fr.data.toList = false then none
            else if (vS (qI 35 al.data.toList)).size ≠ 0 ∧ ((jN 48 fr.data.toList : Int) < (fr.size : Int) ∨ sc = true) then none
            else zaO sc sz pl { P2 with mi := (jN 48 pl.data.toList : Nat), mf := (jN 48 fr.data.toList : Nat), xf := (fr.size : Int), inc := vS (qI 35 al.data.toList), xi := if sc = true then (pl.size : Int) else P2.xi } by rw [HN2.out, if_neg (by omega), if_neg h1])
           clear HN2 HK
           have HR1 : ∀ W, Aside0 (Calls Tryz.prog 119 #[.string pl, .int .u8 35, .int .u8 48, .int .u8 48] W fun e w' => e = .returned (.bool (uM [35, 48, 48] pl.data.toList)) ∧ Below W.heap.size W w') := fun W => ⟨zeb pl 35 48 48 (by omega) W⟩
           have HR2 : ∀ W, Aside0 (Calls Tryz.prog 119 #[.string fr, .int .u8 48, .int .u8 35, .int .u8 35] W fun e w' => e = .returned (.bool (uM [48, 35, 35] fr.data.toList)) ∧ Below W.heap.size W w') := fun W => ⟨zeb fr 48 35 35 (by omega) W⟩
           cases hr : uM [35, 48, 48] pl.data.toList
           ·have HE := K_ (show vD s = none by rw [HN3.out, if_pos (.inl hr)])
            rw [hr] at HR1
            go_upto_if 229 with (go_at_call 119; refine ((HR1 _).out).mono ?_; rintro e w' ⟨rfl, hb⟩; replace HB := zE HB hb; replace BK2 := zC BK2 hb; clear hb)
            (
             go_wp2_with (refine so_ (g := g2) (cs := Z26) Z26 ⟨(by (repeat (first | (with_reducible exact Aside0.out BK2) | (with_reducible refine jB ?_ _) | (with_reducible refine zV ?_) | (with_reducible refine jA ?_ _) | refine zR ?_ (Aside0.out NB) _)))⟩ ?_ rfl rfl rfl rfl rfl (by kernel_rfl) rfl rfl; intro w9 hbk hfar hbel; replace BK2 := K_ hbk; replace HB := K_ (hbel _ _ GE2.out (BL HB)); clear hbk hfar hbel)
             refine bodyPost_ret (jF rfl _ _ g2 26 jO.cs (0, 0) _ rfl (BP BK2) Tryz.underlying26 rfl (by kernel_rfl)) rfl ?_
             exact ⟨jO, 4, rfl, BL HB, .inr ⟨by decide, HE.out⟩⟩)
           rw [hr] at HR1
           cases hr2 : uM [48, 35, 35] fr.data.toList
           ·have HE := K_ (show vD s = none by rw [HN3.out, if_pos (.inr hr2)])
            rw [hr2] at HR2
            go_upto_if 229 with (first | (go_at_call 119; (with_reducible refine ((HR1 _).out).mono ?_); rintro e w' ⟨rfl, hb⟩; replace HB := zE HB hb; replace BK2 := zC BK2 hb; clear hb) | (go_at_call 119; refine ((HR2 _).out).mono ?_; rintro e w' ⟨rfl, hb⟩; replace HB := zE HB hb; replace BK2 := zC BK2 hb; clear hb))
            (
             go_wp2_with (refine so_ (g := g2) (cs := Z26) Z26 ⟨(by (repeat (first | (with_reducible exact Aside0.out BK2) | (with_reducible refine jB ?_ _) | (with_reducible refine zV ?_) | (with_reducible refine jA ?_ _) | refine zR ?_ (Aside0.out NB) _)))⟩ ?_ rfl rfl rfl rfl rfl (by kernel_rfl) rfl rfl; intro w9 hbk hfar hbel; replace BK2 := K_ hbk; replace HB := K_ (hbel _ _ GE2.out (BL HB)); clear hbk hfar hbel)
             refine bodyPost_ret (jF rfl _ _ g2 26 jO.cs (0, 0) _ rfl (BP BK2) Tryz.underlying26 rfl (by kernel_rfl)) rfl ?_
             exact ⟨jO, 4, rfl, BL HB, .inr ⟨by decide, HE.out⟩⟩)
           have HN4 := K_ (show vD s = if (vS (qI 35 al.data.toList)).size ≠ 0 ∧ ((jN 48 fr.data.toList : Int) < (fr.size : Int) ∨ sc = true) then none
            else zaO sc sz pl { P2 with mi := (jN 48 pl.data.toList : Nat), mf := (jN 48 fr.data.toList : Nat), xf := (fr.size : Int), inc := vS (qI 35 al.data.toList), xi := if sc = true then (pl.size : Int) else P2.xi } by
            rw [HN3.out, if_neg]; rintro (h | h)
            ·rw [hr] at h; cases h
            rw [hr2] at h; cases h)
           clear HN3
           rw [hr2] at HR2
           go_upto_region 57 with (first | (go_at_call 119; (with_reducible refine ((HR1 _).out).mono ?_); rintro e w' ⟨rfl, hb⟩; replace HZ := K_ (Kd.R_below (RB HZ.out) hb); replace HB := zE HB hb; replace BK2 := zC BK2 hb; replace BK4 := zC BK4 hb; clear hb) | (go_at_call 119; refine ((HR2 _).out).mono ?_; rintro e w' ⟨rfl, hb⟩; replace HZ := K_ (Kd.R_below (RB HZ.out) hb); replace HB := zE HB hb; replace BK2 := zC BK2 hb; replace BK4 := zC BK4 hb; clear hb))
           clear HR1 HR2 d1 d2 d3 hr hr2
           have HK1 : ∀ W, Aside0 (Calls Tryz.prog 118 #[.string pl, .int .u8 48] W fun e w' => e = .returned (.int .i64 (jN 48 pl.data.toList : Nat)) ∧ w' = W) := fun W => ⟨zaH pl 48 (by omega) W⟩
           have HK2 : ∀ W, Aside0 (Calls Tryz.prog 118 #[.string fr, .int .u8 48] W fun e w' => e = .returned (.int .i64 (jN 48 fr.data.toList : Nat)) ∧ w' = W) := fun W => ⟨zaH fr 48 (by omega) W⟩
           have HZ4 := K_ (Kd.R_types HZ.out BK4.out (by decide))
           obtain ⟨⟨cz0, cz1, cz2, cz3, cz4, cz5, cz6, cz7, cz8, cz9, cz10, cz11, cz12, cz13, cz14, cz15, cz16, cz17, cz18, cz19⟩, fz0, fz1, fz2, fz3, fz4, fz5, fz6, fz7, fz8, fz9, fz10, fz11, fz12, fz13, fz14, fz15, fz16, fz17, fz18, fz19⟩ := zeo BK4
           go_upto_region 58 with (first | (go_at_call 118; (with_reducible refine ((HK1 _).out).mono ?_); rintro e w' ⟨rfl, rfl⟩) | (go_at_call 118; refine ((HK2 _).out).mono ?_; rintro e w' ⟨rfl, rfl⟩))
           go_wp2_with (fail)
           go_loop [19, 20] (fun vd vi => ∃ k : Nat, k ≤ al.size ∧ vd = .string (qI 35 (al.data.toList.take k)) ∧ vi = .int .i64 k) (fun _ vi => al.size - (intOf vi).toNat)
           case atStart => exact ⟨0, by omega, rfl, rfl⟩
           case round =>
            obtain ⟨k, hk, rfl, rfl⟩ := hrel
            have hals := HAS.out
            by_cases hlt : k < al.size
            ·have hfl := zdG 35 (al.data.toList.take k)
             rw [List.length_take] at hfl
             have e35 : (((al[k].toNat : Nat) : Int) != 35) = !(al[k] == 35) := congrArg (! ·) (zbj al[k] 35)
             have hwk : IntKind.i64.wrap ((k : Int) + 1) = (k : Int) + 1 := by rw [IntKind.wrap_i64]; omega
             cases hc : (al[k] == 35)
             ·rw [hc] at e35
              have HF := K_ (zhz (l := al.data.toList) (k := k) 35 (by rw [← zW]; exact hlt) (beq_eq_false_iff_ne.1 hc))
              have hle1 : (k : Int) ≤ (k : Int) + 1 := by omega
              have hle2 : (k : Int) + 1 ≤ (al.size : Int) := by omega
              have h01 : (0 : Int) ≤ (k : Int) + 1 := by omega
              have hle3 : k + 1 ≤ al.size := hlt
              have hn1 : ((k : Int) + 1).toNat = k + 1 := by omega
              have hfb : ¬ 9223372036854775807 < (qI 35 (List.take k al.data.toList)).size + 1 := by omega
              clear hc
              go_wp2
              go_round
              case rel => exact ⟨k + 1, by omega, by rw [HF.out, zeV hlt]; rfl, by go_num⟩
              case measure => simp [intOf]; omega
             rw [hc] at e35
             have HF := K_ (zhf (l := al.data.toList) (k := k) 35 (by rw [← zW]; exact hlt) (eq_of_beq hc))
             clear hc
             go_wp2
             go_round
             case rel => exact ⟨k + 1, by omega, by rw [HF.out], by go_num⟩
             case measure => simp [intOf]; omega
            obtain rfl : k = al.size := by omega
            have eW : al.data.toList.take al.size = al.data.toList := List.take_of_length_le (by rw [← zW]; exact Nat.le_refl _)
            obtain ⟨D, hD⟩ : ∃ D, D = qI 35 al.data.toList := ⟨_, rfl⟩
            have hds : D.size ≤ 2097152 := by
             have := zdG 35 al.data.toList
             rw [← zW] at this; rw [hD]; omega
            rw [eW, ← hD]
            rw [← hD] at HN4
            have HL := fun W => K_ (zeG D (by omega) W)
            clear hD eW hds
            go_upto_region 65 with (go_at_call 117; refine ((HL _).out).mono ?_; rintro e w' ⟨rfl, ⟨nd, rfl⟩⟩)
            obtain ⟨D2, hD2⟩ : ∃ D2, D2 = vS D := ⟨_, rfl⟩
            rw [← hD2] at HN4 ⊢
            clear hD2 HL
            obtain ⟨P4, hP4⟩ : ∃ P4 : yK, P4 = { P2 with mi := (jN 48 pl.data.toList : Nat), mf := (jN 48 fr.data.toList : Nat), xf := (fr.size : Int), inc := D2 } := ⟨_, rfl⟩
            have HM4 := K_ (show P4.ms = 0 by rw [hP4]; exact HMS2.out)
            have HF4 := K_ (show P4.mf = (jN 48 fr.data.toList : Nat) ∧ P4.xf = (fr.size : Int) ∧ P4.inc = D2 by rw [hP4]; exact ⟨rfl, rfl, rfl⟩)
            replace HN4 := K_ (show vD s = if D2.size ≠ 0 ∧ ((jN 48 fr.data.toList : Int) < (fr.size : Int) ∨ sc = true) then none else zaO sc sz pl { P4 with xi := if sc = true then (pl.size : Int) else P4.xi } by rw [HN4.out, hP4])
            refine zbp (fun wx => (Kd.int .i64).R 3 wx w.heap.size (fun _ => True) (.slice A4 sz.length c4) sz ∧ wx.heap[g2]? = some (.cells Z26 26 (0, 0)) ∧ wx.heap[g4]? = some (.cells P4.cs 26 (0, 0)) ∧ Below w.heap.size w wx) ⟨(by refine Kd.R_mono (ok := fun k => True ∧ k ≠ g4) ?_ (fun _ hk => hk.1); (repeat (first | (with_reducible exact Aside0.out HZ4) | (with_reducible refine Kd.R_drewN ?_ _) | (with_reducible refine Kd.R_drew ?_) | refine Kd.R_far ?_ (fun _ hk => hk.2) _))), (by (repeat (first | (with_reducible exact Aside0.out BK2) | (with_reducible refine jB ?_ _) | (with_reducible refine zV ?_) | (with_reducible refine jA ?_ _) | refine zR ?_ (Aside0.out NB) _))), by rw [hP4]; exact BP BK4, BL HB⟩ ?_
            rintro w6 ⟨hz, hb2, hb4, hbw⟩
            replace HZ := K_ hz
            replace BK2 := K_ hb2
            replace BK4 := K_ hb4
            replace HB := K_ hbw
            clear hz hb2 hb4 hbw hP4
            replace HZ4 := K_ (Kd.R_types HZ.out BK4.out (by decide))
            have eI := (zD BK4.out 13).trans (show _ = some (Value.string P4.inc) from rfl)
            have eF := (zD BK4.out 7).trans (show _ = some (Value.int .i64 P4.mf) from rfl)
            have eX := (zD BK4.out 8).trans (show _ = some (Value.int .i64 P4.xf) from rfl)
            have e6 := (zD BK4.out 6).trans (show _ = some (Value.int .i64 P4.xi) from rfl)
            have eZ := zK BK4.out 6
            rw [HF4.out.2.2] at eI
            rw [HF4.out.1] at eF
            rw [HF4.out.2.1] at eX
            by_cases q1 : 0 < D2.size
            ·have qe := zcj q1
             by_cases q2 : ((jN 48 fr.data.toList : Nat) : Int) < (fr.size : Int)
             ·have HE := K_ (show vD s = none by rw [HN4.out, if_pos ⟨by omega, .inl q2⟩])
              have dq := decide_eq_true q2
              go_upto_if 272 with (fail)
              (
               go_wp2_with (refine so_ (g := g2) (cs := Z26) Z26 ⟨(by (repeat (first | (with_reducible exact Aside0.out BK2) | (with_reducible refine jB ?_ _) | (with_reducible refine zV ?_) | (with_reducible refine jA ?_ _) | refine zR ?_ (Aside0.out NB) _)))⟩ ?_ rfl rfl rfl rfl rfl (by kernel_rfl) rfl rfl; intro w9 hbk hfar hbel; replace BK2 := K_ hbk; replace HB := K_ (hbel _ _ GE2.out (BL HB)); clear hbk hfar hbel)
               refine bodyPost_ret (jF rfl _ _ g2 26 jO.cs (0, 0) _ rfl (BP BK2) Tryz.underlying26 rfl (by kernel_rfl)) rfl ?_
               exact ⟨jO, 6, rfl, BL HB, .inr ⟨by decide, HE.out⟩⟩)
             have dq := decide_eq_false q2
             cases hs : sc
             ·have HN5 := K_ (show vD s = zaO sc sz pl P4 by
               rw [HN4.out, if_neg, hs]
               ·rfl
               rintro ⟨_, h | h⟩
               ·exact q2 h
               rw [hs] at h; cases h)
              go_wp2
              go_meet
              case rel => exact ⟨by rw [hs], rfl, _, HN5.out, fun h => by rw [HM4.out] at h; omega, HZ.out, BK BK2, BK BK4, BL HB⟩
             have HE := K_ (show vD s = none by rw [HN4.out, if_pos ⟨by omega, .inr hs⟩])
             go_upto_if 272 with (fail)
             (
              go_wp2_with (refine so_ (g := g2) (cs := Z26) Z26 ⟨(by (repeat (first | (with_reducible exact Aside0.out BK2) | (with_reducible refine jB ?_ _) | (with_reducible refine zV ?_) | (with_reducible refine jA ?_ _) | refine zR ?_ (Aside0.out NB) _)))⟩ ?_ rfl rfl rfl rfl rfl (by kernel_rfl) rfl rfl; intro w9 hbk hfar hbel; replace BK2 := K_ hbk; replace HB := K_ (hbel _ _ GE2.out (BL HB)); clear hbk hfar hbel)
              refine bodyPost_ret (jF rfl _ _ g2 26 jO.cs (0, 0) _ rfl (BP BK2) Tryz.underlying26 rfl (by kernel_rfl)) rfl ?_
              exact ⟨jO, 6, rfl, BL HB, .inr ⟨by decide, HE.out⟩⟩)
            have qe := zet q1
            have HN5 := K_ (show vD s = zaO sc sz pl { P4 with xi := if sc = true then (pl.size : Int) else P4.xi } by
             rw [HN4.out, if_neg]; rintro ⟨h, _⟩; exact h (by omega))
            cases hs : sc
            ·have HN6 := K_ (show vD s = zaO sc sz pl P4 by rw [HN5.out, hs]; rfl)
             go_wp2
             go_meet
             case rel => exact ⟨by rw [hs], rfl, _, HN6.out, fun h => by rw [HM4.out] at h; omega, HZ.out, BK BK2, BK BK4, BL HB⟩
            have HN6 := K_ (show vD s = zaO sc sz pl { P4 with xi := (pl.size : Int) } by rw [HN5.out, hs]; rfl)
            go_wp2
            go_meet
            case rel => exact ⟨by rw [hs], rfl, _, HN6.out, fun h => by rw [show ({ P4 with xi := (pl.size : Int) } : yK).ms = P4.ms from rfl, HM4.out] at h; omega, (by refine Kd.R_mono (ok := fun k => True ∧ k ≠ g4) ?_ (fun _ hk => hk.1); (repeat (first | (with_reducible exact Aside0.out HZ4) | (with_reducible refine Kd.R_drewN ?_ _) | (with_reducible refine Kd.R_drew ?_) | refine Kd.R_far ?_ (fun _ hk => hk.2) _))), (by (repeat (first | (with_reducible exact Aside0.out BK2) | (with_reducible refine jB ?_ _) | (with_reducible refine zV ?_) | (with_reducible refine jA ?_ _) | refine zR ?_ (Aside0.out NB) _))), BP BK4, BL HB⟩
          case rest =>
           obtain ⟨rfl, rfl, P6, he, hms, hz, hb2, hb4, hbw⟩ := hcut
           replace HZ := K_ hz
           replace BK2 := K_ hb2
           replace BK4 := K_ hb4
           replace HB := K_ hbw
           have HN := K_ he
           have HM := K_ hms
           clear he hms hz hb2 hb4 hbw HN2 HK HAL HPF hle h0
           have hszl := HSL.out
           obtain ⟨tst, htst⟩ : ∃ tst : Bool, tst = (sc && (decide (1 < sz.length) || (decide (0 < P6.ms) && (pl.data.toList.headD 0 == 35)))) := ⟨_, rfl⟩
           have HT := K_ htst
           have e9 := (zD BK4.out 9).trans (show _ = some (Value.int .i64 P6.ms) from rfl)
           clear htst
           go_upto_region 69 with (fail)
           go_cut [7, 293] from 278 to 293 (fun v c wx => v = .bool sc ∧ c = .bool tst ∧ wx = wc)
           case first =>
            cases hs : sc
            ·go_wp2
             go_meet
             case rel => exact ⟨by rw [hs], by rw [HT.out, hs]; rfl, rfl⟩
            by_cases h1 : sz.length > 1
            ·have d1 : decide ((sz.length : Int) > 1) = true := decide_eq_true (by omega)
             have d2 : decide (1 < sz.length) = true := decide_eq_true h1
             have D := K_ d2
             go_wp2
             go_meet
             case rel => exact ⟨by rw [hs], by rw [HT.out, hs, D.out]; rfl, rfl⟩
            have d1 : decide ((sz.length : Int) > 1) = false := decide_eq_false (by omega)
            have d2 : decide (1 < sz.length) = false := decide_eq_false h1
            have D := K_ d2
            by_cases h2 : P6.ms > 0
            ·have d3 : decide (P6.ms > 0) = true := decide_eq_true h2
             have D3 := K_ (show decide (0 < P6.ms) = true from d3)
             have hp0 := HM.out h2
             have e35 : (((pl[0].toNat : Nat) : Int) == 35) = (pl.data.toList.headD 0 == 35) := by rw [ziI hp0]; exact zbj pl[0] 35
             go_wp2
             go_meet
             case rel => exact ⟨by rw [hs], by rw [HT.out, hs, D.out, D3.out, List.headD_eq_head?_getD]; rfl, rfl⟩
            have d3 : decide (P6.ms > 0) = false := decide_eq_false h2
            have D3 := K_ (show decide (0 < P6.ms) = false from d3)
            go_wp2
            go_meet
            case rel => exact ⟨by rw [hs], by rw [HT.out, hs, D.out, D3.out]; rfl, rfl⟩
           case rest =>
            obtain ⟨rfl, rfl, rfl⟩ := hcut
            cases ht : tst
            ·have HN3 := K_ (show vD s = zdp P6 by
              rw [HN.out]; unfold zaO; rw [if_neg]; rintro ⟨q1, q2⟩
              have := HT.out
              rw [ht, q1] at this
              rcases q2 with q2 | ⟨q2, q3⟩
              ·rw [decide_eq_true q2] at this; cases this
              rw [decide_eq_true (show 0 < P6.ms from q2), q3, Bool.or_comm] at this; cases this)
             clear HN HT HM ht e9
             obtain ⟨⟨cz0, cz1, cz2, cz3, cz4, cz5, cz6, cz7, cz8, cz9, cz10, cz11, cz12, cz13, cz14, cz15, cz16, cz17, cz18, cz19⟩, fz0, fz1, fz2, fz3, fz4, fz5, fz6, fz7, fz8, fz9, fz10, fz11, fz12, fz13, fz14, fz15, fz16, fz17, fz18, fz19⟩ := zeo BK4
             go_upto_region 71 with (fail)
             go_wp2_with (fail)
             obtain ⟨g7, hg7⟩ : ∃ g7, g7 = wc.heap.size := ⟨_, rfl⟩
             rw [← hg7]
             obtain ⟨ad7, had⟩ : ∃ ad7 : Addr, ad7 = ⟨g7, 0, none⟩ := ⟨_, rfl⟩
             rw [← had]
             refine zbp (fun wx => wx.heap[g7]? = some (.cells #[.int .i64 P6.mi, .int .i64 P6.xi, .int .i64 P6.xf, .int .i64 P6.xs, .int .i64 P6.pr, .int .i64 P6.se, .int .i64 (P6.inc.size : Int)] 3 (0, 0)) ∧ wx.heap[g2]? = some (.cells Z26 26 (0, 0)) ∧ wx.heap[g4]? = some (.cells P6.cs 26 (0, 0)) ∧ Below w.heap.size w wx) ⟨by rw [hg7]; exact zbZ _ _, BK BK2, BK BK4, BL HB⟩ ?_
             rintro w7 ⟨h7, hb2, hb4, hbw⟩
             replace BK2 := K_ hb2
             replace BK4 := K_ hb4
             replace HB := K_ hbw
             have HC7 := K_ (show ∀ k, (h : k < (zaG P6).length) → w7.cell? (ad7.add k) = some (.int .i64 ((zaG P6)[k]'h)) by
              intro k h
              rw [show ad7.add k = ⟨g7, k, none⟩ by rw [had]; simp [Addr.add] <;> omega, zD h7 k]
              rw [zgv] at h
              match k, h with
              | 0, _ => rfl
              | 1, _ => rfl
              | 2, _ => rfl
              | 3, _ => rfl
              | 4, _ => rfl
              | 5, _ => rfl
              | 6, _ => rfl)
             clear h7 hb2 hb4 hbw had hg7
             go_loop [312] (fun v => ∃ k : Nat, k ≤ 7 ∧ v = .int .i64 k ∧ ∀ x ∈ (zaG P6).take k, x ≤ 40) (fun v => 7 - (intOf v).toNat)
             case atStart => exact ⟨0, by omega, rfl, fun x hx => by simp at hx⟩
             case round =>
              obtain ⟨k, hk, rfl, hz⟩ := hrel
              have HK := K_ hz
              clear hz
              by_cases hlt : k < 7
              ·have dlt : decide ((k : Int) < 7) = true := decide_eq_true (by omega)
               have hlt2 : k < (zaG P6).length := hlt
               obtain ⟨x0, hx0⟩ : ∃ x0, x0 = (zaG P6)[k] := ⟨_, rfl⟩
               have hcell := HC7.out k hlt2
               rw [← hx0] at hcell
               have HX0 := K_ hx0
               clear hx0
               by_cases hq : x0 > 40
               ·have HE := K_ (show vD s = none by rw [HN3.out]; exact zli P6 (by rw [HX0.out]; exact List.getElem_mem hlt2) hq)
                have dq : decide (x0 > 40) = true := decide_eq_true hq
                go_upto_if 317 with (fail)
                (
                 go_wp2_with (refine so_ (g := g2) (cs := Z26) Z26 ⟨(by (repeat (first | (with_reducible exact Aside0.out BK2) | (with_reducible refine jB ?_ _) | (with_reducible refine zV ?_) | (with_reducible refine jA ?_ _) | refine zR ?_ (Aside0.out NB) _)))⟩ ?_ rfl rfl rfl rfl rfl (by kernel_rfl) rfl rfl; intro w9 hbk hfar hbel; replace BK2 := K_ hbk; replace HB := K_ (hbel _ _ GE2.out (BL HB)); clear hbk hfar hbel)
                 refine bodyPost_ret (jF rfl _ _ g2 26 jO.cs (0, 0) _ rfl (BP BK2) Tryz.underlying26 rfl (by kernel_rfl)) rfl ?_
                 exact ⟨jO, 8, rfl, BL HB, .inr ⟨by decide, HE.out⟩⟩)
               have dq : decide (x0 > 40) = false := decide_eq_false hq
               have HKK := K_ (show ∀ x ∈ (zaG P6).take (k + 1), x ≤ 40 by
                intro x hx
                rw [List.take_succ_eq_append_getElem hlt2, List.mem_append, List.mem_singleton] at hx
                rcases hx with hx | rfl
                ·exact HK.out x hx
                rw [← HX0.out]; omega)
               go_wp2
               go_round
               case rel => exact ⟨k + 1, by omega, by go_num, HKK.out⟩
               case measure => simp [intOf]; omega
              obtain rfl : k = 7 := by omega
              have HE := K_ (show vD s = some P6 by rw [HN3.out]; exact zlz P6 (by have := HK.out; rwa [List.take_of_length_le (by rw [zgv]; exact Nat.le_refl _)] at this))
              have dlt : decide (((7 : Nat) : Int) < 7) = false := rfl
              go_wp2_with (first | (refine lo_ (g := g4) (cs := P6.cs) _ BK4 ?_ rfl rfl rfl Tryz.underlying26 rfl (by kernel_rfl)) | (refine so_ (g := g2) (cs := Z26) P6.cs BK2 ?_ rfl rfl rfl rfl rfl rfl rfl rfl; intro w9 hbk hfar hbel; replace BK2 := K_ hbk; replace HB := K_ (hbel _ _ GE2.out (BL HB)); clear hbk hfar hbel))
              refine bodyPost_ret (jF rfl _ _ g2 26 P6.cs (0, 0) _ rfl BK2.out Tryz.underlying26 rfl rfl) rfl ?_
              exact ⟨P6, 0, rfl, BL HB, .inl ⟨rfl, HE.out⟩⟩
            have HE := K_ (show vD s = none by
             rw [HN.out]; unfold zaO; rw [if_pos]
             have := HT.out
             rw [ht] at this
             have q := this.symm
             rw [Bool.and_eq_true, Bool.or_eq_true, Bool.and_eq_true] at q
             exact ⟨q.1, q.2.imp (fun h => of_decide_eq_true h) (fun h => ⟨of_decide_eq_true h.1, eq_of_beq h.2⟩)⟩)
            go_upto_if 293 with (fail)
            (
             go_wp2_with (refine so_ (g := g2) (cs := Z26) Z26 ⟨(by (repeat (first | (with_reducible exact Aside0.out BK2) | (with_reducible refine jB ?_ _) | (with_reducible refine zV ?_) | (with_reducible refine jA ?_ _) | refine zR ?_ (Aside0.out NB) _)))⟩ ?_ rfl rfl rfl rfl rfl (by kernel_rfl) rfl rfl; intro w9 hbk hfar hbel; replace BK2 := K_ hbk; replace HB := K_ (hbel _ _ GE2.out (BL HB)); clear hbk hfar hbel)
             refine bodyPost_ret (jF rfl _ _ g2 26 jO.cs (0, 0) _ rfl (BP BK2) Tryz.underlying26 rfl (by kernel_rfl)) rfl ?_
             exact ⟨jO, 6, rfl, BL HB, .inr ⟨by decide, HE.out⟩⟩)
         have HE := K_ (show vD s = none by rw [HN2.out, if_pos (by omega)])
         have hle := zet h0
         go_upto_if 188 with (fail)
         (
          go_wp2_with (refine so_ (g := g2) (cs := Z26) Z26 ⟨(by (repeat (first | (with_reducible exact Aside0.out BK2) | (with_reducible refine jB ?_ _) | (with_reducible refine zV ?_) | (with_reducible refine jA ?_ _) | refine zR ?_ (Aside0.out NB) _)))⟩ ?_ rfl rfl rfl rfl rfl (by kernel_rfl) rfl rfl; intro w9 hbk hfar hbel; replace BK2 := K_ hbk; replace HB := K_ (hbel _ _ GE2.out (BL HB)); clear hbk hfar hbel)
          refine bodyPost_ret (jF rfl _ _ g2 26 jO.cs (0, 0) _ rfl (BP BK2) Tryz.underlying26 rfl (by kernel_rfl)) rfl ?_
          exact ⟨jO, 4, rfl, BL HB, .inr ⟨by decide, HE.out⟩⟩)
    have HE := K_ (show vD s = none by
     rw [HN.out, if_pos]; simpa using hq)
    go_upto_if 105 with (fail)
    (
     go_wp2_with (refine so_ (g := g2) (cs := Z26) Z26 ⟨(by (repeat (first | (with_reducible exact Aside0.out BK2) | (with_reducible refine jB ?_ _) | (with_reducible refine zV ?_) | (with_reducible refine jA ?_ _) | refine zR ?_ (Aside0.out NB) _)))⟩ ?_ rfl rfl rfl rfl rfl (by kernel_rfl) rfl rfl; intro w9 hbk hfar hbel; replace BK2 := K_ hbk; replace HB := K_ (hbel _ _ GE2.out (BL HB)); clear hbk hfar hbel)
     refine bodyPost_ret (jF rfl _ _ g2 26 jO.cs (0, 0) _ rfl (BP BK2) Tryz.underlying26 rfl (by kernel_rfl)) rfl ?_
     exact ⟨jO, 4, rfl, BL HB, .inr ⟨by decide, HE.out⟩⟩)
set_option maxHeartbeats 16000000 in
set_option maxRecDepth 100000 in
theorem zbK (A : Option Addr) (c : Nat) (l : List S73) (b0 : Int) (fst : Bool) (w : World) (hr : Kd.C k73 w A l.length l) (hc : l.length ≤ c) (hl : l.length ≤ 1000) :
  Calls Tryz.prog 57 #[.slice A l.length c, .int .i64 b0, .bool fst] w (zlN l w) := by
 have HR := K_ hr
 have HL := K_ hl
 have HCC := K_ hc
 have HB := K_ (Below.refl w.heap.size w)
 clear hr hc
 go_enter Tryz.func57, Tryz.ntmps57
 go_upto_region 1 with (first
  | ((with_reducible refine zH (N := 6) rfl ?_); refine be_ 6 Z76 76 ?_; intro g6 hg w2 hbox hb; have BK6 := K_ hbox; have GE6 := ge_ hg HB; replace HB := zE HB hb; clear hb hbox hg)
  | ((with_reducible refine zH (N := 7) rfl ?_); refine be_ 7 Z51 51 ?_; intro g7 hg w4 hbox hb; have BK7 := K_ hbox; have GE7 := ge_ hg HB; have NB := nb_ hg BK6; replace BK6 := zC BK6 hb; replace HB := zE HB hb; clear hb hbox hg))
 go_wp2_with (fail)
 go_loopw [8] (fun v wr => ∃ k : Nat, k ≤ l.length ∧ v = .int .i64 k ∧ qH (fun x => !vG x) l k = qD l ∧ wr.heap[g6]? = some (.cells Z76 76 (0, 0)) ∧ wr.heap[g7]? = some (.cells Z51 51 (0, 0)) ∧ Below w.heap.size w wr) (fun v _ => l.length - (intOf v).toNat)
 case atStart => exact ⟨0, by omega, rfl, rfl, BK BK6, BK BK7, BL HB⟩
 case round =>
  obtain ⟨k, hk, rfl, hrun, hb6, hb7, hbw⟩ := hrel
  have HRun := K_ hrun
  replace BK6 := K_ hb6
  replace BK7 := K_ hb7
  replace HB := K_ hbw
  clear hrun hb6 hb7 hbw
  have hcl := HCC.out
  by_cases hlt : k < l.length
  ·have dlt : decide ((k : Int) < (l.length : Int)) = true := decide_eq_true (by omega)
   obtain ⟨x, hx⟩ : ∃ x, x = l[k] := ⟨_, rfl⟩
   obtain ⟨ad, ea, h0, h1, h2, h3⟩ := zat (Kd.C_below HR.out HB.out) (k : Int) (by omega) (by omega)
   rw [zcy hlt, ← hx] at h0 h1 h2 h3
   simp only [Int.toNat_natCast] at h0 h1 h2 h3
   have HX := K_ hx
   have HA := K_ ea
   clear hx
   subst ea
   cases hb : vG x
   ·have HC : ∀ W, Aside0 (Calls Tryz.prog 87 #[.agg #[.int .i32 x.f0.f0, .bool x.f0.f1, .int .i64 x.f0.f2, .bool x.f1]] W fun e w' => e = .returned (.bool false) ∧ Below W.heap.size W w') := fun W => ⟨by have h := zcN x W; rw [hb] at h; exact h⟩
    have HR2 := K_ (show qH (fun x => !vG x) l (k + 1) = qD l by rw [← zgm hlt (by rw [← HX.out, hb]; rfl)]; exact HRun.out)
    clear hb
    go_wp2_with (go_at_call 87; refine ((HC _).out).mono ?_; rintro e w' ⟨rfl, hb⟩; replace HB := zE HB hb; replace BK6 := zC BK6 hb; replace BK7 := zC BK7 hb; clear hb)
    go_roundw
    case rel => exact ⟨k + 1, by omega, by go_num, HR2.out, BK BK6, BK BK7, BL HB⟩
    case measure => simp [intOf]; omega
   have HC : ∀ W, Aside0 (Calls Tryz.prog 87 #[.agg #[.int .i32 x.f0.f0, .bool x.f0.f1, .int .i64 x.f0.f2, .bool x.f1]] W fun e w' => e = .returned (.bool true) ∧ Below W.heap.size W w') := fun W => ⟨by have h := zcN x W; rw [hb] at h; exact h⟩
   have HBEG := K_ (show qD l = k by rw [← HRun.out]; exact zeh hlt (by rw [← HX.out, hb]; rfl))
   have HKL := K_ hlt
   have dne : ((k : Int) == (l.length : Int)) = false := beq_eq_false_iff_ne.2 (by omega)
   clear hb
   go_upto_region 6 with (go_at_call 87; refine ((HC _).out).mono ?_; rintro e w' ⟨rfl, hb⟩; replace HB := zE HB hb; replace BK6 := zC BK6 hb; replace BK7 := zC BK7 hb; clear hb)
   go_wp2_with (fail)
   go_loopw [9] (fun v wr => ∃ j : Nat, k ≤ j ∧ j ≤ l.length ∧ v = .int .i64 j ∧ qH vG l j = qH vG l (k) ∧ wr.heap[g6]? = some (.cells Z76 76 (0, 0)) ∧ wr.heap[g7]? = some (.cells Z51 51 (0, 0)) ∧ Below w.heap.size w wr) (fun v _ => l.length - (intOf v).toNat)
   case atStart => exact ⟨k, Nat.le_refl _, by omega, rfl, rfl, BK BK6, BK BK7, BL HB⟩
   case round =>
    obtain ⟨j, hj0, hj, rfl, hrun, hb6, hb7, hbw⟩ := hrel
    have HRun := K_ hrun
    replace BK6 := K_ hb6
    replace BK7 := K_ hb7
    replace HB := K_ hbw
    clear hrun hb6 hb7 hbw
    go_upto_region 7 with (fail)
    go_cut [55] from 45 to 55 (fun c wx => c = .bool (zax l j) ∧ wx.heap[g6]? = some (.cells Z76 76 (0, 0)) ∧ wx.heap[g7]? = some (.cells Z51 51 (0, 0)) ∧ Below w.heap.size w wx)
    case first =>
     have hcl := HCC.out
     by_cases hlt : j < l.length
     ·have dlt : decide (((j : Nat) : Int) < (l.length : Int)) = true := decide_eq_true (by omega)
      obtain ⟨x, hx⟩ : ∃ x, x = l[j] := ⟨_, rfl⟩
      obtain ⟨ad2, ea, h0, h1, h2, h3⟩ := zat (Kd.C_below HR.out HB.out) ((j : Nat) : Int) (by omega) (by omega)
      rw [zcy hlt, ← hx] at h0 h1 h2 h3
      simp only [Int.toNat_natCast] at h0 h1 h2 h3
      have HX := K_ hx
      obtain rfl := Option.some.inj ea
      clear hx ea
      have HV := K_ (show zax l j = vG x by rw [HX.out]; exact zcV hlt)
      cases hb : vG x
      all_goals
       rw [hb] at HV
       have HC : ∀ W, Aside0 (Calls Tryz.prog 87 #[.agg #[.int .i32 x.f0.f0, .bool x.f0.f1, .int .i64 x.f0.f2, .bool x.f1]] W fun e w' => e = .returned (.bool _) ∧ Below W.heap.size W w') := fun W => ⟨by have h := zcN x W; rw [hb] at h; exact h⟩
       clear hb
       go_wp2_with (go_at_call 87; refine ((HC _).out).mono ?_; rintro e w' ⟨rfl, hb⟩; replace HB := zE HB hb; replace BK6 := zC BK6 hb; replace BK7 := zC BK7 hb; clear hb)
       go_meet
       case rel => exact ⟨by rw [HV.out], BK BK6, BK BK7, BL HB⟩
     have dlt : decide (((j : Nat) : Int) < (l.length : Int)) = false := decide_eq_false (by omega)
     have HV := K_ (show zax l j = false from zdq (by omega))
     go_wp2
     go_meet
     case rel => exact ⟨by rw [HV.out], BK BK6, BK BK7, BL HB⟩
    case rest =>
     obtain ⟨rfl, hb6, hb7, hbw⟩ := hcut
     replace BK6 := K_ hb6
     replace BK7 := K_ hb7
     replace HB := K_ hbw
     clear hb6 hb7 hbw
     cases hb : zax l j
     ·have HE0 := K_ (show qH vG l k = j by rw [← HRun.out]; exact zkJ hb)
      clear hb
      have HEND := K_ (show uV l = zec l j by unfold uV; rw [HBEG.out, HE0.out])
      go_upto_region 9 with (fail)
      go_cut [68] from 58 to 68 (fun c wx => c = .bool (atS l j 69) ∧ wx.heap[g6]? = some (.cells Z76 76 (0, 0)) ∧ wx.heap[g7]? = some (.cells Z51 51 (0, 0)) ∧ Below w.heap.size w wx)
      case first =>
       have hcl := HCC.out
       by_cases hlt : j < l.length
       ·have dlt : decide (((j : Nat) : Int) < (l.length : Int)) = true := decide_eq_true (by omega)
        obtain ⟨x, hx⟩ : ∃ x, x = l[j] := ⟨_, rfl⟩
        obtain ⟨ad2, ea, h0, h1, h2, h3⟩ := zat (Kd.C_below HR.out HB.out) ((j : Nat) : Int) (by omega) (by omega)
        rw [zcy hlt, ← hx] at h0 h1 h2 h3
        simp only [Int.toNat_natCast] at h0 h1 h2 h3
        have HX := K_ hx
        obtain rfl := Option.some.inj ea
        clear hx ea
        have HV := K_ (show atS l j 69 = zak x 69 by rw [HX.out]; exact zfq hlt 69)
        cases hb : zak x 69
        all_goals
         rw [hb] at HV
         have HC : ∀ W, Aside0 (Calls Tryz.prog 56 #[.agg #[.int .i32 x.f0.f0, .bool x.f0.f1, .int .i64 x.f0.f2, .bool x.f1], .int .i32 69] W fun e w' => e = .returned (.bool _) ∧ Below W.heap.size W w') := fun W => ⟨by have h := zbs x 69 W; rw [hb] at h; exact h⟩
         clear hb
         go_wp2_with (go_at_call 56; refine ((HC _).out).mono ?_; rintro e w' ⟨rfl, hb⟩; replace HB := zE HB hb; replace BK6 := zC BK6 hb; replace BK7 := zC BK7 hb; clear hb)
         go_meet
         case rel => exact ⟨by rw [HV.out], BK BK6, BK BK7, BL HB⟩
       have dlt : decide (((j : Nat) : Int) < (l.length : Int)) = false := decide_eq_false (by omega)
       have HV := K_ (show atS l j 69 = false from zdh (by omega) 69)
       go_wp2
       go_meet
       case rel => exact ⟨by rw [HV.out], BK BK6, BK BK7, BL HB⟩
      case rest =>
       obtain ⟨rfl, hb6, hb7, hbw⟩ := hcut
       replace BK6 := K_ hb6
       replace BK7 := K_ hb7
       replace HB := K_ hbw
       clear hb6 hb7 hbw
       go_upto_if 68 with (fail)
       go_cut [9] from 58 to 96 (fun v wx => v = .int .i64 ((uV l : Nat) : Int) ∧ wx.heap[g6]? = some (.cells Z76 76 (0, 0)) ∧ wx.heap[g7]? = some (.cells Z51 51 (0, 0)) ∧ Below w.heap.size w wx)
       case first =>
        have hll := HL.out
        cases h69 : atS l j 69
        ·have HEND2 := K_ (show uV l = j by rw [HEND.out]; unfold zec; rw [if_neg (by rw [h69]; decide)])
         clear h69
         go_wp2
         go_meet
         case rel => exact ⟨by rw [HEND2.out], BK BK6, BK BK7, BL HB⟩
        have hj1 := zkQ h69
        have HEND2 := K_ (show uV l = qH vG l (if atS l (j + 1) 43 = true then j + 2 else j + 1) by rw [HEND.out]; unfold zec; rw [if_pos h69])
        have hwj : IntKind.i64.wrap ((j : Int) + 1) = (j : Int) + 1 := by rw [IntKind.wrap_i64]; omega
        clear h69
        go_upto_region 11 with (fail)
        obtain ⟨j1, hj2⟩ : ∃ j1 : Nat, j1 = j + 1 := ⟨_, rfl⟩
        have hc1 : ((j : Int) + 1) = ((j1 : Nat) : Int) := by omega
        have hj3 : j1 ≤ l.length := by omega
        have HEND3 := K_ (show uV l = qH vG l (if atS l j1 43 = true then j1 + 1 else j1) by rw [HEND2.out, hj2])
        rw [hc1]
        clear hc1 hwj hj2 HEND2
        go_cut [81] from 71 to 81 (fun c wx => c = .bool (atS l j1 43) ∧ wx.heap[g6]? = some (.cells Z76 76 (0, 0)) ∧ wx.heap[g7]? = some (.cells Z51 51 (0, 0)) ∧ Below w.heap.size w wx)
        case first =>
         have hcl := HCC.out
         by_cases hlt : j1 < l.length
         ·have dlt : decide (((j1 : Nat) : Int) < (l.length : Int)) = true := decide_eq_true (by omega)
          obtain ⟨x, hx⟩ : ∃ x, x = l[j1] := ⟨_, rfl⟩
          obtain ⟨ad2, ea, h0, h1, h2, h3⟩ := zat (Kd.C_below HR.out HB.out) ((j1 : Nat) : Int) (by omega) (by omega)
          rw [zcy hlt, ← hx] at h0 h1 h2 h3
          simp only [Int.toNat_natCast] at h0 h1 h2 h3
          have HX := K_ hx
          obtain rfl := Option.some.inj ea
          clear hx ea
          have HV := K_ (show atS l j1 43 = zak x 43 by rw [HX.out]; exact zfq hlt 43)
          cases hb : zak x 43
          all_goals
           rw [hb] at HV
           have HC : ∀ W, Aside0 (Calls Tryz.prog 56 #[.agg #[.int .i32 x.f0.f0, .bool x.f0.f1, .int .i64 x.f0.f2, .bool x.f1], .int .i32 43] W fun e w' => e = .returned (.bool _) ∧ Below W.heap.size W w') := fun W => ⟨by have h := zbs x 43 W; rw [hb] at h; exact h⟩
           clear hb
           go_wp2_with (go_at_call 56; refine ((HC _).out).mono ?_; rintro e w' ⟨rfl, hb⟩; replace HB := zE HB hb; replace BK6 := zC BK6 hb; replace BK7 := zC BK7 hb; clear hb)
           go_meet
           case rel => exact ⟨by rw [HV.out], BK BK6, BK BK7, BL HB⟩
         have dlt : decide (((j1 : Nat) : Int) < (l.length : Int)) = false := decide_eq_false (by omega)
         have HV := K_ (show atS l j1 43 = false from zdh (by omega) 43)
         go_wp2
         go_meet
         case rel => exact ⟨by rw [HV.out], BK BK6, BK BK7, BL HB⟩
        case rest =>
         obtain ⟨rfl, hb6, hb7, hbw⟩ := hcut
         replace BK6 := K_ hb6
         replace BK7 := K_ hb7
         replace HB := K_ hbw
         clear hb6 hb7 hbw
         go_upto_if 81 with (fail)
         go_cut [9] from 71 to 83 (fun v wx => v = .int .i64 (((if atS l j1 43 = true then j1 + 1 else j1) : Nat) : Int) ∧ wx.heap[g6]? = some (.cells Z76 76 (0, 0)) ∧ wx.heap[g7]? = some (.cells Z51 51 (0, 0)) ∧ Below w.heap.size w wx)
         case first =>
          cases h43 : atS l j1 43
          ·go_wp2
           go_meet
           case rel => exact ⟨by rw [h43]; rfl, BK BK6, BK BK7, BL HB⟩
          have hwj : IntKind.i64.wrap ((j1 : Int) + 1) = (j1 : Int) + 1 := by rw [IntKind.wrap_i64]; omega
          go_wp2
          go_meet
          case rel => exact ⟨by rw [h43]; rfl, BK BK6, BK BK7, BL HB⟩
         case rest =>
          obtain ⟨rfl, hb6, hb7, hbw⟩ := hcut
          replace BK6 := K_ hb6
          replace BK7 := K_ hb7
          replace HB := K_ hbw
          clear hb6 hb7 hbw
          obtain ⟨e1, he1⟩ : ∃ e1 : Nat, e1 = if atS l j1 43 = true then j1 + 1 else j1 := ⟨_, rfl⟩
          have hel : e1 ≤ l.length := by
           rw [he1]; split
           ·rename_i h; have := zkQ h; omega
           exact hj3
          have HEND4 := K_ (show uV l = qH vG l e1 by rw [HEND3.out, he1])
          rw [← he1]
          clear he1 HEND3
          go_wp2_with (fail)
          go_loopw [9] (fun v wr => ∃ j : Nat, e1 ≤ j ∧ j ≤ l.length ∧ v = .int .i64 j ∧ qH vG l j = qH vG l (e1) ∧ wr.heap[g6]? = some (.cells Z76 76 (0, 0)) ∧ wr.heap[g7]? = some (.cells Z51 51 (0, 0)) ∧ Below w.heap.size w wr) (fun v _ => l.length - (intOf v).toNat)
          case atStart => exact ⟨e1, Nat.le_refl _, by omega, rfl, rfl, BK BK6, BK BK7, BL HB⟩
          case round =>
           obtain ⟨j, hj0, hj, rfl, hrun, hb6, hb7, hbw⟩ := hrel
           have HRun := K_ hrun
           replace BK6 := K_ hb6
           replace BK7 := K_ hb7
           replace HB := K_ hbw
           clear hrun hb6 hb7 hbw
           go_upto_region 13 with (fail)
           go_cut [94] from 84 to 94 (fun c wx => c = .bool (zax l j) ∧ wx.heap[g6]? = some (.cells Z76 76 (0, 0)) ∧ wx.heap[g7]? = some (.cells Z51 51 (0, 0)) ∧ Below w.heap.size w wx)
           case first =>
            have hcl := HCC.out
            by_cases hlt : j < l.length
            ·have dlt : decide (((j : Nat) : Int) < (l.length : Int)) = true := decide_eq_true (by omega)
             obtain ⟨x, hx⟩ : ∃ x, x = l[j] := ⟨_, rfl⟩
             obtain ⟨ad2, ea, h0, h1, h2, h3⟩ := zat (Kd.C_below HR.out HB.out) ((j : Nat) : Int) (by omega) (by omega)
             rw [zcy hlt, ← hx] at h0 h1 h2 h3
             simp only [Int.toNat_natCast] at h0 h1 h2 h3
             have HX := K_ hx
             obtain rfl := Option.some.inj ea
             clear hx ea
             have HV := K_ (show zax l j = vG x by rw [HX.out]; exact zcV hlt)
             cases hb : vG x
             all_goals
              rw [hb] at HV
              have HC : ∀ W, Aside0 (Calls Tryz.prog 87 #[.agg #[.int .i32 x.f0.f0, .bool x.f0.f1, .int .i64 x.f0.f2, .bool x.f1]] W fun e w' => e = .returned (.bool _) ∧ Below W.heap.size W w') := fun W => ⟨by have h := zcN x W; rw [hb] at h; exact h⟩
              clear hb
              go_wp2_with (go_at_call 87; refine ((HC _).out).mono ?_; rintro e w' ⟨rfl, hb⟩; replace HB := zE HB hb; replace BK6 := zC BK6 hb; replace BK7 := zC BK7 hb; clear hb)
              go_meet
              case rel => exact ⟨by rw [HV.out], BK BK6, BK BK7, BL HB⟩
            have dlt : decide (((j : Nat) : Int) < (l.length : Int)) = false := decide_eq_false (by omega)
            have HV := K_ (show zax l j = false from zdq (by omega))
            go_wp2
            go_meet
            case rel => exact ⟨by rw [HV.out], BK BK6, BK BK7, BL HB⟩
           case rest =>
            obtain ⟨rfl, hb6, hb7, hbw⟩ := hcut
            replace BK6 := K_ hb6
            replace BK7 := K_ hb7
            replace HB := K_ hbw
            clear hb6 hb7 hbw
            cases hb : zax l j
            ·have HE9 := K_ (show uV l = j by rw [HEND4.out, ← HRun.out]; exact zkJ hb)
             clear hb
             go_wp2
             go_meet
             case rel => exact ⟨by rw [HE9.out], BK BK6, BK BK7, BL HB⟩
            have hjl := zel hb
            have HR2 := K_ (show qH vG l (j + 1) = qH vG l e1 by rw [← ziP hb]; exact HRun.out)
            clear hb
            go_wp2
            go_roundw
            case rel => exact ⟨j + 1, by omega, by omega, by go_num, HR2.out, BK BK6, BK BK7, BL HB⟩
            case measure => simp [intOf]; omega
       case rest =>
        obtain ⟨rfl, hb6, hb7, hbw⟩ := hcut
        replace BK6 := K_ hb6
        replace BK7 := K_ hb7
        replace HB := K_ hbw
        clear hb6 hb7 hbw
        clear HEND HE0 HC HRun hk hj0 hj
        obtain ⟨e, hen⟩ : ∃ e, e = uV l := ⟨_, rfl⟩
        have HEN := K_ hen
        rw [← hen]
        clear hen
        go_upto_region 16 with (first
         | ((with_reducible refine zH (N := 10) rfl ?_); refine be_ 10 Z76 76 ?_; intro g10 hg w10 hbox hb; have BK10 := K_ hbox; have GE10 := ge_ hg HB; have N6 := nb_ hg BK6; have N7 := nb_ hg BK7; replace BK6 := zC BK6 hb; replace BK7 := zC BK7 hb; replace HB := zE HB hb; clear hb hbox hg)
         | ((with_reducible refine jC (p := 10) rfl ?_); refine so_ (g := g10) (cs := Z76) Z76 ⟨BK BK10⟩ ?_ rfl rfl rfl rfl rfl zbv rfl rfl; intro w9 hbk hfar hbel; replace BK6 := K_ (hfar g6 _ N6.out (BK BK6)); replace BK7 := K_ (hfar g7 _ N7.out (BK BK7)); replace BK10 := K_ hbk; replace HB := K_ (hbel _ _ GE10.out (BL HB)); clear hbk hfar hbel))
        go_wp2_with (fail)
        go_loopw [11, 12] (fun p i wr => ∃ (k pads : Nat) (at_ pad : Int), k ≤ l.length ∧ pads ≤ k ∧ i = .int .i64 k ∧ p = .int .i64 pads ∧ wr.heap[g10]? = some (.cells (uU (.slice none 0 0) (.slice none 0 0) jO at_ pad 0) 76 (0, 0)) ∧ wr.heap[g6]? = some (.cells Z76 76 (0, 0)) ∧ wr.heap[g7]? = some (.cells Z51 51 (0, 0)) ∧ Below w.heap.size w wr) (fun _ i _ => l.length - (intOf i).toNat)
        case atStart => exact ⟨0, 0, 0, 0, by omega, by omega, rfl, rfl, BK BK10, BK BK6, BK BK7, BL HB⟩
        case round =>
         obtain ⟨i, pads, at_, pad, hi, hpd, rfl, rfl, hb10, hb6, hb7, hbw⟩ := hrel
         replace BK10 := K_ hb10
         replace BK6 := K_ hb6
         replace BK7 := K_ hb7
         replace HB := K_ hbw
         clear hb10 hb6 hb7 hbw
         have hcl := HCC.out
         have hll := HL.out
         by_cases hlt : i < l.length
         ·have dlt : decide (((i : Nat) : Int) < (l.length : Int)) = true := decide_eq_true (by omega)
          obtain ⟨x, hx⟩ : ∃ x, x = l[i] := ⟨_, rfl⟩
          obtain ⟨ad2, ea, h0, h1, h2, h3⟩ := zat (Kd.C_below HR.out HB.out) ((i : Nat) : Int) (by omega) (by omega)
          rw [zcy hlt, ← hx] at h0 h1 h2 h3
          simp only [Int.toNat_natCast] at h0 h1 h2 h3
          have HX := K_ hx
          obtain rfl := Option.some.inj ea
          clear hx ea
          cases hp : x.f1
          ·rw [hp] at h3
           clear hp
           go_wp2
           go_roundw
           case rel => exact ⟨i + 1, pads, at_, pad, by omega, by omega, by go_num, rfl, BK BK10, BK BK6, BK BK7, BL HB⟩
           case measure => simp [intOf]; omega
          have HPAD := K_ (show (∀ x ∈ l, x.f1 = false) → False by
           intro h; have := h l[i] (List.getElem_mem hlt); rw [← HX.out, hp] at this; cases this)
          rw [hp] at h3
          clear hp
          have HXO := K_ ((zat HR.out ((i : Nat) : Int) (by omega) (by omega)).choose_spec.2.1)
          go_upto_block 8 with (fail)
          go_cut [13] from 110 to 127 (fun v wx => (∃ a : Int, v = .int .i64 a) ∧ wx.heap[g10]? = some (.cells (uU (.slice none 0 0) (.slice none 0 0) jO at_ pad 0) 76 (0, 0)) ∧ wx.heap[g6]? = some (.cells Z76 76 (0, 0)) ∧ wx.heap[g7]? = some (.cells Z51 51 (0, 0)) ∧ Below w.heap.size w wx)
          case first =>
           have hwk : IntKind.i64.wrap ((k : Int) - 1) = (k : Int) - 1 := by rw [IntKind.wrap_i64]; omega
           have hwl : IntKind.i64.wrap ((l.length : Int) - 1) = (l.length : Int) - 1 := by rw [IntKind.wrap_i64]; omega
           by_cases q1 : ((i : Nat) : Int) = 0
           ·have e1 : (((i : Nat) : Int) == 0) = true := beq_iff_eq.2 q1
            clear q1
            go_wp2
            go_meet
            case rel => exact ⟨⟨_, rfl⟩, BK BK10, BK BK6, BK BK7, BL HB⟩
           have e1 : (((i : Nat) : Int) == 0) = false := beq_eq_false_iff_ne.2 q1
           by_cases q2 : ((i : Nat) : Int) = (k : Int) - 1
           ·have e2 : (((i : Nat) : Int) == (k : Int) - 1) = true := beq_iff_eq.2 q2
            clear q1 q2
            go_wp2
            go_meet
            case rel => exact ⟨⟨_, rfl⟩, BK BK10, BK BK6, BK BK7, BL HB⟩
           have e2 : (((i : Nat) : Int) == (k : Int) - 1) = false := beq_eq_false_iff_ne.2 q2
           by_cases q3 : ((i : Nat) : Int) = (e : Int)
           ·have e3 : (((i : Nat) : Int) == (e : Int)) = true := beq_iff_eq.2 q3
            clear q1 q2 q3
            go_wp2
            go_meet
            case rel => exact ⟨⟨_, rfl⟩, BK BK10, BK BK6, BK BK7, BL HB⟩
           have e3 : (((i : Nat) : Int) == (e : Int)) = false := beq_eq_false_iff_ne.2 q3
           by_cases q4 : ((i : Nat) : Int) = (l.length : Int) - 1
           ·have e4 : (((i : Nat) : Int) == (l.length : Int) - 1) = true := beq_iff_eq.2 q4
            clear q1 q2 q3 q4
            go_wp2
            go_meet
            case rel => exact ⟨⟨_, rfl⟩, BK BK10, BK BK6, BK BK7, BL HB⟩
           have e4 : (((i : Nat) : Int) == (l.length : Int) - 1) = false := beq_eq_false_iff_ne.2 q4
           clear q1 q2 q3 q4
           go_wp2
           go_meet
           case rel => exact ⟨⟨_, rfl⟩, BK BK10, BK BK6, BK BK7, BL HB⟩
          case rest =>
           obtain ⟨⟨a, rfl⟩, hb10, hb6, hb7, hbw⟩ := hcut
           replace BK10 := K_ hb10
           replace BK6 := K_ hb6
           replace BK7 := K_ hb7
           replace HB := K_ hbw
           clear hb10 hb6 hb7 hbw h0 h1 h2 h3
           have hwp : IntKind.i64.wrap ((pads : Int) + 1) = (pads : Int) + 1 := by rw [IntKind.wrap_i64]; omega
           go_upto_region 31 with (fail)
           go_cut [139] from 130 to 139 (fun v wx => (∃ t : Bool, v = .bool t) ∧ wx.heap[g10]? = some (.cells (uU (.slice none 0 0) (.slice none 0 0) jO at_ pad 0) 76 (0, 0)) ∧ wx.heap[g6]? = some (.cells Z76 76 (0, 0)) ∧ wx.heap[g7]? = some (.cells Z51 51 (0, 0)) ∧ Below w.heap.size w wx)
           case first =>
            by_cases q1 : a = 0
            ·have e1 : (a == 0) = true := beq_iff_eq.2 q1
             clear q1
             go_wp2
             go_meet
             case rel => exact ⟨⟨_, rfl⟩, BK BK10, BK BK6, BK BK7, BL HB⟩
            have e1 : (a == 0) = false := beq_eq_false_iff_ne.2 q1
            by_cases q2 : (pads : Int) + 1 > 1
            ·have e2 : decide ((pads : Int) + 1 > 1) = true := decide_eq_true q2
             go_wp2
             go_meet
             case rel => exact ⟨⟨_, rfl⟩, BK BK10, BK BK6, BK BK7, BL HB⟩
            have e2 : decide ((pads : Int) + 1 > 1) = false := decide_eq_false q2
            go_wp2
            go_meet
            case rel => exact ⟨⟨_, rfl⟩, BK BK10, BK BK6, BK BK7, BL HB⟩
           case rest =>
            obtain ⟨⟨t, rfl⟩, hb10, hb6, hb7, hbw⟩ := hcut
            replace BK10 := K_ hb10
            replace BK6 := K_ hb6
            replace BK7 := K_ hb7
            replace HB := K_ hbw
            clear hb10 hb6 hb7 hbw
            obtain ⟨ad2, ea, h0, h1, h2, h3⟩ := zat (Kd.C_below HR.out HB.out) ((i : Nat) : Int) (by omega) (by omega)
            rw [zcy hlt, ← HX.out] at h0 h1 h2 h3
            simp only [Int.toNat_natCast] at h0 h1 h2 h3
            obtain rfl := Option.some.inj ea
            clear ea
            have hbw : (ad.add (i * 4)).block < w.heap.size := by
             obtain ⟨ad3, ea3, h03, _⟩ := zat HR.out ((i : Nat) : Int) (by omega) (by omega)
             obtain rfl := Option.some.inj ea3
             simp only [Int.toNat_natCast] at h03
             exact World.block_lt_of_cell? _ _ h03
            cases t
            ·have hbn : (ad.add (i * 4)).block ≠ g10 := Nat.ne_of_lt (Nat.lt_of_lt_of_le hbw GE10.out)
             have hcell2 : ∀ j v, (wc.setCell ⟨g10, j, none⟩ v).cell? (ad.add (i * 4)) = some (.int .i32 x.f0.f0) := fun j v => (jD hbn v).trans h0
             have hi0 : (0 : Int) ≤ (i : Int) := by omega
             have hi1 : (i : Int) < (l.length : Int) := by omega
             have hi2 : i + 1 ≤ l.length := hlt
             clear hbw
             obtain ⟨⟨cz0, cz1, cz2, cz3, cz4, cz5, cz6, cz7, cz8, cz9, cz10, cz11, cz12, cz13, cz14, cz15, cz16, cz17, cz18, cz19, cz20, cz21, cz22, cz23, cz24⟩, fz0, fz1, fz2, fz3, fz4, fz5, fz6, fz7, fz8, fz9, fz10, fz11, fz12, fz13, fz14, fz15, fz16, fz17, fz18, fz19, fz20, fz21, fz22, fz23, fz24⟩ := zop BK10
             go_upto_region 33 with (fail)
             go_region
             all_goals
              go_wp2_with (fail)
              go_roundw
              case rel => exact ⟨i + 1, pads + 1, a, x.f0.f0, by omega, by omega, by go_num, by go_num, BP BK10, (by (repeat (first | (with_reducible exact Aside0.out BK6) | (with_reducible refine jB ?_ _) | (with_reducible refine zV ?_) | (with_reducible refine jA ?_ _) | refine zR ?_ (Aside0.out N6) _))), (by (repeat (first | (with_reducible exact Aside0.out BK7) | (with_reducible refine jB ?_ _) | (with_reducible refine zV ?_) | (with_reducible refine jA ?_ _) | refine zR ?_ (Aside0.out N7) _))), BL HB⟩
              case measure => simp [intOf]; omega
            have hi0 : (0 : Int) ≤ (i : Int) := by omega
            have hi1 : (i : Int) < (l.length : Int) := by omega
            have HE := K_ (show (∀ x ∈ l, x.f1 = false) → (∃ P, xW l P) → (7 : Int) = 0 from fun h _ => (HPAD.out h).elim)
            have hb6 : (ad.add (i * 4)).block ≠ g6 := Nat.ne_of_lt (Nat.lt_of_lt_of_le hbw GE6.out)
            have hb7 : (ad.add (i * 4)).block ≠ g7 := Nat.ne_of_lt (Nat.lt_of_lt_of_le hbw GE7.out)
            go_upto_region 32 with (fail)
            refine vK (n := 10) (S := fun w' => w'.cell? ⟨(ad.add (i * 4)).block, (ad.add (i * 4)).off + 2, none⟩ = some (.int .i64 x.f0.f2)) (ds := []) #[false, false, false, false, false, false, false, false, false, false] (by kernel_rfl) rfl rfl h2 (fun hHeld => ?_)
            obtain ⟨W, hW⟩ : ∃ W, W = World.drew wc := ⟨_, rfl⟩
            rw [← hW] at hHeld ⊢
            replace BK6 := K_ (show W.heap[g6]? = some (.cells Z76 76 (0, 0)) by rw [hW]; exact BK BK6)
            replace BK7 := K_ (show W.heap[g7]? = some (.cells Z51 51 (0, 0)) by rw [hW]; exact BK BK7)
            replace HB := K_ (show Below w.heap.size w W by rw [hW]; exact BL HB)
            clear hW h0 h1 h2 h3
            refine pu_ 0 (some 140) (bb 10 1) (by kernel_rfl) ?_
            refine pu_ 1 (some 141) (bb 10 3) (by kernel_rfl) ?_
            refine pu_ 2 (some 142) (bb 10 7) (by kernel_rfl) ?_
            refine pu_ 3 (some 143) (bb 10 15) (by kernel_rfl) ?_
            refine pu_ 4 (some 144) (bb 10 31) (by kernel_rfl) ?_
            refine pu_ 5 (some 145) (bb 10 63) (by kernel_rfl) ?_
            refine tk_ 6 (some 146) (bb 10 127) (by kernel_rfl) hHeld ?_
            refine pu_ 7 (some 147) (bb 10 255) (by kernel_rfl) ?_
            refine jP (i := 8) (N := none) (bb 10 511) rfl rfl (by kernel_rfl) (by decide) (fun K hK => ?_)
            refine uP (g := g6) (cs := Z76) Z76 BK6 ?_ rfl rfl rfl rfl rfl zbv rfl rfl
            intro w8 hbk hfar hbel
            have hHeld2 := zao hfar (p := ⟨(ad.add (i * 4)).block, (ad.add (i * 4)).off + 2, none⟩) hb6 hHeld
            replace BK7 := K_ (hfar g7 _ (Ne.symm NB.out) BK7.out)
            replace BK6 := K_ hbk
            replace HB := K_ (hbel _ _ GE6.out HB.out)
            refine hK.out _ _ hHeld2 (fun _ => ?_)
            clear hK K hbk hfar hbel
            refine jP (i := 9) (N := none) (bb 10 1023) rfl rfl (by kernel_rfl) (by decide) (fun K hK => ?_)
            refine uP (g := g7) (cs := Z51) #[.int .i64 7, .int .i64 x.f0.f2] BK7 ?_ rfl rfl rfl rfl rfl uT rfl rfl
            intro w9 hbk hfar hbel
            have hHeld3 := zao hfar (p := ⟨(ad.add (i * 4)).block, (ad.add (i * 4)).off + 2, none⟩) hb7 hHeld2
            replace BK6 := K_ (hfar g6 _ NB.out BK6.out)
            replace BK7 := K_ hbk
            replace HB := K_ (hbel _ _ GE7.out HB.out)
            refine hK.out _ _ hHeld3 (fun _ => ?_)
            clear hK K hbk hfar hbel
            refine vR (by kernel_rfl) ?_
            go_wp2_with (fail)
            (
             refine bodyPost_ret (qO rfl _ _ g6 g7 76 51 Z76 #[.int .i64 7, .int .i64 x.f0.f2] (0, 0) (0, 0) _ _ rfl BK6.out Tryz.underlying76 rfl zbv rfl BK7.out Tryz.underlying51 rfl uT) rfl ?_
             exact ⟨_, _, [], [], jO, 0, 0, 0, 7, x.f0.f2, rfl, Kd.R_nil _ _ _ _ _, Kd.R_nil _ _ _ _ _, BL HB, fun h => absurd h (by decide), HE.out⟩)
         obtain rfl : i = l.length := by omega
         have dlt : decide (((l.length : Nat) : Int) < (l.length : Int)) = false := decide_eq_false (by omega)
         go_upto_region 34 with (fail)
         have hke : k ≤ e := by have := zmr l; rw [HBEG.out, ← HEN.out] at this; exact this
         have HKE := K_ hke
         have hle : e ≤ l.length := by rw [HEN.out]; exact zmq l
         have HLE := K_ hle
         clear hke hle dlt
         go_wp2_with (fail)
         go_loopw [14, 15, 16, 17] (fun v14 v15 s i wr => ∃ j : Nat, j ≤ l.length ∧ i = .int .i64 j ∧ s = .string (zaN l k e j) ∧ Kd.R k71 71 wr w.heap.size (fun _ => True) v14 (uJ l k j) ∧ Kd.R k71 71 wr w.heap.size (fun q => some q ≠ v14.ownBlock) v15 (uI l e j) ∧ (j ≤ e → v15 = .slice none 0 0) ∧ wr.heap[g10]? = some (.cells (uU (.slice none 0 0) (.slice none 0 0) jO at_ pad 0) 76 (0, 0)) ∧ wr.heap[g6]? = some (.cells Z76 76 (0, 0)) ∧ wr.heap[g7]? = some (.cells Z51 51 (0, 0)) ∧ Below w.heap.size w wr) (fun _ _ _ i _ => l.length - (intOf i).toNat)
         case atStart => exact ⟨0, by omega, rfl, by rw [zkT], by rw [zkV]; exact Kd.R_nil _ _ _ _ _, by rw [zhY (Nat.zero_le _)]; exact Kd.R_nil _ _ _ _ _, fun _ => rfl, BK BK10, BK BK6, BK BK7, BL HB⟩
         case round =>
          obtain ⟨j, hj, rfl, rfl, hz14, hz15, hnil, hb10, hb6, hb7, hbw⟩ := hrel
          replace BK10 := K_ hb10
          replace BK6 := K_ hb6
          replace BK7 := K_ hb7
          replace HB := K_ hbw
          have HZ1 := K_ hz14
          have HZ2 := K_ hz15
          have HNIL := K_ hnil
          clear hz14 hz15 hnil hb10 hb6 hb7 hbw
          have hcl := HCC.out
          have hll := HL.out
          by_cases hlt : j < l.length
          ·have dlt : decide (((j : Nat) : Int) < (l.length : Int)) = true := decide_eq_true (by omega)
           obtain ⟨x, hx⟩ : ∃ x, x = l[j] := ⟨_, rfl⟩
           obtain ⟨ad2, ea, h0, h1, h2, h3⟩ := zat (Kd.C_below HR.out HB.out) ((j : Nat) : Int) (by omega) (by omega)
           rw [zcy hlt, ← hx] at h0 h1 h2 h3
           simp only [Int.toNat_natCast] at h0 h1 h2 h3
           have HX := K_ hx
           obtain rfl := Option.some.inj ea
           clear hx ea
           have HP1 := K_ (znd (n := k) hlt)
           have HS1 := K_ (zmS (e := e) hlt)
           have HT1 := K_ (zmx (n := k) (e := e) hlt)
           rw [← HX.out] at HP1 HS1 HT1
           cases hp : x.f1
           ·rw [hp] at h3
            by_cases q1 : j < k
            ·obtain rfl := HNIL.out (Nat.le_of_lt (Nat.lt_of_lt_of_le q1 HKE.out))
             have d1 : decide (((j : Nat) : Int) < (k : Int)) = true := decide_eq_true (by omega)
             replace HP1 := K_ (show uJ l k (j + 1) = uJ l k j ++ [x.f0] by rw [HP1.out, if_pos ⟨q1, hp⟩])
             replace HS1 := K_ (show uI l e (j + 1) = [] from zhY (Nat.le_trans q1 HKE.out))
             replace HT1 := K_ (show zaN l k e (j + 1) = zaN l k e j by rw [HT1.out, if_neg (by omega)])
             have HN6 := K_ (Kd.R_ne HZ1.out BK6.out (by decide))
             have HN7 := K_ (Kd.R_ne HZ1.out BK7.out (by decide))
             have HN10 := K_ (Kd.R_ne HZ1.out BK10.out (by decide))
             have HLN := K_ (show ((uJ l k j).length + 1) * 16 ≤ 140737488355328 by have := zeC l k j; omega)
             have HQ := K_ (show j + 1 ≤ e from Nat.le_trans q1 HKE.out)
             obtain ⟨A1, c1, rfl⟩ := Kd.R_slice HZ1.out
             clear hp
             go_wp2_with (((with_reducible refine jJ (b := .append) (xs := #[.tmp 171, .tmp 177]) rfl ?_); at_builtin; (refine Kd.R_append k71 (w0 := w) w.heap.size rfl (.tmp 171) (.tmp 177) 66 71 (.agg #[(.int .i32 0), (.bool false), (.int .i64 0)]) 16 rfl Tryz.underlying66 zfP rfl (by decide) (by omega) (.slice A1 (uJ l k j).length c1) (uJ l k j) x.f0 [.int .i32 x.f0.f0, .bool x.f0.f1, .int .i64 x.f0.f2] (fun _ => True) (fun _ => False) rfl (by first | (go_simp; done) | (go_simp; rfl)) (zdk _ _ _ x.f0) (fun _ hk => hk.elim) (fun _ _ => trivial) ?aO ?aB ?aS ?aL ?_; (case aO => exact RB HZ1.out); (case aB => exact BL HB); (case aS => exact zJ (BL HB)); (case aL => exact HLN.out); intro v1 w5 ho2 hb2 hg2 hat2; rw [← HP1.out] at ho2; have HO3 := K_ ho2; have BK6a := K_ (yY (BK BK6) hg2 HN6.out); have BK7a := K_ (yY (BK BK7) hg2 HN7.out); have BK10a := K_ (yY (BK BK10) hg2 HN10.out); replace HB := K_ hb2; clear ho2 hb2 hg2 hat2)))
             go_roundw
             case rel => exact ⟨j + 1, by omega, by go_num, by rw [HT1.out], RB HO3.out, by rw [HS1.out]; exact Kd.R_nil _ _ _ _ _, fun _ => rfl, BK BK10a, BK BK6a, BK BK7a, BL HB⟩
             case measure => simp [intOf]; omega
            have d1 : decide (((j : Nat) : Int) < (k : Int)) = false := decide_eq_false (by omega)
            replace HP1 := K_ (show uJ l k (j + 1) = uJ l k j by rw [HP1.out, if_neg (by omega)])
            by_cases q2 : j < e
            ·have d2 : decide (((j : Nat) : Int) < (e : Int)) = true := decide_eq_true (by omega)
             obtain ⟨_, hr0, hr1⟩ := zho (x := x) (by rw [HX.out]; exact zhU l j (by rw [HBEG.out]; omega) (by rw [← HEN.out]; exact q2) hlt)
             have HBY := K_ (zdT hr0 hr1)
             replace HS1 := K_ (show uI l e (j + 1) = uI l e j by rw [HS1.out, if_neg (by omega)])
             replace HT1 := K_ (show zaN l k e (j + 1) = zaN l k e j ++ strOfNums [x.f0.f0] by rw [HT1.out, if_pos ⟨by omega, q2⟩]; rfl)
             have HNI := K_ (HNIL.out (Nat.le_of_lt q2))
             have hts := ziX l k e j
             have hfb : ¬ 9223372036854775807 < (zaN l k e j).size + (strOfNums [x.f0.f0]).size := by
              have : (strOfNums [x.f0.f0]).size = 1 := rfl
              omega
             clear hp hr0 hr1
             go_wp2_with (go_at_call 88; refine (yZ.calls x.f0.f0 [x.f0.f0] _ HBY.out).mono ?_; rintro e9 w' ⟨v0, rfl, ho0, hb⟩; obtain ⟨A9, c9, rfl⟩ : ∃ A9 c9, v0 = .slice A9 1 c9 := Kd.R_slice ho0; have hcv := Kd.C_string (c := c9) Tryz.underlying107 Tryz.underlying5 Tryz.underlying9 (show (Kd.int .u8).C w' A9 1 [x.f0.f0] from (Kd.R_reads' ho0).2.2); replace HZ1 := K_ (Kd.R_below (RB HZ1.out) hb); replace HZ2 := K_ (Kd.R_below (RB HZ2.out) hb); replace HB := zE HB hb; replace BK6 := zC BK6 hb; replace BK7 := zC BK7 hb; replace BK10 := zC BK10 hb; clear hb ho0)
             go_roundw
             case rel => exact ⟨j + 1, by omega, by go_num, by rw [HT1.out], by rw [HP1.out]; exact RB HZ1.out, by rw [HS1.out]; exact RB HZ2.out, fun _ => HNI.out, BK BK10, BK BK6, BK BK7, BL HB⟩
             case measure => simp [intOf]; omega
            have d2 : decide (((j : Nat) : Int) < (e : Int)) = false := decide_eq_false (by omega)
            replace HS1 := K_ (show uI l e (j + 1) = uI l e j ++ [x.f0] by rw [HS1.out, if_pos ⟨by omega, hp⟩])
            replace HT1 := K_ (show zaN l k e (j + 1) = zaN l k e j by rw [HT1.out, if_neg (by omega)])
            have HN6 := K_ (Kd.R_ne HZ2.out BK6.out (by decide))
            have HN7 := K_ (Kd.R_ne HZ2.out BK7.out (by decide))
            have HN10 := K_ (Kd.R_ne HZ2.out BK10.out (by decide))
            have HLN := K_ (show ((uI l e j).length + 1) * 16 ≤ 140737488355328 by have := zev l e j; omega)
            obtain ⟨A1, c1, rfl⟩ := Kd.R_slice HZ1.out
            obtain ⟨A2, c2, rfl⟩ := Kd.R_slice HZ2.out
            clear hp
            go_wp2_with (((with_reducible refine jJ (b := .append) (xs := #[.tmp 192, .tmp 198]) rfl ?_); at_builtin; (refine Kd.R_append k71 (w0 := w) w.heap.size rfl (.tmp 192) (.tmp 198) 66 71 (.agg #[(.int .i32 0), (.bool false), (.int .i64 0)]) 16 rfl Tryz.underlying66 zfP rfl (by decide) (by omega) (.slice A2 (uI l e j).length c2) (uI l e j) x.f0 [.int .i32 x.f0.f0, .bool x.f0.f1, .int .i64 x.f0.f2] (fun q => some q ≠ (Value.slice A1 (uJ l k j).length c1).ownBlock) (fun _ => False) rfl (by first | (go_simp; done) | (go_simp; rfl)) (zdk _ _ _ x.f0) (fun _ hk => hk.elim) ?aF ?aO ?aB ?aS ?aL ?_; (case aF => exact fun q hq he => absurd hq (Nat.not_le.2 (Kd.R_lt (RB HZ1.out) q he.symm))); (case aO => exact RB HZ2.out); (case aB => exact BL HB); (case aS => exact zJ (BL HB)); (case aL => exact HLN.out); intro v1 w5 ho2 hb2 hg2 hat2; rw [← HS1.out] at ho2; have HO3 := K_ ho2; replace HZ1 := K_ (Kd.R_mono (ok' := fun _ => True) (Kd.R_grown (Kd.R_tight rfl (RB HZ1.out)) hg2 (fun q hq => Kd.R_away HZ2.out (fun q2 hq2 he => hq2 (by rw [he]; exact hq)))) (fun _ _ => trivial)); have BK6a := K_ (yY (BK BK6) hg2 HN6.out); have BK7a := K_ (yY (BK BK7) hg2 HN7.out); have BK10a := K_ (yY (BK BK10) hg2 HN10.out); replace HB := K_ hb2; clear ho2 hb2 hg2 hat2)))
            go_roundw
            case rel => exact ⟨j + 1, by omega, by go_num, by rw [HT1.out], by rw [HP1.out]; exact RB HZ1.out, RB HO3.out, fun h => absurd h (by omega), BK BK10a, BK BK6a, BK BK7a, BL HB⟩
            case measure => simp [intOf]; omega
           have hnt : ¬ (k ≤ j ∧ j < e) := fun h => by
            have := (zho (x := x) (by rw [HX.out]; exact zhU l j (by rw [HBEG.out]; exact h.1) (by rw [← HEN.out]; exact h.2) hlt)).1
            rw [hp] at this; cases this
           replace HP1 := K_ (show uJ l k (j + 1) = uJ l k j by rw [HP1.out, if_neg (by rw [hp]; simp)])
           replace HS1 := K_ (show uI l e (j + 1) = uI l e j by rw [HS1.out, if_neg (by rw [hp]; simp)])
           replace HT1 := K_ (show zaN l k e (j + 1) = zaN l k e j by rw [HT1.out, if_neg hnt])
           rw [hp] at h3
           clear hp hnt
           go_wp2
           go_roundw
           case rel => exact ⟨j + 1, by omega, by go_num, by rw [HT1.out], by rw [HP1.out]; exact RB HZ1.out, by rw [HS1.out]; exact RB HZ2.out, fun h => HNIL.out (by omega), BK BK10, BK BK6, BK BK7, BL HB⟩
           case measure => simp [intOf]; omega
          obtain rfl : j = l.length := by omega
          have dlt : decide (((l.length : Nat) : Int) < (l.length : Int)) = false := decide_eq_false (by omega)
          go_upto_region 45 with (fail)
          obtain ⟨pr, hpr⟩ : ∃ pr, pr = uJ l k l.length := ⟨_, rfl⟩
          obtain ⟨sf, hsf⟩ : ∃ sf, sf = uI l e l.length := ⟨_, rfl⟩
          obtain ⟨tx, htx⟩ : ∃ tx, tx = zaN l k e l.length := ⟨_, rfl⟩
          have hpl := zeC l k l.length
          have hsl := zev l e l.length
          have htl := ziX l k e l.length
          rw [← hpr] at HZ1 hpl
          rw [← hsf] at HZ2 hsl
          rw [← htx] at htl ⊢
          have HPR := K_ hpr
          have HSF := K_ hsf
          have HTX := K_ htx
          have HPL := K_ (show pr.length ≤ 100000 by omega)
          have HSL := K_ (show sf.length ≤ 100000 by omega)
          have HTL := K_ (show tx.size ≤ 1048576 by omega)
          obtain ⟨A1, c1, rfl⟩ := Kd.R_slice HZ1.out
          obtain ⟨A2, c2, rfl⟩ := Kd.R_slice HZ2.out
          clear hpr hsf htx hpl hsl htl dlt hj hlt
          go_upto_region 46 with (first
           | (go_at_call 89; refine (zfp A1 c1 pr _ (Kd.R_reads' (RB HZ1.out)).2.2 (Kd.R_reads' HZ1.out).2.1 HPL.out).mono ?_; rintro e9 w' ⟨v1, xs, E1, a1, rfl, ho1, hb, hpost⟩; have HO1 := K_ (Kd.R_lower ho1 (zJ (BL HB))); have HPO := K_ hpost; replace HZ2 := K_ (Kd.R_below (RB HZ2.out) hb); replace HB := zE HB hb; replace BK6 := zC BK6 hb; replace BK7 := zC BK7 hb; replace BK10 := zC BK10 hb; clear hb ho1 hpost)
           | ((with_reducible refine zH (N := 19) rfl ?_); refine be_ 19 Z51 51 ?_; intro g19 hg w10 hbox hb; have BK19 := K_ hbox; have GE19 := ge_ hg HB; have N6L := nb_ hg BK6; have N7L := nb_ hg BK7; have N10L := nb_ hg BK10; replace HO1 := K_ (Kd.R_below (RB HO1.out) hb); replace HZ2 := K_ (Kd.R_below (RB HZ2.out) hb); replace HB := zE HB hb; replace BK6 := zC BK6 hb; replace BK7 := zC BK7 hb; replace BK10 := zC BK10 hb; clear hb hbox hg)
           | ((with_reducible refine jC (p := 19) rfl ?_); refine so_ (g := g19) (cs := Z51) #[.int .i64 E1, .int .i64 a1] ⟨BK BK19⟩ ?_ rfl rfl rfl rfl rfl uT rfl rfl; intro w9 hbk hfar hbel; replace HO1 := K_ (uA (RB HO1.out) (BK BK19) (by decide) hfar); replace HZ2 := K_ (uA (RB HZ2.out) (BK BK19) (by decide) hfar); replace BK6 := K_ (hfar g6 _ N6L.out (BK BK6)); replace BK7 := K_ (hfar g7 _ N7L.out (BK BK7)); replace BK10 := K_ (hfar g10 _ N10L.out (BK BK10)); replace BK19 := K_ hbk; replace HB := K_ (hbel _ _ GE19.out (BL HB)); clear hbk hfar hbel))
          obtain ⟨⟨q0, q1⟩, q2, q3⟩ := ce2 BK19
          rcases HPO.out with ⟨hE, ha, hok, hxs⟩ | ⟨hE, hno⟩
          ·obtain rfl := hE
           obtain rfl := ha
           have HOK1 := K_ hok
           have HXS := K_ hxs
           clear hok hxs
           go_upto_region 49 with (first
            | (go_at_call 90; refine (zip tx HTL.out _).mono ?_; rintro e9 w' ⟨PN, E2, rfl, hb, hpost⟩; have HNU := K_ hpost; replace HO1 := K_ (Kd.R_below (RB HO1.out) hb); replace HZ2 := K_ (Kd.R_below (RB HZ2.out) hb); replace HB := zE HB hb; replace BK6 := zC BK6 hb; replace BK7 := zC BK7 hb; replace BK10 := zC BK10 hb; replace BK19 := zC BK19 hb; clear hb hpost)
            | ((with_reducible refine zH (N := 20) rfl ?_); refine be_ 20 Z26 26 ?_; intro g20 hg w10 hbox hb; have BK20 := K_ hbox; have GE20 := ge_ hg HB; have N6M := nb_ hg BK6; have N7M := nb_ hg BK7; have N10M := nb_ hg BK10; have N19M := nb_ hg BK19; replace HO1 := K_ (Kd.R_below (RB HO1.out) hb); replace HZ2 := K_ (Kd.R_below (RB HZ2.out) hb); replace HB := zE HB hb; replace BK6 := zC BK6 hb; replace BK7 := zC BK7 hb; replace BK10 := zC BK10 hb; replace BK19 := zC BK19 hb; clear hb hbox hg)
            | ((with_reducible refine jC (p := 20) rfl ?_); refine so_ (g := g20) (cs := Z26) PN.cs ⟨BK BK20⟩ ?_ rfl rfl rfl rfl rfl yL rfl rfl; intro w9 hbk hfar hbel; replace HO1 := K_ (uA (RB HO1.out) (BK BK20) (by decide) hfar); replace HZ2 := K_ (uA (RB HZ2.out) (BK BK20) (by decide) hfar); replace BK6 := K_ (hfar g6 _ N6M.out (BK BK6)); replace BK7 := K_ (hfar g7 _ N7M.out (BK BK7)); replace BK10 := K_ (hfar g10 _ N10M.out (BK BK10)); replace BK19 := K_ (hfar g19 _ N19M.out (BK BK19)); replace BK20 := K_ hbk; replace HB := K_ (hbel _ _ GE20.out (BL HB)); clear hbk hfar hbel))
           rcases HNU.out with ⟨hE, hnum⟩ | ⟨hE, hno⟩
           ·obtain rfl := hE
            have HNUM := K_ hnum
            clear hnum q0 q1 q2 q3
            go_upto_region 52 with (first
             | (go_at_call 89; refine (zfp A2 c2 sf _ (Kd.R_reads' (RB HZ2.out)).2.2 (Kd.R_reads' HZ2.out).2.1 HSL.out).mono ?_; rintro e9 w' ⟨v2, ys, E3, a3, rfl, ho2, hb, hpost⟩; have HO2 := K_ (Kd.R_lower ho2 (zJ (BL HB))); have HPO2 := K_ hpost; replace HO1 := K_ (Kd.R_below (RB HO1.out) hb); replace HB := zE HB hb; replace BK6 := zC BK6 hb; replace BK7 := zC BK7 hb; replace BK10 := zC BK10 hb; replace BK19 := zC BK19 hb; replace BK20 := zC BK20 hb; clear hb ho2 hpost)
             | ((with_reducible refine jC (p := 19) rfl ?_); refine so_ (g := g19) (cs := Z51) #[.int .i64 E3, .int .i64 a3] ⟨BK BK19⟩ ?_ rfl rfl rfl rfl rfl uT rfl rfl; intro w9 hbk hfar hbel; replace HO1 := K_ (uA (RB HO1.out) (BK BK19) (by decide) hfar); replace HO2 := K_ (uA (RB HO2.out) (BK BK19) (by decide) hfar); replace BK6 := K_ (hfar g6 _ N6L.out (BK BK6)); replace BK7 := K_ (hfar g7 _ N7L.out (BK BK7)); replace BK10 := K_ (hfar g10 _ N10L.out (BK BK10)); replace BK20 := K_ (hfar g20 _ (Ne.symm N19M.out) (BK BK20)); replace BK19 := K_ hbk; replace HB := K_ (hbel _ _ GE19.out (BL HB)); clear hbk hfar hbel))
            obtain ⟨⟨q0, q1⟩, q2, q3⟩ := ce2 BK19
            rcases HPO2.out with ⟨hE, ha, hok, hxs⟩ | ⟨hE, hno⟩
            ·obtain rfl := hE
             obtain rfl := ha
             have HOK2 := K_ hok
             have HYS := K_ hxs
             clear hok hxs
             have HALL := K_ (show xW l PN from ⟨by rw [HBEG.out]; exact HKL.out, by rw [HBEG.out, ← HPR.out]; exact HOK1.out, by rw [HBEG.out, ← HEN.out, ← HTX.out]; exact HNUM.out, by rw [← HEN.out, ← HSF.out]; exact HOK2.out⟩)
             obtain ⟨B1, d1, rfl⟩ := Kd.R_slice HO1.out
             obtain ⟨B2, d2, rfl⟩ := Kd.R_slice HO2.out
             go_upto_region 54 with (fail)
             clear q0 q1 q2 q3
             refine vK (n := 13) (S := fun w' => w'.heap[g20]? = some (.cells PN.cs 26 (0, 0))) (ds := []) #[false, false, false, false, false, false, false, false, false, false, false, false, false] (by kernel_rfl) rfl rfl (BK BK20) (fun _ => ?_)
             refine yX (fun W => W.heap[g20]? = some (.cells PN.cs 26 (0, 0)) ∧ Kd.R k80 80 W w.heap.size (fun _ => True) (.slice B1 xs.length d1) xs ∧ Kd.R k80 80 W w.heap.size (fun _ => True) (.slice B2 ys.length d2) ys ∧ W.heap[g6]? = some (.cells Z76 76 (0, 0)) ∧ W.heap[g7]? = some (.cells Z51 51 (0, 0)) ∧ W.heap[g10]? = some (.cells (uU (.slice none 0 0) (.slice none 0 0) jO at_ pad 0) 76 (0, 0)) ∧ Below w.heap.size w W) ⟨BK BK20, RB HO1.out, RB HO2.out, BK BK6, BK BK7, BK BK10, BL HB⟩ ?_
             clear HO1 HO2 BK6 BK7 BK10 HB
             rintro W ⟨hHeld, ho1, ho2, hb6, hb7, hb10, hbw⟩
             have HO1 := K_ ho1
             have HO2 := K_ ho2
             have BK6 := K_ hb6
             have BK7 := K_ hb7
             have BK10 := K_ hb10
             have HB := K_ hbw
             clear ho1 ho2 hb6 hb7 hb10 hbw
             refine pu_ 0 (some 236) (bb 13 1) (by kernel_rfl) ?_
             refine pu_ 1 (some 237) (bb 13 3) (by kernel_rfl) ?_
             refine pu_ 3 (some 239) (bb 13 11) (by kernel_rfl) ?_
             refine pu_ 4 (some 240) (bb 13 27) (by kernel_rfl) ?_
             refine pu_ 5 (some 241) (bb 13 59) (by kernel_rfl) ?_
             refine take_ (i := 2) (N := some 238) (bb 13 63) rfl rfl (by kernel_rfl) (fun _ _ _ h => h) (v := .agg PN.cs) (Or.inl ⟨by rfl, fun w' hs => zaQ _ ⟨hs⟩ rfl rfl Tryz.underlying26 rfl yL⟩) hHeld (by simp only [Act.put, List.setIfInBounds_toArray, List.set_cons_zero, List.set_cons_succ]; rfl) ?_
             refine jP (i := 6) (N := none) (bb 13 127) rfl rfl (by kernel_rfl) (by decide) (fun K hK => ?_)
             have hs : W.cell? ⟨g10, 0, none⟩ = some (.slice none 0 0) := (zD BK10.out 0).trans rfl
             have hf := zK BK10.out 0
             refine zaz (w1 := W.setCell ⟨g10, 0, none⟩ (.slice B1 xs.length d1)) (by rfl) rfl (by go_simp; try rfl) ?_
             refine hK.out _ _ (zR hHeld (Ne.symm N10M.out) _) (fun _ => ?_)
             clear hK K hs hf
             refine yX (fun W => W.heap[g20]? = some (.cells PN.cs 26 (0, 0)) ∧ Kd.R k80 80 W w.heap.size (fun _ => True) (.slice B1 xs.length d1) xs ∧ Kd.R k80 80 W w.heap.size (fun _ => True) (.slice B2 ys.length d2) ys ∧ W.heap[g6]? = some (.cells Z76 76 (0, 0)) ∧ W.heap[g7]? = some (.cells Z51 51 (0, 0)) ∧ W.heap[g10]? = some (.cells (uU (.slice B1 xs.length d1) (.slice none 0 0) jO at_ pad 0) 76 (0, 0)) ∧ Below w.heap.size w W) ⟨zR hHeld (Ne.symm N10M.out) _, Kd.R_set HO1.out BK10.out (by decide) _ _, Kd.R_set HO2.out BK10.out (by decide) _ _, zR BK6.out N6.out _, zR BK7.out N7.out _, xS BK10.out rfl, BL HB⟩ ?_
             clear HO1 HO2 BK6 BK7 BK10 HB
             rintro W ⟨hHeld, ho1, ho2, hb6, hb7, hb10, hbw⟩
             have HO1 := K_ ho1
             have HO2 := K_ ho2
             have BK6 := K_ hb6
             have BK7 := K_ hb7
             have BK10 := K_ hb10
             have HB := K_ hbw
             clear ho1 ho2 hb6 hb7 hb10 hbw
             refine pu_ 7 (some 242) (bb 13 255) (by kernel_rfl) ?_
             refine jP (i := 8) (N := none) (bb 13 511) rfl rfl (by kernel_rfl) (by decide) (fun K hK => ?_)
             have hs : W.cell? ⟨g10, 1, none⟩ = some (.slice none 0 0) := (zD BK10.out 1).trans rfl
             have hf := zK BK10.out 1
             refine zaz (w1 := W.setCell ⟨g10, 1, none⟩ (.slice B2 ys.length d2)) (by rfl) rfl (by go_simp; try rfl) ?_
             refine hK.out _ _ (zR hHeld (Ne.symm N10M.out) _) (fun _ => ?_)
             clear hK K hs hf
             refine yX (fun W => W.heap[g20]? = some (.cells PN.cs 26 (0, 0)) ∧ Kd.R k80 80 W w.heap.size (fun _ => True) (.slice B1 xs.length d1) xs ∧ Kd.R k80 80 W w.heap.size (fun _ => True) (.slice B2 ys.length d2) ys ∧ W.heap[g6]? = some (.cells Z76 76 (0, 0)) ∧ W.heap[g7]? = some (.cells Z51 51 (0, 0)) ∧ W.heap[g10]? = some (.cells (uU (.slice B1 xs.length d1) (.slice B2 ys.length d2) jO at_ pad 0) 76 (0, 0)) ∧ Below w.heap.size w W) ⟨zR hHeld (Ne.symm N10M.out) _, Kd.R_set HO1.out BK10.out (by decide) _ _, Kd.R_set HO2.out BK10.out (by decide) _ _, zR BK6.out N6.out _, zR BK7.out N7.out _, xS BK10.out rfl, BL HB⟩ ?_
             clear HO1 HO2 BK6 BK7 BK10 HB
             rintro W ⟨hHeld, ho1, ho2, hb6, hb7, hb10, hbw⟩
             have HO1 := K_ ho1
             have HO2 := K_ ho2
             have BK6 := K_ hb6
             have BK7 := K_ hb7
             have BK10 := K_ hb10
             have HB := K_ hbw
             clear ho1 ho2 hb6 hb7 hb10 hbw
             refine pu_ 9 (some 243) (bb 13 1023) (by kernel_rfl) ?_
             refine jP (i := 10) (N := none) (bb 13 2047) rfl rfl (by kernel_rfl) (by decide) (fun K hK => ?_)
             refine znO (g := g10) (cs' := uU (.slice B1 xs.length d1) (.slice B2 ys.length d2) PN at_ pad 0) 2 PN.cs BK10 ?_ rfl rfl rfl rfl rfl yL (by show 22 ≤ 25; decide) rfl rfl
             intro w8 hbk hfar hbel
             refine hK.out _ _ (hfar g20 _ (Ne.symm N10M.out) hHeld) (fun _ => ?_)
             clear hK K
             refine yX (fun W => W.heap[g20]? = some (.cells PN.cs 26 (0, 0)) ∧ Kd.R k80 80 W w.heap.size (fun _ => True) (.slice B1 xs.length d1) xs ∧ Kd.R k80 80 W w.heap.size (fun _ => True) (.slice B2 ys.length d2) ys ∧ W.heap[g6]? = some (.cells Z76 76 (0, 0)) ∧ W.heap[g7]? = some (.cells Z51 51 (0, 0)) ∧ W.heap[g10]? = some (.cells (uU (.slice B1 xs.length d1) (.slice B2 ys.length d2) PN at_ pad 0) 76 (0, 0)) ∧ Below w.heap.size w W) ⟨hfar g20 _ (Ne.symm N10M.out) hHeld, uA HO1.out BK10.out (by decide) hfar, uA HO2.out BK10.out (by decide) hfar, hfar g6 _ N6.out BK6.out, hfar g7 _ N7.out BK7.out, hbk, hbel _ _ GE10.out HB.out⟩ ?_
             clear HO1 HO2 BK6 BK7 BK10 HB
             rintro W ⟨hHeld, ho1, ho2, hb6, hb7, hb10, hbw⟩
             have HO1 := K_ ho1
             have HO2 := K_ ho2
             have BK6 := K_ hb6
             have BK7 := K_ hb7
             have BK10 := K_ hb10
             have HB := K_ hbw
             clear ho1 ho2 hb6 hb7 hb10 hbw
             refine pu_ 11 (some 244) (bb 13 4095) (by kernel_rfl) ?_
             refine jP (i := 12) (N := none) (bb 13 8191) rfl rfl (by kernel_rfl) (by decide) (fun K hK => ?_)
             have hs : W.cell? ⟨g10, 24, none⟩ = some (.int .i64 0) := (zD BK10.out 24).trans rfl
             have hf := zK BK10.out 24
             refine zaz (w1 := W.setCell ⟨g10, 24, none⟩ (.int .i64 (tx.size : Int))) (by rfl) rfl (by go_simp; try rfl) ?_
             refine hK.out _ _ (zR hHeld (Ne.symm N10M.out) _) (fun _ => ?_)
             clear hK K hs hf
             refine yX (fun W => W.heap[g20]? = some (.cells PN.cs 26 (0, 0)) ∧ Kd.R k80 80 W w.heap.size (fun _ => True) (.slice B1 xs.length d1) xs ∧ Kd.R k80 80 W w.heap.size (fun _ => True) (.slice B2 ys.length d2) ys ∧ W.heap[g6]? = some (.cells Z76 76 (0, 0)) ∧ W.heap[g7]? = some (.cells Z51 51 (0, 0)) ∧ W.heap[g10]? = some (.cells (uU (.slice B1 xs.length d1) (.slice B2 ys.length d2) PN at_ pad (tx.size : Int)) 76 (0, 0)) ∧ Below w.heap.size w W) ⟨zR hHeld (Ne.symm N10M.out) _, Kd.R_set HO1.out BK10.out (by decide) _ _, Kd.R_set HO2.out BK10.out (by decide) _ _, zR BK6.out N6.out _, zR BK7.out N7.out _, xS BK10.out rfl, BL HB⟩ ?_
             clear HO1 HO2 BK6 BK7 BK10 HB
             rintro W ⟨hHeld, ho1, ho2, hb6, hb7, hb10, hbw⟩
             have HO1 := K_ ho1
             have HO2 := K_ ho2
             have BK6 := K_ hb6
             have BK7 := K_ hb7
             have BK10 := K_ hb10
             have HB := K_ hbw
             clear ho1 ho2 hb6 hb7 hb10 hbw
             refine vR (by kernel_rfl) ?_
             go_wp2_with (first
              | ((with_reducible refine zH (N := 245) rfl ?_); refine lo_ (g := g10) (cs := uU (.slice B1 xs.length d1) (.slice B2 ys.length d2) PN at_ pad (tx.size : Int)) _ ⟨BK BK10⟩ ?_ rfl rfl rfl Tryz.underlying76 rfl zbv)
              | ((with_reducible refine jC (p := 6) rfl ?_); refine so_ (g := g6) (cs := Z76) (uU (.slice B1 xs.length d1) (.slice B2 ys.length d2) PN at_ pad (tx.size : Int)) ⟨BK BK6⟩ ?_ rfl rfl rfl rfl rfl zbv rfl rfl; intro w9 hbk hfar hbel; replace HO1 := K_ (uA (RB HO1.out) (BK BK6) (by decide) hfar); replace HO2 := K_ (uA (RB HO2.out) (BK BK6) (by decide) hfar); replace BK7 := K_ (hfar g7 _ (Ne.symm NB.out) (BK BK7)); replace BK6 := K_ hbk; replace HB := K_ (hbel _ _ GE6.out (BL HB)); clear hbk hfar hbel)
              | ((with_reducible refine jC (p := 7) rfl ?_); refine so_ (g := g7) (cs := Z51) Z51 ⟨BK BK7⟩ ?_ rfl rfl rfl rfl rfl uT rfl rfl; intro w9 hbk hfar hbel; replace HO1 := K_ (uA (RB HO1.out) (BK BK7) (by decide) hfar); replace HO2 := K_ (uA (RB HO2.out) (BK BK7) (by decide) hfar); replace BK6 := K_ (hfar g6 _ NB.out (BK BK6)); replace BK7 := K_ hbk; replace HB := K_ (hbel _ _ GE7.out (BL HB)); clear hbk hfar hbel))
             refine bodyPost_ret (qO rfl _ _ g6 g7 76 51 (uU (.slice B1 xs.length d1) (.slice B2 ys.length d2) PN at_ pad (tx.size : Int)) Z51 (0, 0) (0, 0) _ _ rfl BK6.out Tryz.underlying76 rfl zbv rfl BK7.out Tryz.underlying51 rfl uT) rfl ?_
             exact ⟨_, _, xs, ys, PN, at_, pad, (tx.size : Int), 0, 0, rfl, HO1.out, HO2.out, BL HB, fun _ => ⟨HALL.out, by rw [HBEG.out, ← HPR.out]; exact HXS.out, by rw [← HEN.out, ← HSF.out]; exact HYS.out⟩, fun _ _ => rfl⟩
            have dE : (E3 != 0) = true := by simpa using hE
            have HEV := K_ hE
            have HE := K_ (show (∀ x ∈ l, x.f1 = false) → (∃ P, xW l P) → E3 = 0 by
             rintro _ ⟨P, h⟩; have := h.2.2.2; rw [← HEN.out, ← HSF.out, hno] at this; cases this)
            clear hE hno
            go_upto_region 53 with (fail)
            clear q0 q1 q2 q3
            refine vK (n := 4) (S := fun w' => w'.heap[g19]? = some (.cells #[.int .i64 E3, .int .i64 a3] 51 (0, 0))) (ds := []) #[false, false, false, false] (by kernel_rfl) rfl rfl (BK BK19) (fun hHeld => ?_)
            refine yX (fun W => W.heap[g19]? = some (.cells #[.int .i64 E3, .int .i64 a3] 51 (0, 0)) ∧ W.heap[g6]? = some (.cells Z76 76 (0, 0)) ∧ W.heap[g7]? = some (.cells Z51 51 (0, 0)) ∧ Below w.heap.size w W) ⟨BK BK19, BK BK6, BK BK7, BL HB⟩ ?_
            clear hHeld
            rintro W ⟨hHeld, hb6, hb7, hbw⟩
            replace BK6 := K_ hb6
            replace BK7 := K_ hb7
            replace HB := K_ hbw
            clear hb6 hb7 hbw
            refine pu_ 0 (some 234) (bb 4 1) (by kernel_rfl) ?_
            refine take_ (i := 1) (N := some 235) (bb 4 3) rfl rfl (by kernel_rfl) (fun _ _ _ h => h) (v := .agg #[.int .i64 E3, .int .i64 a3]) (Or.inl ⟨by rfl, fun w' hs => zaQ _ ⟨hs⟩ rfl rfl Tryz.underlying51 rfl uT⟩) hHeld (by simp only [Act.put, List.setIfInBounds_toArray, List.set_cons_zero, List.set_cons_succ]; rfl) ?_
            refine jP (i := 2) (N := none) (bb 4 7) rfl rfl (by kernel_rfl) (by decide) (fun K hK => ?_)
            refine uP (g := g6) (cs := Z76) Z76 BK6 ?_ rfl rfl rfl rfl rfl zbv rfl rfl
            intro w8 hbk hfar hbel
            have hHeld2 := hfar g19 _ (Ne.symm N6L.out) hHeld
            replace BK7 := K_ (hfar g7 _ (Ne.symm NB.out) BK7.out)
            replace BK6 := K_ hbk
            replace HB := K_ (hbel _ _ GE6.out HB.out)
            refine hK.out _ _ hHeld2 (fun _ => ?_)
            clear hK K hbk hfar hbel
            refine jP (i := 3) (N := none) (bb 4 15) rfl rfl (by kernel_rfl) (by decide) (fun K hK => ?_)
            refine uP (g := g7) (cs := Z51) #[.int .i64 E3, .int .i64 a3] BK7 ?_ rfl rfl rfl rfl rfl uT rfl rfl
            intro w9 hbk hfar hbel
            have hHeld3 := hfar g19 _ (Ne.symm N7L.out) hHeld2
            replace BK6 := K_ (hfar g6 _ NB.out BK6.out)
            replace BK7 := K_ hbk
            replace HB := K_ (hbel _ _ GE7.out HB.out)
            refine hK.out _ _ hHeld3 (fun _ => ?_)
            clear hK K hbk hfar hbel
            refine vR (by kernel_rfl) ?_
            go_wp2_with (fail)
            (
             refine bodyPost_ret (qO rfl _ _ g6 g7 76 51 Z76 #[.int .i64 E3, .int .i64 a3] (0, 0) (0, 0) _ _ rfl BK6.out Tryz.underlying76 rfl zbv rfl BK7.out Tryz.underlying51 rfl uT) rfl ?_
             exact ⟨_, _, [], [], jO, 0, 0, 0, E3, a3, rfl, Kd.R_nil _ _ _ _ _, Kd.R_nil _ _ _ _ _, BL HB, fun h => absurd h HEV.out, HE.out⟩)
           have dE : (E2 != 0) = true := by simpa using hE
           have HEV := K_ hE
           have HE := K_ (show (∀ x ∈ l, x.f1 = false) → (∃ P, xW l P) → E2 = 0 by
            rintro _ ⟨P, h⟩; have := h.2.2.1; rw [HBEG.out, ← HEN.out, ← HTX.out, hno] at this; cases this)
           clear hE hno
           have hkl := HKL.out
           obtain ⟨x9, hx9⟩ : ∃ x9, x9 = l[k] := ⟨_, rfl⟩
           obtain ⟨ad2, ea, h0, h1, h2, h3⟩ := zat (Kd.C_below HR.out HB.out) ((k : Nat) : Int) (by omega) (by omega)
           rw [zcy hkl, ← hx9] at h0 h1 h2 h3
           simp only [Int.toNat_natCast] at h0 h1 h2 h3
           obtain rfl := Option.some.inj ea
           clear hx9 ea
           have hbw : (ad.add (k * 4)).block < w.heap.size := by
            obtain ⟨ad3, ea3, h03, _⟩ := zat HR.out ((k : Nat) : Int) (by omega) (by omega)
            obtain rfl := Option.some.inj ea3
            simp only [Int.toNat_natCast] at h03
            exact World.block_lt_of_cell? _ _ h03
           have hi0 : (0 : Int) ≤ (k : Int) := by omega
           have hi1 : (k : Int) < (l.length : Int) := by omega
           clear q0 q1 q2 q3
           go_upto_region 50 with (fail)
           have hb6 : (ad.add (k * 4)).block ≠ g6 := Nat.ne_of_lt (Nat.lt_of_lt_of_le hbw GE6.out)
           have hb7 : (ad.add (k * 4)).block ≠ g7 := Nat.ne_of_lt (Nat.lt_of_lt_of_le hbw GE7.out)
           go_upto_region 50 with (fail)
           refine vK (n := 11) (S := fun w' => w'.cell? ⟨(ad.add (k * 4)).block, (ad.add (k * 4)).off + 2, none⟩ = some (.int .i64 x9.f0.f2)) (ds := []) #[false, false, false, false, false, false, false, false, false, false, false] (by kernel_rfl) rfl rfl h2 (fun hHeld => ?_)
           obtain ⟨W, hW⟩ : ∃ W, W = World.drew w9 := ⟨_, rfl⟩
           rw [← hW] at hHeld ⊢
           replace BK6 := K_ (show W.heap[g6]? = some (.cells Z76 76 (0, 0)) by rw [hW]; exact BK BK6)
           replace BK7 := K_ (show W.heap[g7]? = some (.cells Z51 51 (0, 0)) by rw [hW]; exact BK BK7)
           replace HB := K_ (show Below w.heap.size w W by rw [hW]; exact BL HB)
           clear hW h0 h1 h2 h3
           refine pu_ 0 (some 217) (bb 11 1) (by kernel_rfl) ?_
           refine pu_ 1 (some 218) (bb 11 3) (by kernel_rfl) ?_
           refine pu_ 2 (some 219) (bb 11 7) (by kernel_rfl) ?_
           refine pu_ 3 (some 220) (bb 11 15) (by kernel_rfl) ?_
           refine pu_ 4 (some 221) (bb 11 31) (by kernel_rfl) ?_
           refine pu_ 5 (some 222) (bb 11 63) (by kernel_rfl) ?_
           refine pu_ 6 (some 223) (bb 11 127) (by kernel_rfl) ?_
           refine tk_ 7 (some 224) (bb 11 255) (by kernel_rfl) hHeld ?_
           refine pu_ 8 (some 225) (bb 11 511) (by kernel_rfl) ?_
           refine jP (i := 9) (N := none) (bb 11 1023) rfl rfl (by kernel_rfl) (by decide) (fun K hK => ?_)
           refine uP (g := g6) (cs := Z76) Z76 BK6 ?_ rfl rfl rfl rfl rfl zbv rfl rfl
           intro w8 hbk hfar hbel
           have hHeld2 := zao hfar (p := ⟨(ad.add (k * 4)).block, (ad.add (k * 4)).off + 2, none⟩) hb6 hHeld
           replace BK7 := K_ (hfar g7 _ (Ne.symm NB.out) BK7.out)
           replace BK6 := K_ hbk
           replace HB := K_ (hbel _ _ GE6.out HB.out)
           refine hK.out _ _ hHeld2 (fun _ => ?_)
           clear hK K hbk hfar hbel
           refine jP (i := 10) (N := none) (bb 11 2047) rfl rfl (by kernel_rfl) (by decide) (fun K hK => ?_)
           refine uP (g := g7) (cs := Z51) #[.int .i64 E2, .int .i64 x9.f0.f2] BK7 ?_ rfl rfl rfl rfl rfl uT rfl rfl
           intro w9 hbk hfar hbel
           have hHeld3 := zao hfar (p := ⟨(ad.add (k * 4)).block, (ad.add (k * 4)).off + 2, none⟩) hb7 hHeld2
           replace BK6 := K_ (hfar g6 _ NB.out BK6.out)
           replace BK7 := K_ hbk
           replace HB := K_ (hbel _ _ GE7.out HB.out)
           refine hK.out _ _ hHeld3 (fun _ => ?_)
           clear hK K hbk hfar hbel
           refine vR (by kernel_rfl) ?_
           go_wp2_with (fail)
           (
            refine bodyPost_ret (qO rfl _ _ g6 g7 76 51 Z76 #[.int .i64 E2, .int .i64 x9.f0.f2] (0, 0) (0, 0) _ _ rfl BK6.out Tryz.underlying76 rfl zbv rfl BK7.out Tryz.underlying51 rfl uT) rfl ?_
            exact ⟨_, _, [], [], jO, 0, 0, 0, E2, x9.f0.f2, rfl, Kd.R_nil _ _ _ _ _, Kd.R_nil _ _ _ _ _, BL HB, fun h => absurd h HEV.out, HE.out⟩)
          have dE : (E1 != 0) = true := by simpa using hE
          have HEV := K_ hE
          have HE := K_ (show (∀ x ∈ l, x.f1 = false) → (∃ P, xW l P) → E1 = 0 by
           rintro _ ⟨P, h⟩; have := h.2.1; rw [HBEG.out, ← HPR.out, hno] at this; cases this)
          clear hE hno
          go_upto_region 47 with (fail)
          clear q0 q1 q2 q3
          refine vK (n := 4) (S := fun w' => w'.heap[g19]? = some (.cells #[.int .i64 E1, .int .i64 a1] 51 (0, 0))) (ds := []) #[false, false, false, false] (by kernel_rfl) rfl rfl (BK BK19) (fun hHeld => ?_)
          refine yX (fun W => W.heap[g19]? = some (.cells #[.int .i64 E1, .int .i64 a1] 51 (0, 0)) ∧ W.heap[g6]? = some (.cells Z76 76 (0, 0)) ∧ W.heap[g7]? = some (.cells Z51 51 (0, 0)) ∧ Below w.heap.size w W) ⟨BK BK19, BK BK6, BK BK7, BL HB⟩ ?_
          clear hHeld
          rintro W ⟨hHeld, hb6, hb7, hbw⟩
          replace BK6 := K_ hb6
          replace BK7 := K_ hb7
          replace HB := K_ hbw
          clear hb6 hb7 hbw
          refine pu_ 0 (some 208) (bb 4 1) (by kernel_rfl) ?_
          refine take_ (i := 1) (N := some 209) (bb 4 3) rfl rfl (by kernel_rfl) (fun _ _ _ h => h) (v := .agg #[.int .i64 E1, .int .i64 a1]) (Or.inl ⟨by rfl, fun w' hs => zaQ _ ⟨hs⟩ rfl rfl Tryz.underlying51 rfl uT⟩) hHeld (by simp only [Act.put, List.setIfInBounds_toArray, List.set_cons_zero, List.set_cons_succ]; rfl) ?_
          refine jP (i := 2) (N := none) (bb 4 7) rfl rfl (by kernel_rfl) (by decide) (fun K hK => ?_)
          refine uP (g := g6) (cs := Z76) Z76 BK6 ?_ rfl rfl rfl rfl rfl zbv rfl rfl
          intro w8 hbk hfar hbel
          have hHeld2 := hfar g19 _ (Ne.symm N6L.out) hHeld
          replace BK7 := K_ (hfar g7 _ (Ne.symm NB.out) BK7.out)
          replace BK6 := K_ hbk
          replace HB := K_ (hbel _ _ GE6.out HB.out)
          refine hK.out _ _ hHeld2 (fun _ => ?_)
          clear hK K hbk hfar hbel
          refine jP (i := 3) (N := none) (bb 4 15) rfl rfl (by kernel_rfl) (by decide) (fun K hK => ?_)
          refine uP (g := g7) (cs := Z51) #[.int .i64 E1, .int .i64 a1] BK7 ?_ rfl rfl rfl rfl rfl uT rfl rfl
          intro w9 hbk hfar hbel
          have hHeld3 := hfar g19 _ (Ne.symm N7L.out) hHeld2
          replace BK6 := K_ (hfar g6 _ NB.out BK6.out)
          replace BK7 := K_ hbk
          replace HB := K_ (hbel _ _ GE7.out HB.out)
          refine hK.out _ _ hHeld3 (fun _ => ?_)
          clear hK K hbk hfar hbel
          refine vR (by kernel_rfl) ?_
          go_wp2_with (fail)
          (
           refine bodyPost_ret (qO rfl _ _ g6 g7 76 51 Z76 #[.int .i64 E1, .int .i64 a1] (0, 0) (0, 0) _ _ rfl BK6.out Tryz.underlying76 rfl zbv rfl BK7.out Tryz.underlying51 rfl uT) rfl ?_
           exact ⟨_, _, [], [], jO, 0, 0, 0, E1, a1, rfl, Kd.R_nil _ _ _ _ _, Kd.R_nil _ _ _ _ _, BL HB, fun h => absurd h HEV.out, HE.out⟩)
     have hjl := zel hb
     have HR2 := K_ (show qH vG l (j + 1) = qH vG l k by rw [← ziP hb]; exact HRun.out)
     clear hb
     go_wp2
     go_roundw
     case rel => exact ⟨j + 1, by omega, by omega, by go_num, HR2.out, BK BK6, BK BK7, BL HB⟩
     case measure => simp [intOf]; omega
  obtain rfl : k = l.length := by omega
  have dlt : decide ((l.length : Int) < (l.length : Int)) = false := decide_eq_false (by omega)
  have HE := K_ (show (∀ x ∈ l, x.f1 = false) → (∃ P, xW l P) → (4 : Int) = 0 by
   rintro _ ⟨P, h⟩; have := h.1; rw [← HRun.out, zhS (Nat.le_refl _)] at this; omega)
  go_upto_if 40 with (fail)
  (
   go_wp2_with (first
    | ((with_reducible refine jC (p := 6) rfl ?_); refine so_ (g := g6) (cs := Z76) Z76 ⟨BK BK6⟩ ?_ rfl rfl rfl rfl rfl zbv rfl rfl; intro w9 hbk hfar hbel; replace BK7 := K_ (hfar g7 _ (Ne.symm (Aside0.out NB)) (BK BK7)); replace BK6 := K_ hbk; replace HB := K_ (hbel _ _ GE6.out (BL HB)); clear hbk hfar hbel)
    | ((with_reducible refine jC (p := 7) rfl ?_); refine so_ (g := g7) (cs := Z51) #[.int .i64 4, .int .i64 b0] ⟨BK BK7⟩ ?_ rfl rfl rfl rfl rfl uT rfl rfl; intro w9 hbk hfar hbel; replace BK6 := K_ (hfar g6 _ (Aside0.out NB) (BK BK6)); replace BK7 := K_ hbk; replace HB := K_ (hbel _ _ GE7.out (BL HB)); clear hbk hfar hbel))
   refine bodyPost_ret (qO rfl _ _ g6 g7 76 51 Z76 #[.int .i64 4, .int .i64 b0] (0, 0) (0, 0) _ _ rfl BK6.out Tryz.underlying76 rfl zbv rfl BK7.out Tryz.underlying51 rfl uT) rfl ?_
   exact ⟨_, _, [], [], jO, 0, 0, 0, 4, b0, rfl, Kd.R_nil _ _ _ _ _, Kd.R_nil _ _ _ _ _, BL HB, fun h => absurd h (by decide), HE.out⟩)
section
section
variable {P : Program} {ops : Array Oper} {rest : List Oper} {o : Oper} {a : Act} {Q : Exit → Act → World → Prop}
theorem zok {W : World} (N : Tmp) (n : Nat) (cs : Array Value) (t : TypeId) (h : ∀ g, g = W.heap.size → ∀ w1, w1.heap[g]? = some (.cells cs t (0, 0)) → Below W.heap.size W w1 → wpList P ops Q rest (a.put o.dst (.slice (some ⟨g, 0, none⟩) n n)) w1)
  (hd : o.dst = some N := by with_reducible rfl) (hgd : o.guard = none := by rfl) (hrun : (execOp a.eval o).run P W = .ok (.value (.slice (some ⟨W.heap.size, 0, none⟩) n n)) (W.alloc (.cells cs t (0, 0))) := by (first | (go_simp; done) | (go_simp; rfl))) : wpList P ops Q (o :: rest) a W :=
 Kd.event_run hgd hrun (h _ rfl _ (zbZ W _) (uG (Below.refl _ _) _))
end
theorem znM {l : List S80} {k : Nat} (h : k < l.length) : qG l (k : Int) = l[k] := by unfold qG; rw [Int.toNat_natCast, List.getD_eq_getElem?_getD, List.getElem?_eq_getElem h]; rfl
theorem zka {a : Int} {l : List S80} {j : Nat} (h : j < l.length) : zaZ a (l.take (j + 1)) = zaZ a (l.take j) + if l[j].f0 = a then 1 else 0 := by
 unfold zaZ
 rw [List.take_succ_eq_append_getElem h, List.countP_append, List.countP_cons, List.countP_nil, Nat.zero_add]
 congr 1
 by_cases e : l[j].f0 = a
 ·rw [if_pos e, if_pos (by simpa using e)]
 rw [if_neg e, if_neg (by simpa using e)]
theorem ziy (a : Int) (l : List S80) : zaZ a l ≤ l.length := List.countP_le_length
def zcx (a : Int) (L : List PL) (k : Nat) : Nat := ((L.take k).map fun x => zaZ a x.l).sum
theorem zgu {a : Int} {L : List PL} {k : Nat} (h : k < L.length) : zcx a L (k + 1) = zcx a L k + zaZ a (yQ L k).l := by
 unfold zcx; rw [zdR h]; simp
theorem ziL {a : Int} {L : List PL} (hl : ∀ k, k < L.length → (yQ L k).l.length ≤ 1000) : ∀ k, k ≤ L.length → zcx a L k ≤ 1000 * k
 | 0, _ => by simp [zcx]
 | k + 1, h => by have := ziL (a := a) hl k (by omega); have := hl k (by omega); have := ziy a (yQ L k).l; rw [zgu (by omega)]; omega
set_option maxHeartbeats 4000000 in
set_option maxRecDepth 100000 in
theorem zjy (q : Pat) (kd : Int) (w : World) (h0 : Kd.C k80 w q.A0 q.l0.length q.l0) (h1 : Kd.C k80 w q.A1 q.l1.length q.l1) (h3 : Kd.C k80 w q.A3 q.l3.length q.l3) (h4 : Kd.C k80 w q.A4 q.l4.length q.l4)
  (s0 : q.l0.length ≤ 1000) (s1 : q.l1.length ≤ 1000) (s3 : q.l3.length ≤ 1000) (s4 : q.l4.length ≤ 1000) :
  Calls Tryz.prog 53 #[.agg q.cs, .int .i64 kd] w fun e w' => e = .returned (.int .i64 ((sgn kd q.l0 q.l1 q.l3 q.l4 : Nat) : Int)) ∧ Below w.heap.size w w' := by
 have HB := K_ (Below.refl w.heap.size w)
 obtain ⟨L, hL⟩ : ∃ L : List PL, L = [⟨q.A0, q.c0, q.l0⟩, ⟨q.A1, q.c1, q.l1⟩, ⟨q.A3, q.c3, q.l3⟩, ⟨q.A4, q.c4, q.l4⟩] := ⟨_, rfl⟩
 have hk : ∀ k, k < 4 → (k = 0 ∧ yQ L k = ⟨q.A0, q.c0, q.l0⟩) ∨ (k = 1 ∧ yQ L k = ⟨q.A1, q.c1, q.l1⟩) ∨ (k = 2 ∧ yQ L k = ⟨q.A3, q.c3, q.l3⟩) ∨ (k = 3 ∧ yQ L k = ⟨q.A4, q.c4, q.l4⟩) := by
  intro k hk
  rw [hL]
  match k, hk with
  | 0, _ => exact .inl ⟨rfl, rfl⟩
  | 1, _ => exact .inr (.inl ⟨rfl, rfl⟩)
  | 2, _ => exact .inr (.inr (.inl ⟨rfl, rfl⟩))
  | 3, _ => exact .inr (.inr (.inr ⟨rfl, rfl⟩))
 have hlen : ∀ k, k < L.length → (yQ L k).l.length ≤ 1000 := by
  intro k h
  rcases hk k (by rw [hL] at h; exact h) with ⟨_, e⟩ | ⟨_, e⟩ | ⟨_, e⟩ | ⟨_, e⟩ <;> rw [e] <;> assumption
 have HR := K_ (show ∀ k, k < 4 → Kd.C k80 w (yQ L k).A (yQ L k).l.length (yQ L k).l ∧ (yQ L k).l.length ≤ 1000 ∧ zcx kd L (k + 1) = zcx kd L k + zaZ kd (yQ L k).l ∧ zcx kd L k ≤ 4000 from fun k h => by
  have hl : L.length = 4 := by rw [hL]; rfl
  refine ⟨?_, hlen k (by omega), zgu (by omega), by have := ziL (a := kd) hlen k (by omega); omega⟩
  rcases hk k h with ⟨_, e⟩ | ⟨_, e⟩ | ⟨_, e⟩ | ⟨_, e⟩ <;> rw [e] <;> assumption)
 have HT := K_ (show zcx kd L 4 = sgn kd q.l0 q.l1 q.l3 q.l4 by rw [hL]; unfold zcx sgn; simp; omega)
 have HK := K_ hk
 clear hL hk hlen h0 h1 h3 h4
 go_enter Tryz.func53, Tryz.ntmps53
 go_upto_region 2 with ((with_reducible refine zH (N := 2) rfl ?_); refine bx_ 2 q.cs 26 ?_ rfl rfl rfl rfl rfl; intro g2 hg w2 hbox hb; have BK2 := K_ hbox; replace HB := zE HB hb; clear hb hbox hg)
 have e0 : w2.cell? ⟨g2, 0, none⟩ = some (.slice q.A0 q.l0.length q.c0) := (zD BK2.out 0).trans rfl
 have e1 : w2.cell? ⟨g2, 1, none⟩ = some (.slice q.A1 q.l1.length q.c1) := (zD BK2.out 1).trans rfl
 have e3 : w2.cell? ⟨g2, 3, none⟩ = some (.slice q.A3 q.l3.length q.c3) := (zD BK2.out 3).trans rfl
 have e4 : w2.cell? ⟨g2, 4, none⟩ = some (.slice q.A4 q.l4.length q.c4) := (zD BK2.out 4).trans rfl
 go_wp2_with ((with_reducible refine zH (N := 17) rfl ?_); refine zok 17 4 #[.slice q.A0 q.l0.length q.c0, .slice q.A1 q.l1.length q.c1, .slice q.A3 q.l3.length q.c3, .slice q.A4 q.l4.length q.c4] 24 ?_; intro g17 hg w3 hbox hb; have BK17 := K_ hbox; replace HB := zE HB hb; clear hb hbox hg)
 clear e0 e1 e3 e4
 have HC := K_ (show ∀ k, k < 4 → w3.cell? ⟨g17, k, none⟩ = some (.slice (yQ L k).A (yQ L k).l.length (yQ L k).c) from fun k h => by
  rcases HK.out k h with ⟨rfl, e⟩ | ⟨rfl, e⟩ | ⟨rfl, e⟩ | ⟨rfl, e⟩ <;> rw [e] <;> exact (zD BK17.out _).trans rfl)
 go_loop [5, 19] (fun n i => ∃ j : Nat, j ≤ 4 ∧ i = .int .i64 j ∧ n = .int .i64 (zcx kd L j)) (fun _ i => 4 - (intOf i).toNat)
 case atStart => exact ⟨0, by omega, rfl, rfl⟩
 case round =>
  obtain ⟨j, hj, rfl, rfl⟩ := hrel
  by_cases hlt : j < 4
  ·have hc := HC.out j hlt
   obtain ⟨hq, hql, hqs, hqt⟩ := HR.out j hlt
   have HQS := K_ hqs
   have HQ := K_ (Kd.C_below hq HB.out)
   have dlt : decide ((j : Int) < 4) = true := decide_eq_true (by omega)
   clear hq hqs
   go_wp2
   go_loop [5, 8] (fun n i => ∃ t : Nat, t ≤ (yQ L j).l.length ∧ i = .int .i64 t ∧ n = .int .i64 ((zcx kd L j + zaZ kd ((yQ L j).l.take t) : Nat) : Int)) (fun _ i => (yQ L j).l.length - (intOf i).toNat)
   case atStart => exact ⟨0, by omega, rfl, by rw [List.take_zero]; rfl⟩
   case round =>
    obtain ⟨t, ht, rfl, rfl⟩ := hrel
    by_cases htl : t < (yQ L j).l.length
    ·obtain ⟨x, hx⟩ : ∃ x, x = (yQ L j).l[t] := ⟨_, rfl⟩
     obtain ⟨ad, ea, hx0, hx1⟩ := zic HQ.out (t : Int) (by omega) (by omega)
     rw [znM htl, ← hx] at hx0 hx1
     simp only [Int.toNat_natCast] at hx0 hx1
     have HA := K_ ea
     have hs := zka (a := kd) htl
     rw [← hx] at hs
     have HS := K_ hs
     have hb : zaZ kd ((yQ L j).l.take t) ≤ 1000 := Nat.le_trans (ziy _ _) (by rw [List.length_take]; omega)
     have dt : decide ((t : Int) < ((yQ L j).l.length : Int)) = true := decide_eq_true (by omega)
     clear hs hx
     rw [ea] at hc
     rw [HA.out]
     by_cases hk : x.f0 = kd
     ·have dk : (x.f0 == kd) = true := beq_iff_eq.2 hk
      have HS2 := K_ (show zaZ kd ((yQ L j).l.take (t + 1)) = zaZ kd ((yQ L j).l.take t) + 1 by rw [HS.out, if_pos hk])
      clear hk
      go_wp2
      go_round
      case rel => exact ⟨t + 1, by omega, by go_num, by rw [HS2.out]; go_num⟩
      case measure => simp [intOf]; omega
     have dk : (x.f0 == kd) = false := beq_eq_false_iff_ne.2 hk
     have HS2 := K_ (show zaZ kd ((yQ L j).l.take (t + 1)) = zaZ kd ((yQ L j).l.take t) by rw [HS.out, if_neg hk, Nat.add_zero])
     clear hk
     go_wp2
     go_round
     case rel => exact ⟨t + 1, by omega, by go_num, by rw [HS2.out]⟩
     case measure => simp [intOf]; omega
    obtain rfl : t = (yQ L j).l.length := by omega
    have dt : decide (((yQ L j).l.length : Int) < ((yQ L j).l.length : Int)) = false := decide_eq_false (by omega)
    go_wp2
    go_round
    case rel => exact ⟨j + 1, by omega, by go_num, by rw [HQS.out, List.take_length]⟩
    case measure => simp [intOf]; omega
  obtain rfl : j = 4 := by omega
  go_wp2
  go_ret
  exact ⟨by rw [HT.out]; rfl, HB.out⟩
theorem zdx (A0 A1 A3 A4 : Option Addr) (c0 c1 c3 c4 : Nat) (a b c d : List S80) (hn : Bool) (P : yK) (at_ pad wd kd : Int) (w : World) {b0 : Nat} {ok : Nat → Prop}
  (h0 : Kd.R k80 80 w b0 ok (.slice A0 a.length c0) a) (h1 : Kd.R k80 80 w b0 ok (.slice A1 b.length c1) b) (h3 : Kd.R k80 80 w b0 ok (.slice A3 c.length c3) c) (h4 : Kd.R k80 80 w b0 ok (.slice A4 d.length c4) d)
  (ha : a.length ≤ 1000) (hb : b.length ≤ 1000) (hc : c.length ≤ 1000) (hd : d.length ≤ 1000) :
  Calls Tryz.prog 53 #[.agg (xX (.slice A0 a.length c0) (.slice A1 b.length c1) hn (.slice A3 c.length c3) (.slice A4 d.length c4) P at_ pad wd), .int .i64 kd] w fun e w' => e = .returned (.int .i64 ((sgn kd a b c d : Nat) : Int)) ∧ Below w.heap.size w w' :=
 zjy ⟨A0, A1, A3, A4, c0, c1, c3, c4, a, b, c, d, hn, P, at_, pad, wd⟩ kd w (Kd.R_reads' h0).2.2 (Kd.R_reads' h1).2.2 (Kd.R_reads' h3).2.2 (Kd.R_reads' h4).2.2 ha hb hc hd
end
set_option maxHeartbeats 16000000 in
set_option maxRecDepth 100000 in
theorem zjQ (s : ByteArray) (hs : s.size ≤ 1048576) (w : World) : Calls Tryz.prog 31 #[.string s] w (zlo s w) := by
 obtain ⟨⟨l, E1, a1⟩, hEv, h4⟩ := zlB s hs
 obtain ⟨K0, hK0⟩ := Ev.rounds hEv
 have HK := K_ hK0
 have HEV1 := K_ hEv
 have H4 := K_ (show E1 = 0 → l.length ≤ 400 from h4)
 have HB := K_ (Below.refl w.heap.size w)
 clear hs hEv hK0 h4
 go_enter Tryz.func31, Tryz.ntmps31
 go_upto_region 2 with (first
  | ((with_reducible refine zH (N := 2) rfl ?_); refine be_ 2 Z26 26 ?_; intro g2 hg w2 hbox hb; have BK2 := K_ hbox; have GE2 := ge_ hg HB; replace HB := zE HB hb; clear hb hbox hg)
  | ((with_reducible refine zH (N := 3) rfl ?_); refine be_ 3 Z51 51 ?_; intro g3 hg w4 hbox hb; have BK3 := K_ hbox; have GE3 := ge_ hg HB; have NB := nb_ hg BK2; replace BK2 := zC BK2 hb; replace HB := zE HB hb; clear hb hbox hg)
  | (go_at_call 55; refine (zF.calls K0 s l E1 a1 _ HK.out).mono ?_; rintro e9 w' ⟨v0, rfl, ho, hb⟩; have HO := K_ (Kd.R_lower ho (zJ (BL HB))); replace HB := zE HB hb; replace BK2 := zC BK2 hb; replace BK3 := zC BK3 hb; clear hb ho)
  | ((with_reducible refine zH (N := 5) rfl ?_); refine be_ 5 Z51 51 ?_; intro g5 hg w10 hbox hb; have BK5 := K_ hbox; have GE5 := ge_ hg HB; have N2F := nb_ hg BK2; have N3F := nb_ hg BK3; replace HO := K_ (Kd.R_below (RB HO.out) hb); replace HB := zE HB hb; replace BK2 := zC BK2 hb; replace BK3 := zC BK3 hb; clear hb hbox hg)
  | ((with_reducible refine jC (p := 5) rfl ?_); refine so_ (g := g5) (cs := Z51) #[.int .i64 E1, .int .i64 a1] ⟨BK BK5⟩ ?_ rfl rfl rfl rfl rfl uT rfl rfl; intro w9 hbk hfar hbel; replace HO := K_ (uA (RB HO.out) (BK BK5) (by decide) hfar); replace BK2 := K_ (hfar g2 _ N2F.out (BK BK2)); replace BK3 := K_ (hfar g3 _ N3F.out (BK BK3)); replace BK5 := K_ hbk; replace HB := K_ (hbel _ _ GE5.out (BL HB)); clear hbk hfar hbel))
 obtain ⟨⟨q0, q1⟩, q2, q3⟩ := ce2 BK5
 by_cases hE : E1 = 0
 ·subst hE
  have HL := K_ (H4.out rfl)
  clear H4
  go_upto_region 4 with (fail)
  clear q0 q1 q2 q3
  obtain ⟨A1, c1, rfl⟩ := Kd.R_slice HO.out
  go_wp2_with (fail)
  go_loopw [6, 7] (fun v i wr => ∃ (k : Nat) (xs : List S73), k ≤ l.length ∧ i = .int .i64 k ∧ xs.length ≤ k ∧ Kd.R k71 71 wr w.heap.size (fun _ => True) (.slice A1 l.length c1) l ∧ Kd.R k73 73 wr w.heap.size (fun _ => True) v xs ∧ (xR l → xs = (l.take k).map mk73) ∧ wr.heap[g5]? = some (.cells #[.int .i64 0, .int .i64 a1] 51 (0, 0)) ∧ wr.heap[g2]? = some (.cells Z26 26 (0, 0)) ∧ wr.heap[g3]? = some (.cells Z51 51 (0, 0)) ∧ Below w.heap.size w wr) (fun _ i _ => l.length - (intOf i).toNat)
  case atStart => exact ⟨0, [], by omega, rfl, Nat.le_refl _, RB HO.out, Kd.R_nil _ _ _ _ _, fun _ => rfl, BK BK5, BK BK2, BK BK3, BL HB⟩
  case round =>
   obtain ⟨k, xs, hk, rfl, hxl, ho, hz, hst, hb5, hb2, hb3, hbw⟩ := hrel
   replace HO := K_ ho
   have HZ := K_ hz
   have HST := K_ hst
   replace BK5 := K_ hb5
   replace BK2 := K_ hb2
   replace BK3 := K_ hb3
   replace HB := K_ hbw
   clear ho hz hst hb5 hb2 hb3 hbw
   have hll := HL.out
   have hcl := (Kd.R_reads' HO.out).2.1
   by_cases hlt : k < l.length
   ·obtain ⟨x, hx⟩ : ∃ x, x = l[k] := ⟨_, rfl⟩
    obtain ⟨ad, ea, h0, h1, h2⟩ := zhD (Kd.R_reads' HO.out).2.2 (k : Int) (by omega) (by omega)
    rw [zlH hlt, ← hx] at h0 h1 h2
    simp only [Int.toNat_natCast] at h0 h1 h2
    subst ea
    have HX := K_ hx
    clear hx
    have dlt : decide (((k : Nat) : Int) < (l.length : Int)) = true := decide_eq_true (by omega)
    go_upto_region 9 with (first
     | ((with_reducible refine zH (N := 8) rfl ?_); refine be_ 8 #[.int .i32 0, .bool false, .int .i64 0, .bool false] 73 ?_; intro g8 hg w10 hbox hb; have BK8 := K_ hbox; have GE8 := ge_ hg HB; have N5E := nb_ hg BK5; have N2E := nb_ hg BK2; have N3E := nb_ hg BK3; replace HZ := K_ (Kd.R_below (Kd.R_elderB (RB HZ.out) g8 (Nat.le_of_eq hg.symm)) hb); replace HO := K_ (Kd.R_below (RB HO.out) hb); replace HB := zE HB hb; replace BK2 := zC BK2 hb; replace BK3 := zC BK3 hb; replace BK5 := zC BK5 hb; clear hb hbox hg)
     | ((with_reducible refine jC (p := 8) rfl ?_); refine so_ (g := g8) (cs := #[.int .i32 0, .bool false, .int .i64 0, .bool false]) #[.int .i32 x.f0, .bool x.f1, .int .i64 x.f2, .bool false] ⟨BK BK8⟩ ?_ rfl rfl rfl rfl rfl zhi rfl rfl; intro w9 hbk hfar hbel; replace BK5 := K_ (hfar g5 _ N5E.out (BK BK5)); replace BK2 := K_ (hfar g2 _ N2E.out (BK BK2)); replace BK3 := K_ (hfar g3 _ N3E.out (BK BK3)); replace HO := K_ (uA (RB HO.out) (BK BK8) (by decide) hfar); replace HZ := K_ (zme (ok := fun q => True ∧ q ≠ g8) (RB HZ.out) (fun q hq => hq.2) hfar); replace BK8 := K_ hbk; replace HB := K_ (hbel _ _ GE8.out (BL HB)); clear hbk hfar hbel))
    obtain ⟨A3, c3, rfl⟩ := Kd.R_slice HZ.out
    cases hstar : zak (mk73 x) 42
    ·have HC : ∀ W, Aside0 (Calls Tryz.prog 56 #[.agg #[.int .i32 x.f0, .bool x.f1, .int .i64 x.f2, .bool false], .int .i32 42] W fun e w' => e = .returned (.bool false) ∧ Below W.heap.size W w') := fun W => ⟨by have h := zbs (mk73 x) 42 W; rw [hstar] at h; exact h⟩
     have HST2 := K_ (show xR l → xs ++ [mk73 x] = (l.take (k + 1)).map mk73 from fun h => by rw [zmN hlt, ← HX.out, HST.out h])
     have HN5 := K_ (Kd.R_ne HZ.out BK5.out (by decide))
     have HN2 := K_ (Kd.R_ne HZ.out BK2.out (by decide))
     have HN3 := K_ (Kd.R_ne HZ.out BK3.out (by decide))
     have HLN := K_ (show (xs.length + 1) * 24 ≤ 140737488355328 by omega)
     clear hstar h0 h1 h2
     go_wp2_with (first
      | ((with_reducible refine zH (N := 37) rfl ?_); refine lo_ (g := g8) (cs := #[.int .i32 x.f0, .bool x.f1, .int .i64 x.f2, .bool false]) _ ⟨BK BK8⟩ ?_ rfl rfl rfl Tryz.underlying73 rfl zhi)
      | ((with_reducible refine zH (N := 61) rfl ?_); refine lo_ (g := g8) (cs := #[.int .i32 x.f0, .bool x.f1, .int .i64 x.f2, .bool false]) _ ⟨BK BK8⟩ ?_ rfl rfl rfl Tryz.underlying73 rfl zhi)
      | (go_at_call 56; refine ((HC _).out).mono ?_; rintro e w' ⟨rfl, hb⟩; replace HO := K_ (Kd.R_below (RB HO.out) hb); replace HZ := K_ (Kd.R_below (RB HZ.out) hb); replace HB := zE HB hb; replace BK2 := zC BK2 hb; replace BK3 := zC BK3 hb; replace BK5 := zC BK5 hb; replace BK8 := zC BK8 hb; clear hb)
      | ((with_reducible refine jJ (b := .append) (xs := #[.tmp 60, .tmp 62]) rfl ?_); at_builtin; (refine Kd.R_append k73 (w0 := w) w.heap.size rfl (.tmp 60) (.tmp 62) 69 73 (.agg #[(.int .i32 0), (.bool false), (.int .i64 0), (.bool false)]) 24 rfl Tryz.underlying69 zhB rfl (by decide) (by omega) (.slice A3 xs.length c3) xs (mk73 x) [.int .i32 x.f0, .bool x.f1, .int .i64 x.f2, .bool false] (fun q => True ∧ q ≠ g8) (fun _ => False) rfl (by first | (go_simp; done) | (go_simp; rfl)) (ziN _ _ _ (mk73 x)) (fun _ hk => hk.elim) ?aF ?aO ?aB ?aS ?aL ?_; (case aF => exact fun q hq => ⟨trivial, fun he => absurd (zcr (BK BK8)) (Nat.not_lt.2 (he ▸ hq))⟩); (case aO => exact RB HZ.out); (case aB => exact BL HB); (case aS => exact zJ (BL HB)); (case aL => exact HLN.out); intro v1 w5 ho2 hb2 hg2 hat2; have HO3 := K_ (Kd.R_mono (ok' := fun _ => True) ho2 (fun _ _ => trivial)); replace HO := K_ (Kd.R_over (RB HO.out) (RB HZ.out) (by decide) hg2); have BK5a := K_ (yY (BK BK5) hg2 HN5.out); have BK2a := K_ (yY (BK BK2) hg2 HN2.out); have BK3a := K_ (yY (BK BK3) hg2 HN3.out); replace HB := K_ hb2; clear ho2 hb2 hg2 hat2)))
     go_roundw
     case rel => exact ⟨k + 1, xs ++ [mk73 x], by omega, by go_num, by rw [List.length_append]; simp; omega, RB HO.out, RB HO3.out, HST2.out, BK BK5a, BK BK2a, BK BK3a, BL HB⟩
     case measure => simp [intOf]; omega
    have HC : ∀ W, Aside0 (Calls Tryz.prog 56 #[.agg #[.int .i32 x.f0, .bool x.f1, .int .i64 x.f2, .bool false], .int .i32 42] W fun e w' => e = .returned (.bool true) ∧ Below W.heap.size W w') := fun W => ⟨by have h := zbs (mk73 x) 42 W; rw [hstar] at h; exact h⟩
    have HNS := K_ (show xR l → False from fun h => by have := h l[k] (List.getElem_mem hlt); rw [← HX.out, hstar] at this; cases this)
    clear hstar h0 h1 h2
    go_upto_region 10 with (first
     | ((with_reducible refine zH (N := 37) rfl ?_); refine lo_ (g := g8) (cs := #[.int .i32 x.f0, .bool x.f1, .int .i64 x.f2, .bool false]) _ ⟨BK BK8⟩ ?_ rfl rfl rfl Tryz.underlying73 rfl zhi)
     | (go_at_call 56; refine ((HC _).out).mono ?_; rintro e w' ⟨rfl, hb⟩; replace HO := K_ (Kd.R_below (RB HO.out) hb); replace HZ := K_ (Kd.R_below (RB HZ.out) hb); replace HB := zE HB hb; replace BK2 := zC BK2 hb; replace BK3 := zC BK3 hb; replace BK5 := zC BK5 hb; replace BK8 := zC BK8 hb; clear hb))
    have hwk : IntKind.i64.wrap ((k : Int) + 1) = (k : Int) + 1 := by rw [IntKind.wrap_i64]; omega
    by_cases hl1 : k + 1 = l.length
    ·have de : ((k : Int) + 1 == (l.length : Int)) = true := beq_iff_eq.2 (by omega)
     go_upto_region 11 with (fail)
     have HEV := K_ (show (7 : Int) ≠ 0 by decide)
     have HE := K_ (show ∀ l', Ev (fun k => zF.f k s) (l', 0, 0) → xR l' → zas l' → ∀ P0, xW (l'.map mk73) P0 → ¬ mixed (jL (uJ (l'.map mk73) (qD (l'.map mk73)) l'.length)) (jL (uI (l'.map mk73) (uV (l'.map mk73)) l'.length)) (⟨2, 0⟩ :: jL (uJ (l'.map mk73) (qD (l'.map mk73)) l'.length)) (jL (uI (l'.map mk73) (uV (l'.map mk73)) l'.length)) → False from fun l' h1 hns _ _ _ _ => (HNS.out (by have e := zdj h1 HEV1.out; have e2 : l' = l := congrArg (fun r => r.1) e; rw [← e2]; exact hns)))
     refine vK (n := 7) (S := fun w' => w'.cell? ⟨g8, 2, none⟩ = some (.int .i64 x.f2)) (ds := []) #[false, false, false, false, false, false, false] (by kernel_rfl) rfl rfl ((zD (BK BK8) 2).trans rfl) (fun hHeld => ?_)
     refine yX (fun W => W.cell? ⟨g8, 2, none⟩ = some (.int .i64 x.f2) ∧ W.heap[g2]? = some (.cells Z26 26 (0, 0)) ∧ W.heap[g3]? = some (.cells Z51 51 (0, 0)) ∧ Below w.heap.size w W) ⟨((zD (BK BK8) 2).trans rfl), BK BK2, BK BK3, BL HB⟩ ?_
     clear hHeld
     rintro W ⟨hHeld, hb2, hb3, hbw⟩
     replace BK2 := K_ hb2
     replace BK3 := K_ hb3
     replace HB := K_ hbw
     clear hb2 hb3 hbw
     refine pu_ 0 (some 44) (bb 7 1) (by kernel_rfl) ?_
     refine pu_ 1 (some 45) (bb 7 3) (by kernel_rfl) ?_
     refine pu_ 2 (some 46) (bb 7 7) (by kernel_rfl) ?_
     refine tk_ 3 (some 47) (bb 7 15) (by kernel_rfl) hHeld ?_
     refine pu_ 4 (some 48) (bb 7 31) (by kernel_rfl) ?_
     refine jP (i := 5) (N := none) (bb 7 63) rfl rfl (by kernel_rfl) (by decide) (fun K hK => ?_)
     refine uP (g := g2) (cs := Z26) Z26 BK2 ?_ rfl rfl rfl rfl rfl yL rfl rfl
     intro w8 hbk hfar hbel
     have hHeld2 := zao hfar (p := ⟨g8, 2, none⟩) (Ne.symm N2E.out) hHeld
     replace BK3 := K_ (hfar g3 _ (Ne.symm NB.out) BK3.out)
     replace BK2 := K_ hbk
     replace HB := K_ (hbel _ _ GE2.out HB.out)
     refine hK.out _ _ hHeld2 (fun _ => ?_)
     clear hK K hbk hfar hbel
     refine jP (i := 6) (N := none) (bb 7 127) rfl rfl (by kernel_rfl) (by decide) (fun K hK => ?_)
     refine uP (g := g3) (cs := Z51) #[.int .i64 7, .int .i64 x.f2] BK3 ?_ rfl rfl rfl rfl rfl uT rfl rfl
     intro w9 hbk hfar hbel
     have hHeld3 := zao hfar (p := ⟨g8, 2, none⟩) (Ne.symm N3E.out) hHeld2
     replace BK2 := K_ (hfar g2 _ NB.out BK2.out)
     replace BK3 := K_ hbk
     replace HB := K_ (hbel _ _ GE3.out HB.out)
     refine hK.out _ _ hHeld3 (fun _ => ?_)
     clear hK K hbk hfar hbel
     refine vR (by kernel_rfl) ?_
     go_wp2_with (fail)
     (
      refine bodyPost_ret (qO rfl _ _ g2 g3 26 51 Z26 #[.int .i64 7, .int .i64 x.f2] (0, 0) (0, 0) _ _ rfl BK2.out Tryz.underlying26 rfl yL rfl BK3.out Tryz.underlying51 rfl uT) rfl ?_
      exact ⟨_, _, _, _, [], [], [], [], jO, false, 0, 0, 0, 7, x.f2, rfl, Kd.R_nil _ _ _ _ _, Kd.R_nil _ _ _ _ _, Kd.R_nil _ _ _ _ _, Kd.R_nil _ _ _ _ _, BL HB, fun h => absurd h HEV.out, fun l' h1 h2 h3 P0 h4 h5 => (HE.out l' h1 h2 h3 P0 h4 h5).elim⟩)
    have de : ((k : Int) + 1 == (l.length : Int)) = false := beq_eq_false_iff_ne.2 (by omega)
    obtain ⟨⟨c0, c1', c2, c3'⟩, f0, f1, f2, f3⟩ := ce4 BK8
    have hlt2 : k + 1 < l.length := by omega
    obtain ⟨ad2, ea, h0, h1, h2⟩ := zhD (Kd.R_reads' HO.out).2.2 ((k + 1 : Nat) : Int) (by omega) (by omega)
    obtain ⟨y, hy⟩ : ∃ y, y = l[k + 1] := ⟨_, rfl⟩
    rw [zlH hlt2, ← hy] at h0 h1 h2
    simp only [Int.toNat_natCast] at h0 h1 h2
    obtain rfl := Option.some.inj ea
    have hn1 : ((k : Int) + 1).toNat = k + 1 := by omega
    have H8 := K_ (Kd.R_ne HO.out BK8.out (by decide))
    have hbn : (ad.add ((k + 1) * 3)).block ≠ g8 := by
     rw [zcO]; intro e; exact H8.out (by simp [Value.ownBlock, e])
    have hfar2 : ∀ (W : World) j v, (W.setCell ⟨g8, j, none⟩ v).cell? (ad.add ((k + 1) * 3)) = W.cell? (ad.add ((k + 1) * 3)) := fun W j v => jD hbn v
    have hi0 : (0 : Int) ≤ (k : Int) + 1 := by omega
    have hi1 : (k : Int) + 1 < (l.length : Int) := by omega
    clear hy ea h1 h2
    go_upto_region 14 with (fail)
    have hfar : ∀ k o, k ≠ g8 → w'.heap[k]? = some o → ((w'.setCell ⟨g8, 3, none⟩ (.bool true)).setCell ⟨g8, 0, none⟩ (.int .i32 y.f0)).heap[k]? = some o := fun k o hk e => (Below.heap_setCell _ _ _ _ hk).trans ((Below.heap_setCell _ _ _ _ hk).trans e)
    refine zbp (fun W => Kd.R k71 71 W w.heap.size (fun _ => True) (.slice (some ad) l.length c1) l ∧ Kd.R k73 73 W w.heap.size (fun q => True ∧ q ≠ g8) (.slice A3 xs.length c3) xs ∧ W.heap[g5]? = some (.cells #[.int .i64 0, .int .i64 a1] 51 (0, 0)) ∧ W.heap[g2]? = some (.cells Z26 26 (0, 0)) ∧ W.heap[g3]? = some (.cells Z51 51 (0, 0)) ∧ W.heap[g8]? = some (.cells #[.int .i32 y.f0, .bool x.f1, .int .i64 x.f2, .bool true] 73 (0, 0)) ∧ Below w.heap.size w W) ⟨uA (RB HO.out) (BK BK8) (by decide) hfar, zme (ok := fun q => True ∧ q ≠ g8) (RB HZ.out) (fun q hq => hq.2) hfar, hfar g5 _ N5E.out (BK BK5), hfar g2 _ N2E.out (BK BK2), hfar g3 _ N3E.out (BK BK3), BP BK8, BL HB⟩ ?_
    clear hfar HO HZ BK5 BK2 BK3 BK8 HB f0 f1 f2 f3 c0 c1' c2 c3' H8 hbn hfar2 h0
    rintro W ⟨ho, hz, hb5, hb2, hb3, hb8, hbw⟩
    have HO := K_ ho
    have HZ := K_ hz
    have BK5 := K_ hb5
    have BK2 := K_ hb2
    have BK3 := K_ hb3
    have BK8 := K_ hb8
    have HB := K_ hbw
    clear ho hz hb5 hb2 hb3 hb8 hbw
    have HN5 := K_ (Kd.R_ne HZ.out BK5.out (by decide))
    have HN2 := K_ (Kd.R_ne HZ.out BK2.out (by decide))
    have HN3 := K_ (Kd.R_ne HZ.out BK3.out (by decide))
    have HLN := K_ (show (xs.length + 1) * 24 ≤ 140737488355328 by omega)
    go_wp2_with (first
     | ((with_reducible refine zH (N := 61) rfl ?_); refine lo_ (g := g8) (cs := #[.int .i32 y.f0, .bool x.f1, .int .i64 x.f2, .bool true]) _ ⟨BK BK8⟩ ?_ rfl rfl rfl Tryz.underlying73 rfl zhi)
     | ((with_reducible refine jJ (b := .append) (xs := #[.tmp 60, .tmp 62]) rfl ?_); at_builtin; (refine Kd.R_append k73 (w0 := w) w.heap.size rfl (.tmp 60) (.tmp 62) 69 73 (.agg #[(.int .i32 0), (.bool false), (.int .i64 0), (.bool false)]) 24 rfl Tryz.underlying69 zhB rfl (by decide) (by omega) (.slice A3 xs.length c3) xs (⟨⟨y.f0, x.f1, x.f2⟩, true⟩ : S73) [.int .i32 y.f0, .bool x.f1, .int .i64 x.f2, .bool true] (fun q => True ∧ q ≠ g8) (fun _ => False) rfl (by first | (go_simp; done) | (go_simp; rfl)) (ziN _ _ _ (⟨⟨y.f0, x.f1, x.f2⟩, true⟩ : S73)) (fun _ hk => hk.elim) ?aF ?aO ?aB ?aS ?aL ?_; (case aF => exact fun q hq => ⟨trivial, fun he => absurd (zcr (BK BK8)) (Nat.not_lt.2 (he ▸ hq))⟩); (case aO => exact RB HZ.out); (case aB => exact BL HB); (case aS => exact zJ (BL HB)); (case aL => exact HLN.out); intro v1 w5 ho2 hb2 hg2 hat2; have HO3 := K_ (Kd.R_mono (ok' := fun _ => True) ho2 (fun _ _ => trivial)); replace HO := K_ (Kd.R_over (RB HO.out) (RB HZ.out) (by decide) hg2); have BK5a := K_ (yY (BK BK5) hg2 HN5.out); have BK2a := K_ (yY (BK BK2) hg2 HN2.out); have BK3a := K_ (yY (BK BK3) hg2 HN3.out); replace HB := K_ hb2; clear ho2 hb2 hg2 hat2)))
    go_roundw
    case rel => exact ⟨k + 2, xs ++ [(⟨⟨y.f0, x.f1, x.f2⟩, true⟩ : S73)], by omega, by go_num, by rw [List.length_append]; simp; omega, RB HO.out, RB HO3.out, fun h => (HNS.out h).elim, BK BK5a, BK BK2a, BK BK3a, BL HB⟩
    case measure => simp [intOf]; omega
   obtain rfl : k = l.length := by omega
   have dlt : decide ((l.length : Int) < (l.length : Int)) = false := decide_eq_false (by omega)
   have HXS := K_ (show xR l → xs = l.map mk73 from fun h => by have := HST.out h; rw [List.take_length] at this; exact this)
   have hxl2 : xs.length ≤ 400 := by omega
   obtain ⟨A3, c3, rfl⟩ := Kd.R_slice HZ.out
   clear hll hcl HST HL
   go_wp2_with (fail)
   clear HO
   go_loopw [9, 10] (fun m i wr => ∃ (j : Nat) (sm : Int), j ≤ xs.length ∧ i = .int .i64 j ∧ m = .int .i64 sm ∧ (sm = -1 ∨ (0 ≤ sm ∧ sm < j)) ∧ (xR l → zas l → sm = -1) ∧ Kd.R k73 73 wr w.heap.size (fun _ => True) (.slice A3 xs.length c3) xs ∧ wr.heap[g5]? = some (.cells #[.int .i64 0, .int .i64 a1] 51 (0, 0)) ∧ wr.heap[g2]? = some (.cells Z26 26 (0, 0)) ∧ wr.heap[g3]? = some (.cells Z51 51 (0, 0)) ∧ Below w.heap.size w wr) (fun _ i _ => xs.length - (intOf i).toNat)
   case atStart => exact ⟨0, -1, Nat.zero_le _, rfl, rfl, .inl rfl, fun _ _ => rfl, RB HZ.out, BK BK5, BK BK2, BK BK3, BL HB⟩
   case round =>
    obtain ⟨j, sm, hj, rfl, rfl, hsm, hns, hz, hb5, hb2, hb3, hbw⟩ := hrel
    replace HZ := K_ hz
    have HNS := K_ hns
    have HSM := K_ hsm
    replace BK5 := K_ hb5
    replace BK2 := K_ hb2
    replace BK3 := K_ hb3
    replace HB := K_ hbw
    clear hz hns hsm hb5 hb2 hb3 hbw
    have hcl := (Kd.R_reads' HZ.out).2.1
    by_cases hlt : j < xs.length
    ·obtain ⟨x, hx⟩ : ∃ x, x = xs[j] := ⟨_, rfl⟩
     obtain ⟨ad, ea, h0, h1, h2, h3⟩ := zat (Kd.R_reads' HZ.out).2.2 (j : Int) (by omega) (by omega)
     rw [zcy hlt, ← hx] at h0 h1 h2 h3
     simp only [Int.toNat_natCast] at h0 h1 h2 h3
     have HX := K_ hx
     obtain rfl := ea
     clear hx
     have dlt : decide (((j : Nat) : Int) < (xs.length : Int)) = true := decide_eq_true (by omega)
     cases hst : zak x 59
     ·have HC : ∀ W, Aside0 (Calls Tryz.prog 56 #[.agg #[.int .i32 x.f0.f0, .bool x.f0.f1, .int .i64 x.f0.f2, .bool x.f1], .int .i32 59] W fun e w' => e = .returned (.bool false) ∧ Below W.heap.size W w') := fun W => ⟨by have h := zbs x 59 W; rw [hst] at h; exact h⟩
      clear hst
      go_wp2_with (go_at_call 56; refine ((HC _).out).mono ?_; rintro e w' ⟨rfl, hb⟩; replace HZ := K_ (Kd.R_below (RB HZ.out) hb); replace HB := zE HB hb; replace BK2 := zC BK2 hb; replace BK3 := zC BK3 hb; replace BK5 := zC BK5 hb; clear hb)
      go_roundw
      case rel => exact ⟨j + 1, sm, by omega, by go_num, rfl, by have := HSM.out; omega, HNS.out, RB HZ.out, BK BK5, BK BK2, BK BK3, BL HB⟩
      case measure => simp [intOf]; omega
     have HC : ∀ W, Aside0 (Calls Tryz.prog 56 #[.agg #[.int .i32 x.f0.f0, .bool x.f0.f1, .int .i64 x.f0.f2, .bool x.f1], .int .i32 59] W fun e w' => e = .returned (.bool true) ∧ Below W.heap.size W w') := fun W => ⟨by have h := zbs x 59 W; rw [hst] at h; exact h⟩
     have HNT := K_ (show xR l → zas l → False from fun q1 q2 => by
      have e := HXS.out q1
      have hm : x ∈ l.map mk73 := by rw [← e, HX.out]; exact List.getElem_mem hlt
      obtain ⟨t, ht, rfl⟩ := List.mem_map.1 hm
      rw [q2 t ht] at hst; cases hst)
     clear hst
     by_cases hs0 : 0 ≤ sm
     ·have dsm : decide (0 ≤ sm) = true := decide_eq_true hs0
      have hlt2 := hlt
      go_upto_region 22 with (go_at_call 56; refine ((HC _).out).mono ?_; rintro e w' ⟨rfl, hb⟩; replace HZ := K_ (Kd.R_below (RB HZ.out) hb); replace HB := zE HB hb; replace BK2 := zC BK2 hb; replace BK3 := zC BK3 hb; replace BK5 := zC BK5 hb; clear hb)
      clear h0 h1 h2 h3
      obtain ⟨ad2, ea, h0, h1, h2, h3⟩ := zat (Kd.R_reads' HZ.out).2.2 (j : Int) (by omega) (by omega)
      obtain rfl := Option.some.inj ea
      rw [zcy hlt, ← HX.out] at h0 h1 h2 h3
      simp only [Int.toNat_natCast] at h0 h1 h2 h3
      have H2 := K_ (Kd.R_ne HZ.out BK2.out (by decide))
      have H3 := K_ (Kd.R_ne HZ.out BK3.out (by decide))
      have hb2 : (ad.add (j * 4)).block ≠ g2 := by
       rw [zcO]; intro e; exact H2.out (by simp [Value.ownBlock, e])
      have hb3 : (ad.add (j * 4)).block ≠ g3 := by
       rw [zcO]; intro e; exact H3.out (by simp [Value.ownBlock, e])
      have HEV := K_ (show (4 : Int) ≠ 0 by decide)
      have HE := K_ (show ∀ l', Ev (fun k => zF.f k s) (l', 0, 0) → xR l' → zas l' → ∀ P0, xW (l'.map mk73) P0 → ¬ mixed (jL (uJ (l'.map mk73) (qD (l'.map mk73)) l'.length)) (jL (uI (l'.map mk73) (uV (l'.map mk73)) l'.length)) (⟨2, 0⟩ :: jL (uJ (l'.map mk73) (qD (l'.map mk73)) l'.length)) (jL (uI (l'.map mk73) (uV (l'.map mk73)) l'.length)) → False from fun l' h1 hns hsm _ _ _ => (by have e := zdj h1 HEV1.out; have e2 : l' = l := congrArg (fun r => r.1) e; rw [e2] at hns hsm; exact HNT.out hns hsm))
      refine vK (n := 10) (S := fun w' => w'.cell? ⟨(ad.add (j * 4)).block, (ad.add (j * 4)).off + 2, none⟩ = some (.int .i64 x.f0.f2)) (ds := []) #[false, false, false, false, false, false, false, false, false, false] (by kernel_rfl) rfl rfl h2 (fun hHeld => ?_)
      refine yX (fun W => W.cell? ⟨(ad.add (j * 4)).block, (ad.add (j * 4)).off + 2, none⟩ = some (.int .i64 x.f0.f2) ∧ W.heap[g2]? = some (.cells Z26 26 (0, 0)) ∧ W.heap[g3]? = some (.cells Z51 51 (0, 0)) ∧ Below w.heap.size w W) ⟨h2, BK BK2, BK BK3, BL HB⟩ ?_
      clear hHeld
      rintro W ⟨hHeld, hb2, hb3, hbw⟩
      replace BK2 := K_ hb2
      replace BK3 := K_ hb3
      replace HB := K_ hbw
      clear hb2 hb3 hbw
      refine pu_ 0 (some 77) (bb 10 1) (by kernel_rfl) ?_
      refine pu_ 1 (some 78) (bb 10 3) (by kernel_rfl) ?_
      refine pu_ 2 (some 79) (bb 10 7) (by kernel_rfl) ?_
      refine pu_ 3 (some 80) (bb 10 15) (by kernel_rfl) ?_
      refine pu_ 4 (some 81) (bb 10 31) (by kernel_rfl) ?_
      refine pu_ 5 (some 82) (bb 10 63) (by kernel_rfl) ?_
      refine tk_ 6 (some 83) (bb 10 127) (by kernel_rfl) hHeld ?_
      refine pu_ 7 (some 84) (bb 10 255) (by kernel_rfl) ?_
      refine jP (i := 8) (N := none) (bb 10 511) rfl rfl (by kernel_rfl) (by decide) (fun K hK => ?_)
      refine uP (g := g2) (cs := Z26) Z26 BK2 ?_ rfl rfl rfl rfl rfl yL rfl rfl
      intro w8 hbk hfar hbel
      have hHeld2 := zao hfar (p := ⟨(ad.add (j * 4)).block, (ad.add (j * 4)).off + 2, none⟩) hb2 hHeld
      replace BK3 := K_ (hfar g3 _ (Ne.symm NB.out) BK3.out)
      replace BK2 := K_ hbk
      replace HB := K_ (hbel _ _ GE2.out HB.out)
      refine hK.out _ _ hHeld2 (fun _ => ?_)
      clear hK K hbk hfar hbel
      refine jP (i := 9) (N := none) (bb 10 1023) rfl rfl (by kernel_rfl) (by decide) (fun K hK => ?_)
      refine uP (g := g3) (cs := Z51) #[.int .i64 4, .int .i64 x.f0.f2] BK3 ?_ rfl rfl rfl rfl rfl uT rfl rfl
      intro w9 hbk hfar hbel
      have hHeld3 := zao hfar (p := ⟨(ad.add (j * 4)).block, (ad.add (j * 4)).off + 2, none⟩) hb3 hHeld2
      replace BK2 := K_ (hfar g2 _ NB.out BK2.out)
      replace BK3 := K_ hbk
      replace HB := K_ (hbel _ _ GE3.out HB.out)
      refine hK.out _ _ hHeld3 (fun _ => ?_)
      clear hK K hbk hfar hbel
      refine vR (by kernel_rfl) ?_
      go_wp2_with (fail)
      (
       refine bodyPost_ret (qO rfl _ _ g2 g3 26 51 Z26 #[.int .i64 4, .int .i64 x.f0.f2] (0, 0) (0, 0) _ _ rfl BK2.out Tryz.underlying26 rfl yL rfl BK3.out Tryz.underlying51 rfl uT) rfl ?_
       exact ⟨_, _, _, _, [], [], [], [], jO, false, 0, 0, 0, 4, x.f0.f2, rfl, Kd.R_nil _ _ _ _ _, Kd.R_nil _ _ _ _ _, Kd.R_nil _ _ _ _ _, Kd.R_nil _ _ _ _ _, BL HB, fun h => absurd h HEV.out, fun l' h1 h2 h3 P0 h4 h5 => (HE.out l' h1 h2 h3 P0 h4 h5).elim⟩)
     have dsm : decide (0 ≤ sm) = false := decide_eq_false hs0
     go_wp2_with (go_at_call 56; refine ((HC _).out).mono ?_; rintro e w' ⟨rfl, hb⟩; replace HZ := K_ (Kd.R_below (RB HZ.out) hb); replace HB := zE HB hb; replace BK2 := zC BK2 hb; replace BK3 := zC BK3 hb; replace BK5 := zC BK5 hb; clear hb)
     go_roundw
     case rel => exact ⟨j + 1, (j : Int), by omega, by go_num, rfl, by omega, fun h1 h2 => (HNT.out h1 h2).elim, RB HZ.out, BK BK5, BK BK2, BK BK3, BL HB⟩
     case measure => simp [intOf]; omega
    obtain rfl : j = xs.length := by omega
    have dlt : decide ((xs.length : Int) < (xs.length : Int)) = false := decide_eq_false (by omega)
    have hcl := (Kd.R_reads' HZ.out).2.1
    go_upto_if 88 with (fail)
    go_cut [11] from 87 to 91 (fun v wx => (∃ n : Nat, n ≤ xs.length ∧ (sm = -1 → n = xs.length) ∧ v = .slice A3 n c3) ∧ Kd.R k73 73 wx w.heap.size (fun _ => True) (.slice A3 xs.length c3) xs ∧ wx.heap[g5]? = some (.cells #[.int .i64 0, .int .i64 a1] 51 (0, 0)) ∧ wx.heap[g2]? = some (.cells Z26 26 (0, 0)) ∧ wx.heap[g3]? = some (.cells Z51 51 (0, 0)) ∧ Below w.heap.size w wx)
    case first =>
     by_cases hs0 : 0 ≤ sm
     ·have dsm : decide (0 ≤ sm) = true := decide_eq_true hs0
      obtain ⟨m, hm⟩ := Int.eq_ofNat_of_zero_le hs0
      have hml : m < xs.length := by have := HSM.out; omega
      subst hm
      have q1 : (0 : Int) ≤ (m : Int) := by omega
      have q2 : (m : Int) ≤ (c3 : Int) := by omega
      have q3 : m ≤ c3 := by omega
      have q4 : ((m : Int)).toNat = m := Int.toNat_natCast _
      go_wp2
      go_meet
      case rel => exact ⟨⟨m, by omega, by omega, rfl⟩, RB HZ.out, BK BK5, BK BK2, BK BK3, BL HB⟩
     have dsm : decide (0 ≤ sm) = false := decide_eq_false hs0
     go_wp2
     go_meet
     case rel => exact ⟨⟨xs.length, Nat.le_refl _, fun _ => rfl, rfl⟩, RB HZ.out, BK BK5, BK BK2, BK BK3, BL HB⟩
    case rest =>
     obtain ⟨⟨n, hn, hnx, rfl⟩, hz, hb5, hb2, hb3, hbw⟩ := hcut
     replace HZ := K_ hz
     replace BK5 := K_ hb5
     replace BK2 := K_ hb2
     replace BK3 := K_ hb3
     replace HB := K_ hbw
     have hy := Kd.R_take hz hn
     clear hz hb5 hb2 hb3 hbw
     obtain ⟨ys, hys⟩ : ∃ ys, ys = xs.take n := ⟨_, rfl⟩
     rw [← hys] at hy
     obtain rfl : n = ys.length := by rw [hys, List.length_take]; omega
     have HY := K_ hy
     have EQL := K_ (show ∀ l', Ev (fun k => zF.f k s) (l', 0, 0) → l' = l from fun l' h1 => congrArg (fun r => r.1) (zdj h1 HEV1.out))
     have HEQ := K_ (show xR l → zas l → ys = l.map mk73 from fun h1 h2 => by
      have h3 := hnx (HNS.out h1 h2)
      rw [hys, h3, List.take_length]; exact HXS.out h1)
     clear hy hys hnx
     go_upto_region 28 with (first
      | (go_at_call 57; refine (zbK A3 c3 ys 0 true _ (Kd.R_reads' (RB HY.out)).2.2 (Kd.R_reads' HY.out).2.1 (by omega)).mono ?_; rintro e9 w' ⟨v1, v2, px, sx, PN, at_, pad, long, E2, a2, rfl, ho1, ho2, hb, hpost, hex⟩; obtain ⟨B1, d1, rfl⟩ := Kd.R_slice ho1; obtain ⟨B2, d2, rfl⟩ := Kd.R_slice ho2; have HO1 := K_ (Kd.R_lower ho1 (zJ (BL HB))); have HO2 := K_ (Kd.R_lower ho2 (zJ (BL HB))); have HPO := K_ hpost; have HEX := K_ hex; replace HZ := K_ (Kd.R_below (RB HZ.out) hb); replace HB := zE HB hb; replace BK2 := zC BK2 hb; replace BK3 := zC BK3 hb; replace BK5 := zC BK5 hb; clear hb ho1 ho2 hpost hex)
      | ((with_reducible refine zH (N := 12) rfl ?_); refine be_ 12 Z76 76 ?_; intro g12 hg w2 hbox hb; have BK12 := K_ hbox; have GE12 := ge_ hg HB; have N2L := nb_ hg BK2; have N3L := nb_ hg BK3; have N5L := nb_ hg BK5; replace HZ := K_ (Kd.R_below (RB HZ.out) hb); replace HO1 := K_ (Kd.R_below (RB HO1.out) hb); replace HO2 := K_ (Kd.R_below (RB HO2.out) hb); replace HB := zE HB hb; replace BK2 := zC BK2 hb; replace BK3 := zC BK3 hb; replace BK5 := zC BK5 hb; clear hb hbox hg)
      | ((with_reducible refine jC (p := 12) rfl ?_); refine so_ (g := g12) (cs := Z76) (uU (.slice B1 px.length d1) (.slice B2 sx.length d2) PN at_ pad long) ⟨BK BK12⟩ ?_ rfl rfl rfl rfl rfl zbv rfl rfl; intro w9 hbk hfar hbel; replace HZ := K_ (uA (RB HZ.out) (BK BK12) (by decide) hfar); replace HO1 := K_ (uA (RB HO1.out) (BK BK12) (by decide) hfar); replace HO2 := K_ (uA (RB HO2.out) (BK BK12) (by decide) hfar); replace BK2 := K_ (hfar _ _ N2L.out (BK BK2)); replace BK3 := K_ (hfar _ _ N3L.out (BK BK3)); replace BK5 := K_ (hfar _ _ N5L.out (BK BK5)); replace BK12 := K_ hbk; replace HB := K_ (hbel _ _ GE12.out (BL HB)); clear hbk hfar hbel)
      | ((with_reducible refine jC (p := 5) rfl ?_); refine so_ (g := g5) (cs := #[.int .i64 0, .int .i64 a1]) (#[.int .i64 E2, .int .i64 a2]) ⟨BK BK5⟩ ?_ rfl rfl rfl rfl rfl uT rfl rfl; intro w9 hbk hfar hbel; replace HZ := K_ (uA (RB HZ.out) (BK BK5) (by decide) hfar); replace HO1 := K_ (uA (RB HO1.out) (BK BK5) (by decide) hfar); replace HO2 := K_ (uA (RB HO2.out) (BK BK5) (by decide) hfar); replace BK2 := K_ (hfar _ _ N2F.out (BK BK2)); replace BK3 := K_ (hfar _ _ N3F.out (BK BK3)); replace BK12 := K_ (hfar _ _ (Ne.symm N5L.out) (BK BK12)); replace BK5 := K_ hbk; replace HB := K_ (hbel _ _ GE5.out (BL HB)); clear hbk hfar hbel))
     obtain ⟨⟨q0, q1⟩, q2, q3⟩ := ce2 BK5
     by_cases hE : E2 = 0
     ·subst hE
      have HPOK := K_ (HPO.out rfl)
      clear HPO HEX
      have hp1 : px.length ≤ 400 := by
       rw [HPOK.out.2.1]; refine Nat.le_trans (zcW _) (Nat.le_trans (zeC _ _ _) (by omega))
      have hp2 : sx.length ≤ 400 := by
       rw [HPOK.out.2.2]; refine Nat.le_trans (zcW _) (Nat.le_trans (zev _ _ _) (by omega))
      go_upto_region 31 with (first
       | ((with_reducible refine zH (N := 103) rfl ?_); refine lm_ (g := g12) (cs := uU (.slice B1 px.length d1) (.slice B2 sx.length d2) PN at_ pad long) 2 PN.cs _ ⟨BK BK12⟩ ?_ rfl rfl rfl Tryz.underlying26 rfl yL (zlL _ _ _ _ _ _))
       | ((with_reducible refine zH (N := 13) rfl ?_); refine be_ 13 Z26 26 ?_; intro g13 hg w3 hbox hb; have BK13 := K_ hbox; have GE13 := ge_ hg HB; have N2P := nb_ hg BK2; have N3P := nb_ hg BK3; have N12P := nb_ hg BK12; replace HZ := K_ (Kd.R_below (RB HZ.out) hb); replace HO1 := K_ (Kd.R_below (RB HO1.out) hb); replace HO2 := K_ (Kd.R_below (RB HO2.out) hb); replace HB := zE HB hb; replace BK2 := zC BK2 hb; replace BK3 := zC BK3 hb; replace BK12 := zC BK12 hb; clear hb hbox hg)
       | ((with_reducible refine jC (p := 13) rfl ?_); refine so_ (g := g13) (cs := Z26) (PN.cs) ⟨BK BK13⟩ ?_ rfl rfl rfl rfl rfl yL rfl rfl; intro w9 hbk hfar hbel; replace HZ := K_ (uA (RB HZ.out) (BK BK13) (by decide) hfar); replace HO1 := K_ (uA (RB HO1.out) (BK BK13) (by decide) hfar); replace HO2 := K_ (uA (RB HO2.out) (BK BK13) (by decide) hfar); replace BK2 := K_ (hfar _ _ N2P.out (BK BK2)); replace BK3 := K_ (hfar _ _ N3P.out (BK BK3)); replace BK12 := K_ (hfar _ _ N12P.out (BK BK12)); replace BK13 := K_ hbk; replace HB := K_ (hbel _ _ GE13.out (BL HB)); clear hbk hfar hbel))
      clear q0 q1 q2 q3
      have HEX2 := K_ True.intro
      refine vK (n := 16) (S := fun W => W.cell? ⟨g12, 0, none⟩ = some (.slice B1 px.length d1) ∧ W.cell? ⟨g12, 1, none⟩ = some (.slice B2 sx.length d2) ∧ W.cell? ⟨g12, 22, none⟩ = some (.int .i64 at_) ∧ W.cell? ⟨g12, 23, none⟩ = some (.int .i32 pad)) (ds := []) #[false, false, false, false, false, false, false, false, false, false, false, false, false, false, false, false] (by kernel_rfl) rfl rfl ⟨(zD (BK BK12) 0).trans rfl, (zD (BK BK12) 1).trans rfl, (zD (BK BK12) 22).trans rfl, (zD (BK BK12) 23).trans rfl⟩ (fun hHeld => ?_)
      refine yX (fun W => W.heap[g12]? = some (.cells (uU (.slice B1 px.length d1) (.slice B2 sx.length d2) PN at_ pad long) 76 (0, 0)) ∧ W.heap[g13]? = some (.cells (PN.cs) 26 (0, 0)) ∧ Kd.R k73 73 W w.heap.size (fun _ => True) (.slice A3 xs.length c3) xs ∧ Kd.R k80 80 W w.heap.size (fun _ => True) (.slice B1 px.length d1) px ∧ Kd.R k80 80 W w.heap.size (fun _ => True) (.slice B2 sx.length d2) sx ∧ W.heap[g2]? = some (.cells Z26 26 (0, 0)) ∧ W.heap[g3]? = some (.cells Z51 51 (0, 0)) ∧ Below w.heap.size w W) ⟨BK BK12, BK BK13, RB HZ.out, RB HO1.out, RB HO2.out, BK BK2, BK BK3, BL HB⟩ ?_
      clear hHeld
      rintro W ⟨hb12, hb13, hz, ho1, ho2, hb2, hb3, hbw⟩
      replace BK12 := K_ hb12
      replace BK13 := K_ hb13
      replace HZ := K_ hz
      replace HO1 := K_ ho1
      replace HO2 := K_ ho2
      replace BK2 := K_ hb2
      replace BK3 := K_ hb3
      replace HB := K_ hbw
      clear hb12 hb13 hz ho1 ho2 hb2 hb3 hbw
      have hHeld := (show W.cell? ⟨g12, 0, none⟩ = some (.slice B1 px.length d1) ∧ W.cell? ⟨g12, 1, none⟩ = some (.slice B2 sx.length d2) ∧ W.cell? ⟨g12, 22, none⟩ = some (.int .i64 at_) ∧ W.cell? ⟨g12, 23, none⟩ = some (.int .i32 pad) from ⟨(zD BK12.out 0).trans rfl, (zD BK12.out 1).trans rfl, (zD BK12.out 22).trans rfl, (zD BK12.out 23).trans rfl⟩)
      refine pu_ 0 (some 104) (bb 16 1) (by kernel_rfl) ?_
      refine pu_ 2 (some 106) (bb 16 5) (by kernel_rfl) ?_
      refine pu_ 4 (some 108) (bb 16 21) (by kernel_rfl) ?_
      refine pu_ 6 (some 110) (bb 16 85) (by kernel_rfl) ?_
      refine tk_ 1 (some 105) (bb 16 87) (by kernel_rfl) hHeld ?_
      refine tk_ 3 (some 107) (bb 16 95) (by kernel_rfl) hHeld ?_
      refine tk_ 5 (some 109) (bb 16 127) (by kernel_rfl) hHeld ?_
      refine tk_ 7 (some 111) (bb 16 255) (by kernel_rfl) hHeld ?_
      refine pu_ 8 (some 112) (bb 16 511) (by kernel_rfl) ?_
      refine jP (i := 9) (N := none) (bb 16 1023) rfl rfl (by kernel_rfl) (by decide) (fun K hK => ?_)
      have hs : W.cell? ⟨g13, 0, none⟩ = some (.slice none 0 0) := (zD BK13.out 0).trans rfl
      have hf := zK BK13.out 0
      refine zaz (w1 := W.setCell ⟨g13, 0, none⟩ (.slice B1 px.length d1)) (by rfl) rfl (by go_simp; try rfl) ?_
      refine hK.out _ _ (show (W.setCell ⟨g13, 0, none⟩ (.slice B1 px.length d1)).cell? ⟨g12, 0, none⟩ = some (.slice B1 px.length d1) ∧ (W.setCell ⟨g13, 0, none⟩ (.slice B1 px.length d1)).cell? ⟨g12, 1, none⟩ = some (.slice B2 sx.length d2) ∧ (W.setCell ⟨g13, 0, none⟩ (.slice B1 px.length d1)).cell? ⟨g12, 22, none⟩ = some (.int .i64 at_) ∧ (W.setCell ⟨g13, 0, none⟩ (.slice B1 px.length d1)).cell? ⟨g12, 23, none⟩ = some (.int .i32 pad) from ⟨(zD (zR BK12.out N12P.out _) 0).trans rfl, (zD (zR BK12.out N12P.out _) 1).trans rfl, (zD (zR BK12.out N12P.out _) 22).trans rfl, (zD (zR BK12.out N12P.out _) 23).trans rfl⟩) (fun _ => ?_)
      clear hK K hs hf hHeld
      refine yX (fun W => W.heap[g12]? = some (.cells (uU (.slice B1 px.length d1) (.slice B2 sx.length d2) PN at_ pad long) 76 (0, 0)) ∧ W.heap[g13]? = some (.cells (xX (.slice B1 px.length d1) (.slice none 0 0) false (.slice none 0 0) (.slice none 0 0) PN 0 0 0) 26 (0, 0)) ∧ Kd.R k73 73 W w.heap.size (fun _ => True) (.slice A3 xs.length c3) xs ∧ Kd.R k80 80 W w.heap.size (fun _ => True) (.slice B1 px.length d1) px ∧ Kd.R k80 80 W w.heap.size (fun _ => True) (.slice B2 sx.length d2) sx ∧ W.heap[g2]? = some (.cells Z26 26 (0, 0)) ∧ W.heap[g3]? = some (.cells Z51 51 (0, 0)) ∧ Below w.heap.size w W) ⟨zR BK12.out N12P.out _, xS BK13.out rfl, Kd.R_set HZ.out BK13.out (by decide) _ _, Kd.R_set HO1.out BK13.out (by decide) _ _, Kd.R_set HO2.out BK13.out (by decide) _ _, zR BK2.out N2P.out _, zR BK3.out N3P.out _, BL HB⟩ ?_
      clear BK12 BK13 HZ HO1 HO2 BK2 BK3 HB
      rintro W ⟨hb12, hb13, hz, ho1, ho2, hb2, hb3, hbw⟩
      have BK12 := K_ hb12
      have BK13 := K_ hb13
      have HZ := K_ hz
      have HO1 := K_ ho1
      have HO2 := K_ ho2
      have BK2 := K_ hb2
      have BK3 := K_ hb3
      have HB := K_ hbw
      clear hb12 hb13 hz ho1 ho2 hb2 hb3 hbw
      have hHeld := (show W.cell? ⟨g12, 0, none⟩ = some (.slice B1 px.length d1) ∧ W.cell? ⟨g12, 1, none⟩ = some (.slice B2 sx.length d2) ∧ W.cell? ⟨g12, 22, none⟩ = some (.int .i64 at_) ∧ W.cell? ⟨g12, 23, none⟩ = some (.int .i32 pad) from ⟨(zD BK12.out 0).trans rfl, (zD BK12.out 1).trans rfl, (zD BK12.out 22).trans rfl, (zD BK12.out 23).trans rfl⟩)
      refine pu_ 10 (some 113) (bb 16 2047) (by kernel_rfl) ?_
      refine jP (i := 11) (N := none) (bb 16 4095) rfl rfl (by kernel_rfl) (by decide) (fun K hK => ?_)
      have hs : W.cell? ⟨g13, 1, none⟩ = some (.slice none 0 0) := (zD BK13.out 1).trans rfl
      have hf := zK BK13.out 1
      refine zaz (w1 := W.setCell ⟨g13, 1, none⟩ (.slice B2 sx.length d2)) (by rfl) rfl (by go_simp; try rfl) ?_
      refine hK.out _ _ (show (W.setCell ⟨g13, 1, none⟩ (.slice B2 sx.length d2)).cell? ⟨g12, 0, none⟩ = some (.slice B1 px.length d1) ∧ (W.setCell ⟨g13, 1, none⟩ (.slice B2 sx.length d2)).cell? ⟨g12, 1, none⟩ = some (.slice B2 sx.length d2) ∧ (W.setCell ⟨g13, 1, none⟩ (.slice B2 sx.length d2)).cell? ⟨g12, 22, none⟩ = some (.int .i64 at_) ∧ (W.setCell ⟨g13, 1, none⟩ (.slice B2 sx.length d2)).cell? ⟨g12, 23, none⟩ = some (.int .i32 pad) from ⟨(zD (zR BK12.out N12P.out _) 0).trans rfl, (zD (zR BK12.out N12P.out _) 1).trans rfl, (zD (zR BK12.out N12P.out _) 22).trans rfl, (zD (zR BK12.out N12P.out _) 23).trans rfl⟩) (fun _ => ?_)
      clear hK K hs hf hHeld
      refine yX (fun W => W.heap[g12]? = some (.cells (uU (.slice B1 px.length d1) (.slice B2 sx.length d2) PN at_ pad long) 76 (0, 0)) ∧ W.heap[g13]? = some (.cells (xX (.slice B1 px.length d1) (.slice B2 sx.length d2) false (.slice none 0 0) (.slice none 0 0) PN 0 0 0) 26 (0, 0)) ∧ Kd.R k73 73 W w.heap.size (fun _ => True) (.slice A3 xs.length c3) xs ∧ Kd.R k80 80 W w.heap.size (fun _ => True) (.slice B1 px.length d1) px ∧ Kd.R k80 80 W w.heap.size (fun _ => True) (.slice B2 sx.length d2) sx ∧ W.heap[g2]? = some (.cells Z26 26 (0, 0)) ∧ W.heap[g3]? = some (.cells Z51 51 (0, 0)) ∧ Below w.heap.size w W) ⟨zR BK12.out N12P.out _, xS BK13.out rfl, Kd.R_set HZ.out BK13.out (by decide) _ _, Kd.R_set HO1.out BK13.out (by decide) _ _, Kd.R_set HO2.out BK13.out (by decide) _ _, zR BK2.out N2P.out _, zR BK3.out N3P.out _, BL HB⟩ ?_
      clear BK12 BK13 HZ HO1 HO2 BK2 BK3 HB
      rintro W ⟨hb12, hb13, hz, ho1, ho2, hb2, hb3, hbw⟩
      have BK12 := K_ hb12
      have BK13 := K_ hb13
      have HZ := K_ hz
      have HO1 := K_ ho1
      have HO2 := K_ ho2
      have BK2 := K_ hb2
      have BK3 := K_ hb3
      have HB := K_ hbw
      clear hb12 hb13 hz ho1 ho2 hb2 hb3 hbw
      have hHeld := (show W.cell? ⟨g12, 0, none⟩ = some (.slice B1 px.length d1) ∧ W.cell? ⟨g12, 1, none⟩ = some (.slice B2 sx.length d2) ∧ W.cell? ⟨g12, 22, none⟩ = some (.int .i64 at_) ∧ W.cell? ⟨g12, 23, none⟩ = some (.int .i32 pad) from ⟨(zD BK12.out 0).trans rfl, (zD BK12.out 1).trans rfl, (zD BK12.out 22).trans rfl, (zD BK12.out 23).trans rfl⟩)
      refine pu_ 12 (some 114) (bb 16 8191) (by kernel_rfl) ?_
      refine jP (i := 13) (N := none) (bb 16 16383) rfl rfl (by kernel_rfl) (by decide) (fun K hK => ?_)
      have hs : W.cell? ⟨g13, 17, none⟩ = some (.int .i64 0) := (zD BK13.out 17).trans rfl
      have hf := zK BK13.out 17
      refine zaz (w1 := W.setCell ⟨g13, 17, none⟩ (.int .i64 at_)) (by rfl) rfl (by go_simp; try rfl) ?_
      refine hK.out _ _ (show (W.setCell ⟨g13, 17, none⟩ (.int .i64 at_)).cell? ⟨g12, 0, none⟩ = some (.slice B1 px.length d1) ∧ (W.setCell ⟨g13, 17, none⟩ (.int .i64 at_)).cell? ⟨g12, 1, none⟩ = some (.slice B2 sx.length d2) ∧ (W.setCell ⟨g13, 17, none⟩ (.int .i64 at_)).cell? ⟨g12, 22, none⟩ = some (.int .i64 at_) ∧ (W.setCell ⟨g13, 17, none⟩ (.int .i64 at_)).cell? ⟨g12, 23, none⟩ = some (.int .i32 pad) from ⟨(zD (zR BK12.out N12P.out _) 0).trans rfl, (zD (zR BK12.out N12P.out _) 1).trans rfl, (zD (zR BK12.out N12P.out _) 22).trans rfl, (zD (zR BK12.out N12P.out _) 23).trans rfl⟩) (fun _ => ?_)
      clear hK K hs hf hHeld
      refine yX (fun W => W.heap[g12]? = some (.cells (uU (.slice B1 px.length d1) (.slice B2 sx.length d2) PN at_ pad long) 76 (0, 0)) ∧ W.heap[g13]? = some (.cells (xX (.slice B1 px.length d1) (.slice B2 sx.length d2) false (.slice none 0 0) (.slice none 0 0) PN at_ 0 0) 26 (0, 0)) ∧ Kd.R k73 73 W w.heap.size (fun _ => True) (.slice A3 xs.length c3) xs ∧ Kd.R k80 80 W w.heap.size (fun _ => True) (.slice B1 px.length d1) px ∧ Kd.R k80 80 W w.heap.size (fun _ => True) (.slice B2 sx.length d2) sx ∧ W.heap[g2]? = some (.cells Z26 26 (0, 0)) ∧ W.heap[g3]? = some (.cells Z51 51 (0, 0)) ∧ Below w.heap.size w W) ⟨zR BK12.out N12P.out _, xS BK13.out rfl, Kd.R_set HZ.out BK13.out (by decide) _ _, Kd.R_set HO1.out BK13.out (by decide) _ _, Kd.R_set HO2.out BK13.out (by decide) _ _, zR BK2.out N2P.out _, zR BK3.out N3P.out _, BL HB⟩ ?_
      clear BK12 BK13 HZ HO1 HO2 BK2 BK3 HB
      rintro W ⟨hb12, hb13, hz, ho1, ho2, hb2, hb3, hbw⟩
      have BK12 := K_ hb12
      have BK13 := K_ hb13
      have HZ := K_ hz
      have HO1 := K_ ho1
      have HO2 := K_ ho2
      have BK2 := K_ hb2
      have BK3 := K_ hb3
      have HB := K_ hbw
      clear hb12 hb13 hz ho1 ho2 hb2 hb3 hbw
      have hHeld := (show W.cell? ⟨g12, 0, none⟩ = some (.slice B1 px.length d1) ∧ W.cell? ⟨g12, 1, none⟩ = some (.slice B2 sx.length d2) ∧ W.cell? ⟨g12, 22, none⟩ = some (.int .i64 at_) ∧ W.cell? ⟨g12, 23, none⟩ = some (.int .i32 pad) from ⟨(zD BK12.out 0).trans rfl, (zD BK12.out 1).trans rfl, (zD BK12.out 22).trans rfl, (zD BK12.out 23).trans rfl⟩)
      refine pu_ 14 (some 115) (bb 16 32767) (by kernel_rfl) ?_
      refine jP (i := 15) (N := none) (bb 16 65535) rfl rfl (by kernel_rfl) (by decide) (fun K hK => ?_)
      have hs : W.cell? ⟨g13, 18, none⟩ = some (.int .i32 0) := (zD BK13.out 18).trans rfl
      have hf := zK BK13.out 18
      refine zaz (w1 := W.setCell ⟨g13, 18, none⟩ (.int .i32 pad)) (by rfl) rfl (by go_simp; try rfl) ?_
      refine hK.out _ _ (show (W.setCell ⟨g13, 18, none⟩ (.int .i32 pad)).cell? ⟨g12, 0, none⟩ = some (.slice B1 px.length d1) ∧ (W.setCell ⟨g13, 18, none⟩ (.int .i32 pad)).cell? ⟨g12, 1, none⟩ = some (.slice B2 sx.length d2) ∧ (W.setCell ⟨g13, 18, none⟩ (.int .i32 pad)).cell? ⟨g12, 22, none⟩ = some (.int .i64 at_) ∧ (W.setCell ⟨g13, 18, none⟩ (.int .i32 pad)).cell? ⟨g12, 23, none⟩ = some (.int .i32 pad) from ⟨(zD (zR BK12.out N12P.out _) 0).trans rfl, (zD (zR BK12.out N12P.out _) 1).trans rfl, (zD (zR BK12.out N12P.out _) 22).trans rfl, (zD (zR BK12.out N12P.out _) 23).trans rfl⟩) (fun _ => ?_)
      clear hK K hs hf hHeld
      refine yX (fun W => W.heap[g12]? = some (.cells (uU (.slice B1 px.length d1) (.slice B2 sx.length d2) PN at_ pad long) 76 (0, 0)) ∧ W.heap[g13]? = some (.cells (xX (.slice B1 px.length d1) (.slice B2 sx.length d2) false (.slice none 0 0) (.slice none 0 0) PN at_ pad 0) 26 (0, 0)) ∧ Kd.R k73 73 W w.heap.size (fun _ => True) (.slice A3 xs.length c3) xs ∧ Kd.R k80 80 W w.heap.size (fun _ => True) (.slice B1 px.length d1) px ∧ Kd.R k80 80 W w.heap.size (fun _ => True) (.slice B2 sx.length d2) sx ∧ W.heap[g2]? = some (.cells Z26 26 (0, 0)) ∧ W.heap[g3]? = some (.cells Z51 51 (0, 0)) ∧ Below w.heap.size w W) ⟨zR BK12.out N12P.out _, xS BK13.out rfl, Kd.R_set HZ.out BK13.out (by decide) _ _, Kd.R_set HO1.out BK13.out (by decide) _ _, Kd.R_set HO2.out BK13.out (by decide) _ _, zR BK2.out N2P.out _, zR BK3.out N3P.out _, BL HB⟩ ?_
      clear BK12 BK13 HZ HO1 HO2 BK2 BK3 HB
      rintro W ⟨hb12, hb13, hz, ho1, ho2, hb2, hb3, hbw⟩
      have BK12 := K_ hb12
      have BK13 := K_ hb13
      have HZ := K_ hz
      have HO1 := K_ ho1
      have HO2 := K_ ho2
      have BK2 := K_ hb2
      have BK3 := K_ hb3
      have HB := K_ hbw
      clear hb12 hb13 hz ho1 ho2 hb2 hb3 hbw
      have hHeld := (show W.cell? ⟨g12, 0, none⟩ = some (.slice B1 px.length d1) ∧ W.cell? ⟨g12, 1, none⟩ = some (.slice B2 sx.length d2) ∧ W.cell? ⟨g12, 22, none⟩ = some (.int .i64 at_) ∧ W.cell? ⟨g12, 23, none⟩ = some (.int .i32 pad) from ⟨(zD BK12.out 0).trans rfl, (zD BK12.out 1).trans rfl, (zD BK12.out 22).trans rfl, (zD BK12.out 23).trans rfl⟩)
      refine vR (by kernel_rfl) ?_
      clear hHeld
      have e0 : W.cell? ⟨g12, 0, none⟩ = some (.slice B1 px.length d1) := (zD BK12.out 0).trans rfl
      have e1 : W.cell? ⟨g12, 1, none⟩ = some (.slice B2 sx.length d2) := (zD BK12.out 1).trans rfl
      have e22 : W.cell? ⟨g12, 22, none⟩ = some (.int .i64 at_) := (zD BK12.out 22).trans rfl
      have e24 : W.cell? ⟨g12, 24, none⟩ = some (.int .i64 long) := (zD BK12.out 24).trans rfl
      have s19 : W.cell? ⟨g13, 19, none⟩ = some (.int .i64 0) := (zD BK13.out 19).trans rfl
      have f19 := zK BK13.out 19
      go_upto_if 118 with (fail)
      go_cut [] from 116 to 129 (fun wx => ∃ wd : Int, wx.heap[g12]? = some (.cells (uU (.slice B1 px.length d1) (.slice B2 sx.length d2) PN at_ pad long) 76 (0, 0)) ∧ wx.heap[g13]? = some (.cells (xX (.slice B1 px.length d1) (.slice B2 sx.length d2) false (.slice none 0 0) (.slice none 0 0) PN at_ pad wd) 26 (0, 0)) ∧ Kd.R k73 73 wx w.heap.size (fun _ => True) (.slice A3 xs.length c3) xs ∧ Kd.R k80 80 wx w.heap.size (fun _ => True) (.slice B1 px.length d1) px ∧ Kd.R k80 80 wx w.heap.size (fun _ => True) (.slice B2 sx.length d2) sx ∧ wx.heap[g2]? = some (.cells Z26 26 (0, 0)) ∧ wx.heap[g3]? = some (.cells Z51 51 (0, 0)) ∧ Below w.heap.size w wx)
      case first =>
       by_cases ha : 0 < at_
       ·have da : decide (0 < at_) = true := decide_eq_true ha
        go_wp2
        go_meet
        case rel => exact ⟨_, zR BK12.out N12P.out _, xS BK13.out rfl, Kd.R_set HZ.out BK13.out (by decide) _ _, Kd.R_set HO1.out BK13.out (by decide) _ _, Kd.R_set HO2.out BK13.out (by decide) _ _, zR BK2.out N2P.out _, zR BK3.out N3P.out _, BL HB⟩
       have da : decide (0 < at_) = false := decide_eq_false ha
       go_wp2
       go_meet
       case rel => exact ⟨0, BK BK12, BK BK13, RB HZ.out, RB HO1.out, RB HO2.out, BK BK2, BK BK3, BL HB⟩
      case rest =>
       obtain ⟨wd, hb12, hb13, hz, ho1, ho2, hb2, hb3, hbw⟩ := hcut
       clear e0 e1 e22 e24 s19 f19
       replace BK12 := K_ hb12
       replace BK13 := K_ hb13
       replace HZ := K_ hz
       replace HO1 := K_ ho1
       replace HO2 := K_ ho2
       replace BK2 := K_ hb2
       replace BK3 := K_ hb3
       replace HB := K_ hbw
       clear hb12 hb13 hz ho1 ho2 hb2 hb3 hbw
       have e0 := (show wc.cell? ⟨g12, 0, none⟩ = some (.slice B1 px.length d1) from (zD BK12.out 0).trans rfl)
       have HLEN := K_ (show (([⟨2, 0⟩] : List S80).length + px.length) * 16 ≤ 140737488355328 by simp; omega)
       go_upto_region 35 with (first
        | ((with_reducible refine zH (N := 131) rfl ?_); refine Kd.R_lit k80 (w0 := w) w.heap.size 80 ?hg (N := 131) ?hd (xs := ([⟨2, 0⟩] : List S80)) (inner := [.int .i64 2, .int .i32 0]) (ok := fun _ => True) (okp := fun _ => True) ?hr ?hp (fun _ hk => hk) trivial (BL HB) (zJ (BL HB)) (by simp) ?_; (case hd => rfl); (case hg => rfl); (case hr => first | (go_simp; done) | (go_simp; rfl)); (case hp => exact znj _ _ _ (⟨2, 0⟩ : S80)); intro v5 w6 ho5 hb5 hg5 hnew; obtain ⟨b5, hv5, hb5s⟩ := hnew; have hbl := Below.grown (Below.refl _ _) hg5 (Nat.le_refl _) (fun _ h => by cases h); replace HO1 := K_ (Kd.R_elder' (RB HO1.out) (fun k hk => by rw [hv5] at hk; cases hk; exact hb5s) hbl); replace HO2 := K_ (Kd.R_elder' (RB HO2.out) (fun k hk => by rw [hv5] at hk; cases hk; exact hb5s) hbl); replace HZ := K_ (Kd.R_below (RB HZ.out) hbl); replace BK12 := zC BK12 hbl; replace BK13 := zC BK13 hbl; replace BK2 := zC BK2 hbl; replace BK3 := zC BK3 hbl; replace HB := K_ hb5; have HO5 := K_ ho5; clear ho5 hb5 hg5 hv5 hb5s hbl e0; have e0 := (show w6.cell? ⟨g12, 0, none⟩ = some (.slice B1 px.length d1) from (zD BK12.out 0).trans rfl))
        | ((with_reducible refine jJ (b := .append) (xs := #[.tmp 131, .tmp 133]) rfl ?_); at_builtin; (refine Kd.R_append_rows k80 (w0 := w) w.heap.size rfl (.tmp 131) (.tmp 133) 24 80 (.agg #[(.int .i64 0), (.int .i32 0)]) 16 rfl Tryz.underlying24 zoh rfl (by decide) (by omega) v5 ([⟨2, 0⟩] : List S80) px B1 px.length d1 (fun _ => True) (fun _ => False) rfl rfl ?aO ?aR (fun _ _ h => h) (fun _ h => h.elim) (fun _ _ => trivial) ?aB ?aS ?aL ?_; (case aO => exact RB HO5.out); (case aR => exact (Kd.R_reads' HO1.out).2.2); (case aB => exact BL HB); (case aS => exact zJ (BL HB)); (case aL => exact HLEN.out); intro v6 w7 ho6 hb6 hg6 hat6; obtain ⟨A6, c6, rfl⟩ := Kd.R_slice ho6; have HO6 := K_ ho6; replace HO1 := K_ (Kd.R_mono (ok' := fun _ => True) (Kd.R_grown HO1.out hg6 (fun k hk => hk.2)) (fun _ _ => trivial)); replace HO2 := K_ (Kd.R_mono (ok' := fun _ => True) (Kd.R_grown HO2.out hg6 (fun k hk => hk.2)) (fun _ _ => trivial)); replace HZ := K_ (Kd.R_over HZ.out HO5.out (by decide) hg6); replace BK12 := K_ (yY BK12.out hg6 (Kd.R_ne HO5.out BK12.out (by decide))); replace BK13 := K_ (yY BK13.out hg6 (Kd.R_ne HO5.out BK13.out (by decide))); replace BK2 := K_ (yY BK2.out hg6 (Kd.R_ne HO5.out BK2.out (by decide))); replace BK3 := K_ (yY BK3.out hg6 (Kd.R_ne HO5.out BK3.out (by decide))); replace HB := K_ hb6; clear ho6 hb6 hg6 hat6 HO5; have s3 := (show w7.cell? ⟨g13, 3, none⟩ = some (.slice none 0 0) from (zD BK13.out 3).trans rfl); have f3 := zK BK13.out 3)))
       refine zbp (fun W => Kd.R k80 80 W w.heap.size (fun _ => True) (.slice A6 ([(⟨2, 0⟩ : S80)] ++ px).length c6) ([⟨2, 0⟩] ++ px) ∧ W.heap[g12]? = some (.cells (uU (.slice B1 px.length d1) (.slice B2 sx.length d2) PN at_ pad long) 76 (0, 0)) ∧ W.heap[g13]? = some (.cells (xX (.slice B1 px.length d1) (.slice B2 sx.length d2) false (.slice A6 ([(⟨2, 0⟩ : S80)] ++ px).length c6) (.slice none 0 0) PN at_ pad wd) 26 (0, 0)) ∧ Kd.R k73 73 W w.heap.size (fun _ => True) (.slice A3 xs.length c3) xs ∧ Kd.R k80 80 W w.heap.size (fun _ => True) (.slice B1 px.length d1) px ∧ Kd.R k80 80 W w.heap.size (fun _ => True) (.slice B2 sx.length d2) sx ∧ W.heap[g2]? = some (.cells Z26 26 (0, 0)) ∧ W.heap[g3]? = some (.cells Z51 51 (0, 0)) ∧ Below w.heap.size w W) ⟨Kd.R_set HO6.out BK13.out (by decide) _ _, zR BK12.out N12P.out _, xS BK13.out rfl, Kd.R_set HZ.out BK13.out (by decide) _ _, Kd.R_set HO1.out BK13.out (by decide) _ _, Kd.R_set HO2.out BK13.out (by decide) _ _, zR BK2.out N2P.out _, zR BK3.out N3P.out _, BL HB⟩ ?_
       clear e0 s3 f3 HO6 BK12 BK13 HZ HO1 HO2 BK2 BK3 HB
       rintro W5 ⟨ho6, hb12, hb13, hz, ho1, ho2, hb2, hb3, hbw⟩
       have HO6 := K_ ho6
       have BK12 := K_ hb12
       have BK13 := K_ hb13
       have HZ := K_ hz
       have HO1 := K_ ho1
       have HO2 := K_ ho2
       have BK2 := K_ hb2
       have BK3 := K_ hb3
       have HB := K_ hbw
       clear hb12 hb13 hz ho1 ho2 hb2 hb3 hbw
       clear ho6
       have e1 := (show W5.cell? ⟨g12, 1, none⟩ = some (.slice B2 sx.length d2) from (zD BK12.out 1).trans rfl)
       have s4 := (show W5.cell? ⟨g13, 4, none⟩ = some (.slice none 0 0) from (zD BK13.out 4).trans rfl)
       have f4 := zK BK13.out 4
       go_upto_if 140 with (fail)
       refine zbp (fun W => Kd.R k80 80 W w.heap.size (fun _ => True) (.slice A6 ([(⟨2, 0⟩ : S80)] ++ px).length c6) ([⟨2, 0⟩] ++ px) ∧ W.heap[g12]? = some (.cells (uU (.slice B1 px.length d1) (.slice B2 sx.length d2) PN at_ pad long) 76 (0, 0)) ∧ W.heap[g13]? = some (.cells (xX (.slice B1 px.length d1) (.slice B2 sx.length d2) false (.slice A6 ([(⟨2, 0⟩ : S80)] ++ px).length c6) (.slice B2 sx.length d2) PN at_ pad wd) 26 (0, 0)) ∧ Kd.R k73 73 W w.heap.size (fun _ => True) (.slice A3 xs.length c3) xs ∧ Kd.R k80 80 W w.heap.size (fun _ => True) (.slice B1 px.length d1) px ∧ Kd.R k80 80 W w.heap.size (fun _ => True) (.slice B2 sx.length d2) sx ∧ W.heap[g2]? = some (.cells Z26 26 (0, 0)) ∧ W.heap[g3]? = some (.cells Z51 51 (0, 0)) ∧ Below w.heap.size w W) ⟨Kd.R_set HO6.out BK13.out (by decide) _ _, zR BK12.out N12P.out _, xS BK13.out rfl, Kd.R_set HZ.out BK13.out (by decide) _ _, Kd.R_set HO1.out BK13.out (by decide) _ _, Kd.R_set HO2.out BK13.out (by decide) _ _, zR BK2.out N2P.out _, zR BK3.out N3P.out _, BL HB⟩ ?_
       clear e1 s4 f4 HO6 BK12 BK13 HZ HO1 HO2 BK2 BK3 HB
       rintro W6 ⟨ho6, hb12, hb13, hz, ho1, ho2, hb2, hb3, hbw⟩
       have HO6 := K_ ho6
       have BK12 := K_ hb12
       have BK13 := K_ hb13
       have HZ := K_ hz
       have HO1 := K_ ho1
       have HO2 := K_ ho2
       have BK2 := K_ hb2
       have BK3 := K_ hb3
       have HB := K_ hbw
       clear hb12 hb13 hz ho1 ho2 hb2 hb3 hbw
       clear ho6
       have HG1 := K_ (show vT px by rw [HPOK.out.2.1]; exact zcg _)
       have HG2 := K_ (show vT sx by rw [HPOK.out.2.2]; exact zcg _)
       go_cut [14, 15] from 139 to 167 (fun _ _ wx => ∃ (hn : Bool) (v3 v4 : Value) (nx ny : List S80), Kd.R k80 80 wx w.heap.size (fun _ => True) v3 nx ∧ Kd.R k80 80 wx w.heap.size (fun _ => True) v4 ny ∧ (vT nx ∧ vT ny) ∧ nx.length ≤ 1000 ∧ ny.length ≤ 1000 ∧ (xR l → zas l → nx = ⟨2, 0⟩ :: px ∧ ny = sx) ∧ wx.heap[g13]? = some (.cells (xX (.slice B1 px.length d1) (.slice B2 sx.length d2) hn v3 v4 PN at_ pad wd) 26 (0, 0)) ∧ Kd.R k80 80 wx w.heap.size (fun _ => True) (.slice B1 px.length d1) px ∧ Kd.R k80 80 wx w.heap.size (fun _ => True) (.slice B2 sx.length d2) sx ∧ wx.heap[g2]? = some (.cells Z26 26 (0, 0)) ∧ wx.heap[g3]? = some (.cells Z51 51 (0, 0)) ∧ Below w.heap.size w wx)
       case first =>
        by_cases hs0 : 0 ≤ sm
        ·have dsm : decide (0 ≤ sm) = true := decide_eq_true hs0
         obtain ⟨m, hm⟩ := Int.eq_ofNat_of_zero_le hs0
         have hml : m < xs.length := by have := HSM.out; omega
         subst hm
         have HNT := K_ (show xR l → zas l → False from fun q1 q2 => by have := HNS.out q1 q2; omega)
         go_upto_region 37 with (fail)
         obtain ⟨x, hx⟩ : ∃ x, x = xs[m] := ⟨_, rfl⟩
         have hcx := (Kd.R_reads' HZ.out).2.1
         obtain ⟨ad, ea, h0, h1, h2, h3⟩ := zat (Kd.R_reads' HZ.out).2.2 (m : Int) (by omega) (by omega)
         obtain rfl := ea
         rw [zcy hml, ← hx] at h0 h1 h2 h3
         simp only [Int.toNat_natCast] at h0 h1 h2 h3
         clear hx h0 h1 h3
         obtain ⟨m1, hm1⟩ : ∃ m1, m1 = m + 1 := ⟨_, rfl⟩
         have hm1l : m1 ≤ xs.length := by omega
         have hwm : IntKind.i64.wrap ((m : Int) + 1) = ((m1 : Nat) : Int) := by rw [IntKind.wrap_i64]; omega
         have hww : wrap64 ((m : Int) + 1) = ((m1 : Nat) : Int) := by unfold wrap64; omega
         obtain ⟨zs, hzs⟩ : ∃ zs, zs = xs.drop m1 := ⟨_, rfl⟩
         obtain ⟨A4, hA4⟩ : ∃ A4 : Option Addr, (if c3 = m1 then some ad else (some ad).map (·.add (m1 * 4))) = A4 := ⟨_, rfl⟩
         have hzl : xs.length - m1 = zs.length := by rw [hzs, List.length_drop]
         have hzl4 : zs.length ≤ 400 := by omega
         have hc4 := Kd.C_drop (Kd.R_reads' HZ.out).2.2 hm1l hcx
         rw [← hzs, show k73.sz = 4 from rfl, hA4] at hc4
         have HC4 := K_ hc4
         obtain ⟨cz, hcz⟩ : ∃ cz, c3 - m1 = cz := ⟨_, rfl⟩
         have hczl : zs.length ≤ cz := by omega
         have hi0 : (0 : Int) ≤ (m : Int) := by omega
         have hi1 : (m : Int) < (xs.length : Int) := by omega
         obtain ⟨i73, hi73, hsz73⟩ := zmD
         have HBX := K_ (Below.refl W6.heap.size W6)
         clear hc4 hzs hm1
         refine vK (n := 19) (S := fun W => W.cell? ⟨(ad.add (m * 4)).block, (ad.add (m * 4)).off + 2, none⟩ = some (.int .i64 x.f0.f2)) (ds := []) #[false, false, false, false, false, false, false, false, false, false, false, false, false, false, false, false, false, false, false] (by kernel_rfl) rfl rfl h2 (fun hHeld => ?_)
         refine yX (fun W => W.cell? ⟨(ad.add (m * 4)).block, (ad.add (m * 4)).off + 2, none⟩ = some (.int .i64 x.f0.f2) ∧ Kd.C k73 W A4 zs.length zs ∧ W.heap[g13]? = some (.cells (xX (.slice B1 px.length d1) (.slice B2 sx.length d2) false (.slice A6 ([(⟨2, 0⟩ : S80)] ++ px).length c6) (.slice B2 sx.length d2) PN at_ pad wd) 26 (0, 0)) ∧ Kd.R k80 80 W w.heap.size (fun _ => True) (.slice B1 px.length d1) px ∧ Kd.R k80 80 W w.heap.size (fun _ => True) (.slice B2 sx.length d2) sx ∧ W.heap[g2]? = some (.cells Z26 26 (0, 0)) ∧ W.heap[g3]? = some (.cells Z51 51 (0, 0)) ∧ Below w.heap.size w W) ⟨h2, Kd.C_below HC4.out (BL HBX), BK BK13, RB HO1.out, RB HO2.out, BK BK2, BK BK3, BL HB⟩ ?_
         clear hHeld h2 HC4 BK12 HZ HO6 HBX BK13 HO1 HO2 BK2 BK3 HB
         rintro W ⟨hHeld, hc4, hb13, ho1, ho2, hb2, hb3, hbw⟩
         have HC4 := K_ hc4
         have BK13 := K_ hb13
         have HO1 := K_ ho1
         have HO2 := K_ ho2
         have BK2 := K_ hb2
         have BK3 := K_ hb3
         have HB := K_ hbw
         clear hc4 hb13 ho1 ho2 hb2 hb3 hbw
         refine pu_ 0 (some 142) (bb 19 1) (by kernel_rfl) ?_
         refine pu_ 1 (some 143) (bb 19 3) (by kernel_rfl) ?_
         refine pu_ 2 (some 144) (bb 19 7) (by kernel_rfl) ?_
         refine zai (i := 3) (N := some 145) (bb 19 15) rfl rfl (by kernel_rfl) (fun _ _ _ h => h) (v := .slice A4 zs.length cz) (Or.inl ⟨by rfl, znl rfl rfl rfl Tryz.underlying69 hi73 hsz73 hm1l hA4 hzl hcz⟩) (by simp only [Act.put, List.setIfInBounds_toArray, List.set_cons_zero, List.set_cons_succ]; rfl) ?_
         refine pu_ 4 (some 146) (bb 19 31) (by kernel_rfl) ?_
         refine pu_ 5 (some 147) (bb 19 63) (by kernel_rfl) ?_
         refine pu_ 6 (some 148) (bb 19 127) (by kernel_rfl) ?_
         refine pu_ 7 (some 149) (bb 19 255) (by kernel_rfl) ?_
         refine pu_ 8 (some 150) (bb 19 511) (by kernel_rfl) ?_
         refine tk_ 9 (some 151) (bb 19 1023) (by kernel_rfl) hHeld ?_
         refine pu_ 10 (some 152) (bb 19 2047) (by kernel_rfl) ?_
         clear hwm hww hi0 hi1 hi73 hsz73
         refine zha (σ := Value × Int × Int × Nat × Nat) 2 (bb 19 131071) (fun s : Value × Int × Int × Nat × Nat => [(153, .tuple #[s.1, .agg #[.int .i64 s.2.1, .int .i64 s.2.2.1]]), (141, .tuple #[s.1, .agg #[.int .i64 s.2.1, .int .i64 s.2.2.1]]), (154, s.1), (155, .agg #[.int .i64 s.2.1, .int .i64 s.2.2.1]), (14, .pointer (some ⟨s.2.2.2.1, 0, none⟩)), (15, .pointer (some ⟨s.2.2.2.2, 0, none⟩))]) (fun s W => (∃ (B5 : Option Addr) (e5 : Nat) (B6 : Option Addr) (e6 : Nat) (px2 sx2 : List S80) (P2 : yK) (at2 pad2 long2 : Int), s.1 = .agg (uU (.slice B5 px2.length e5) (.slice B6 sx2.length e6) P2 at2 pad2 long2) ∧ Kd.R k80 80 W w.heap.size (fun _ => True) (.slice B5 px2.length e5) px2 ∧ Kd.R k80 80 W w.heap.size (fun _ => True) (.slice B6 sx2.length e6) sx2 ∧ (s.2.1 = 0 → xW zs P2 ∧ px2 = jL (uJ zs (qD zs) zs.length) ∧ sx2 = jL (uI zs (uV zs) zs.length))) ∧ W.heap[s.2.2.2.1]? = some (.cells Z76 76 (0, 0)) ∧ W.heap[s.2.2.2.2]? = some (.cells Z51 51 (0, 0)) ∧ s.2.2.2.1 ≠ s.2.2.2.2 ∧ g2 ≠ s.2.2.2.1 ∧ g2 ≠ s.2.2.2.2 ∧ g3 ≠ s.2.2.2.1 ∧ g3 ≠ s.2.2.2.2 ∧ g13 ≠ s.2.2.2.1 ∧ g13 ≠ s.2.2.2.2 ∧ w.heap.size ≤ s.2.2.2.1 ∧ w.heap.size ≤ s.2.2.2.2 ∧ (ad.add (m * 4)).block ≠ s.2.2.2.1 ∧ (ad.add (m * 4)).block ≠ s.2.2.2.2 ∧ W.cell? ⟨(ad.add (m * 4)).block, (ad.add (m * 4)).off + 2, none⟩ = some (.int .i64 x.f0.f2) ∧ W.heap[g13]? = some (.cells (xX (.slice B1 px.length d1) (.slice B2 sx.length d2) false (.slice A6 ([(⟨2, 0⟩ : S80)] ++ px).length c6) (.slice B2 sx.length d2) PN at_ pad wd) 26 (0, 0)) ∧ Kd.R k80 80 W w.heap.size (fun _ => True) (.slice B1 px.length d1) px ∧ Kd.R k80 80 W w.heap.size (fun _ => True) (.slice B2 sx.length d2) sx ∧ W.heap[g2]? = some (.cells Z26 26 (0, 0)) ∧ W.heap[g3]? = some (.cells Z51 51 (0, 0)) ∧ Below w.heap.size w W) ?hc37 ?hr37
         case hr37 =>
          intro hCont
          refine znC (i := 11) (j := 15) (k := 16) (Ni := some 153) (Nj := some 14) (Nk := some 15) (bb 19 4095) (bb 19 34815) (bb 19 67583) rfl rfl rfl rfl rfl rfl (by kernel_rfl) (by decide) (by decide) (by decide) (fun K hK => ?_) (fun K hK => ?_) (fun K hK => ?_)
          ·skip
           refine yE Tryz.func57 (by kernel_rfl) rfl #[.slice A4 zs.length cz, .int .i64 _, .bool false] (by rfl) rfl rfl (by (try simp only [List.map_toArray]); (try simp only [List.map_cons]); (try simp only [List.map_nil]); first | done | rfl) ?_
           refine (zbK A4 cz zs _ false _ HC4.out hczl (by omega)).mono ?_
           rintro e9 w20 ⟨v1, v2, px2, sx2, P2, at2, pad2, long2, E3, a3, rfl, hq1, hq2, hb, hpost, -⟩
           obtain ⟨B5, e5, rfl⟩ := Kd.R_slice hq1
           obtain ⟨B6, e6, rfl⟩ := Kd.R_slice hq2
           refine ⟨_, rfl, ?_⟩
           have HPQ := K_ hpost
           have HQ1 := K_ (Kd.R_lower hq1 (zJ HB.out))
           have HQ2 := K_ (Kd.R_lower hq2 (zJ HB.out))
           have hh20 := (Below.cell hb (World.block_lt_of_cell? _ _ hHeld)).trans hHeld
           replace HC4 := K_ (Kd.C_below HC4.out hb)
           replace HO1 := K_ (Kd.R_below HO1.out hb)
           replace HO2 := K_ (Kd.R_below HO2.out hb)
           replace BK13 := zC BK13 hb
           replace BK2 := zC BK2 hb
           replace BK3 := zC BK3 hb
           replace HB := zE HB hb
           clear hb hpost hq1 hq2 hHeld
           have hHeld := hh20
           clear hh20
           refine hK.out _ _ hHeld (fun _ => ?_)
           clear hK K
           refine yH (a' := ?_) ?_ ?_
           rotate_left
           ·show Act.put _ (some 153) _ = _
            simp only [Act.put, List.setIfInBounds_toArray, List.set_cons_zero, List.set_cons_succ]
            rfl
           refine pu_ 12 (some 141) (bb 19 8191) (by kernel_rfl) ?_
           refine pu_ 13 (some 154) (bb 19 16383) (by kernel_rfl) ?_
           refine pu_ 14 (some 155) (bb 19 32767) (by kernel_rfl) ?_
           refine zea (i := 15) (j := 16) (Ni := some 14) (Nj := some 15) (bb 19 65535) (bb 19 98303) rfl rfl rfl rfl (by kernel_rfl) (by decide) (by decide) (fun K hK => ?_) (fun K hK => ?_)
           ·skip
            refine qR ?hg (N := 14) ?hd (cs := Z76) (t := 76) ?hr ?_; (case hd => rfl); (case hg => rfl); (case hr => first | (go_simp; done) | (go_simp; rfl))
            intro g14 hg w21 hbox hb
            have BK14 := K_ hbox
            have GE14 := ge_ hg HB
            have N2x14 := nb_ hg BK2
            have N3x14 := nb_ hg BK3
            have N13x14 := nb_ hg BK13
            have NCx14 := zdb hHeld hg
            have hh21 := (Below.cell hb (World.block_lt_of_cell? _ _ hHeld)).trans hHeld
            replace HC4 := K_ (Kd.C_below HC4.out hb)
            replace HO1 := K_ (Kd.R_below HO1.out hb)
            replace HO2 := K_ (Kd.R_below HO2.out hb)
            replace HQ1 := K_ (Kd.R_below HQ1.out hb)
            replace HQ2 := K_ (Kd.R_below HQ2.out hb)
            replace BK13 := zC BK13 hb
            replace BK2 := zC BK2 hb
            replace BK3 := zC BK3 hb
            replace HB := zE HB hb
            clear hb hbox hg hHeld
            have hHeld := hh21
            clear hh21
            refine hK.out _ _ hHeld (fun _ => ?_)
            clear hK K
            refine yH (a' := ?_) ?_ ?_
            rotate_left
            ·show Act.put _ (some 14) _ = _
             simp only [Act.put, List.setIfInBounds_toArray, List.set_cons_zero, List.set_cons_succ]
             rfl
            refine jP (i := 16) (N := some 15) (bb 19 131071) rfl rfl (by kernel_rfl) (by decide) (fun K hK => ?_)
            refine qR ?hg (N := 15) ?hd (cs := Z51) (t := 51) ?hr ?_; (case hd => rfl); (case hg => rfl); (case hr => first | (go_simp; done) | (go_simp; rfl))
            intro g15 hg w22 hbox hb
            have BK15 := K_ hbox
            have GE15 := ge_ hg HB
            have N2x15 := nb_ hg BK2
            have N3x15 := nb_ hg BK3
            have N13x15 := nb_ hg BK13
            have NCx15 := zdb hHeld hg
            have N1415 := nb_ hg BK14
            have hh22 := (Below.cell hb (World.block_lt_of_cell? _ _ hHeld)).trans hHeld
            replace HC4 := K_ (Kd.C_below HC4.out hb)
            replace HO1 := K_ (Kd.R_below HO1.out hb)
            replace HO2 := K_ (Kd.R_below HO2.out hb)
            replace HQ1 := K_ (Kd.R_below HQ1.out hb)
            replace HQ2 := K_ (Kd.R_below HQ2.out hb)
            replace BK13 := zC BK13 hb
            replace BK2 := zC BK2 hb
            replace BK3 := zC BK3 hb
            replace BK14 := zC BK14 hb
            replace HB := zE HB hb
            clear hb hbox hg hHeld
            have hHeld := hh22
            clear hh22
            refine hK.out _ _ hHeld (fun _ => ?_)
            clear hK K
            refine yH (a' := ?_) ?_ ?_
            rotate_left
            ·show Act.put _ (some 15) _ = _
             simp only [Act.put, List.setIfInBounds_toArray, List.set_cons_zero, List.set_cons_succ]
             rfl
            exact yH (by simp only [qV, Act.put, List.setIfInBounds_toArray, List.set_cons_zero, List.set_cons_succ]) (hCont (.agg (uU (.slice B5 px2.length e5) (.slice B6 sx2.length e6) P2 at2 pad2 long2), E3, a3, g14, g15) _ ⟨⟨B5, e5, B6, e6, px2, sx2, P2, at2, pad2, long2, rfl, HQ1.out, HQ2.out, HPQ.out⟩, BK14.out, BK15.out, N1415.out, N2x14.out, N2x15.out, N3x14.out, N3x15.out, N13x14.out, N13x15.out, GE14.out, GE15.out, NCx14, NCx15, hHeld, BK13.out, HO1.out, HO2.out, BK2.out, BK3.out, HB.out⟩)
           skip
           refine qR ?hg (N := 15) ?hd (cs := Z51) (t := 51) ?hr ?_; (case hd => rfl); (case hg => rfl); (case hr => first | (go_simp; done) | (go_simp; rfl))
           intro g15 hg w21 hbox hb
           have BK15 := K_ hbox
           have GE15 := ge_ hg HB
           have N2x15 := nb_ hg BK2
           have N3x15 := nb_ hg BK3
           have N13x15 := nb_ hg BK13
           have NCx15 := zdb hHeld hg
           have hh21 := (Below.cell hb (World.block_lt_of_cell? _ _ hHeld)).trans hHeld
           replace HC4 := K_ (Kd.C_below HC4.out hb)
           replace HO1 := K_ (Kd.R_below HO1.out hb)
           replace HO2 := K_ (Kd.R_below HO2.out hb)
           replace HQ1 := K_ (Kd.R_below HQ1.out hb)
           replace HQ2 := K_ (Kd.R_below HQ2.out hb)
           replace BK13 := zC BK13 hb
           replace BK2 := zC BK2 hb
           replace BK3 := zC BK3 hb
           replace HB := zE HB hb
           clear hb hbox hg hHeld
           have hHeld := hh21
           clear hh21
           refine hK.out _ _ hHeld (fun _ => ?_)
           clear hK K
           refine yH (a' := ?_) ?_ ?_
           rotate_left
           ·show Act.put _ (some 15) _ = _
            simp only [Act.put, List.setIfInBounds_toArray, List.set_cons_zero, List.set_cons_succ]
            rfl
           refine jP (i := 15) (N := some 14) (bb 19 131071) rfl rfl (by kernel_rfl) (by decide) (fun K hK => ?_)
           refine qR ?hg (N := 14) ?hd (cs := Z76) (t := 76) ?hr ?_; (case hd => rfl); (case hg => rfl); (case hr => first | (go_simp; done) | (go_simp; rfl))
           intro g14 hg w22 hbox hb
           have BK14 := K_ hbox
           have GE14 := ge_ hg HB
           have N2x14 := nb_ hg BK2
           have N3x14 := nb_ hg BK3
           have N13x14 := nb_ hg BK13
           have NCx14 := zdb hHeld hg
           have NX := nb_ hg BK15
           have N1415 := K_ (Ne.symm NX.out)
           clear NX
           have hh22 := (Below.cell hb (World.block_lt_of_cell? _ _ hHeld)).trans hHeld
           replace HC4 := K_ (Kd.C_below HC4.out hb)
           replace HO1 := K_ (Kd.R_below HO1.out hb)
           replace HO2 := K_ (Kd.R_below HO2.out hb)
           replace HQ1 := K_ (Kd.R_below HQ1.out hb)
           replace HQ2 := K_ (Kd.R_below HQ2.out hb)
           replace BK13 := zC BK13 hb
           replace BK2 := zC BK2 hb
           replace BK3 := zC BK3 hb
           replace BK15 := zC BK15 hb
           replace HB := zE HB hb
           clear hb hbox hg hHeld
           have hHeld := hh22
           clear hh22
           refine hK.out _ _ hHeld (fun _ => ?_)
           clear hK K
           refine yH (a' := ?_) ?_ ?_
           rotate_left
           ·show Act.put _ (some 14) _ = _
            simp only [Act.put, List.setIfInBounds_toArray, List.set_cons_zero, List.set_cons_succ]
            rfl
           exact yH (by simp only [qV, Act.put, List.setIfInBounds_toArray, List.set_cons_zero, List.set_cons_succ]) (hCont (.agg (uU (.slice B5 px2.length e5) (.slice B6 sx2.length e6) P2 at2 pad2 long2), E3, a3, g14, g15) _ ⟨⟨B5, e5, B6, e6, px2, sx2, P2, at2, pad2, long2, rfl, HQ1.out, HQ2.out, HPQ.out⟩, BK14.out, BK15.out, N1415.out, N2x14.out, N2x15.out, N3x14.out, N3x15.out, N13x14.out, N13x15.out, GE14.out, GE15.out, NCx14, NCx15, hHeld, BK13.out, HO1.out, HO2.out, BK2.out, BK3.out, HB.out⟩)
          ·skip
           refine qR ?hg (N := 14) ?hd (cs := Z76) (t := 76) ?hr ?_; (case hd => rfl); (case hg => rfl); (case hr => first | (go_simp; done) | (go_simp; rfl))
           intro g14 hg w20 hbox hb
           have BK14 := K_ hbox
           have GE14 := ge_ hg HB
           have N2x14 := nb_ hg BK2
           have N3x14 := nb_ hg BK3
           have N13x14 := nb_ hg BK13
           have NCx14 := zdb hHeld hg
           have hh20 := (Below.cell hb (World.block_lt_of_cell? _ _ hHeld)).trans hHeld
           replace HC4 := K_ (Kd.C_below HC4.out hb)
           replace HO1 := K_ (Kd.R_below HO1.out hb)
           replace HO2 := K_ (Kd.R_below HO2.out hb)
           replace BK13 := zC BK13 hb
           replace BK2 := zC BK2 hb
           replace BK3 := zC BK3 hb
           replace HB := zE HB hb
           clear hb hbox hg hHeld
           have hHeld := hh20
           clear hh20
           refine hK.out _ _ hHeld (fun _ => ?_)
           clear hK K
           refine yH (a' := ?_) ?_ ?_
           rotate_left
           ·show Act.put _ (some 14) _ = _
            simp only [Act.put, List.setIfInBounds_toArray, List.set_cons_zero, List.set_cons_succ]
            rfl
           refine zea (i := 11) (j := 16) (Ni := some 153) (Nj := some 15) (bb 19 36863) (bb 19 100351) rfl rfl rfl rfl (by kernel_rfl) (by decide) (by decide) (fun K hK => ?_) (fun K hK => ?_)
           ·skip
            refine yE Tryz.func57 (by kernel_rfl) rfl #[.slice A4 zs.length cz, .int .i64 _, .bool false] (by rfl) rfl rfl (by (try simp only [List.map_toArray]); (try simp only [List.map_cons]); (try simp only [List.map_nil]); first | done | rfl) ?_
            refine (zbK A4 cz zs _ false _ HC4.out hczl (by omega)).mono ?_
            rintro e9 w21 ⟨v1, v2, px2, sx2, P2, at2, pad2, long2, E3, a3, rfl, hq1, hq2, hb, hpost, -⟩
            obtain ⟨B5, e5, rfl⟩ := Kd.R_slice hq1
            obtain ⟨B6, e6, rfl⟩ := Kd.R_slice hq2
            refine ⟨_, rfl, ?_⟩
            have HPQ := K_ hpost
            have HQ1 := K_ (Kd.R_lower hq1 (zJ HB.out))
            have HQ2 := K_ (Kd.R_lower hq2 (zJ HB.out))
            have hh21 := (Below.cell hb (World.block_lt_of_cell? _ _ hHeld)).trans hHeld
            replace HC4 := K_ (Kd.C_below HC4.out hb)
            replace HO1 := K_ (Kd.R_below HO1.out hb)
            replace HO2 := K_ (Kd.R_below HO2.out hb)
            replace BK13 := zC BK13 hb
            replace BK2 := zC BK2 hb
            replace BK3 := zC BK3 hb
            replace BK14 := zC BK14 hb
            replace HB := zE HB hb
            clear hb hpost hq1 hq2 hHeld
            have hHeld := hh21
            clear hh21
            refine hK.out _ _ hHeld (fun _ => ?_)
            clear hK K
            refine yH (a' := ?_) ?_ ?_
            rotate_left
            ·show Act.put _ (some 153) _ = _
             simp only [Act.put, List.setIfInBounds_toArray, List.set_cons_zero, List.set_cons_succ]
             rfl
            refine pu_ 12 (some 141) (bb 19 40959) (by kernel_rfl) ?_
            refine pu_ 13 (some 154) (bb 19 49151) (by kernel_rfl) ?_
            refine pu_ 14 (some 155) (bb 19 65535) (by kernel_rfl) ?_
            refine jP (i := 16) (N := some 15) (bb 19 131071) rfl rfl (by kernel_rfl) (by decide) (fun K hK => ?_)
            refine qR ?hg (N := 15) ?hd (cs := Z51) (t := 51) ?hr ?_; (case hd => rfl); (case hg => rfl); (case hr => first | (go_simp; done) | (go_simp; rfl))
            intro g15 hg w22 hbox hb
            have BK15 := K_ hbox
            have GE15 := ge_ hg HB
            have N2x15 := nb_ hg BK2
            have N3x15 := nb_ hg BK3
            have N13x15 := nb_ hg BK13
            have NCx15 := zdb hHeld hg
            have N1415 := nb_ hg BK14
            have hh22 := (Below.cell hb (World.block_lt_of_cell? _ _ hHeld)).trans hHeld
            replace HC4 := K_ (Kd.C_below HC4.out hb)
            replace HO1 := K_ (Kd.R_below HO1.out hb)
            replace HO2 := K_ (Kd.R_below HO2.out hb)
            replace HQ1 := K_ (Kd.R_below HQ1.out hb)
            replace HQ2 := K_ (Kd.R_below HQ2.out hb)
            replace BK13 := zC BK13 hb
            replace BK2 := zC BK2 hb
            replace BK3 := zC BK3 hb
            replace BK14 := zC BK14 hb
            replace HB := zE HB hb
            clear hb hbox hg hHeld
            have hHeld := hh22
            clear hh22
            refine hK.out _ _ hHeld (fun _ => ?_)
            clear hK K
            refine yH (a' := ?_) ?_ ?_
            rotate_left
            ·show Act.put _ (some 15) _ = _
             simp only [Act.put, List.setIfInBounds_toArray, List.set_cons_zero, List.set_cons_succ]
             rfl
            exact yH (by simp only [qV, Act.put, List.setIfInBounds_toArray, List.set_cons_zero, List.set_cons_succ]) (hCont (.agg (uU (.slice B5 px2.length e5) (.slice B6 sx2.length e6) P2 at2 pad2 long2), E3, a3, g14, g15) _ ⟨⟨B5, e5, B6, e6, px2, sx2, P2, at2, pad2, long2, rfl, HQ1.out, HQ2.out, HPQ.out⟩, BK14.out, BK15.out, N1415.out, N2x14.out, N2x15.out, N3x14.out, N3x15.out, N13x14.out, N13x15.out, GE14.out, GE15.out, NCx14, NCx15, hHeld, BK13.out, HO1.out, HO2.out, BK2.out, BK3.out, HB.out⟩)
           skip
           refine qR ?hg (N := 15) ?hd (cs := Z51) (t := 51) ?hr ?_; (case hd => rfl); (case hg => rfl); (case hr => first | (go_simp; done) | (go_simp; rfl))
           intro g15 hg w21 hbox hb
           have BK15 := K_ hbox
           have GE15 := ge_ hg HB
           have N2x15 := nb_ hg BK2
           have N3x15 := nb_ hg BK3
           have N13x15 := nb_ hg BK13
           have NCx15 := zdb hHeld hg
           have N1415 := nb_ hg BK14
           have hh21 := (Below.cell hb (World.block_lt_of_cell? _ _ hHeld)).trans hHeld
           replace HC4 := K_ (Kd.C_below HC4.out hb)
           replace HO1 := K_ (Kd.R_below HO1.out hb)
           replace HO2 := K_ (Kd.R_below HO2.out hb)
           replace BK13 := zC BK13 hb
           replace BK2 := zC BK2 hb
           replace BK3 := zC BK3 hb
           replace BK14 := zC BK14 hb
           replace HB := zE HB hb
           clear hb hbox hg hHeld
           have hHeld := hh21
           clear hh21
           refine hK.out _ _ hHeld (fun _ => ?_)
           clear hK K
           refine yH (a' := ?_) ?_ ?_
           rotate_left
           ·show Act.put _ (some 15) _ = _
            simp only [Act.put, List.setIfInBounds_toArray, List.set_cons_zero, List.set_cons_succ]
            rfl
           refine jP (i := 11) (N := some 153) (bb 19 102399) rfl rfl (by kernel_rfl) (by decide) (fun K hK => ?_)
           refine yE Tryz.func57 (by kernel_rfl) rfl #[.slice A4 zs.length cz, .int .i64 _, .bool false] (by rfl) rfl rfl (by (try simp only [List.map_toArray]); (try simp only [List.map_cons]); (try simp only [List.map_nil]); first | done | rfl) ?_
           refine (zbK A4 cz zs _ false _ HC4.out hczl (by omega)).mono ?_
           rintro e9 w22 ⟨v1, v2, px2, sx2, P2, at2, pad2, long2, E3, a3, rfl, hq1, hq2, hb, hpost, -⟩
           obtain ⟨B5, e5, rfl⟩ := Kd.R_slice hq1
           obtain ⟨B6, e6, rfl⟩ := Kd.R_slice hq2
           refine ⟨_, rfl, ?_⟩
           have HPQ := K_ hpost
           have HQ1 := K_ (Kd.R_lower hq1 (zJ HB.out))
           have HQ2 := K_ (Kd.R_lower hq2 (zJ HB.out))
           have hh22 := (Below.cell hb (World.block_lt_of_cell? _ _ hHeld)).trans hHeld
           replace HC4 := K_ (Kd.C_below HC4.out hb)
           replace HO1 := K_ (Kd.R_below HO1.out hb)
           replace HO2 := K_ (Kd.R_below HO2.out hb)
           replace BK13 := zC BK13 hb
           replace BK2 := zC BK2 hb
           replace BK3 := zC BK3 hb
           replace BK14 := zC BK14 hb
           replace BK15 := zC BK15 hb
           replace HB := zE HB hb
           clear hb hpost hq1 hq2 hHeld
           have hHeld := hh22
           clear hh22
           refine hK.out _ _ hHeld (fun _ => ?_)
           clear hK K
           refine yH (a' := ?_) ?_ ?_
           rotate_left
           ·show Act.put _ (some 153) _ = _
            simp only [Act.put, List.setIfInBounds_toArray, List.set_cons_zero, List.set_cons_succ]
            rfl
           refine pu_ 12 (some 141) (bb 19 106495) (by kernel_rfl) ?_
           refine pu_ 13 (some 154) (bb 19 114687) (by kernel_rfl) ?_
           refine pu_ 14 (some 155) (bb 19 131071) (by kernel_rfl) ?_
           exact yH (by simp only [qV, Act.put, List.setIfInBounds_toArray, List.set_cons_zero, List.set_cons_succ]) (hCont (.agg (uU (.slice B5 px2.length e5) (.slice B6 sx2.length e6) P2 at2 pad2 long2), E3, a3, g14, g15) _ ⟨⟨B5, e5, B6, e6, px2, sx2, P2, at2, pad2, long2, rfl, HQ1.out, HQ2.out, HPQ.out⟩, BK14.out, BK15.out, N1415.out, N2x14.out, N2x15.out, N3x14.out, N3x15.out, N13x14.out, N13x15.out, GE14.out, GE15.out, NCx14, NCx15, hHeld, BK13.out, HO1.out, HO2.out, BK2.out, BK3.out, HB.out⟩)
          skip
          refine qR ?hg (N := 15) ?hd (cs := Z51) (t := 51) ?hr ?_; (case hd => rfl); (case hg => rfl); (case hr => first | (go_simp; done) | (go_simp; rfl))
          intro g15 hg w20 hbox hb
          have BK15 := K_ hbox
          have GE15 := ge_ hg HB
          have N2x15 := nb_ hg BK2
          have N3x15 := nb_ hg BK3
          have N13x15 := nb_ hg BK13
          have NCx15 := zdb hHeld hg
          have hh20 := (Below.cell hb (World.block_lt_of_cell? _ _ hHeld)).trans hHeld
          replace HC4 := K_ (Kd.C_below HC4.out hb)
          replace HO1 := K_ (Kd.R_below HO1.out hb)
          replace HO2 := K_ (Kd.R_below HO2.out hb)
          replace BK13 := zC BK13 hb
          replace BK2 := zC BK2 hb
          replace BK3 := zC BK3 hb
          replace HB := zE HB hb
          clear hb hbox hg hHeld
          have hHeld := hh20
          clear hh20
          refine hK.out _ _ hHeld (fun _ => ?_)
          clear hK K
          refine yH (a' := ?_) ?_ ?_
          rotate_left
          ·show Act.put _ (some 15) _ = _
           simp only [Act.put, List.setIfInBounds_toArray, List.set_cons_zero, List.set_cons_succ]
           rfl
          refine zea (i := 11) (j := 15) (Ni := some 153) (Nj := some 14) (bb 19 69631) (bb 19 100351) rfl rfl rfl rfl (by kernel_rfl) (by decide) (by decide) (fun K hK => ?_) (fun K hK => ?_)
          ·skip
           refine yE Tryz.func57 (by kernel_rfl) rfl #[.slice A4 zs.length cz, .int .i64 _, .bool false] (by rfl) rfl rfl (by (try simp only [List.map_toArray]); (try simp only [List.map_cons]); (try simp only [List.map_nil]); first | done | rfl) ?_
           refine (zbK A4 cz zs _ false _ HC4.out hczl (by omega)).mono ?_
           rintro e9 w21 ⟨v1, v2, px2, sx2, P2, at2, pad2, long2, E3, a3, rfl, hq1, hq2, hb, hpost, -⟩
           obtain ⟨B5, e5, rfl⟩ := Kd.R_slice hq1
           obtain ⟨B6, e6, rfl⟩ := Kd.R_slice hq2
           refine ⟨_, rfl, ?_⟩
           have HPQ := K_ hpost
           have HQ1 := K_ (Kd.R_lower hq1 (zJ HB.out))
           have HQ2 := K_ (Kd.R_lower hq2 (zJ HB.out))
           have hh21 := (Below.cell hb (World.block_lt_of_cell? _ _ hHeld)).trans hHeld
           replace HC4 := K_ (Kd.C_below HC4.out hb)
           replace HO1 := K_ (Kd.R_below HO1.out hb)
           replace HO2 := K_ (Kd.R_below HO2.out hb)
           replace BK13 := zC BK13 hb
           replace BK2 := zC BK2 hb
           replace BK3 := zC BK3 hb
           replace BK15 := zC BK15 hb
           replace HB := zE HB hb
           clear hb hpost hq1 hq2 hHeld
           have hHeld := hh21
           clear hh21
           refine hK.out _ _ hHeld (fun _ => ?_)
           clear hK K
           refine yH (a' := ?_) ?_ ?_
           rotate_left
           ·show Act.put _ (some 153) _ = _
            simp only [Act.put, List.setIfInBounds_toArray, List.set_cons_zero, List.set_cons_succ]
            rfl
           refine pu_ 12 (some 141) (bb 19 73727) (by kernel_rfl) ?_
           refine pu_ 13 (some 154) (bb 19 81919) (by kernel_rfl) ?_
           refine pu_ 14 (some 155) (bb 19 98303) (by kernel_rfl) ?_
           refine jP (i := 15) (N := some 14) (bb 19 131071) rfl rfl (by kernel_rfl) (by decide) (fun K hK => ?_)
           refine qR ?hg (N := 14) ?hd (cs := Z76) (t := 76) ?hr ?_; (case hd => rfl); (case hg => rfl); (case hr => first | (go_simp; done) | (go_simp; rfl))
           intro g14 hg w22 hbox hb
           have BK14 := K_ hbox
           have GE14 := ge_ hg HB
           have N2x14 := nb_ hg BK2
           have N3x14 := nb_ hg BK3
           have N13x14 := nb_ hg BK13
           have NCx14 := zdb hHeld hg
           have NX := nb_ hg BK15
           have N1415 := K_ (Ne.symm NX.out)
           clear NX
           have hh22 := (Below.cell hb (World.block_lt_of_cell? _ _ hHeld)).trans hHeld
           replace HC4 := K_ (Kd.C_below HC4.out hb)
           replace HO1 := K_ (Kd.R_below HO1.out hb)
           replace HO2 := K_ (Kd.R_below HO2.out hb)
           replace HQ1 := K_ (Kd.R_below HQ1.out hb)
           replace HQ2 := K_ (Kd.R_below HQ2.out hb)
           replace BK13 := zC BK13 hb
           replace BK2 := zC BK2 hb
           replace BK3 := zC BK3 hb
           replace BK15 := zC BK15 hb
           replace HB := zE HB hb
           clear hb hbox hg hHeld
           have hHeld := hh22
           clear hh22
           refine hK.out _ _ hHeld (fun _ => ?_)
           clear hK K
           refine yH (a' := ?_) ?_ ?_
           rotate_left
           ·show Act.put _ (some 14) _ = _
            simp only [Act.put, List.setIfInBounds_toArray, List.set_cons_zero, List.set_cons_succ]
            rfl
           exact yH (by simp only [qV, Act.put, List.setIfInBounds_toArray, List.set_cons_zero, List.set_cons_succ]) (hCont (.agg (uU (.slice B5 px2.length e5) (.slice B6 sx2.length e6) P2 at2 pad2 long2), E3, a3, g14, g15) _ ⟨⟨B5, e5, B6, e6, px2, sx2, P2, at2, pad2, long2, rfl, HQ1.out, HQ2.out, HPQ.out⟩, BK14.out, BK15.out, N1415.out, N2x14.out, N2x15.out, N3x14.out, N3x15.out, N13x14.out, N13x15.out, GE14.out, GE15.out, NCx14, NCx15, hHeld, BK13.out, HO1.out, HO2.out, BK2.out, BK3.out, HB.out⟩)
          skip
          refine qR ?hg (N := 14) ?hd (cs := Z76) (t := 76) ?hr ?_; (case hd => rfl); (case hg => rfl); (case hr => first | (go_simp; done) | (go_simp; rfl))
          intro g14 hg w21 hbox hb
          have BK14 := K_ hbox
          have GE14 := ge_ hg HB
          have N2x14 := nb_ hg BK2
          have N3x14 := nb_ hg BK3
          have N13x14 := nb_ hg BK13
          have NCx14 := zdb hHeld hg
          have NX := nb_ hg BK15
          have N1415 := K_ (Ne.symm NX.out)
          clear NX
          have hh21 := (Below.cell hb (World.block_lt_of_cell? _ _ hHeld)).trans hHeld
          replace HC4 := K_ (Kd.C_below HC4.out hb)
          replace HO1 := K_ (Kd.R_below HO1.out hb)
          replace HO2 := K_ (Kd.R_below HO2.out hb)
          replace BK13 := zC BK13 hb
          replace BK2 := zC BK2 hb
          replace BK3 := zC BK3 hb
          replace BK15 := zC BK15 hb
          replace HB := zE HB hb
          clear hb hbox hg hHeld
          have hHeld := hh21
          clear hh21
          refine hK.out _ _ hHeld (fun _ => ?_)
          clear hK K
          refine yH (a' := ?_) ?_ ?_
          rotate_left
          ·show Act.put _ (some 14) _ = _
           simp only [Act.put, List.setIfInBounds_toArray, List.set_cons_zero, List.set_cons_succ]
           rfl
          refine jP (i := 11) (N := some 153) (bb 19 102399) rfl rfl (by kernel_rfl) (by decide) (fun K hK => ?_)
          refine yE Tryz.func57 (by kernel_rfl) rfl #[.slice A4 zs.length cz, .int .i64 _, .bool false] (by rfl) rfl rfl (by (try simp only [List.map_toArray]); (try simp only [List.map_cons]); (try simp only [List.map_nil]); first | done | rfl) ?_
          refine (zbK A4 cz zs _ false _ HC4.out hczl (by omega)).mono ?_
          rintro e9 w22 ⟨v1, v2, px2, sx2, P2, at2, pad2, long2, E3, a3, rfl, hq1, hq2, hb, hpost, -⟩
          obtain ⟨B5, e5, rfl⟩ := Kd.R_slice hq1
          obtain ⟨B6, e6, rfl⟩ := Kd.R_slice hq2
          refine ⟨_, rfl, ?_⟩
          have HPQ := K_ hpost
          have HQ1 := K_ (Kd.R_lower hq1 (zJ HB.out))
          have HQ2 := K_ (Kd.R_lower hq2 (zJ HB.out))
          have hh22 := (Below.cell hb (World.block_lt_of_cell? _ _ hHeld)).trans hHeld
          replace HC4 := K_ (Kd.C_below HC4.out hb)
          replace HO1 := K_ (Kd.R_below HO1.out hb)
          replace HO2 := K_ (Kd.R_below HO2.out hb)
          replace BK13 := zC BK13 hb
          replace BK2 := zC BK2 hb
          replace BK3 := zC BK3 hb
          replace BK14 := zC BK14 hb
          replace BK15 := zC BK15 hb
          replace HB := zE HB hb
          clear hb hpost hq1 hq2 hHeld
          have hHeld := hh22
          clear hh22
          refine hK.out _ _ hHeld (fun _ => ?_)
          clear hK K
          refine yH (a' := ?_) ?_ ?_
          rotate_left
          ·show Act.put _ (some 153) _ = _
           simp only [Act.put, List.setIfInBounds_toArray, List.set_cons_zero, List.set_cons_succ]
           rfl
          refine pu_ 12 (some 141) (bb 19 106495) (by kernel_rfl) ?_
          refine pu_ 13 (some 154) (bb 19 114687) (by kernel_rfl) ?_
          refine pu_ 14 (some 155) (bb 19 131071) (by kernel_rfl) ?_
          exact yH (by simp only [qV, Act.put, List.setIfInBounds_toArray, List.set_cons_zero, List.set_cons_succ]) (hCont (.agg (uU (.slice B5 px2.length e5) (.slice B6 sx2.length e6) P2 at2 pad2 long2), E3, a3, g14, g15) _ ⟨⟨B5, e5, B6, e6, px2, sx2, P2, at2, pad2, long2, rfl, HQ1.out, HQ2.out, HPQ.out⟩, BK14.out, BK15.out, N1415.out, N2x14.out, N2x15.out, N3x14.out, N3x15.out, N13x14.out, N13x15.out, GE14.out, GE15.out, NCx14, NCx15, hHeld, BK13.out, HO1.out, HO2.out, BK2.out, BK3.out, HB.out⟩)
         case hc37 =>
          rintro ⟨V, E3, a3, g14, g15⟩ W7 ⟨⟨B5, e5, B6, e6, px2, sx2, P2, at2, pad2, long2, hV, hq1, hq2, hpq⟩, hb14, hb15, n1415, n2x14, n2x15, n3x14, n3x15, n13x14, n13x15, ge14, ge15, ncx14, ncx15, hHeld, hb13, ho1, ho2, hb2, hb3, hbw⟩
          dsimp only at hV hq1 hq2 hpq hb14 hb15 n1415 n2x14 n2x15 n3x14 n3x15 n13x14 n13x15 ge14 ge15 ncx14 ncx15
          subst hV
          have BK14 := K_ hb14
          have BK15 := K_ hb15
          have N1415 := K_ n1415
          have N2x14 := K_ n2x14
          have N2x15 := K_ n2x15
          have N3x14 := K_ n3x14
          have N3x15 := K_ n3x15
          have N13x14 := K_ n13x14
          have N13x15 := K_ n13x15
          have HQ1 := K_ hq1
          have HQ2 := K_ hq2
          have HPQ := K_ hpq
          have BK13 := K_ hb13
          have HO1 := K_ ho1
          have HO2 := K_ ho2
          have BK2 := K_ hb2
          have BK3 := K_ hb3
          have HB := K_ hbw
          clear hb14 hb15 n1415 n2x14 n2x15 n3x14 n3x15 n13x14 n13x15 hq1 hq2 hpq hb13 ho1 ho2 hb2 hb3 hbw
          refine yH (a' := ?_) ?_ ?_
          rotate_left
          ·simp only [qV, Act.put, List.setIfInBounds_toArray, List.set_cons_zero, List.set_cons_succ]
           rfl
          refine jP (i := 17) (N := none) (bb 19 262143) rfl rfl (by kernel_rfl) (by decide) (fun K hK => ?_)
          refine uP (g := g14) (cs := Z76) (uU (.slice B5 px2.length e5) (.slice B6 sx2.length e6) P2 at2 pad2 long2) BK14 ?_ rfl rfl rfl rfl rfl zbv rfl rfl
          intro w17 hbk hfar hbel
          have hh := zao hfar (p := ⟨(ad.add (m * 4)).block, (ad.add (m * 4)).off + 2, none⟩) ncx14 hHeld
          replace HQ1 := K_ (uA HQ1.out BK14.out (by decide) hfar)
          replace HQ2 := K_ (uA HQ2.out BK14.out (by decide) hfar)
          replace HO1 := K_ (uA HO1.out BK14.out (by decide) hfar)
          replace HO2 := K_ (uA HO2.out BK14.out (by decide) hfar)
          replace BK13 := K_ (hfar _ _ N13x14.out BK13.out)
          replace BK2 := K_ (hfar _ _ N2x14.out BK2.out)
          replace BK3 := K_ (hfar _ _ N3x14.out BK3.out)
          replace BK15 := K_ (hfar _ _ (Ne.symm N1415.out) BK15.out)
          replace BK14 := K_ hbk
          replace HB := K_ (hbel _ _ ge14 HB.out)
          clear hHeld
          have hHeld := hh
          refine hK.out _ _ hHeld (fun _ => ?_)
          clear hK K hbk hfar hbel hh
          refine jP (i := 18) (N := none) (bb 19 524287) rfl rfl (by kernel_rfl) (by decide) (fun K hK => ?_)
          refine uP (g := g15) (cs := Z51) (#[.int .i64 E3, .int .i64 a3]) BK15 ?_ rfl rfl rfl rfl rfl uT rfl rfl
          intro w18 hbk hfar hbel
          have hh := zao hfar (p := ⟨(ad.add (m * 4)).block, (ad.add (m * 4)).off + 2, none⟩) ncx15 hHeld
          replace HQ1 := K_ (uA HQ1.out BK15.out (by decide) hfar)
          replace HQ2 := K_ (uA HQ2.out BK15.out (by decide) hfar)
          replace HO1 := K_ (uA HO1.out BK15.out (by decide) hfar)
          replace HO2 := K_ (uA HO2.out BK15.out (by decide) hfar)
          replace BK13 := K_ (hfar _ _ N13x15.out BK13.out)
          replace BK2 := K_ (hfar _ _ N2x15.out BK2.out)
          replace BK3 := K_ (hfar _ _ N3x15.out BK3.out)
          replace BK14 := K_ (hfar _ _ N1415.out BK14.out)
          replace BK15 := K_ hbk
          replace HB := K_ (hbel _ _ ge15 HB.out)
          clear hHeld
          have hHeld := hh
          refine hK.out _ _ hHeld (fun _ => ?_)
          clear hK K hbk hfar hbel hh
          refine vR (by kernel_rfl) ?_
          clear hHeld ncx14 ncx15 ge14 ge15
          obtain ⟨⟨q0, q1⟩, q2, q3⟩ := ce2 BK15
          by_cases hE : E3 = 0
          ·subst hE
           have HQK := K_ (HPQ.out rfl)
           have hq1l : px2.length ≤ 1000 := by
            rw [HQK.out.2.1]; refine Nat.le_trans (zcW _) (Nat.le_trans (zeC _ _ _) (by omega))
           have hq2l : sx2.length ≤ 1000 := by
            rw [HQK.out.2.2]; refine Nat.le_trans (zcW _) (Nat.le_trans (zev _ _ _) (by omega))
           have HGQ := K_ (show vT px2 ∧ vT sx2 by rw [HQK.out.2.1, HQK.out.2.2]; exact ⟨zcg _, zcg _⟩)
           go_upto_region 40 with (fail)
           clear q0 q1 q2 q3
           refine vK (n := 10) (S := fun W => W.cell? ⟨g14, 0, none⟩ = some (.slice B5 px2.length e5) ∧ W.cell? ⟨g14, 1, none⟩ = some (.slice B6 sx2.length e6)) (ds := []) #[false, false, false, false, false, false, false, false, false, false] (by kernel_rfl) rfl rfl ⟨(zD (BK BK14) 0).trans rfl, (zD (BK BK14) 1).trans rfl⟩ (fun hHeld => ?_)
           refine yX (fun W => W.heap[g14]? = some (.cells (uU (.slice B5 px2.length e5) (.slice B6 sx2.length e6) P2 at2 pad2 long2) 76 (0, 0)) ∧ Kd.R k80 80 W w.heap.size (fun _ => True) (.slice B5 px2.length e5) px2 ∧ Kd.R k80 80 W w.heap.size (fun _ => True) (.slice B6 sx2.length e6) sx2 ∧ W.heap[g13]? = some (.cells (xX (.slice B1 px.length d1) (.slice B2 sx.length d2) false (.slice A6 ([(⟨2, 0⟩ : S80)] ++ px).length c6) (.slice B2 sx.length d2) PN at_ pad wd) 26 (0, 0)) ∧ Kd.R k80 80 W w.heap.size (fun _ => True) (.slice B1 px.length d1) px ∧ Kd.R k80 80 W w.heap.size (fun _ => True) (.slice B2 sx.length d2) sx ∧ W.heap[g2]? = some (.cells Z26 26 (0, 0)) ∧ W.heap[g3]? = some (.cells Z51 51 (0, 0)) ∧ Below w.heap.size w W) ⟨BK BK14, RB HQ1.out, RB HQ2.out, BK BK13, RB HO1.out, RB HO2.out, BK BK2, BK BK3, BL HB⟩ ?_
           clear hHeld
           clear BK14 HQ1 HQ2 BK13 HO1 HO2 BK2 BK3 HB
           rintro W ⟨hb14, hq1, hq2, hb13, ho1, ho2, hb2, hb3, hbw⟩
           have BK14 := K_ hb14
           have HQ1 := K_ hq1
           have HQ2 := K_ hq2
           have BK13 := K_ hb13
           have HO1 := K_ ho1
           have HO2 := K_ ho2
           have BK2 := K_ hb2
           have BK3 := K_ hb3
           have HB := K_ hbw
           clear hb14 hq1 hq2 hb13 ho1 ho2 hb2 hb3 hbw
           have hHeld := (show W.cell? ⟨g14, 0, none⟩ = some (.slice B5 px2.length e5) ∧ W.cell? ⟨g14, 1, none⟩ = some (.slice B6 sx2.length e6) from ⟨(zD BK14.out 0).trans rfl, (zD BK14.out 1).trans rfl⟩)
           refine pu_ 0 (some 161) (bb 10 1) (by kernel_rfl) ?_
           refine pu_ 2 (some 163) (bb 10 5) (by kernel_rfl) ?_
           refine tk_ 1 (some 162) (bb 10 7) (by kernel_rfl) hHeld ?_
           refine tk_ 3 (some 164) (bb 10 15) (by kernel_rfl) hHeld ?_
           refine pu_ 4 (some 165) (bb 10 31) (by kernel_rfl) ?_
           refine jP (i := 5) (N := none) (bb 10 63) rfl rfl (by kernel_rfl) (by decide) (fun K hK => ?_)
           have hs : W.cell? ⟨g13, 2, none⟩ = some (.bool false) := (zD BK13.out 2).trans rfl
           have hf := zK BK13.out 2
           refine zaz (w1 := W.setCell ⟨g13, 2, none⟩ (.bool true)) (by rfl) rfl (by go_simp; try rfl) ?_
           refine hK.out _ _ (show (W.setCell ⟨g13, 2, none⟩ (.bool true)).cell? ⟨g14, 0, none⟩ = some (.slice B5 px2.length e5) ∧ (W.setCell ⟨g13, 2, none⟩ (.bool true)).cell? ⟨g14, 1, none⟩ = some (.slice B6 sx2.length e6) from ⟨(zD (zR BK14.out (Ne.symm N13x14.out) _) 0).trans rfl, (zD (zR BK14.out (Ne.symm N13x14.out) _) 1).trans rfl⟩) (fun _ => ?_)
           clear hK K hs hf hHeld
           refine yX (fun W => W.heap[g14]? = some (.cells (uU (.slice B5 px2.length e5) (.slice B6 sx2.length e6) P2 at2 pad2 long2) 76 (0, 0)) ∧ Kd.R k80 80 W w.heap.size (fun _ => True) (.slice B5 px2.length e5) px2 ∧ Kd.R k80 80 W w.heap.size (fun _ => True) (.slice B6 sx2.length e6) sx2 ∧ W.heap[g13]? = some (.cells (xX (.slice B1 px.length d1) (.slice B2 sx.length d2) true (.slice A6 ([(⟨2, 0⟩ : S80)] ++ px).length c6) (.slice B2 sx.length d2) PN at_ pad wd) 26 (0, 0)) ∧ Kd.R k80 80 W w.heap.size (fun _ => True) (.slice B1 px.length d1) px ∧ Kd.R k80 80 W w.heap.size (fun _ => True) (.slice B2 sx.length d2) sx ∧ W.heap[g2]? = some (.cells Z26 26 (0, 0)) ∧ W.heap[g3]? = some (.cells Z51 51 (0, 0)) ∧ Below w.heap.size w W) ⟨zR BK14.out (Ne.symm N13x14.out) _, Kd.R_set HQ1.out BK13.out (by decide) _ _, Kd.R_set HQ2.out BK13.out (by decide) _ _, xS BK13.out rfl, Kd.R_set HO1.out BK13.out (by decide) _ _, Kd.R_set HO2.out BK13.out (by decide) _ _, zR BK2.out N2P.out _, zR BK3.out N3P.out _, BL HB⟩ ?_
           clear BK14 HQ1 HQ2 BK13 HO1 HO2 BK2 BK3 HB
           rintro W ⟨hb14, hq1, hq2, hb13, ho1, ho2, hb2, hb3, hbw⟩
           have BK14 := K_ hb14
           have HQ1 := K_ hq1
           have HQ2 := K_ hq2
           have BK13 := K_ hb13
           have HO1 := K_ ho1
           have HO2 := K_ ho2
           have BK2 := K_ hb2
           have BK3 := K_ hb3
           have HB := K_ hbw
           clear hb14 hq1 hq2 hb13 ho1 ho2 hb2 hb3 hbw
           have hHeld := (show W.cell? ⟨g14, 0, none⟩ = some (.slice B5 px2.length e5) ∧ W.cell? ⟨g14, 1, none⟩ = some (.slice B6 sx2.length e6) from ⟨(zD BK14.out 0).trans rfl, (zD BK14.out 1).trans rfl⟩)
           refine pu_ 6 (some 166) (bb 10 127) (by kernel_rfl) ?_
           refine jP (i := 7) (N := none) (bb 10 255) rfl rfl (by kernel_rfl) (by decide) (fun K hK => ?_)
           have hs : W.cell? ⟨g13, 3, none⟩ = some (.slice A6 ([(⟨2, 0⟩ : S80)] ++ px).length c6) := (zD BK13.out 3).trans rfl
           have hf := zK BK13.out 3
           refine zaz (w1 := W.setCell ⟨g13, 3, none⟩ (.slice B5 px2.length e5)) (by rfl) rfl (by go_simp; try rfl) ?_
           refine hK.out _ _ (show (W.setCell ⟨g13, 3, none⟩ (.slice B5 px2.length e5)).cell? ⟨g14, 0, none⟩ = some (.slice B5 px2.length e5) ∧ (W.setCell ⟨g13, 3, none⟩ (.slice B5 px2.length e5)).cell? ⟨g14, 1, none⟩ = some (.slice B6 sx2.length e6) from ⟨(zD (zR BK14.out (Ne.symm N13x14.out) _) 0).trans rfl, (zD (zR BK14.out (Ne.symm N13x14.out) _) 1).trans rfl⟩) (fun _ => ?_)
           clear hK K hs hf hHeld
           refine yX (fun W => W.heap[g14]? = some (.cells (uU (.slice B5 px2.length e5) (.slice B6 sx2.length e6) P2 at2 pad2 long2) 76 (0, 0)) ∧ Kd.R k80 80 W w.heap.size (fun _ => True) (.slice B5 px2.length e5) px2 ∧ Kd.R k80 80 W w.heap.size (fun _ => True) (.slice B6 sx2.length e6) sx2 ∧ W.heap[g13]? = some (.cells (xX (.slice B1 px.length d1) (.slice B2 sx.length d2) true (.slice B5 px2.length e5) (.slice B2 sx.length d2) PN at_ pad wd) 26 (0, 0)) ∧ Kd.R k80 80 W w.heap.size (fun _ => True) (.slice B1 px.length d1) px ∧ Kd.R k80 80 W w.heap.size (fun _ => True) (.slice B2 sx.length d2) sx ∧ W.heap[g2]? = some (.cells Z26 26 (0, 0)) ∧ W.heap[g3]? = some (.cells Z51 51 (0, 0)) ∧ Below w.heap.size w W) ⟨zR BK14.out (Ne.symm N13x14.out) _, Kd.R_set HQ1.out BK13.out (by decide) _ _, Kd.R_set HQ2.out BK13.out (by decide) _ _, xS BK13.out rfl, Kd.R_set HO1.out BK13.out (by decide) _ _, Kd.R_set HO2.out BK13.out (by decide) _ _, zR BK2.out N2P.out _, zR BK3.out N3P.out _, BL HB⟩ ?_
           clear BK14 HQ1 HQ2 BK13 HO1 HO2 BK2 BK3 HB
           rintro W ⟨hb14, hq1, hq2, hb13, ho1, ho2, hb2, hb3, hbw⟩
           have BK14 := K_ hb14
           have HQ1 := K_ hq1
           have HQ2 := K_ hq2
           have BK13 := K_ hb13
           have HO1 := K_ ho1
           have HO2 := K_ ho2
           have BK2 := K_ hb2
           have BK3 := K_ hb3
           have HB := K_ hbw
           clear hb14 hq1 hq2 hb13 ho1 ho2 hb2 hb3 hbw
           have hHeld := (show W.cell? ⟨g14, 0, none⟩ = some (.slice B5 px2.length e5) ∧ W.cell? ⟨g14, 1, none⟩ = some (.slice B6 sx2.length e6) from ⟨(zD BK14.out 0).trans rfl, (zD BK14.out 1).trans rfl⟩)
           refine pu_ 8 (some 167) (bb 10 511) (by kernel_rfl) ?_
           refine jP (i := 9) (N := none) (bb 10 1023) rfl rfl (by kernel_rfl) (by decide) (fun K hK => ?_)
           have hs : W.cell? ⟨g13, 4, none⟩ = some (.slice B2 sx.length d2) := (zD BK13.out 4).trans rfl
           have hf := zK BK13.out 4
           refine zaz (w1 := W.setCell ⟨g13, 4, none⟩ (.slice B6 sx2.length e6)) (by rfl) rfl (by go_simp; try rfl) ?_
           refine hK.out _ _ (show (W.setCell ⟨g13, 4, none⟩ (.slice B6 sx2.length e6)).cell? ⟨g14, 0, none⟩ = some (.slice B5 px2.length e5) ∧ (W.setCell ⟨g13, 4, none⟩ (.slice B6 sx2.length e6)).cell? ⟨g14, 1, none⟩ = some (.slice B6 sx2.length e6) from ⟨(zD (zR BK14.out (Ne.symm N13x14.out) _) 0).trans rfl, (zD (zR BK14.out (Ne.symm N13x14.out) _) 1).trans rfl⟩) (fun _ => ?_)
           clear hK K hs hf hHeld
           refine yX (fun W => W.heap[g14]? = some (.cells (uU (.slice B5 px2.length e5) (.slice B6 sx2.length e6) P2 at2 pad2 long2) 76 (0, 0)) ∧ Kd.R k80 80 W w.heap.size (fun _ => True) (.slice B5 px2.length e5) px2 ∧ Kd.R k80 80 W w.heap.size (fun _ => True) (.slice B6 sx2.length e6) sx2 ∧ W.heap[g13]? = some (.cells (xX (.slice B1 px.length d1) (.slice B2 sx.length d2) true (.slice B5 px2.length e5) (.slice B6 sx2.length e6) PN at_ pad wd) 26 (0, 0)) ∧ Kd.R k80 80 W w.heap.size (fun _ => True) (.slice B1 px.length d1) px ∧ Kd.R k80 80 W w.heap.size (fun _ => True) (.slice B2 sx.length d2) sx ∧ W.heap[g2]? = some (.cells Z26 26 (0, 0)) ∧ W.heap[g3]? = some (.cells Z51 51 (0, 0)) ∧ Below w.heap.size w W) ⟨zR BK14.out (Ne.symm N13x14.out) _, Kd.R_set HQ1.out BK13.out (by decide) _ _, Kd.R_set HQ2.out BK13.out (by decide) _ _, xS BK13.out rfl, Kd.R_set HO1.out BK13.out (by decide) _ _, Kd.R_set HO2.out BK13.out (by decide) _ _, zR BK2.out N2P.out _, zR BK3.out N3P.out _, BL HB⟩ ?_
           clear BK14 HQ1 HQ2 BK13 HO1 HO2 BK2 BK3 HB
           rintro W ⟨hb14, hq1, hq2, hb13, ho1, ho2, hb2, hb3, hbw⟩
           have BK14 := K_ hb14
           have HQ1 := K_ hq1
           have HQ2 := K_ hq2
           have BK13 := K_ hb13
           have HO1 := K_ ho1
           have HO2 := K_ ho2
           have BK2 := K_ hb2
           have BK3 := K_ hb3
           have HB := K_ hbw
           clear hb14 hq1 hq2 hb13 ho1 ho2 hb2 hb3 hbw
           have hHeld := (show W.cell? ⟨g14, 0, none⟩ = some (.slice B5 px2.length e5) ∧ W.cell? ⟨g14, 1, none⟩ = some (.slice B6 sx2.length e6) from ⟨(zD BK14.out 0).trans rfl, (zD BK14.out 1).trans rfl⟩)
           refine vR (by kernel_rfl) ?_
           clear hHeld
           go_wp2_with (fail)
           go_meet
           case rel => exact ⟨true, _, _, px2, sx2, RB HQ1.out, RB HQ2.out, HGQ.out, hq1l, hq2l, fun q1 q2 => (HNT.out q1 q2).elim, BK BK13, RB HO1.out, RB HO2.out, BK BK2, BK BK3, BL HB⟩
          have dE3 : (E3 != 0) = true := by simpa using hE
          have HEV := K_ hE
          have HE := K_ (show ∀ l', Ev (fun k => zF.f k s) (l', 0, 0) → xR l' → zas l' → ∀ P0, xW (l'.map mk73) P0 → ¬ mixed (jL (uJ (l'.map mk73) (qD (l'.map mk73)) l'.length)) (jL (uI (l'.map mk73) (uV (l'.map mk73)) l'.length)) (⟨2, 0⟩ :: jL (uJ (l'.map mk73) (qD (l'.map mk73)) l'.length)) (jL (uI (l'.map mk73) (uV (l'.map mk73)) l'.length)) → False from fun l' h1 hns hsm _ _ _ => HNT.out (EQL.out l' h1 ▸ hns) (EQL.out l' h1 ▸ hsm))
          clear hE
          go_upto_region 39 with (fail)
          clear q0 q1 q2 q3
          refine vK (n := 4) (S := fun w' => w'.heap[g15]? = some (.cells #[.int .i64 E3, .int .i64 a3] 51 (0, 0))) (ds := []) #[false, false, false, false] (by kernel_rfl) rfl rfl (BK BK15) (fun hHeld => ?_)
          refine yX (fun W => W.heap[g15]? = some (.cells #[.int .i64 E3, .int .i64 a3] 51 (0, 0)) ∧ W.heap[g2]? = some (.cells Z26 26 (0, 0)) ∧ W.heap[g3]? = some (.cells Z51 51 (0, 0)) ∧ Below w.heap.size w W) ⟨BK BK15, BK BK2, BK BK3, BL HB⟩ ?_
          clear hHeld
          rintro W ⟨hHeld, hb2, hb3, hbw⟩
          replace BK2 := K_ hb2
          replace BK3 := K_ hb3
          replace HB := K_ hbw
          clear hb2 hb3 hbw
          refine pu_ 0 (some 159) (bb 4 1) (by kernel_rfl) ?_
          refine take_ (i := 1) (N := some 160) (bb 4 3) rfl rfl (by kernel_rfl) (fun _ _ _ h => h) (v := .agg #[.int .i64 E3, .int .i64 a3]) (Or.inl ⟨by rfl, fun w' hs => zaQ _ ⟨hs⟩ rfl rfl Tryz.underlying51 rfl uT⟩) hHeld (by simp only [Act.put, List.setIfInBounds_toArray, List.set_cons_zero, List.set_cons_succ]; rfl) ?_
          refine jP (i := 2) (N := none) (bb 4 7) rfl rfl (by kernel_rfl) (by decide) (fun K hK => ?_)
          refine uP (g := g2) (cs := Z26) Z26 BK2 ?_ rfl rfl rfl rfl rfl yL rfl rfl
          intro w8 hbk hfar hbel
          have hHeld2 := hfar g15 _ (Ne.symm N2x15.out) hHeld
          replace BK3 := K_ (hfar g3 _ (Ne.symm NB.out) BK3.out)
          replace BK2 := K_ hbk
          replace HB := K_ (hbel _ _ GE2.out HB.out)
          refine hK.out _ _ hHeld2 (fun _ => ?_)
          clear hK K hbk hfar hbel
          refine jP (i := 3) (N := none) (bb 4 15) rfl rfl (by kernel_rfl) (by decide) (fun K hK => ?_)
          refine uP (g := g3) (cs := Z51) #[.int .i64 E3, .int .i64 a3] BK3 ?_ rfl rfl rfl rfl rfl uT rfl rfl
          intro w9 hbk hfar hbel
          have hHeld3 := hfar g15 _ (Ne.symm N3x15.out) hHeld2
          replace BK2 := K_ (hfar g2 _ NB.out BK2.out)
          replace BK3 := K_ hbk
          replace HB := K_ (hbel _ _ GE3.out HB.out)
          refine hK.out _ _ hHeld3 (fun _ => ?_)
          clear hK K hbk hfar hbel
          refine vR (by kernel_rfl) ?_
          go_wp2_with (fail)
          (
           refine bodyPost_ret (qO rfl _ _ g2 g3 26 51 Z26 #[.int .i64 E3, .int .i64 a3] (0, 0) (0, 0) _ _ rfl BK2.out Tryz.underlying26 rfl yL rfl BK3.out Tryz.underlying51 rfl uT) rfl ?_
           exact ⟨_, _, _, _, [], [], [], [], jO, false, 0, 0, 0, E3, a3, rfl, Kd.R_nil _ _ _ _ _, Kd.R_nil _ _ _ _ _, Kd.R_nil _ _ _ _ _, Kd.R_nil _ _ _ _ _, BL HB, fun h => absurd h HEV.out, fun l' h1 h2 h3 P0 h4 h5 => (HE.out l' h1 h2 h3 P0 h4 h5).elim⟩)
        have dsm : decide (0 ≤ sm) = false := decide_eq_false hs0
        go_wp2
        go_meet
        case rel => exact ⟨false, _, _, [⟨2, 0⟩] ++ px, sx, RB HO6.out, RB HO2.out, ⟨fun x hx => by rcases List.mem_cons.1 hx with rfl | hx; exact ⟨by decide, by decide, fun _ => rfl⟩; exact HG1.out x hx, HG2.out⟩, by simp; omega, by omega, fun _ _ => ⟨rfl, rfl⟩, BK BK13, RB HO1.out, RB HO2.out, BK BK2, BK BK3, BL HB⟩
       case rest =>
        obtain ⟨hn, v3, v4, nx, ny, ho3, ho4, hgood, hnl, hyl, hex, hb13, ho1, ho2, hb2, hb3, hbw⟩ := hcut
        have HO3 := K_ ho3
        have HO4 := K_ ho4
        have HG := K_ hgood
        have HEN := K_ hex
        replace BK13 := K_ hb13
        replace HO1 := K_ ho1
        replace HO2 := K_ ho2
        replace BK2 := K_ hb2
        replace BK3 := K_ hb3
        replace HB := K_ hbw
        clear hb13 ho1 ho2 hb2 hb3 hbw
        clear ho3 ho4 hgood hex
        obtain ⟨B3, d3, rfl⟩ := Kd.R_slice HO3.out
        obtain ⟨B4, d4, rfl⟩ := Kd.R_slice HO4.out
        clear HZ BK12
        go_upto_region 41 with (fail)
        go_cut [175] from 168 to 175 (fun c wx => c = .bool (decide (0 < sgn 4 px sx nx ny) && decide (0 < sgn 5 px sx nx ny)) ∧ Kd.R k80 80 wx w.heap.size (fun _ => True) (.slice B1 px.length d1) px ∧ Kd.R k80 80 wx w.heap.size (fun _ => True) (.slice B2 sx.length d2) sx ∧ Kd.R k80 80 wx w.heap.size (fun _ => True) (.slice B3 nx.length d3) nx ∧ Kd.R k80 80 wx w.heap.size (fun _ => True) (.slice B4 ny.length d4) ny ∧ wx.heap[g13]? = some (.cells (xX (.slice B1 px.length d1) (.slice B2 sx.length d2) hn (.slice B3 nx.length d3) (.slice B4 ny.length d4) PN at_ pad wd) 26 (0, 0)) ∧ wx.heap[g2]? = some (.cells Z26 26 (0, 0)) ∧ wx.heap[g3]? = some (.cells Z51 51 (0, 0)) ∧ Below w.heap.size w wx)
        case first =>
         by_cases h4 : 0 < sgn 4 px sx nx ny
         ·have p4 : decide (0 < sgn 4 px sx nx ny) = true := decide_eq_true h4
          have r4 : decide ((0 : Int) < ((sgn 4 px sx nx ny : Nat) : Int)) = true := decide_eq_true (by omega)
          have z4 : ¬ sgn 4 px sx nx ny = 0 := by omega
          by_cases h5 : 0 < sgn 5 px sx nx ny
          ·have p5 : decide (0 < sgn 5 px sx nx ny) = true := decide_eq_true h5
           have r5 : decide ((0 : Int) < ((sgn 5 px sx nx ny : Nat) : Int)) = true := decide_eq_true (by omega)
           have z5 : ¬ sgn 5 px sx nx ny = 0 := by omega
           go_wp2_with (first | ((with_reducible refine zH (N := 168) rfl ?_); refine lo_ (g := g13) (cs := xX (.slice B1 px.length d1) (.slice B2 sx.length d2) hn (.slice B3 nx.length d3) (.slice B4 ny.length d4) PN at_ pad wd) _ ⟨BK BK13⟩ ?_ rfl rfl rfl Tryz.underlying26 rfl yL) | ((with_reducible refine zH (N := 172) rfl ?_); refine zbE (g := g13) (cs := xX (.slice B1 px.length d1) (.slice B2 sx.length d2) hn (.slice B3 nx.length d3) (.slice B4 ny.length d4) PN at_ pad wd) _ ⟨BK BK13⟩ ?_ (by rfl) rfl rfl Tryz.underlying26 rfl yL) | (go_at_call 53; refine (zdx B1 B2 B3 B4 d1 d2 d3 d4 px sx nx ny hn PN at_ pad wd _ _ HO1.out HO2.out HO3.out HO4.out (by omega) (by omega) hnl hyl).mono ?_; rintro e9 w' ⟨rfl, hb⟩; replace HO1 := K_ (Kd.R_below (RB HO1.out) hb); replace HO2 := K_ (Kd.R_below (RB HO2.out) hb); replace HO3 := K_ (Kd.R_below (RB HO3.out) hb); replace HO4 := K_ (Kd.R_below (RB HO4.out) hb); replace HB := zE HB hb; replace BK2 := zC BK2 hb; replace BK3 := zC BK3 hb; replace BK13 := zC BK13 hb; clear hb))
           go_meet
           case rel => exact ⟨by rw [p4, p5]; rfl, RB HO1.out, RB HO2.out, RB HO3.out, RB HO4.out, BK BK13, BK BK2, BK BK3, BL HB⟩
          have p5 : decide (0 < sgn 5 px sx nx ny) = false := decide_eq_false h5
          have r5 : decide ((0 : Int) < ((sgn 5 px sx nx ny : Nat) : Int)) = false := decide_eq_false (by omega)
          have z5 : sgn 5 px sx nx ny = 0 := by omega
          go_wp2_with (first | ((with_reducible refine zH (N := 168) rfl ?_); refine lo_ (g := g13) (cs := xX (.slice B1 px.length d1) (.slice B2 sx.length d2) hn (.slice B3 nx.length d3) (.slice B4 ny.length d4) PN at_ pad wd) _ ⟨BK BK13⟩ ?_ rfl rfl rfl Tryz.underlying26 rfl yL) | ((with_reducible refine zH (N := 172) rfl ?_); refine zbE (g := g13) (cs := xX (.slice B1 px.length d1) (.slice B2 sx.length d2) hn (.slice B3 nx.length d3) (.slice B4 ny.length d4) PN at_ pad wd) _ ⟨BK BK13⟩ ?_ (by rfl) rfl rfl Tryz.underlying26 rfl yL) | (go_at_call 53; refine (zdx B1 B2 B3 B4 d1 d2 d3 d4 px sx nx ny hn PN at_ pad wd _ _ HO1.out HO2.out HO3.out HO4.out (by omega) (by omega) hnl hyl).mono ?_; rintro e9 w' ⟨rfl, hb⟩; replace HO1 := K_ (Kd.R_below (RB HO1.out) hb); replace HO2 := K_ (Kd.R_below (RB HO2.out) hb); replace HO3 := K_ (Kd.R_below (RB HO3.out) hb); replace HO4 := K_ (Kd.R_below (RB HO4.out) hb); replace HB := zE HB hb; replace BK2 := zC BK2 hb; replace BK3 := zC BK3 hb; replace BK13 := zC BK13 hb; clear hb))
          go_meet
          case rel => exact ⟨by rw [p4, p5]; rfl, RB HO1.out, RB HO2.out, RB HO3.out, RB HO4.out, BK BK13, BK BK2, BK BK3, BL HB⟩
         have p4 : decide (0 < sgn 4 px sx nx ny) = false := decide_eq_false h4
         have r4 : decide ((0 : Int) < ((sgn 4 px sx nx ny : Nat) : Int)) = false := decide_eq_false (by omega)
         have z4 : sgn 4 px sx nx ny = 0 := by omega
         go_wp2_with (first | ((with_reducible refine zH (N := 168) rfl ?_); refine lo_ (g := g13) (cs := xX (.slice B1 px.length d1) (.slice B2 sx.length d2) hn (.slice B3 nx.length d3) (.slice B4 ny.length d4) PN at_ pad wd) _ ⟨BK BK13⟩ ?_ rfl rfl rfl Tryz.underlying26 rfl yL) | ((with_reducible refine zH (N := 172) rfl ?_); refine zbE (g := g13) (cs := xX (.slice B1 px.length d1) (.slice B2 sx.length d2) hn (.slice B3 nx.length d3) (.slice B4 ny.length d4) PN at_ pad wd) _ ⟨BK BK13⟩ ?_ (by rfl) rfl rfl Tryz.underlying26 rfl yL) | (go_at_call 53; refine (zdx B1 B2 B3 B4 d1 d2 d3 d4 px sx nx ny hn PN at_ pad wd _ _ HO1.out HO2.out HO3.out HO4.out (by omega) (by omega) hnl hyl).mono ?_; rintro e9 w' ⟨rfl, hb⟩; replace HO1 := K_ (Kd.R_below (RB HO1.out) hb); replace HO2 := K_ (Kd.R_below (RB HO2.out) hb); replace HO3 := K_ (Kd.R_below (RB HO3.out) hb); replace HO4 := K_ (Kd.R_below (RB HO4.out) hb); replace HB := zE HB hb; replace BK2 := zC BK2 hb; replace BK3 := zC BK3 hb; replace BK13 := zC BK13 hb; clear hb))
         go_meet
         case rel => exact ⟨by rw [p4]; rfl, RB HO1.out, RB HO2.out, RB HO3.out, RB HO4.out, BK BK13, BK BK2, BK BK3, BL HB⟩
        case rest =>
         obtain ⟨rfl, ho1, ho2, ho3, ho4, hb13, hb2, hb3, hbw⟩ := hcut
         replace HO1 := K_ ho1
         replace HO2 := K_ ho2
         replace HO3 := K_ ho3
         replace HO4 := K_ ho4
         replace BK13 := K_ hb13
         replace BK2 := K_ hb2
         replace BK3 := K_ hb3
         replace HB := K_ hbw
         clear ho1 ho2 ho3 ho4 hb13 hb2 hb3 hbw
         by_cases hm : mixed px sx nx ny
         ·have et : (decide (0 < sgn 4 px sx nx ny) && decide (0 < sgn 5 px sx nx ny)) = true := by rw [decide_eq_true hm.1, decide_eq_true hm.2]; rfl
          rw [et]
          have HEV := K_ (show (6 : Int) ≠ 0 by decide)
          have HE := K_ (show ∀ l', Ev (fun k => zF.f k s) (l', 0, 0) → xR l' → zas l' → ∀ P0, xW (l'.map mk73) P0 → ¬ mixed (jL (uJ (l'.map mk73) (qD (l'.map mk73)) l'.length)) (jL (uI (l'.map mk73) (uV (l'.map mk73)) l'.length)) (⟨2, 0⟩ :: jL (uJ (l'.map mk73) (qD (l'.map mk73)) l'.length)) (jL (uI (l'.map mk73) (uV (l'.map mk73)) l'.length)) → False from fun l' h1 hns hsm P0 hok hnm => by
           have e := EQL.out l' h1
           subst e
           have e2 := HEQ.out hns hsm
           obtain ⟨e3, e4⟩ := HEN.out hns hsm
           have e5 := HPOK.out.2
           rw [e2] at e5
           simp only [List.length_map] at e5
           rw [← e5.1, ← e5.2] at hnm
           rw [e3, e4] at hm
           exact hnm hm)
          clear et hm
          go_wp2_with (first
           | ((with_reducible refine jC (p := 2) rfl ?_); refine so_ (g := g2) (cs := Z26) (Z26) ⟨BK BK2⟩ ?_ rfl rfl rfl rfl rfl yL rfl rfl; intro w9 hbk hfar hbel; replace BK3 := K_ (hfar _ _ (Ne.symm NB.out) (BK BK3)); replace BK2 := K_ hbk; replace HB := K_ (hbel _ _ GE2.out (BL HB)); clear hbk hfar hbel)
           | ((with_reducible refine jC (p := 3) rfl ?_); refine so_ (g := g3) (cs := Z51) (#[.int .i64 6, .int .i64 0]) ⟨BK BK3⟩ ?_ rfl rfl rfl rfl rfl uT rfl rfl; intro w9 hbk hfar hbel; replace BK2 := K_ (hfar _ _ NB.out (BK BK2)); replace BK3 := K_ hbk; replace HB := K_ (hbel _ _ GE3.out (BL HB)); clear hbk hfar hbel))
          (
           refine bodyPost_ret (qO rfl _ _ g2 g3 26 51 Z26 #[.int .i64 6, .int .i64 0] (0, 0) (0, 0) _ _ rfl BK2.out Tryz.underlying26 rfl yL rfl BK3.out Tryz.underlying51 rfl uT) rfl ?_
           exact ⟨_, _, _, _, [], [], [], [], jO, false, 0, 0, 0, 6, 0, rfl, Kd.R_nil _ _ _ _ _, Kd.R_nil _ _ _ _ _, Kd.R_nil _ _ _ _ _, Kd.R_nil _ _ _ _ _, BL HB, fun h => absurd h HEV.out, fun l' h1 h2 h3 P0 h4 h5 => (HE.out l' h1 h2 h3 P0 h4 h5).elim⟩)
         have et : (decide (0 < sgn 4 px sx nx ny) && decide (0 < sgn 5 px sx nx ny)) = false := by
          cases h : (decide (0 < sgn 4 px sx nx ny) && decide (0 < sgn 5 px sx nx ny))
          ·rfl
          rw [Bool.and_eq_true, decide_eq_true_eq, decide_eq_true_eq] at h; exact (hm h).elim
         rw [et]
         have HM := K_ hm
         clear et hm
         go_wp2_with (first
          | ((with_reducible refine zH (N := 178) rfl ?_); refine lo_ (g := g13) (cs := xX (.slice B1 px.length d1) (.slice B2 sx.length d2) hn (.slice B3 nx.length d3) (.slice B4 ny.length d4) PN at_ pad wd) _ ⟨BK BK13⟩ ?_ rfl rfl rfl Tryz.underlying26 rfl yL)
          | ((with_reducible refine jC (p := 2) rfl ?_); refine so_ (g := g2) (cs := Z26) (xX (.slice B1 px.length d1) (.slice B2 sx.length d2) hn (.slice B3 nx.length d3) (.slice B4 ny.length d4) PN at_ pad wd) ⟨BK BK2⟩ ?_ rfl rfl rfl rfl rfl yL rfl rfl; intro w9 hbk hfar hbel; replace HO1 := K_ (uA (RB HO1.out) (BK BK2) (by decide) hfar); replace HO2 := K_ (uA (RB HO2.out) (BK BK2) (by decide) hfar); replace HO3 := K_ (uA (RB HO3.out) (BK BK2) (by decide) hfar); replace HO4 := K_ (uA (RB HO4.out) (BK BK2) (by decide) hfar); replace BK3 := K_ (hfar _ _ (Ne.symm NB.out) (BK BK3)); replace BK2 := K_ hbk; replace HB := K_ (hbel _ _ GE2.out (BL HB)); clear hbk hfar hbel)
          | ((with_reducible refine jC (p := 3) rfl ?_); refine so_ (g := g3) (cs := Z51) (Z51) ⟨BK BK3⟩ ?_ rfl rfl rfl rfl rfl uT rfl rfl; intro w9 hbk hfar hbel; replace HO1 := K_ (uA (RB HO1.out) (BK BK3) (by decide) hfar); replace HO2 := K_ (uA (RB HO2.out) (BK BK3) (by decide) hfar); replace HO3 := K_ (uA (RB HO3.out) (BK BK3) (by decide) hfar); replace HO4 := K_ (uA (RB HO4.out) (BK BK3) (by decide) hfar); replace BK2 := K_ (hfar _ _ NB.out (BK BK2)); replace BK3 := K_ hbk; replace HB := K_ (hbel _ _ GE3.out (BL HB)); clear hbk hfar hbel))
         refine bodyPost_ret (qO rfl _ _ g2 g3 26 51 (xX (.slice B1 px.length d1) (.slice B2 sx.length d2) hn (.slice B3 nx.length d3) (.slice B4 ny.length d4) PN at_ pad wd) Z51 (0, 0) (0, 0) _ _ rfl BK2.out Tryz.underlying26 rfl yL rfl BK3.out Tryz.underlying51 rfl uT) rfl ?_
         refine ⟨_, _, _, _, px, sx, nx, ny, PN, hn, at_, pad, wd, 0, 0, rfl, HO1.out, HO2.out, HO3.out, HO4.out, BL HB, fun _ => ⟨⟨_, HPOK.out.1.2.2.1⟩, HG1.out, HG2.out, HG.out.1, HG.out.2, HM.out, by omega, by omega, hnl, hyl⟩, fun l' h1 hns hsm P0 hok hnm => ?_⟩
         have e := EQL.out l' h1
         subst e
         have e2 := HEQ.out hns hsm
         obtain ⟨e3, e4⟩ := HEN.out hns hsm
         have e5 := HPOK.out
         rw [e2] at e5
         simp only [List.length_map] at e5
         refine ⟨rfl, Option.some.inj (e5.1.2.2.1.symm.trans hok.2.2.1), e5.2.1, e5.2.2, ?_, ?_⟩
         ·rw [e3]
         rw [e4]
     have dE2 : (E2 != 0) = true := by simpa using hE
     have HEV := K_ hE
     have HE := K_ (show ∀ l', Ev (fun k => zF.f k s) (l', 0, 0) → xR l' → zas l' → ∀ P0, xW (l'.map mk73) P0 → ¬ mixed (jL (uJ (l'.map mk73) (qD (l'.map mk73)) l'.length)) (jL (uI (l'.map mk73) (uV (l'.map mk73)) l'.length)) (⟨2, 0⟩ :: jL (uJ (l'.map mk73) (qD (l'.map mk73)) l'.length)) (jL (uI (l'.map mk73) (uV (l'.map mk73)) l'.length)) → False from fun l' h1 hns hsm P0 hok _ => HEV.out (HEX.out (by rw [HEQ.out (EQL.out l' h1 ▸ hns) (EQL.out l' h1 ▸ hsm)]; intro x hx; obtain ⟨t, _, rfl⟩ := List.mem_map.1 hx; rfl) ⟨P0, by rw [HEQ.out (EQL.out l' h1 ▸ hns) (EQL.out l' h1 ▸ hsm), ← EQL.out l' h1]; exact hok⟩))
     clear hE
     go_upto_region 29 with (fail)
     clear q0 q1 q2 q3
     refine vK (n := 4) (S := fun w' => w'.heap[g5]? = some (.cells #[.int .i64 E2, .int .i64 a2] 51 (0, 0))) (ds := []) #[false, false, false, false] (by kernel_rfl) rfl rfl (BK BK5) (fun hHeld => ?_)
     refine yX (fun W => W.heap[g5]? = some (.cells #[.int .i64 E2, .int .i64 a2] 51 (0, 0)) ∧ W.heap[g2]? = some (.cells Z26 26 (0, 0)) ∧ W.heap[g3]? = some (.cells Z51 51 (0, 0)) ∧ Below w.heap.size w W) ⟨BK BK5, BK BK2, BK BK3, BL HB⟩ ?_
     clear hHeld
     rintro W ⟨hHeld, hb2, hb3, hbw⟩
     replace BK2 := K_ hb2
     replace BK3 := K_ hb3
     replace HB := K_ hbw
     clear hb2 hb3 hbw
     refine pu_ 0 (some 100) (bb 4 1) (by kernel_rfl) ?_
     refine take_ (i := 1) (N := some 101) (bb 4 3) rfl rfl (by kernel_rfl) (fun _ _ _ h => h) (v := .agg #[.int .i64 E2, .int .i64 a2]) (Or.inl ⟨by rfl, fun w' hs => zaQ _ ⟨hs⟩ rfl rfl Tryz.underlying51 rfl uT⟩) hHeld (by simp only [Act.put, List.setIfInBounds_toArray, List.set_cons_zero, List.set_cons_succ]; rfl) ?_
     refine jP (i := 2) (N := none) (bb 4 7) rfl rfl (by kernel_rfl) (by decide) (fun K hK => ?_)
     refine uP (g := g2) (cs := Z26) Z26 BK2 ?_ rfl rfl rfl rfl rfl yL rfl rfl
     intro w8 hbk hfar hbel
     have hHeld2 := hfar g5 _ (Ne.symm N2F.out) hHeld
     replace BK3 := K_ (hfar g3 _ (Ne.symm NB.out) BK3.out)
     replace BK2 := K_ hbk
     replace HB := K_ (hbel _ _ GE2.out HB.out)
     refine hK.out _ _ hHeld2 (fun _ => ?_)
     clear hK K hbk hfar hbel
     refine jP (i := 3) (N := none) (bb 4 15) rfl rfl (by kernel_rfl) (by decide) (fun K hK => ?_)
     refine uP (g := g3) (cs := Z51) #[.int .i64 E2, .int .i64 a2] BK3 ?_ rfl rfl rfl rfl rfl uT rfl rfl
     intro w9 hbk hfar hbel
     have hHeld3 := hfar g5 _ (Ne.symm N3F.out) hHeld2
     replace BK2 := K_ (hfar g2 _ NB.out BK2.out)
     replace BK3 := K_ hbk
     replace HB := K_ (hbel _ _ GE3.out HB.out)
     refine hK.out _ _ hHeld3 (fun _ => ?_)
     clear hK K hbk hfar hbel
     refine vR (by kernel_rfl) ?_
     go_wp2_with (fail)
     (
      refine bodyPost_ret (qO rfl _ _ g2 g3 26 51 Z26 #[.int .i64 E2, .int .i64 a2] (0, 0) (0, 0) _ _ rfl BK2.out Tryz.underlying26 rfl yL rfl BK3.out Tryz.underlying51 rfl uT) rfl ?_
      exact ⟨_, _, _, _, [], [], [], [], jO, false, 0, 0, 0, E2, a2, rfl, Kd.R_nil _ _ _ _ _, Kd.R_nil _ _ _ _ _, Kd.R_nil _ _ _ _ _, Kd.R_nil _ _ _ _ _, BL HB, fun h => absurd h HEV.out, fun l' h1 h2 h3 P0 h4 h5 => (HE.out l' h1 h2 h3 P0 h4 h5).elim⟩)
 have dE : (E1 != 0) = true := by simpa using hE
 have HEV := K_ hE
 have HE := K_ (show ∀ l', Ev (fun k => zF.f k s) (l', 0, 0) → xR l' → zas l' → ∀ P0, xW (l'.map mk73) P0 → ¬ mixed (jL (uJ (l'.map mk73) (qD (l'.map mk73)) l'.length)) (jL (uI (l'.map mk73) (uV (l'.map mk73)) l'.length)) (⟨2, 0⟩ :: jL (uJ (l'.map mk73) (qD (l'.map mk73)) l'.length)) (jL (uI (l'.map mk73) (uV (l'.map mk73)) l'.length)) → False from fun l' h1 _ _ _ _ _ => hE (by have e := zdj h1 HEV1.out; have e2 := congrArg (fun r => r.2.1) e; exact e2.symm))
 clear hE
 go_upto_region 3 with (fail)
 clear q0 q1 q2 q3
 refine vK (n := 4) (S := fun w' => w'.heap[g5]? = some (.cells #[.int .i64 E1, .int .i64 a1] 51 (0, 0))) (ds := []) #[false, false, false, false] (by kernel_rfl) rfl rfl (BK BK5) (fun hHeld => ?_)
 refine yX (fun W => W.heap[g5]? = some (.cells #[.int .i64 E1, .int .i64 a1] 51 (0, 0)) ∧ W.heap[g2]? = some (.cells Z26 26 (0, 0)) ∧ W.heap[g3]? = some (.cells Z51 51 (0, 0)) ∧ Below w.heap.size w W) ⟨BK BK5, BK BK2, BK BK3, BL HB⟩ ?_
 clear hHeld
 rintro W ⟨hHeld, hb2, hb3, hbw⟩
 replace BK2 := K_ hb2
 replace BK3 := K_ hb3
 replace HB := K_ hbw
 clear hb2 hb3 hbw
 refine pu_ 0 (some 24) (bb 4 1) (by kernel_rfl) ?_
 refine take_ (i := 1) (N := some 25) (bb 4 3) rfl rfl (by kernel_rfl) (fun _ _ _ h => h) (v := .agg #[.int .i64 E1, .int .i64 a1]) (Or.inl ⟨by rfl, fun w' hs => zaQ _ ⟨hs⟩ rfl rfl Tryz.underlying51 rfl uT⟩) hHeld (by simp only [Act.put, List.setIfInBounds_toArray, List.set_cons_zero, List.set_cons_succ]; rfl) ?_
 refine jP (i := 2) (N := none) (bb 4 7) rfl rfl (by kernel_rfl) (by decide) (fun K hK => ?_)
 refine uP (g := g2) (cs := Z26) Z26 BK2 ?_ rfl rfl rfl rfl rfl yL rfl rfl
 intro w8 hbk hfar hbel
 have hHeld2 := hfar g5 _ (Ne.symm N2F.out) hHeld
 replace BK3 := K_ (hfar g3 _ (Ne.symm NB.out) BK3.out)
 replace BK2 := K_ hbk
 replace HB := K_ (hbel _ _ GE2.out HB.out)
 refine hK.out _ _ hHeld2 (fun _ => ?_)
 clear hK K hbk hfar hbel
 refine jP (i := 3) (N := none) (bb 4 15) rfl rfl (by kernel_rfl) (by decide) (fun K hK => ?_)
 refine uP (g := g3) (cs := Z51) #[.int .i64 E1, .int .i64 a1] BK3 ?_ rfl rfl rfl rfl rfl uT rfl rfl
 intro w9 hbk hfar hbel
 have hHeld3 := hfar g5 _ (Ne.symm N3F.out) hHeld2
 replace BK2 := K_ (hfar g2 _ NB.out BK2.out)
 replace BK3 := K_ hbk
 replace HB := K_ (hbel _ _ GE3.out HB.out)
 refine hK.out _ _ hHeld3 (fun _ => ?_)
 clear hK K hbk hfar hbel
 refine vR (by kernel_rfl) ?_
 go_wp2_with (fail)
 (
  refine bodyPost_ret (qO rfl _ _ g2 g3 26 51 Z26 #[.int .i64 E1, .int .i64 a1] (0, 0) (0, 0) _ _ rfl BK2.out Tryz.underlying26 rfl yL rfl BK3.out Tryz.underlying51 rfl uT) rfl ?_
  exact ⟨_, _, _, _, [], [], [], [], jO, false, 0, 0, 0, E1, a1, rfl, Kd.R_nil _ _ _ _ _, Kd.R_nil _ _ _ _ _, Kd.R_nil _ _ _ _ _, Kd.R_nil _ _ _ _ _, BL HB, fun h => absurd h HEV.out, fun l' h1 h2 h3 P0 h4 h5 => (HE.out l' h1 h2 h3 P0 h4 h5).elim⟩)
end Go.Proofs.YtcmgdjnjmobkoaaGreatDoor.Px
namespace Go.Proofs.YtcmgdjnjmobkoaaGreatDoor.Px
open Fig Go.RowKit Go.Proofs.YtcmgdjnjmobkoaaGreatDoorW.PrintWords Go.Proofs.YtcmgdjnjmobkoaaGreatDoorW.PrintLast Go.Proofs.YtcmgdjnjmobkoaaGreatDoorW.PrintMore
attribute [local go_sem] uE uD uW uY vM vO uH uF
attribute [local go_sem] xG qZ xK xI qX qW qY xD xH xE xL xM xJ xB
def zP.l0 : Nat → ByteArray → Int → Option (Bool)
 | 0, _, _ => none
 | k + 1, x0, x3 => if x3 < (x0.size : Int) then (if 0 ≤ x3 then (if (bt x0 x3) < 48 then (some false) else (if (bt x0 x3) > 57 then (some false) else (zP.l0 k x0 (wrap64 (x3 + 1))))) else (none)) else (some (x0.toList != ([] : List UInt8)))
def zP.f (k : Nat) (a0 : ByteArray) : Option (Bool) := zP.l0 k a0 0
theorem zP.mono_l : ∀ k, (∀ y0 y1, LeO (zP.l0 k y0 y1) (zP.l0 (k + 1) y0 y1))
 | 0 => fun _ _ r h => by simp [zP.l0] at h
 | k + 1 => by
  have ih0 := zP.mono_l k
  intro y0 y1
  unfold zP.l0
  repeat' first
  | (with_reducible exact ih0 _ _)
  | (with_reducible exact LeO.refl _)
  | (with_reducible exact LeO.none _)
  | (with_reducible refine LeO.ite ?_ ?_)
  | (with_reducible refine LeO.bind ?_ (fun _ => ?_))
  | exact ih0 _ _
  | exact LeO.none _
  | refine LeO.ite ?_ ?_
  | refine LeO.bind ?_ (fun _ => ?_)
theorem zP.mono : ∀ a0 k, LeO (zP.f k a0) (zP.f (k + 1) a0) := by
 intro a0 k
 have ih0 := zP.mono_l k
 unfold zP.f
 repeat' first
   | (with_reducible exact ih0 _ _)
   | (with_reducible exact LeO.refl _)
   | (with_reducible exact LeO.none _)
   | (with_reducible refine LeO.ite ?_ ?_)
   | (with_reducible refine LeO.bind ?_ (fun _ => ?_))
   | exact ih0 _ _
   | exact LeO.none _
   | refine LeO.ite ?_ ?_
   | refine LeO.bind ?_ (fun _ => ?_)
set_option maxHeartbeats 8000000 in
set_option maxRecDepth 100000 in
theorem zP.calls (k : Nat) (a0 : ByteArray) (r : Bool) (w : World) (h : zP.f k a0 = some r) :
  Calls Tryz.prog 68 #[.string a0] w fun e w' => e = .returned (.bool r) ∧ zL w w' := by
 have H : (zP.l0 k a0 0) = some r := h
 clear h
 have H' := K_ H
 clear H
 go_enter Tryz.func68, Tryz.ntmps68
 go_wp2
 go_loopg [3] k (fun kq v3 w' => ∃ (x3_1 : Int), v3 = .int .i64 x3_1 ∧ Aside0 (zP.l0 kq a0 x3_1 = some r) ∧ Aside0 (kq ≤ k) ∧ zL w w')
 case atStart => exact ⟨(0), SR, H', ⟨Nat.le_refl _⟩, by repeat (first | exact zL.refl _ | apply zL.step)⟩
 case round =>
  clear H'
  obtain ⟨x3_1, rfl, HA, HK1, ⟨m1, rfl⟩⟩ := hrel
  obtain _ | k1 := gk
  ·exact absurd HA.out (by simp [zP.l0])
  have H := HA.out
  clear HA
  simp only [zP.l0] at H
  by_cases c2 : x3_1 < (a0.size : Int)
  ·rw [if_pos c2] at H
   have c2b0 : decide (x3_1 < (a0.size : Int)) = true := decide_eq_true c2
   clear c2
   by_cases c3 : 0 ≤ x3_1
   ·rw [if_pos c3] at H
    have c3b0 : decide (0 ≤ x3_1) = true := decide_eq_true c3
    clear c3
    by_cases c5 : (bt a0 x3_1) < 48
    ·rw [if_pos c5] at H
     have c5b0 : decide ((bt a0 x3_1) < 48) = true := decide_eq_true c5
     clear c5
     obtain rfl := Option.some.inj H
     have p4 : 0 ≤ (x3_1 : Int) := of_decide_eq_true (by first | (with_reducible assumption) | assumption)
     have q4 : x3_1 < (a0.size : Int) := of_decide_eq_true (by first | (with_reducible assumption) | assumption)
     have hx4 := zam a0 x3_1
     replace p4 := eq_true p4
     replace q4 := eq_true q4
     go_wp2
     go_ret
     exact ⟨by first | rfl | (simp; done) | (simp [*]; done) | (simp [*, Fig.bne_nil]; done), by repeat (first | exact zL.refl _ | apply zL.step)⟩
    rw [if_neg c5] at H
    have c5b0 : decide ((bt a0 x3_1) < 48) = false := decide_eq_false c5
    clear c5
    by_cases c7 : (bt a0 x3_1) > 57
    ·rw [if_pos c7] at H
     have c7b0 : decide (57 < (bt a0 x3_1)) = true := decide_eq_true c7
     clear c7
     obtain rfl := Option.some.inj H
     have p4 : 0 ≤ (x3_1 : Int) := of_decide_eq_true (by first | (with_reducible assumption) | assumption)
     have q4 : x3_1 < (a0.size : Int) := of_decide_eq_true (by first | (with_reducible assumption) | assumption)
     have hx4 := zam a0 x3_1
     replace p4 := eq_true p4
     replace q4 := eq_true q4
     have p6 : 0 ≤ (x3_1 : Int) := of_decide_eq_true (by first | (with_reducible assumption) | assumption)
     have q6 : x3_1 < (a0.size : Int) := of_decide_eq_true (by first | (with_reducible assumption) | assumption)
     have hx6 := zam a0 x3_1
     replace p6 := eq_true p6
     replace q6 := eq_true q6
     go_wp2
     go_ret
     exact ⟨by first | rfl | (simp; done) | (simp [*]; done) | (simp [*, Fig.bne_nil]; done), by repeat (first | exact zL.refl _ | apply zL.step)⟩
    rw [if_neg c7] at H
    have c7b0 : decide (57 < (bt a0 x3_1)) = false := decide_eq_false c7
    clear c7
    have H' := K_ H
    clear H
    have p4 : 0 ≤ (x3_1 : Int) := of_decide_eq_true (by first | (with_reducible assumption) | assumption)
    have q4 : x3_1 < (a0.size : Int) := of_decide_eq_true (by first | (with_reducible assumption) | assumption)
    have hx4 := zam a0 x3_1
    replace p4 := eq_true p4
    replace q4 := eq_true q4
    have p6 : 0 ≤ (x3_1 : Int) := of_decide_eq_true (by first | (with_reducible assumption) | assumption)
    have q6 : x3_1 < (a0.size : Int) := of_decide_eq_true (by first | (with_reducible assumption) | assumption)
    have hx6 := zam a0 x3_1
    replace p6 := eq_true p6
    replace q6 := eq_true q6
    go_wp2
    go_roundg k1
    case measure => have := HK1.out; omega
    case rel => exact ⟨(wrap64 (x3_1 + 1)), SR, H', ⟨by have := HK1.out; omega⟩, by repeat (first | exact zL.refl _ | apply zL.step)⟩
   rw [if_neg c3] at H
   exact absurd H (by simp)
  rw [if_neg c2] at H
  have c2b0 : decide (x3_1 < (a0.size : Int)) = false := decide_eq_false c2
  clear c2
  obtain rfl := Option.some.inj H
  go_wp2
  go_ret
  exact ⟨by first | rfl | (simp; done) | (simp [*]; done) | (simp [*, Fig.bne_nil]; done), by repeat (first | exact zL.refl _ | apply zL.step)⟩
end Go.Proofs.YtcmgdjnjmobkoaaGreatDoor.Px
