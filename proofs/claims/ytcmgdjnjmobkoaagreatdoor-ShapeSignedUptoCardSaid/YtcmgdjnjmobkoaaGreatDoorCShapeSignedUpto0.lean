/- What belongs to the law ShapeSignedUpto alone. -/
import Derived.Test.YtcmgdjnjmobkoaaGreatDoorCBShape5
import Derived.Test.YtcmgdjnjmobkoaaGreatDoorCBShape0
import Derived.Test.YtcmgdjnjmobkoaaGreatDoorCBShape4
set_option linter.unusedVariables false
set_option linter.unusedSimpArgs false
namespace Go.Proofs.YtcmgdjnjmobkoaaGreatDoor.Px
set_option linter.all false
open Fig Go.RowKit Go.Proofs.YtcmgdjnjmobkoaaGreatDoorW.PrintWords Go.Proofs.YtcmgdjnjmobkoaaGreatDoorW.PrintLast Go.Proofs.YtcmgdjnjmobkoaaGreatDoorW.PrintMore
attribute [local go_sem] yR yU vE vD yD yH yV yS
theorem zlQ {q : Pat} (hq : zas q) {m : Int} {b : Bool} {s : ByteArray} {e : Int} (h : (qK q m b s e).2.2.2 = 0) : zaz (qK q m b s e).2.1 (qK q m b s e).2.2.1 = true := by
 obtain ⟨hm, hg, hr, h7, hrg, hv⟩ := zeZ h
 rw [hv]
 by_cases h0 : rN q m b (vB s) e = 0
 ·have hX : rX q m b (vB s) e = 0 := by unfold rX; rw [h0, qR]; rfl
  rw [h0, hX]; show zaz (nD 0) 0 = true; decide
 exact zfu h0 hrg
theorem zmD {q : Pat} (hq : zas q) (b : Bool) {s : ByteArray} {e : Int} (hg : zaz s e = true) (w : World) (hr : zaH q w) :
  Calls Tryz.prog 16 #[.agg q.cs, .agg #[.bool b, .string s, .int .i64 e]] w fun e' w' => e' = .returned (.agg #[.bool b, .string (zae q.P (vB (nD (vB s))) (nE (vB s) (e + q.mult))).1, .string (zae q.P (vB (nD (vB s))) (nE (vB s) (e + q.mult))).2.1, .int .i64 (zae q.P (vB (nD (vB s))) (nE (vB s) (e + q.mult))).2.2]) ∧ Below w.heap.size w w' := by
 obtain ⟨g1, g2, g3, g4, g5⟩ := zbc.1 hg
 obtain ⟨m0, m3⟩ := zgH q
 have hn : (jR (vB s)).size ≤ 1000 := Nat.le_trans (OkD.of_good hg).val g3
 exact zhS q hq.good b s e _ _ (zhM ⟨g1, g2, by omega, by omega, by omega⟩ (by omega) (by omega) (by omega) (by omega)) (OkS.norm (by omega) (by omega) (by omega)) w hr
set_option maxHeartbeats 8000000 in
set_option maxRecDepth 100000 in
theorem signed_law (s : ByteArray) (hs : s.size ≤ 1048576) (m : Int) (b : Bool) (s2 : ByteArray) (e : Int) (hs2 : s2.size ≤ 140737488351232) (w : World) (hG : Fig.Glob w) :
  Calls Tryz.prog 4 #[.string s, .int .i64 m, .agg #[.bool b, .string s2, .int .i64 e]] w fun e w' => e = .returned (.bool true) ∧ Below w.heap.size w w' := by
 have HB := K_ (Below.refl w.heap.size w)
 have HG := K_ hG
 have HS2 := K_ hs2
 clear hG hs2
 go_enter Tryz.func4, Tryz.ntmps4
 go_upto_region 2 with (first | ((with_reducible refine zF (N := 5) rfl ?_); refine bx_ 5 (#[.bool b, .string s2, .int .i64 e]) 23 ?_ rfl rfl rfl rfl rfl; intro g5 hg w2 hbox hb; have BK5 := K_ hbox; have GE5 := ge_ hg HB; replace HB := zE HB hb; clear hb hbox hg) | ((with_reducible refine zF (N := 18) rfl ?_); refine lo_ (g := g5) (cs := #[.bool b, .string s2, .int .i64 e]) _ ⟨BK BK5⟩ ?_ rfl rfl rfl Tryz.underlying23 rfl jM) | (go_at_call 12; refine (zdp s hs b s2 e HS2.out _).mono ?_; rintro e9 w' ⟨q, ok, rfl, hrr, hb, hqg⟩; have HRR := K_ (hrr.lower (zL (BL HB))); have HQ := K_ hqg; replace HB := zE HB hb; replace BK5 := zC BK5 hb; clear hb hrr hqg) | ((with_reducible refine zF (N := 7) rfl ?_); refine be_ 7 (Z26) 26 ?_; intro g7 hg w2 hbox hb; have BK7 := K_ hbox; have GE7 := ge_ hg HB; have NB5_7 := nb_ hg BK5; replace BK5 := zC BK5 hb; replace HRR := K_ (HRR.out.below hb); replace HB := zE HB hb; clear hb hbox hg) | ((with_reducible refine zQ (p := 7) rfl ?_); refine so_ (g := g7) (cs := Z26) (q.cs) ⟨BK BK7⟩ ?_ rfl rfl rfl rfl rfl jL rfl rfl; intro w9 hbk hfar hbel; replace BK5 := K_ (hfar _ _ (by first | exact NB5_7.out | exact Ne.symm NB7_5.out) (BK BK5)); replace HRR := K_ (HRR.out.so (BK BK7) (by decide) hfar); replace BK7 := K_ hbk; replace HB := K_ (hbel _ _ GE7.out (BL HB)); clear hbk hfar hbel))
 cases ok
 ·go_wp2_with (go_at_call 13; refine (vO _ (Fig.Glob.below HG.out (BL HB))).mono ?_; rintro e9 w' ⟨rfl, hb⟩; replace HB := zE HB hb; clear hb)
  go_ret
  exact ⟨rfl, BL HB⟩
 obtain ⟨hq, hsz⟩ := HQ.out rfl
 replace HQ := K_ hq
 obtain ⟨v, hv⟩ : ∃ v, v = qK q m b s2 e := ⟨_, rfl⟩
 obtain ⟨y, hy⟩ : ∃ y, y = qK q (xC m) (!b) s2 e := ⟨_, rfl⟩
 have h1 := zcl hq m b (s := s2) e (by omega)
 have h2 := zcl hq (xC m) (!b) (s := s2) e (by omega)
 rw [← hv] at h1
 rw [← hy] at h2
 have hyv := zmx q m b s2 e
 rw [← hv, ← hy] at hyv
 have HR1 := K_ h1
 have HR2 := K_ h2
 have HV := K_ hv
 have HYV := K_ hyv
 clear hq hsz h1 h2 hv hy hyv
 go_upto_if 27 with (fail)
 go_cut [9] from 26 to 27 (fun v wx => v = .int .i64 (if m = 0 then 1 else m) ∧ wx.heap[g5]? = some (.cells #[.bool b, .string s2, .int .i64 e] 23 (0, 0)) ∧ wx.heap[g7]? = some (.cells q.cs 26 (0, 0)) ∧ yA q wx w.heap.size ∧ Below w.heap.size w wx)
 case first =>
  by_cases h0 : m = 0
  ·have d0 : (m == 0) = true := beq_iff_eq.2 h0
   have e0 := K_ (show (1 : Int) = if m = 0 then 1 else m by rw [if_pos h0])
   clear h0
   go_wp2
   go_meet
   case rel => exact ⟨congrArg (Value.int .i64) e0.out, BK BK5, BK BK7, HRR.out, BL HB⟩
  have d0 : (m == 0) = false := beq_eq_false_iff_ne.2 h0
  have e0 := K_ (show m = if m = 0 then 1 else m by rw [if_neg h0])
  clear h0
  go_wp2
  go_meet
  case rel => exact ⟨congrArg (Value.int .i64) e0.out, BK BK5, BK BK7, HRR.out, BL HB⟩
 case rest =>
  obtain ⟨rfl, hb5, hb7, hrr, hbw⟩ := hcut
  replace BK5 := K_ hb5
  replace BK7 := K_ hb7
  replace HRR := K_ hrr
  replace HB := K_ hbw
  clear hb5 hb7 hrr hbw
  obtain ⟨m1, hm1⟩ : ∃ m1, m1 = (if m = 0 then 1 else m) := ⟨_, rfl⟩
  rw [← hm1]
  have HM1 := K_ hm1
  clear hm1
  go_upto_if 29 with (fail)
  go_cut [9] from 28 to 29 (fun v wx => v = .int .i64 (xC m) ∧ wx.heap[g5]? = some (.cells #[.bool b, .string s2, .int .i64 e] 23 (0, 0)) ∧ wx.heap[g7]? = some (.cells q.cs 26 (0, 0)) ∧ yA q wx w.heap.size ∧ Below w.heap.size w wx)
  case first =>
   by_cases h1 : m = 1
   ·have d1 : (m == 1) = true := beq_iff_eq.2 h1
    have e0 := K_ (show (0 : Int) = xC m by unfold xC; rw [h1]; rfl)
    clear h1
    go_wp2
    go_meet
    case rel => exact ⟨congrArg (Value.int .i64) e0.out, BK BK5, BK BK7, HRR.out, BL HB⟩
   have d1 : (m == 1) = false := beq_eq_false_iff_ne.2 h1
   have e0 := K_ (show m1 = xC m by rw [HM1.out]; unfold xC; rw [if_neg h1])
   clear h1
   go_wp2
   go_meet
   case rel => exact ⟨congrArg (Value.int .i64) e0.out, BK BK5, BK BK7, HRR.out, BL HB⟩
  case rest =>
   obtain ⟨rfl, hb5, hb7, hrr, hbw⟩ := hcut
   replace BK5 := K_ hb5
   replace BK7 := K_ hb7
   replace HRR := K_ hrr
   replace HB := K_ hbw
   clear hb5 hb7 hrr hbw
   go_upto_region 10 with (first | ((with_reducible refine zF (N := 31) rfl ?_); refine lo_ (g := g7) (cs := q.cs) _ ⟨BK BK7⟩ ?_ rfl rfl rfl Tryz.underlying26 rfl jL) | ((with_reducible refine zF (N := 33) rfl ?_); refine lo_ (g := g5) (cs := #[.bool b, .string s2, .int .i64 e]) _ ⟨BK BK5⟩ ?_ rfl rfl rfl Tryz.underlying23 rfl jM) | (go_at_call 14; with_reducible refine (zbq q HQ.out.good m b s2 e (v) HR1.out _ (yA.ok HRR.out HQ.out) (Fig.Glob.below HG.out (BL HB))).mono ?_; rintro e9 w' ⟨rfl, hb⟩; replace HRR := K_ (HRR.out.below hb); replace HB := zE HB hb; replace BK5 := zC BK5 hb; replace BK7 := zC BK7 hb; clear hb) | ((with_reducible refine zF (N := 10) rfl ?_); refine be_ 10 (#[.bool false, .string (⟨#[]⟩ : ByteArray), .int .i64 0]) 23 ?_; intro g10 hg w2 hbox hb; have BK10 := K_ hbox; have GE10 := ge_ hg HB; have NB5_10 := nb_ hg BK5; replace BK5 := zC BK5 hb; have NB7_10 := nb_ hg BK7; replace BK7 := zC BK7 hb; replace HRR := K_ (HRR.out.below hb); replace HB := zE HB hb; clear hb hbox hg) | ((with_reducible refine zQ (p := 10) rfl ?_); refine so_ (g := g10) (cs := #[.bool false, .string (⟨#[]⟩ : ByteArray), .int .i64 0]) (#[.bool v.1, .string v.2.1, .int .i64 v.2.2.1]) ⟨BK BK10⟩ ?_ rfl rfl rfl rfl rfl jM rfl rfl; intro w9 hbk hfar hbel; replace BK5 := K_ (hfar _ _ (by first | exact NB5_10.out | exact Ne.symm NB10_5.out) (BK BK5)); replace BK7 := K_ (hfar _ _ (by first | exact NB7_10.out | exact Ne.symm NB10_7.out) (BK BK7)); replace HRR := K_ (HRR.out.so (BK BK10) (by decide) hfar); replace BK10 := K_ hbk; replace HB := K_ (hbel _ _ GE10.out (BL HB)); clear hbk hfar hbel))
   refine yK (n := 11) (S := fun W => W.heap[g7]? = some (.cells q.cs 26 (0, 0)) ∧ W.heap[g5]? = some (.cells #[.bool b, .string s2, .int .i64 e] 23 (0, 0))) (ds := []) #[false, false, false, false, false, false, false, false, false, false, false] (by kernel_rfl) rfl rfl ⟨BK BK7, BK BK5⟩ (fun hHeld => ?_)
   refine zU (fun W => W.heap[g5]? = some (.cells #[.bool b, .string s2, .int .i64 e] 23 (0, 0)) ∧ W.heap[g7]? = some (.cells q.cs 26 (0, 0)) ∧ W.heap[g10]? = some (.cells #[.bool v.1, .string v.2.1, .int .i64 v.2.2.1] 23 (0, 0)) ∧ Below w.heap.size w W ∧ yA q W w.heap.size) ⟨BK BK5, BK BK7, BK BK10, BL HB, HRR.out.drew⟩ ?_
   clear hHeld BK5 BK7 BK10 HRR HB
   rintro W ⟨hb5, hb7, hb10, hbw, hrr⟩
   have BK5 := K_ hb5
   have BK7 := K_ hb7
   have BK10 := K_ hb10
   have HB := K_ hbw
   have HRR := K_ hrr
   have hHeld := (show W.heap[g7]? = some (.cells q.cs 26 (0, 0)) ∧ W.heap[g5]? = some (.cells #[.bool b, .string s2, .int .i64 e] 23 (0, 0)) from ⟨hb7, hb5⟩)
   clear hb5 hb7 hb10 hbw hrr
   refine tr_ 0 38 (bb 11 1) (q.cs) (fun _ hs => ⟨hs.1⟩) Tryz.underlying26 jL hHeld ?_
   refine pw_ 1 39 (bb 11 3) ?_
   refine tr_ 2 40 (bb 11 7) (#[.bool b, .string s2, .int .i64 e]) (fun _ hs => ⟨hs.2⟩) Tryz.underlying23 jM hHeld ?_
   refine xB (σ := Nat) 2 (bb 11 511) (fun g => [(41, .agg #[.bool (!b), .string s2, .int .i64 e]), (42, (.tuple #[.agg #[.bool y.1, .string y.2.1, .int .i64 y.2.2.1], .int .i64 y.2.2.2])), (37, (.tuple #[.agg #[.bool y.1, .string y.2.1, .int .i64 y.2.2.1], .int .i64 y.2.2.2])), (43, .agg #[.bool y.1, .string y.2.1, .int .i64 y.2.2.1]), (44, .int .i64 y.2.2.2), (12, .pointer (some ⟨g, 0, none⟩))]) (fun g W => W.heap[g]? = some (.cells (#[.bool false, .string (⟨#[]⟩ : ByteArray), .int .i64 0]) 23 (0, 0)) ∧ g5 ≠ g ∧ g7 ≠ g ∧ g10 ≠ g ∧ w.heap.size ≤ g ∧ W.heap[g5]? = some (.cells #[.bool b, .string s2, .int .i64 e] 23 (0, 0)) ∧ W.heap[g7]? = some (.cells q.cs 26 (0, 0)) ∧ W.heap[g10]? = some (.cells #[.bool v.1, .string v.2.1, .int .i64 v.2.2.1] 23 (0, 0)) ∧ Below w.heap.size w W ∧ yA q W w.heap.size) ?hcj ?hrj
   case hrj =>
    intro J_3_4_8
    refine xB (σ := Unit) 3 (bb 11 255) (fun g => [(41, .agg #[.bool (!b), .string s2, .int .i64 e]), (42, (.tuple #[.agg #[.bool y.1, .string y.2.1, .int .i64 y.2.2.1], .int .i64 y.2.2.2])), (37, (.tuple #[.agg #[.bool y.1, .string y.2.1, .int .i64 y.2.2.1], .int .i64 y.2.2.2])), (43, .agg #[.bool y.1, .string y.2.1, .int .i64 y.2.2.1]), (44, .int .i64 y.2.2.2)]) (fun g W => W.heap[g5]? = some (.cells #[.bool b, .string s2, .int .i64 e] 23 (0, 0)) ∧ W.heap[g7]? = some (.cells q.cs 26 (0, 0)) ∧ W.heap[g10]? = some (.cells #[.bool v.1, .string v.2.1, .int .i64 v.2.2.1] 23 (0, 0)) ∧ Below w.heap.size w W ∧ yA q W w.heap.size) ?_ ?_
    ·skip
     clear hHeld
     rintro _ W8 ⟨hb5, hb7, hb10, hbw, hrr⟩
     have BK5 := K_ hb5
     have BK7 := K_ hb7
     have BK10 := K_ hb10
     have HB := K_ hbw
     have HRR := K_ hrr
     clear hb5 hb7 hb10 hbw hrr
     refine np_ ?_
     refine on_ 8 (some 12) (bb 11 511) (fun K hK => ?_)
     refine bs_ 12 (#[.bool false, .string (⟨#[]⟩ : ByteArray), .int .i64 0]) 23 ?_
     intro g12 hg w' hbox hb
     have BK12 := K_ hbox
     have GE12 := ge_ hg HB
     have NB5_12 := nb_ hg BK5
     have NB7_12 := nb_ hg BK7
     have NB10_12 := nb_ hg BK10
     replace BK5 := zC BK5 hb
     replace BK7 := zC BK7 hb
     replace BK10 := zC BK10 hb
     replace HB := zE HB hb
     replace HRR := K_ (HRR.out.below hb)
     clear hb hbox hg
     refine hK.out _ _ ⟨BK7.out, BK5.out⟩ (fun hHeld => ?_)
     clear hK K
     refine no_ (some 12) ?_
     exact nj_ (J_3_4_8 g12 _ ⟨BK12.out, NB5_12.out, NB7_12.out, NB10_12.out, GE12.out, BK5.out, BK7.out, BK10.out, HB.out, HRR.out⟩)
    intro J_3_4
    refine xB (σ := Nat) 6 (bb 11 271) (fun g => [(41, .agg #[.bool (!b), .string s2, .int .i64 e]), (12, .pointer (some ⟨g, 0, none⟩))]) (fun g W => W.heap[g]? = some (.cells (#[.bool false, .string (⟨#[]⟩ : ByteArray), .int .i64 0]) 23 (0, 0)) ∧ g5 ≠ g ∧ g7 ≠ g ∧ g10 ≠ g ∧ w.heap.size ≤ g ∧ W.heap[g5]? = some (.cells #[.bool b, .string s2, .int .i64 e] 23 (0, 0)) ∧ W.heap[g7]? = some (.cells q.cs 26 (0, 0)) ∧ W.heap[g10]? = some (.cells #[.bool v.1, .string v.2.1, .int .i64 v.2.2.1] 23 (0, 0)) ∧ Below w.heap.size w W ∧ yA q W w.heap.size) ?_ ?_
    ·skip
     clear hHeld
     rintro g12 W8 ⟨hba12, hn5_12, hn7_12, hn10_12, hge12, hb5, hb7, hb10, hbw, hrr⟩
     have BK12 := K_ hba12
     have GE12 := K_ hge12
     have NB5_12 := K_ hn5_12
     have NB7_12 := K_ hn7_12
     have NB10_12 := K_ hn10_12
     have BK5 := K_ hb5
     have BK7 := K_ hb7
     have BK10 := K_ hb10
     have HB := K_ hbw
     have HRR := K_ hrr
     clear hba12 hn5_12 hn7_12 hn10_12 hge12 hb5 hb7 hb10 hbw hrr
     refine np_ ?_
     refine on_ 4 (some 42) (bb 11 287) (fun K hK => ?_)
     refine gq_ Tryz.func14 #[.agg q.cs, .int .i64 (xC m), .agg #[.bool (!b), .string s2, .int .i64 e]] ?_
     refine (zbq q HQ.out.good (xC m) (!b) s2 e y HR2.out _ (yA.ok HRR.out HQ.out) (Fig.Glob.below HG.out (BL HB))).mono ?_
     rintro e9 w' ⟨rfl, hb⟩
     refine ⟨_, rfl, ?_⟩
     replace BK5 := zC BK5 hb
     replace BK7 := zC BK7 hb
     replace BK10 := zC BK10 hb
     replace BK12 := zC BK12 hb
     replace HB := zE HB hb
     replace HRR := K_ (HRR.out.below hb)
     clear hb
     refine hK.out _ _ ⟨BK7.out, BK5.out⟩ (fun hHeld => ?_)
     clear hK K
     refine no_ (some 42) ?_
     refine pw_ 5 37 (bb 11 319) ?_
     refine pw_ 6 43 (bb 11 383) ?_
     refine pw_ 7 44 (bb 11 511) ?_
     exact nj_ (J_3_4_8 g12 _ ⟨BK12.out, NB5_12.out, NB7_12.out, NB10_12.out, GE12.out, BK5.out, BK7.out, BK10.out, HB.out, HRR.out⟩)
    intro J_3_8
    refine xB (σ := Unit) 7 (bb 11 15) (fun g => [(41, .agg #[.bool (!b), .string s2, .int .i64 e])]) (fun g W => W.heap[g5]? = some (.cells #[.bool b, .string s2, .int .i64 e] 23 (0, 0)) ∧ W.heap[g7]? = some (.cells q.cs 26 (0, 0)) ∧ W.heap[g10]? = some (.cells #[.bool v.1, .string v.2.1, .int .i64 v.2.2.1] 23 (0, 0)) ∧ Below w.heap.size w W ∧ yA q W w.heap.size) ?_ ?_
    ·skip
     clear hHeld
     rintro _ W8 ⟨hb5, hb7, hb10, hbw, hrr⟩
     have BK5 := K_ hb5
     have BK7 := K_ hb7
     have BK10 := K_ hb10
     have HB := K_ hbw
     have HRR := K_ hrr
     clear hb5 hb7 hb10 hbw hrr
     refine np_ ?_
     refine zbD (i := 4) (j := 8) (Ni := some 42) (Nj := some 12) (bb 11 31) (bb 11 271) rfl rfl rfl rfl (by kernel_rfl) (by decide) (by decide) (fun K hK => ?_) (fun K hK => ?_)
     ·skip
      refine gq_ Tryz.func14 #[.agg q.cs, .int .i64 (xC m), .agg #[.bool (!b), .string s2, .int .i64 e]] ?_
      refine (zbq q HQ.out.good (xC m) (!b) s2 e y HR2.out _ (yA.ok HRR.out HQ.out) (Fig.Glob.below HG.out (BL HB))).mono ?_
      rintro e9 w' ⟨rfl, hb⟩
      refine ⟨_, rfl, ?_⟩
      replace BK5 := zC BK5 hb
      replace BK7 := zC BK7 hb
      replace BK10 := zC BK10 hb
      replace HB := zE HB hb
      replace HRR := K_ (HRR.out.below hb)
      clear hb
      refine hK.out _ _ ⟨BK7.out, BK5.out⟩ (fun hHeld => ?_)
      clear hK K
      refine no_ (some 42) ?_
      refine pw_ 5 37 (bb 11 63) ?_
      refine pw_ 6 43 (bb 11 127) ?_
      refine pw_ 7 44 (bb 11 255) ?_
      exact nj_ (J_3_4 () _ ⟨BK5.out, BK7.out, BK10.out, HB.out, HRR.out⟩)
     skip
     refine bs_ 12 (#[.bool false, .string (⟨#[]⟩ : ByteArray), .int .i64 0]) 23 ?_
     intro g12 hg w' hbox hb
     have BK12 := K_ hbox
     have GE12 := ge_ hg HB
     have NB5_12 := nb_ hg BK5
     have NB7_12 := nb_ hg BK7
     have NB10_12 := nb_ hg BK10
     replace BK5 := zC BK5 hb
     replace BK7 := zC BK7 hb
     replace BK10 := zC BK10 hb
     replace HB := zE HB hb
     replace HRR := K_ (HRR.out.below hb)
     clear hb hbox hg
     refine hK.out _ _ ⟨BK7.out, BK5.out⟩ (fun hHeld => ?_)
     clear hK K
     refine no_ (some 12) ?_
     exact nj_ (J_3_8 g12 _ ⟨BK12.out, NB5_12.out, NB7_12.out, NB10_12.out, GE12.out, BK5.out, BK7.out, BK10.out, HB.out, HRR.out⟩)
    intro J_3
    refine xB (σ := Nat) 7 (bb 11 263) (fun g => [(12, .pointer (some ⟨g, 0, none⟩))]) (fun g W => W.heap[g]? = some (.cells (#[.bool false, .string (⟨#[]⟩ : ByteArray), .int .i64 0]) 23 (0, 0)) ∧ g5 ≠ g ∧ g7 ≠ g ∧ g10 ≠ g ∧ w.heap.size ≤ g ∧ W.heap[g5]? = some (.cells #[.bool b, .string s2, .int .i64 e] 23 (0, 0)) ∧ W.heap[g7]? = some (.cells q.cs 26 (0, 0)) ∧ W.heap[g10]? = some (.cells #[.bool v.1, .string v.2.1, .int .i64 v.2.2.1] 23 (0, 0)) ∧ Below w.heap.size w W ∧ yA q W w.heap.size) ?_ ?_
    ·skip
     clear hHeld
     rintro g12 W8 ⟨hba12, hn5_12, hn7_12, hn10_12, hge12, hb5, hb7, hb10, hbw, hrr⟩
     have BK12 := K_ hba12
     have GE12 := K_ hge12
     have NB5_12 := K_ hn5_12
     have NB7_12 := K_ hn7_12
     have NB10_12 := K_ hn10_12
     have BK5 := K_ hb5
     have BK7 := K_ hb7
     have BK10 := K_ hb10
     have HB := K_ hbw
     have HRR := K_ hrr
     clear hba12 hn5_12 hn7_12 hn10_12 hge12 hb5 hb7 hb10 hbw hrr
     refine np_ ?_
     refine on_ 3 (some 41) (bb 11 271) (fun K hK => ?_)
     refine gq_ Tryz.func15 #[.agg #[.bool b, .string s2, .int .i64 e]] ?_
     refine (xK.calls b s2 e (!b) s2 e _ rfl).mono ?_
     rintro e9 w' ⟨rfl, hb⟩
     refine ⟨_, rfl, ?_⟩
     replace BK5 := zC BK5 hb
     replace BK7 := zC BK7 hb
     replace BK10 := zC BK10 hb
     replace BK12 := zC BK12 hb
     replace HB := zE HB hb
     replace HRR := K_ (HRR.out.below hb)
     clear hb
     refine hK.out _ _ ⟨BK7.out, BK5.out⟩ (fun hHeld => ?_)
     clear hK K
     refine no_ (some 41) ?_
     exact nj_ (J_3_8 g12 _ ⟨BK12.out, NB5_12.out, NB7_12.out, NB10_12.out, GE12.out, BK5.out, BK7.out, BK10.out, HB.out, HRR.out⟩)
    intro J_8
    clear hHeld
    refine zbD (i := 3) (j := 8) (Ni := some 41) (Nj := some 12) (bb 11 15) (bb 11 263) rfl rfl rfl rfl (by kernel_rfl) (by decide) (by decide) (fun K hK => ?_) (fun K hK => ?_)
    ·skip
     refine gq_ Tryz.func15 #[.agg #[.bool b, .string s2, .int .i64 e]] ?_
     refine (xK.calls b s2 e (!b) s2 e _ rfl).mono ?_
     rintro e9 w' ⟨rfl, hb⟩
     refine ⟨_, rfl, ?_⟩
     replace BK5 := zC BK5 hb
     replace BK7 := zC BK7 hb
     replace BK10 := zC BK10 hb
     replace HB := zE HB hb
     replace HRR := K_ (HRR.out.below hb)
     clear hb
     refine hK.out _ _ ⟨BK7.out, BK5.out⟩ (fun hHeld => ?_)
     clear hK K
     refine no_ (some 41) ?_
     exact nj_ (J_3 () _ ⟨BK5.out, BK7.out, BK10.out, HB.out, HRR.out⟩)
    skip
    refine bs_ 12 (#[.bool false, .string (⟨#[]⟩ : ByteArray), .int .i64 0]) 23 ?_
    intro g12 hg w' hbox hb
    have BK12 := K_ hbox
    have GE12 := ge_ hg HB
    have NB5_12 := nb_ hg BK5
    have NB7_12 := nb_ hg BK7
    have NB10_12 := nb_ hg BK10
    replace BK5 := zC BK5 hb
    replace BK7 := zC BK7 hb
    replace BK10 := zC BK10 hb
    replace HB := zE HB hb
    replace HRR := K_ (HRR.out.below hb)
    clear hb hbox hg
    refine hK.out _ _ ⟨BK7.out, BK5.out⟩ (fun hHeld => ?_)
    clear hK K
    refine no_ (some 12) ?_
    exact nj_ (J_8 g12 _ ⟨BK12.out, NB5_12.out, NB7_12.out, NB10_12.out, GE12.out, BK5.out, BK7.out, BK10.out, HB.out, HRR.out⟩)
   case hcj =>
    clear hHeld
    rintro g12 W8 ⟨hba12, hn5_12, hn7_12, hn10_12, hge12, hb5, hb7, hb10, hbw, hrr⟩
    have BK12 := K_ hba12
    have GE12 := K_ hge12
    have NB5_12 := K_ hn5_12
    have NB7_12 := K_ hn7_12
    have NB10_12 := K_ hn10_12
    have BK5 := K_ hb5
    have BK7 := K_ hb7
    have BK10 := K_ hb10
    have HB := K_ hbw
    have HRR := K_ hrr
    clear hba12 hn5_12 hn7_12 hn10_12 hge12 hb5 hb7 hb10 hbw hrr
    refine np_ ?_
    refine on_ 9 none (bb 11 1023) (fun K hK => ?_)
    refine yP (g := g12) (cs := #[.bool false, .string (⟨#[]⟩ : ByteArray), .int .i64 0]) (#[.bool y.1, .string y.2.1, .int .i64 y.2.2.1]) BK12 ?_ rfl rfl rfl rfl rfl jM rfl rfl
    intro w9 hbk hfar hbel
    replace HRR := K_ (HRR.out.so BK12.out (by decide) hfar)
    replace BK5 := K_ (hfar _ _ NB5_12.out BK5.out)
    replace BK7 := K_ (hfar _ _ NB7_12.out BK7.out)
    replace BK10 := K_ (hfar _ _ NB10_12.out BK10.out)
    replace BK12 := K_ hbk
    replace HB := K_ (hbel _ _ GE12.out HB.out)
    refine hK.out _ _ ⟨BK7.out, BK5.out⟩ (fun _ => ?_)
    clear hK K hbk hfar hbel
    refine pw_ 10 13 (bb 11 2047) ?_
    refine yY (by kernel_rfl) ?_
    by_cases hE : v.2.2.2 = 0
    ·skip
     have dE : (v.2.2.2 != 0) = false := by rw [hE]; rfl
     have dE2 : (v.2.2.2 == 0) = true := by rw [hE]; rfl
     have hy2 : y = (!v.1, v.2) := by have := HYV.out; rw [if_pos hE] at this; exact this
     have hg2 := zlQ HQ.out (m := m) (b := b) (s := s2) (e := e) (by rw [← HV.out]; exact hE)
     rw [← HV.out] at hg2
     obtain ⟨A, B, C, hABC⟩ : ∃ (A B : ByteArray) (C : Int), (A, B, C) = zae q.P (vB (nD (vB v.2.1))) (nE (vB v.2.1) (v.2.2.1 + q.mult)) := ⟨_, _, _, rfl⟩
     have HL : ∀ (x : Bool) W, zaH q W → Aside0 (Calls Tryz.prog 16 #[.agg q.cs, .agg #[.bool x, .string v.2.1, .int .i64 v.2.2.1]] W fun e' w' => e' = .returned (.agg #[.bool x, .string A, .string B, .int .i64 C]) ∧ Below W.heap.size W w') := fun x W hW => ⟨by
      have h := zmD HQ.out x hg2 W hW
      rw [← hABC] at h; exact h⟩
     have HL1 := HL v.1
     have HL2 := HL (!v.1)
     clear hABC HL hg2
     subst hy2
     dsimp only at BK12 ⊢
     go_upto_region 13 with (fail)
     refine yK (n := 10) (S := fun W => W.heap[g7]? = some (.cells q.cs 26 (0, 0)) ∧ W.heap[g10]? = some (.cells #[.bool v.1, .string v.2.1, .int .i64 v.2.2.1] 23 (0, 0)) ∧ W.heap[g12]? = some (.cells #[.bool (!v.1), .string v.2.1, .int .i64 v.2.2.1] 23 (0, 0))) (ds := []) #[false, false, false, false, false, false, false, false, false, false] (by kernel_rfl) rfl rfl ⟨BK BK7, BK BK10, BK BK12⟩ (fun hHeld => ?_)
     refine zU (fun W => W.heap[g7]? = some (.cells q.cs 26 (0, 0)) ∧ W.heap[g10]? = some (.cells #[.bool v.1, .string v.2.1, .int .i64 v.2.2.1] 23 (0, 0)) ∧ W.heap[g12]? = some (.cells #[.bool (!v.1), .string v.2.1, .int .i64 v.2.2.1] 23 (0, 0)) ∧ Below w.heap.size w W ∧ yA q W w.heap.size) ⟨BK BK7, BK BK10, BK BK12, BL HB, HRR.out.drew⟩ ?_
     clear hHeld BK5 BK7 BK10 BK12 HRR HB
     rintro W ⟨hb7, hb10, hb12, hbw, hrr⟩
     have BK7 := K_ hb7
     have BK10 := K_ hb10
     have BK12 := K_ hb12
     have HB := K_ hbw
     have HRR := K_ hrr
     have hHeld := (show W.heap[g7]? = some (.cells q.cs 26 (0, 0)) ∧ W.heap[g10]? = some (.cells #[.bool v.1, .string v.2.1, .int .i64 v.2.2.1] 23 (0, 0)) ∧ W.heap[g12]? = some (.cells #[.bool (!v.1), .string v.2.1, .int .i64 v.2.2.1] 23 (0, 0)) from ⟨hb7, hb10, hb12⟩)
     clear hb7 hb10 hb12 hbw hrr
     refine tr_ 0 53 (bb 10 1) (q.cs) (fun _ hs => ⟨hs.1⟩) Tryz.underlying26 jL hHeld ?_
     refine tr_ 1 54 (bb 10 3) (#[.bool v.1, .string v.2.1, .int .i64 v.2.2.1]) (fun _ hs => ⟨hs.2.1⟩) Tryz.underlying23 jM hHeld ?_
     refine tr_ 3 56 (bb 10 11) (q.cs) (fun _ hs => ⟨hs.1⟩) Tryz.underlying26 jL hHeld ?_
     refine tr_ 4 57 (bb 10 27) (#[.bool (!v.1), .string v.2.1, .int .i64 v.2.2.1]) (fun _ hs => ⟨hs.2.2⟩) Tryz.underlying23 jM hHeld ?_
     refine xB (σ := Nat × Nat) 2 (bb 10 255) (fun g => [(55, .agg #[.bool v.1, .string A, .string B, .int .i64 C]), (58, .agg #[.bool (!v.1), .string A, .string B, .int .i64 C]), (14, .pointer (some ⟨g.1, 0, none⟩)), (15, .pointer (some ⟨g.2, 0, none⟩))]) (fun g W => W.heap[g.1]? = some (.cells (#[.bool false, .string (⟨#[]⟩ : ByteArray), .string (⟨#[]⟩ : ByteArray), .int .i64 0]) 36 (0, 0)) ∧ g7 ≠ g.1 ∧ g10 ≠ g.1 ∧ g12 ≠ g.1 ∧ w.heap.size ≤ g.1 ∧ W.heap[g.2]? = some (.cells (#[.bool false, .string (⟨#[]⟩ : ByteArray), .string (⟨#[]⟩ : ByteArray), .int .i64 0]) 36 (0, 0)) ∧ g7 ≠ g.2 ∧ g10 ≠ g.2 ∧ g12 ≠ g.2 ∧ g.1 ≠ g.2 ∧ w.heap.size ≤ g.2 ∧ W.heap[g7]? = some (.cells q.cs 26 (0, 0)) ∧ W.heap[g10]? = some (.cells #[.bool v.1, .string v.2.1, .int .i64 v.2.2.1] 23 (0, 0)) ∧ W.heap[g12]? = some (.cells #[.bool (!v.1), .string v.2.1, .int .i64 v.2.2.1] 23 (0, 0)) ∧ Below w.heap.size w W ∧ yA q W w.heap.size) ?hcj ?hrj
     case hrj =>
      intro J_2_5_6_7
      refine xB (σ := Nat) 3 (bb 10 127) (fun g => [(55, .agg #[.bool v.1, .string A, .string B, .int .i64 C]), (58, .agg #[.bool (!v.1), .string A, .string B, .int .i64 C]), (14, .pointer (some ⟨g, 0, none⟩))]) (fun g W => W.heap[g]? = some (.cells (#[.bool false, .string (⟨#[]⟩ : ByteArray), .string (⟨#[]⟩ : ByteArray), .int .i64 0]) 36 (0, 0)) ∧ g7 ≠ g ∧ g10 ≠ g ∧ g12 ≠ g ∧ w.heap.size ≤ g ∧ W.heap[g7]? = some (.cells q.cs 26 (0, 0)) ∧ W.heap[g10]? = some (.cells #[.bool v.1, .string v.2.1, .int .i64 v.2.2.1] 23 (0, 0)) ∧ W.heap[g12]? = some (.cells #[.bool (!v.1), .string v.2.1, .int .i64 v.2.2.1] 23 (0, 0)) ∧ Below w.heap.size w W ∧ yA q W w.heap.size) ?_ ?_
      ·skip
       clear hHeld
       rintro g14 W8 ⟨hba14, hn7_14, hn10_14, hn12_14, hge14, hb7, hb10, hb12, hbw, hrr⟩
       have BK14 := K_ hba14
       have GE14 := K_ hge14
       have NB7_14 := K_ hn7_14
       have NB10_14 := K_ hn10_14
       have NB12_14 := K_ hn12_14
       have BK7 := K_ hb7
       have BK10 := K_ hb10
       have BK12 := K_ hb12
       have HB := K_ hbw
       have HRR := K_ hrr
       clear hba14 hn7_14 hn10_14 hn12_14 hge14 hb7 hb10 hb12 hbw hrr
       refine np_ ?_
       refine on_ 7 (some 15) (bb 10 255) (fun K hK => ?_)
       refine bs_ 15 (#[.bool false, .string (⟨#[]⟩ : ByteArray), .string (⟨#[]⟩ : ByteArray), .int .i64 0]) 36 ?_
       intro g15 hg w' hbox hb
       have BK15 := K_ hbox
       have GE15 := ge_ hg HB
       have NB7_15 := nb_ hg BK7
       have NB10_15 := nb_ hg BK10
       have NB12_15 := nb_ hg BK12
       have NB14_15 := nb_ hg BK14
       replace BK7 := zC BK7 hb
       replace BK10 := zC BK10 hb
       replace BK12 := zC BK12 hb
       replace BK14 := zC BK14 hb
       replace HB := zE HB hb
       replace HRR := K_ (HRR.out.below hb)
       clear hb hbox hg
       refine hK.out _ _ ⟨BK7.out, BK10.out, BK12.out⟩ (fun hHeld => ?_)
       clear hK K
       refine no_ (some 15) ?_
       exact nj_ (J_2_5_6_7 (g14, g15) _ ⟨BK14.out, NB7_14.out, NB10_14.out, NB12_14.out, GE14.out, BK15.out, NB7_15.out, NB10_15.out, NB12_15.out, (by first | exact NB14_15.out | exact Ne.symm NB15_14.out), GE15.out, BK7.out, BK10.out, BK12.out, HB.out, HRR.out⟩)
      intro J_2_5_6
      refine xB (σ := Nat) 3 (bb 10 191) (fun g => [(55, .agg #[.bool v.1, .string A, .string B, .int .i64 C]), (58, .agg #[.bool (!v.1), .string A, .string B, .int .i64 C]), (15, .pointer (some ⟨g, 0, none⟩))]) (fun g W => W.heap[g]? = some (.cells (#[.bool false, .string (⟨#[]⟩ : ByteArray), .string (⟨#[]⟩ : ByteArray), .int .i64 0]) 36 (0, 0)) ∧ g7 ≠ g ∧ g10 ≠ g ∧ g12 ≠ g ∧ w.heap.size ≤ g ∧ W.heap[g7]? = some (.cells q.cs 26 (0, 0)) ∧ W.heap[g10]? = some (.cells #[.bool v.1, .string v.2.1, .int .i64 v.2.2.1] 23 (0, 0)) ∧ W.heap[g12]? = some (.cells #[.bool (!v.1), .string v.2.1, .int .i64 v.2.2.1] 23 (0, 0)) ∧ Below w.heap.size w W ∧ yA q W w.heap.size) ?_ ?_
      ·skip
       clear hHeld
       rintro g15 W8 ⟨hba15, hn7_15, hn10_15, hn12_15, hge15, hb7, hb10, hb12, hbw, hrr⟩
       have BK15 := K_ hba15
       have GE15 := K_ hge15
       have NB7_15 := K_ hn7_15
       have NB10_15 := K_ hn10_15
       have NB12_15 := K_ hn12_15
       have BK7 := K_ hb7
       have BK10 := K_ hb10
       have BK12 := K_ hb12
       have HB := K_ hbw
       have HRR := K_ hrr
       clear hba15 hn7_15 hn10_15 hn12_15 hge15 hb7 hb10 hb12 hbw hrr
       refine np_ ?_
       refine on_ 6 (some 14) (bb 10 255) (fun K hK => ?_)
       refine bs_ 14 (#[.bool false, .string (⟨#[]⟩ : ByteArray), .string (⟨#[]⟩ : ByteArray), .int .i64 0]) 36 ?_
       intro g14 hg w' hbox hb
       have BK14 := K_ hbox
       have GE14 := ge_ hg HB
       have NB7_14 := nb_ hg BK7
       have NB10_14 := nb_ hg BK10
       have NB12_14 := nb_ hg BK12
       have NB15_14 := nb_ hg BK15
       replace BK7 := zC BK7 hb
       replace BK10 := zC BK10 hb
       replace BK12 := zC BK12 hb
       replace BK15 := zC BK15 hb
       replace HB := zE HB hb
       replace HRR := K_ (HRR.out.below hb)
       clear hb hbox hg
       refine hK.out _ _ ⟨BK7.out, BK10.out, BK12.out⟩ (fun hHeld => ?_)
       clear hK K
       refine no_ (some 14) ?_
       exact nj_ (J_2_5_6_7 (g14, g15) _ ⟨BK14.out, NB7_14.out, NB10_14.out, NB12_14.out, GE14.out, BK15.out, NB7_15.out, NB10_15.out, NB12_15.out, (by first | exact NB14_15.out | exact Ne.symm NB15_14.out), GE15.out, BK7.out, BK10.out, BK12.out, HB.out, HRR.out⟩)
      intro J_2_5_7
      refine xB (σ := Nat × Nat) 3 (bb 10 223) (fun g => [(55, .agg #[.bool v.1, .string A, .string B, .int .i64 C]), (14, .pointer (some ⟨g.1, 0, none⟩)), (15, .pointer (some ⟨g.2, 0, none⟩))]) (fun g W => W.heap[g.1]? = some (.cells (#[.bool false, .string (⟨#[]⟩ : ByteArray), .string (⟨#[]⟩ : ByteArray), .int .i64 0]) 36 (0, 0)) ∧ g7 ≠ g.1 ∧ g10 ≠ g.1 ∧ g12 ≠ g.1 ∧ w.heap.size ≤ g.1 ∧ W.heap[g.2]? = some (.cells (#[.bool false, .string (⟨#[]⟩ : ByteArray), .string (⟨#[]⟩ : ByteArray), .int .i64 0]) 36 (0, 0)) ∧ g7 ≠ g.2 ∧ g10 ≠ g.2 ∧ g12 ≠ g.2 ∧ g.1 ≠ g.2 ∧ w.heap.size ≤ g.2 ∧ W.heap[g7]? = some (.cells q.cs 26 (0, 0)) ∧ W.heap[g10]? = some (.cells #[.bool v.1, .string v.2.1, .int .i64 v.2.2.1] 23 (0, 0)) ∧ W.heap[g12]? = some (.cells #[.bool (!v.1), .string v.2.1, .int .i64 v.2.2.1] 23 (0, 0)) ∧ Below w.heap.size w W ∧ yA q W w.heap.size) ?_ ?_
      ·skip
       clear hHeld
       rintro ⟨g14, g15⟩ W8 ⟨hba14, hn7_14, hn10_14, hn12_14, hge14, hba15, hn7_15, hn10_15, hn12_15, hn14_15, hge15, hb7, hb10, hb12, hbw, hrr⟩
       have BK14 := K_ hba14
       have GE14 := K_ hge14
       have NB7_14 := K_ hn7_14
       have NB10_14 := K_ hn10_14
       have NB12_14 := K_ hn12_14
       have BK15 := K_ hba15
       have GE15 := K_ hge15
       have NB7_15 := K_ hn7_15
       have NB10_15 := K_ hn10_15
       have NB12_15 := K_ hn12_15
       have NB14_15 := K_ hn14_15
       have BK7 := K_ hb7
       have BK10 := K_ hb10
       have BK12 := K_ hb12
       have HB := K_ hbw
       have HRR := K_ hrr
       clear hba14 hn7_14 hn10_14 hn12_14 hge14 hba15 hn7_15 hn10_15 hn12_15 hn14_15 hge15 hb7 hb10 hb12 hbw hrr
       refine np_ ?_
       refine on_ 5 (some 58) (bb 10 255) (fun K hK => ?_)
       refine gq_ Tryz.func16 #[.agg q.cs, .agg #[.bool (!v.1), .string v.2.1, .int .i64 v.2.2.1]] ?_
       refine ((HL2 _ (yA.ok HRR.out HQ.out)).out).mono ?_
       rintro e9 w' ⟨rfl, hb⟩
       refine ⟨_, rfl, ?_⟩
       replace BK7 := zC BK7 hb
       replace BK10 := zC BK10 hb
       replace BK12 := zC BK12 hb
       replace BK14 := zC BK14 hb
       replace BK15 := zC BK15 hb
       replace HB := zE HB hb
       replace HRR := K_ (HRR.out.below hb)
       clear hb
       refine hK.out _ _ ⟨BK7.out, BK10.out, BK12.out⟩ (fun hHeld => ?_)
       clear hK K
       refine no_ (some 58) ?_
       exact nj_ (J_2_5_6_7 (g14, g15) _ ⟨BK14.out, NB7_14.out, NB10_14.out, NB12_14.out, GE14.out, BK15.out, NB7_15.out, NB10_15.out, NB12_15.out, (by first | exact NB14_15.out | exact Ne.symm NB15_14.out), GE15.out, BK7.out, BK10.out, BK12.out, HB.out, HRR.out⟩)
      intro J_2_6_7
      refine xB (σ := Unit) 4 (bb 10 63) (fun g => [(55, .agg #[.bool v.1, .string A, .string B, .int .i64 C]), (58, .agg #[.bool (!v.1), .string A, .string B, .int .i64 C])]) (fun g W => W.heap[g7]? = some (.cells q.cs 26 (0, 0)) ∧ W.heap[g10]? = some (.cells #[.bool v.1, .string v.2.1, .int .i64 v.2.2.1] 23 (0, 0)) ∧ W.heap[g12]? = some (.cells #[.bool (!v.1), .string v.2.1, .int .i64 v.2.2.1] 23 (0, 0)) ∧ Below w.heap.size w W ∧ yA q W w.heap.size) ?_ ?_
      ·skip
       clear hHeld
       rintro _ W8 ⟨hb7, hb10, hb12, hbw, hrr⟩
       have BK7 := K_ hb7
       have BK10 := K_ hb10
       have BK12 := K_ hb12
       have HB := K_ hbw
       have HRR := K_ hrr
       clear hb7 hb10 hb12 hbw hrr
       refine np_ ?_
       refine zbD (i := 6) (j := 7) (Ni := some 14) (Nj := some 15) (bb 10 127) (bb 10 191) rfl rfl rfl rfl (by kernel_rfl) (by decide) (by decide) (fun K hK => ?_) (fun K hK => ?_)
       ·skip
        refine bs_ 14 (#[.bool false, .string (⟨#[]⟩ : ByteArray), .string (⟨#[]⟩ : ByteArray), .int .i64 0]) 36 ?_
        intro g14 hg w' hbox hb
        have BK14 := K_ hbox
        have GE14 := ge_ hg HB
        have NB7_14 := nb_ hg BK7
        have NB10_14 := nb_ hg BK10
        have NB12_14 := nb_ hg BK12
        replace BK7 := zC BK7 hb
        replace BK10 := zC BK10 hb
        replace BK12 := zC BK12 hb
        replace HB := zE HB hb
        replace HRR := K_ (HRR.out.below hb)
        clear hb hbox hg
        refine hK.out _ _ ⟨BK7.out, BK10.out, BK12.out⟩ (fun hHeld => ?_)
        clear hK K
        refine no_ (some 14) ?_
        exact nj_ (J_2_5_6 g14 _ ⟨BK14.out, NB7_14.out, NB10_14.out, NB12_14.out, GE14.out, BK7.out, BK10.out, BK12.out, HB.out, HRR.out⟩)
       skip
       refine bs_ 15 (#[.bool false, .string (⟨#[]⟩ : ByteArray), .string (⟨#[]⟩ : ByteArray), .int .i64 0]) 36 ?_
       intro g15 hg w' hbox hb
       have BK15 := K_ hbox
       have GE15 := ge_ hg HB
       have NB7_15 := nb_ hg BK7
       have NB10_15 := nb_ hg BK10
       have NB12_15 := nb_ hg BK12
       replace BK7 := zC BK7 hb
       replace BK10 := zC BK10 hb
       replace BK12 := zC BK12 hb
       replace HB := zE HB hb
       replace HRR := K_ (HRR.out.below hb)
       clear hb hbox hg
       refine hK.out _ _ ⟨BK7.out, BK10.out, BK12.out⟩ (fun hHeld => ?_)
       clear hK K
       refine no_ (some 15) ?_
       exact nj_ (J_2_5_7 g15 _ ⟨BK15.out, NB7_15.out, NB10_15.out, NB12_15.out, GE15.out, BK7.out, BK10.out, BK12.out, HB.out, HRR.out⟩)
      intro J_2_5
      refine xB (σ := Nat) 4 (bb 10 95) (fun g => [(55, .agg #[.bool v.1, .string A, .string B, .int .i64 C]), (14, .pointer (some ⟨g, 0, none⟩))]) (fun g W => W.heap[g]? = some (.cells (#[.bool false, .string (⟨#[]⟩ : ByteArray), .string (⟨#[]⟩ : ByteArray), .int .i64 0]) 36 (0, 0)) ∧ g7 ≠ g ∧ g10 ≠ g ∧ g12 ≠ g ∧ w.heap.size ≤ g ∧ W.heap[g7]? = some (.cells q.cs 26 (0, 0)) ∧ W.heap[g10]? = some (.cells #[.bool v.1, .string v.2.1, .int .i64 v.2.2.1] 23 (0, 0)) ∧ W.heap[g12]? = some (.cells #[.bool (!v.1), .string v.2.1, .int .i64 v.2.2.1] 23 (0, 0)) ∧ Below w.heap.size w W ∧ yA q W w.heap.size) ?_ ?_
      ·skip
       clear hHeld
       rintro g14 W8 ⟨hba14, hn7_14, hn10_14, hn12_14, hge14, hb7, hb10, hb12, hbw, hrr⟩
       have BK14 := K_ hba14
       have GE14 := K_ hge14
       have NB7_14 := K_ hn7_14
       have NB10_14 := K_ hn10_14
       have NB12_14 := K_ hn12_14
       have BK7 := K_ hb7
       have BK10 := K_ hb10
       have BK12 := K_ hb12
       have HB := K_ hbw
       have HRR := K_ hrr
       clear hba14 hn7_14 hn10_14 hn12_14 hge14 hb7 hb10 hb12 hbw hrr
       refine np_ ?_
       refine zbD (i := 5) (j := 7) (Ni := some 58) (Nj := some 15) (bb 10 127) (bb 10 223) rfl rfl rfl rfl (by kernel_rfl) (by decide) (by decide) (fun K hK => ?_) (fun K hK => ?_)
       ·skip
        refine gq_ Tryz.func16 #[.agg q.cs, .agg #[.bool (!v.1), .string v.2.1, .int .i64 v.2.2.1]] ?_
        refine ((HL2 _ (yA.ok HRR.out HQ.out)).out).mono ?_
        rintro e9 w' ⟨rfl, hb⟩
        refine ⟨_, rfl, ?_⟩
        replace BK7 := zC BK7 hb
        replace BK10 := zC BK10 hb
        replace BK12 := zC BK12 hb
        replace BK14 := zC BK14 hb
        replace HB := zE HB hb
        replace HRR := K_ (HRR.out.below hb)
        clear hb
        refine hK.out _ _ ⟨BK7.out, BK10.out, BK12.out⟩ (fun hHeld => ?_)
        clear hK K
        refine no_ (some 58) ?_
        exact nj_ (J_2_5_6 g14 _ ⟨BK14.out, NB7_14.out, NB10_14.out, NB12_14.out, GE14.out, BK7.out, BK10.out, BK12.out, HB.out, HRR.out⟩)
       skip
       refine bs_ 15 (#[.bool false, .string (⟨#[]⟩ : ByteArray), .string (⟨#[]⟩ : ByteArray), .int .i64 0]) 36 ?_
       intro g15 hg w' hbox hb
       have BK15 := K_ hbox
       have GE15 := ge_ hg HB
       have NB7_15 := nb_ hg BK7
       have NB10_15 := nb_ hg BK10
       have NB12_15 := nb_ hg BK12
       have NB14_15 := nb_ hg BK14
       replace BK7 := zC BK7 hb
       replace BK10 := zC BK10 hb
       replace BK12 := zC BK12 hb
       replace BK14 := zC BK14 hb
       replace HB := zE HB hb
       replace HRR := K_ (HRR.out.below hb)
       clear hb hbox hg
       refine hK.out _ _ ⟨BK7.out, BK10.out, BK12.out⟩ (fun hHeld => ?_)
       clear hK K
       refine no_ (some 15) ?_
       exact nj_ (J_2_6_7 (g14, g15) _ ⟨BK14.out, NB7_14.out, NB10_14.out, NB12_14.out, GE14.out, BK15.out, NB7_15.out, NB10_15.out, NB12_15.out, (by first | exact NB14_15.out | exact Ne.symm NB15_14.out), GE15.out, BK7.out, BK10.out, BK12.out, HB.out, HRR.out⟩)
      intro J_2_6
      refine xB (σ := Nat) 4 (bb 10 159) (fun g => [(55, .agg #[.bool v.1, .string A, .string B, .int .i64 C]), (15, .pointer (some ⟨g, 0, none⟩))]) (fun g W => W.heap[g]? = some (.cells (#[.bool false, .string (⟨#[]⟩ : ByteArray), .string (⟨#[]⟩ : ByteArray), .int .i64 0]) 36 (0, 0)) ∧ g7 ≠ g ∧ g10 ≠ g ∧ g12 ≠ g ∧ w.heap.size ≤ g ∧ W.heap[g7]? = some (.cells q.cs 26 (0, 0)) ∧ W.heap[g10]? = some (.cells #[.bool v.1, .string v.2.1, .int .i64 v.2.2.1] 23 (0, 0)) ∧ W.heap[g12]? = some (.cells #[.bool (!v.1), .string v.2.1, .int .i64 v.2.2.1] 23 (0, 0)) ∧ Below w.heap.size w W ∧ yA q W w.heap.size) ?_ ?_
      ·skip
       clear hHeld
       rintro g15 W8 ⟨hba15, hn7_15, hn10_15, hn12_15, hge15, hb7, hb10, hb12, hbw, hrr⟩
       have BK15 := K_ hba15
       have GE15 := K_ hge15
       have NB7_15 := K_ hn7_15
       have NB10_15 := K_ hn10_15
       have NB12_15 := K_ hn12_15
       have BK7 := K_ hb7
       have BK10 := K_ hb10
       have BK12 := K_ hb12
       have HB := K_ hbw
       have HRR := K_ hrr
       clear hba15 hn7_15 hn10_15 hn12_15 hge15 hb7 hb10 hb12 hbw hrr
       refine np_ ?_
       refine zbD (i := 5) (j := 6) (Ni := some 58) (Nj := some 14) (bb 10 191) (bb 10 223) rfl rfl rfl rfl (by kernel_rfl) (by decide) (by decide) (fun K hK => ?_) (fun K hK => ?_)
       ·skip
        refine gq_ Tryz.func16 #[.agg q.cs, .agg #[.bool (!v.1), .string v.2.1, .int .i64 v.2.2.1]] ?_
        refine ((HL2 _ (yA.ok HRR.out HQ.out)).out).mono ?_
        rintro e9 w' ⟨rfl, hb⟩
        refine ⟨_, rfl, ?_⟩
        replace BK7 := zC BK7 hb
        replace BK10 := zC BK10 hb
        replace BK12 := zC BK12 hb
        replace BK15 := zC BK15 hb
        replace HB := zE HB hb
        replace HRR := K_ (HRR.out.below hb)
        clear hb
        refine hK.out _ _ ⟨BK7.out, BK10.out, BK12.out⟩ (fun hHeld => ?_)
        clear hK K
        refine no_ (some 58) ?_
        exact nj_ (J_2_5_7 g15 _ ⟨BK15.out, NB7_15.out, NB10_15.out, NB12_15.out, GE15.out, BK7.out, BK10.out, BK12.out, HB.out, HRR.out⟩)
       skip
       refine bs_ 14 (#[.bool false, .string (⟨#[]⟩ : ByteArray), .string (⟨#[]⟩ : ByteArray), .int .i64 0]) 36 ?_
       intro g14 hg w' hbox hb
       have BK14 := K_ hbox
       have GE14 := ge_ hg HB
       have NB7_14 := nb_ hg BK7
       have NB10_14 := nb_ hg BK10
       have NB12_14 := nb_ hg BK12
       have NB15_14 := nb_ hg BK15
       replace BK7 := zC BK7 hb
       replace BK10 := zC BK10 hb
       replace BK12 := zC BK12 hb
       replace BK15 := zC BK15 hb
       replace HB := zE HB hb
       replace HRR := K_ (HRR.out.below hb)
       clear hb hbox hg
       refine hK.out _ _ ⟨BK7.out, BK10.out, BK12.out⟩ (fun hHeld => ?_)
       clear hK K
       refine no_ (some 14) ?_
       exact nj_ (J_2_6_7 (g14, g15) _ ⟨BK14.out, NB7_14.out, NB10_14.out, NB12_14.out, GE14.out, BK15.out, NB7_15.out, NB10_15.out, NB12_15.out, (by first | exact NB14_15.out | exact Ne.symm NB15_14.out), GE15.out, BK7.out, BK10.out, BK12.out, HB.out, HRR.out⟩)
      intro J_2_7
      refine xB (σ := Nat × Nat) 4 (bb 10 219) (fun g => [(14, .pointer (some ⟨g.1, 0, none⟩)), (15, .pointer (some ⟨g.2, 0, none⟩))]) (fun g W => W.heap[g.1]? = some (.cells (#[.bool false, .string (⟨#[]⟩ : ByteArray), .string (⟨#[]⟩ : ByteArray), .int .i64 0]) 36 (0, 0)) ∧ g7 ≠ g.1 ∧ g10 ≠ g.1 ∧ g12 ≠ g.1 ∧ w.heap.size ≤ g.1 ∧ W.heap[g.2]? = some (.cells (#[.bool false, .string (⟨#[]⟩ : ByteArray), .string (⟨#[]⟩ : ByteArray), .int .i64 0]) 36 (0, 0)) ∧ g7 ≠ g.2 ∧ g10 ≠ g.2 ∧ g12 ≠ g.2 ∧ g.1 ≠ g.2 ∧ w.heap.size ≤ g.2 ∧ W.heap[g7]? = some (.cells q.cs 26 (0, 0)) ∧ W.heap[g10]? = some (.cells #[.bool v.1, .string v.2.1, .int .i64 v.2.2.1] 23 (0, 0)) ∧ W.heap[g12]? = some (.cells #[.bool (!v.1), .string v.2.1, .int .i64 v.2.2.1] 23 (0, 0)) ∧ Below w.heap.size w W ∧ yA q W w.heap.size) ?_ ?_
      ·skip
       clear hHeld
       rintro ⟨g14, g15⟩ W8 ⟨hba14, hn7_14, hn10_14, hn12_14, hge14, hba15, hn7_15, hn10_15, hn12_15, hn14_15, hge15, hb7, hb10, hb12, hbw, hrr⟩
       have BK14 := K_ hba14
       have GE14 := K_ hge14
       have NB7_14 := K_ hn7_14
       have NB10_14 := K_ hn10_14
       have NB12_14 := K_ hn12_14
       have BK15 := K_ hba15
       have GE15 := K_ hge15
       have NB7_15 := K_ hn7_15
       have NB10_15 := K_ hn10_15
       have NB12_15 := K_ hn12_15
       have NB14_15 := K_ hn14_15
       have BK7 := K_ hb7
       have BK10 := K_ hb10
       have BK12 := K_ hb12
       have HB := K_ hbw
       have HRR := K_ hrr
       clear hba14 hn7_14 hn10_14 hn12_14 hge14 hba15 hn7_15 hn10_15 hn12_15 hn14_15 hge15 hb7 hb10 hb12 hbw hrr
       refine np_ ?_
       refine on_ 2 (some 55) (bb 10 223) (fun K hK => ?_)
       refine gq_ Tryz.func16 #[.agg q.cs, .agg #[.bool v.1, .string v.2.1, .int .i64 v.2.2.1]] ?_
       refine ((HL1 _ (yA.ok HRR.out HQ.out)).out).mono ?_
       rintro e9 w' ⟨rfl, hb⟩
       refine ⟨_, rfl, ?_⟩
       replace BK7 := zC BK7 hb
       replace BK10 := zC BK10 hb
       replace BK12 := zC BK12 hb
       replace BK14 := zC BK14 hb
       replace BK15 := zC BK15 hb
       replace HB := zE HB hb
       replace HRR := K_ (HRR.out.below hb)
       clear hb
       refine hK.out _ _ ⟨BK7.out, BK10.out, BK12.out⟩ (fun hHeld => ?_)
       clear hK K
       refine no_ (some 55) ?_
       exact nj_ (J_2_6_7 (g14, g15) _ ⟨BK14.out, NB7_14.out, NB10_14.out, NB12_14.out, GE14.out, BK15.out, NB7_15.out, NB10_15.out, NB12_15.out, (by first | exact NB14_15.out | exact Ne.symm NB15_14.out), GE15.out, BK7.out, BK10.out, BK12.out, HB.out, HRR.out⟩)
      intro J_6_7
      refine xB (σ := Unit) 5 (bb 10 31) (fun g => [(55, .agg #[.bool v.1, .string A, .string B, .int .i64 C])]) (fun g W => W.heap[g7]? = some (.cells q.cs 26 (0, 0)) ∧ W.heap[g10]? = some (.cells #[.bool v.1, .string v.2.1, .int .i64 v.2.2.1] 23 (0, 0)) ∧ W.heap[g12]? = some (.cells #[.bool (!v.1), .string v.2.1, .int .i64 v.2.2.1] 23 (0, 0)) ∧ Below w.heap.size w W ∧ yA q W w.heap.size) ?_ ?_
      ·skip
       clear hHeld
       rintro _ W8 ⟨hb7, hb10, hb12, hbw, hrr⟩
       have BK7 := K_ hb7
       have BK10 := K_ hb10
       have BK12 := K_ hb12
       have HB := K_ hbw
       have HRR := K_ hrr
       clear hb7 hb10 hb12 hbw hrr
       refine np_ ?_
       refine zht (i := 5) (j := 6) (k := 7) (Ni := some 58) (Nj := some 14) (Nk := some 15) (bb 10 63) (bb 10 95) (bb 10 159) rfl rfl rfl rfl rfl rfl (by kernel_rfl) (by decide) (by decide) (by decide) (fun K hK => ?_) (fun K hK => ?_) (fun K hK => ?_)
       ·skip
        refine gq_ Tryz.func16 #[.agg q.cs, .agg #[.bool (!v.1), .string v.2.1, .int .i64 v.2.2.1]] ?_
        refine ((HL2 _ (yA.ok HRR.out HQ.out)).out).mono ?_
        rintro e9 w' ⟨rfl, hb⟩
        refine ⟨_, rfl, ?_⟩
        replace BK7 := zC BK7 hb
        replace BK10 := zC BK10 hb
        replace BK12 := zC BK12 hb
        replace HB := zE HB hb
        replace HRR := K_ (HRR.out.below hb)
        clear hb
        refine hK.out _ _ ⟨BK7.out, BK10.out, BK12.out⟩ (fun hHeld => ?_)
        clear hK K
        refine no_ (some 58) ?_
        exact nj_ (J_2_5 () _ ⟨BK7.out, BK10.out, BK12.out, HB.out, HRR.out⟩)
       ·skip
        refine bs_ 14 (#[.bool false, .string (⟨#[]⟩ : ByteArray), .string (⟨#[]⟩ : ByteArray), .int .i64 0]) 36 ?_
        intro g14 hg w' hbox hb
        have BK14 := K_ hbox
        have GE14 := ge_ hg HB
        have NB7_14 := nb_ hg BK7
        have NB10_14 := nb_ hg BK10
        have NB12_14 := nb_ hg BK12
        replace BK7 := zC BK7 hb
        replace BK10 := zC BK10 hb
        replace BK12 := zC BK12 hb
        replace HB := zE HB hb
        replace HRR := K_ (HRR.out.below hb)
        clear hb hbox hg
        refine hK.out _ _ ⟨BK7.out, BK10.out, BK12.out⟩ (fun hHeld => ?_)
        clear hK K
        refine no_ (some 14) ?_
        exact nj_ (J_2_6 g14 _ ⟨BK14.out, NB7_14.out, NB10_14.out, NB12_14.out, GE14.out, BK7.out, BK10.out, BK12.out, HB.out, HRR.out⟩)
       skip
       refine bs_ 15 (#[.bool false, .string (⟨#[]⟩ : ByteArray), .string (⟨#[]⟩ : ByteArray), .int .i64 0]) 36 ?_
       intro g15 hg w' hbox hb
       have BK15 := K_ hbox
       have GE15 := ge_ hg HB
       have NB7_15 := nb_ hg BK7
       have NB10_15 := nb_ hg BK10
       have NB12_15 := nb_ hg BK12
       replace BK7 := zC BK7 hb
       replace BK10 := zC BK10 hb
       replace BK12 := zC BK12 hb
       replace HB := zE HB hb
       replace HRR := K_ (HRR.out.below hb)
       clear hb hbox hg
       refine hK.out _ _ ⟨BK7.out, BK10.out, BK12.out⟩ (fun hHeld => ?_)
       clear hK K
       refine no_ (some 15) ?_
       exact nj_ (J_2_7 g15 _ ⟨BK15.out, NB7_15.out, NB10_15.out, NB12_15.out, GE15.out, BK7.out, BK10.out, BK12.out, HB.out, HRR.out⟩)
      intro J_2
      refine xB (σ := Nat) 5 (bb 10 91) (fun g => [(14, .pointer (some ⟨g, 0, none⟩))]) (fun g W => W.heap[g]? = some (.cells (#[.bool false, .string (⟨#[]⟩ : ByteArray), .string (⟨#[]⟩ : ByteArray), .int .i64 0]) 36 (0, 0)) ∧ g7 ≠ g ∧ g10 ≠ g ∧ g12 ≠ g ∧ w.heap.size ≤ g ∧ W.heap[g7]? = some (.cells q.cs 26 (0, 0)) ∧ W.heap[g10]? = some (.cells #[.bool v.1, .string v.2.1, .int .i64 v.2.2.1] 23 (0, 0)) ∧ W.heap[g12]? = some (.cells #[.bool (!v.1), .string v.2.1, .int .i64 v.2.2.1] 23 (0, 0)) ∧ Below w.heap.size w W ∧ yA q W w.heap.size) ?_ ?_
      ·skip
       clear hHeld
       rintro g14 W8 ⟨hba14, hn7_14, hn10_14, hn12_14, hge14, hb7, hb10, hb12, hbw, hrr⟩
       have BK14 := K_ hba14
       have GE14 := K_ hge14
       have NB7_14 := K_ hn7_14
       have NB10_14 := K_ hn10_14
       have NB12_14 := K_ hn12_14
       have BK7 := K_ hb7
       have BK10 := K_ hb10
       have BK12 := K_ hb12
       have HB := K_ hbw
       have HRR := K_ hrr
       clear hba14 hn7_14 hn10_14 hn12_14 hge14 hb7 hb10 hb12 hbw hrr
       refine np_ ?_
       refine zbD (i := 2) (j := 7) (Ni := some 55) (Nj := some 15) (bb 10 95) (bb 10 219) rfl rfl rfl rfl (by kernel_rfl) (by decide) (by decide) (fun K hK => ?_) (fun K hK => ?_)
       ·skip
        refine gq_ Tryz.func16 #[.agg q.cs, .agg #[.bool v.1, .string v.2.1, .int .i64 v.2.2.1]] ?_
        refine ((HL1 _ (yA.ok HRR.out HQ.out)).out).mono ?_
        rintro e9 w' ⟨rfl, hb⟩
        refine ⟨_, rfl, ?_⟩
        replace BK7 := zC BK7 hb
        replace BK10 := zC BK10 hb
        replace BK12 := zC BK12 hb
        replace BK14 := zC BK14 hb
        replace HB := zE HB hb
        replace HRR := K_ (HRR.out.below hb)
        clear hb
        refine hK.out _ _ ⟨BK7.out, BK10.out, BK12.out⟩ (fun hHeld => ?_)
        clear hK K
        refine no_ (some 55) ?_
        exact nj_ (J_2_6 g14 _ ⟨BK14.out, NB7_14.out, NB10_14.out, NB12_14.out, GE14.out, BK7.out, BK10.out, BK12.out, HB.out, HRR.out⟩)
       skip
       refine bs_ 15 (#[.bool false, .string (⟨#[]⟩ : ByteArray), .string (⟨#[]⟩ : ByteArray), .int .i64 0]) 36 ?_
       intro g15 hg w' hbox hb
       have BK15 := K_ hbox
       have GE15 := ge_ hg HB
       have NB7_15 := nb_ hg BK7
       have NB10_15 := nb_ hg BK10
       have NB12_15 := nb_ hg BK12
       have NB14_15 := nb_ hg BK14
       replace BK7 := zC BK7 hb
       replace BK10 := zC BK10 hb
       replace BK12 := zC BK12 hb
       replace BK14 := zC BK14 hb
       replace HB := zE HB hb
       replace HRR := K_ (HRR.out.below hb)
       clear hb hbox hg
       refine hK.out _ _ ⟨BK7.out, BK10.out, BK12.out⟩ (fun hHeld => ?_)
       clear hK K
       refine no_ (some 15) ?_
       exact nj_ (J_6_7 (g14, g15) _ ⟨BK14.out, NB7_14.out, NB10_14.out, NB12_14.out, GE14.out, BK15.out, NB7_15.out, NB10_15.out, NB12_15.out, (by first | exact NB14_15.out | exact Ne.symm NB15_14.out), GE15.out, BK7.out, BK10.out, BK12.out, HB.out, HRR.out⟩)
      intro J_6
      refine xB (σ := Nat) 5 (bb 10 155) (fun g => [(15, .pointer (some ⟨g, 0, none⟩))]) (fun g W => W.heap[g]? = some (.cells (#[.bool false, .string (⟨#[]⟩ : ByteArray), .string (⟨#[]⟩ : ByteArray), .int .i64 0]) 36 (0, 0)) ∧ g7 ≠ g ∧ g10 ≠ g ∧ g12 ≠ g ∧ w.heap.size ≤ g ∧ W.heap[g7]? = some (.cells q.cs 26 (0, 0)) ∧ W.heap[g10]? = some (.cells #[.bool v.1, .string v.2.1, .int .i64 v.2.2.1] 23 (0, 0)) ∧ W.heap[g12]? = some (.cells #[.bool (!v.1), .string v.2.1, .int .i64 v.2.2.1] 23 (0, 0)) ∧ Below w.heap.size w W ∧ yA q W w.heap.size) ?_ ?_
      ·skip
       clear hHeld
       rintro g15 W8 ⟨hba15, hn7_15, hn10_15, hn12_15, hge15, hb7, hb10, hb12, hbw, hrr⟩
       have BK15 := K_ hba15
       have GE15 := K_ hge15
       have NB7_15 := K_ hn7_15
       have NB10_15 := K_ hn10_15
       have NB12_15 := K_ hn12_15
       have BK7 := K_ hb7
       have BK10 := K_ hb10
       have BK12 := K_ hb12
       have HB := K_ hbw
       have HRR := K_ hrr
       clear hba15 hn7_15 hn10_15 hn12_15 hge15 hb7 hb10 hb12 hbw hrr
       refine np_ ?_
       refine zbD (i := 2) (j := 6) (Ni := some 55) (Nj := some 14) (bb 10 159) (bb 10 219) rfl rfl rfl rfl (by kernel_rfl) (by decide) (by decide) (fun K hK => ?_) (fun K hK => ?_)
       ·skip
        refine gq_ Tryz.func16 #[.agg q.cs, .agg #[.bool v.1, .string v.2.1, .int .i64 v.2.2.1]] ?_
        refine ((HL1 _ (yA.ok HRR.out HQ.out)).out).mono ?_
        rintro e9 w' ⟨rfl, hb⟩
        refine ⟨_, rfl, ?_⟩
        replace BK7 := zC BK7 hb
        replace BK10 := zC BK10 hb
        replace BK12 := zC BK12 hb
        replace BK15 := zC BK15 hb
        replace HB := zE HB hb
        replace HRR := K_ (HRR.out.below hb)
        clear hb
        refine hK.out _ _ ⟨BK7.out, BK10.out, BK12.out⟩ (fun hHeld => ?_)
        clear hK K
        refine no_ (some 55) ?_
        exact nj_ (J_2_7 g15 _ ⟨BK15.out, NB7_15.out, NB10_15.out, NB12_15.out, GE15.out, BK7.out, BK10.out, BK12.out, HB.out, HRR.out⟩)
       skip
       refine bs_ 14 (#[.bool false, .string (⟨#[]⟩ : ByteArray), .string (⟨#[]⟩ : ByteArray), .int .i64 0]) 36 ?_
       intro g14 hg w' hbox hb
       have BK14 := K_ hbox
       have GE14 := ge_ hg HB
       have NB7_14 := nb_ hg BK7
       have NB10_14 := nb_ hg BK10
       have NB12_14 := nb_ hg BK12
       have NB15_14 := nb_ hg BK15
       replace BK7 := zC BK7 hb
       replace BK10 := zC BK10 hb
       replace BK12 := zC BK12 hb
       replace BK15 := zC BK15 hb
       replace HB := zE HB hb
       replace HRR := K_ (HRR.out.below hb)
       clear hb hbox hg
       refine hK.out _ _ ⟨BK7.out, BK10.out, BK12.out⟩ (fun hHeld => ?_)
       clear hK K
       refine no_ (some 14) ?_
       exact nj_ (J_6_7 (g14, g15) _ ⟨BK14.out, NB7_14.out, NB10_14.out, NB12_14.out, GE14.out, BK15.out, NB7_15.out, NB10_15.out, NB12_15.out, (by first | exact NB14_15.out | exact Ne.symm NB15_14.out), GE15.out, BK7.out, BK10.out, BK12.out, HB.out, HRR.out⟩)
      intro J_7
      clear hHeld
      refine zht (i := 2) (j := 6) (k := 7) (Ni := some 55) (Nj := some 14) (Nk := some 15) (bb 10 31) (bb 10 91) (bb 10 155) rfl rfl rfl rfl rfl rfl (by kernel_rfl) (by decide) (by decide) (by decide) (fun K hK => ?_) (fun K hK => ?_) (fun K hK => ?_)
      ·skip
       refine gq_ Tryz.func16 #[.agg q.cs, .agg #[.bool v.1, .string v.2.1, .int .i64 v.2.2.1]] ?_
       refine ((HL1 _ (yA.ok HRR.out HQ.out)).out).mono ?_
       rintro e9 w' ⟨rfl, hb⟩
       refine ⟨_, rfl, ?_⟩
       replace BK7 := zC BK7 hb
       replace BK10 := zC BK10 hb
       replace BK12 := zC BK12 hb
       replace HB := zE HB hb
       replace HRR := K_ (HRR.out.below hb)
       clear hb
       refine hK.out _ _ ⟨BK7.out, BK10.out, BK12.out⟩ (fun hHeld => ?_)
       clear hK K
       refine no_ (some 55) ?_
       exact nj_ (J_2 () _ ⟨BK7.out, BK10.out, BK12.out, HB.out, HRR.out⟩)
      ·skip
       refine bs_ 14 (#[.bool false, .string (⟨#[]⟩ : ByteArray), .string (⟨#[]⟩ : ByteArray), .int .i64 0]) 36 ?_
       intro g14 hg w' hbox hb
       have BK14 := K_ hbox
       have GE14 := ge_ hg HB
       have NB7_14 := nb_ hg BK7
       have NB10_14 := nb_ hg BK10
       have NB12_14 := nb_ hg BK12
       replace BK7 := zC BK7 hb
       replace BK10 := zC BK10 hb
       replace BK12 := zC BK12 hb
       replace HB := zE HB hb
       replace HRR := K_ (HRR.out.below hb)
       clear hb hbox hg
       refine hK.out _ _ ⟨BK7.out, BK10.out, BK12.out⟩ (fun hHeld => ?_)
       clear hK K
       refine no_ (some 14) ?_
       exact nj_ (J_6 g14 _ ⟨BK14.out, NB7_14.out, NB10_14.out, NB12_14.out, GE14.out, BK7.out, BK10.out, BK12.out, HB.out, HRR.out⟩)
      skip
      refine bs_ 15 (#[.bool false, .string (⟨#[]⟩ : ByteArray), .string (⟨#[]⟩ : ByteArray), .int .i64 0]) 36 ?_
      intro g15 hg w' hbox hb
      have BK15 := K_ hbox
      have GE15 := ge_ hg HB
      have NB7_15 := nb_ hg BK7
      have NB10_15 := nb_ hg BK10
      have NB12_15 := nb_ hg BK12
      replace BK7 := zC BK7 hb
      replace BK10 := zC BK10 hb
      replace BK12 := zC BK12 hb
      replace HB := zE HB hb
      replace HRR := K_ (HRR.out.below hb)
      clear hb hbox hg
      refine hK.out _ _ ⟨BK7.out, BK10.out, BK12.out⟩ (fun hHeld => ?_)
      clear hK K
      refine no_ (some 15) ?_
      exact nj_ (J_7 g15 _ ⟨BK15.out, NB7_15.out, NB10_15.out, NB12_15.out, GE15.out, BK7.out, BK10.out, BK12.out, HB.out, HRR.out⟩)
     case hcj =>
      clear hHeld
      rintro ⟨g14, g15⟩ W8 ⟨hba14, hn7_14, hn10_14, hn12_14, hge14, hba15, hn7_15, hn10_15, hn12_15, hn14_15, hge15, hb7, hb10, hb12, hbw, hrr⟩
      have BK14 := K_ hba14
      have GE14 := K_ hge14
      have NB7_14 := K_ hn7_14
      have NB10_14 := K_ hn10_14
      have NB12_14 := K_ hn12_14
      have BK15 := K_ hba15
      have GE15 := K_ hge15
      have NB7_15 := K_ hn7_15
      have NB10_15 := K_ hn10_15
      have NB12_15 := K_ hn12_15
      have NB14_15 := K_ hn14_15
      have BK7 := K_ hb7
      have BK10 := K_ hb10
      have BK12 := K_ hb12
      have HB := K_ hbw
      have HRR := K_ hrr
      clear hba14 hn7_14 hn10_14 hn12_14 hge14 hba15 hn7_15 hn10_15 hn12_15 hn14_15 hge15 hb7 hb10 hb12 hbw hrr
      refine np_ ?_
      refine on_ 8 none (bb 10 511) (fun K hK => ?_)
      refine yP (g := g14) (cs := #[.bool false, .string (⟨#[]⟩ : ByteArray), .string (⟨#[]⟩ : ByteArray), .int .i64 0]) (#[.bool v.1, .string A, .string B, .int .i64 C]) BK14 ?_ rfl rfl rfl rfl rfl xE rfl rfl
      intro w9 hbk hfar hbel
      replace HRR := K_ (HRR.out.so BK14.out (by decide) hfar)
      replace BK7 := K_ (hfar _ _ (by first | exact NB7_14.out | exact Ne.symm NB14_7.out) BK7.out)
      replace BK10 := K_ (hfar _ _ (by first | exact NB10_14.out | exact Ne.symm NB14_10.out) BK10.out)
      replace BK12 := K_ (hfar _ _ (by first | exact NB12_14.out | exact Ne.symm NB14_12.out) BK12.out)
      replace BK15 := K_ (hfar _ _ (by first | exact NB15_14.out | exact Ne.symm NB14_15.out) BK15.out)
      replace BK14 := K_ hbk
      replace HB := K_ (hbel _ _ GE14.out HB.out)
      refine hK.out _ _ ⟨BK7.out, BK10.out, BK12.out⟩ (fun _ => ?_)
      clear hK K hbk hfar hbel
      refine on_ 9 none (bb 10 1023) (fun K hK => ?_)
      refine yP (g := g15) (cs := #[.bool false, .string (⟨#[]⟩ : ByteArray), .string (⟨#[]⟩ : ByteArray), .int .i64 0]) (#[.bool (!v.1), .string A, .string B, .int .i64 C]) BK15 ?_ rfl rfl rfl rfl rfl xE rfl rfl
      intro w9 hbk hfar hbel
      replace HRR := K_ (HRR.out.so BK15.out (by decide) hfar)
      replace BK7 := K_ (hfar _ _ (by first | exact NB7_15.out | exact Ne.symm NB15_7.out) BK7.out)
      replace BK10 := K_ (hfar _ _ (by first | exact NB10_15.out | exact Ne.symm NB15_10.out) BK10.out)
      replace BK12 := K_ (hfar _ _ (by first | exact NB12_15.out | exact Ne.symm NB15_12.out) BK12.out)
      replace BK14 := K_ (hfar _ _ (by first | exact NB14_15.out | exact Ne.symm NB15_14.out) BK14.out)
      replace BK15 := K_ hbk
      replace HB := K_ (hbel _ _ GE15.out HB.out)
      refine hK.out _ _ ⟨BK7.out, BK10.out, BK12.out⟩ (fun _ => ?_)
      clear hK K hbk hfar hbel
      refine yY (by kernel_rfl) ?_
      have dn : (v.1 != !v.1) = true := by cases v.1 <;> rfl
      go_upto_region 14 with (fail)
      refine yK (n := 40) (S := fun W => W.heap[g10]? = some (.cells #[.bool v.1, .string v.2.1, .int .i64 v.2.2.1] 23 (0, 0)) ∧ W.heap[g12]? = some (.cells #[.bool (!v.1), .string v.2.1, .int .i64 v.2.2.1] 23 (0, 0)) ∧ W.cell? ⟨g14, 0, none⟩ = some (.bool v.1) ∧ W.cell? ⟨g15, 0, none⟩ = some (.bool (!v.1)) ∧ W.cell? ⟨g14, 1, none⟩ = some (.string A) ∧ W.cell? ⟨g15, 1, none⟩ = some (.string A) ∧ W.cell? ⟨g14, 2, none⟩ = some (.string B) ∧ W.cell? ⟨g15, 2, none⟩ = some (.string B) ∧ W.cell? ⟨g14, 3, none⟩ = some (.int .i64 C) ∧ W.cell? ⟨g15, 3, none⟩ = some (.int .i64 C)) (ds := []) #[false, false, false, false, false, false, false, false, false, false, false, false, false, false, false, false, false, false, false, false, false, false, false, false, false, false, false, false, false, false, false, false, false, false, false, false, false, false, false, false] (by kernel_rfl) rfl rfl ⟨BK BK10, BK BK12, (zA (BK BK14) 0).trans rfl, (zA (BK BK15) 0).trans rfl, (zA (BK BK14) 1).trans rfl, (zA (BK BK15) 1).trans rfl, (zA (BK BK14) 2).trans rfl, (zA (BK BK15) 2).trans rfl, (zA (BK BK14) 3).trans rfl, (zA (BK BK15) 3).trans rfl⟩ (fun hHeld => ?_)
      refine zU (fun W => W.heap[g10]? = some (.cells #[.bool v.1, .string v.2.1, .int .i64 v.2.2.1] 23 (0, 0)) ∧ W.heap[g12]? = some (.cells #[.bool (!v.1), .string v.2.1, .int .i64 v.2.2.1] 23 (0, 0)) ∧ W.heap[g14]? = some (.cells #[.bool v.1, .string A, .string B, .int .i64 C] 36 (0, 0)) ∧ W.heap[g15]? = some (.cells #[.bool (!v.1), .string A, .string B, .int .i64 C] 36 (0, 0)) ∧ Below w.heap.size w W) ⟨BK BK10, BK BK12, BK BK14, BK BK15, BL HB⟩ ?_
      clear hHeld BK7 BK10 BK12 BK14 BK15 HRR HB
      rintro W ⟨hb10, hb12, hb14, hb15, hbw⟩
      have BK10 := K_ hb10
      have BK12 := K_ hb12
      have BK14 := K_ hb14
      have BK15 := K_ hb15
      have HB := K_ hbw
      clear hb10 hb12 hb14 hb15 hbw
      have hHeld := trivial
      refine on_ 0 (some 59) (bb 40 1) (fun K hK => ?_)
      refine gq_ Tryz.func13 #[] ?_
      refine (vO _ (Fig.Glob.below HG.out (BL HB))).mono ?_
      rintro e9 w' ⟨rfl, hb⟩
      refine ⟨_, rfl, ?_⟩
      replace HB := zE HB hb
      replace BK10 := zC BK10 hb
      replace BK12 := zC BK12 hb
      replace BK14 := zC BK14 hb
      replace BK15 := zC BK15 hb
      clear hb
      clear hHeld
      refine hK.out _ _ ⟨BK10.out, BK12.out, (zA BK14.out 0).trans rfl, (zA BK15.out 0).trans rfl, (zA BK14.out 1).trans rfl, (zA BK15.out 1).trans rfl, (zA BK14.out 2).trans rfl, (zA BK15.out 2).trans rfl, (zA BK14.out 3).trans rfl, (zA BK15.out 3).trans rfl⟩ (fun hHeld => ?_)
      clear hK K
      refine no_ (some 59) ?_
      refine pw_ 1 60 (bb 40 3) ?_
      refine pw_ 2 61 (bb 40 7) ?_
      refine jU (i := 3) (N := some 62) (v := .bool true) (bb 40 15) rfl rfl (by kernel_rfl) (fun _ _ _ h => h) (Or.inl ⟨by rfl, fun w' => by first | (go_simp; done) | (go_simp; rw [dE2]; done) | (go_simp; rw [dE2]; rfl) | (go_simp; simp [dE2]; done)⟩) (by simp only [Act.put, List.setIfInBounds_toArray, List.set_cons_zero, List.set_cons_succ]; rfl) ?_
      refine pw_ 4 63 (bb 40 31) ?_
      refine pw_ 5 64 (bb 40 63) ?_
      refine tr_ 6 65 (bb 40 127) (#[.bool v.1, .string v.2.1, .int .i64 v.2.2.1]) (fun _ hs => ⟨hs.1⟩) Tryz.underlying23 jM hHeld ?_
      refine tr_ 7 66 (bb 40 255) (#[.bool (!v.1), .string v.2.1, .int .i64 v.2.2.1]) (fun _ hs => ⟨hs.2.1⟩) Tryz.underlying23 jM hHeld ?_
      refine on_ 8 (some 67) (bb 40 511) (fun K hK => ?_)
      refine gq_ Tryz.func15 #[.agg #[.bool (!v.1), .string v.2.1, .int .i64 v.2.2.1]] ?_
      refine (xK.calls (!v.1) v.2.1 v.2.2.1 v.1 v.2.1 v.2.2.1 _ (by show some _ = some _; rw [Bool.not_not])).mono ?_
      rintro e9 w' ⟨rfl, hb⟩
      refine ⟨_, rfl, ?_⟩
      replace HB := zE HB hb
      replace BK10 := zC BK10 hb
      replace BK12 := zC BK12 hb
      replace BK14 := zC BK14 hb
      replace BK15 := zC BK15 hb
      clear hb
      clear hHeld
      refine hK.out _ _ ⟨BK10.out, BK12.out, (zA BK14.out 0).trans rfl, (zA BK15.out 0).trans rfl, (zA BK14.out 1).trans rfl, (zA BK15.out 1).trans rfl, (zA BK14.out 2).trans rfl, (zA BK15.out 2).trans rfl, (zA BK14.out 3).trans rfl, (zA BK15.out 3).trans rfl⟩ (fun hHeld => ?_)
      clear hK K
      refine no_ (some 67) ?_
      refine jU (i := 9) (N := some 68) (v := .bool true) (bb 40 1023) rfl rfl (by kernel_rfl) (fun _ _ _ h => h) (Or.inl ⟨by rfl, fun w' => by first | (go_simp; done) | (go_simp; rw [beq_self_eq_true]; done) | (go_simp; rw [beq_self_eq_true]; rfl) | (go_simp; simp [beq_self_eq_true]; done)⟩) (by simp only [Act.put, List.setIfInBounds_toArray, List.set_cons_zero, List.set_cons_succ]; rfl) ?_
      refine pw_ 10 69 (bb 40 2047) ?_
      refine pw_ 11 70 (bb 40 4095) ?_
      refine pw_ 12 71 (bb 40 8191) ?_
      refine tw_ 13 72 (bb 40 16383) hHeld ?_
      refine pw_ 14 73 (bb 40 32767) ?_
      refine tw_ 15 74 (bb 40 65535) hHeld ?_
      refine jU (i := 16) (N := some 75) (v := .bool true) (bb 40 131071) rfl rfl (by kernel_rfl) (fun _ _ _ h => h) (Or.inl ⟨by rfl, fun w' => by first | (go_simp; done) | (go_simp; rw [dn]; done) | (go_simp; rw [dn]; rfl) | (go_simp; simp [dn]; done)⟩) (by simp only [Act.put, List.setIfInBounds_toArray, List.set_cons_zero, List.set_cons_succ]; rfl) ?_
      refine pw_ 17 76 (bb 40 262143) ?_
      refine pw_ 18 77 (bb 40 524287) ?_
      refine pw_ 19 78 (bb 40 1048575) ?_
      refine tw_ 20 79 (bb 40 2097151) hHeld ?_
      refine pw_ 21 80 (bb 40 4194303) ?_
      refine tw_ 22 81 (bb 40 8388607) hHeld ?_
      refine jU (i := 23) (N := some 82) (v := .bool true) (bb 40 16777215) rfl rfl (by kernel_rfl) (fun _ _ _ h => h) (Or.inl ⟨by rfl, fun w' => by first | (go_simp; done) | (go_simp; rw [beq_self_eq_true]; done) | (go_simp; rw [beq_self_eq_true]; rfl) | (go_simp; simp [beq_self_eq_true]; done)⟩) (by simp only [Act.put, List.setIfInBounds_toArray, List.set_cons_zero, List.set_cons_succ]; rfl) ?_
      refine pw_ 24 83 (bb 40 33554431) ?_
      refine pw_ 25 84 (bb 40 67108863) ?_
      refine pw_ 26 85 (bb 40 134217727) ?_
      refine tw_ 27 86 (bb 40 268435455) hHeld ?_
      refine pw_ 28 87 (bb 40 536870911) ?_
      refine tw_ 29 88 (bb 40 1073741823) hHeld ?_
      refine jU (i := 30) (N := some 89) (v := .bool true) (bb 40 2147483647) rfl rfl (by kernel_rfl) (fun _ _ _ h => h) (Or.inl ⟨by rfl, fun w' => by first | (go_simp; done) | (go_simp; rw [beq_self_eq_true]; done) | (go_simp; rw [beq_self_eq_true]; rfl) | (go_simp; simp [beq_self_eq_true]; done)⟩) (by simp only [Act.put, List.setIfInBounds_toArray, List.set_cons_zero, List.set_cons_succ]; rfl) ?_
      refine pw_ 31 90 (bb 40 4294967295) ?_
      refine pw_ 32 91 (bb 40 8589934591) ?_
      refine pw_ 33 92 (bb 40 17179869183) ?_
      refine tw_ 34 93 (bb 40 34359738367) hHeld ?_
      refine pw_ 35 94 (bb 40 68719476735) ?_
      refine tw_ 36 95 (bb 40 137438953471) hHeld ?_
      refine jU (i := 37) (N := some 96) (v := .bool true) (bb 40 274877906943) rfl rfl (by kernel_rfl) (fun _ _ _ h => h) (Or.inl ⟨by rfl, fun w' => by first | (go_simp; done) | (go_simp; rw [beq_self_eq_true]; done) | (go_simp; rw [beq_self_eq_true]; rfl) | (go_simp; simp [beq_self_eq_true]; done)⟩) (by simp only [Act.put, List.setIfInBounds_toArray, List.set_cons_zero, List.set_cons_succ]; rfl) ?_
      refine pw_ 38 97 (bb 40 549755813887) ?_
      refine pw_ 39 6 (bb 40 1099511627775) ?_
      refine yY (by kernel_rfl) ?_
      go_wp2_with (fail)
      go_ret
      exact ⟨rfl, BL HB⟩
    skip
    have dE : (v.2.2.2 != 0) = true := by simpa using hE
    have hy2 : y = v := by have := HYV.out; rw [if_neg hE] at this; exact this
    subst hy2
    clear hE
    go_wp2_with (go_at_call 13; refine (vO _ (Fig.Glob.below HG.out (BL HB))).mono ?_; rintro e9 w' ⟨rfl, hb⟩; replace HB := zE HB hb; clear hb)
    go_ret
    exact ⟨rfl, BL HB⟩
end Go.Proofs.YtcmgdjnjmobkoaaGreatDoor.Px
