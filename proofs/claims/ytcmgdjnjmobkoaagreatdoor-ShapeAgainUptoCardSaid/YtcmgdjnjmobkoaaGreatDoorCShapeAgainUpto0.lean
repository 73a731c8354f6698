/- What belongs to the law ShapeAgainUpto alone. -/
import Derived.Test.YtcmgdjnjmobkoaaGreatDoorCBShape5
import Derived.Test.YtcmgdjnjmobkoaaGreatDoorCBShape0
import Derived.Test.YtcmgdjnjmobkoaaGreatDoorCBShape4
set_option linter.unusedVariables false
set_option linter.unusedSimpArgs false
namespace Go.Proofs.YtcmgdjnjmobkoaaGreatDoor.Px
set_option linter.all false
open Fig Go.RowKit Go.Proofs.YtcmgdjnjmobkoaaGreatDoorW.PrintWords Go.Proofs.YtcmgdjnjmobkoaaGreatDoorW.PrintLast Go.Proofs.YtcmgdjnjmobkoaaGreatDoorW.PrintMore
attribute [local go_sem] yR yU vE vD yD yH yV yS
theorem zlY {q : Pat} (hq : zas q) {m : Int} {b : Bool} {s : ByteArray} {e : Int} {v : Bool × ByteArray × Int × Int} (h : (qK q m b s e).2.2.2 = 0) (hv : v = qK q m b s e) : v.2.1.size ≤ 100000 := by
 obtain ⟨hm, hg, hr, h7, hrg, hx⟩ := zeZ h
 obtain ⟨g1, g2, g3, g4, g5⟩ := zbc.1 hg
 have hn : (jR (vB s)).size ≤ 1000 := Nat.le_trans (OkD.of_good hg).val g3
 have k := zlk hq m b (n := vB s) (e := e) hn g4 g5
 rw [hv, hx]
 show (nD _).size ≤ 100000
 have := zdG k.1 (by omega)
 omega
set_option maxHeartbeats 8000000 in
set_option maxRecDepth 100000 in
theorem again_law (s : ByteArray) (hs : s.size ≤ 1048576) (m o : Int) (b : Bool) (s2 : ByteArray) (e : Int) (hs2 : s2.size ≤ 140737488351232) (w : World) (hG : Fig.Glob w) :
  Calls Tryz.prog 3 #[.string s, .int .i64 m, .int .i64 o, .agg #[.bool b, .string s2, .int .i64 e]] w fun e w' => e = .returned (.bool true) ∧ Below w.heap.size w w' := by
 have HB := K_ (Below.refl w.heap.size w)
 have HG := K_ hG
 have HS2 := K_ hs2
 clear hG hs2
 go_enter Tryz.func3, Tryz.ntmps3
 go_upto_region 2 with (first | ((with_reducible refine zF (N := 7) rfl ?_); refine bx_ 7 (#[.bool b, .string s2, .int .i64 e]) 23 ?_ rfl rfl rfl rfl rfl; intro g7 hg w2 hbox hb; have BK7 := K_ hbox; have GE7 := ge_ hg HB; replace HB := zE HB hb; clear hb hbox hg) | ((with_reducible refine zF (N := 17) rfl ?_); refine lo_ (g := g7) (cs := #[.bool b, .string s2, .int .i64 e]) _ ⟨BK BK7⟩ ?_ rfl rfl rfl Tryz.underlying23 rfl jM) | (go_at_call 12; refine (zdp s hs b s2 e HS2.out _).mono ?_; rintro e9 w' ⟨q, ok, rfl, hrr, hb, hqg⟩; have HRR := K_ (hrr.lower (zL (BL HB))); have HQ := K_ hqg; replace HB := zE HB hb; replace BK7 := zC BK7 hb; clear hb hrr hqg) | ((with_reducible refine zF (N := 9) rfl ?_); refine be_ 9 (Z26) 26 ?_; intro g9 hg w2 hbox hb; have BK9 := K_ hbox; have GE9 := ge_ hg HB; have NB7_9 := nb_ hg BK7; replace BK7 := zC BK7 hb; replace HRR := K_ (HRR.out.below hb); replace HB := zE HB hb; clear hb hbox hg) | ((with_reducible refine zQ (p := 9) rfl ?_); refine so_ (g := g9) (cs := Z26) (q.cs) ⟨BK BK9⟩ ?_ rfl rfl rfl rfl rfl jL rfl rfl; intro w9 hbk hfar hbel; replace BK7 := K_ (hfar _ _ (by first | exact NB7_9.out | exact Ne.symm NB9_7.out) (BK BK7)); replace HRR := K_ (HRR.out.so (BK BK9) (by decide) hfar); replace BK9 := K_ hbk; replace HB := K_ (hbel _ _ GE9.out (BL HB)); clear hbk hfar hbel))
 cases ok
 ·go_wp2_with (go_at_call 13; refine (vO _ (Fig.Glob.below HG.out (BL HB))).mono ?_; rintro e9 w' ⟨rfl, hb⟩; replace HB := zE HB hb; clear hb)
  go_ret
  exact ⟨rfl, BL HB⟩
 by_cases ho0 : o < 0
 ·have d0 : decide (o < 0) = true := decide_eq_true ho0
  go_wp2_with (go_at_call 13; refine (vO _ (Fig.Glob.below HG.out (BL HB))).mono ?_; rintro e9 w' ⟨rfl, hb⟩; replace HB := zE HB hb; clear hb)
  go_ret
  exact ⟨rfl, BL HB⟩
 have d0 : decide (o < 0) = false := decide_eq_false ho0
 by_cases ho7 : o > 7
 ·have d7 : decide (o > 7) = true := decide_eq_true ho7
  go_wp2_with (go_at_call 13; refine (vO _ (Fig.Glob.below HG.out (BL HB))).mono ?_; rintro e9 w' ⟨rfl, hb⟩; replace HB := zE HB hb; clear hb)
  go_ret
  exact ⟨rfl, BL HB⟩
 have d7 : decide (o > 7) = false := decide_eq_false ho7
 obtain ⟨hq, hsz⟩ := HQ.out rfl
 replace HQ := K_ hq
 obtain ⟨v, hv⟩ : ∃ v, v = qK q m b s2 e := ⟨_, rfl⟩
 have h1 := zcl hq m b (s := s2) e (by omega)
 rw [← hv] at h1
 have HR1 := K_ h1
 have HV := K_ hv
 clear hq hsz h1 hv
 go_upto_region 5 with (first | ((with_reducible refine zF (N := 33) rfl ?_); refine lo_ (g := g9) (cs := q.cs) _ ⟨BK BK9⟩ ?_ rfl rfl rfl Tryz.underlying26 rfl jL) | ((with_reducible refine zF (N := 35) rfl ?_); refine lo_ (g := g7) (cs := #[.bool b, .string s2, .int .i64 e]) _ ⟨BK BK7⟩ ?_ rfl rfl rfl Tryz.underlying23 rfl jM) | (go_at_call 14; with_reducible refine (zbq q HQ.out.good m b s2 e (v) HR1.out _ (yA.ok HRR.out HQ.out) (Fig.Glob.below HG.out (BL HB))).mono ?_; rintro e9 w' ⟨rfl, hb⟩; replace HRR := K_ (HRR.out.below hb); replace HB := zE HB hb; replace BK7 := zC BK7 hb; replace BK9 := zC BK9 hb; clear hb) | ((with_reducible refine zF (N := 11) rfl ?_); refine be_ 11 (#[.bool false, .string (⟨#[]⟩ : ByteArray), .int .i64 0]) 23 ?_; intro g11 hg w2 hbox hb; have BK11 := K_ hbox; have GE11 := ge_ hg HB; have NB7_11 := nb_ hg BK7; replace BK7 := zC BK7 hb; have NB9_11 := nb_ hg BK9; replace BK9 := zC BK9 hb; replace HRR := K_ (HRR.out.below hb); replace HB := zE HB hb; clear hb hbox hg) | ((with_reducible refine zQ (p := 11) rfl ?_); refine so_ (g := g11) (cs := #[.bool false, .string (⟨#[]⟩ : ByteArray), .int .i64 0]) (#[.bool v.1, .string v.2.1, .int .i64 v.2.2.1]) ⟨BK BK11⟩ ?_ rfl rfl rfl rfl rfl jM rfl rfl; intro w9 hbk hfar hbel; replace BK7 := K_ (hfar _ _ (by first | exact NB7_11.out | exact Ne.symm NB11_7.out) (BK BK7)); replace BK9 := K_ (hfar _ _ (by first | exact NB9_11.out | exact Ne.symm NB11_9.out) (BK BK9)); replace HRR := K_ (HRR.out.so (BK BK11) (by decide) hfar); replace BK11 := K_ hbk; replace HB := K_ (hbel _ _ GE11.out (BL HB)); clear hbk hfar hbel))
 by_cases hE : v.2.2.2 = 0
 ·have dE : (v.2.2.2 != 0) = false := by rw [hE]; rfl
  have dE2 : (v.2.2.2 == 0) = true := by rw [hE]; rfl
  have h2 : zeO q o v.1 v.2.1 v.2.2.1 v := by
   have ha := zly HQ.out (o := o) (by rw [← HV.out]; exact hE) (by omega) (by omega)
   rw [← HV.out] at ha
   have hok := zeZ (q := q) (m := m) (b := b) (s := s2) (e := e) (by rw [← HV.out]; exact hE)
   have h3 := zcl HQ.out o v.1 (s := v.2.1) v.2.2.1 (zlY HQ.out (m := m) (b := b) (s := s2) (e := e) (by rw [← HV.out]; exact hE) HV.out)
   rw [ha] at h3; exact h3
  have HR2 := K_ h2
  clear hE h2
  go_upto_region 8 with (first | ((with_reducible refine zF (N := 48) rfl ?_); refine lo_ (g := g9) (cs := q.cs) _ ⟨BK BK9⟩ ?_ rfl rfl rfl Tryz.underlying26 rfl jL) | ((with_reducible refine zF (N := 50) rfl ?_); refine lo_ (g := g11) (cs := #[.bool v.1, .string v.2.1, .int .i64 v.2.2.1]) _ ⟨BK BK11⟩ ?_ rfl rfl rfl Tryz.underlying23 rfl jM) | (go_at_call 14; with_reducible refine (zbq q HQ.out.good o v.1 v.2.1 v.2.2.1 (v) HR2.out _ (yA.ok HRR.out HQ.out) (Fig.Glob.below HG.out (BL HB))).mono ?_; rintro e9 w' ⟨rfl, hb⟩; replace HRR := K_ (HRR.out.below hb); replace HB := zE HB hb; replace BK9 := zC BK9 hb; replace BK11 := zC BK11 hb; clear hb) | ((with_reducible refine zF (N := 13) rfl ?_); refine be_ 13 (#[.bool false, .string (⟨#[]⟩ : ByteArray), .int .i64 0]) 23 ?_; intro g13 hg w2 hbox hb; have BK13 := K_ hbox; have GE13 := ge_ hg HB; have NB9_13 := nb_ hg BK9; replace BK9 := zC BK9 hb; have NB11_13 := nb_ hg BK11; replace BK11 := zC BK11 hb; replace HRR := K_ (HRR.out.below hb); replace HB := zE HB hb; clear hb hbox hg) | ((with_reducible refine zQ (p := 13) rfl ?_); refine so_ (g := g13) (cs := #[.bool false, .string (⟨#[]⟩ : ByteArray), .int .i64 0]) (#[.bool v.1, .string v.2.1, .int .i64 v.2.2.1]) ⟨BK BK13⟩ ?_ rfl rfl rfl rfl rfl jM rfl rfl; intro w9 hbk hfar hbel; replace BK9 := K_ (hfar _ _ (by first | exact NB9_13.out | exact Ne.symm NB13_9.out) (BK BK9)); replace BK11 := K_ (hfar _ _ (by first | exact NB11_13.out | exact Ne.symm NB13_11.out) (BK BK11)); replace HRR := K_ (HRR.out.so (BK BK13) (by decide) hfar); replace BK13 := K_ hbk; replace HB := K_ (hbel _ _ GE13.out (BL HB)); clear hbk hfar hbel))
  go_wp2_with (first | (go_at_call 13; refine (vO _ (Fig.Glob.below HG.out (BL HB))).mono ?_; rintro e9 w' ⟨rfl, hb⟩; replace HB := zE HB hb; replace BK11 := zC BK11 hb; replace BK13 := zC BK13 hb; clear hb) | ((with_reducible refine zF (N := 60) rfl ?_); refine zbO (g := g13) (cs := #[.bool v.1, .string v.2.1, .int .i64 v.2.2.1]) _ ⟨BK BK13⟩ ?_ (by rfl) rfl rfl Tryz.underlying23 rfl jM) | ((with_reducible refine zF (N := 61) rfl ?_); refine zbO (g := g11) (cs := #[.bool v.1, .string v.2.1, .int .i64 v.2.2.1]) _ ⟨BK BK11⟩ ?_ (by rfl) rfl rfl Tryz.underlying23 rfl jM))
  go_ret
  exact ⟨rfl, BL HB⟩
 have dE : (v.2.2.2 != 0) = true := by simpa using hE
 have h3 := zmw (q := q) (m := m) (b := b) (s := s2) (e := e) (by rw [← HV.out]; exact hE)
 rw [← HV.out] at h3
 have g1 : v.1 = false := by rw [h3]
 have g2 : v.2.1 = (⟨#[]⟩ : ByteArray) := by rw [h3]
 have g3 : v.2.2.1 = 0 := by rw [h3]
 rw [g1, g2, g3] at BK11
 clear h3 hE g1 g2 g3
 go_wp2_with (first | (go_at_call 13; refine (vO _ (Fig.Glob.below HG.out (BL HB))).mono ?_; rintro e9 w' ⟨rfl, hb⟩; replace HB := zE HB hb; replace BK11 := zC BK11 hb; clear hb) | ((with_reducible refine zF (N := 43) rfl ?_); refine zbO (g := g11) (cs := #[.bool false, .string (⟨#[]⟩ : ByteArray), .int .i64 0]) _ ⟨BK BK11⟩ ?_ (by rfl) rfl rfl Tryz.underlying23 rfl jM))
 go_ret
 exact ⟨rfl, BL HB⟩
end Go.Proofs.YtcmgdjnjmobkoaaGreatDoor.Px
