/- The functions that the law ShapeCountsUpto reaches, told as plain functions, with what is proved of them, and the words they need (part 5). -/
import Derived.Test.YtcmgdjnjmobkoaaGreatDoorCShapeCountsUpto0
import Derived.Test.YtcmgdjnjmobkoaaGreatDoorCShapeCountsUpto4
import Derived.SizedLaws
import Derived.ChangeSlices
import Derived.LaidMore
import Derived.LaidHandle
import Derived.LaidSub
import Derived.OpenShut
import Derived.ChangeSame
import Derived.Lay
import Derived.Lib.LaidTab
import Derived.Test.YtcmgdjnjmobkoaaGreatDoorRows
import Derived.Stop.LaidErr
import Derived.Lib.SmallJoins
import Derived.ChangeMaps5
set_option linter.unusedVariables false
set_option linter.unusedSimpArgs false
namespace Go.Proofs.YtcmgdjnjmobkoaaGreatDoor.Px
set_option linter.all false
open Fig Go.RowKit Go.Proofs.YtcmgdjnjmobkoaaGreatDoorW.PrintWords Go.Proofs.YtcmgdjnjmobkoaaGreatDoorW.PrintLast Go.Proofs.YtcmgdjnjmobkoaaGreatDoorW.PrintMore
attribute [local go_sem] vN vM uD uC yY yX vK vL
theorem ziz {P : jW} (h : xO P = true) : 1 < P.xi := by
 unfold xO at h; simp only [Bool.and_eq_true, decide_eq_true_eq] at h; exact h.2.2
theorem zgq {P : jW} (h : uE P) : 0 ≤ (xM P).1 ∧ (xM P).1 ≤ 80 := by
 have := h.mi0; have := h.mi4; have := h.ms0; have := h.msx; have := h.xs4; have := h.mf0; have := h.mfx; have := h.xf4; have := zbE h
 unfold xM; split
 ·show 0 ≤ P.ms ∧ P.ms ≤ 80; omega
 show 0 ≤ jY P + P.mf ∧ jY P + P.mf ≤ 80; omega
theorem znE {t k : Int} (h1 : -100000 ≤ t) (h2 : t ≤ 100000) (h3 : 1 < k) (h4 : k ≤ 1000) : zbs.f t k = some (t - t % k) := by
 have hd := Int.mul_tdiv_add_tmod t k
 have he := Int.mul_ediv_add_emod t k
 have hm1 := Int.emod_nonneg t (show k ≠ 0 by omega)
 have hm2 := Int.emod_lt_of_pos t (show 0 < k by omega)
 unfold zbs.f
 rw [if_neg (by omega)]
 by_cases ht : 0 ≤ t
 ·have e1 : t.tmod k = t % k := Int.tmod_eq_emod_of_nonneg ht
  have e2 : t.tdiv k = t / k := Int.tdiv_eq_ediv_of_nonneg ht
  rw [if_neg (by omega), e2]
  have b1 : 0 ≤ t / k := Int.ediv_nonneg ht (by omega)
  have b2 : t / k ≤ t := Int.ediv_le_self k ht
  rw [w64 (x := t / k) (by omega) (by omega), Int.mul_comm (t / k) k, w64 (by omega) (by omega)]
  congr 1; omega
 have e1 : t.tmod k = -((-t) % k) := by
  have := Int.neg_tmod (-t) k
  rw [Int.neg_neg] at this; rw [this, Int.tmod_eq_emod_of_nonneg (by omega)]
 have e2 : t.tdiv k = -((-t) / k) := by
  have := Int.neg_tdiv (-t) k
  rw [Int.neg_neg] at this; rw [this, Int.tdiv_eq_ediv_of_nonneg (by omega)]
 have b1 : 0 ≤ (-t) / k := Int.ediv_nonneg (by omega) (by omega)
 have b2 : (-t) / k ≤ -t := Int.ediv_le_self k (by omega)
 have n1 := Int.emod_nonneg (-t) (show k ≠ 0 by omega)
 have n2 := Int.emod_lt_of_pos (-t) (show 0 < k by omega)
 have n3 := Int.mul_ediv_add_emod (-t) k
 obtain ⟨z, hz⟩ : ∃ z, z = (-t) / k := ⟨_, rfl⟩
 obtain ⟨r, hr⟩ : ∃ r, r = (-t) % k := ⟨_, rfl⟩
 rw [← hz] at n3 b1 b2 e2
 rw [← hr] at n1 n2 n3 e1
 obtain ⟨y, hy⟩ : ∃ y, y = k * z := ⟨_, rfl⟩
 rw [← hy] at n3
 have hyz : k * z = y := hy.symm
 by_cases hr0 : r = 0
 ·have em : t % k = 0 := Int.emod_eq_zero_of_dvd ⟨-z, by rw [Int.mul_neg]; omega⟩
  rw [if_neg (by omega), e2, w64 (x := -z) (by omega) (by omega), Int.neg_mul, Int.mul_comm z k, hyz, w64 (by omega) (by omega), em]
  congr 1; omega
 have em : t % k = k - r := by
  have h5 : t = (k - r) + k * (-z - 1) := by rw [Int.mul_sub, Int.mul_neg, Int.mul_one]; omega
  rw [h5, Int.add_mul_emod_self_left]; exact Int.emod_eq_of_lt (by omega) (by omega)
 rw [if_pos (by omega), e2, w64 (x := -z) (by omega) (by omega), w64 (x := -z - 1) (by omega) (by omega), Int.sub_mul, Int.neg_mul, Int.mul_comm z k, hyz, Int.one_mul, w64 (by omega) (by omega), em]
 congr 1; omega
set_option maxHeartbeats 8000000 in
set_option maxRecDepth 100000 in
theorem zhQ (q : Pat) (hg : uE q.P) (b : Bool) (s : ByteArray) (e : Int) (ok : OkS s e) (w : World) :
  Calls Tryz.prog 39 #[.agg q.cs, .agg #[.bool b, .string s, .int .i64 e]] w fun e' w' => e' = .returned (.agg #[.bool b, .string (zbo q.P (vB s) e).1, .string (zbo q.P (vB s) e).2.1, .int .i64 (zbo q.P (vB s) e).2.2]) ∧ Below w.heap.size w w' := by
 have HB := K_ (Below.refl w.heap.size w)
 have HOK := K_ ok
 have HGD := K_ hg
 have HT := K_ (zjv (b := b) ok.ok)
 have HZ := K_ (zjD (b := b) ok.ok)
 have ht := zeO ok
 have hwb := zbE hg
 have hxi := And.intro hg.xi0 hg.xi4
 have hsb := zgq hg
 obtain ⟨tp, htp⟩ : ∃ tp, tp = vC (vB s) e := ⟨_, rfl⟩
 obtain ⟨wh, hwh⟩ : ∃ wh, wh = jY q.P := ⟨_, rfl⟩
 obtain ⟨x0, hx0⟩ : ∃ x0, x0 = zdd q.P (vB s) e := ⟨_, rfl⟩
 obtain ⟨nn, hnn⟩ : ∃ nn, nn = zdZ q.P (vB s) e := ⟨_, rfl⟩
 obtain ⟨xx, hxx⟩ : ∃ xx, xx = zcL q.P (vB s) e := ⟨_, rfl⟩
 obtain ⟨sg, hsg⟩ : ∃ sg, sg = (xM q.P).1 := ⟨_, rfl⟩
 obtain ⟨fn, hfn⟩ : ∃ fn, fn = zcr (vB s) e xx := ⟨_, rfl⟩
 obtain ⟨bb, hbb⟩ : ∃ bb, bb = zjy q.P (vB s) e := ⟨_, rfl⟩
 have HRES := K_ (show Ending.returned (Value.agg #[.bool b, .string (yD (vB s) e (xx + nn - 1) xx : ByteArray), .string (yD (vB s) e (xx - 1) (xx - bb) : ByteArray), .int .i64 (xx)]) = .returned (.agg #[.bool b, .string (zbo q.P (vB s) e).1, .string (zbo q.P (vB s) e).2.1, .int .i64 (zbo q.P (vB s) e).2.2]) by rw [hnn, hbb, hxx]; rfl)
 have hxe : xx = if vB s = 0 then 0 else x0 := by rw [hxx, hx0]; rfl
 have hbe : bb = max (sg - nn) fn := by rw [hbb, hsg, hnn, hfn, hxx]; rfl
 have hne : (xO q.P = true ∧ 1 < q.P.xi ∧ x0 = tp - tp % q.P.xi ∧ nn = tp - x0 + 1) ∨ (xO q.P = false ∧ x0 = tp - wh + 1 ∧ nn = wh) := by
  cases hE : xO q.P
  ·exact .inr ⟨rfl, by rw [hx0, htp, hwh]; unfold zdd; rw [hE]; rfl, by rw [hnn, hwh]; unfold zdZ; rw [hE]; rfl⟩
  refine .inl ⟨rfl, ziz hE, ?_, ?_⟩
  ·rw [hx0, htp]; unfold zdd; rw [hE]; rfl
  rw [hnn, hx0, htp]; unfold zdZ zdd; rw [hE]; rfl
 rw [← hwh] at hwb
 rw [← htp] at HT ht
 have hx0b : -20000 ≤ x0 ∧ x0 ≤ 30000 ∧ 0 ≤ nn ∧ nn ≤ 100 := by
  rcases hne with ⟨_, h2, h3, h4⟩ | ⟨_, h3, h4⟩
  ·have m1 := Int.emod_nonneg tp (show q.P.xi ≠ 0 by omega)
   have m2 := Int.emod_lt_of_pos tp (show 0 < q.P.xi by omega)
   omega
  omega
 have hxxb : -20000 ≤ xx ∧ xx ≤ 30000 := by rw [hxe]; split <;> omega
 have hf := zdw (p := xx) ok (by omega) (by omega)
 rw [← hfn] at hf
 rw [← hsg] at hsb
 have hbb0 : 0 ≤ bb ∧ bb ≤ 120000 := by rw [hbe]; omega
 have HF := K_ (zmu (b := b) (p := xx) ok (by omega) (by omega))
 rw [← hfn] at HF
 have HNE := K_ hne
 have HXE := K_ hxe
 have HBE2 := K_ hbe
 have HWH := K_ hwh
 have HSG := K_ hsg
 have hw1 : wrap64 (wrap64 (tp - wh) + 1) = tp - wh + 1 := by rw [w64 (x := tp - wh) (by omega) (by omega), w64 (by omega) (by omega)]
 have HW1 := K_ (show wrap64 (wrap64 (xx + nn) - 1) = xx + nn - 1 by rw [w64 (x := xx + nn) (by omega) (by omega), w64 (by omega) (by omega)])
 have HW2 := K_ (show wrap64 (xx - 1) = xx - 1 by rw [w64 (by omega) (by omega)])
 have HW3 := K_ (show wrap64 (xx - bb) = xx - bb by rw [w64 (by omega) (by omega)])
 clear hg ok hne hxe hbe hwh hsg htp hx0 hnn hxx hfn hbb
 go_enter Tryz.func39, Tryz.ntmps39
 go_upto_region 1 with (first | ((with_reducible refine zH (N := 2) rfl ?_); refine bx_ 2 (q.cs) 26 ?_ rfl rfl rfl rfl rfl; intro g2 hg w2 hbox hb; have BK2 := K_ hbox; have GE2 := ge_ hg HB; replace HB := zG HB hb; clear hb hbox hg) | ((with_reducible refine zH (N := 3) rfl ?_); refine bx_ 3 (#[.bool b, .string s, .int .i64 e]) 23 ?_ rfl rfl rfl rfl rfl; intro g3 hg w2 hbox hb; have BK3 := K_ hbox; have GE3 := ge_ hg HB; have NB2_3 := nb_ hg BK2; replace BK2 := zD BK2 hb; replace HB := zG HB hb; clear hb hbox hg) | ((with_reducible refine zH (N := 4) rfl ?_); refine be_ 4 (#[.bool false, .string (⟨#[]⟩ : ByteArray), .string (⟨#[]⟩ : ByteArray), .int .i64 0]) 36 ?_; intro g4 hg w2 hbox hb; have BK4 := K_ hbox; have GE4 := ge_ hg HB; have NB2_4 := nb_ hg BK2; replace BK2 := zD BK2 hb; have NB3_4 := nb_ hg BK3; replace BK3 := zD BK3 hb; replace HB := zG HB hb; clear hb hbox hg))
 refine yL (n := 6) (S := fun W => W.heap[g2]? = some (.cells q.cs 26 (0, 0)) ∧ W.heap[g3]? = some (.cells #[.bool b, .string s, .int .i64 e] 23 (0, 0))) (ds := []) #[false, false, false, false, false, false] (by kernel_rfl) rfl rfl ⟨BK BK2, BK BK3⟩ (fun hHeld => ?_)
 refine jM (fun W => W.heap[g2]? = some (.cells q.cs 26 (0, 0)) ∧ W.heap[g3]? = some (.cells #[.bool b, .string s, .int .i64 e] 23 (0, 0)) ∧ W.heap[g4]? = some (.cells #[.bool false, .string (⟨#[]⟩ : ByteArray), .string (⟨#[]⟩ : ByteArray), .int .i64 0] 36 (0, 0)) ∧ Below w.heap.size w W) ⟨BK BK2, BK BK3, BK BK4, BL HB⟩ ?_
 clear hHeld
 rintro W ⟨hb2, hb3, hb4, hbw⟩
 replace BK2 := K_ hb2
 replace BK3 := K_ hb3
 replace BK4 := K_ hb4
 replace HB := K_ hbw
 clear hb2 hb3 hb4 hbw
 have hHeld := (show W.heap[g2]? = some (.cells q.cs 26 (0, 0)) ∧ W.heap[g3]? = some (.cells #[.bool b, .string s, .int .i64 e] 23 (0, 0)) from ⟨BK2.out, BK3.out⟩)
 refine take_ (i := 0) (N := some 11) (bb 6 1) rfl rfl (by kernel_rfl) (fun _ _ _ h => h) (v := .agg q.cs) (Or.inl ⟨by rfl, fun w' hs => vO _ ⟨hs.1⟩ rfl rfl Tryz.underlying26 rfl jX⟩) hHeld (by simp only [Act.put, List.setIfInBounds_toArray, List.set_cons_zero, List.set_cons_succ]; rfl) ?_
 refine take_ (i := 2) (N := some 13) (bb 6 5) rfl rfl (by kernel_rfl) (fun _ _ _ h => h) (v := .agg #[.bool b, .string s, .int .i64 e]) (Or.inl ⟨by rfl, fun w' hs => vO _ ⟨hs.2⟩ rfl rfl Tryz.underlying23 rfl yH⟩) hHeld (by simp only [Act.put, List.setIfInBounds_toArray, List.set_cons_zero, List.set_cons_succ]; rfl) ?_
 refine zY (i := 1) (N := some 12) (bb 6 7) rfl rfl (by kernel_rfl) (by decide) (fun K hK => ?_)
 refine jN Tryz.func54 (by kernel_rfl) rfl #[.agg q.cs] (by rfl) rfl rfl (by (try simp only [List.map_toArray]); (try simp only [List.map_cons]); (try simp only [List.map_nil]); first | done | rfl) ?_
 refine (zdE q HGD.out _).mono ?_
 rintro e9 w' ⟨rfl, hb⟩
 refine ⟨_, rfl, ?_⟩
 replace HB := zG HB hb
 replace BK2 := zD BK2 hb
 replace BK3 := zD BK3 hb
 replace BK4 := zD BK4 hb
 clear hb
 clear hHeld
 refine hK.out _ _ ⟨BK2.out, BK3.out⟩ (fun hHeld => ?_)
 clear hK K
 refine jL (a' := ?_) ?_ ?_
 rotate_left
 ·show Act.put _ (some 12) _ = _
  simp only [Act.put, List.setIfInBounds_toArray, List.set_cons_zero, List.set_cons_succ]
  rfl
 refine zY (i := 3) (N := some 14) (bb 6 15) rfl rfl (by kernel_rfl) (by decide) (fun K hK => ?_)
 refine jN Tryz.func60 (by kernel_rfl) rfl #[.agg #[.bool b, .string s, .int .i64 e]] (by rfl) rfl rfl (by (try simp only [List.map_toArray]); (try simp only [List.map_cons]); (try simp only [List.map_nil]); first | done | rfl) ?_
 refine (zay.calls b s e tp _ HT.out).mono ?_
 rintro e9 w' ⟨rfl, hb⟩
 refine ⟨_, rfl, ?_⟩
 replace HB := zG HB hb
 replace BK2 := zD BK2 hb
 replace BK3 := zD BK3 hb
 replace BK4 := zD BK4 hb
 clear hb
 clear hHeld
 refine hK.out _ _ ⟨BK2.out, BK3.out⟩ (fun hHeld => ?_)
 clear hK K
 refine jL (a' := ?_) ?_ ?_
 rotate_left
 ·show Act.put _ (some 14) _ = _
  simp only [Act.put, List.setIfInBounds_toArray, List.set_cons_zero, List.set_cons_succ]
  rfl
 refine pu_ 4 (some 5) (bb 6 31) (by kernel_rfl) ?_
 refine pu_ 5 (some 6) (bb 6 63) (by kernel_rfl) ?_
 refine yV (by kernel_rfl) ?_
 simp only [← HWH.out]
 have e30 := (show w'.cell? ⟨g3, 0, none⟩ = some (.bool b) from (zA BK3.out 0).trans rfl)
 go_upto_region 3 with (first | ((with_reducible refine zH (N := 7) rfl ?_); refine be_ 7 (#[.bool false, .string (⟨#[]⟩ : ByteArray), .string (⟨#[]⟩ : ByteArray), .int .i64 0]) 36 ?_; intro g7 hg w2 hbox hb; have BK7 := K_ hbox; have GE7 := ge_ hg HB; have NB2_7 := nb_ hg BK2; replace BK2 := zD BK2 hb; have NB3_7 := nb_ hg BK3; replace BK3 := zD BK3 hb; have NB4_7 := nb_ hg BK4; replace BK4 := zD BK4 hb; replace HB := zG HB hb; clear hb hbox hg) | ((with_reducible refine zW (p := 7) rfl ?_); refine so_ (g := g7) (cs := #[.bool false, .string (⟨#[]⟩ : ByteArray), .string (⟨#[]⟩ : ByteArray), .int .i64 0]) (#[.bool b, .string (⟨#[]⟩ : ByteArray), .string (⟨#[]⟩ : ByteArray), .int .i64 (tp - wh + 1)]) ⟨BK BK7⟩ ?_ rfl rfl rfl rfl rfl xT rfl rfl; intro w9 hbk hfar hbel; replace BK2 := K_ (hfar _ _ (by first | exact NB2_7.out | exact Ne.symm NB7_2.out) (BK BK2)); replace BK3 := K_ (hfar _ _ (by first | exact NB3_7.out | exact Ne.symm NB7_3.out) (BK BK3)); replace BK4 := K_ (hfar _ _ (by first | exact NB4_7.out | exact Ne.symm NB7_4.out) (BK BK4)); replace BK7 := K_ hbk; replace HB := K_ (hbel _ _ GE7.out (BL HB)); clear hbk hfar hbel))
 clear e30
 go_upto_if 23 with (first | ((with_reducible refine zH (N := 22) rfl ?_); refine lo_ (g := g2) (cs := q.cs) _ ⟨BK BK2⟩ ?_ rfl rfl rfl Tryz.underlying26 rfl jX) | (go_at_call 27; refine (zbW q _).mono ?_; rintro e9 w' ⟨rfl, hb⟩; replace HB := zG HB hb; replace BK2 := zD BK2 hb; replace BK3 := zD BK3 hb; replace BK4 := zD BK4 hb; replace BK7 := zD BK7 hb; clear hb))
 go_cut [5] from 23 to 33 (fun v wx => v = .int .i64 nn ∧ wx.heap[g7]? = some (.cells #[.bool b, .string (⟨#[]⟩ : ByteArray), .string (⟨#[]⟩ : ByteArray), .int .i64 (x0)] 36 (0, 0)) ∧ wx.heap[g2]? = some (.cells q.cs 26 (0, 0)) ∧ wx.heap[g3]? = some (.cells #[.bool b, .string s, .int .i64 e] 23 (0, 0)) ∧ wx.heap[g4]? = some (.cells #[.bool false, .string (⟨#[]⟩ : ByteArray), .string (⟨#[]⟩ : ByteArray), .int .i64 0] 36 (0, 0)) ∧ Below w.heap.size w wx)
 case first =>
  rcases HNE.out with ⟨hE, x1, h3, h4⟩ | ⟨hE, h3, h4⟩
  ·rw [hE]
   have e6 := (show w'.cell? ⟨g2, 6, none⟩ = some (.int .i64 q.P.xi) from (zA BK2.out 6).trans rfl)
   have s73 := (show w'.cell? ⟨g7, 3, none⟩ = some (.int .i64 (tp - wh + 1)) from (zA BK7.out 3).trans rfl)
   have f73 := zI BK7.out 3
   have hw5 : wrap64 (wrap64 (tp - x0) + 1) = nn := by rw [h4, w64 (x := tp - x0) (by omega) (by omega), w64 (by omega) (by omega)]
   have HFL := K_ (znE (t := tp) (k := q.P.xi) (by omega) (by omega) x1 (by omega))
   rw [← h3] at HFL
   have HN4 := K_ h4
   clear hE x1 h3 h4
   go_upto_region 5 with (first | (go_at_call 67; refine (zbs.calls tp q.P.xi x0 _ HFL.out).mono ?_; rintro e9 w' ⟨rfl, ⟨nd, rfl⟩⟩))
   clear e6 s73 f73
   refine zbi (fun wx => wx.heap[g7]? = some (.cells #[.bool b, .string (⟨#[]⟩ : ByteArray), .string (⟨#[]⟩ : ByteArray), .int .i64 (x0)] 36 (0, 0)) ∧ wx.heap[g2]? = some (.cells q.cs 26 (0, 0)) ∧ wx.heap[g3]? = some (.cells #[.bool b, .string s, .int .i64 e] 23 (0, 0)) ∧ wx.heap[g4]? = some (.cells #[.bool false, .string (⟨#[]⟩ : ByteArray), .string (⟨#[]⟩ : ByteArray), .int .i64 0] 36 (0, 0)) ∧ Below w.heap.size w wx) ⟨BP BK7, zQ (BK BK2) NB2_7.out _, zQ (BK BK3) NB3_7.out _, zQ (BK BK4) NB4_7.out _, BL HB⟩ ?_
   rintro W5 ⟨hb7, hb2, hb3, hb4, hbw⟩
   replace BK2 := K_ hb2
   replace BK3 := K_ hb3
   replace BK4 := K_ hb4
   replace BK7 := K_ hb7
   replace HB := K_ hbw
   clear hb2 hb3 hb4 hbw hb7
   have e73 := (show W5.cell? ⟨g7, 3, none⟩ = some (.int .i64 x0) from (zA BK7.out 3).trans rfl)
   go_wp2
   go_meet
   case rel => exact ⟨congrArg (Value.int .i64) HN4.out.symm, BK BK7, BK BK2, BK BK3, BK BK4, BL HB⟩
  rw [hE]
  subst h4
  rw [← h3] at BK7
  clear hE h3
  go_wp2
  go_meet
  case rel => exact ⟨rfl, BK BK7, BK BK2, BK BK3, BK BK4, BL HB⟩
 case rest =>
  obtain ⟨rfl, hb7, hb2, hb3, hb4, hbw⟩ := hcut
  replace BK2 := K_ hb2
  replace BK3 := K_ hb3
  replace BK4 := K_ hb4
  replace BK7 := K_ hb7
  replace HB := K_ hbw
  clear hb2 hb3 hb4 hbw hb7
  go_upto_if 35 with (first | ((with_reducible refine zH (N := 34) rfl ?_); refine lo_ (g := g3) (cs := #[.bool b, .string s, .int .i64 e]) _ ⟨BK BK3⟩ ?_ rfl rfl rfl Tryz.underlying23 rfl yH) | (go_at_call 65; refine (xX.calls b s e (decide (vB s = 0)) _ HZ.out).mono ?_; rintro e9 w' ⟨rfl, hb⟩; replace HB := zG HB hb; replace BK2 := zD BK2 hb; replace BK3 := zD BK3 hb; replace BK4 := zD BK4 hb; replace BK7 := zD BK7 hb; clear hb))
  go_cut [] from 35 to 36 (fun wx => wx.heap[g7]? = some (.cells #[.bool b, .string (⟨#[]⟩ : ByteArray), .string (⟨#[]⟩ : ByteArray), .int .i64 (xx)] 36 (0, 0)) ∧ wx.heap[g2]? = some (.cells q.cs 26 (0, 0)) ∧ wx.heap[g3]? = some (.cells #[.bool b, .string s, .int .i64 e] 23 (0, 0)) ∧ wx.heap[g4]? = some (.cells #[.bool false, .string (⟨#[]⟩ : ByteArray), .string (⟨#[]⟩ : ByteArray), .int .i64 0] 36 (0, 0)) ∧ Below w.heap.size w wx)
  case first =>
   by_cases h0 : vB s = 0
   ·have hX := HXE.out
    rw [if_pos h0] at hX
    subst hX
    rw [decide_eq_true h0]
    have s73 := (show w'.cell? ⟨g7, 3, none⟩ = some (.int .i64 x0) from (zA BK7.out 3).trans rfl)
    have f73 := zI BK7.out 3
    clear h0
    go_wp2
    go_meet
    case rel => exact ⟨BP BK7, zQ (BK BK2) NB2_7.out _, zQ (BK BK3) NB3_7.out _, zQ (BK BK4) NB4_7.out _, BL HB⟩
   have hX := HXE.out
   rw [if_neg h0] at hX
   subst hX
   rw [decide_eq_false h0]
   clear h0
   go_wp2
   go_meet
   case rel => exact ⟨BK BK7, BK BK2, BK BK3, BK BK4, BL HB⟩
  case rest =>
   obtain ⟨hb7, hb2, hb3, hb4, hbw⟩ := hcut
   replace BK2 := K_ hb2
   replace BK3 := K_ hb3
   replace BK4 := K_ hb4
   replace BK7 := K_ hb7
   replace HB := K_ hbw
   clear hb2 hb3 hb4 hbw hb7
   go_upto_region 9 with (first | ((with_reducible refine zH (N := 38) rfl ?_); refine lo_ (g := g2) (cs := q.cs) _ ⟨BK BK2⟩ ?_ rfl rfl rfl Tryz.underlying26 rfl jX) | (go_at_call 25; refine (zdJ q HGD.out _).mono ?_; rintro e9 w' ⟨rfl, hb⟩; replace HB := zG HB hb; replace BK2 := zD BK2 hb; replace BK3 := zD BK3 hb; replace BK4 := zD BK4 hb; replace BK7 := zD BK7 hb; clear hb))
   simp only [← HSG.out]
   have e73 := (show w'.cell? ⟨g7, 3, none⟩ = some (.int .i64 xx) from (zA BK7.out 3).trans rfl)
   have hw6 : wrap64 (sg - nn) = sg - nn := w64 (by omega) (by omega)
   have hm1 : (if sg - nn < fn then fn else sg - nn) = bb := by rw [HBE2.out]; split <;> omega
   go_upto_region 10 with (first | ((with_reducible refine zH (N := 45) rfl ?_); refine lo_ (g := g3) (cs := #[.bool b, .string s, .int .i64 e]) _ ⟨BK BK3⟩ ?_ rfl rfl rfl Tryz.underlying23 rfl yH) | (go_at_call 64; refine (zaR.calls b s e xx fn _ HF.out).mono ?_; rintro e9 w' ⟨rfl, hb⟩; replace HB := zG HB hb; replace BK2 := zD BK2 hb; replace BK3 := zD BK3 hb; replace BK4 := zD BK4 hb; replace BK7 := zD BK7 hb; clear hb))
   clear e73
   refine yL (n := 22) (S := fun W => W.heap[g3]? = some (.cells #[.bool b, .string s, .int .i64 e] 23 (0, 0)) ∧ W.cell? ⟨g7, 3, none⟩ = some (.int .i64 xx)) (ds := []) #[false, false, false, false, false, false, false, false, false, false, false, false, false, false, false, false, false, false, false, false, false, false] (by kernel_rfl) rfl rfl ⟨BK BK3, (zA (BK BK7) 3).trans rfl⟩ (fun hHeld => ?_)
   refine jM (fun W => W.heap[g3]? = some (.cells #[.bool b, .string s, .int .i64 e] 23 (0, 0)) ∧ W.heap[g4]? = some (.cells #[.bool false, .string (⟨#[]⟩ : ByteArray), .string (⟨#[]⟩ : ByteArray), .int .i64 0] 36 (0, 0)) ∧ W.heap[g7]? = some (.cells #[.bool b, .string (⟨#[]⟩ : ByteArray), .string (⟨#[]⟩ : ByteArray), .int .i64 (xx)] 36 (0, 0)) ∧ Below w.heap.size w W) ⟨BK BK3, BK BK4, BK BK7, BL HB⟩ ?_
   clear hHeld BK2 BK3 BK4 BK7 HB
   rintro W ⟨hb3, hb4, hb7, hbw⟩
   have BK3 := K_ hb3
   have BK4 := K_ hb4
   have BK7 := K_ hb7
   have HB := K_ hbw
   clear hb3 hb4 hb7 hbw
   have hHeld := (show W.heap[g3]? = some (.cells #[.bool b, .string s, .int .i64 e] 23 (0, 0)) ∧ W.cell? ⟨g7, 3, none⟩ = some (.int .i64 xx) from ⟨BK3.out, (zA BK7.out 3).trans rfl⟩)
   refine take_ (i := 0) (N := some 50) (bb 22 1) rfl rfl (by kernel_rfl) (fun _ _ _ h => h) (v := .agg #[.bool b, .string s, .int .i64 e]) (Or.inl ⟨by rfl, fun w' hs => vO _ ⟨hs.1⟩ rfl rfl Tryz.underlying23 rfl yH⟩) hHeld (by simp only [Act.put, List.setIfInBounds_toArray, List.set_cons_zero, List.set_cons_succ]; rfl) ?_
   refine pu_ 1 (some 51) (bb 22 3) (by kernel_rfl) ?_
   refine tk_ 2 (some 52) (bb 22 7) (by kernel_rfl) hHeld ?_
   refine pu_ 3 (some 53) (bb 22 15) (by kernel_rfl) ?_
   refine pu_ 4 (some 54) (bb 22 31) (by kernel_rfl) ?_
   refine pu_ 5 (some 55) (bb 22 63) (by kernel_rfl) ?_
   refine pu_ 6 (some 56) (bb 22 127) (by kernel_rfl) ?_
   refine tk_ 7 (some 57) (bb 22 255) (by kernel_rfl) hHeld ?_
   refine take_ (i := 9) (N := some 59) (bb 22 767) rfl rfl (by kernel_rfl) (fun _ _ _ h => h) (v := .agg #[.bool b, .string s, .int .i64 e]) (Or.inl ⟨by rfl, fun w' hs => vO _ ⟨hs.1⟩ rfl rfl Tryz.underlying23 rfl yH⟩) hHeld (by simp only [Act.put, List.setIfInBounds_toArray, List.set_cons_zero, List.set_cons_succ]; rfl) ?_
   refine pu_ 10 (some 60) (bb 22 1791) (by kernel_rfl) ?_
   refine tk_ 11 (some 61) (bb 22 3839) (by kernel_rfl) hHeld ?_
   refine pu_ 12 (some 62) (bb 22 7935) (by kernel_rfl) ?_
   refine pu_ 13 (some 63) (bb 22 16127) (by kernel_rfl) ?_
   refine tk_ 14 (some 64) (bb 22 32511) (by kernel_rfl) hHeld ?_
   refine pu_ 15 (some 65) (bb 22 65279) (by kernel_rfl) ?_
   refine pu_ 16 (some 66) (bb 22 130815) (by kernel_rfl) ?_
   refine zY (i := 8) (N := some 58) (bb 22 131071) rfl rfl (by kernel_rfl) (by decide) (fun K hK => ?_)
   refine jN Tryz.func66 (by kernel_rfl) rfl #[.agg #[.bool b, .string s, .int .i64 e], .int .i64 (wrap64 (wrap64 (xx + nn) - 1)), .int .i64 xx] (by rfl) rfl rfl (by (try simp only [List.map_toArray]); (try simp only [List.map_cons]); (try simp only [List.map_nil]); first | done | rfl) ?_
   refine (xY b s e HOK.out.ok (xx + nn - 1) xx (by omega) (by omega) (by omega) (by omega) HW1.out rfl _).mono ?_
   rintro e9 w' ⟨rfl, hb⟩
   refine ⟨_, rfl, ?_⟩
   replace HB := zG HB hb
   replace BK3 := zD BK3 hb
   replace BK4 := zD BK4 hb
   replace BK7 := zD BK7 hb
   clear hb
   clear hHeld
   refine hK.out _ _ ⟨BK3.out, (zA BK7.out 3).trans rfl⟩ (fun hHeld => ?_)
   clear hK K
   refine jL (a' := ?_) ?_ ?_
   rotate_left
   ·show Act.put _ (some 58) _ = _
    simp only [Act.put, List.setIfInBounds_toArray, List.set_cons_zero, List.set_cons_succ]
    rfl
   refine pu_ 18 (some 68) (bb 22 393215) (by kernel_rfl) ?_
   refine zY (i := 17) (N := some 67) (bb 22 524287) rfl rfl (by kernel_rfl) (by decide) (fun K hK => ?_)
   refine jN Tryz.func66 (by kernel_rfl) rfl #[.agg #[.bool b, .string s, .int .i64 e], .int .i64 (wrap64 (xx - 1)), .int .i64 (wrap64 (xx - bb))] (by rfl) rfl rfl (by (try simp only [List.map_toArray]); (try simp only [List.map_cons]); (try simp only [List.map_nil]); first | done | rfl) ?_
   refine (xY b s e HOK.out.ok (xx - 1) (xx - bb) (by omega) (by omega) (by omega) (by omega) HW2.out HW3.out _).mono ?_
   rintro e9 w' ⟨rfl, hb⟩
   refine ⟨_, rfl, ?_⟩
   replace HB := zG HB hb
   replace BK3 := zD BK3 hb
   replace BK4 := zD BK4 hb
   replace BK7 := zD BK7 hb
   clear hb
   clear hHeld
   refine hK.out _ _ ⟨BK3.out, (zA BK7.out 3).trans rfl⟩ (fun hHeld => ?_)
   clear hK K
   refine jL (a' := ?_) ?_ ?_
   rotate_left
   ·show Act.put _ (some 67) _ = _
    simp only [Act.put, List.setIfInBounds_toArray, List.set_cons_zero, List.set_cons_succ]
    rfl
   refine zY (i := 19) (N := none) (bb 22 1048575) rfl rfl (by kernel_rfl) (by decide) (fun K hK => ?_)
   have hs : w'.cell? ⟨g7, 1, none⟩ = some (.string ⟨#[]⟩) := (zA BK7.out 1).trans rfl
   have hf := zI BK7.out 1
   refine zak (w1 := w'.setCell ⟨g7, 1, none⟩ (.string (yD (vB s) e (xx + nn - 1) xx))) (by rfl) rfl (by go_simp; try rfl) ?_
   replace BK3 := K_ (zQ (p := ⟨g7, 1, none⟩) BK3.out NB3_7.out (.string (yD (vB s) e (xx + nn - 1) xx)))
   replace BK4 := K_ (zQ (p := ⟨g7, 1, none⟩) BK4.out NB4_7.out (.string (yD (vB s) e (xx + nn - 1) xx)))
   replace HB := K_ (zab HB.out GE7.out (j := 1) (v := .string (yD (vB s) e (xx + nn - 1) xx)))
   replace BK7 := K_ (qX BK7.out (i := 1) (u := .string (yD (vB s) e (xx + nn - 1) xx)) (cs' := #[.bool b, .string (yD (vB s) e (xx + nn - 1) xx : ByteArray), .string (⟨#[]⟩ : ByteArray), .int .i64 (xx)]) rfl)
   refine hK.out _ _ ⟨BK3.out, (zA BK7.out 3).trans rfl⟩ (fun hHeld => ?_)
   clear hK K hs hf hHeld
   refine jM (fun W => W.heap[g3]? = some (.cells #[.bool b, .string s, .int .i64 e] 23 (0, 0)) ∧ W.heap[g4]? = some (.cells #[.bool false, .string (⟨#[]⟩ : ByteArray), .string (⟨#[]⟩ : ByteArray), .int .i64 0] 36 (0, 0)) ∧ W.heap[g7]? = some (.cells #[.bool b, .string (yD (vB s) e (xx + nn - 1) xx : ByteArray), .string (⟨#[]⟩ : ByteArray), .int .i64 (xx)] 36 (0, 0)) ∧ Below w.heap.size w W) ⟨BK3.out, BK4.out, BK7.out, HB.out⟩ ?_
   clear BK3 BK4 BK7 HB
   rintro W ⟨hb3, hb4, hb7, hbw⟩
   have BK3 := K_ hb3
   have BK4 := K_ hb4
   have BK7 := K_ hb7
   have HB := K_ hbw
   clear hb3 hb4 hb7 hbw
   have hHeld := (show W.heap[g3]? = some (.cells #[.bool b, .string s, .int .i64 e] 23 (0, 0)) ∧ W.cell? ⟨g7, 3, none⟩ = some (.int .i64 xx) from ⟨BK3.out, (zA BK7.out 3).trans rfl⟩)
   refine pu_ 20 (some 69) (bb 22 2097151) (by kernel_rfl) ?_
   refine zY (i := 21) (N := none) (bb 22 4194303) rfl rfl (by kernel_rfl) (by decide) (fun K hK => ?_)
   have hs : W.cell? ⟨g7, 2, none⟩ = some (.string ⟨#[]⟩) := (zA BK7.out 2).trans rfl
   have hf := zI BK7.out 2
   refine zak (w1 := W.setCell ⟨g7, 2, none⟩ (.string (yD (vB s) e (xx - 1) (xx - bb)))) (by rfl) rfl (by go_simp; try rfl) ?_
   replace BK3 := K_ (zQ (p := ⟨g7, 2, none⟩) BK3.out NB3_7.out (.string (yD (vB s) e (xx - 1) (xx - bb))))
   replace BK4 := K_ (zQ (p := ⟨g7, 2, none⟩) BK4.out NB4_7.out (.string (yD (vB s) e (xx - 1) (xx - bb))))
   replace HB := K_ (zab HB.out GE7.out (j := 2) (v := .string (yD (vB s) e (xx - 1) (xx - bb))))
   replace BK7 := K_ (qX BK7.out (i := 2) (u := .string (yD (vB s) e (xx - 1) (xx - bb))) (cs' := #[.bool b, .string (yD (vB s) e (xx + nn - 1) xx : ByteArray), .string (yD (vB s) e (xx - 1) (xx - bb) : ByteArray), .int .i64 (xx)]) rfl)
   refine hK.out _ _ ⟨BK3.out, (zA BK7.out 3).trans rfl⟩ (fun hHeld => ?_)
   clear hK K hs hf hHeld
   refine jM (fun W => W.heap[g3]? = some (.cells #[.bool b, .string s, .int .i64 e] 23 (0, 0)) ∧ W.heap[g4]? = some (.cells #[.bool false, .string (⟨#[]⟩ : ByteArray), .string (⟨#[]⟩ : ByteArray), .int .i64 0] 36 (0, 0)) ∧ W.heap[g7]? = some (.cells #[.bool b, .string (yD (vB s) e (xx + nn - 1) xx : ByteArray), .string (yD (vB s) e (xx - 1) (xx - bb) : ByteArray), .int .i64 (xx)] 36 (0, 0)) ∧ Below w.heap.size w W) ⟨BK3.out, BK4.out, BK7.out, HB.out⟩ ?_
   clear BK3 BK4 BK7 HB
   rintro W ⟨hb3, hb4, hb7, hbw⟩
   have BK3 := K_ hb3
   have BK4 := K_ hb4
   have BK7 := K_ hb7
   have HB := K_ hbw
   clear hb3 hb4 hb7 hbw
   have hHeld := (show W.heap[g3]? = some (.cells #[.bool b, .string s, .int .i64 e] 23 (0, 0)) ∧ W.cell? ⟨g7, 3, none⟩ = some (.int .i64 xx) from ⟨BK3.out, (zA BK7.out 3).trans rfl⟩)
   refine yV (by kernel_rfl) ?_
   go_wp2_with (first | ((with_reducible refine zH (N := 70) rfl ?_); refine lo_ (g := g7) (cs := #[.bool b, .string (yD (vB s) e (xx + nn - 1) xx : ByteArray), .string (yD (vB s) e (xx - 1) (xx - bb) : ByteArray), .int .i64 (xx)]) _ ⟨BK BK7⟩ ?_ rfl rfl rfl Tryz.underlying36 rfl xT) | ((with_reducible refine zW (p := 4) rfl ?_); refine so_ (g := g4) (cs := #[.bool false, .string (⟨#[]⟩ : ByteArray), .string (⟨#[]⟩ : ByteArray), .int .i64 0]) (#[.bool b, .string (yD (vB s) e (xx + nn - 1) xx : ByteArray), .string (yD (vB s) e (xx - 1) (xx - bb) : ByteArray), .int .i64 (xx)]) ⟨BK BK4⟩ ?_ rfl rfl rfl rfl rfl xT rfl rfl; intro w9 hbk hfar hbel; replace BK7 := K_ (hfar _ _ (by first | exact NB7_4.out | exact Ne.symm NB4_7.out) (BK BK7)); replace BK4 := K_ hbk; replace HB := K_ (hbel _ _ GE4.out (BL HB)); clear hbk hfar hbel))
   refine bodyPost_ret (results_cell_row rfl _ _ g4 36 (#[.bool b, .string (yD (vB s) e (xx + nn - 1) xx : ByteArray), .string (yD (vB s) e (xx - 1) (xx - bb) : ByteArray), .int .i64 (xx)]) (0, 0) _ rfl BK4.out Tryz.underlying36 rfl xT) rfl ?_
   exact ⟨HRES.out, BL HB⟩
theorem zcs (n : Nat) (e hi lo : Int) : (yD n e hi lo).size = (hi - lo + 1).toNat := by
 show (zaO n e hi (hi - lo + 1).toNat).toArray.size = _
 rw [List.size_toArray, zex]
theorem zil {P : jW} (hg : uE P) {s : ByteArray} {e : Int} (ok : OkS s e) : (zai P (vB s) e).1.size ≤ 200000 ∧ (zai P (vB s) e).2.1.size ≤ 200000 := by
 have ht := zeO ok
 have hf := zdw (p := 0) ok (by decide) (by decide)
 have := hg.mi0; have := hg.mi4; have := hg.mf0; have := hg.mfx; have := hg.xf4; have := hg.ms0; have := hg.msx; have := hg.xs4
 have h1 : zez P (vB s) e ≤ 30000 := by unfold zez; split <;> split <;> omega
 have h2 : zes P (vB s) e ≤ 120000 := by unfold zes; split <;> omega
 show (yD _ _ _ _).size ≤ _ ∧ (yD _ _ _ _).size ≤ _
 rw [zcs, zcs]; omega
theorem zky {P : jW} (hg : uE P) {s : ByteArray} {e : Int} (ok : OkS s e) : (zbo P (vB s) e).1.size ≤ 200000 ∧ (zbo P (vB s) e).2.1.size ≤ 200000 := by
 have ht := zeO ok
 have hwb := zbE hg
 have hsb := zgq hg
 have := hg.xi4
 have h1 : -20000 ≤ zdd P (vB s) e ∧ zdd P (vB s) e ≤ 30000 ∧ 0 ≤ zdZ P (vB s) e ∧ zdZ P (vB s) e ≤ 100 := by
  unfold zdd zdZ
  cases hE : xO P
  ·rw [if_neg (by decide), if_neg (by decide)]; omega
  have h1 := ziz hE
  have m1 := Int.emod_nonneg (vC (vB s) e) (show P.xi ≠ 0 by omega)
  have m2 := Int.emod_lt_of_pos (vC (vB s) e) (show 0 < P.xi by omega)
  rw [if_pos rfl, if_pos rfl]; omega
 have h2 : -20000 ≤ zcL P (vB s) e ∧ zcL P (vB s) e ≤ 30000 := by unfold zcL; split <;> omega
 have hf := zdw (p := zcL P (vB s) e) ok (by omega) (by omega)
 have h3 : zjy P (vB s) e ≤ 120000 := by unfold zjy; omega
 show (yD _ _ _ _).size ≤ _ ∧ (yD _ _ _ _).size ≤ _
 rw [zcs, zcs]; omega
set_option maxHeartbeats 8000000 in
set_option maxRecDepth 100000 in
theorem zlG (q : Pat) (hg : uE q.P) (b : Bool) (s : ByteArray) (e : Int) (s1 : ByteArray) (e1 : Int) (hx : vG.f b s e q.mult = some (b, s1, e1)) (ok : OkS s1 e1) (w : World) (hr : zbc q w) :
  Calls Tryz.prog 16 #[.agg q.cs, .agg #[.bool b, .string s, .int .i64 e]] w fun e' w' => e' = .returned (.agg #[.bool b, .string (zaL q.P (vB s1) e1).1, .string (zaL q.P (vB s1) e1).2.1, .int .i64 (zaL q.P (vB s1) e1).2.2]) ∧ Below w.heap.size w w' := by
 have HB := K_ (Below.refl w.heap.size w)
 have HGD := K_ hg
 have HRW := K_ hr
 have HX := K_ hx
 have HOK1 := K_ ok
 clear hg hr hx ok
 go_enter Tryz.func16, Tryz.ntmps16
 go_upto_region 1 with (first | ((with_reducible refine zH (N := 2) rfl ?_); refine bx_ 2 (q.cs) 26 ?_ rfl rfl rfl rfl rfl; intro g2 hg w2 hbox hb; have BK2 := K_ hbox; have GE2 := ge_ hg HB; replace HB := zG HB hb; clear hb hbox hg) | ((with_reducible refine zH (N := 3) rfl ?_); refine bx_ 3 (#[.bool b, .string s, .int .i64 e]) 23 ?_ rfl rfl rfl rfl rfl; intro g3 hg w2 hbox hb; have BK3 := K_ hbox; have GE3 := ge_ hg HB; have NB2_3 := nb_ hg BK2; replace BK2 := zD BK2 hb; replace HB := zG HB hb; clear hb hbox hg) | ((with_reducible refine zH (N := 4) rfl ?_); refine be_ 4 (#[.bool false, .string (⟨#[]⟩ : ByteArray), .string (⟨#[]⟩ : ByteArray), .int .i64 0]) 36 ?_; intro g4 hg w2 hbox hb; have BK4 := K_ hbox; have GE4 := ge_ hg HB; have NB2_4 := nb_ hg BK2; replace BK2 := zD BK2 hb; have NB3_4 := nb_ hg BK3; replace BK3 := zD BK3 hb; replace HB := zG HB hb; clear hb hbox hg))
 refine yL (n := 6) (S := fun W => W.heap[g2]? = some (.cells q.cs 26 (0, 0)) ∧ W.heap[g3]? = some (.cells #[.bool b, .string s, .int .i64 e] 23 (0, 0))) (ds := []) #[false, false, false, false, false, false] (by kernel_rfl) rfl rfl ⟨BK BK2, BK BK3⟩ (fun hHeld => ?_)
 refine jM (fun W => W.heap[g2]? = some (.cells q.cs 26 (0, 0)) ∧ W.heap[g3]? = some (.cells #[.bool b, .string s, .int .i64 e] 23 (0, 0)) ∧ W.heap[g4]? = some (.cells #[.bool false, .string (⟨#[]⟩ : ByteArray), .string (⟨#[]⟩ : ByteArray), .int .i64 0] 36 (0, 0)) ∧ Below w.heap.size w W) ⟨BK BK2, BK BK3, BK BK4, BL HB⟩ ?_
 clear hHeld BK2 BK3 BK4 HB
 rintro W ⟨hb2, hb3, hb4, hbw⟩
 have BK2 := K_ hb2
 have BK3 := K_ hb3
 have BK4 := K_ hb4
 have HB := K_ hbw
 clear hb2 hb3 hb4 hbw
 have hHeld := (show W.heap[g2]? = some (.cells q.cs 26 (0, 0)) ∧ W.heap[g3]? = some (.cells #[.bool b, .string s, .int .i64 e] 23 (0, 0)) from ⟨BK2.out, BK3.out⟩)
 refine take_ (i := 0) (N := some 8) (bb 6 1) rfl rfl (by kernel_rfl) (fun _ _ _ h => h) (v := .agg #[.bool b, .string s, .int .i64 e]) (Or.inl ⟨by rfl, fun w' hs => vO _ ⟨hs.2⟩ rfl rfl Tryz.underlying23 rfl yH⟩) hHeld (by simp only [Act.put, List.setIfInBounds_toArray, List.set_cons_zero, List.set_cons_succ]; rfl) ?_
 refine take_ (i := 1) (N := some 9) (bb 6 3) rfl rfl (by kernel_rfl) (fun _ _ _ h => h) (v := .agg q.cs) (Or.inl ⟨by rfl, fun w' hs => vO _ ⟨hs.1⟩ rfl rfl Tryz.underlying26 rfl jX⟩) hHeld (by simp only [Act.put, List.setIfInBounds_toArray, List.set_cons_zero, List.set_cons_succ]; rfl) ?_
 refine zgU (σ := Nat) 1 (bb 6 31) (fun g => [(10, .int .i64 q.mult), (11, .agg #[.bool b, .string s1, .int .i64 e1]), (5, .pointer (some ⟨g, 0, none⟩))]) (fun g W => W.heap[g]? = some (.cells (#[.bool false, .string (⟨#[]⟩ : ByteArray), .int .i64 0]) 23 (0, 0)) ∧ g2 ≠ g ∧ g3 ≠ g ∧ g4 ≠ g ∧ w.heap.size ≤ g ∧ W.heap[g2]? = some (.cells q.cs 26 (0, 0)) ∧ W.heap[g3]? = some (.cells #[.bool b, .string s, .int .i64 e] 23 (0, 0)) ∧ W.heap[g4]? = some (.cells #[.bool false, .string (⟨#[]⟩ : ByteArray), .string (⟨#[]⟩ : ByteArray), .int .i64 0] 36 (0, 0)) ∧ Below w.heap.size w W) ?hcj ?hrj
 case hrj =>
  intro hCont
  refine zev (i := 2) (j := 4) (Ni := some 10) (Nj := some 5) (bb 6 7) (bb 6 19) rfl rfl rfl rfl (by kernel_rfl) (by decide) (by decide) (fun K hK => ?_) (fun K hK => ?_)
  ·skip
   refine jN Tryz.func35 (by kernel_rfl) rfl #[.agg q.cs] (by rfl) rfl rfl (by (try simp only [List.map_toArray]); (try simp only [List.map_cons]); (try simp only [List.map_nil]); first | done | rfl) ?_
   refine (zem q _ (HRW.out.below (BL HB))).mono ?_
   rintro e9 w' ⟨rfl, hb⟩
   refine ⟨_, rfl, ?_⟩
   replace BK2 := zD BK2 hb
   replace BK3 := zD BK3 hb
   replace BK4 := zD BK4 hb
   replace HB := zG HB hb
   clear hb hHeld
   refine hK.out _ _ ⟨BK2.out, BK3.out⟩ (fun hHeld => ?_)
   clear hK K
   refine jL (a' := ?_) ?_ ?_
   rotate_left
   ·show Act.put _ (some 10) _ = _
    simp only [Act.put, List.setIfInBounds_toArray, List.set_cons_zero, List.set_cons_succ]
    rfl
   refine zev (i := 3) (j := 4) (Ni := some 11) (Nj := some 5) (bb 6 15) (bb 6 23) rfl rfl rfl rfl (by kernel_rfl) (by decide) (by decide) (fun K hK => ?_) (fun K hK => ?_)
   ·skip
    refine jN Tryz.func37 (by kernel_rfl) rfl #[.agg #[.bool b, .string s, .int .i64 e], .int .i64 q.mult] (by rfl) rfl rfl (by (try simp only [List.map_toArray]); (try simp only [List.map_cons]); (try simp only [List.map_nil]); first | done | rfl) ?_
    refine (vG.calls b s e q.mult b s1 e1 _ HX.out).mono ?_
    rintro e9 w' ⟨rfl, hb⟩
    refine ⟨_, rfl, ?_⟩
    replace BK2 := zD BK2 hb
    replace BK3 := zD BK3 hb
    replace BK4 := zD BK4 hb
    replace HB := zG HB hb
    clear hb hHeld
    refine hK.out _ _ ⟨BK2.out, BK3.out⟩ (fun hHeld => ?_)
    clear hK K
    refine jL (a' := ?_) ?_ ?_
    rotate_left
    ·show Act.put _ (some 11) _ = _
     simp only [Act.put, List.setIfInBounds_toArray, List.set_cons_zero, List.set_cons_succ]
     rfl
    refine zY (i := 4) (N := some 5) (bb 6 31) rfl rfl (by kernel_rfl) (by decide) (fun K hK => ?_)
    refine qZ ?hg (N := 5) ?hd (cs := #[.bool false, .string (⟨#[]⟩ : ByteArray), .int .i64 0]) (t := 23) ?hr ?_; (case hd => rfl); (case hg => rfl); (case hr => first | (go_simp; done) | (go_simp; rfl))
    intro g5 hg w' hbox hb
    have BK5 := K_ hbox
    have GE5 := ge_ hg HB
    have NB2_5 := nb_ hg BK2
    have NB3_5 := nb_ hg BK3
    have NB4_5 := nb_ hg BK4
    replace BK2 := zD BK2 hb
    replace BK3 := zD BK3 hb
    replace BK4 := zD BK4 hb
    replace HB := zG HB hb
    clear hb hbox hg hHeld
    refine hK.out _ _ ⟨BK2.out, BK3.out⟩ (fun hHeld => ?_)
    clear hK K
    refine jL (a' := ?_) ?_ ?_
    rotate_left
    ·show Act.put _ (some 5) _ = _
     simp only [Act.put, List.setIfInBounds_toArray, List.set_cons_zero, List.set_cons_succ]
     rfl
    exact jL (by simp only [xB, Act.put, List.setIfInBounds_toArray, List.set_cons_zero, List.set_cons_succ]) (hCont g5 _ ⟨BK5.out, NB2_5.out, NB3_5.out, NB4_5.out, GE5.out, BK2.out, BK3.out, BK4.out, HB.out⟩)
   skip
   refine qZ ?hg (N := 5) ?hd (cs := #[.bool false, .string (⟨#[]⟩ : ByteArray), .int .i64 0]) (t := 23) ?hr ?_; (case hd => rfl); (case hg => rfl); (case hr => first | (go_simp; done) | (go_simp; rfl))
   intro g5 hg w' hbox hb
   have BK5 := K_ hbox
   have GE5 := ge_ hg HB
   have NB2_5 := nb_ hg BK2
   have NB3_5 := nb_ hg BK3
   have NB4_5 := nb_ hg BK4
   replace BK2 := zD BK2 hb
   replace BK3 := zD BK3 hb
   replace BK4 := zD BK4 hb
   replace HB := zG HB hb
   clear hb hbox hg hHeld
   refine hK.out _ _ ⟨BK2.out, BK3.out⟩ (fun hHeld => ?_)
   clear hK K
   refine jL (a' := ?_) ?_ ?_
   rotate_left
   ·show Act.put _ (some 5) _ = _
    simp only [Act.put, List.setIfInBounds_toArray, List.set_cons_zero, List.set_cons_succ]
    rfl
   refine zY (i := 3) (N := some 11) (bb 6 31) rfl rfl (by kernel_rfl) (by decide) (fun K hK => ?_)
   refine jN Tryz.func37 (by kernel_rfl) rfl #[.agg #[.bool b, .string s, .int .i64 e], .int .i64 q.mult] (by rfl) rfl rfl (by (try simp only [List.map_toArray]); (try simp only [List.map_cons]); (try simp only [List.map_nil]); first | done | rfl) ?_
   refine (vG.calls b s e q.mult b s1 e1 _ HX.out).mono ?_
   rintro e9 w' ⟨rfl, hb⟩
   refine ⟨_, rfl, ?_⟩
   replace BK2 := zD BK2 hb
   replace BK3 := zD BK3 hb
   replace BK4 := zD BK4 hb
   replace BK5 := zD BK5 hb
   replace HB := zG HB hb
   clear hb hHeld
   refine hK.out _ _ ⟨BK2.out, BK3.out⟩ (fun hHeld => ?_)
   clear hK K
   refine jL (a' := ?_) ?_ ?_
   rotate_left
   ·show Act.put _ (some 11) _ = _
    simp only [Act.put, List.setIfInBounds_toArray, List.set_cons_zero, List.set_cons_succ]
    rfl
   exact jL (by simp only [xB, Act.put, List.setIfInBounds_toArray, List.set_cons_zero, List.set_cons_succ]) (hCont g5 _ ⟨BK5.out, NB2_5.out, NB3_5.out, NB4_5.out, GE5.out, BK2.out, BK3.out, BK4.out, HB.out⟩)
  skip
  refine qZ ?hg (N := 5) ?hd (cs := #[.bool false, .string (⟨#[]⟩ : ByteArray), .int .i64 0]) (t := 23) ?hr ?_; (case hd => rfl); (case hg => rfl); (case hr => first | (go_simp; done) | (go_simp; rfl))
  intro g5 hg w' hbox hb
  have BK5 := K_ hbox
  have GE5 := ge_ hg HB
  have NB2_5 := nb_ hg BK2
  have NB3_5 := nb_ hg BK3
  have NB4_5 := nb_ hg BK4
  replace BK2 := zD BK2 hb
  replace BK3 := zD BK3 hb
  replace BK4 := zD BK4 hb
  replace HB := zG HB hb
  clear hb hbox hg hHeld
  refine hK.out _ _ ⟨BK2.out, BK3.out⟩ (fun hHeld => ?_)
  clear hK K
  refine jL (a' := ?_) ?_ ?_
  rotate_left
  ·show Act.put _ (some 5) _ = _
   simp only [Act.put, List.setIfInBounds_toArray, List.set_cons_zero, List.set_cons_succ]
   rfl
  refine zY (i := 2) (N := some 10) (bb 6 23) rfl rfl (by kernel_rfl) (by decide) (fun K hK => ?_)
  refine jN Tryz.func35 (by kernel_rfl) rfl #[.agg q.cs] (by rfl) rfl rfl (by (try simp only [List.map_toArray]); (try simp only [List.map_cons]); (try simp only [List.map_nil]); first | done | rfl) ?_
  refine (zem q _ (HRW.out.below (BL HB))).mono ?_
  rintro e9 w' ⟨rfl, hb⟩
  refine ⟨_, rfl, ?_⟩
  replace BK2 := zD BK2 hb
  replace BK3 := zD BK3 hb
  replace BK4 := zD BK4 hb
  replace BK5 := zD BK5 hb
  replace HB := zG HB hb
  clear hb hHeld
  refine hK.out _ _ ⟨BK2.out, BK3.out⟩ (fun hHeld => ?_)
  clear hK K
  refine jL (a' := ?_) ?_ ?_
  rotate_left
  ·show Act.put _ (some 10) _ = _
   simp only [Act.put, List.setIfInBounds_toArray, List.set_cons_zero, List.set_cons_succ]
   rfl
  refine zY (i := 3) (N := some 11) (bb 6 31) rfl rfl (by kernel_rfl) (by decide) (fun K hK => ?_)
  refine jN Tryz.func37 (by kernel_rfl) rfl #[.agg #[.bool b, .string s, .int .i64 e], .int .i64 q.mult] (by rfl) rfl rfl (by (try simp only [List.map_toArray]); (try simp only [List.map_cons]); (try simp only [List.map_nil]); first | done | rfl) ?_
  refine (vG.calls b s e q.mult b s1 e1 _ HX.out).mono ?_
  rintro e9 w' ⟨rfl, hb⟩
  refine ⟨_, rfl, ?_⟩
  replace BK2 := zD BK2 hb
  replace BK3 := zD BK3 hb
  replace BK4 := zD BK4 hb
  replace BK5 := zD BK5 hb
  replace HB := zG HB hb
  clear hb hHeld
  refine hK.out _ _ ⟨BK2.out, BK3.out⟩ (fun hHeld => ?_)
  clear hK K
  refine jL (a' := ?_) ?_ ?_
  rotate_left
  ·show Act.put _ (some 11) _ = _
   simp only [Act.put, List.setIfInBounds_toArray, List.set_cons_zero, List.set_cons_succ]
   rfl
  exact jL (by simp only [xB, Act.put, List.setIfInBounds_toArray, List.set_cons_zero, List.set_cons_succ]) (hCont g5 _ ⟨BK5.out, NB2_5.out, NB3_5.out, NB4_5.out, GE5.out, BK2.out, BK3.out, BK4.out, HB.out⟩)
 case hcj =>
  rintro g5 W8 ⟨hba, hn2, hn3, hn4, hge, hb2, hb3, hb4, hbw⟩
  have BK2 := K_ hb2
  have BK3 := K_ hb3
  have BK4 := K_ hb4
  have HB := K_ hbw
  have BK5 := K_ hba
  have GE5 := K_ hge
  have NB2_5 := K_ hn2
  have NB3_5 := K_ hn3
  have NB4_5 := K_ hn4
  clear hba hge hbw hHeld hb2 hn2 hb3 hn3 hb4 hn4
  refine jL (a' := ?_) ?_ ?_
  rotate_left
  ·simp only [xB, Act.put, List.setIfInBounds_toArray, List.set_cons_zero, List.set_cons_succ]
   rfl
  refine zY (i := 5) (N := none) (bb 6 63) rfl rfl (by kernel_rfl) (by decide) (fun K hK => ?_)
  refine vF (g := g5) (cs := #[.bool false, .string (⟨#[]⟩ : ByteArray), .int .i64 0]) (#[.bool b, .string s1, .int .i64 e1]) BK5 ?_ rfl rfl rfl rfl rfl yH rfl rfl
  intro w9 hbk hfar hbel
  replace BK2 := K_ (hfar _ _ NB2_5.out BK2.out)
  replace BK3 := K_ (hfar _ _ NB3_5.out BK3.out)
  replace BK4 := K_ (hfar _ _ NB4_5.out BK4.out)
  replace BK5 := K_ hbk
  replace HB := K_ (hbel _ _ GE5.out HB.out)
  refine hK.out _ _ ⟨BK2.out, BK3.out⟩ (fun _ => ?_)
  clear hK K hbk hfar hbel
  refine yV (by kernel_rfl) ?_
  have e14 := (show w9.cell? ⟨g2, 14, none⟩ = some (.bool q.P.sci) from (zA BK2.out 14).trans rfl)
  cases hsci : q.P.sci
  ·rw [hsci] at e14
   obtain ⟨A, B, C, hrr⟩ : ∃ (A B : ByteArray) (C : Int), (A, B, C) = zai q.P (vB s1) e1 := ⟨_, _, _, rfl⟩
   have hA : A = (zai q.P (vB s1) e1).1 := by rw [← hrr]
   have hB' : B = (zai q.P (vB s1) e1).2.1 := by rw [← hrr]
   have hC : C = (zai q.P (vB s1) e1).2.2 := by rw [← hrr]
   have HRR := K_ (show Ending.returned (Value.agg #[.bool b, .string A, .string B, .int .i64 C]) = .returned (.agg #[.bool b, .string (zai q.P (vB s1) e1).1, .string (zai q.P (vB s1) e1).2.1, .int .i64 (zai q.P (vB s1) e1).2.2]) by rw [hA, hB', hC])
   have hsz : A.size ≤ 200000 ∧ B.size ≤ 200000 := by rw [hA, hB']; exact zil HGD.out HOK1.out
   have hbig : ¬ 9223372036854775807 < A.size + B.size := by omega
   have HRES := K_ (show zaL q.P (vB s1) e1 = zfn (A, B, C) by unfold zaL; rw [hsci, hrr]; rfl)
   clear hA hB' hC hrr hsz hsci
   go_upto_region 6 with (first | ((with_reducible refine zH (N := 15) rfl ?_); refine lo_ (g := g2) (cs := q.cs) _ ⟨BK BK2⟩ ?_ rfl rfl rfl Tryz.underlying26 rfl jX) | ((with_reducible refine zH (N := 16) rfl ?_); refine lo_ (g := g5) (cs := #[.bool b, .string s1, .int .i64 e1]) _ ⟨BK BK5⟩ ?_ rfl rfl rfl Tryz.underlying23 rfl yH) | (go_at_call 38; refine (zht q HGD.out b s1 e1 HOK1.out _).mono ?_; rintro e9 w' ⟨he9, hb⟩; rw [← HRR.out] at he9; subst he9; replace HB := zG HB hb; replace BK4 := zD BK4 hb; clear hb) | ((with_reducible refine zH (N := 7) rfl ?_); refine be_ 7 (#[.bool false, .string (⟨#[]⟩ : ByteArray), .string (⟨#[]⟩ : ByteArray), .int .i64 0]) 36 ?_; intro g7 hg w2 hbox hb; have BK7 := K_ hbox; have GE7 := ge_ hg HB; have NB4_7 := nb_ hg BK4; replace BK4 := zD BK4 hb; replace HB := zG HB hb; clear hb hbox hg) | ((with_reducible refine zW (p := 7) rfl ?_); refine so_ (g := g7) (cs := #[.bool false, .string (⟨#[]⟩ : ByteArray), .string (⟨#[]⟩ : ByteArray), .int .i64 0]) (#[.bool b, .string A, .string B, .int .i64 C]) ⟨BK BK7⟩ ?_ rfl rfl rfl rfl rfl xT rfl rfl; intro w9 hbk hfar hbel; replace BK4 := K_ (hfar _ _ (by first | exact NB4_7.out | exact Ne.symm NB7_4.out) (BK BK4)); replace BK7 := K_ hbk; replace HB := K_ (hbel _ _ GE7.out (BL HB)); clear hbk hfar hbel))
   have e71 := (show w9.cell? ⟨g7, 1, none⟩ = some (.string A) from (zA BK7.out 1).trans rfl)
   have e72 := (show w9.cell? ⟨g7, 2, none⟩ = some (.string B) from (zA BK7.out 2).trans rfl)
   have f71 := zI BK7.out 1
   by_cases hem : A ++ B = (⟨#[]⟩ : ByteArray)
   ·have hie : (A ++ B).toList.isEmpty = true := by rw [hem, ByteArray.toList_eq]; rfl
    have HRE := K_ (show Ending.returned (Value.agg #[.bool b, .string (⟨#[48]⟩ : ByteArray), .string B, .int .i64 C]) = .returned (.agg #[.bool b, .string (zaL q.P (vB s1) e1).1, .string (zaL q.P (vB s1) e1).2.1, .int .i64 (zaL q.P (vB s1) e1).2.2]) by rw [HRES.out]; unfold zfn; rw [if_pos hem])
    clear hem HRES
    go_upto_region 8 with (fail)
    refine zbi (fun wx => wx.heap[g7]? = some (.cells #[.bool b, .string (⟨#[48]⟩ : ByteArray), .string B, .int .i64 C] 36 (0, 0)) ∧ wx.heap[g4]? = some (.cells #[.bool false, .string (⟨#[]⟩ : ByteArray), .string (⟨#[]⟩ : ByteArray), .int .i64 0] 36 (0, 0)) ∧ Below w.heap.size w wx) ⟨BP BK7, zQ (BK BK4) NB4_7.out _, BL HB⟩ ?_
    clear e71 e72 f71 BK7 BK4 HB
    rintro W5 ⟨hb7, hb4, hbw⟩
    have BK7 := K_ hb7
    have BK4 := K_ hb4
    have HB := K_ hbw
    clear hb7 hb4 hbw
    go_wp2_with (first | ((with_reducible refine zH (N := 25) rfl ?_); refine lo_ (g := g7) (cs := #[.bool b, .string (⟨#[48]⟩ : ByteArray), .string B, .int .i64 C]) _ ⟨BK BK7⟩ ?_ rfl rfl rfl Tryz.underlying36 rfl xT) | ((with_reducible refine zW (p := 4) rfl ?_); refine so_ (g := g4) (cs := #[.bool false, .string (⟨#[]⟩ : ByteArray), .string (⟨#[]⟩ : ByteArray), .int .i64 0]) (#[.bool b, .string (⟨#[48]⟩ : ByteArray), .string B, .int .i64 C]) ⟨BK BK4⟩ ?_ rfl rfl rfl rfl rfl xT rfl rfl; intro w9 hbk hfar hbel; replace BK4 := K_ hbk; replace HB := K_ (hbel _ _ GE4.out (BL HB)); clear hbk hfar hbel))
    refine bodyPost_ret (results_cell_row rfl _ _ g4 36 (#[.bool b, .string (⟨#[48]⟩ : ByteArray), .string B, .int .i64 C]) (0, 0) _ rfl BK4.out Tryz.underlying36 rfl xT) rfl ?_
    exact ⟨HRE.out, BL HB⟩
   have hie : (A ++ B).toList.isEmpty = false := by
    cases hh : (A ++ B).toList.isEmpty
    ·rfl
    exact absurd (zaw (by rw [← ByteArray.toList_eq, List.isEmpty_iff.1 hh])) hem
   have HRE := K_ (show Ending.returned (Value.agg #[.bool b, .string A, .string B, .int .i64 C]) = .returned (.agg #[.bool b, .string (zaL q.P (vB s1) e1).1, .string (zaL q.P (vB s1) e1).2.1, .int .i64 (zaL q.P (vB s1) e1).2.2]) by rw [HRES.out]; unfold zfn; rw [if_neg hem])
   clear hem HRES
   go_wp2_with (first | ((with_reducible refine zH (N := 25) rfl ?_); refine lo_ (g := g7) (cs := #[.bool b, .string A, .string B, .int .i64 C]) _ ⟨BK BK7⟩ ?_ rfl rfl rfl Tryz.underlying36 rfl xT) | ((with_reducible refine zW (p := 4) rfl ?_); refine so_ (g := g4) (cs := #[.bool false, .string (⟨#[]⟩ : ByteArray), .string (⟨#[]⟩ : ByteArray), .int .i64 0]) (#[.bool b, .string A, .string B, .int .i64 C]) ⟨BK BK4⟩ ?_ rfl rfl rfl rfl rfl xT rfl rfl; intro w9 hbk hfar hbel; replace BK4 := K_ hbk; replace HB := K_ (hbel _ _ GE4.out (BL HB)); clear hbk hfar hbel))
   refine bodyPost_ret (results_cell_row rfl _ _ g4 36 (#[.bool b, .string A, .string B, .int .i64 C]) (0, 0) _ rfl BK4.out Tryz.underlying36 rfl xT) rfl ?_
   exact ⟨HRE.out, BL HB⟩
  rw [hsci] at e14
  obtain ⟨A, B, C, hrr⟩ : ∃ (A B : ByteArray) (C : Int), (A, B, C) = zbo q.P (vB s1) e1 := ⟨_, _, _, rfl⟩
  have hA : A = (zbo q.P (vB s1) e1).1 := by rw [← hrr]
  have hB' : B = (zbo q.P (vB s1) e1).2.1 := by rw [← hrr]
  have hC : C = (zbo q.P (vB s1) e1).2.2 := by rw [← hrr]
  have HRR := K_ (show Ending.returned (Value.agg #[.bool b, .string A, .string B, .int .i64 C]) = .returned (.agg #[.bool b, .string (zbo q.P (vB s1) e1).1, .string (zbo q.P (vB s1) e1).2.1, .int .i64 (zbo q.P (vB s1) e1).2.2]) by rw [hA, hB', hC])
  have hsz : A.size ≤ 200000 ∧ B.size ≤ 200000 := by rw [hA, hB']; exact zky HGD.out HOK1.out
  have hbig : ¬ 9223372036854775807 < A.size + B.size := by omega
  have HRES := K_ (show zaL q.P (vB s1) e1 = zfn (A, B, C) by unfold zaL; rw [hsci, hrr]; rfl)
  clear hA hB' hC hrr hsz hsci
  go_upto_region 6 with (first | ((with_reducible refine zH (N := 15) rfl ?_); refine lo_ (g := g2) (cs := q.cs) _ ⟨BK BK2⟩ ?_ rfl rfl rfl Tryz.underlying26 rfl jX) | ((with_reducible refine zH (N := 16) rfl ?_); refine lo_ (g := g5) (cs := #[.bool b, .string s1, .int .i64 e1]) _ ⟨BK BK5⟩ ?_ rfl rfl rfl Tryz.underlying23 rfl yH) | (go_at_call 39; refine (zhQ q HGD.out b s1 e1 HOK1.out _).mono ?_; rintro e9 w' ⟨he9, hb⟩; rw [← HRR.out] at he9; subst he9; replace HB := zG HB hb; replace BK4 := zD BK4 hb; clear hb) | ((with_reducible refine zH (N := 7) rfl ?_); refine be_ 7 (#[.bool false, .string (⟨#[]⟩ : ByteArray), .string (⟨#[]⟩ : ByteArray), .int .i64 0]) 36 ?_; intro g7 hg w2 hbox hb; have BK7 := K_ hbox; have GE7 := ge_ hg HB; have NB4_7 := nb_ hg BK4; replace BK4 := zD BK4 hb; replace HB := zG HB hb; clear hb hbox hg) | ((with_reducible refine zW (p := 7) rfl ?_); refine so_ (g := g7) (cs := #[.bool false, .string (⟨#[]⟩ : ByteArray), .string (⟨#[]⟩ : ByteArray), .int .i64 0]) (#[.bool b, .string A, .string B, .int .i64 C]) ⟨BK BK7⟩ ?_ rfl rfl rfl rfl rfl xT rfl rfl; intro w9 hbk hfar hbel; replace BK4 := K_ (hfar _ _ (by first | exact NB4_7.out | exact Ne.symm NB7_4.out) (BK BK4)); replace BK7 := K_ hbk; replace HB := K_ (hbel _ _ GE7.out (BL HB)); clear hbk hfar hbel))
  have e71 := (show w9.cell? ⟨g7, 1, none⟩ = some (.string A) from (zA BK7.out 1).trans rfl)
  have e72 := (show w9.cell? ⟨g7, 2, none⟩ = some (.string B) from (zA BK7.out 2).trans rfl)
  have f71 := zI BK7.out 1
  by_cases hem : A ++ B = (⟨#[]⟩ : ByteArray)
  ·have hie : (A ++ B).toList.isEmpty = true := by rw [hem, ByteArray.toList_eq]; rfl
   have HRE := K_ (show Ending.returned (Value.agg #[.bool b, .string (⟨#[48]⟩ : ByteArray), .string B, .int .i64 C]) = .returned (.agg #[.bool b, .string (zaL q.P (vB s1) e1).1, .string (zaL q.P (vB s1) e1).2.1, .int .i64 (zaL q.P (vB s1) e1).2.2]) by rw [HRES.out]; unfold zfn; rw [if_pos hem])
   clear hem HRES
   go_upto_region 8 with (fail)
   refine zbi (fun wx => wx.heap[g7]? = some (.cells #[.bool b, .string (⟨#[48]⟩ : ByteArray), .string B, .int .i64 C] 36 (0, 0)) ∧ wx.heap[g4]? = some (.cells #[.bool false, .string (⟨#[]⟩ : ByteArray), .string (⟨#[]⟩ : ByteArray), .int .i64 0] 36 (0, 0)) ∧ Below w.heap.size w wx) ⟨BP BK7, zQ (BK BK4) NB4_7.out _, BL HB⟩ ?_
   clear e71 e72 f71 BK7 BK4 HB
   rintro W5 ⟨hb7, hb4, hbw⟩
   have BK7 := K_ hb7
   have BK4 := K_ hb4
   have HB := K_ hbw
   clear hb7 hb4 hbw
   go_wp2_with (first | ((with_reducible refine zH (N := 25) rfl ?_); refine lo_ (g := g7) (cs := #[.bool b, .string (⟨#[48]⟩ : ByteArray), .string B, .int .i64 C]) _ ⟨BK BK7⟩ ?_ rfl rfl rfl Tryz.underlying36 rfl xT) | ((with_reducible refine zW (p := 4) rfl ?_); refine so_ (g := g4) (cs := #[.bool false, .string (⟨#[]⟩ : ByteArray), .string (⟨#[]⟩ : ByteArray), .int .i64 0]) (#[.bool b, .string (⟨#[48]⟩ : ByteArray), .string B, .int .i64 C]) ⟨BK BK4⟩ ?_ rfl rfl rfl rfl rfl xT rfl rfl; intro w9 hbk hfar hbel; replace BK4 := K_ hbk; replace HB := K_ (hbel _ _ GE4.out (BL HB)); clear hbk hfar hbel))
   refine bodyPost_ret (results_cell_row rfl _ _ g4 36 (#[.bool b, .string (⟨#[48]⟩ : ByteArray), .string B, .int .i64 C]) (0, 0) _ rfl BK4.out Tryz.underlying36 rfl xT) rfl ?_
   exact ⟨HRE.out, BL HB⟩
  have hie : (A ++ B).toList.isEmpty = false := by
   cases hh : (A ++ B).toList.isEmpty
   ·rfl
   exact absurd (zaw (by rw [← ByteArray.toList_eq, List.isEmpty_iff.1 hh])) hem
  have HRE := K_ (show Ending.returned (Value.agg #[.bool b, .string A, .string B, .int .i64 C]) = .returned (.agg #[.bool b, .string (zaL q.P (vB s1) e1).1, .string (zaL q.P (vB s1) e1).2.1, .int .i64 (zaL q.P (vB s1) e1).2.2]) by rw [HRES.out]; unfold zfn; rw [if_neg hem])
  clear hem HRES
  go_wp2_with (first | ((with_reducible refine zH (N := 25) rfl ?_); refine lo_ (g := g7) (cs := #[.bool b, .string A, .string B, .int .i64 C]) _ ⟨BK BK7⟩ ?_ rfl rfl rfl Tryz.underlying36 rfl xT) | ((with_reducible refine zW (p := 4) rfl ?_); refine so_ (g := g4) (cs := #[.bool false, .string (⟨#[]⟩ : ByteArray), .string (⟨#[]⟩ : ByteArray), .int .i64 0]) (#[.bool b, .string A, .string B, .int .i64 C]) ⟨BK BK4⟩ ?_ rfl rfl rfl rfl rfl xT rfl rfl; intro w9 hbk hfar hbel; replace BK4 := K_ hbk; replace HB := K_ (hbel _ _ GE4.out (BL HB)); clear hbk hfar hbel))
  refine bodyPost_ret (results_cell_row rfl _ _ g4 36 (#[.bool b, .string A, .string B, .int .i64 C]) (0, 0) _ rfl BK4.out Tryz.underlying36 rfl xT) rfl ?_
  exact ⟨HRE.out, BL HB⟩
theorem xJ.drewN {q : Pat} {W : World} {b n : Nat} (h : xJ q W b) : xJ q (W.drewN n) b := ⟨Kd.R_drewN h.r0 _, Kd.R_drewN h.r1 _, Kd.R_drewN h.r3 _, Kd.R_drewN h.r4 _⟩
theorem xJ.drew {q : Pat} {W : World} {b : Nat} (h : xJ q W b) : xJ q W.drew b := ⟨Kd.R_drew h.r0, Kd.R_drew h.r1, Kd.R_drew h.r3, Kd.R_drew h.r4⟩
set_option maxHeartbeats 8000000 in
set_option maxRecDepth 100000 in
theorem zik (s : ByteArray) (hs : s.size ≤ 1048576) (b : Bool) (s2 : ByteArray) (e : Int) (hs2 : s2.size ≤ 140737488351232) (w : World) :
  Calls Tryz.prog 12 #[.string s, .agg #[.bool b, .string s2, .int .i64 e]] w fun e' w' => ∃ (q : Pat) (ok : Bool), e' = .returned (.tuple #[.agg q.cs, .bool ok]) ∧ xJ q w' w.heap.size ∧ Below w.heap.size w w' ∧ (ok = true → zbl q ∧ s2.size ≤ 120) := by
 have HB := K_ (Below.refl w.heap.size w)
 have d12 : decide ((s2.size : Int) ≤ 120) = decide (s2.size ≤ 120) := by rw [decide_eq_decide]; omega
 go_enter Tryz.func12, Tryz.ntmps12
 go_upto_region 2 with (first | ((with_reducible refine zH (N := 3) rfl ?_); refine bx_ 3 (#[.bool b, .string s2, .int .i64 e]) 23 ?_ rfl rfl rfl rfl rfl; intro g3 hg w2 hbox hb; have BK3 := K_ hbox; have GE3 := ge_ hg HB; replace HB := zG HB hb; clear hb hbox hg) | ((with_reducible refine zH (N := 4) rfl ?_); refine be_ 4 (Z26) 26 ?_; intro g4 hg w2 hbox hb; have BK4 := K_ hbox; have GE4 := ge_ hg HB; have NB3_4 := nb_ hg BK3; replace BK3 := zD BK3 hb; replace HB := zG HB hb; clear hb hbox hg) | (go_at_call 31; refine (zia s hs _).mono ?_; rintro e9 w' ⟨q, E, a, rfl, hrr, hb, hqg, -⟩; have HRR := K_ (hrr.lower (zJ (BL HB))); have HQ := K_ hqg; replace HB := zG HB hb; replace BK3 := zD BK3 hb; replace BK4 := zD BK4 hb; clear hb hrr hqg) | ((with_reducible refine zH (N := 6) rfl ?_); refine be_ 6 (Z26) 26 ?_; intro g6 hg w2 hbox hb; have BK6 := K_ hbox; have GE6 := ge_ hg HB; have NB3_6 := nb_ hg BK3; replace BK3 := zD BK3 hb; have NB4_6 := nb_ hg BK4; replace BK4 := zD BK4 hb; replace HRR := K_ (HRR.out.below hb); replace HB := zG HB hb; clear hb hbox hg) | ((with_reducible refine zH (N := 7) rfl ?_); refine be_ 7 (Z51) 51 ?_; intro g7 hg w2 hbox hb; have BK7 := K_ hbox; have GE7 := ge_ hg HB; have NB3_7 := nb_ hg BK3; replace BK3 := zD BK3 hb; have NB4_7 := nb_ hg BK4; replace BK4 := zD BK4 hb; have NB6_7 := nb_ hg BK6; replace BK6 := zD BK6 hb; replace HRR := K_ (HRR.out.below hb); replace HB := zG HB hb; clear hb hbox hg) | ((with_reducible refine zW (p := 6) rfl ?_); refine so_ (g := g6) (cs := Z26) (q.cs) ⟨BK BK6⟩ ?_ rfl rfl rfl rfl rfl jX rfl rfl; intro w9 hbk hfar hbel; replace BK3 := K_ (hfar _ _ (by first | exact NB3_6.out | exact Ne.symm NB6_3.out) (BK BK3)); replace BK4 := K_ (hfar _ _ (by first | exact NB4_6.out | exact Ne.symm NB6_4.out) (BK BK4)); replace BK7 := K_ (hfar _ _ (by first | exact NB7_6.out | exact Ne.symm NB6_7.out) (BK BK7)); replace HRR := K_ (HRR.out.so (BK BK6) (by decide) hfar); replace BK6 := K_ hbk; replace HB := K_ (hbel _ _ GE6.out (BL HB)); clear hbk hfar hbel) | ((with_reducible refine zW (p := 7) rfl ?_); refine so_ (g := g7) (cs := Z51) (#[.int .i64 E, .int .i64 a]) ⟨BK BK7⟩ ?_ rfl rfl rfl rfl rfl uT rfl rfl; intro w9 hbk hfar hbel; replace BK3 := K_ (hfar _ _ (by first | exact NB3_7.out | exact Ne.symm NB7_3.out) (BK BK3)); replace BK4 := K_ (hfar _ _ (by first | exact NB4_7.out | exact Ne.symm NB7_4.out) (BK BK4)); replace BK6 := K_ (hfar _ _ (by first | exact NB6_7.out | exact Ne.symm NB7_6.out) (BK BK6)); replace HRR := K_ (HRR.out.so (BK BK7) (by decide) hfar); replace BK7 := K_ hbk; replace HB := K_ (hbel _ _ GE7.out (BL HB)); clear hbk hfar hbel))
 by_cases hE0 : E = 0
 ·have dE : (E == 0) = true := beq_iff_eq.2 hE0
  have hE := K_ hE0
  clear hE0
  by_cases h3 : s.size ≤ 300
  ·have d3 : decide ((s.size : Int) ≤ 300) = true := decide_eq_true (by omega)
   refine yL (n := 17) (S := fun W => W.heap[g6]? = some (.cells q.cs 26 (0, 0)) ∧ W.cell? ⟨g7, 0, none⟩ = some (.int .i64 E) ∧ W.cell? ⟨g3, 1, none⟩ = some (.string s2)) (ds := []) #[false, false, false, false, false, false, false, false, false, false, false, false, false, false, false, false, false] (by kernel_rfl) rfl rfl ⟨BK BK6, (zA (BK BK7) 0).trans rfl, (zA (BK BK3) 1).trans rfl⟩ (fun hHeld => ?_)
   refine jM (fun W => W.heap[g3]? = some (.cells #[.bool b, .string s2, .int .i64 e] 23 (0, 0)) ∧ W.heap[g4]? = some (.cells Z26 26 (0, 0)) ∧ W.heap[g6]? = some (.cells q.cs 26 (0, 0)) ∧ W.heap[g7]? = some (.cells #[.int .i64 E, .int .i64 a] 51 (0, 0)) ∧ xJ q W w.heap.size ∧ Below w.heap.size w W) ⟨BK BK3, BK BK4, BK BK6, BK BK7, HRR.out.drew, BL HB⟩ ?_
   clear hHeld BK3 BK4 BK6 BK7 HRR HB
   rintro W ⟨hb3, hb4, hb6, hb7, hrr, hbw⟩
   have BK3 := K_ hb3
   have BK4 := K_ hb4
   have BK6 := K_ hb6
   have BK7 := K_ hb7
   have HRR := K_ hrr
   have HB := K_ hbw
   clear hb3 hb4 hb6 hb7 hrr hbw
   have hHeld := (show W.heap[g6]? = some (.cells q.cs 26 (0, 0)) ∧ W.cell? ⟨g7, 0, none⟩ = some (.int .i64 E) ∧ W.cell? ⟨g3, 1, none⟩ = some (.string s2) from ⟨BK6.out, (zA BK7.out 0).trans rfl, (zA BK3.out 1).trans rfl⟩)
   refine take_ (i := 0) (N := some 13) (bb 17 1) rfl rfl (by kernel_rfl) (fun _ _ _ h => h) (v := .agg q.cs) (Or.inl ⟨by rfl, fun w' hs => vO _ ⟨hs.1⟩ rfl rfl Tryz.underlying26 rfl jX⟩) hHeld (by simp only [Act.put, List.setIfInBounds_toArray, List.set_cons_zero, List.set_cons_succ]; rfl) ?_
   refine pu_ 1 (some 14) (bb 17 3) (by kernel_rfl) ?_
   refine tk_ 2 (some 15) (bb 17 7) (by kernel_rfl) hHeld ?_
   refine yN (i := 3) (N := some 16) (v := .bool true) (bb 17 15) rfl rfl (by kernel_rfl) (fun _ _ _ h => h) (Or.inl ⟨by rfl, fun w' => by first | (go_simp; done) | (go_simp; rw [dE]; done) | (go_simp; rw [dE]; rfl) | (go_simp; simp [dE]; done)⟩) (by simp only [Act.put, List.setIfInBounds_toArray, List.set_cons_zero, List.set_cons_succ]; rfl) ?_
   refine pu_ 4 (some 17) (bb 17 31) (by kernel_rfl) ?_
   refine pu_ 5 (some 18) (bb 17 63) (by kernel_rfl) ?_
   refine pu_ 6 (some 19) (bb 17 127) (by kernel_rfl) ?_
   refine yN (i := 7) (N := some 20) (v := .bool true) (bb 17 255) rfl rfl (by kernel_rfl) (fun _ _ _ h => h) (Or.inl ⟨by rfl, fun w' => by first | (go_simp; done) | (go_simp; rw [d3]; done) | (go_simp; rw [d3]; rfl) | (go_simp; simp [d3]; done)⟩) (by simp only [Act.put, List.setIfInBounds_toArray, List.set_cons_zero, List.set_cons_succ]; rfl) ?_
   refine pu_ 8 (some 21) (bb 17 511) (by kernel_rfl) ?_
   refine pu_ 9 (some 22) (bb 17 1023) (by kernel_rfl) ?_
   refine pu_ 10 (some 23) (bb 17 2047) (by kernel_rfl) ?_
   refine tk_ 11 (some 24) (bb 17 4095) (by kernel_rfl) hHeld ?_
   refine pu_ 12 (some 25) (bb 17 8191) (by kernel_rfl) ?_
   refine yN (i := 13) (N := some 26) (v := .bool (decide (s2.size ≤ 120))) (bb 17 16383) rfl rfl (by kernel_rfl) (fun _ _ _ h => h) (Or.inl ⟨by rfl, fun w' => by first | (go_simp; done) | (go_simp; rw [d12]; done) | (go_simp; rw [d12]; rfl) | (go_simp; simp [d12]; done)⟩) (by simp only [Act.put, List.setIfInBounds_toArray, List.set_cons_zero, List.set_cons_succ]; rfl) ?_
   refine pu_ 14 (some 27) (bb 17 32767) (by kernel_rfl) ?_
   refine zY (i := 15) (N := none) (bb 17 65535) rfl rfl (by kernel_rfl) (by decide) (fun K hK => ?_)
   refine vF (g := g4) (cs := Z26) q.cs BK4 ?_ rfl rfl rfl rfl rfl jX rfl rfl
   intro w9 hbk hfar hbel
   have BK4' := K_ hbk
   replace HRR := K_ (HRR.out.so BK4.out (by decide) hfar)
   replace BK3 := K_ (hfar _ _ NB3_4.out BK3.out)
   replace BK6 := K_ (hfar _ _ (Ne.symm NB4_6.out) BK6.out)
   replace BK7 := K_ (hfar _ _ (Ne.symm NB4_7.out) BK7.out)
   replace HB := K_ (hbel _ _ GE4.out HB.out)
   refine hK.out _ _ ⟨BK6.out, (zA BK7.out 0).trans rfl, (zA BK3.out 1).trans rfl⟩ (fun _ => ?_)
   clear hK K hbk hfar hbel
   refine pu_ 16 (some 5) (bb 17 131071) (by kernel_rfl) ?_
   refine yV (by kernel_rfl) ?_
   go_wp2_with (fail)
   refine bodyPost_ret (zZ rfl _ _ g4 26 q.cs (0, 0) _ rfl BK4'.out Tryz.underlying26 rfl jX) rfl ?_
   exact ⟨q, decide (s2.size ≤ 120), rfl, HRR.out, BL HB, fun h => ⟨HQ.out hE.out, of_decide_eq_true h⟩⟩
  have d3 : decide ((s.size : Int) ≤ 300) = false := decide_eq_false (by omega)
  refine yL (n := 17) (S := fun W => W.heap[g6]? = some (.cells q.cs 26 (0, 0)) ∧ W.cell? ⟨g7, 0, none⟩ = some (.int .i64 E) ∧ W.cell? ⟨g3, 1, none⟩ = some (.string s2)) (ds := []) #[false, false, false, false, false, false, false, false, false, false, false, false, false, false, false, false, false] (by kernel_rfl) rfl rfl ⟨BK BK6, (zA (BK BK7) 0).trans rfl, (zA (BK BK3) 1).trans rfl⟩ (fun hHeld => ?_)
  refine jM (fun W => W.heap[g3]? = some (.cells #[.bool b, .string s2, .int .i64 e] 23 (0, 0)) ∧ W.heap[g4]? = some (.cells Z26 26 (0, 0)) ∧ W.heap[g6]? = some (.cells q.cs 26 (0, 0)) ∧ W.heap[g7]? = some (.cells #[.int .i64 E, .int .i64 a] 51 (0, 0)) ∧ xJ q W w.heap.size ∧ Below w.heap.size w W) ⟨BK BK3, BK BK4, BK BK6, BK BK7, HRR.out.drew, BL HB⟩ ?_
  clear hHeld BK3 BK4 BK6 BK7 HRR HB
  rintro W ⟨hb3, hb4, hb6, hb7, hrr, hbw⟩
  have BK3 := K_ hb3
  have BK4 := K_ hb4
  have BK6 := K_ hb6
  have BK7 := K_ hb7
  have HRR := K_ hrr
  have HB := K_ hbw
  clear hb3 hb4 hb6 hb7 hrr hbw
  have hHeld := (show W.heap[g6]? = some (.cells q.cs 26 (0, 0)) ∧ W.cell? ⟨g7, 0, none⟩ = some (.int .i64 E) ∧ W.cell? ⟨g3, 1, none⟩ = some (.string s2) from ⟨BK6.out, (zA BK7.out 0).trans rfl, (zA BK3.out 1).trans rfl⟩)
  refine take_ (i := 0) (N := some 13) (bb 17 1) rfl rfl (by kernel_rfl) (fun _ _ _ h => h) (v := .agg q.cs) (Or.inl ⟨by rfl, fun w' hs => vO _ ⟨hs.1⟩ rfl rfl Tryz.underlying26 rfl jX⟩) hHeld (by simp only [Act.put, List.setIfInBounds_toArray, List.set_cons_zero, List.set_cons_succ]; rfl) ?_
  refine pu_ 1 (some 14) (bb 17 3) (by kernel_rfl) ?_
  refine tk_ 2 (some 15) (bb 17 7) (by kernel_rfl) hHeld ?_
  refine yN (i := 3) (N := some 16) (v := .bool true) (bb 17 15) rfl rfl (by kernel_rfl) (fun _ _ _ h => h) (Or.inl ⟨by rfl, fun w' => by first | (go_simp; done) | (go_simp; rw [dE]; done) | (go_simp; rw [dE]; rfl) | (go_simp; simp [dE]; done)⟩) (by simp only [Act.put, List.setIfInBounds_toArray, List.set_cons_zero, List.set_cons_succ]; rfl) ?_
  refine pu_ 4 (some 17) (bb 17 31) (by kernel_rfl) ?_
  refine pu_ 5 (some 18) (bb 17 63) (by kernel_rfl) ?_
  refine pu_ 6 (some 19) (bb 17 127) (by kernel_rfl) ?_
  refine yN (i := 7) (N := some 20) (v := .bool false) (bb 17 255) rfl rfl (by kernel_rfl) (fun _ _ _ h => h) (Or.inl ⟨by rfl, fun w' => by first | (go_simp; done) | (go_simp; rw [d3]; done) | (go_simp; rw [d3]; rfl) | (go_simp; simp [d3]; done)⟩) (by simp only [Act.put, List.setIfInBounds_toArray, List.set_cons_zero, List.set_cons_succ]; rfl) ?_
  refine pu_ 8 (some 21) (bb 17 511) (by kernel_rfl) ?_
  refine pu_ 9 (some 22) (bb 17 1023) (by kernel_rfl) ?_
  refine yN (i := 10) (N := some 23) (v := undef) (bb 17 2047) rfl rfl (by kernel_rfl) (fun _ _ _ h => h) (Or.inr ⟨by rfl, rfl⟩) (by simp only [Act.put, List.setIfInBounds_toArray, List.set_cons_zero, List.set_cons_succ]; rfl) ?_
  refine yN (i := 11) (N := some 24) (v := undef) (bb 17 4095) rfl rfl (by kernel_rfl) (fun _ _ _ h => h) (Or.inr ⟨by rfl, rfl⟩) (by simp only [Act.put, List.setIfInBounds_toArray, List.set_cons_zero, List.set_cons_succ]; rfl) ?_
  refine yN (i := 12) (N := some 25) (v := undef) (bb 17 8191) rfl rfl (by kernel_rfl) (fun _ _ _ h => h) (Or.inr ⟨by rfl, rfl⟩) (by simp only [Act.put, List.setIfInBounds_toArray, List.set_cons_zero, List.set_cons_succ]; rfl) ?_
  refine yN (i := 13) (N := some 26) (v := undef) (bb 17 16383) rfl rfl (by kernel_rfl) (fun _ _ _ h => h) (Or.inr ⟨by rfl, rfl⟩) (by simp only [Act.put, List.setIfInBounds_toArray, List.set_cons_zero, List.set_cons_succ]; rfl) ?_
  refine pu_ 14 (some 27) (bb 17 32767) (by kernel_rfl) ?_
  refine zY (i := 15) (N := none) (bb 17 65535) rfl rfl (by kernel_rfl) (by decide) (fun K hK => ?_)
  refine vF (g := g4) (cs := Z26) q.cs BK4 ?_ rfl rfl rfl rfl rfl jX rfl rfl
  intro w9 hbk hfar hbel
  have BK4' := K_ hbk
  replace HRR := K_ (HRR.out.so BK4.out (by decide) hfar)
  replace BK3 := K_ (hfar _ _ NB3_4.out BK3.out)
  replace BK6 := K_ (hfar _ _ (Ne.symm NB4_6.out) BK6.out)
  replace BK7 := K_ (hfar _ _ (Ne.symm NB4_7.out) BK7.out)
  replace HB := K_ (hbel _ _ GE4.out HB.out)
  refine hK.out _ _ ⟨BK6.out, (zA BK7.out 0).trans rfl, (zA BK3.out 1).trans rfl⟩ (fun _ => ?_)
  clear hK K hbk hfar hbel
  refine pu_ 16 (some 5) (bb 17 131071) (by kernel_rfl) ?_
  refine yV (by kernel_rfl) ?_
  go_wp2_with (fail)
  refine bodyPost_ret (zZ rfl _ _ g4 26 q.cs (0, 0) _ rfl BK4'.out Tryz.underlying26 rfl jX) rfl ?_
  exact ⟨q, false, rfl, HRR.out, BL HB, fun h => by cases h⟩
 have dE : (E == 0) = false := beq_eq_false_iff_ne.2 hE0
 refine yL (n := 17) (S := fun W => W.heap[g6]? = some (.cells q.cs 26 (0, 0)) ∧ W.cell? ⟨g7, 0, none⟩ = some (.int .i64 E) ∧ W.cell? ⟨g3, 1, none⟩ = some (.string s2)) (ds := []) #[false, false, false, false, false, false, false, false, false, false, false, false, false, false, false, false, false] (by kernel_rfl) rfl rfl ⟨BK BK6, (zA (BK BK7) 0).trans rfl, (zA (BK BK3) 1).trans rfl⟩ (fun hHeld => ?_)
 refine jM (fun W => W.heap[g3]? = some (.cells #[.bool b, .string s2, .int .i64 e] 23 (0, 0)) ∧ W.heap[g4]? = some (.cells Z26 26 (0, 0)) ∧ W.heap[g6]? = some (.cells q.cs 26 (0, 0)) ∧ W.heap[g7]? = some (.cells #[.int .i64 E, .int .i64 a] 51 (0, 0)) ∧ xJ q W w.heap.size ∧ Below w.heap.size w W) ⟨BK BK3, BK BK4, BK BK6, BK BK7, HRR.out.drew, BL HB⟩ ?_
 clear hHeld BK3 BK4 BK6 BK7 HRR HB
 rintro W ⟨hb3, hb4, hb6, hb7, hrr, hbw⟩
 have BK3 := K_ hb3
 have BK4 := K_ hb4
 have BK6 := K_ hb6
 have BK7 := K_ hb7
 have HRR := K_ hrr
 have HB := K_ hbw
 clear hb3 hb4 hb6 hb7 hrr hbw
 have hHeld := (show W.heap[g6]? = some (.cells q.cs 26 (0, 0)) ∧ W.cell? ⟨g7, 0, none⟩ = some (.int .i64 E) ∧ W.cell? ⟨g3, 1, none⟩ = some (.string s2) from ⟨BK6.out, (zA BK7.out 0).trans rfl, (zA BK3.out 1).trans rfl⟩)
 refine take_ (i := 0) (N := some 13) (bb 17 1) rfl rfl (by kernel_rfl) (fun _ _ _ h => h) (v := .agg q.cs) (Or.inl ⟨by rfl, fun w' hs => vO _ ⟨hs.1⟩ rfl rfl Tryz.underlying26 rfl jX⟩) hHeld (by simp only [Act.put, List.setIfInBounds_toArray, List.set_cons_zero, List.set_cons_succ]; rfl) ?_
 refine pu_ 1 (some 14) (bb 17 3) (by kernel_rfl) ?_
 refine tk_ 2 (some 15) (bb 17 7) (by kernel_rfl) hHeld ?_
 refine yN (i := 3) (N := some 16) (v := .bool false) (bb 17 15) rfl rfl (by kernel_rfl) (fun _ _ _ h => h) (Or.inl ⟨by rfl, fun w' => by first | (go_simp; done) | (go_simp; rw [dE]; done) | (go_simp; rw [dE]; rfl) | (go_simp; simp [dE]; done)⟩) (by simp only [Act.put, List.setIfInBounds_toArray, List.set_cons_zero, List.set_cons_succ]; rfl) ?_
 refine pu_ 4 (some 17) (bb 17 31) (by kernel_rfl) ?_
 refine yN (i := 5) (N := some 18) (v := undef) (bb 17 63) rfl rfl (by kernel_rfl) (fun _ _ _ h => h) (Or.inr ⟨by rfl, rfl⟩) (by simp only [Act.put, List.setIfInBounds_toArray, List.set_cons_zero, List.set_cons_succ]; rfl) ?_
 refine yN (i := 6) (N := some 19) (v := undef) (bb 17 127) rfl rfl (by kernel_rfl) (fun _ _ _ h => h) (Or.inr ⟨by rfl, rfl⟩) (by simp only [Act.put, List.setIfInBounds_toArray, List.set_cons_zero, List.set_cons_succ]; rfl) ?_
 refine yN (i := 7) (N := some 20) (v := undef) (bb 17 255) rfl rfl (by kernel_rfl) (fun _ _ _ h => h) (Or.inr ⟨by rfl, rfl⟩) (by simp only [Act.put, List.setIfInBounds_toArray, List.set_cons_zero, List.set_cons_succ]; rfl) ?_
 refine pu_ 8 (some 21) (bb 17 511) (by kernel_rfl) ?_
 refine pu_ 9 (some 22) (bb 17 1023) (by kernel_rfl) ?_
 refine yN (i := 10) (N := some 23) (v := undef) (bb 17 2047) rfl rfl (by kernel_rfl) (fun _ _ _ h => h) (Or.inr ⟨by rfl, rfl⟩) (by simp only [Act.put, List.setIfInBounds_toArray, List.set_cons_zero, List.set_cons_succ]; rfl) ?_
 refine yN (i := 11) (N := some 24) (v := undef) (bb 17 4095) rfl rfl (by kernel_rfl) (fun _ _ _ h => h) (Or.inr ⟨by rfl, rfl⟩) (by simp only [Act.put, List.setIfInBounds_toArray, List.set_cons_zero, List.set_cons_succ]; rfl) ?_
 refine yN (i := 12) (N := some 25) (v := undef) (bb 17 8191) rfl rfl (by kernel_rfl) (fun _ _ _ h => h) (Or.inr ⟨by rfl, rfl⟩) (by simp only [Act.put, List.setIfInBounds_toArray, List.set_cons_zero, List.set_cons_succ]; rfl) ?_
 refine yN (i := 13) (N := some 26) (v := undef) (bb 17 16383) rfl rfl (by kernel_rfl) (fun _ _ _ h => h) (Or.inr ⟨by rfl, rfl⟩) (by simp only [Act.put, List.setIfInBounds_toArray, List.set_cons_zero, List.set_cons_succ]; rfl) ?_
 refine pu_ 14 (some 27) (bb 17 32767) (by kernel_rfl) ?_
 refine zY (i := 15) (N := none) (bb 17 65535) rfl rfl (by kernel_rfl) (by decide) (fun K hK => ?_)
 refine vF (g := g4) (cs := Z26) q.cs BK4 ?_ rfl rfl rfl rfl rfl jX rfl rfl
 intro w9 hbk hfar hbel
 have BK4' := K_ hbk
 replace HRR := K_ (HRR.out.so BK4.out (by decide) hfar)
 replace BK3 := K_ (hfar _ _ NB3_4.out BK3.out)
 replace BK6 := K_ (hfar _ _ (Ne.symm NB4_6.out) BK6.out)
 replace BK7 := K_ (hfar _ _ (Ne.symm NB4_7.out) BK7.out)
 replace HB := K_ (hbel _ _ GE4.out HB.out)
 refine hK.out _ _ ⟨BK6.out, (zA BK7.out 0).trans rfl, (zA BK3.out 1).trans rfl⟩ (fun _ => ?_)
 clear hK K hbk hfar hbel
 refine pu_ 16 (some 5) (bb 17 131071) (by kernel_rfl) ?_
 refine yV (by kernel_rfl) ?_
 go_wp2_with (fail)
 refine bodyPost_ret (zZ rfl _ _ g4 26 q.cs (0, 0) _ rfl BK4'.out Tryz.underlying26 rfl jX) rfl ?_
 exact ⟨q, false, rfl, HRR.out, BL HB, fun h => by cases h⟩
theorem znH {q : Pat} (hq : zbl q) (m : Int) (b : Bool) {n : Nat} {e : Int} (hn : (jZ n).size ≤ 1000) (h1 : -1000 ≤ e) (h2 : e ≤ 1000) : (jZ (rN q m b n e)).size ≤ 8000 ∧ -3000 ≤ rK q n e ∧ rK q n e ≤ 3000 := by
 obtain ⟨m0, m3⟩ := ziG q
 obtain ⟨s1, s2, s3, s4⟩ := znN hq.good hq.more (vC n (e + q.mult))
 obtain ⟨c1, c2, c3⟩ := zjh hq.good
 have ht := zjY (n := n) (e := e + q.mult) (by omega) (by omega) (by omega)
 have e1 := zdC n (e + q.mult) hn
 have e2 := zcG n (e + q.mult)
 have hc : (jZ (vA n)).size ≤ 1000 := zan (zfS n) hn
 unfold rN rK
 obtain ⟨p, hp⟩ : ∃ p, p = (stP q.P (vC n (e + q.mult))).2 := ⟨_, rfl⟩
 rw [← hp] at s4 ⊢
 have h := zkN (m := m) (neg := b) (n := vA n) (st := (stP q.P (vC n (e + q.mult))).1) (e := nE n (e + q.mult)) (p := p) (k := min (nE n (e + q.mult)) p) hc s2 s1 (by omega) (by omega)
 refine ⟨Nat.le_trans h ?_, by omega, by omega⟩
 omega
def zgc (q : Pat) (n : Nat) (e : Int) : Bool := decide (atE (vA n) (nE n (e + q.mult)) (rK q n e) % atE (stP q.P (vC n (e + q.mult))).1 (stP q.P (vC n (e + q.mult))).2 (rK q n e) = 0)
theorem znD {q : Pat} (hq : zbl q) {m : Int} {b : Bool} {n : Nat} {e : Int} (h : zgc q n e = true) : rN q m b n e = atE (vA n) (nE n (e + q.mult)) (rK q n e) := by
 have h := of_decide_eq_true h
 unfold rN rv0
 show rq m b (atE (vA n) (nE n (e + q.mult)) (rK q n e)) (atE _ _ (rK q n e)) * atE _ _ (rK q n e) = _
 rw [zkC h]
 exact Nat.div_mul_cancel (Nat.dvd_of_mod_eq_zero h)
theorem zjq {q : Pat} (hq : zbl q) {m : Int} (b : Bool) {n : Nat} {e : Int} (h : m = 7 → zgc q n e = true) :
  zar m b (vA n) (nE n (e + q.mult)) (stP q.P (vC n (e + q.mult))).1 (stP q.P (vC n (e + q.mult))).2 = (b, nD (rN q m b n e), nE (rN q m b n e) (rK q n e), 0) := by
 by_cases hm : m = 7
 ·have hf := h hm
  rw [znD hq hf, zhC, zhS _ (by unfold rK; omega)]
  exact zdG (of_decide_eq_true hf)
 exact zeo hm b (vA n) (nE n (e + q.mult)) _ _
def zhb (q : Pat) (m : Int) (b : Bool) (n : Nat) (e : Int) : Bool × ByteArray × Int × Int := if m = 7 ∧ zgc q n e = false then (false, ⟨#[]⟩, 0, 11) else zlq b (rN q m b n e) (rX q m b n e)
theorem zjM {q : Pat} (hq : zbl q) {m : Int} (h0 : 0 ≤ m) (h7 : m ≤ 7) (b : Bool) {s : ByteArray} {e : Int} (hg : zbX s e = true) (hr : zbI (vB s) e = true) :
  zfI q m b s e (zhb q m b (vB s) e) := by
 obtain ⟨g1, g2, g3, g4, g5⟩ := zcM.1 hg
 obtain ⟨m0, m3⟩ := ziG q
 have okd := OkD.of_good hg
 have hn : (jZ (vB s)).size ≤ 1000 := Nat.le_trans okd.val g3
 have okE : OkD s (e + q.mult) := ⟨g1, g2, by omega, by omega, by omega⟩
 have okS := OkS.norm (n := vB s) (e := e + q.mult) (by omega) (by omega) (by omega)
 have hc : vB (nD (vB s)) = vA (vB s) := zfE _
 have ht := zjY (n := vB s) (e := e + q.mult) (by omega) (by omega) (by omega)
 have hr1 : xD.f b s e = some true := by rw [zgd okd (OkD.norm (by omega) (by omega) (by omega)), hr]
 refine .inr (.inr (.inr ⟨zms h0 (by omega), by rw [zjg (by omega), hg], hr1, b, nD (vB s), nE (vB s) (e + q.mult), _, zkX okE (by omega) (by omega) (by omega) (by omega), zhI hq.good hq.more h0 (by omega) okS (by rw [hc, zcX]; omega) (by rw [hc, zcX]; omega), ?_⟩))
 rw [hc, zcX]
 by_cases hx : m = 7 ∧ zgc q (vB s) e = false
 ·obtain ⟨rfl, hf⟩ := hx
  have hf2 : ¬ atE (vA (vB s)) (nE (vB s) (e + q.mult)) (rK q (vB s) e) % atE (stP q.P (vC (vB s) (e + q.mult))).1 (stP q.P (vC (vB s) (e + q.mult))).2 (rK q (vB s) e) = 0 := of_decide_eq_false hf
  left
  rw [zcH hf2]
  refine ⟨by show (11 : Int) ≠ 0; decide, ?_⟩
  unfold zhb; rw [if_pos ⟨rfl, hf⟩]
 right
 rw [zjq hq b (fun h => by cases hh : zgc q (vB s) e; exact absurd ⟨h, hh⟩ hx; rfl)]
 obtain ⟨k1, k2, k3⟩ := znH hq m b (n := vB s) (e := e) hn (by omega) (by omega)
 obtain ⟨N, hN⟩ : ∃ N, N = rN q m b (vB s) e := ⟨_, rfl⟩
 obtain ⟨k, hk⟩ : ∃ k, k = rK q (vB s) e := ⟨_, rfl⟩
 have e1 : rX q m b (vB s) e = nE (vA N) (nE N k + -q.mult) := by unfold rX; rw [← hN, ← hk]
 unfold zhb
 rw [if_neg hx, e1]
 show ((0 : Int) = 0 ∧ _)
 refine ⟨rfl, b, nD N, nE (vA N) (nE N k + -q.mult), zbI (vA N) (nE (vA N) (nE N k + -q.mult)), ?_, ?_, ?_⟩
 ·show vG.f b (nD (rN q m b (vB s) e)) (nE (rN q m b (vB s) e) (rK q (vB s) e)) (-q.mult) = _
  rw [← hN, ← hk]
  rw [← hN] at k1
  rw [← hk] at k2 k3
  have a1 := zdC N k k1
  have a2 := zcG N k
  have a3 := zgV (n := N) k1 (by omega)
  rw [zkX ⟨zfB N, zfC N, by omega, by omega, by omega⟩ (by omega) (by omega) (by omega) (by omega), zfE, zjc]
 ·rw [← hN] at k1
  rw [← hk] at k2 k3
  have a1 := zdC N k k1
  have a2 := zcG N k
  have a3 := zgV (n := N) k1 (by omega)
  have hcz : (jZ (vA N)).size ≤ 8000 := zan (zfS N) k1
  have b1 := zdC (vA N) (nE N k + -q.mult) hcz
  have b2 := zcG (vA N) (nE N k + -q.mult)
  have b3 := zdC (vA N) (nE (vA N) (nE N k + -q.mult)) hcz
  have b4 := zcG (vA N) (nE (vA N) (nE N k + -q.mult))
  have := zgd (b := b) (s := nD N) (e := nE (vA N) (nE N k + -q.mult)) ⟨zfB N, zfC N, by omega, by omega, by omega⟩ (by rw [zfE, zjc]; exact ⟨zfB N, zfC N, by omega, by omega, by omega⟩)
  rw [this, zfE]
 unfold zlq; rw [hN]
def zjC (q : Pat) (m : Int) (b : Bool) (s : ByteArray) (e : Int) : Bool × ByteArray × Int × Int :=
 if 0 ≤ m ∧ m ≤ 7 then if zbX s e = true then if zbI (vB s) e = true then zhb q m b (vB s) e else (false, ⟨#[]⟩, 0, 10) else (false, ⟨#[]⟩, 0, 9) else (false, ⟨#[]⟩, 0, 1)
theorem zkr {q : Pat} (hq : zbl q) (m : Int) (b : Bool) {s : ByteArray} (e : Int) (hs : s.size ≤ 100000) : zfI q m b s e (zjC q m b s e) := by
 unfold zjC
 by_cases hm : 0 ≤ m ∧ m ≤ 7
 ·rw [if_pos hm]
  have hM := zms hm.1 hm.2
  by_cases hg : zbX s e = true
  ·rw [if_pos hg]
   by_cases hr : zbI (vB s) e = true
   ·rw [if_pos hr]; exact zjM hq hm.1 hm.2 b hg hr
   rw [if_neg hr]
   have okd := OkD.of_good hg
   obtain ⟨g1, g2, g3, g4, g5⟩ := zcM.1 hg
   have hn : (jZ (vB s)).size ≤ 1000 := Nat.le_trans okd.val g3
   exact .inr (.inr (.inl ⟨hM, by rw [zjg (by omega), hg], by rw [zgd okd (OkD.norm (by omega) (by omega) (by omega))]; cases h : zbI (vB s) e; rfl; exact absurd h hr, rfl⟩))
  rw [if_neg hg]
  exact .inr (.inl ⟨hM, by rw [zjg (by omega)]; cases h : zbX s e; rfl; exact absurd h hg, rfl⟩)
 rw [if_neg hm]
 refine .inl ⟨?_, rfl⟩
 unfold yA.f
 by_cases h : m ≥ 0
 ·rw [if_pos h, decide_eq_false (by omega)]
 rw [if_neg h]
def s19 : ByteArray := ⟨#[35, 35, 48, 46, 35, 35, 69, 48]⟩
def l19 : List S71 := [⟨35, false, 0⟩, ⟨35, false, 1⟩, ⟨48, false, 2⟩, ⟨46, false, 3⟩, ⟨35, false, 4⟩, ⟨35, false, 5⟩, ⟨69, false, 6⟩, ⟨48, false, 7⟩]
theorem zoF : zE.f 100 s19 = some (l19, 0, 0) := by kernel_rfl
def P19 : jW := ⟨1, 3, 0, 2, 0, 0, 0, 0, ⟨#[]⟩, true, 1, false⟩
theorem n19 : yZ (zaK (l19.map mk73) (uX (l19.map mk73)) (uU (l19.map mk73)) (l19.map mk73).length) = some P19 := by kernel_rfl
theorem h19 : xU (l19.map mk73) P19 := ⟨by decide +kernel, by kernel_rfl, n19, by kernel_rfl⟩
theorem p19 : jG (uF (l19.map mk73) (uX (l19.map mk73)) l19.length) = [] := by kernel_rfl
theorem f19 : jG (uG (l19.map mk73) (uU (l19.map mk73)) l19.length) = [] := by kernel_rfl
theorem zoB : xP l19 := by unfold xP; decide +kernel
theorem zoH : zau l19 := by unfold zau; decide +kernel
theorem zoG : ¬ mixed ([] : List S80) [] [⟨2, 0⟩] [] := by unfold mixed sgn; decide +kernel
theorem zoJ : Ev (fun k => zE.f k s19) (l19, 0, 0) := Ev.of (zE.mono s19) zoF
theorem zox {q : Pat} (h0 : q.l0 = []) (h1 : q.l1 = []) (h3 : q.l3 = [⟨2, 0⟩]) (h4 : q.l4 = []) : q.mult = 0 := by
 unfold Pat.mult Pat.sg; rw [h0, h1, h3, h4]; rfl
theorem zog {q : Pat} {E : Int} (h : zkS s19 q E) : E = 0 ∧ q.P = P19 ∧ q.mult = 0 := by
 have hx := h l19 zoJ zoB zoH P19 h19
 rw [p19, f19] at hx
 obtain ⟨h1, h2, h3, h4, h5, h6⟩ := hx zoG
 refine ⟨h1, h2, zox h3 h4 (by rw [h5, h3]) (by rw [h6, h4])⟩
theorem znw {q : Pat} (hq : zbl q) (hP : q.P = P19) (hm : q.mult = 0) : zfI q 4 false ⟨#[49, 50, 51, 52, 53]⟩ 0 (false, ⟨#[49, 50, 51]⟩, 2, 0) := by
 have h := zkr hq 4 false (s := ⟨#[49, 50, 51, 52, 53]⟩) 0 (by decide)
 have e : zjC q 4 false ⟨#[49, 50, 51, 52, 53]⟩ 0 = (false, ⟨#[49, 50, 51]⟩, 2, 0) := by
  unfold zjC zhb zlq rX zgc rN rK
  rw [hP, hm]
  decide +kernel
 rw [e] at h; exact h
theorem znk {q : Pat} (hm : q.mult = 0) : vG.f false ⟨#[49, 50, 51]⟩ 2 q.mult = some (false, ⟨#[49, 50, 51]⟩, 2) := by rw [hm]; kernel_rfl
theorem zoo {q : Pat} (hP : q.P = P19) : zaL q.P (vB ⟨#[49, 50, 51]⟩) 2 = (⟨#[49, 50]⟩, ⟨#[51]⟩, 3) := by rw [hP]; decide +kernel
theorem zoI : OkS ⟨#[49, 50, 51]⟩ 2 := ⟨rfl, by decide, by decide, by decide, by decide⟩
set_option maxHeartbeats 8000000 in
set_option maxRecDepth 100000 in
theorem zbn (w : World) (hG : Fig.Glob w) : Calls Tryz.prog 13 #[] w fun e w' => e = .returned (.bool true) ∧ Below w.heap.size w w' := by
 have HB := K_ (Below.refl w.heap.size w)
 have HG := K_ hG
 clear hG
 go_enter Tryz.func13, Tryz.ntmps13
 go_upto_region 2 with (first | (go_at_call 31; refine (zia ⟨#[35, 35, 48, 46, 35, 35, 69, 48]⟩ (by decide) _).mono ?_; rintro e9 w' ⟨q, E, a, rfl, hrr, hb, hqg, hex⟩; obtain ⟨rfl, hP, hm⟩ := zog hex; have HP := K_ hP; have HM := K_ hm; have HRR := K_ (hrr.lower (zJ (BL HB))); have HQ := K_ (hqg rfl); replace HB := zG HB hb; clear hb hrr hqg hex hP hm) | ((with_reducible refine zH (N := 1) rfl ?_); refine be_ 1 (Z26) 26 ?_; intro g1 hg w2 hbox hb; have BK1 := K_ hbox; have GE1 := ge_ hg HB; replace HRR := K_ (HRR.out.below hb); replace HB := zG HB hb; clear hb hbox hg) | ((with_reducible refine zH (N := 2) rfl ?_); refine be_ 2 (Z51) 51 ?_; intro g2 hg w2 hbox hb; have BK2 := K_ hbox; have GE2 := ge_ hg HB; have NB1_2 := nb_ hg BK1; replace BK1 := zD BK1 hb; replace HRR := K_ (HRR.out.below hb); replace HB := zG HB hb; clear hb hbox hg) | ((with_reducible refine zW (p := 1) rfl ?_); refine so_ (g := g1) (cs := Z26) (q.cs) ⟨BK BK1⟩ ?_ rfl rfl rfl rfl rfl jX rfl rfl; intro w9 hbk hfar hbel; replace BK2 := K_ (hfar _ _ (by first | exact NB2_1.out | exact Ne.symm NB1_2.out) (BK BK2)); replace HRR := K_ (HRR.out.so (BK BK1) (by decide) hfar); replace BK1 := K_ hbk; replace HB := K_ (hbel _ _ GE1.out (BL HB)); clear hbk hfar hbel) | ((with_reducible refine zW (p := 2) rfl ?_); refine so_ (g := g2) (cs := Z51) (#[.int .i64 0, .int .i64 a]) ⟨BK BK2⟩ ?_ rfl rfl rfl rfl rfl uT rfl rfl; intro w9 hbk hfar hbel; replace BK1 := K_ (hfar _ _ (by first | exact NB1_2.out | exact Ne.symm NB2_1.out) (BK BK1)); replace HRR := K_ (HRR.out.so (BK BK2) (by decide) hfar); replace BK2 := K_ hbk; replace HB := K_ (hbel _ _ GE2.out (BL HB)); clear hbk hfar hbel))
 clear BK2
 go_upto_region 3 with (first | ((with_reducible refine zH (N := 11) rfl ?_); refine lo_ (g := g1) (cs := q.cs) _ ⟨BK BK1⟩ ?_ rfl rfl rfl Tryz.underlying26 rfl jX) | (go_at_call 14; refine (zjQ q HQ.out.good 4 false ⟨#[49, 50, 51, 52, 53]⟩ 0 (false, ⟨#[49, 50, 51]⟩, 2, 0) (znw HQ.out HP.out HM.out) _ (xJ.ok HRR.out HQ.out) (Fig.Glob.below HG.out (BL HB))).mono ?_; rintro e9 w' ⟨rfl, hb⟩; replace HRR := K_ (HRR.out.below hb); replace HB := zG HB hb; replace BK1 := zD BK1 hb; clear hb) | ((with_reducible refine zH (N := 3) rfl ?_); refine be_ 3 (#[.bool false, .string (⟨#[]⟩ : ByteArray), .int .i64 0]) 23 ?_; intro g3 hg w2 hbox hb; have BK3 := K_ hbox; have GE3 := ge_ hg HB; have NB1_3 := nb_ hg BK1; replace BK1 := zD BK1 hb; replace HRR := K_ (HRR.out.below hb); replace HB := zG HB hb; clear hb hbox hg) | ((with_reducible refine zW (p := 3) rfl ?_); refine so_ (g := g3) (cs := #[.bool false, .string (⟨#[]⟩ : ByteArray), .int .i64 0]) (#[.bool false, .string (⟨#[49, 50, 51]⟩ : ByteArray), .int .i64 2]) ⟨BK BK3⟩ ?_ rfl rfl rfl rfl rfl yH rfl rfl; intro w9 hbk hfar hbel; replace BK1 := K_ (hfar _ _ (by first | exact NB1_3.out | exact Ne.symm NB3_1.out) (BK BK1)); replace HRR := K_ (HRR.out.so (BK BK3) (by decide) hfar); replace BK3 := K_ hbk; replace HB := K_ (hbel _ _ GE3.out (BL HB)); clear hbk hfar hbel))
 go_upto_region 4 with (first | ((with_reducible refine zH (N := 16) rfl ?_); refine lo_ (g := g1) (cs := q.cs) _ ⟨BK BK1⟩ ?_ rfl rfl rfl Tryz.underlying26 rfl jX) | ((with_reducible refine zH (N := 17) rfl ?_); refine lo_ (g := g3) (cs := #[.bool false, .string (⟨#[49, 50, 51]⟩ : ByteArray), .int .i64 2]) _ ⟨BK BK3⟩ ?_ rfl rfl rfl Tryz.underlying23 rfl yH) | (go_at_call 16; refine (zlG q HQ.out.good false ⟨#[49, 50, 51]⟩ 2 ⟨#[49, 50, 51]⟩ 2 (znk HM.out) zoI _ (xJ.ok HRR.out HQ.out)).mono ?_; rintro e9 w' ⟨he9, hb⟩; rw [zoo HP.out] at he9; subst he9; replace HRR := K_ (HRR.out.below hb); replace HB := zG HB hb; replace BK1 := zD BK1 hb; replace BK3 := zD BK3 hb; clear hb) | ((with_reducible refine zH (N := 5) rfl ?_); refine be_ 5 (#[.bool false, .string (⟨#[]⟩ : ByteArray), .string (⟨#[]⟩ : ByteArray), .int .i64 0]) 36 ?_; intro g5 hg w2 hbox hb; have BK5 := K_ hbox; have GE5 := ge_ hg HB; have NB1_5 := nb_ hg BK1; replace BK1 := zD BK1 hb; have NB3_5 := nb_ hg BK3; replace BK3 := zD BK3 hb; replace HRR := K_ (HRR.out.below hb); replace HB := zG HB hb; clear hb hbox hg) | ((with_reducible refine zW (p := 5) rfl ?_); refine so_ (g := g5) (cs := #[.bool false, .string (⟨#[]⟩ : ByteArray), .string (⟨#[]⟩ : ByteArray), .int .i64 0]) (#[.bool false, .string (⟨#[49, 50]⟩ : ByteArray), .string (⟨#[51]⟩ : ByteArray), .int .i64 3]) ⟨BK BK5⟩ ?_ rfl rfl rfl rfl rfl xT rfl rfl; intro w9 hbk hfar hbel; replace BK1 := K_ (hfar _ _ (by first | exact NB1_5.out | exact Ne.symm NB5_1.out) (BK BK1)); replace BK3 := K_ (hfar _ _ (by first | exact NB3_5.out | exact Ne.symm NB5_3.out) (BK BK3)); replace HRR := K_ (HRR.out.so (BK BK5) (by decide) hfar); replace BK5 := K_ hbk; replace HB := K_ (hbel _ _ GE5.out (BL HB)); clear hbk hfar hbel))
 go_wp2_with (first | ((with_reducible refine zH (N := 22) rfl ?_); refine zcC (g := g3) (cs := #[.bool false, .string (⟨#[49, 50, 51]⟩ : ByteArray), .int .i64 2]) _ ⟨BK BK3⟩ ?_ (by rfl) rfl rfl Tryz.underlying23 rfl yH) | ((with_reducible refine zH (N := 27) rfl ?_); refine zcC (g := g5) (cs := #[.bool false, .string (⟨#[49, 50]⟩ : ByteArray), .string (⟨#[51]⟩ : ByteArray), .int .i64 3]) _ ⟨BK BK5⟩ ?_ (by rfl) rfl rfl Tryz.underlying36 rfl xT) | ((with_reducible refine zH (N := 32) rfl ?_); refine zcC (g := g1) (cs := q.cs) _ ⟨BK BK1⟩ ?_ (by rfl) rfl rfl Tryz.underlying26 rfl jX) | (go_at_call 27; refine (zbW q _).mono ?_; rintro e9 w' ⟨he9, hb⟩; rw [HP.out, show xO P19 = true from rfl] at he9; subst he9; replace HB := zG HB hb; clear hb))
 go_ret
 exact ⟨rfl, BL HB⟩
set_option maxHeartbeats 4000000 in
set_option maxRecDepth 100000 in
theorem zea (q : Pat) (w : World) : Calls Tryz.prog 28 #[.agg q.cs] w fun e w' => e = .returned (.bool (xO q.P)) ∧ Below w.heap.size w w' := by
 have HB := K_ (Below.refl w.heap.size w)
 go_enter Tryz.func28, Tryz.ntmps28
 go_upto_region 1 with ((with_reducible refine zH (N := 1) rfl ?_); refine bx_ 1 q.cs 26 ?_ rfl rfl rfl rfl rfl; intro g1 hg w2 hbox hb; have BK1 := K_ hbox; replace HB := zG HB hb; clear hb hbox hg)
 have e14 : w2.cell? ⟨g1, 14, none⟩ = some (.bool q.P.sci) := (zA BK1.out 14).trans rfl
 have e6 : w2.cell? ⟨g1, 6, none⟩ = some (.int .i64 q.P.xi) := (zA BK1.out 6).trans rfl
 have e5 : w2.cell? ⟨g1, 5, none⟩ = some (.int .i64 q.P.mi) := (zA BK1.out 5).trans rfl
 have HE := K_ (show xO q.P = (q.P.sci && (decide (q.P.mi < q.P.xi) && decide (1 < q.P.xi))) from rfl)
 cases hs : q.P.sci
 ·rw [hs] at e14 HE
  go_wp2
  go_ret
  exact ⟨by rw [HE.out]; rfl, BL HB⟩
 rw [hs] at e14 HE
 by_cases h1 : q.P.mi < q.P.xi
 ·have d1 : decide (q.P.mi < q.P.xi) = true := decide_eq_true h1
  rw [d1] at HE
  by_cases h2 : 1 < q.P.xi
  ·have d2 : decide (1 < q.P.xi) = true := decide_eq_true h2
   rw [d2] at HE
   go_wp2
   go_ret
   exact ⟨by rw [HE.out]; rfl, BL HB⟩
  have d2 : decide (1 < q.P.xi) = false := decide_eq_false h2
  rw [d2] at HE
  go_wp2
  go_ret
  exact ⟨by rw [HE.out]; rfl, BL HB⟩
 have d1 : decide (q.P.mi < q.P.xi) = false := decide_eq_false h1
 rw [d1] at HE
 go_wp2
 go_ret
 exact ⟨by rw [HE.out]; rfl, BL HB⟩
set_option maxHeartbeats 4000000 in
set_option maxRecDepth 100000 in
theorem ziv (q : Pat) (hg : uE q.P) (w : World) : Calls Tryz.prog 30 #[.agg q.cs] w fun e w' => e = .returned (.int .i64 (jY q.P)) ∧ Below w.heap.size w w' := by
 have HB := K_ (Below.refl w.heap.size w)
 have hz : q.P.mi + q.P.xf = 0 ↔ q.P.mi = 0 ∧ q.P.xf = 0 := by have := hg.mi0; have := hg.mf0; have := hg.mfx; omega
 have HZ := K_ hz
 have HW := K_ (show jY q.P = if 0 < q.P.ms ∨ (xO q.P = true ∧ q.P.mi = 0) ∨ q.P.mi + q.P.xf = 0 then 1 else q.P.mi from rfl)
 clear hg hz
 go_enter Tryz.func30, Tryz.ntmps30
 go_upto_region 1 with ((with_reducible refine zH (N := 1) rfl ?_); refine bx_ 1 (q.cs) 26 ?_ rfl rfl rfl rfl rfl; intro g1 hg w2 hbox hb; have BK1 := K_ hbox; have GE1 := ge_ hg HB; replace HB := zG HB hb; clear hb hbox hg)
 have e9 := (show w2.cell? ⟨g1, 9, none⟩ = some (.int .i64 q.P.ms) from (zA BK1.out 9).trans rfl)
 have e5 := (show w2.cell? ⟨g1, 5, none⟩ = some (.int .i64 q.P.mi) from (zA BK1.out 5).trans rfl)
 have e8 := (show w2.cell? ⟨g1, 8, none⟩ = some (.int .i64 q.P.xf) from (zA BK1.out 8).trans rfl)
 by_cases h9 : 0 < q.P.ms
 ·have d9 : decide (0 < q.P.ms) = true := decide_eq_true h9
  have HR := K_ (show jY q.P = 1 by rw [HW.out, if_pos (.inl h9)])
  clear e5 e8 HW
  go_wp2
  go_ret
  exact ⟨by rw [HR.out]; rfl, BL HB⟩
 have d9 : decide (0 < q.P.ms) = false := decide_eq_false h9
 have HE : ∀ W, Aside0 (Calls Tryz.prog 28 #[.agg q.cs] W fun e w' => e = .returned (.bool (xO q.P)) ∧ Below W.heap.size W w') := fun W => K_ (zea q W)
 have h1 : (xO q.P = true ∧ q.P.mi = 0) ∨ ((xO q.P = false ∨ q.P.mi ≠ 0)) := by
  cases xO q.P
  ·exact .inr (.inl rfl)
  by_cases h : q.P.mi = 0
  ·exact .inl ⟨rfl, h⟩
  exact .inr (.inr h)
 by_cases h5 : q.P.mi = 0
 ·have d5 : (q.P.mi == 0) = true := beq_iff_eq.2 h5
  by_cases h8 : q.P.xf = 0
  ·have d8 : (q.P.xf == 0) = true := beq_iff_eq.2 h8
   have HR := K_ (show jY q.P = 1 by rw [HW.out, if_pos (.inr (.inr (HZ.out.2 ⟨h5, h8⟩)))])
   clear HW h5 h8 h1
   cases hs : xO q.P
   all_goals
    rw [hs] at HE
    clear hs
    go_wp2_with (first | ((with_reducible refine zH (N := 7) rfl ?_); refine zcC (g := g1) (cs := q.cs) _ ⟨BK BK1⟩ ?_ (by rfl) rfl rfl Tryz.underlying26 rfl jX) | (go_at_call 28; refine ((HE _).out).mono ?_; rintro e w' ⟨rfl, hb⟩; replace HB := zG HB hb; replace BK1 := zD BK1 hb; clear hb e5 e8; have e5 := (show w'.cell? ⟨g1, 5, none⟩ = some (.int .i64 q.P.mi) from (zA BK1.out 5).trans rfl); have e8 := (show w'.cell? ⟨g1, 8, none⟩ = some (.int .i64 q.P.xf) from (zA BK1.out 8).trans rfl)))
    go_ret
    exact ⟨by rw [HR.out]; rfl, BL HB⟩
  have d8 : (q.P.xf == 0) = false := beq_eq_false_iff_ne.2 h8
  cases hs : xO q.P
  ·have HR := K_ (show jY q.P = q.P.mi by rw [HW.out, if_neg (by rw [hs, HZ.out]; rintro (h | h | h); exact h9 h; exact absurd h.1 (by decide); exact h8 h.2)])
   rw [hs] at HE
   clear hs HW h5 h8 h1
   go_wp2_with (first | ((with_reducible refine zH (N := 7) rfl ?_); refine zcC (g := g1) (cs := q.cs) _ ⟨BK BK1⟩ ?_ (by rfl) rfl rfl Tryz.underlying26 rfl jX) | (go_at_call 28; refine ((HE _).out).mono ?_; rintro e w' ⟨rfl, hb⟩; replace HB := zG HB hb; replace BK1 := zD BK1 hb; clear hb e5 e8; have e5 := (show w'.cell? ⟨g1, 5, none⟩ = some (.int .i64 q.P.mi) from (zA BK1.out 5).trans rfl); have e8 := (show w'.cell? ⟨g1, 8, none⟩ = some (.int .i64 q.P.xf) from (zA BK1.out 8).trans rfl)))
   go_ret
   exact ⟨by rw [HR.out]; rfl, BL HB⟩
  have HR := K_ (show jY q.P = 1 by rw [HW.out, if_pos (.inr (.inl ⟨hs, h5⟩))])
  rw [hs] at HE
  clear hs HW h5 h8 h1
  go_wp2_with (first | ((with_reducible refine zH (N := 7) rfl ?_); refine zcC (g := g1) (cs := q.cs) _ ⟨BK BK1⟩ ?_ (by rfl) rfl rfl Tryz.underlying26 rfl jX) | (go_at_call 28; refine ((HE _).out).mono ?_; rintro e w' ⟨rfl, hb⟩; replace HB := zG HB hb; replace BK1 := zD BK1 hb; clear hb e5 e8; have e5 := (show w'.cell? ⟨g1, 5, none⟩ = some (.int .i64 q.P.mi) from (zA BK1.out 5).trans rfl); have e8 := (show w'.cell? ⟨g1, 8, none⟩ = some (.int .i64 q.P.xf) from (zA BK1.out 8).trans rfl)))
  go_ret
  exact ⟨by rw [HR.out]; rfl, BL HB⟩
 have d5 : (q.P.mi == 0) = false := beq_eq_false_iff_ne.2 h5
 have HR := K_ (show jY q.P = q.P.mi by rw [HW.out, if_neg (by rw [HZ.out]; rintro (h | h | h); exact h9 h; exact h5 h.2; exact h5 h.1)])
 clear HW h5 h1
 cases hs : xO q.P
 all_goals
  rw [hs] at HE
  clear hs
  go_wp2_with (first | ((with_reducible refine zH (N := 7) rfl ?_); refine zcC (g := g1) (cs := q.cs) _ ⟨BK BK1⟩ ?_ (by rfl) rfl rfl Tryz.underlying26 rfl jX) | (go_at_call 28; refine ((HE _).out).mono ?_; rintro e w' ⟨rfl, hb⟩; replace HB := zG HB hb; replace BK1 := zD BK1 hb; clear hb e5 e8; have e5 := (show w'.cell? ⟨g1, 5, none⟩ = some (.int .i64 q.P.mi) from (zA BK1.out 5).trans rfl); have e8 := (show w'.cell? ⟨g1, 8, none⟩ = some (.int .i64 q.P.xf) from (zA BK1.out 8).trans rfl)))
  go_ret
  exact ⟨by rw [HR.out]; rfl, BL HB⟩
set_option maxHeartbeats 4000000 in
set_option maxRecDepth 100000 in
theorem zgM (q : Pat) (hg : uE q.P) (w : World) : Calls Tryz.prog 26 #[.agg q.cs] w fun e w' => e = .returned (.tuple #[.int .i64 (xM q.P).1, .int .i64 (xM q.P).2]) ∧ Below w.heap.size w w' := by
 have HB := K_ (Below.refl w.heap.size w)
 have HG := K_ hg
 have hb1 := zbE hg
 have hw1 : wrap64 (jY q.P + q.P.mf) = jY q.P + q.P.mf := by have := hg.mf0; have := hg.mfx; have := hg.xf4; unfold wrap64; omega
 have hw2 : wrap64 (jY q.P + q.P.xf) = jY q.P + q.P.xf := by have := hg.mf0; have := hg.mfx; have := hg.xf4; unfold wrap64; omega
 have HW2 := K_ (show xM q.P = if 0 < q.P.ms then (q.P.ms, q.P.xs) else (jY q.P + q.P.mf, jY q.P + q.P.xf) from rfl)
 clear hg hb1
 go_enter Tryz.func26, Tryz.ntmps26
 go_upto_region 1 with ((with_reducible refine zH (N := 1) rfl ?_); refine bx_ 1 (q.cs) 26 ?_ rfl rfl rfl rfl rfl; intro g1 hg w2 hbox hb; have BK1 := K_ hbox; have GE1 := ge_ hg HB; replace HB := zG HB hb; clear hb hbox hg)
 have e9 := (show w2.cell? ⟨g1, 9, none⟩ = some (.int .i64 q.P.ms) from (zA BK1.out 9).trans rfl)
 by_cases h9 : 0 < q.P.ms
 ·have d9 : decide (0 < q.P.ms) = true := decide_eq_true h9
  have HR := K_ (show xM q.P = (q.P.ms, q.P.xs) by rw [HW2.out, if_pos h9])
  have e10 := (show w2.cell? ⟨g1, 10, none⟩ = some (.int .i64 q.P.xs) from (zA BK1.out 10).trans rfl)
  clear HW2
  go_upto_region 2 with (fail)
  go_region
  go_wp2_with (fail)
  go_ret2
  exact ⟨by rw [HR.out]; rfl, BL HB⟩
 have d9 : decide (0 < q.P.ms) = false := decide_eq_false h9
 have HR := K_ (show xM q.P = (wrap64 (jY q.P + q.P.mf), wrap64 (jY q.P + q.P.xf)) by rw [HW2.out, if_neg h9, hw1, hw2])
 clear HW2 hw1 hw2
 go_upto_region 4 with (first | ((with_reducible refine zH (N := 12) rfl ?_); refine lo_ (g := g1) (cs := q.cs) _ ⟨BK BK1⟩ ?_ rfl rfl rfl Tryz.underlying26 rfl jX) | (go_at_call 30; refine (ziv q HG.out _).mono ?_; rintro e9 w' ⟨rfl, hb⟩; replace HB := zG HB hb; replace BK1 := zD BK1 hb; clear hb))
 clear e9
 have e7 := (show w'.cell? ⟨g1, 7, none⟩ = some (.int .i64 q.P.mf) from (zA BK1.out 7).trans rfl)
 have e8 := (show w'.cell? ⟨g1, 8, none⟩ = some (.int .i64 q.P.xf) from (zA BK1.out 8).trans rfl)
 go_region
 go_wp2_with (fail)
 go_ret2
 exact ⟨by rw [HR.out]; rfl, BL HB⟩
theorem zls {P : jW} (hg : uE P) : 0 ≤ (xM P).1 ∧ 1 ≤ (xM P).2 ∧ (xM P).1 ≤ (xM P).2 := by
 have h1 := zgq hg
 obtain ⟨c1, c2, c3⟩ := zjh hg
 have := hg.mfx; have := hg.msx
 refine ⟨h1.1, by omega, ?_⟩
 unfold xM
 split
 ·show P.ms ≤ P.xs; omega
 show jY P + P.mf ≤ jY P + P.xf; omega
set_option maxHeartbeats 8000000 in
set_option maxRecDepth 100000 in
theorem counts_law (s : ByteArray) (hs : s.size ≤ 1048576) (w : World) (hG : Fig.Glob w) :
  Calls Tryz.prog 10 #[.string s] w fun e w' => e = .returned (.bool true) ∧ Below w.heap.size w w' := by
 have HB := K_ (Below.refl w.heap.size w)
 have HG := K_ hG
 clear hG
 go_enter Tryz.func10, Tryz.ntmps10
 go_upto_region 2 with (first | (go_at_call 12; refine (zik s hs false ⟨#[]⟩ 0 (by decide) _).mono ?_; rintro e9 w' ⟨q, ok, rfl, hrr, hb, hqg⟩; have HRR := K_ (hrr.lower (zJ (BL HB))); have HQ := K_ hqg; replace HB := zG HB hb; clear hb hrr hqg) | ((with_reducible refine zH (N := 3) rfl ?_); refine be_ 3 (Z26) 26 ?_; intro g3 hg w2 hbox hb; have BK3 := K_ hbox; have GE3 := ge_ hg HB; replace HRR := K_ (HRR.out.below hb); replace HB := zG HB hb; clear hb hbox hg) | ((with_reducible refine zW (p := 3) rfl ?_); refine so_ (g := g3) (cs := Z26) (q.cs) ⟨BK BK3⟩ ?_ rfl rfl rfl rfl rfl jX rfl rfl; intro w9 hbk hfar hbel; replace HRR := K_ (HRR.out.so (BK BK3) (by decide) hfar); replace BK3 := K_ hbk; replace HB := K_ (hbel _ _ GE3.out (BL HB)); clear hbk hfar hbel))
 cases ok
 ·go_wp2_with (go_at_call 13; refine (zbn _ (Fig.Glob.below HG.out (BL HB))).mono ?_; rintro e9 w' ⟨rfl, hb⟩; replace HB := zG HB hb; clear hb)
  go_ret
  exact ⟨rfl, BL HB⟩
 replace HQ := K_ (HQ.out rfl).1
 go_upto_region 5 with (first | ((with_reducible refine zH (N := 19) rfl ?_); refine lo_ (g := g3) (cs := q.cs) _ ⟨BK BK3⟩ ?_ rfl rfl rfl Tryz.underlying26 rfl jX) | (go_at_call 25; refine (zdJ q HQ.out.good _).mono ?_; rintro e9 w' ⟨rfl, hb⟩; replace HRR := K_ (HRR.out.below hb); replace HB := zG HB hb; replace BK3 := zD BK3 hb; clear hb))
 have e14 := (show w'.cell? ⟨g3, 14, none⟩ = some (.bool q.P.sci) from (zA BK3.out 14).trans rfl)
 have e9 := (show w'.cell? ⟨g3, 9, none⟩ = some (.int .i64 q.P.ms) from (zA BK3.out 9).trans rfl)
 by_cases hs2 : q.P.sci = true ∨ 0 < q.P.ms
 ·have hab := zls HQ.out.good
  rcases hs2 with hs2 | hs2
  ·rw [hs2] at e14
   clear hs2
   go_upto_region 7 with (first | ((with_reducible refine zH (N := 31) rfl ?_); refine lo_ (g := g3) (cs := q.cs) _ ⟨BK BK3⟩ ?_ rfl rfl rfl Tryz.underlying26 rfl jX) | (go_at_call 26; refine (zgM q HQ.out.good _).mono ?_; rintro e9 w' ⟨rfl, hb⟩; replace HRR := K_ (HRR.out.below hb); replace HB := zG HB hb; replace BK3 := zD BK3 hb; clear hb))
   obtain ⟨a1, ha1⟩ : ∃ a1, a1 = (xM q.P).1 := ⟨_, rfl⟩
   obtain ⟨b1, hb1⟩ : ∃ b1, b1 = (xM q.P).2 := ⟨_, rfl⟩
   rw [← ha1, ← hb1] at hab
   rw [← ha1, ← hb1]
   have da : decide (a1 ≥ 0) = true := decide_eq_true hab.1
   have db : decide (b1 ≥ 1) = true := decide_eq_true hab.2.1
   have dab : decide (a1 ≤ b1) = true := decide_eq_true hab.2.2
   clear hab ha1 hb1
   refine yL (n := 32) (S := fun W => W.heap[g3]? = some (.cells q.cs 26 (0, 0))) (ds := []) #[false, false, false, false, false, false, false, false, false, false, false, false, false, false, false, false, false, false, false, false, false, false, false, false, false, false, false, false, false, false, false, false] (by kernel_rfl) rfl rfl (BK BK3) (fun hHeld => ?_)
   refine jM (fun W => W.heap[g3]? = some (.cells q.cs 26 (0, 0)) ∧ Below w.heap.size w W) ⟨BK BK3, BL HB⟩ ?_
   clear hHeld BK3 HB
   rintro W ⟨hb3, hbw⟩
   have BK3 := K_ hb3
   have HB := K_ hbw
   clear hb3 hbw
   have hHeld := (show W.heap[g3]? = some (.cells q.cs 26 (0, 0)) from BK3.out)
   refine zY (i := 0) (N := some 35) (bb 32 1) rfl rfl (by kernel_rfl) (by decide) (fun K hK => ?_)
   refine jN Tryz.func13 (by kernel_rfl) rfl #[] (by rfl) rfl rfl (by (try simp only [List.map_toArray]); (try simp only [List.map_cons]); (try simp only [List.map_nil]); first | done | rfl) ?_
   refine (zbn _ (Fig.Glob.below HG.out (BL HB))).mono ?_
   rintro e9 w' ⟨rfl, hb⟩
   refine ⟨_, rfl, ?_⟩
   replace HB := zG HB hb
   replace BK3 := zD BK3 hb
   clear hb
   clear hHeld
   refine hK.out _ _ BK3.out (fun hHeld => ?_)
   clear hK K
   refine jL (a' := ?_) ?_ ?_
   rotate_left
   ·show Act.put _ (some 35) _ = _
    simp only [Act.put, List.setIfInBounds_toArray, List.set_cons_zero, List.set_cons_succ]
    rfl
   refine pu_ 1 (some 36) (bb 32 3) (by kernel_rfl) ?_
   refine pu_ 2 (some 37) (bb 32 7) (by kernel_rfl) ?_
   refine pu_ 3 (some 38) (bb 32 15) (by kernel_rfl) ?_
   refine yN (i := 4) (N := some 39) (v := .bool true) (bb 32 31) rfl rfl (by kernel_rfl) (fun _ _ _ h => h) (Or.inl ⟨by rfl, fun w' => by first | (go_simp; done) | (go_simp; rw [beq_self_eq_true]; done) | (go_simp; rw [beq_self_eq_true]; rfl) | (go_simp; simp [beq_self_eq_true]; done)⟩) (by simp only [Act.put, List.setIfInBounds_toArray, List.set_cons_zero, List.set_cons_succ]; rfl) ?_
   refine pu_ 5 (some 40) (bb 32 63) (by kernel_rfl) ?_
   refine pu_ 6 (some 41) (bb 32 127) (by kernel_rfl) ?_
   refine pu_ 7 (some 42) (bb 32 255) (by kernel_rfl) ?_
   refine pu_ 8 (some 43) (bb 32 511) (by kernel_rfl) ?_
   refine yN (i := 9) (N := some 44) (v := .bool true) (bb 32 1023) rfl rfl (by kernel_rfl) (fun _ _ _ h => h) (Or.inl ⟨by rfl, fun w' => by first | (go_simp; done) | (go_simp; rw [beq_self_eq_true]; done) | (go_simp; rw [beq_self_eq_true]; rfl) | (go_simp; simp [beq_self_eq_true]; done)⟩) (by simp only [Act.put, List.setIfInBounds_toArray, List.set_cons_zero, List.set_cons_succ]; rfl) ?_
   refine pu_ 10 (some 45) (bb 32 2047) (by kernel_rfl) ?_
   refine pu_ 11 (some 46) (bb 32 4095) (by kernel_rfl) ?_
   refine pu_ 12 (some 47) (bb 32 8191) (by kernel_rfl) ?_
   refine yN (i := 13) (N := some 48) (v := .bool true) (bb 32 16383) rfl rfl (by kernel_rfl) (fun _ _ _ h => h) (Or.inl ⟨by rfl, fun w' => by first | (go_simp; done) | (go_simp; rw [da]; done) | (go_simp; rw [da]; rfl) | (go_simp; simp [da]; done)⟩) (by simp only [Act.put, List.setIfInBounds_toArray, List.set_cons_zero, List.set_cons_succ]; rfl) ?_
   refine pu_ 14 (some 49) (bb 32 32767) (by kernel_rfl) ?_
   refine pu_ 15 (some 50) (bb 32 65535) (by kernel_rfl) ?_
   refine pu_ 16 (some 51) (bb 32 131071) (by kernel_rfl) ?_
   refine yN (i := 17) (N := some 52) (v := .bool true) (bb 32 262143) rfl rfl (by kernel_rfl) (fun _ _ _ h => h) (Or.inl ⟨by rfl, fun w' => by first | (go_simp; done) | (go_simp; rw [db]; done) | (go_simp; rw [db]; rfl) | (go_simp; simp [db]; done)⟩) (by simp only [Act.put, List.setIfInBounds_toArray, List.set_cons_zero, List.set_cons_succ]; rfl) ?_
   refine pu_ 18 (some 53) (bb 32 524287) (by kernel_rfl) ?_
   refine pu_ 19 (some 54) (bb 32 1048575) (by kernel_rfl) ?_
   refine pu_ 20 (some 55) (bb 32 2097151) (by kernel_rfl) ?_
   refine pu_ 21 (some 56) (bb 32 4194303) (by kernel_rfl) ?_
   refine yN (i := 22) (N := some 57) (v := .bool true) (bb 32 8388607) rfl rfl (by kernel_rfl) (fun _ _ _ h => h) (Or.inl ⟨by rfl, fun w' => by first | (go_simp; done) | (go_simp; rw [dab]; done) | (go_simp; rw [dab]; rfl) | (go_simp; simp [dab]; done)⟩) (by simp only [Act.put, List.setIfInBounds_toArray, List.set_cons_zero, List.set_cons_succ]; rfl) ?_
   refine pu_ 23 (some 58) (bb 32 16777215) (by kernel_rfl) ?_
   refine pu_ 24 (some 59) (bb 32 33554431) (by kernel_rfl) ?_
   refine take_ (i := 25) (N := some 60) (bb 32 67108863) rfl rfl (by kernel_rfl) (fun _ _ _ h => h) (v := .agg q.cs) (Or.inl ⟨by rfl, fun w' hs => vO _ ⟨hs⟩ rfl rfl Tryz.underlying26 rfl jX⟩) hHeld (by simp only [Act.put, List.setIfInBounds_toArray, List.set_cons_zero, List.set_cons_succ]; rfl) ?_
   refine take_ (i := 27) (N := some 62) (bb 32 201326591) rfl rfl (by kernel_rfl) (fun _ _ _ h => h) (v := .agg q.cs) (Or.inl ⟨by rfl, fun w' hs => vO _ ⟨hs⟩ rfl rfl Tryz.underlying26 rfl jX⟩) hHeld (by simp only [Act.put, List.setIfInBounds_toArray, List.set_cons_zero, List.set_cons_succ]; rfl) ?_
   refine zY (i := 26) (N := some 61) (bb 32 268435455) rfl rfl (by kernel_rfl) (by decide) (fun K hK => ?_)
   refine jN Tryz.func27 (by kernel_rfl) rfl #[.agg q.cs] (by rfl) rfl rfl (by (try simp only [List.map_toArray]); (try simp only [List.map_cons]); (try simp only [List.map_nil]); first | done | rfl) ?_
   refine (zbW q _).mono ?_
   rintro e9 w' ⟨rfl, hb⟩
   refine ⟨_, rfl, ?_⟩
   replace HB := zG HB hb
   replace BK3 := zD BK3 hb
   clear hb
   clear hHeld
   refine hK.out _ _ BK3.out (fun hHeld => ?_)
   clear hK K
   refine jL (a' := ?_) ?_ ?_
   rotate_left
   ·show Act.put _ (some 61) _ = _
    simp only [Act.put, List.setIfInBounds_toArray, List.set_cons_zero, List.set_cons_succ]
    rfl
   refine zY (i := 28) (N := some 63) (bb 32 536870911) rfl rfl (by kernel_rfl) (by decide) (fun K hK => ?_)
   refine jN Tryz.func28 (by kernel_rfl) rfl #[.agg q.cs] (by rfl) rfl rfl (by (try simp only [List.map_toArray]); (try simp only [List.map_cons]); (try simp only [List.map_nil]); first | done | rfl) ?_
   refine (zea q _).mono ?_
   rintro e9 w' ⟨rfl, hb⟩
   refine ⟨_, rfl, ?_⟩
   replace HB := zG HB hb
   replace BK3 := zD BK3 hb
   clear hb
   clear hHeld
   refine hK.out _ _ BK3.out (fun hHeld => ?_)
   clear hK K
   refine jL (a' := ?_) ?_ ?_
   rotate_left
   ·show Act.put _ (some 63) _ = _
    simp only [Act.put, List.setIfInBounds_toArray, List.set_cons_zero, List.set_cons_succ]
    rfl
   refine yN (i := 29) (N := some 64) (v := .bool true) (bb 32 1073741823) rfl rfl (by kernel_rfl) (fun _ _ _ h => h) (Or.inl ⟨by rfl, fun w' => by first | (go_simp; done) | (go_simp; rw [beq_self_eq_true]; done) | (go_simp; rw [beq_self_eq_true]; rfl) | (go_simp; simp [beq_self_eq_true]; done)⟩) (by simp only [Act.put, List.setIfInBounds_toArray, List.set_cons_zero, List.set_cons_succ]; rfl) ?_
   refine pu_ 30 (some 65) (bb 32 2147483647) (by kernel_rfl) ?_
   refine pu_ 31 (some 2) (bb 32 4294967295) (by kernel_rfl) ?_
   refine yV (by kernel_rfl) ?_
   go_wp2_with (fail)
   go_ret
   exact ⟨rfl, BL HB⟩
  have d9 : decide (0 < q.P.ms) = true := decide_eq_true hs2
  cases hsc : q.P.sci
  all_goals
   rw [hsc] at e14
   clear hsc
   go_upto_region 7 with (first | ((with_reducible refine zH (N := 31) rfl ?_); refine lo_ (g := g3) (cs := q.cs) _ ⟨BK BK3⟩ ?_ rfl rfl rfl Tryz.underlying26 rfl jX) | (go_at_call 26; refine (zgM q HQ.out.good _).mono ?_; rintro e9 w' ⟨rfl, hb⟩; replace HRR := K_ (HRR.out.below hb); replace HB := zG HB hb; replace BK3 := zD BK3 hb; clear hb))
   obtain ⟨a1, ha1⟩ : ∃ a1, a1 = (xM q.P).1 := ⟨_, rfl⟩
   obtain ⟨b1, hb1⟩ : ∃ b1, b1 = (xM q.P).2 := ⟨_, rfl⟩
   rw [← ha1, ← hb1] at hab
   rw [← ha1, ← hb1]
   have da : decide (a1 ≥ 0) = true := decide_eq_true hab.1
   have db : decide (b1 ≥ 1) = true := decide_eq_true hab.2.1
   have dab : decide (a1 ≤ b1) = true := decide_eq_true hab.2.2
   clear hab ha1 hb1
   refine yL (n := 32) (S := fun W => W.heap[g3]? = some (.cells q.cs 26 (0, 0))) (ds := []) #[false, false, false, false, false, false, false, false, false, false, false, false, false, false, false, false, false, false, false, false, false, false, false, false, false, false, false, false, false, false, false, false] (by kernel_rfl) rfl rfl (BK BK3) (fun hHeld => ?_)
   refine jM (fun W => W.heap[g3]? = some (.cells q.cs 26 (0, 0)) ∧ Below w.heap.size w W) ⟨BK BK3, BL HB⟩ ?_
   clear hHeld BK3 HB
   rintro W ⟨hb3, hbw⟩
   have BK3 := K_ hb3
   have HB := K_ hbw
   clear hb3 hbw
   have hHeld := (show W.heap[g3]? = some (.cells q.cs 26 (0, 0)) from BK3.out)
   refine zY (i := 0) (N := some 35) (bb 32 1) rfl rfl (by kernel_rfl) (by decide) (fun K hK => ?_)
   refine jN Tryz.func13 (by kernel_rfl) rfl #[] (by rfl) rfl rfl (by (try simp only [List.map_toArray]); (try simp only [List.map_cons]); (try simp only [List.map_nil]); first | done | rfl) ?_
   refine (zbn _ (Fig.Glob.below HG.out (BL HB))).mono ?_
   rintro e9 w' ⟨rfl, hb⟩
   refine ⟨_, rfl, ?_⟩
   replace HB := zG HB hb
   replace BK3 := zD BK3 hb
   clear hb
   clear hHeld
   refine hK.out _ _ BK3.out (fun hHeld => ?_)
   clear hK K
   refine jL (a' := ?_) ?_ ?_
   rotate_left
   ·show Act.put _ (some 35) _ = _
    simp only [Act.put, List.setIfInBounds_toArray, List.set_cons_zero, List.set_cons_succ]
    rfl
   refine pu_ 1 (some 36) (bb 32 3) (by kernel_rfl) ?_
   refine pu_ 2 (some 37) (bb 32 7) (by kernel_rfl) ?_
   refine pu_ 3 (some 38) (bb 32 15) (by kernel_rfl) ?_
   refine yN (i := 4) (N := some 39) (v := .bool true) (bb 32 31) rfl rfl (by kernel_rfl) (fun _ _ _ h => h) (Or.inl ⟨by rfl, fun w' => by first | (go_simp; done) | (go_simp; rw [beq_self_eq_true]; done) | (go_simp; rw [beq_self_eq_true]; rfl) | (go_simp; simp [beq_self_eq_true]; done)⟩) (by simp only [Act.put, List.setIfInBounds_toArray, List.set_cons_zero, List.set_cons_succ]; rfl) ?_
   refine pu_ 5 (some 40) (bb 32 63) (by kernel_rfl) ?_
   refine pu_ 6 (some 41) (bb 32 127) (by kernel_rfl) ?_
   refine pu_ 7 (some 42) (bb 32 255) (by kernel_rfl) ?_
   refine pu_ 8 (some 43) (bb 32 511) (by kernel_rfl) ?_
   refine yN (i := 9) (N := some 44) (v := .bool true) (bb 32 1023) rfl rfl (by kernel_rfl) (fun _ _ _ h => h) (Or.inl ⟨by rfl, fun w' => by first | (go_simp; done) | (go_simp; rw [beq_self_eq_true]; done) | (go_simp; rw [beq_self_eq_true]; rfl) | (go_simp; simp [beq_self_eq_true]; done)⟩) (by simp only [Act.put, List.setIfInBounds_toArray, List.set_cons_zero, List.set_cons_succ]; rfl) ?_
   refine pu_ 10 (some 45) (bb 32 2047) (by kernel_rfl) ?_
   refine pu_ 11 (some 46) (bb 32 4095) (by kernel_rfl) ?_
   refine pu_ 12 (some 47) (bb 32 8191) (by kernel_rfl) ?_
   refine yN (i := 13) (N := some 48) (v := .bool true) (bb 32 16383) rfl rfl (by kernel_rfl) (fun _ _ _ h => h) (Or.inl ⟨by rfl, fun w' => by first | (go_simp; done) | (go_simp; rw [da]; done) | (go_simp; rw [da]; rfl) | (go_simp; simp [da]; done)⟩) (by simp only [Act.put, List.setIfInBounds_toArray, List.set_cons_zero, List.set_cons_succ]; rfl) ?_
   refine pu_ 14 (some 49) (bb 32 32767) (by kernel_rfl) ?_
   refine pu_ 15 (some 50) (bb 32 65535) (by kernel_rfl) ?_
   refine pu_ 16 (some 51) (bb 32 131071) (by kernel_rfl) ?_
   refine yN (i := 17) (N := some 52) (v := .bool true) (bb 32 262143) rfl rfl (by kernel_rfl) (fun _ _ _ h => h) (Or.inl ⟨by rfl, fun w' => by first | (go_simp; done) | (go_simp; rw [db]; done) | (go_simp; rw [db]; rfl) | (go_simp; simp [db]; done)⟩) (by simp only [Act.put, List.setIfInBounds_toArray, List.set_cons_zero, List.set_cons_succ]; rfl) ?_
   refine pu_ 18 (some 53) (bb 32 524287) (by kernel_rfl) ?_
   refine pu_ 19 (some 54) (bb 32 1048575) (by kernel_rfl) ?_
   refine pu_ 20 (some 55) (bb 32 2097151) (by kernel_rfl) ?_
   refine pu_ 21 (some 56) (bb 32 4194303) (by kernel_rfl) ?_
   refine yN (i := 22) (N := some 57) (v := .bool true) (bb 32 8388607) rfl rfl (by kernel_rfl) (fun _ _ _ h => h) (Or.inl ⟨by rfl, fun w' => by first | (go_simp; done) | (go_simp; rw [dab]; done) | (go_simp; rw [dab]; rfl) | (go_simp; simp [dab]; done)⟩) (by simp only [Act.put, List.setIfInBounds_toArray, List.set_cons_zero, List.set_cons_succ]; rfl) ?_
   refine pu_ 23 (some 58) (bb 32 16777215) (by kernel_rfl) ?_
   refine pu_ 24 (some 59) (bb 32 33554431) (by kernel_rfl) ?_
   refine take_ (i := 25) (N := some 60) (bb 32 67108863) rfl rfl (by kernel_rfl) (fun _ _ _ h => h) (v := .agg q.cs) (Or.inl ⟨by rfl, fun w' hs => vO _ ⟨hs⟩ rfl rfl Tryz.underlying26 rfl jX⟩) hHeld (by simp only [Act.put, List.setIfInBounds_toArray, List.set_cons_zero, List.set_cons_succ]; rfl) ?_
   refine take_ (i := 27) (N := some 62) (bb 32 201326591) rfl rfl (by kernel_rfl) (fun _ _ _ h => h) (v := .agg q.cs) (Or.inl ⟨by rfl, fun w' hs => vO _ ⟨hs⟩ rfl rfl Tryz.underlying26 rfl jX⟩) hHeld (by simp only [Act.put, List.setIfInBounds_toArray, List.set_cons_zero, List.set_cons_succ]; rfl) ?_
   refine zY (i := 26) (N := some 61) (bb 32 268435455) rfl rfl (by kernel_rfl) (by decide) (fun K hK => ?_)
   refine jN Tryz.func27 (by kernel_rfl) rfl #[.agg q.cs] (by rfl) rfl rfl (by (try simp only [List.map_toArray]); (try simp only [List.map_cons]); (try simp only [List.map_nil]); first | done | rfl) ?_
   refine (zbW q _).mono ?_
   rintro e9 w' ⟨rfl, hb⟩
   refine ⟨_, rfl, ?_⟩
   replace HB := zG HB hb
   replace BK3 := zD BK3 hb
   clear hb
   clear hHeld
   refine hK.out _ _ BK3.out (fun hHeld => ?_)
   clear hK K
   refine jL (a' := ?_) ?_ ?_
   rotate_left
   ·show Act.put _ (some 61) _ = _
    simp only [Act.put, List.setIfInBounds_toArray, List.set_cons_zero, List.set_cons_succ]
    rfl
   refine zY (i := 28) (N := some 63) (bb 32 536870911) rfl rfl (by kernel_rfl) (by decide) (fun K hK => ?_)
   refine jN Tryz.func28 (by kernel_rfl) rfl #[.agg q.cs] (by rfl) rfl rfl (by (try simp only [List.map_toArray]); (try simp only [List.map_cons]); (try simp only [List.map_nil]); first | done | rfl) ?_
   refine (zea q _).mono ?_
   rintro e9 w' ⟨rfl, hb⟩
   refine ⟨_, rfl, ?_⟩
   replace HB := zG HB hb
   replace BK3 := zD BK3 hb
   clear hb
   clear hHeld
   refine hK.out _ _ BK3.out (fun hHeld => ?_)
   clear hK K
   refine jL (a' := ?_) ?_ ?_
   rotate_left
   ·show Act.put _ (some 63) _ = _
    simp only [Act.put, List.setIfInBounds_toArray, List.set_cons_zero, List.set_cons_succ]
    rfl
   refine yN (i := 29) (N := some 64) (v := .bool true) (bb 32 1073741823) rfl rfl (by kernel_rfl) (fun _ _ _ h => h) (Or.inl ⟨by rfl, fun w' => by first | (go_simp; done) | (go_simp; rw [beq_self_eq_true]; done) | (go_simp; rw [beq_self_eq_true]; rfl) | (go_simp; simp [beq_self_eq_true]; done)⟩) (by simp only [Act.put, List.setIfInBounds_toArray, List.set_cons_zero, List.set_cons_succ]; rfl) ?_
   refine pu_ 30 (some 65) (bb 32 2147483647) (by kernel_rfl) ?_
   refine pu_ 31 (some 2) (bb 32 4294967295) (by kernel_rfl) ?_
   refine yV (by kernel_rfl) ?_
   go_wp2_with (fail)
   go_ret
   exact ⟨rfl, BL HB⟩
 have hsc : q.P.sci = false := by cases h : q.P.sci; rfl; exact absurd (.inl h) hs2
 have d9 : decide (0 < q.P.ms) = false := decide_eq_false (fun h => hs2 (.inr h))
 have HEF := K_ (show xO q.P = false by unfold xO; rw [hsc]; rfl)
 rw [hsc] at e14
 clear hs2 hsc
 go_wp2_with (first | (go_at_call 13; refine (zbn _ (Fig.Glob.below HG.out (BL HB))).mono ?_; rintro e9 w' ⟨rfl, hb⟩; replace HRR := K_ (HRR.out.below hb); replace HB := zG HB hb; replace BK3 := zD BK3 hb; clear hb) | ((with_reducible refine zH (N := 68) rfl ?_); refine zcC (g := g3) (cs := q.cs) _ ⟨BK BK3⟩ ?_ (by rfl) rfl rfl Tryz.underlying26 rfl jX) | (go_at_call 27; refine (zbW q _).mono ?_; rintro e9 w' ⟨he9, hb⟩; rw [HEF.out] at he9; subst he9; replace HB := zG HB hb; clear hb))
 go_ret
 exact ⟨rfl, BL HB⟩
end Go.Proofs.YtcmgdjnjmobkoaaGreatDoor.Px
section
namespace Go.Proofs.YtcmgdjnjmobkoaaGreatDoorW.PrintWords
open Go.ChangeShapes Go.WideShapes
end Go.Proofs.YtcmgdjnjmobkoaaGreatDoorW.PrintWords
end
section
namespace Fig
open Go Go.ChangeShapes
theorem zlI {α : Type} {l : List α} {i n : Nat} (hl : l.length = n) (hi : i < n) : ∃ v, (l.drop i).take 1 = [v] ∧ l[i]? = some v := by
 refine ⟨l[i], ?_, List.getElem?_eq_getElem (by omega)⟩
 rw [List.drop_eq_getElem_cons (by omega)]; rfl
theorem zjZ {P : Program} {W : World} {name : String} {d : DataW Unit} (h : funcsAt P W name d) {g : Nat} {t e : TypeId} {n : Nat} {fld : Field} {ps rs : Array TypeId} {va : Bool}
  (hg : P.globalNamed name = some g) (hty : (P.globals[g]?).map (·.type) = some t) (ht : P.underlying t = some (.array n e)) (he : P.underlying e = some (.struct #[fld])) (hft : P.underlying fld.type = some (.func ps rs va))
  (ce : P.cellsOf e = 1) (cf : P.cellsOf fld.type = 1) (ho : fld.offset = 0) (ct : P.cellsOf t = n) {ds : List (DataW (List UInt8))} (hd : d.funcsOut = .agg ds)
  {i : Nat} (hi : i < n) {b : UInt8} {r : List UInt8} (hdi : ds[i]? = some (.agg [.held (b :: r)])) {f0 : FuncId}
  (hone : ((List.range P.funcs.size).filter fun f => (P.funcs[f]?).any (·.name.toUTF8.data.toList == b :: r)) = [f0]) : W.cell? ⟨g, i, none⟩ = some (.func (.func f0) #[] #[]) := by
 obtain ⟨g', t', cs, fuel, p, hg', ht', hv, hr⟩ := h
 obtain rfl := Option.some.inj (hg.symm.trans hg')
 obtain rfl := Option.some.inj (hty.symm.trans ht')
 obtain ⟨xs, m, _, ex, hcl, hl, hel⟩ := DataW.trod_array ht hr
 rw [hd] at ex
 have e3 : xs.map (·.1) = ds := (DataW.agg.inj (Prod.mk.inj ex).1).symm
 obtain ⟨v, hv1, hv2⟩ := zlI (l := cs.toList) (n := n) (hcl.trans ct) hi
 have hE := hel i hi
 rw [ce, Nat.mul_one, hv1] at hE
 rw [← e3, List.getElem?_map] at hdi
 cases hx : xs[i]? with
 | none => rw [hx] at hdi; cases hdi
 | some x =>
  rw [hx] at hE hdi
  simp only [Option.map_some, Option.some.injEq] at hdi
  obtain ⟨y0, k, rfl, _, hy⟩ := trod_struct1 he hE
  rw [cf, ho, List.drop_zero] at hy
  have hy0 : y0.1 = .held (b :: r) := by simpa using hdi
  obtain ⟨y1, y2⟩ := y0
  subst hy0
  obtain rfl := func_of_trod hft hone (show DataW.trod _ P W 0 _ true k fld.type [v] = _ from hy)
  rw [World.var?_cell hg hv i]
  simpa using hv2
theorem zeW (g : Nat) : ∀ (l : List Value) (i : Nat) (w : World), ((l.zipIdx i).foldl (fun w x => w.setCell ⟨g, x.2, none⟩ x.1) w).os = w.os
 | [], _, _ => rfl
 | _ :: l, i, w => by rw [List.zipIdx_cons, List.foldl_cons, zeW g l (i + 1)]; rfl
end Fig
end
section
namespace Fig
open Go Go.Proofs Go.Proofs.YtcmgdjnjmobkoaaGreatDoor
set_option maxRecDepth 100000
def zhZ : List (String × DataW Unit) := [("unicode/utf8.acceptRanges", Rows.laid_unicode_utf8_acceptRanges), ("figurehead/ten.powers", Rows.laid_figurehead_ten_powers), ("unicode/utf8.first", Rows.laid_unicode_utf8_first)]
def zeE : List (String × DataW Unit) := [("figurehead/mode.ways", Rows.laid_figurehead_mode_ways), ("unicode/utf8.acceptRanges", Rows.laid_unicode_utf8_acceptRanges), ("figurehead/ten.powers", Rows.laid_figurehead_ten_powers), ("unicode/utf8.first", Rows.laid_unicode_utf8_first)]
def zlC : List Value := [.func (.func 173) #[] #[], .func (.func 174) #[] #[], .func (.func 175) #[] #[], .func (.func 176) #[] #[], .func (.func 177) #[] #[], .func (.func 178) #[] #[], .func (.func 179) #[] #[], .func (.func 180) #[] #[]]
noncomputable def startW (os : Os) : World := (zlC.zipIdx 0).foldl (fun w x => w.setCell ⟨1, x.2, none⟩ x.1) (World.laidAll Tryz.prog os zhZ)
theorem startW_os (os : Os) : (startW os).os = os := (zeW _ _ _ _).trans (World.laidAll_os _ _ _)
theorem met (os : Os) (args : Array Value) : laidMetH Tryz.prog zeE ((startW os).forCall (fun _ _ => 0) ⟨#[], args, []⟩).memory :=
 laidMetH_of_parts3 (fuel := 8) (laidMet_of_run' 8 (by kernel_rfl) (by kernel_rfl)) (by kernel_rfl) (by kernel_rfl)
theorem zim : (zeE.filter fun x => x.2.handleName?.isNone) = zhZ := by kernel_rfl
theorem zlo {W : World} (h : laidMetH Tryz.prog zeE W) : laidMet Tryz.prog zhZ W := zim ▸ (laidMetH_iff.1 h).1
theorem zmN {W : World} (h : laidMetH Tryz.prog zeE W) : ∀ i f, ([173, 174, 175, 176, 177, 178, 179, 180] : List Nat)[i]? = some f → W.cell? ⟨1, i, none⟩ = some (.func (.func f) #[] #[]) := by
 have hF := h.funcs (n := "figurehead/mode.ways") (List.mem_cons_self)
 have gN : Tryz.prog.globalNamed "figurehead/mode.ways" = some 1 := by kernel_rfl
 have gT : (Tryz.prog.globals[1]?).map (·.type) = some 130 := by kernel_rfl
 have c1 : Tryz.prog.cellsOf 129 = 1 := by kernel_rfl
 have c2 : Tryz.prog.cellsOf 127 = 1 := by kernel_rfl
 have c3 : Tryz.prog.cellsOf 130 = 8 := by kernel_rfl
 intro i f hf
 have key : ∀ {b : UInt8} {r : List UInt8} {j : Nat} {f0 : FuncId}, j < 8 → _ → _ → W.cell? ⟨1, j, none⟩ = some (.func (.func f0) #[] #[]) := fun {b} {r} {j} {f0} hj hdi hone => zjZ (b := b) (r := r) hF gN gT Tryz.underlying130 Tryz.underlying129 Tryz.underlying127 c1 c2 rfl c3 rfl hj hdi hone
 match i, hf with
 | 0, hf => obtain rfl := Option.some.inj hf; exact key (b := 102) (r := [105, 103, 117, 114, 101, 104, 101, 97, 100, 47, 109, 111, 100, 101, 46, 119, 97, 121, 115, 36, 49]) (by decide) rfl (by kernel_rfl)
 | 1, hf => obtain rfl := Option.some.inj hf; exact key (b := 102) (r := [105, 103, 117, 114, 101, 104, 101, 97, 100, 47, 109, 111, 100, 101, 46, 119, 97, 121, 115, 36, 50]) (by decide) rfl (by kernel_rfl)
 | 2, hf => obtain rfl := Option.some.inj hf; exact key (b := 102) (r := [105, 103, 117, 114, 101, 104, 101, 97, 100, 47, 109, 111, 100, 101, 46, 119, 97, 121, 115, 36, 51]) (by decide) rfl (by kernel_rfl)
 | 3, hf => obtain rfl := Option.some.inj hf; exact key (b := 102) (r := [105, 103, 117, 114, 101, 104, 101, 97, 100, 47, 109, 111, 100, 101, 46, 119, 97, 121, 115, 36, 52]) (by decide) rfl (by kernel_rfl)
 | 4, hf => obtain rfl := Option.some.inj hf; exact key (b := 102) (r := [105, 103, 117, 114, 101, 104, 101, 97, 100, 47, 109, 111, 100, 101, 46, 119, 97, 121, 115, 36, 53]) (by decide) rfl (by kernel_rfl)
 | 5, hf => obtain rfl := Option.some.inj hf; exact key (b := 102) (r := [105, 103, 117, 114, 101, 104, 101, 97, 100, 47, 109, 111, 100, 101, 46, 119, 97, 121, 115, 36, 54]) (by decide) rfl (by kernel_rfl)
 | 6, hf => obtain rfl := Option.some.inj hf; exact key (b := 102) (r := [105, 103, 117, 114, 101, 104, 101, 97, 100, 47, 109, 111, 100, 101, 46, 119, 97, 121, 115, 36, 55]) (by decide) rfl (by kernel_rfl)
 | 7, hf => obtain rfl := Option.some.inj hf; exact key (b := 102) (r := [105, 103, 117, 114, 101, 104, 101, 97, 100, 47, 109, 111, 100, 101, 46, 119, 97, 121, 115, 36, 56]) (by decide) rfl (by kernel_rfl)
 | k + 8, hf => simp at hf
theorem zmY {W : World} (h : laidMetH Tryz.prog zeE W) : ∀ i, i < 9 → W.cell? ⟨0, i, none⟩ = some (.int .u32 (([1, 10, 100, 1000, 10000, 100000, 1000000, 10000000, 100000000] : List Int).getD i 0)) := by
 have gN : Tryz.prog.globalNamed "figurehead/ten.powers" = some 0 := by kernel_rfl
 have gT : (Tryz.prog.globals[0]?).map (·.type) = some 124 := by kernel_rfl
 have hT := Lib.tabIs_of_head (k := .u32) (zs := [1, 10, 100, 1000, 10000, 100000, 1000000, 10000000, 100000000]) gN gT Tryz.underlying124 Tryz.underlying95 (by kernel_rfl) (by kernel_rfl) (laidMet.tail (zlo h))
 exact fun i hi => hT.cell gN i hi
theorem of_laid {W : World} (h : laidMetH Tryz.prog zeE W) : Glob W := ⟨zmN h, zmY h⟩
end Fig
end
section
namespace Fig
open Go Go.ChangeShapes Go.WideShapes Go.RowKit Go.Deep Go.WideElems Go.Joins
end Fig
end
