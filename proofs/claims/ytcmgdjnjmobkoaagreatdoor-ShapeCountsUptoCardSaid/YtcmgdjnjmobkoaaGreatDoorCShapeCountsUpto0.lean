/- What belongs to the law ShapeCountsUpto alone. -/
import Derived.Test.YtcmgdjnjmobkoaaGreatDoorCBShape5
import Derived.Test.YtcmgdjnjmobkoaaGreatDoorCBShape0
import Derived.Test.YtcmgdjnjmobkoaaGreatDoorCBShape4
set_option linter.unusedVariables false
set_option linter.unusedSimpArgs false
namespace Go.Proofs.YtcmgdjnjmobkoaaGreatDoor.Px
set_option linter.all false
open Fig Go.RowKit Go.Proofs.YtcmgdjnjmobkoaaGreatDoorW.PrintWords Go.Proofs.YtcmgdjnjmobkoaaGreatDoorW.PrintLast Go.Proofs.YtcmgdjnjmobkoaaGreatDoorW.PrintMore
attribute [local go_sem] yR yU vE vD yD yH yV yS
set_option maxHeartbeats 4000000 in
set_option maxRecDepth 100000 in
theorem zeM (q : Pat) (w : World) : Calls Tryz.prog 28 #[.agg q.cs] w fun e w' => e = .returned (.bool (xH q.P)) ∧ Below w.heap.size w w' := by
 have HB := K_ (Below.refl w.heap.size w)
 go_enter Tryz.func28, Tryz.ntmps28
 go_upto_region 1 with ((with_reducible refine zF (N := 1) rfl ?_); refine bx_ 1 q.cs 26 ?_ rfl rfl rfl rfl rfl; intro g1 hg w2 hbox hb; have BK1 := K_ hbox; replace HB := zE HB hb; clear hb hbox hg)
 have e14 : w2.cell? ⟨g1, 14, none⟩ = some (.bool q.P.sci) := (zA BK1.out 14).trans rfl
 have e6 : w2.cell? ⟨g1, 6, none⟩ = some (.int .i64 q.P.xi) := (zA BK1.out 6).trans rfl
 have e5 : w2.cell? ⟨g1, 5, none⟩ = some (.int .i64 q.P.mi) := (zA BK1.out 5).trans rfl
 have HE := K_ (show xH q.P = (q.P.sci && (decide (q.P.mi < q.P.xi) && decide (1 < q.P.xi))) from rfl)
 cases hs : q.P.sci
 ·rw [hs] at e14 HE
  go_wp2
  go_ret
  exact ⟨by rw [HE.out]; rfl, BL HB⟩
 rw [hs] at e14 HE
 by_cases h1 : q.P.mi < q.P.xi
 ·have d1 : decide (q.P.mi < q.P.xi) = true := decide_eq_true h1
  rw [d1] at HE
  by_cases h2 : 1 < q.P.xi
  ·have d2 : decide (1 < q.P.xi) = true := decide_eq_true h2
   rw [d2] at HE
   go_wp2
   go_ret
   exact ⟨by rw [HE.out]; rfl, BL HB⟩
  have d2 : decide (1 < q.P.xi) = false := decide_eq_false h2
  rw [d2] at HE
  go_wp2
  go_ret
  exact ⟨by rw [HE.out]; rfl, BL HB⟩
 have d1 : decide (q.P.mi < q.P.xi) = false := decide_eq_false h1
 rw [d1] at HE
 go_wp2
 go_ret
 exact ⟨by rw [HE.out]; rfl, BL HB⟩
set_option maxHeartbeats 4000000 in
set_option maxRecDepth 100000 in
theorem ziN (q : Pat) (hg : vT q.P) (w : World) : Calls Tryz.prog 30 #[.agg q.cs] w fun e w' => e = .returned (.int .i64 (jX q.P)) ∧ Below w.heap.size w w' := by
 have HB := K_ (Below.refl w.heap.size w)
 have hz : q.P.mi + q.P.xf = 0 ↔ q.P.mi = 0 ∧ q.P.xf = 0 := by have := hg.mi0; have := hg.mf0; have := hg.mfx; omega
 have HZ := K_ hz
 have HW := K_ (show jX q.P = if 0 < q.P.ms ∨ (xH q.P = true ∧ q.P.mi = 0) ∨ q.P.mi + q.P.xf = 0 then 1 else q.P.mi from rfl)
 clear hg hz
 go_enter Tryz.func30, Tryz.ntmps30
 go_upto_region 1 with ((with_reducible refine zF (N := 1) rfl ?_); refine bx_ 1 (q.cs) 26 ?_ rfl rfl rfl rfl rfl; intro g1 hg w2 hbox hb; have BK1 := K_ hbox; have GE1 := ge_ hg HB; replace HB := zE HB hb; clear hb hbox hg)
 have e9 := (show w2.cell? ⟨g1, 9, none⟩ = some (.int .i64 q.P.ms) from (zA BK1.out 9).trans rfl)
 have e5 := (show w2.cell? ⟨g1, 5, none⟩ = some (.int .i64 q.P.mi) from (zA BK1.out 5).trans rfl)
 have e8 := (show w2.cell? ⟨g1, 8, none⟩ = some (.int .i64 q.P.xf) from (zA BK1.out 8).trans rfl)
 by_cases h9 : 0 < q.P.ms
 ·have d9 : decide (0 < q.P.ms) = true := decide_eq_true h9
  have HR := K_ (show jX q.P = 1 by rw [HW.out, if_pos (.inl h9)])
  clear e5 e8 HW
  go_wp2
  go_ret
  exact ⟨by rw [HR.out]; rfl, BL HB⟩
 have d9 : decide (0 < q.P.ms) = false := decide_eq_false h9
 have HE : ∀ W, Aside0 (Calls Tryz.prog 28 #[.agg q.cs] W fun e w' => e = .returned (.bool (xH q.P)) ∧ Below W.heap.size W w') := fun W => K_ (zeM q W)
 have h1 : (xH q.P = true ∧ q.P.mi = 0) ∨ ((xH q.P = false ∨ q.P.mi ≠ 0)) := by
  cases xH q.P
  ·exact .inr (.inl rfl)
  by_cases h : q.P.mi = 0
  ·exact .inl ⟨rfl, h⟩
  exact .inr (.inr h)
 by_cases h5 : q.P.mi = 0
 ·have d5 : (q.P.mi == 0) = true := beq_iff_eq.2 h5
  by_cases h8 : q.P.xf = 0
  ·have d8 : (q.P.xf == 0) = true := beq_iff_eq.2 h8
   have HR := K_ (show jX q.P = 1 by rw [HW.out, if_pos (.inr (.inr (HZ.out.2 ⟨h5, h8⟩)))])
   clear HW h5 h8 h1
   cases hs : xH q.P
   all_goals
    rw [hs] at HE
    clear hs
    go_wp2_with (first | ((with_reducible refine zF (N := 7) rfl ?_); refine zbO (g := g1) (cs := q.cs) _ ⟨BK BK1⟩ ?_ (by rfl) rfl rfl Tryz.underlying26 rfl jL) | (go_at_call 28; refine ((HE _).out).mono ?_; rintro e w' ⟨rfl, hb⟩; replace HB := zE HB hb; replace BK1 := zC BK1 hb; clear hb e5 e8; have e5 := (show w'.cell? ⟨g1, 5, none⟩ = some (.int .i64 q.P.mi) from (zA BK1.out 5).trans rfl); have e8 := (show w'.cell? ⟨g1, 8, none⟩ = some (.int .i64 q.P.xf) from (zA BK1.out 8).trans rfl)))
    go_ret
    exact ⟨by rw [HR.out]; rfl, BL HB⟩
  have d8 : (q.P.xf == 0) = false := beq_eq_false_iff_ne.2 h8
  cases hs : xH q.P
  ·have HR := K_ (show jX q.P = q.P.mi by rw [HW.out, if_neg (by rw [hs, HZ.out]; rintro (h | h | h); exact h9 h; exact absurd h.1 (by decide); exact h8 h.2)])
   rw [hs] at HE
   clear hs HW h5 h8 h1
   go_wp2_with (first | ((with_reducible refine zF (N := 7) rfl ?_); refine zbO (g := g1) (cs := q.cs) _ ⟨BK BK1⟩ ?_ (by rfl) rfl rfl Tryz.underlying26 rfl jL) | (go_at_call 28; refine ((HE _).out).mono ?_; rintro e w' ⟨rfl, hb⟩; replace HB := zE HB hb; replace BK1 := zC BK1 hb; clear hb e5 e8; have e5 := (show w'.cell? ⟨g1, 5, none⟩ = some (.int .i64 q.P.mi) from (zA BK1.out 5).trans rfl); have e8 := (show w'.cell? ⟨g1, 8, none⟩ = some (.int .i64 q.P.xf) from (zA BK1.out 8).trans rfl)))
   go_ret
   exact ⟨by rw [HR.out]; rfl, BL HB⟩
  have HR := K_ (show jX q.P = 1 by rw [HW.out, if_pos (.inr (.inl ⟨hs, h5⟩))])
  rw [hs] at HE
  clear hs HW h5 h8 h1
  go_wp2_with (first | ((with_reducible refine zF (N := 7) rfl ?_); refine zbO (g := g1) (cs := q.cs) _ ⟨BK BK1⟩ ?_ (by rfl) rfl rfl Tryz.underlying26 rfl jL) | (go_at_call 28; refine ((HE _).out).mono ?_; rintro e w' ⟨rfl, hb⟩; replace HB := zE HB hb; replace BK1 := zC BK1 hb; clear hb e5 e8; have e5 := (show w'.cell? ⟨g1, 5, none⟩ = some (.int .i64 q.P.mi) from (zA BK1.out 5).trans rfl); have e8 := (show w'.cell? ⟨g1, 8, none⟩ = some (.int .i64 q.P.xf) from (zA BK1.out 8).trans rfl)))
  go_ret
  exact ⟨by rw [HR.out]; rfl, BL HB⟩
 have d5 : (q.P.mi == 0) = false := beq_eq_false_iff_ne.2 h5
 have HR := K_ (show jX q.P = q.P.mi by rw [HW.out, if_neg (by rw [HZ.out]; rintro (h | h | h); exact h9 h; exact h5 h.2; exact h5 h.1)])
 clear HW h5 h1
 cases hs : xH q.P
 all_goals
  rw [hs] at HE
  clear hs
  go_wp2_with (first | ((with_reducible refine zF (N := 7) rfl ?_); refine zbO (g := g1) (cs := q.cs) _ ⟨BK BK1⟩ ?_ (by rfl) rfl rfl Tryz.underlying26 rfl jL) | (go_at_call 28; refine ((HE _).out).mono ?_; rintro e w' ⟨rfl, hb⟩; replace HB := zE HB hb; replace BK1 := zC BK1 hb; clear hb e5 e8; have e5 := (show w'.cell? ⟨g1, 5, none⟩ = some (.int .i64 q.P.mi) from (zA BK1.out 5).trans rfl); have e8 := (show w'.cell? ⟨g1, 8, none⟩ = some (.int .i64 q.P.xf) from (zA BK1.out 8).trans rfl)))
  go_ret
  exact ⟨by rw [HR.out]; rfl, BL HB⟩
set_option maxHeartbeats 4000000 in
set_option maxRecDepth 100000 in
theorem zgU (q : Pat) (hg : vT q.P) (w : World) : Calls Tryz.prog 26 #[.agg q.cs] w fun e w' => e = .returned (.tuple #[.int .i64 (xD q.P).1, .int .i64 (xD q.P).2]) ∧ Below w.heap.size w w' := by
 have HB := K_ (Below.refl w.heap.size w)
 have HG := K_ hg
 have hb1 := zbF hg
 have hw1 : wrap64 (jX q.P + q.P.mf) = jX q.P + q.P.mf := by have := hg.mf0; have := hg.mfx; have := hg.xf4; unfold wrap64; omega
 have hw2 : wrap64 (jX q.P + q.P.xf) = jX q.P + q.P.xf := by have := hg.mf0; have := hg.mfx; have := hg.xf4; unfold wrap64; omega
 have HW2 := K_ (show xD q.P = if 0 < q.P.ms then (q.P.ms, q.P.xs) else (jX q.P + q.P.mf, jX q.P + q.P.xf) from rfl)
 clear hg hb1
 go_enter Tryz.func26, Tryz.ntmps26
 go_upto_region 1 with ((with_reducible refine zF (N := 1) rfl ?_); refine bx_ 1 (q.cs) 26 ?_ rfl rfl rfl rfl rfl; intro g1 hg w2 hbox hb; have BK1 := K_ hbox; have GE1 := ge_ hg HB; replace HB := zE HB hb; clear hb hbox hg)
 have e9 := (show w2.cell? ⟨g1, 9, none⟩ = some (.int .i64 q.P.ms) from (zA BK1.out 9).trans rfl)
 by_cases h9 : 0 < q.P.ms
 ·have d9 : decide (0 < q.P.ms) = true := decide_eq_true h9
  have HR := K_ (show xD q.P = (q.P.ms, q.P.xs) by rw [HW2.out, if_pos h9])
  have e10 := (show w2.cell? ⟨g1, 10, none⟩ = some (.int .i64 q.P.xs) from (zA BK1.out 10).trans rfl)
  clear HW2
  go_upto_region 2 with (fail)
  go_region
  go_wp2_with (fail)
  go_ret2
  exact ⟨by rw [HR.out]; rfl, BL HB⟩
 have d9 : decide (0 < q.P.ms) = false := decide_eq_false h9
 have HR := K_ (show xD q.P = (wrap64 (jX q.P + q.P.mf), wrap64 (jX q.P + q.P.xf)) by rw [HW2.out, if_neg h9, hw1, hw2])
 clear HW2 hw1 hw2
 go_upto_region 4 with (first | ((with_reducible refine zF (N := 12) rfl ?_); refine lo_ (g := g1) (cs := q.cs) _ ⟨BK BK1⟩ ?_ rfl rfl rfl Tryz.underlying26 rfl jL) | (go_at_call 30; refine (ziN q HG.out _).mono ?_; rintro e9 w' ⟨rfl, hb⟩; replace HB := zE HB hb; replace BK1 := zC BK1 hb; clear hb))
 clear e9
 have e7 := (show w'.cell? ⟨g1, 7, none⟩ = some (.int .i64 q.P.mf) from (zA BK1.out 7).trans rfl)
 have e8 := (show w'.cell? ⟨g1, 8, none⟩ = some (.int .i64 q.P.xf) from (zA BK1.out 8).trans rfl)
 go_region
 go_wp2_with (fail)
 go_ret2
 exact ⟨by rw [HR.out]; rfl, BL HB⟩
theorem zmj {P : jT} (hg : vT P) : 0 ≤ (xD P).1 ∧ 1 ≤ (xD P).2 ∧ (xD P).1 ≤ (xD P).2 := by
 have h1 := zgq hg
 obtain ⟨c1, c2, c3⟩ := zhq hg
 have := hg.mfx; have := hg.msx
 refine ⟨h1.1, by omega, ?_⟩
 unfold xD
 split
 ·show P.ms ≤ P.xs; omega
 show jX P + P.mf ≤ jX P + P.xf; omega
set_option maxHeartbeats 8000000 in
set_option maxRecDepth 100000 in
theorem counts_law (s : ByteArray) (hs : s.size ≤ 1048576) (w : World) (hG : Fig.Glob w) :
  Calls Tryz.prog 10 #[.string s] w fun e w' => e = .returned (.bool true) ∧ Below w.heap.size w w' := by
 have HB := K_ (Below.refl w.heap.size w)
 have HG := K_ hG
 clear hG
 go_enter Tryz.func10, Tryz.ntmps10
 go_upto_region 2 with (first | (go_at_call 12; refine (zdp s hs false ⟨#[]⟩ 0 (by decide) _).mono ?_; rintro e9 w' ⟨q, ok, rfl, hrr, hb, hqg⟩; have HRR := K_ (hrr.lower (zL (BL HB))); have HQ := K_ hqg; replace HB := zE HB hb; clear hb hrr hqg) | ((with_reducible refine zF (N := 3) rfl ?_); refine be_ 3 (Z26) 26 ?_; intro g3 hg w2 hbox hb; have BK3 := K_ hbox; have GE3 := ge_ hg HB; replace HRR := K_ (HRR.out.below hb); replace HB := zE HB hb; clear hb hbox hg) | ((with_reducible refine zQ (p := 3) rfl ?_); refine so_ (g := g3) (cs := Z26) (q.cs) ⟨BK BK3⟩ ?_ rfl rfl rfl rfl rfl jL rfl rfl; intro w9 hbk hfar hbel; replace HRR := K_ (HRR.out.so (BK BK3) (by decide) hfar); replace BK3 := K_ hbk; replace HB := K_ (hbel _ _ GE3.out (BL HB)); clear hbk hfar hbel))
 cases ok
 ·go_wp2_with (go_at_call 13; refine (vO _ (Fig.Glob.below HG.out (BL HB))).mono ?_; rintro e9 w' ⟨rfl, hb⟩; replace HB := zE HB hb; clear hb)
  go_ret
  exact ⟨rfl, BL HB⟩
 replace HQ := K_ (HQ.out rfl).1
 go_upto_region 5 with (first | ((with_reducible refine zF (N := 19) rfl ?_); refine lo_ (g := g3) (cs := q.cs) _ ⟨BK BK3⟩ ?_ rfl rfl rfl Tryz.underlying26 rfl jL) | (go_at_call 25; refine (zdQ q HQ.out.good _).mono ?_; rintro e9 w' ⟨rfl, hb⟩; replace HRR := K_ (HRR.out.below hb); replace HB := zE HB hb; replace BK3 := zC BK3 hb; clear hb))
 have e14 := (show w'.cell? ⟨g3, 14, none⟩ = some (.bool q.P.sci) from (zA BK3.out 14).trans rfl)
 have e9 := (show w'.cell? ⟨g3, 9, none⟩ = some (.int .i64 q.P.ms) from (zA BK3.out 9).trans rfl)
 by_cases hs2 : q.P.sci = true ∨ 0 < q.P.ms
 ·have hab := zmj HQ.out.good
  rcases hs2 with hs2 | hs2
  ·rw [hs2] at e14
   clear hs2
   go_upto_region 7 with (first | ((with_reducible refine zF (N := 31) rfl ?_); refine lo_ (g := g3) (cs := q.cs) _ ⟨BK BK3⟩ ?_ rfl rfl rfl Tryz.underlying26 rfl jL) | (go_at_call 26; refine (zgU q HQ.out.good _).mono ?_; rintro e9 w' ⟨rfl, hb⟩; replace HRR := K_ (HRR.out.below hb); replace HB := zE HB hb; replace BK3 := zC BK3 hb; clear hb))
   obtain ⟨a1, ha1⟩ : ∃ a1, a1 = (xD q.P).1 := ⟨_, rfl⟩
   obtain ⟨b1, hb1⟩ : ∃ b1, b1 = (xD q.P).2 := ⟨_, rfl⟩
   rw [← ha1, ← hb1] at hab
   rw [← ha1, ← hb1]
   have da : decide (a1 ≥ 0) = true := decide_eq_true hab.1
   have db : decide (b1 ≥ 1) = true := decide_eq_true hab.2.1
   have dab : decide (a1 ≤ b1) = true := decide_eq_true hab.2.2
   clear hab ha1 hb1
   refine yK (n := 32) (S := fun W => W.heap[g3]? = some (.cells q.cs 26 (0, 0))) (ds := []) #[false, false, false, false, false, false, false, false, false, false, false, false, false, false, false, false, false, false, false, false, false, false, false, false, false, false, false, false, false, false, false, false] (by kernel_rfl) rfl rfl (BK BK3) (fun hHeld => ?_)
   refine zU (fun W => W.heap[g3]? = some (.cells q.cs 26 (0, 0)) ∧ Below w.heap.size w W) ⟨BK BK3, BL HB⟩ ?_
   clear hHeld BK3 HB
   rintro W ⟨hb3, hbw⟩
   have BK3 := K_ hb3
   have HB := K_ hbw
   clear hb3 hbw
   have hHeld := (show W.heap[g3]? = some (.cells q.cs 26 (0, 0)) from BK3.out)
   refine on_ 0 (some 35) (bb 32 1) (fun K hK => ?_)
   refine gq_ Tryz.func13 #[] ?_
   refine (vO _ (Fig.Glob.below HG.out (BL HB))).mono ?_
   rintro e9 w' ⟨rfl, hb⟩
   refine ⟨_, rfl, ?_⟩
   replace HB := zE HB hb
   replace BK3 := zC BK3 hb
   clear hb
   clear hHeld
   refine hK.out _ _ BK3.out (fun hHeld => ?_)
   clear hK K
   refine no_ (some 35) ?_
   refine pw_ 1 36 (bb 32 3) ?_
   refine pw_ 2 37 (bb 32 7) ?_
   refine pw_ 3 38 (bb 32 15) ?_
   refine jU (i := 4) (N := some 39) (v := .bool true) (bb 32 31) rfl rfl (by kernel_rfl) (fun _ _ _ h => h) (Or.inl ⟨by rfl, fun w' => by first | (go_simp; done) | (go_simp; rw [beq_self_eq_true]; done) | (go_simp; rw [beq_self_eq_true]; rfl) | (go_simp; simp [beq_self_eq_true]; done)⟩) (by simp only [Act.put, List.setIfInBounds_toArray, List.set_cons_zero, List.set_cons_succ]; rfl) ?_
   refine pw_ 5 40 (bb 32 63) ?_
   refine pw_ 6 41 (bb 32 127) ?_
   refine pw_ 7 42 (bb 32 255) ?_
   refine pw_ 8 43 (bb 32 511) ?_
   refine jU (i := 9) (N := some 44) (v := .bool true) (bb 32 1023) rfl rfl (by kernel_rfl) (fun _ _ _ h => h) (Or.inl ⟨by rfl, fun w' => by first | (go_simp; done) | (go_simp; rw [beq_self_eq_true]; done) | (go_simp; rw [beq_self_eq_true]; rfl) | (go_simp; simp [beq_self_eq_true]; done)⟩) (by simp only [Act.put, List.setIfInBounds_toArray, List.set_cons_zero, List.set_cons_succ]; rfl) ?_
   refine pw_ 10 45 (bb 32 2047) ?_
   refine pw_ 11 46 (bb 32 4095) ?_
   refine pw_ 12 47 (bb 32 8191) ?_
   refine jU (i := 13) (N := some 48) (v := .bool true) (bb 32 16383) rfl rfl (by kernel_rfl) (fun _ _ _ h => h) (Or.inl ⟨by rfl, fun w' => by first | (go_simp; done) | (go_simp; rw [da]; done) | (go_simp; rw [da]; rfl) | (go_simp; simp [da]; done)⟩) (by simp only [Act.put, List.setIfInBounds_toArray, List.set_cons_zero, List.set_cons_succ]; rfl) ?_
   refine pw_ 14 49 (bb 32 32767) ?_
   refine pw_ 15 50 (bb 32 65535) ?_
   refine pw_ 16 51 (bb 32 131071) ?_
   refine jU (i := 17) (N := some 52) (v := .bool true) (bb 32 262143) rfl rfl (by kernel_rfl) (fun _ _ _ h => h) (Or.inl ⟨by rfl, fun w' => by first | (go_simp; done) | (go_simp; rw [db]; done) | (go_simp; rw [db]; rfl) | (go_simp; simp [db]; done)⟩) (by simp only [Act.put, List.setIfInBounds_toArray, List.set_cons_zero, List.set_cons_succ]; rfl) ?_
   refine pw_ 18 53 (bb 32 524287) ?_
   refine pw_ 19 54 (bb 32 1048575) ?_
   refine pw_ 20 55 (bb 32 2097151) ?_
   refine pw_ 21 56 (bb 32 4194303) ?_
   refine jU (i := 22) (N := some 57) (v := .bool true) (bb 32 8388607) rfl rfl (by kernel_rfl) (fun _ _ _ h => h) (Or.inl ⟨by rfl, fun w' => by first | (go_simp; done) | (go_simp; rw [dab]; done) | (go_simp; rw [dab]; rfl) | (go_simp; simp [dab]; done)⟩) (by simp only [Act.put, List.setIfInBounds_toArray, List.set_cons_zero, List.set_cons_succ]; rfl) ?_
   refine pw_ 23 58 (bb 32 16777215) ?_
   refine pw_ 24 59 (bb 32 33554431) ?_
   refine tr_ 25 60 (bb 32 67108863) (q.cs) (fun _ hs => ⟨hs⟩) Tryz.underlying26 jL hHeld ?_
   refine tr_ 27 62 (bb 32 201326591) (q.cs) (fun _ hs => ⟨hs⟩) Tryz.underlying26 jL hHeld ?_
   refine on_ 26 (some 61) (bb 32 268435455) (fun K hK => ?_)
   refine gq_ Tryz.func27 #[.agg q.cs] ?_
   refine (zbW q _).mono ?_
   rintro e9 w' ⟨rfl, hb⟩
   refine ⟨_, rfl, ?_⟩
   replace HB := zE HB hb
   replace BK3 := zC BK3 hb
   clear hb
   clear hHeld
   refine hK.out _ _ BK3.out (fun hHeld => ?_)
   clear hK K
   refine no_ (some 61) ?_
   refine on_ 28 (some 63) (bb 32 536870911) (fun K hK => ?_)
   refine gq_ Tryz.func28 #[.agg q.cs] ?_
   refine (zeM q _).mono ?_
   rintro e9 w' ⟨rfl, hb⟩
   refine ⟨_, rfl, ?_⟩
   replace HB := zE HB hb
   replace BK3 := zC BK3 hb
   clear hb
   clear hHeld
   refine hK.out _ _ BK3.out (fun hHeld => ?_)
   clear hK K
   refine no_ (some 63) ?_
   refine jU (i := 29) (N := some 64) (v := .bool true) (bb 32 1073741823) rfl rfl (by kernel_rfl) (fun _ _ _ h => h) (Or.inl ⟨by rfl, fun w' => by first | (go_simp; done) | (go_simp; rw [beq_self_eq_true]; done) | (go_simp; rw [beq_self_eq_true]; rfl) | (go_simp; simp [beq_self_eq_true]; done)⟩) (by simp only [Act.put, List.setIfInBounds_toArray, List.set_cons_zero, List.set_cons_succ]; rfl) ?_
   refine pw_ 30 65 (bb 32 2147483647) ?_
   refine pw_ 31 2 (bb 32 4294967295) ?_
   refine yY (by kernel_rfl) ?_
   go_wp2_with (fail)
   go_ret
   exact ⟨rfl, BL HB⟩
  have d9 : decide (0 < q.P.ms) = true := decide_eq_true hs2
  cases hsc : q.P.sci
  all_goals
   rw [hsc] at e14
   clear hsc
   go_upto_region 7 with (first | ((with_reducible refine zF (N := 31) rfl ?_); refine lo_ (g := g3) (cs := q.cs) _ ⟨BK BK3⟩ ?_ rfl rfl rfl Tryz.underlying26 rfl jL) | (go_at_call 26; refine (zgU q HQ.out.good _).mono ?_; rintro e9 w' ⟨rfl, hb⟩; replace HRR := K_ (HRR.out.below hb); replace HB := zE HB hb; replace BK3 := zC BK3 hb; clear hb))
   obtain ⟨a1, ha1⟩ : ∃ a1, a1 = (xD q.P).1 := ⟨_, rfl⟩
   obtain ⟨b1, hb1⟩ : ∃ b1, b1 = (xD q.P).2 := ⟨_, rfl⟩
   rw [← ha1, ← hb1] at hab
   rw [← ha1, ← hb1]
   have da : decide (a1 ≥ 0) = true := decide_eq_true hab.1
   have db : decide (b1 ≥ 1) = true := decide_eq_true hab.2.1
   have dab : decide (a1 ≤ b1) = true := decide_eq_true hab.2.2
   clear hab ha1 hb1
   refine yK (n := 32) (S := fun W => W.heap[g3]? = some (.cells q.cs 26 (0, 0))) (ds := []) #[false, false, false, false, false, false, false, false, false, false, false, false, false, false, false, false, false, false, false, false, false, false, false, false, false, false, false, false, false, false, false, false] (by kernel_rfl) rfl rfl (BK BK3) (fun hHeld => ?_)
   refine zU (fun W => W.heap[g3]? = some (.cells q.cs 26 (0, 0)) ∧ Below w.heap.size w W) ⟨BK BK3, BL HB⟩ ?_
   clear hHeld BK3 HB
   rintro W ⟨hb3, hbw⟩
   have BK3 := K_ hb3
   have HB := K_ hbw
   clear hb3 hbw
   have hHeld := (show W.heap[g3]? = some (.cells q.cs 26 (0, 0)) from BK3.out)
   refine on_ 0 (some 35) (bb 32 1) (fun K hK => ?_)
   refine gq_ Tryz.func13 #[] ?_
   refine (vO _ (Fig.Glob.below HG.out (BL HB))).mono ?_
   rintro e9 w' ⟨rfl, hb⟩
   refine ⟨_, rfl, ?_⟩
   replace HB := zE HB hb
   replace BK3 := zC BK3 hb
   clear hb
   clear hHeld
   refine hK.out _ _ BK3.out (fun hHeld => ?_)
   clear hK K
   refine no_ (some 35) ?_
   refine pw_ 1 36 (bb 32 3) ?_
   refine pw_ 2 37 (bb 32 7) ?_
   refine pw_ 3 38 (bb 32 15) ?_
   refine jU (i := 4) (N := some 39) (v := .bool true) (bb 32 31) rfl rfl (by kernel_rfl) (fun _ _ _ h => h) (Or.inl ⟨by rfl, fun w' => by first | (go_simp; done) | (go_simp; rw [beq_self_eq_true]; done) | (go_simp; rw [beq_self_eq_true]; rfl) | (go_simp; simp [beq_self_eq_true]; done)⟩) (by simp only [Act.put, List.setIfInBounds_toArray, List.set_cons_zero, List.set_cons_succ]; rfl) ?_
   refine pw_ 5 40 (bb 32 63) ?_
   refine pw_ 6 41 (bb 32 127) ?_
   refine pw_ 7 42 (bb 32 255) ?_
   refine pw_ 8 43 (bb 32 511) ?_
   refine jU (i := 9) (N := some 44) (v := .bool true) (bb 32 1023) rfl rfl (by kernel_rfl) (fun _ _ _ h => h) (Or.inl ⟨by rfl, fun w' => by first | (go_simp; done) | (go_simp; rw [beq_self_eq_true]; done) | (go_simp; rw [beq_self_eq_true]; rfl) | (go_simp; simp [beq_self_eq_true]; done)⟩) (by simp only [Act.put, List.setIfInBounds_toArray, List.set_cons_zero, List.set_cons_succ]; rfl) ?_
   refine pw_ 10 45 (bb 32 2047) ?_
   refine pw_ 11 46 (bb 32 4095) ?_
   refine pw_ 12 47 (bb 32 8191) ?_
   refine jU (i := 13) (N := some 48) (v := .bool true) (bb 32 16383) rfl rfl (by kernel_rfl) (fun _ _ _ h => h) (Or.inl ⟨by rfl, fun w' => by first | (go_simp; done) | (go_simp; rw [da]; done) | (go_simp; rw [da]; rfl) | (go_simp; simp [da]; done)⟩) (by simp only [Act.put, List.setIfInBounds_toArray, List.set_cons_zero, List.set_cons_succ]; rfl) ?_
   refine pw_ 14 49 (bb 32 32767) ?_
   refine pw_ 15 50 (bb 32 65535) ?_
   refine pw_ 16 51 (bb 32 131071) ?_
   refine jU (i := 17) (N := some 52) (v := .bool true) (bb 32 262143) rfl rfl (by kernel_rfl) (fun _ _ _ h => h) (Or.inl ⟨by rfl, fun w' => by first | (go_simp; done) | (go_simp; rw [db]; done) | (go_simp; rw [db]; rfl) | (go_simp; simp [db]; done)⟩) (by simp only [Act.put, List.setIfInBounds_toArray, List.set_cons_zero, List.set_cons_succ]; rfl) ?_
   refine pw_ 18 53 (bb 32 524287) ?_
   refine pw_ 19 54 (bb 32 1048575) ?_
   refine pw_ 20 55 (bb 32 2097151) ?_
   refine pw_ 21 56 (bb 32 4194303) ?_
   refine jU (i := 22) (N := some 57) (v := .bool true) (bb 32 8388607) rfl rfl (by kernel_rfl) (fun _ _ _ h => h) (Or.inl ⟨by rfl, fun w' => by first | (go_simp; done) | (go_simp; rw [dab]; done) | (go_simp; rw [dab]; rfl) | (go_simp; simp [dab]; done)⟩) (by simp only [Act.put, List.setIfInBounds_toArray, List.set_cons_zero, List.set_cons_succ]; rfl) ?_
   refine pw_ 23 58 (bb 32 16777215) ?_
   refine pw_ 24 59 (bb 32 33554431) ?_
   refine tr_ 25 60 (bb 32 67108863) (q.cs) (fun _ hs => ⟨hs⟩) Tryz.underlying26 jL hHeld ?_
   refine tr_ 27 62 (bb 32 201326591) (q.cs) (fun _ hs => ⟨hs⟩) Tryz.underlying26 jL hHeld ?_
   refine on_ 26 (some 61) (bb 32 268435455) (fun K hK => ?_)
   refine gq_ Tryz.func27 #[.agg q.cs] ?_
   refine (zbW q _).mono ?_
   rintro e9 w' ⟨rfl, hb⟩
   refine ⟨_, rfl, ?_⟩
   replace HB := zE HB hb
   replace BK3 := zC BK3 hb
   clear hb
   clear hHeld
   refine hK.out _ _ BK3.out (fun hHeld => ?_)
   clear hK K
   refine no_ (some 61) ?_
   refine on_ 28 (some 63) (bb 32 536870911) (fun K hK => ?_)
   refine gq_ Tryz.func28 #[.agg q.cs] ?_
   refine (zeM q _).mono ?_
   rintro e9 w' ⟨rfl, hb⟩
   refine ⟨_, rfl, ?_⟩
   replace HB := zE HB hb
   replace BK3 := zC BK3 hb
   clear hb
   clear hHeld
   refine hK.out _ _ BK3.out (fun hHeld => ?_)
   clear hK K
   refine no_ (some 63) ?_
   refine jU (i := 29) (N := some 64) (v := .bool true) (bb 32 1073741823) rfl rfl (by kernel_rfl) (fun _ _ _ h => h) (Or.inl ⟨by rfl, fun w' => by first | (go_simp; done) | (go_simp; rw [beq_self_eq_true]; done) | (go_simp; rw [beq_self_eq_true]; rfl) | (go_simp; simp [beq_self_eq_true]; done)⟩) (by simp only [Act.put, List.setIfInBounds_toArray, List.set_cons_zero, List.set_cons_succ]; rfl) ?_
   refine pw_ 30 65 (bb 32 2147483647) ?_
   refine pw_ 31 2 (bb 32 4294967295) ?_
   refine yY (by kernel_rfl) ?_
   go_wp2_with (fail)
   go_ret
   exact ⟨rfl, BL HB⟩
 have hsc : q.P.sci = false := by cases h : q.P.sci; rfl; exact absurd (.inl h) hs2
 have d9 : decide (0 < q.P.ms) = false := decide_eq_false (fun h => hs2 (.inr h))
 have HEF := K_ (show xH q.P = false by unfold xH; rw [hsc]; rfl)
 rw [hsc] at e14
 clear hs2 hsc
 go_wp2_with (first | (go_at_call 13; refine (vO _ (Fig.Glob.below HG.out (BL HB))).mono ?_; rintro e9 w' ⟨rfl, hb⟩; replace HRR := K_ (HRR.out.below hb); replace HB := zE HB hb; replace BK3 := zC BK3 hb; clear hb) | ((with_reducible refine zF (N := 68) rfl ?_); refine zbO (g := g3) (cs := q.cs) _ ⟨BK BK3⟩ ?_ (by rfl) rfl rfl Tryz.underlying26 rfl jL) | (go_at_call 27; refine (zbW q _).mono ?_; rintro e9 w' ⟨he9, hb⟩; rw [HEF.out] at he9; subst he9; replace HB := zE HB hb; clear hb))
 go_ret
 exact ⟨rfl, BL HB⟩
end Go.Proofs.YtcmgdjnjmobkoaaGreatDoor.Px
