/- The functions that the laws ShapeCountsUpto, ShapeAgainUpto, ShapeSignedUpto reach, told as plain functions, with what is proved of them, and the words they need (part 4). -/
import Derived.Test.YtcmgdjnjmobkoaaGreatDoorCBShape0
import Derived.Test.YtcmgdjnjmobkoaaGreatDoorCBShape1
import Derived.Test.YtcmgdjnjmobkoaaGreatDoorCBShape3
import Derived.Test.YtcmgdjnjmobkoaaGreatDoorCBShape2
import Derived.SizedLaws
import Derived.ChangeSlices
import Derived.LaidMore
import Derived.LaidHandle
import Derived.LaidSub
import Derived.OpenShut
import Derived.ChangeSame
import Derived.Lay
import Derived.Lib.LaidTab
set_option linter.unusedVariables false
set_option linter.unusedSimpArgs false
namespace Go.Proofs.YtcmgdjnjmobkoaaGreatDoor.Px
set_option linter.all false
open Fig Go.RowKit Go.Proofs.YtcmgdjnjmobkoaaGreatDoorW.PrintWords Go.Proofs.YtcmgdjnjmobkoaaGreatDoorW.PrintLast Go.Proofs.YtcmgdjnjmobkoaaGreatDoorW.PrintMore
attribute [local go_sem] yR yU vE vD yD yH yV yS
set_option maxHeartbeats 16000000 in
set_option maxRecDepth 100000 in
theorem zlp (s : ByteArray) (hs : s.size ≤ 1048576) (w : World) : Calls Tryz.prog 31 #[.string s] w (zmQ s w) := by
 obtain ⟨⟨l, E1, a1⟩, hEv, h4⟩ := zmE s hs
 obtain ⟨K0, hK0⟩ := Ev.rounds hEv
 have HK := K_ hK0
 have HEV1 := K_ hEv
 have H4 := K_ (show E1 = 0 → l.length ≤ 400 from h4)
 have HB := K_ (Below.refl w.heap.size w)
 clear hs hEv hK0 h4
 go_enter Tryz.func31, Tryz.ntmps31
 go_upto_region 2 with (first
  | ((with_reducible refine zF (N := 2) rfl ?_); refine be_ 2 Z26 26 ?_; intro g2 hg w2 hbox hb; have BK2 := K_ hbox; have GE2 := ge_ hg HB; replace HB := zE HB hb; clear hb hbox hg)
  | ((with_reducible refine zF (N := 3) rfl ?_); refine be_ 3 Z51 51 ?_; intro g3 hg w4 hbox hb; have BK3 := K_ hbox; have GE3 := ge_ hg HB; have NB := nb_ hg BK2; replace BK2 := zC BK2 hb; replace HB := zE HB hb; clear hb hbox hg)
  | (go_at_call 55; refine (zG.calls K0 s l E1 a1 _ HK.out).mono ?_; rintro e9 w' ⟨v0, rfl, ho, hb⟩; have HO := K_ (Kd.R_lower ho (zL (BL HB))); replace HB := zE HB hb; replace BK2 := zC BK2 hb; replace BK3 := zC BK3 hb; clear hb ho)
  | ((with_reducible refine zF (N := 5) rfl ?_); refine be_ 5 Z51 51 ?_; intro g5 hg w10 hbox hb; have BK5 := K_ hbox; have GE5 := ge_ hg HB; have N2F := nb_ hg BK2; have N3F := nb_ hg BK3; replace HO := K_ (Kd.R_below (RB HO.out) hb); replace HB := zE HB hb; replace BK2 := zC BK2 hb; replace BK3 := zC BK3 hb; clear hb hbox hg)
  | ((with_reducible refine zQ (p := 5) rfl ?_); refine so_ (g := g5) (cs := Z51) #[.int .i64 E1, .int .i64 a1] ⟨BK BK5⟩ ?_ rfl rfl rfl rfl rfl uH rfl rfl; intro w9 hbk hfar hbel; replace HO := K_ (vR (RB HO.out) (BK BK5) (by decide) hfar); replace BK2 := K_ (hfar g2 _ N2F.out (BK BK2)); replace BK3 := K_ (hfar g3 _ N3F.out (BK BK3)); replace BK5 := K_ hbk; replace HB := K_ (hbel _ _ GE5.out (BL HB)); clear hbk hfar hbel))
 obtain ⟨⟨q0, q1⟩, q2, q3⟩ := ce2 BK5
 by_cases hE : E1 = 0
 ·subst hE
  have HL := K_ (H4.out rfl)
  clear H4
  go_upto_region 4 with (fail)
  clear q0 q1 q2 q3
  obtain ⟨A1, c1, rfl⟩ := Kd.R_slice HO.out
  go_wp2_with (fail)
  go_loopw [6, 7] (fun v i wr => ∃ (k : Nat) (xs : List S73), k ≤ l.length ∧ i = .int .i64 k ∧ xs.length ≤ k ∧ Kd.R k71 71 wr w.heap.size (fun _ => True) (.slice A1 l.length c1) l ∧ Kd.R k73 73 wr w.heap.size (fun _ => True) v xs ∧ (xI l → xs = (l.take k).map mk73) ∧ wr.heap[g5]? = some (.cells #[.int .i64 0, .int .i64 a1] 51 (0, 0)) ∧ wr.heap[g2]? = some (.cells Z26 26 (0, 0)) ∧ wr.heap[g3]? = some (.cells Z51 51 (0, 0)) ∧ Below w.heap.size w wr) (fun _ i _ => l.length - (intOf i).toNat)
  case atStart => exact ⟨0, [], by omega, rfl, Nat.le_refl _, RB HO.out, Kd.R_nil _ _ _ _ _, fun _ => rfl, BK BK5, BK BK2, BK BK3, BL HB⟩
  case round =>
   obtain ⟨k, xs, hk, rfl, hxl, ho, hz, hst, hb5, hb2, hb3, hbw⟩ := hrel
   replace HO := K_ ho
   have HZ := K_ hz
   have HST := K_ hst
   replace BK5 := K_ hb5
   replace BK2 := K_ hb2
   replace BK3 := K_ hb3
   replace HB := K_ hbw
   clear ho hz hst hb5 hb2 hb3 hbw
   have hll := HL.out
   have hcl := (Kd.R_reads' HO.out).2.1
   by_cases hlt : k < l.length
   ·obtain ⟨x, hx⟩ : ∃ x, x = l[k] := ⟨_, rfl⟩
    obtain ⟨ad, ea, h0, h1, h2⟩ := zih (Kd.R_reads' HO.out).2.2 (k : Int) (by omega) (by omega)
    rw [zlZ hlt, ← hx] at h0 h1 h2
    simp only [Int.toNat_natCast] at h0 h1 h2
    subst ea
    have HX := K_ hx
    clear hx
    have dlt : decide (((k : Nat) : Int) < (l.length : Int)) = true := decide_eq_true (by omega)
    go_upto_region 9 with (first
     | ((with_reducible refine zF (N := 8) rfl ?_); refine be_ 8 #[.int .i32 0, .bool false, .int .i64 0, .bool false] 73 ?_; intro g8 hg w10 hbox hb; have BK8 := K_ hbox; have GE8 := ge_ hg HB; have N5E := nb_ hg BK5; have N2E := nb_ hg BK2; have N3E := nb_ hg BK3; replace HZ := K_ (Kd.R_below (Kd.R_elderB (RB HZ.out) g8 (Nat.le_of_eq hg.symm)) hb); replace HO := K_ (Kd.R_below (RB HO.out) hb); replace HB := zE HB hb; replace BK2 := zC BK2 hb; replace BK3 := zC BK3 hb; replace BK5 := zC BK5 hb; clear hb hbox hg)
     | ((with_reducible refine zQ (p := 8) rfl ?_); refine so_ (g := g8) (cs := #[.int .i32 0, .bool false, .int .i64 0, .bool false]) #[.int .i32 x.f0, .bool x.f1, .int .i64 x.f2, .bool false] ⟨BK BK8⟩ ?_ rfl rfl rfl rfl rfl zhT rfl rfl; intro w9 hbk hfar hbel; replace BK5 := K_ (hfar g5 _ N5E.out (BK BK5)); replace BK2 := K_ (hfar g2 _ N2E.out (BK BK2)); replace BK3 := K_ (hfar g3 _ N3E.out (BK BK3)); replace HO := K_ (vR (RB HO.out) (BK BK8) (by decide) hfar); replace HZ := K_ (zmZ (ok := fun q => True ∧ q ≠ g8) (RB HZ.out) (fun q hq => hq.2) hfar); replace BK8 := K_ hbk; replace HB := K_ (hbel _ _ GE8.out (BL HB)); clear hbk hfar hbel))
    obtain ⟨A3, c3, rfl⟩ := Kd.R_slice HZ.out
    cases hstar : zac (mk73 x) 42
    ·have HC : ∀ W, Aside0 (Calls Tryz.prog 56 #[.agg #[.int .i32 x.f0, .bool x.f1, .int .i64 x.f2, .bool false], .int .i32 42] W fun e w' => e = .returned (.bool false) ∧ Below W.heap.size W w') := fun W => ⟨by have h := zbn (mk73 x) 42 W; rw [hstar] at h; exact h⟩
     have HST2 := K_ (show xI l → xs ++ [mk73 x] = (l.take (k + 1)).map mk73 from fun h => by rw [zod hlt, ← HX.out, HST.out h])
     have HN5 := K_ (Kd.R_ne HZ.out BK5.out (by decide))
     have HN2 := K_ (Kd.R_ne HZ.out BK2.out (by decide))
     have HN3 := K_ (Kd.R_ne HZ.out BK3.out (by decide))
     have HLN := K_ (show (xs.length + 1) * 24 ≤ 140737488355328 by omega)
     clear hstar h0 h1 h2
     go_wp2_with (first
      | ((with_reducible refine zF (N := 37) rfl ?_); refine lo_ (g := g8) (cs := #[.int .i32 x.f0, .bool x.f1, .int .i64 x.f2, .bool false]) _ ⟨BK BK8⟩ ?_ rfl rfl rfl Tryz.underlying73 rfl zhT)
      | ((with_reducible refine zF (N := 61) rfl ?_); refine lo_ (g := g8) (cs := #[.int .i32 x.f0, .bool x.f1, .int .i64 x.f2, .bool false]) _ ⟨BK BK8⟩ ?_ rfl rfl rfl Tryz.underlying73 rfl zhT)
      | (go_at_call 56; refine ((HC _).out).mono ?_; rintro e w' ⟨rfl, hb⟩; replace HO := K_ (Kd.R_below (RB HO.out) hb); replace HZ := K_ (Kd.R_below (RB HZ.out) hb); replace HB := zE HB hb; replace BK2 := zC BK2 hb; replace BK3 := zC BK3 hb; replace BK5 := zC BK5 hb; replace BK8 := zC BK8 hb; clear hb)
      | ((with_reducible refine zX (b := .append) (xs := #[.tmp 60, .tmp 62]) rfl ?_); at_builtin; (refine Kd.R_append k73 (w0 := w) w.heap.size rfl (.tmp 60) (.tmp 62) 69 73 (.agg #[(.int .i32 0), (.bool false), (.int .i64 0), (.bool false)]) 24 rfl Tryz.underlying69 zhC rfl (by decide) (by omega) (.slice A3 xs.length c3) xs (mk73 x) [.int .i32 x.f0, .bool x.f1, .int .i64 x.f2, .bool false] (fun q => True ∧ q ≠ g8) (fun _ => False) rfl (by first | (go_simp; done) | (go_simp; rfl)) (ziU _ _ _ (mk73 x)) (fun _ hk => hk.elim) ?aF ?aO ?aB ?aS ?aL ?_; (case aF => exact fun q hq => ⟨trivial, fun he => absurd (zcr (BK BK8)) (Nat.not_lt.2 (he ▸ hq))⟩); (case aO => exact RB HZ.out); (case aB => exact BL HB); (case aS => exact zL (BL HB)); (case aL => exact HLN.out); intro v1 w5 ho2 hb2 hg2 hat2; have HO3 := K_ (Kd.R_mono (ok' := fun _ => True) ho2 (fun _ _ => trivial)); replace HO := K_ (Kd.R_over (RB HO.out) (RB HZ.out) (by decide) hg2); have BK5a := K_ (yW (BK BK5) hg2 HN5.out); have BK2a := K_ (yW (BK BK2) hg2 HN2.out); have BK3a := K_ (yW (BK BK3) hg2 HN3.out); replace HB := K_ hb2; clear ho2 hb2 hg2 hat2)))
     go_roundw
     case rel => exact ⟨k + 1, xs ++ [mk73 x], by omega, by go_num, by rw [List.length_append]; simp; omega, RB HO.out, RB HO3.out, HST2.out, BK BK5a, BK BK2a, BK BK3a, BL HB⟩
     case measure => simp [intOf]; omega
    have HC : ∀ W, Aside0 (Calls Tryz.prog 56 #[.agg #[.int .i32 x.f0, .bool x.f1, .int .i64 x.f2, .bool false], .int .i32 42] W fun e w' => e = .returned (.bool true) ∧ Below W.heap.size W w') := fun W => ⟨by have h := zbn (mk73 x) 42 W; rw [hstar] at h; exact h⟩
    have HNS := K_ (show xI l → False from fun h => by have := h l[k] (List.getElem_mem hlt); rw [← HX.out, hstar] at this; cases this)
    clear hstar h0 h1 h2
    go_upto_region 10 with (first
     | ((with_reducible refine zF (N := 37) rfl ?_); refine lo_ (g := g8) (cs := #[.int .i32 x.f0, .bool x.f1, .int .i64 x.f2, .bool false]) _ ⟨BK BK8⟩ ?_ rfl rfl rfl Tryz.underlying73 rfl zhT)
     | (go_at_call 56; refine ((HC _).out).mono ?_; rintro e w' ⟨rfl, hb⟩; replace HO := K_ (Kd.R_below (RB HO.out) hb); replace HZ := K_ (Kd.R_below (RB HZ.out) hb); replace HB := zE HB hb; replace BK2 := zC BK2 hb; replace BK3 := zC BK3 hb; replace BK5 := zC BK5 hb; replace BK8 := zC BK8 hb; clear hb))
    have hwk : IntKind.i64.wrap ((k : Int) + 1) = (k : Int) + 1 := by rw [IntKind.wrap_i64]; omega
    by_cases hl1 : k + 1 = l.length
    ·have de : ((k : Int) + 1 == (l.length : Int)) = true := beq_iff_eq.2 (by omega)
     go_upto_region 11 with (fail)
     have HEV := K_ (show (7 : Int) ≠ 0 by decide)
     have HE := K_ (show ∀ l', Ev (fun k => zG.f k s) (l', 0, 0) → xI l' → zaq l' → ∀ P0, xN (l'.map mk73) P0 → ¬ mixed (zZ (vU (l'.map mk73) (uN (l'.map mk73)) l'.length)) (zZ (vV (l'.map mk73) (uI (l'.map mk73)) l'.length)) (⟨2, 0⟩ :: zZ (vU (l'.map mk73) (uN (l'.map mk73)) l'.length)) (zZ (vV (l'.map mk73) (uI (l'.map mk73)) l'.length)) → False from fun l' h1 hns _ _ _ _ => (HNS.out (by have e := zdt h1 HEV1.out; have e2 : l' = l := congrArg (fun r => r.1) e; rw [← e2]; exact hns)))
     refine yK (n := 7) (S := fun w' => w'.cell? ⟨g8, 2, none⟩ = some (.int .i64 x.f2)) (ds := []) #[false, false, false, false, false, false, false] (by kernel_rfl) rfl rfl ((zA (BK BK8) 2).trans rfl) (fun hHeld => ?_)
     refine zU (fun W => W.cell? ⟨g8, 2, none⟩ = some (.int .i64 x.f2) ∧ W.heap[g2]? = some (.cells Z26 26 (0, 0)) ∧ W.heap[g3]? = some (.cells Z51 51 (0, 0)) ∧ Below w.heap.size w W) ⟨((zA (BK BK8) 2).trans rfl), BK BK2, BK BK3, BL HB⟩ ?_
     clear hHeld
     rintro W ⟨hHeld, hb2, hb3, hbw⟩
     replace BK2 := K_ hb2
     replace BK3 := K_ hb3
     replace HB := K_ hbw
     clear hb2 hb3 hbw
     refine pw_ 0 44 (bb 7 1) ?_
     refine pw_ 1 45 (bb 7 3) ?_
     refine pw_ 2 46 (bb 7 7) ?_
     refine tw_ 3 47 (bb 7 15) hHeld ?_
     refine pw_ 4 48 (bb 7 31) ?_
     refine on_ 5 none (bb 7 63) (fun K hK => ?_)
     refine yP (g := g2) (cs := Z26) Z26 BK2 ?_ rfl rfl rfl rfl rfl jL rfl rfl
     intro w8 hbk hfar hbel
     have hHeld2 := zaj hfar (p := ⟨g8, 2, none⟩) (Ne.symm N2E.out) hHeld
     replace BK3 := K_ (hfar g3 _ (Ne.symm NB.out) BK3.out)
     replace BK2 := K_ hbk
     replace HB := K_ (hbel _ _ GE2.out HB.out)
     refine hK.out _ _ hHeld2 (fun _ => ?_)
     clear hK K hbk hfar hbel
     refine on_ 6 none (bb 7 127) (fun K hK => ?_)
     refine yP (g := g3) (cs := Z51) #[.int .i64 7, .int .i64 x.f2] BK3 ?_ rfl rfl rfl rfl rfl uH rfl rfl
     intro w9 hbk hfar hbel
     have hHeld3 := zaj hfar (p := ⟨g8, 2, none⟩) (Ne.symm N3E.out) hHeld2
     replace BK2 := K_ (hfar g2 _ NB.out BK2.out)
     replace BK3 := K_ hbk
     replace HB := K_ (hbel _ _ GE3.out HB.out)
     refine hK.out _ _ hHeld3 (fun _ => ?_)
     clear hK K hbk hfar hbel
     refine yY (by kernel_rfl) ?_
     go_wp2_with (fail)
     (
      refine bodyPost_ret (qI rfl _ _ g2 g3 26 51 Z26 #[.int .i64 7, .int .i64 x.f2] (0, 0) (0, 0) _ _ rfl BK2.out Tryz.underlying26 rfl jL rfl BK3.out Tryz.underlying51 rfl uH) rfl ?_
      exact ⟨_, _, _, _, [], [], [], [], jD, false, 0, 0, 0, 7, x.f2, rfl, Kd.R_nil _ _ _ _ _, Kd.R_nil _ _ _ _ _, Kd.R_nil _ _ _ _ _, Kd.R_nil _ _ _ _ _, BL HB, fun h => absurd h HEV.out, fun l' h1 h2 h3 P0 h4 h5 => (HE.out l' h1 h2 h3 P0 h4 h5).elim⟩)
    have de : ((k : Int) + 1 == (l.length : Int)) = false := beq_eq_false_iff_ne.2 (by omega)
    obtain ⟨⟨c0, c1', c2, c3'⟩, f0, f1, f2, f3⟩ := ce4 BK8
    have hlt2 : k + 1 < l.length := by omega
    obtain ⟨ad2, ea, h0, h1, h2⟩ := zih (Kd.R_reads' HO.out).2.2 ((k + 1 : Nat) : Int) (by omega) (by omega)
    obtain ⟨y, hy⟩ : ∃ y, y = l[k + 1] := ⟨_, rfl⟩
    rw [zlZ hlt2, ← hy] at h0 h1 h2
    simp only [Int.toNat_natCast] at h0 h1 h2
    obtain rfl := Option.some.inj ea
    have hn1 : ((k : Int) + 1).toNat = k + 1 := by omega
    have H8 := K_ (Kd.R_ne HO.out BK8.out (by decide))
    have hbn : (ad.add ((k + 1) * 3)).block ≠ g8 := by
     rw [zdb]; intro e; exact H8.out (by simp [Value.ownBlock, e])
    have hfar2 : ∀ (W : World) j v, (W.setCell ⟨g8, j, none⟩ v).cell? (ad.add ((k + 1) * 3)) = W.cell? (ad.add ((k + 1) * 3)) := fun W j v => zaa hbn v
    have hi0 : (0 : Int) ≤ (k : Int) + 1 := by omega
    have hi1 : (k : Int) + 1 < (l.length : Int) := by omega
    clear hy ea h1 h2
    go_upto_region 14 with (fail)
    have hfar : ∀ k o, k ≠ g8 → w'.heap[k]? = some o → ((w'.setCell ⟨g8, 3, none⟩ (.bool true)).setCell ⟨g8, 0, none⟩ (.int .i32 y.f0)).heap[k]? = some o := fun k o hk e => (Below.heap_setCell _ _ _ _ hk).trans ((Below.heap_setCell _ _ _ _ hk).trans e)
    refine zbh (fun W => Kd.R k71 71 W w.heap.size (fun _ => True) (.slice (some ad) l.length c1) l ∧ Kd.R k73 73 W w.heap.size (fun q => True ∧ q ≠ g8) (.slice A3 xs.length c3) xs ∧ W.heap[g5]? = some (.cells #[.int .i64 0, .int .i64 a1] 51 (0, 0)) ∧ W.heap[g2]? = some (.cells Z26 26 (0, 0)) ∧ W.heap[g3]? = some (.cells Z51 51 (0, 0)) ∧ W.heap[g8]? = some (.cells #[.int .i32 y.f0, .bool x.f1, .int .i64 x.f2, .bool true] 73 (0, 0)) ∧ Below w.heap.size w W) ⟨vR (RB HO.out) (BK BK8) (by decide) hfar, zmZ (ok := fun q => True ∧ q ≠ g8) (RB HZ.out) (fun q hq => hq.2) hfar, hfar g5 _ N5E.out (BK BK5), hfar g2 _ N2E.out (BK BK2), hfar g3 _ N3E.out (BK BK3), BP BK8, BL HB⟩ ?_
    clear hfar HO HZ BK5 BK2 BK3 BK8 HB f0 f1 f2 f3 c0 c1' c2 c3' H8 hbn hfar2 h0
    rintro W ⟨ho, hz, hb5, hb2, hb3, hb8, hbw⟩
    have HO := K_ ho
    have HZ := K_ hz
    have BK5 := K_ hb5
    have BK2 := K_ hb2
    have BK3 := K_ hb3
    have BK8 := K_ hb8
    have HB := K_ hbw
    clear ho hz hb5 hb2 hb3 hb8 hbw
    have HN5 := K_ (Kd.R_ne HZ.out BK5.out (by decide))
    have HN2 := K_ (Kd.R_ne HZ.out BK2.out (by decide))
    have HN3 := K_ (Kd.R_ne HZ.out BK3.out (by decide))
    have HLN := K_ (show (xs.length + 1) * 24 ≤ 140737488355328 by omega)
    go_wp2_with (first
     | ((with_reducible refine zF (N := 61) rfl ?_); refine lo_ (g := g8) (cs := #[.int .i32 y.f0, .bool x.f1, .int .i64 x.f2, .bool true]) _ ⟨BK BK8⟩ ?_ rfl rfl rfl Tryz.underlying73 rfl zhT)
     | ((with_reducible refine zX (b := .append) (xs := #[.tmp 60, .tmp 62]) rfl ?_); at_builtin; (refine Kd.R_append k73 (w0 := w) w.heap.size rfl (.tmp 60) (.tmp 62) 69 73 (.agg #[(.int .i32 0), (.bool false), (.int .i64 0), (.bool false)]) 24 rfl Tryz.underlying69 zhC rfl (by decide) (by omega) (.slice A3 xs.length c3) xs (⟨⟨y.f0, x.f1, x.f2⟩, true⟩ : S73) [.int .i32 y.f0, .bool x.f1, .int .i64 x.f2, .bool true] (fun q => True ∧ q ≠ g8) (fun _ => False) rfl (by first | (go_simp; done) | (go_simp; rfl)) (ziU _ _ _ (⟨⟨y.f0, x.f1, x.f2⟩, true⟩ : S73)) (fun _ hk => hk.elim) ?aF ?aO ?aB ?aS ?aL ?_; (case aF => exact fun q hq => ⟨trivial, fun he => absurd (zcr (BK BK8)) (Nat.not_lt.2 (he ▸ hq))⟩); (case aO => exact RB HZ.out); (case aB => exact BL HB); (case aS => exact zL (BL HB)); (case aL => exact HLN.out); intro v1 w5 ho2 hb2 hg2 hat2; have HO3 := K_ (Kd.R_mono (ok' := fun _ => True) ho2 (fun _ _ => trivial)); replace HO := K_ (Kd.R_over (RB HO.out) (RB HZ.out) (by decide) hg2); have BK5a := K_ (yW (BK BK5) hg2 HN5.out); have BK2a := K_ (yW (BK BK2) hg2 HN2.out); have BK3a := K_ (yW (BK BK3) hg2 HN3.out); replace HB := K_ hb2; clear ho2 hb2 hg2 hat2)))
    go_roundw
    case rel => exact ⟨k + 2, xs ++ [(⟨⟨y.f0, x.f1, x.f2⟩, true⟩ : S73)], by omega, by go_num, by rw [List.length_append]; simp; omega, RB HO.out, RB HO3.out, fun h => (HNS.out h).elim, BK BK5a, BK BK2a, BK BK3a, BL HB⟩
    case measure => simp [intOf]; omega
   obtain rfl : k = l.length := by omega
   have dlt : decide ((l.length : Int) < (l.length : Int)) = false := decide_eq_false (by omega)
   have HXS := K_ (show xI l → xs = l.map mk73 from fun h => by have := HST.out h; rw [List.take_length] at this; exact this)
   have hxl2 : xs.length ≤ 400 := by omega
   obtain ⟨A3, c3, rfl⟩ := Kd.R_slice HZ.out
   clear hll hcl HST HL
   go_wp2_with (fail)
   clear HO
   go_loopw [9, 10] (fun m i wr => ∃ (j : Nat) (sm : Int), j ≤ xs.length ∧ i = .int .i64 j ∧ m = .int .i64 sm ∧ (sm = -1 ∨ (0 ≤ sm ∧ sm < j)) ∧ (xI l → zaq l → sm = -1) ∧ Kd.R k73 73 wr w.heap.size (fun _ => True) (.slice A3 xs.length c3) xs ∧ wr.heap[g5]? = some (.cells #[.int .i64 0, .int .i64 a1] 51 (0, 0)) ∧ wr.heap[g2]? = some (.cells Z26 26 (0, 0)) ∧ wr.heap[g3]? = some (.cells Z51 51 (0, 0)) ∧ Below w.heap.size w wr) (fun _ i _ => xs.length - (intOf i).toNat)
   case atStart => exact ⟨0, -1, Nat.zero_le _, rfl, rfl, .inl rfl, fun _ _ => rfl, RB HZ.out, BK BK5, BK BK2, BK BK3, BL HB⟩
   case round =>
    obtain ⟨j, sm, hj, rfl, rfl, hsm, hns, hz, hb5, hb2, hb3, hbw⟩ := hrel
    replace HZ := K_ hz
    have HNS := K_ hns
    have HSM := K_ hsm
    replace BK5 := K_ hb5
    replace BK2 := K_ hb2
    replace BK3 := K_ hb3
    replace HB := K_ hbw
    clear hz hns hsm hb5 hb2 hb3 hbw
    have hcl := (Kd.R_reads' HZ.out).2.1
    by_cases hlt : j < xs.length
    ·obtain ⟨x, hx⟩ : ∃ x, x = xs[j] := ⟨_, rfl⟩
     obtain ⟨ad, ea, h0, h1, h2, h3⟩ := zar (Kd.R_reads' HZ.out).2.2 (j : Int) (by omega) (by omega)
     rw [zcw hlt, ← hx] at h0 h1 h2 h3
     simp only [Int.toNat_natCast] at h0 h1 h2 h3
     have HX := K_ hx
     obtain rfl := ea
     clear hx
     have dlt : decide (((j : Nat) : Int) < (xs.length : Int)) = true := decide_eq_true (by omega)
     cases hst : zac x 59
     ·have HC : ∀ W, Aside0 (Calls Tryz.prog 56 #[.agg #[.int .i32 x.f0.f0, .bool x.f0.f1, .int .i64 x.f0.f2, .bool x.f1], .int .i32 59] W fun e w' => e = .returned (.bool false) ∧ Below W.heap.size W w') := fun W => ⟨by have h := zbn x 59 W; rw [hst] at h; exact h⟩
      clear hst
      go_wp2_with (go_at_call 56; refine ((HC _).out).mono ?_; rintro e w' ⟨rfl, hb⟩; replace HZ := K_ (Kd.R_below (RB HZ.out) hb); replace HB := zE HB hb; replace BK2 := zC BK2 hb; replace BK3 := zC BK3 hb; replace BK5 := zC BK5 hb; clear hb)
      go_roundw
      case rel => exact ⟨j + 1, sm, by omega, by go_num, rfl, by have := HSM.out; omega, HNS.out, RB HZ.out, BK BK5, BK BK2, BK BK3, BL HB⟩
      case measure => simp [intOf]; omega
     have HC : ∀ W, Aside0 (Calls Tryz.prog 56 #[.agg #[.int .i32 x.f0.f0, .bool x.f0.f1, .int .i64 x.f0.f2, .bool x.f1], .int .i32 59] W fun e w' => e = .returned (.bool true) ∧ Below W.heap.size W w') := fun W => ⟨by have h := zbn x 59 W; rw [hst] at h; exact h⟩
     have HNT := K_ (show xI l → zaq l → False from fun q1 q2 => by
      have e := HXS.out q1
      have hm : x ∈ l.map mk73 := by rw [← e, HX.out]; exact List.getElem_mem hlt
      obtain ⟨t, ht, rfl⟩ := List.mem_map.1 hm
      rw [q2 t ht] at hst; cases hst)
     clear hst
     by_cases hs0 : 0 ≤ sm
     ·have dsm : decide (0 ≤ sm) = true := decide_eq_true hs0
      have hlt2 := hlt
      go_upto_region 22 with (go_at_call 56; refine ((HC _).out).mono ?_; rintro e w' ⟨rfl, hb⟩; replace HZ := K_ (Kd.R_below (RB HZ.out) hb); replace HB := zE HB hb; replace BK2 := zC BK2 hb; replace BK3 := zC BK3 hb; replace BK5 := zC BK5 hb; clear hb)
      clear h0 h1 h2 h3
      obtain ⟨ad2, ea, h0, h1, h2, h3⟩ := zar (Kd.R_reads' HZ.out).2.2 (j : Int) (by omega) (by omega)
      obtain rfl := Option.some.inj ea
      rw [zcw hlt, ← HX.out] at h0 h1 h2 h3
      simp only [Int.toNat_natCast] at h0 h1 h2 h3
      have H2 := K_ (Kd.R_ne HZ.out BK2.out (by decide))
      have H3 := K_ (Kd.R_ne HZ.out BK3.out (by decide))
      have hb2 : (ad.add (j * 4)).block ≠ g2 := by
       rw [zdb]; intro e; exact H2.out (by simp [Value.ownBlock, e])
      have hb3 : (ad.add (j * 4)).block ≠ g3 := by
       rw [zdb]; intro e; exact H3.out (by simp [Value.ownBlock, e])
      have HEV := K_ (show (4 : Int) ≠ 0 by decide)
      have HE := K_ (show ∀ l', Ev (fun k => zG.f k s) (l', 0, 0) → xI l' → zaq l' → ∀ P0, xN (l'.map mk73) P0 → ¬ mixed (zZ (vU (l'.map mk73) (uN (l'.map mk73)) l'.length)) (zZ (vV (l'.map mk73) (uI (l'.map mk73)) l'.length)) (⟨2, 0⟩ :: zZ (vU (l'.map mk73) (uN (l'.map mk73)) l'.length)) (zZ (vV (l'.map mk73) (uI (l'.map mk73)) l'.length)) → False from fun l' h1 hns hsm _ _ _ => (by have e := zdt h1 HEV1.out; have e2 : l' = l := congrArg (fun r => r.1) e; rw [e2] at hns hsm; exact HNT.out hns hsm))
      refine yK (n := 10) (S := fun w' => w'.cell? ⟨(ad.add (j * 4)).block, (ad.add (j * 4)).off + 2, none⟩ = some (.int .i64 x.f0.f2)) (ds := []) #[false, false, false, false, false, false, false, false, false, false] (by kernel_rfl) rfl rfl h2 (fun hHeld => ?_)
      refine zU (fun W => W.cell? ⟨(ad.add (j * 4)).block, (ad.add (j * 4)).off + 2, none⟩ = some (.int .i64 x.f0.f2) ∧ W.heap[g2]? = some (.cells Z26 26 (0, 0)) ∧ W.heap[g3]? = some (.cells Z51 51 (0, 0)) ∧ Below w.heap.size w W) ⟨h2, BK BK2, BK BK3, BL HB⟩ ?_
      clear hHeld
      rintro W ⟨hHeld, hb2, hb3, hbw⟩
      replace BK2 := K_ hb2
      replace BK3 := K_ hb3
      replace HB := K_ hbw
      clear hb2 hb3 hbw
      refine pw_ 0 77 (bb 10 1) ?_
      refine pw_ 1 78 (bb 10 3) ?_
      refine pw_ 2 79 (bb 10 7) ?_
      refine pw_ 3 80 (bb 10 15) ?_
      refine pw_ 4 81 (bb 10 31) ?_
      refine pw_ 5 82 (bb 10 63) ?_
      refine tw_ 6 83 (bb 10 127) hHeld ?_
      refine pw_ 7 84 (bb 10 255) ?_
      refine on_ 8 none (bb 10 511) (fun K hK => ?_)
      refine yP (g := g2) (cs := Z26) Z26 BK2 ?_ rfl rfl rfl rfl rfl jL rfl rfl
      intro w8 hbk hfar hbel
      have hHeld2 := zaj hfar (p := ⟨(ad.add (j * 4)).block, (ad.add (j * 4)).off + 2, none⟩) hb2 hHeld
      replace BK3 := K_ (hfar g3 _ (Ne.symm NB.out) BK3.out)
      replace BK2 := K_ hbk
      replace HB := K_ (hbel _ _ GE2.out HB.out)
      refine hK.out _ _ hHeld2 (fun _ => ?_)
      clear hK K hbk hfar hbel
      refine on_ 9 none (bb 10 1023) (fun K hK => ?_)
      refine yP (g := g3) (cs := Z51) #[.int .i64 4, .int .i64 x.f0.f2] BK3 ?_ rfl rfl rfl rfl rfl uH rfl rfl
      intro w9 hbk hfar hbel
      have hHeld3 := zaj hfar (p := ⟨(ad.add (j * 4)).block, (ad.add (j * 4)).off + 2, none⟩) hb3 hHeld2
      replace BK2 := K_ (hfar g2 _ NB.out BK2.out)
      replace BK3 := K_ hbk
      replace HB := K_ (hbel _ _ GE3.out HB.out)
      refine hK.out _ _ hHeld3 (fun _ => ?_)
      clear hK K hbk hfar hbel
      refine yY (by kernel_rfl) ?_
      go_wp2_with (fail)
      (
       refine bodyPost_ret (qI rfl _ _ g2 g3 26 51 Z26 #[.int .i64 4, .int .i64 x.f0.f2] (0, 0) (0, 0) _ _ rfl BK2.out Tryz.underlying26 rfl jL rfl BK3.out Tryz.underlying51 rfl uH) rfl ?_
       exact ⟨_, _, _, _, [], [], [], [], jD, false, 0, 0, 0, 4, x.f0.f2, rfl, Kd.R_nil _ _ _ _ _, Kd.R_nil _ _ _ _ _, Kd.R_nil _ _ _ _ _, Kd.R_nil _ _ _ _ _, BL HB, fun h => absurd h HEV.out, fun l' h1 h2 h3 P0 h4 h5 => (HE.out l' h1 h2 h3 P0 h4 h5).elim⟩)
     have dsm : decide (0 ≤ sm) = false := decide_eq_false hs0
     go_wp2_with (go_at_call 56; refine ((HC _).out).mono ?_; rintro e w' ⟨rfl, hb⟩; replace HZ := K_ (Kd.R_below (RB HZ.out) hb); replace HB := zE HB hb; replace BK2 := zC BK2 hb; replace BK3 := zC BK3 hb; replace BK5 := zC BK5 hb; clear hb)
     go_roundw
     case rel => exact ⟨j + 1, (j : Int), by omega, by go_num, rfl, by omega, fun h1 h2 => (HNT.out h1 h2).elim, RB HZ.out, BK BK5, BK BK2, BK BK3, BL HB⟩
     case measure => simp [intOf]; omega
    obtain rfl : j = xs.length := by omega
    have dlt : decide ((xs.length : Int) < (xs.length : Int)) = false := decide_eq_false (by omega)
    have hcl := (Kd.R_reads' HZ.out).2.1
    go_upto_if 88 with (fail)
    go_cut [11] from 87 to 91 (fun v wx => (∃ n : Nat, n ≤ xs.length ∧ (sm = -1 → n = xs.length) ∧ v = .slice A3 n c3) ∧ Kd.R k73 73 wx w.heap.size (fun _ => True) (.slice A3 xs.length c3) xs ∧ wx.heap[g5]? = some (.cells #[.int .i64 0, .int .i64 a1] 51 (0, 0)) ∧ wx.heap[g2]? = some (.cells Z26 26 (0, 0)) ∧ wx.heap[g3]? = some (.cells Z51 51 (0, 0)) ∧ Below w.heap.size w wx)
    case first =>
     by_cases hs0 : 0 ≤ sm
     ·have dsm : decide (0 ≤ sm) = true := decide_eq_true hs0
      obtain ⟨m, hm⟩ := Int.eq_ofNat_of_zero_le hs0
      have hml : m < xs.length := by have := HSM.out; omega
      subst hm
      have q1 : (0 : Int) ≤ (m : Int) := by omega
      have q2 : (m : Int) ≤ (c3 : Int) := by omega
      have q3 : m ≤ c3 := by omega
      have q4 : ((m : Int)).toNat = m := Int.toNat_natCast _
      go_wp2
      go_meet
      case rel => exact ⟨⟨m, by omega, by omega, rfl⟩, RB HZ.out, BK BK5, BK BK2, BK BK3, BL HB⟩
     have dsm : decide (0 ≤ sm) = false := decide_eq_false hs0
     go_wp2
     go_meet
     case rel => exact ⟨⟨xs.length, Nat.le_refl _, fun _ => rfl, rfl⟩, RB HZ.out, BK BK5, BK BK2, BK BK3, BL HB⟩
    case rest =>
     obtain ⟨⟨n, hn, hnx, rfl⟩, hz, hb5, hb2, hb3, hbw⟩ := hcut
     replace HZ := K_ hz
     replace BK5 := K_ hb5
     replace BK2 := K_ hb2
     replace BK3 := K_ hb3
     replace HB := K_ hbw
     have hy := Kd.R_take hz hn
     clear hz hb5 hb2 hb3 hbw
     obtain ⟨ys, hys⟩ : ∃ ys, ys = xs.take n := ⟨_, rfl⟩
     rw [← hys] at hy
     obtain rfl : n = ys.length := by rw [hys, List.length_take]; omega
     have HY := K_ hy
     have EQL := K_ (show ∀ l', Ev (fun k => zG.f k s) (l', 0, 0) → l' = l from fun l' h1 => congrArg (fun r => r.1) (zdt h1 HEV1.out))
     have HEQ := K_ (show xI l → zaq l → ys = l.map mk73 from fun h1 h2 => by
      have h3 := hnx (HNS.out h1 h2)
      rw [hys, h3, List.take_length]; exact HXS.out h1)
     clear hy hys hnx
     go_upto_region 28 with (first
      | (go_at_call 57; refine (zbG A3 c3 ys 0 true _ (Kd.R_reads' (RB HY.out)).2.2 (Kd.R_reads' HY.out).2.1 (by omega)).mono ?_; rintro e9 w' ⟨v1, v2, px, sx, PN, at_, pad, long, E2, a2, rfl, ho1, ho2, hb, hpost, hex⟩; obtain ⟨B1, d1, rfl⟩ := Kd.R_slice ho1; obtain ⟨B2, d2, rfl⟩ := Kd.R_slice ho2; have HO1 := K_ (Kd.R_lower ho1 (zL (BL HB))); have HO2 := K_ (Kd.R_lower ho2 (zL (BL HB))); have HPO := K_ hpost; have HEX := K_ hex; replace HZ := K_ (Kd.R_below (RB HZ.out) hb); replace HB := zE HB hb; replace BK2 := zC BK2 hb; replace BK3 := zC BK3 hb; replace BK5 := zC BK5 hb; clear hb ho1 ho2 hpost hex)
      | ((with_reducible refine zF (N := 12) rfl ?_); refine be_ 12 Z76 76 ?_; intro g12 hg w2 hbox hb; have BK12 := K_ hbox; have GE12 := ge_ hg HB; have N2L := nb_ hg BK2; have N3L := nb_ hg BK3; have N5L := nb_ hg BK5; replace HZ := K_ (Kd.R_below (RB HZ.out) hb); replace HO1 := K_ (Kd.R_below (RB HO1.out) hb); replace HO2 := K_ (Kd.R_below (RB HO2.out) hb); replace HB := zE HB hb; replace BK2 := zC BK2 hb; replace BK3 := zC BK3 hb; replace BK5 := zC BK5 hb; clear hb hbox hg)
      | ((with_reducible refine zQ (p := 12) rfl ?_); refine so_ (g := g12) (cs := Z76) (uJ (.slice B1 px.length d1) (.slice B2 sx.length d2) PN at_ pad long) ⟨BK BK12⟩ ?_ rfl rfl rfl rfl rfl zbr rfl rfl; intro w9 hbk hfar hbel; replace HZ := K_ (vR (RB HZ.out) (BK BK12) (by decide) hfar); replace HO1 := K_ (vR (RB HO1.out) (BK BK12) (by decide) hfar); replace HO2 := K_ (vR (RB HO2.out) (BK BK12) (by decide) hfar); replace BK2 := K_ (hfar _ _ N2L.out (BK BK2)); replace BK3 := K_ (hfar _ _ N3L.out (BK BK3)); replace BK5 := K_ (hfar _ _ N5L.out (BK BK5)); replace BK12 := K_ hbk; replace HB := K_ (hbel _ _ GE12.out (BL HB)); clear hbk hfar hbel)
      | ((with_reducible refine zQ (p := 5) rfl ?_); refine so_ (g := g5) (cs := #[.int .i64 0, .int .i64 a1]) (#[.int .i64 E2, .int .i64 a2]) ⟨BK BK5⟩ ?_ rfl rfl rfl rfl rfl uH rfl rfl; intro w9 hbk hfar hbel; replace HZ := K_ (vR (RB HZ.out) (BK BK5) (by decide) hfar); replace HO1 := K_ (vR (RB HO1.out) (BK BK5) (by decide) hfar); replace HO2 := K_ (vR (RB HO2.out) (BK BK5) (by decide) hfar); replace BK2 := K_ (hfar _ _ N2F.out (BK BK2)); replace BK3 := K_ (hfar _ _ N3F.out (BK BK3)); replace BK12 := K_ (hfar _ _ (Ne.symm N5L.out) (BK BK12)); replace BK5 := K_ hbk; replace HB := K_ (hbel _ _ GE5.out (BL HB)); clear hbk hfar hbel))
     obtain ⟨⟨q0, q1⟩, q2, q3⟩ := ce2 BK5
     by_cases hE : E2 = 0
     ·subst hE
      have HPOK := K_ (HPO.out rfl)
      clear HPO HEX
      have hp1 : px.length ≤ 400 := by
       rw [HPOK.out.2.1]; refine Nat.le_trans (zcU _) (Nat.le_trans (zfk _ _ _) (by omega))
      have hp2 : sx.length ≤ 400 := by
       rw [HPOK.out.2.2]; refine Nat.le_trans (zcU _) (Nat.le_trans (zeU _ _ _) (by omega))
      go_upto_region 31 with (first
       | ((with_reducible refine zF (N := 103) rfl ?_); refine lm_ (g := g12) (cs := uJ (.slice B1 px.length d1) (.slice B2 sx.length d2) PN at_ pad long) 2 PN.cs _ ⟨BK BK12⟩ ?_ rfl rfl rfl Tryz.underlying26 rfl jL (zmC _ _ _ _ _ _))
       | ((with_reducible refine zF (N := 13) rfl ?_); refine be_ 13 Z26 26 ?_; intro g13 hg w3 hbox hb; have BK13 := K_ hbox; have GE13 := ge_ hg HB; have N2P := nb_ hg BK2; have N3P := nb_ hg BK3; have N12P := nb_ hg BK12; replace HZ := K_ (Kd.R_below (RB HZ.out) hb); replace HO1 := K_ (Kd.R_below (RB HO1.out) hb); replace HO2 := K_ (Kd.R_below (RB HO2.out) hb); replace HB := zE HB hb; replace BK2 := zC BK2 hb; replace BK3 := zC BK3 hb; replace BK12 := zC BK12 hb; clear hb hbox hg)
       | ((with_reducible refine zQ (p := 13) rfl ?_); refine so_ (g := g13) (cs := Z26) (PN.cs) ⟨BK BK13⟩ ?_ rfl rfl rfl rfl rfl jL rfl rfl; intro w9 hbk hfar hbel; replace HZ := K_ (vR (RB HZ.out) (BK BK13) (by decide) hfar); replace HO1 := K_ (vR (RB HO1.out) (BK BK13) (by decide) hfar); replace HO2 := K_ (vR (RB HO2.out) (BK BK13) (by decide) hfar); replace BK2 := K_ (hfar _ _ N2P.out (BK BK2)); replace BK3 := K_ (hfar _ _ N3P.out (BK BK3)); replace BK12 := K_ (hfar _ _ N12P.out (BK BK12)); replace BK13 := K_ hbk; replace HB := K_ (hbel _ _ GE13.out (BL HB)); clear hbk hfar hbel))
      clear q0 q1 q2 q3
      have HEX2 := K_ True.intro
      refine yK (n := 16) (S := fun W => W.cell? ⟨g12, 0, none⟩ = some (.slice B1 px.length d1) ∧ W.cell? ⟨g12, 1, none⟩ = some (.slice B2 sx.length d2) ∧ W.cell? ⟨g12, 22, none⟩ = some (.int .i64 at_) ∧ W.cell? ⟨g12, 23, none⟩ = some (.int .i32 pad)) (ds := []) #[false, false, false, false, false, false, false, false, false, false, false, false, false, false, false, false] (by kernel_rfl) rfl rfl ⟨(zA (BK BK12) 0).trans rfl, (zA (BK BK12) 1).trans rfl, (zA (BK BK12) 22).trans rfl, (zA (BK BK12) 23).trans rfl⟩ (fun hHeld => ?_)
      refine zU (fun W => W.heap[g12]? = some (.cells (uJ (.slice B1 px.length d1) (.slice B2 sx.length d2) PN at_ pad long) 76 (0, 0)) ∧ W.heap[g13]? = some (.cells (PN.cs) 26 (0, 0)) ∧ Kd.R k73 73 W w.heap.size (fun _ => True) (.slice A3 xs.length c3) xs ∧ Kd.R k80 80 W w.heap.size (fun _ => True) (.slice B1 px.length d1) px ∧ Kd.R k80 80 W w.heap.size (fun _ => True) (.slice B2 sx.length d2) sx ∧ W.heap[g2]? = some (.cells Z26 26 (0, 0)) ∧ W.heap[g3]? = some (.cells Z51 51 (0, 0)) ∧ Below w.heap.size w W) ⟨BK BK12, BK BK13, RB HZ.out, RB HO1.out, RB HO2.out, BK BK2, BK BK3, BL HB⟩ ?_
      clear hHeld
      rintro W ⟨hb12, hb13, hz, ho1, ho2, hb2, hb3, hbw⟩
      replace BK12 := K_ hb12
      replace BK13 := K_ hb13
      replace HZ := K_ hz
      replace HO1 := K_ ho1
      replace HO2 := K_ ho2
      replace BK2 := K_ hb2
      replace BK3 := K_ hb3
      replace HB := K_ hbw
      clear hb12 hb13 hz ho1 ho2 hb2 hb3 hbw
      have hHeld := (show W.cell? ⟨g12, 0, none⟩ = some (.slice B1 px.length d1) ∧ W.cell? ⟨g12, 1, none⟩ = some (.slice B2 sx.length d2) ∧ W.cell? ⟨g12, 22, none⟩ = some (.int .i64 at_) ∧ W.cell? ⟨g12, 23, none⟩ = some (.int .i32 pad) from ⟨(zA BK12.out 0).trans rfl, (zA BK12.out 1).trans rfl, (zA BK12.out 22).trans rfl, (zA BK12.out 23).trans rfl⟩)
      refine pw_ 0 104 (bb 16 1) ?_
      refine pw_ 2 106 (bb 16 5) ?_
      refine pw_ 4 108 (bb 16 21) ?_
      refine pw_ 6 110 (bb 16 85) ?_
      refine tw_ 1 105 (bb 16 87) hHeld ?_
      refine tw_ 3 107 (bb 16 95) hHeld ?_
      refine tw_ 5 109 (bb 16 127) hHeld ?_
      refine tw_ 7 111 (bb 16 255) hHeld ?_
      refine pw_ 8 112 (bb 16 511) ?_
      refine on_ 9 none (bb 16 1023) (fun K hK => ?_)
      have hs : W.cell? ⟨g13, 0, none⟩ = some (.slice none 0 0) := (zA BK13.out 0).trans rfl
      have hf := zI BK13.out 0
      refine zaM (w1 := W.setCell ⟨g13, 0, none⟩ (.slice B1 px.length d1)) (by rfl) rfl (by go_simp; try rfl) ?_
      refine hK.out _ _ (show (W.setCell ⟨g13, 0, none⟩ (.slice B1 px.length d1)).cell? ⟨g12, 0, none⟩ = some (.slice B1 px.length d1) ∧ (W.setCell ⟨g13, 0, none⟩ (.slice B1 px.length d1)).cell? ⟨g12, 1, none⟩ = some (.slice B2 sx.length d2) ∧ (W.setCell ⟨g13, 0, none⟩ (.slice B1 px.length d1)).cell? ⟨g12, 22, none⟩ = some (.int .i64 at_) ∧ (W.setCell ⟨g13, 0, none⟩ (.slice B1 px.length d1)).cell? ⟨g12, 23, none⟩ = some (.int .i32 pad) from ⟨(zA (zO BK12.out N12P.out _) 0).trans rfl, (zA (zO BK12.out N12P.out _) 1).trans rfl, (zA (zO BK12.out N12P.out _) 22).trans rfl, (zA (zO BK12.out N12P.out _) 23).trans rfl⟩) (fun _ => ?_)
      clear hK K hs hf hHeld
      refine zU (fun W => W.heap[g12]? = some (.cells (uJ (.slice B1 px.length d1) (.slice B2 sx.length d2) PN at_ pad long) 76 (0, 0)) ∧ W.heap[g13]? = some (.cells (xP (.slice B1 px.length d1) (.slice none 0 0) false (.slice none 0 0) (.slice none 0 0) PN 0 0 0) 26 (0, 0)) ∧ Kd.R k73 73 W w.heap.size (fun _ => True) (.slice A3 xs.length c3) xs ∧ Kd.R k80 80 W w.heap.size (fun _ => True) (.slice B1 px.length d1) px ∧ Kd.R k80 80 W w.heap.size (fun _ => True) (.slice B2 sx.length d2) sx ∧ W.heap[g2]? = some (.cells Z26 26 (0, 0)) ∧ W.heap[g3]? = some (.cells Z51 51 (0, 0)) ∧ Below w.heap.size w W) ⟨zO BK12.out N12P.out _, qP BK13.out rfl, Kd.R_set HZ.out BK13.out (by decide) _ _, Kd.R_set HO1.out BK13.out (by decide) _ _, Kd.R_set HO2.out BK13.out (by decide) _ _, zO BK2.out N2P.out _, zO BK3.out N3P.out _, BL HB⟩ ?_
      clear BK12 BK13 HZ HO1 HO2 BK2 BK3 HB
      rintro W ⟨hb12, hb13, hz, ho1, ho2, hb2, hb3, hbw⟩
      have BK12 := K_ hb12
      have BK13 := K_ hb13
      have HZ := K_ hz
      have HO1 := K_ ho1
      have HO2 := K_ ho2
      have BK2 := K_ hb2
      have BK3 := K_ hb3
      have HB := K_ hbw
      clear hb12 hb13 hz ho1 ho2 hb2 hb3 hbw
      have hHeld := (show W.cell? ⟨g12, 0, none⟩ = some (.slice B1 px.length d1) ∧ W.cell? ⟨g12, 1, none⟩ = some (.slice B2 sx.length d2) ∧ W.cell? ⟨g12, 22, none⟩ = some (.int .i64 at_) ∧ W.cell? ⟨g12, 23, none⟩ = some (.int .i32 pad) from ⟨(zA BK12.out 0).trans rfl, (zA BK12.out 1).trans rfl, (zA BK12.out 22).trans rfl, (zA BK12.out 23).trans rfl⟩)
      refine pw_ 10 113 (bb 16 2047) ?_
      refine on_ 11 none (bb 16 4095) (fun K hK => ?_)
      have hs : W.cell? ⟨g13, 1, none⟩ = some (.slice none 0 0) := (zA BK13.out 1).trans rfl
      have hf := zI BK13.out 1
      refine zaM (w1 := W.setCell ⟨g13, 1, none⟩ (.slice B2 sx.length d2)) (by rfl) rfl (by go_simp; try rfl) ?_
      refine hK.out _ _ (show (W.setCell ⟨g13, 1, none⟩ (.slice B2 sx.length d2)).cell? ⟨g12, 0, none⟩ = some (.slice B1 px.length d1) ∧ (W.setCell ⟨g13, 1, none⟩ (.slice B2 sx.length d2)).cell? ⟨g12, 1, none⟩ = some (.slice B2 sx.length d2) ∧ (W.setCell ⟨g13, 1, none⟩ (.slice B2 sx.length d2)).cell? ⟨g12, 22, none⟩ = some (.int .i64 at_) ∧ (W.setCell ⟨g13, 1, none⟩ (.slice B2 sx.length d2)).cell? ⟨g12, 23, none⟩ = some (.int .i32 pad) from ⟨(zA (zO BK12.out N12P.out _) 0).trans rfl, (zA (zO BK12.out N12P.out _) 1).trans rfl, (zA (zO BK12.out N12P.out _) 22).trans rfl, (zA (zO BK12.out N12P.out _) 23).trans rfl⟩) (fun _ => ?_)
      clear hK K hs hf hHeld
      refine zU (fun W => W.heap[g12]? = some (.cells (uJ (.slice B1 px.length d1) (.slice B2 sx.length d2) PN at_ pad long) 76 (0, 0)) ∧ W.heap[g13]? = some (.cells (xP (.slice B1 px.length d1) (.slice B2 sx.length d2) false (.slice none 0 0) (.slice none 0 0) PN 0 0 0) 26 (0, 0)) ∧ Kd.R k73 73 W w.heap.size (fun _ => True) (.slice A3 xs.length c3) xs ∧ Kd.R k80 80 W w.heap.size (fun _ => True) (.slice B1 px.length d1) px ∧ Kd.R k80 80 W w.heap.size (fun _ => True) (.slice B2 sx.length d2) sx ∧ W.heap[g2]? = some (.cells Z26 26 (0, 0)) ∧ W.heap[g3]? = some (.cells Z51 51 (0, 0)) ∧ Below w.heap.size w W) ⟨zO BK12.out N12P.out _, qP BK13.out rfl, Kd.R_set HZ.out BK13.out (by decide) _ _, Kd.R_set HO1.out BK13.out (by decide) _ _, Kd.R_set HO2.out BK13.out (by decide) _ _, zO BK2.out N2P.out _, zO BK3.out N3P.out _, BL HB⟩ ?_
      clear BK12 BK13 HZ HO1 HO2 BK2 BK3 HB
      rintro W ⟨hb12, hb13, hz, ho1, ho2, hb2, hb3, hbw⟩
      have BK12 := K_ hb12
      have BK13 := K_ hb13
      have HZ := K_ hz
      have HO1 := K_ ho1
      have HO2 := K_ ho2
      have BK2 := K_ hb2
      have BK3 := K_ hb3
      have HB := K_ hbw
      clear hb12 hb13 hz ho1 ho2 hb2 hb3 hbw
      have hHeld := (show W.cell? ⟨g12, 0, none⟩ = some (.slice B1 px.length d1) ∧ W.cell? ⟨g12, 1, none⟩ = some (.slice B2 sx.length d2) ∧ W.cell? ⟨g12, 22, none⟩ = some (.int .i64 at_) ∧ W.cell? ⟨g12, 23, none⟩ = some (.int .i32 pad) from ⟨(zA BK12.out 0).trans rfl, (zA BK12.out 1).trans rfl, (zA BK12.out 22).trans rfl, (zA BK12.out 23).trans rfl⟩)
      refine pw_ 12 114 (bb 16 8191) ?_
      refine on_ 13 none (bb 16 16383) (fun K hK => ?_)
      have hs : W.cell? ⟨g13, 17, none⟩ = some (.int .i64 0) := (zA BK13.out 17).trans rfl
      have hf := zI BK13.out 17
      refine zaM (w1 := W.setCell ⟨g13, 17, none⟩ (.int .i64 at_)) (by rfl) rfl (by go_simp; try rfl) ?_
      refine hK.out _ _ (show (W.setCell ⟨g13, 17, none⟩ (.int .i64 at_)).cell? ⟨g12, 0, none⟩ = some (.slice B1 px.length d1) ∧ (W.setCell ⟨g13, 17, none⟩ (.int .i64 at_)).cell? ⟨g12, 1, none⟩ = some (.slice B2 sx.length d2) ∧ (W.setCell ⟨g13, 17, none⟩ (.int .i64 at_)).cell? ⟨g12, 22, none⟩ = some (.int .i64 at_) ∧ (W.setCell ⟨g13, 17, none⟩ (.int .i64 at_)).cell? ⟨g12, 23, none⟩ = some (.int .i32 pad) from ⟨(zA (zO BK12.out N12P.out _) 0).trans rfl, (zA (zO BK12.out N12P.out _) 1).trans rfl, (zA (zO BK12.out N12P.out _) 22).trans rfl, (zA (zO BK12.out N12P.out _) 23).trans rfl⟩) (fun _ => ?_)
      clear hK K hs hf hHeld
      refine zU (fun W => W.heap[g12]? = some (.cells (uJ (.slice B1 px.length d1) (.slice B2 sx.length d2) PN at_ pad long) 76 (0, 0)) ∧ W.heap[g13]? = some (.cells (xP (.slice B1 px.length d1) (.slice B2 sx.length d2) false (.slice none 0 0) (.slice none 0 0) PN at_ 0 0) 26 (0, 0)) ∧ Kd.R k73 73 W w.heap.size (fun _ => True) (.slice A3 xs.length c3) xs ∧ Kd.R k80 80 W w.heap.size (fun _ => True) (.slice B1 px.length d1) px ∧ Kd.R k80 80 W w.heap.size (fun _ => True) (.slice B2 sx.length d2) sx ∧ W.heap[g2]? = some (.cells Z26 26 (0, 0)) ∧ W.heap[g3]? = some (.cells Z51 51 (0, 0)) ∧ Below w.heap.size w W) ⟨zO BK12.out N12P.out _, qP BK13.out rfl, Kd.R_set HZ.out BK13.out (by decide) _ _, Kd.R_set HO1.out BK13.out (by decide) _ _, Kd.R_set HO2.out BK13.out (by decide) _ _, zO BK2.out N2P.out _, zO BK3.out N3P.out _, BL HB⟩ ?_
      clear BK12 BK13 HZ HO1 HO2 BK2 BK3 HB
      rintro W ⟨hb12, hb13, hz, ho1, ho2, hb2, hb3, hbw⟩
      have BK12 := K_ hb12
      have BK13 := K_ hb13
      have HZ := K_ hz
      have HO1 := K_ ho1
      have HO2 := K_ ho2
      have BK2 := K_ hb2
      have BK3 := K_ hb3
      have HB := K_ hbw
      clear hb12 hb13 hz ho1 ho2 hb2 hb3 hbw
      have hHeld := (show W.cell? ⟨g12, 0, none⟩ = some (.slice B1 px.length d1) ∧ W.cell? ⟨g12, 1, none⟩ = some (.slice B2 sx.length d2) ∧ W.cell? ⟨g12, 22, none⟩ = some (.int .i64 at_) ∧ W.cell? ⟨g12, 23, none⟩ = some (.int .i32 pad) from ⟨(zA BK12.out 0).trans rfl, (zA BK12.out 1).trans rfl, (zA BK12.out 22).trans rfl, (zA BK12.out 23).trans rfl⟩)
      refine pw_ 14 115 (bb 16 32767) ?_
      refine on_ 15 none (bb 16 65535) (fun K hK => ?_)
      have hs : W.cell? ⟨g13, 18, none⟩ = some (.int .i32 0) := (zA BK13.out 18).trans rfl
      have hf := zI BK13.out 18
      refine zaM (w1 := W.setCell ⟨g13, 18, none⟩ (.int .i32 pad)) (by rfl) rfl (by go_simp; try rfl) ?_
      refine hK.out _ _ (show (W.setCell ⟨g13, 18, none⟩ (.int .i32 pad)).cell? ⟨g12, 0, none⟩ = some (.slice B1 px.length d1) ∧ (W.setCell ⟨g13, 18, none⟩ (.int .i32 pad)).cell? ⟨g12, 1, none⟩ = some (.slice B2 sx.length d2) ∧ (W.setCell ⟨g13, 18, none⟩ (.int .i32 pad)).cell? ⟨g12, 22, none⟩ = some (.int .i64 at_) ∧ (W.setCell ⟨g13, 18, none⟩ (.int .i32 pad)).cell? ⟨g12, 23, none⟩ = some (.int .i32 pad) from ⟨(zA (zO BK12.out N12P.out _) 0).trans rfl, (zA (zO BK12.out N12P.out _) 1).trans rfl, (zA (zO BK12.out N12P.out _) 22).trans rfl, (zA (zO BK12.out N12P.out _) 23).trans rfl⟩) (fun _ => ?_)
      clear hK K hs hf hHeld
      refine zU (fun W => W.heap[g12]? = some (.cells (uJ (.slice B1 px.length d1) (.slice B2 sx.length d2) PN at_ pad long) 76 (0, 0)) ∧ W.heap[g13]? = some (.cells (xP (.slice B1 px.length d1) (.slice B2 sx.length d2) false (.slice none 0 0) (.slice none 0 0) PN at_ pad 0) 26 (0, 0)) ∧ Kd.R k73 73 W w.heap.size (fun _ => True) (.slice A3 xs.length c3) xs ∧ Kd.R k80 80 W w.heap.size (fun _ => True) (.slice B1 px.length d1) px ∧ Kd.R k80 80 W w.heap.size (fun _ => True) (.slice B2 sx.length d2) sx ∧ W.heap[g2]? = some (.cells Z26 26 (0, 0)) ∧ W.heap[g3]? = some (.cells Z51 51 (0, 0)) ∧ Below w.heap.size w W) ⟨zO BK12.out N12P.out _, qP BK13.out rfl, Kd.R_set HZ.out BK13.out (by decide) _ _, Kd.R_set HO1.out BK13.out (by decide) _ _, Kd.R_set HO2.out BK13.out (by decide) _ _, zO BK2.out N2P.out _, zO BK3.out N3P.out _, BL HB⟩ ?_
      clear BK12 BK13 HZ HO1 HO2 BK2 BK3 HB
      rintro W ⟨hb12, hb13, hz, ho1, ho2, hb2, hb3, hbw⟩
      have BK12 := K_ hb12
      have BK13 := K_ hb13
      have HZ := K_ hz
      have HO1 := K_ ho1
      have HO2 := K_ ho2
      have BK2 := K_ hb2
      have BK3 := K_ hb3
      have HB := K_ hbw
      clear hb12 hb13 hz ho1 ho2 hb2 hb3 hbw
      have hHeld := (show W.cell? ⟨g12, 0, none⟩ = some (.slice B1 px.length d1) ∧ W.cell? ⟨g12, 1, none⟩ = some (.slice B2 sx.length d2) ∧ W.cell? ⟨g12, 22, none⟩ = some (.int .i64 at_) ∧ W.cell? ⟨g12, 23, none⟩ = some (.int .i32 pad) from ⟨(zA BK12.out 0).trans rfl, (zA BK12.out 1).trans rfl, (zA BK12.out 22).trans rfl, (zA BK12.out 23).trans rfl⟩)
      refine yY (by kernel_rfl) ?_
      clear hHeld
      have e0 : W.cell? ⟨g12, 0, none⟩ = some (.slice B1 px.length d1) := (zA BK12.out 0).trans rfl
      have e1 : W.cell? ⟨g12, 1, none⟩ = some (.slice B2 sx.length d2) := (zA BK12.out 1).trans rfl
      have e22 : W.cell? ⟨g12, 22, none⟩ = some (.int .i64 at_) := (zA BK12.out 22).trans rfl
      have e24 : W.cell? ⟨g12, 24, none⟩ = some (.int .i64 long) := (zA BK12.out 24).trans rfl
      have s19 : W.cell? ⟨g13, 19, none⟩ = some (.int .i64 0) := (zA BK13.out 19).trans rfl
      have f19 := zI BK13.out 19
      go_upto_if 118 with (fail)
      go_cut [] from 116 to 129 (fun wx => ∃ wd : Int, wx.heap[g12]? = some (.cells (uJ (.slice B1 px.length d1) (.slice B2 sx.length d2) PN at_ pad long) 76 (0, 0)) ∧ wx.heap[g13]? = some (.cells (xP (.slice B1 px.length d1) (.slice B2 sx.length d2) false (.slice none 0 0) (.slice none 0 0) PN at_ pad wd) 26 (0, 0)) ∧ Kd.R k73 73 wx w.heap.size (fun _ => True) (.slice A3 xs.length c3) xs ∧ Kd.R k80 80 wx w.heap.size (fun _ => True) (.slice B1 px.length d1) px ∧ Kd.R k80 80 wx w.heap.size (fun _ => True) (.slice B2 sx.length d2) sx ∧ wx.heap[g2]? = some (.cells Z26 26 (0, 0)) ∧ wx.heap[g3]? = some (.cells Z51 51 (0, 0)) ∧ Below w.heap.size w wx)
      case first =>
       by_cases ha : 0 < at_
       ·have da : decide (0 < at_) = true := decide_eq_true ha
        go_wp2
        go_meet
        case rel => exact ⟨_, zO BK12.out N12P.out _, qP BK13.out rfl, Kd.R_set HZ.out BK13.out (by decide) _ _, Kd.R_set HO1.out BK13.out (by decide) _ _, Kd.R_set HO2.out BK13.out (by decide) _ _, zO BK2.out N2P.out _, zO BK3.out N3P.out _, BL HB⟩
       have da : decide (0 < at_) = false := decide_eq_false ha
       go_wp2
       go_meet
       case rel => exact ⟨0, BK BK12, BK BK13, RB HZ.out, RB HO1.out, RB HO2.out, BK BK2, BK BK3, BL HB⟩
      case rest =>
       obtain ⟨wd, hb12, hb13, hz, ho1, ho2, hb2, hb3, hbw⟩ := hcut
       clear e0 e1 e22 e24 s19 f19
       replace BK12 := K_ hb12
       replace BK13 := K_ hb13
       replace HZ := K_ hz
       replace HO1 := K_ ho1
       replace HO2 := K_ ho2
       replace BK2 := K_ hb2
       replace BK3 := K_ hb3
       replace HB := K_ hbw
       clear hb12 hb13 hz ho1 ho2 hb2 hb3 hbw
       have e0 := (show wc.cell? ⟨g12, 0, none⟩ = some (.slice B1 px.length d1) from (zA BK12.out 0).trans rfl)
       have HLEN := K_ (show (([⟨2, 0⟩] : List S80).length + px.length) * 16 ≤ 140737488355328 by simp; omega)
       go_upto_region 35 with (first
        | ((with_reducible refine zF (N := 131) rfl ?_); refine Kd.R_lit k80 (w0 := w) w.heap.size 80 ?hg (N := 131) ?hd (xs := ([⟨2, 0⟩] : List S80)) (inner := [.int .i64 2, .int .i32 0]) (ok := fun _ => True) (okp := fun _ => True) ?hr ?hp (fun _ hk => hk) trivial (BL HB) (zL (BL HB)) (by simp) ?_; (case hd => rfl); (case hg => rfl); (case hr => first | (go_simp; done) | (go_simp; rfl)); (case hp => exact zoq _ _ _ (⟨2, 0⟩ : S80)); intro v5 w6 ho5 hb5 hg5 hnew; obtain ⟨b5, hv5, hb5s⟩ := hnew; have hbl := Below.grown (Below.refl _ _) hg5 (Nat.le_refl _) (fun _ h => by cases h); replace HO1 := K_ (Kd.R_elder' (RB HO1.out) (fun k hk => by rw [hv5] at hk; cases hk; exact hb5s) hbl); replace HO2 := K_ (Kd.R_elder' (RB HO2.out) (fun k hk => by rw [hv5] at hk; cases hk; exact hb5s) hbl); replace HZ := K_ (Kd.R_below (RB HZ.out) hbl); replace BK12 := zC BK12 hbl; replace BK13 := zC BK13 hbl; replace BK2 := zC BK2 hbl; replace BK3 := zC BK3 hbl; replace HB := K_ hb5; have HO5 := K_ ho5; clear ho5 hb5 hg5 hv5 hb5s hbl e0; have e0 := (show w6.cell? ⟨g12, 0, none⟩ = some (.slice B1 px.length d1) from (zA BK12.out 0).trans rfl))
        | ((with_reducible refine zX (b := .append) (xs := #[.tmp 131, .tmp 133]) rfl ?_); at_builtin; (refine Kd.R_append_rows k80 (w0 := w) w.heap.size rfl (.tmp 131) (.tmp 133) 24 80 (.agg #[(.int .i64 0), (.int .i32 0)]) 16 rfl Tryz.underlying24 zpb rfl (by decide) (by omega) v5 ([⟨2, 0⟩] : List S80) px B1 px.length d1 (fun _ => True) (fun _ => False) rfl rfl ?aO ?aR (fun _ _ h => h) (fun _ h => h.elim) (fun _ _ => trivial) ?aB ?aS ?aL ?_; (case aO => exact RB HO5.out); (case aR => exact (Kd.R_reads' HO1.out).2.2); (case aB => exact BL HB); (case aS => exact zL (BL HB)); (case aL => exact HLEN.out); intro v6 w7 ho6 hb6 hg6 hat6; obtain ⟨A6, c6, rfl⟩ := Kd.R_slice ho6; have HO6 := K_ ho6; replace HO1 := K_ (Kd.R_mono (ok' := fun _ => True) (Kd.R_grown HO1.out hg6 (fun k hk => hk.2)) (fun _ _ => trivial)); replace HO2 := K_ (Kd.R_mono (ok' := fun _ => True) (Kd.R_grown HO2.out hg6 (fun k hk => hk.2)) (fun _ _ => trivial)); replace HZ := K_ (Kd.R_over HZ.out HO5.out (by decide) hg6); replace BK12 := K_ (yW BK12.out hg6 (Kd.R_ne HO5.out BK12.out (by decide))); replace BK13 := K_ (yW BK13.out hg6 (Kd.R_ne HO5.out BK13.out (by decide))); replace BK2 := K_ (yW BK2.out hg6 (Kd.R_ne HO5.out BK2.out (by decide))); replace BK3 := K_ (yW BK3.out hg6 (Kd.R_ne HO5.out BK3.out (by decide))); replace HB := K_ hb6; clear ho6 hb6 hg6 hat6 HO5; have s3 := (show w7.cell? ⟨g13, 3, none⟩ = some (.slice none 0 0) from (zA BK13.out 3).trans rfl); have f3 := zI BK13.out 3)))
       refine zbh (fun W => Kd.R k80 80 W w.heap.size (fun _ => True) (.slice A6 ([(⟨2, 0⟩ : S80)] ++ px).length c6) ([⟨2, 0⟩] ++ px) ∧ W.heap[g12]? = some (.cells (uJ (.slice B1 px.length d1) (.slice B2 sx.length d2) PN at_ pad long) 76 (0, 0)) ∧ W.heap[g13]? = some (.cells (xP (.slice B1 px.length d1) (.slice B2 sx.length d2) false (.slice A6 ([(⟨2, 0⟩ : S80)] ++ px).length c6) (.slice none 0 0) PN at_ pad wd) 26 (0, 0)) ∧ Kd.R k73 73 W w.heap.size (fun _ => True) (.slice A3 xs.length c3) xs ∧ Kd.R k80 80 W w.heap.size (fun _ => True) (.slice B1 px.length d1) px ∧ Kd.R k80 80 W w.heap.size (fun _ => True) (.slice B2 sx.length d2) sx ∧ W.heap[g2]? = some (.cells Z26 26 (0, 0)) ∧ W.heap[g3]? = some (.cells Z51 51 (0, 0)) ∧ Below w.heap.size w W) ⟨Kd.R_set HO6.out BK13.out (by decide) _ _, zO BK12.out N12P.out _, qP BK13.out rfl, Kd.R_set HZ.out BK13.out (by decide) _ _, Kd.R_set HO1.out BK13.out (by decide) _ _, Kd.R_set HO2.out BK13.out (by decide) _ _, zO BK2.out N2P.out _, zO BK3.out N3P.out _, BL HB⟩ ?_
       clear e0 s3 f3 HO6 BK12 BK13 HZ HO1 HO2 BK2 BK3 HB
       rintro W5 ⟨ho6, hb12, hb13, hz, ho1, ho2, hb2, hb3, hbw⟩
       have HO6 := K_ ho6
       have BK12 := K_ hb12
       have BK13 := K_ hb13
       have HZ := K_ hz
       have HO1 := K_ ho1
       have HO2 := K_ ho2
       have BK2 := K_ hb2
       have BK3 := K_ hb3
       have HB := K_ hbw
       clear hb12 hb13 hz ho1 ho2 hb2 hb3 hbw
       clear ho6
       have e1 := (show W5.cell? ⟨g12, 1, none⟩ = some (.slice B2 sx.length d2) from (zA BK12.out 1).trans rfl)
       have s4 := (show W5.cell? ⟨g13, 4, none⟩ = some (.slice none 0 0) from (zA BK13.out 4).trans rfl)
       have f4 := zI BK13.out 4
       go_upto_if 140 with (fail)
       refine zbh (fun W => Kd.R k80 80 W w.heap.size (fun _ => True) (.slice A6 ([(⟨2, 0⟩ : S80)] ++ px).length c6) ([⟨2, 0⟩] ++ px) ∧ W.heap[g12]? = some (.cells (uJ (.slice B1 px.length d1) (.slice B2 sx.length d2) PN at_ pad long) 76 (0, 0)) ∧ W.heap[g13]? = some (.cells (xP (.slice B1 px.length d1) (.slice B2 sx.length d2) false (.slice A6 ([(⟨2, 0⟩ : S80)] ++ px).length c6) (.slice B2 sx.length d2) PN at_ pad wd) 26 (0, 0)) ∧ Kd.R k73 73 W w.heap.size (fun _ => True) (.slice A3 xs.length c3) xs ∧ Kd.R k80 80 W w.heap.size (fun _ => True) (.slice B1 px.length d1) px ∧ Kd.R k80 80 W w.heap.size (fun _ => True) (.slice B2 sx.length d2) sx ∧ W.heap[g2]? = some (.cells Z26 26 (0, 0)) ∧ W.heap[g3]? = some (.cells Z51 51 (0, 0)) ∧ Below w.heap.size w W) ⟨Kd.R_set HO6.out BK13.out (by decide) _ _, zO BK12.out N12P.out _, qP BK13.out rfl, Kd.R_set HZ.out BK13.out (by decide) _ _, Kd.R_set HO1.out BK13.out (by decide) _ _, Kd.R_set HO2.out BK13.out (by decide) _ _, zO BK2.out N2P.out _, zO BK3.out N3P.out _, BL HB⟩ ?_
       clear e1 s4 f4 HO6 BK12 BK13 HZ HO1 HO2 BK2 BK3 HB
       rintro W6 ⟨ho6, hb12, hb13, hz, ho1, ho2, hb2, hb3, hbw⟩
       have HO6 := K_ ho6
       have BK12 := K_ hb12
       have BK13 := K_ hb13
       have HZ := K_ hz
       have HO1 := K_ ho1
       have HO2 := K_ ho2
       have BK2 := K_ hb2
       have BK3 := K_ hb3
       have HB := K_ hbw
       clear hb12 hb13 hz ho1 ho2 hb2 hb3 hbw
       clear ho6
       have HG1 := K_ (show vK px by rw [HPOK.out.2.1]; exact zce _)
       have HG2 := K_ (show vK sx by rw [HPOK.out.2.2]; exact zce _)
       go_cut [14, 15] from 139 to 167 (fun _ _ wx => ∃ (hn : Bool) (v3 v4 : Value) (nx ny : List S80), Kd.R k80 80 wx w.heap.size (fun _ => True) v3 nx ∧ Kd.R k80 80 wx w.heap.size (fun _ => True) v4 ny ∧ (vK nx ∧ vK ny) ∧ nx.length ≤ 1000 ∧ ny.length ≤ 1000 ∧ (xI l → zaq l → nx = ⟨2, 0⟩ :: px ∧ ny = sx) ∧ wx.heap[g13]? = some (.cells (xP (.slice B1 px.length d1) (.slice B2 sx.length d2) hn v3 v4 PN at_ pad wd) 26 (0, 0)) ∧ Kd.R k80 80 wx w.heap.size (fun _ => True) (.slice B1 px.length d1) px ∧ Kd.R k80 80 wx w.heap.size (fun _ => True) (.slice B2 sx.length d2) sx ∧ wx.heap[g2]? = some (.cells Z26 26 (0, 0)) ∧ wx.heap[g3]? = some (.cells Z51 51 (0, 0)) ∧ Below w.heap.size w wx)
       case first =>
        by_cases hs0 : 0 ≤ sm
        ·have dsm : decide (0 ≤ sm) = true := decide_eq_true hs0
         obtain ⟨m, hm⟩ := Int.eq_ofNat_of_zero_le hs0
         have hml : m < xs.length := by have := HSM.out; omega
         subst hm
         have HNT := K_ (show xI l → zaq l → False from fun q1 q2 => by have := HNS.out q1 q2; omega)
         go_upto_region 37 with (fail)
         obtain ⟨x, hx⟩ : ∃ x, x = xs[m] := ⟨_, rfl⟩
         have hcx := (Kd.R_reads' HZ.out).2.1
         obtain ⟨ad, ea, h0, h1, h2, h3⟩ := zar (Kd.R_reads' HZ.out).2.2 (m : Int) (by omega) (by omega)
         obtain rfl := ea
         rw [zcw hml, ← hx] at h0 h1 h2 h3
         simp only [Int.toNat_natCast] at h0 h1 h2 h3
         clear hx h0 h1 h3
         obtain ⟨m1, hm1⟩ : ∃ m1, m1 = m + 1 := ⟨_, rfl⟩
         have hm1l : m1 ≤ xs.length := by omega
         have hwm : IntKind.i64.wrap ((m : Int) + 1) = ((m1 : Nat) : Int) := by rw [IntKind.wrap_i64]; omega
         have hww : wrap64 ((m : Int) + 1) = ((m1 : Nat) : Int) := by unfold wrap64; omega
         obtain ⟨zs, hzs⟩ : ∃ zs, zs = xs.drop m1 := ⟨_, rfl⟩
         obtain ⟨A4, hA4⟩ : ∃ A4 : Option Addr, (if c3 = m1 then some ad else (some ad).map (·.add (m1 * 4))) = A4 := ⟨_, rfl⟩
         have hzl : xs.length - m1 = zs.length := by rw [hzs, List.length_drop]
         have hzl4 : zs.length ≤ 400 := by omega
         have hc4 := Kd.C_drop (Kd.R_reads' HZ.out).2.2 hm1l hcx
         rw [← hzs, show k73.sz = 4 from rfl, hA4] at hc4
         have HC4 := K_ hc4
         obtain ⟨cz, hcz⟩ : ∃ cz, c3 - m1 = cz := ⟨_, rfl⟩
         have hczl : zs.length ≤ cz := by omega
         have hi0 : (0 : Int) ≤ (m : Int) := by omega
         have hi1 : (m : Int) < (xs.length : Int) := by omega
         obtain ⟨i73, hi73, hsz73⟩ := znZ
         have HBX := K_ (Below.refl W6.heap.size W6)
         clear hc4 hzs hm1
         refine yK (n := 19) (S := fun W => W.cell? ⟨(ad.add (m * 4)).block, (ad.add (m * 4)).off + 2, none⟩ = some (.int .i64 x.f0.f2)) (ds := []) #[false, false, false, false, false, false, false, false, false, false, false, false, false, false, false, false, false, false, false] (by kernel_rfl) rfl rfl h2 (fun hHeld => ?_)
         refine zU (fun W => W.cell? ⟨(ad.add (m * 4)).block, (ad.add (m * 4)).off + 2, none⟩ = some (.int .i64 x.f0.f2) ∧ Kd.C k73 W A4 zs.length zs ∧ W.heap[g13]? = some (.cells (xP (.slice B1 px.length d1) (.slice B2 sx.length d2) false (.slice A6 ([(⟨2, 0⟩ : S80)] ++ px).length c6) (.slice B2 sx.length d2) PN at_ pad wd) 26 (0, 0)) ∧ Kd.R k80 80 W w.heap.size (fun _ => True) (.slice B1 px.length d1) px ∧ Kd.R k80 80 W w.heap.size (fun _ => True) (.slice B2 sx.length d2) sx ∧ W.heap[g2]? = some (.cells Z26 26 (0, 0)) ∧ W.heap[g3]? = some (.cells Z51 51 (0, 0)) ∧ Below w.heap.size w W) ⟨h2, Kd.C_below HC4.out (BL HBX), BK BK13, RB HO1.out, RB HO2.out, BK BK2, BK BK3, BL HB⟩ ?_
         clear hHeld h2 HC4 BK12 HZ HO6 HBX BK13 HO1 HO2 BK2 BK3 HB
         rintro W ⟨hHeld, hc4, hb13, ho1, ho2, hb2, hb3, hbw⟩
         have HC4 := K_ hc4
         have BK13 := K_ hb13
         have HO1 := K_ ho1
         have HO2 := K_ ho2
         have BK2 := K_ hb2
         have BK3 := K_ hb3
         have HB := K_ hbw
         clear hc4 hb13 ho1 ho2 hb2 hb3 hbw
         refine pw_ 0 142 (bb 19 1) ?_
         refine pw_ 1 143 (bb 19 3) ?_
         refine pw_ 2 144 (bb 19 7) ?_
         refine jU (i := 3) (N := some 145) (bb 19 15) rfl rfl (by kernel_rfl) (fun _ _ _ h => h) (v := .slice A4 zs.length cz) (Or.inl ⟨by rfl, zoB rfl rfl rfl Tryz.underlying69 hi73 hsz73 hm1l hA4 hzl hcz⟩) (by simp only [Act.put, List.setIfInBounds_toArray, List.set_cons_zero, List.set_cons_succ]; rfl) ?_
         refine pw_ 4 146 (bb 19 31) ?_
         refine pw_ 5 147 (bb 19 63) ?_
         refine pw_ 6 148 (bb 19 127) ?_
         refine pw_ 7 149 (bb 19 255) ?_
         refine pw_ 8 150 (bb 19 511) ?_
         refine tw_ 9 151 (bb 19 1023) hHeld ?_
         refine pw_ 10 152 (bb 19 2047) ?_
         clear hwm hww hi0 hi1 hi73 hsz73
         refine xB (σ := Value × Int × Int × Nat × Nat) 2 (bb 19 131071) (fun s : Value × Int × Int × Nat × Nat => [(153, .tuple #[s.1, .agg #[.int .i64 s.2.1, .int .i64 s.2.2.1]]), (141, .tuple #[s.1, .agg #[.int .i64 s.2.1, .int .i64 s.2.2.1]]), (154, s.1), (155, .agg #[.int .i64 s.2.1, .int .i64 s.2.2.1]), (14, .pointer (some ⟨s.2.2.2.1, 0, none⟩)), (15, .pointer (some ⟨s.2.2.2.2, 0, none⟩))]) (fun s W => (∃ (B5 : Option Addr) (e5 : Nat) (B6 : Option Addr) (e6 : Nat) (px2 sx2 : List S80) (P2 : jT) (at2 pad2 long2 : Int), s.1 = .agg (uJ (.slice B5 px2.length e5) (.slice B6 sx2.length e6) P2 at2 pad2 long2) ∧ Kd.R k80 80 W w.heap.size (fun _ => True) (.slice B5 px2.length e5) px2 ∧ Kd.R k80 80 W w.heap.size (fun _ => True) (.slice B6 sx2.length e6) sx2 ∧ (s.2.1 = 0 → xN zs P2 ∧ px2 = zZ (vU zs (uN zs) zs.length) ∧ sx2 = zZ (vV zs (uI zs) zs.length))) ∧ W.heap[s.2.2.2.1]? = some (.cells Z76 76 (0, 0)) ∧ W.heap[s.2.2.2.2]? = some (.cells Z51 51 (0, 0)) ∧ s.2.2.2.1 ≠ s.2.2.2.2 ∧ g2 ≠ s.2.2.2.1 ∧ g2 ≠ s.2.2.2.2 ∧ g3 ≠ s.2.2.2.1 ∧ g3 ≠ s.2.2.2.2 ∧ g13 ≠ s.2.2.2.1 ∧ g13 ≠ s.2.2.2.2 ∧ w.heap.size ≤ s.2.2.2.1 ∧ w.heap.size ≤ s.2.2.2.2 ∧ (ad.add (m * 4)).block ≠ s.2.2.2.1 ∧ (ad.add (m * 4)).block ≠ s.2.2.2.2 ∧ W.cell? ⟨(ad.add (m * 4)).block, (ad.add (m * 4)).off + 2, none⟩ = some (.int .i64 x.f0.f2) ∧ W.heap[g13]? = some (.cells (xP (.slice B1 px.length d1) (.slice B2 sx.length d2) false (.slice A6 ([(⟨2, 0⟩ : S80)] ++ px).length c6) (.slice B2 sx.length d2) PN at_ pad wd) 26 (0, 0)) ∧ Kd.R k80 80 W w.heap.size (fun _ => True) (.slice B1 px.length d1) px ∧ Kd.R k80 80 W w.heap.size (fun _ => True) (.slice B2 sx.length d2) sx ∧ W.heap[g2]? = some (.cells Z26 26 (0, 0)) ∧ W.heap[g3]? = some (.cells Z51 51 (0, 0)) ∧ Below w.heap.size w W) ?hc37 ?hr37
         case hr37 =>
          intro hCont
          refine zht (i := 11) (j := 15) (k := 16) (Ni := some 153) (Nj := some 14) (Nk := some 15) (bb 19 4095) (bb 19 34815) (bb 19 67583) rfl rfl rfl rfl rfl rfl (by kernel_rfl) (by decide) (by decide) (by decide) (fun K hK => ?_) (fun K hK => ?_) (fun K hK => ?_)
          ·skip
           refine gq_ Tryz.func57 #[.slice A4 zs.length cz, .int .i64 _, .bool false] ?_
           refine (zbG A4 cz zs _ false _ HC4.out hczl (by omega)).mono ?_
           rintro e9 w20 ⟨v1, v2, px2, sx2, P2, at2, pad2, long2, E3, a3, rfl, hq1, hq2, hb, hpost, -⟩
           obtain ⟨B5, e5, rfl⟩ := Kd.R_slice hq1
           obtain ⟨B6, e6, rfl⟩ := Kd.R_slice hq2
           refine ⟨_, rfl, ?_⟩
           have HPQ := K_ hpost
           have HQ1 := K_ (Kd.R_lower hq1 (zL HB.out))
           have HQ2 := K_ (Kd.R_lower hq2 (zL HB.out))
           have hh20 := (Below.cell hb (World.block_lt_of_cell? _ _ hHeld)).trans hHeld
           replace HC4 := K_ (Kd.C_below HC4.out hb)
           replace HO1 := K_ (Kd.R_below HO1.out hb)
           replace HO2 := K_ (Kd.R_below HO2.out hb)
           replace BK13 := zC BK13 hb
           replace BK2 := zC BK2 hb
           replace BK3 := zC BK3 hb
           replace HB := zE HB hb
           clear hb hpost hq1 hq2 hHeld
           have hHeld := hh20
           clear hh20
           refine hK.out _ _ hHeld (fun _ => ?_)
           clear hK K
           refine no_ (some 153) ?_
           refine pw_ 12 141 (bb 19 8191) ?_
           refine pw_ 13 154 (bb 19 16383) ?_
           refine pw_ 14 155 (bb 19 32767) ?_
           refine zbD (i := 15) (j := 16) (Ni := some 14) (Nj := some 15) (bb 19 65535) (bb 19 98303) rfl rfl rfl rfl (by kernel_rfl) (by decide) (by decide) (fun K hK => ?_) (fun K hK => ?_)
           ·skip
            refine bs_ 14 (Z76) 76 ?_
            intro g14 hg w21 hbox hb
            have BK14 := K_ hbox
            have GE14 := ge_ hg HB
            have N2x14 := nb_ hg BK2
            have N3x14 := nb_ hg BK3
            have N13x14 := nb_ hg BK13
            have NCx14 := zdk hHeld hg
            have hh21 := (Below.cell hb (World.block_lt_of_cell? _ _ hHeld)).trans hHeld
            replace HC4 := K_ (Kd.C_below HC4.out hb)
            replace HO1 := K_ (Kd.R_below HO1.out hb)
            replace HO2 := K_ (Kd.R_below HO2.out hb)
            replace HQ1 := K_ (Kd.R_below HQ1.out hb)
            replace HQ2 := K_ (Kd.R_below HQ2.out hb)
            replace BK13 := zC BK13 hb
            replace BK2 := zC BK2 hb
            replace BK3 := zC BK3 hb
            replace HB := zE HB hb
            clear hb hbox hg hHeld
            have hHeld := hh21
            clear hh21
            refine hK.out _ _ hHeld (fun _ => ?_)
            clear hK K
            refine no_ (some 14) ?_
            refine on_ 16 (some 15) (bb 19 131071) (fun K hK => ?_)
            refine bs_ 15 (Z51) 51 ?_
            intro g15 hg w22 hbox hb
            have BK15 := K_ hbox
            have GE15 := ge_ hg HB
            have N2x15 := nb_ hg BK2
            have N3x15 := nb_ hg BK3
            have N13x15 := nb_ hg BK13
            have NCx15 := zdk hHeld hg
            have N1415 := nb_ hg BK14
            have hh22 := (Below.cell hb (World.block_lt_of_cell? _ _ hHeld)).trans hHeld
            replace HC4 := K_ (Kd.C_below HC4.out hb)
            replace HO1 := K_ (Kd.R_below HO1.out hb)
            replace HO2 := K_ (Kd.R_below HO2.out hb)
            replace HQ1 := K_ (Kd.R_below HQ1.out hb)
            replace HQ2 := K_ (Kd.R_below HQ2.out hb)
            replace BK13 := zC BK13 hb
            replace BK2 := zC BK2 hb
            replace BK3 := zC BK3 hb
            replace BK14 := zC BK14 hb
            replace HB := zE HB hb
            clear hb hbox hg hHeld
            have hHeld := hh22
            clear hh22
            refine hK.out _ _ hHeld (fun _ => ?_)
            clear hK K
            refine no_ (some 15) ?_
            exact nj_ (hCont (.agg (uJ (.slice B5 px2.length e5) (.slice B6 sx2.length e6) P2 at2 pad2 long2), E3, a3, g14, g15) _ ⟨⟨B5, e5, B6, e6, px2, sx2, P2, at2, pad2, long2, rfl, HQ1.out, HQ2.out, HPQ.out⟩, BK14.out, BK15.out, N1415.out, N2x14.out, N2x15.out, N3x14.out, N3x15.out, N13x14.out, N13x15.out, GE14.out, GE15.out, NCx14, NCx15, hHeld, BK13.out, HO1.out, HO2.out, BK2.out, BK3.out, HB.out⟩)
           skip
           refine bs_ 15 (Z51) 51 ?_
           intro g15 hg w21 hbox hb
           have BK15 := K_ hbox
           have GE15 := ge_ hg HB
           have N2x15 := nb_ hg BK2
           have N3x15 := nb_ hg BK3
           have N13x15 := nb_ hg BK13
           have NCx15 := zdk hHeld hg
           have hh21 := (Below.cell hb (World.block_lt_of_cell? _ _ hHeld)).trans hHeld
           replace HC4 := K_ (Kd.C_below HC4.out hb)
           replace HO1 := K_ (Kd.R_below HO1.out hb)
           replace HO2 := K_ (Kd.R_below HO2.out hb)
           replace HQ1 := K_ (Kd.R_below HQ1.out hb)
           replace HQ2 := K_ (Kd.R_below HQ2.out hb)
           replace BK13 := zC BK13 hb
           replace BK2 := zC BK2 hb
           replace BK3 := zC BK3 hb
           replace HB := zE HB hb
           clear hb hbox hg hHeld
           have hHeld := hh21
           clear hh21
           refine hK.out _ _ hHeld (fun _ => ?_)
           clear hK K
           refine no_ (some 15) ?_
           refine on_ 15 (some 14) (bb 19 131071) (fun K hK => ?_)
           refine bs_ 14 (Z76) 76 ?_
           intro g14 hg w22 hbox hb
           have BK14 := K_ hbox
           have GE14 := ge_ hg HB
           have N2x14 := nb_ hg BK2
           have N3x14 := nb_ hg BK3
           have N13x14 := nb_ hg BK13
           have NCx14 := zdk hHeld hg
           have NX := nb_ hg BK15
           have N1415 := K_ (Ne.symm NX.out)
           clear NX
           have hh22 := (Below.cell hb (World.block_lt_of_cell? _ _ hHeld)).trans hHeld
           replace HC4 := K_ (Kd.C_below HC4.out hb)
           replace HO1 := K_ (Kd.R_below HO1.out hb)
           replace HO2 := K_ (Kd.R_below HO2.out hb)
           replace HQ1 := K_ (Kd.R_below HQ1.out hb)
           replace HQ2 := K_ (Kd.R_below HQ2.out hb)
           replace BK13 := zC BK13 hb
           replace BK2 := zC BK2 hb
           replace BK3 := zC BK3 hb
           replace BK15 := zC BK15 hb
           replace HB := zE HB hb
           clear hb hbox hg hHeld
           have hHeld := hh22
           clear hh22
           refine hK.out _ _ hHeld (fun _ => ?_)
           clear hK K
           refine no_ (some 14) ?_
           exact nj_ (hCont (.agg (uJ (.slice B5 px2.length e5) (.slice B6 sx2.length e6) P2 at2 pad2 long2), E3, a3, g14, g15) _ ⟨⟨B5, e5, B6, e6, px2, sx2, P2, at2, pad2, long2, rfl, HQ1.out, HQ2.out, HPQ.out⟩, BK14.out, BK15.out, N1415.out, N2x14.out, N2x15.out, N3x14.out, N3x15.out, N13x14.out, N13x15.out, GE14.out, GE15.out, NCx14, NCx15, hHeld, BK13.out, HO1.out, HO2.out, BK2.out, BK3.out, HB.out⟩)
          ·skip
           refine bs_ 14 (Z76) 76 ?_
           intro g14 hg w20 hbox hb
           have BK14 := K_ hbox
           have GE14 := ge_ hg HB
           have N2x14 := nb_ hg BK2
           have N3x14 := nb_ hg BK3
           have N13x14 := nb_ hg BK13
           have NCx14 := zdk hHeld hg
           have hh20 := (Below.cell hb (World.block_lt_of_cell? _ _ hHeld)).trans hHeld
           replace HC4 := K_ (Kd.C_below HC4.out hb)
           replace HO1 := K_ (Kd.R_below HO1.out hb)
           replace HO2 := K_ (Kd.R_below HO2.out hb)
           replace BK13 := zC BK13 hb
           replace BK2 := zC BK2 hb
           replace BK3 := zC BK3 hb
           replace HB := zE HB hb
           clear hb hbox hg hHeld
           have hHeld := hh20
           clear hh20
           refine hK.out _ _ hHeld (fun _ => ?_)
           clear hK K
           refine no_ (some 14) ?_
           refine zbD (i := 11) (j := 16) (Ni := some 153) (Nj := some 15) (bb 19 36863) (bb 19 100351) rfl rfl rfl rfl (by kernel_rfl) (by decide) (by decide) (fun K hK => ?_) (fun K hK => ?_)
           ·skip
            refine gq_ Tryz.func57 #[.slice A4 zs.length cz, .int .i64 _, .bool false] ?_
            refine (zbG A4 cz zs _ false _ HC4.out hczl (by omega)).mono ?_
            rintro e9 w21 ⟨v1, v2, px2, sx2, P2, at2, pad2, long2, E3, a3, rfl, hq1, hq2, hb, hpost, -⟩
            obtain ⟨B5, e5, rfl⟩ := Kd.R_slice hq1
            obtain ⟨B6, e6, rfl⟩ := Kd.R_slice hq2
            refine ⟨_, rfl, ?_⟩
            have HPQ := K_ hpost
            have HQ1 := K_ (Kd.R_lower hq1 (zL HB.out))
            have HQ2 := K_ (Kd.R_lower hq2 (zL HB.out))
            have hh21 := (Below.cell hb (World.block_lt_of_cell? _ _ hHeld)).trans hHeld
            replace HC4 := K_ (Kd.C_below HC4.out hb)
            replace HO1 := K_ (Kd.R_below HO1.out hb)
            replace HO2 := K_ (Kd.R_below HO2.out hb)
            replace BK13 := zC BK13 hb
            replace BK2 := zC BK2 hb
            replace BK3 := zC BK3 hb
            replace BK14 := zC BK14 hb
            replace HB := zE HB hb
            clear hb hpost hq1 hq2 hHeld
            have hHeld := hh21
            clear hh21
            refine hK.out _ _ hHeld (fun _ => ?_)
            clear hK K
            refine no_ (some 153) ?_
            refine pw_ 12 141 (bb 19 40959) ?_
            refine pw_ 13 154 (bb 19 49151) ?_
            refine pw_ 14 155 (bb 19 65535) ?_
            refine on_ 16 (some 15) (bb 19 131071) (fun K hK => ?_)
            refine bs_ 15 (Z51) 51 ?_
            intro g15 hg w22 hbox hb
            have BK15 := K_ hbox
            have GE15 := ge_ hg HB
            have N2x15 := nb_ hg BK2
            have N3x15 := nb_ hg BK3
            have N13x15 := nb_ hg BK13
            have NCx15 := zdk hHeld hg
            have N1415 := nb_ hg BK14
            have hh22 := (Below.cell hb (World.block_lt_of_cell? _ _ hHeld)).trans hHeld
            replace HC4 := K_ (Kd.C_below HC4.out hb)
            replace HO1 := K_ (Kd.R_below HO1.out hb)
            replace HO2 := K_ (Kd.R_below HO2.out hb)
            replace HQ1 := K_ (Kd.R_below HQ1.out hb)
            replace HQ2 := K_ (Kd.R_below HQ2.out hb)
            replace BK13 := zC BK13 hb
            replace BK2 := zC BK2 hb
            replace BK3 := zC BK3 hb
            replace BK14 := zC BK14 hb
            replace HB := zE HB hb
            clear hb hbox hg hHeld
            have hHeld := hh22
            clear hh22
            refine hK.out _ _ hHeld (fun _ => ?_)
            clear hK K
            refine no_ (some 15) ?_
            exact nj_ (hCont (.agg (uJ (.slice B5 px2.length e5) (.slice B6 sx2.length e6) P2 at2 pad2 long2), E3, a3, g14, g15) _ ⟨⟨B5, e5, B6, e6, px2, sx2, P2, at2, pad2, long2, rfl, HQ1.out, HQ2.out, HPQ.out⟩, BK14.out, BK15.out, N1415.out, N2x14.out, N2x15.out, N3x14.out, N3x15.out, N13x14.out, N13x15.out, GE14.out, GE15.out, NCx14, NCx15, hHeld, BK13.out, HO1.out, HO2.out, BK2.out, BK3.out, HB.out⟩)
           skip
           refine bs_ 15 (Z51) 51 ?_
           intro g15 hg w21 hbox hb
           have BK15 := K_ hbox
           have GE15 := ge_ hg HB
           have N2x15 := nb_ hg BK2
           have N3x15 := nb_ hg BK3
           have N13x15 := nb_ hg BK13
           have NCx15 := zdk hHeld hg
           have N1415 := nb_ hg BK14
           have hh21 := (Below.cell hb (World.block_lt_of_cell? _ _ hHeld)).trans hHeld
           replace HC4 := K_ (Kd.C_below HC4.out hb)
           replace HO1 := K_ (Kd.R_below HO1.out hb)
           replace HO2 := K_ (Kd.R_below HO2.out hb)
           replace BK13 := zC BK13 hb
           replace BK2 := zC BK2 hb
           replace BK3 := zC BK3 hb
           replace BK14 := zC BK14 hb
           replace HB := zE HB hb
           clear hb hbox hg hHeld
           have hHeld := hh21
           clear hh21
           refine hK.out _ _ hHeld (fun _ => ?_)
           clear hK K
           refine no_ (some 15) ?_
           refine on_ 11 (some 153) (bb 19 102399) (fun K hK => ?_)
           refine gq_ Tryz.func57 #[.slice A4 zs.length cz, .int .i64 _, .bool false] ?_
           refine (zbG A4 cz zs _ false _ HC4.out hczl (by omega)).mono ?_
           rintro e9 w22 ⟨v1, v2, px2, sx2, P2, at2, pad2, long2, E3, a3, rfl, hq1, hq2, hb, hpost, -⟩
           obtain ⟨B5, e5, rfl⟩ := Kd.R_slice hq1
           obtain ⟨B6, e6, rfl⟩ := Kd.R_slice hq2
           refine ⟨_, rfl, ?_⟩
           have HPQ := K_ hpost
           have HQ1 := K_ (Kd.R_lower hq1 (zL HB.out))
           have HQ2 := K_ (Kd.R_lower hq2 (zL HB.out))
           have hh22 := (Below.cell hb (World.block_lt_of_cell? _ _ hHeld)).trans hHeld
           replace HC4 := K_ (Kd.C_below HC4.out hb)
           replace HO1 := K_ (Kd.R_below HO1.out hb)
           replace HO2 := K_ (Kd.R_below HO2.out hb)
           replace BK13 := zC BK13 hb
           replace BK2 := zC BK2 hb
           replace BK3 := zC BK3 hb
           replace BK14 := zC BK14 hb
           replace BK15 := zC BK15 hb
           replace HB := zE HB hb
           clear hb hpost hq1 hq2 hHeld
           have hHeld := hh22
           clear hh22
           refine hK.out _ _ hHeld (fun _ => ?_)
           clear hK K
           refine no_ (some 153) ?_
           refine pw_ 12 141 (bb 19 106495) ?_
           refine pw_ 13 154 (bb 19 114687) ?_
           refine pw_ 14 155 (bb 19 131071) ?_
           exact nj_ (hCont (.agg (uJ (.slice B5 px2.length e5) (.slice B6 sx2.length e6) P2 at2 pad2 long2), E3, a3, g14, g15) _ ⟨⟨B5, e5, B6, e6, px2, sx2, P2, at2, pad2, long2, rfl, HQ1.out, HQ2.out, HPQ.out⟩, BK14.out, BK15.out, N1415.out, N2x14.out, N2x15.out, N3x14.out, N3x15.out, N13x14.out, N13x15.out, GE14.out, GE15.out, NCx14, NCx15, hHeld, BK13.out, HO1.out, HO2.out, BK2.out, BK3.out, HB.out⟩)
          skip
          refine bs_ 15 (Z51) 51 ?_
          intro g15 hg w20 hbox hb
          have BK15 := K_ hbox
          have GE15 := ge_ hg HB
          have N2x15 := nb_ hg BK2
          have N3x15 := nb_ hg BK3
          have N13x15 := nb_ hg BK13
          have NCx15 := zdk hHeld hg
          have hh20 := (Below.cell hb (World.block_lt_of_cell? _ _ hHeld)).trans hHeld
          replace HC4 := K_ (Kd.C_below HC4.out hb)
          replace HO1 := K_ (Kd.R_below HO1.out hb)
          replace HO2 := K_ (Kd.R_below HO2.out hb)
          replace BK13 := zC BK13 hb
          replace BK2 := zC BK2 hb
          replace BK3 := zC BK3 hb
          replace HB := zE HB hb
          clear hb hbox hg hHeld
          have hHeld := hh20
          clear hh20
          refine hK.out _ _ hHeld (fun _ => ?_)
          clear hK K
          refine no_ (some 15) ?_
          refine zbD (i := 11) (j := 15) (Ni := some 153) (Nj := some 14) (bb 19 69631) (bb 19 100351) rfl rfl rfl rfl (by kernel_rfl) (by decide) (by decide) (fun K hK => ?_) (fun K hK => ?_)
          ·skip
           refine gq_ Tryz.func57 #[.slice A4 zs.length cz, .int .i64 _, .bool false] ?_
           refine (zbG A4 cz zs _ false _ HC4.out hczl (by omega)).mono ?_
           rintro e9 w21 ⟨v1, v2, px2, sx2, P2, at2, pad2, long2, E3, a3, rfl, hq1, hq2, hb, hpost, -⟩
           obtain ⟨B5, e5, rfl⟩ := Kd.R_slice hq1
           obtain ⟨B6, e6, rfl⟩ := Kd.R_slice hq2
           refine ⟨_, rfl, ?_⟩
           have HPQ := K_ hpost
           have HQ1 := K_ (Kd.R_lower hq1 (zL HB.out))
           have HQ2 := K_ (Kd.R_lower hq2 (zL HB.out))
           have hh21 := (Below.cell hb (World.block_lt_of_cell? _ _ hHeld)).trans hHeld
           replace HC4 := K_ (Kd.C_below HC4.out hb)
           replace HO1 := K_ (Kd.R_below HO1.out hb)
           replace HO2 := K_ (Kd.R_below HO2.out hb)
           replace BK13 := zC BK13 hb
           replace BK2 := zC BK2 hb
           replace BK3 := zC BK3 hb
           replace BK15 := zC BK15 hb
           replace HB := zE HB hb
           clear hb hpost hq1 hq2 hHeld
           have hHeld := hh21
           clear hh21
           refine hK.out _ _ hHeld (fun _ => ?_)
           clear hK K
           refine no_ (some 153) ?_
           refine pw_ 12 141 (bb 19 73727) ?_
           refine pw_ 13 154 (bb 19 81919) ?_
           refine pw_ 14 155 (bb 19 98303) ?_
           refine on_ 15 (some 14) (bb 19 131071) (fun K hK => ?_)
           refine bs_ 14 (Z76) 76 ?_
           intro g14 hg w22 hbox hb
           have BK14 := K_ hbox
           have GE14 := ge_ hg HB
           have N2x14 := nb_ hg BK2
           have N3x14 := nb_ hg BK3
           have N13x14 := nb_ hg BK13
           have NCx14 := zdk hHeld hg
           have NX := nb_ hg BK15
           have N1415 := K_ (Ne.symm NX.out)
           clear NX
           have hh22 := (Below.cell hb (World.block_lt_of_cell? _ _ hHeld)).trans hHeld
           replace HC4 := K_ (Kd.C_below HC4.out hb)
           replace HO1 := K_ (Kd.R_below HO1.out hb)
           replace HO2 := K_ (Kd.R_below HO2.out hb)
           replace HQ1 := K_ (Kd.R_below HQ1.out hb)
           replace HQ2 := K_ (Kd.R_below HQ2.out hb)
           replace BK13 := zC BK13 hb
           replace BK2 := zC BK2 hb
           replace BK3 := zC BK3 hb
           replace BK15 := zC BK15 hb
           replace HB := zE HB hb
           clear hb hbox hg hHeld
           have hHeld := hh22
           clear hh22
           refine hK.out _ _ hHeld (fun _ => ?_)
           clear hK K
           refine no_ (some 14) ?_
           exact nj_ (hCont (.agg (uJ (.slice B5 px2.length e5) (.slice B6 sx2.length e6) P2 at2 pad2 long2), E3, a3, g14, g15) _ ⟨⟨B5, e5, B6, e6, px2, sx2, P2, at2, pad2, long2, rfl, HQ1.out, HQ2.out, HPQ.out⟩, BK14.out, BK15.out, N1415.out, N2x14.out, N2x15.out, N3x14.out, N3x15.out, N13x14.out, N13x15.out, GE14.out, GE15.out, NCx14, NCx15, hHeld, BK13.out, HO1.out, HO2.out, BK2.out, BK3.out, HB.out⟩)
          skip
          refine bs_ 14 (Z76) 76 ?_
          intro g14 hg w21 hbox hb
          have BK14 := K_ hbox
          have GE14 := ge_ hg HB
          have N2x14 := nb_ hg BK2
          have N3x14 := nb_ hg BK3
          have N13x14 := nb_ hg BK13
          have NCx14 := zdk hHeld hg
          have NX := nb_ hg BK15
          have N1415 := K_ (Ne.symm NX.out)
          clear NX
          have hh21 := (Below.cell hb (World.block_lt_of_cell? _ _ hHeld)).trans hHeld
          replace HC4 := K_ (Kd.C_below HC4.out hb)
          replace HO1 := K_ (Kd.R_below HO1.out hb)
          replace HO2 := K_ (Kd.R_below HO2.out hb)
          replace BK13 := zC BK13 hb
          replace BK2 := zC BK2 hb
          replace BK3 := zC BK3 hb
          replace BK15 := zC BK15 hb
          replace HB := zE HB hb
          clear hb hbox hg hHeld
          have hHeld := hh21
          clear hh21
          refine hK.out _ _ hHeld (fun _ => ?_)
          clear hK K
          refine no_ (some 14) ?_
          refine on_ 11 (some 153) (bb 19 102399) (fun K hK => ?_)
          refine gq_ Tryz.func57 #[.slice A4 zs.length cz, .int .i64 _, .bool false] ?_
          refine (zbG A4 cz zs _ false _ HC4.out hczl (by omega)).mono ?_
          rintro e9 w22 ⟨v1, v2, px2, sx2, P2, at2, pad2, long2, E3, a3, rfl, hq1, hq2, hb, hpost, -⟩
          obtain ⟨B5, e5, rfl⟩ := Kd.R_slice hq1
          obtain ⟨B6, e6, rfl⟩ := Kd.R_slice hq2
          refine ⟨_, rfl, ?_⟩
          have HPQ := K_ hpost
          have HQ1 := K_ (Kd.R_lower hq1 (zL HB.out))
          have HQ2 := K_ (Kd.R_lower hq2 (zL HB.out))
          have hh22 := (Below.cell hb (World.block_lt_of_cell? _ _ hHeld)).trans hHeld
          replace HC4 := K_ (Kd.C_below HC4.out hb)
          replace HO1 := K_ (Kd.R_below HO1.out hb)
          replace HO2 := K_ (Kd.R_below HO2.out hb)
          replace BK13 := zC BK13 hb
          replace BK2 := zC BK2 hb
          replace BK3 := zC BK3 hb
          replace BK14 := zC BK14 hb
          replace BK15 := zC BK15 hb
          replace HB := zE HB hb
          clear hb hpost hq1 hq2 hHeld
          have hHeld := hh22
          clear hh22
          refine hK.out _ _ hHeld (fun _ => ?_)
          clear hK K
          refine no_ (some 153) ?_
          refine pw_ 12 141 (bb 19 106495) ?_
          refine pw_ 13 154 (bb 19 114687) ?_
          refine pw_ 14 155 (bb 19 131071) ?_
          exact nj_ (hCont (.agg (uJ (.slice B5 px2.length e5) (.slice B6 sx2.length e6) P2 at2 pad2 long2), E3, a3, g14, g15) _ ⟨⟨B5, e5, B6, e6, px2, sx2, P2, at2, pad2, long2, rfl, HQ1.out, HQ2.out, HPQ.out⟩, BK14.out, BK15.out, N1415.out, N2x14.out, N2x15.out, N3x14.out, N3x15.out, N13x14.out, N13x15.out, GE14.out, GE15.out, NCx14, NCx15, hHeld, BK13.out, HO1.out, HO2.out, BK2.out, BK3.out, HB.out⟩)
         case hc37 =>
          rintro ⟨V, E3, a3, g14, g15⟩ W7 ⟨⟨B5, e5, B6, e6, px2, sx2, P2, at2, pad2, long2, hV, hq1, hq2, hpq⟩, hb14, hb15, n1415, n2x14, n2x15, n3x14, n3x15, n13x14, n13x15, ge14, ge15, ncx14, ncx15, hHeld, hb13, ho1, ho2, hb2, hb3, hbw⟩
          dsimp only at hV hq1 hq2 hpq hb14 hb15 n1415 n2x14 n2x15 n3x14 n3x15 n13x14 n13x15 ge14 ge15 ncx14 ncx15
          subst hV
          have BK14 := K_ hb14
          have BK15 := K_ hb15
          have N1415 := K_ n1415
          have N2x14 := K_ n2x14
          have N2x15 := K_ n2x15
          have N3x14 := K_ n3x14
          have N3x15 := K_ n3x15
          have N13x14 := K_ n13x14
          have N13x15 := K_ n13x15
          have HQ1 := K_ hq1
          have HQ2 := K_ hq2
          have HPQ := K_ hpq
          have BK13 := K_ hb13
          have HO1 := K_ ho1
          have HO2 := K_ ho2
          have BK2 := K_ hb2
          have BK3 := K_ hb3
          have HB := K_ hbw
          clear hb14 hb15 n1415 n2x14 n2x15 n3x14 n3x15 n13x14 n13x15 hq1 hq2 hpq hb13 ho1 ho2 hb2 hb3 hbw
          refine np_ ?_
          refine on_ 17 none (bb 19 262143) (fun K hK => ?_)
          refine yP (g := g14) (cs := Z76) (uJ (.slice B5 px2.length e5) (.slice B6 sx2.length e6) P2 at2 pad2 long2) BK14 ?_ rfl rfl rfl rfl rfl zbr rfl rfl
          intro w17 hbk hfar hbel
          have hh := zaj hfar (p := ⟨(ad.add (m * 4)).block, (ad.add (m * 4)).off + 2, none⟩) ncx14 hHeld
          replace HQ1 := K_ (vR HQ1.out BK14.out (by decide) hfar)
          replace HQ2 := K_ (vR HQ2.out BK14.out (by decide) hfar)
          replace HO1 := K_ (vR HO1.out BK14.out (by decide) hfar)
          replace HO2 := K_ (vR HO2.out BK14.out (by decide) hfar)
          replace BK13 := K_ (hfar _ _ N13x14.out BK13.out)
          replace BK2 := K_ (hfar _ _ N2x14.out BK2.out)
          replace BK3 := K_ (hfar _ _ N3x14.out BK3.out)
          replace BK15 := K_ (hfar _ _ (Ne.symm N1415.out) BK15.out)
          replace BK14 := K_ hbk
          replace HB := K_ (hbel _ _ ge14 HB.out)
          clear hHeld
          have hHeld := hh
          refine hK.out _ _ hHeld (fun _ => ?_)
          clear hK K hbk hfar hbel hh
          refine on_ 18 none (bb 19 524287) (fun K hK => ?_)
          refine yP (g := g15) (cs := Z51) (#[.int .i64 E3, .int .i64 a3]) BK15 ?_ rfl rfl rfl rfl rfl uH rfl rfl
          intro w18 hbk hfar hbel
          have hh := zaj hfar (p := ⟨(ad.add (m * 4)).block, (ad.add (m * 4)).off + 2, none⟩) ncx15 hHeld
          replace HQ1 := K_ (vR HQ1.out BK15.out (by decide) hfar)
          replace HQ2 := K_ (vR HQ2.out BK15.out (by decide) hfar)
          replace HO1 := K_ (vR HO1.out BK15.out (by decide) hfar)
          replace HO2 := K_ (vR HO2.out BK15.out (by decide) hfar)
          replace BK13 := K_ (hfar _ _ N13x15.out BK13.out)
          replace BK2 := K_ (hfar _ _ N2x15.out BK2.out)
          replace BK3 := K_ (hfar _ _ N3x15.out BK3.out)
          replace BK14 := K_ (hfar _ _ N1415.out BK14.out)
          replace BK15 := K_ hbk
          replace HB := K_ (hbel _ _ ge15 HB.out)
          clear hHeld
          have hHeld := hh
          refine hK.out _ _ hHeld (fun _ => ?_)
          clear hK K hbk hfar hbel hh
          refine yY (by kernel_rfl) ?_
          clear hHeld ncx14 ncx15 ge14 ge15
          obtain ⟨⟨q0, q1⟩, q2, q3⟩ := ce2 BK15
          by_cases hE : E3 = 0
          ·subst hE
           have HQK := K_ (HPQ.out rfl)
           have hq1l : px2.length ≤ 1000 := by
            rw [HQK.out.2.1]; refine Nat.le_trans (zcU _) (Nat.le_trans (zfk _ _ _) (by omega))
           have hq2l : sx2.length ≤ 1000 := by
            rw [HQK.out.2.2]; refine Nat.le_trans (zcU _) (Nat.le_trans (zeU _ _ _) (by omega))
           have HGQ := K_ (show vK px2 ∧ vK sx2 by rw [HQK.out.2.1, HQK.out.2.2]; exact ⟨zce _, zce _⟩)
           go_upto_region 40 with (fail)
           clear q0 q1 q2 q3
           refine yK (n := 10) (S := fun W => W.cell? ⟨g14, 0, none⟩ = some (.slice B5 px2.length e5) ∧ W.cell? ⟨g14, 1, none⟩ = some (.slice B6 sx2.length e6)) (ds := []) #[false, false, false, false, false, false, false, false, false, false] (by kernel_rfl) rfl rfl ⟨(zA (BK BK14) 0).trans rfl, (zA (BK BK14) 1).trans rfl⟩ (fun hHeld => ?_)
           refine zU (fun W => W.heap[g14]? = some (.cells (uJ (.slice B5 px2.length e5) (.slice B6 sx2.length e6) P2 at2 pad2 long2) 76 (0, 0)) ∧ Kd.R k80 80 W w.heap.size (fun _ => True) (.slice B5 px2.length e5) px2 ∧ Kd.R k80 80 W w.heap.size (fun _ => True) (.slice B6 sx2.length e6) sx2 ∧ W.heap[g13]? = some (.cells (xP (.slice B1 px.length d1) (.slice B2 sx.length d2) false (.slice A6 ([(⟨2, 0⟩ : S80)] ++ px).length c6) (.slice B2 sx.length d2) PN at_ pad wd) 26 (0, 0)) ∧ Kd.R k80 80 W w.heap.size (fun _ => True) (.slice B1 px.length d1) px ∧ Kd.R k80 80 W w.heap.size (fun _ => True) (.slice B2 sx.length d2) sx ∧ W.heap[g2]? = some (.cells Z26 26 (0, 0)) ∧ W.heap[g3]? = some (.cells Z51 51 (0, 0)) ∧ Below w.heap.size w W) ⟨BK BK14, RB HQ1.out, RB HQ2.out, BK BK13, RB HO1.out, RB HO2.out, BK BK2, BK BK3, BL HB⟩ ?_
           clear hHeld
           clear BK14 HQ1 HQ2 BK13 HO1 HO2 BK2 BK3 HB
           rintro W ⟨hb14, hq1, hq2, hb13, ho1, ho2, hb2, hb3, hbw⟩
           have BK14 := K_ hb14
           have HQ1 := K_ hq1
           have HQ2 := K_ hq2
           have BK13 := K_ hb13
           have HO1 := K_ ho1
           have HO2 := K_ ho2
           have BK2 := K_ hb2
           have BK3 := K_ hb3
           have HB := K_ hbw
           clear hb14 hq1 hq2 hb13 ho1 ho2 hb2 hb3 hbw
           have hHeld := (show W.cell? ⟨g14, 0, none⟩ = some (.slice B5 px2.length e5) ∧ W.cell? ⟨g14, 1, none⟩ = some (.slice B6 sx2.length e6) from ⟨(zA BK14.out 0).trans rfl, (zA BK14.out 1).trans rfl⟩)
           refine pw_ 0 161 (bb 10 1) ?_
           refine pw_ 2 163 (bb 10 5) ?_
           refine tw_ 1 162 (bb 10 7) hHeld ?_
           refine tw_ 3 164 (bb 10 15) hHeld ?_
           refine pw_ 4 165 (bb 10 31) ?_
           refine on_ 5 none (bb 10 63) (fun K hK => ?_)
           have hs : W.cell? ⟨g13, 2, none⟩ = some (.bool false) := (zA BK13.out 2).trans rfl
           have hf := zI BK13.out 2
           refine zaM (w1 := W.setCell ⟨g13, 2, none⟩ (.bool true)) (by rfl) rfl (by go_simp; try rfl) ?_
           refine hK.out _ _ (show (W.setCell ⟨g13, 2, none⟩ (.bool true)).cell? ⟨g14, 0, none⟩ = some (.slice B5 px2.length e5) ∧ (W.setCell ⟨g13, 2, none⟩ (.bool true)).cell? ⟨g14, 1, none⟩ = some (.slice B6 sx2.length e6) from ⟨(zA (zO BK14.out (Ne.symm N13x14.out) _) 0).trans rfl, (zA (zO BK14.out (Ne.symm N13x14.out) _) 1).trans rfl⟩) (fun _ => ?_)
           clear hK K hs hf hHeld
           refine zU (fun W => W.heap[g14]? = some (.cells (uJ (.slice B5 px2.length e5) (.slice B6 sx2.length e6) P2 at2 pad2 long2) 76 (0, 0)) ∧ Kd.R k80 80 W w.heap.size (fun _ => True) (.slice B5 px2.length e5) px2 ∧ Kd.R k80 80 W w.heap.size (fun _ => True) (.slice B6 sx2.length e6) sx2 ∧ W.heap[g13]? = some (.cells (xP (.slice B1 px.length d1) (.slice B2 sx.length d2) true (.slice A6 ([(⟨2, 0⟩ : S80)] ++ px).length c6) (.slice B2 sx.length d2) PN at_ pad wd) 26 (0, 0)) ∧ Kd.R k80 80 W w.heap.size (fun _ => True) (.slice B1 px.length d1) px ∧ Kd.R k80 80 W w.heap.size (fun _ => True) (.slice B2 sx.length d2) sx ∧ W.heap[g2]? = some (.cells Z26 26 (0, 0)) ∧ W.heap[g3]? = some (.cells Z51 51 (0, 0)) ∧ Below w.heap.size w W) ⟨zO BK14.out (Ne.symm N13x14.out) _, Kd.R_set HQ1.out BK13.out (by decide) _ _, Kd.R_set HQ2.out BK13.out (by decide) _ _, qP BK13.out rfl, Kd.R_set HO1.out BK13.out (by decide) _ _, Kd.R_set HO2.out BK13.out (by decide) _ _, zO BK2.out N2P.out _, zO BK3.out N3P.out _, BL HB⟩ ?_
           clear BK14 HQ1 HQ2 BK13 HO1 HO2 BK2 BK3 HB
           rintro W ⟨hb14, hq1, hq2, hb13, ho1, ho2, hb2, hb3, hbw⟩
           have BK14 := K_ hb14
           have HQ1 := K_ hq1
           have HQ2 := K_ hq2
           have BK13 := K_ hb13
           have HO1 := K_ ho1
           have HO2 := K_ ho2
           have BK2 := K_ hb2
           have BK3 := K_ hb3
           have HB := K_ hbw
           clear hb14 hq1 hq2 hb13 ho1 ho2 hb2 hb3 hbw
           have hHeld := (show W.cell? ⟨g14, 0, none⟩ = some (.slice B5 px2.length e5) ∧ W.cell? ⟨g14, 1, none⟩ = some (.slice B6 sx2.length e6) from ⟨(zA BK14.out 0).trans rfl, (zA BK14.out 1).trans rfl⟩)
           refine pw_ 6 166 (bb 10 127) ?_
           refine on_ 7 none (bb 10 255) (fun K hK => ?_)
           have hs : W.cell? ⟨g13, 3, none⟩ = some (.slice A6 ([(⟨2, 0⟩ : S80)] ++ px).length c6) := (zA BK13.out 3).trans rfl
           have hf := zI BK13.out 3
           refine zaM (w1 := W.setCell ⟨g13, 3, none⟩ (.slice B5 px2.length e5)) (by rfl) rfl (by go_simp; try rfl) ?_
           refine hK.out _ _ (show (W.setCell ⟨g13, 3, none⟩ (.slice B5 px2.length e5)).cell? ⟨g14, 0, none⟩ = some (.slice B5 px2.length e5) ∧ (W.setCell ⟨g13, 3, none⟩ (.slice B5 px2.length e5)).cell? ⟨g14, 1, none⟩ = some (.slice B6 sx2.length e6) from ⟨(zA (zO BK14.out (Ne.symm N13x14.out) _) 0).trans rfl, (zA (zO BK14.out (Ne.symm N13x14.out) _) 1).trans rfl⟩) (fun _ => ?_)
           clear hK K hs hf hHeld
           refine zU (fun W => W.heap[g14]? = some (.cells (uJ (.slice B5 px2.length e5) (.slice B6 sx2.length e6) P2 at2 pad2 long2) 76 (0, 0)) ∧ Kd.R k80 80 W w.heap.size (fun _ => True) (.slice B5 px2.length e5) px2 ∧ Kd.R k80 80 W w.heap.size (fun _ => True) (.slice B6 sx2.length e6) sx2 ∧ W.heap[g13]? = some (.cells (xP (.slice B1 px.length d1) (.slice B2 sx.length d2) true (.slice B5 px2.length e5) (.slice B2 sx.length d2) PN at_ pad wd) 26 (0, 0)) ∧ Kd.R k80 80 W w.heap.size (fun _ => True) (.slice B1 px.length d1) px ∧ Kd.R k80 80 W w.heap.size (fun _ => True) (.slice B2 sx.length d2) sx ∧ W.heap[g2]? = some (.cells Z26 26 (0, 0)) ∧ W.heap[g3]? = some (.cells Z51 51 (0, 0)) ∧ Below w.heap.size w W) ⟨zO BK14.out (Ne.symm N13x14.out) _, Kd.R_set HQ1.out BK13.out (by decide) _ _, Kd.R_set HQ2.out BK13.out (by decide) _ _, qP BK13.out rfl, Kd.R_set HO1.out BK13.out (by decide) _ _, Kd.R_set HO2.out BK13.out (by decide) _ _, zO BK2.out N2P.out _, zO BK3.out N3P.out _, BL HB⟩ ?_
           clear BK14 HQ1 HQ2 BK13 HO1 HO2 BK2 BK3 HB
           rintro W ⟨hb14, hq1, hq2, hb13, ho1, ho2, hb2, hb3, hbw⟩
           have BK14 := K_ hb14
           have HQ1 := K_ hq1
           have HQ2 := K_ hq2
           have BK13 := K_ hb13
           have HO1 := K_ ho1
           have HO2 := K_ ho2
           have BK2 := K_ hb2
           have BK3 := K_ hb3
           have HB := K_ hbw
           clear hb14 hq1 hq2 hb13 ho1 ho2 hb2 hb3 hbw
           have hHeld := (show W.cell? ⟨g14, 0, none⟩ = some (.slice B5 px2.length e5) ∧ W.cell? ⟨g14, 1, none⟩ = some (.slice B6 sx2.length e6) from ⟨(zA BK14.out 0).trans rfl, (zA BK14.out 1).trans rfl⟩)
           refine pw_ 8 167 (bb 10 511) ?_
           refine on_ 9 none (bb 10 1023) (fun K hK => ?_)
           have hs : W.cell? ⟨g13, 4, none⟩ = some (.slice B2 sx.length d2) := (zA BK13.out 4).trans rfl
           have hf := zI BK13.out 4
           refine zaM (w1 := W.setCell ⟨g13, 4, none⟩ (.slice B6 sx2.length e6)) (by rfl) rfl (by go_simp; try rfl) ?_
           refine hK.out _ _ (show (W.setCell ⟨g13, 4, none⟩ (.slice B6 sx2.length e6)).cell? ⟨g14, 0, none⟩ = some (.slice B5 px2.length e5) ∧ (W.setCell ⟨g13, 4, none⟩ (.slice B6 sx2.length e6)).cell? ⟨g14, 1, none⟩ = some (.slice B6 sx2.length e6) from ⟨(zA (zO BK14.out (Ne.symm N13x14.out) _) 0).trans rfl, (zA (zO BK14.out (Ne.symm N13x14.out) _) 1).trans rfl⟩) (fun _ => ?_)
           clear hK K hs hf hHeld
           refine zU (fun W => W.heap[g14]? = some (.cells (uJ (.slice B5 px2.length e5) (.slice B6 sx2.length e6) P2 at2 pad2 long2) 76 (0, 0)) ∧ Kd.R k80 80 W w.heap.size (fun _ => True) (.slice B5 px2.length e5) px2 ∧ Kd.R k80 80 W w.heap.size (fun _ => True) (.slice B6 sx2.length e6) sx2 ∧ W.heap[g13]? = some (.cells (xP (.slice B1 px.length d1) (.slice B2 sx.length d2) true (.slice B5 px2.length e5) (.slice B6 sx2.length e6) PN at_ pad wd) 26 (0, 0)) ∧ Kd.R k80 80 W w.heap.size (fun _ => True) (.slice B1 px.length d1) px ∧ Kd.R k80 80 W w.heap.size (fun _ => True) (.slice B2 sx.length d2) sx ∧ W.heap[g2]? = some (.cells Z26 26 (0, 0)) ∧ W.heap[g3]? = some (.cells Z51 51 (0, 0)) ∧ Below w.heap.size w W) ⟨zO BK14.out (Ne.symm N13x14.out) _, Kd.R_set HQ1.out BK13.out (by decide) _ _, Kd.R_set HQ2.out BK13.out (by decide) _ _, qP BK13.out rfl, Kd.R_set HO1.out BK13.out (by decide) _ _, Kd.R_set HO2.out BK13.out (by decide) _ _, zO BK2.out N2P.out _, zO BK3.out N3P.out _, BL HB⟩ ?_
           clear BK14 HQ1 HQ2 BK13 HO1 HO2 BK2 BK3 HB
           rintro W ⟨hb14, hq1, hq2, hb13, ho1, ho2, hb2, hb3, hbw⟩
           have BK14 := K_ hb14
           have HQ1 := K_ hq1
           have HQ2 := K_ hq2
           have BK13 := K_ hb13
           have HO1 := K_ ho1
           have HO2 := K_ ho2
           have BK2 := K_ hb2
           have BK3 := K_ hb3
           have HB := K_ hbw
           clear hb14 hq1 hq2 hb13 ho1 ho2 hb2 hb3 hbw
           have hHeld := (show W.cell? ⟨g14, 0, none⟩ = some (.slice B5 px2.length e5) ∧ W.cell? ⟨g14, 1, none⟩ = some (.slice B6 sx2.length e6) from ⟨(zA BK14.out 0).trans rfl, (zA BK14.out 1).trans rfl⟩)
           refine yY (by kernel_rfl) ?_
           clear hHeld
           go_wp2_with (fail)
           go_meet
           case rel => exact ⟨true, _, _, px2, sx2, RB HQ1.out, RB HQ2.out, HGQ.out, hq1l, hq2l, fun q1 q2 => (HNT.out q1 q2).elim, BK BK13, RB HO1.out, RB HO2.out, BK BK2, BK BK3, BL HB⟩
          have dE3 : (E3 != 0) = true := by simpa using hE
          have HEV := K_ hE
          have HE := K_ (show ∀ l', Ev (fun k => zG.f k s) (l', 0, 0) → xI l' → zaq l' → ∀ P0, xN (l'.map mk73) P0 → ¬ mixed (zZ (vU (l'.map mk73) (uN (l'.map mk73)) l'.length)) (zZ (vV (l'.map mk73) (uI (l'.map mk73)) l'.length)) (⟨2, 0⟩ :: zZ (vU (l'.map mk73) (uN (l'.map mk73)) l'.length)) (zZ (vV (l'.map mk73) (uI (l'.map mk73)) l'.length)) → False from fun l' h1 hns hsm _ _ _ => HNT.out (EQL.out l' h1 ▸ hns) (EQL.out l' h1 ▸ hsm))
          clear hE
          go_upto_region 39 with (fail)
          clear q0 q1 q2 q3
          refine yK (n := 4) (S := fun w' => w'.heap[g15]? = some (.cells #[.int .i64 E3, .int .i64 a3] 51 (0, 0))) (ds := []) #[false, false, false, false] (by kernel_rfl) rfl rfl (BK BK15) (fun hHeld => ?_)
          refine zU (fun W => W.heap[g15]? = some (.cells #[.int .i64 E3, .int .i64 a3] 51 (0, 0)) ∧ W.heap[g2]? = some (.cells Z26 26 (0, 0)) ∧ W.heap[g3]? = some (.cells Z51 51 (0, 0)) ∧ Below w.heap.size w W) ⟨BK BK15, BK BK2, BK BK3, BL HB⟩ ?_
          clear hHeld
          rintro W ⟨hHeld, hb2, hb3, hbw⟩
          replace BK2 := K_ hb2
          replace BK3 := K_ hb3
          replace HB := K_ hbw
          clear hb2 hb3 hbw
          refine pw_ 0 159 (bb 4 1) ?_
          refine tr_ 1 160 (bb 4 3) (#[.int .i64 E3, .int .i64 a3]) (fun _ hs => ⟨hs⟩) Tryz.underlying51 uH hHeld ?_
          refine on_ 2 none (bb 4 7) (fun K hK => ?_)
          refine yP (g := g2) (cs := Z26) Z26 BK2 ?_ rfl rfl rfl rfl rfl jL rfl rfl
          intro w8 hbk hfar hbel
          have hHeld2 := hfar g15 _ (Ne.symm N2x15.out) hHeld
          replace BK3 := K_ (hfar g3 _ (Ne.symm NB.out) BK3.out)
          replace BK2 := K_ hbk
          replace HB := K_ (hbel _ _ GE2.out HB.out)
          refine hK.out _ _ hHeld2 (fun _ => ?_)
          clear hK K hbk hfar hbel
          refine on_ 3 none (bb 4 15) (fun K hK => ?_)
          refine yP (g := g3) (cs := Z51) #[.int .i64 E3, .int .i64 a3] BK3 ?_ rfl rfl rfl rfl rfl uH rfl rfl
          intro w9 hbk hfar hbel
          have hHeld3 := hfar g15 _ (Ne.symm N3x15.out) hHeld2
          replace BK2 := K_ (hfar g2 _ NB.out BK2.out)
          replace BK3 := K_ hbk
          replace HB := K_ (hbel _ _ GE3.out HB.out)
          refine hK.out _ _ hHeld3 (fun _ => ?_)
          clear hK K hbk hfar hbel
          refine yY (by kernel_rfl) ?_
          go_wp2_with (fail)
          (
           refine bodyPost_ret (qI rfl _ _ g2 g3 26 51 Z26 #[.int .i64 E3, .int .i64 a3] (0, 0) (0, 0) _ _ rfl BK2.out Tryz.underlying26 rfl jL rfl BK3.out Tryz.underlying51 rfl uH) rfl ?_
           exact ⟨_, _, _, _, [], [], [], [], jD, false, 0, 0, 0, E3, a3, rfl, Kd.R_nil _ _ _ _ _, Kd.R_nil _ _ _ _ _, Kd.R_nil _ _ _ _ _, Kd.R_nil _ _ _ _ _, BL HB, fun h => absurd h HEV.out, fun l' h1 h2 h3 P0 h4 h5 => (HE.out l' h1 h2 h3 P0 h4 h5).elim⟩)
        have dsm : decide (0 ≤ sm) = false := decide_eq_false hs0
        go_wp2
        go_meet
        case rel => exact ⟨false, _, _, [⟨2, 0⟩] ++ px, sx, RB HO6.out, RB HO2.out, ⟨fun x hx => by rcases List.mem_cons.1 hx with rfl | hx; exact ⟨by decide, by decide, fun _ => rfl⟩; exact HG1.out x hx, HG2.out⟩, by simp; omega, by omega, fun _ _ => ⟨rfl, rfl⟩, BK BK13, RB HO1.out, RB HO2.out, BK BK2, BK BK3, BL HB⟩
       case rest =>
        obtain ⟨hn, v3, v4, nx, ny, ho3, ho4, hgood, hnl, hyl, hex, hb13, ho1, ho2, hb2, hb3, hbw⟩ := hcut
        have HO3 := K_ ho3
        have HO4 := K_ ho4
        have HG := K_ hgood
        have HEN := K_ hex
        replace BK13 := K_ hb13
        replace HO1 := K_ ho1
        replace HO2 := K_ ho2
        replace BK2 := K_ hb2
        replace BK3 := K_ hb3
        replace HB := K_ hbw
        clear hb13 ho1 ho2 hb2 hb3 hbw
        clear ho3 ho4 hgood hex
        obtain ⟨B3, d3, rfl⟩ := Kd.R_slice HO3.out
        obtain ⟨B4, d4, rfl⟩ := Kd.R_slice HO4.out
        clear HZ BK12
        go_upto_region 41 with (fail)
        go_cut [175] from 168 to 175 (fun c wx => c = .bool (decide (0 < sgn 4 px sx nx ny) && decide (0 < sgn 5 px sx nx ny)) ∧ Kd.R k80 80 wx w.heap.size (fun _ => True) (.slice B1 px.length d1) px ∧ Kd.R k80 80 wx w.heap.size (fun _ => True) (.slice B2 sx.length d2) sx ∧ Kd.R k80 80 wx w.heap.size (fun _ => True) (.slice B3 nx.length d3) nx ∧ Kd.R k80 80 wx w.heap.size (fun _ => True) (.slice B4 ny.length d4) ny ∧ wx.heap[g13]? = some (.cells (xP (.slice B1 px.length d1) (.slice B2 sx.length d2) hn (.slice B3 nx.length d3) (.slice B4 ny.length d4) PN at_ pad wd) 26 (0, 0)) ∧ wx.heap[g2]? = some (.cells Z26 26 (0, 0)) ∧ wx.heap[g3]? = some (.cells Z51 51 (0, 0)) ∧ Below w.heap.size w wx)
        case first =>
         by_cases h4 : 0 < sgn 4 px sx nx ny
         ·have p4 : decide (0 < sgn 4 px sx nx ny) = true := decide_eq_true h4
          have r4 : decide ((0 : Int) < ((sgn 4 px sx nx ny : Nat) : Int)) = true := decide_eq_true (by omega)
          have z4 : ¬ sgn 4 px sx nx ny = 0 := by omega
          by_cases h5 : 0 < sgn 5 px sx nx ny
          ·have p5 : decide (0 < sgn 5 px sx nx ny) = true := decide_eq_true h5
           have r5 : decide ((0 : Int) < ((sgn 5 px sx nx ny : Nat) : Int)) = true := decide_eq_true (by omega)
           have z5 : ¬ sgn 5 px sx nx ny = 0 := by omega
           go_wp2_with (first | ((with_reducible refine zF (N := 168) rfl ?_); refine lo_ (g := g13) (cs := xP (.slice B1 px.length d1) (.slice B2 sx.length d2) hn (.slice B3 nx.length d3) (.slice B4 ny.length d4) PN at_ pad wd) _ ⟨BK BK13⟩ ?_ rfl rfl rfl Tryz.underlying26 rfl jL) | ((with_reducible refine zF (N := 172) rfl ?_); refine zbO (g := g13) (cs := xP (.slice B1 px.length d1) (.slice B2 sx.length d2) hn (.slice B3 nx.length d3) (.slice B4 ny.length d4) PN at_ pad wd) _ ⟨BK BK13⟩ ?_ (by rfl) rfl rfl Tryz.underlying26 rfl jL) | (go_at_call 53; refine (zdM B1 B2 B3 B4 d1 d2 d3 d4 px sx nx ny hn PN at_ pad wd _ _ HO1.out HO2.out HO3.out HO4.out (by omega) (by omega) hnl hyl).mono ?_; rintro e9 w' ⟨rfl, hb⟩; replace HO1 := K_ (Kd.R_below (RB HO1.out) hb); replace HO2 := K_ (Kd.R_below (RB HO2.out) hb); replace HO3 := K_ (Kd.R_below (RB HO3.out) hb); replace HO4 := K_ (Kd.R_below (RB HO4.out) hb); replace HB := zE HB hb; replace BK2 := zC BK2 hb; replace BK3 := zC BK3 hb; replace BK13 := zC BK13 hb; clear hb))
           go_meet
           case rel => exact ⟨by rw [p4, p5]; rfl, RB HO1.out, RB HO2.out, RB HO3.out, RB HO4.out, BK BK13, BK BK2, BK BK3, BL HB⟩
          have p5 : decide (0 < sgn 5 px sx nx ny) = false := decide_eq_false h5
          have r5 : decide ((0 : Int) < ((sgn 5 px sx nx ny : Nat) : Int)) = false := decide_eq_false (by omega)
          have z5 : sgn 5 px sx nx ny = 0 := by omega
          go_wp2_with (first | ((with_reducible refine zF (N := 168) rfl ?_); refine lo_ (g := g13) (cs := xP (.slice B1 px.length d1) (.slice B2 sx.length d2) hn (.slice B3 nx.length d3) (.slice B4 ny.length d4) PN at_ pad wd) _ ⟨BK BK13⟩ ?_ rfl rfl rfl Tryz.underlying26 rfl jL) | ((with_reducible refine zF (N := 172) rfl ?_); refine zbO (g := g13) (cs := xP (.slice B1 px.length d1) (.slice B2 sx.length d2) hn (.slice B3 nx.length d3) (.slice B4 ny.length d4) PN at_ pad wd) _ ⟨BK BK13⟩ ?_ (by rfl) rfl rfl Tryz.underlying26 rfl jL) | (go_at_call 53; refine (zdM B1 B2 B3 B4 d1 d2 d3 d4 px sx nx ny hn PN at_ pad wd _ _ HO1.out HO2.out HO3.out HO4.out (by omega) (by omega) hnl hyl).mono ?_; rintro e9 w' ⟨rfl, hb⟩; replace HO1 := K_ (Kd.R_below (RB HO1.out) hb); replace HO2 := K_ (Kd.R_below (RB HO2.out) hb); replace HO3 := K_ (Kd.R_below (RB HO3.out) hb); replace HO4 := K_ (Kd.R_below (RB HO4.out) hb); replace HB := zE HB hb; replace BK2 := zC BK2 hb; replace BK3 := zC BK3 hb; replace BK13 := zC BK13 hb; clear hb))
          go_meet
          case rel => exact ⟨by rw [p4, p5]; rfl, RB HO1.out, RB HO2.out, RB HO3.out, RB HO4.out, BK BK13, BK BK2, BK BK3, BL HB⟩
         have p4 : decide (0 < sgn 4 px sx nx ny) = false := decide_eq_false h4
         have r4 : decide ((0 : Int) < ((sgn 4 px sx nx ny : Nat) : Int)) = false := decide_eq_false (by omega)
         have z4 : sgn 4 px sx nx ny = 0 := by omega
         go_wp2_with (first | ((with_reducible refine zF (N := 168) rfl ?_); refine lo_ (g := g13) (cs := xP (.slice B1 px.length d1) (.slice B2 sx.length d2) hn (.slice B3 nx.length d3) (.slice B4 ny.length d4) PN at_ pad wd) _ ⟨BK BK13⟩ ?_ rfl rfl rfl Tryz.underlying26 rfl jL) | ((with_reducible refine zF (N := 172) rfl ?_); refine zbO (g := g13) (cs := xP (.slice B1 px.length d1) (.slice B2 sx.length d2) hn (.slice B3 nx.length d3) (.slice B4 ny.length d4) PN at_ pad wd) _ ⟨BK BK13⟩ ?_ (by rfl) rfl rfl Tryz.underlying26 rfl jL) | (go_at_call 53; refine (zdM B1 B2 B3 B4 d1 d2 d3 d4 px sx nx ny hn PN at_ pad wd _ _ HO1.out HO2.out HO3.out HO4.out (by omega) (by omega) hnl hyl).mono ?_; rintro e9 w' ⟨rfl, hb⟩; replace HO1 := K_ (Kd.R_below (RB HO1.out) hb); replace HO2 := K_ (Kd.R_below (RB HO2.out) hb); replace HO3 := K_ (Kd.R_below (RB HO3.out) hb); replace HO4 := K_ (Kd.R_below (RB HO4.out) hb); replace HB := zE HB hb; replace BK2 := zC BK2 hb; replace BK3 := zC BK3 hb; replace BK13 := zC BK13 hb; clear hb))
         go_meet
         case rel => exact ⟨by rw [p4]; rfl, RB HO1.out, RB HO2.out, RB HO3.out, RB HO4.out, BK BK13, BK BK2, BK BK3, BL HB⟩
        case rest =>
         obtain ⟨rfl, ho1, ho2, ho3, ho4, hb13, hb2, hb3, hbw⟩ := hcut
         replace HO1 := K_ ho1
         replace HO2 := K_ ho2
         replace HO3 := K_ ho3
         replace HO4 := K_ ho4
         replace BK13 := K_ hb13
         replace BK2 := K_ hb2
         replace BK3 := K_ hb3
         replace HB := K_ hbw
         clear ho1 ho2 ho3 ho4 hb13 hb2 hb3 hbw
         by_cases hm : mixed px sx nx ny
         ·have et : (decide (0 < sgn 4 px sx nx ny) && decide (0 < sgn 5 px sx nx ny)) = true := by rw [decide_eq_true hm.1, decide_eq_true hm.2]; rfl
          rw [et]
          have HEV := K_ (show (6 : Int) ≠ 0 by decide)
          have HE := K_ (show ∀ l', Ev (fun k => zG.f k s) (l', 0, 0) → xI l' → zaq l' → ∀ P0, xN (l'.map mk73) P0 → ¬ mixed (zZ (vU (l'.map mk73) (uN (l'.map mk73)) l'.length)) (zZ (vV (l'.map mk73) (uI (l'.map mk73)) l'.length)) (⟨2, 0⟩ :: zZ (vU (l'.map mk73) (uN (l'.map mk73)) l'.length)) (zZ (vV (l'.map mk73) (uI (l'.map mk73)) l'.length)) → False from fun l' h1 hns hsm P0 hok hnm => by
           have e := EQL.out l' h1
           subst e
           have e2 := HEQ.out hns hsm
           obtain ⟨e3, e4⟩ := HEN.out hns hsm
           have e5 := HPOK.out.2
           rw [e2] at e5
           simp only [List.length_map] at e5
           rw [← e5.1, ← e5.2] at hnm
           rw [e3, e4] at hm
           exact hnm hm)
          clear et hm
          go_wp2_with (first
           | ((with_reducible refine zQ (p := 2) rfl ?_); refine so_ (g := g2) (cs := Z26) (Z26) ⟨BK BK2⟩ ?_ rfl rfl rfl rfl rfl jL rfl rfl; intro w9 hbk hfar hbel; replace BK3 := K_ (hfar _ _ (Ne.symm NB.out) (BK BK3)); replace BK2 := K_ hbk; replace HB := K_ (hbel _ _ GE2.out (BL HB)); clear hbk hfar hbel)
           | ((with_reducible refine zQ (p := 3) rfl ?_); refine so_ (g := g3) (cs := Z51) (#[.int .i64 6, .int .i64 0]) ⟨BK BK3⟩ ?_ rfl rfl rfl rfl rfl uH rfl rfl; intro w9 hbk hfar hbel; replace BK2 := K_ (hfar _ _ NB.out (BK BK2)); replace BK3 := K_ hbk; replace HB := K_ (hbel _ _ GE3.out (BL HB)); clear hbk hfar hbel))
          (
           refine bodyPost_ret (qI rfl _ _ g2 g3 26 51 Z26 #[.int .i64 6, .int .i64 0] (0, 0) (0, 0) _ _ rfl BK2.out Tryz.underlying26 rfl jL rfl BK3.out Tryz.underlying51 rfl uH) rfl ?_
           exact ⟨_, _, _, _, [], [], [], [], jD, false, 0, 0, 0, 6, 0, rfl, Kd.R_nil _ _ _ _ _, Kd.R_nil _ _ _ _ _, Kd.R_nil _ _ _ _ _, Kd.R_nil _ _ _ _ _, BL HB, fun h => absurd h HEV.out, fun l' h1 h2 h3 P0 h4 h5 => (HE.out l' h1 h2 h3 P0 h4 h5).elim⟩)
         have et : (decide (0 < sgn 4 px sx nx ny) && decide (0 < sgn 5 px sx nx ny)) = false := by
          cases h : (decide (0 < sgn 4 px sx nx ny) && decide (0 < sgn 5 px sx nx ny))
          ·rfl
          rw [Bool.and_eq_true, decide_eq_true_eq, decide_eq_true_eq] at h; exact (hm h).elim
         rw [et]
         have HM := K_ hm
         clear et hm
         go_wp2_with (first
          | ((with_reducible refine zF (N := 178) rfl ?_); refine lo_ (g := g13) (cs := xP (.slice B1 px.length d1) (.slice B2 sx.length d2) hn (.slice B3 nx.length d3) (.slice B4 ny.length d4) PN at_ pad wd) _ ⟨BK BK13⟩ ?_ rfl rfl rfl Tryz.underlying26 rfl jL)
          | ((with_reducible refine zQ (p := 2) rfl ?_); refine so_ (g := g2) (cs := Z26) (xP (.slice B1 px.length d1) (.slice B2 sx.length d2) hn (.slice B3 nx.length d3) (.slice B4 ny.length d4) PN at_ pad wd) ⟨BK BK2⟩ ?_ rfl rfl rfl rfl rfl jL rfl rfl; intro w9 hbk hfar hbel; replace HO1 := K_ (vR (RB HO1.out) (BK BK2) (by decide) hfar); replace HO2 := K_ (vR (RB HO2.out) (BK BK2) (by decide) hfar); replace HO3 := K_ (vR (RB HO3.out) (BK BK2) (by decide) hfar); replace HO4 := K_ (vR (RB HO4.out) (BK BK2) (by decide) hfar); replace BK3 := K_ (hfar _ _ (Ne.symm NB.out) (BK BK3)); replace BK2 := K_ hbk; replace HB := K_ (hbel _ _ GE2.out (BL HB)); clear hbk hfar hbel)
          | ((with_reducible refine zQ (p := 3) rfl ?_); refine so_ (g := g3) (cs := Z51) (Z51) ⟨BK BK3⟩ ?_ rfl rfl rfl rfl rfl uH rfl rfl; intro w9 hbk hfar hbel; replace HO1 := K_ (vR (RB HO1.out) (BK BK3) (by decide) hfar); replace HO2 := K_ (vR (RB HO2.out) (BK BK3) (by decide) hfar); replace HO3 := K_ (vR (RB HO3.out) (BK BK3) (by decide) hfar); replace HO4 := K_ (vR (RB HO4.out) (BK BK3) (by decide) hfar); replace BK2 := K_ (hfar _ _ NB.out (BK BK2)); replace BK3 := K_ hbk; replace HB := K_ (hbel _ _ GE3.out (BL HB)); clear hbk hfar hbel))
         refine bodyPost_ret (qI rfl _ _ g2 g3 26 51 (xP (.slice B1 px.length d1) (.slice B2 sx.length d2) hn (.slice B3 nx.length d3) (.slice B4 ny.length d4) PN at_ pad wd) Z51 (0, 0) (0, 0) _ _ rfl BK2.out Tryz.underlying26 rfl jL rfl BK3.out Tryz.underlying51 rfl uH) rfl ?_
         refine ⟨_, _, _, _, px, sx, nx, ny, PN, hn, at_, pad, wd, 0, 0, rfl, HO1.out, HO2.out, HO3.out, HO4.out, BL HB, fun _ => ⟨⟨_, HPOK.out.1.2.2.1⟩, HG1.out, HG2.out, HG.out.1, HG.out.2, HM.out, by omega, by omega, hnl, hyl⟩, fun l' h1 hns hsm P0 hok hnm => ?_⟩
         have e := EQL.out l' h1
         subst e
         have e2 := HEQ.out hns hsm
         obtain ⟨e3, e4⟩ := HEN.out hns hsm
         have e5 := HPOK.out
         rw [e2] at e5
         simp only [List.length_map] at e5
         refine ⟨rfl, Option.some.inj (e5.1.2.2.1.symm.trans hok.2.2.1), e5.2.1, e5.2.2, ?_, ?_⟩
         ·rw [e3]
         rw [e4]
     have dE2 : (E2 != 0) = true := by simpa using hE
     have HEV := K_ hE
     have HE := K_ (show ∀ l', Ev (fun k => zG.f k s) (l', 0, 0) → xI l' → zaq l' → ∀ P0, xN (l'.map mk73) P0 → ¬ mixed (zZ (vU (l'.map mk73) (uN (l'.map mk73)) l'.length)) (zZ (vV (l'.map mk73) (uI (l'.map mk73)) l'.length)) (⟨2, 0⟩ :: zZ (vU (l'.map mk73) (uN (l'.map mk73)) l'.length)) (zZ (vV (l'.map mk73) (uI (l'.map mk73)) l'.length)) → False from fun l' h1 hns hsm P0 hok _ => HEV.out (HEX.out (by rw [HEQ.out (EQL.out l' h1 ▸ hns) (EQL.out l' h1 ▸ hsm)]; intro x hx; obtain ⟨t, _, rfl⟩ := List.mem_map.1 hx; rfl) ⟨P0, by rw [HEQ.out (EQL.out l' h1 ▸ hns) (EQL.out l' h1 ▸ hsm), ← EQL.out l' h1]; exact hok⟩))
     clear hE
     go_upto_region 29 with (fail)
     clear q0 q1 q2 q3
     refine yK (n := 4) (S := fun w' => w'.heap[g5]? = some (.cells #[.int .i64 E2, .int .i64 a2] 51 (0, 0))) (ds := []) #[false, false, false, false] (by kernel_rfl) rfl rfl (BK BK5) (fun hHeld => ?_)
     refine zU (fun W => W.heap[g5]? = some (.cells #[.int .i64 E2, .int .i64 a2] 51 (0, 0)) ∧ W.heap[g2]? = some (.cells Z26 26 (0, 0)) ∧ W.heap[g3]? = some (.cells Z51 51 (0, 0)) ∧ Below w.heap.size w W) ⟨BK BK5, BK BK2, BK BK3, BL HB⟩ ?_
     clear hHeld
     rintro W ⟨hHeld, hb2, hb3, hbw⟩
     replace BK2 := K_ hb2
     replace BK3 := K_ hb3
     replace HB := K_ hbw
     clear hb2 hb3 hbw
     refine pw_ 0 100 (bb 4 1) ?_
     refine tr_ 1 101 (bb 4 3) (#[.int .i64 E2, .int .i64 a2]) (fun _ hs => ⟨hs⟩) Tryz.underlying51 uH hHeld ?_
     refine on_ 2 none (bb 4 7) (fun K hK => ?_)
     refine yP (g := g2) (cs := Z26) Z26 BK2 ?_ rfl rfl rfl rfl rfl jL rfl rfl
     intro w8 hbk hfar hbel
     have hHeld2 := hfar g5 _ (Ne.symm N2F.out) hHeld
     replace BK3 := K_ (hfar g3 _ (Ne.symm NB.out) BK3.out)
     replace BK2 := K_ hbk
     replace HB := K_ (hbel _ _ GE2.out HB.out)
     refine hK.out _ _ hHeld2 (fun _ => ?_)
     clear hK K hbk hfar hbel
     refine on_ 3 none (bb 4 15) (fun K hK => ?_)
     refine yP (g := g3) (cs := Z51) #[.int .i64 E2, .int .i64 a2] BK3 ?_ rfl rfl rfl rfl rfl uH rfl rfl
     intro w9 hbk hfar hbel
     have hHeld3 := hfar g5 _ (Ne.symm N3F.out) hHeld2
     replace BK2 := K_ (hfar g2 _ NB.out BK2.out)
     replace BK3 := K_ hbk
     replace HB := K_ (hbel _ _ GE3.out HB.out)
     refine hK.out _ _ hHeld3 (fun _ => ?_)
     clear hK K hbk hfar hbel
     refine yY (by kernel_rfl) ?_
     go_wp2_with (fail)
     (
      refine bodyPost_ret (qI rfl _ _ g2 g3 26 51 Z26 #[.int .i64 E2, .int .i64 a2] (0, 0) (0, 0) _ _ rfl BK2.out Tryz.underlying26 rfl jL rfl BK3.out Tryz.underlying51 rfl uH) rfl ?_
      exact ⟨_, _, _, _, [], [], [], [], jD, false, 0, 0, 0, E2, a2, rfl, Kd.R_nil _ _ _ _ _, Kd.R_nil _ _ _ _ _, Kd.R_nil _ _ _ _ _, Kd.R_nil _ _ _ _ _, BL HB, fun h => absurd h HEV.out, fun l' h1 h2 h3 P0 h4 h5 => (HE.out l' h1 h2 h3 P0 h4 h5).elim⟩)
 have dE : (E1 != 0) = true := by simpa using hE
 have HEV := K_ hE
 have HE := K_ (show ∀ l', Ev (fun k => zG.f k s) (l', 0, 0) → xI l' → zaq l' → ∀ P0, xN (l'.map mk73) P0 → ¬ mixed (zZ (vU (l'.map mk73) (uN (l'.map mk73)) l'.length)) (zZ (vV (l'.map mk73) (uI (l'.map mk73)) l'.length)) (⟨2, 0⟩ :: zZ (vU (l'.map mk73) (uN (l'.map mk73)) l'.length)) (zZ (vV (l'.map mk73) (uI (l'.map mk73)) l'.length)) → False from fun l' h1 _ _ _ _ _ => hE (by have e := zdt h1 HEV1.out; have e2 := congrArg (fun r => r.2.1) e; exact e2.symm))
 clear hE
 go_upto_region 3 with (fail)
 clear q0 q1 q2 q3
 refine yK (n := 4) (S := fun w' => w'.heap[g5]? = some (.cells #[.int .i64 E1, .int .i64 a1] 51 (0, 0))) (ds := []) #[false, false, false, false] (by kernel_rfl) rfl rfl (BK BK5) (fun hHeld => ?_)
 refine zU (fun W => W.heap[g5]? = some (.cells #[.int .i64 E1, .int .i64 a1] 51 (0, 0)) ∧ W.heap[g2]? = some (.cells Z26 26 (0, 0)) ∧ W.heap[g3]? = some (.cells Z51 51 (0, 0)) ∧ Below w.heap.size w W) ⟨BK BK5, BK BK2, BK BK3, BL HB⟩ ?_
 clear hHeld
 rintro W ⟨hHeld, hb2, hb3, hbw⟩
 replace BK2 := K_ hb2
 replace BK3 := K_ hb3
 replace HB := K_ hbw
 clear hb2 hb3 hbw
 refine pw_ 0 24 (bb 4 1) ?_
 refine tr_ 1 25 (bb 4 3) (#[.int .i64 E1, .int .i64 a1]) (fun _ hs => ⟨hs⟩) Tryz.underlying51 uH hHeld ?_
 refine on_ 2 none (bb 4 7) (fun K hK => ?_)
 refine yP (g := g2) (cs := Z26) Z26 BK2 ?_ rfl rfl rfl rfl rfl jL rfl rfl
 intro w8 hbk hfar hbel
 have hHeld2 := hfar g5 _ (Ne.symm N2F.out) hHeld
 replace BK3 := K_ (hfar g3 _ (Ne.symm NB.out) BK3.out)
 replace BK2 := K_ hbk
 replace HB := K_ (hbel _ _ GE2.out HB.out)
 refine hK.out _ _ hHeld2 (fun _ => ?_)
 clear hK K hbk hfar hbel
 refine on_ 3 none (bb 4 15) (fun K hK => ?_)
 refine yP (g := g3) (cs := Z51) #[.int .i64 E1, .int .i64 a1] BK3 ?_ rfl rfl rfl rfl rfl uH rfl rfl
 intro w9 hbk hfar hbel
 have hHeld3 := hfar g5 _ (Ne.symm N3F.out) hHeld2
 replace BK2 := K_ (hfar g2 _ NB.out BK2.out)
 replace BK3 := K_ hbk
 replace HB := K_ (hbel _ _ GE3.out HB.out)
 refine hK.out _ _ hHeld3 (fun _ => ?_)
 clear hK K hbk hfar hbel
 refine yY (by kernel_rfl) ?_
 go_wp2_with (fail)
 (
  refine bodyPost_ret (qI rfl _ _ g2 g3 26 51 Z26 #[.int .i64 E1, .int .i64 a1] (0, 0) (0, 0) _ _ rfl BK2.out Tryz.underlying26 rfl jL rfl BK3.out Tryz.underlying51 rfl uH) rfl ?_
  exact ⟨_, _, _, _, [], [], [], [], jD, false, 0, 0, 0, E1, a1, rfl, Kd.R_nil _ _ _ _ _, Kd.R_nil _ _ _ _ _, Kd.R_nil _ _ _ _ _, Kd.R_nil _ _ _ _ _, BL HB, fun h => absurd h HEV.out, fun l' h1 h2 h3 P0 h4 h5 => (HE.out l' h1 h2 h3 P0 h4 h5).elim⟩)
end Go.Proofs.YtcmgdjnjmobkoaaGreatDoor.Px
namespace Go.Proofs.YtcmgdjnjmobkoaaGreatDoor.Px
open Fig Go.RowKit Go.Proofs.YtcmgdjnjmobkoaaGreatDoorW.PrintWords Go.Proofs.YtcmgdjnjmobkoaaGreatDoorW.PrintLast Go.Proofs.YtcmgdjnjmobkoaaGreatDoorW.PrintMore
attribute [local go_sem] yR yU vE vD yD yH yV yS
attribute [local go_sem] uR uT uZ uX qA uU uQ qB uO qC uV uW uY uS




end Go.Proofs.YtcmgdjnjmobkoaaGreatDoor.Px
namespace Go.Proofs.YtcmgdjnjmobkoaaGreatDoor.Px
set_option linter.all false
open Fig Go.RowKit Go.Proofs.YtcmgdjnjmobkoaaGreatDoorW.PrintWords Go.Proofs.YtcmgdjnjmobkoaaGreatDoorW.PrintLast Go.Proofs.YtcmgdjnjmobkoaaGreatDoorW.PrintMore
attribute [local go_sem] yR yU vE vD yD yH yV yS
structure yA (q : Pat) (W : World) (b : Nat) : Prop where
 r0 : Kd.R k80 80 W b (fun _ => True) (.slice q.A0 q.l0.length q.c0) q.l0
 r1 : Kd.R k80 80 W b (fun _ => True) (.slice q.A1 q.l1.length q.c1) q.l1
 r3 : Kd.R k80 80 W b (fun _ => True) (.slice q.A3 q.l3.length q.c3) q.l3
 r4 : Kd.R k80 80 W b (fun _ => True) (.slice q.A4 q.l4.length q.c4) q.l4
theorem yA.below {q : Pat} {W W' : World} {b : Nat} (h : yA q W b) (hb : Below W.heap.size W W') : yA q W' b := ⟨Kd.R_below h.r0 hb, Kd.R_below h.r1 hb, Kd.R_below h.r3 hb, Kd.R_below h.r4 hb⟩
theorem yA.lower {q : Pat} {W : World} {b b' : Nat} (h : yA q W b) (hb : b' ≤ b) : yA q W b' := ⟨Kd.R_lower h.r0 hb, Kd.R_lower h.r1 hb, Kd.R_lower h.r3 hb, Kd.R_lower h.r4 hb⟩
theorem zgb {t : TypeId} (ht : (80 : Nat) ≠ t) : ∀ q, q ∈ 80 :: k80.E → q ≠ t := by
 intro q hq
 have h8 : (80 :: k80.E) = [80] := rfl
 rw [h8] at hq
 have : q = 80 := by simpa using hq
 rw [this]; exact ht
theorem yA.so {q : Pat} {W w1 : World} {b g t : Nat} {cs : Array Value} (h : yA q W b) (hb : W.heap[g]? = some (.cells cs t (0, 0))) (ht : (80 : Nat) ≠ t) (hfar : ∀ k o, k ≠ g → W.heap[k]? = some o → w1.heap[k]? = some o) : yA q w1 b :=
 ⟨vR h.r0 hb (zgb ht) hfar, vR h.r1 hb (zgb ht) hfar, vR h.r3 hb (zgb ht) hfar, vR h.r4 hb (zgb ht) hfar⟩
structure zas (q : Pat) : Prop where
 num : ∃ t, yZ t = some q.P
 g0 : vK q.l0
 g1 : vK q.l1
 g3 : vK q.l3
 g4 : vK q.l4
 nmix : ¬ mixed q.l0 q.l1 q.l3 q.l4
 s0 : q.l0.length ≤ 1000
 s1 : q.l1.length ≤ 1000
 s3 : q.l3.length ≤ 1000
 s4 : q.l4.length ≤ 1000
theorem zas.good {q : Pat} (h : zas q) : vT q.P := by obtain ⟨t, ht⟩ := h.num; exact zkR ht
theorem zas.more {q : Pat} (h : zas q) : zcF q.P := by obtain ⟨t, ht⟩ := h.num; exact zlr ht
theorem yA.ok {q : Pat} {W : World} {b : Nat} (h : yA q W b) (g : zas q) : zaH q W :=
 ⟨(Kd.R_reads' h.r0).2.2, (Kd.R_reads' h.r1).2.2, (Kd.R_reads' h.r3).2.2, (Kd.R_reads' h.r4).2.2, (Kd.R_reads' h.r0).2.1, (Kd.R_reads' h.r1).2.1, (Kd.R_reads' h.r3).2.1, (Kd.R_reads' h.r4).2.1, g.s0, g.s1, g.s3, g.s4, g.g0, g.g1, g.g3, g.g4⟩
def zlg (s : ByteArray) (q : Pat) (E : Int) : Prop := ∀ l, Ev (fun k => zG.f k s) (l, 0, 0) → xI l → zaq l → ∀ P0, xN (l.map mk73) P0 →
   ¬ mixed (zZ (vU (l.map mk73) (uN (l.map mk73)) l.length)) (zZ (vV (l.map mk73) (uI (l.map mk73)) l.length)) (⟨2, 0⟩ :: zZ (vU (l.map mk73) (uN (l.map mk73)) l.length)) (zZ (vV (l.map mk73) (uI (l.map mk73)) l.length)) →
   E = 0 ∧ q.P = P0 ∧ q.l0 = zZ (vU (l.map mk73) (uN (l.map mk73)) l.length) ∧ q.l1 = zZ (vV (l.map mk73) (uI (l.map mk73)) l.length) ∧ q.l3 = ⟨2, 0⟩ :: q.l0 ∧ q.l4 = q.l1
theorem ziv (s : ByteArray) (hs : s.size ≤ 1048576) (w : World) : Calls Tryz.prog 31 #[.string s] w fun e w' => ∃ (q : Pat) (E a : Int), e = .returned (.tuple #[.agg q.cs, .agg #[.int .i64 E, .int .i64 a]]) ∧ yA q w' w.heap.size ∧ Below w.heap.size w w' ∧ (E = 0 → zas q) ∧ zlg s q E := by
 refine (zlp s hs w).mono ?_
 rintro e w' ⟨v1, v2, v3, v4, px, sx, nx, ny, P, hn, at_, pad, wd, E, a, rfl, h1, h2, h3, h4, hb, hg, hex⟩
 obtain ⟨A0, c0, rfl⟩ := Kd.R_slice h1
 obtain ⟨A1, c1, rfl⟩ := Kd.R_slice h2
 obtain ⟨A3, c3, rfl⟩ := Kd.R_slice h3
 obtain ⟨A4, c4, rfl⟩ := Kd.R_slice h4
 refine ⟨⟨A0, A1, A3, A4, c0, c1, c3, c4, px, sx, nx, ny, hn, P, at_, pad, wd⟩, E, a, rfl, ⟨h1, h2, h3, h4⟩, hb, fun hE => ?_, hex⟩
 obtain ⟨i1, i2, i3, i4, i5, i6, i7, i8, i9, i10⟩ := hg hE
 exact ⟨i1, i2, i3, i4, i5, i6, i7, i8, i9, i10⟩
abbrev zoG := Bool × ByteArray × Int
def zig (W : World) (ad : Addr) (L : List zoG) : Prop := ∀ i (h : i < L.length), W.cell? (ad.add (i * 3)) = some (.bool L[i].1) ∧ W.cell? ⟨(ad.add (i * 3)).block, (ad.add (i * 3)).off + 1, none⟩ = some (.string L[i].2.1) ∧ W.cell? ⟨(ad.add (i * 3)).block, (ad.add (i * 3)).off + 2, none⟩ = some (.int .i64 L[i].2.2)
theorem zig.below {W W' : World} {ad : Addr} {L : List zoG} (h : zig W ad L) (hb : Below W.heap.size W W') : zig W' ad L := fun i hi => by
 obtain ⟨h1, h2, h3⟩ := h i hi
 exact ⟨(hb.cell (World.block_lt_of_cell? _ _ h1)).trans h1, (hb.cell (World.block_lt_of_cell? _ _ h2)).trans h2, (hb.cell (World.block_lt_of_cell? _ _ h3)).trans h3⟩
theorem a24 : vF.f false ⟨#[49]⟩ (-2) (-2) = some (false, ⟨#[49]⟩, -4) := by kernel_rfl
theorem c24 : vF.f false ⟨#[49, 50, 51, 52]⟩ (-4) 2 = some (false, ⟨#[49, 50, 51, 52]⟩, -2) := by kernel_rfl
theorem e24 : zad.f false ⟨#[49, 50, 51, 52]⟩ (-2) (-2) = some true := by kernel_rfl
end Go.Proofs.YtcmgdjnjmobkoaaGreatDoor.Px
namespace Go.Proofs.YtcmgdjnjmobkoaaGreatDoor.Px
open Fig Go.RowKit Go.Proofs.YtcmgdjnjmobkoaaGreatDoorW.PrintWords Go.Proofs.YtcmgdjnjmobkoaaGreatDoorW.PrintLast Go.Proofs.YtcmgdjnjmobkoaaGreatDoorW.PrintMore
attribute [local go_sem] yR yU vE vD yD yH yV yS
attribute [local go_sem] uR uT uZ uX qA uU uQ qB uO qC uV uW uY uS
theorem zjD (m : Int) : yG.f m = some (decide (0 ≤ m ∧ m < 8)) := by
 unfold yG.f
 by_cases h : m ≥ 0
 ·rw [if_pos h]; congr 1; rw [decide_eq_decide]; omega
 rw [if_neg h]; congr 1; symm; rw [decide_eq_false_iff_not]; omega
theorem zpi (e : Int) (p : Nat) (h1 : -1000000 ≤ e) (h2 : e ≤ 1000000) (hp : p ≤ 1000000) : wrap64 (e + (p : Int)) = e + (p : Int) := w64 (by omega) (by omega)
theorem zoT (e : Int) (p q : Nat) (h1 : -1000000 ≤ e) (h2 : e ≤ 1000000) (hp : p ≤ 1000000) (hq : q ≤ 1000000) : wrap64 (wrap64 (e + (p : Int)) - (q : Int)) = e + (p : Int) - (q : Int) := by rw [zpi e p h1 h2 hp, w64 (by omega) (by omega)]
theorem zcC {b : Bool} {s : ByteArray} {e : Int} (h : OkD s e) : jY.f b s e = some (b, nD (vB s), nE (vB s) e) := by
 have hz := h.val
 have h1 := h.sz
 have h2 := h.lo
 have h3 := h.hi
 unfold jY.f
 rw [show uG.f s (⟨#[48]⟩ : ByteArray) = some (jR (vB s)) by unfold uG.f; rw [if_pos rfl, zkp h.d]]
 simp only [Option.bind_some]
 by_cases h0 : vB s = 0
 ·rw [if_pos (zdh.2 h0), h0]; rfl
 rw [if_neg (fun hh => h0 (zdh.1 hh))]
 have hl := zaW h0
 have ht : uL.f (jR (vB s)) (⟨#[48]⟩ : ByteArray) = some (jR (jV (vB s))) := by
  unfold uL.f
  rw [if_pos ⟨rfl, by omega⟩]
  show some (⟨(Lib.trimRightB (vW (vB s)) 48).toArray⟩ : ByteArray) = _
  unfold Lib.trimRightB; rw [zjW h0]; rfl
 rw [ht]
 simp only [Option.bind_some]
 rw [zoT e _ _ (by omega) (by omega) (by omega) (by omega)]
 unfold nD nE
 rw [if_neg h0, if_neg h0, show e + ((jR (vB s)).size : Int) - ((jR (jV (vB s))).size : Int) = e + (tz (vB s) : Int) by omega]
theorem zpl {s : ByteArray} (h : dB s = true) (hne : s.size ≠ 0) (hs : s.size ≤ 140737488351232) : vY.f s = some (zR (vB s), true) := by
 unfold vY.f; rw [if_pos hs, if_pos ⟨h, hne⟩]
theorem zmX {b : Bool} {s : ByteArray} {e : Int} (h : OkD s e) : zaU.f b s e = some (zR (vB s)) := by
 have := h.sz
 unfold zaU.f; rw [zpl h.d h.ne (by omega)]; rfl
theorem zia {s : ByteArray} {e : Int} (h : OkD s e) : (zR (vB s)).length ≤ 100000 := by
 have := yL (vB s)
 have := h.val
 have := h.sz
 omega
theorem zil {l : List Int} {n : Int} (g : zT l = true) (hl : l.length ≤ 500000) (hn : n ≤ 1000000) : qS.f l n = some (zR (zH l * 10 ^ n.toNat)) := by unfold qS.f; rw [if_pos ⟨g, hl, hn⟩]
theorem zfh (m : Int) (neg odd : Bool) (half : Int) : xA.f m neg odd half = some (upB m neg odd half) := rfl
theorem zoN {b : Bool} {s : ByteArray} {e p : Int} (h : OkS s e) (h1 : -10000 ≤ p) (h2 : p ≤ 10000) : vX.f b s e p = some (zR (vB s / 10 ^ (p - e).toNat), zR (vB s % 10 ^ (p - e).toNat)) := by
 have hl := h.lo
 have hh := h.hi
 have hc := zia h.ok
 unfold vX.f
 rw [zmX h.ok]
 simp only [Option.bind_some]
 rw [w64 (x := p - e) (by omega) (by omega)]
 have : zbI.f (zR (vB s)) (p - e) = some (zR (vB s / 10 ^ (p - e).toNat), zR (vB s % 10 ^ (p - e).toNat)) := by
  unfold zbI.f; rw [if_pos ⟨jP _, by omega, by omega⟩, jJ]
 rw [this]; rfl
theorem zoW {b : Bool} {s : ByteArray} {e p : Int} (h : OkS s e) (h1 : -10000 ≤ p) (h2 : p ≤ 10000) : zad.f b s e p = some (decide (atE (vB s) e (min e p) % atE 1 p (min e p) = 0)) := by
 unfold zad.f
 by_cases hp : p ≤ e
 ·rw [if_pos hp, show min e p = p by omega, zcN, Nat.mod_one]; rfl
 rw [if_neg hp, zoN h h1 h2]
 simp only [Option.bind_some, Option.some.injEq]
 rw [show min e p = e by omega, zcN, show atE 1 p e = 10 ^ (p - e).toNat by unfold atE; rw [Nat.one_mul]]
 rw [Bool.eq_iff_iff, beq_iff_eq, decide_eq_true_eq]
 constructor
 ·intro hh; exact zaw.1 (List.eq_nil_of_length_eq_zero (by omega))
 intro hh; rw [hh, zaC]; rfl
theorem zkb {q : Nat} (h : q ≠ 0) : (zR q).length > 0 ∧ rd (zR q) 0 = ((q % 1000000000 : Nat) : Int) := by
 have hv := jJ q
 have hg := jP q
 rcases hl : zR q with _ | ⟨x, l⟩
 ·exact absurd (zaw.1 hl) h
 rw [hl] at hv hg
 obtain ⟨hx, _⟩ := yI.1 hg
 simp only [zH] at hv
 refine ⟨by simp, ?_⟩
 show x = _
 omega
theorem zkG (v : Nat) : dB (zat v) = true ∧ (zat v).size ≠ 0 ∧ vB (zat v) = v := by
 unfold zat
 by_cases h : v = 0
 ·rw [if_pos h, h]; exact ⟨rfl, by decide, rfl⟩
 rw [if_neg h]; exact ⟨zgu v, fun e => h (qX.1 e), zfj v⟩
theorem ziK {v k : Nat} (h : (jR v).size ≤ k) (hk : 1 ≤ k) : (zat v).size ≤ k := by
 unfold zat
 by_cases h0 : v = 0
 ·rw [if_pos h0]; exact hk
 rw [if_neg h0]; exact h
theorem zmK {v k : Nat} (h : (jR v).size ≤ k) (hk : k ≤ 1000000) : vQ.f (zR v) = some (zat v) := by
 have := yL v
 unfold vQ.f; rw [if_pos ⟨jP v, by omega⟩, jJ]
theorem zhj {b : Bool} {v : Nat} {p : Int} (hz : (jR v).size ≤ 50000) (h1 : -100000 ≤ p) (h2 : p ≤ 100000) : ((vQ.f (zR v)).bind fun t => (jY.f b t p).bind fun u => some (u.1, u.2.1, u.2.2, (0 : Int))) = some (b, nD v, nE v p, 0) := by
 obtain ⟨d1, d2, d3⟩ := zkG v
 have d4 := ziK (k := 50000) hz (by decide)
 rw [zmK hz (by decide)]
 simp only [Option.bind_some]
 rw [zcC ⟨d1, d2, by omega, h1, h2⟩, d3]; rfl
theorem znv {q : Nat} (h : (jR q).size ≤ 1000000) : uK.f (zR q) ([1] : List Int) = some (zR (q + 1)) := by
 have hl := yL q
 have h1 : ([1] : List Int).length ≤ 1000000000000 := by show 1 ≤ 1000000000000; omega
 have := zfg (jP q) (b := [1]) (by decide) (by omega) h1
 rwa [jJ, show zH [1] = 1 from rfl] at this
theorem zob {α β : Type} {x : Option α} {f : α → Option β} {a : α} {r : Option β} (h : x = some a) (h2 : f a = r) : x.bind f = r := by subst h; exact h2
theorem zec {b : Bool} {s : ByteArray} {e p : Int} {q : Nat} {u : Bool} (hz : (jR q).size ≤ 40000) (h1 : -10000 ≤ p) (h2 : p ≤ 10000) : Ev (fun k => jH.j0 k p (zR q) u b s e) (b, nD (q + if u = true then 1 else 0), nE (q + if u = true then 1 else 0) p, 0) := by
 cases u
 ·refine zco (r' := (b, nD q, nE q p, 0)) (fun k => ?_) (by simp)
  simp only [jH.j0, Bool.false_eq_true, if_false]
  exact zhj (by omega) (by omega) (by omega)
 have ha := znv (q := q) (by omega)
 have hz2 := zbu (m := q) (n := 1) (p := 40000) hz (by rw [zaX]; omega)
 refine zco (r' := (b, nD (q + 1), nE (q + 1) p, 0)) (fun k => ?_) (by simp)
 simp only [jH.j0, if_true]
 exact zob ha (zhj (by omega) (by omega) (by omega))
theorem zef {m : Int} {b : Bool} {s : ByteArray} {e p : Int} (hm : 0 ≤ m) (hm7 : m ≤ 7) (h : OkS s e) (h1 : -10000 ≤ p) (h2 : p ≤ 10000) : Ev (fun k => jH.f k m b s e p) (zam m b (vB s) e 1 p) := by
 have hv := h.ok.val
 have hsz := h.sz
 have hlo := h.lo
 have hhi := h.hi
 unfold jH.f
 refine evE (zjD m) (evT (by simp; omega) (evE (zoW h h1 h2) ?_))
 by_cases hf : atE (vB s) e (min e p) % atE 1 p (min e p) = 0
 ·rw [zdT hf]
  exact evT (decide_eq_true hf) (evE (zcC h.ok) (Ev.now _))
 refine evF (by simpa using hf) ?_
 have hpe : e < p := by
  apply Classical.byContradiction; intro hn
  rw [show min e p = p by omega, zcN, Nat.mod_one] at hf
  exact hf rfl
 by_cases h7 : m = 7
 ·subst h7
  rw [zcM hf]
  exact evT rfl (Ev.now _)
 refine evF h7 ?_
 have hme : min e p = e := by omega
 obtain ⟨B, hB⟩ : ∃ B, B = 10 ^ (p - e).toNat := ⟨_, rfl⟩
 have hB1 : atE 1 p e = B := by unfold atE; rw [Nat.one_mul, hB]
 rw [hme, zcN, hB1] at hf
 have hB0 : 0 < B := by rw [hB]; exact zbk _
 have hzB : (jR B).size ≤ 20001 := by rw [hB, zhm]; omega
 have zq := zak (Nat.div_le_self (vB s) B) hv
 have zr := zak (Nat.mod_le (vB s) B) hv
 have lq := yL (vB s / B)
 have lr := yL (vB s % B)
 have z2 := zbu zr zr
 have l2 := yL (vB s % B + vB s % B)
 have lB := yL B
 have hcut := zoN (b := b) h h1 h2
 rw [← hB] at hcut
 refine evE hcut ?_
 have ha : uK.f (zR (vB s % B)) (zR (vB s % B)) = some (zR (vB s % B + vB s % B)) := by
  have := zfg (jP (vB s % B)) (jP (vB s % B)) (by omega) (by omega)
  rwa [jJ] at this
 have hs : qS.f ([1] : List Int) (wrap64 (p - e)) = some (zR B) := by
  rw [w64 (x := p - e) (by omega) (by omega), zil (by decide) (by decide) (by omega), show zH [1] = 1 by decide, Nat.one_mul, hB]
 have hc : qJ.f (zR (vB s % B + vB s % B)) (zR B) = some (vN (vB s % B + vB s % B) B) := by
  have := zfa (jP (vB s % B + vB s % B)) (jP B) (by omega) (by omega)
  rwa [jJ, jJ] at this
 refine evE ha (evE hs (evE hc ?_))
 have hres : zam m b (vB s) e 1 p = (b, nD (vB s / B + if upB m b (vB s / B % 2 == 1) (vN (vB s % B + vB s % B) B) = true then 1 else 0), nE (vB s / B + if upB m b (vB s / B % 2 == 1) (vN (vB s % B + vB s % B) B) = true then 1 else 0) p, 0) := by
  rw [zkz h7 b (vB s) e 1 p e (Int.le_refl e) (by omega)]
  unfold rv0
  rw [zcN, hB1]
  have hq : rq m b (vB s) B = vB s / B + if upB m b (vB s / B % 2 == 1) (vN (vB s % B + vB s % B) B) = true then 1 else 0 := by
   unfold rq; simp only [ne_eq, hf, not_false_eq_true, true_and]
  rw [hq, hB, zfU, zkM, show e + ((p - e).toNat : Int) = p by omega]
 rw [hres]
 dsimp only
 by_cases hq0 : vB s / B = 0
 ·refine evF (by rw [hq0, zaC]; decide) (evE (zfh _ _ _ _) ?_)
  have : (vB s / B % 2 == 1) = false := by rw [hq0]; rfl
  rw [this]
  exact zec (by omega) h1 h2
 obtain ⟨g1, g2⟩ := zkb hq0
 refine evT (by omega) (evT (by omega) ?_)
 have : (Int.tmod (rd (zR (vB s / B)) 0) 2 == 1) = (vB s / B % 2 == 1) := by
  rw [g2, Int.tmod_eq_emod_of_nonneg (by omega), Bool.eq_iff_iff, beq_iff_eq, beq_iff_eq]; omega
 rw [this]
 refine evE (zfh _ _ _ _) ?_
 exact zec (by omega) h1 h2
theorem zgg (n : Nat) : (nD n).toList = ([48] : List UInt8) ↔ n = 0 := by
 rw [← zee]
 constructor
 ·intro h; apply zau; rw [← ByteArray.toList_eq, h]; rfl
 intro h; rw [h, ByteArray.toList_eq]; rfl
theorem zpf (e : Int) (p : Nat) (h1 : -1000000 ≤ e) (h2 : e ≤ 1000000) (hp : p ≤ 1000000) : wrap64 (wrap64 (e + (p : Int)) - 1) = e + (p : Int) - 1 := by
 rw [w64 (x := e + (p : Int)) (by omega) (by omega), w64 (by omega) (by omega)]
theorem zjI {b : Bool} {s : ByteArray} {e : Int} (h : OkD s e) : zav.f b s e = some (jW (vB s) e) := by
 have hz := h.val
 have h1 := h.sz
 have h2 := h.lo
 have h3 := h.hi
 unfold zav.f
 rw [zcC h]
 simp only [Option.bind_some]
 by_cases h0 : vB s = 0
 ·rw [if_pos ((zgg _).2 h0), h0]; rfl
 rw [if_neg (fun hh => h0 ((zgg _).1 hh))]
 have hl := zaW h0
 have hnd : nD (vB s) = jR (jV (vB s)) := by unfold nD; rw [if_neg h0]
 have hne : nE (vB s) e = e + (tz (vB s) : Int) := by unfold nE; rw [if_neg h0]
 rw [hnd, hne, zpf _ _ (by omega) (by omega) (by omega)]
 unfold jW; rw [if_neg h0]; congr 1; omega
theorem zni {s : ByteArray} {e : Int} (h : OkS s e) : -10000 ≤ jW (vB s) e ∧ jW (vB s) e ≤ 20000 := by
 have hv := h.ok.val
 have hsz := h.sz
 have hlo := h.lo
 have hhi := h.hi
 unfold jW
 split
 ·omega
 rename_i h0
 have : (jR (vB s)).size ≠ 0 := fun hh => h0 (qX.1 hh)
 omega
theorem zlA {b : Bool} {s : ByteArray} {e n : Int} (h : OkS s e) (h1 : n ≤ 100000) : zbJ.f b s e n = some (jW (vB s) e - max n 1 + 1) := by
 have hb := zni h
 have hm : mx n 1 = max n 1 := by unfold mx; omega
 unfold zbJ.f
 rw [zjI h.ok]
 simp only [Option.bind_some]
 rw [hm, w64 (x := jW (vB s) e - max n 1) (by omega) (by omega), w64 (by omega) (by omega)]
theorem ziD {m : Int} {b : Bool} {s : ByteArray} {e : Int} {c : Nat} (hm : 0 ≤ m) (hm7 : m ≤ 7) (hc : 1 ≤ c) (hc2 : c ≤ 5000) (h : OkS s e) (ht : jW (vB s) e ≤ 10000) (ht2 : -5000 ≤ jW (vB s) e) : Ev (fun k => jO.f k m b s e (c : Int)) (zam m b (vB s) e 1 (jW (vB s) e - (c : Int) + 1)) := by
 unfold jO.f
 refine evE (zjD m) (evT (by simp; omega) ?_)
 have : decide ((c : Int) < 1) = false := decide_eq_false (by omega)
 rw [this]
 refine Ev.step (fun k => by simp only [jO.j0, Bool.false_eq_true, if_false]; rfl) ?_
 refine evE (zlA h (by omega)) ?_
 rw [show max (c : Int) 1 = (c : Int) by omega]
 exact Ev.bind (zef hm hm7 h (by omega) (by omega)) (Ev.now _)
theorem zlD (p q : Nat) (hp : p ≤ 1000000000) (hq : q ≤ 1000000000) : (((p : Int) + (q : Int)) % 4294967296) / 2 = (((p + q) / 2 : Nat) : Int) := by omega
theorem zjy (r b : List Int) (gr : zT r = true) (gb : zT b = true) (lr : r.length ≤ 1000001) (lb : b.length ≤ 1000000) : ∀ (d p q : Nat), q - p = d → p < q → q ≤ 1000000000 → zH b * p ≤ zH r → zH r < zH b * q →
  Ev (fun k => jN.l0 k r b (p : Int) (q : Int)) (((zH r / zH b : Nat) : Int), zR (zH r % zH b)) := by
 intro d
 induction d using Nat.strongRecOn with
 | _ d ih =>
 intro p q hd hpq hq h1 h2
 by_cases hs : 1 < q - p
 ·have hm1 : p < (p + q) / 2 := by omega
  have hm2 : (p + q) / 2 < q := by omega
  have lm : (zR (zH b * ((p + q) / 2) + 0)).length ≤ 1000001 := by
   have := xM gb
   have h3 : zH b * ((p + q) / 2) < 1000000000 ^ b.length * 1000000000 := Nat.mul_lt_mul'' this (by omega)
   rw [← Nat.pow_succ] at h3
   exact zea h3 (by omega)
  refine Ev.step (f := fun k => (vI.f k b (((p + q) / 2 : Nat) : Int) ((0 : Nat) : Int)).bind fun t => (qJ.f t r).bind fun t2 => if t2 ≤ 0 then jN.l0 k r b (((p + q) / 2 : Nat) : Int) (q : Int) else jN.l0 k r b (p : Int) (((p + q) / 2 : Nat) : Int)) (fun k => ?_) (Ev.bind (zdY gb lb (by omega) (by omega)) (Ev.bind (zbN fun _ => zfa (jP _) gr (by omega) (by omega)) ?_))
  ·simp only [jN.l0]
   rw [if_pos (by omega), zlD p q (by omega) hq]; rfl
  rw [jJ, Nat.add_zero]
  by_cases hc : zH b * ((p + q) / 2) ≤ zH r
  ·have c0 : vN (zH b * ((p + q) / 2)) (zH r) ≤ 0 := by
    unfold vN
    split
    ·omega
    rw [if_neg (by omega)]; omega
   simp only [c0, if_true]
   exact ih _ (by omega) _ _ rfl hm2 hq hc h2
  have c0 : ¬ vN (zH b * ((p + q) / 2)) (zH r) ≤ 0 := by unfold vN; rw [if_neg (by omega), if_pos (by omega)]; omega
  simp only [c0, if_false]
  exact ih _ (by omega) _ _ rfl hm1 (by omega) h1 (by omega)
 have hq1 : q = p + 1 := by omega
 subst hq1
 have hb0 : 0 < zH b := by
  rcases Nat.eq_zero_or_pos (zH b) with h0 | h0
  ·rw [h0] at h2; omega
  exact h0
 have e1 : zH r / zH b = p := by
  rw [Nat.mul_add] at h2
  exact Nat.div_eq_of_lt_le (by rw [Nat.mul_comm]; exact h1) (by rw [Nat.add_mul, Nat.mul_comm p]; omega)
 have e2 : zH r % zH b = zH r - zH b * p := by
  have := Nat.div_add_mod (zH r) (zH b)
  rw [e1] at this; omega
 have lm : (zR (zH b * p + 0)).length ≤ 1000001 := by
  exact zea (Nat.lt_of_le_of_lt h1 (xM gr)) lr
 refine Ev.step (f := fun k => (vI.f k b ((p : Nat) : Int) ((0 : Nat) : Int)).bind fun t => (zcG.f r t).bind fun t2 => some (((p : Nat) : Int), t2.1)) (fun k => ?_) (Ev.bind (zdY gb lb (by omega) (by omega)) (Ev.bind (zbN fun _ => zng gr (jP _) (by omega) (by omega) (by rw [jJ]; omega)) ?_))
 ·simp only [jN.l0]
  rw [if_neg (by omega)]; rfl
 rw [jJ, Nat.add_zero, e1, e2]; exact Ev.now _
theorem zlU {r b : List Int} (gr : zT r = true) (gb : zT b = true) (lr : r.length ≤ 1000001) (lb : b.length ≤ 1000000) (h : zH r < 1000000000 * zH b) : Ev (fun k => jN.f k r b) (((zH r / zH b : Nat) : Int), zR (zH r % zH b)) := by
 have := zjy r b gr gb lr lb _ 0 1000000000 rfl (by omega) (by omega) (by omega) (by rw [Nat.mul_comm]; exact h)
 exact this
theorem zmS (A V y p r X Q R : Nat) (h : X * y + r = V) (hq : Q = (p + 1000000000 * r) / y) (hr : R = (p + 1000000000 * r) % y) : (Q + 1000000000 * X) * y + R = p + 1000000000 * V := by
 have := Nat.div_add_mod (p + 1000000000 * r) y
 rw [← hq, ← hr] at this
 rw [Nat.add_mul, Nat.mul_assoc, Nat.mul_comm _ y, ← h, Nat.mul_add]; omega
theorem zfs (a b : List Int) (ga : zT a = true) (gb : zT b = true) (la : a.length ≤ 1000000) (lb : b.length ≤ 1000000) (hb : 0 < zH b) : ∀ (n : Nat) (q r : List Int), n ≤ a.length → q.length = a.length → zT q = true → zT r = true → r.length ≤ 1000000 → zH r < zH b → zH (q.drop n) * zH b + zH r = zH (a.drop n) →
  Ev (fun k => jA.l0 k a b q r ((n : Int) - 1)) (zR (zH a / zH b), zR (zH a % zH b), true)
 | 0, q, r, hn, hq, gq, gr, lr, hr, hv => by
  rw [List.drop_zero, List.drop_zero] at hv
  have e1 : zH q = zH a / zH b := by rw [← hv, Nat.mul_comm, Nat.mul_add_div hb, Nat.div_eq_of_lt hr]; rfl
  have e2 : zH r = zH a % zH b := by rw [← hv, Nat.mul_comm, Nat.mul_add_mod, Nat.mod_eq_of_lt hr]
  refine zhW (Ev.step (f := fun _ => (jQ.f q).bind fun t => (jQ.f r).bind fun t2 => some (t, t2, true)) (fun k => ?_) (Ev.bind (zbN fun _ => qQ gq (by omega)) (Ev.bind (zbN fun _ => qQ gr (by omega)) (Ev.now _)))) ?_
  ·simp only [jA.l0]; rw [if_neg (by omega)]
  rw [e1, e2]
 | n + 1, q, r, hn, hq, gq, gr, lr, hr, hv => by
  have hna : n < a.length := by omega
  have hnq : n < q.length := by omega
  have pa := yF.1 ga _ (List.getElem_mem hna)
  obtain ⟨p, hp⟩ : ∃ v : Nat, a[n] = (v : Int) := ⟨a[n].toNat, by omega⟩
  have hp9 : p < 1000000000 := by omega
  have gpr : zT ([(p : Int)] ++ r) = true := yM.2 ⟨yI.2 ⟨by omega, rfl⟩, gr⟩
  have vpr : zH ([(p : Int)] ++ r) = p + 1000000000 * zH r := by simp [zH]
  have hlt : p + 1000000000 * zH r < 1000000000 * zH b := by omega
  have hqb : (p + 1000000000 * zH r) / zH b < 1000000000 := by rw [Nat.div_lt_iff_lt_mul hb]; exact hlt
  have hmod := Nat.mod_lt (p + 1000000000 * zH r) hb
  have lt2 : (zR (p + 1000000000 * zH r)).length ≤ 1000001 := by
   rw [← vpr]
   exact Nat.le_trans (zaI (xM gpr)) (by simp; omega)
  have lm : (zR ((p + 1000000000 * zH r) % zH b)).length ≤ 1000000 := by
   have := xM gb
   exact zea (Nat.lt_trans hmod this) lb
  have ex : (((n + 1 : Nat) : Int) - 1) = (n : Int) := by omega
  refine Ev.step (f := fun k => (jQ.f ([(p : Int)] ++ r)).bind fun t => (jN.f k t b).bind fun t2 => jA.l0 k a b (q.set n t2.1) t2.2 ((n : Int) - 1)) (fun k => ?_) (Ev.bind (zbN fun _ => qQ gpr (by simp; omega)) ?_)
  ·simp only [ex, jA.l0, Option.bind_some]
   rw [if_pos (by omega), if_pos (by omega), if_pos (by omega), vM hna, hp, if_pos (by simp; omega)]
   have c1 : (n : Int) < (q.length : Int) := by omega
   simp only [c1, if_true, Int.toNat_natCast, w64 (x := (n : Int) - 1) (by omega) (by omega)]
  rw [vpr]
  refine Ev.bind (zlU (jP _) gb (by omega) lb (by rw [jJ]; exact hlt)) ?_
  rw [jJ]
  refine zfs a b ga gb la lb hb n _ _ (by omega) (by simpa using hq) (zdc gq n (zjp hqb)) (jP _) lm (by rw [jJ]; exact hmod) ?_
  rw [jJ, zcx q n _ hnq, List.drop_eq_getElem_cons hna, hp]
  exact zmS 0 _ _ p _ _ _ _ hv rfl rfl
theorem zkx {a b : List Int} (ga : zT a = true) (gb : zT b = true) (la : a.length ≤ 1000000) (lb : b.length ≤ 1000000) (hb : 0 < zH b) : Ev (fun k => jA.f k a b) (zR (zH a / zH b), zR (zH a % zH b), true) := by
 unfold jA.f
 refine Ev.bind (zbN fun _ => qQ gb (by omega)) ?_
 have lb2 : (zR (zH b)).length ≤ 1000000 := Nat.le_trans (zaI (xM gb)) lb
 have h0 : ¬ ((zR (zH b)).length : Int) = 0 := by
  intro h
  have : zR (zH b) = [] := List.eq_nil_of_length_eq_zero (by omega)
  have := zaw.1 this; omega
 have h1 : (0 : Int) ≤ (a.length : Int) := by omega
 have h2 : a.length ≤ 70368744177664 := by omega
 simp only [h0, h1, if_true, if_false, Int.toNat_natCast, h2]
 rw [w64 (by omega) (by omega)]
 have := zfs a (zR (zH b)) ga (jP _) la lb2 (by rw [jJ]; exact hb) a.length (List.replicate a.length 0) [] (Nat.le_refl _) (by simp) (xY _) rfl (by simp) (by rw [jJ]; exact hb) (by
  rw [List.drop_of_length_le (by simp), List.drop_of_length_le (Nat.le_refl _)]; simp [zH])
 rwa [jJ] at this
theorem zhE (a b : List Int) (ga : zT a = true) (gb : zT b = true) (la : a.length ≤ 1000000) (lb : b.length ≤ 1000000) : ∀ (d n : Nat) (x : List Int), b.length - n = d → n ≤ b.length → zT x = true → x.length = a.length + b.length + 1 → zH x = zH a * zH (b.take n) →
  Ev (fun k => yC.l0 k a x b (b.length : Int) (n : Int)) (zR (zH a * zH b))
 | 0, n, x, h1, h2, gx, hx, hv => by
  refine zco (r' := zR (zH x)) (fun k => ?_) ?_
  ·simp only [yC.l0, jQ.f]; rw [if_neg (by omega), qQ gx (by omega)]; rfl
  rw [hv, List.take_of_length_le (by omega)]
 | d + 1, n, x, h1, h2, gx, hx, hv => by
  have hnb : n < b.length := by omega
  have pb := yF.1 gb _ (List.getElem_mem hnb)
  obtain ⟨y, hy⟩ : ∃ v : Nat, b[n] = (v : Int) := ⟨b[n].toNat, by omega⟩
  have e : zH (b.take (n + 1)) = zH (b.take n) + 1000000000 ^ n * y := by
   rw [List.take_succ_eq_append_getElem hnb, uM, hy, Int.toNat_natCast, List.length_take, Nat.min_eq_left (by omega)]
  have key : zH x + 1000000000 ^ n * (zH a * y) = zH a * zH (b.take (n + 1)) := by
   rw [hv, e, Nat.mul_add, Nat.mul_left_comm (1000000000 ^ n)]
  have hlt : zH x + 1000000000 ^ n * (zH a * y) < 1000000000 ^ x.length := by
   rw [key, hx]
   have va := xM ga
   have vb := xM (zcB gb (n + 1))
   have h3 := Nat.mul_lt_mul'' va vb
   rw [← Nat.pow_add] at h3
   exact Nat.lt_of_lt_of_le h3 (Nat.pow_le_pow_right (by omega) (by rw [List.length_take]; omega))
  obtain ⟨r, hr, g1, g2, g3⟩ := zkP (p := n) gx ga (show y < 1000000000 by omega) (by omega) (by omega) hlt
  refine Ev.step (f := fun k => (zY.f k x a (y : Int) (n : Int)).bind fun t => yC.l0 k a t b (b.length : Int) ((n + 1 : Nat) : Int)) (fun k => ?_) (Ev.bind hr (zhE a b ga gb la lb d (n + 1) r (by omega) (by omega) g1 (by omega) (by rw [g3, key])))
  simp only [yC.l0]; rw [if_pos (by omega), if_pos (by omega), if_pos (by omega), vM hnb, hy, zay _ (by omega)]
theorem zkN {a b : List Int} (ga : zT a = true) (gb : zT b = true) (la : a.length ≤ 1000000) (lb : b.length ≤ 1000000) : Ev (fun k => yC.f k a b) (zR (zH a * zH b)) := by
 unfold yC.f
 rw [zkq _ _ la lb]
 have c1 : (0 : Int) ≤ ((a.length + b.length + 1 : Nat) : Int) := by omega
 have c2 : a.length + b.length + 1 ≤ 70368744177664 := by omega
 simp only [Int.toNat_natCast, c1, c2, if_true]
 exact zhE a b ga gb la lb b.length 0 _ rfl (by omega) (xY _) (by simp) (by rw [zaL]; simp [zH])
theorem mnP (a b : Int) : mn a b = min b a := by unfold mn; split <;> omega
theorem zlO {q : Nat} (h : q ≠ 0) : (zR q).length > 0 ∧ rd (zR q) 0 = ((q % 1000000000 : Nat) : Int) := by
 have hv := jJ q
 have hg := jP q
 rcases hl : zR q with _ | ⟨x, l⟩
 ·exact absurd (zaw.1 hl) h
 rw [hl] at hv hg
 obtain ⟨hx, _⟩ := yI.1 hg
 simp only [zH] at hv
 refine ⟨by simp, ?_⟩
 show x = _
 omega
theorem zku (v : Nat) : dB (zat v) = true ∧ (zat v).size ≠ 0 ∧ vB (zat v) = v := by
 unfold zat
 by_cases h : v = 0
 ·rw [if_pos h, h]; exact ⟨rfl, by decide, rfl⟩
 rw [if_neg h]; exact ⟨zgu v, fun e => h (qX.1 e), zfj v⟩
theorem zgB {v k : Nat} (h : (jR v).size ≤ k) (hk : 1 ≤ k) : (zat v).size ≤ k := by
 unfold zat
 by_cases h0 : v = 0
 ·rw [if_pos h0]; exact hk
 rw [if_neg h0]; exact h
theorem zjE {v k : Nat} (h : (jR v).size ≤ k) (hk : k ≤ 1000000) : vQ.f (zR v) = some (zat v) := by
 have := yL v
 unfold vQ.f; rw [if_pos ⟨jP v, by omega⟩, jJ]
theorem ziT {b : Bool} {v : Nat} {p : Int} (hz : (jR v).size ≤ 100000) (h1 : -100000 ≤ p) (h2 : p ≤ 100000) : ((vQ.f (zR v)).bind fun t => (jY.f b t p).bind fun u => some (u.1, u.2.1, u.2.2, (0 : Int))) = some (b, nD v, nE v p, 0) := by
 obtain ⟨d1, d2, d3⟩ := zku v
 have d4 := zgB (k := 100000) hz (by decide)
 rw [zjE hz (by decide)]
 simp only [Option.bind_some]
 rw [zcC ⟨d1, d2, by omega, h1, h2⟩, d3]; rfl
theorem zny {q : Nat} (h : (jR q).size ≤ 1000000) : uK.f (zR q) ([1] : List Int) = some (zR (q + 1)) := by
 have hl := yL q
 have h1 : ([1] : List Int).length ≤ 1000000000000 := by show 1 ≤ 1000000000000; omega
 have := zfg (jP q) (b := [1]) (by decide) (by omega) h1
 rwa [jJ, show zH [1] = 1 from rfl] at this
theorem zkU {b : Bool} {s : ByteArray} {e E : Int} {q B : Nat} {u : Bool} (hz : (jR q).size ≤ 40000) (hB : (jR B).size ≤ 40000) (h1 : -100000 ≤ E) (h2 : E ≤ 100000) : Ev (fun k => jI.j1 k (zR B) E (zR q) u b s e) (b, nD ((q + if u = true then 1 else 0) * B), nE ((q + if u = true then 1 else 0) * B) E, 0) := by
 have lB := yL B
 cases u
 ·have lq := yL q
  have hm := zfq hz hB
  have := zkN (jP q) (jP B) (by omega) (by omega)
  rw [jJ, jJ] at this
  refine Ev.step (fun k => by simp only [jI.j1, Bool.false_eq_true, if_false]; rfl) (Ev.bind this (zbN fun _ => ?_))
  simp only [Bool.false_eq_true, if_false, Nat.add_zero]
  exact ziT (by omega) h1 h2
 have ha := zny (q := q) (by omega)
 have h3 := zbu (m := q) (n := 1) (p := 40000) hz (by rw [zaX]; omega)
 have lq := yL (q + 1)
 have hm := zfq h3 hB
 have := zkN (jP (q + 1)) (jP B) (by omega) (by omega)
 rw [jJ, jJ] at this
 refine Ev.step (fun k => by simp only [jI.j1, if_true]; rfl) (evE ha (Ev.bind this (zbN fun _ => ?_)))
 simp only [if_true]
 exact ziT (by omega) h1 h2
theorem zoI {m : Int} {b : Bool} {s : ByteArray} {e p : Int} {S : Nat} (h : OkS s e) (hS0 : S ≠ 0) (hS : (jR S).size ≤ 1000) (h1 : -10000 ≤ p) (h2 : p ≤ 10000) : Ev (fun k => jI.j0 k m p (zR S) false b s e) (zam m b (vB s) e S p) := by
 have hv := h.ok.val
 have hz := h.sz
 have hlo := h.lo
 have hhi := h.hi
 have hc := zia h.ok
 have lS := yL S
 obtain ⟨E, hE⟩ : ∃ E, E = mn e p := ⟨_, rfl⟩
 have hE2 : E = min e p := by rw [hE, mnP]; omega
 have sB : qS.f (zR S) (wrap64 (p - E)) = some (zR (atE S p E)) := by
  rw [w64 (x := p - E) (by omega) (by omega), zil (jP _) (by omega) (by omega), jJ]; rfl
 have sN : qS.f (zR (vB s)) (wrap64 (e - E)) = some (zR (atE (vB s) e E)) := by
  rw [w64 (x := e - E) (by omega) (by omega), zil (jP _) (by omega) (by omega), jJ]; rfl
 have zB : (jR (atE S p E)).size ≤ 30000 := by
  unfold atE; rw [zbT hS0]; omega
 have zN := zgC b (n := vB s) (p := 10000) e E (by omega)
 rw [zeA] at zN
 have hB0 := zjd hS0 p E
 refine Ev.step (fun k => by simp only [jI.j0, Bool.false_eq_true, if_false, ← hE]; rfl) ?_
 refine evE sB (evE (zmX h.ok) (evE sN ?_))
 obtain ⟨N, hN⟩ : ∃ N, N = atE (vB s) e E := ⟨_, rfl⟩
 obtain ⟨B, hBB⟩ : ∃ B, B = atE S p E := ⟨_, rfl⟩
 rw [← hN, ← hBB]
 rw [← hN] at zN
 rw [← hBB] at zB hB0
 have zN2 : (jR N).size ≤ 30000 := by omega
 have zr := zak (Nat.mod_le N B) zN2
 have zq := zak (Nat.div_le_self N B) zN2
 have lN := yL N
 have lB := yL B
 have lr := yL (N % B)
 have z2 := zbu zr zr
 have l2 := yL (N % B + N % B)
 have hd := zkx (jP N) (jP B) (by omega) (by omega) (by rw [jJ]; exact hB0)
 rw [jJ, jJ] at hd
 refine Ev.bind hd ?_
 dsimp only
 by_cases hf : N % B = 0
 ·have hf2 : atE (vB s) e (min e p) % atE S p (min e p) = 0 := by rw [← hE2, ← hN, ← hBB]; exact hf
  rw [zdT hf2]
  exact evT (by rw [hf, zaC]; rfl) (evE (zcC h.ok) (Ev.now _))
 have hf2 : ¬ atE (vB s) e (min e p) % atE S p (min e p) = 0 := by rw [← hE2, ← hN, ← hBB]; exact hf
 refine evF (fun hh => hf (zaw.1 (List.eq_nil_of_length_eq_zero (by omega)))) ?_
 by_cases h7 : m = 7
 ·subst h7
  rw [zcM hf2]
  exact evT rfl (Ev.now _)
 refine evF h7 ?_
 have ha : uK.f (zR (N % B)) (zR (N % B)) = some (zR (N % B + N % B)) := by
  have := zfg (jP (N % B)) (jP (N % B)) (by omega) (by omega)
  rwa [jJ] at this
 have hcm : qJ.f (zR (N % B + N % B)) (zR B) = some (vN (N % B + N % B) B) := by
  have := zfa (jP (N % B + N % B)) (jP B) (by omega) (by omega)
  rwa [jJ, jJ] at this
 have hres : zam m b (vB s) e S p = (b, nD ((N / B + if upB m b (N / B % 2 == 1) (vN (N % B + N % B) B) = true then 1 else 0) * B), nE ((N / B + if upB m b (N / B % 2 == 1) (vN (N % B + N % B) B) = true then 1 else 0) * B) E, 0) := by
  rw [zey h7, ← hE2]
  unfold rv0
  rw [← hN, ← hBB]
  have hq : rq m b N B = N / B + if upB m b (N / B % 2 == 1) (vN (N % B + N % B) B) = true then 1 else 0 := by
   unfold rq; simp only [ne_eq, hf, not_false_eq_true, true_and]
  rw [hq]
 rw [hres]
 by_cases hq0 : N / B = 0
 ·refine evF (by rw [hq0, zaC]; decide) (evE ha (evE hcm (evE (zfh _ _ _ _) ?_)))
  have : (N / B % 2 == 1) = false := by rw [hq0]; rfl
  rw [this]
  exact zkU (by omega) (by omega) (by omega) (by omega)
 obtain ⟨g1, g2⟩ := zlO hq0
 refine evT (by omega) (evT (by omega) (evE ha (evE hcm ?_)))
 have : (Int.tmod (rd (zR (N / B)) 0) 2 == 1) = (N / B % 2 == 1) := by
  rw [g2, Int.tmod_eq_emod_of_nonneg (by omega), Bool.eq_iff_iff, beq_iff_eq, beq_iff_eq]; omega
 rw [this]
 refine evE (zfh _ _ _ _) ?_
 exact zkU (by omega) (by omega) (by omega) (by omega)
theorem znm {st : ByteArray} (hst : st.size ≤ 140737488351232) : vY.f st = some (if dB st = true ∧ st.size ≠ 0 then (zR (vB st), true) else ([], false)) := by unfold vY.f; rw [if_pos hst]
theorem ziJ {m : Int} {b : Bool} {s st : ByteArray} {e p : Int} (hm : 0 ≤ m) (hm7 : m ≤ 7) (h : OkS s e) (hd : dB st = true) (hs0 : vB st ≠ 0) (hsz : st.size ≤ 40) (h1 : -10000 ≤ p) (h2 : p ≤ 10000) : Ev (fun k => jI.f k m b s e st p) (zam m b (vB s) e (vB st) p) := by
 have hn0 : st.size ≠ 0 := by
  intro h0
  rw [ByteArray.size_eq_zero_iff.1 h0] at hs0; exact hs0 rfl
 have hst := xV (zjO hd)
 unfold jI.f
 refine evE (znm (by omega)) (evE (zjD m) (evT (by simp; omega) ?_))
 rw [if_pos ⟨hd, hn0⟩]
 refine evT rfl (evF (by omega) ?_)
 have : (((zR (vB st)).length : Int) == 0) = false := by
  rw [beq_eq_false_iff_ne]
  intro hh
  exact hs0 (zaw.1 (List.eq_nil_of_length_eq_zero (by omega)))
 dsimp only
 rw [this]
 exact zoI h hs0 (by omega) h1 h2
theorem zhM {b : Bool} {s : ByteArray} {e n : Int} (h : OkD s (e + n)) (h1 : -1000000 ≤ e) (h2 : e ≤ 1000000) (h3 : -1000000 ≤ n) (h4 : n ≤ 1000000) : vF.f b s e n = some (b, nD (vB s), nE (vB s) (e + n)) := by
 unfold vF.f; rw [w64 (x := e + n) (by omega) (by omega), zcC h]; rfl
def xO.f (a0_0 : Bool) (a0_1 : ByteArray) (a0_2 : Int) : Option (Bool) := (jY.f a0_0 a0_1 a0_2).bind fun bt552 => (some (bt552.2.1.toList == ([48] : List UInt8)))
set_option maxHeartbeats 8000000 in
set_option maxRecDepth 100000 in
theorem xO.calls (a0_0 : Bool) (a0_1 : ByteArray) (a0_2 : Int) (r : Bool) (w : World) (h : xO.f a0_0 a0_1 a0_2 = some r) :
  Calls Tryz.prog 65 #[.agg #[.bool a0_0, .string a0_1, .int .i64 a0_2]] w fun e w' => e = .returned (.bool r) ∧ Below w.heap.size w w' := by
 have hu23 := Tryz.underlying23
 have HB := K_ (Below.refl w.heap.size w)
 have H : ((jY.f a0_0 a0_1 a0_2).bind fun bt552 => (some (bt552.2.1.toList == ([48] : List UInt8)))) = some r := h
 clear h
 replace H := Option.bind_eq_some_iff.mp H
 obtain ⟨⟨t552, t553, t554⟩, A20, H⟩ := H
 replace H : (some (t553.toList == ([48] : List UInt8))) = some r := H
 have A2 := K_ A20
 clear A20
 obtain rfl := Option.some.inj H
 go_enter Tryz.func65, Tryz.ntmps65
 go_wp2_with (first | (refine be_ 1 #[.bool a0_0, .string a0_1, .int .i64 a0_2] 23 ?_; intro gb551 hg w3 hbox hb; have n0_ := zE HB hb; have n1_ := K_ (hbox); have n2_ := ge_ hg HB; have n3_ := ge_ hg HB; clear HB; have HB := n0_; have BK551 := n1_; have GW551 := n2_; have GE551 := n3_; clear n0_ n1_ n2_ n3_; clear hb hbox hg; have hcz4_0 : w3.cell? ⟨gb551, 0, none⟩ = some (.bool a0_0) := (zA BK551.out 0).trans rfl; have hcz4_1 : w3.cell? ⟨gb551, 1, none⟩ = some (.string a0_1) := (zA BK551.out 1).trans rfl; have hcz4_2 : w3.cell? ⟨gb551, 2, none⟩ = some (.int .i64 a0_2) := (zA BK551.out 2).trans rfl; have hfz4_0 := zI BK551.out 0; have hfz4_1 := zI BK551.out 1; have hfz4_2 := zI BK551.out 2) | ((with_reducible refine zM (f := 59) rfl ?_); refine zW (some 4) rfl rfl Tryz.func59 (by kernel_rfl) rfl #[.agg #[.bool a0_0, .string a0_1, .int .i64 a0_2]] rfl MP ?_; (with_reducible refine (jY.calls a0_0 a0_1 a0_2 t552 t553 t554 _ A2.out).mono ?_); rintro e w5 ⟨rfl, hb⟩; refine ⟨_, rfl, ?_⟩; have n0_ := zC BK551 hb; have n1_ := zE HB hb; clear BK551; clear HB; have BK551 := n0_; have HB := n1_; clear n0_ n1_; (try clear hb); (try clear hb2); (try clear hk); (try clear hi)))
 go_ret
 exact ⟨ER, BL HB⟩
theorem zeP (n : Nat) : (nD n).toList = ([48] : List UInt8) ↔ n = 0 := by
 rw [← zee]
 constructor
 ·intro h; apply zau; rw [← ByteArray.toList_eq, h]; rfl
 intro h; rw [h, ByteArray.toList_eq]; rfl
theorem zjx {b : Bool} {s : ByteArray} {e : Int} (h : OkD s e) : xO.f b s e = some (decide (vB s = 0)) := by
 unfold xO.f
 rw [zcC h]
 simp only [Option.bind_some, Option.some.injEq]
 rw [Bool.eq_iff_iff, beq_iff_eq, decide_eq_true_eq]; exact zeP _
theorem zgI {b : Bool} {s : ByteArray} {e : Int} (h : OkD s e) (h2 : OkD (nD (vB s)) (nE (vB s) e)) : qU.f b s e = some (zal (vB s) e) := by
 unfold qU.f
 rw [zcC h]
 simp only [Option.bind_some]
 unfold zal
 by_cases h0 : vB s = 0
 ·rw [if_pos ((zeP _).2 h0)]; simp [h0]
 rw [if_neg (fun hh => h0 ((zeP _).1 hh))]
 by_cases h1 : nE (vB s) e ≥ -300
 ·rw [if_pos h1, zjI h2, zdU, zbl]
  have h1' : -300 ≤ nE (vB s) e := h1
  simp only [Option.bind_some, h0, h1', false_or, true_and]
 rw [if_neg h1]
 have h1' : ¬ -300 ≤ nE (vB s) e := h1
 simp [h0, h1']
theorem zjM {b : Bool} {s : ByteArray} {e : Int} (hs : s.size ≤ 140737488351232) : zaE.f b s e = some (zaz s e) := by
 unfold zaE.f zaz
 by_cases h1 : (s.size : Int) > 1000
 ·rw [if_pos h1]; have : ¬ s.size ≤ 1000 := by omega
  simp [this]
 rw [if_neg h1]
 by_cases h2 : e < -1000
 ·rw [if_pos h2]; have : ¬ -1000 ≤ e := by omega
  simp [this]
 rw [if_neg h2]
 by_cases h3 : e > 1000
 ·rw [if_pos h3]; have : ¬ e ≤ 1000 := by omega
  simp [this]
 rw [if_neg h3]
 have c1 : s.size ≤ 1000 := by omega
 have c2 : -1000 ≤ e := by omega
 have c3 : e ≤ 1000 := by omega
 unfold vY.f
 rw [if_pos hs]
 by_cases h4 : dB s = true ∧ s.size ≠ 0
 ·rw [if_pos h4]; simp [h4.1, h4.2, c1, c2, c3]
 rw [if_neg h4]
 have : (dB s && decide (s.size ≠ 0)) = false := by
  cases hd : dB s
  ·rfl
  simp only [Bool.true_and, decide_eq_false_iff_not]; intro hh; exact h4 ⟨hd, hh⟩
 rw [this]; simp
theorem countP {b : Bool} {s : ByteArray} {e : Int} (h : OkD s e) : zdd.f b s e = some ((nD (vB s)).size : Int) := by
 unfold zdd.f; rw [zcC h]; rfl
end Go.Proofs.YtcmgdjnjmobkoaaGreatDoor.Px
namespace Go.Proofs.YtcmgdjnjmobkoaaGreatDoor.Px
set_option linter.all false
open Fig Go.RowKit Go.Proofs.YtcmgdjnjmobkoaaGreatDoorW.PrintWords Go.Proofs.YtcmgdjnjmobkoaaGreatDoorW.PrintLast Go.Proofs.YtcmgdjnjmobkoaaGreatDoorW.PrintMore
attribute [local go_sem] yR yU vE vD yD yH yV yS
theorem zls {m : Int} {neg : Bool} {n st x y : Nat} {e p k : Int} (hn : (jR n).size ≤ x) (hs : (jR st).size ≤ y) (hs0 : st ≠ 0) (h1 : k ≤ e) (h2 : k ≤ p) : (jR (rv0 m neg n e st p k)).size ≤ max (x + (e - k).toNat) (y + (p - k).toNat) + 1 := by
 have a := zgC neg (n := n) (p := x) e k hn
 have b := zgC neg (n := st) (p := y) p k hs
 rw [zeA] at a b
 have hB := zjd hs0 p k
 have h3 := (zoj (m := m) (neg := neg) (N := atE n e k) hB).1
 refine zak (n := atE n e k + atE st p k) (by unfold rv0; omega) ?_
 exact zbu (zak (Nat.le_refl _) (by omega)) (zak (Nat.le_refl _) (by omega))
def cS (P : jT) : Nat := (xD P).2.toNat
theorem zhq {P : jT} (hg : vT P) : 1 ≤ cS P ∧ cS P ≤ 80 ∧ (xD P).2 = (cS P : Int) := by
 have := hg.mi0; have := hg.mi4; have := hg.mf0; have := hg.mfx; have := hg.xf4; have := hg.ms0; have := hg.msx; have := hg.xs4
 unfold cS xD
 split
 ·refine ⟨by omega, by omega, by omega⟩
 have h := zbF hg
 have h1 : 1 ≤ jX P + P.xf := by
  unfold jX
  split
  ·omega
  rename_i hn
  by_cases h0 : P.mi + P.xf = 0
  ·exact absurd (.inr (.inr h0)) hn
  omega
 refine ⟨by show 1 ≤ (jX P + P.xf).toNat; omega, by show (jX P + P.xf).toNat ≤ 80; omega, by show jX P + P.xf = ((jX P + P.xf).toNat : Int); omega⟩
def stP (P : jT) (t : Int) : Nat × Int := if P.sci = true ∨ 0 < P.ms then (1, t - (cS P : Int) + 1) else if P.inc.size ≠ 0 then (vB P.inc, -P.xf) else (1, -P.xf)
theorem zoQ {P : jT} (hg : vT P) (hm : zcF P) (t : Int) : (stP P t).1 ≠ 0 ∧ (jR (stP P t).1).size ≤ 40 ∧ t - 80 ≤ max (stP P t).2 (t - 80) ∧ ((stP P t).2 = t - (cS P : Int) + 1 ∨ (-40 ≤ (stP P t).2 ∧ (stP P t).2 ≤ 0)) := by
 have := hg.mf0; have := hg.mfx; have := hg.xf4
 unfold stP
 split
 ·exact ⟨by show (1 : Nat) ≠ 0; decide, by show (jR 1).size ≤ 40; rw [zaX]; decide, by omega, .inl rfl⟩
 split
 ·rename_i hi
  obtain ⟨h1, h2⟩ := hm.dig hi
  exact ⟨h2, Nat.le_trans (xV (zjO h1)) hg.inc4, by omega, .inr ⟨by show -40 ≤ -P.xf; omega, by show -P.xf ≤ 0; omega⟩⟩
 exact ⟨by show (1 : Nat) ≠ 0; decide, by show (jR 1).size ≤ 40; rw [zaX]; decide, by omega, .inr ⟨by show -40 ≤ -P.xf; omega, by show -P.xf ≤ 0; omega⟩⟩
theorem zid {P : jT} (hg : vT P) (hm : zcF P) {m : Int} (h0 : 0 ≤ m) (h7 : m ≤ 7) {b : Bool} {s : ByteArray} {e : Int} (ok : OkS s e) (h1 : jW (vB s) e ≤ 10000) (h2 : -5000 ≤ jW (vB s) e) :
  zfG P m b s e (zam m b (vB s) e (stP P (jW (vB s) e)).1 (stP P (jW (vB s) e)).2) := by
 obtain ⟨c1, c2, c3⟩ := zhq hg
 have := hg.mf0; have := hg.mfx; have := hg.xf4
 refine ⟨fun h => ?_, fun h hi => ?_, fun h hi => ?_⟩
 ·rw [c3]
  have e1 : stP P (jW (vB s) e) = (1, jW (vB s) e - (cS P : Int) + 1) := by unfold stP; rw [if_pos h]
  rw [e1]
  exact ziD h0 h7 c1 (by omega) ok h1 h2
 ·have e1 : stP P (jW (vB s) e) = (vB P.inc, -P.xf) := by unfold stP; rw [if_neg h, if_pos hi]
  rw [e1]
  exact ziJ h0 h7 ok (hm.dig hi).1 (hm.dig hi).2 hg.inc4 (by omega) (by omega)
 have e1 : stP P (jW (vB s) e) = (1, -P.xf) := by unfold stP; rw [if_neg h, if_neg (by omega)]
 rw [e1]
 exact zef h0 h7 ok (by omega) (by omega)
theorem zgH (q : Pat) : 0 ≤ q.mult ∧ q.mult ≤ 3 := by unfold Pat.mult; split; omega; split <;> omega
theorem zmV {m : Int} (h0 : 0 ≤ m) (h7 : m ≤ 7) : yG.f m = some true := by unfold yG.f; rw [if_pos h0, decide_eq_true (by omega)]
def zcO (b : Bool) (N : Nat) (X : Int) : Bool × ByteArray × Int × Int := if zal (jV N) X = true then (b, nD N, X, 0) else (false, ⟨#[]⟩, 0, 10)
theorem zld {n : Nat} {e : Int} (h : (jR n).size ≤ 1000) (h1 : -1010 ≤ e) (h2 : e ≤ 1010) : -1010 ≤ jW n e ∧ jW n e ≤ 2010 := by
 unfold jW
 split
 ·omega
 rename_i h0
 have : (jR n).size ≠ 0 := fun hh => h0 (qX.1 hh)
 omega
def rN (q : Pat) (m : Int) (b : Bool) (n : Nat) (e : Int) : Nat := rv0 m b (jV n) (nE n (e + q.mult)) (stP q.P (jW n (e + q.mult))).1 (stP q.P (jW n (e + q.mult))).2 (min (nE n (e + q.mult)) (stP q.P (jW n (e + q.mult))).2)
def rK (q : Pat) (n : Nat) (e : Int) : Int := min (nE n (e + q.mult)) (stP q.P (jW n (e + q.mult))).2
def rX (q : Pat) (m : Int) (b : Bool) (n : Nat) (e : Int) : Int := nE (jV (rN q m b n e)) (nE (rN q m b n e) (rK q n e) + -q.mult)
end Go.Proofs.YtcmgdjnjmobkoaaGreatDoor.Px
namespace Go.Proofs.YtcmgdjnjmobkoaaGreatDoor.Px
open Fig Go.RowKit Go.Proofs.YtcmgdjnjmobkoaaGreatDoorW.PrintWords Go.Proofs.YtcmgdjnjmobkoaaGreatDoorW.PrintLast Go.Proofs.YtcmgdjnjmobkoaaGreatDoorW.PrintMore
attribute [local go_sem] yR yU vE vD yD yH yV yS
attribute [local go_sem] uR uT uZ uX qA uU uQ qB uO qC uV uW uY uS
def zaN.f (a0_0 : Bool) (a0_1 : ByteArray) (a0_2 : Int) (a1 : Int) : Option (Int) := (xO.f a0_0 a0_1 a0_2).bind fun t556 => (if t556 = true then (some 0) else (some (mx 0 (wrap64 (a1 - a0_2)))))
set_option maxHeartbeats 8000000 in
set_option maxRecDepth 100000 in
theorem zaN.calls (a0_0 : Bool) (a0_1 : ByteArray) (a0_2 : Int) (a1 : Int) (r : Int) (w : World) (h : zaN.f a0_0 a0_1 a0_2 a1 = some r) :
  Calls Tryz.prog 64 #[.agg #[.bool a0_0, .string a0_1, .int .i64 a0_2], .int .i64 a1] w fun e w' => e = .returned (.int .i64 r) ∧ Below w.heap.size w w' := by
 have hu23 := Tryz.underlying23
 have HB := K_ (Below.refl w.heap.size w)
 have H : ((xO.f a0_0 a0_1 a0_2).bind fun t556 => (if t556 = true then (some 0) else (some (mx 0 (wrap64 (a1 - a0_2)))))) = some r := h
 clear h
 obtain ⟨t556, A30, H⟩ := Option.bind_eq_some_iff.mp H
 (try dsimp -simprocs only at H)
 have A3 := K_ A30
 clear A30
 by_cases c4 : t556 = true
 ·subst c4
  rw [if_pos rfl] at H
  obtain rfl := Option.some.inj H
  go_enter Tryz.func64, Tryz.ntmps64
  go_wp2_with (first | (refine be_ 2 #[.bool a0_0, .string a0_1, .int .i64 a0_2] 23 ?_; intro gb555 hg w5 hbox hb; have BK555 := K_ (hbox); have GW555 := ge_ hg HB; have GE555 := ge_ hg HB; replace HB := zE HB hb; clear hb hbox hg; obtain ⟨⟨hcz6_0, hcz6_1, hcz6_2⟩, hfz6_0, hfz6_1, hfz6_2⟩ := ce3 BK555) | ((with_reducible refine zM (f := 65) rfl ?_); refine zW (some 6) rfl rfl Tryz.func65 (by kernel_rfl) rfl #[.agg #[.bool a0_0, .string a0_1, .int .i64 a0_2]] rfl MP ?_; (with_reducible refine (xO.calls a0_0 a0_1 a0_2 true _ A3.out).mono ?_); rintro e w7 ⟨rfl, hb⟩; refine ⟨_, rfl, ?_⟩; replace BK555 := zC BK555 hb; replace HB := zE HB hb; (try clear hb); (try clear hb2); (try clear hk); (try clear hi)))
  go_ret
  exact ⟨ER, BL HB⟩
 replace c4 := Bool.eq_false_iff.mpr c4
 subst c4
 rw [if_neg (show ¬ (false = true) by decide)] at H
 obtain ⟨ji8, hji8⟩ : ∃ j_ : Int, (mx 0 (wrap64 (a1 - a0_2))) = j_ := ⟨_, rfl⟩
 replace H : (some ji8) = some r := by first | (rw [hji8] at H; exact H) | (simp only [hji8] at H ⊢; exact H)
 (try rw [hji8] at A3)
 (try (have hji8l : 0 ≤ ji8 := by (rw [← hji8]; unfold mx; (repeat' split) <;> omega)))
 (try (have hji8m : 0 ≤ ji8 := by omega))
 have hji8_ : (if 0 < (wrap64 (a1 - a0_2)) then (wrap64 (a1 - a0_2)) else 0) = ji8 := hji8
 obtain rfl := Option.some.inj H
 go_enter Tryz.func64, Tryz.ntmps64
 go_wp2_with (first | (refine be_ 2 #[.bool a0_0, .string a0_1, .int .i64 a0_2] 23 ?_; intro gb555 hg w9 hbox hb; have BK555 := K_ (hbox); have GW555 := ge_ hg HB; have GE555 := ge_ hg HB; replace HB := zE HB hb; clear hb hbox hg; obtain ⟨⟨hcz10_0, hcz10_1, hcz10_2⟩, hfz10_0, hfz10_1, hfz10_2⟩ := ce3 BK555) | ((with_reducible refine zM (f := 65) rfl ?_); refine zW (some 6) rfl rfl Tryz.func65 (by kernel_rfl) rfl #[.agg #[.bool a0_0, .string a0_1, .int .i64 a0_2]] rfl MP ?_; (with_reducible refine (xO.calls a0_0 a0_1 a0_2 false _ A3.out).mono ?_); rintro e w11 ⟨rfl, hb⟩; refine ⟨_, rfl, ?_⟩; replace BK555 := zC BK555 hb; replace HB := zE HB hb; (try clear hb); (try clear hb2); (try clear hk); (try clear hi); obtain ⟨⟨hcz12_0, hcz12_1, hcz12_2⟩, hfz12_0, hfz12_1, hfz12_2⟩ := ce3 BK555))
 go_ret
 exact ⟨by first | rfl | (simp [uD, uC] <;> rfl) | (simp only [← hji8]; first | rfl | (simp [uD, uC] <;> rfl)) | (simp [*, uD, uC] <;> rfl), BL HB⟩
end Go.Proofs.YtcmgdjnjmobkoaaGreatDoor.Px
namespace Go.Proofs.YtcmgdjnjmobkoaaGreatDoor.Px
set_option linter.all false
open Fig Go.RowKit Go.Proofs.YtcmgdjnjmobkoaaGreatDoorW.PrintWords Go.Proofs.YtcmgdjnjmobkoaaGreatDoorW.PrintLast Go.Proofs.YtcmgdjnjmobkoaaGreatDoorW.PrintMore
attribute [local go_sem] yR yU vE vD yD yH yV yS
theorem xE : (Tryz.prog.info? 36).map (·.size) = some 4 := by kernel_rfl
def zcA (n : Nat) (e p : Int) : Int := if n = 0 then 0 else max 0 (p - e)
def zej (P : jT) (n : Nat) (e : Int) : Int := if n = 0 then (if 0 < P.ms then 1 else P.mi) else max (if 0 < P.ms then 1 else P.mi) (jW n e + 1)
def zen (P : jT) (n : Nat) (e : Int) : Int := max (if 0 < P.ms then P.ms - 1 - jW n e else P.mf) (zcA n e 0)
def zab (P : jT) (n : Nat) (e : Int) : ByteArray × ByteArray × Int := (yE n e (zej P n e - 1) 0, yE n e (-1) (-zen P n e), 0)
def zcY (P : jT) (n : Nat) (e : Int) : Int := if xH P = true then jW n e - jW n e % P.xi else jW n e - jX P + 1
def zel (P : jT) (n : Nat) (e : Int) : Int := if xH P = true then jW n e - (jW n e - jW n e % P.xi) + 1 else jX P
def zcI (P : jT) (n : Nat) (e : Int) : Int := if n = 0 then 0 else zcY P n e
def zjz (P : jT) (n : Nat) (e : Int) : Int := max ((xD P).1 - zel P n e) (zcA n e (zcI P n e))
def zbs (P : jT) (n : Nat) (e : Int) : ByteArray × ByteArray × Int := (yE n e (zcI P n e + zel P n e - 1) (zcI P n e), yE n e (zcI P n e - 1) (zcI P n e - zjz P n e), zcI P n e)
def zfH (r : ByteArray × ByteArray × Int) : ByteArray × ByteArray × Int := if r.1 ++ r.2.1 = ⟨#[]⟩ then (⟨#[48]⟩, r.2.1, r.2.2) else r
def zae (P : jT) (n : Nat) (e : Int) : ByteArray × ByteArray × Int := zfH (if P.sci = true then zbs P n e else zab P n e)
theorem xS (b : Bool) (s : ByteArray) (e : Int) (ok : OkD s e) (hi lo : Int) (h1 : -200000 ≤ lo) (h2 : hi ≤ 200000) (h3 : lo ≤ 200000) (h4 : -200000 ≤ hi) {x y : Int} (hx : x = hi) (hy : y = lo) (w : World) :
  Calls Tryz.prog 66 #[.agg #[.bool b, .string s, .int .i64 e], .int .i64 x, .int .i64 y] w fun e' w' => e' = .returned (.string (yE (vB s) e hi lo)) ∧ Below w.heap.size w w' := by
 subst hx; subst hy; exact zlw b s e ok x y h1 h2 h3 h4 w
theorem zmW {b : Bool} {s : ByteArray} {e p : Int} (ok : OkS s e) (h1 : -100000 ≤ p) (h2 : p ≤ 100000) : zaN.f b s e p = some (zcA (vB s) e p) := by
 have := ok.lo; have := ok.hi
 unfold zaN.f zcA
 rw [zjx ok.ok]
 simp only [Option.bind_some, decide_eq_true_eq]
 split
 ·rfl
 rw [w64 (by omega) (by omega)]
 unfold mx; congr 1; split <;> omega
theorem zdX {s : ByteArray} {e p : Int} (ok : OkS s e) (h1 : -100000 ≤ p) (h2 : p ≤ 100000) : 0 ≤ zcA (vB s) e p ∧ zcA (vB s) e p ≤ 110000 := by
 have := ok.lo
 unfold zcA; split <;> omega
theorem zfb {s : ByteArray} {e : Int} (ok : OkS s e) : -10000 ≤ jW (vB s) e ∧ jW (vB s) e ≤ 20000 := by
 have h1 := ok.lo; have h2 := ok.hi; have h3 := ok.ok.val; have h4 := ok.sz
 unfold jW; split
 ·omega
 rename_i h0
 have : (jR (vB s)).size ≠ 0 := fun hh => h0 (qX.1 hh)
 omega
set_option maxHeartbeats 8000000 in
set_option maxRecDepth 100000 in
theorem zit (q : Pat) (hg : vT q.P) (b : Bool) (s : ByteArray) (e : Int) (ok : OkS s e) (w : World) :
  Calls Tryz.prog 38 #[.agg q.cs, .agg #[.bool b, .string s, .int .i64 e]] w fun e' w' => e' = .returned (.agg #[.bool b, .string (zab q.P (vB s) e).1, .string (zab q.P (vB s) e).2.1, .int .i64 (zab q.P (vB s) e).2.2]) ∧ Below w.heap.size w w' := by
 have HB := K_ (Below.refl w.heap.size w)
 have HOK := K_ ok
 have HT := K_ (zjI (b := b) ok.ok)
 have HZ := K_ (zjx (b := b) ok.ok)
 have HF := K_ (zmW (b := b) (p := 0) ok (by decide) (by decide))
 have hf := zdX (p := 0) ok (by decide) (by decide)
 have ht := zfb ok
 have hmi := And.intro hg.mi0 hg.mi4
 have hmf := And.intro hg.mf0 (And.intro hg.mfx hg.xf4)
 have hms := And.intro hg.ms0 (And.intro hg.msx hg.xs4)
 obtain ⟨fn, hfn⟩ : ∃ fn, fn = zcA (vB s) e 0 := ⟨_, rfl⟩
 obtain ⟨tp, htp⟩ : ∃ tp, tp = jW (vB s) e := ⟨_, rfl⟩
 obtain ⟨nn, hnn⟩ : ∃ nn, nn = zej q.P (vB s) e := ⟨_, rfl⟩
 obtain ⟨blw, hbb⟩ : ∃ blw, blw = zen q.P (vB s) e := ⟨_, rfl⟩
 have HRES := K_ (show Ending.returned (Value.agg #[.bool b, .string (yE (vB s) e (nn - 1) 0), .string (yE (vB s) e (-1) (-blw)), .int .i64 0]) = .returned (.agg #[.bool b, .string (zab q.P (vB s) e).1, .string (zab q.P (vB s) e).2.1, .int .i64 (zab q.P (vB s) e).2.2]) by rw [hnn, hbb]; rfl)
 unfold zej at hnn
 unfold zen at hbb
 rw [← hfn] at HF hf hbb
 rw [← htp] at HT ht hnn hbb
 have h1 : -20000 ≤ nn ∧ nn ≤ 30000 := by rw [hnn]; split <;> (try split) <;> omega
 have h2 : 0 ≤ blw ∧ blw ≤ 120000 := by rw [hbb]; split <;> omega
 have HNN := K_ hnn
 have HBBE := K_ hbb
 clear hnn hbb hfn htp
 go_enter Tryz.func38, Tryz.ntmps38
 go_upto_region 2 with (first | ((with_reducible refine zF (N := 2) rfl ?_); refine bx_ 2 (q.cs) 26 ?_ rfl rfl rfl rfl rfl; intro g2 hg w2 hbox hb; have BK2 := K_ hbox; have GE2 := ge_ hg HB; replace HB := zE HB hb; clear hb hbox hg) | ((with_reducible refine zF (N := 3) rfl ?_); refine bx_ 3 (#[.bool b, .string s, .int .i64 e]) 23 ?_ rfl rfl rfl rfl rfl; intro g3 hg w2 hbox hb; have BK3 := K_ hbox; have GE3 := ge_ hg HB; have NB2_3 := nb_ hg BK2; replace BK2 := zC BK2 hb; replace HB := zE HB hb; clear hb hbox hg) | ((with_reducible refine zF (N := 4) rfl ?_); refine be_ 4 (#[.bool false, .string (⟨#[]⟩ : ByteArray), .string (⟨#[]⟩ : ByteArray), .int .i64 0]) 36 ?_; intro g4 hg w2 hbox hb; have BK4 := K_ hbox; have GE4 := ge_ hg HB; have NB2_4 := nb_ hg BK2; replace BK2 := zC BK2 hb; have NB3_4 := nb_ hg BK3; replace BK3 := zC BK3 hb; replace HB := zE HB hb; clear hb hbox hg) | ((with_reducible refine zF (N := 8) rfl ?_); refine lo_ (g := g3) (cs := #[.bool b, .string s, .int .i64 e]) _ ⟨BK BK3⟩ ?_ rfl rfl rfl Tryz.underlying23 rfl jM) | (go_at_call 60; refine (zav.calls b s e tp _ HT.out).mono ?_; rintro e9 w' ⟨rfl, hb⟩; replace HB := zE HB hb; replace BK2 := zC BK2 hb; replace BK3 := zC BK3 hb; replace BK4 := zC BK4 hb; clear hb))
 have e5 := (show w'.cell? ⟨g2, 5, none⟩ = some (.int .i64 q.P.mi) from (zA BK2.out 5).trans rfl)
 have e7 := (show w'.cell? ⟨g2, 7, none⟩ = some (.int .i64 q.P.mf) from (zA BK2.out 7).trans rfl)
 have e9 := (show w'.cell? ⟨g2, 9, none⟩ = some (.int .i64 q.P.ms) from (zA BK2.out 9).trans rfl)
 go_region
 have hw9 : wrap64 (tp + 1) = tp + 1 := w64 (by omega) (by omega)
 by_cases h9 : 0 < q.P.ms
 ·have d9 : decide (0 < q.P.ms) = true := decide_eq_true h9
  rw [if_pos h9] at HNN HBBE
  have hw1 : wrap64 (wrap64 (q.P.ms - 1) - tp) = q.P.ms - 1 - tp := by rw [w64 (x := q.P.ms - 1) (by omega) (by omega), w64 (by omega) (by omega)]
  have hm1 : (if q.P.ms - 1 - tp < fn then fn else q.P.ms - 1 - tp) = blw := by rw [HBBE.out]; split <;> omega
  go_upto_region 4 with (fail)
  go_region
  go_upto_region 6 with (first | ((with_reducible refine zF (N := 23) rfl ?_); refine lo_ (g := g3) (cs := #[.bool b, .string s, .int .i64 e]) _ ⟨BK BK3⟩ ?_ rfl rfl rfl Tryz.underlying23 rfl jM) | (go_at_call 64; refine (zaN.calls b s e 0 fn _ HF.out).mono ?_; rintro e9 w' ⟨rfl, hb⟩; replace HB := zE HB hb; replace BK2 := zC BK2 hb; replace BK3 := zC BK3 hb; replace BK4 := zC BK4 hb; clear hb))
  cases hz : decide (vB s = 0)
  ·rw [hz] at HZ
   have h0 : vB s ≠ 0 := of_decide_eq_false hz
   rw [if_neg h0] at HNN
   have hm2 : (if 1 < tp + 1 then tp + 1 else 1) = nn := by rw [HNN.out]; split <;> omega
   go_upto_region 8 with (first | ((with_reducible refine zF (N := 26) rfl ?_); refine lo_ (g := g3) (cs := #[.bool b, .string s, .int .i64 e]) _ ⟨BK BK3⟩ ?_ rfl rfl rfl Tryz.underlying23 rfl jM) | (go_at_call 65; refine (xO.calls b s e false _ HZ.out).mono ?_; rintro e9 w' ⟨rfl, hb⟩; replace HB := zE HB hb; replace BK2 := zC BK2 hb; replace BK3 := zC BK3 hb; replace BK4 := zC BK4 hb; clear hb))
   clear e5 e7 e9
   have hwn : wrap64 (nn - 1) = nn - 1 := w64 (by omega) (by omega)
   have hwb : wrap64 (-blw) = -blw := w64 (by omega) (by omega)
   refine yK (n := 12) (S := fun W => W.heap[g3]? = some (.cells #[.bool b, .string s, .int .i64 e] 23 (0, 0)) ∧ W.cell? ⟨g3, 0, none⟩ = some (.bool b)) (ds := []) #[false, false, false, false, false, false, false, false, false, false, false, false] (by kernel_rfl) rfl rfl ⟨(BK BK3), (zA (BK BK3) 0).trans rfl⟩ (fun hHeld => ?_)
   refine zU (fun W => W.heap[g3]? = some (.cells #[.bool b, .string s, .int .i64 e] 23 (0, 0)) ∧ W.heap[g4]? = some (.cells #[.bool false, .string (⟨#[]⟩ : ByteArray), .string (⟨#[]⟩ : ByteArray), .int .i64 0] 36 (0, 0)) ∧ Below w.heap.size w W) ⟨BK BK3, BK BK4, BL HB⟩ ?_
   clear hHeld BK2 BK3 BK4 HB
   rintro W ⟨hb3, hb4, hbw⟩
   have BK3 := K_ hb3
   have BK4 := K_ hb4
   have HB := K_ hbw
   have hHeld := (show W.heap[g3]? = some (.cells #[.bool b, .string s, .int .i64 e] 23 (0, 0)) ∧ W.cell? ⟨g3, 0, none⟩ = some (.bool b) from ⟨hb3, (zA hb3 0).trans rfl⟩)
   clear hb3 hb4 hbw
   refine pw_ 0 33 (bb 12 1) ?_
   refine tw_ 1 34 (bb 12 3) hHeld ?_
   refine tr_ 2 35 (bb 12 7) (#[.bool b, .string s, .int .i64 e]) (fun _ hs => ⟨hs.1⟩) Tryz.underlying23 jM hHeld ?_
   refine pw_ 3 36 (bb 12 15) ?_
   refine pw_ 4 37 (bb 12 31) ?_
   refine tr_ 6 39 (bb 12 95) (#[.bool b, .string s, .int .i64 e]) (fun _ hs => ⟨hs.1⟩) Tryz.underlying23 jM hHeld ?_
   refine pw_ 7 40 (bb 12 223) ?_
   refine pw_ 8 41 (bb 12 479) ?_
   refine on_ 5 (some 38) (bb 12 511) (fun K hK => ?_)
   refine gq_ Tryz.func66 #[.agg #[.bool b, .string s, .int .i64 e], .int .i64 (wrap64 (nn - 1)), .int .i64 0] ?_
   refine (xS b s e HOK.out.ok (nn - 1) 0 (by decide) (by omega) (by decide) (by omega) (hwn) rfl _).mono ?_
   rintro e9 w' ⟨rfl, hb⟩
   refine ⟨_, rfl, ?_⟩
   replace HB := zE HB hb
   replace BK3 := zC BK3 hb
   replace BK4 := zC BK4 hb
   clear hb
   clear hHeld
   refine hK.out _ _ ⟨BK3.out, (zA BK3.out 0).trans rfl⟩ (fun hHeld => ?_)
   clear hK K
   refine no_ (some 38) ?_
   refine on_ 9 (some 42) (bb 12 1023) (fun K hK => ?_)
   refine gq_ Tryz.func66 #[.agg #[.bool b, .string s, .int .i64 e], .int .i64 (-1), .int .i64 (wrap64 (-blw))] ?_
   refine (xS b s e HOK.out.ok (-1) (-blw) (by omega) (by decide) (by omega) (by decide) rfl hwb _).mono ?_
   rintro e9 w' ⟨rfl, hb⟩
   refine ⟨_, rfl, ?_⟩
   replace HB := zE HB hb
   replace BK3 := zC BK3 hb
   replace BK4 := zC BK4 hb
   clear hb
   clear hHeld
   refine hK.out _ _ ⟨BK3.out, (zA BK3.out 0).trans rfl⟩ (fun hHeld => ?_)
   clear hK K
   refine no_ (some 42) ?_
   refine pw_ 10 43 (bb 12 2047) ?_
   refine on_ 11 none (bb 12 4095) (fun K hK => ?_)
   refine yP (g := g4) (cs := #[.bool false, .string (⟨#[]⟩ : ByteArray), .string (⟨#[]⟩ : ByteArray), .int .i64 0]) (#[.bool b, .string (yE (vB s) e (nn - 1) 0), .string (yE (vB s) e (-1) (-blw)), .int .i64 0]) BK4 ?_ rfl rfl rfl rfl rfl xE rfl rfl
   intro w9 hbk hfar hbel
   have BK9 := K_ (hfar _ _ NB3_4.out BK3.out)
   replace BK4 := K_ hbk
   replace HB := K_ (hbel _ _ GE4.out HB.out)
   refine hK.out _ _ ⟨BK9.out, (zA BK9.out 0).trans rfl⟩ (fun _ => ?_)
   clear hK K hbk hfar hbel
   refine yY (by kernel_rfl) ?_
   go_wp2_with (fail)
   refine bodyPost_ret (results_cell_row rfl _ _ g4 36 (#[.bool b, .string (yE (vB s) e (nn - 1) 0), .string (yE (vB s) e (-1) (-blw)), .int .i64 0]) (0, 0) _ rfl BK4.out Tryz.underlying36 rfl xE) rfl ?_
   exact ⟨HRES.out, BL HB⟩
  rw [hz] at HZ
  have h0 : vB s = 0 := of_decide_eq_true hz
  rw [if_pos h0] at HNN
  clear h0 hz
  go_upto_region 8 with (first | ((with_reducible refine zF (N := 26) rfl ?_); refine lo_ (g := g3) (cs := #[.bool b, .string s, .int .i64 e]) _ ⟨BK BK3⟩ ?_ rfl rfl rfl Tryz.underlying23 rfl jM) | (go_at_call 65; refine (xO.calls b s e true _ HZ.out).mono ?_; rintro e9 w' ⟨rfl, hb⟩; replace HB := zE HB hb; replace BK2 := zC BK2 hb; replace BK3 := zC BK3 hb; replace BK4 := zC BK4 hb; clear hb))
  clear e5 e7 e9
  have hwn : wrap64 (nn - 1) = nn - 1 := w64 (by omega) (by omega)
  have hwb : wrap64 (-blw) = -blw := w64 (by omega) (by omega)
  refine yK (n := 12) (S := fun W => W.heap[g3]? = some (.cells #[.bool b, .string s, .int .i64 e] 23 (0, 0)) ∧ W.cell? ⟨g3, 0, none⟩ = some (.bool b)) (ds := []) #[false, false, false, false, false, false, false, false, false, false, false, false] (by kernel_rfl) rfl rfl ⟨(BK BK3), (zA (BK BK3) 0).trans rfl⟩ (fun hHeld => ?_)
  refine zU (fun W => W.heap[g3]? = some (.cells #[.bool b, .string s, .int .i64 e] 23 (0, 0)) ∧ W.heap[g4]? = some (.cells #[.bool false, .string (⟨#[]⟩ : ByteArray), .string (⟨#[]⟩ : ByteArray), .int .i64 0] 36 (0, 0)) ∧ Below w.heap.size w W) ⟨BK BK3, BK BK4, BL HB⟩ ?_
  clear hHeld BK2 BK3 BK4 HB
  rintro W ⟨hb3, hb4, hbw⟩
  have BK3 := K_ hb3
  have BK4 := K_ hb4
  have HB := K_ hbw
  have hHeld := (show W.heap[g3]? = some (.cells #[.bool b, .string s, .int .i64 e] 23 (0, 0)) ∧ W.cell? ⟨g3, 0, none⟩ = some (.bool b) from ⟨hb3, (zA hb3 0).trans rfl⟩)
  clear hb3 hb4 hbw
  refine pw_ 0 33 (bb 12 1) ?_
  refine tw_ 1 34 (bb 12 3) hHeld ?_
  refine tr_ 2 35 (bb 12 7) (#[.bool b, .string s, .int .i64 e]) (fun _ hs => ⟨hs.1⟩) Tryz.underlying23 jM hHeld ?_
  refine pw_ 3 36 (bb 12 15) ?_
  refine pw_ 4 37 (bb 12 31) ?_
  refine tr_ 6 39 (bb 12 95) (#[.bool b, .string s, .int .i64 e]) (fun _ hs => ⟨hs.1⟩) Tryz.underlying23 jM hHeld ?_
  refine pw_ 7 40 (bb 12 223) ?_
  refine pw_ 8 41 (bb 12 479) ?_
  refine on_ 5 (some 38) (bb 12 511) (fun K hK => ?_)
  refine gq_ Tryz.func66 #[.agg #[.bool b, .string s, .int .i64 e], .int .i64 (wrap64 (1 - 1)), .int .i64 0] ?_
  refine (xS b s e HOK.out.ok (nn - 1) 0 (by decide) (by omega) (by decide) (by omega) (by rw [HNN.out]; exact w64 (by omega) (by omega)) rfl _).mono ?_
  rintro e9 w' ⟨rfl, hb⟩
  refine ⟨_, rfl, ?_⟩
  replace HB := zE HB hb
  replace BK3 := zC BK3 hb
  replace BK4 := zC BK4 hb
  clear hb
  clear hHeld
  refine hK.out _ _ ⟨BK3.out, (zA BK3.out 0).trans rfl⟩ (fun hHeld => ?_)
  clear hK K
  refine no_ (some 38) ?_
  refine on_ 9 (some 42) (bb 12 1023) (fun K hK => ?_)
  refine gq_ Tryz.func66 #[.agg #[.bool b, .string s, .int .i64 e], .int .i64 (-1), .int .i64 (wrap64 (-blw))] ?_
  refine (xS b s e HOK.out.ok (-1) (-blw) (by omega) (by decide) (by omega) (by decide) rfl hwb _).mono ?_
  rintro e9 w' ⟨rfl, hb⟩
  refine ⟨_, rfl, ?_⟩
  replace HB := zE HB hb
  replace BK3 := zC BK3 hb
  replace BK4 := zC BK4 hb
  clear hb
  clear hHeld
  refine hK.out _ _ ⟨BK3.out, (zA BK3.out 0).trans rfl⟩ (fun hHeld => ?_)
  clear hK K
  refine no_ (some 42) ?_
  refine pw_ 10 43 (bb 12 2047) ?_
  refine on_ 11 none (bb 12 4095) (fun K hK => ?_)
  refine yP (g := g4) (cs := #[.bool false, .string (⟨#[]⟩ : ByteArray), .string (⟨#[]⟩ : ByteArray), .int .i64 0]) (#[.bool b, .string (yE (vB s) e (nn - 1) 0), .string (yE (vB s) e (-1) (-blw)), .int .i64 0]) BK4 ?_ rfl rfl rfl rfl rfl xE rfl rfl
  intro w9 hbk hfar hbel
  have BK9 := K_ (hfar _ _ NB3_4.out BK3.out)
  replace BK4 := K_ hbk
  replace HB := K_ (hbel _ _ GE4.out HB.out)
  refine hK.out _ _ ⟨BK9.out, (zA BK9.out 0).trans rfl⟩ (fun _ => ?_)
  clear hK K hbk hfar hbel
  refine yY (by kernel_rfl) ?_
  go_wp2_with (fail)
  refine bodyPost_ret (results_cell_row rfl _ _ g4 36 (#[.bool b, .string (yE (vB s) e (nn - 1) 0), .string (yE (vB s) e (-1) (-blw)), .int .i64 0]) (0, 0) _ rfl BK4.out Tryz.underlying36 rfl xE) rfl ?_
  exact ⟨HRES.out, BL HB⟩
 have d9 : decide (0 < q.P.ms) = false := decide_eq_false h9
 rw [if_neg h9] at HNN HBBE
 have hm1 : (if q.P.mf < fn then fn else q.P.mf) = blw := by rw [HBBE.out]; split <;> omega
 go_upto_region 6 with (first | ((with_reducible refine zF (N := 23) rfl ?_); refine lo_ (g := g3) (cs := #[.bool b, .string s, .int .i64 e]) _ ⟨BK BK3⟩ ?_ rfl rfl rfl Tryz.underlying23 rfl jM) | (go_at_call 64; refine (zaN.calls b s e 0 fn _ HF.out).mono ?_; rintro e9 w' ⟨rfl, hb⟩; replace HB := zE HB hb; replace BK2 := zC BK2 hb; replace BK3 := zC BK3 hb; replace BK4 := zC BK4 hb; clear hb))
 cases hz : decide (vB s = 0)
 ·rw [hz] at HZ
  have h0 : vB s ≠ 0 := of_decide_eq_false hz
  rw [if_neg h0] at HNN
  have hm2 : (if q.P.mi < tp + 1 then tp + 1 else q.P.mi) = nn := by rw [HNN.out]; split <;> omega
  go_upto_region 8 with (first | ((with_reducible refine zF (N := 26) rfl ?_); refine lo_ (g := g3) (cs := #[.bool b, .string s, .int .i64 e]) _ ⟨BK BK3⟩ ?_ rfl rfl rfl Tryz.underlying23 rfl jM) | (go_at_call 65; refine (xO.calls b s e false _ HZ.out).mono ?_; rintro e9 w' ⟨rfl, hb⟩; replace HB := zE HB hb; replace BK2 := zC BK2 hb; replace BK3 := zC BK3 hb; replace BK4 := zC BK4 hb; clear hb))
  clear e5 e7 e9
  have hwn : wrap64 (nn - 1) = nn - 1 := w64 (by omega) (by omega)
  have hwb : wrap64 (-blw) = -blw := w64 (by omega) (by omega)
  refine yK (n := 12) (S := fun W => W.heap[g3]? = some (.cells #[.bool b, .string s, .int .i64 e] 23 (0, 0)) ∧ W.cell? ⟨g3, 0, none⟩ = some (.bool b)) (ds := []) #[false, false, false, false, false, false, false, false, false, false, false, false] (by kernel_rfl) rfl rfl ⟨(BK BK3), (zA (BK BK3) 0).trans rfl⟩ (fun hHeld => ?_)
  refine zU (fun W => W.heap[g3]? = some (.cells #[.bool b, .string s, .int .i64 e] 23 (0, 0)) ∧ W.heap[g4]? = some (.cells #[.bool false, .string (⟨#[]⟩ : ByteArray), .string (⟨#[]⟩ : ByteArray), .int .i64 0] 36 (0, 0)) ∧ Below w.heap.size w W) ⟨BK BK3, BK BK4, BL HB⟩ ?_
  clear hHeld BK2 BK3 BK4 HB
  rintro W ⟨hb3, hb4, hbw⟩
  have BK3 := K_ hb3
  have BK4 := K_ hb4
  have HB := K_ hbw
  have hHeld := (show W.heap[g3]? = some (.cells #[.bool b, .string s, .int .i64 e] 23 (0, 0)) ∧ W.cell? ⟨g3, 0, none⟩ = some (.bool b) from ⟨hb3, (zA hb3 0).trans rfl⟩)
  clear hb3 hb4 hbw
  refine pw_ 0 33 (bb 12 1) ?_
  refine tw_ 1 34 (bb 12 3) hHeld ?_
  refine tr_ 2 35 (bb 12 7) (#[.bool b, .string s, .int .i64 e]) (fun _ hs => ⟨hs.1⟩) Tryz.underlying23 jM hHeld ?_
  refine pw_ 3 36 (bb 12 15) ?_
  refine pw_ 4 37 (bb 12 31) ?_
  refine tr_ 6 39 (bb 12 95) (#[.bool b, .string s, .int .i64 e]) (fun _ hs => ⟨hs.1⟩) Tryz.underlying23 jM hHeld ?_
  refine pw_ 7 40 (bb 12 223) ?_
  refine pw_ 8 41 (bb 12 479) ?_
  refine on_ 5 (some 38) (bb 12 511) (fun K hK => ?_)
  refine gq_ Tryz.func66 #[.agg #[.bool b, .string s, .int .i64 e], .int .i64 (wrap64 (nn - 1)), .int .i64 0] ?_
  refine (xS b s e HOK.out.ok (nn - 1) 0 (by decide) (by omega) (by decide) (by omega) (hwn) rfl _).mono ?_
  rintro e9 w' ⟨rfl, hb⟩
  refine ⟨_, rfl, ?_⟩
  replace HB := zE HB hb
  replace BK3 := zC BK3 hb
  replace BK4 := zC BK4 hb
  clear hb
  clear hHeld
  refine hK.out _ _ ⟨BK3.out, (zA BK3.out 0).trans rfl⟩ (fun hHeld => ?_)
  clear hK K
  refine no_ (some 38) ?_
  refine on_ 9 (some 42) (bb 12 1023) (fun K hK => ?_)
  refine gq_ Tryz.func66 #[.agg #[.bool b, .string s, .int .i64 e], .int .i64 (-1), .int .i64 (wrap64 (-blw))] ?_
  refine (xS b s e HOK.out.ok (-1) (-blw) (by omega) (by decide) (by omega) (by decide) rfl hwb _).mono ?_
  rintro e9 w' ⟨rfl, hb⟩
  refine ⟨_, rfl, ?_⟩
  replace HB := zE HB hb
  replace BK3 := zC BK3 hb
  replace BK4 := zC BK4 hb
  clear hb
  clear hHeld
  refine hK.out _ _ ⟨BK3.out, (zA BK3.out 0).trans rfl⟩ (fun hHeld => ?_)
  clear hK K
  refine no_ (some 42) ?_
  refine pw_ 10 43 (bb 12 2047) ?_
  refine on_ 11 none (bb 12 4095) (fun K hK => ?_)
  refine yP (g := g4) (cs := #[.bool false, .string (⟨#[]⟩ : ByteArray), .string (⟨#[]⟩ : ByteArray), .int .i64 0]) (#[.bool b, .string (yE (vB s) e (nn - 1) 0), .string (yE (vB s) e (-1) (-blw)), .int .i64 0]) BK4 ?_ rfl rfl rfl rfl rfl xE rfl rfl
  intro w9 hbk hfar hbel
  have BK9 := K_ (hfar _ _ NB3_4.out BK3.out)
  replace BK4 := K_ hbk
  replace HB := K_ (hbel _ _ GE4.out HB.out)
  refine hK.out _ _ ⟨BK9.out, (zA BK9.out 0).trans rfl⟩ (fun _ => ?_)
  clear hK K hbk hfar hbel
  refine yY (by kernel_rfl) ?_
  go_wp2_with (fail)
  refine bodyPost_ret (results_cell_row rfl _ _ g4 36 (#[.bool b, .string (yE (vB s) e (nn - 1) 0), .string (yE (vB s) e (-1) (-blw)), .int .i64 0]) (0, 0) _ rfl BK4.out Tryz.underlying36 rfl xE) rfl ?_
  exact ⟨HRES.out, BL HB⟩
 rw [hz] at HZ
 have h0 : vB s = 0 := of_decide_eq_true hz
 rw [if_pos h0] at HNN
 clear h0 hz
 go_upto_region 8 with (first | ((with_reducible refine zF (N := 26) rfl ?_); refine lo_ (g := g3) (cs := #[.bool b, .string s, .int .i64 e]) _ ⟨BK BK3⟩ ?_ rfl rfl rfl Tryz.underlying23 rfl jM) | (go_at_call 65; refine (xO.calls b s e true _ HZ.out).mono ?_; rintro e9 w' ⟨rfl, hb⟩; replace HB := zE HB hb; replace BK2 := zC BK2 hb; replace BK3 := zC BK3 hb; replace BK4 := zC BK4 hb; clear hb))
 clear e5 e7 e9
 have hwn : wrap64 (nn - 1) = nn - 1 := w64 (by omega) (by omega)
 have hwb : wrap64 (-blw) = -blw := w64 (by omega) (by omega)
 refine yK (n := 12) (S := fun W => W.heap[g3]? = some (.cells #[.bool b, .string s, .int .i64 e] 23 (0, 0)) ∧ W.cell? ⟨g3, 0, none⟩ = some (.bool b)) (ds := []) #[false, false, false, false, false, false, false, false, false, false, false, false] (by kernel_rfl) rfl rfl ⟨(BK BK3), (zA (BK BK3) 0).trans rfl⟩ (fun hHeld => ?_)
 refine zU (fun W => W.heap[g3]? = some (.cells #[.bool b, .string s, .int .i64 e] 23 (0, 0)) ∧ W.heap[g4]? = some (.cells #[.bool false, .string (⟨#[]⟩ : ByteArray), .string (⟨#[]⟩ : ByteArray), .int .i64 0] 36 (0, 0)) ∧ Below w.heap.size w W) ⟨BK BK3, BK BK4, BL HB⟩ ?_
 clear hHeld BK2 BK3 BK4 HB
 rintro W ⟨hb3, hb4, hbw⟩
 have BK3 := K_ hb3
 have BK4 := K_ hb4
 have HB := K_ hbw
 have hHeld := (show W.heap[g3]? = some (.cells #[.bool b, .string s, .int .i64 e] 23 (0, 0)) ∧ W.cell? ⟨g3, 0, none⟩ = some (.bool b) from ⟨hb3, (zA hb3 0).trans rfl⟩)
 clear hb3 hb4 hbw
 refine pw_ 0 33 (bb 12 1) ?_
 refine tw_ 1 34 (bb 12 3) hHeld ?_
 refine tr_ 2 35 (bb 12 7) (#[.bool b, .string s, .int .i64 e]) (fun _ hs => ⟨hs.1⟩) Tryz.underlying23 jM hHeld ?_
 refine pw_ 3 36 (bb 12 15) ?_
 refine pw_ 4 37 (bb 12 31) ?_
 refine tr_ 6 39 (bb 12 95) (#[.bool b, .string s, .int .i64 e]) (fun _ hs => ⟨hs.1⟩) Tryz.underlying23 jM hHeld ?_
 refine pw_ 7 40 (bb 12 223) ?_
 refine pw_ 8 41 (bb 12 479) ?_
 refine on_ 5 (some 38) (bb 12 511) (fun K hK => ?_)
 refine gq_ Tryz.func66 #[.agg #[.bool b, .string s, .int .i64 e], .int .i64 (wrap64 (q.P.mi - 1)), .int .i64 0] ?_
 refine (xS b s e HOK.out.ok (nn - 1) 0 (by decide) (by omega) (by decide) (by omega) (by rw [HNN.out]; exact w64 (by omega) (by omega)) rfl _).mono ?_
 rintro e9 w' ⟨rfl, hb⟩
 refine ⟨_, rfl, ?_⟩
 replace HB := zE HB hb
 replace BK3 := zC BK3 hb
 replace BK4 := zC BK4 hb
 clear hb
 clear hHeld
 refine hK.out _ _ ⟨BK3.out, (zA BK3.out 0).trans rfl⟩ (fun hHeld => ?_)
 clear hK K
 refine no_ (some 38) ?_
 refine on_ 9 (some 42) (bb 12 1023) (fun K hK => ?_)
 refine gq_ Tryz.func66 #[.agg #[.bool b, .string s, .int .i64 e], .int .i64 (-1), .int .i64 (wrap64 (-blw))] ?_
 refine (xS b s e HOK.out.ok (-1) (-blw) (by omega) (by decide) (by omega) (by decide) rfl hwb _).mono ?_
 rintro e9 w' ⟨rfl, hb⟩
 refine ⟨_, rfl, ?_⟩
 replace HB := zE HB hb
 replace BK3 := zC BK3 hb
 replace BK4 := zC BK4 hb
 clear hb
 clear hHeld
 refine hK.out _ _ ⟨BK3.out, (zA BK3.out 0).trans rfl⟩ (fun hHeld => ?_)
 clear hK K
 refine no_ (some 42) ?_
 refine pw_ 10 43 (bb 12 2047) ?_
 refine on_ 11 none (bb 12 4095) (fun K hK => ?_)
 refine yP (g := g4) (cs := #[.bool false, .string (⟨#[]⟩ : ByteArray), .string (⟨#[]⟩ : ByteArray), .int .i64 0]) (#[.bool b, .string (yE (vB s) e (nn - 1) 0), .string (yE (vB s) e (-1) (-blw)), .int .i64 0]) BK4 ?_ rfl rfl rfl rfl rfl xE rfl rfl
 intro w9 hbk hfar hbel
 have BK9 := K_ (hfar _ _ NB3_4.out BK3.out)
 replace BK4 := K_ hbk
 replace HB := K_ (hbel _ _ GE4.out HB.out)
 refine hK.out _ _ ⟨BK9.out, (zA BK9.out 0).trans rfl⟩ (fun _ => ?_)
 clear hK K hbk hfar hbel
 refine yY (by kernel_rfl) ?_
 go_wp2_with (fail)
 refine bodyPost_ret (results_cell_row rfl _ _ g4 36 (#[.bool b, .string (yE (vB s) e (nn - 1) 0), .string (yE (vB s) e (-1) (-blw)), .int .i64 0]) (0, 0) _ rfl BK4.out Tryz.underlying36 rfl xE) rfl ?_
 exact ⟨HRES.out, BL HB⟩
end Go.Proofs.YtcmgdjnjmobkoaaGreatDoor.Px
namespace Go.Proofs.YtcmgdjnjmobkoaaGreatDoor.Px
open Fig Go.RowKit Go.Proofs.YtcmgdjnjmobkoaaGreatDoorW.PrintWords Go.Proofs.YtcmgdjnjmobkoaaGreatDoorW.PrintLast Go.Proofs.YtcmgdjnjmobkoaaGreatDoorW.PrintMore
attribute [local go_sem] yR yU vE vD yD yH yV yS
attribute [local go_sem] uR uT uZ uX qA uU uQ qB uO qC uV uW uY uS
def zbw.f (a0 : Int) (a1 : Int) : Option (Int) := if a1 = 0 then (none) else (if (Int.tmod a0 a1) < 0 then (some (wrap64 ((wrap64 ((wrap64 (Int.tdiv a0 a1)) - 1)) * a1))) else (some (wrap64 ((wrap64 (Int.tdiv a0 a1)) * a1))))
set_option maxHeartbeats 8000000 in
set_option maxRecDepth 100000 in
theorem zbw.calls (a0 : Int) (a1 : Int) (r : Int) (w : World) (h : zbw.f a0 a1 = some r) :
  Calls Tryz.prog 67 #[.int .i64 a0, .int .i64 a1] w fun e w' => e = .returned (.int .i64 r) ∧ zK w w' := by
 have H : (if a1 = 0 then (none) else (if (Int.tmod a0 a1) < 0 then (some (wrap64 ((wrap64 ((wrap64 (Int.tdiv a0 a1)) - 1)) * a1))) else (some (wrap64 ((wrap64 (Int.tdiv a0 a1)) * a1))))) = some r := h
 clear h
 by_cases c3 : a1 = 0
 ·rw [if_pos c3] at H
  exact absurd H (by simp)
 rw [if_neg c3] at H
 have c3b0 : (a1 == 0) = false := beq_eq_false_iff_ne.mpr c3
 have c3b1 : (a1 != 0) = true := bne_iff_ne.mpr c3
 by_cases c4 : (Int.tmod a0 a1) < 0
 ·rw [if_pos c4] at H
  have c4b0 : decide ((Int.tmod a0 a1) < 0) = true := decide_eq_true c4
  clear c4
  obtain rfl := Option.some.inj H
  go_enter Tryz.func67, Tryz.ntmps67
  go_wp2
  go_ret
  exact ⟨by first | rfl | (simp; done) | (simp [*]; done) | (simp [*, Fig.bne_nil]; done), by repeat (first | exact zK.refl _ | apply zK.step)⟩
 rw [if_neg c4] at H
 have c4b0 : decide ((Int.tmod a0 a1) < 0) = false := decide_eq_false c4
 clear c4
 obtain rfl := Option.some.inj H
 go_enter Tryz.func67, Tryz.ntmps67
 go_wp2
 go_ret
 exact ⟨by first | rfl | (simp; done) | (simp [*]; done) | (simp [*, Fig.bne_nil]; done), by repeat (first | exact zK.refl _ | apply zK.step)⟩
end Go.Proofs.YtcmgdjnjmobkoaaGreatDoor.Px
namespace Go.Proofs.YtcmgdjnjmobkoaaGreatDoor.Px
set_option linter.all false
open Fig Go.RowKit Go.Proofs.YtcmgdjnjmobkoaaGreatDoorW.PrintWords Go.Proofs.YtcmgdjnjmobkoaaGreatDoorW.PrintLast Go.Proofs.YtcmgdjnjmobkoaaGreatDoorW.PrintMore
attribute [local go_sem] yR yU vE vD yD yH yV yS
theorem zjf {P : jT} (h : xH P = true) : 1 < P.xi := by
 unfold xH at h; simp only [Bool.and_eq_true, decide_eq_true_eq] at h; exact h.2.2
theorem zgq {P : jT} (h : vT P) : 0 ≤ (xD P).1 ∧ (xD P).1 ≤ 80 := by
 have := h.mi0; have := h.mi4; have := h.ms0; have := h.msx; have := h.xs4; have := h.mf0; have := h.mfx; have := h.xf4; have := zbF h
 unfold xD; split
 ·show 0 ≤ P.ms ∧ P.ms ≤ 80; omega
 show 0 ≤ jX P + P.mf ∧ jX P + P.mf ≤ 80; omega
theorem zoU {t k : Int} (h1 : -100000 ≤ t) (h2 : t ≤ 100000) (h3 : 1 < k) (h4 : k ≤ 1000) : zbw.f t k = some (t - t % k) := by
 have hd := Int.mul_tdiv_add_tmod t k
 have he := Int.mul_ediv_add_emod t k
 have hm1 := Int.emod_nonneg t (show k ≠ 0 by omega)
 have hm2 := Int.emod_lt_of_pos t (show 0 < k by omega)
 unfold zbw.f
 rw [if_neg (by omega)]
 by_cases ht : 0 ≤ t
 ·have e1 : t.tmod k = t % k := Int.tmod_eq_emod_of_nonneg ht
  have e2 : t.tdiv k = t / k := Int.tdiv_eq_ediv_of_nonneg ht
  rw [if_neg (by omega), e2]
  have b1 : 0 ≤ t / k := Int.ediv_nonneg ht (by omega)
  have b2 : t / k ≤ t := Int.ediv_le_self k ht
  rw [w64 (x := t / k) (by omega) (by omega), Int.mul_comm (t / k) k, w64 (by omega) (by omega)]
  congr 1; omega
 have e1 : t.tmod k = -((-t) % k) := by
  have := Int.neg_tmod (-t) k
  rw [Int.neg_neg] at this; rw [this, Int.tmod_eq_emod_of_nonneg (by omega)]
 have e2 : t.tdiv k = -((-t) / k) := by
  have := Int.neg_tdiv (-t) k
  rw [Int.neg_neg] at this; rw [this, Int.tdiv_eq_ediv_of_nonneg (by omega)]
 have b1 : 0 ≤ (-t) / k := Int.ediv_nonneg (by omega) (by omega)
 have b2 : (-t) / k ≤ -t := Int.ediv_le_self k (by omega)
 have n1 := Int.emod_nonneg (-t) (show k ≠ 0 by omega)
 have n2 := Int.emod_lt_of_pos (-t) (show 0 < k by omega)
 have n3 := Int.mul_ediv_add_emod (-t) k
 obtain ⟨z, hz⟩ : ∃ z, z = (-t) / k := ⟨_, rfl⟩
 obtain ⟨r, hr⟩ : ∃ r, r = (-t) % k := ⟨_, rfl⟩
 rw [← hz] at n3 b1 b2 e2
 rw [← hr] at n1 n2 n3 e1
 obtain ⟨y, hy⟩ : ∃ y, y = k * z := ⟨_, rfl⟩
 rw [← hy] at n3
 have hyz : k * z = y := hy.symm
 by_cases hr0 : r = 0
 ·have em : t % k = 0 := Int.emod_eq_zero_of_dvd ⟨-z, by rw [Int.mul_neg]; omega⟩
  rw [if_neg (by omega), e2, w64 (x := -z) (by omega) (by omega), Int.neg_mul, Int.mul_comm z k, hyz, w64 (by omega) (by omega), em]
  congr 1; omega
 have em : t % k = k - r := by
  have h5 : t = (k - r) + k * (-z - 1) := by rw [Int.mul_sub, Int.mul_neg, Int.mul_one]; omega
  rw [h5, Int.add_mul_emod_self_left]; exact Int.emod_eq_of_lt (by omega) (by omega)
 rw [if_pos (by omega), e2, w64 (x := -z) (by omega) (by omega), w64 (x := -z - 1) (by omega) (by omega), Int.sub_mul, Int.neg_mul, Int.mul_comm z k, hyz, Int.one_mul, w64 (by omega) (by omega), em]
 congr 1; omega
set_option maxHeartbeats 8000000 in
set_option maxRecDepth 100000 in
theorem zix (q : Pat) (hg : vT q.P) (b : Bool) (s : ByteArray) (e : Int) (ok : OkS s e) (w : World) :
  Calls Tryz.prog 39 #[.agg q.cs, .agg #[.bool b, .string s, .int .i64 e]] w fun e' w' => e' = .returned (.agg #[.bool b, .string (zbs q.P (vB s) e).1, .string (zbs q.P (vB s) e).2.1, .int .i64 (zbs q.P (vB s) e).2.2]) ∧ Below w.heap.size w w' := by
 have HB := K_ (Below.refl w.heap.size w)
 have HOK := K_ ok
 have HGD := K_ hg
 have HT := K_ (zjI (b := b) ok.ok)
 have HZ := K_ (zjx (b := b) ok.ok)
 have ht := zfb ok
 have hwb := zbF hg
 have hxi := And.intro hg.xi0 hg.xi4
 have hsb := zgq hg
 obtain ⟨tp, htp⟩ : ∃ tp, tp = jW (vB s) e := ⟨_, rfl⟩
 obtain ⟨wh, hwh⟩ : ∃ wh, wh = jX q.P := ⟨_, rfl⟩
 obtain ⟨x0, hx0⟩ : ∃ x0, x0 = zcY q.P (vB s) e := ⟨_, rfl⟩
 obtain ⟨nn, hnn⟩ : ∃ nn, nn = zel q.P (vB s) e := ⟨_, rfl⟩
 obtain ⟨xx, hxx⟩ : ∃ xx, xx = zcI q.P (vB s) e := ⟨_, rfl⟩
 obtain ⟨sg, hsg⟩ : ∃ sg, sg = (xD q.P).1 := ⟨_, rfl⟩
 obtain ⟨fn, hfn⟩ : ∃ fn, fn = zcA (vB s) e xx := ⟨_, rfl⟩
 obtain ⟨blw, hbb⟩ : ∃ blw, blw = zjz q.P (vB s) e := ⟨_, rfl⟩
 have HRES := K_ (show Ending.returned (Value.agg #[.bool b, .string (yE (vB s) e (xx + nn - 1) xx : ByteArray), .string (yE (vB s) e (xx - 1) (xx - blw) : ByteArray), .int .i64 (xx)]) = .returned (.agg #[.bool b, .string (zbs q.P (vB s) e).1, .string (zbs q.P (vB s) e).2.1, .int .i64 (zbs q.P (vB s) e).2.2]) by rw [hnn, hbb, hxx]; rfl)
 have hxe : xx = if vB s = 0 then 0 else x0 := by rw [hxx, hx0]; rfl
 have hbe : blw = max (sg - nn) fn := by rw [hbb, hsg, hnn, hfn, hxx]; rfl
 have hne : (xH q.P = true ∧ 1 < q.P.xi ∧ x0 = tp - tp % q.P.xi ∧ nn = tp - x0 + 1) ∨ (xH q.P = false ∧ x0 = tp - wh + 1 ∧ nn = wh) := by
  cases hE : xH q.P
  ·exact .inr ⟨rfl, by rw [hx0, htp, hwh]; unfold zcY; rw [hE]; rfl, by rw [hnn, hwh]; unfold zel; rw [hE]; rfl⟩
  refine .inl ⟨rfl, zjf hE, ?_, ?_⟩
  ·rw [hx0, htp]; unfold zcY; rw [hE]; rfl
  rw [hnn, hx0, htp]; unfold zel zcY; rw [hE]; rfl
 rw [← hwh] at hwb
 rw [← htp] at HT ht
 have hx0b : -20000 ≤ x0 ∧ x0 ≤ 30000 ∧ 0 ≤ nn ∧ nn ≤ 100 := by
  rcases hne with ⟨_, h2, h3, h4⟩ | ⟨_, h3, h4⟩
  ·have m1 := Int.emod_nonneg tp (show q.P.xi ≠ 0 by omega)
   have m2 := Int.emod_lt_of_pos tp (show 0 < q.P.xi by omega)
   omega
  omega
 have hxxb : -20000 ≤ xx ∧ xx ≤ 30000 := by rw [hxe]; split <;> omega
 have hf := zdX (p := xx) ok (by omega) (by omega)
 rw [← hfn] at hf
 rw [← hsg] at hsb
 have hbb0 : 0 ≤ blw ∧ blw ≤ 120000 := by rw [hbe]; omega
 have HF := K_ (zmW (b := b) (p := xx) ok (by omega) (by omega))
 rw [← hfn] at HF
 have HNE := K_ hne
 have HXE := K_ hxe
 have HBE2 := K_ hbe
 have HWH := K_ hwh
 have HSG := K_ hsg
 have hw1 : wrap64 (wrap64 (tp - wh) + 1) = tp - wh + 1 := by rw [w64 (x := tp - wh) (by omega) (by omega), w64 (by omega) (by omega)]
 have HW1 := K_ (show wrap64 (wrap64 (xx + nn) - 1) = xx + nn - 1 by rw [w64 (x := xx + nn) (by omega) (by omega), w64 (by omega) (by omega)])
 have HW2 := K_ (show wrap64 (xx - 1) = xx - 1 by rw [w64 (by omega) (by omega)])
 have HW3 := K_ (show wrap64 (xx - blw) = xx - blw by rw [w64 (by omega) (by omega)])
 clear hg ok hne hxe hbe hwh hsg htp hx0 hnn hxx hfn hbb
 go_enter Tryz.func39, Tryz.ntmps39
 go_upto_region 1 with (first | ((with_reducible refine zF (N := 2) rfl ?_); refine bx_ 2 (q.cs) 26 ?_ rfl rfl rfl rfl rfl; intro g2 hg w2 hbox hb; have BK2 := K_ hbox; have GE2 := ge_ hg HB; replace HB := zE HB hb; clear hb hbox hg) | ((with_reducible refine zF (N := 3) rfl ?_); refine bx_ 3 (#[.bool b, .string s, .int .i64 e]) 23 ?_ rfl rfl rfl rfl rfl; intro g3 hg w2 hbox hb; have BK3 := K_ hbox; have GE3 := ge_ hg HB; have NB2_3 := nb_ hg BK2; replace BK2 := zC BK2 hb; replace HB := zE HB hb; clear hb hbox hg) | ((with_reducible refine zF (N := 4) rfl ?_); refine be_ 4 (#[.bool false, .string (⟨#[]⟩ : ByteArray), .string (⟨#[]⟩ : ByteArray), .int .i64 0]) 36 ?_; intro g4 hg w2 hbox hb; have BK4 := K_ hbox; have GE4 := ge_ hg HB; have NB2_4 := nb_ hg BK2; replace BK2 := zC BK2 hb; have NB3_4 := nb_ hg BK3; replace BK3 := zC BK3 hb; replace HB := zE HB hb; clear hb hbox hg))
 refine yK (n := 6) (S := fun W => W.heap[g2]? = some (.cells q.cs 26 (0, 0)) ∧ W.heap[g3]? = some (.cells #[.bool b, .string s, .int .i64 e] 23 (0, 0))) (ds := []) #[false, false, false, false, false, false] (by kernel_rfl) rfl rfl ⟨BK BK2, BK BK3⟩ (fun hHeld => ?_)
 refine zU (fun W => W.heap[g2]? = some (.cells q.cs 26 (0, 0)) ∧ W.heap[g3]? = some (.cells #[.bool b, .string s, .int .i64 e] 23 (0, 0)) ∧ W.heap[g4]? = some (.cells #[.bool false, .string (⟨#[]⟩ : ByteArray), .string (⟨#[]⟩ : ByteArray), .int .i64 0] 36 (0, 0)) ∧ Below w.heap.size w W) ⟨BK BK2, BK BK3, BK BK4, BL HB⟩ ?_
 clear hHeld
 rintro W ⟨hb2, hb3, hb4, hbw⟩
 replace BK2 := K_ hb2
 replace BK3 := K_ hb3
 replace BK4 := K_ hb4
 replace HB := K_ hbw
 clear hb2 hb3 hb4 hbw
 have hHeld := (show W.heap[g2]? = some (.cells q.cs 26 (0, 0)) ∧ W.heap[g3]? = some (.cells #[.bool b, .string s, .int .i64 e] 23 (0, 0)) from ⟨BK2.out, BK3.out⟩)
 refine tr_ 0 11 (bb 6 1) (q.cs) (fun _ hs => ⟨hs.1⟩) Tryz.underlying26 jL hHeld ?_
 refine tr_ 2 13 (bb 6 5) (#[.bool b, .string s, .int .i64 e]) (fun _ hs => ⟨hs.2⟩) Tryz.underlying23 jM hHeld ?_
 refine on_ 1 (some 12) (bb 6 7) (fun K hK => ?_)
 refine gq_ Tryz.func54 #[.agg q.cs] ?_
 refine (zdF q HGD.out _).mono ?_
 rintro e9 w' ⟨rfl, hb⟩
 refine ⟨_, rfl, ?_⟩
 replace HB := zE HB hb
 replace BK2 := zC BK2 hb
 replace BK3 := zC BK3 hb
 replace BK4 := zC BK4 hb
 clear hb
 clear hHeld
 refine hK.out _ _ ⟨BK2.out, BK3.out⟩ (fun hHeld => ?_)
 clear hK K
 refine no_ (some 12) ?_
 refine on_ 3 (some 14) (bb 6 15) (fun K hK => ?_)
 refine gq_ Tryz.func60 #[.agg #[.bool b, .string s, .int .i64 e]] ?_
 refine (zav.calls b s e tp _ HT.out).mono ?_
 rintro e9 w' ⟨rfl, hb⟩
 refine ⟨_, rfl, ?_⟩
 replace HB := zE HB hb
 replace BK2 := zC BK2 hb
 replace BK3 := zC BK3 hb
 replace BK4 := zC BK4 hb
 clear hb
 clear hHeld
 refine hK.out _ _ ⟨BK2.out, BK3.out⟩ (fun hHeld => ?_)
 clear hK K
 refine no_ (some 14) ?_
 refine pw_ 4 5 (bb 6 31) ?_
 refine pw_ 5 6 (bb 6 63) ?_
 refine yY (by kernel_rfl) ?_
 simp only [← HWH.out]
 have e30 := (show w'.cell? ⟨g3, 0, none⟩ = some (.bool b) from (zA BK3.out 0).trans rfl)
 go_upto_region 3 with (first | ((with_reducible refine zF (N := 7) rfl ?_); refine be_ 7 (#[.bool false, .string (⟨#[]⟩ : ByteArray), .string (⟨#[]⟩ : ByteArray), .int .i64 0]) 36 ?_; intro g7 hg w2 hbox hb; have BK7 := K_ hbox; have GE7 := ge_ hg HB; have NB2_7 := nb_ hg BK2; replace BK2 := zC BK2 hb; have NB3_7 := nb_ hg BK3; replace BK3 := zC BK3 hb; have NB4_7 := nb_ hg BK4; replace BK4 := zC BK4 hb; replace HB := zE HB hb; clear hb hbox hg) | ((with_reducible refine zQ (p := 7) rfl ?_); refine so_ (g := g7) (cs := #[.bool false, .string (⟨#[]⟩ : ByteArray), .string (⟨#[]⟩ : ByteArray), .int .i64 0]) (#[.bool b, .string (⟨#[]⟩ : ByteArray), .string (⟨#[]⟩ : ByteArray), .int .i64 (tp - wh + 1)]) ⟨BK BK7⟩ ?_ rfl rfl rfl rfl rfl xE rfl rfl; intro w9 hbk hfar hbel; replace BK2 := K_ (hfar _ _ (by first | exact NB2_7.out | exact Ne.symm NB7_2.out) (BK BK2)); replace BK3 := K_ (hfar _ _ (by first | exact NB3_7.out | exact Ne.symm NB7_3.out) (BK BK3)); replace BK4 := K_ (hfar _ _ (by first | exact NB4_7.out | exact Ne.symm NB7_4.out) (BK BK4)); replace BK7 := K_ hbk; replace HB := K_ (hbel _ _ GE7.out (BL HB)); clear hbk hfar hbel))
 clear e30
 go_upto_if 23 with (first | ((with_reducible refine zF (N := 22) rfl ?_); refine lo_ (g := g2) (cs := q.cs) _ ⟨BK BK2⟩ ?_ rfl rfl rfl Tryz.underlying26 rfl jL) | (go_at_call 27; refine (zbW q _).mono ?_; rintro e9 w' ⟨rfl, hb⟩; replace HB := zE HB hb; replace BK2 := zC BK2 hb; replace BK3 := zC BK3 hb; replace BK4 := zC BK4 hb; replace BK7 := zC BK7 hb; clear hb))
 go_cut [5] from 23 to 33 (fun v wx => v = .int .i64 nn ∧ wx.heap[g7]? = some (.cells #[.bool b, .string (⟨#[]⟩ : ByteArray), .string (⟨#[]⟩ : ByteArray), .int .i64 (x0)] 36 (0, 0)) ∧ wx.heap[g2]? = some (.cells q.cs 26 (0, 0)) ∧ wx.heap[g3]? = some (.cells #[.bool b, .string s, .int .i64 e] 23 (0, 0)) ∧ wx.heap[g4]? = some (.cells #[.bool false, .string (⟨#[]⟩ : ByteArray), .string (⟨#[]⟩ : ByteArray), .int .i64 0] 36 (0, 0)) ∧ Below w.heap.size w wx)
 case first =>
  rcases HNE.out with ⟨hE, x1, h3, h4⟩ | ⟨hE, h3, h4⟩
  ·rw [hE]
   have e6 := (show w'.cell? ⟨g2, 6, none⟩ = some (.int .i64 q.P.xi) from (zA BK2.out 6).trans rfl)
   have s73 := (show w'.cell? ⟨g7, 3, none⟩ = some (.int .i64 (tp - wh + 1)) from (zA BK7.out 3).trans rfl)
   have f73 := zI BK7.out 3
   have hw5 : wrap64 (wrap64 (tp - x0) + 1) = nn := by rw [h4, w64 (x := tp - x0) (by omega) (by omega), w64 (by omega) (by omega)]
   have HFL := K_ (zoU (t := tp) (k := q.P.xi) (by omega) (by omega) x1 (by omega))
   rw [← h3] at HFL
   have HN4 := K_ h4
   clear hE x1 h3 h4
   go_upto_region 5 with (first | (go_at_call 67; refine (zbw.calls tp q.P.xi x0 _ HFL.out).mono ?_; rintro e9 w' ⟨rfl, ⟨nd, rfl⟩⟩))
   clear e6 s73 f73
   refine zbh (fun wx => wx.heap[g7]? = some (.cells #[.bool b, .string (⟨#[]⟩ : ByteArray), .string (⟨#[]⟩ : ByteArray), .int .i64 (x0)] 36 (0, 0)) ∧ wx.heap[g2]? = some (.cells q.cs 26 (0, 0)) ∧ wx.heap[g3]? = some (.cells #[.bool b, .string s, .int .i64 e] 23 (0, 0)) ∧ wx.heap[g4]? = some (.cells #[.bool false, .string (⟨#[]⟩ : ByteArray), .string (⟨#[]⟩ : ByteArray), .int .i64 0] 36 (0, 0)) ∧ Below w.heap.size w wx) ⟨BP BK7, zO (BK BK2) NB2_7.out _, zO (BK BK3) NB3_7.out _, zO (BK BK4) NB4_7.out _, BL HB⟩ ?_
   rintro W5 ⟨hb7, hb2, hb3, hb4, hbw⟩
   replace BK2 := K_ hb2
   replace BK3 := K_ hb3
   replace BK4 := K_ hb4
   replace BK7 := K_ hb7
   replace HB := K_ hbw
   clear hb2 hb3 hb4 hbw hb7
   have e73 := (show W5.cell? ⟨g7, 3, none⟩ = some (.int .i64 x0) from (zA BK7.out 3).trans rfl)
   go_wp2
   go_meet
   case rel => exact ⟨congrArg (Value.int .i64) HN4.out.symm, BK BK7, BK BK2, BK BK3, BK BK4, BL HB⟩
  rw [hE]
  subst h4
  rw [← h3] at BK7
  clear hE h3
  go_wp2
  go_meet
  case rel => exact ⟨rfl, BK BK7, BK BK2, BK BK3, BK BK4, BL HB⟩
 case rest =>
  obtain ⟨rfl, hb7, hb2, hb3, hb4, hbw⟩ := hcut
  replace BK2 := K_ hb2
  replace BK3 := K_ hb3
  replace BK4 := K_ hb4
  replace BK7 := K_ hb7
  replace HB := K_ hbw
  clear hb2 hb3 hb4 hbw hb7
  go_upto_if 35 with (first | ((with_reducible refine zF (N := 34) rfl ?_); refine lo_ (g := g3) (cs := #[.bool b, .string s, .int .i64 e]) _ ⟨BK BK3⟩ ?_ rfl rfl rfl Tryz.underlying23 rfl jM) | (go_at_call 65; refine (xO.calls b s e (decide (vB s = 0)) _ HZ.out).mono ?_; rintro e9 w' ⟨rfl, hb⟩; replace HB := zE HB hb; replace BK2 := zC BK2 hb; replace BK3 := zC BK3 hb; replace BK4 := zC BK4 hb; replace BK7 := zC BK7 hb; clear hb))
  go_cut [] from 35 to 36 (fun wx => wx.heap[g7]? = some (.cells #[.bool b, .string (⟨#[]⟩ : ByteArray), .string (⟨#[]⟩ : ByteArray), .int .i64 (xx)] 36 (0, 0)) ∧ wx.heap[g2]? = some (.cells q.cs 26 (0, 0)) ∧ wx.heap[g3]? = some (.cells #[.bool b, .string s, .int .i64 e] 23 (0, 0)) ∧ wx.heap[g4]? = some (.cells #[.bool false, .string (⟨#[]⟩ : ByteArray), .string (⟨#[]⟩ : ByteArray), .int .i64 0] 36 (0, 0)) ∧ Below w.heap.size w wx)
  case first =>
   by_cases h0 : vB s = 0
   ·have hX := HXE.out
    rw [if_pos h0] at hX
    subst hX
    rw [decide_eq_true h0]
    have s73 := (show w'.cell? ⟨g7, 3, none⟩ = some (.int .i64 x0) from (zA BK7.out 3).trans rfl)
    have f73 := zI BK7.out 3
    clear h0
    go_wp2
    go_meet
    case rel => exact ⟨BP BK7, zO (BK BK2) NB2_7.out _, zO (BK BK3) NB3_7.out _, zO (BK BK4) NB4_7.out _, BL HB⟩
   have hX := HXE.out
   rw [if_neg h0] at hX
   subst hX
   rw [decide_eq_false h0]
   clear h0
   go_wp2
   go_meet
   case rel => exact ⟨BK BK7, BK BK2, BK BK3, BK BK4, BL HB⟩
  case rest =>
   obtain ⟨hb7, hb2, hb3, hb4, hbw⟩ := hcut
   replace BK2 := K_ hb2
   replace BK3 := K_ hb3
   replace BK4 := K_ hb4
   replace BK7 := K_ hb7
   replace HB := K_ hbw
   clear hb2 hb3 hb4 hbw hb7
   go_upto_region 9 with (first | ((with_reducible refine zF (N := 38) rfl ?_); refine lo_ (g := g2) (cs := q.cs) _ ⟨BK BK2⟩ ?_ rfl rfl rfl Tryz.underlying26 rfl jL) | (go_at_call 25; refine (zdQ q HGD.out _).mono ?_; rintro e9 w' ⟨rfl, hb⟩; replace HB := zE HB hb; replace BK2 := zC BK2 hb; replace BK3 := zC BK3 hb; replace BK4 := zC BK4 hb; replace BK7 := zC BK7 hb; clear hb))
   simp only [← HSG.out]
   have e73 := (show w'.cell? ⟨g7, 3, none⟩ = some (.int .i64 xx) from (zA BK7.out 3).trans rfl)
   have hw6 : wrap64 (sg - nn) = sg - nn := w64 (by omega) (by omega)
   have hm1 : (if sg - nn < fn then fn else sg - nn) = blw := by rw [HBE2.out]; split <;> omega
   go_upto_region 10 with (first | ((with_reducible refine zF (N := 45) rfl ?_); refine lo_ (g := g3) (cs := #[.bool b, .string s, .int .i64 e]) _ ⟨BK BK3⟩ ?_ rfl rfl rfl Tryz.underlying23 rfl jM) | (go_at_call 64; refine (zaN.calls b s e xx fn _ HF.out).mono ?_; rintro e9 w' ⟨rfl, hb⟩; replace HB := zE HB hb; replace BK2 := zC BK2 hb; replace BK3 := zC BK3 hb; replace BK4 := zC BK4 hb; replace BK7 := zC BK7 hb; clear hb))
   clear e73
   refine yK (n := 22) (S := fun W => W.heap[g3]? = some (.cells #[.bool b, .string s, .int .i64 e] 23 (0, 0)) ∧ W.cell? ⟨g7, 3, none⟩ = some (.int .i64 xx)) (ds := []) #[false, false, false, false, false, false, false, false, false, false, false, false, false, false, false, false, false, false, false, false, false, false] (by kernel_rfl) rfl rfl ⟨BK BK3, (zA (BK BK7) 3).trans rfl⟩ (fun hHeld => ?_)
   refine zU (fun W => W.heap[g3]? = some (.cells #[.bool b, .string s, .int .i64 e] 23 (0, 0)) ∧ W.heap[g4]? = some (.cells #[.bool false, .string (⟨#[]⟩ : ByteArray), .string (⟨#[]⟩ : ByteArray), .int .i64 0] 36 (0, 0)) ∧ W.heap[g7]? = some (.cells #[.bool b, .string (⟨#[]⟩ : ByteArray), .string (⟨#[]⟩ : ByteArray), .int .i64 (xx)] 36 (0, 0)) ∧ Below w.heap.size w W) ⟨BK BK3, BK BK4, BK BK7, BL HB⟩ ?_
   clear hHeld BK2 BK3 BK4 BK7 HB
   rintro W ⟨hb3, hb4, hb7, hbw⟩
   have BK3 := K_ hb3
   have BK4 := K_ hb4
   have BK7 := K_ hb7
   have HB := K_ hbw
   clear hb3 hb4 hb7 hbw
   have hHeld := (show W.heap[g3]? = some (.cells #[.bool b, .string s, .int .i64 e] 23 (0, 0)) ∧ W.cell? ⟨g7, 3, none⟩ = some (.int .i64 xx) from ⟨BK3.out, (zA BK7.out 3).trans rfl⟩)
   refine tr_ 0 50 (bb 22 1) (#[.bool b, .string s, .int .i64 e]) (fun _ hs => ⟨hs.1⟩) Tryz.underlying23 jM hHeld ?_
   refine pw_ 1 51 (bb 22 3) ?_
   refine tw_ 2 52 (bb 22 7) hHeld ?_
   refine pw_ 3 53 (bb 22 15) ?_
   refine pw_ 4 54 (bb 22 31) ?_
   refine pw_ 5 55 (bb 22 63) ?_
   refine pw_ 6 56 (bb 22 127) ?_
   refine tw_ 7 57 (bb 22 255) hHeld ?_
   refine tr_ 9 59 (bb 22 767) (#[.bool b, .string s, .int .i64 e]) (fun _ hs => ⟨hs.1⟩) Tryz.underlying23 jM hHeld ?_
   refine pw_ 10 60 (bb 22 1791) ?_
   refine tw_ 11 61 (bb 22 3839) hHeld ?_
   refine pw_ 12 62 (bb 22 7935) ?_
   refine pw_ 13 63 (bb 22 16127) ?_
   refine tw_ 14 64 (bb 22 32511) hHeld ?_
   refine pw_ 15 65 (bb 22 65279) ?_
   refine pw_ 16 66 (bb 22 130815) ?_
   refine on_ 8 (some 58) (bb 22 131071) (fun K hK => ?_)
   refine gq_ Tryz.func66 #[.agg #[.bool b, .string s, .int .i64 e], .int .i64 (wrap64 (wrap64 (xx + nn) - 1)), .int .i64 xx] ?_
   refine (xS b s e HOK.out.ok (xx + nn - 1) xx (by omega) (by omega) (by omega) (by omega) HW1.out rfl _).mono ?_
   rintro e9 w' ⟨rfl, hb⟩
   refine ⟨_, rfl, ?_⟩
   replace HB := zE HB hb
   replace BK3 := zC BK3 hb
   replace BK4 := zC BK4 hb
   replace BK7 := zC BK7 hb
   clear hb
   clear hHeld
   refine hK.out _ _ ⟨BK3.out, (zA BK7.out 3).trans rfl⟩ (fun hHeld => ?_)
   clear hK K
   refine no_ (some 58) ?_
   refine pw_ 18 68 (bb 22 393215) ?_
   refine on_ 17 (some 67) (bb 22 524287) (fun K hK => ?_)
   refine gq_ Tryz.func66 #[.agg #[.bool b, .string s, .int .i64 e], .int .i64 (wrap64 (xx - 1)), .int .i64 (wrap64 (xx - blw))] ?_
   refine (xS b s e HOK.out.ok (xx - 1) (xx - blw) (by omega) (by omega) (by omega) (by omega) HW2.out HW3.out _).mono ?_
   rintro e9 w' ⟨rfl, hb⟩
   refine ⟨_, rfl, ?_⟩
   replace HB := zE HB hb
   replace BK3 := zC BK3 hb
   replace BK4 := zC BK4 hb
   replace BK7 := zC BK7 hb
   clear hb
   clear hHeld
   refine hK.out _ _ ⟨BK3.out, (zA BK7.out 3).trans rfl⟩ (fun hHeld => ?_)
   clear hK K
   refine no_ (some 67) ?_
   refine on_ 19 none (bb 22 1048575) (fun K hK => ?_)
   have hs : w'.cell? ⟨g7, 1, none⟩ = some (.string ⟨#[]⟩) := (zA BK7.out 1).trans rfl
   have hf := zI BK7.out 1
   refine zaM (w1 := w'.setCell ⟨g7, 1, none⟩ (.string (yE (vB s) e (xx + nn - 1) xx))) (by rfl) rfl (by go_simp; try rfl) ?_
   replace BK3 := K_ (zO (p := ⟨g7, 1, none⟩) BK3.out NB3_7.out (.string (yE (vB s) e (xx + nn - 1) xx)))
   replace BK4 := K_ (zO (p := ⟨g7, 1, none⟩) BK4.out NB4_7.out (.string (yE (vB s) e (xx + nn - 1) xx)))
   replace HB := K_ (xU HB.out GE7.out (j := 1) (v := .string (yE (vB s) e (xx + nn - 1) xx)))
   replace BK7 := K_ (qP BK7.out (i := 1) (u := .string (yE (vB s) e (xx + nn - 1) xx)) (cs' := #[.bool b, .string (yE (vB s) e (xx + nn - 1) xx : ByteArray), .string (⟨#[]⟩ : ByteArray), .int .i64 (xx)]) rfl)
   refine hK.out _ _ ⟨BK3.out, (zA BK7.out 3).trans rfl⟩ (fun hHeld => ?_)
   clear hK K hs hf hHeld
   refine zU (fun W => W.heap[g3]? = some (.cells #[.bool b, .string s, .int .i64 e] 23 (0, 0)) ∧ W.heap[g4]? = some (.cells #[.bool false, .string (⟨#[]⟩ : ByteArray), .string (⟨#[]⟩ : ByteArray), .int .i64 0] 36 (0, 0)) ∧ W.heap[g7]? = some (.cells #[.bool b, .string (yE (vB s) e (xx + nn - 1) xx : ByteArray), .string (⟨#[]⟩ : ByteArray), .int .i64 (xx)] 36 (0, 0)) ∧ Below w.heap.size w W) ⟨BK3.out, BK4.out, BK7.out, HB.out⟩ ?_
   clear BK3 BK4 BK7 HB
   rintro W ⟨hb3, hb4, hb7, hbw⟩
   have BK3 := K_ hb3
   have BK4 := K_ hb4
   have BK7 := K_ hb7
   have HB := K_ hbw
   clear hb3 hb4 hb7 hbw
   have hHeld := (show W.heap[g3]? = some (.cells #[.bool b, .string s, .int .i64 e] 23 (0, 0)) ∧ W.cell? ⟨g7, 3, none⟩ = some (.int .i64 xx) from ⟨BK3.out, (zA BK7.out 3).trans rfl⟩)
   refine pw_ 20 69 (bb 22 2097151) ?_
   refine on_ 21 none (bb 22 4194303) (fun K hK => ?_)
   have hs : W.cell? ⟨g7, 2, none⟩ = some (.string ⟨#[]⟩) := (zA BK7.out 2).trans rfl
   have hf := zI BK7.out 2
   refine zaM (w1 := W.setCell ⟨g7, 2, none⟩ (.string (yE (vB s) e (xx - 1) (xx - blw)))) (by rfl) rfl (by go_simp; try rfl) ?_
   replace BK3 := K_ (zO (p := ⟨g7, 2, none⟩) BK3.out NB3_7.out (.string (yE (vB s) e (xx - 1) (xx - blw))))
   replace BK4 := K_ (zO (p := ⟨g7, 2, none⟩) BK4.out NB4_7.out (.string (yE (vB s) e (xx - 1) (xx - blw))))
   replace HB := K_ (xU HB.out GE7.out (j := 2) (v := .string (yE (vB s) e (xx - 1) (xx - blw))))
   replace BK7 := K_ (qP BK7.out (i := 2) (u := .string (yE (vB s) e (xx - 1) (xx - blw))) (cs' := #[.bool b, .string (yE (vB s) e (xx + nn - 1) xx : ByteArray), .string (yE (vB s) e (xx - 1) (xx - blw) : ByteArray), .int .i64 (xx)]) rfl)
   refine hK.out _ _ ⟨BK3.out, (zA BK7.out 3).trans rfl⟩ (fun hHeld => ?_)
   clear hK K hs hf hHeld
   refine zU (fun W => W.heap[g3]? = some (.cells #[.bool b, .string s, .int .i64 e] 23 (0, 0)) ∧ W.heap[g4]? = some (.cells #[.bool false, .string (⟨#[]⟩ : ByteArray), .string (⟨#[]⟩ : ByteArray), .int .i64 0] 36 (0, 0)) ∧ W.heap[g7]? = some (.cells #[.bool b, .string (yE (vB s) e (xx + nn - 1) xx : ByteArray), .string (yE (vB s) e (xx - 1) (xx - blw) : ByteArray), .int .i64 (xx)] 36 (0, 0)) ∧ Below w.heap.size w W) ⟨BK3.out, BK4.out, BK7.out, HB.out⟩ ?_
   clear BK3 BK4 BK7 HB
   rintro W ⟨hb3, hb4, hb7, hbw⟩
   have BK3 := K_ hb3
   have BK4 := K_ hb4
   have BK7 := K_ hb7
   have HB := K_ hbw
   clear hb3 hb4 hb7 hbw
   have hHeld := (show W.heap[g3]? = some (.cells #[.bool b, .string s, .int .i64 e] 23 (0, 0)) ∧ W.cell? ⟨g7, 3, none⟩ = some (.int .i64 xx) from ⟨BK3.out, (zA BK7.out 3).trans rfl⟩)
   refine yY (by kernel_rfl) ?_
   go_wp2_with (first | ((with_reducible refine zF (N := 70) rfl ?_); refine lo_ (g := g7) (cs := #[.bool b, .string (yE (vB s) e (xx + nn - 1) xx : ByteArray), .string (yE (vB s) e (xx - 1) (xx - blw) : ByteArray), .int .i64 (xx)]) _ ⟨BK BK7⟩ ?_ rfl rfl rfl Tryz.underlying36 rfl xE) | ((with_reducible refine zQ (p := 4) rfl ?_); refine so_ (g := g4) (cs := #[.bool false, .string (⟨#[]⟩ : ByteArray), .string (⟨#[]⟩ : ByteArray), .int .i64 0]) (#[.bool b, .string (yE (vB s) e (xx + nn - 1) xx : ByteArray), .string (yE (vB s) e (xx - 1) (xx - blw) : ByteArray), .int .i64 (xx)]) ⟨BK BK4⟩ ?_ rfl rfl rfl rfl rfl xE rfl rfl; intro w9 hbk hfar hbel; replace BK7 := K_ (hfar _ _ (by first | exact NB7_4.out | exact Ne.symm NB4_7.out) (BK BK7)); replace BK4 := K_ hbk; replace HB := K_ (hbel _ _ GE4.out (BL HB)); clear hbk hfar hbel))
   refine bodyPost_ret (results_cell_row rfl _ _ g4 36 (#[.bool b, .string (yE (vB s) e (xx + nn - 1) xx : ByteArray), .string (yE (vB s) e (xx - 1) (xx - blw) : ByteArray), .int .i64 (xx)]) (0, 0) _ rfl BK4.out Tryz.underlying36 rfl xE) rfl ?_
   exact ⟨HRES.out, BL HB⟩
theorem zcD (n : Nat) (e hi lo : Int) : (yE n e hi lo).size = (hi - lo + 1).toNat := by
 show (zaP n e hi (hi - lo + 1).toNat).toArray.size = _
 rw [List.size_toArray, zet]
theorem ziH {P : jT} (hg : vT P) {s : ByteArray} {e : Int} (ok : OkS s e) : (zab P (vB s) e).1.size ≤ 200000 ∧ (zab P (vB s) e).2.1.size ≤ 200000 := by
 have ht := zfb ok
 have hf := zdX (p := 0) ok (by decide) (by decide)
 have := hg.mi0; have := hg.mi4; have := hg.mf0; have := hg.mfx; have := hg.xf4; have := hg.ms0; have := hg.msx; have := hg.xs4
 have h1 : zej P (vB s) e ≤ 30000 := by unfold zej; split <;> split <;> omega
 have h2 : zen P (vB s) e ≤ 120000 := by unfold zen; split <;> omega
 show (yE _ _ _ _).size ≤ _ ∧ (yE _ _ _ _).size ≤ _
 rw [zcD, zcD]; omega
theorem zko {P : jT} (hg : vT P) {s : ByteArray} {e : Int} (ok : OkS s e) : (zbs P (vB s) e).1.size ≤ 200000 ∧ (zbs P (vB s) e).2.1.size ≤ 200000 := by
 have ht := zfb ok
 have hwb := zbF hg
 have hsb := zgq hg
 have := hg.xi4
 have h1 : -20000 ≤ zcY P (vB s) e ∧ zcY P (vB s) e ≤ 30000 ∧ 0 ≤ zel P (vB s) e ∧ zel P (vB s) e ≤ 100 := by
  unfold zcY zel
  cases hE : xH P
  ·rw [if_neg (by decide), if_neg (by decide)]; omega
  have h1 := zjf hE
  have m1 := Int.emod_nonneg (jW (vB s) e) (show P.xi ≠ 0 by omega)
  have m2 := Int.emod_lt_of_pos (jW (vB s) e) (show 0 < P.xi by omega)
  rw [if_pos rfl, if_pos rfl]; omega
 have h2 : -20000 ≤ zcI P (vB s) e ∧ zcI P (vB s) e ≤ 30000 := by unfold zcI; split <;> omega
 have hf := zdX (p := zcI P (vB s) e) ok (by omega) (by omega)
 have h3 : zjz P (vB s) e ≤ 120000 := by unfold zjz; omega
 show (yE _ _ _ _).size ≤ _ ∧ (yE _ _ _ _).size ≤ _
 rw [zcD, zcD]; omega
set_option maxHeartbeats 8000000 in
set_option maxRecDepth 100000 in
theorem zhS (q : Pat) (hg : vT q.P) (b : Bool) (s : ByteArray) (e : Int) (s1 : ByteArray) (e1 : Int) (hx : vF.f b s e q.mult = some (b, s1, e1)) (ok : OkS s1 e1) (w : World) (hr : zaH q w) :
  Calls Tryz.prog 16 #[.agg q.cs, .agg #[.bool b, .string s, .int .i64 e]] w fun e' w' => e' = .returned (.agg #[.bool b, .string (zae q.P (vB s1) e1).1, .string (zae q.P (vB s1) e1).2.1, .int .i64 (zae q.P (vB s1) e1).2.2]) ∧ Below w.heap.size w w' := by
 have HB := K_ (Below.refl w.heap.size w)
 have HGD := K_ hg
 have HRW := K_ hr
 have HX := K_ hx
 have HOK1 := K_ ok
 clear hg hr hx ok
 go_enter Tryz.func16, Tryz.ntmps16
 go_upto_region 1 with (first | ((with_reducible refine zF (N := 2) rfl ?_); refine bx_ 2 (q.cs) 26 ?_ rfl rfl rfl rfl rfl; intro g2 hg w2 hbox hb; have BK2 := K_ hbox; have GE2 := ge_ hg HB; replace HB := zE HB hb; clear hb hbox hg) | ((with_reducible refine zF (N := 3) rfl ?_); refine bx_ 3 (#[.bool b, .string s, .int .i64 e]) 23 ?_ rfl rfl rfl rfl rfl; intro g3 hg w2 hbox hb; have BK3 := K_ hbox; have GE3 := ge_ hg HB; have NB2_3 := nb_ hg BK2; replace BK2 := zC BK2 hb; replace HB := zE HB hb; clear hb hbox hg) | ((with_reducible refine zF (N := 4) rfl ?_); refine be_ 4 (#[.bool false, .string (⟨#[]⟩ : ByteArray), .string (⟨#[]⟩ : ByteArray), .int .i64 0]) 36 ?_; intro g4 hg w2 hbox hb; have BK4 := K_ hbox; have GE4 := ge_ hg HB; have NB2_4 := nb_ hg BK2; replace BK2 := zC BK2 hb; have NB3_4 := nb_ hg BK3; replace BK3 := zC BK3 hb; replace HB := zE HB hb; clear hb hbox hg))
 refine yK (n := 6) (S := fun W => W.heap[g2]? = some (.cells q.cs 26 (0, 0)) ∧ W.heap[g3]? = some (.cells #[.bool b, .string s, .int .i64 e] 23 (0, 0))) (ds := []) #[false, false, false, false, false, false] (by kernel_rfl) rfl rfl ⟨BK BK2, BK BK3⟩ (fun hHeld => ?_)
 refine zU (fun W => W.heap[g2]? = some (.cells q.cs 26 (0, 0)) ∧ W.heap[g3]? = some (.cells #[.bool b, .string s, .int .i64 e] 23 (0, 0)) ∧ W.heap[g4]? = some (.cells #[.bool false, .string (⟨#[]⟩ : ByteArray), .string (⟨#[]⟩ : ByteArray), .int .i64 0] 36 (0, 0)) ∧ Below w.heap.size w W) ⟨BK BK2, BK BK3, BK BK4, BL HB⟩ ?_
 clear hHeld BK2 BK3 BK4 HB
 rintro W ⟨hb2, hb3, hb4, hbw⟩
 have BK2 := K_ hb2
 have BK3 := K_ hb3
 have BK4 := K_ hb4
 have HB := K_ hbw
 clear hb2 hb3 hb4 hbw
 have hHeld := (show W.heap[g2]? = some (.cells q.cs 26 (0, 0)) ∧ W.heap[g3]? = some (.cells #[.bool b, .string s, .int .i64 e] 23 (0, 0)) from ⟨BK2.out, BK3.out⟩)
 refine tr_ 0 8 (bb 6 1) (#[.bool b, .string s, .int .i64 e]) (fun _ hs => ⟨hs.2⟩) Tryz.underlying23 jM hHeld ?_
 refine tr_ 1 9 (bb 6 3) (q.cs) (fun _ hs => ⟨hs.1⟩) Tryz.underlying26 jL hHeld ?_
 refine xB (σ := Nat) 1 (bb 6 31) (fun g => [(10, .int .i64 q.mult), (11, .agg #[.bool b, .string s1, .int .i64 e1]), (5, .pointer (some ⟨g, 0, none⟩))]) (fun g W => W.heap[g]? = some (.cells (#[.bool false, .string (⟨#[]⟩ : ByteArray), .int .i64 0]) 23 (0, 0)) ∧ g2 ≠ g ∧ g3 ≠ g ∧ g4 ≠ g ∧ w.heap.size ≤ g ∧ W.heap[g2]? = some (.cells q.cs 26 (0, 0)) ∧ W.heap[g3]? = some (.cells #[.bool b, .string s, .int .i64 e] 23 (0, 0)) ∧ W.heap[g4]? = some (.cells #[.bool false, .string (⟨#[]⟩ : ByteArray), .string (⟨#[]⟩ : ByteArray), .int .i64 0] 36 (0, 0)) ∧ Below w.heap.size w W) ?hcj ?hrj
 case hrj =>
  intro hCont
  refine zbD (i := 2) (j := 4) (Ni := some 10) (Nj := some 5) (bb 6 7) (bb 6 19) rfl rfl rfl rfl (by kernel_rfl) (by decide) (by decide) (fun K hK => ?_) (fun K hK => ?_)
  ·skip
   refine gq_ Tryz.func35 #[.agg q.cs] ?_
   refine (zeF q _ (HRW.out.below (BL HB))).mono ?_
   rintro e9 w' ⟨rfl, hb⟩
   refine ⟨_, rfl, ?_⟩
   replace BK2 := zC BK2 hb
   replace BK3 := zC BK3 hb
   replace BK4 := zC BK4 hb
   replace HB := zE HB hb
   clear hb hHeld
   refine hK.out _ _ ⟨BK2.out, BK3.out⟩ (fun hHeld => ?_)
   clear hK K
   refine no_ (some 10) ?_
   refine zbD (i := 3) (j := 4) (Ni := some 11) (Nj := some 5) (bb 6 15) (bb 6 23) rfl rfl rfl rfl (by kernel_rfl) (by decide) (by decide) (fun K hK => ?_) (fun K hK => ?_)
   ·skip
    refine gq_ Tryz.func37 #[.agg #[.bool b, .string s, .int .i64 e], .int .i64 q.mult] ?_
    refine (vF.calls b s e q.mult b s1 e1 _ HX.out).mono ?_
    rintro e9 w' ⟨rfl, hb⟩
    refine ⟨_, rfl, ?_⟩
    replace BK2 := zC BK2 hb
    replace BK3 := zC BK3 hb
    replace BK4 := zC BK4 hb
    replace HB := zE HB hb
    clear hb hHeld
    refine hK.out _ _ ⟨BK2.out, BK3.out⟩ (fun hHeld => ?_)
    clear hK K
    refine no_ (some 11) ?_
    refine on_ 4 (some 5) (bb 6 31) (fun K hK => ?_)
    refine bs_ 5 (#[.bool false, .string (⟨#[]⟩ : ByteArray), .int .i64 0]) 23 ?_
    intro g5 hg w' hbox hb
    have BK5 := K_ hbox
    have GE5 := ge_ hg HB
    have NB2_5 := nb_ hg BK2
    have NB3_5 := nb_ hg BK3
    have NB4_5 := nb_ hg BK4
    replace BK2 := zC BK2 hb
    replace BK3 := zC BK3 hb
    replace BK4 := zC BK4 hb
    replace HB := zE HB hb
    clear hb hbox hg hHeld
    refine hK.out _ _ ⟨BK2.out, BK3.out⟩ (fun hHeld => ?_)
    clear hK K
    refine no_ (some 5) ?_
    exact nj_ (hCont g5 _ ⟨BK5.out, NB2_5.out, NB3_5.out, NB4_5.out, GE5.out, BK2.out, BK3.out, BK4.out, HB.out⟩)
   skip
   refine bs_ 5 (#[.bool false, .string (⟨#[]⟩ : ByteArray), .int .i64 0]) 23 ?_
   intro g5 hg w' hbox hb
   have BK5 := K_ hbox
   have GE5 := ge_ hg HB
   have NB2_5 := nb_ hg BK2
   have NB3_5 := nb_ hg BK3
   have NB4_5 := nb_ hg BK4
   replace BK2 := zC BK2 hb
   replace BK3 := zC BK3 hb
   replace BK4 := zC BK4 hb
   replace HB := zE HB hb
   clear hb hbox hg hHeld
   refine hK.out _ _ ⟨BK2.out, BK3.out⟩ (fun hHeld => ?_)
   clear hK K
   refine no_ (some 5) ?_
   refine on_ 3 (some 11) (bb 6 31) (fun K hK => ?_)
   refine gq_ Tryz.func37 #[.agg #[.bool b, .string s, .int .i64 e], .int .i64 q.mult] ?_
   refine (vF.calls b s e q.mult b s1 e1 _ HX.out).mono ?_
   rintro e9 w' ⟨rfl, hb⟩
   refine ⟨_, rfl, ?_⟩
   replace BK2 := zC BK2 hb
   replace BK3 := zC BK3 hb
   replace BK4 := zC BK4 hb
   replace BK5 := zC BK5 hb
   replace HB := zE HB hb
   clear hb hHeld
   refine hK.out _ _ ⟨BK2.out, BK3.out⟩ (fun hHeld => ?_)
   clear hK K
   refine no_ (some 11) ?_
   exact nj_ (hCont g5 _ ⟨BK5.out, NB2_5.out, NB3_5.out, NB4_5.out, GE5.out, BK2.out, BK3.out, BK4.out, HB.out⟩)
  skip
  refine bs_ 5 (#[.bool false, .string (⟨#[]⟩ : ByteArray), .int .i64 0]) 23 ?_
  intro g5 hg w' hbox hb
  have BK5 := K_ hbox
  have GE5 := ge_ hg HB
  have NB2_5 := nb_ hg BK2
  have NB3_5 := nb_ hg BK3
  have NB4_5 := nb_ hg BK4
  replace BK2 := zC BK2 hb
  replace BK3 := zC BK3 hb
  replace BK4 := zC BK4 hb
  replace HB := zE HB hb
  clear hb hbox hg hHeld
  refine hK.out _ _ ⟨BK2.out, BK3.out⟩ (fun hHeld => ?_)
  clear hK K
  refine no_ (some 5) ?_
  refine on_ 2 (some 10) (bb 6 23) (fun K hK => ?_)
  refine gq_ Tryz.func35 #[.agg q.cs] ?_
  refine (zeF q _ (HRW.out.below (BL HB))).mono ?_
  rintro e9 w' ⟨rfl, hb⟩
  refine ⟨_, rfl, ?_⟩
  replace BK2 := zC BK2 hb
  replace BK3 := zC BK3 hb
  replace BK4 := zC BK4 hb
  replace BK5 := zC BK5 hb
  replace HB := zE HB hb
  clear hb hHeld
  refine hK.out _ _ ⟨BK2.out, BK3.out⟩ (fun hHeld => ?_)
  clear hK K
  refine no_ (some 10) ?_
  refine on_ 3 (some 11) (bb 6 31) (fun K hK => ?_)
  refine gq_ Tryz.func37 #[.agg #[.bool b, .string s, .int .i64 e], .int .i64 q.mult] ?_
  refine (vF.calls b s e q.mult b s1 e1 _ HX.out).mono ?_
  rintro e9 w' ⟨rfl, hb⟩
  refine ⟨_, rfl, ?_⟩
  replace BK2 := zC BK2 hb
  replace BK3 := zC BK3 hb
  replace BK4 := zC BK4 hb
  replace BK5 := zC BK5 hb
  replace HB := zE HB hb
  clear hb hHeld
  refine hK.out _ _ ⟨BK2.out, BK3.out⟩ (fun hHeld => ?_)
  clear hK K
  refine no_ (some 11) ?_
  exact nj_ (hCont g5 _ ⟨BK5.out, NB2_5.out, NB3_5.out, NB4_5.out, GE5.out, BK2.out, BK3.out, BK4.out, HB.out⟩)
 case hcj =>
  rintro g5 W8 ⟨hba, hn2, hn3, hn4, hge, hb2, hb3, hb4, hbw⟩
  have BK2 := K_ hb2
  have BK3 := K_ hb3
  have BK4 := K_ hb4
  have HB := K_ hbw
  have BK5 := K_ hba
  have GE5 := K_ hge
  have NB2_5 := K_ hn2
  have NB3_5 := K_ hn3
  have NB4_5 := K_ hn4
  clear hba hge hbw hHeld hb2 hn2 hb3 hn3 hb4 hn4
  refine np_ ?_
  refine on_ 5 none (bb 6 63) (fun K hK => ?_)
  refine yP (g := g5) (cs := #[.bool false, .string (⟨#[]⟩ : ByteArray), .int .i64 0]) (#[.bool b, .string s1, .int .i64 e1]) BK5 ?_ rfl rfl rfl rfl rfl jM rfl rfl
  intro w9 hbk hfar hbel
  replace BK2 := K_ (hfar _ _ NB2_5.out BK2.out)
  replace BK3 := K_ (hfar _ _ NB3_5.out BK3.out)
  replace BK4 := K_ (hfar _ _ NB4_5.out BK4.out)
  replace BK5 := K_ hbk
  replace HB := K_ (hbel _ _ GE5.out HB.out)
  refine hK.out _ _ ⟨BK2.out, BK3.out⟩ (fun _ => ?_)
  clear hK K hbk hfar hbel
  refine yY (by kernel_rfl) ?_
  have e14 := (show w9.cell? ⟨g2, 14, none⟩ = some (.bool q.P.sci) from (zA BK2.out 14).trans rfl)
  cases hsci : q.P.sci
  ·rw [hsci] at e14
   obtain ⟨A, B, C, hrr⟩ : ∃ (A B : ByteArray) (C : Int), (A, B, C) = zab q.P (vB s1) e1 := ⟨_, _, _, rfl⟩
   have hA : A = (zab q.P (vB s1) e1).1 := by rw [← hrr]
   have hB' : B = (zab q.P (vB s1) e1).2.1 := by rw [← hrr]
   have hC : C = (zab q.P (vB s1) e1).2.2 := by rw [← hrr]
   have HRR := K_ (show Ending.returned (Value.agg #[.bool b, .string A, .string B, .int .i64 C]) = .returned (.agg #[.bool b, .string (zab q.P (vB s1) e1).1, .string (zab q.P (vB s1) e1).2.1, .int .i64 (zab q.P (vB s1) e1).2.2]) by rw [hA, hB', hC])
   have hsz : A.size ≤ 200000 ∧ B.size ≤ 200000 := by rw [hA, hB']; exact ziH HGD.out HOK1.out
   have hbig : ¬ 9223372036854775807 < A.size + B.size := by omega
   have HRES := K_ (show zae q.P (vB s1) e1 = zfH (A, B, C) by unfold zae; rw [hsci, hrr]; rfl)
   clear hA hB' hC hrr hsz hsci
   go_upto_region 6 with (first | ((with_reducible refine zF (N := 15) rfl ?_); refine lo_ (g := g2) (cs := q.cs) _ ⟨BK BK2⟩ ?_ rfl rfl rfl Tryz.underlying26 rfl jL) | ((with_reducible refine zF (N := 16) rfl ?_); refine lo_ (g := g5) (cs := #[.bool b, .string s1, .int .i64 e1]) _ ⟨BK BK5⟩ ?_ rfl rfl rfl Tryz.underlying23 rfl jM) | (go_at_call 38; refine (zit q HGD.out b s1 e1 HOK1.out _).mono ?_; rintro e9 w' ⟨he9, hb⟩; rw [← HRR.out] at he9; subst he9; replace HB := zE HB hb; replace BK4 := zC BK4 hb; clear hb) | ((with_reducible refine zF (N := 7) rfl ?_); refine be_ 7 (#[.bool false, .string (⟨#[]⟩ : ByteArray), .string (⟨#[]⟩ : ByteArray), .int .i64 0]) 36 ?_; intro g7 hg w2 hbox hb; have BK7 := K_ hbox; have GE7 := ge_ hg HB; have NB4_7 := nb_ hg BK4; replace BK4 := zC BK4 hb; replace HB := zE HB hb; clear hb hbox hg) | ((with_reducible refine zQ (p := 7) rfl ?_); refine so_ (g := g7) (cs := #[.bool false, .string (⟨#[]⟩ : ByteArray), .string (⟨#[]⟩ : ByteArray), .int .i64 0]) (#[.bool b, .string A, .string B, .int .i64 C]) ⟨BK BK7⟩ ?_ rfl rfl rfl rfl rfl xE rfl rfl; intro w9 hbk hfar hbel; replace BK4 := K_ (hfar _ _ (by first | exact NB4_7.out | exact Ne.symm NB7_4.out) (BK BK4)); replace BK7 := K_ hbk; replace HB := K_ (hbel _ _ GE7.out (BL HB)); clear hbk hfar hbel))
   have e71 := (show w9.cell? ⟨g7, 1, none⟩ = some (.string A) from (zA BK7.out 1).trans rfl)
   have e72 := (show w9.cell? ⟨g7, 2, none⟩ = some (.string B) from (zA BK7.out 2).trans rfl)
   have f71 := zI BK7.out 1
   by_cases hem : A ++ B = (⟨#[]⟩ : ByteArray)
   ·have hie : (A ++ B).toList.isEmpty = true := by rw [hem, ByteArray.toList_eq]; rfl
    have HRE := K_ (show Ending.returned (Value.agg #[.bool b, .string (⟨#[48]⟩ : ByteArray), .string B, .int .i64 C]) = .returned (.agg #[.bool b, .string (zae q.P (vB s1) e1).1, .string (zae q.P (vB s1) e1).2.1, .int .i64 (zae q.P (vB s1) e1).2.2]) by rw [HRES.out]; unfold zfH; rw [if_pos hem])
    clear hem HRES
    go_upto_region 8 with (fail)
    refine zbh (fun wx => wx.heap[g7]? = some (.cells #[.bool b, .string (⟨#[48]⟩ : ByteArray), .string B, .int .i64 C] 36 (0, 0)) ∧ wx.heap[g4]? = some (.cells #[.bool false, .string (⟨#[]⟩ : ByteArray), .string (⟨#[]⟩ : ByteArray), .int .i64 0] 36 (0, 0)) ∧ Below w.heap.size w wx) ⟨BP BK7, zO (BK BK4) NB4_7.out _, BL HB⟩ ?_
    clear e71 e72 f71 BK7 BK4 HB
    rintro W5 ⟨hb7, hb4, hbw⟩
    have BK7 := K_ hb7
    have BK4 := K_ hb4
    have HB := K_ hbw
    clear hb7 hb4 hbw
    go_wp2_with (first | ((with_reducible refine zF (N := 25) rfl ?_); refine lo_ (g := g7) (cs := #[.bool b, .string (⟨#[48]⟩ : ByteArray), .string B, .int .i64 C]) _ ⟨BK BK7⟩ ?_ rfl rfl rfl Tryz.underlying36 rfl xE) | ((with_reducible refine zQ (p := 4) rfl ?_); refine so_ (g := g4) (cs := #[.bool false, .string (⟨#[]⟩ : ByteArray), .string (⟨#[]⟩ : ByteArray), .int .i64 0]) (#[.bool b, .string (⟨#[48]⟩ : ByteArray), .string B, .int .i64 C]) ⟨BK BK4⟩ ?_ rfl rfl rfl rfl rfl xE rfl rfl; intro w9 hbk hfar hbel; replace BK4 := K_ hbk; replace HB := K_ (hbel _ _ GE4.out (BL HB)); clear hbk hfar hbel))
    refine bodyPost_ret (results_cell_row rfl _ _ g4 36 (#[.bool b, .string (⟨#[48]⟩ : ByteArray), .string B, .int .i64 C]) (0, 0) _ rfl BK4.out Tryz.underlying36 rfl xE) rfl ?_
    exact ⟨HRE.out, BL HB⟩
   have hie : (A ++ B).toList.isEmpty = false := by
    cases hh : (A ++ B).toList.isEmpty
    ·rfl
    exact absurd (zau (by rw [← ByteArray.toList_eq, List.isEmpty_iff.1 hh])) hem
   have HRE := K_ (show Ending.returned (Value.agg #[.bool b, .string A, .string B, .int .i64 C]) = .returned (.agg #[.bool b, .string (zae q.P (vB s1) e1).1, .string (zae q.P (vB s1) e1).2.1, .int .i64 (zae q.P (vB s1) e1).2.2]) by rw [HRES.out]; unfold zfH; rw [if_neg hem])
   clear hem HRES
   go_wp2_with (first | ((with_reducible refine zF (N := 25) rfl ?_); refine lo_ (g := g7) (cs := #[.bool b, .string A, .string B, .int .i64 C]) _ ⟨BK BK7⟩ ?_ rfl rfl rfl Tryz.underlying36 rfl xE) | ((with_reducible refine zQ (p := 4) rfl ?_); refine so_ (g := g4) (cs := #[.bool false, .string (⟨#[]⟩ : ByteArray), .string (⟨#[]⟩ : ByteArray), .int .i64 0]) (#[.bool b, .string A, .string B, .int .i64 C]) ⟨BK BK4⟩ ?_ rfl rfl rfl rfl rfl xE rfl rfl; intro w9 hbk hfar hbel; replace BK4 := K_ hbk; replace HB := K_ (hbel _ _ GE4.out (BL HB)); clear hbk hfar hbel))
   refine bodyPost_ret (results_cell_row rfl _ _ g4 36 (#[.bool b, .string A, .string B, .int .i64 C]) (0, 0) _ rfl BK4.out Tryz.underlying36 rfl xE) rfl ?_
   exact ⟨HRE.out, BL HB⟩
  rw [hsci] at e14
  obtain ⟨A, B, C, hrr⟩ : ∃ (A B : ByteArray) (C : Int), (A, B, C) = zbs q.P (vB s1) e1 := ⟨_, _, _, rfl⟩
  have hA : A = (zbs q.P (vB s1) e1).1 := by rw [← hrr]
  have hB' : B = (zbs q.P (vB s1) e1).2.1 := by rw [← hrr]
  have hC : C = (zbs q.P (vB s1) e1).2.2 := by rw [← hrr]
  have HRR := K_ (show Ending.returned (Value.agg #[.bool b, .string A, .string B, .int .i64 C]) = .returned (.agg #[.bool b, .string (zbs q.P (vB s1) e1).1, .string (zbs q.P (vB s1) e1).2.1, .int .i64 (zbs q.P (vB s1) e1).2.2]) by rw [hA, hB', hC])
  have hsz : A.size ≤ 200000 ∧ B.size ≤ 200000 := by rw [hA, hB']; exact zko HGD.out HOK1.out
  have hbig : ¬ 9223372036854775807 < A.size + B.size := by omega
  have HRES := K_ (show zae q.P (vB s1) e1 = zfH (A, B, C) by unfold zae; rw [hsci, hrr]; rfl)
  clear hA hB' hC hrr hsz hsci
  go_upto_region 6 with (first | ((with_reducible refine zF (N := 15) rfl ?_); refine lo_ (g := g2) (cs := q.cs) _ ⟨BK BK2⟩ ?_ rfl rfl rfl Tryz.underlying26 rfl jL) | ((with_reducible refine zF (N := 16) rfl ?_); refine lo_ (g := g5) (cs := #[.bool b, .string s1, .int .i64 e1]) _ ⟨BK BK5⟩ ?_ rfl rfl rfl Tryz.underlying23 rfl jM) | (go_at_call 39; refine (zix q HGD.out b s1 e1 HOK1.out _).mono ?_; rintro e9 w' ⟨he9, hb⟩; rw [← HRR.out] at he9; subst he9; replace HB := zE HB hb; replace BK4 := zC BK4 hb; clear hb) | ((with_reducible refine zF (N := 7) rfl ?_); refine be_ 7 (#[.bool false, .string (⟨#[]⟩ : ByteArray), .string (⟨#[]⟩ : ByteArray), .int .i64 0]) 36 ?_; intro g7 hg w2 hbox hb; have BK7 := K_ hbox; have GE7 := ge_ hg HB; have NB4_7 := nb_ hg BK4; replace BK4 := zC BK4 hb; replace HB := zE HB hb; clear hb hbox hg) | ((with_reducible refine zQ (p := 7) rfl ?_); refine so_ (g := g7) (cs := #[.bool false, .string (⟨#[]⟩ : ByteArray), .string (⟨#[]⟩ : ByteArray), .int .i64 0]) (#[.bool b, .string A, .string B, .int .i64 C]) ⟨BK BK7⟩ ?_ rfl rfl rfl rfl rfl xE rfl rfl; intro w9 hbk hfar hbel; replace BK4 := K_ (hfar _ _ (by first | exact NB4_7.out | exact Ne.symm NB7_4.out) (BK BK4)); replace BK7 := K_ hbk; replace HB := K_ (hbel _ _ GE7.out (BL HB)); clear hbk hfar hbel))
  have e71 := (show w9.cell? ⟨g7, 1, none⟩ = some (.string A) from (zA BK7.out 1).trans rfl)
  have e72 := (show w9.cell? ⟨g7, 2, none⟩ = some (.string B) from (zA BK7.out 2).trans rfl)
  have f71 := zI BK7.out 1
  by_cases hem : A ++ B = (⟨#[]⟩ : ByteArray)
  ·have hie : (A ++ B).toList.isEmpty = true := by rw [hem, ByteArray.toList_eq]; rfl
   have HRE := K_ (show Ending.returned (Value.agg #[.bool b, .string (⟨#[48]⟩ : ByteArray), .string B, .int .i64 C]) = .returned (.agg #[.bool b, .string (zae q.P (vB s1) e1).1, .string (zae q.P (vB s1) e1).2.1, .int .i64 (zae q.P (vB s1) e1).2.2]) by rw [HRES.out]; unfold zfH; rw [if_pos hem])
   clear hem HRES
   go_upto_region 8 with (fail)
   refine zbh (fun wx => wx.heap[g7]? = some (.cells #[.bool b, .string (⟨#[48]⟩ : ByteArray), .string B, .int .i64 C] 36 (0, 0)) ∧ wx.heap[g4]? = some (.cells #[.bool false, .string (⟨#[]⟩ : ByteArray), .string (⟨#[]⟩ : ByteArray), .int .i64 0] 36 (0, 0)) ∧ Below w.heap.size w wx) ⟨BP BK7, zO (BK BK4) NB4_7.out _, BL HB⟩ ?_
   clear e71 e72 f71 BK7 BK4 HB
   rintro W5 ⟨hb7, hb4, hbw⟩
   have BK7 := K_ hb7
   have BK4 := K_ hb4
   have HB := K_ hbw
   clear hb7 hb4 hbw
   go_wp2_with (first | ((with_reducible refine zF (N := 25) rfl ?_); refine lo_ (g := g7) (cs := #[.bool b, .string (⟨#[48]⟩ : ByteArray), .string B, .int .i64 C]) _ ⟨BK BK7⟩ ?_ rfl rfl rfl Tryz.underlying36 rfl xE) | ((with_reducible refine zQ (p := 4) rfl ?_); refine so_ (g := g4) (cs := #[.bool false, .string (⟨#[]⟩ : ByteArray), .string (⟨#[]⟩ : ByteArray), .int .i64 0]) (#[.bool b, .string (⟨#[48]⟩ : ByteArray), .string B, .int .i64 C]) ⟨BK BK4⟩ ?_ rfl rfl rfl rfl rfl xE rfl rfl; intro w9 hbk hfar hbel; replace BK4 := K_ hbk; replace HB := K_ (hbel _ _ GE4.out (BL HB)); clear hbk hfar hbel))
   refine bodyPost_ret (results_cell_row rfl _ _ g4 36 (#[.bool b, .string (⟨#[48]⟩ : ByteArray), .string B, .int .i64 C]) (0, 0) _ rfl BK4.out Tryz.underlying36 rfl xE) rfl ?_
   exact ⟨HRE.out, BL HB⟩
  have hie : (A ++ B).toList.isEmpty = false := by
   cases hh : (A ++ B).toList.isEmpty
   ·rfl
   exact absurd (zau (by rw [← ByteArray.toList_eq, List.isEmpty_iff.1 hh])) hem
  have HRE := K_ (show Ending.returned (Value.agg #[.bool b, .string A, .string B, .int .i64 C]) = .returned (.agg #[.bool b, .string (zae q.P (vB s1) e1).1, .string (zae q.P (vB s1) e1).2.1, .int .i64 (zae q.P (vB s1) e1).2.2]) by rw [HRES.out]; unfold zfH; rw [if_neg hem])
  clear hem HRES
  go_wp2_with (first | ((with_reducible refine zF (N := 25) rfl ?_); refine lo_ (g := g7) (cs := #[.bool b, .string A, .string B, .int .i64 C]) _ ⟨BK BK7⟩ ?_ rfl rfl rfl Tryz.underlying36 rfl xE) | ((with_reducible refine zQ (p := 4) rfl ?_); refine so_ (g := g4) (cs := #[.bool false, .string (⟨#[]⟩ : ByteArray), .string (⟨#[]⟩ : ByteArray), .int .i64 0]) (#[.bool b, .string A, .string B, .int .i64 C]) ⟨BK BK4⟩ ?_ rfl rfl rfl rfl rfl xE rfl rfl; intro w9 hbk hfar hbel; replace BK4 := K_ hbk; replace HB := K_ (hbel _ _ GE4.out (BL HB)); clear hbk hfar hbel))
  refine bodyPost_ret (results_cell_row rfl _ _ g4 36 (#[.bool b, .string A, .string B, .int .i64 C]) (0, 0) _ rfl BK4.out Tryz.underlying36 rfl xE) rfl ?_
  exact ⟨HRE.out, BL HB⟩
theorem yA.drewN {q : Pat} {W : World} {b n : Nat} (h : yA q W b) : yA q (W.drewN n) b := ⟨Kd.R_drewN h.r0 _, Kd.R_drewN h.r1 _, Kd.R_drewN h.r3 _, Kd.R_drewN h.r4 _⟩
theorem yA.drew {q : Pat} {W : World} {b : Nat} (h : yA q W b) : yA q W.drew b := ⟨Kd.R_drew h.r0, Kd.R_drew h.r1, Kd.R_drew h.r3, Kd.R_drew h.r4⟩
set_option maxHeartbeats 8000000 in
set_option maxRecDepth 100000 in
theorem zdp (s : ByteArray) (hs : s.size ≤ 1048576) (b : Bool) (s2 : ByteArray) (e : Int) (hs2 : s2.size ≤ 140737488351232) (w : World) :
  Calls Tryz.prog 12 #[.string s, .agg #[.bool b, .string s2, .int .i64 e]] w fun e' w' => ∃ (q : Pat) (ok : Bool), e' = .returned (.tuple #[.agg q.cs, .bool ok]) ∧ yA q w' w.heap.size ∧ Below w.heap.size w w' ∧ (ok = true → zas q ∧ s2.size ≤ 120) := by
 have HB := K_ (Below.refl w.heap.size w)
 have d12 : decide ((s2.size : Int) ≤ 120) = decide (s2.size ≤ 120) := by rw [decide_eq_decide]; omega
 go_enter Tryz.func12, Tryz.ntmps12
 go_upto_region 2 with (first | ((with_reducible refine zF (N := 3) rfl ?_); refine bx_ 3 (#[.bool b, .string s2, .int .i64 e]) 23 ?_ rfl rfl rfl rfl rfl; intro g3 hg w2 hbox hb; have BK3 := K_ hbox; have GE3 := ge_ hg HB; replace HB := zE HB hb; clear hb hbox hg) | ((with_reducible refine zF (N := 4) rfl ?_); refine be_ 4 (Z26) 26 ?_; intro g4 hg w2 hbox hb; have BK4 := K_ hbox; have GE4 := ge_ hg HB; have NB3_4 := nb_ hg BK3; replace BK3 := zC BK3 hb; replace HB := zE HB hb; clear hb hbox hg) | (go_at_call 31; refine (ziv s hs _).mono ?_; rintro e9 w' ⟨q, E, a, rfl, hrr, hb, hqg, -⟩; have HRR := K_ (hrr.lower (zL (BL HB))); have HQ := K_ hqg; replace HB := zE HB hb; replace BK3 := zC BK3 hb; replace BK4 := zC BK4 hb; clear hb hrr hqg) | ((with_reducible refine zF (N := 6) rfl ?_); refine be_ 6 (Z26) 26 ?_; intro g6 hg w2 hbox hb; have BK6 := K_ hbox; have GE6 := ge_ hg HB; have NB3_6 := nb_ hg BK3; replace BK3 := zC BK3 hb; have NB4_6 := nb_ hg BK4; replace BK4 := zC BK4 hb; replace HRR := K_ (HRR.out.below hb); replace HB := zE HB hb; clear hb hbox hg) | ((with_reducible refine zF (N := 7) rfl ?_); refine be_ 7 (Z51) 51 ?_; intro g7 hg w2 hbox hb; have BK7 := K_ hbox; have GE7 := ge_ hg HB; have NB3_7 := nb_ hg BK3; replace BK3 := zC BK3 hb; have NB4_7 := nb_ hg BK4; replace BK4 := zC BK4 hb; have NB6_7 := nb_ hg BK6; replace BK6 := zC BK6 hb; replace HRR := K_ (HRR.out.below hb); replace HB := zE HB hb; clear hb hbox hg) | ((with_reducible refine zQ (p := 6) rfl ?_); refine so_ (g := g6) (cs := Z26) (q.cs) ⟨BK BK6⟩ ?_ rfl rfl rfl rfl rfl jL rfl rfl; intro w9 hbk hfar hbel; replace BK3 := K_ (hfar _ _ (by first | exact NB3_6.out | exact Ne.symm NB6_3.out) (BK BK3)); replace BK4 := K_ (hfar _ _ (by first | exact NB4_6.out | exact Ne.symm NB6_4.out) (BK BK4)); replace BK7 := K_ (hfar _ _ (by first | exact NB7_6.out | exact Ne.symm NB6_7.out) (BK BK7)); replace HRR := K_ (HRR.out.so (BK BK6) (by decide) hfar); replace BK6 := K_ hbk; replace HB := K_ (hbel _ _ GE6.out (BL HB)); clear hbk hfar hbel) | ((with_reducible refine zQ (p := 7) rfl ?_); refine so_ (g := g7) (cs := Z51) (#[.int .i64 E, .int .i64 a]) ⟨BK BK7⟩ ?_ rfl rfl rfl rfl rfl uH rfl rfl; intro w9 hbk hfar hbel; replace BK3 := K_ (hfar _ _ (by first | exact NB3_7.out | exact Ne.symm NB7_3.out) (BK BK3)); replace BK4 := K_ (hfar _ _ (by first | exact NB4_7.out | exact Ne.symm NB7_4.out) (BK BK4)); replace BK6 := K_ (hfar _ _ (by first | exact NB6_7.out | exact Ne.symm NB7_6.out) (BK BK6)); replace HRR := K_ (HRR.out.so (BK BK7) (by decide) hfar); replace BK7 := K_ hbk; replace HB := K_ (hbel _ _ GE7.out (BL HB)); clear hbk hfar hbel))
 by_cases hE0 : E = 0
 ·have dE : (E == 0) = true := beq_iff_eq.2 hE0
  have hE := K_ hE0
  clear hE0
  by_cases h3 : s.size ≤ 300
  ·have d3 : decide ((s.size : Int) ≤ 300) = true := decide_eq_true (by omega)
   refine yK (n := 17) (S := fun W => W.heap[g6]? = some (.cells q.cs 26 (0, 0)) ∧ W.cell? ⟨g7, 0, none⟩ = some (.int .i64 E) ∧ W.cell? ⟨g3, 1, none⟩ = some (.string s2)) (ds := []) #[false, false, false, false, false, false, false, false, false, false, false, false, false, false, false, false, false] (by kernel_rfl) rfl rfl ⟨BK BK6, (zA (BK BK7) 0).trans rfl, (zA (BK BK3) 1).trans rfl⟩ (fun hHeld => ?_)
   refine zU (fun W => W.heap[g3]? = some (.cells #[.bool b, .string s2, .int .i64 e] 23 (0, 0)) ∧ W.heap[g4]? = some (.cells Z26 26 (0, 0)) ∧ W.heap[g6]? = some (.cells q.cs 26 (0, 0)) ∧ W.heap[g7]? = some (.cells #[.int .i64 E, .int .i64 a] 51 (0, 0)) ∧ yA q W w.heap.size ∧ Below w.heap.size w W) ⟨BK BK3, BK BK4, BK BK6, BK BK7, HRR.out.drew, BL HB⟩ ?_
   clear hHeld BK3 BK4 BK6 BK7 HRR HB
   rintro W ⟨hb3, hb4, hb6, hb7, hrr, hbw⟩
   have BK3 := K_ hb3
   have BK4 := K_ hb4
   have BK6 := K_ hb6
   have BK7 := K_ hb7
   have HRR := K_ hrr
   have HB := K_ hbw
   clear hb3 hb4 hb6 hb7 hrr hbw
   have hHeld := (show W.heap[g6]? = some (.cells q.cs 26 (0, 0)) ∧ W.cell? ⟨g7, 0, none⟩ = some (.int .i64 E) ∧ W.cell? ⟨g3, 1, none⟩ = some (.string s2) from ⟨BK6.out, (zA BK7.out 0).trans rfl, (zA BK3.out 1).trans rfl⟩)
   refine tr_ 0 13 (bb 17 1) (q.cs) (fun _ hs => ⟨hs.1⟩) Tryz.underlying26 jL hHeld ?_
   refine pw_ 1 14 (bb 17 3) ?_
   refine tw_ 2 15 (bb 17 7) hHeld ?_
   refine jU (i := 3) (N := some 16) (v := .bool true) (bb 17 15) rfl rfl (by kernel_rfl) (fun _ _ _ h => h) (Or.inl ⟨by rfl, fun w' => by first | (go_simp; done) | (go_simp; rw [dE]; done) | (go_simp; rw [dE]; rfl) | (go_simp; simp [dE]; done)⟩) (by simp only [Act.put, List.setIfInBounds_toArray, List.set_cons_zero, List.set_cons_succ]; rfl) ?_
   refine pw_ 4 17 (bb 17 31) ?_
   refine pw_ 5 18 (bb 17 63) ?_
   refine pw_ 6 19 (bb 17 127) ?_
   refine jU (i := 7) (N := some 20) (v := .bool true) (bb 17 255) rfl rfl (by kernel_rfl) (fun _ _ _ h => h) (Or.inl ⟨by rfl, fun w' => by first | (go_simp; done) | (go_simp; rw [d3]; done) | (go_simp; rw [d3]; rfl) | (go_simp; simp [d3]; done)⟩) (by simp only [Act.put, List.setIfInBounds_toArray, List.set_cons_zero, List.set_cons_succ]; rfl) ?_
   refine pw_ 8 21 (bb 17 511) ?_
   refine pw_ 9 22 (bb 17 1023) ?_
   refine pw_ 10 23 (bb 17 2047) ?_
   refine tw_ 11 24 (bb 17 4095) hHeld ?_
   refine pw_ 12 25 (bb 17 8191) ?_
   refine jU (i := 13) (N := some 26) (v := .bool (decide (s2.size ≤ 120))) (bb 17 16383) rfl rfl (by kernel_rfl) (fun _ _ _ h => h) (Or.inl ⟨by rfl, fun w' => by first | (go_simp; done) | (go_simp; rw [d12]; done) | (go_simp; rw [d12]; rfl) | (go_simp; simp [d12]; done)⟩) (by simp only [Act.put, List.setIfInBounds_toArray, List.set_cons_zero, List.set_cons_succ]; rfl) ?_
   refine pw_ 14 27 (bb 17 32767) ?_
   refine on_ 15 none (bb 17 65535) (fun K hK => ?_)
   refine yP (g := g4) (cs := Z26) q.cs BK4 ?_ rfl rfl rfl rfl rfl jL rfl rfl
   intro w9 hbk hfar hbel
   have BK4' := K_ hbk
   replace HRR := K_ (HRR.out.so BK4.out (by decide) hfar)
   replace BK3 := K_ (hfar _ _ NB3_4.out BK3.out)
   replace BK6 := K_ (hfar _ _ (Ne.symm NB4_6.out) BK6.out)
   replace BK7 := K_ (hfar _ _ (Ne.symm NB4_7.out) BK7.out)
   replace HB := K_ (hbel _ _ GE4.out HB.out)
   refine hK.out _ _ ⟨BK6.out, (zA BK7.out 0).trans rfl, (zA BK3.out 1).trans rfl⟩ (fun _ => ?_)
   clear hK K hbk hfar hbel
   refine pw_ 16 5 (bb 17 131071) ?_
   refine yY (by kernel_rfl) ?_
   go_wp2_with (fail)
   refine bodyPost_ret (zV rfl _ _ g4 26 q.cs (0, 0) _ rfl BK4'.out Tryz.underlying26 rfl jL) rfl ?_
   exact ⟨q, decide (s2.size ≤ 120), rfl, HRR.out, BL HB, fun h => ⟨HQ.out hE.out, of_decide_eq_true h⟩⟩
  have d3 : decide ((s.size : Int) ≤ 300) = false := decide_eq_false (by omega)
  refine yK (n := 17) (S := fun W => W.heap[g6]? = some (.cells q.cs 26 (0, 0)) ∧ W.cell? ⟨g7, 0, none⟩ = some (.int .i64 E) ∧ W.cell? ⟨g3, 1, none⟩ = some (.string s2)) (ds := []) #[false, false, false, false, false, false, false, false, false, false, false, false, false, false, false, false, false] (by kernel_rfl) rfl rfl ⟨BK BK6, (zA (BK BK7) 0).trans rfl, (zA (BK BK3) 1).trans rfl⟩ (fun hHeld => ?_)
  refine zU (fun W => W.heap[g3]? = some (.cells #[.bool b, .string s2, .int .i64 e] 23 (0, 0)) ∧ W.heap[g4]? = some (.cells Z26 26 (0, 0)) ∧ W.heap[g6]? = some (.cells q.cs 26 (0, 0)) ∧ W.heap[g7]? = some (.cells #[.int .i64 E, .int .i64 a] 51 (0, 0)) ∧ yA q W w.heap.size ∧ Below w.heap.size w W) ⟨BK BK3, BK BK4, BK BK6, BK BK7, HRR.out.drew, BL HB⟩ ?_
  clear hHeld BK3 BK4 BK6 BK7 HRR HB
  rintro W ⟨hb3, hb4, hb6, hb7, hrr, hbw⟩
  have BK3 := K_ hb3
  have BK4 := K_ hb4
  have BK6 := K_ hb6
  have BK7 := K_ hb7
  have HRR := K_ hrr
  have HB := K_ hbw
  clear hb3 hb4 hb6 hb7 hrr hbw
  have hHeld := (show W.heap[g6]? = some (.cells q.cs 26 (0, 0)) ∧ W.cell? ⟨g7, 0, none⟩ = some (.int .i64 E) ∧ W.cell? ⟨g3, 1, none⟩ = some (.string s2) from ⟨BK6.out, (zA BK7.out 0).trans rfl, (zA BK3.out 1).trans rfl⟩)
  refine tr_ 0 13 (bb 17 1) (q.cs) (fun _ hs => ⟨hs.1⟩) Tryz.underlying26 jL hHeld ?_
  refine pw_ 1 14 (bb 17 3) ?_
  refine tw_ 2 15 (bb 17 7) hHeld ?_
  refine jU (i := 3) (N := some 16) (v := .bool true) (bb 17 15) rfl rfl (by kernel_rfl) (fun _ _ _ h => h) (Or.inl ⟨by rfl, fun w' => by first | (go_simp; done) | (go_simp; rw [dE]; done) | (go_simp; rw [dE]; rfl) | (go_simp; simp [dE]; done)⟩) (by simp only [Act.put, List.setIfInBounds_toArray, List.set_cons_zero, List.set_cons_succ]; rfl) ?_
  refine pw_ 4 17 (bb 17 31) ?_
  refine pw_ 5 18 (bb 17 63) ?_
  refine pw_ 6 19 (bb 17 127) ?_
  refine jU (i := 7) (N := some 20) (v := .bool false) (bb 17 255) rfl rfl (by kernel_rfl) (fun _ _ _ h => h) (Or.inl ⟨by rfl, fun w' => by first | (go_simp; done) | (go_simp; rw [d3]; done) | (go_simp; rw [d3]; rfl) | (go_simp; simp [d3]; done)⟩) (by simp only [Act.put, List.setIfInBounds_toArray, List.set_cons_zero, List.set_cons_succ]; rfl) ?_
  refine pw_ 8 21 (bb 17 511) ?_
  refine pw_ 9 22 (bb 17 1023) ?_
  refine jU (i := 10) (N := some 23) (v := undef) (bb 17 2047) rfl rfl (by kernel_rfl) (fun _ _ _ h => h) (Or.inr ⟨by rfl, rfl⟩) (by simp only [Act.put, List.setIfInBounds_toArray, List.set_cons_zero, List.set_cons_succ]; rfl) ?_
  refine jU (i := 11) (N := some 24) (v := undef) (bb 17 4095) rfl rfl (by kernel_rfl) (fun _ _ _ h => h) (Or.inr ⟨by rfl, rfl⟩) (by simp only [Act.put, List.setIfInBounds_toArray, List.set_cons_zero, List.set_cons_succ]; rfl) ?_
  refine jU (i := 12) (N := some 25) (v := undef) (bb 17 8191) rfl rfl (by kernel_rfl) (fun _ _ _ h => h) (Or.inr ⟨by rfl, rfl⟩) (by simp only [Act.put, List.setIfInBounds_toArray, List.set_cons_zero, List.set_cons_succ]; rfl) ?_
  refine jU (i := 13) (N := some 26) (v := undef) (bb 17 16383) rfl rfl (by kernel_rfl) (fun _ _ _ h => h) (Or.inr ⟨by rfl, rfl⟩) (by simp only [Act.put, List.setIfInBounds_toArray, List.set_cons_zero, List.set_cons_succ]; rfl) ?_
  refine pw_ 14 27 (bb 17 32767) ?_
  refine on_ 15 none (bb 17 65535) (fun K hK => ?_)
  refine yP (g := g4) (cs := Z26) q.cs BK4 ?_ rfl rfl rfl rfl rfl jL rfl rfl
  intro w9 hbk hfar hbel
  have BK4' := K_ hbk
  replace HRR := K_ (HRR.out.so BK4.out (by decide) hfar)
  replace BK3 := K_ (hfar _ _ NB3_4.out BK3.out)
  replace BK6 := K_ (hfar _ _ (Ne.symm NB4_6.out) BK6.out)
  replace BK7 := K_ (hfar _ _ (Ne.symm NB4_7.out) BK7.out)
  replace HB := K_ (hbel _ _ GE4.out HB.out)
  refine hK.out _ _ ⟨BK6.out, (zA BK7.out 0).trans rfl, (zA BK3.out 1).trans rfl⟩ (fun _ => ?_)
  clear hK K hbk hfar hbel
  refine pw_ 16 5 (bb 17 131071) ?_
  refine yY (by kernel_rfl) ?_
  go_wp2_with (fail)
  refine bodyPost_ret (zV rfl _ _ g4 26 q.cs (0, 0) _ rfl BK4'.out Tryz.underlying26 rfl jL) rfl ?_
  exact ⟨q, false, rfl, HRR.out, BL HB, fun h => by cases h⟩
 have dE : (E == 0) = false := beq_eq_false_iff_ne.2 hE0
 refine yK (n := 17) (S := fun W => W.heap[g6]? = some (.cells q.cs 26 (0, 0)) ∧ W.cell? ⟨g7, 0, none⟩ = some (.int .i64 E) ∧ W.cell? ⟨g3, 1, none⟩ = some (.string s2)) (ds := []) #[false, false, false, false, false, false, false, false, false, false, false, false, false, false, false, false, false] (by kernel_rfl) rfl rfl ⟨BK BK6, (zA (BK BK7) 0).trans rfl, (zA (BK BK3) 1).trans rfl⟩ (fun hHeld => ?_)
 refine zU (fun W => W.heap[g3]? = some (.cells #[.bool b, .string s2, .int .i64 e] 23 (0, 0)) ∧ W.heap[g4]? = some (.cells Z26 26 (0, 0)) ∧ W.heap[g6]? = some (.cells q.cs 26 (0, 0)) ∧ W.heap[g7]? = some (.cells #[.int .i64 E, .int .i64 a] 51 (0, 0)) ∧ yA q W w.heap.size ∧ Below w.heap.size w W) ⟨BK BK3, BK BK4, BK BK6, BK BK7, HRR.out.drew, BL HB⟩ ?_
 clear hHeld BK3 BK4 BK6 BK7 HRR HB
 rintro W ⟨hb3, hb4, hb6, hb7, hrr, hbw⟩
 have BK3 := K_ hb3
 have BK4 := K_ hb4
 have BK6 := K_ hb6
 have BK7 := K_ hb7
 have HRR := K_ hrr
 have HB := K_ hbw
 clear hb3 hb4 hb6 hb7 hrr hbw
 have hHeld := (show W.heap[g6]? = some (.cells q.cs 26 (0, 0)) ∧ W.cell? ⟨g7, 0, none⟩ = some (.int .i64 E) ∧ W.cell? ⟨g3, 1, none⟩ = some (.string s2) from ⟨BK6.out, (zA BK7.out 0).trans rfl, (zA BK3.out 1).trans rfl⟩)
 refine tr_ 0 13 (bb 17 1) (q.cs) (fun _ hs => ⟨hs.1⟩) Tryz.underlying26 jL hHeld ?_
 refine pw_ 1 14 (bb 17 3) ?_
 refine tw_ 2 15 (bb 17 7) hHeld ?_
 refine jU (i := 3) (N := some 16) (v := .bool false) (bb 17 15) rfl rfl (by kernel_rfl) (fun _ _ _ h => h) (Or.inl ⟨by rfl, fun w' => by first | (go_simp; done) | (go_simp; rw [dE]; done) | (go_simp; rw [dE]; rfl) | (go_simp; simp [dE]; done)⟩) (by simp only [Act.put, List.setIfInBounds_toArray, List.set_cons_zero, List.set_cons_succ]; rfl) ?_
 refine pw_ 4 17 (bb 17 31) ?_
 refine jU (i := 5) (N := some 18) (v := undef) (bb 17 63) rfl rfl (by kernel_rfl) (fun _ _ _ h => h) (Or.inr ⟨by rfl, rfl⟩) (by simp only [Act.put, List.setIfInBounds_toArray, List.set_cons_zero, List.set_cons_succ]; rfl) ?_
 refine jU (i := 6) (N := some 19) (v := undef) (bb 17 127) rfl rfl (by kernel_rfl) (fun _ _ _ h => h) (Or.inr ⟨by rfl, rfl⟩) (by simp only [Act.put, List.setIfInBounds_toArray, List.set_cons_zero, List.set_cons_succ]; rfl) ?_
 refine jU (i := 7) (N := some 20) (v := undef) (bb 17 255) rfl rfl (by kernel_rfl) (fun _ _ _ h => h) (Or.inr ⟨by rfl, rfl⟩) (by simp only [Act.put, List.setIfInBounds_toArray, List.set_cons_zero, List.set_cons_succ]; rfl) ?_
 refine pw_ 8 21 (bb 17 511) ?_
 refine pw_ 9 22 (bb 17 1023) ?_
 refine jU (i := 10) (N := some 23) (v := undef) (bb 17 2047) rfl rfl (by kernel_rfl) (fun _ _ _ h => h) (Or.inr ⟨by rfl, rfl⟩) (by simp only [Act.put, List.setIfInBounds_toArray, List.set_cons_zero, List.set_cons_succ]; rfl) ?_
 refine jU (i := 11) (N := some 24) (v := undef) (bb 17 4095) rfl rfl (by kernel_rfl) (fun _ _ _ h => h) (Or.inr ⟨by rfl, rfl⟩) (by simp only [Act.put, List.setIfInBounds_toArray, List.set_cons_zero, List.set_cons_succ]; rfl) ?_
 refine jU (i := 12) (N := some 25) (v := undef) (bb 17 8191) rfl rfl (by kernel_rfl) (fun _ _ _ h => h) (Or.inr ⟨by rfl, rfl⟩) (by simp only [Act.put, List.setIfInBounds_toArray, List.set_cons_zero, List.set_cons_succ]; rfl) ?_
 refine jU (i := 13) (N := some 26) (v := undef) (bb 17 16383) rfl rfl (by kernel_rfl) (fun _ _ _ h => h) (Or.inr ⟨by rfl, rfl⟩) (by simp only [Act.put, List.setIfInBounds_toArray, List.set_cons_zero, List.set_cons_succ]; rfl) ?_
 refine pw_ 14 27 (bb 17 32767) ?_
 refine on_ 15 none (bb 17 65535) (fun K hK => ?_)
 refine yP (g := g4) (cs := Z26) q.cs BK4 ?_ rfl rfl rfl rfl rfl jL rfl rfl
 intro w9 hbk hfar hbel
 have BK4' := K_ hbk
 replace HRR := K_ (HRR.out.so BK4.out (by decide) hfar)
 replace BK3 := K_ (hfar _ _ NB3_4.out BK3.out)
 replace BK6 := K_ (hfar _ _ (Ne.symm NB4_6.out) BK6.out)
 replace BK7 := K_ (hfar _ _ (Ne.symm NB4_7.out) BK7.out)
 replace HB := K_ (hbel _ _ GE4.out HB.out)
 refine hK.out _ _ ⟨BK6.out, (zA BK7.out 0).trans rfl, (zA BK3.out 1).trans rfl⟩ (fun _ => ?_)
 clear hK K hbk hfar hbel
 refine pw_ 16 5 (bb 17 131071) ?_
 refine yY (by kernel_rfl) ?_
 go_wp2_with (fail)
 refine bodyPost_ret (zV rfl _ _ g4 26 q.cs (0, 0) _ rfl BK4'.out Tryz.underlying26 rfl jL) rfl ?_
 exact ⟨q, false, rfl, HRR.out, BL HB, fun h => by cases h⟩
theorem zlk {q : Pat} (hq : zas q) (m : Int) (b : Bool) {n : Nat} {e : Int} (hn : (jR n).size ≤ 1000) (h1 : -1000 ≤ e) (h2 : e ≤ 1000) : (jR (rN q m b n e)).size ≤ 8000 ∧ -3000 ≤ rK q n e ∧ rK q n e ≤ 3000 := by
 obtain ⟨m0, m3⟩ := zgH q
 obtain ⟨s1, s2, s3, s4⟩ := zoQ hq.good hq.more (jW n (e + q.mult))
 obtain ⟨c1, c2, c3⟩ := zhq hq.good
 have ht := zld (n := n) (e := e + q.mult) (by omega) (by omega) (by omega)
 have e1 := zdW n (e + q.mult) hn
 have e2 := zcL n (e + q.mult)
 have hc : (jR (jV n)).size ≤ 1000 := zak (zgL n) hn
 unfold rN rK
 obtain ⟨p, hp⟩ : ∃ p, p = (stP q.P (jW n (e + q.mult))).2 := ⟨_, rfl⟩
 rw [← hp] at s4 ⊢
 have h := zls (m := m) (neg := b) (n := jV n) (st := (stP q.P (jW n (e + q.mult))).1) (e := nE n (e + q.mult)) (p := p) (k := min (nE n (e + q.mult)) p) hc s2 s1 (by omega) (by omega)
 refine ⟨Nat.le_trans h ?_, by omega, by omega⟩
 omega
def zbY (q : Pat) (n : Nat) (e : Int) : Bool := decide (atE (jV n) (nE n (e + q.mult)) (rK q n e) % atE (stP q.P (jW n (e + q.mult))).1 (stP q.P (jW n (e + q.mult))).2 (rK q n e) = 0)
theorem zhX {q : Pat} (hq : zas q) {m : Int} {b : Bool} {n : Nat} {e : Int} (h : zbY q n e = true) : rN q m b n e = atE (jV n) (nE n (e + q.mult)) (rK q n e) := by
 have h := of_decide_eq_true h
 unfold rN rv0
 show rq m b (atE (jV n) (nE n (e + q.mult)) (rK q n e)) (atE _ _ (rK q n e)) * atE _ _ (rK q n e) = _
 rw [zhz h]
 exact Nat.div_mul_cancel (Nat.dvd_of_mod_eq_zero h)
theorem zjT {q : Pat} (hq : zas q) {m : Int} (b : Bool) {n : Nat} {e : Int} (h : m = 7 → zbY q n e = true) :
  zam m b (jV n) (nE n (e + q.mult)) (stP q.P (jW n (e + q.mult))).1 (stP q.P (jW n (e + q.mult))).2 = (b, nD (rN q m b n e), nE (rN q m b n e) (rK q n e), 0) := by
 by_cases hm : m = 7
 ·have hf := h hm
  rw [zhX hq hf, zfP, zfO _ (by unfold rK; omega)]
  exact zdT (of_decide_eq_true hf)
 exact zey hm b (jV n) (nE n (e + q.mult)) _ _
def zdn (q : Pat) (m : Int) (b : Bool) (n : Nat) (e : Int) : Bool × ByteArray × Int × Int := if m = 7 ∧ zbY q n e = false then (false, ⟨#[]⟩, 0, 11) else zcO b (rN q m b n e) (rX q m b n e)
theorem zjV {q : Pat} (hq : zas q) {m : Int} (h0 : 0 ≤ m) (h7 : m ≤ 7) (b : Bool) {s : ByteArray} {e : Int} (hg : zaz s e = true) (hr : zal (vB s) e = true) :
  zeO q m b s e (zdn q m b (vB s) e) := by
 obtain ⟨g1, g2, g3, g4, g5⟩ := zbc.1 hg
 obtain ⟨m0, m3⟩ := zgH q
 have okd := OkD.of_good hg
 have hn : (jR (vB s)).size ≤ 1000 := Nat.le_trans okd.val g3
 have okE : OkD s (e + q.mult) := ⟨g1, g2, by omega, by omega, by omega⟩
 have okS := OkS.norm (n := vB s) (e := e + q.mult) (by omega) (by omega) (by omega)
 have hc : vB (nD (vB s)) = jV (vB s) := zdU _
 have ht := zld (n := vB s) (e := e + q.mult) (by omega) (by omega) (by omega)
 have hr1 : qU.f b s e = some true := by rw [zgI okd (OkD.norm (by omega) (by omega) (by omega)), hr]
 refine .inr (.inr (.inr ⟨zmV h0 (by omega), by rw [zjM (by omega), hg], hr1, b, nD (vB s), nE (vB s) (e + q.mult), _, zhM okE (by omega) (by omega) (by omega) (by omega), zid hq.good hq.more h0 (by omega) okS (by rw [hc, zbl]; omega) (by rw [hc, zbl]; omega), ?_⟩))
 rw [hc, zbl]
 by_cases hx : m = 7 ∧ zbY q (vB s) e = false
 ·obtain ⟨rfl, hf⟩ := hx
  have hf2 : ¬ atE (jV (vB s)) (nE (vB s) (e + q.mult)) (rK q (vB s) e) % atE (stP q.P (jW (vB s) (e + q.mult))).1 (stP q.P (jW (vB s) (e + q.mult))).2 (rK q (vB s) e) = 0 := of_decide_eq_false hf
  left
  rw [zcM hf2]
  refine ⟨by show (11 : Int) ≠ 0; decide, ?_⟩
  unfold zdn; rw [if_pos ⟨rfl, hf⟩]
 right
 rw [zjT hq b (fun h => by cases hh : zbY q (vB s) e; exact absurd ⟨h, hh⟩ hx; rfl)]
 obtain ⟨k1, k2, k3⟩ := zlk hq m b (n := vB s) (e := e) hn (by omega) (by omega)
 obtain ⟨N, hN⟩ : ∃ N, N = rN q m b (vB s) e := ⟨_, rfl⟩
 obtain ⟨k, hk⟩ : ∃ k, k = rK q (vB s) e := ⟨_, rfl⟩
 have e1 : rX q m b (vB s) e = nE (jV N) (nE N k + -q.mult) := by unfold rX; rw [← hN, ← hk]
 unfold zdn
 rw [if_neg hx, e1]
 show ((0 : Int) = 0 ∧ _)
 refine ⟨rfl, b, nD N, nE (jV N) (nE N k + -q.mult), zal (jV N) (nE (jV N) (nE N k + -q.mult)), ?_, ?_, ?_⟩
 ·show vF.f b (nD (rN q m b (vB s) e)) (nE (rN q m b (vB s) e) (rK q (vB s) e)) (-q.mult) = _
  rw [← hN, ← hk]
  rw [← hN] at k1
  rw [← hk] at k2 k3
  have a1 := zdW N k k1
  have a2 := zcL N k
  have a3 := zdG (n := N) k1 (by omega)
  rw [zhM ⟨zfd N, zfe N, by omega, by omega, by omega⟩ (by omega) (by omega) (by omega) (by omega), zdU, zfc]
 ·rw [← hN] at k1
  rw [← hk] at k2 k3
  have a1 := zdW N k k1
  have a2 := zcL N k
  have a3 := zdG (n := N) k1 (by omega)
  have hcz : (jR (jV N)).size ≤ 8000 := zak (zgL N) k1
  have b1 := zdW (jV N) (nE N k + -q.mult) hcz
  have b2 := zcL (jV N) (nE N k + -q.mult)
  have b3 := zdW (jV N) (nE (jV N) (nE N k + -q.mult)) hcz
  have b4 := zcL (jV N) (nE (jV N) (nE N k + -q.mult))
  have := zgI (b := b) (s := nD N) (e := nE (jV N) (nE N k + -q.mult)) ⟨zfd N, zfe N, by omega, by omega, by omega⟩ (by rw [zdU, zfc]; exact ⟨zfd N, zfe N, by omega, by omega, by omega⟩)
  rw [this, zdU]
 unfold zcO; rw [hN]
def qK (q : Pat) (m : Int) (b : Bool) (s : ByteArray) (e : Int) : Bool × ByteArray × Int × Int :=
 if 0 ≤ m ∧ m ≤ 7 then if zaz s e = true then if zal (vB s) e = true then zdn q m b (vB s) e else (false, ⟨#[]⟩, 0, 10) else (false, ⟨#[]⟩, 0, 9) else (false, ⟨#[]⟩, 0, 1)
theorem zcl {q : Pat} (hq : zas q) (m : Int) (b : Bool) {s : ByteArray} (e : Int) (hs : s.size ≤ 100000) : zeO q m b s e (qK q m b s e) := by
 unfold qK
 by_cases hm : 0 ≤ m ∧ m ≤ 7
 ·rw [if_pos hm]
  have hM := zmV hm.1 hm.2
  by_cases hg : zaz s e = true
  ·rw [if_pos hg]
   by_cases hr : zal (vB s) e = true
   ·rw [if_pos hr]; exact zjV hq hm.1 hm.2 b hg hr
   rw [if_neg hr]
   have okd := OkD.of_good hg
   obtain ⟨g1, g2, g3, g4, g5⟩ := zbc.1 hg
   have hn : (jR (vB s)).size ≤ 1000 := Nat.le_trans okd.val g3
   exact .inr (.inr (.inl ⟨hM, by rw [zjM (by omega), hg], by rw [zgI okd (OkD.norm (by omega) (by omega) (by omega))]; cases h : zal (vB s) e; rfl; exact absurd h hr, rfl⟩))
  rw [if_neg hg]
  exact .inr (.inl ⟨hM, by rw [zjM (by omega)]; cases h : zaz s e; rfl; exact absurd h hg, rfl⟩)
 rw [if_neg hm]
 refine .inl ⟨?_, rfl⟩
 unfold yG.f
 by_cases h : m ≥ 0
 ·rw [if_pos h, decide_eq_false (by omega)]
 rw [if_neg h]
theorem zmw {q : Pat} {m : Int} {b : Bool} {s : ByteArray} {e : Int} (h : (qK q m b s e).2.2.2 ≠ 0) : qK q m b s e = (false, ⟨#[]⟩, 0, (qK q m b s e).2.2.2) := by
 unfold qK zdn zcO at h ⊢
 repeat' (first | split at h | split)
 all_goals first | rfl | exact absurd rfl h | (exfalso; simp_all)
theorem zmu {b : Bool} {N : Nat} {X : Int} (h : (zcO b N X).2.2.2 = 0) : zcO b N X = (b, nD N, X, 0) := by
 unfold zcO at h ⊢
 split
 ·rfl
 rename_i hn; rw [if_neg hn] at h; exact absurd h (by decide)
theorem zeZ {q : Pat} {m : Int} {b : Bool} {s : ByteArray} {e : Int} (h : (qK q m b s e).2.2.2 = 0) :
  (0 ≤ m ∧ m ≤ 7) ∧ zaz s e = true ∧ zal (vB s) e = true ∧ (m = 7 → zbY q (vB s) e = true) ∧ zal (jV (rN q m b (vB s) e)) (rX q m b (vB s) e) = true ∧ qK q m b s e = (b, nD (rN q m b (vB s) e), rX q m b (vB s) e, 0) := by
 unfold qK at h ⊢
 by_cases hm : 0 ≤ m ∧ m ≤ 7
 ·rw [if_pos hm] at h ⊢
  by_cases hg : zaz s e = true
  ·rw [if_pos hg] at h ⊢
   by_cases hr : zal (vB s) e = true
   ·rw [if_pos hr] at h ⊢
    unfold zdn at h ⊢
    by_cases hx : m = 7 ∧ zbY q (vB s) e = false
    ·rw [if_pos hx] at h; exact absurd h (by decide)
    rw [if_neg hx] at h ⊢
    refine ⟨hm, hg, hr, fun h7 => ?_, ?_, zmu h⟩
    ·cases hh : zbY q (vB s) e
     ·exact absurd ⟨h7, hh⟩ hx
     rfl
    unfold zcO at h
    split at h
    ·assumption
    exact absurd h (by decide)
   rw [if_neg hr] at h; exact absurd h (by decide)
  rw [if_neg hg] at h; exact absurd h (by decide)
 rw [if_neg hm] at h; exact absurd h (by decide)
theorem zmv {n : Nat} (h : n ≠ 0) (e k : Int) : jV (atE n e k) = jV n := zfC h _
theorem zbf {n : Nat} (h : n ≠ 0) (e : Int) : nE (jV n) e = e := by
 unfold nE; rw [if_neg (zaK h), znz]; omega
theorem zlx {q : Pat} (hq : zas q) {m : Int} {b : Bool} {n : Nat} {e : Int} : zbY q (jV (rN q m b n e)) (rX q m b n e) = true := by
 obtain ⟨c1, c2, c3⟩ := zhq hq.good
 obtain ⟨N, hN⟩ : ∃ N, N = rN q m b n e := ⟨_, rfl⟩
 have hX : rX q m b n e = nE (jV N) (nE N (rK q n e) + -q.mult) := by unfold rX; rw [← hN]
 rw [hX, ← hN]
 refine decide_eq_true ?_
 by_cases h0 : N = 0
 ·rw [h0, qR, qR, zcc, Nat.zero_mod]
 obtain ⟨K, hK⟩ : ∃ K, K = rK q n e := ⟨_, rfl⟩
 rw [← hK]
 simp only [zbf h0]
 have hR : rK q (jV N) (nE N K + -q.mult) = min (nE N K) (stP q.P (jW N K)).2 := by
  unfold rK; rw [show nE N K + -q.mult + q.mult = nE N K by omega, zbf h0, zbl]
 rw [hR, show nE N K + -q.mult + q.mult = nE N K by omega, zcm, zbl]
 have k1 : K ≤ nE n (e + q.mult) := by rw [hK]; unfold rK; omega
 have k2 : K ≤ (stP q.P (jW n (e + q.mult))).2 := by rw [hK]; unfold rK; omega
 have eN : N = rv0 m b (jV n) (nE n (e + q.mult)) (stP q.P (jW n (e + q.mult))).1 (stP q.P (jW n (e + q.mult))).2 K := by rw [hN, hK]; rfl
 by_cases hs : q.P.sci = true ∨ 0 < q.P.ms
 ·have s1 : ∀ t, stP q.P t = (1, t - (cS q.P : Int) + 1) := fun t => by unfold stP; rw [if_pos hs]
  rw [s1] at k2 eN ⊢
  refine (zoh (by omega) (by omega)).2 (.inr ?_)
  rw [zbf h0]
  refine (zkr h0).1 ?_
  rw [eN]
  rw [← zbl n] at k2 ⊢
  exact zkO c1 k1 k2
 have s1 : ∀ t t', stP q.P t = stP q.P t' := fun t t' => by unfold stP; rw [if_neg hs, if_neg hs]
 rw [s1 (jW N K) (jW n (e + q.mult))]
 obtain ⟨st, hst⟩ : ∃ st, st = (stP q.P (jW n (e + q.mult))).1 := ⟨_, rfl⟩
 obtain ⟨p, hp⟩ : ∃ p, p = (stP q.P (jW n (e + q.mult))).2 := ⟨_, rfl⟩
 rw [← hp, ← hst]
 rw [← hp, ← hst] at eN
 rw [← hp] at k2
 obtain ⟨k0, hk0⟩ : ∃ k0, k0 = min K (min (nE N K) p) := ⟨_, rfl⟩
 refine (znN (i := min (nE N K) p) (k := k0) (by omega) (by omega) (by omega)).1 ?_
 rw [zmy (by omega)]
 have e2 : atE N K k0 = rq m b (atE (jV n) (nE n (e + q.mult)) K) (atE st p K) * atE st p k0 := by
  have e3 : atE N K k0 = N * 10 ^ (K - k0).toNat := rfl
  have e4 : atE st p k0 = atE st p K * 10 ^ (K - k0).toNat := (zds (n := st) k2 (by omega)).symm
  have e5 : N = rq m b (atE (jV n) (nE n (e + q.mult)) K) (atE st p K) * atE st p K := eN
  rw [e3, e4, ← Nat.mul_assoc, ← e5]
 rw [e2, Nat.mul_mod_left]
theorem zfu {n : Nat} {x : Int} (h0 : n ≠ 0) (h : zal (jV n) x = true) : zaz (nD n) x = true := by
 have h := of_decide_eq_true h
 rcases h with h | ⟨h1, h2⟩
 ·exact absurd h (zaK h0)
 rw [zbf h0] at h1
 have hn : nD n = jR (jV n) := by unfold nD; rw [if_neg h0]
 have hc := zaK h0
 unfold jW at h2
 rw [if_neg hc] at h2
 have hz : (jR (jV n)).size ≠ 0 := fun hh => hc (qX.1 hh)
 exact zbc.2 ⟨zfd n, zfe n, by rw [hn]; omega, by omega, by omega⟩
theorem zly {q : Pat} (hq : zas q) {m o : Int} {b : Bool} {s : ByteArray} {e : Int} (h : (qK q m b s e).2.2.2 = 0) (o0 : 0 ≤ o) (o7 : o ≤ 7) :
  qK q o (qK q m b s e).1 (qK q m b s e).2.1 (qK q m b s e).2.2.1 = qK q m b s e := by
 obtain ⟨hm, hg, hr, h7, hrg, hv⟩ := zeZ h
 rw [hv]
 obtain ⟨N, hN⟩ : ∃ N, N = rN q m b (vB s) e := ⟨_, rfl⟩
 obtain ⟨X, hX⟩ : ∃ X, X = rX q m b (vB s) e := ⟨_, rfl⟩
 have hf := zlx hq (m := m) (b := b) (n := vB s) (e := e)
 have hX2 : X = nE (jV N) (nE N (rK q (vB s) e) + -q.mult) := by rw [hX, hN]; rfl
 rw [← hN, ← hX] at hf hrg ⊢
 show qK q o b (nD N) X = (b, nD N, X, 0)
 by_cases h0 : N = 0
 ·have hX0 : X = 0 := by rw [hX2, h0, qR]; rfl
  subst h0
  rw [hX0]
  rw [hX0] at hf
  have hf2 : zbY q 0 0 = true := by unfold zbY; rw [qR, zcc, Nat.zero_mod]; rfl
  unfold qK
  rw [if_pos ⟨o0, o7⟩, if_pos (by decide), if_pos (by decide)]
  have hv0 : vB (nD 0) = 0 := rfl
  rw [hv0]
  unfold zdn
  rw [if_neg (fun hh => by rw [hf2] at hh; exact absurd hh.2 (by decide))]
  have hN2 : rN q o b 0 0 = 0 := by rw [zhX hq hf2, qR, zcc]
  have hX3 : rX q o b 0 0 = 0 := by unfold rX; rw [hN2, qR]; rfl
  rw [hN2, hX3]
  unfold zcO
  rw [if_pos (by rw [qR]; exact decide_eq_true (.inl rfl))]
 unfold qK
 rw [if_pos ⟨o0, o7⟩, if_pos (zfu h0 hrg), if_pos (by rw [zdU]; exact hrg), zdU]
 unfold zdn
 rw [if_neg (fun hh => by rw [hf] at hh; exact absurd hh.2 (by decide))]
 have hN2 := zhX hq (m := o) (b := b) hf
 have hc2 : jV (rN q o b (jV N) X) = jV N := by rw [hN2, zmv (zaK (zaK h0)), zcm, zcm]
 have hd2 : nD (rN q o b (jV N) X) = nD N := by rw [hN2, zfP, zfc, zfc]
 have hXm : X = nE N (rK q (vB s) e) + -q.mult := by rw [hX2, zbf h0]
 have hX3 : rX q o b (jV N) X = X := by
  unfold rX
  rw [hc2, zbf h0, hN2, zfO _ (by unfold rK; omega), zcm, zbf h0, zbf h0]; omega
 rw [hX3]
 unfold zcO
 rw [hc2, hd2, if_pos hrg]
theorem zju (q : Pat) (m : Int) (b : Bool) (n : Nat) (e : Int) : rN q (xC m) (!b) n e = rN q m b n e := by unfold rN; rw [zlP]
theorem znU (q : Pat) (m : Int) (b : Bool) (n : Nat) (e : Int) : rX q (xC m) (!b) n e = rX q m b n e := by unfold rX; rw [zju]
theorem zmx (q : Pat) (m : Int) (b : Bool) (s : ByteArray) (e : Int) : qK q (xC m) (!b) s e = if (qK q m b s e).2.2.2 = 0 then (!(qK q m b s e).1, (qK q m b s e).2) else qK q m b s e := by
 have ht : (0 ≤ xC m ∧ xC m ≤ 7) ↔ (0 ≤ m ∧ m ≤ 7) := by unfold xC; split <;> (try split) <;> omega
 have h7 : xC m = 7 ↔ m = 7 := ziO
 unfold qK
 by_cases hm : 0 ≤ m ∧ m ≤ 7
 ·rw [if_pos hm, if_pos (ht.2 hm)]
  by_cases hg : zaz s e = true
  ·rw [if_pos hg, if_pos hg]
   by_cases hr : zal (vB s) e = true
   ·rw [if_pos hr, if_pos hr]
    unfold zdn
    by_cases hx : m = 7 ∧ zbY q (vB s) e = false
    ·rw [if_pos hx, if_pos ⟨h7.2 hx.1, hx.2⟩]; rfl
    rw [if_neg hx, if_neg (fun hh => hx ⟨h7.1 hh.1, hh.2⟩), zju, znU]
    unfold zcO
    split
    ·rfl
    rfl
   rw [if_neg hr, if_neg hr]; rfl
  rw [if_neg hg, if_neg hg]; rfl
 rw [if_neg hm, if_neg (fun hh => hm (ht.1 hh))]; rfl
def s19 : ByteArray := ⟨#[35, 35, 48, 46, 35, 35, 69, 48]⟩
def l19 : List S71 := [⟨35, false, 0⟩, ⟨35, false, 1⟩, ⟨48, false, 2⟩, ⟨46, false, 3⟩, ⟨35, false, 4⟩, ⟨35, false, 5⟩, ⟨69, false, 6⟩, ⟨48, false, 7⟩]
theorem zps : zG.f 100 s19 = some (l19, 0, 0) := by kernel_rfl
def P19 : jT := ⟨1, 3, 0, 2, 0, 0, 0, 0, ⟨#[]⟩, true, 1, false⟩
theorem n19 : yZ (zaF (l19.map mk73) (uN (l19.map mk73)) (uI (l19.map mk73)) (l19.map mk73).length) = some P19 := by kernel_rfl
theorem h19 : xN (l19.map mk73) P19 := ⟨by decide +kernel, by kernel_rfl, n19, by kernel_rfl⟩
theorem p19 : zZ (vU (l19.map mk73) (uN (l19.map mk73)) l19.length) = [] := by kernel_rfl
theorem f19 : zZ (vV (l19.map mk73) (uI (l19.map mk73)) l19.length) = [] := by kernel_rfl
theorem zpm : xI l19 := by unfold xI; decide +kernel
theorem zpk : zaq l19 := by unfold zaq; decide +kernel
theorem zpt : ¬ mixed ([] : List S80) [] [⟨2, 0⟩] [] := by unfold mixed sgn; decide +kernel
theorem zpn : Ev (fun k => zG.f k s19) (l19, 0, 0) := Ev.of (zG.mono s19) zps
theorem zoX {q : Pat} (h0 : q.l0 = []) (h1 : q.l1 = []) (h3 : q.l3 = [⟨2, 0⟩]) (h4 : q.l4 = []) : q.mult = 0 := by
 unfold Pat.mult Pat.sg; rw [h0, h1, h3, h4]; rfl
theorem zov {q : Pat} {E : Int} (h : zlg s19 q E) : E = 0 ∧ q.P = P19 ∧ q.mult = 0 := by
 have hx := h l19 zpn zpm zpk P19 h19
 rw [p19, f19] at hx
 obtain ⟨h1, h2, h3, h4, h5, h6⟩ := hx zpt
 refine ⟨h1, h2, zoX h3 h4 (by rw [h5, h3]) (by rw [h6, h4])⟩
theorem zoc {q : Pat} (hq : zas q) (hP : q.P = P19) (hm : q.mult = 0) : zeO q 4 false ⟨#[49, 50, 51, 52, 53]⟩ 0 (false, ⟨#[49, 50, 51]⟩, 2, 0) := by
 have h := zcl hq 4 false (s := ⟨#[49, 50, 51, 52, 53]⟩) 0 (by decide)
 have e : qK q 4 false ⟨#[49, 50, 51, 52, 53]⟩ 0 = (false, ⟨#[49, 50, 51]⟩, 2, 0) := by
  unfold qK zdn zcO rX zbY rN rK
  rw [hP, hm]
  decide +kernel
 rw [e] at h; exact h
theorem zof {q : Pat} (hm : q.mult = 0) : vF.f false ⟨#[49, 50, 51]⟩ 2 q.mult = some (false, ⟨#[49, 50, 51]⟩, 2) := by rw [hm]; kernel_rfl
theorem zoV {q : Pat} (hP : q.P = P19) : zae q.P (vB ⟨#[49, 50, 51]⟩) 2 = (⟨#[49, 50]⟩, ⟨#[51]⟩, 3) := by rw [hP]; decide +kernel
theorem zpp : OkS ⟨#[49, 50, 51]⟩ 2 := ⟨rfl, by decide, by decide, by decide, by decide⟩
set_option maxHeartbeats 8000000 in
set_option maxRecDepth 100000 in
theorem vO (w : World) (hG : Fig.Glob w) : Calls Tryz.prog 13 #[] w fun e w' => e = .returned (.bool true) ∧ Below w.heap.size w w' := by
 have HB := K_ (Below.refl w.heap.size w)
 have HG := K_ hG
 clear hG
 go_enter Tryz.func13, Tryz.ntmps13
 go_upto_region 2 with (first | (go_at_call 31; refine (ziv ⟨#[35, 35, 48, 46, 35, 35, 69, 48]⟩ (by decide) _).mono ?_; rintro e9 w' ⟨q, E, a, rfl, hrr, hb, hqg, hex⟩; obtain ⟨rfl, hP, hm⟩ := zov hex; have HP := K_ hP; have HM := K_ hm; have HRR := K_ (hrr.lower (zL (BL HB))); have HQ := K_ (hqg rfl); replace HB := zE HB hb; clear hb hrr hqg hex hP hm) | ((with_reducible refine zF (N := 1) rfl ?_); refine be_ 1 (Z26) 26 ?_; intro g1 hg w2 hbox hb; have BK1 := K_ hbox; have GE1 := ge_ hg HB; replace HRR := K_ (HRR.out.below hb); replace HB := zE HB hb; clear hb hbox hg) | ((with_reducible refine zF (N := 2) rfl ?_); refine be_ 2 (Z51) 51 ?_; intro g2 hg w2 hbox hb; have BK2 := K_ hbox; have GE2 := ge_ hg HB; have NB1_2 := nb_ hg BK1; replace BK1 := zC BK1 hb; replace HRR := K_ (HRR.out.below hb); replace HB := zE HB hb; clear hb hbox hg) | ((with_reducible refine zQ (p := 1) rfl ?_); refine so_ (g := g1) (cs := Z26) (q.cs) ⟨BK BK1⟩ ?_ rfl rfl rfl rfl rfl jL rfl rfl; intro w9 hbk hfar hbel; replace BK2 := K_ (hfar _ _ (by first | exact NB2_1.out | exact Ne.symm NB1_2.out) (BK BK2)); replace HRR := K_ (HRR.out.so (BK BK1) (by decide) hfar); replace BK1 := K_ hbk; replace HB := K_ (hbel _ _ GE1.out (BL HB)); clear hbk hfar hbel) | ((with_reducible refine zQ (p := 2) rfl ?_); refine so_ (g := g2) (cs := Z51) (#[.int .i64 0, .int .i64 a]) ⟨BK BK2⟩ ?_ rfl rfl rfl rfl rfl uH rfl rfl; intro w9 hbk hfar hbel; replace BK1 := K_ (hfar _ _ (by first | exact NB1_2.out | exact Ne.symm NB2_1.out) (BK BK1)); replace HRR := K_ (HRR.out.so (BK BK2) (by decide) hfar); replace BK2 := K_ hbk; replace HB := K_ (hbel _ _ GE2.out (BL HB)); clear hbk hfar hbel))
 clear BK2
 go_upto_region 3 with (first | ((with_reducible refine zF (N := 11) rfl ?_); refine lo_ (g := g1) (cs := q.cs) _ ⟨BK BK1⟩ ?_ rfl rfl rfl Tryz.underlying26 rfl jL) | (go_at_call 14; refine (zbq q HQ.out.good 4 false ⟨#[49, 50, 51, 52, 53]⟩ 0 (false, ⟨#[49, 50, 51]⟩, 2, 0) (zoc HQ.out HP.out HM.out) _ (yA.ok HRR.out HQ.out) (Fig.Glob.below HG.out (BL HB))).mono ?_; rintro e9 w' ⟨rfl, hb⟩; replace HRR := K_ (HRR.out.below hb); replace HB := zE HB hb; replace BK1 := zC BK1 hb; clear hb) | ((with_reducible refine zF (N := 3) rfl ?_); refine be_ 3 (#[.bool false, .string (⟨#[]⟩ : ByteArray), .int .i64 0]) 23 ?_; intro g3 hg w2 hbox hb; have BK3 := K_ hbox; have GE3 := ge_ hg HB; have NB1_3 := nb_ hg BK1; replace BK1 := zC BK1 hb; replace HRR := K_ (HRR.out.below hb); replace HB := zE HB hb; clear hb hbox hg) | ((with_reducible refine zQ (p := 3) rfl ?_); refine so_ (g := g3) (cs := #[.bool false, .string (⟨#[]⟩ : ByteArray), .int .i64 0]) (#[.bool false, .string (⟨#[49, 50, 51]⟩ : ByteArray), .int .i64 2]) ⟨BK BK3⟩ ?_ rfl rfl rfl rfl rfl jM rfl rfl; intro w9 hbk hfar hbel; replace BK1 := K_ (hfar _ _ (by first | exact NB1_3.out | exact Ne.symm NB3_1.out) (BK BK1)); replace HRR := K_ (HRR.out.so (BK BK3) (by decide) hfar); replace BK3 := K_ hbk; replace HB := K_ (hbel _ _ GE3.out (BL HB)); clear hbk hfar hbel))
 go_upto_region 4 with (first | ((with_reducible refine zF (N := 16) rfl ?_); refine lo_ (g := g1) (cs := q.cs) _ ⟨BK BK1⟩ ?_ rfl rfl rfl Tryz.underlying26 rfl jL) | ((with_reducible refine zF (N := 17) rfl ?_); refine lo_ (g := g3) (cs := #[.bool false, .string (⟨#[49, 50, 51]⟩ : ByteArray), .int .i64 2]) _ ⟨BK BK3⟩ ?_ rfl rfl rfl Tryz.underlying23 rfl jM) | (go_at_call 16; refine (zhS q HQ.out.good false ⟨#[49, 50, 51]⟩ 2 ⟨#[49, 50, 51]⟩ 2 (zof HM.out) zpp _ (yA.ok HRR.out HQ.out)).mono ?_; rintro e9 w' ⟨he9, hb⟩; rw [zoV HP.out] at he9; subst he9; replace HRR := K_ (HRR.out.below hb); replace HB := zE HB hb; replace BK1 := zC BK1 hb; replace BK3 := zC BK3 hb; clear hb) | ((with_reducible refine zF (N := 5) rfl ?_); refine be_ 5 (#[.bool false, .string (⟨#[]⟩ : ByteArray), .string (⟨#[]⟩ : ByteArray), .int .i64 0]) 36 ?_; intro g5 hg w2 hbox hb; have BK5 := K_ hbox; have GE5 := ge_ hg HB; have NB1_5 := nb_ hg BK1; replace BK1 := zC BK1 hb; have NB3_5 := nb_ hg BK3; replace BK3 := zC BK3 hb; replace HRR := K_ (HRR.out.below hb); replace HB := zE HB hb; clear hb hbox hg) | ((with_reducible refine zQ (p := 5) rfl ?_); refine so_ (g := g5) (cs := #[.bool false, .string (⟨#[]⟩ : ByteArray), .string (⟨#[]⟩ : ByteArray), .int .i64 0]) (#[.bool false, .string (⟨#[49, 50]⟩ : ByteArray), .string (⟨#[51]⟩ : ByteArray), .int .i64 3]) ⟨BK BK5⟩ ?_ rfl rfl rfl rfl rfl xE rfl rfl; intro w9 hbk hfar hbel; replace BK1 := K_ (hfar _ _ (by first | exact NB1_5.out | exact Ne.symm NB5_1.out) (BK BK1)); replace BK3 := K_ (hfar _ _ (by first | exact NB3_5.out | exact Ne.symm NB5_3.out) (BK BK3)); replace HRR := K_ (HRR.out.so (BK BK5) (by decide) hfar); replace BK5 := K_ hbk; replace HB := K_ (hbel _ _ GE5.out (BL HB)); clear hbk hfar hbel))
 go_wp2_with (first | ((with_reducible refine zF (N := 22) rfl ?_); refine zbO (g := g3) (cs := #[.bool false, .string (⟨#[49, 50, 51]⟩ : ByteArray), .int .i64 2]) _ ⟨BK BK3⟩ ?_ (by rfl) rfl rfl Tryz.underlying23 rfl jM) | ((with_reducible refine zF (N := 27) rfl ?_); refine zbO (g := g5) (cs := #[.bool false, .string (⟨#[49, 50]⟩ : ByteArray), .string (⟨#[51]⟩ : ByteArray), .int .i64 3]) _ ⟨BK BK5⟩ ?_ (by rfl) rfl rfl Tryz.underlying36 rfl xE) | ((with_reducible refine zF (N := 32) rfl ?_); refine zbO (g := g1) (cs := q.cs) _ ⟨BK BK1⟩ ?_ (by rfl) rfl rfl Tryz.underlying26 rfl jL) | (go_at_call 27; refine (zbW q _).mono ?_; rintro e9 w' ⟨he9, hb⟩; rw [HP.out, show xH P19 = true from rfl] at he9; subst he9; replace HB := zE HB hb; clear hb))
 go_ret
 exact ⟨rfl, BL HB⟩
end Go.Proofs.YtcmgdjnjmobkoaaGreatDoor.Px
section
namespace Go.Proofs.YtcmgdjnjmobkoaaGreatDoorW.PrintWords
open Go.ChangeShapes Go.WideShapes
end Go.Proofs.YtcmgdjnjmobkoaaGreatDoorW.PrintWords
end
section
namespace Fig
open Go Go.ChangeShapes
theorem zlI {α : Type} {l : List α} {i n : Nat} (hl : l.length = n) (hi : i < n) : ∃ v, (l.drop i).take 1 = [v] ∧ l[i]? = some v := by
 refine ⟨l[i], ?_, List.getElem?_eq_getElem (by omega)⟩
 rw [List.drop_eq_getElem_cons (by omega)]; rfl
theorem zkH {P : Program} {W : World} {name : String} {d : DataW Unit} (h : funcsAt P W name d) {g : Nat} {t e : TypeId} {n : Nat} {fld : Field} {ps rs : Array TypeId} {va : Bool}
  (hg : P.globalNamed name = some g) (hty : (P.globals[g]?).map (·.type) = some t) (ht : P.underlying t = some (.array n e)) (he : P.underlying e = some (.struct #[fld])) (hft : P.underlying fld.type = some (.func ps rs va))
  (ce : P.cellsOf e = 1) (cf : P.cellsOf fld.type = 1) (ho : fld.offset = 0) (ct : P.cellsOf t = n) {ds : List (DataW (List UInt8))} (hd : d.funcsOut = .agg ds)
  {i : Nat} (hi : i < n) {b : UInt8} {r : List UInt8} (hdi : ds[i]? = some (.agg [.held (b :: r)])) {f0 : FuncId}
  (hone : ((List.range P.funcs.size).filter fun f => (P.funcs[f]?).any (·.name.toUTF8.data.toList == b :: r)) = [f0]) : W.cell? ⟨g, i, none⟩ = some (.func (.func f0) #[] #[]) := by
 obtain ⟨g', t', cs, fuel, p, hg', ht', hv, hr⟩ := h
 obtain rfl := Option.some.inj (hg.symm.trans hg')
 obtain rfl := Option.some.inj (hty.symm.trans ht')
 obtain ⟨xs, m, _, ex, hcl, hl, hel⟩ := DataW.trod_array ht hr
 rw [hd] at ex
 have e3 : xs.map (·.1) = ds := (DataW.agg.inj (Prod.mk.inj ex).1).symm
 obtain ⟨v, hv1, hv2⟩ := zlI (l := cs.toList) (n := n) (hcl.trans ct) hi
 have hE := hel i hi
 rw [ce, Nat.mul_one, hv1] at hE
 rw [← e3, List.getElem?_map] at hdi
 cases hx : xs[i]? with
 | none => rw [hx] at hdi; cases hdi
 | some x =>
  rw [hx] at hE hdi
  simp only [Option.map_some, Option.some.injEq] at hdi
  obtain ⟨y0, k, rfl, _, hy⟩ := trod_struct1 he hE
  rw [cf, ho, List.drop_zero] at hy
  have hy0 : y0.1 = .held (b :: r) := by simpa using hdi
  obtain ⟨y1, y2⟩ := y0
  subst hy0
  obtain rfl := func_of_trod hft hone (show DataW.trod _ P W 0 _ true k fld.type [v] = _ from hy)
  rw [World.var?_cell hg hv i]
  simpa using hv2
theorem zfm (g : Nat) : ∀ (l : List Value) (i : Nat) (w : World), ((l.zipIdx i).foldl (fun w x => w.setCell ⟨g, x.2, none⟩ x.1) w).os = w.os
 | [], _, _ => rfl
 | _ :: l, i, w => by rw [List.zipIdx_cons, List.foldl_cons, zfm g l (i + 1)]; rfl
end Fig
end
