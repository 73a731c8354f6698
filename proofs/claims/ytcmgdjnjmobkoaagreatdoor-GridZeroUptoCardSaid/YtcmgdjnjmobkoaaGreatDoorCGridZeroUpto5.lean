/- The functions that the law GridZeroUpto reaches, told as plain functions, with what is proved of them, and the words they need (part 5). -/
import Derived.Test.YtcmgdjnjmobkoaaGreatDoorCGridZeroUpto0
import Derived.Test.YtcmgdjnjmobkoaaGreatDoorCGridZeroUpto4
import Derived.Test.YtcmgdjnjmobkoaaGreatDoorCGridZeroUpto2
import Derived.Test.YtcmgdjnjmobkoaaGreatDoorCGridZeroUpto3
import Derived.Test.YtcmgdjnjmobkoaaGreatDoorCGridZeroUpto1
import Derived.SizedLaws
import Derived.ChangeSlices
import Derived.LaidMore
import Derived.LaidHandle
import Derived.LaidSub
import Derived.OpenShut
import Derived.ChangeSame
import Derived.Lay
import Derived.Lib.LaidTab
import Derived.Test.YtcmgdjnjmobkoaaGreatDoorRows
import Derived.Stop.LaidErr
import Derived.Lib.SmallJoins
import Derived.ChangeMaps5
set_option linter.unusedVariables false
set_option linter.unusedSimpArgs false
namespace Go.Proofs.YtcmgdjnjmobkoaaGreatDoor.Px
open Fig Go.RowKit Go.Proofs.YtcmgdjnjmobkoaaGreatDoorW.PrintWords Go.Proofs.YtcmgdjnjmobkoaaGreatDoorW.PrintLast Go.Proofs.YtcmgdjnjmobkoaaGreatDoorW.PrintMore
attribute [local go_sem] uE uD uW uY vM vO uH uF
attribute [local go_sem] xG qZ xK xI qX qW qY xD xH xE xL xM xJ xB
theorem zeM (s : ByteArray) (hs : s.size ≤ 4611686018427387904) : ∀ (d n : Nat), s.size - n = d → n ≤ s.size → Ev (fun k => zP.l0 k s (n : Int)) (vC (s.data.toList.drop n) && decide (s.size ≠ 0))
 | 0, n, hd, hn => by
  refine zaF (r' := (s.toList != ([] : List UInt8))) (fun k => ?_) ?_
  ·simp only [zP.l0]; rw [if_neg (by omega)]
  rw [List.drop_of_length_le (by rw [← zW]; omega), bne_nil, ByteArray.toList_eq, zW]
  cases s.data.toList <;> simp [vC]
 | d + 1, n, hd, hn => by
  have hlt : n < s.size := by omega
  have hbt := zdm hlt
  have hc := List.drop_eq_getElem_cons (l := s.data.toList) (i := n) (by rw [← zW]; exact hlt)
  rw [hc]
  generalize hx : s.data.toList[n]'(by rw [← zW]; exact hlt) = c at hbt
  by_cases h1 : c.toNat < 48
  ·refine zaF (r' := false) (fun k => ?_) ?_
   ·simp only [zP.l0]; rw [if_pos (by omega), if_pos (by omega), hbt, if_pos (by omega)]
   have : isD c = false := by unfold isD; simp; omega
   simp [vC, this]
  by_cases h2 : c.toNat > 57
  ·refine zaF (r' := false) (fun k => ?_) ?_
   ·simp only [zP.l0]; rw [if_pos (by omega), if_pos (by omega), hbt, if_neg (by omega), if_pos (by omega)]
   have : isD c = false := by unfold isD; simp; omega
   simp [vC, this]
  have hd1 : isD c = true := zar.2 ⟨by omega, by omega⟩
  refine zdC (Ev.step (f := fun k => zP.l0 k s ((n + 1 : Nat) : Int)) (fun k => ?_) (zeM s hs d (n + 1) (by omega) (by omega))) ?_
  ·simp only [zP.l0]; rw [if_pos (by omega), if_pos (by omega), hbt, if_neg (by omega), if_neg (by omega), zay _ (by omega)]
  simp [vC, hd1]
theorem zio {s : ByteArray} (hs : s.size ≤ 4611686018427387904) : Ev (fun k => zP.f k s) (dB s && decide (s.size ≠ 0)) := by
 have := zeM s hs s.size 0 (by omega) (by omega)
 rw [List.drop_zero] at this
 exact this
def yU.f (k : Nat) (a0_0 : Bool) (a0_1 : ByteArray) (a0_2 : Int) : Option (Bool) := (zP.f k a0_1).bind fun t590 => (if t590 = true then (if (a0_1.size : Int) ≤ 1000 then (if a0_2 ≥ (-1000) then (some (decide (a0_2 ≤ 1000))) else (some false)) else (some false)) else (some false))
theorem yU.mono : ∀ a0 a1 a2 k, LeO (yU.f k a0 a1 a2) (yU.f (k + 1) a0 a1 a2) := by
 intro a0 a1 a2 k
 unfold yU.f
 repeat' first
   | (with_reducible exact zP.mono _ _)
   | (with_reducible exact LeO.refl _)
   | (with_reducible exact LeO.none _)
   | (with_reducible refine LeO.ite ?_ ?_)
   | (with_reducible refine LeO.bind ?_ (fun _ => ?_))
   | exact zP.mono _ _
   | exact LeO.none _
   | refine LeO.ite ?_ ?_
   | refine LeO.bind ?_ (fun _ => ?_)
set_option maxHeartbeats 8000000 in
set_option maxRecDepth 100000 in
theorem yU.calls (k : Nat) (a0_0 : Bool) (a0_1 : ByteArray) (a0_2 : Int) (r : Bool) (w : World) (h : yU.f k a0_0 a0_1 a0_2 = some r) :
  Calls Tryz.prog 40 #[.agg #[.bool a0_0, .string a0_1, .int .i64 a0_2]] w fun e w' => e = .returned (.bool r) ∧ Below w.heap.size w w' := by
 have hu23 := Tryz.underlying23
 have HB := K_ (Below.refl w.heap.size w)
 have H : ((zP.f k a0_1).bind fun t590 => (if t590 = true then (if (a0_1.size : Int) ≤ 1000 then (if a0_2 ≥ (-1000) then (some (decide (a0_2 ≤ 1000))) else (some false)) else (some false)) else (some false))) = some r := h
 clear h
 obtain ⟨t590, A20, H⟩ := Option.bind_eq_some_iff.mp H
 (try dsimp -simprocs only at H)
 have A2 := K_ A20
 clear A20
 by_cases c3 : t590 = true
 ·subst c3
  rw [if_pos rfl] at H
  by_cases c4 : (a0_1.size : Int) ≤ 1000
  ·rw [if_pos c4] at H
   have c4b0 : decide ((a0_1.size : Int) ≤ 1000) = true := decide_eq_true c4
   have c4b1 : decide (a0_1.size ≤ 1000) = true := decide_eq_true (by omega)
   clear c4
   by_cases c5 : a0_2 ≥ (-1000)
   ·rw [if_pos c5] at H
    have c5b0 : decide ((-1000) ≤ a0_2) = true := decide_eq_true c5
    clear c5
    obtain rfl := Option.some.inj H
    go_enter Tryz.func40, Tryz.ntmps40
    go_wp2_with (first | ((with_reducible refine zH (N := 1) rfl ?_); (try (refine vA (by rfl) ?_; dsimp only)); refine be_ 1 #[.bool a0_0, .string a0_1, .int .i64 a0_2] 23 ?_; intro gb589 hg w6 hbox hb; have BK589 := K_ (hbox); have GW589 := ge_ hg HB; have GE589 := ge_ hg HB; replace HB := zE HB hb; clear hb hbox hg; obtain ⟨⟨hcz7_0, hcz7_1, hcz7_2⟩, hfz7_0, hfz7_1, hfz7_2⟩ := ce3 BK589) | ((with_reducible refine zI (f := 68) rfl ?_); refine zX (some 5) rfl rfl Tryz.func68 (by kernel_rfl) rfl #[.string a0_1] rfl MP ?_; (with_reducible refine (zP.calls k a0_1 true _ A2.out).mono ?_); rintro e w' ⟨rfl, ⟨nd, rfl⟩⟩; refine ⟨_, rfl, ?_⟩))
    go_ret
    exact ⟨ER, BL HB⟩
   rw [if_neg c5] at H
   have c5b0 : decide ((-1000) ≤ a0_2) = false := decide_eq_false c5
   clear c5
   obtain rfl := Option.some.inj H
   go_enter Tryz.func40, Tryz.ntmps40
   go_wp2_with (first | ((with_reducible refine zH (N := 1) rfl ?_); (try (refine vA (by rfl) ?_; dsimp only)); refine be_ 1 #[.bool a0_0, .string a0_1, .int .i64 a0_2] 23 ?_; intro gb589 hg w8 hbox hb; have BK589 := K_ (hbox); have GW589 := ge_ hg HB; have GE589 := ge_ hg HB; replace HB := zE HB hb; clear hb hbox hg; obtain ⟨⟨hcz9_0, hcz9_1, hcz9_2⟩, hfz9_0, hfz9_1, hfz9_2⟩ := ce3 BK589) | ((with_reducible refine zI (f := 68) rfl ?_); refine zX (some 5) rfl rfl Tryz.func68 (by kernel_rfl) rfl #[.string a0_1] rfl MP ?_; (with_reducible refine (zP.calls k a0_1 true _ A2.out).mono ?_); rintro e w' ⟨rfl, ⟨nd, rfl⟩⟩; refine ⟨_, rfl, ?_⟩))
   go_ret
   exact ⟨ER, BL HB⟩
  rw [if_neg c4] at H
  have c4b0 : decide ((a0_1.size : Int) ≤ 1000) = false := decide_eq_false c4
  have c4b1 : decide (a0_1.size ≤ 1000) = false := decide_eq_false (by omega)
  clear c4
  obtain rfl := Option.some.inj H
  go_enter Tryz.func40, Tryz.ntmps40
  go_wp2_with (first | ((with_reducible refine zH (N := 1) rfl ?_); (try (refine vA (by rfl) ?_; dsimp only)); refine be_ 1 #[.bool a0_0, .string a0_1, .int .i64 a0_2] 23 ?_; intro gb589 hg w10 hbox hb; have BK589 := K_ (hbox); have GW589 := ge_ hg HB; have GE589 := ge_ hg HB; replace HB := zE HB hb; clear hb hbox hg; obtain ⟨⟨hcz11_0, hcz11_1, hcz11_2⟩, hfz11_0, hfz11_1, hfz11_2⟩ := ce3 BK589) | ((with_reducible refine zI (f := 68) rfl ?_); refine zX (some 5) rfl rfl Tryz.func68 (by kernel_rfl) rfl #[.string a0_1] rfl MP ?_; (with_reducible refine (zP.calls k a0_1 true _ A2.out).mono ?_); rintro e w' ⟨rfl, ⟨nd, rfl⟩⟩; refine ⟨_, rfl, ?_⟩))
  go_ret
  exact ⟨ER, BL HB⟩
 replace c3 := Bool.eq_false_iff.mpr c3
 subst c3
 rw [if_neg (show ¬ (false = true) by decide)] at H
 obtain rfl := Option.some.inj H
 go_enter Tryz.func40, Tryz.ntmps40
 go_wp2_with (first | ((with_reducible refine zH (N := 1) rfl ?_); (try (refine vA (by rfl) ?_; dsimp only)); refine be_ 1 #[.bool a0_0, .string a0_1, .int .i64 a0_2] 23 ?_; intro gb589 hg w12 hbox hb; have BK589 := K_ (hbox); have GW589 := ge_ hg HB; have GE589 := ge_ hg HB; replace HB := zE HB hb; clear hb hbox hg; obtain ⟨⟨hcz13_0, hcz13_1, hcz13_2⟩, hfz13_0, hfz13_1, hfz13_2⟩ := ce3 BK589) | ((with_reducible refine zI (f := 68) rfl ?_); refine zX (some 5) rfl rfl Tryz.func68 (by kernel_rfl) rfl #[.string a0_1] rfl MP ?_; (with_reducible refine (zP.calls k a0_1 false _ A2.out).mono ?_); rintro e w' ⟨rfl, ⟨nd, rfl⟩⟩; refine ⟨_, rfl, ?_⟩))
 go_ret
 exact ⟨ER, BL HB⟩
theorem zjK {b : Bool} {s : ByteArray} {e : Int} (hs : s.size ≤ 4611686018427387904) : Ev (fun k => yU.f k b s e) (zbR s e) := by
 unfold yU.f
 refine Ev.bind (zio hs) ?_
 unfold zbR
 cases hd : (dB s && decide (s.size ≠ 0))
 ·simp only [Bool.false_eq_true, if_false, Bool.false_and]
  exact Ev.now _
 simp only [if_true, Bool.true_and]
 by_cases h1 : s.size ≤ 1000
 ·have h1' : (s.size : Int) ≤ 1000 := by omega
  simp only [h1', h1, if_true, decide_true, Bool.true_and]
  by_cases h2 : e ≥ -1000
  ·have h2' : -1000 ≤ e := h2
   simp only [h2, h2', if_true, decide_true, Bool.true_and]
   exact Ev.now _
  have h2' : ¬ -1000 ≤ e := h2
  simp only [h2, h2', if_false, decide_false, Bool.false_and]
  exact Ev.now _
 have h1' : ¬ (s.size : Int) ≤ 1000 := by omega
 simp only [h1', h1, if_false, decide_false, Bool.false_and]
 exact Ev.now _
def zT.l0 : Nat → ByteArray → Int → Bool → ByteArray → Int → Option (Bool × ByteArray × Int)
 | 0, _, _, _, _, _ => none
 | k + 1, x3, x4, x592000, x592001, x592002 => if 0 ≤ (wrap64 ((x3.size : Int) - 1)) then (if (wrap64 ((x3.size : Int) - 1)) < (x3.size : Int) then (if (bt x3 (wrap64 ((x3.size : Int) - 1))) = 48 then (if (wrap64 ((x3.size : Int) - 1)) ≤ (x3.size : Int) then (zT.l0 k (x3.extract 0 ((wrap64 ((x3.size : Int) - 1)) : Int).toNat) (wrap64 (x4 + 1)) x592000 x592001 x592002) else (none)) else (some (x592000, x3, x4))) else (none)) else (none)
def zT.f (k : Nat) (a0_0 : Bool) (a0_1 : ByteArray) (a0_2 : Int) : Option (Bool × ByteArray × Int) := (zQ.f k a0_1).bind fun t593 => (if t593.toList = ([] : List UInt8) then (some (a0_0, (⟨#[48]⟩ : ByteArray), 0)) else (zT.l0 k t593 a0_2 a0_0 a0_1 a0_2))
theorem zT.mono_l : ∀ k, (∀ y0 y1 y2 y3 y4, LeO (zT.l0 k y0 y1 y2 y3 y4) (zT.l0 (k + 1) y0 y1 y2 y3 y4))
 | 0 => fun _ _ _ _ _ r h => by simp [zT.l0] at h
 | k + 1 => by
  have ih0 := zT.mono_l k
  intro y0 y1 y2 y3 y4
  unfold zT.l0
  repeat' first
  | (with_reducible exact ih0 _ _ _ _ _)
  | (with_reducible exact zQ.mono _ _)
  | (with_reducible exact LeO.refl _)
  | (with_reducible exact LeO.none _)
  | (with_reducible refine LeO.ite ?_ ?_)
  | (with_reducible refine LeO.bind ?_ (fun _ => ?_))
  | exact ih0 _ _ _ _ _
  | exact zQ.mono _ _
  | exact LeO.none _
  | refine LeO.ite ?_ ?_
  | refine LeO.bind ?_ (fun _ => ?_)
theorem zT.mono : ∀ a0 a1 a2 k, LeO (zT.f k a0 a1 a2) (zT.f (k + 1) a0 a1 a2) := by
 intro a0 a1 a2 k
 have ih0 := zT.mono_l k
 unfold zT.f
 repeat' first
   | (with_reducible exact ih0 _ _ _ _ _)
   | (with_reducible exact zQ.mono _ _)
   | (with_reducible exact LeO.refl _)
   | (with_reducible exact LeO.none _)
   | (with_reducible refine LeO.ite ?_ ?_)
   | (with_reducible refine LeO.bind ?_ (fun _ => ?_))
   | exact ih0 _ _ _ _ _
   | exact zQ.mono _ _
   | exact LeO.none _
   | refine LeO.ite ?_ ?_
   | refine LeO.bind ?_ (fun _ => ?_)
set_option maxHeartbeats 8000000 in
set_option maxRecDepth 100000 in
theorem zT.calls (k : Nat) (a0_0 : Bool) (a0_1 : ByteArray) (a0_2 : Int) (r1 : Bool) (r2 : ByteArray) (r3 : Int) (w : World) (h : zT.f k a0_0 a0_1 a0_2 = some (r1, r2, r3)) :
  Calls Tryz.prog 50 #[.agg #[.bool a0_0, .string a0_1, .int .i64 a0_2]] w fun e w' => e = .returned (.agg #[.bool r1, .string r2, .int .i64 r3]) ∧ Below w.heap.size w w' := by
 have hu23 := Tryz.underlying23
 have HB := K_ (Below.refl w.heap.size w)
 have H : ((zQ.f k a0_1).bind fun t593 => (if t593.toList = ([] : List UInt8) then (some (a0_0, (⟨#[48]⟩ : ByteArray), 0)) else (zT.l0 k t593 a0_2 a0_0 a0_1 a0_2))) = some (r1, r2, r3) := h
 clear h
 obtain ⟨t593, A20, H⟩ := Option.bind_eq_some_iff.mp H
 (try dsimp -simprocs only at H)
 have A2 := K_ A20
 clear A20
 by_cases c3 : t593.toList = ([] : List UInt8)
 ·rw [if_pos c3] at H
  have c3b0 : (t593.toList == ([] : List UInt8)) = true := beq_iff_eq.mpr c3
  have c3b1 : (t593.toList != ([] : List UInt8)) = false := bne_eq_false_iff_eq.mpr c3
  clear c3
  simp only [Option.some.injEq, Prod.mk.injEq] at H
  obtain ⟨rfl, rfl, rfl⟩ := H
  go_enter Tryz.func50, Tryz.ntmps50
  go_wp2_with (first | (refine be_ 1 #[.bool a0_0, .string a0_1, .int .i64 a0_2] 23 ?_; intro gb591 hg w4 hbox hb; have BK591 := K_ (hbox); have GW591 := ge_ hg HB; have GE591 := ge_ hg HB; replace HB := zE HB hb; clear hb hbox hg) | (refine be_ 2 #[.bool false, .string (⟨#[]⟩ : ByteArray), .int .i64 0] 23 ?_; intro gb592 hg w5 hbox hb; have BK592 := K_ (hbox); have GW592 := ge_ hg HB; have GE592 := ge_ hg HB; replace HB := zE HB hb; have NB591_592 := nb_ hg BK591; have NB592_591 := nc_ hg BK591; replace BK591 := zC BK591 hb; clear hb hbox hg; have hnb6 := NB591_592.out; have hnc6 := NB592_591.out; obtain ⟨⟨hcz7_0, hcz7_1, hcz7_2⟩, hfz7_0, hfz7_1, hfz7_2⟩ := ce3 BK591) | ((with_reducible refine zI (f := 69) rfl ?_); refine zX (some 7) rfl rfl Tryz.func69 (by kernel_rfl) rfl #[.string a0_1] rfl MP ?_; (with_reducible refine (zQ.calls k a0_1 t593 _ A2.out).mono ?_); rintro e w' ⟨rfl, ⟨nd, rfl⟩⟩; refine ⟨_, rfl, ?_⟩; (try (rw [vI w5]; generalize hq_ : World.drewN w5 _ = w5; replace BK591 := qC BK591 hq_; replace BK592 := qC BK592 hq_; replace HB := zaV HB hq_; clear hq_)); (try (obtain ⟨⟨hcz9066_0, hcz9066_1, hcz9066_2⟩, hfz9066_0, hfz9066_1, hfz9066_2⟩ := ce3 BK591)); (try (obtain ⟨⟨hcz9067_0, hcz9067_1, hcz9067_2⟩, hfz9067_0, hfz9067_1, hfz9067_2⟩ := ce3 BK592)); obtain ⟨⟨hcz8_0, hcz8_1, hcz8_2⟩, hfz8_0, hfz8_1, hfz8_2⟩ := ce3 BK592))
  refine bodyPost_ret (results_cell_row rfl _ _ gb592 23 #[.bool a0_0, .string (⟨#[48]⟩ : ByteArray), .int .i64 0] (0, 0) _ rfl (BP BK592) Tryz.underlying23 rfl (by kernel_rfl)) rfl ?_
  exact ⟨ER, BL HB⟩
 rw [if_neg c3] at H
 have c3b0 : (t593.toList == ([] : List UInt8)) = false := beq_eq_false_iff_ne.mpr c3
 have c3b1 : (t593.toList != ([] : List UInt8)) = true := bne_iff_ne.mpr c3
 have H' := K_ H
 clear H
 go_enter Tryz.func50, Tryz.ntmps50
 go_wp2_with (first | (refine be_ 1 #[.bool a0_0, .string a0_1, .int .i64 a0_2] 23 ?_; intro gb591 hg w9 hbox hb; have BK591 := K_ (hbox); have GW591 := ge_ hg HB; have GE591 := ge_ hg HB; replace HB := zE HB hb; clear hb hbox hg) | (refine be_ 2 #[.bool false, .string (⟨#[]⟩ : ByteArray), .int .i64 0] 23 ?_; intro gb592 hg w10 hbox hb; have BK592 := K_ (hbox); have GW592 := ge_ hg HB; have GE592 := ge_ hg HB; replace HB := zE HB hb; have NB591_592 := nb_ hg BK591; have NB592_591 := nc_ hg BK591; replace BK591 := zC BK591 hb; clear hb hbox hg; have hnb11 := NB591_592.out; have hnc11 := NB592_591.out; obtain ⟨⟨hcz12_0, hcz12_1, hcz12_2⟩, hfz12_0, hfz12_1, hfz12_2⟩ := ce3 BK591) | ((with_reducible refine zI (f := 69) rfl ?_); refine zX (some 7) rfl rfl Tryz.func69 (by kernel_rfl) rfl #[.string a0_1] rfl MP ?_; (with_reducible refine (zQ.calls k a0_1 t593 _ A2.out).mono ?_); rintro e w' ⟨rfl, ⟨nd, rfl⟩⟩; refine ⟨_, rfl, ?_⟩))
 go_loopg [3, 4] k (fun kq v3 v4 w' => ∃ (x3_1 : ByteArray) (x4_1 : Int), v3 = .string x3_1 ∧ v4 = .int .i64 x4_1 ∧ Aside0 (zT.l0 kq x3_1 x4_1 a0_0 a0_1 a0_2 = some (r1, r2, r3)) ∧ Aside0 (kq ≤ k) ∧ Aside0 (w'.heap[gb591]? = some (.cells #[.bool a0_0, .string a0_1, .int .i64 a0_2] 23 (0, 0))) ∧ Aside0 (w'.heap[gb592]? = some (.cells #[.bool false, .string (⟨#[]⟩ : ByteArray), .int .i64 0] 23 (0, 0))) ∧ Aside0 (Below w.heap.size w w'))
 case atStart => exact ⟨(t593), (a0_2), SR, SR, H', ⟨Nat.le_refl _⟩, ⟨BK BK591⟩, ⟨BK BK592⟩, ⟨BL HB⟩⟩
 case round =>
  clear H'
  try clear c3
  try clear c3b0
  try clear c3b1
  try clear hcz12_0
  try clear hcz12_1
  try clear hcz12_2
  try clear hfz12_0
  try clear hfz12_1
  try clear hfz12_2
  obtain ⟨x3_1, x4_1, rfl, rfl, HA, HK1, BK591, BK592, HB⟩ := hrel
  obtain _ | k1 := gk
  ·exact absurd HA.out (by simp [zT.l0])
  have H := HA.out
  clear HA
  simp only [zT.l0] at H
  obtain ⟨ji13, hji13⟩ : ∃ j_ : Int, (wrap64 ((x3_1.size : Int) - 1)) = j_ := ⟨_, rfl⟩
  replace H : (if 0 ≤ (ji13) then (if (ji13) < (x3_1.size : Int) then (if (bt x3_1 (ji13)) = 48 then (if (ji13) ≤ (x3_1.size : Int) then (zT.l0 k1 (x3_1.extract 0 ((ji13) : Int).toNat) (wrap64 (x4_1 + 1)) a0_0 a0_1 a0_2) else (none)) else (some (a0_0, x3_1, x4_1))) else (none)) else (none)) = some (r1, r2, r3) := by first | (rw [hji13] at H; exact H) | (simp only [hji13] at H ⊢; exact H)
  have hji13w : (IntKind.i64.wrap ((x3_1.size : Int) - 1)) = ji13 := (vF _).trans hji13
  by_cases c14 : 0 ≤ (ji13)
  ·rw [if_pos c14] at H
   have c14b0 : decide (0 ≤ (ji13)) = true := decide_eq_true c14
   clear c14
   by_cases c15 : (ji13) < (x3_1.size : Int)
   ·rw [if_pos c15] at H
    have c15b0 : decide ((ji13) < (x3_1.size : Int)) = true := decide_eq_true c15
    clear c15
    by_cases c17 : (bt x3_1 (ji13)) = 48
    ·rw [if_pos c17] at H
     have c17b0 : ((bt x3_1 (ji13)) == 48) = true := beq_iff_eq.mpr c17
     have c17b1 : ((bt x3_1 (ji13)) != 48) = false := bne_eq_false_iff_eq.mpr c17
     clear c17
     have c18b0 := eq_true (of_decide_eq_true (by first | (with_reducible assumption) | assumption) : 0 ≤ (ji13))
     by_cases c19 : (ji13) ≤ (x3_1.size : Int)
     ·rw [if_pos c19] at H
      have c19b0 := eq_true c19
      have c19b1 : decide ((ji13) ≤ (x3_1.size : Int)) = true := decide_eq_true c19
      clear c19
      have H' := K_ H
      clear H
      have p16 : 0 ≤ ((ji13) : Int) := of_decide_eq_true (by first | (with_reducible assumption) | assumption)
      have q16 : (ji13) < (x3_1.size : Int) := of_decide_eq_true (by first | (with_reducible assumption) | assumption)
      have hx16 := zam x3_1 (ji13)
      replace p16 := eq_true p16
      replace q16 := eq_true q16
      go_wp2
      go_roundg k1
      case measure => have := HK1.out; omega
      case rel => exact ⟨(x3_1.extract 0 ((ji13) : Int).toNat), (wrap64 (x4_1 + 1)), (by first | rfl | (simp; done) | (simp only [← hji13] <;> (first | rfl | simp)) | (simp [*]; done) | (simp [*, Fig.bne_nil]; done)), SR, H', ⟨by have := HK1.out; omega⟩, ⟨BK BK591⟩, ⟨BK BK592⟩, ⟨BL HB⟩⟩
     rw [if_neg c19] at H
     exact absurd H (by simp)
    rw [if_neg c17] at H
    have c17b0 : ((bt x3_1 (ji13)) == 48) = false := beq_eq_false_iff_ne.mpr c17
    have c17b1 : ((bt x3_1 (ji13)) != 48) = true := bne_iff_ne.mpr c17
    simp only [Option.some.injEq, Prod.mk.injEq] at H
    obtain ⟨rfl, rfl, rfl⟩ := H
    have p16 : 0 ≤ ((ji13) : Int) := of_decide_eq_true (by first | (with_reducible assumption) | assumption)
    have q16 : (ji13) < (x3_1.size : Int) := of_decide_eq_true (by first | (with_reducible assumption) | assumption)
    have hx16 := zam x3_1 (ji13)
    replace p16 := eq_true p16
    replace q16 := eq_true q16
    have hnb20 := NB591_592.out
    have hnc20 := NB592_591.out
    obtain ⟨⟨hcz21_0, hcz21_1, hcz21_2⟩, hfz21_0, hfz21_1, hfz21_2⟩ := ce3 BK591
    obtain ⟨⟨hcz22_0, hcz22_1, hcz22_2⟩, hfz22_0, hfz22_1, hfz22_2⟩ := ce3 BK592
    go_wp2
    refine bodyPost_ret (results_cell_row rfl _ _ gb592 23 #[.bool a0_0, .string x3_1, .int .i64 x4_1] (0, 0) _ rfl (BP BK592) Tryz.underlying23 rfl (by kernel_rfl)) rfl ?_
    exact ⟨by first | rfl | (simp [jW, jX] <;> rfl) | (simp only [← hji13]; first | rfl | (simp [jW, jX] <;> rfl)) | (simp [*, jW, jX] <;> rfl), BL HB⟩
   rw [if_neg c15] at H
   exact absurd H (by simp)
  rw [if_neg c14] at H
  exact absurd H (by simp)
theorem zmU {n : Nat} (h : n ≠ 0) : bt (jH n) (((jH n).size : Int) - 1) = ((48 + n % 10 : Nat) : Int) := by
 have hs := zdH h
 have hl := zgY h
 have hlt : (jH (n / 10)).size < (jH n).size := by omega
 rw [show ((jH n).size : Int) - 1 = ((jH (n / 10)).size : Int) by omega, zdm hlt]
 have hg := List.getElem?_eq_getElem (l := (jH n).data.toList) (i := (jH (n / 10)).size) (by rw [← zW]; exact hlt)
 rw [hl] at hg
 rw [← Option.some.inj hg, zaT]
theorem zeQ (b b2 : Bool) (s2 : ByteArray) (e2 : Int) : ∀ (d n : Nat) (e : Int), n ≠ 0 → n < d → (jH n).size ≤ 1000000 → -1000000 ≤ e → e + ((jH n).size : Int) ≤ 2000000 → Ev (fun k => zT.l0 k (jH n) e b s2 e2) (b, nD n, nE n e)
 | 0, n, e, h0, hd, hz, h1, h2 => absurd hd (by omega)
 | d + 1, n, e, h0, hd, hz, h1, h2 => by
  have hs := zdH h0
  have hb := zmU h0
  have hw : wrap64 (((jH n).size : Int) - 1) = ((jH n).size : Int) - 1 := w64 (by omega) (by omega)
  by_cases hm : n % 10 = 0
  ·have h3 : n / 10 ≠ 0 := by omega
   have h4 : n / 10 < d := by have := zeS h0; omega
   have e1 : nD n = nD (n / 10) := by
    conv => lhs; rw [show n = n / 10 * 10 ^ 1 by omega]
    exact zhF _ _
   have e2' : nE n e = nE (n / 10) (e + 1) := by
    conv => lhs; rw [show n = n / 10 * 10 ^ 1 by omega]
    exact zhp _ _ _
   rw [e1, e2']
   refine Ev.step (f := fun k => zT.l0 k (jH (n / 10)) (e + 1) b s2 e2) (fun k => ?_) (zeQ b b2 s2 e2 d (n / 10) (e + 1) h3 h4 (by omega) (by omega) (by omega))
   simp only [zT.l0]
   rw [hw, if_pos (by omega), if_pos (by omega), hb, if_pos (by omega), if_pos (by omega), w64 (x := e + 1) (by omega) (by omega)]
   rw [show (((jH n).size : Int) - 1).toNat = (jH (n / 10)).size by omega, zgU h0]
  rw [zoi hm, znW hm]
  refine zaF (r' := (b, jH n, e)) (fun k => ?_) rfl
  simp only [zT.l0]
  rw [hw, if_pos (by omega), if_pos (by omega), hb, if_neg (by omega)]
theorem zjA {b : Bool} {s : ByteArray} {e : Int} (hd : dB s = true) (hz : s.size ≤ 1000000) (h1 : -1000000 ≤ e) (h2 : e ≤ 1000000) : Ev (fun k => zT.f k b s e) (b, nD (vB s), nE (vB s) e) := by
 have hv : (jH (vB s)).size ≤ s.size := zaw (zhd hd)
 unfold zT.f
 refine Ev.bind (zjO (by omega) hd) ?_
 by_cases h0 : vB s = 0
 ·simp only [zbk.2 h0, if_true]
  rw [h0]
  exact Ev.now _
 have h3 : ¬ (jH (vB s)).toList = ([] : List UInt8) := fun hh => h0 (zbk.1 hh)
 simp only [h3, if_false]
 exact zeQ b b s e (vB s + 1) (vB s) e h0 (by omega) (by omega) (by omega) (by omega)
theorem zkl {b : Bool} {s : ByteArray} {e : Int} (h : OkD s e) : Ev (fun k => zT.f k b s e) (b, nD (vB s), nE (vB s) e) := by
 have h1 := h.sz
 have h2 := h.lo
 have h3 := h.hi
 exact zjA h.d (by omega) (by omega) (by omega)
def yT.f (k : Nat) (a0_0 : Bool) (a0_1 : ByteArray) (a0_2 : Int) : Option (Bool) := (zT.f k a0_0 a0_1 a0_2).bind fun bt595 => (if bt595.2.1.toList = ([48] : List UInt8) then (some true) else (if bt595.2.2 ≥ (-300) then (some (decide ((wrap64 (bt595.2.2 + (bt595.2.1.size : Int))) ≤ 300))) else (some false)))
theorem yT.mono : ∀ a0 a1 a2 k, LeO (yT.f k a0 a1 a2) (yT.f (k + 1) a0 a1 a2) := by
 intro a0 a1 a2 k
 unfold yT.f
 repeat' first
   | (with_reducible exact zT.mono _ _ _ _)
   | (with_reducible exact LeO.refl _)
   | (with_reducible exact LeO.none _)
   | (with_reducible refine LeO.ite ?_ ?_)
   | (with_reducible refine LeO.bind ?_ (fun _ => ?_))
   | exact zT.mono _ _ _ _
   | exact LeO.none _
   | refine LeO.ite ?_ ?_
   | refine LeO.bind ?_ (fun _ => ?_)
set_option maxHeartbeats 8000000 in
set_option maxRecDepth 100000 in
theorem yT.calls (k : Nat) (a0_0 : Bool) (a0_1 : ByteArray) (a0_2 : Int) (r : Bool) (w : World) (h : yT.f k a0_0 a0_1 a0_2 = some r) :
  Calls Tryz.prog 41 #[.agg #[.bool a0_0, .string a0_1, .int .i64 a0_2]] w fun e w' => e = .returned (.bool r) ∧ Below w.heap.size w w' := by
 have hu23 := Tryz.underlying23
 have HB := K_ (Below.refl w.heap.size w)
 have H : ((zT.f k a0_0 a0_1 a0_2).bind fun bt595 => (if bt595.2.1.toList = ([48] : List UInt8) then (some true) else (if bt595.2.2 ≥ (-300) then (some (decide ((wrap64 (bt595.2.2 + (bt595.2.1.size : Int))) ≤ 300))) else (some false)))) = some r := h
 clear h
 obtain ⟨⟨t595, t596, t597⟩, A20, H⟩ := Option.bind_eq_some_iff.mp H
 (try dsimp -simprocs only at H)
 have A2 := K_ A20
 clear A20
 by_cases c3 : t596.toList = ([48] : List UInt8)
 ·rw [if_pos c3] at H
  have c3b0 : (t596.toList == ([48] : List UInt8)) = true := beq_iff_eq.mpr c3
  have c3b1 : (t596.toList != ([48] : List UInt8)) = false := bne_eq_false_iff_eq.mpr c3
  clear c3
  obtain rfl := Option.some.inj H
  go_enter Tryz.func41, Tryz.ntmps41
  go_wp2_with (first | ((with_reducible refine zH (N := 1) rfl ?_); (try (refine vA (by rfl) ?_; dsimp only)); refine be_ 1 #[.bool a0_0, .string a0_1, .int .i64 a0_2] 23 ?_; intro gb594 hg w4 hbox hb; have BK594 := K_ (hbox); have GW594 := ge_ hg HB; have GE594 := ge_ hg HB; replace HB := zE HB hb; clear hb hbox hg; obtain ⟨⟨hcz5_0, hcz5_1, hcz5_2⟩, hfz5_0, hfz5_1, hfz5_2⟩ := ce3 BK594) | ((with_reducible refine zI (f := 50) rfl ?_); refine zX (some 5) rfl rfl Tryz.func50 (by kernel_rfl) rfl #[.agg #[.bool a0_0, .string a0_1, .int .i64 a0_2]] rfl MP ?_; (with_reducible refine (zT.calls k a0_0 a0_1 a0_2 t595 t596 t597 _ A2.out).mono ?_); rintro e w6 ⟨rfl, hb⟩; refine ⟨_, rfl, ?_⟩; replace BK594 := zC BK594 hb; replace HB := zE HB hb; (try clear hb); (try clear hb2); (try clear hk); (try clear hi)) | ((with_reducible refine zH (N := 3) rfl ?_); (try (refine vA (by rfl) ?_; dsimp only)); refine be_ 3 #[.bool false, .string (⟨#[]⟩ : ByteArray), .int .i64 0] 23 ?_; intro gb598 hg w7 hbox hb; have BK598 := K_ (hbox); have GW598 := ge_ hg HB; have GE598 := ge_ hg HB; replace HB := zE HB hb; have NB594_598 := nb_ hg BK594; have NB598_594 := nc_ hg BK594; replace BK594 := zC BK594 hb; clear hb hbox hg; have hnb8 := NB598_594.out; have hnc8 := NB594_598.out; obtain ⟨⟨hcz9_0, hcz9_1, hcz9_2⟩, hfz9_0, hfz9_1, hfz9_2⟩ := ce3 BK598))
  go_ret
  exact ⟨ER, BL HB⟩
 rw [if_neg c3] at H
 have c3b0 : (t596.toList == ([48] : List UInt8)) = false := beq_eq_false_iff_ne.mpr c3
 have c3b1 : (t596.toList != ([48] : List UInt8)) = true := bne_iff_ne.mpr c3
 by_cases c10 : t597 ≥ (-300)
 ·rw [if_pos c10] at H
  have c10b0 : decide ((-300) ≤ t597) = true := decide_eq_true c10
  clear c10
  obtain rfl := Option.some.inj H
  go_enter Tryz.func41, Tryz.ntmps41
  go_wp2_with (first | ((with_reducible refine zH (N := 1) rfl ?_); (try (refine vA (by rfl) ?_; dsimp only)); refine be_ 1 #[.bool a0_0, .string a0_1, .int .i64 a0_2] 23 ?_; intro gb594 hg w11 hbox hb; have BK594 := K_ (hbox); have GW594 := ge_ hg HB; have GE594 := ge_ hg HB; replace HB := zE HB hb; clear hb hbox hg; obtain ⟨⟨hcz12_0, hcz12_1, hcz12_2⟩, hfz12_0, hfz12_1, hfz12_2⟩ := ce3 BK594) | ((with_reducible refine zI (f := 50) rfl ?_); refine zX (some 5) rfl rfl Tryz.func50 (by kernel_rfl) rfl #[.agg #[.bool a0_0, .string a0_1, .int .i64 a0_2]] rfl MP ?_; (with_reducible refine (zT.calls k a0_0 a0_1 a0_2 t595 t596 t597 _ A2.out).mono ?_); rintro e w13 ⟨rfl, hb⟩; refine ⟨_, rfl, ?_⟩; replace BK594 := zC BK594 hb; replace HB := zE HB hb; (try clear hb); (try clear hb2); (try clear hk); (try clear hi)) | ((with_reducible refine zH (N := 3) rfl ?_); (try (refine vA (by rfl) ?_; dsimp only)); refine be_ 3 #[.bool false, .string (⟨#[]⟩ : ByteArray), .int .i64 0] 23 ?_; intro gb598 hg w14 hbox hb; have BK598 := K_ (hbox); have GW598 := ge_ hg HB; have GE598 := ge_ hg HB; replace HB := zE HB hb; have NB594_598 := nb_ hg BK594; have NB598_594 := nc_ hg BK594; replace BK594 := zC BK594 hb; clear hb hbox hg; have hnb15 := NB598_594.out; have hnc15 := NB594_598.out; obtain ⟨⟨hcz16_0, hcz16_1, hcz16_2⟩, hfz16_0, hfz16_1, hfz16_2⟩ := ce3 BK598))
  go_ret
  exact ⟨ER, BL HB⟩
 rw [if_neg c10] at H
 have c10b0 : decide ((-300) ≤ t597) = false := decide_eq_false c10
 clear c10
 obtain rfl := Option.some.inj H
 go_enter Tryz.func41, Tryz.ntmps41
 go_wp2_with (first | ((with_reducible refine zH (N := 1) rfl ?_); (try (refine vA (by rfl) ?_; dsimp only)); refine be_ 1 #[.bool a0_0, .string a0_1, .int .i64 a0_2] 23 ?_; intro gb594 hg w17 hbox hb; have BK594 := K_ (hbox); have GW594 := ge_ hg HB; have GE594 := ge_ hg HB; replace HB := zE HB hb; clear hb hbox hg; obtain ⟨⟨hcz18_0, hcz18_1, hcz18_2⟩, hfz18_0, hfz18_1, hfz18_2⟩ := ce3 BK594) | ((with_reducible refine zI (f := 50) rfl ?_); refine zX (some 5) rfl rfl Tryz.func50 (by kernel_rfl) rfl #[.agg #[.bool a0_0, .string a0_1, .int .i64 a0_2]] rfl MP ?_; (with_reducible refine (zT.calls k a0_0 a0_1 a0_2 t595 t596 t597 _ A2.out).mono ?_); rintro e w19 ⟨rfl, hb⟩; refine ⟨_, rfl, ?_⟩; replace BK594 := zC BK594 hb; replace HB := zE HB hb; (try clear hb); (try clear hb2); (try clear hk); (try clear hi)) | ((with_reducible refine zH (N := 3) rfl ?_); (try (refine vA (by rfl) ?_; dsimp only)); refine be_ 3 #[.bool false, .string (⟨#[]⟩ : ByteArray), .int .i64 0] 23 ?_; intro gb598 hg w20 hbox hb; have BK598 := K_ (hbox); have GW598 := ge_ hg HB; have GE598 := ge_ hg HB; replace HB := zE HB hb; have NB594_598 := nb_ hg BK594; have NB598_594 := nc_ hg BK594; replace BK594 := zC BK594 hb; clear hb hbox hg; have hnb21 := NB598_594.out; have hnc21 := NB594_598.out; obtain ⟨⟨hcz22_0, hcz22_1, hcz22_2⟩, hfz22_0, hfz22_1, hfz22_2⟩ := ce3 BK598))
 go_ret
 exact ⟨ER, BL HB⟩
theorem zis {b : Bool} {s : ByteArray} {e : Int} (h : OkD s e) : Ev (fun k => yT.f k b s e) (zbr (vB s) e) := by
 have h1 := h.sz
 have h2 := h.lo
 have h3 := h.hi
 have hz := h.val
 unfold yT.f
 refine Ev.bind (zkl h) ?_
 unfold zbr
 have hn : (nD (vB s)).toList = ([48] : List UInt8) ↔ vB s = 0 := by
  rw [← zcv]
  constructor
  ·intro h; apply zaf; rw [← ByteArray.toList_eq, h]; rfl
  intro h; rw [h, ByteArray.toList_eq]; rfl
 by_cases h0 : vB s = 0
 ·simp only [hn.2 h0, if_true]
  refine zdC (Ev.now _) ?_
  simp [h0]
 have hn2 : ¬ (nD (vB s)).toList = ([48] : List UInt8) := fun hh => h0 (hn.1 hh)
 simp only [hn2, if_false]
 by_cases hr : nE (vB s) e ≥ -300
 ·have hl := zbd h0
  have hnd : nD (vB s) = jH (vJ (vB s)) := by unfold nD; rw [if_neg h0]
  have hne : nE (vB s) e = e + (tz (vB s) : Int) := by unfold nE; rw [if_neg h0]
  have hw : wrap64 (nE (vB s) e + ((nD (vB s)).size : Int)) = nE (vB s) e + ((nD (vB s)).size : Int) := by
   rw [hnd, hne, w64 (by omega) (by omega)]
  simp only [hr, if_true, hw]
  refine zdC (Ev.now _) ?_
  rw [decide_eq_decide]
  have hr' : -300 ≤ nE (vB s) e := hr
  unfold qJ
  rw [if_neg h0, hnd]
  simp only [h0, hr', false_or, true_and]
  rw [hne]; omega
 have hr' : ¬ -300 ≤ nE (vB s) e := hr
 simp only [hr, if_false]
 refine zdC (Ev.now _) ?_
 simp [h0, hr']
end Go.Proofs.YtcmgdjnjmobkoaaGreatDoor.Px
namespace Go.Proofs.YtcmgdjnjmobkoaaGreatDoor.Px
set_option linter.all false
open Fig Go.RowKit Go.Proofs.YtcmgdjnjmobkoaaGreatDoorW.PrintWords Go.Proofs.YtcmgdjnjmobkoaaGreatDoorW.PrintLast Go.Proofs.YtcmgdjnjmobkoaaGreatDoorW.PrintMore
attribute [local go_sem] uE uD uW uY vM vO uH uF
structure zaa (q : Pat) (W : World) (b : Nat) : Prop where
 r0 : Kd.R k80 80 W b (fun _ => True) (.slice q.A0 q.l0.length q.c0) q.l0
 r1 : Kd.R k80 80 W b (fun _ => True) (.slice q.A1 q.l1.length q.c1) q.l1
 r3 : Kd.R k80 80 W b (fun _ => True) (.slice q.A3 q.l3.length q.c3) q.l3
 r4 : Kd.R k80 80 W b (fun _ => True) (.slice q.A4 q.l4.length q.c4) q.l4
theorem zaa.below {q : Pat} {W W' : World} {b : Nat} (h : zaa q W b) (hb : Below W.heap.size W W') : zaa q W' b := ⟨Kd.R_below h.r0 hb, Kd.R_below h.r1 hb, Kd.R_below h.r3 hb, Kd.R_below h.r4 hb⟩
theorem zaa.lower {q : Pat} {W : World} {b b' : Nat} (h : zaa q W b) (hb : b' ≤ b) : zaa q W b' := ⟨Kd.R_lower h.r0 hb, Kd.R_lower h.r1 hb, Kd.R_lower h.r3 hb, Kd.R_lower h.r4 hb⟩
theorem zfF {t : TypeId} (ht : (80 : Nat) ≠ t) : ∀ q, q ∈ 80 :: k80.E → q ≠ t := by
 intro q hq
 have h8 : (80 :: k80.E) = [80] := rfl
 rw [h8] at hq
 have : q = 80 := by simpa using hq
 rw [this]; exact ht
theorem zaa.so {q : Pat} {W w1 : World} {b g t : Nat} {cs : Array Value} (h : zaa q W b) (hb : W.heap[g]? = some (.cells cs t (0, 0))) (ht : (80 : Nat) ≠ t) (hfar : ∀ k o, k ≠ g → W.heap[k]? = some o → w1.heap[k]? = some o) : zaa q w1 b :=
 ⟨uA h.r0 hb (zfF ht) hfar, uA h.r1 hb (zfF ht) hfar, uA h.r3 hb (zfF ht) hfar, uA h.r4 hb (zfF ht) hfar⟩
structure zaX (q : Pat) : Prop where
 num : ∃ t, vD t = some q.P
 g0 : vT q.l0
 g1 : vT q.l1
 g3 : vT q.l3
 g4 : vT q.l4
 nmix : ¬ mixed q.l0 q.l1 q.l3 q.l4
 s0 : q.l0.length ≤ 1000
 s1 : q.l1.length ≤ 1000
 s3 : q.l3.length ≤ 1000
 s4 : q.l4.length ≤ 1000
theorem zaX.good {q : Pat} (h : zaX q) : xN q.P := by obtain ⟨t, ht⟩ := h.num; exact zkm ht
theorem zaX.more {q : Pat} (h : zaX q) : zcD q.P := by obtain ⟨t, ht⟩ := h.num; exact zkC ht
theorem zaa.ok {q : Pat} {W : World} {b : Nat} (h : zaa q W b) (g : zaX q) : zbe q W :=
 ⟨(Kd.R_reads' h.r0).2.2, (Kd.R_reads' h.r1).2.2, (Kd.R_reads' h.r3).2.2, (Kd.R_reads' h.r4).2.2, (Kd.R_reads' h.r0).2.1, (Kd.R_reads' h.r1).2.1, (Kd.R_reads' h.r3).2.1, (Kd.R_reads' h.r4).2.1, g.s0, g.s1, g.s3, g.s4, g.g0, g.g1, g.g3, g.g4⟩
def zki (s : ByteArray) (q : Pat) (E : Int) : Prop := ∀ l, Ev (fun k => zF.f k s) (l, 0, 0) → xR l → zas l → ∀ P0, xW (l.map mk73) P0 →
   ¬ mixed (jL (uJ (l.map mk73) (qD (l.map mk73)) l.length)) (jL (uI (l.map mk73) (uV (l.map mk73)) l.length)) (⟨2, 0⟩ :: jL (uJ (l.map mk73) (qD (l.map mk73)) l.length)) (jL (uI (l.map mk73) (uV (l.map mk73)) l.length)) →
   E = 0 ∧ q.P = P0 ∧ q.l0 = jL (uJ (l.map mk73) (qD (l.map mk73)) l.length) ∧ q.l1 = jL (uI (l.map mk73) (uV (l.map mk73)) l.length) ∧ q.l3 = ⟨2, 0⟩ :: q.l0 ∧ q.l4 = q.l1
theorem zhw (s : ByteArray) (hs : s.size ≤ 1048576) (w : World) : Calls Tryz.prog 31 #[.string s] w fun e w' => ∃ (q : Pat) (E a : Int), e = .returned (.tuple #[.agg q.cs, .agg #[.int .i64 E, .int .i64 a]]) ∧ zaa q w' w.heap.size ∧ Below w.heap.size w w' ∧ (E = 0 → zaX q) ∧ zki s q E := by
 refine (zjQ s hs w).mono ?_
 rintro e w' ⟨v1, v2, v3, v4, px, sx, nx, ny, P, hn, at_, pad, wd, E, a, rfl, h1, h2, h3, h4, hb, hg, hex⟩
 obtain ⟨A0, c0, rfl⟩ := Kd.R_slice h1
 obtain ⟨A1, c1, rfl⟩ := Kd.R_slice h2
 obtain ⟨A3, c3, rfl⟩ := Kd.R_slice h3
 obtain ⟨A4, c4, rfl⟩ := Kd.R_slice h4
 refine ⟨⟨A0, A1, A3, A4, c0, c1, c3, c4, px, sx, nx, ny, hn, P, at_, pad, wd⟩, E, a, rfl, ⟨h1, h2, h3, h4⟩, hb, fun hE => ?_, hex⟩
 obtain ⟨i1, i2, i3, i4, i5, i6, i7, i8, i9, i10⟩ := hg hE
 exact ⟨i1, i2, i3, i4, i5, i6, i7, i8, i9, i10⟩
abbrev zfY := Bool × ByteArray × Int
def zcG (W : World) (ad : Addr) (L : List zfY) : Prop := ∀ i (h : i < L.length), W.cell? (ad.add (i * 3)) = some (.bool L[i].1) ∧ W.cell? ⟨(ad.add (i * 3)).block, (ad.add (i * 3)).off + 1, none⟩ = some (.string L[i].2.1) ∧ W.cell? ⟨(ad.add (i * 3)).block, (ad.add (i * 3)).off + 2, none⟩ = some (.int .i64 L[i].2.2)
theorem zcG.below {W W' : World} {ad : Addr} {L : List zfY} (h : zcG W ad L) (hb : Below W.heap.size W W') : zcG W' ad L := fun i hi => by
 obtain ⟨h1, h2, h3⟩ := h i hi
 exact ⟨(hb.cell (World.block_lt_of_cell? _ _ h1)).trans h1, (hb.cell (World.block_lt_of_cell? _ _ h2)).trans h2, (hb.cell (World.block_lt_of_cell? _ _ h3)).trans h3⟩
def zfu (d : zfY) : Prop := d.2.1.size ≤ 120 ∧ zbR d.2.1 d.2.2 = true ∧ zbr (vB d.2.1) d.2.2 = true
set_option maxHeartbeats 8000000 in
set_option maxRecDepth 100000 in
theorem zii (s : ByteArray) (hs : s.size ≤ 1048576) (ad : Addr) (L : List zfY) (hL : L.length ≤ 10) (hsz : ∀ d ∈ L, d.2.1.size ≤ 4611686018427387904) (c : Nat) (hc : L.length ≤ c) (w : World) (hd : zcG w ad L) :
  Calls Tryz.prog 17 #[.string s, .slice (some ad) L.length c] w fun e w' => ∃ (q : Pat) (ok : Bool), e = .returned (.tuple #[.agg q.cs, .bool ok]) ∧ zaa q w' w.heap.size ∧ Below w.heap.size w w' ∧ (ok = true → zaX q ∧ ∀ d ∈ L, zfu d) := by
 have HB := K_ (Below.refl w.heap.size w)
 have HDA := K_ hd
 have HSZ := K_ hsz
 clear hd hsz
 go_enter Tryz.func17, Tryz.ntmps17
 go_upto_region 2 with (first | ((with_reducible refine zH (N := 4) rfl ?_); refine be_ 4 (Z26) 26 ?_; intro g4 hg w2 hbox hb; have BK4 := K_ hbox; have GE4 := ge_ hg HB; replace HB := zE HB hb; clear hb hbox hg) | (go_at_call 31; refine (zhw s hs _).mono ?_; rintro e9 w' ⟨q, E, a, rfl, hrr, hb, hqg, -⟩; have HRR := K_ (hrr.lower (zJ (BL HB))); have HQ := K_ hqg; replace HB := zE HB hb; replace BK4 := zC BK4 hb; clear hb hrr hqg) | ((with_reducible refine zH (N := 6) rfl ?_); refine be_ 6 (Z26) 26 ?_; intro g6 hg w2 hbox hb; have BK6 := K_ hbox; have GE6 := ge_ hg HB; have NB4_6 := nb_ hg BK4; replace BK4 := zC BK4 hb; replace HRR := K_ (HRR.out.below hb); replace HB := zE HB hb; clear hb hbox hg) | ((with_reducible refine zH (N := 7) rfl ?_); refine be_ 7 (Z51) 51 ?_; intro g7 hg w2 hbox hb; have BK7 := K_ hbox; have GE7 := ge_ hg HB; have NB4_7 := nb_ hg BK4; replace BK4 := zC BK4 hb; have NB6_7 := nb_ hg BK6; replace BK6 := zC BK6 hb; replace HRR := K_ (HRR.out.below hb); replace HB := zE HB hb; clear hb hbox hg) | ((with_reducible refine jC (p := 6) rfl ?_); refine so_ (g := g6) (cs := Z26) (q.cs) ⟨BK BK6⟩ ?_ rfl rfl rfl rfl rfl yL rfl rfl; intro w9 hbk hfar hbel; replace BK4 := K_ (hfar _ _ (by first | exact NB4_6.out | exact Ne.symm NB6_4.out) (BK BK4)); replace BK7 := K_ (hfar _ _ (by first | exact NB7_6.out | exact Ne.symm NB6_7.out) (BK BK7)); replace HRR := K_ (HRR.out.so (BK BK6) (by decide) hfar); replace BK6 := K_ hbk; replace HB := K_ (hbel _ _ GE6.out (BL HB)); clear hbk hfar hbel) | ((with_reducible refine jC (p := 7) rfl ?_); refine so_ (g := g7) (cs := Z51) (#[.int .i64 E, .int .i64 a]) ⟨BK BK7⟩ ?_ rfl rfl rfl rfl rfl uT rfl rfl; intro w9 hbk hfar hbel; replace BK4 := K_ (hfar _ _ (by first | exact NB4_7.out | exact Ne.symm NB7_4.out) (BK BK4)); replace BK6 := K_ (hfar _ _ (by first | exact NB6_7.out | exact Ne.symm NB7_6.out) (BK BK6)); replace HRR := K_ (HRR.out.so (BK BK7) (by decide) hfar); replace BK7 := K_ hbk; replace HB := K_ (hbel _ _ GE7.out (BL HB)); clear hbk hfar hbel))
 replace HDA := K_ (HDA.out.below HB.out)
 obtain ⟨⟨q0, q1⟩, q2, q3⟩ := ce2 BK7
 simp only [Act.put, List.setIfInBounds_toArray, List.set_cons_zero, List.set_cons_succ]
 go_cut [8] from 15 to 22 (fun v wx => (∃ b0 : Bool, v = .bool b0 ∧ (b0 = true → zaX q)) ∧ zcG wx ad L ∧ wx.heap[g4]? = some (.cells Z26 26 (0, 0)) ∧ wx.heap[g6]? = some (.cells q.cs 26 (0, 0)) ∧ zaa q wx w.heap.size ∧ Below w.heap.size w wx)
 case first =>
  by_cases hE : E = 0
  ·have dE : (E == 0) = true := beq_iff_eq.2 hE
   by_cases h3 : s.size ≤ 300
   ·have d3 : decide ((s.size : Int) ≤ 300) = true := decide_eq_true (by omega)
    go_wp2
    go_meet
    case rel => exact ⟨⟨true, rfl, fun _ => HQ.out hE⟩, HDA.out, BK BK4, BK BK6, HRR.out, BL HB⟩
   have d3 : decide ((s.size : Int) ≤ 300) = false := decide_eq_false (by omega)
   go_wp2
   go_meet
   case rel => exact ⟨⟨false, rfl, fun h => by cases h⟩, HDA.out, BK BK4, BK BK6, HRR.out, BL HB⟩
  have dE : (E == 0) = false := beq_eq_false_iff_ne.2 hE
  go_wp2
  go_meet
  case rel => exact ⟨⟨false, rfl, fun h => by cases h⟩, HDA.out, BK BK4, BK BK6, HRR.out, BL HB⟩
 case rest =>
  obtain ⟨⟨b0, rfl, hb0⟩, hda, hb4, hb6, hrr, hbw⟩ := hcut
  replace HDA := K_ hda
  have HB0 := K_ hb0
  clear hda hb0 q0 q1 q2 q3
  replace BK4 := K_ hb4
  replace BK6 := K_ hb6
  replace HRR := K_ hrr
  replace HB := K_ hbw
  clear hb4 hb6 hrr hbw
  go_wp2_with (fail)
  go_loopw [8, 9] (fun v i wr => ∃ (j : Nat) (bb : Bool), j ≤ L.length ∧ i = .int .i64 j ∧ v = .bool bb ∧ zcG wr ad L ∧ (bb = true → zaX q ∧ ∀ k (h : k < L.length), k < j → zfu L[k]) ∧ wr.heap[g4]? = some (.cells Z26 26 (0, 0)) ∧ wr.heap[g6]? = some (.cells q.cs 26 (0, 0)) ∧ zaa q wr w.heap.size ∧ Below w.heap.size w wr) (fun _ i _ => L.length - (intOf i).toNat)
  case atStart => exact ⟨0, b0, Nat.zero_le _, rfl, rfl, HDA.out, fun h => ⟨HB0.out h, fun k _ h => absurd h (Nat.not_lt_zero _)⟩, BK BK4, BK BK6, HRR.out, BL HB⟩
  case round =>
   obtain ⟨i, bb, hi, rfl, rfl, hda, hok, hb4, hb6, hrr, hbw⟩ := hrel
   replace HDA := K_ hda
   have HOK := K_ hok
   clear hda hok
   replace BK4 := K_ hb4
   replace BK6 := K_ hb6
   replace HRR := K_ hrr
   replace HB := K_ hbw
   clear hb4 hb6 hrr hbw
   by_cases hlt : i < L.length
   ·have dlt : decide (((i : Nat) : Int) < (L.length : Int)) = true := decide_eq_true (by omega)
    obtain ⟨d, hdd⟩ : ∃ d, d = L[i] := ⟨_, rfl⟩
    obtain ⟨h0, h1, h2⟩ := HDA.out i hlt
    rw [← hdd] at h0 h1 h2
    have HD := K_ hdd
    have hds : d.2.1.size ≤ 4611686018427387904 := by rw [hdd]; exact HSZ.out _ (List.getElem_mem hlt)
    clear hdd
    cases bb
    ·go_wp2
     go_roundw
     case rel => exact ⟨i + 1, false, by omega, by go_num, rfl, HDA.out, (by intro h; cases h), BK BK4, BK BK6, HRR.out, BL HB⟩
     case measure => simp [intOf]; omega
    by_cases hz : d.2.1.size ≤ 120
    ·have dz : decide ((d.2.1.size : Int) ≤ 120) = true := decide_eq_true (by omega)
     obtain ⟨kg, hkg⟩ := Ev.rounds (zjK (b := d.1) (s := d.2.1) (e := d.2.2) hds)
     cases hg : zbR d.2.1 d.2.2
     ·rw [hg] at hkg
      have HKG := K_ hkg
      clear hkg
      go_wp2_with (first | (go_at_call 40; refine (yU.calls kg d.1 d.2.1 d.2.2 false _ HKG.out).mono ?_; rintro e9 w' ⟨rfl, hb⟩; replace HRR := K_ (HRR.out.below hb); replace HB := zE HB hb; replace BK4 := zC BK4 hb; replace BK6 := zC BK6 hb; replace HDA := K_ (HDA.out.below hb); clear hb h0 h1 h2; obtain ⟨h0, h1, h2⟩ := HDA.out i hlt; rw [← HD.out] at h0 h1 h2))
      go_roundw
      case rel => exact ⟨i + 1, false, by omega, by go_num, rfl, HDA.out, (by intro h; cases h), BK BK4, BK BK6, HRR.out, BL HB⟩
      case measure => simp [intOf]; omega
     rw [hg] at hkg
     have HKG := K_ hkg
     obtain ⟨kr, hkr⟩ := Ev.rounds (zis (b := d.1) (OkD.of_good hg))
     clear hkg
     cases hr : zbr (vB d.2.1) d.2.2
     ·rw [hr] at hkr
      have HKR := K_ hkr
      clear hkr
      go_wp2_with (first | (go_at_call 40; refine (yU.calls kg d.1 d.2.1 d.2.2 true _ HKG.out).mono ?_; rintro e9 w' ⟨rfl, hb⟩; replace HRR := K_ (HRR.out.below hb); replace HB := zE HB hb; replace BK4 := zC BK4 hb; replace BK6 := zC BK6 hb; replace HDA := K_ (HDA.out.below hb); clear hb h0 h1 h2; obtain ⟨h0, h1, h2⟩ := HDA.out i hlt; rw [← HD.out] at h0 h1 h2) | (go_at_call 41; refine (yT.calls kr d.1 d.2.1 d.2.2 false _ HKR.out).mono ?_; rintro e9 w' ⟨rfl, hb⟩; replace HRR := K_ (HRR.out.below hb); replace HB := zE HB hb; replace BK4 := zC BK4 hb; replace BK6 := zC BK6 hb; replace HDA := K_ (HDA.out.below hb); clear hb h0 h1 h2))
      go_roundw
      case rel => exact ⟨i + 1, false, by omega, by go_num, rfl, HDA.out, (by intro h; cases h), BK BK4, BK BK6, HRR.out, BL HB⟩
      case measure => simp [intOf]; omega
     rw [hr] at hkr
     have HKR := K_ hkr
     have HDO := K_ (show zfu L[i] by rw [← HD.out]; exact ⟨hz, hg, hr⟩)
     clear hkr
     go_wp2_with (first | (go_at_call 40; refine (yU.calls kg d.1 d.2.1 d.2.2 true _ HKG.out).mono ?_; rintro e9 w' ⟨rfl, hb⟩; replace HRR := K_ (HRR.out.below hb); replace HB := zE HB hb; replace BK4 := zC BK4 hb; replace BK6 := zC BK6 hb; replace HDA := K_ (HDA.out.below hb); clear hb h0 h1 h2; obtain ⟨h0, h1, h2⟩ := HDA.out i hlt; rw [← HD.out] at h0 h1 h2) | (go_at_call 41; refine (yT.calls kr d.1 d.2.1 d.2.2 true _ HKR.out).mono ?_; rintro e9 w' ⟨rfl, hb⟩; replace HRR := K_ (HRR.out.below hb); replace HB := zE HB hb; replace BK4 := zC BK4 hb; replace BK6 := zC BK6 hb; replace HDA := K_ (HDA.out.below hb); clear hb h0 h1 h2))
     go_roundw
     case rel => exact ⟨i + 1, true, by omega, by go_num, rfl, HDA.out, fun _ => ⟨(HOK.out (by trivial)).1, fun k hk hk2 => by rcases Nat.lt_succ_iff_lt_or_eq.1 hk2 with h | h; exact (HOK.out (by trivial)).2 k hk h; subst h; exact HDO.out⟩, BK BK4, BK BK6, HRR.out, BL HB⟩
     case measure => simp [intOf]; omega
    have dz : decide ((d.2.1.size : Int) ≤ 120) = false := decide_eq_false (by omega)
    go_wp2
    go_roundw
    case rel => exact ⟨i + 1, false, by omega, by go_num, rfl, HDA.out, (by intro h; cases h), BK BK4, BK BK6, HRR.out, BL HB⟩
    case measure => simp [intOf]; omega
   obtain rfl : i = L.length := by omega
   have dlt : decide ((L.length : Int) < (L.length : Int)) = false := decide_eq_false (by omega)
   go_wp2_with (first | ((with_reducible refine zH (N := 53) rfl ?_); refine lo_ (g := g6) (cs := q.cs) _ ⟨BK BK6⟩ ?_ rfl rfl rfl Tryz.underlying26 rfl yL) | ((with_reducible refine jC (p := 4) rfl ?_); refine so_ (g := g4) (cs := Z26) (q.cs) ⟨BK BK4⟩ ?_ rfl rfl rfl rfl rfl yL rfl rfl; intro w9 hbk hfar hbel; replace BK6 := K_ (hfar _ _ (by first | exact NB6_4.out | exact Ne.symm NB4_6.out) (BK BK6)); replace HRR := K_ (HRR.out.so (BK BK4) (by decide) hfar); replace BK4 := K_ hbk; replace HB := K_ (hbel _ _ GE4.out (BL HB)); clear hbk hfar hbel))
   refine bodyPost_ret (jF rfl _ _ g4 26 q.cs (0, 0) _ rfl BK4.out Tryz.underlying26 rfl yL) rfl ?_
   exact ⟨q, bb, rfl, HRR.out, BL HB, fun h => ⟨(HOK.out h).1, fun d hd => by
    obtain ⟨k, hk, rfl⟩ := List.getElem_of_mem hd
    exact (HOK.out h).2 k hk hk⟩⟩
end Go.Proofs.YtcmgdjnjmobkoaaGreatDoor.Px
namespace Go.Proofs.YtcmgdjnjmobkoaaGreatDoor.Px
open Fig Go.RowKit Go.Proofs.YtcmgdjnjmobkoaaGreatDoorW.PrintWords Go.Proofs.YtcmgdjnjmobkoaaGreatDoorW.PrintLast Go.Proofs.YtcmgdjnjmobkoaaGreatDoorW.PrintMore
attribute [local go_sem] uE uD uW uY vM vO uH uF
attribute [local go_sem] xG qZ xK xI qX qW qY xD xH xE xL xM xJ xB
def zcm.f (a0_0 : Bool) (a0_1 : ByteArray) (a0_2 : Int) : Option (Bool × ByteArray × Int) := (jQ.f false a0_1 a0_2).bind fun bt653 => (some (bt653.1, bt653.2.1, bt653.2.2))
set_option maxHeartbeats 8000000 in
set_option maxRecDepth 100000 in
theorem zcm.calls (a0_0 : Bool) (a0_1 : ByteArray) (a0_2 : Int) (r1 : Bool) (r2 : ByteArray) (r3 : Int) (w : World) (h : zcm.f a0_0 a0_1 a0_2 = some (r1, r2, r3)) :
  Calls Tryz.prog 72 #[.agg #[.bool a0_0, .string a0_1, .int .i64 a0_2]] w fun e w' => e = .returned (.agg #[.bool r1, .string r2, .int .i64 r3]) ∧ Below w.heap.size w w' := by
 have hu23 := Tryz.underlying23
 have HB := K_ (Below.refl w.heap.size w)
 have H : ((jQ.f false a0_1 a0_2).bind fun bt653 => (some (bt653.1, bt653.2.1, bt653.2.2))) = some (r1, r2, r3) := h
 clear h
 obtain ⟨⟨t653, t654, t655⟩, A20, H⟩ := Option.bind_eq_some_iff.mp H
 (try dsimp -simprocs only at H)
 have A2 := K_ A20
 clear A20
 simp only [Option.some.injEq, Prod.mk.injEq] at H
 obtain ⟨rfl, rfl, rfl⟩ := H
 go_enter Tryz.func72, Tryz.ntmps72
 go_wp2_with (first | (refine be_ 1 #[.bool a0_0, .string a0_1, .int .i64 a0_2] 23 ?_; intro gb651 hg w3 hbox hb; have BK651 := K_ (hbox); have GW651 := ge_ hg HB; have GE651 := ge_ hg HB; replace HB := zE HB hb; clear hb hbox hg) | (refine be_ 2 #[.bool false, .string (⟨#[]⟩ : ByteArray), .int .i64 0] 23 ?_; intro gb652 hg w4 hbox hb; have BK652 := K_ (hbox); have GW652 := ge_ hg HB; have GE652 := ge_ hg HB; replace HB := zE HB hb; have NB651_652 := nb_ hg BK651; have NB652_651 := nc_ hg BK651; replace BK651 := zC BK651 hb; clear hb hbox hg; have hnb5 := NB651_652.out; have hnc5 := NB652_651.out; obtain ⟨⟨hcz6_0, hcz6_1, hcz6_2⟩, hfz6_0, hfz6_1, hfz6_2⟩ := ce3 BK651) | ((with_reducible refine zI (f := 59) rfl ?_); refine zX (some 5) rfl rfl Tryz.func59 (by kernel_rfl) rfl #[.agg #[.bool false, .string a0_1, .int .i64 a0_2]] rfl MP ?_; (with_reducible refine (jQ.calls false a0_1 a0_2 t653 t654 t655 _ A2.out).mono ?_); rintro e w7 ⟨rfl, hb⟩; refine ⟨_, rfl, ?_⟩; replace BK651 := K_ (zaD (g := gb651) (o := .cells #[.bool false, .string a0_1, .int .i64 a0_2] 23 (0, 0)) (BP BK651) hb); replace BK652 := K_ (zaD (g := gb652) (o := .cells #[.bool false, .string (⟨#[]⟩ : ByteArray), .int .i64 0] 23 (0, 0)) (by (with_reducible repeat (first | refine jB ?_ _ | refine zV ?_ | refine jA ?_ _)); refine zR ?_ NB652_651.out _; (with_reducible repeat (first | refine jB ?_ _ | refine zV ?_ | refine jA ?_ _)); exact BK652.out) hb); replace HB := zE HB hb; (try clear hb); (try clear hb2); (try clear hk); (try clear hi); obtain ⟨⟨hcz8_0, hcz8_1, hcz8_2⟩, hfz8_0, hfz8_1, hfz8_2⟩ := ce3 BK652))
 refine bodyPost_ret (results_cell_row rfl _ _ gb652 23 #[.bool t653, .string t654, .int .i64 t655] (0, 0) _ rfl (BP BK652) Tryz.underlying23 rfl (by kernel_rfl)) rfl ?_
 exact ⟨ER, BL HB⟩
def qE.f (a0 : Bool) (l1 : List Int) (a2 : Int) : Option (Bool × ByteArray × Int) := (yW.f l1).bind fun t657 => ((jQ.f a0 t657 a2).bind fun bt658 => (if bt658.1 = true then (some (decide ((l1.length : Int) > 0), bt658.2.1, bt658.2.2)) else (some (false, bt658.2.1, bt658.2.2))))
set_option maxHeartbeats 8000000 in
set_option maxRecDepth 100000 in
theorem qE.calls (a0 : Bool) (A1 : Option Addr) (c1 : Nat) (l1 : List Int) (a2 : Int) (r1 : Bool) (r2 : ByteArray) (r3 : Int) (w : World) (hr1 : Kd.C (Kd.int .u32) w A1 l1.length l1) (hc1 : l1.length ≤ c1) (h : qE.f a0 l1 a2 = some (r1, r2, r3)) :
  Calls Tryz.prog 130 #[.bool a0, .slice A1 l1.length c1, .int .i64 a2] w fun e w' => e = .returned (.agg #[.bool r1, .string r2, .int .i64 r3]) ∧ Below w.heap.size w w' := by
 have hu23 := Tryz.underlying23
 have HR1 := K_ hr1
 have HC1 := K_ hc1
 clear hr1 hc1
 have HB := K_ (Below.refl w.heap.size w)
 have H : ((yW.f l1).bind fun t657 => ((jQ.f a0 t657 a2).bind fun bt658 => (if bt658.1 = true then (some (decide ((l1.length : Int) > 0), bt658.2.1, bt658.2.2)) else (some (false, bt658.2.1, bt658.2.2))))) = some (r1, r2, r3) := h
 clear h
 obtain ⟨t657, A40, H⟩ := Option.bind_eq_some_iff.mp H
 (try dsimp -simprocs only at H)
 have A4 := K_ A40
 clear A40
 obtain ⟨⟨t658, t659, t660⟩, A50, H⟩ := Option.bind_eq_some_iff.mp H
 (try dsimp -simprocs only at H)
 have A5 := K_ A50
 clear A50
 by_cases c6 : t658 = true
 ·subst c6
  rw [if_pos rfl] at H
  simp only [Option.some.injEq, Prod.mk.injEq] at H
  obtain ⟨rfl, rfl, rfl⟩ := H
  rw [show decide ((l1.length : Int) > 0) = decide (0 < l1.length) from by rw [decide_eq_decide]; omega]
  go_enter Tryz.func130, Tryz.ntmps130
  go_wp2_with (first | ((with_reducible refine zH (N := 6) rfl ?_); (try (refine vA (by rfl) ?_; dsimp only)); refine be_ 6 #[.bool false, .string (⟨#[]⟩ : ByteArray), .int .i64 0] 23 ?_; intro gb656 hg w7 hbox hb; have BK656 := K_ (hbox); have GW656 := ge_ hg HB; have GE656 := ge_ hg HB; replace HB := zE HB hb; clear hb hbox hg) | ((with_reducible refine zI (f := 80) rfl ?_); refine zX (some 10) rfl rfl Tryz.func80 (by kernel_rfl) rfl #[.slice A1 l1.length c1] rfl MP ?_; (with_reducible refine (yW.calls _ _ l1 t657 _ ?side1 ?side2 A4.out).mono ?_); (case side1 => exact CB (Kd.C_below HR1.out HB.out)); (case side2 => exact HC1.out); rintro e w8 ⟨rfl, hb⟩; refine ⟨_, rfl, ?_⟩; replace BK656 := zC BK656 hb; replace HB := zE HB hb; (try clear hb); (try clear hb2); (try clear hk); (try clear hi)) | ((with_reducible refine zI (f := 59) rfl ?_); refine zX (some 13) rfl rfl Tryz.func59 (by kernel_rfl) rfl #[.agg #[.bool a0, .string t657, .int .i64 a2]] rfl MP ?_; (with_reducible refine (jQ.calls a0 t657 a2 true t659 t660 _ A5.out).mono ?_); rintro e w9 ⟨rfl, hb⟩; refine ⟨_, rfl, ?_⟩; replace BK656 := zC BK656 hb; replace HB := zE HB hb; (try clear hb); (try clear hb2); (try clear hk); (try clear hi)) | ((with_reducible refine zH (N := 7) rfl ?_); (try (refine vA (by rfl) ?_; dsimp only)); refine be_ 7 #[.bool false, .string (⟨#[]⟩ : ByteArray), .int .i64 0] 23 ?_; intro gb661 hg w10 hbox hb; have BK661 := K_ (hbox); have GW661 := ge_ hg HB; have GE661 := ge_ hg HB; replace HB := zE HB hb; have NB656_661 := nb_ hg BK656; have NB661_656 := nc_ hg BK656; replace BK656 := zC BK656 hb; clear hb hbox hg; have hnb11 := NB661_656.out; have hnc11 := NB656_661.out; obtain ⟨⟨hcz12_0, hcz12_1, hcz12_2⟩, hfz12_0, hfz12_1, hfz12_2⟩ := ce3 BK661; obtain ⟨⟨hcz13_0, hcz13_1, hcz13_2⟩, hfz13_0, hfz13_1, hfz13_2⟩ := ce3 BK656))
  refine bodyPost_ret (results_cell_row rfl _ _ gb656 23 #[.bool (decide (0 < l1.length)), .string t659, .int .i64 t660] (0, 0) _ rfl (by (with_reducible repeat (first | refine jB ?_ _ | refine zV ?_ | refine jA ?_ _)); refine zcb (cs := #[.bool (decide (0 < l1.length)), .string t659, .int .i64 0]) ?_ 2 _ rfl; (with_reducible repeat (first | refine jB ?_ _ | refine zV ?_ | refine jA ?_ _)); refine zcb (cs := #[.bool (decide (0 < l1.length)), .string (⟨#[]⟩ : ByteArray), .int .i64 0]) ?_ 1 _ rfl; (with_reducible repeat (first | refine jB ?_ _ | refine zV ?_ | refine jA ?_ _)); refine zcb (cs := #[.bool false, .string (⟨#[]⟩ : ByteArray), .int .i64 0]) ?_ 0 _ rfl; (with_reducible repeat (first | refine jB ?_ _ | refine zV ?_ | refine jA ?_ _)); refine zR ?_ NB656_661.out _; (with_reducible repeat (first | refine jB ?_ _ | refine zV ?_ | refine jA ?_ _)); refine zR ?_ NB656_661.out _; (with_reducible repeat (first | refine jB ?_ _ | refine zV ?_ | refine jA ?_ _)); refine zR ?_ NB656_661.out _; (with_reducible repeat (first | refine jB ?_ _ | refine zV ?_ | refine jA ?_ _)); refine zR ?_ NB656_661.out _; (with_reducible repeat (first | refine jB ?_ _ | refine zV ?_ | refine jA ?_ _)); exact BK656.out) Tryz.underlying23 rfl (by kernel_rfl)) rfl ?_
  exact ⟨ER, BL HB⟩
 replace c6 := Bool.eq_false_iff.mpr c6
 subst c6
 rw [if_neg (show ¬ (false = true) by decide)] at H
 simp only [Option.some.injEq, Prod.mk.injEq] at H
 obtain ⟨rfl, rfl, rfl⟩ := H
 go_enter Tryz.func130, Tryz.ntmps130
 go_wp2_with (first | ((with_reducible refine zH (N := 6) rfl ?_); (try (refine vA (by rfl) ?_; dsimp only)); refine be_ 6 #[.bool false, .string (⟨#[]⟩ : ByteArray), .int .i64 0] 23 ?_; intro gb656 hg w14 hbox hb; have BK656 := K_ (hbox); have GW656 := ge_ hg HB; have GE656 := ge_ hg HB; replace HB := zE HB hb; clear hb hbox hg) | ((with_reducible refine zI (f := 80) rfl ?_); refine zX (some 10) rfl rfl Tryz.func80 (by kernel_rfl) rfl #[.slice A1 l1.length c1] rfl MP ?_; (with_reducible refine (yW.calls _ _ l1 t657 _ ?side1 ?side2 A4.out).mono ?_); (case side1 => exact CB (Kd.C_below HR1.out HB.out)); (case side2 => exact HC1.out); rintro e w15 ⟨rfl, hb⟩; refine ⟨_, rfl, ?_⟩; replace BK656 := zC BK656 hb; replace HB := zE HB hb; (try clear hb); (try clear hb2); (try clear hk); (try clear hi)) | ((with_reducible refine zI (f := 59) rfl ?_); refine zX (some 13) rfl rfl Tryz.func59 (by kernel_rfl) rfl #[.agg #[.bool a0, .string t657, .int .i64 a2]] rfl MP ?_; (with_reducible refine (jQ.calls a0 t657 a2 false t659 t660 _ A5.out).mono ?_); rintro e w16 ⟨rfl, hb⟩; refine ⟨_, rfl, ?_⟩; replace BK656 := zC BK656 hb; replace HB := zE HB hb; (try clear hb); (try clear hb2); (try clear hk); (try clear hi)) | ((with_reducible refine zH (N := 7) rfl ?_); (try (refine vA (by rfl) ?_; dsimp only)); refine be_ 7 #[.bool false, .string (⟨#[]⟩ : ByteArray), .int .i64 0] 23 ?_; intro gb661 hg w17 hbox hb; have BK661 := K_ (hbox); have GW661 := ge_ hg HB; have GE661 := ge_ hg HB; replace HB := zE HB hb; have NB656_661 := nb_ hg BK656; have NB661_656 := nc_ hg BK656; replace BK656 := zC BK656 hb; clear hb hbox hg; have hnb18 := NB661_656.out; have hnc18 := NB656_661.out; obtain ⟨⟨hcz19_0, hcz19_1, hcz19_2⟩, hfz19_0, hfz19_1, hfz19_2⟩ := ce3 BK661; obtain ⟨⟨hcz20_0, hcz20_1, hcz20_2⟩, hfz20_0, hfz20_1, hfz20_2⟩ := ce3 BK656))
 refine bodyPost_ret (results_cell_row rfl _ _ gb656 23 #[.bool false, .string t659, .int .i64 t660] (0, 0) _ rfl (by (with_reducible repeat (first | refine jB ?_ _ | refine zV ?_ | refine jA ?_ _)); refine zcb (cs := #[.bool false, .string t659, .int .i64 0]) ?_ 2 _ rfl; (with_reducible repeat (first | refine jB ?_ _ | refine zV ?_ | refine jA ?_ _)); refine zcb (cs := #[.bool false, .string (⟨#[]⟩ : ByteArray), .int .i64 0]) ?_ 1 _ rfl; (with_reducible repeat (first | refine jB ?_ _ | refine zV ?_ | refine jA ?_ _)); refine zcb (cs := #[.bool false, .string (⟨#[]⟩ : ByteArray), .int .i64 0]) ?_ 0 _ rfl; (with_reducible repeat (first | refine jB ?_ _ | refine zV ?_ | refine jA ?_ _)); refine zR ?_ NB656_661.out _; (with_reducible repeat (first | refine jB ?_ _ | refine zV ?_ | refine jA ?_ _)); refine zR ?_ NB656_661.out _; (with_reducible repeat (first | refine jB ?_ _ | refine zV ?_ | refine jA ?_ _)); refine zR ?_ NB656_661.out _; (with_reducible repeat (first | refine jB ?_ _ | refine zV ?_ | refine jA ?_ _)); refine zR ?_ NB656_661.out _; (with_reducible repeat (first | refine jB ?_ _ | refine zV ?_ | refine jA ?_ _)); exact BK656.out) Tryz.underlying23 rfl (by kernel_rfl)) rfl ?_
 exact ⟨ER, BL HB⟩
def vE.f (a0_0 : Bool) (a0_1 : ByteArray) (a0_2 : Int) (a1_0 : Bool) (a1_1 : ByteArray) (a1_2 : Int) : Option (Bool × ByteArray × Int) := (qB.f a0_0 a0_1 a0_2).bind fun t665 => ((yS.f t665 (wrap64 (a0_2 - (mn a0_2 a1_2)))).bind fun t668 => ((qB.f a1_0 a1_1 a1_2).bind fun t671 => ((yS.f t671 (wrap64 (a1_2 - (mn a0_2 a1_2)))).bind fun t674 => (if (a0_0 == a1_0) = true then ((vQ.f t668 t674).bind fun t677 => ((qE.f a0_0 t677 (mn a0_2 a1_2)).bind fun bt680 => (some (bt680.1, bt680.2.1, bt680.2.2)))) else ((xY.f t668 t674).bind fun bt683 => (if bt683.2 = true then ((qE.f a0_0 bt683.1 (mn a0_2 a1_2)).bind fun bt687 => (some (bt687.1, bt687.2.1, bt687.2.2))) else ((xY.f t674 t668).bind fun bt690 => ((qE.f a1_0 bt690.1 (mn a0_2 a1_2)).bind fun bt694 => (some (bt694.1, bt694.2.1, bt694.2.2))))))))))
def vE.T2 : Bool × List (List Nat × List Nat) := (true, [([], []), ([0], [0]), ([], []), ([2], [2]), ([], []), ([3, 4], [3, 4]), ([1, 5, 1], [1, 5]), ([], []), ([7, 6], [7]), ([], []), ([9], [9]), ([], []), ([10, 11], [10, 11]), ([8, 12, 8], [8, 12]), ([6, 13, 0, 1, 2, 3, 4, 5, 6], [6]), ([13, 14, 0, 1, 2, 3, 4, 5, 6, 7, 8, 9, 10, 11, 12, 13, 14], [13])])
def vE.B2 : List Nat := [0, 1, 0, 4, 0, 28, 63, 0, 255, 0, 512, 0, 3584, 8191, 16383, 32767]
theorem vE.tab2 : qU .any (zbU Tryz.f98 2) = vE.T2 := by kernel_rfl
theorem vE.bits2 : xZ vE.T2.2 vE.B2 = true := by kernel_rfl
def vE.T4 : Bool × List (List Nat × List Nat) := (true, [([], []), ([0], [0]), ([], []), ([], []), ([2, 3], [2, 3]), ([], []), ([1, 4, 5, 4], [1, 4, 5]), ([6, 6, 0, 1, 2, 3, 4, 5, 6], [6])])
def vE.B4 : List Nat := [0, 1, 0, 0, 12, 0, 63, 127]
theorem vE.tab4 : qU .any (zbU Tryz.f98 4) = vE.T4 := by kernel_rfl
theorem vE.bits4 : xZ vE.T4.2 vE.B4 = true := by kernel_rfl
set_option maxHeartbeats 8000000 in
set_option maxRecDepth 100000 in
theorem vE.calls (a0_0 : Bool) (a0_1 : ByteArray) (a0_2 : Int) (a1_0 : Bool) (a1_1 : ByteArray) (a1_2 : Int) (r1 : Bool) (r2 : ByteArray) (r3 : Int) (w : World) (hG : Fig.Glob w) (h : vE.f a0_0 a0_1 a0_2 a1_0 a1_1 a1_2 = some (r1, r2, r3)) :
  Calls Tryz.prog 98 #[.agg #[.bool a0_0, .string a0_1, .int .i64 a0_2], .agg #[.bool a1_0, .string a1_1, .int .i64 a1_2]] w fun e w' => e = .returned (.agg #[.bool r1, .string r2, .int .i64 r3]) ∧ Below w.heap.size w w' := by
 have hu23 := Tryz.underlying23
 have HG := K_ hG
 clear hG
 have HB := K_ (Below.refl w.heap.size w)
 have H : ((qB.f a0_0 a0_1 a0_2).bind fun t665 => ((yS.f t665 (wrap64 (a0_2 - (mn a0_2 a1_2)))).bind fun t668 => ((qB.f a1_0 a1_1 a1_2).bind fun t671 => ((yS.f t671 (wrap64 (a1_2 - (mn a0_2 a1_2)))).bind fun t674 => (if (a0_0 == a1_0) = true then ((vQ.f t668 t674).bind fun t677 => ((qE.f a0_0 t677 (mn a0_2 a1_2)).bind fun bt680 => (some (bt680.1, bt680.2.1, bt680.2.2)))) else ((xY.f t668 t674).bind fun bt683 => (if bt683.2 = true then ((qE.f a0_0 bt683.1 (mn a0_2 a1_2)).bind fun bt687 => (some (bt687.1, bt687.2.1, bt687.2.2))) else ((xY.f t674 t668).bind fun bt690 => ((qE.f a1_0 bt690.1 (mn a0_2 a1_2)).bind fun bt694 => (some (bt694.1, bt694.2.1, bt694.2.2))))))))))) = some (r1, r2, r3) := h
 clear h
 obtain ⟨ji3, hji3⟩ : ∃ j_ : Int, (mn a0_2 a1_2) = j_ := ⟨_, rfl⟩
 replace H : ((qB.f a0_0 a0_1 a0_2).bind fun t665 => ((yS.f t665 (wrap64 (a0_2 - (ji3)))).bind fun t668 => ((qB.f a1_0 a1_1 a1_2).bind fun t671 => ((yS.f t671 (wrap64 (a1_2 - (ji3)))).bind fun t674 => (if (a0_0 == a1_0) = true then ((vQ.f t668 t674).bind fun t677 => ((qE.f a0_0 t677 (ji3)).bind fun bt680 => (some (bt680.1, bt680.2.1, bt680.2.2)))) else ((xY.f t668 t674).bind fun bt683 => (if bt683.2 = true then ((qE.f a0_0 bt683.1 (ji3)).bind fun bt687 => (some (bt687.1, bt687.2.1, bt687.2.2))) else ((xY.f t674 t668).bind fun bt690 => ((qE.f a1_0 bt690.1 (ji3)).bind fun bt694 => (some (bt694.1, bt694.2.1, bt694.2.2))))))))))) = some (r1, r2, r3) := by first | (rw [hji3] at H; exact H) | (simp only [hji3] at H ⊢; exact H)
 have hji3_ : (if a1_2 < a0_2 then a1_2 else a0_2) = ji3 := hji3
 obtain ⟨t665, A40, H⟩ := Option.bind_eq_some_iff.mp H
 (try dsimp -simprocs only at H)
 have A4 := K_ A40
 clear A40
 obtain ⟨t668, A50, H⟩ := Option.bind_eq_some_iff.mp H
 (try dsimp -simprocs only at H)
 have A5 := K_ A50
 clear A50
 obtain ⟨t671, A60, H⟩ := Option.bind_eq_some_iff.mp H
 (try dsimp -simprocs only at H)
 have A6 := K_ A60
 clear A60
 obtain ⟨t674, A70, H⟩ := Option.bind_eq_some_iff.mp H
 (try dsimp -simprocs only at H)
 have A7 := K_ A70
 clear A70
 (try have HS2_ := K_ H)
 (try clear H)
 go_enter Tryz.func98, Tryz.ntmps98
 try go_wp2_with (first | (refine be_ 2 #[.bool a0_0, .string a0_1, .int .i64 a0_2] 23 ?_; intro gb662 hg w11 hbox hb; have BK662 := K_ (hbox); have GW662 := ge_ hg HB; have GE662 := ge_ hg HB; replace HB := zE HB hb; clear hb hbox hg) | (refine be_ 3 #[.bool a1_0, .string a1_1, .int .i64 a1_2] 23 ?_; intro gb663 hg w12 hbox hb; have BK663 := K_ (hbox); have GW663 := ge_ hg HB; have GE663 := ge_ hg HB; replace HB := zE HB hb; have NB662_663 := nb_ hg BK662; have NB663_662 := nc_ hg BK662; replace BK662 := zC BK662 hb; clear hb hbox hg) | (refine be_ 4 #[.bool false, .string (⟨#[]⟩ : ByteArray), .int .i64 0] 23 ?_; intro gb664 hg w13 hbox hb; have BK664 := K_ (hbox); have GW664 := ge_ hg HB; have GE664 := ge_ hg HB; replace HB := zE HB hb; have NB662_664 := nb_ hg BK662; have NB664_662 := nc_ hg BK662; replace BK662 := zC BK662 hb; have NB663_664 := nb_ hg BK663; have NB664_663 := nc_ hg BK663; replace BK663 := zC BK663 hb; clear hb hbox hg; have hnb14 := NB662_663.out; have hnc14 := NB663_662.out; have hnb15 := NB662_664.out; have hnc15 := NB664_662.out; obtain ⟨⟨hcz16_0, hcz16_1, hcz16_2⟩, hfz16_0, hfz16_1, hfz16_2⟩ := ce3 BK662; have hnb17 := NB663_664.out; have hnc17 := NB664_663.out; obtain ⟨⟨hcz18_0, hcz18_1, hcz18_2⟩, hfz18_0, hfz18_1, hfz18_2⟩ := ce3 BK663))
 (try (rw [vI w13]; generalize hq_ : World.drewN w13 _ = w13; replace BK662 := qC BK662 hq_; replace BK663 := qC BK663 hq_; replace BK664 := qC BK664 hq_; replace HB := zaV HB hq_; clear hq_))
 replace BK662 := K_ (zV BK662.out)
 replace BK663 := K_ (zV BK663.out)
 replace BK664 := K_ (zV BK664.out)
 replace HB := K_ (yM HB.out)
 refine vK (n := 16) (S := fun w' => w'.cell? ⟨gb662, 0, none⟩ = some (.bool a0_0) ∧ w'.cell? ⟨gb662, 1, none⟩ = some (.string a0_1) ∧ w'.cell? ⟨gb662, 2, none⟩ = some (.int .i64 a0_2) ∧ w'.cell? ⟨gb663, 0, none⟩ = some (.bool a1_0) ∧ w'.cell? ⟨gb663, 1, none⟩ = some (.string a1_1) ∧ w'.cell? ⟨gb663, 2, none⟩ = some (.int .i64 a1_2)) (ds := []) #[false, false, false, false, false, false, false, false, false, false, false, false, false, false, false, false] (by kernel_rfl) rfl rfl CE (fun hHeld => ?_); refine qM vE.tab2 vE.bits2 (fun HT_ HW_ => ?_)
 generalize w13.drew = w19 at BK662 BK663 BK664 HB hHeld ⊢
 refine pu_ 2 (some 19) (bb 16 4) (zM HT_.out (by kernel_rfl)) ?_
 refine pu_ 4 (some 21) (bb 16 20) (zM HT_.out (by kernel_rfl)) ?_
 refine pu_ 9 (some 26) (bb 16 532) (zM HT_.out (by kernel_rfl)) ?_
 refine pu_ 11 (some 28) (bb 16 2580) (zM HT_.out (by kernel_rfl)) ?_
 refine tk_ 0 (some 17) (bb 16 2581) (vW HT_.out HW_.out (by kernel_rfl)) hHeld ?_
 refine tk_ 3 (some 20) (bb 16 2589) (vW HT_.out HW_.out (by kernel_rfl)) hHeld ?_
 refine pu_ 5 (some 22) (bb 16 2621) (zM HT_.out (by kernel_rfl)) ?_
 refine tk_ 7 (some 24) (bb 16 2749) (vW HT_.out HW_.out (by kernel_rfl)) hHeld ?_
 refine tk_ 10 (some 27) (bb 16 3773) (vW HT_.out HW_.out (by kernel_rfl)) hHeld ?_
 refine pu_ 12 (some 29) (bb 16 7869) (zM HT_.out (by kernel_rfl)) ?_
 refine jP (i := 1) (N := some 18) (bb 16 7871) rfl rfl (yG HT_.out (by kernel_rfl)) (by decide) (fun K hK => ?_)
 refine yE Tryz.func76 (by kernel_rfl) rfl #[.agg #[.bool a0_0, .string a0_1, .int .i64 a0_2]] (by rfl) rfl rfl MP ?_
 with_reducible refine (qB.calls a0_0 a0_1 a0_2 t665 _ A4.out).mono ?_
 rintro e w20 ⟨v666, rfl, ho0, hb⟩
 refine ⟨_, rfl, ?_⟩
 have HO667 := K_ (Kd.R_lower ho0 (zJ (BL HB)))
 replace BK662 := zC BK662 hb
 replace BK663 := zC BK663 hb
 replace BK664 := zC BK664 hb
 replace HB := zE HB hb
 (try clear hb)
 (try clear hb2)
 (try clear hk)
 (try clear hi)
 (try clear ho0)
 obtain ⟨Ao21, co21, eo21⟩ := Kd.R_slice HO667.out
 (first | subst eo21 | (injection eo21 with f1_ f2_ f3_; have f4_ := f1_.symm; have f5_ := f3_.symm; clear f1_ f2_ f3_; subst f4_; subst f5_))
 refine hK.out _ _ CE (fun hHeld => ?_)
 clear hK K
 refine no_ (some 18) ?_
 refine jP (i := 6) (N := some 23) (bb 16 7935) rfl rfl (yG HT_.out (by kernel_rfl)) (by decide) (fun K hK => ?_)
 refine yE Tryz.func74 (by kernel_rfl) rfl #[.slice Ao21 t665.length co21, .int .i64 (wrap64 (a0_2 - (ji3)))] (by rfl) rfl rfl (by (try simp only [List.map_toArray]); (try simp only [List.map_cons]); (try simp only [List.map_nil]); first | done | (simp only [hji3]; rfl) | rfl | (simp only [List.length_drop, List.length_take]; rfl)) ?_
 with_reducible refine (yS.calls _ _ t665 (wrap64 (a0_2 - (ji3))) t668 _ ?side1 ?side2 ?side3 A5.out).mono ?_
 (case side1 => exact Fig.Glob.below HG.out (BL HB))
 (case side2 => exact CB ((Kd.R_reads' HO667.out).2.2))
 (case side3 => exact (Kd.R_reads' HO667.out).2.1)
 rintro e w22 ⟨v669, rfl, ho0, hb⟩
 refine ⟨_, rfl, ?_⟩
 have HO670 := K_ (Kd.R_lower (Kd.R_new' ho0 (Kd.R_lt (RB HO667.out))) (zJ (BL HB)))
 replace HO667 := K_ (Kd.R_elder' (RB HO667.out) (Kd.R_base ho0) hb)
 replace BK662 := zC BK662 hb
 replace BK663 := zC BK663 hb
 replace BK664 := zC BK664 hb
 replace HB := zE HB hb
 (try clear hb)
 (try clear hb2)
 (try clear hk)
 (try clear hi)
 (try clear ho0)
 refine hK.out _ _ CE (fun hHeld => ?_)
 clear hK K
 refine no_ (some 23) ?_
 refine jP (i := 8) (N := some 25) (bb 16 8191) rfl rfl (yG HT_.out (by kernel_rfl)) (by decide) (fun K hK => ?_)
 refine yE Tryz.func76 (by kernel_rfl) rfl #[.agg #[.bool a1_0, .string a1_1, .int .i64 a1_2]] (by rfl) rfl rfl MP ?_
 with_reducible refine (qB.calls a1_0 a1_1 a1_2 t671 _ A6.out).mono ?_
 rintro e w23 ⟨v672, rfl, ho0, hb⟩
 refine ⟨_, rfl, ?_⟩
 have HO673 := K_ (Kd.R_lower (Kd.R_new' (Kd.R_new' ho0 (Kd.R_lt (RB HO667.out))) (Kd.R_lt (RB HO670.out))) (zJ (BL HB)))
 replace HO667 := K_ (Kd.R_elder' (RB HO667.out) (Kd.R_base ho0) hb)
 replace HO670 := K_ (Kd.R_elder' (RB HO670.out) (Kd.R_base ho0) hb)
 replace BK662 := zC BK662 hb
 replace BK663 := zC BK663 hb
 replace BK664 := zC BK664 hb
 replace HB := zE HB hb
 (try clear hb)
 (try clear hb2)
 (try clear hk)
 (try clear hi)
 (try clear ho0)
 obtain ⟨Ao24, co24, eo24⟩ := Kd.R_slice HO673.out
 (first | subst eo24 | (injection eo24 with f1_ f2_ f3_; have f4_ := f1_.symm; have f5_ := f3_.symm; clear f1_ f2_ f3_; subst f4_; subst f5_))
 refine hK.out _ _ CE (fun hHeld => ?_)
 clear hK K
 refine no_ (some 25) ?_
 refine jP (i := 13) (N := some 30) (bb 16 16383) rfl rfl (yG HT_.out (by kernel_rfl)) (by decide) (fun K hK => ?_)
 refine yE Tryz.func74 (by kernel_rfl) rfl #[.slice Ao24 t671.length co24, .int .i64 (wrap64 (a1_2 - (ji3)))] (by rfl) rfl rfl (by (try simp only [List.map_toArray]); (try simp only [List.map_cons]); (try simp only [List.map_nil]); first | done | (simp only [hji3]; rfl) | rfl | (simp only [List.length_drop, List.length_take]; rfl)) ?_
 with_reducible refine (yS.calls _ _ t671 (wrap64 (a1_2 - (ji3))) t674 _ ?side1 ?side2 ?side3 A7.out).mono ?_
 (case side1 => exact Fig.Glob.below HG.out (BL HB))
 (case side2 => exact CB ((Kd.R_reads' HO673.out).2.2))
 (case side3 => exact (Kd.R_reads' HO673.out).2.1)
 rintro e w25 ⟨v675, rfl, ho0, hb⟩
 refine ⟨_, rfl, ?_⟩
 have HO676 := K_ (Kd.R_lower (Kd.R_new' (Kd.R_new' (Kd.R_new' ho0 (Kd.R_lt (RB HO667.out))) (Kd.R_lt (RB HO670.out))) (Kd.R_lt (RB HO673.out))) (zJ (BL HB)))
 replace HO667 := K_ (Kd.R_elder' (RB HO667.out) (Kd.R_base ho0) hb)
 replace HO670 := K_ (Kd.R_elder' (RB HO670.out) (Kd.R_base ho0) hb)
 replace HO673 := K_ (Kd.R_elder' (RB HO673.out) (Kd.R_base ho0) hb)
 replace BK662 := zC BK662 hb
 replace BK663 := zC BK663 hb
 replace BK664 := zC BK664 hb
 replace HB := zE HB hb
 (try clear hb)
 (try clear hb2)
 (try clear hk)
 (try clear hi)
 (try clear ho0)
 refine hK.out _ _ CE (fun hHeld => ?_)
 clear hK K
 refine no_ (some 30) ?_
 (try have H := HS2_.out)
 (try clear HS2_)
 by_cases c8 : (a0_0 == a1_0) = true
 ·rw [if_pos c8] at H
  have c8b0 : (a0_0 == a1_0) = true := c8
  (try (have c8b1 : decide (a0_0 = a1_0) = true := by simpa using c8))
  (try (have c8b2 : (a0_0 == a1_0) = true := by simpa using c8))
  clear c8
  obtain ⟨t677, A90, H⟩ := Option.bind_eq_some_iff.mp H
  (try dsimp -simprocs only at H)
  have A9 := K_ A90
  clear A90
  obtain ⟨⟨t680, t681, t682⟩, A100, H⟩ := Option.bind_eq_some_iff.mp H
  (try dsimp -simprocs only at H)
  have A10 := K_ A100
  clear A100
  simp only [Option.some.injEq, Prod.mk.injEq] at H
  obtain ⟨rfl, rfl, rfl⟩ := H
  refine pu_ 14 (some 6) (bb 16 32767) (zM HT_.out (by kernel_rfl)) ?_
  refine pu_ 15 (some 7) (bb 16 65535) (zM HT_.out (by kernel_rfl)) ?_
  refine vR (uX HT_.out (by kernel_rfl)) ?_
  obtain ⟨⟨hcz26_0, hcz26_1, hcz26_2⟩, hfz26_0, hfz26_1, hfz26_2⟩ := ce3 BK662
  obtain ⟨⟨hcz27_0, hcz27_1, hcz27_2⟩, hfz27_0, hfz27_1, hfz27_2⟩ := ce3 BK663
  try go_wp2
  (try (rw [vI w25]; generalize hq_ : World.drewN w25 _ = w25; replace HO667 : Aside0 (Kd.R (Kd.int .u32) 95 w25 w.heap.size (fun k_ => some k_ ≠ (v669 : Value).ownBlock ∧ some k_ ≠ (.slice Ao24 t671.length co24 : Value).ownBlock ∧ some k_ ≠ (v675 : Value).ownBlock) (.slice Ao21 t665.length co21) t665) := ⟨by rw [← hq_]; exact (by (with_reducible repeat (first | apply Kd.R_alloc | apply Kd.R_drewN | apply Kd.R_drew)); exact Kd.R_mono HO667.out (fun _ hk => ⟨hk.1.1.2, ⟨hk.1.2, hk.2⟩⟩))⟩; replace HO670 : Aside0 (Kd.R (Kd.int .u32) 95 w25 w.heap.size (fun k_ => some k_ ≠ (.slice Ao21 t665.length co21 : Value).ownBlock ∧ some k_ ≠ (.slice Ao24 t671.length co24 : Value).ownBlock ∧ some k_ ≠ (v675 : Value).ownBlock) v669 t668) := ⟨by rw [← hq_]; exact (by (with_reducible repeat (first | apply Kd.R_alloc | apply Kd.R_drewN | apply Kd.R_drew)); exact Kd.R_mono HO670.out (fun _ hk => ⟨hk.1.1.2, ⟨hk.1.2, hk.2⟩⟩))⟩; replace HO673 : Aside0 (Kd.R (Kd.int .u32) 95 w25 w.heap.size (fun k_ => some k_ ≠ (.slice Ao21 t665.length co21 : Value).ownBlock ∧ some k_ ≠ (v669 : Value).ownBlock ∧ some k_ ≠ (v675 : Value).ownBlock) (.slice Ao24 t671.length co24) t671) := ⟨by rw [← hq_]; exact (by (with_reducible repeat (first | apply Kd.R_alloc | apply Kd.R_drewN | apply Kd.R_drew)); exact Kd.R_mono HO673.out (fun _ hk => ⟨hk.1.1.2, ⟨hk.1.2, hk.2⟩⟩))⟩; replace HO676 : Aside0 (Kd.R (Kd.int .u32) 95 w25 w.heap.size (fun k_ => some k_ ≠ (.slice Ao21 t665.length co21 : Value).ownBlock ∧ some k_ ≠ (v669 : Value).ownBlock ∧ some k_ ≠ (.slice Ao24 t671.length co24 : Value).ownBlock) v675 t674) := ⟨by rw [← hq_]; exact (by (with_reducible repeat (first | apply Kd.R_alloc | apply Kd.R_drewN | apply Kd.R_drew)); exact Kd.R_mono HO676.out (fun _ hk => ⟨hk.1.1.2, ⟨hk.1.2, hk.2⟩⟩))⟩; replace BK662 := qC BK662 hq_; replace BK663 := qC BK663 hq_; replace BK664 := qC BK664 hq_; replace HB := zaV HB hq_; clear hq_))
  replace HO667 := K_ (Kd.R_drew HO667.out)
  replace HO670 := K_ (Kd.R_drew HO670.out)
  replace HO673 := K_ (Kd.R_drew HO673.out)
  replace HO676 := K_ (Kd.R_drew HO676.out)
  replace BK662 := K_ (zV BK662.out)
  replace BK663 := K_ (zV BK663.out)
  replace BK664 := K_ (zV BK664.out)
  replace HB := K_ (yM HB.out)
  obtain ⟨Ao29, co29, eo29⟩ := Kd.R_slice HO670.out
  (first | subst eo29 | (injection eo29 with f1_ f2_ f3_; have f4_ := f1_.symm; have f5_ := f3_.symm; clear f1_ f2_ f3_; subst f4_; subst f5_))
  obtain ⟨Ao30, co30, eo30⟩ := Kd.R_slice HO676.out
  (first | subst eo30 | (injection eo30 with f1_ f2_ f3_; have f4_ := f1_.symm; have f5_ := f3_.symm; clear f1_ f2_ f3_; subst f4_; subst f5_))
  refine vK (n := 8) (S := fun w' => w'.cell? ⟨gb662, 0, none⟩ = some (.bool a0_0) ∧ w'.cell? ⟨gb662, 1, none⟩ = some (.string a0_1) ∧ w'.cell? ⟨gb662, 2, none⟩ = some (.int .i64 a0_2)) (ds := []) #[false, false, false, false, false, false, false, false] (by kernel_rfl) rfl rfl CE (fun hHeld => ?_); refine qM vE.tab4 vE.bits4 (fun HT_ HW_ => ?_)
  generalize w25.drew = w28 at HO667 HO670 HO673 HO676 BK662 BK663 BK664 HB hHeld ⊢
  refine pu_ 0 (some 36) (bb 8 1) (zM HT_.out (by kernel_rfl)) ?_
  refine pu_ 2 (some 38) (bb 8 5) (zM HT_.out (by kernel_rfl)) ?_
  refine pu_ 3 (some 39) (bb 8 13) (zM HT_.out (by kernel_rfl)) ?_
  refine pu_ 5 (some 41) (bb 8 45) (zM HT_.out (by kernel_rfl)) ?_
  refine tk_ 1 (some 37) (bb 8 47) (vW HT_.out HW_.out (by kernel_rfl)) hHeld ?_
  refine jP (i := 4) (N := some 40) (bb 8 63) rfl rfl (yG HT_.out (by kernel_rfl)) (by decide) (fun K hK => ?_)
  refine yE Tryz.func79 (by kernel_rfl) rfl #[.slice Ao29 t668.length co29, .slice Ao30 t674.length co30] (by rfl) rfl rfl MP ?_
  with_reducible refine (vQ.calls _ _ t668 _ _ t674 t677 _ ?side1 ?side2 ?side3 ?side4 A9.out).mono ?_
  (case side1 => exact CB ((Kd.R_reads' HO670.out).2.2))
  (case side2 => exact (Kd.R_reads' HO670.out).2.1)
  (case side3 => exact CB ((Kd.R_reads' HO676.out).2.2))
  (case side4 => exact (Kd.R_reads' HO676.out).2.1)
  rintro e w31 ⟨v678, rfl, ho0, hb⟩
  refine ⟨_, rfl, ?_⟩
  have HO679 := K_ (Kd.R_lower (Kd.R_new' (Kd.R_new' (Kd.R_new' (Kd.R_new' ho0 (Kd.R_lt (RB HO667.out))) (Kd.R_lt (RB HO670.out))) (Kd.R_lt (RB HO673.out))) (Kd.R_lt (RB HO676.out))) (zJ (BL HB)))
  replace HO667 := K_ (Kd.R_elder' (RB HO667.out) (Kd.R_base ho0) hb)
  replace HO670 := K_ (Kd.R_elder' (RB HO670.out) (Kd.R_base ho0) hb)
  replace HO673 := K_ (Kd.R_elder' (RB HO673.out) (Kd.R_base ho0) hb)
  replace HO676 := K_ (Kd.R_elder' (RB HO676.out) (Kd.R_base ho0) hb)
  replace BK662 := zC BK662 hb
  replace BK663 := zC BK663 hb
  replace BK664 := zC BK664 hb
  replace HB := zE HB hb
  (try clear hb)
  (try clear hb2)
  (try clear hk)
  (try clear hi)
  (try clear ho0)
  obtain ⟨Ao32, co32, eo32⟩ := Kd.R_slice HO679.out
  (first | subst eo32 | (injection eo32 with f1_ f2_ f3_; have f4_ := f1_.symm; have f5_ := f3_.symm; clear f1_ f2_ f3_; subst f4_; subst f5_))
  refine hK.out _ _ CE (fun hHeld => ?_)
  clear hK K
  refine no_ (some 40) ?_
  refine jP (i := 6) (N := some 42) (bb 8 127) rfl rfl (yG HT_.out (by kernel_rfl)) (by decide) (fun K hK => ?_)
  refine yE Tryz.func130 (by kernel_rfl) rfl #[.bool a0_0, .slice Ao32 t677.length co32, .int .i64 ji3] (by rfl) rfl rfl (by (try simp only [List.map_toArray]); (try simp only [List.map_cons]); (try simp only [List.map_nil]); first | done | (simp only [hji3]; rfl) | rfl | (simp only [List.length_drop, List.length_take]; rfl)) ?_
  with_reducible refine (qE.calls a0_0 _ _ t677 ji3 t680 t681 t682 _ ?side1 ?side2 A10.out).mono ?_
  (case side1 => exact CB ((Kd.R_reads' HO679.out).2.2))
  (case side2 => exact (Kd.R_reads' HO679.out).2.1)
  rintro e w33 ⟨rfl, hb⟩
  refine ⟨_, rfl, ?_⟩
  replace HO667 := K_ (Kd.R_below (RB HO667.out) hb)
  replace HO670 := K_ (Kd.R_below (RB HO670.out) hb)
  replace HO673 := K_ (Kd.R_below (RB HO673.out) hb)
  replace HO676 := K_ (Kd.R_below (RB HO676.out) hb)
  replace HO679 := K_ (Kd.R_below (RB HO679.out) hb)
  replace BK662 := zC BK662 hb
  replace BK663 := zC BK663 hb
  replace BK664 := zC BK664 hb
  replace HB := zE HB hb
  (try clear hb)
  (try clear hb2)
  (try clear hk)
  (try clear hi)
  refine hK.out _ _ CE (fun hHeld => ?_)
  clear hK K
  refine no_ (some 42) ?_
  refine jP (i := 7) (N := none) (bb 8 255) rfl rfl (yG HT_.out (by kernel_rfl)) (by decide) (fun K hK => ?_)
  have hs34 : w33.cell? ⟨gb664, 0, none⟩ = some (.bool false) := (zD BK664.out 0).trans rfl
  have hfs34 := zK BK664.out 0
  have hns34_0 := NB662_664.out
  have hns34_1 := NB663_664.out
  have hms34_0 := NB664_662.out
  have hms34_1 := NB664_663.out
  have hs35 : w33.cell? ⟨gb664, 1, none⟩ = some (.string (⟨#[]⟩ : ByteArray)) := (zD BK664.out 1).trans rfl
  have hfs35 := zK BK664.out 1
  have hns35_0 := NB662_664.out
  have hns35_1 := NB663_664.out
  have hms35_0 := NB664_662.out
  have hms35_1 := NB664_663.out
  have hs36 : w33.cell? ⟨gb664, 2, none⟩ = some (.int .i64 0) := (zD BK664.out 2).trans rfl
  have hfs36 := zK BK664.out 2
  have hns36_0 := NB662_664.out
  have hns36_1 := NB663_664.out
  have hms36_0 := NB664_662.out
  have hms36_1 := NB664_663.out
  refine zaz (w1 := ?_) (by rfl) rfl ?_ ?_
  rotate_left
  ·go_simp
   rfl
  refine hK.out _ _ ⟨((jD (p := ⟨gb664, _, none⟩) NB662_664.out _).trans (((jD (p := ⟨gb664, _, none⟩) NB662_664.out _).trans (((jD (p := ⟨gb664, _, none⟩) NB662_664.out _).trans (hHeld.1)))))), ((jD (p := ⟨gb664, _, none⟩) NB662_664.out _).trans (((jD (p := ⟨gb664, _, none⟩) NB662_664.out _).trans (((jD (p := ⟨gb664, _, none⟩) NB662_664.out _).trans (hHeld.2.1)))))), ((jD (p := ⟨gb664, _, none⟩) NB662_664.out _).trans (((jD (p := ⟨gb664, _, none⟩) NB662_664.out _).trans (((jD (p := ⟨gb664, _, none⟩) NB662_664.out _).trans (hHeld.2.2))))))⟩ (fun hHeld => ?_)
  clear hK K
  refine vR (uX HT_.out (by kernel_rfl)) ?_
  try go_wp2
  refine bodyPost_ret (results_cell_row rfl _ _ gb664 23 #[.bool t680, .string t681, .int .i64 t682] (0, 0) _ rfl (BP BK664) Tryz.underlying23 rfl (by kernel_rfl)) rfl ?_
  exact ⟨by first | rfl | (simp [jW, jX] <;> rfl) | (simp only [← hji3]; first | rfl | (simp [jW, jX] <;> rfl)) | (simp [*, jW, jX] <;> rfl), BL HB⟩
 rw [if_neg c8] at H
 have c8b0 : (a0_0 == a1_0) = false := by simpa using c8
 (try (have c8b1 : decide (a0_0 = a1_0) = false := by simpa using c8))
 (try (have c8b2 : (a0_0 == a1_0) = false := by simpa using c8))
 (try (have c8b3 : ¬ (a0_0 = a1_0) := by simpa using c8))
 clear c8
 obtain ⟨⟨t683, t684⟩, A370, H⟩ := Option.bind_eq_some_iff.mp H
 (try dsimp -simprocs only at H)
 have A37 := K_ A370
 clear A370
 (try have HS1_ := K_ H)
 (try clear H)
 (try have H := HS1_.out)
 (try clear HS1_)
 by_cases c38 : t684 = true
 ·subst c38
  rw [if_pos rfl] at H
  obtain ⟨⟨t687, t688, t689⟩, A390, H⟩ := Option.bind_eq_some_iff.mp H
  (try dsimp -simprocs only at H)
  have A39 := K_ A390
  clear A390
  simp only [Option.some.injEq, Prod.mk.injEq] at H
  obtain ⟨rfl, rfl, rfl⟩ := H
  refine pu_ 14 (some 6) (bb 16 32767) (zM HT_.out (by kernel_rfl)) ?_
  refine pu_ 15 (some 7) (bb 16 65535) (zM HT_.out (by kernel_rfl)) ?_
  refine vR (uX HT_.out (by kernel_rfl)) ?_
  obtain ⟨⟨hcz55_0, hcz55_1, hcz55_2⟩, hfz55_0, hfz55_1, hfz55_2⟩ := ce3 BK662
  obtain ⟨⟨hcz56_0, hcz56_1, hcz56_2⟩, hfz56_0, hfz56_1, hfz56_2⟩ := ce3 BK663
  obtain ⟨Ao57, co57, eo57⟩ := Kd.R_slice HO670.out
  subst eo57
  obtain ⟨Ao58, co58, eo58⟩ := Kd.R_slice HO676.out
  subst eo58
  try go_wp2_with (first | ((with_reducible refine zI (f := 131) rfl ?_); refine zX (some 46) rfl rfl Tryz.func131 (by kernel_rfl) rfl #[.slice Ao57 t668.length co57, .slice Ao58 t674.length co58] rfl MP ?_; (with_reducible refine (xY.calls _ _ t668 _ _ t674 t683 true _ ?side1 ?side2 ?side3 ?side4 A37.out).mono ?_); (case side1 => exact CB ((Kd.R_reads' HO670.out).2.2)); (case side2 => exact (Kd.R_reads' HO670.out).2.1); (case side3 => exact CB ((Kd.R_reads' HO676.out).2.2)); (case side4 => exact (Kd.R_reads' HO676.out).2.1); rintro e w59 ⟨v685, rfl, ho0, hb⟩; refine ⟨_, rfl, ?_⟩; have HO686 := K_ (Kd.R_lower (Kd.R_new' (Kd.R_new' (Kd.R_new' (Kd.R_new' ho0 (Kd.R_lt (RB HO667.out))) (Kd.R_lt (RB HO670.out))) (Kd.R_lt (RB HO673.out))) (Kd.R_lt (RB HO676.out))) (zJ (BL HB))); replace HO667 := K_ (Kd.R_elder' (RB HO667.out) (Kd.R_base ho0) hb); replace HO670 := K_ (Kd.R_elder' (RB HO670.out) (Kd.R_base ho0) hb); replace HO673 := K_ (Kd.R_elder' (RB HO673.out) (Kd.R_base ho0) hb); replace HO676 := K_ (Kd.R_elder' (RB HO676.out) (Kd.R_base ho0) hb); replace BK662 := zC BK662 hb; replace BK663 := zC BK663 hb; replace BK664 := zC BK664 hb; replace HB := zE HB hb; (try clear hb); (try clear hb2); (try clear hk); (try clear hi); (try clear ho0); obtain ⟨⟨hcz60_0, hcz60_1, hcz60_2⟩, hfz60_0, hfz60_1, hfz60_2⟩ := ce3 BK662; obtain ⟨Ao61, co61, eo61⟩ := Kd.R_slice HO686.out; subst eo61) | ((with_reducible refine zI (f := 130) rfl ?_); refine zX (some 54) rfl rfl Tryz.func130 (by kernel_rfl) rfl #[.bool a0_0, .slice Ao61 t683.length co61, .int .i64 ji3] rfl (by (try simp only [List.map_toArray]); (try simp only [List.map_cons]); (try simp only [List.map_nil]); first | done | (simp only [hji3]; rfl) | rfl | (simp only [List.length_drop, List.length_take]; rfl)) ?_; (with_reducible refine (qE.calls a0_0 _ _ t683 ji3 t687 t688 t689 _ ?side1 ?side2 A39.out).mono ?_); (case side1 => exact CB ((Kd.R_reads' HO686.out).2.2)); (case side2 => exact (Kd.R_reads' HO686.out).2.1); rintro e w62 ⟨rfl, hb⟩; refine ⟨_, rfl, ?_⟩; replace HO667 := K_ (Kd.R_below (RB HO667.out) hb); replace HO670 := K_ (Kd.R_below (RB HO670.out) hb); replace HO673 := K_ (Kd.R_below (RB HO673.out) hb); replace HO676 := K_ (Kd.R_below (RB HO676.out) hb); replace HO686 := K_ (Kd.R_below (RB HO686.out) hb); replace BK662 := zC BK662 hb; replace BK663 := zC BK663 hb; replace BK664 := zC BK664 hb; replace HB := zE HB hb; (try clear hb); (try clear hb2); (try clear hk); (try clear hi); obtain ⟨⟨hcz63_0, hcz63_1, hcz63_2⟩, hfz63_0, hfz63_1, hfz63_2⟩ := ce3 BK664))
  refine bodyPost_ret (results_cell_row rfl _ _ gb664 23 #[.bool t687, .string t688, .int .i64 t689] (0, 0) _ rfl (BP BK664) Tryz.underlying23 rfl (by kernel_rfl)) rfl ?_
  exact ⟨by first | rfl | (simp [jW, jX] <;> rfl) | (simp only [← hji3]; first | rfl | (simp [jW, jX] <;> rfl)) | (simp [*, jW, jX] <;> rfl), BL HB⟩
 replace c38 := Bool.eq_false_iff.mpr c38
 subst c38
 rw [if_neg (show ¬ (false = true) by decide)] at H
 obtain ⟨⟨t690, t691⟩, A640, H⟩ := Option.bind_eq_some_iff.mp H
 (try dsimp -simprocs only at H)
 have A64 := K_ A640
 clear A640
 obtain ⟨⟨t694, t695, t696⟩, A650, H⟩ := Option.bind_eq_some_iff.mp H
 (try dsimp -simprocs only at H)
 have A65 := K_ A650
 clear A650
 simp only [Option.some.injEq, Prod.mk.injEq] at H
 obtain ⟨rfl, rfl, rfl⟩ := H
 refine pu_ 14 (some 6) (bb 16 32767) (zM HT_.out (by kernel_rfl)) ?_
 refine pu_ 15 (some 7) (bb 16 65535) (zM HT_.out (by kernel_rfl)) ?_
 refine vR (uX HT_.out (by kernel_rfl)) ?_
 obtain ⟨⟨hcz55_0, hcz55_1, hcz55_2⟩, hfz55_0, hfz55_1, hfz55_2⟩ := ce3 BK662
 obtain ⟨⟨hcz56_0, hcz56_1, hcz56_2⟩, hfz56_0, hfz56_1, hfz56_2⟩ := ce3 BK663
 obtain ⟨Ao57, co57, eo57⟩ := Kd.R_slice HO670.out
 subst eo57
 obtain ⟨Ao58, co58, eo58⟩ := Kd.R_slice HO676.out
 subst eo58
 try go_wp2_with (first | ((with_reducible refine zI (f := 131) rfl ?_); refine zX (some 46) rfl rfl Tryz.func131 (by kernel_rfl) rfl #[.slice Ao57 t668.length co57, .slice Ao58 t674.length co58] rfl MP ?_; (with_reducible refine (xY.calls _ _ t668 _ _ t674 t683 false _ ?side1 ?side2 ?side3 ?side4 A37.out).mono ?_); (case side1 => exact CB ((Kd.R_reads' HO670.out).2.2)); (case side2 => exact (Kd.R_reads' HO670.out).2.1); (case side3 => exact CB ((Kd.R_reads' HO676.out).2.2)); (case side4 => exact (Kd.R_reads' HO676.out).2.1); rintro e w85 ⟨v685, rfl, ho0, hb⟩; refine ⟨_, rfl, ?_⟩; have HO686 := K_ (Kd.R_lower (Kd.R_new' (Kd.R_new' (Kd.R_new' (Kd.R_new' ho0 (Kd.R_lt (RB HO667.out))) (Kd.R_lt (RB HO670.out))) (Kd.R_lt (RB HO673.out))) (Kd.R_lt (RB HO676.out))) (zJ (BL HB))); replace HO667 := K_ (Kd.R_elder' (RB HO667.out) (Kd.R_base ho0) hb); replace HO670 := K_ (Kd.R_elder' (RB HO670.out) (Kd.R_base ho0) hb); replace HO673 := K_ (Kd.R_elder' (RB HO673.out) (Kd.R_base ho0) hb); replace HO676 := K_ (Kd.R_elder' (RB HO676.out) (Kd.R_base ho0) hb); replace BK662 := zC BK662 hb; replace BK663 := zC BK663 hb; replace BK664 := zC BK664 hb; replace HB := zE HB hb; (try clear hb); (try clear hb2); (try clear hk); (try clear hi); (try clear ho0)) | ((with_reducible refine zI (f := 131) rfl ?_); refine zX (some 58) rfl rfl Tryz.func131 (by kernel_rfl) rfl #[.slice Ao58 t674.length co58, .slice Ao57 t668.length co57] rfl MP ?_; (with_reducible refine (xY.calls _ _ t674 _ _ t668 t690 t691 _ ?side1 ?side2 ?side3 ?side4 A64.out).mono ?_); (case side1 => exact CB ((Kd.R_reads' HO676.out).2.2)); (case side2 => exact (Kd.R_reads' HO676.out).2.1); (case side3 => exact CB ((Kd.R_reads' HO670.out).2.2)); (case side4 => exact (Kd.R_reads' HO670.out).2.1); rintro e w86 ⟨v692, rfl, ho0, hb⟩; refine ⟨_, rfl, ?_⟩; have HO693 := K_ (Kd.R_lower (Kd.R_new' (Kd.R_new' (Kd.R_new' (Kd.R_new' (Kd.R_new' ho0 (Kd.R_lt (RB HO667.out))) (Kd.R_lt (RB HO670.out))) (Kd.R_lt (RB HO673.out))) (Kd.R_lt (RB HO676.out))) (Kd.R_lt (RB HO686.out))) (zJ (BL HB))); replace HO667 := K_ (Kd.R_elder' (RB HO667.out) (Kd.R_base ho0) hb); replace HO670 := K_ (Kd.R_elder' (RB HO670.out) (Kd.R_base ho0) hb); replace HO673 := K_ (Kd.R_elder' (RB HO673.out) (Kd.R_base ho0) hb); replace HO676 := K_ (Kd.R_elder' (RB HO676.out) (Kd.R_base ho0) hb); replace HO686 := K_ (Kd.R_elder' (RB HO686.out) (Kd.R_base ho0) hb); replace BK662 := zC BK662 hb; replace BK663 := zC BK663 hb; replace BK664 := zC BK664 hb; replace HB := zE HB hb; (try clear hb); (try clear hb2); (try clear hk); (try clear hi); (try clear ho0); obtain ⟨⟨hcz87_0, hcz87_1, hcz87_2⟩, hfz87_0, hfz87_1, hfz87_2⟩ := ce3 BK663; obtain ⟨Ao88, co88, eo88⟩ := Kd.R_slice HO693.out; subst eo88) | ((with_reducible refine zI (f := 130) rfl ?_); refine zX (some 65) rfl rfl Tryz.func130 (by kernel_rfl) rfl #[.bool a1_0, .slice Ao88 t690.length co88, .int .i64 ji3] rfl (by (try simp only [List.map_toArray]); (try simp only [List.map_cons]); (try simp only [List.map_nil]); first | done | (simp only [hji3]; rfl) | rfl | (simp only [List.length_drop, List.length_take]; rfl)) ?_; (with_reducible refine (qE.calls a1_0 _ _ t690 ji3 t694 t695 t696 _ ?side1 ?side2 A65.out).mono ?_); (case side1 => exact CB ((Kd.R_reads' HO693.out).2.2)); (case side2 => exact (Kd.R_reads' HO693.out).2.1); rintro e w89 ⟨rfl, hb⟩; refine ⟨_, rfl, ?_⟩; replace HO667 := K_ (Kd.R_below (RB HO667.out) hb); replace HO670 := K_ (Kd.R_below (RB HO670.out) hb); replace HO673 := K_ (Kd.R_below (RB HO673.out) hb); replace HO676 := K_ (Kd.R_below (RB HO676.out) hb); replace HO686 := K_ (Kd.R_below (RB HO686.out) hb); replace HO693 := K_ (Kd.R_below (RB HO693.out) hb); replace BK662 := zC BK662 hb; replace BK663 := zC BK663 hb; replace BK664 := zC BK664 hb; replace HB := zE HB hb; (try clear hb); (try clear hb2); (try clear hk); (try clear hi); obtain ⟨⟨hcz90_0, hcz90_1, hcz90_2⟩, hfz90_0, hfz90_1, hfz90_2⟩ := ce3 BK664))
 refine bodyPost_ret (results_cell_row rfl _ _ gb664 23 #[.bool t694, .string t695, .int .i64 t696] (0, 0) _ rfl (BP BK664) Tryz.underlying23 rfl (by kernel_rfl)) rfl ?_
 exact ⟨by first | rfl | (simp [jW, jX] <;> rfl) | (simp only [← hji3]; first | rfl | (simp [jW, jX] <;> rfl)) | (simp [*, jW, jX] <;> rfl), BL HB⟩
def zcq.f (a0_0 : Bool) (a0_1 : ByteArray) (a0_2 : Int) (a1_0 : Bool) (a1_1 : ByteArray) (a1_2 : Int) : Option (Bool × ByteArray × Int) := (vE.f a0_0 a0_1 a0_2 (!a1_0) a1_1 a1_2).bind fun bt700 => (some (bt700.1, bt700.2.1, bt700.2.2))
set_option maxHeartbeats 8000000 in
set_option maxRecDepth 100000 in
theorem zcq.calls (a0_0 : Bool) (a0_1 : ByteArray) (a0_2 : Int) (a1_0 : Bool) (a1_1 : ByteArray) (a1_2 : Int) (r1 : Bool) (r2 : ByteArray) (r3 : Int) (w : World) (hG : Fig.Glob w) (h : zcq.f a0_0 a0_1 a0_2 a1_0 a1_1 a1_2 = some (r1, r2, r3)) :
  Calls Tryz.prog 73 #[.agg #[.bool a0_0, .string a0_1, .int .i64 a0_2], .agg #[.bool a1_0, .string a1_1, .int .i64 a1_2]] w fun e w' => e = .returned (.agg #[.bool r1, .string r2, .int .i64 r3]) ∧ Below w.heap.size w w' := by
 have hu23 := Tryz.underlying23
 have HG := K_ hG
 clear hG
 have HB := K_ (Below.refl w.heap.size w)
 have H : ((vE.f a0_0 a0_1 a0_2 (!a1_0) a1_1 a1_2).bind fun bt700 => (some (bt700.1, bt700.2.1, bt700.2.2))) = some (r1, r2, r3) := h
 clear h
 obtain ⟨⟨t700, t701, t702⟩, A30, H⟩ := Option.bind_eq_some_iff.mp H
 (try dsimp -simprocs only at H)
 have A3 := K_ A30
 clear A30
 simp only [Option.some.injEq, Prod.mk.injEq] at H
 obtain ⟨rfl, rfl, rfl⟩ := H
 go_enter Tryz.func73, Tryz.ntmps73
 go_wp2_with (first | (refine be_ 2 #[.bool a0_0, .string a0_1, .int .i64 a0_2] 23 ?_; intro gb697 hg w4 hbox hb; have BK697 := K_ (hbox); have GW697 := ge_ hg HB; have GE697 := ge_ hg HB; replace HB := zE HB hb; clear hb hbox hg) | (refine be_ 3 #[.bool a1_0, .string a1_1, .int .i64 a1_2] 23 ?_; intro gb698 hg w5 hbox hb; have BK698 := K_ (hbox); have GW698 := ge_ hg HB; have GE698 := ge_ hg HB; replace HB := zE HB hb; have NB697_698 := nb_ hg BK697; have NB698_697 := nc_ hg BK697; replace BK697 := zC BK697 hb; clear hb hbox hg) | (refine be_ 4 #[.bool false, .string (⟨#[]⟩ : ByteArray), .int .i64 0] 23 ?_; intro gb699 hg w6 hbox hb; have BK699 := K_ (hbox); have GW699 := ge_ hg HB; have GE699 := ge_ hg HB; replace HB := zE HB hb; have NB697_699 := nb_ hg BK697; have NB699_697 := nc_ hg BK697; replace BK697 := zC BK697 hb; have NB698_699 := nb_ hg BK698; have NB699_698 := nc_ hg BK698; replace BK698 := zC BK698 hb; clear hb hbox hg; have hnb7 := NB698_697.out; have hnc7 := NB697_698.out; have hnb8 := NB698_699.out; have hnc8 := NB699_698.out; obtain ⟨⟨hcz9_0, hcz9_1, hcz9_2⟩, hfz9_0, hfz9_1, hfz9_2⟩ := ce3 BK698; have hnb10 := NB697_699.out; have hnc10 := NB699_697.out; obtain ⟨⟨hcz11_0, hcz11_1, hcz11_2⟩, hfz11_0, hfz11_1, hfz11_2⟩ := ce3 BK697) | ((with_reducible refine zI (f := 98) rfl ?_); refine zX (some 11) rfl rfl Tryz.func98 (by kernel_rfl) rfl #[.agg #[.bool a0_0, .string a0_1, .int .i64 a0_2], .agg #[.bool (!a1_0), .string a1_1, .int .i64 a1_2]] rfl MP ?_; (with_reducible refine (vE.calls a0_0 a0_1 a0_2 (!a1_0) a1_1 a1_2 t700 t701 t702 _ ?side1 A3.out).mono ?_); (case side1 => exact Fig.Glob.below HG.out (BL HB)); rintro e w12 ⟨rfl, hb⟩; refine ⟨_, rfl, ?_⟩; replace BK697 := K_ (zaD (g := gb697) (o := .cells #[.bool a0_0, .string a0_1, .int .i64 a0_2] 23 (0, 0)) (by (with_reducible repeat (first | refine jB ?_ _ | refine zV ?_ | refine jA ?_ _)); refine zR ?_ NB697_698.out _; (with_reducible repeat (first | refine jB ?_ _ | refine zV ?_ | refine jA ?_ _)); exact BK697.out) hb); replace BK698 := K_ (zaD (g := gb698) (o := .cells #[.bool (!a1_0), .string a1_1, .int .i64 a1_2] 23 (0, 0)) (BP BK698) hb); replace BK699 := K_ (zaD (g := gb699) (o := .cells #[.bool false, .string (⟨#[]⟩ : ByteArray), .int .i64 0] 23 (0, 0)) (by (with_reducible repeat (first | refine jB ?_ _ | refine zV ?_ | refine jA ?_ _)); refine zR ?_ NB699_698.out _; (with_reducible repeat (first | refine jB ?_ _ | refine zV ?_ | refine jA ?_ _)); exact BK699.out) hb); replace HB := zE HB hb; (try clear hb); (try clear hb2); (try clear hk); (try clear hi); obtain ⟨⟨hcz13_0, hcz13_1, hcz13_2⟩, hfz13_0, hfz13_1, hfz13_2⟩ := ce3 BK699))
 refine bodyPost_ret (results_cell_row rfl _ _ gb699 23 #[.bool t700, .string t701, .int .i64 t702] (0, 0) _ rfl (BP BK699) Tryz.underlying23 rfl (by kernel_rfl)) rfl ?_
 exact ⟨ER, BL HB⟩
def zdA.f (a0_0 : Bool) (a0_1 : ByteArray) (a0_2 : Int) (a1_0 : Bool) (a1_1 : ByteArray) (a1_2 : Int) : Option (Bool × ByteArray × Int) := (zcq.f a0_0 a0_1 a0_2 a1_0 a1_1 a1_2).bind fun bt706 => ((zcm.f bt706.1 bt706.2.1 bt706.2.2).bind fun bt709 => (some (bt709.1, bt709.2.1, bt709.2.2)))
set_option maxHeartbeats 8000000 in
set_option maxRecDepth 100000 in
theorem zdA.calls (a0_0 : Bool) (a0_1 : ByteArray) (a0_2 : Int) (a1_0 : Bool) (a1_1 : ByteArray) (a1_2 : Int) (r1 : Bool) (r2 : ByteArray) (r3 : Int) (w : World) (hG : Fig.Glob w) (h : zdA.f a0_0 a0_1 a0_2 a1_0 a1_1 a1_2 = some (r1, r2, r3)) :
  Calls Tryz.prog 45 #[.agg #[.bool a0_0, .string a0_1, .int .i64 a0_2], .agg #[.bool a1_0, .string a1_1, .int .i64 a1_2]] w fun e w' => e = .returned (.agg #[.bool r1, .string r2, .int .i64 r3]) ∧ Below w.heap.size w w' := by
 have hu23 := Tryz.underlying23
 have HG := K_ hG
 clear hG
 have HB := K_ (Below.refl w.heap.size w)
 have H : ((zcq.f a0_0 a0_1 a0_2 a1_0 a1_1 a1_2).bind fun bt706 => ((zcm.f bt706.1 bt706.2.1 bt706.2.2).bind fun bt709 => (some (bt709.1, bt709.2.1, bt709.2.2)))) = some (r1, r2, r3) := h
 clear h
 obtain ⟨⟨t706, t707, t708⟩, A30, H⟩ := Option.bind_eq_some_iff.mp H
 (try dsimp -simprocs only at H)
 have A3 := K_ A30
 clear A30
 obtain ⟨⟨t709, t710, t711⟩, A40, H⟩ := Option.bind_eq_some_iff.mp H
 (try dsimp -simprocs only at H)
 have A4 := K_ A40
 clear A40
 simp only [Option.some.injEq, Prod.mk.injEq] at H
 obtain ⟨rfl, rfl, rfl⟩ := H
 go_enter Tryz.func45, Tryz.ntmps45
 go_wp2_with (first | (refine be_ 2 #[.bool a0_0, .string a0_1, .int .i64 a0_2] 23 ?_; intro gb703 hg w5 hbox hb; have BK703 := K_ (hbox); have GW703 := ge_ hg HB; have GE703 := ge_ hg HB; replace HB := zE HB hb; clear hb hbox hg) | (refine be_ 3 #[.bool a1_0, .string a1_1, .int .i64 a1_2] 23 ?_; intro gb704 hg w6 hbox hb; have BK704 := K_ (hbox); have GW704 := ge_ hg HB; have GE704 := ge_ hg HB; replace HB := zE HB hb; have NB703_704 := nb_ hg BK703; have NB704_703 := nc_ hg BK703; replace BK703 := zC BK703 hb; clear hb hbox hg) | (refine be_ 4 #[.bool false, .string (⟨#[]⟩ : ByteArray), .int .i64 0] 23 ?_; intro gb705 hg w7 hbox hb; have BK705 := K_ (hbox); have GW705 := ge_ hg HB; have GE705 := ge_ hg HB; replace HB := zE HB hb; have NB703_705 := nb_ hg BK703; have NB705_703 := nc_ hg BK703; replace BK703 := zC BK703 hb; have NB704_705 := nb_ hg BK704; have NB705_704 := nc_ hg BK704; replace BK704 := zC BK704 hb; clear hb hbox hg; have hnb8 := NB703_704.out; have hnc8 := NB704_703.out; have hnb9 := NB703_705.out; have hnc9 := NB705_703.out; obtain ⟨⟨hcz10_0, hcz10_1, hcz10_2⟩, hfz10_0, hfz10_1, hfz10_2⟩ := ce3 BK703; have hnb11 := NB704_705.out; have hnc11 := NB705_704.out; obtain ⟨⟨hcz12_0, hcz12_1, hcz12_2⟩, hfz12_0, hfz12_1, hfz12_2⟩ := ce3 BK704) | ((with_reducible refine zI (f := 73) rfl ?_); refine zX (some 7) rfl rfl Tryz.func73 (by kernel_rfl) rfl #[.agg #[.bool a0_0, .string a0_1, .int .i64 a0_2], .agg #[.bool a1_0, .string a1_1, .int .i64 a1_2]] rfl MP ?_; (with_reducible refine (zcq.calls a0_0 a0_1 a0_2 a1_0 a1_1 a1_2 t706 t707 t708 _ ?side1 A3.out).mono ?_); (case side1 => exact Fig.Glob.below HG.out (BL HB)); rintro e w13 ⟨rfl, hb⟩; refine ⟨_, rfl, ?_⟩; replace BK703 := zC BK703 hb; replace BK704 := zC BK704 hb; replace BK705 := zC BK705 hb; replace HB := zE HB hb; (try clear hb); (try clear hb2); (try clear hk); (try clear hi)) | ((with_reducible refine zI (f := 72) rfl ?_); refine zX (some 8) rfl rfl Tryz.func72 (by kernel_rfl) rfl #[.agg #[.bool t706, .string t707, .int .i64 t708]] rfl MP ?_; (with_reducible refine (zcm.calls t706 t707 t708 t709 t710 t711 _ A4.out).mono ?_); rintro e w14 ⟨rfl, hb⟩; refine ⟨_, rfl, ?_⟩; replace BK703 := zC BK703 hb; replace BK704 := zC BK704 hb; replace BK705 := zC BK705 hb; replace HB := zE HB hb; (try clear hb); (try clear hb2); (try clear hk); (try clear hi); obtain ⟨⟨hcz15_0, hcz15_1, hcz15_2⟩, hfz15_0, hfz15_1, hfz15_2⟩ := ce3 BK705))
 refine bodyPost_ret (results_cell_row rfl _ _ gb705 23 #[.bool t709, .string t710, .int .i64 t711] (0, 0) _ rfl (BP BK705) Tryz.underlying23 rfl (by kernel_rfl)) rfl ?_
 exact ⟨ER, BL HB⟩
end Go.Proofs.YtcmgdjnjmobkoaaGreatDoor.Px
namespace Go.Proofs.YtcmgdjnjmobkoaaGreatDoor.Px
set_option linter.all false
open Fig Go.RowKit Go.Proofs.YtcmgdjnjmobkoaaGreatDoorW.PrintWords Go.Proofs.YtcmgdjnjmobkoaaGreatDoorW.PrintLast Go.Proofs.YtcmgdjnjmobkoaaGreatDoorW.PrintMore
attribute [local go_sem] uE uD uW uY vM vO uH uF
def s24 : ByteArray := ⟨#[35, 44, 35, 35, 48, 46, 48, 48, 37]⟩
def l24 : List S71 := [⟨35, false, 0⟩, ⟨44, false, 1⟩, ⟨35, false, 2⟩, ⟨35, false, 3⟩, ⟨48, false, 4⟩, ⟨46, false, 5⟩, ⟨48, false, 6⟩, ⟨48, false, 7⟩, ⟨37, false, 8⟩]
theorem zom : zF.f 100 s24 = some (l24, 0, 0) := by kernel_rfl
def P24 : yK := ⟨1, 0, 2, 2, 0, 0, 3, 3, ⟨#[]⟩, false, 0, false⟩
theorem n24 : vD (zaN (l24.map mk73) (qD (l24.map mk73)) (uV (l24.map mk73)) (l24.map mk73).length) = some P24 := by kernel_rfl
theorem h24 : xW (l24.map mk73) P24 := ⟨by decide +kernel, by kernel_rfl, n24, by kernel_rfl⟩
theorem p24 : jL (uJ (l24.map mk73) (qD (l24.map mk73)) l24.length) = [] := by kernel_rfl
theorem f24 : jL (uI (l24.map mk73) (uV (l24.map mk73)) l24.length) = [⟨4, 0⟩] := by kernel_rfl
theorem a24 : yA.f false ⟨#[49]⟩ (-2) (-2) = some (false, ⟨#[49]⟩, -4) := by kernel_rfl
theorem b24 : yA.f false ⟨#[49, 50, 51, 52, 53]⟩ (-5) 2 = some (false, ⟨#[49, 50, 51, 52, 53]⟩, -3) := by kernel_rfl
theorem c24 : yA.f false ⟨#[49, 50, 51, 52]⟩ (-4) 2 = some (false, ⟨#[49, 50, 51, 52]⟩, -2) := by kernel_rfl
theorem d24 : qP.f false ⟨#[49, 50, 51, 52, 53]⟩ (-3) (-2) = some false := by kernel_rfl
theorem e24 : qP.f false ⟨#[49, 50, 51, 52]⟩ (-2) (-2) = some true := by kernel_rfl
theorem o24 : zdA.f false ⟨#[49, 50, 51, 52, 53]⟩ (-5) false ⟨#[49]⟩ 0 = some (false, ⟨#[56, 55, 54, 53, 53]⟩, -5) := by kernel_rfl
theorem zon : xR l24 := by unfold xR; decide +kernel
theorem zoo : zas l24 := by unfold zas; decide +kernel
theorem zol : ¬ mixed ([] : List S80) [⟨4, 0⟩] [⟨2, 0⟩] [⟨4, 0⟩] := by unfold mixed sgn; decide +kernel
theorem zoq : Ev (fun k => zF.f k s24) (l24, 0, 0) := Ev.of (zF.mono s24) zom
theorem znu {q : Pat} (h0 : q.l0 = []) (h1 : q.l1 = [⟨4, 0⟩]) (h3 : q.l3 = [⟨2, 0⟩]) (h4 : q.l4 = [⟨4, 0⟩]) : q.mult = 2 := by
 unfold Pat.mult Pat.sg; rw [h0, h1, h3, h4]; rfl
theorem znS {q : Pat} {E : Int} (h : zki s24 q E) : E = 0 ∧ q.P = P24 ∧ q.mult = 2 := by
 have hx := h l24 zoq zon zoo P24 h24
 rw [p24, f24] at hx
 obtain ⟨h1, h2, h3, h4, h5, h6⟩ := hx zol
 refine ⟨h1, h2, znu h3 h4 (by rw [h5, h3]) (by rw [h6, h4])⟩
theorem znr {q : Pat} (hP : q.P = P24) (hm : q.mult = 2) : zmd q false ⟨#[49, 50, 51, 52, 53]⟩ (-5) (false, ⟨#[49]⟩, -4) := by
 refine ⟨⟨#[49]⟩, -2, by rw [hm]; exact a24, fun h => ?_, fun _ h => ?_, fun _ _ => ⟨rfl, by rw [hP]; rfl⟩⟩
 ·rw [hP] at h; rcases h with h | h <;> exact absurd h (by decide)
 rw [hP] at h; exact absurd rfl h
theorem zod {q : Pat} (hP : q.P = P24) (hm : q.mult = 2) : IsR q false ⟨#[49, 50, 51, 52, 53]⟩ (-5) false := by
 refine ⟨false, ⟨#[49, 50, 51, 52, 53]⟩, -3, by rw [hm]; exact b24, fun h => ?_, fun _ h => ?_, fun _ _ => by rw [hP]; exact d24⟩
 ·rw [hP] at h; rcases h with h | h <;> exact absurd h (by decide)
 rw [hP] at h; exact absurd rfl h
theorem znZ {q : Pat} (hP : q.P = P24) (hm : q.mult = 2) : IsR q false ⟨#[49, 50, 51, 52]⟩ (-4) true := by
 refine ⟨false, ⟨#[49, 50, 51, 52]⟩, -2, by rw [hm]; exact c24, fun h => ?_, fun _ h => ?_, fun _ _ => by rw [hP]; exact e24⟩
 ·rw [hP] at h; rcases h with h | h <;> exact absurd h (by decide)
 rw [hP] at h; exact absurd rfl h
set_option maxHeartbeats 8000000 in
set_option maxRecDepth 100000 in
theorem zaL (w : World) (hG : Fig.Glob w) : Calls Tryz.prog 19 #[] w fun e w' => e = .returned (.bool true) ∧ Below w.heap.size w w' := by
 have HB := K_ (Below.refl w.heap.size w)
 have HG := K_ hG
 clear hG
 go_enter Tryz.func19, Tryz.ntmps19
 go_upto_region 2 with (first | (go_at_call 31; refine (zhw ⟨#[35, 44, 35, 35, 48, 46, 48, 48, 37]⟩ (by decide) _).mono ?_; rintro e9 w' ⟨q, E, a, rfl, hrr, hb, hqg, hex⟩; obtain ⟨rfl, hP, hm⟩ := znS hex; have HP := K_ hP; have HM := K_ hm; have HRR := K_ (hrr.lower (zJ (BL HB))); have HQ := K_ (hqg rfl); replace HB := zE HB hb; clear hb hrr hqg hex hP hm) | ((with_reducible refine zH (N := 1) rfl ?_); refine be_ 1 (Z26) 26 ?_; intro g1 hg w2 hbox hb; have BK1 := K_ hbox; have GE1 := ge_ hg HB; replace HRR := K_ (HRR.out.below hb); replace HB := zE HB hb; clear hb hbox hg) | ((with_reducible refine zH (N := 2) rfl ?_); refine be_ 2 (Z51) 51 ?_; intro g2 hg w2 hbox hb; have BK2 := K_ hbox; have GE2 := ge_ hg HB; have NB1_2 := nb_ hg BK1; replace BK1 := zC BK1 hb; replace HRR := K_ (HRR.out.below hb); replace HB := zE HB hb; clear hb hbox hg) | ((with_reducible refine jC (p := 1) rfl ?_); refine so_ (g := g1) (cs := Z26) (q.cs) ⟨BK BK1⟩ ?_ rfl rfl rfl rfl rfl yL rfl rfl; intro w9 hbk hfar hbel; replace BK2 := K_ (hfar _ _ (by first | exact NB2_1.out | exact Ne.symm NB1_2.out) (BK BK2)); replace HRR := K_ (HRR.out.so (BK BK1) (by decide) hfar); replace BK1 := K_ hbk; replace HB := K_ (hbel _ _ GE1.out (BL HB)); clear hbk hfar hbel) | ((with_reducible refine jC (p := 2) rfl ?_); refine so_ (g := g2) (cs := Z51) (#[.int .i64 0, .int .i64 a]) ⟨BK BK2⟩ ?_ rfl rfl rfl rfl rfl uT rfl rfl; intro w9 hbk hfar hbel; replace BK1 := K_ (hfar _ _ (by first | exact NB1_2.out | exact Ne.symm NB2_1.out) (BK BK1)); replace HRR := K_ (HRR.out.so (BK BK2) (by decide) hfar); replace BK2 := K_ hbk; replace HB := K_ (hbel _ _ GE2.out (BL HB)); clear hbk hfar hbel))
 go_upto_region 3 with (first | ((with_reducible refine zH (N := 3) rfl ?_); refine be_ 3 (#[.bool false, .string (⟨#[]⟩ : ByteArray), .int .i64 0]) 23 ?_; intro g3 hg w2 hbox hb; have BK3 := K_ hbox; have GE3 := ge_ hg HB; have NB1_3 := nb_ hg BK1; replace BK1 := zC BK1 hb; have NB2_3 := nb_ hg BK2; replace BK2 := zC BK2 hb; replace HRR := K_ (HRR.out.below hb); replace HB := zE HB hb; clear hb hbox hg) | ((with_reducible refine jC (p := 3) rfl ?_); refine so_ (g := g3) (cs := #[.bool false, .string (⟨#[]⟩ : ByteArray), .int .i64 0]) (#[.bool false, .string (⟨#[49, 50, 51, 52, 53]⟩ : ByteArray), .int .i64 (-5)]) ⟨BK BK3⟩ ?_ rfl rfl rfl rfl rfl jZ rfl rfl; intro w9 hbk hfar hbel; replace BK1 := K_ (hfar _ _ (by first | exact NB1_3.out | exact Ne.symm NB3_1.out) (BK BK1)); replace BK2 := K_ (hfar _ _ (by first | exact NB2_3.out | exact Ne.symm NB3_2.out) (BK BK2)); replace HRR := K_ (HRR.out.so (BK BK3) (by decide) hfar); replace BK3 := K_ hbk; replace HB := K_ (hbel _ _ GE3.out (BL HB)); clear hbk hfar hbel))
 clear BK2
 have HI1 : ∀ W, zaa q W w.heap.size → Fig.Glob W → Aside0 (Calls Tryz.prog 20 #[.agg q.cs, .agg #[.bool false, .string (⟨#[49, 50, 51, 52, 53]⟩ : ByteArray), .int .i64 (-5)]] W fun e w' => e = .returned (.bool false) ∧ Below W.heap.size W w') := fun W h1 h2 => ⟨zga q HQ.out.good false ⟨#[49, 50, 51, 52, 53]⟩ (-5) false (zod HP.out HM.out) W (h1.ok HQ.out) h2⟩
 have HI2 : ∀ W, zaa q W w.heap.size → Fig.Glob W → Aside0 (Calls Tryz.prog 20 #[.agg q.cs, .agg #[.bool false, .string (⟨#[49, 50, 51, 52]⟩ : ByteArray), .int .i64 (-4)]] W fun e w' => e = .returned (.bool true) ∧ Below W.heap.size W w') := fun W h1 h2 => ⟨zga q HQ.out.good false ⟨#[49, 50, 51, 52]⟩ (-4) true (znZ HP.out HM.out) W (h1.ok HQ.out) h2⟩
 go_wp2_with (first | ((with_reducible refine zH (N := 9) rfl ?_); refine lo_ (g := g1) (cs := q.cs) _ ⟨BK BK1⟩ ?_ rfl rfl rfl Tryz.underlying26 rfl yL) | ((with_reducible refine zH (N := 10) rfl ?_); refine lo_ (g := g3) (cs := #[.bool false, .string (⟨#[49, 50, 51, 52, 53]⟩ : ByteArray), .int .i64 (-5)]) _ ⟨BK BK3⟩ ?_ rfl rfl rfl Tryz.underlying23 rfl jZ) | (go_at_call 44; refine (zkf q HQ.out.good false ⟨#[49, 50, 51, 52, 53]⟩ (-5) (false, ⟨#[49]⟩, -4) (znr HP.out HM.out) _ (zaa.ok HRR.out HQ.out)).mono ?_; rintro e9 w' ⟨rfl, hb⟩; replace HRR := K_ (HRR.out.below hb); replace HB := zE HB hb; replace BK1 := zC BK1 hb; replace BK3 := zC BK3 hb; clear hb) | ((with_reducible refine zH (N := 15) rfl ?_); refine zbE (g := g1) (cs := q.cs) _ ⟨BK BK1⟩ ?_ (by rfl) rfl rfl Tryz.underlying26 rfl yL) | ((with_reducible refine zH (N := 16) rfl ?_); refine zbE (g := g3) (cs := #[.bool false, .string (⟨#[49, 50, 51, 52, 53]⟩ : ByteArray), .int .i64 (-5)]) _ ⟨BK BK3⟩ ?_ (by rfl) rfl rfl Tryz.underlying23 rfl jZ) | (go_at_call 20; with_reducible refine ((HI1 _ HRR.out (Fig.Glob.below HG.out (BL HB))).out).mono ?_; rintro e9 w' ⟨rfl, hb⟩; replace HRR := K_ (HRR.out.below hb); replace HB := zE HB hb; replace BK1 := zC BK1 hb; replace BK3 := zC BK3 hb; clear hb) | ((with_reducible refine zH (N := 21) rfl ?_); refine zbE (g := g1) (cs := q.cs) _ ⟨BK BK1⟩ ?_ (by rfl) rfl rfl Tryz.underlying26 rfl yL) | (go_at_call 20; with_reducible refine ((HI2 _ HRR.out (Fig.Glob.below HG.out (BL HB))).out).mono ?_; rintro e9 w' ⟨rfl, hb⟩; replace HRR := K_ (HRR.out.below hb); replace HB := zE HB hb; replace BK1 := zC BK1 hb; replace BK3 := zC BK3 hb; clear hb) | ((with_reducible refine zH (N := 26) rfl ?_); refine zbE (g := g3) (cs := #[.bool false, .string (⟨#[49, 50, 51, 52, 53]⟩ : ByteArray), .int .i64 (-5)]) _ ⟨BK BK3⟩ ?_ (by rfl) rfl rfl Tryz.underlying23 rfl jZ) | (go_at_call 45; refine (zdA.calls false ⟨#[49, 50, 51, 52, 53]⟩ (-5) false ⟨#[49]⟩ 0 _ _ _ _ (Fig.Glob.below HG.out (BL HB)) o24).mono ?_; rintro e9 w' ⟨rfl, hb⟩; replace HRR := K_ (HRR.out.below hb); replace HB := zE HB hb; replace BK1 := zC BK1 hb; replace BK3 := zC BK3 hb; clear hb))
 go_ret
 exact ⟨rfl, BL HB⟩
section
section
variable {P : Program} {ops : Array Oper} {rest : List Oper} {o : Oper} {a : Act} {Q : Exit → Act → World → Prop}
theorem ls_ {W : World} (N : Tmp) (n : Nat) (cs : Array Value) (t : TypeId) (h : ∀ g, g = W.heap.size → ∀ w1, w1.heap[g]? = some (.cells cs t (0, 0)) → Below W.heap.size W w1 → wpList P ops Q rest (a.put o.dst (.slice (some ⟨g, 0, none⟩) n n)) w1)
  (hd : o.dst = some N := by with_reducible rfl) (hgd : o.guard = none := by rfl) (hrun : (execOp a.eval o).run P W = .ok (.value (.slice (some ⟨W.heap.size, 0, none⟩) n n)) (W.alloc (.cells cs t (0, 0))) := by (first | (go_simp; done) | (go_simp; rfl))) : wpList P ops Q (o :: rest) a W :=
 Kd.event_run hgd hrun (h _ rfl _ (zbZ W _) (uG (Below.refl _ _) _))
end
theorem zoc {W : World} {g : Nat} {d : zfY} (h : W.heap[g]? = some (.cells #[.bool d.1, .string d.2.1, .int .i64 d.2.2] 23 (0, 0))) : zcG W ⟨g, 0, none⟩ [d] := by
 intro i hi
 obtain rfl : i = 0 := by simp at hi; omega
 have e : (⟨g, 0, none⟩ : Addr).add (0 * 3) = ⟨g, 0, none⟩ := by rw [Addr.add_mid]
 rw [e]
 exact ⟨(zD h 0).trans rfl, (zD h 1).trans rfl, (zD h 2).trans rfl⟩
set_option maxHeartbeats 8000000 in
set_option maxRecDepth 100000 in
theorem zjS (s : ByteArray) (hs : s.size ≤ 1048576) (m : Int) (b : Bool) (s2 : ByteArray) (e : Int) (hs2 : s2.size ≤ 140737488351232) (w : World) (hG : Fig.Glob w)
  (H : ∀ q, zaX q → zfu (b, s2, e) → 0 ≤ m → m ≤ 6 → ∃ (v1 : Bool) (v2 : ByteArray) (v3 v4 : Int), zcl q m b ⟨#[48]⟩ 0 (b, ⟨#[48]⟩, 0, 0) ∧ zcl q m b s2 e (v1, v2, v3, v4) ∧ IsR q b ⟨#[48]⟩ 0 true ∧ (v4 ≠ 0 ∨ v1 = b)) :
  Calls Tryz.prog 7 #[.string s, .int .i64 m, .agg #[.bool b, .string s2, .int .i64 e]] w fun e w' => e = .returned (.bool true) ∧ Below w.heap.size w w' := by
 have HB := K_ (Below.refl w.heap.size w)
 have HG := K_ hG
 have HH := K_ H
 clear hG H
 have HSZ := K_ (show ∀ d ∈ ([(b, s2, e)] : List zfY), d.2.1.size ≤ 4611686018427387904 by intro d hd; rw [List.mem_singleton.1 hd]; show s2.size ≤ _; omega)
 clear hs2
 go_enter Tryz.func7, Tryz.ntmps7
 go_upto_region 2 with (first | ((with_reducible refine zH (N := 5) rfl ?_); refine bx_ 5 (#[.bool b, .string s2, .int .i64 e]) 23 ?_ rfl rfl rfl rfl rfl; intro g5 hg w2 hbox hb; have BK5 := K_ hbox; have GE5 := ge_ hg HB; replace HB := zE HB hb; clear hb hbox hg) | ((with_reducible refine zH (N := 16) rfl ?_); refine lo_ (g := g5) (cs := #[.bool b, .string s2, .int .i64 e]) _ ⟨BK BK5⟩ ?_ rfl rfl rfl Tryz.underlying23 rfl jZ) | ((with_reducible refine zH (N := 17) rfl ?_); refine ls_ 17 1 #[.bool b, .string s2, .int .i64 e] 23 ?_; intro g17 hg w2 hbox hb; have BK17 := K_ hbox; replace BK5 := zC BK5 hb; replace HB := zE HB hb; clear hb hbox hg) | (go_at_call 17; refine (zii s hs ⟨g17, 0, none⟩ [(b, s2, e)] (by simp) HSZ.out 1 (by simp) _ (zoc (d := (b, s2, e)) BK17.out)).mono ?_; rintro e9 w' ⟨q, ok, rfl, hrr, hb, hok⟩; have HRR := K_ (hrr.lower (zJ (BL HB))); have HOK := K_ hok; replace HB := zE HB hb; replace BK5 := zC BK5 hb; clear hb hrr hok) | ((with_reducible refine zH (N := 7) rfl ?_); refine be_ 7 (Z26) 26 ?_; intro g7 hg w2 hbox hb; have BK7 := K_ hbox; have GE7 := ge_ hg HB; have NB5_7 := nb_ hg BK5; replace BK5 := zC BK5 hb; replace HRR := K_ (HRR.out.below hb); replace HB := zE HB hb; clear hb hbox hg) | ((with_reducible refine jC (p := 7) rfl ?_); refine so_ (g := g7) (cs := Z26) (q.cs) ⟨BK BK7⟩ ?_ rfl rfl rfl rfl rfl yL rfl rfl; intro w9 hbk hfar hbel; replace BK5 := K_ (hfar _ _ (by first | exact NB5_7.out | exact Ne.symm NB7_5.out) (BK BK5)); replace HRR := K_ (HRR.out.so (BK BK7) (by decide) hfar); replace BK7 := K_ hbk; replace HB := K_ (hbel _ _ GE7.out (BL HB)); clear hbk hfar hbel))
 clear BK17
 cases ok
 ·go_wp2_with (first | (go_at_call 19; refine (zaL _ (Fig.Glob.below HG.out (BL HB))).mono ?_; rintro e9 w' ⟨rfl, hb⟩; replace HB := zE HB hb; clear hb))
  go_ret
  exact ⟨rfl, BL HB⟩
 by_cases h0 : m < 0
 ·have d0 : decide (m < 0) = true := decide_eq_true h0
  go_wp2_with (first | (go_at_call 19; refine (zaL _ (Fig.Glob.below HG.out (BL HB))).mono ?_; rintro e9 w' ⟨rfl, hb⟩; replace HB := zE HB hb; clear hb))
  go_ret
  exact ⟨rfl, BL HB⟩
 have d0 : decide (m < 0) = false := decide_eq_false h0
 by_cases h6 : 6 < m
 ·have d6 : decide (6 < m) = true := decide_eq_true h6
  go_wp2_with (first | (go_at_call 19; refine (zaL _ (Fig.Glob.below HG.out (BL HB))).mono ?_; rintro e9 w' ⟨rfl, hb⟩; replace HB := zE HB hb; clear hb))
  go_ret
  exact ⟨rfl, BL HB⟩
 have d6 : decide (6 < m) = false := decide_eq_false h6
 have HQ := K_ (HOK.out rfl).1
 obtain ⟨v1, v2, v3, v4, hz, hv, hi, hneg⟩ := HH.out q HQ.out ((HOK.out rfl).2 _ (List.mem_singleton.2 rfl)) (by omega) (by omega)
 have HR1 : ∀ W, zaa q W w.heap.size → Fig.Glob W → Aside0 (Calls Tryz.prog 14 #[.agg q.cs, .int .i64 m, .agg #[.bool b, .string (⟨#[48]⟩ : ByteArray), .int .i64 0]] W fun e w' => e = .returned (.tuple #[.agg #[.bool b, .string (⟨#[48]⟩ : ByteArray), .int .i64 0], .int .i64 0]) ∧ Below W.heap.size W w') := fun W h1 h2 => ⟨zfO q HQ.out.good m b ⟨#[48]⟩ 0 (b, ⟨#[48]⟩, 0, 0) hz W (h1.ok HQ.out) h2⟩
 have HR2 : ∀ W, zaa q W w.heap.size → Fig.Glob W → Aside0 (Calls Tryz.prog 14 #[.agg q.cs, .int .i64 m, .agg #[.bool b, .string s2, .int .i64 e]] W fun e w' => e = .returned (.tuple #[.agg #[.bool v1, .string v2, .int .i64 v3], .int .i64 v4]) ∧ Below W.heap.size W w') := fun W h1 h2 => ⟨zfO q HQ.out.good m b s2 e (v1, v2, v3, v4) hv W (h1.ok HQ.out) h2⟩
 have HI : ∀ W, zaa q W w.heap.size → Fig.Glob W → Aside0 (Calls Tryz.prog 20 #[.agg q.cs, .agg #[.bool b, .string (⟨#[48]⟩ : ByteArray), .int .i64 0]] W fun e w' => e = .returned (.bool true) ∧ Below W.heap.size W w') := fun W h1 h2 => ⟨zga q HQ.out.good b ⟨#[48]⟩ 0 true hi W (h1.ok HQ.out) h2⟩
 clear hz hv hi
 go_upto_region 4 with (fail)
 have e50 := (show w9.cell? ⟨g5, 0, none⟩ = some (.bool b) from (zD BK5.out 0).trans rfl)
 go_upto_region 5 with (first | ((with_reducible refine zH (N := 9) rfl ?_); refine be_ 9 (#[.bool false, .string (⟨#[]⟩ : ByteArray), .int .i64 0]) 23 ?_; intro g9 hg w2 hbox hb; have BK9 := K_ hbox; have GE9 := ge_ hg HB; have NB5_9 := nb_ hg BK5; replace BK5 := zC BK5 hb; have NB7_9 := nb_ hg BK7; replace BK7 := zC BK7 hb; replace HRR := K_ (HRR.out.below hb); replace HB := zE HB hb; clear hb hbox hg) | ((with_reducible refine jC (p := 9) rfl ?_); refine so_ (g := g9) (cs := #[.bool false, .string (⟨#[]⟩ : ByteArray), .int .i64 0]) (#[.bool b, .string (⟨#[48]⟩ : ByteArray), .int .i64 0]) ⟨BK BK9⟩ ?_ rfl rfl rfl rfl rfl jZ rfl rfl; intro w9 hbk hfar hbel; replace BK5 := K_ (hfar _ _ (by first | exact NB5_9.out | exact Ne.symm NB9_5.out) (BK BK5)); replace BK7 := K_ (hfar _ _ (by first | exact NB7_9.out | exact Ne.symm NB9_7.out) (BK BK7)); replace HRR := K_ (HRR.out.so (BK BK9) (by decide) hfar); replace BK9 := K_ hbk; replace HB := K_ (hbel _ _ GE9.out (BL HB)); clear hbk hfar hbel))
 clear e50
 go_upto_region 6 with (first | ((with_reducible refine zH (N := 36) rfl ?_); refine lo_ (g := g7) (cs := q.cs) _ ⟨BK BK7⟩ ?_ rfl rfl rfl Tryz.underlying26 rfl yL) | ((with_reducible refine zH (N := 38) rfl ?_); refine lo_ (g := g9) (cs := #[.bool b, .string (⟨#[48]⟩ : ByteArray), .int .i64 0]) _ ⟨BK BK9⟩ ?_ rfl rfl rfl Tryz.underlying23 rfl jZ) | (go_at_call 14; with_reducible refine ((HR1 _ HRR.out (Fig.Glob.below HG.out (BL HB))).out).mono ?_; rintro e9 w' ⟨rfl, hb⟩; replace HRR := K_ (HRR.out.below hb); replace HB := zE HB hb; replace BK5 := zC BK5 hb; replace BK7 := zC BK7 hb; replace BK9 := zC BK9 hb; clear hb) | ((with_reducible refine zH (N := 10) rfl ?_); refine be_ 10 (#[.bool false, .string (⟨#[]⟩ : ByteArray), .int .i64 0]) 23 ?_; intro g10 hg w2 hbox hb; have BK10 := K_ hbox; have GE10 := ge_ hg HB; have NB5_10 := nb_ hg BK5; replace BK5 := zC BK5 hb; have NB7_10 := nb_ hg BK7; replace BK7 := zC BK7 hb; have NB9_10 := nb_ hg BK9; replace BK9 := zC BK9 hb; replace HRR := K_ (HRR.out.below hb); replace HB := zE HB hb; clear hb hbox hg) | ((with_reducible refine jC (p := 10) rfl ?_); refine so_ (g := g10) (cs := #[.bool false, .string (⟨#[]⟩ : ByteArray), .int .i64 0]) (#[.bool b, .string (⟨#[48]⟩ : ByteArray), .int .i64 0]) ⟨BK BK10⟩ ?_ rfl rfl rfl rfl rfl jZ rfl rfl; intro w9 hbk hfar hbel; replace BK5 := K_ (hfar _ _ (by first | exact NB5_10.out | exact Ne.symm NB10_5.out) (BK BK5)); replace BK7 := K_ (hfar _ _ (by first | exact NB7_10.out | exact Ne.symm NB10_7.out) (BK BK7)); replace BK9 := K_ (hfar _ _ (by first | exact NB9_10.out | exact Ne.symm NB10_9.out) (BK BK9)); replace HRR := K_ (HRR.out.so (BK BK10) (by decide) hfar); replace BK10 := K_ hbk; replace HB := K_ (hbel _ _ GE10.out (BL HB)); clear hbk hfar hbel))
 go_upto_region 7 with (first | ((with_reducible refine zH (N := 43) rfl ?_); refine lo_ (g := g7) (cs := q.cs) _ ⟨BK BK7⟩ ?_ rfl rfl rfl Tryz.underlying26 rfl yL) | ((with_reducible refine zH (N := 45) rfl ?_); refine lo_ (g := g5) (cs := #[.bool b, .string s2, .int .i64 e]) _ ⟨BK BK5⟩ ?_ rfl rfl rfl Tryz.underlying23 rfl jZ) | (go_at_call 14; with_reducible refine ((HR2 _ HRR.out (Fig.Glob.below HG.out (BL HB))).out).mono ?_; rintro e9 w' ⟨rfl, hb⟩; replace HRR := K_ (HRR.out.below hb); replace HB := zE HB hb; replace BK5 := zC BK5 hb; replace BK7 := zC BK7 hb; replace BK9 := zC BK9 hb; replace BK10 := zC BK10 hb; clear hb) | ((with_reducible refine zH (N := 12) rfl ?_); refine be_ 12 (#[.bool false, .string (⟨#[]⟩ : ByteArray), .int .i64 0]) 23 ?_; intro g12 hg w2 hbox hb; have BK12 := K_ hbox; have GE12 := ge_ hg HB; have NB5_12 := nb_ hg BK5; replace BK5 := zC BK5 hb; have NB7_12 := nb_ hg BK7; replace BK7 := zC BK7 hb; have NB9_12 := nb_ hg BK9; replace BK9 := zC BK9 hb; have NB10_12 := nb_ hg BK10; replace BK10 := zC BK10 hb; replace HRR := K_ (HRR.out.below hb); replace HB := zE HB hb; clear hb hbox hg) | ((with_reducible refine jC (p := 12) rfl ?_); refine so_ (g := g12) (cs := #[.bool false, .string (⟨#[]⟩ : ByteArray), .int .i64 0]) (#[.bool v1, .string v2, .int .i64 v3]) ⟨BK BK12⟩ ?_ rfl rfl rfl rfl rfl jZ rfl rfl; intro w9 hbk hfar hbel; replace BK5 := K_ (hfar _ _ (by first | exact NB5_12.out | exact Ne.symm NB12_5.out) (BK BK5)); replace BK7 := K_ (hfar _ _ (by first | exact NB7_12.out | exact Ne.symm NB12_7.out) (BK BK7)); replace BK9 := K_ (hfar _ _ (by first | exact NB9_12.out | exact Ne.symm NB12_9.out) (BK BK9)); replace BK10 := K_ (hfar _ _ (by first | exact NB10_12.out | exact Ne.symm NB12_10.out) (BK BK10)); replace HRR := K_ (HRR.out.so (BK BK12) (by decide) hfar); replace BK12 := K_ hbk; replace HB := K_ (hbel _ _ GE12.out (BL HB)); clear hbk hfar hbel))
 have e120 := (show w9.cell? ⟨g12, 0, none⟩ = some (.bool v1) from (zD BK12.out 0).trans rfl)
 have e50 := (show w9.cell? ⟨g5, 0, none⟩ = some (.bool b) from (zD BK5.out 0).trans rfl)
 by_cases hv4 : v4 = 0
 ·have d4 : (v4 != 0) = false := by rw [hv4]; rfl
  have hvb : b = v1 := by rcases hneg with h | h; exact absurd hv4 h; exact h.symm
  subst hvb
  go_wp2_with (first | (go_at_call 19; refine (zaL _ (Fig.Glob.below HG.out (BL HB))).mono ?_; rintro e9 w' ⟨rfl, hb⟩; replace HRR := K_ (HRR.out.below hb); replace HB := zE HB hb; replace BK5 := zC BK5 hb; replace BK7 := zC BK7 hb; replace BK9 := zC BK9 hb; replace BK10 := zC BK10 hb; replace BK12 := zC BK12 hb; clear hb) | ((with_reducible refine zH (N := 51) rfl ?_); refine zbE (g := g7) (cs := q.cs) _ ⟨BK BK7⟩ ?_ (by rfl) rfl rfl Tryz.underlying26 rfl yL) | ((with_reducible refine zH (N := 52) rfl ?_); refine zbE (g := g9) (cs := #[.bool b, .string (⟨#[48]⟩ : ByteArray), .int .i64 0]) _ ⟨BK BK9⟩ ?_ (by rfl) rfl rfl Tryz.underlying23 rfl jZ) | (go_at_call 20; with_reducible refine ((HI _ HRR.out (Fig.Glob.below HG.out (BL HB))).out).mono ?_; rintro e9 w' ⟨rfl, hb⟩; replace HRR := K_ (HRR.out.below hb); replace HB := zE HB hb; replace BK5 := zC BK5 hb; replace BK7 := zC BK7 hb; replace BK9 := zC BK9 hb; replace BK10 := zC BK10 hb; replace BK12 := zC BK12 hb; clear hb; clear e120 e50; have e120 := (show w'.cell? ⟨g12, 0, none⟩ = some (.bool b) from (zD BK12.out 0).trans rfl); have e50 := (show w'.cell? ⟨g5, 0, none⟩ = some (.bool b) from (zD BK5.out 0).trans rfl)) | ((with_reducible refine zH (N := 60) rfl ?_); refine zbE (g := g10) (cs := #[.bool b, .string (⟨#[48]⟩ : ByteArray), .int .i64 0]) _ ⟨BK BK10⟩ ?_ (by rfl) rfl rfl Tryz.underlying23 rfl jZ) | ((with_reducible refine zH (N := 61) rfl ?_); refine zbE (g := g9) (cs := #[.bool b, .string (⟨#[48]⟩ : ByteArray), .int .i64 0]) _ ⟨BK BK9⟩ ?_ (by rfl) rfl rfl Tryz.underlying23 rfl jZ))
  go_ret
  exact ⟨by first | rfl | simp, BL HB⟩
 have d4 : (v4 != 0) = true := bne_iff_ne.2 hv4
 go_wp2_with (first | (go_at_call 19; refine (zaL _ (Fig.Glob.below HG.out (BL HB))).mono ?_; rintro e9 w' ⟨rfl, hb⟩; replace HRR := K_ (HRR.out.below hb); replace HB := zE HB hb; replace BK5 := zC BK5 hb; replace BK7 := zC BK7 hb; replace BK9 := zC BK9 hb; replace BK10 := zC BK10 hb; replace BK12 := zC BK12 hb; clear hb) | ((with_reducible refine zH (N := 51) rfl ?_); refine zbE (g := g7) (cs := q.cs) _ ⟨BK BK7⟩ ?_ (by rfl) rfl rfl Tryz.underlying26 rfl yL) | ((with_reducible refine zH (N := 52) rfl ?_); refine zbE (g := g9) (cs := #[.bool b, .string (⟨#[48]⟩ : ByteArray), .int .i64 0]) _ ⟨BK BK9⟩ ?_ (by rfl) rfl rfl Tryz.underlying23 rfl jZ) | (go_at_call 20; with_reducible refine ((HI _ HRR.out (Fig.Glob.below HG.out (BL HB))).out).mono ?_; rintro e9 w' ⟨rfl, hb⟩; replace HRR := K_ (HRR.out.below hb); replace HB := zE HB hb; replace BK5 := zC BK5 hb; replace BK7 := zC BK7 hb; replace BK9 := zC BK9 hb; replace BK10 := zC BK10 hb; replace BK12 := zC BK12 hb; clear hb; clear e120 e50; have e120 := (show w'.cell? ⟨g12, 0, none⟩ = some (.bool v1) from (zD BK12.out 0).trans rfl); have e50 := (show w'.cell? ⟨g5, 0, none⟩ = some (.bool b) from (zD BK5.out 0).trans rfl)) | ((with_reducible refine zH (N := 60) rfl ?_); refine zbE (g := g10) (cs := #[.bool b, .string (⟨#[48]⟩ : ByteArray), .int .i64 0]) _ ⟨BK BK10⟩ ?_ (by rfl) rfl rfl Tryz.underlying23 rfl jZ) | ((with_reducible refine zH (N := 61) rfl ?_); refine zbE (g := g9) (cs := #[.bool b, .string (⟨#[48]⟩ : ByteArray), .int .i64 0]) _ ⟨BK BK9⟩ ?_ (by rfl) rfl rfl Tryz.underlying23 rfl jZ))
 go_ret
 exact ⟨by first | rfl | simp, BL HB⟩
end
end Go.Proofs.YtcmgdjnjmobkoaaGreatDoor.Px
namespace Go.Proofs.YtcmgdjnjmobkoaaGreatDoor.Px
open Fig Go.RowKit Go.Proofs.YtcmgdjnjmobkoaaGreatDoorW.PrintWords Go.Proofs.YtcmgdjnjmobkoaaGreatDoorW.PrintLast Go.Proofs.YtcmgdjnjmobkoaaGreatDoorW.PrintMore
attribute [local go_sem] uE uD uW uY vM vO uH uF
attribute [local go_sem] xG qZ xK xI qX qW qY xD xH xE xL xM xJ xB
theorem zjd (m : Int) : yD.f m = some (decide (0 ≤ m ∧ m < 8)) := by
 unfold yD.f
 by_cases h : m ≥ 0
 ·rw [if_pos h]; congr 1; rw [decide_eq_decide]; omega
 rw [if_neg h]; congr 1; symm; rw [decide_eq_false_iff_not]; omega
theorem zof (e : Int) (p : Nat) (h1 : -1000000 ≤ e) (h2 : e ≤ 1000000) (hp : p ≤ 1000000) : wrap64 (e + (p : Int)) = e + (p : Int) := w64 (by omega) (by omega)
theorem znq (e : Int) (p q : Nat) (h1 : -1000000 ≤ e) (h2 : e ≤ 1000000) (hp : p ≤ 1000000) (hq : q ≤ 1000000) : wrap64 (wrap64 (e + (p : Int)) - (q : Int)) = e + (p : Int) - (q : Int) := by rw [zof e p h1 h2 hp, w64 (by omega) (by omega)]
theorem zcR {b : Bool} {s : ByteArray} {e : Int} (h : OkD s e) : jQ.f b s e = some (b, nD (vB s), nE (vB s) e) := by
 have hz := h.val
 have h1 := h.sz
 have h2 := h.lo
 have h3 := h.hi
 unfold jQ.f
 rw [show uR.f s (⟨#[48]⟩ : ByteArray) = some (jH (vB s)) by unfold uR.f; rw [if_pos rfl, zgM h.d]]
 simp only [Option.bind_some]
 by_cases h0 : vB s = 0
 ·rw [if_pos (zbk.2 h0), h0]; rfl
 rw [if_neg (fun hh => h0 (zbk.1 hh))]
 have hl := zbd h0
 have ht : qA.f (jH (vB s)) (⟨#[48]⟩ : ByteArray) = some (jH (vJ (vB s))) := by
  unfold qA.f
  rw [if_pos ⟨rfl, by omega⟩]
  show some (⟨(Lib.trimRightB (uK (vB s)) 48).toArray⟩ : ByteArray) = _
  unfold Lib.trimRightB; rw [zjt h0]; rfl
 rw [ht]
 simp only [Option.bind_some]
 rw [znq e _ _ (by omega) (by omega) (by omega) (by omega)]
 unfold nD nE
 rw [if_neg h0, if_neg h0, show e + ((jH (vB s)).size : Int) - ((jH (vJ (vB s))).size : Int) = e + (tz (vB s) : Int) by omega]
theorem zor {s : ByteArray} (h : dB s = true) (hne : s.size ≠ 0) (hs : s.size ≤ 140737488351232) : uB.f s = some (zY (vB s), true) := by
 unfold uB.f; rw [if_pos hs, if_pos ⟨h, hne⟩]
theorem zmb {b : Bool} {s : ByteArray} {e : Int} (h : OkD s e) : qB.f b s e = some (zY (vB s)) := by
 have := h.sz
 unfold qB.f; rw [zor h.d h.ne (by omega)]; rfl
theorem zhH {s : ByteArray} {e : Int} (h : OkD s e) : (zY (vB s)).length ≤ 100000 := by
 have := yN (vB s)
 have := h.val
 have := h.sz
 omega
theorem zie {l : List Int} {n : Int} (g : zZ l = true) (hl : l.length ≤ 500000) (hn : n ≤ 1000000) : yS.f l n = some (zY (zG l * 10 ^ n.toNat)) := by unfold yS.f; rw [if_pos ⟨g, hl, hn⟩]
theorem zey (m : Int) (neg odd : Bool) (half : Int) : uN.f m neg odd half = some (upB m neg odd half) := rfl
theorem znv {b : Bool} {s : ByteArray} {e p : Int} (h : OkS s e) (h1 : -10000 ≤ p) (h2 : p ≤ 10000) : uC.f b s e p = some (zY (vB s / 10 ^ (p - e).toNat), zY (vB s % 10 ^ (p - e).toNat)) := by
 have hl := h.lo
 have hh := h.hi
 have hc := zhH h.ok
 unfold uC.f
 rw [zmb h.ok]
 simp only [Option.bind_some]
 rw [w64 (x := p - e) (by omega) (by omega)]
 have : zbL.f (zY (vB s)) (p - e) = some (zY (vB s / 10 ^ (p - e).toNat), zY (vB s % 10 ^ (p - e).toNat)) := by
  unfold zbL.f; rw [if_pos ⟨jU _, by omega, by omega⟩, jR]
 rw [this]; rfl
theorem zmf {b : Bool} {s : ByteArray} {e p : Int} (h : OkS s e) (h1 : -10000 ≤ p) (h2 : p ≤ 10000) : qP.f b s e p = some (decide (atE (vB s) e (min e p) % atE 1 p (min e p) = 0)) := by
 unfold qP.f
 by_cases hp : p ≤ e
 ·rw [if_pos hp, show min e p = p by omega, zcF, Nat.mod_one]; rfl
 rw [if_neg hp, znv h h1 h2]
 simp only [Option.bind_some, Option.some.injEq]
 rw [show min e p = e by omega, zcF, show atE 1 p e = 10 ^ (p - e).toNat by unfold atE; rw [Nat.one_mul]]
 rw [Bool.eq_iff_iff, beq_iff_eq, decide_eq_true_eq]
 constructor
 ·intro hh; exact zaB.1 (List.eq_nil_of_length_eq_zero (by omega))
 intro hh; rw [hh, zaC]; rfl
theorem zja {q : Nat} (h : q ≠ 0) : (zY q).length > 0 ∧ rd (zY q) 0 = ((q % 1000000000 : Nat) : Int) := by
 have hv := jR q
 have hg := jU q
 rcases hl : zY q with _ | ⟨x, l⟩
 ·exact absurd (zaB.1 hl) h
 rw [hl] at hv hg
 obtain ⟨hx, _⟩ := yI.1 hg
 simp only [zG] at hv
 refine ⟨by simp, ?_⟩
 show x = _
 omega
theorem zkS (v : Nat) : dB (zaA v) = true ∧ (zaA v).size ≠ 0 ∧ vB (zaA v) = v := by
 unfold zaA
 by_cases h : v = 0
 ·rw [if_pos h, h]; exact ⟨rfl, by decide, rfl⟩
 rw [if_neg h]; exact ⟨zfS v, fun e => h (zaq.1 e), zeq v⟩
theorem zij {v k : Nat} (h : (jH v).size ≤ k) (hk : 1 ≤ k) : (zaA v).size ≤ k := by
 unfold zaA
 by_cases h0 : v = 0
 ·rw [if_pos h0]; exact hk
 rw [if_neg h0]; exact h
theorem zlr {v k : Nat} (h : (jH v).size ≤ k) (hk : k ≤ 1000000) : yW.f (zY v) = some (zaA v) := by
 have := yN v
 unfold yW.f; rw [if_pos ⟨jU v, by omega⟩, jR]
theorem zgF {b : Bool} {v : Nat} {p : Int} (hz : (jH v).size ≤ 50000) (h1 : -100000 ≤ p) (h2 : p ≤ 100000) : ((yW.f (zY v)).bind fun t => (jQ.f b t p).bind fun u => some (u.1, u.2.1, u.2.2, (0 : Int))) = some (b, nD v, nE v p, 0) := by
 obtain ⟨d1, d2, d3⟩ := zkS v
 have d4 := zij (k := 50000) hz (by decide)
 rw [zlr hz (by decide)]
 simp only [Option.bind_some]
 rw [zcR ⟨d1, d2, by omega, h1, h2⟩, d3]; rfl
theorem zmo {q : Nat} (h : (jH q).size ≤ 1000000) : vQ.f (zY q) ([1] : List Int) = some (zY (q + 1)) := by
 have hl := yN q
 have h1 : ([1] : List Int).length ≤ 1000000000000 := by show 1 ≤ 1000000000000; omega
 have := zeB (jU q) (b := [1]) (by decide) (by omega) h1
 rwa [jR, show zG [1] = 1 from rfl] at this
theorem znf {α β : Type} {x : Option α} {f : α → Option β} {a : α} {r : Option β} (h : x = some a) (h2 : f a = r) : x.bind f = r := by subst h; exact h2
theorem zdJ {b : Bool} {s : ByteArray} {e p : Int} {q : Nat} {u : Bool} (hz : (jH q).size ≤ 40000) (h1 : -10000 ≤ p) (h2 : p ≤ 10000) : Ev (fun k => zS.j0 k p (zY q) u b s e) (b, nD (q + if u = true then 1 else 0), nE (q + if u = true then 1 else 0) p, 0) := by
 cases u
 ·refine zaF (r' := (b, nD q, nE q p, 0)) (fun k => ?_) (by simp)
  simp only [zS.j0, Bool.false_eq_true, if_false]
  exact zgF (by omega) (by omega) (by omega)
 have ha := zmo (q := q) (by omega)
 have hz2 := zbw (m := q) (n := 1) (p := 40000) hz (by rw [zbc]; omega)
 refine zaF (r' := (b, nD (q + 1), nE (q + 1) p, 0)) (fun k => ?_) (by simp)
 simp only [zS.j0, if_true]
 exact znf ha (zgF (by omega) (by omega) (by omega))
theorem zdL {m : Int} {b : Bool} {s : ByteArray} {e p : Int} (hm : 0 ≤ m) (hm7 : m ≤ 7) (h : OkS s e) (h1 : -10000 ≤ p) (h2 : p ≤ 10000) : Ev (fun k => zS.f k m b s e p) (zaE m b (vB s) e 1 p) := by
 have hv := h.ok.val
 have hsz := h.sz
 have hlo := h.lo
 have hhi := h.hi
 unfold zS.f
 refine evE (zjd m) (evT (by simp; omega) (evE (zmf h h1 h2) ?_))
 by_cases hf : atE (vB s) e (min e p) % atE 1 p (min e p) = 0
 ·rw [zdu hf]
  exact evT (decide_eq_true hf) (evE (zcR h.ok) (Ev.now _))
 refine evF (by simpa using hf) ?_
 have hpe : e < p := by
  apply Classical.byContradiction; intro hn
  rw [show min e p = p by omega, zcF, Nat.mod_one] at hf
  exact hf rfl
 by_cases h7 : m = 7
 ·subst h7
  rw [zee hf]
  exact evT rfl (Ev.now _)
 refine evF h7 ?_
 have hme : min e p = e := by omega
 obtain ⟨B, hB⟩ : ∃ B, B = 10 ^ (p - e).toNat := ⟨_, rfl⟩
 have hB1 : atE 1 p e = B := by unfold atE; rw [Nat.one_mul, hB]
 rw [hme, zcF, hB1] at hf
 have hB0 : 0 < B := by rw [hB]; exact zdQ _
 have hzB : (jH B).size ≤ 20001 := by rw [hB, zgX]; omega
 have zq := zan (Nat.div_le_self (vB s) B) hv
 have zr := zan (Nat.mod_le (vB s) B) hv
 have lq := yN (vB s / B)
 have lr := yN (vB s % B)
 have z2 := zbw zr zr
 have l2 := yN (vB s % B + vB s % B)
 have lB := yN B
 have hcut := znv (b := b) h h1 h2
 rw [← hB] at hcut
 refine evE hcut ?_
 have ha : vQ.f (zY (vB s % B)) (zY (vB s % B)) = some (zY (vB s % B + vB s % B)) := by
  have := zeB (jU (vB s % B)) (jU (vB s % B)) (by omega) (by omega)
  rwa [jR] at this
 have hs : yS.f ([1] : List Int) (wrap64 (p - e)) = some (zY B) := by
  rw [w64 (x := p - e) (by omega) (by omega), zie (by decide) (by decide) (by omega), show zG [1] = 1 by decide, Nat.one_mul, hB]
 have hc : uO.f (zY (vB s % B + vB s % B)) (zY B) = some (vV (vB s % B + vB s % B) B) := by
  have := zeA (jU (vB s % B + vB s % B)) (jU B) (by omega) (by omega)
  rwa [jR, jR] at this
 refine evE ha (evE hs (evE hc ?_))
 have hres : zaE m b (vB s) e 1 p = (b, nD (vB s / B + if upB m b (vB s / B % 2 == 1) (vV (vB s % B + vB s % B) B) = true then 1 else 0), nE (vB s / B + if upB m b (vB s / B % 2 == 1) (vV (vB s % B + vB s % B) B) = true then 1 else 0) p, 0) := by
  rw [zkU h7 b (vB s) e 1 p e (Int.le_refl e) (by omega)]
  unfold rv0
  rw [zcF, hB1]
  have hq : rq m b (vB s) B = vB s / B + if upB m b (vB s / B % 2 == 1) (vV (vB s % B + vB s % B) B) = true then 1 else 0 := by
   unfold rq; simp only [ne_eq, hf, not_false_eq_true, true_and]
  rw [hq, hB, zhF, zhp, show e + ((p - e).toNat : Int) = p by omega]
 rw [hres]
 dsimp only
 by_cases hq0 : vB s / B = 0
 ·refine evF (by rw [hq0, zaC]; decide) (evE (zey _ _ _ _) ?_)
  have : (vB s / B % 2 == 1) = false := by rw [hq0]; rfl
  rw [this]
  exact zdJ (by omega) h1 h2
 obtain ⟨g1, g2⟩ := zja hq0
 refine evT (by omega) (evT (by omega) ?_)
 have : (Int.tmod (rd (zY (vB s / B)) 0) 2 == 1) = (vB s / B % 2 == 1) := by
  rw [g2, Int.tmod_eq_emod_of_nonneg (by omega), Bool.eq_iff_iff, beq_iff_eq, beq_iff_eq]; omega
 rw [this]
 refine evE (zey _ _ _ _) ?_
 exact zdJ (by omega) h1 h2
theorem zfj (n : Nat) : (nD n).toList = ([48] : List UInt8) ↔ n = 0 := by
 rw [← zcv]
 constructor
 ·intro h; apply zaf; rw [← ByteArray.toList_eq, h]; rfl
 intro h; rw [h, ByteArray.toList_eq]; rfl
theorem znV (e : Int) (p : Nat) (h1 : -1000000 ≤ e) (h2 : e ≤ 1000000) (hp : p ≤ 1000000) : wrap64 (wrap64 (e + (p : Int)) - 1) = e + (p : Int) - 1 := by
 rw [w64 (x := e + (p : Int)) (by omega) (by omega), w64 (by omega) (by omega)]
theorem znL {b : Bool} {s : ByteArray} {e : Int} (h : OkD s e) : zbi.f b s e = some (qJ (vB s) e) := by
 have hz := h.val
 have h1 := h.sz
 have h2 := h.lo
 have h3 := h.hi
 unfold zbi.f
 rw [zcR h]
 simp only [Option.bind_some]
 by_cases h0 : vB s = 0
 ·rw [if_pos ((zfj _).2 h0), h0]; rfl
 rw [if_neg (fun hh => h0 ((zfj _).1 hh))]
 have hl := zbd h0
 have hnd : nD (vB s) = jH (vJ (vB s)) := by unfold nD; rw [if_neg h0]
 have hne : nE (vB s) e = e + (tz (vB s) : Int) := by unfold nE; rw [if_neg h0]
 rw [hnd, hne, znV _ _ (by omega) (by omega) (by omega)]
 unfold qJ; rw [if_neg h0]; congr 1; omega
theorem zmn {s : ByteArray} {e : Int} (h : OkS s e) : -10000 ≤ qJ (vB s) e ∧ qJ (vB s) e ≤ 20000 := by
 have hv := h.ok.val
 have hsz := h.sz
 have hlo := h.lo
 have hhi := h.hi
 unfold qJ
 split
 ·omega
 rename_i h0
 have : (jH (vB s)).size ≠ 0 := fun hh => h0 (zaq.1 hh)
 omega
theorem zkq {b : Bool} {s : ByteArray} {e n : Int} (h : OkS s e) (h1 : n ≤ 100000) : zaJ.f b s e n = some (qJ (vB s) e - max n 1 + 1) := by
 have hb := zmn h
 have hm : mx n 1 = max n 1 := by unfold mx; omega
 unfold zaJ.f
 rw [znL h.ok]
 simp only [Option.bind_some]
 rw [hm, w64 (x := qJ (vB s) e - max n 1) (by omega) (by omega), w64 (by omega) (by omega)]
theorem zin {m : Int} {b : Bool} {s : ByteArray} {e : Int} {c : Nat} (hm : 0 ≤ m) (hm7 : m ≤ 7) (hc : 1 ≤ c) (hc2 : c ≤ 5000) (h : OkS s e) (ht : qJ (vB s) e ≤ 10000) (ht2 : -5000 ≤ qJ (vB s) e) : Ev (fun k => jT.f k m b s e (c : Int)) (zaE m b (vB s) e 1 (qJ (vB s) e - (c : Int) + 1)) := by
 unfold jT.f
 refine evE (zjd m) (evT (by simp; omega) ?_)
 have : decide ((c : Int) < 1) = false := decide_eq_false (by omega)
 rw [this]
 refine Ev.step (fun k => by simp only [jT.j0, Bool.false_eq_true, if_false]; rfl) ?_
 refine evE (zkq h (by omega)) ?_
 rw [show max (c : Int) 1 = (c : Int) by omega]
 exact Ev.bind (zdL hm hm7 h (by omega) (by omega)) (Ev.now _)
theorem zky (p q : Nat) (hp : p ≤ 1000000000) (hq : q ≤ 1000000000) : (((p : Int) + (q : Int)) % 4294967296) / 2 = (((p + q) / 2 : Nat) : Int) := by omega
theorem zjF (r b : List Int) (gr : zZ r = true) (gb : zZ b = true) (lr : r.length ≤ 1000001) (lb : b.length ≤ 1000000) : ∀ (d p q : Nat), q - p = d → p < q → q ≤ 1000000000 → zG b * p ≤ zG r → zG r < zG b * q →
  Ev (fun k => jS.l0 k r b (p : Int) (q : Int)) (((zG r / zG b : Nat) : Int), zY (zG r % zG b)) := by
 intro d
 induction d using Nat.strongRecOn with
 | _ d ih =>
 intro p q hd hpq hq h1 h2
 by_cases hs : 1 < q - p
 ·have hm1 : p < (p + q) / 2 := by omega
  have hm2 : (p + q) / 2 < q := by omega
  have lm : (zY (zG b * ((p + q) / 2) + 0)).length ≤ 1000001 := by
   have := xV gb
   have h3 : zG b * ((p + q) / 2) < 1000000000 ^ b.length * 1000000000 := Nat.mul_lt_mul'' this (by omega)
   rw [← Nat.pow_succ] at h3
   exact zds h3 (by omega)
  refine Ev.step (f := fun k => (vN.f k b (((p + q) / 2 : Nat) : Int) ((0 : Nat) : Int)).bind fun t => (uO.f t r).bind fun t2 => if t2 ≤ 0 then jS.l0 k r b (((p + q) / 2 : Nat) : Int) (q : Int) else jS.l0 k r b (p : Int) (((p + q) / 2 : Nat) : Int)) (fun k => ?_) (Ev.bind (zdF gb lb (by omega) (by omega)) (Ev.bind (zbN fun _ => zeA (jU _) gr (by omega) (by omega)) ?_))
  ·simp only [jS.l0]
   rw [if_pos (by omega), zky p q (by omega) hq]; rfl
  rw [jR, Nat.add_zero]
  by_cases hc : zG b * ((p + q) / 2) ≤ zG r
  ·have c0 : vV (zG b * ((p + q) / 2)) (zG r) ≤ 0 := by
    unfold vV
    split
    ·omega
    rw [if_neg (by omega)]; omega
   simp only [c0, if_true]
   exact ih _ (by omega) _ _ rfl hm2 hq hc h2
  have c0 : ¬ vV (zG b * ((p + q) / 2)) (zG r) ≤ 0 := by unfold vV; rw [if_neg (by omega), if_pos (by omega)]; omega
  simp only [c0, if_false]
  exact ih _ (by omega) _ _ rfl hm1 (by omega) h1 (by omega)
 have hq1 : q = p + 1 := by omega
 subst hq1
 have hb0 : 0 < zG b := by
  rcases Nat.eq_zero_or_pos (zG b) with h0 | h0
  ·rw [h0] at h2; omega
  exact h0
 have e1 : zG r / zG b = p := by
  rw [Nat.mul_add] at h2
  exact Nat.div_eq_of_lt_le (by rw [Nat.mul_comm]; exact h1) (by rw [Nat.add_mul, Nat.mul_comm p]; omega)
 have e2 : zG r % zG b = zG r - zG b * p := by
  have := Nat.div_add_mod (zG r) (zG b)
  rw [e1] at this; omega
 have lm : (zY (zG b * p + 0)).length ≤ 1000001 := by
  exact zds (Nat.lt_of_le_of_lt h1 (xV gr)) lr
 refine Ev.step (f := fun k => (vN.f k b ((p : Nat) : Int) ((0 : Nat) : Int)).bind fun t => (xY.f r t).bind fun t2 => some (((p : Nat) : Int), t2.1)) (fun k => ?_) (Ev.bind (zdF gb lb (by omega) (by omega)) (Ev.bind (zbN fun _ => zmQ gr (jU _) (by omega) (by omega) (by rw [jR]; omega)) ?_))
 ·simp only [jS.l0]
  rw [if_neg (by omega)]; rfl
 rw [jR, Nat.add_zero, e1, e2]; exact Ev.now _
theorem zlM {r b : List Int} (gr : zZ r = true) (gb : zZ b = true) (lr : r.length ≤ 1000001) (lb : b.length ≤ 1000000) (h : zG r < 1000000000 * zG b) : Ev (fun k => jS.f k r b) (((zG r / zG b : Nat) : Int), zY (zG r % zG b)) := by
 have := zjF r b gr gb lr lb _ 0 1000000000 rfl (by omega) (by omega) (by omega) (by rw [Nat.mul_comm]; exact h)
 exact this
theorem zlF (A V y p r X Q R : Nat) (h : X * y + r = V) (hq : Q = (p + 1000000000 * r) / y) (hr : R = (p + 1000000000 * r) % y) : (Q + 1000000000 * X) * y + R = p + 1000000000 * V := by
 have := Nat.div_add_mod (p + 1000000000 * r) y
 rw [← hq, ← hr] at this
 rw [Nat.add_mul, Nat.mul_assoc, Nat.mul_comm _ y, ← h, Nat.mul_add]; omega
theorem zeF (a b : List Int) (ga : zZ a = true) (gb : zZ b = true) (la : a.length ≤ 1000000) (lb : b.length ≤ 1000000) (hb : 0 < zG b) : ∀ (n : Nat) (q r : List Int), n ≤ a.length → q.length = a.length → zZ q = true → zZ r = true → r.length ≤ 1000000 → zG r < zG b → zG (q.drop n) * zG b + zG r = zG (a.drop n) →
  Ev (fun k => jI.l0 k a b q r ((n : Int) - 1)) (zY (zG a / zG b), zY (zG a % zG b), true)
 | 0, q, r, hn, hq, gq, gr, lr, hr, hv => by
  rw [List.drop_zero, List.drop_zero] at hv
  have e1 : zG q = zG a / zG b := by rw [← hv, Nat.mul_comm, Nat.mul_add_div hb, Nat.div_eq_of_lt hr]; rfl
  have e2 : zG r = zG a % zG b := by rw [← hv, Nat.mul_comm, Nat.mul_add_mod, Nat.mod_eq_of_lt hr]
  refine zdC (Ev.step (f := fun _ => (jV.f q).bind fun t => (jV.f r).bind fun t2 => some (t, t2, true)) (fun k => ?_) (Ev.bind (zbN fun _ => qT gq (by omega)) (Ev.bind (zbN fun _ => qT gr (by omega)) (Ev.now _)))) ?_
  ·simp only [jI.l0]; rw [if_neg (by omega)]
  rw [e1, e2]
 | n + 1, q, r, hn, hq, gq, gr, lr, hr, hv => by
  have hna : n < a.length := by omega
  have hnq : n < q.length := by omega
  have pa := yF.1 ga _ (List.getElem_mem hna)
  obtain ⟨p, hp⟩ : ∃ v : Nat, a[n] = (v : Int) := ⟨a[n].toNat, by omega⟩
  have hp9 : p < 1000000000 := by omega
  have gpr : zZ ([(p : Int)] ++ r) = true := yO.2 ⟨yI.2 ⟨by omega, rfl⟩, gr⟩
  have vpr : zG ([(p : Int)] ++ r) = p + 1000000000 * zG r := by simp [zG]
  have hlt : p + 1000000000 * zG r < 1000000000 * zG b := by omega
  have hqb : (p + 1000000000 * zG r) / zG b < 1000000000 := by rw [Nat.div_lt_iff_lt_mul hb]; exact hlt
  have hmod := Nat.mod_lt (p + 1000000000 * zG r) hb
  have lt2 : (zY (p + 1000000000 * zG r)).length ≤ 1000001 := by
   rw [← vpr]
   exact Nat.le_trans (zaP (xV gpr)) (by simp; omega)
  have lm : (zY ((p + 1000000000 * zG r) % zG b)).length ≤ 1000000 := by
   have := xV gb
   exact zds (Nat.lt_trans hmod this) lb
  have ex : (((n + 1 : Nat) : Int) - 1) = (n : Int) := by omega
  refine Ev.step (f := fun k => (jV.f ([(p : Int)] ++ r)).bind fun t => (jS.f k t b).bind fun t2 => jI.l0 k a b (q.set n t2.1) t2.2 ((n : Int) - 1)) (fun k => ?_) (Ev.bind (zbN fun _ => qT gpr (by simp; omega)) ?_)
  ·simp only [ex, jI.l0, Option.bind_some]
   rw [if_pos (by omega), if_pos (by omega), if_pos (by omega), vU hna, hp, if_pos (by simp; omega)]
   have c1 : (n : Int) < (q.length : Int) := by omega
   simp only [c1, if_true, Int.toNat_natCast, w64 (x := (n : Int) - 1) (by omega) (by omega)]
  rw [vpr]
  refine Ev.bind (zlM (jU _) gb (by omega) lb (by rw [jR]; exact hlt)) ?_
  rw [jR]
  refine zeF a b ga gb la lb hb n _ _ (by omega) (by simpa using hq) (zcX gq n (ziH hqb)) (jU _) lm (by rw [jR]; exact hmod) ?_
  rw [jR, zct q n _ hnq, List.drop_eq_getElem_cons hna, hp]
  exact zlF 0 _ _ p _ _ _ _ hv rfl rfl
theorem zkn {a b : List Int} (ga : zZ a = true) (gb : zZ b = true) (la : a.length ≤ 1000000) (lb : b.length ≤ 1000000) (hb : 0 < zG b) : Ev (fun k => jI.f k a b) (zY (zG a / zG b), zY (zG a % zG b), true) := by
 unfold jI.f
 refine Ev.bind (zbN fun _ => qT gb (by omega)) ?_
 have lb2 : (zY (zG b)).length ≤ 1000000 := Nat.le_trans (zaP (xV gb)) lb
 have h0 : ¬ ((zY (zG b)).length : Int) = 0 := by
  intro h
  have : zY (zG b) = [] := List.eq_nil_of_length_eq_zero (by omega)
  have := zaB.1 this; omega
 have h1 : (0 : Int) ≤ (a.length : Int) := by omega
 have h2 : a.length ≤ 70368744177664 := by omega
 simp only [h0, h1, if_true, if_false, Int.toNat_natCast, h2]
 rw [w64 (by omega) (by omega)]
 have := zeF a (zY (zG b)) ga (jU _) la lb2 (by rw [jR]; exact hb) a.length (List.replicate a.length 0) [] (Nat.le_refl _) (by simp) (zaj _) rfl (by simp) (by rw [jR]; exact hb) (by
  rw [List.drop_of_length_le (by simp), List.drop_of_length_le (Nat.le_refl _)]; simp [zG])
 rwa [jR] at this
theorem zhs (a b : List Int) (ga : zZ a = true) (gb : zZ b = true) (la : a.length ≤ 1000000) (lb : b.length ≤ 1000000) : ∀ (d n : Nat) (x : List Int), b.length - n = d → n ≤ b.length → zZ x = true → x.length = a.length + b.length + 1 → zG x = zG a * zG (b.take n) →
  Ev (fun k => yB.l0 k a x b (b.length : Int) (n : Int)) (zY (zG a * zG b))
 | 0, n, x, h1, h2, gx, hx, hv => by
  refine zaF (r' := zY (zG x)) (fun k => ?_) ?_
  ·simp only [yB.l0, jV.f]; rw [if_neg (by omega), qT gx (by omega)]; rfl
  rw [hv, List.take_of_length_le (by omega)]
 | d + 1, n, x, h1, h2, gx, hx, hv => by
  have hnb : n < b.length := by omega
  have pb := yF.1 gb _ (List.getElem_mem hnb)
  obtain ⟨y, hy⟩ : ∃ v : Nat, b[n] = (v : Int) := ⟨b[n].toNat, by omega⟩
  have e : zG (b.take (n + 1)) = zG (b.take n) + 1000000000 ^ n * y := by
   rw [List.take_succ_eq_append_getElem hnb, uZ, hy, Int.toNat_natCast, List.length_take, Nat.min_eq_left (by omega)]
  have key : zG x + 1000000000 ^ n * (zG a * y) = zG a * zG (b.take (n + 1)) := by
   rw [hv, e, Nat.mul_add, Nat.mul_left_comm (1000000000 ^ n)]
  have hlt : zG x + 1000000000 ^ n * (zG a * y) < 1000000000 ^ x.length := by
   rw [key, hx]
   have va := xV ga
   have vb := xV (zcA gb (n + 1))
   have h3 := Nat.mul_lt_mul'' va vb
   rw [← Nat.pow_add] at h3
   exact Nat.lt_of_lt_of_le h3 (Nat.pow_le_pow_right (by omega) (by rw [List.length_take]; omega))
  obtain ⟨r, hr, g1, g2, g3⟩ := zjN (p := n) gx ga (show y < 1000000000 by omega) (by omega) (by omega) hlt
  refine Ev.step (f := fun k => (jK.f k x a (y : Int) (n : Int)).bind fun t => yB.l0 k a t b (b.length : Int) ((n + 1 : Nat) : Int)) (fun k => ?_) (Ev.bind hr (zhs a b ga gb la lb d (n + 1) r (by omega) (by omega) g1 (by omega) (by rw [g3, key])))
  simp only [yB.l0]; rw [if_pos (by omega), if_pos (by omega), if_pos (by omega), vU hnb, hy, zay _ (by omega)]
theorem zkP {a b : List Int} (ga : zZ a = true) (gb : zZ b = true) (la : a.length ≤ 1000000) (lb : b.length ≤ 1000000) : Ev (fun k => yB.f k a b) (zY (zG a * zG b)) := by
 unfold yB.f
 rw [zkh _ _ la lb]
 have c1 : (0 : Int) ≤ ((a.length + b.length + 1 : Nat) : Int) := by omega
 have c2 : a.length + b.length + 1 ≤ 70368744177664 := by omega
 simp only [Int.toNat_natCast, c1, c2, if_true]
 exact zhs a b ga gb la lb b.length 0 _ rfl (by omega) (zaj _) (by simp) (by rw [zaM]; simp [zG])
theorem mnP (a b : Int) : mn a b = min b a := by unfold mn; split <;> omega
theorem zlO {q : Nat} (h : q ≠ 0) : (zY q).length > 0 ∧ rd (zY q) 0 = ((q % 1000000000 : Nat) : Int) := by
 have hv := jR q
 have hg := jU q
 rcases hl : zY q with _ | ⟨x, l⟩
 ·exact absurd (zaB.1 hl) h
 rw [hl] at hv hg
 obtain ⟨hx, _⟩ := yI.1 hg
 simp only [zG] at hv
 refine ⟨by simp, ?_⟩
 show x = _
 omega
theorem zjY (v : Nat) : dB (zaA v) = true ∧ (zaA v).size ≠ 0 ∧ vB (zaA v) = v := by
 unfold zaA
 by_cases h : v = 0
 ·rw [if_pos h, h]; exact ⟨rfl, by decide, rfl⟩
 rw [if_neg h]; exact ⟨zfS v, fun e => h (zaq.1 e), zeq v⟩
theorem zgr {v k : Nat} (h : (jH v).size ≤ k) (hk : 1 ≤ k) : (zaA v).size ≤ k := by
 unfold zaA
 by_cases h0 : v = 0
 ·rw [if_pos h0]; exact hk
 rw [if_neg h0]; exact h
theorem zjv {v k : Nat} (h : (jH v).size ≤ k) (hk : k ≤ 1000000) : yW.f (zY v) = some (zaA v) := by
 have := yN v
 unfold yW.f; rw [if_pos ⟨jU v, by omega⟩, jR]
theorem ziE {b : Bool} {v : Nat} {p : Int} (hz : (jH v).size ≤ 100000) (h1 : -100000 ≤ p) (h2 : p ≤ 100000) : ((yW.f (zY v)).bind fun t => (jQ.f b t p).bind fun u => some (u.1, u.2.1, u.2.2, (0 : Int))) = some (b, nD v, nE v p, 0) := by
 obtain ⟨d1, d2, d3⟩ := zjY v
 have d4 := zgr (k := 100000) hz (by decide)
 rw [zjv hz (by decide)]
 simp only [Option.bind_some]
 rw [zcR ⟨d1, d2, by omega, h1, h2⟩, d3]; rfl
theorem zms {q : Nat} (h : (jH q).size ≤ 1000000) : vQ.f (zY q) ([1] : List Int) = some (zY (q + 1)) := by
 have hl := yN q
 have h1 : ([1] : List Int).length ≤ 1000000000000 := by show 1 ≤ 1000000000000; omega
 have := zeB (jU q) (b := [1]) (by decide) (by omega) h1
 rwa [jR, show zG [1] = 1 from rfl] at this
theorem zkK {b : Bool} {s : ByteArray} {e E : Int} {q B : Nat} {u : Bool} (hz : (jH q).size ≤ 40000) (hB : (jH B).size ≤ 40000) (h1 : -100000 ≤ E) (h2 : E ≤ 100000) : Ev (fun k => zU.j1 k (zY B) E (zY q) u b s e) (b, nD ((q + if u = true then 1 else 0) * B), nE ((q + if u = true then 1 else 0) * B) E, 0) := by
 have lB := yN B
 cases u
 ·have lq := yN q
  have hm := zeP hz hB
  have := zkP (jU q) (jU B) (by omega) (by omega)
  rw [jR, jR] at this
  refine Ev.step (fun k => by simp only [zU.j1, Bool.false_eq_true, if_false]; rfl) (Ev.bind this (zbN fun _ => ?_))
  simp only [Bool.false_eq_true, if_false, Nat.add_zero]
  exact ziE (by omega) h1 h2
 have ha := zms (q := q) (by omega)
 have h3 := zbw (m := q) (n := 1) (p := 40000) hz (by rw [zbc]; omega)
 have lq := yN (q + 1)
 have hm := zeP h3 hB
 have := zkP (jU (q + 1)) (jU B) (by omega) (by omega)
 rw [jR, jR] at this
 refine Ev.step (fun k => by simp only [zU.j1, if_true]; rfl) (evE ha (Ev.bind this (zbN fun _ => ?_)))
 simp only [if_true]
 exact ziE (by omega) h1 h2
theorem znE {m : Int} {b : Bool} {s : ByteArray} {e p : Int} {S : Nat} (h : OkS s e) (hS0 : S ≠ 0) (hS : (jH S).size ≤ 1000) (h1 : -10000 ≤ p) (h2 : p ≤ 10000) : Ev (fun k => zU.j0 k m p (zY S) false b s e) (zaE m b (vB s) e S p) := by
 have hv := h.ok.val
 have hz := h.sz
 have hlo := h.lo
 have hhi := h.hi
 have hc := zhH h.ok
 have lS := yN S
 obtain ⟨E, hE⟩ : ∃ E, E = mn e p := ⟨_, rfl⟩
 have hE2 : E = min e p := by rw [hE, mnP]; omega
 have sB : yS.f (zY S) (wrap64 (p - E)) = some (zY (atE S p E)) := by
  rw [w64 (x := p - E) (by omega) (by omega), zie (jU _) (by omega) (by omega), jR]; rfl
 have sN : yS.f (zY (vB s)) (wrap64 (e - E)) = some (zY (atE (vB s) e E)) := by
  rw [w64 (x := e - E) (by omega) (by omega), zie (jU _) (by omega) (by omega), jR]; rfl
 have zB : (jH (atE S p E)).size ≤ 30000 := by
  unfold atE; rw [zbQ hS0]; omega
 have zN := zfW b (n := vB s) (p := 10000) e E (by omega)
 rw [zed] at zN
 have hB0 := ziO hS0 p E
 refine Ev.step (fun k => by simp only [zU.j0, Bool.false_eq_true, if_false, ← hE]; rfl) ?_
 refine evE sB (evE (zmb h.ok) (evE sN ?_))
 obtain ⟨N, hN⟩ : ∃ N, N = atE (vB s) e E := ⟨_, rfl⟩
 obtain ⟨B, hBB⟩ : ∃ B, B = atE S p E := ⟨_, rfl⟩
 rw [← hN, ← hBB]
 rw [← hN] at zN
 rw [← hBB] at zB hB0
 have zN2 : (jH N).size ≤ 30000 := by omega
 have zr := zan (Nat.mod_le N B) zN2
 have zq := zan (Nat.div_le_self N B) zN2
 have lN := yN N
 have lB := yN B
 have lr := yN (N % B)
 have z2 := zbw zr zr
 have l2 := yN (N % B + N % B)
 have hd := zkn (jU N) (jU B) (by omega) (by omega) (by rw [jR]; exact hB0)
 rw [jR, jR] at hd
 refine Ev.bind hd ?_
 dsimp only
 by_cases hf : N % B = 0
 ·have hf2 : atE (vB s) e (min e p) % atE S p (min e p) = 0 := by rw [← hE2, ← hN, ← hBB]; exact hf
  rw [zdu hf2]
  exact evT (by rw [hf, zaC]; rfl) (evE (zcR h.ok) (Ev.now _))
 have hf2 : ¬ atE (vB s) e (min e p) % atE S p (min e p) = 0 := by rw [← hE2, ← hN, ← hBB]; exact hf
 refine evF (fun hh => hf (zaB.1 (List.eq_nil_of_length_eq_zero (by omega)))) ?_
 by_cases h7 : m = 7
 ·subst h7
  rw [zee hf2]
  exact evT rfl (Ev.now _)
 refine evF h7 ?_
 have ha : vQ.f (zY (N % B)) (zY (N % B)) = some (zY (N % B + N % B)) := by
  have := zeB (jU (N % B)) (jU (N % B)) (by omega) (by omega)
  rwa [jR] at this
 have hcm : uO.f (zY (N % B + N % B)) (zY B) = some (vV (N % B + N % B) B) := by
  have := zeA (jU (N % B + N % B)) (jU B) (by omega) (by omega)
  rwa [jR, jR] at this
 have hres : zaE m b (vB s) e S p = (b, nD ((N / B + if upB m b (N / B % 2 == 1) (vV (N % B + N % B) B) = true then 1 else 0) * B), nE ((N / B + if upB m b (N / B % 2 == 1) (vV (N % B + N % B) B) = true then 1 else 0) * B) E, 0) := by
  rw [zdY h7, ← hE2]
  unfold rv0
  rw [← hN, ← hBB]
  have hq : rq m b N B = N / B + if upB m b (N / B % 2 == 1) (vV (N % B + N % B) B) = true then 1 else 0 := by
   unfold rq; simp only [ne_eq, hf, not_false_eq_true, true_and]
  rw [hq]
 rw [hres]
 by_cases hq0 : N / B = 0
 ·refine evF (by rw [hq0, zaC]; decide) (evE ha (evE hcm (evE (zey _ _ _ _) ?_)))
  have : (N / B % 2 == 1) = false := by rw [hq0]; rfl
  rw [this]
  exact zkK (by omega) (by omega) (by omega) (by omega)
 obtain ⟨g1, g2⟩ := zlO hq0
 refine evT (by omega) (evT (by omega) (evE ha (evE hcm ?_)))
 have : (Int.tmod (rd (zY (N / B)) 0) 2 == 1) = (N / B % 2 == 1) := by
  rw [g2, Int.tmod_eq_emod_of_nonneg (by omega), Bool.eq_iff_iff, beq_iff_eq, beq_iff_eq]; omega
 rw [this]
 refine evE (zey _ _ _ _) ?_
 exact zkK (by omega) (by omega) (by omega) (by omega)
theorem zmG {st : ByteArray} (hst : st.size ≤ 140737488351232) : uB.f st = some (if dB st = true ∧ st.size ≠ 0 then (zY (vB st), true) else ([], false)) := by unfold uB.f; rw [if_pos hst]
theorem zeH {m : Int} {b : Bool} {s st : ByteArray} {e p : Int} (hm : 0 ≤ m) (hm7 : m ≤ 7) (h : OkS s e) (hd : dB st = true) (hs0 : vB st ≠ 0) (hsz : st.size ≤ 40) (h1 : -10000 ≤ p) (h2 : p ≤ 10000) : Ev (fun k => zU.f k m b s e st p) (zaE m b (vB s) e (vB st) p) := by
 have hn0 : st.size ≠ 0 := by
  intro h0
  rw [ByteArray.size_eq_zero_iff.1 h0] at hs0; exact hs0 rfl
 have hst := zaw (zhd hd)
 unfold zU.f
 refine evE (zmG (by omega)) (evE (zjd m) (evT (by simp; omega) ?_))
 rw [if_pos ⟨hd, hn0⟩]
 refine evT rfl (evF (by omega) ?_)
 have : (((zY (vB st)).length : Int) == 0) = false := by
  rw [beq_eq_false_iff_ne]
  intro hh
  exact hs0 (zaB.1 (List.eq_nil_of_length_eq_zero (by omega)))
 dsimp only
 rw [this]
 exact znE h hs0 (by omega) h1 h2
theorem zhq {b : Bool} {s : ByteArray} {e n : Int} (h : OkD s (e + n)) (h1 : -1000000 ≤ e) (h2 : e ≤ 1000000) (h3 : -1000000 ≤ n) (h4 : n ≤ 1000000) : yA.f b s e n = some (b, nD (vB s), nE (vB s) (e + n)) := by
 unfold yA.f; rw [w64 (x := e + n) (by omega) (by omega), zcR h]; rfl
theorem zgx (n : Nat) : (nD n).toList = ([48] : List UInt8) ↔ n = 0 := by
 rw [← zcv]
 constructor
 ·intro h; apply zaf; rw [← ByteArray.toList_eq, h]; rfl
 intro h; rw [h, ByteArray.toList_eq]; rfl
theorem ziD {b : Bool} {s : ByteArray} {e : Int} (h : OkD s e) (h2 : OkD (nD (vB s)) (nE (vB s) e)) : xF.f b s e = some (zbr (vB s) e) := by
 unfold xF.f
 rw [zcR h]
 simp only [Option.bind_some]
 unfold zbr
 by_cases h0 : vB s = 0
 ·rw [if_pos ((zgx _).2 h0)]; simp [h0]
 rw [if_neg (fun hh => h0 ((zgx _).1 hh))]
 by_cases h1 : nE (vB s) e ≥ -300
 ·rw [if_pos h1, znL h2, zft, zcT]
  have h1' : -300 ≤ nE (vB s) e := h1
  simp only [Option.bind_some, h0, h1', false_or, true_and]
 rw [if_neg h1]
 have h1' : ¬ -300 ≤ nE (vB s) e := h1
 simp [h0, h1']
theorem zog {b : Bool} {s : ByteArray} {e : Int} (hs : s.size ≤ 140737488351232) : zaK.f b s e = some (zbR s e) := by
 unfold zaK.f zbR
 by_cases h1 : (s.size : Int) > 1000
 ·rw [if_pos h1]; have : ¬ s.size ≤ 1000 := by omega
  simp [this]
 rw [if_neg h1]
 by_cases h2 : e < -1000
 ·rw [if_pos h2]; have : ¬ -1000 ≤ e := by omega
  simp [this]
 rw [if_neg h2]
 by_cases h3 : e > 1000
 ·rw [if_pos h3]; have : ¬ e ≤ 1000 := by omega
  simp [this]
 rw [if_neg h3]
 have c1 : s.size ≤ 1000 := by omega
 have c2 : -1000 ≤ e := by omega
 have c3 : e ≤ 1000 := by omega
 unfold uB.f
 rw [if_pos hs]
 by_cases h4 : dB s = true ∧ s.size ≠ 0
 ·rw [if_pos h4]; simp [h4.1, h4.2, c1, c2, c3]
 rw [if_neg h4]
 have : (dB s && decide (s.size ≠ 0)) = false := by
  cases hd : dB s
  ·rfl
  simp only [Bool.true_and, decide_eq_false_iff_not]; intro hh; exact h4 ⟨hd, hh⟩
 rw [this]; simp
theorem countP {b : Bool} {s : ByteArray} {e : Int} (h : OkD s e) : zbo.f b s e = some ((nD (vB s)).size : Int) := by
 unfold zbo.f; rw [zcR h]; rfl
end Go.Proofs.YtcmgdjnjmobkoaaGreatDoor.Px
namespace Go.Proofs.YtcmgdjnjmobkoaaGreatDoor.Px
set_option linter.all false
open Fig Go.RowKit Go.Proofs.YtcmgdjnjmobkoaaGreatDoorW.PrintWords Go.Proofs.YtcmgdjnjmobkoaaGreatDoorW.PrintLast Go.Proofs.YtcmgdjnjmobkoaaGreatDoorW.PrintMore
attribute [local go_sem] uE uD uW uY vM vO uH uF
theorem zko {m : Int} {neg : Bool} {n st x y : Nat} {e p k : Int} (hn : (jH n).size ≤ x) (hs : (jH st).size ≤ y) (hs0 : st ≠ 0) (h1 : k ≤ e) (h2 : k ≤ p) : (jH (rv0 m neg n e st p k)).size ≤ max (x + (e - k).toNat) (y + (p - k).toNat) + 1 := by
 have a := zfW neg (n := n) (p := x) e k hn
 have b := zfW neg (n := st) (p := y) p k hs
 rw [zed] at a b
 have hB := ziO hs0 p k
 have h3 := (zmu (m := m) (neg := neg) (N := atE n e k) hB).1
 refine zan (n := atE n e k + atE st p k) (by unfold rv0; omega) ?_
 exact zbw (zan (Nat.le_refl _) (by omega)) (zan (Nat.le_refl _) (by omega))
def cS (P : yK) : Nat := (zbF P).2.toNat
theorem zjz {P : yK} (hg : xN P) : 1 ≤ cS P ∧ cS P ≤ 80 ∧ (zbF P).2 = (cS P : Int) := by
 have := hg.mi0; have := hg.mi4; have := hg.mf0; have := hg.mfx; have := hg.xf4; have := hg.ms0; have := hg.msx; have := hg.xs4
 unfold cS zbF
 split
 ·refine ⟨by omega, by omega, by omega⟩
 have h := zgI hg
 have h1 : 1 ≤ uL P + P.xf := by
  unfold uL
  split
  ·omega
  rename_i hn
  by_cases h0 : P.mi + P.xf = 0
  ·exact absurd (.inr (.inr h0)) hn
  omega
 refine ⟨by show 1 ≤ (uL P + P.xf).toNat; omega, by show (uL P + P.xf).toNat ≤ 80; omega, by show uL P + P.xf = ((uL P + P.xf).toNat : Int); omega⟩
def stP (P : yK) (t : Int) : Nat × Int := if P.sci = true ∨ 0 < P.ms then (1, t - (cS P : Int) + 1) else if P.inc.size ≠ 0 then (vB P.inc, -P.xf) else (1, -P.xf)
theorem znG {P : yK} (hg : xN P) (hm : zcD P) (t : Int) : (stP P t).1 ≠ 0 ∧ (jH (stP P t).1).size ≤ 40 ∧ t - 80 ≤ max (stP P t).2 (t - 80) ∧ ((stP P t).2 = t - (cS P : Int) + 1 ∨ (-40 ≤ (stP P t).2 ∧ (stP P t).2 ≤ 0)) := by
 have := hg.mf0; have := hg.mfx; have := hg.xf4
 unfold stP
 split
 ·exact ⟨by show (1 : Nat) ≠ 0; decide, by show (jH 1).size ≤ 40; rw [zbc]; decide, by omega, .inl rfl⟩
 split
 ·rename_i hi
  obtain ⟨h1, h2⟩ := hm.dig hi
  exact ⟨h2, Nat.le_trans (zaw (zhd h1)) hg.inc4, by omega, .inr ⟨by show -40 ≤ -P.xf; omega, by show -P.xf ≤ 0; omega⟩⟩
 exact ⟨by show (1 : Nat) ≠ 0; decide, by show (jH 1).size ≤ 40; rw [zbc]; decide, by omega, .inr ⟨by show -40 ≤ -P.xf; omega, by show -P.xf ≤ 0; omega⟩⟩
theorem zhJ {P : yK} (hg : xN P) (hm : zcD P) {m : Int} (h0 : 0 ≤ m) (h7 : m ≤ 7) {b : Bool} {s : ByteArray} {e : Int} (ok : OkS s e) (h1 : qJ (vB s) e ≤ 10000) (h2 : -5000 ≤ qJ (vB s) e) :
  zfd P m b s e (zaE m b (vB s) e (stP P (qJ (vB s) e)).1 (stP P (qJ (vB s) e)).2) := by
 obtain ⟨c1, c2, c3⟩ := zjz hg
 have := hg.mf0; have := hg.mfx; have := hg.xf4
 refine ⟨fun h => ?_, fun h hi => ?_, fun h hi => ?_⟩
 ·rw [c3]
  have e1 : stP P (qJ (vB s) e) = (1, qJ (vB s) e - (cS P : Int) + 1) := by unfold stP; rw [if_pos h]
  rw [e1]
  exact zin h0 h7 c1 (by omega) ok h1 h2
 ·have e1 : stP P (qJ (vB s) e) = (vB P.inc, -P.xf) := by unfold stP; rw [if_neg h, if_pos hi]
  rw [e1]
  exact zeH h0 h7 ok (hm.dig hi).1 (hm.dig hi).2 hg.inc4 (by omega) (by omega)
 have e1 : stP P (qJ (vB s) e) = (1, -P.xf) := by unfold stP; rw [if_neg h, if_neg (by omega)]
 rw [e1]
 exact zdL h0 h7 ok (by omega) (by omega)
theorem zgh (q : Pat) : 0 ≤ q.mult ∧ q.mult ≤ 3 := by unfold Pat.mult; split; omega; split <;> omega
theorem znX {m : Int} (h0 : 0 ≤ m) (h7 : m ≤ 7) : yD.f m = some true := by unfold yD.f; rw [if_pos h0, decide_eq_true (by omega)]
def zfV (b : Bool) (N : Nat) (X : Int) : Bool × ByteArray × Int × Int := if zbr (vJ N) X = true then (b, nD N, X, 0) else (false, ⟨#[]⟩, 0, 10)
theorem zkI {n : Nat} {e : Int} (h : (jH n).size ≤ 1000) (h1 : -1010 ≤ e) (h2 : e ≤ 1010) : -1010 ≤ qJ n e ∧ qJ n e ≤ 2010 := by
 unfold qJ
 split
 ·omega
 rename_i h0
 have : (jH n).size ≠ 0 := fun hh => h0 (zaq.1 hh)
 omega
def rN (q : Pat) (m : Int) (b : Bool) (n : Nat) (e : Int) : Nat := rv0 m b (vJ n) (nE n (e + q.mult)) (stP q.P (qJ n (e + q.mult))).1 (stP q.P (qJ n (e + q.mult))).2 (min (nE n (e + q.mult)) (stP q.P (qJ n (e + q.mult))).2)
def rK (q : Pat) (n : Nat) (e : Int) : Int := min (nE n (e + q.mult)) (stP q.P (qJ n (e + q.mult))).2
def rX (q : Pat) (m : Int) (b : Bool) (n : Nat) (e : Int) : Int := nE (vJ (rN q m b n e)) (nE (rN q m b n e) (rK q n e) + -q.mult)
theorem zoe {q : Pat} (hq : zaX q) (m : Int) (b : Bool) {n : Nat} {e : Int} (hn : (jH n).size ≤ 120) (h1 : -1000 ≤ e) (h2 : e ≤ 1000) : (jH (rN q m b n e)).size ≤ 4000 ∧ -1200 ≤ rK q n e ∧ rK q n e ≤ 1200 := by
 obtain ⟨m0, m3⟩ := zgh q
 obtain ⟨s1, s2, s3, s4⟩ := znG hq.good hq.more (qJ n (e + q.mult))
 obtain ⟨c1, c2, c3⟩ := zjz hq.good
 have ht := zkI (n := n) (e := e + q.mult) (by omega) (by omega) (by omega)
 have ht2 : qJ n (e + q.mult) ≤ 1200 := by
  unfold qJ; split
  ·omega
  omega
 have e1 := zdE n (e + q.mult) hn
 have e2 := zcL n (e + q.mult)
 have hc : (jH (vJ n)).size ≤ 120 := zan (zgk n) hn
 unfold rN rK
 obtain ⟨p, hp⟩ : ∃ p, p = (stP q.P (qJ n (e + q.mult))).2 := ⟨_, rfl⟩
 rw [← hp] at s4 ⊢
 have h := zko (m := m) (neg := b) (n := vJ n) (st := (stP q.P (qJ n (e + q.mult))).1) (e := nE n (e + q.mult)) (p := p) (k := min (nE n (e + q.mult)) p) hc s2 s1 (by omega) (by omega)
 refine ⟨Nat.le_trans h ?_, by omega, by omega⟩
 omega
theorem zfy {q : Pat} (hq : zaX q) {m : Int} (h0 : 0 ≤ m) (h6 : m ≤ 6) (b : Bool) {s : ByteArray} {e : Int} (hs : s.size ≤ 120) (hg : zbR s e = true) (hr : zbr (vB s) e = true) :
  zcl q m b s e (zfV b (rN q m b (vB s) e) (rX q m b (vB s) e)) := by
 obtain ⟨g1, g2, g3, g4, g5⟩ := zeg.1 hg
 obtain ⟨m0, m3⟩ := zgh q
 have okd := OkD.of_good hg
 have hn : (jH (vB s)).size ≤ 120 := Nat.le_trans okd.val hs
 have okE : OkD s (e + q.mult) := ⟨g1, g2, by omega, by omega, by omega⟩
 have okS := OkS.norm (n := vB s) (e := e + q.mult) (by omega) (by omega) (by omega)
 have hc : vB (nD (vB s)) = vJ (vB s) := zft _
 have ht := zkI (n := vB s) (e := e + q.mult) (by omega) (by omega) (by omega)
 have hr1 : xF.f b s e = some true := by rw [ziD okd (OkD.norm (by omega) (by omega) (by omega)), hr]
 refine .inr (.inr (.inr ⟨znX h0 (by omega), by rw [zog (by omega), hg], hr1, b, nD (vB s), nE (vB s) (e + q.mult), _, zhq okE (by omega) (by omega) (by omega) (by omega), zhJ hq.good hq.more h0 (by omega) okS (by rw [hc, zcT]; omega) (by rw [hc, zcT]; omega), .inr ?_⟩))
 rw [hc, zcT, zdY (by omega)]
 obtain ⟨k1, k2, k3⟩ := zoe hq m b (n := vB s) (e := e) hn (by omega) (by omega)
 obtain ⟨N, hN⟩ : ∃ N, N = rN q m b (vB s) e := ⟨_, rfl⟩
 obtain ⟨k, hk⟩ : ∃ k, k = rK q (vB s) e := ⟨_, rfl⟩
 have e1 : rX q m b (vB s) e = nE (vJ N) (nE N k + -q.mult) := by unfold rX; rw [← hN, ← hk]
 rw [e1]
 show ((0 : Int) = 0 ∧ _)
 refine ⟨rfl, b, nD N, nE (vJ N) (nE N k + -q.mult), zbr (vJ N) (nE (vJ N) (nE N k + -q.mult)), ?_, ?_, ?_⟩
 ·show yA.f b (nD (rN q m b (vB s) e)) (nE (rN q m b (vB s) e) (rK q (vB s) e)) (-q.mult) = _
  rw [← hN, ← hk]
  rw [← hN] at k1
  rw [← hk] at k2 k3
  have a1 := zdE N k k1
  have a2 := zcL N k
  have a3 := zhb (n := N) k1 (by omega)
  rw [zhq ⟨zfE N, zfv N, by omega, by omega, by omega⟩ (by omega) (by omega) (by omega) (by omega), zft, zix]
 ·rw [← hN] at k1
  rw [← hk] at k2 k3
  have a1 := zdE N k k1
  have a2 := zcL N k
  have a3 := zhb (n := N) k1 (by omega)
  have hcz : (jH (vJ N)).size ≤ 4000 := zan (zgk N) k1
  have b1 := zdE (vJ N) (nE N k + -q.mult) hcz
  have b2 := zcL (vJ N) (nE N k + -q.mult)
  have b3 := zdE (vJ N) (nE (vJ N) (nE N k + -q.mult)) hcz
  have b4 := zcL (vJ N) (nE (vJ N) (nE N k + -q.mult))
  have := ziD (b := b) (s := nD N) (e := nE (vJ N) (nE N k + -q.mult)) ⟨zfE N, zfv N, by omega, by omega, by omega⟩ (by rw [zft, zix]; exact ⟨zfE N, zfv N, by omega, by omega, by omega⟩)
  rw [this, zft]
 unfold zfV; rw [hN]
theorem zjf {q : Pat} (hq : zaX q) {m : Int} (h0 : 0 ≤ m) (h6 : m ≤ 6) (b : Bool) : zcl q m b ⟨#[48]⟩ 0 (b, ⟨#[48]⟩, 0, 0) := by
 have h := zfy hq h0 h6 b (s := ⟨#[48]⟩) (e := 0) (by decide) (by decide) (by decide)
 have hv : vB ⟨#[48]⟩ = 0 := rfl
 rw [hv] at h
 have hN : rN q m b 0 0 = 0 := by unfold rN; rw [zbq, zlQ]
 have hX : rX q m b 0 0 = 0 := by unfold rX; rw [hN, zbq]; rfl
 rw [hN, hX] at h
 have hf : zfV b 0 0 = (b, ⟨#[48]⟩, 0, 0) := by unfold zfV; rw [if_pos (by rw [zbq]; exact decide_eq_true (.inl rfl))]; rfl
 rw [hf] at h
 exact h
theorem zmJ {q : Pat} (hq : zaX q) (b : Bool) : IsR q b ⟨#[48]⟩ 0 true := by
 obtain ⟨m0, m3⟩ := zgh q
 obtain ⟨c1, c2, c3⟩ := zjz hq.good
 have := hq.good.mf0; have := hq.good.mfx; have := hq.good.xf4
 have okz : OkD ⟨#[48]⟩ 0 := ⟨rfl, by decide, by decide, by decide, by decide⟩
 have oks : OkS ⟨#[48]⟩ 0 := ⟨rfl, by decide, by decide, by decide, by decide⟩
 have hv : vB ⟨#[48]⟩ = 0 := rfl
 refine ⟨b, ⟨#[48]⟩, 0, ?_, fun h => ⟨1, ?_, ?_⟩, fun h hi => ⟨_, zeH (by decide) (by decide) oks (hq.more.dig hi).1 (hq.more.dig hi).2 hq.good.inc4 (by omega) (by omega), ?_⟩, fun h hi => ?_⟩
 ·rw [zhq ⟨rfl, by decide, by decide, by omega, by omega⟩ (by decide) (by decide) (by omega) (by omega), hv]; rfl
 ·rw [countP okz, hv]; rfl
 ·rw [c3]; exact decide_eq_true (by omega)
 ·rw [hv, zdu (by rw [zeU, Nat.zero_mod])]; rfl
 rw [zmf oks (by omega) (by omega), hv, zeU, Nat.zero_mod]; rfl
theorem zjI (b : Bool) (s : ByteArray) (e m : Int) (q : Pat) (hq : zaX q) (hd : zfu (b, s, e)) (h0 : 0 ≤ m) (h6 : m ≤ 6) :
  ∃ (v1 : Bool) (v2 : ByteArray) (v3 v4 : Int), zcl q m b ⟨#[48]⟩ 0 (b, ⟨#[48]⟩, 0, 0) ∧ zcl q m b s e (v1, v2, v3, v4) ∧ IsR q b ⟨#[48]⟩ 0 true ∧ (v4 ≠ 0 ∨ v1 = b) := by
 obtain ⟨d1, d2, d3⟩ := hd
 have h := zfy hq h0 h6 b d1 d2 d3
 obtain ⟨r, hr⟩ : ∃ r, r = zfV b (rN q m b (vB s) e) (rX q m b (vB s) e) := ⟨_, rfl⟩
 replace h : zcl q m b s e r := by rw [hr]; exact h
 obtain ⟨v1, v2, v3, v4⟩ := r
 refine ⟨v1, v2, v3, v4, zjf hq h0 h6 b, h, zmJ hq b, ?_⟩
 unfold zfV at hr
 split at hr
 ·exact .inr (congrArg (fun p => p.1) hr)
 refine .inl ?_
 have := congrArg (fun p => p.2.2.2) hr
 rw [show v4 = 10 from this]; decide
theorem zero_law (s : ByteArray) (hs : s.size ≤ 1048576) (m : Int) (b : Bool) (s2 : ByteArray) (e : Int) (hs2 : s2.size ≤ 140737488351232) (w : World) (hG : Fig.Glob w) :
  Calls Tryz.prog 7 #[.string s, .int .i64 m, .agg #[.bool b, .string s2, .int .i64 e]] w fun e w' => e = .returned (.bool true) ∧ Below w.heap.size w w' :=
 zjS s hs m b s2 e hs2 w hG (fun q hq hd h0 h6 => zjI b s2 e m q hq hd h0 h6)
end Go.Proofs.YtcmgdjnjmobkoaaGreatDoor.Px
section
namespace Go.Proofs.YtcmgdjnjmobkoaaGreatDoorW.PrintWords
open Go.ChangeShapes Go.WideShapes
end Go.Proofs.YtcmgdjnjmobkoaaGreatDoorW.PrintWords
end
section
namespace Fig
open Go Go.ChangeShapes
theorem zlU {α : Type} {l : List α} {i n : Nat} (hl : l.length = n) (hi : i < n) : ∃ v, (l.drop i).take 1 = [v] ∧ l[i]? = some v := by
 refine ⟨l[i], ?_, List.getElem?_eq_getElem (by omega)⟩
 rw [List.drop_eq_getElem_cons (by omega)]; rfl
theorem zke {P : Program} {W : World} {name : String} {d : DataW Unit} (h : funcsAt P W name d) {g : Nat} {t e : TypeId} {n : Nat} {fld : Field} {ps rs : Array TypeId} {va : Bool}
  (hg : P.globalNamed name = some g) (hty : (P.globals[g]?).map (·.type) = some t) (ht : P.underlying t = some (.array n e)) (he : P.underlying e = some (.struct #[fld])) (hft : P.underlying fld.type = some (.func ps rs va))
  (ce : P.cellsOf e = 1) (cf : P.cellsOf fld.type = 1) (ho : fld.offset = 0) (ct : P.cellsOf t = n) {ds : List (DataW (List UInt8))} (hd : d.funcsOut = .agg ds)
  {i : Nat} (hi : i < n) {b : UInt8} {r : List UInt8} (hdi : ds[i]? = some (.agg [.held (b :: r)])) {f0 : FuncId}
  (hone : ((List.range P.funcs.size).filter fun f => (P.funcs[f]?).any (·.name.toUTF8.data.toList == b :: r)) = [f0]) : W.cell? ⟨g, i, none⟩ = some (.func (.func f0) #[] #[]) := by
 obtain ⟨g', t', cs, fuel, p, hg', ht', hv, hr⟩ := h
 obtain rfl := Option.some.inj (hg.symm.trans hg')
 obtain rfl := Option.some.inj (hty.symm.trans ht')
 obtain ⟨xs, m, _, ex, hcl, hl, hel⟩ := DataW.trod_array ht hr
 rw [hd] at ex
 have e3 : xs.map (·.1) = ds := (DataW.agg.inj (Prod.mk.inj ex).1).symm
 obtain ⟨v, hv1, hv2⟩ := zlU (l := cs.toList) (n := n) (hcl.trans ct) hi
 have hE := hel i hi
 rw [ce, Nat.mul_one, hv1] at hE
 rw [← e3, List.getElem?_map] at hdi
 cases hx : xs[i]? with
 | none => rw [hx] at hdi; cases hdi
 | some x =>
  rw [hx] at hE hdi
  simp only [Option.map_some, Option.some.injEq] at hdi
  obtain ⟨y0, k, rfl, _, hy⟩ := trod_struct1 he hE
  rw [cf, ho, List.drop_zero] at hy
  have hy0 : y0.1 = .held (b :: r) := by simpa using hdi
  obtain ⟨y1, y2⟩ := y0
  subst hy0
  obtain rfl := func_of_trod hft hone (show DataW.trod _ P W 0 _ true k fld.type [v] = _ from hy)
  rw [World.var?_cell hg hv i]
  simpa using hv2
theorem zeJ (g : Nat) : ∀ (l : List Value) (i : Nat) (w : World), ((l.zipIdx i).foldl (fun w x => w.setCell ⟨g, x.2, none⟩ x.1) w).os = w.os
 | [], _, _ => rfl
 | _ :: l, i, w => by rw [List.zipIdx_cons, List.foldl_cons, zeJ g l (i + 1)]; rfl
end Fig
end
section
namespace Fig
open Go Go.Proofs Go.Proofs.YtcmgdjnjmobkoaaGreatDoor
set_option maxRecDepth 100000
def zhv : List (String × DataW Unit) := [("unicode/utf8.acceptRanges", Rows.laid_unicode_utf8_acceptRanges), ("figurehead/ten.powers", Rows.laid_figurehead_ten_powers), ("unicode/utf8.first", Rows.laid_unicode_utf8_first)]
def zeu : List (String × DataW Unit) := [("figurehead/mode.ways", Rows.laid_figurehead_mode_ways), ("unicode/utf8.acceptRanges", Rows.laid_unicode_utf8_acceptRanges), ("figurehead/ten.powers", Rows.laid_figurehead_ten_powers), ("unicode/utf8.first", Rows.laid_unicode_utf8_first)]
def zlZ : List Value := [.func (.func 173) #[] #[], .func (.func 174) #[] #[], .func (.func 175) #[] #[], .func (.func 176) #[] #[], .func (.func 177) #[] #[], .func (.func 178) #[] #[], .func (.func 179) #[] #[], .func (.func 180) #[] #[]]
noncomputable def startW (os : Os) : World := (zlZ.zipIdx 0).foldl (fun w x => w.setCell ⟨1, x.2, none⟩ x.1) (World.laidAll Tryz.prog os zhv)
theorem startW_os (os : Os) : (startW os).os = os := (zeJ _ _ _ _).trans (World.laidAll_os _ _ _)
theorem met (os : Os) (args : Array Value) : laidMetH Tryz.prog zeu ((startW os).forCall (fun _ _ => 0) ⟨#[], args, []⟩).memory :=
 laidMetH_of_parts3 (fuel := 8) (laidMet_of_run' 8 (by kernel_rfl) (by kernel_rfl)) (by kernel_rfl) (by kernel_rfl)
theorem zig : (zeu.filter fun x => x.2.handleName?.isNone) = zhv := by kernel_rfl
theorem zlw {W : World} (h : laidMetH Tryz.prog zeu W) : laidMet Tryz.prog zhv W := zig ▸ (laidMetH_iff.1 h).1
theorem zmk {W : World} (h : laidMetH Tryz.prog zeu W) : ∀ i f, ([173, 174, 175, 176, 177, 178, 179, 180] : List Nat)[i]? = some f → W.cell? ⟨1, i, none⟩ = some (.func (.func f) #[] #[]) := by
 have hF := h.funcs (n := "figurehead/mode.ways") (List.mem_cons_self)
 have gN : Tryz.prog.globalNamed "figurehead/mode.ways" = some 1 := by kernel_rfl
 have gT : (Tryz.prog.globals[1]?).map (·.type) = some 130 := by kernel_rfl
 have c1 : Tryz.prog.cellsOf 129 = 1 := by kernel_rfl
 have c2 : Tryz.prog.cellsOf 127 = 1 := by kernel_rfl
 have c3 : Tryz.prog.cellsOf 130 = 8 := by kernel_rfl
 intro i f hf
 have key : ∀ {b : UInt8} {r : List UInt8} {j : Nat} {f0 : FuncId}, j < 8 → _ → _ → W.cell? ⟨1, j, none⟩ = some (.func (.func f0) #[] #[]) := fun {b} {r} {j} {f0} hj hdi hone => zke (b := b) (r := r) hF gN gT Tryz.underlying130 Tryz.underlying129 Tryz.underlying127 c1 c2 rfl c3 rfl hj hdi hone
 match i, hf with
 | 0, hf => obtain rfl := Option.some.inj hf; exact key (b := 102) (r := [105, 103, 117, 114, 101, 104, 101, 97, 100, 47, 109, 111, 100, 101, 46, 119, 97, 121, 115, 36, 49]) (by decide) rfl (by kernel_rfl)
 | 1, hf => obtain rfl := Option.some.inj hf; exact key (b := 102) (r := [105, 103, 117, 114, 101, 104, 101, 97, 100, 47, 109, 111, 100, 101, 46, 119, 97, 121, 115, 36, 50]) (by decide) rfl (by kernel_rfl)
 | 2, hf => obtain rfl := Option.some.inj hf; exact key (b := 102) (r := [105, 103, 117, 114, 101, 104, 101, 97, 100, 47, 109, 111, 100, 101, 46, 119, 97, 121, 115, 36, 51]) (by decide) rfl (by kernel_rfl)
 | 3, hf => obtain rfl := Option.some.inj hf; exact key (b := 102) (r := [105, 103, 117, 114, 101, 104, 101, 97, 100, 47, 109, 111, 100, 101, 46, 119, 97, 121, 115, 36, 52]) (by decide) rfl (by kernel_rfl)
 | 4, hf => obtain rfl := Option.some.inj hf; exact key (b := 102) (r := [105, 103, 117, 114, 101, 104, 101, 97, 100, 47, 109, 111, 100, 101, 46, 119, 97, 121, 115, 36, 53]) (by decide) rfl (by kernel_rfl)
 | 5, hf => obtain rfl := Option.some.inj hf; exact key (b := 102) (r := [105, 103, 117, 114, 101, 104, 101, 97, 100, 47, 109, 111, 100, 101, 46, 119, 97, 121, 115, 36, 54]) (by decide) rfl (by kernel_rfl)
 | 6, hf => obtain rfl := Option.some.inj hf; exact key (b := 102) (r := [105, 103, 117, 114, 101, 104, 101, 97, 100, 47, 109, 111, 100, 101, 46, 119, 97, 121, 115, 36, 55]) (by decide) rfl (by kernel_rfl)
 | 7, hf => obtain rfl := Option.some.inj hf; exact key (b := 102) (r := [105, 103, 117, 114, 101, 104, 101, 97, 100, 47, 109, 111, 100, 101, 46, 119, 97, 121, 115, 36, 56]) (by decide) rfl (by kernel_rfl)
 | k + 8, hf => simp at hf
theorem zmE {W : World} (h : laidMetH Tryz.prog zeu W) : ∀ i, i < 9 → W.cell? ⟨0, i, none⟩ = some (.int .u32 (([1, 10, 100, 1000, 10000, 100000, 1000000, 10000000, 100000000] : List Int).getD i 0)) := by
 have gN : Tryz.prog.globalNamed "figurehead/ten.powers" = some 0 := by kernel_rfl
 have gT : (Tryz.prog.globals[0]?).map (·.type) = some 124 := by kernel_rfl
 have hT := Lib.tabIs_of_head (k := .u32) (zs := [1, 10, 100, 1000, 10000, 100000, 1000000, 10000000, 100000000]) gN gT Tryz.underlying124 Tryz.underlying95 (by kernel_rfl) (by kernel_rfl) (laidMet.tail (zlw h))
 exact fun i hi => hT.cell gN i hi
theorem of_laid {W : World} (h : laidMetH Tryz.prog zeu W) : Glob W := ⟨zmk h, zmE h⟩
end Fig
end
section
namespace Fig
open Go Go.ChangeShapes Go.WideShapes Go.RowKit Go.Deep Go.WideElems Go.Joins
theorem open_dec {H : Type} {enc : TypeId × Value → H} {P : Program} {w : World} {base : Nat} {spare : Nat → Bool} {held : Bool} {r : Reach} {b0 : Nat} {t : TypeId} {f0 f1 f2 : Field} {v : Value} {d : DataW H} {p : List MemPlace} {k : IntKind} (hs : P.underlying t = some (.struct #[f0, f1, f2])) (hone : oneCellFields P #[f0, f1, f2] = true) (hC : P.cellsOf t = 3)
  (u0 : P.underlying f0.type = some .bool) (u1 : P.underlying f1.type = some .string) (u2 : P.underlying f2.type = some (.int k)) (hv : Value.okWide P w r b0 t v) (h : DataW.Trod enc P w base spare held t v d p) :
  ∃ (x : Bool) (s : ByteArray) (n : Int), v = .agg #[.bool x, .string s, .int k n] ∧ d = .agg [.lit (.bool x), .lit (.string s.data.toList), .lit (.int k n)] ∧ p = [] ∧ s.size ≤ maxLen ∧ (Lit.int k n).wf = true := by
 obtain ⟨v0, v1, v2, y0, y1, y2, n, rfl, rfl, rfl, h0, h1, h2⟩ := open_agg3 hs hone hC hv h
 obtain ⟨x, e0, rfl⟩ := DataW.trod_bool u0 h0
 obtain ⟨s, e1, rfl, hl⟩ := DataW.trod_string u1 h1
 obtain ⟨m, e2, rfl, hw⟩ := DataW.trod_int u2 h2
 simp only [List.cons.injEq, and_true] at e0 e1 e2
 subst e0 e1 e2
 exact ⟨x, s, m, rfl, rfl, rfl, hl, hw⟩
theorem shut_dec {H : Type} {enc : TypeId × Value → H} {P : Program} {w : World} {base : Nat} {spare : Nat → Bool} {held : Bool} {t : TypeId} {f0 f1 f2 : Field} {k : IntKind} {x : Bool} {s : ByteArray} {n : Int} (hs : P.underlying t = some (.struct #[f0, f1, f2])) (hone : oneCellFields P #[f0, f1, f2] = true) (hC : P.cellsOf t = 3)
  (u0 : P.underlying f0.type = some .bool) (u1 : P.underlying f1.type = some .string) (u2 : P.underlying f2.type = some (.int k)) (hl : s.size ≤ maxLen) (hw : (Lit.int k n).wf = true) :
  DataW.Trod enc P w base spare held t (.agg #[.bool x, .string s, .int k n]) (.agg [.lit (.bool x), .lit (.string s.data.toList), .lit (.int k n)]) [] :=
 shut_agg3 (y0 := (.lit (.bool x), [])) (y1 := (.lit (.string s.data.toList), [])) (y2 := (.lit (.int k n), [])) hs hone hC ⟨1, by simp [DataW.trod, u0]⟩ ⟨1, by simp [DataW.trod, u1, hl]⟩ ⟨1, by simp [DataW.trod, u2, hw]⟩
theorem sized_dec {H : Type} {P : Program} {ts : List TypeId} {ds : List (DataW H)} (h : (DataW.weightsEach P ts ds).all (· ≤ reachBytes) = true) {j : Nat} {t : TypeId} {f0 f1 f2 : Field} {x y : DataW H} {bytes : List UInt8} (ht : ts[j]? = some t) (hd : ds[j]? = some (.agg [x, .lit (.string bytes), y])) (hs : P.underlying t = some (.struct #[f0, f1, f2])) : bytes.length ≤ reachBytes := by
 have := List.all_eq_true.1 h _ (DataW.weights_mem_each ht hd bytes.length (by simp [DataW.weights, DataW.weightsEach, hs]))
 simpa using this
end Fig
end
