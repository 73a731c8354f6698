/- The functions that the law SigOrders reaches, told as plain functions, with what is proved of them, and the words they need (part 2). -/
import Derived.Test.YtjpokifkbclkiaaDoorCSigOrders0
import Derived.Test.YtjpokifkbclkiaaDoorCSigOrders1
import Derived.Deep.RegionLaw
import Derived.Lib.SliceRun
import Derived.Lib.OthersKept
import Derived.Laws.RangeAny
import Derived.Laws.RangeString
import Derived.Shelf.Strings.BuilderK
import Derived.Shelf.Strings.Trim
import Derived.Test.YtjpokifkbclkiaaDoorProg
import Derived.RangeFuncFrom
import Derived.RangeFuncBox
import Derived.RangeFuncLeaves
import Derived.RangeFuncCalls
import Derived.Shelf.Abstract
import Derived.OwnWalkIn
import Derived.TacticsInMore
import Derived.LoopNIn
import Derived.LoopIn
set_option linter.unusedVariables false
set_option linter.unusedSimpArgs false
section
namespace Go.Proofs.YtjpokifkbclkiaaDoor.Px
open Fig Go.RowKit Go.Proofs.YtjpokifkbclkiaaDoorW.PrintWords Go.Proofs.YtjpokifkbclkiaaDoorW.PrintLast Go.Proofs.YtjpokifkbclkiaaDoorW.PrintMore
attribute [local go_sem] max2_int min2_int max_two min_two max_three min_three max_four min_four   -- for this text's walks alone
attribute [local go_sem] fieldA23_0 fieldA23_1 fieldA23_2
set_option maxRecDepth 100000
theorem R_lit0 (w : World) : Kd.R (Kd.int .u32) 50 (w.alloc (.cells #[] 50)) w.heap.size (fun _ => True) (.slice (some ⟨w.heap.size, 0, none⟩) 0 0) [] := by
  have := R_made w w.heap.size 0 50 (Nat.le_refl _) (by omega)
  rw [show madeCells #[Value.int .u32 0] 0 = #[] from Array.eq_empty_of_size_eq_zero (size_madeCells _ _)] at this
  exact this
set_option maxHeartbeats 2000000 in
theorem clone_calls (A : Option Addr) (c : Nat) (xs : List Int) (w : World) (hr : Kd.C (Kd.int .u32) w A xs.length xs) (hlen : xs.length ≤ 1000000) :
    Calls Tryd.prog 74 #[.slice A xs.length c] w fun e w' => ∃ v : Value, e = .returned v ∧ Kd.R (Kd.int .u32) 50 w' w.heap.size (fun _ => True) v xs ∧ Below w.heap.size w w' := by
  have HR := Aside0.mk hr
  cases A with
  | none =>
    have h0 : xs = [] := by
      cases xs with
      | nil => rfl
      | cons x xs => exact absurd (hr.2.2 (by simp)) (by rintro ⟨ad, h, _⟩; cases h)
    subst h0
    clear hr
    have hq := fun W => Lib.run_eql_slice_nil (P := Tryd.prog) W 44 50 none 0 c 0 0 Tryd.underlying44
    go_enter Tryd.func74, Tryd.ntmps74
    go_wp2
    go_ret
    exact ⟨_, rfl, Kd.R_nil _ _ _ _ _, Below.refl _ _⟩
  | some ad =>
    have HL := Aside0.mk (show (([] : List Int).length + xs.length) * 4 ≤ 140737488355328 by simp; omega)
    clear hr
    have hq := fun W => Lib.run_eql_slice_nil (P := Tryd.prog) W 44 50 (some ad) xs.length c 0 0 Tryd.underlying44
    go_enter Tryd.func74, Tryd.ntmps74
    go_wp2_with ((with_reducible refine gate_builtin (b := .append) (xs := #[.tmp 5, .tmp 6]) rfl ?_); at_builtin; (refine Kd.R_append_rows (Kd.int .u32) (w0 := w) w.heap.size rfl (.tmp 5) (.tmp 6) 44 50 (.int .u32 0) 4 rfl Tryd.underlying44 info50 rfl (by decide) (by omega) (.slice (some ⟨w.heap.size, 0, none⟩) 0 0) [] xs (some ad) xs.length c (fun _ => True) (fun _ => False) rfl rfl ?aO ?aR (fun _ _ h => h) (fun _ h => h.elim) (fun _ _ => trivial) ?aB ?aS ?aL ?_; (case aO => exact R_lit0 w); (case aR => exact Kd.C_alloc HR.out _); (case aB => exact (Below.refl _ w).alloc (Nat.le_refl _) _); (case aS => exact ((Below.refl w.heap.size w).alloc (Nat.le_refl _) _).size); (case aL => exact HL.out); intro v1 w2 ho2 hb2 hg2 hat2; rw [List.nil_append] at ho2; have HO2 := Aside0.mk ho2; have HB2 := Aside0.mk hb2; clear ho2 hb2 hg2 hat2))
    go_ret
    exact ⟨_, rfl, HO2.out, HB2.out⟩
theorem pow_tab (q p : Nat) (hq : q < 9) (hp : p = 10 ^ q) : ([1, 10, 100, 1000, 10000, 100000, 1000000, 10000000, 100000000] : List Int).getD q 0 = (p : Int) := by
  rw [hp]
  match q, hq with
  | 0, _ => rfl
  | 1, _ => rfl
  | 2, _ => rfl
  | 3, _ => rfl
  | 4, _ => rfl
  | 5, _ => rfl
  | 6, _ => rfl
  | 7, _ => rfl
  | 8, _ => rfl
  | q + 9, h => exact absurd h (by omega)
def ten_Cut.f (l0 : List Int) (a1 : Int) : Option (List Int × List Int) := if goodL l0 = true ∧ l0.length ≤ 500000 ∧ a1 ≤ 1000000 then some (limbs (valL l0 / 10 ^ a1.toNat), limbs (valL l0 % 10 ^ a1.toNat)) else none
set_option maxHeartbeats 4000000 in
theorem ten_Cut.calls (A0 : Option Addr) (c0 : Nat) (l0 : List Int) (a1 : Int) (r1 r2 : List Int) (w : World) (hG : Fig.Glob w) (hr0 : Kd.C (Kd.int .u32) w A0 l0.length l0) (hc0 : l0.length ≤ c0) (h : ten_Cut.f l0 a1 = some (r1, r2)) :
    Calls Tryd.prog 53 #[.slice A0 l0.length c0, .int .i64 a1] w fun e w' => ∃ v0_ v1_ : Value, e = .returned (.tuple #[v0_, v1_]) ∧ Kd.R (Kd.int .u32) 50 w' w.heap.size (fun k_ => some k_ ≠ (v1_ : Value).ownBlock) v0_ r1 ∧ Kd.R (Kd.int .u32) 50 w' w.heap.size (fun k_ => some k_ ≠ (v0_ : Value).ownBlock) v1_ r2 ∧ Below w.heap.size w w' := by
  unfold ten_Cut.f at h
  by_cases hg : goodL l0 = true ∧ l0.length ≤ 500000 ∧ a1 ≤ 1000000
  · rw [if_pos hg] at h
    obtain ⟨rfl, rfl⟩ := Prod.mk.inj (Option.some.inj h)
    obtain ⟨g0, z0, z1⟩ := hg
    obtain ⟨m, hm⟩ : ∃ m : Nat, m = a1.toNat := ⟨_, rfl⟩
    rw [← hm]
    have HR0 := Aside0.mk hr0
    have HC0 := Aside0.mk hc0
    have HG := Aside0.mk hG
    have G0 := Aside0.mk g0
    have HT := Aside0.mk (trimF_eq g0 (by omega))
    by_cases ha : a1 < 0
    · obtain rfl : m = 0 := by omega
      have e0 : IntKind.i64.wrap 0 = 0 := by rw [IntKind.wrap_i64]; rfl
      have hcell := hG.pows 0 (by omega)
      have hle : 0 ≤ l0.length := by omega
      obtain ⟨i0, hi0, hi1, hsz, _⟩ := info_parts info50
      obtain ⟨A1, hdr, hdc, hdl⟩ := print_drop_of (P := Tryd.prog) (Value.int .u32) 0 44 50 .i64 Tryd.underlying44 hi0 hsz A0 c0 l0 0 (by omega) (by omega) hc0
      obtain ⟨htr, htc, htl⟩ := print_take_of (P := Tryd.prog) (Value.int .u32) 0 44 50 .i64 Tryd.underlying44 hi0 hsz A0 c0 l0 0 (by omega) (by omega) hc0
      rw [show (0 : Int).toNat = 0 from rfl] at hdr hdc hdl htr htc htl
      have HCD := Aside0.mk (Kd.C_of_reads (d := (0 : Int)) (h1 := fun _ => rfl) (hdc w (Kd.reads_of_C (enc := Value.int .u32) (d := (0 : Int)) (h1 := fun _ => rfl) hr0)))
      have HCT := Aside0.mk (Kd.C_of_reads (d := (0 : Int)) (h1 := fun _ => rfl) (htc w (Kd.reads_of_C (enc := Value.int .u32) (d := (0 : Int)) (h1 := fun _ => rfl) hr0)))
      have HDL := Aside0.mk hdl
      have HTL := Aside0.mk htl
      obtain ⟨p, hp⟩ : ∃ p : Nat, p = 10 ^ 0 := ⟨_, rfl⟩
      rw [pow_tab 0 p (by decide) hp] at hcell
      obtain ⟨y, hy⟩ : ∃ y, y = l0.drop 0 := ⟨_, rfl⟩
      obtain ⟨x, hx⟩ : ∃ x, x = l0.take 0 := ⟨_, rfl⟩
      rw [← hy] at hdr HCD HDL
      rw [← hx] at htr HCT HTL
      have hyg : goodL y = true := by rw [hy]; exact goodL_drop g0 0
      have hxg : goodL x = true := by rw [hx]; exact goodL_take g0 0
      have hyl : y.length ≤ 500000 := by rw [hy, List.length_drop]; omega
      have hxl : x.length = 0 := by rw [hx, List.length_take]; omega
      have hxy : valL l0 = valL x + 1000000000 ^ 0 * valL y := by
        have e := valL_append x y
        rw [hxl, hx, hy, List.take_append_drop] at e; rw [e, hx, hy]
      have hp0 : 0 < p := by rw [hp]; exact Nat.pow_pos (by decide)
      have hp9 : p < 1000000000 := by rw [hp]; exact Nat.lt_of_lt_of_le (Nat.pow_lt_pow_right (by decide) (show 0 < 9 by decide)) (by decide)
      obtain ⟨k, hk⟩ := Ev.rounds (DivSmall_ev hyg (by omega) hp0 hp9)
      have HK := Aside0.mk hk
      have HXG := Aside0.mk hxg
      have HXY := Aside0.mk hxy
      have HXL := Aside0.mk hxl
      have HPP := Aside0.mk (And.intro hp (And.intro hp0 hp9))
      have hc1 : w.drew.cell? ⟨0, 0, none⟩ = some (.int .u32 (p : Int)) := hcell
      clear hr0 hc0 hG g0 h hm hdc htc hdl htl hy hx hyg hxg hyl hxl hxy hp0 hp9 hk hp
      go_enter Tryd.func53, Tryd.ntmps53
      go_wp2
      go_region_law (go_simp; go_wp2_with (go_at_call 73; (with_reducible refine (div_Small.calls k A1 c0 y (p : Int) (limbs (valL y / p)) ((valL y % p : Nat) : Int) true _ ?side1 ?side2 ?side3).mono ?_); (case side1 => exact Kd.C_drew HCD.out); (case side2 => exact HDL.out); (case side3 => exact HK.out); rintro e w1 ⟨v0, rfl, ho, hb⟩; have HO := Aside0.mk ho; have HB := Aside0.mk hb; clear ho hb))
      have HB1 := Aside0.mk (((Below.refl w.heap.size w).drew).trans HB.out)
      have HLX := Aside0.mk (show x.length ≤ 1000000 ∧ (x.length + 1) * 4 ≤ 140737488355328 ∧ goodL (x ++ [((valL y % p : Nat) : Int)]) = true ∧ (x ++ [((valL y % p : Nat) : Int)]).length ≤ 20000000000000 by
        have h1 := HXL.out
        have h2 := HPP.out
        have h3 := Nat.mod_lt (valL y) h2.2.1
        refine ⟨by omega, by omega, goodL_append.2 ⟨HXG.out, goodL_cons.2 ⟨by omega, rfl⟩⟩, by simp; omega⟩)
      obtain ⟨l, hl⟩ : ∃ l, l = valL y % p := ⟨_, rfl⟩
      obtain ⟨z, hz⟩ : ∃ z, z = x ++ [(l : Int)] := ⟨_, rfl⟩
      rw [← hl, ← hz] at HLX
      have HLL := Aside0.mk hl
      have HZ := Aside0.mk hz
      have hl2 : ((valL y : Int) % (p : Int)) = (l : Int) := by rw [hl]; rfl
      clear hl hz
      go_wp2_with (first
        | (go_at_call 74; go_loud ((with_reducible refine (clone_calls A0 c0 x _ ?side1 ?side2).mono ?_); (case side1 => exact Kd.C_below HCT.out HB1.out); (case side2 => exact HLX.out.1); rintro e w2 ⟨v2, rfl, ho, hb⟩; have HO2 := Aside0.mk ho; have HB2 := Aside0.mk hb; clear ho hb))
        | ((with_reducible refine gate_builtin (b := .append) (xs := #[.tmp 39, .tmp 41]) rfl ?_); at_builtin; go_loud (refine Kd.R_append (Kd.int .u32) (w0 := w1) w1.heap.size rfl (.tmp 39) (.tmp 41) 44 50 (.int .u32 0) 4 rfl Tryd.underlying44 info50 rfl (by decide) (by omega) v2 x (l : Int) [.int .u32 (l : Int)] (fun _ => True) (fun _ => False) rfl rfl rfl (fun _ hk => hk.elim) (fun _ _ => trivial) HO2.out HB2.out HB2.out.size HLX.out.2.1 ?_; intro v3 w3 ho hb hg hat; rw [← HZ.out] at ho; obtain ⟨A3, c3, rfl⟩ := Kd.R_slice ho; have HO3 := Aside0.mk ho; have HB3 := Aside0.mk hb; clear ho hb hg hat))
        | (go_at_call 58; go_loud ((with_reducible refine (nat_Trim.calls A3 c3 z (limbs (valL z)) _ ?side1 ?side2 ?side3).mono ?_); (case side3 => exact trimF_eq HLX.out.2.2.1 HLX.out.2.2.2); (case side1 => exact (Kd.R_reads' HO3.out).2.2); (case side2 => exact (Kd.R_reads' HO3.out).2.1); rintro e w4 ⟨v4, rfl, ho, hb⟩; have HO4 := Aside0.mk ho; have HB4 := Aside0.mk hb; clear ho hb)))
      have hq := Kd.R_bound HO.out
      have hr := Kd.R_bound HO4.out
      have hb14 : Below w1.heap.size w1 w4 := HB3.out.trans (HB4.out.mono HB3.out.size)
      have hvz : valL z = valL x + 1000000000 ^ 0 * l := by
        rw [HZ.out, valL_append, HXL.out]; simp [valL]
      have hp1 : p = 1 := HPP.out.1
      have hx0 : valL x = 0 := by have := valL_lt HXG.out; rw [HXL.out] at this; simpa using this
      have ed : valL l0 / 10 ^ 0 = valL y / p := by rw [HXY.out, hx0, hp1]; simp
      have em : valL l0 % 10 ^ 0 = valL z := by rw [hvz, HXY.out, hx0, HLL.out, hp1]; simp [Nat.mod_one]
      go_ret2
      rw [ed, em]
      refine ⟨v0, v4, rfl, ?_, ?_, HB1.out.trans (hb14.mono HB1.out.size)⟩
      · refine Kd.R_mono (Kd.R_below hq hb14) (fun k_ hk he => ?_)
        have := hr.1 k_ he.symm
        have h3 := HB3.out.size
        omega
      · refine Kd.R_mono (Kd.R_lower hr (Nat.le_trans HB1.out.size HB3.out.size)) (fun k_ hk he => ?_)
        have := hq.1 k_ he.symm
        have h3 := HB3.out.size
        omega
    obtain rfl : a1 = (m : Int) := by omega
    have hm6 : m ≤ 1000000 := by omega
    obtain ⟨n9, hn9⟩ : ∃ n9, n9 = m / 9 := ⟨_, rfl⟩
    obtain ⟨q9, hq9⟩ : ∃ q9, q9 = m % 9 := ⟨_, rfl⟩
    have e9 : IntKind.i64.wrap ((m : Int) / 9) = (n9 : Int) := by rw [IntKind.wrap_i64]; omega
    have r9 : (m : Int).tmod 9 = (q9 : Int) := by rw [Int.tmod_eq_emod_of_nonneg (by omega)]; omega
    have hq : q9 < 9 := by omega
    have hn : n9 ≤ 200000 := by omega
    have HN9 := Aside0.mk hn9
    have HQ9 := Aside0.mk hq9
    have hcell := hG.pows q9 hq
    by_cases hnl : l0.length < n9
    · have d1 : decide (l0.length < n9) = true := decide_eq_true hnl
      clear hr0 hc0 hG g0 h hm hn9 hq9 hcell
      go_enter Tryd.func53, Tryd.ntmps53
      go_wp2_with (go_at_call 58; (with_reducible refine (nat_Trim.calls A0 c0 l0 (limbs (valL l0)) _ ?side1 ?side2 ?side3).mono ?_); (case side3 => exact HT.out); (case side1 => exact HR0.out); (case side2 => exact HC0.out); rintro e w1 ⟨v0, rfl, ho, hb⟩; have HO := Aside0.mk ho; have HB := Aside0.mk hb; clear ho hb)
      have hlt : valL l0 < 10 ^ m := by
        refine Nat.lt_of_lt_of_le (valL_lt G0.out) ?_
        rw [pow9]; exact Nat.pow_le_pow_right (by decide) (by have := HN9.out; omega)
      go_ret2
      refine ⟨_, v0, rfl, ?_, ?_, HB.out⟩
      · rw [Nat.div_eq_of_lt hlt, limbs_zero]; exact Kd.R_nil _ _ _ _ _
      · rw [Nat.mod_eq_of_lt hlt]
        exact Kd.R_mono HO.out (fun k_ _ => by simp [Value.ownBlock])
    · have d1 : decide (l0.length < n9) = false := decide_eq_false hnl
      have hle : n9 ≤ l0.length := by omega
      obtain ⟨i0, hi0, hi1, hsz, _⟩ := info_parts info50
      obtain ⟨A1, hdr, hdc, hdl⟩ := print_drop_of (P := Tryd.prog) (Value.int .u32) 0 44 50 .i64 Tryd.underlying44 hi0 hsz A0 c0 l0 (n9 : Int) (by omega) (by omega) hc0
      obtain ⟨htr, htc, htl⟩ := print_take_of (P := Tryd.prog) (Value.int .u32) 0 44 50 .i64 Tryd.underlying44 hi0 hsz A0 c0 l0 (n9 : Int) (by omega) (by omega) hc0
      rw [Int.toNat_natCast] at hdr hdc hdl htr htc htl
      have HCD := Aside0.mk (Kd.C_of_reads (d := (0 : Int)) (h1 := fun _ => rfl) (hdc w (Kd.reads_of_C (enc := Value.int .u32) (d := (0 : Int)) (h1 := fun _ => rfl) hr0)))
      have HCT := Aside0.mk (Kd.C_of_reads (d := (0 : Int)) (h1 := fun _ => rfl) (htc w (Kd.reads_of_C (enc := Value.int .u32) (d := (0 : Int)) (h1 := fun _ => rfl) hr0)))
      have HDL := Aside0.mk hdl
      have HTL := Aside0.mk htl
      obtain ⟨p, hp⟩ : ∃ p : Nat, p = 10 ^ q9 := ⟨_, rfl⟩
      rw [pow_tab q9 p hq hp] at hcell
      have hd2 : ((q9 : Int) < 9) = True := eq_true (by omega)
      obtain ⟨y, hy⟩ : ∃ y, y = l0.drop n9 := ⟨_, rfl⟩
      obtain ⟨x, hx⟩ : ∃ x, x = l0.take n9 := ⟨_, rfl⟩
      rw [← hy] at hdr HCD HDL
      rw [← hx] at htr HCT HTL
      have hyg : goodL y = true := by rw [hy]; exact goodL_drop g0 n9
      have hxg : goodL x = true := by rw [hx]; exact goodL_take g0 n9
      have hyl : y.length ≤ 500000 := by rw [hy, List.length_drop]; omega
      have hxl : x.length = n9 := by rw [hx, List.length_take]; omega
      have hxy : valL l0 = valL x + 1000000000 ^ n9 * valL y := by
        have e := valL_append x y
        rw [hxl, hx, hy, List.take_append_drop] at e; rw [e, hx, hy]
      have hp0 : 0 < p := by rw [hp]; exact Nat.pow_pos (by decide)
      have hp9 : p < 1000000000 := by rw [hp]; exact Nat.lt_of_lt_of_le (Nat.pow_lt_pow_right (by decide) hq) (by decide)
      obtain ⟨k, hk⟩ := Ev.rounds (DivSmall_ev hyg (by omega) hp0 hp9)
      have HK := Aside0.mk hk
      have HXG := Aside0.mk hxg
      have HXY := Aside0.mk hxy
      have HXL := Aside0.mk hxl
      have HPP := Aside0.mk (And.intro hp (And.intro hp0 hp9))
      have hc1 : w.drew.cell? ⟨0, q9, none⟩ = some (.int .u32 (p : Int)) := hcell
      clear hr0 hc0 hG g0 h hm hn9 hq9 hnl hdc htc hdl htl hy hx hyg hxg hyl hxl hxy hp0 hp9 hk hp
      go_enter Tryd.func53, Tryd.ntmps53
      go_wp2
      go_region_law (go_simp; go_wp2_with (go_at_call 73; (with_reducible refine (div_Small.calls k A1 (c0 - n9) y (p : Int) (limbs (valL y / p)) ((valL y % p : Nat) : Int) true _ ?side1 ?side2 ?side3).mono ?_); (case side1 => exact Kd.C_drew HCD.out); (case side2 => exact HDL.out); (case side3 => exact HK.out); rintro e w1 ⟨v0, rfl, ho, hb⟩; have HO := Aside0.mk ho; have HB := Aside0.mk hb; clear ho hb))
      have HB1 := Aside0.mk (((Below.refl w.heap.size w).drew).trans HB.out)
      have HLX := Aside0.mk (show x.length ≤ 1000000 ∧ (x.length + 1) * 4 ≤ 140737488355328 ∧ goodL (x ++ [((valL y % p : Nat) : Int)]) = true ∧ (x ++ [((valL y % p : Nat) : Int)]).length ≤ 20000000000000 by
        have h1 := HXL.out
        have h2 := HPP.out
        have h3 := Nat.mod_lt (valL y) h2.2.1
        refine ⟨by omega, by omega, goodL_append.2 ⟨HXG.out, goodL_cons.2 ⟨by omega, rfl⟩⟩, by simp; omega⟩)
      obtain ⟨l, hl⟩ : ∃ l, l = valL y % p := ⟨_, rfl⟩
      obtain ⟨z, hz⟩ : ∃ z, z = x ++ [(l : Int)] := ⟨_, rfl⟩
      rw [← hl, ← hz] at HLX
      have HLL := Aside0.mk hl
      have HZ := Aside0.mk hz
      have hl2 : ((valL y : Int) % (p : Int)) = (l : Int) := by rw [hl]; rfl
      clear hl hz
      go_wp2_with (first
        | (go_at_call 74; go_loud ((with_reducible refine (clone_calls A0 c0 x _ ?side1 ?side2).mono ?_); (case side1 => exact Kd.C_below HCT.out HB1.out); (case side2 => exact HLX.out.1); rintro e w2 ⟨v2, rfl, ho, hb⟩; have HO2 := Aside0.mk ho; have HB2 := Aside0.mk hb; clear ho hb))
        | ((with_reducible refine gate_builtin (b := .append) (xs := #[.tmp 39, .tmp 41]) rfl ?_); at_builtin; go_loud (refine Kd.R_append (Kd.int .u32) (w0 := w1) w1.heap.size rfl (.tmp 39) (.tmp 41) 44 50 (.int .u32 0) 4 rfl Tryd.underlying44 info50 rfl (by decide) (by omega) v2 x (l : Int) [.int .u32 (l : Int)] (fun _ => True) (fun _ => False) rfl rfl rfl (fun _ hk => hk.elim) (fun _ _ => trivial) HO2.out HB2.out HB2.out.size HLX.out.2.1 ?_; intro v3 w3 ho hb hg hat; rw [← HZ.out] at ho; obtain ⟨A3, c3, rfl⟩ := Kd.R_slice ho; have HO3 := Aside0.mk ho; have HB3 := Aside0.mk hb; clear ho hb hg hat))
        | (go_at_call 58; go_loud ((with_reducible refine (nat_Trim.calls A3 c3 z (limbs (valL z)) _ ?side1 ?side2 ?side3).mono ?_); (case side3 => exact trimF_eq HLX.out.2.2.1 HLX.out.2.2.2); (case side1 => exact (Kd.R_reads' HO3.out).2.2); (case side2 => exact (Kd.R_reads' HO3.out).2.1); rintro e w4 ⟨v4, rfl, ho, hb⟩; have HO4 := Aside0.mk ho; have HB4 := Aside0.mk hb; clear ho hb)))
      have hq := Kd.R_bound HO.out
      have hr := Kd.R_bound HO4.out
      have hb14 : Below w1.heap.size w1 w4 := HB3.out.trans (HB4.out.mono HB3.out.size)
      have hvz : valL z = valL x + 1000000000 ^ n9 * l := by
        rw [HZ.out, valL_append, HXL.out]; simp [valL]
      have e1 : 10 ^ m = 1000000000 ^ n9 * p := by
        rw [pow9, HPP.out.1, ← Nat.pow_add, HN9.out, HQ9.out, Nat.div_add_mod]
      have hxlt : valL x < 1000000000 ^ n9 := by have := valL_lt HXG.out; rwa [HXL.out] at this
      have hB0 : 0 < 1000000000 ^ n9 := Nat.pow_pos (by decide)
      have ed : valL l0 / 10 ^ m = valL y / p := by
        rw [HXY.out, e1, ← Nat.div_div_eq_div_mul, Nat.add_mul_div_left _ _ hB0, Nat.div_eq_of_lt hxlt, Nat.zero_add]
      have em : valL l0 % 10 ^ m = valL z := by
        rw [hvz, HXY.out, e1, Nat.mod_mul, Nat.add_mul_mod_self_left, Nat.mod_eq_of_lt hxlt, Nat.add_mul_div_left _ _ hB0, Nat.div_eq_of_lt hxlt, Nat.zero_add, HLL.out]
      go_ret2
      rw [ed, em]
      refine ⟨v0, v4, rfl, ?_, ?_, HB1.out.trans (hb14.mono HB1.out.size)⟩
      · refine Kd.R_mono (Kd.R_below hq hb14) (fun k_ hk he => ?_)
        have := hr.1 k_ he.symm
        have h3 := HB3.out.size
        omega
      · refine Kd.R_mono (Kd.R_lower hr (Nat.le_trans HB1.out.size HB3.out.size)) (fun k_ hk he => ?_)
        have := hq.1 k_ he.symm
        have h3 := HB3.out.size
        omega
  · rw [if_neg hg] at h; cases h
end Go.Proofs.YtjpokifkbclkiaaDoor.Px
end
section
namespace Go.Proofs.YtjpokifkbclkiaaDoor.Px
open Fig Go.RowKit Go.Proofs.YtjpokifkbclkiaaDoorW.PrintWords Go.Proofs.YtjpokifkbclkiaaDoorW.PrintLast Go.Proofs.YtjpokifkbclkiaaDoorW.PrintMore
attribute [local go_sem] max2_int min2_int max_two min_two max_three min_three max_four min_four   -- for this text's walks alone
attribute [local go_sem] fieldA23_0 fieldA23_1 fieldA23_2
set_option maxRecDepth 100000
theorem digL_take {l : List UInt8} (h : digL l = true) (n : Nat) : digL (l.take n) = true := by
  unfold digL at h ⊢; rw [List.all_eq_true] at h ⊢; exact fun x hx => h x (List.mem_of_mem_take hx)
theorem num_step (n c : Nat) (h1 : 48 ≤ c) (h2 : c ≤ 57) (hn : n < 100000000) : (((n : Int) * 10 % 4294967296 + wrap32 ((c : Int) - 48) % 4294967296) % 4294967296) = ((10 * n + (c - 48) : Nat) : Int) := by
  have e : wrap32 ((c : Int) - 48) = ((c - 48 : Nat) : Int) := by unfold wrap32; omega
  rw [e]; omega
def ten_Number.f (s : ByteArray) : Option (List Int × Bool) := if s.size ≤ 140737488351232 then some (if dB s = true ∧ s.size ≠ 0 then (limbs (vB s), true) else ([], false)) else none
theorem byte_at (s : ByteArray) (i : Nat) (h : i < s.size) : s.data.toList[i]'(by rw [← size_eq]; exact h) = s[i]'h := rfl
theorem take_digits (s : ByteArray) (i : Nat) (h : i < s.size) : digL (s.data.toList.take (i + 1)) = (digL (s.data.toList.take i) && isD (s[i]'h)) := by
  rw [List.take_succ_eq_append_getElem (by rw [← size_eq]; exact h)]
  unfold digL
  rw [List.all_append]; simp; rfl
theorem not_digits (s : ByteArray) (i : Nat) (h : i < s.size) (hc : isD (s[i]'h) = false) : dB s = false := by
  unfold dB digL
  rw [Bool.eq_false_iff]; intro hall
  have := List.all_eq_true.1 hall _ (List.getElem_mem (n := i) (by rw [← size_eq]; exact h))
  rw [byte_at s i h, hc] at this; cases this
theorem suffix_step (L : List UInt8) (a e : Nat) (ha : a ≤ e) (he : e ≤ L.length) : rv (L.drop a).reverse = rv (L.drop e).reverse + 10 ^ (L.length - e) * rv ((L.drop a).take (e - a)).reverse := by
  have h1 : L.drop a = (L.drop a).take (e - a) ++ L.drop e := by
    have := (List.take_append_drop (e - a) (L.drop a)).symm
    rwa [List.drop_drop, show a + (e - a) = e by omega] at this
  conv => lhs; rw [h1]
  rw [List.reverse_append, rv_append, List.length_reverse, List.length_drop]
theorem take_rv (L : List UInt8) (p : Nat) (h : p < L.length) : rv (L.take (p + 1)).reverse = ((L[p]'h).toNat - 48) + 10 * rv (L.take p).reverse := by
  rw [List.take_succ_eq_append_getElem h, List.reverse_append]; rfl
set_option maxHeartbeats 8000000 in
theorem ten_Number.calls (s : ByteArray) (r1 : List Int) (r2 : Bool) (w : World) (h : ten_Number.f s = some (r1, r2)) :
    Calls Tryd.prog 75 #[.string s] w fun e w' => ∃ v0_ : Value, e = .returned (.tuple #[v0_, .bool r2]) ∧ Kd.R (Kd.int .u32) 50 w' w.heap.size (fun _ => True) v0_ r1 ∧ Below w.heap.size w w' := by
  unfold ten_Number.f at h
  by_cases hs : s.size ≤ 140737488351232
  · rw [if_pos hs] at h
    have h2 := Option.some.inj h
    clear h
    by_cases hz : s.size = 0
    · rw [if_neg (fun hh => hh.2 hz)] at h2
      obtain ⟨rfl, rfl⟩ := Prod.mk.inj h2
      obtain rfl : s = ⟨#[]⟩ := by apply B_ext; exact List.eq_nil_of_length_eq_zero (by rw [← size_eq]; exact hz)
      clear hz h2 hs
      go_enter Tryd.func75, Tryd.ntmps75
      go_wp2
      go_ret2
      exact ⟨_, rfl, Kd.R_nil _ _ _ _ _, Below.refl _ _⟩
    · have hne : (s.toList == ([] : List UInt8)) = false := by
        rw [beq_eq_false_iff_ne, ByteArray.toList_eq]; intro hh; apply hz; rw [size_eq, hh]; rfl
      have HZ := Aside0.mk hz
      have H2 := Aside0.mk h2
      clear hz h2
      go_enter Tryd.func75, Tryd.ntmps75
      go_wp2
      go_loopg [5] s.size (fun j v5 w' => ∃ pos : Nat, Aside0 (pos + j = s.size) ∧ Aside0 (digL (s.data.toList.take pos) = true) ∧ Aside0 (w'.heap[w.heap.size]? = some (.stringIter s pos)) ∧ Aside0 (Below w.heap.size w w'))
      case atStart => exact ⟨0, ⟨by omega⟩, ⟨rfl⟩, ⟨by unfold World.iter; exact heap_alloc_new w _⟩, ⟨(Below.refl _ w).alloc (Nat.le_refl _) _⟩⟩
      case round =>
        obtain ⟨pos, HP, HD, HI, HB⟩ := hrel
        cases gk with
        | zero =>
          have hp := HP.out
          have hnx := Lib.run_next_end_at (P := Tryd.prog) wr w.heap.size s pos 0 HI.out (by omega)
          clear hp
          obtain rfl : pos = s.size := by have := HP.out; omega
          have hdb : dB s = true := by have := HD.out; rw [List.take_of_length_le (by rw [← size_eq]; exact Nat.le_refl _)] at this; exact this
          have h2 := H2.out
          rw [if_pos ⟨hdb, HZ.out⟩] at h2
          obtain ⟨rfl, rfl⟩ := Prod.mk.inj h2
          have HDB := Aside0.mk hdb
          clear h2 hdb HD
          go_wp2
          go_loopg [6, 7, 8, 10] (s.size / 9 + 1) (fun j v6 v7 v8 v10 w' => ∃ (i : Nat) (o : List Int), v7 = .int .i64 ((s.size : Int) - 9 * (i : Int)) ∧ Aside0 (i + j = s.size / 9 + 1) ∧ Aside0 (o.length = i ∧ goodL o = true ∧ valL o = rv (s.data.toList.drop (s.size - 9 * i)).reverse) ∧ Aside0 (Kd.R (Kd.int .u32) 50 w' w.heap.size (fun _ => True) v6 o) ∧ Aside0 (Below w.heap.size w w'))
          case atStart => exact ⟨0, [], by simp, ⟨by omega⟩, ⟨rfl, rfl, by rw [Nat.mul_zero, Nat.sub_zero, size_eq, List.drop_length]; rfl⟩, ⟨Kd.R_nil _ _ _ _ _⟩, HB⟩
          case round =>
            clear HB HI hnx
            obtain ⟨i, o, rfl, HJ, HV, HO, HB⟩ := hrel
            by_cases he : 9 * i < s.size
            · cases gk with
              | zero => exact absurd HJ.out (by omega)
              | succ j =>
                obtain ⟨E, hE⟩ : ∃ E : Nat, (s.size : Int) - 9 * (i : Int) = (E : Int) := ⟨s.size - 9 * i, by omega⟩
                rw [hE]
                have d1 : decide (0 < E) = true := decide_eq_true (by omega)
                have HE := Aside0.mk hE
                rcases Int.lt_trichotomy ((E : Int) - 9) 0 with hx | hx | hx
                · obtain ⟨x, hxx⟩ : ∃ x : Int, (E : Int) - 9 = x := ⟨_, rfl⟩
                  have w9 : wrap64 ((E : Int) - 9) = x := by rw [w64 (by omega) (by omega)]; exact hxx
                  have q1 : x < 0 := by omega
                  have q3 : decide (x < 0) = true := decide_eq_true q1
                  have q2 : E ≤ s.size := by omega
                  have HLO := Aside0.mk (show 0 = s.size - 9 * (i + 1) ∧ 0 ≤ E ∧ E - 0 ≤ 9 ∧ E = s.size - 9 * i by omega)
                  obtain ⟨sub, hsub⟩ : ∃ sub, sub = s.extract 0 E := ⟨_, rfl⟩
                  have HSUB := Aside0.mk hsub
                  go_wp2
                  rw [← HSUB.out]
                  have HDS := Aside0.mk (show digL sub.data.toList = true by
                    have hd := HDB.out
                    rw [HSUB.out, B_extract]
                    unfold dB digL at hd; unfold digL
                    rw [List.all_eq_true] at hd ⊢
                    exact fun x hx => hd x (List.mem_of_mem_drop (List.mem_of_mem_take hx)))
                  have HSS := Aside0.mk (show sub.size = E - 0 by rw [HSUB.out, size_eq, B_extract, List.length_take, List.length_drop, ← size_eq]; have := HLO.out; omega)
                  have HIT := Aside0.mk (show (wr.iter sub 0).heap[wr.heap.size]? = some (.stringIter sub 0) by unfold World.iter; exact heap_alloc_new wr _)
                  have HBI := Aside0.mk (show Below wr.heap.size wr (wr.iter sub 0) from (Below.refl _ wr).alloc (Nat.le_refl _) _)
                  clear hsub hE
                  go_loopg [8, 10] sub.size (fun j v8 v10 w' => ∃ p n : Nat, v8 = .int .u32 (n : Int) ∧ Aside0 (n = rv (sub.data.toList.take p).reverse) ∧ Aside0 (p + j = sub.size) ∧ Aside0 (w'.heap[wr.heap.size]? = some (.stringIter sub p)) ∧ Aside0 (Below wr.heap.size wr w'))
                  case atStart => exact ⟨0, 0, rfl, ⟨rfl⟩, ⟨by omega⟩, HIT, HBI⟩
                  case round =>
                    clear HIT HBI
                    obtain ⟨p, n, rfl, HN, HPP, HIT, HBI⟩ := hrel
                    have hn9 : n < 10 ^ p := by
                      rw [HN.out]
                      refine Nat.lt_of_lt_of_le (rv_lt (by rw [digL_reverse]; exact digL_take HDS.out p)) ?_
                      rw [List.length_reverse, List.length_take]; exact Nat.pow_le_pow_right (by omega) (Nat.min_le_left _ _)
                    cases gk with
                    | zero =>
                      have hnx := Lib.run_next_end_at (P := Tryd.prog) wr _ sub p 0 HIT.out (by have := HPP.out; omega)
                      obtain rfl : p = sub.size := by have := HPP.out; omega
                      have HNV := Aside0.mk (show n = rv sub.data.toList.reverse ∧ n < 1000000000 by
                        have h1 := HN.out
                        rw [List.take_of_length_le (by rw [← size_eq]; exact Nat.le_refl _)] at h1
                        exact ⟨h1, Nat.lt_of_lt_of_le hn9 (Nat.le_trans (Nat.pow_le_pow_right (by omega) (show sub.size ≤ 9 by rw [HSS.out]; exact HLO.out.2.2.1)) (by decide))⟩)
                      have HOW := Aside0.mk (Kd.R_below HO.out HBI.out)
                      have HBW := Aside0.mk (HB.out.trans (HBI.out.mono HB.out.size))
                      have HL := Aside0.mk (show (o.length + 1) * 4 ≤ 140737488355328 by have := HV.out; have := HJ.out; omega)
                      clear hn9
                      go_wp2_with (first
                        | ((with_reducible refine gate_builtin (b := .append) (xs := #[.tmp 46, .tmp 48]) rfl ?_); at_builtin; refine Kd.R_append (Kd.int .u32) (w0 := w) w.heap.size rfl (.tmp 46) (.tmp 48) 44 50 (.int .u32 0) 4 rfl Tryd.underlying44 info50 rfl (by decide) (by omega) _ o (n : Int) [.int .u32 (n : Int)] (fun _ => True) (fun _ => False) rfl rfl rfl (fun _ hk => hk.elim) (fun _ _ => trivial) HOW.out HBW.out HBW.out.size HL.out ?_; intro v49 w11 ho hb hg hat; have HO2 := Aside0.mk ho; have HB2 := Aside0.mk hb; clear ho hb hg hat))
                      go_roundg j
                      case measure => omega
                      case rel =>
                        refine ⟨i + 1, _, ?_, ⟨by have := HJ.out; omega⟩, ⟨?_⟩, HO2, HB2⟩
                        · have h1 := HE.out
                          congr 1; omega
                        · obtain ⟨h1, h2, h3⟩ := HV.out
                          obtain ⟨l1, l2, l3, l4⟩ := HLO.out
                          obtain ⟨n1, n2⟩ := HNV.out
                          refine ⟨by rw [List.length_append, h1]; rfl, goodL_append.2 ⟨h2, goodL_cons.2 ⟨by omega, rfl⟩⟩, ?_⟩
                          rw [valL_snoc, h3, h1, Int.toNat_natCast, n1, HSUB.out, B_extract, pow9, ← l1, suffix_step s.data.toList _ E l2 (by rw [← size_eq]; omega), l4, ← size_eq, show s.size - (s.size - 9 * i) = 9 * i by omega]
                    | succ jj =>
                      have hp : p < sub.size := by have := HPP.out; omega
                      have hcd : isD (sub[p]'hp) = true := by
                        have := HDS.out
                        unfold digL at this
                        exact List.all_eq_true.1 this _ (List.getElem_mem (n := p) (by rw [← size_eq]; exact hp))
                      have hc2 := isD_iff.1 hcd
                      obtain ⟨c, hcn⟩ : ∃ c, c = (sub[p]'hp).toNat := ⟨_, rfl⟩
                      have hnx := Lib.run_next_ascii_at (P := Tryd.prog) wr _ sub p 0 HIT.out hp (by omega)
                      rw [← hcn] at hnx hc2
                      have HN2 := Aside0.mk (show rv (sub.data.toList.take (p + 1)).reverse = (c - 48) + 10 * n by
                        rw [take_rv _ p (by rw [← size_eq]; exact hp), HN.out, hcn]; rfl)
                      have HBJ := Aside0.mk (Lib.below_iterAt HBI.out (Nat.le_refl _) sub (p + 1))
                      have HIJ := Aside0.mk (Lib.iterAt_heap wr _ sub p (p + 1) HIT.out)
                      have hn8 : n < 100000000 := Nat.lt_of_lt_of_le hn9 (Nat.le_trans (Nat.pow_le_pow_right (by omega) (show p ≤ 8 by have := HSS.out; have := HLO.out; omega)) (by decide))
                      have HCC := Aside0.mk (show 48 ≤ c ∧ c ≤ 57 ∧ n < 100000000 from ⟨hc2.1, hc2.2, hn8⟩)
                      clear hcn hc2 hcd hn9 hn8 hp
                      go_wp2
                      go_roundg jj
                      case measure => omega
                      case rel =>
                        refine ⟨p + 1, 10 * n + (c - 48), ?_, ⟨by rw [HN2.out]; exact Nat.add_comm _ _⟩, ⟨by have := HPP.out; omega⟩, HIJ, HBJ⟩
                        rw [num_step n c HCC.out.1 HCC.out.2.1 HCC.out.2.2]
                · have w9 : wrap64 ((E : Int) - 9) = 0 := by rw [w64 (by omega) (by omega)]; exact hx
                  have q2 : E ≤ s.size := by omega
                  have HLO := Aside0.mk (show 0 = s.size - 9 * (i + 1) ∧ 0 ≤ E ∧ E - 0 ≤ 9 ∧ E = s.size - 9 * i by omega)
                  obtain ⟨sub, hsub⟩ : ∃ sub, sub = s.extract 0 E := ⟨_, rfl⟩
                  have HSUB := Aside0.mk hsub
                  go_wp2
                  rw [← HSUB.out]
                  have HDS := Aside0.mk (show digL sub.data.toList = true by
                    have hd := HDB.out
                    rw [HSUB.out, B_extract]
                    unfold dB digL at hd; unfold digL
                    rw [List.all_eq_true] at hd ⊢
                    exact fun x hx => hd x (List.mem_of_mem_drop (List.mem_of_mem_take hx)))
                  have HSS := Aside0.mk (show sub.size = E - 0 by rw [HSUB.out, size_eq, B_extract, List.length_take, List.length_drop, ← size_eq]; have := HLO.out; omega)
                  have HIT := Aside0.mk (show (wr.iter sub 0).heap[wr.heap.size]? = some (.stringIter sub 0) by unfold World.iter; exact heap_alloc_new wr _)
                  have HBI := Aside0.mk (show Below wr.heap.size wr (wr.iter sub 0) from (Below.refl _ wr).alloc (Nat.le_refl _) _)
                  clear hsub hE
                  go_loopg [8, 10] sub.size (fun j v8 v10 w' => ∃ p n : Nat, v8 = .int .u32 (n : Int) ∧ Aside0 (n = rv (sub.data.toList.take p).reverse) ∧ Aside0 (p + j = sub.size) ∧ Aside0 (w'.heap[wr.heap.size]? = some (.stringIter sub p)) ∧ Aside0 (Below wr.heap.size wr w'))
                  case atStart => exact ⟨0, 0, rfl, ⟨rfl⟩, ⟨by omega⟩, HIT, HBI⟩
                  case round =>
                    clear HIT HBI
                    obtain ⟨p, n, rfl, HN, HPP, HIT, HBI⟩ := hrel
                    have hn9 : n < 10 ^ p := by
                      rw [HN.out]
                      refine Nat.lt_of_lt_of_le (rv_lt (by rw [digL_reverse]; exact digL_take HDS.out p)) ?_
                      rw [List.length_reverse, List.length_take]; exact Nat.pow_le_pow_right (by omega) (Nat.min_le_left _ _)
                    cases gk with
                    | zero =>
                      have hnx := Lib.run_next_end_at (P := Tryd.prog) wr _ sub p 0 HIT.out (by have := HPP.out; omega)
                      obtain rfl : p = sub.size := by have := HPP.out; omega
                      have HNV := Aside0.mk (show n = rv sub.data.toList.reverse ∧ n < 1000000000 by
                        have h1 := HN.out
                        rw [List.take_of_length_le (by rw [← size_eq]; exact Nat.le_refl _)] at h1
                        exact ⟨h1, Nat.lt_of_lt_of_le hn9 (Nat.le_trans (Nat.pow_le_pow_right (by omega) (show sub.size ≤ 9 by rw [HSS.out]; exact HLO.out.2.2.1)) (by decide))⟩)
                      have HOW := Aside0.mk (Kd.R_below HO.out HBI.out)
                      have HBW := Aside0.mk (HB.out.trans (HBI.out.mono HB.out.size))
                      have HL := Aside0.mk (show (o.length + 1) * 4 ≤ 140737488355328 by have := HV.out; have := HJ.out; omega)
                      clear hn9
                      go_wp2_with (first
                        | ((with_reducible refine gate_builtin (b := .append) (xs := #[.tmp 46, .tmp 48]) rfl ?_); at_builtin; refine Kd.R_append (Kd.int .u32) (w0 := w) w.heap.size rfl (.tmp 46) (.tmp 48) 44 50 (.int .u32 0) 4 rfl Tryd.underlying44 info50 rfl (by decide) (by omega) _ o (n : Int) [.int .u32 (n : Int)] (fun _ => True) (fun _ => False) rfl rfl rfl (fun _ hk => hk.elim) (fun _ _ => trivial) HOW.out HBW.out HBW.out.size HL.out ?_; intro v49 w11 ho hb hg hat; have HO2 := Aside0.mk ho; have HB2 := Aside0.mk hb; clear ho hb hg hat))
                      go_roundg j
                      case measure => omega
                      case rel =>
                        refine ⟨i + 1, _, ?_, ⟨by have := HJ.out; omega⟩, ⟨?_⟩, HO2, HB2⟩
                        · have h1 := HE.out
                          congr 1; omega
                        · obtain ⟨h1, h2, h3⟩ := HV.out
                          obtain ⟨l1, l2, l3, l4⟩ := HLO.out
                          obtain ⟨n1, n2⟩ := HNV.out
                          refine ⟨by rw [List.length_append, h1]; rfl, goodL_append.2 ⟨h2, goodL_cons.2 ⟨by omega, rfl⟩⟩, ?_⟩
                          rw [valL_snoc, h3, h1, Int.toNat_natCast, n1, HSUB.out, B_extract, pow9, ← l1, suffix_step s.data.toList _ E l2 (by rw [← size_eq]; omega), l4, ← size_eq, show s.size - (s.size - 9 * i) = 9 * i by omega]
                    | succ jj =>
                      have hp : p < sub.size := by have := HPP.out; omega
                      have hcd : isD (sub[p]'hp) = true := by
                        have := HDS.out
                        unfold digL at this
                        exact List.all_eq_true.1 this _ (List.getElem_mem (n := p) (by rw [← size_eq]; exact hp))
                      have hc2 := isD_iff.1 hcd
                      obtain ⟨c, hcn⟩ : ∃ c, c = (sub[p]'hp).toNat := ⟨_, rfl⟩
                      have hnx := Lib.run_next_ascii_at (P := Tryd.prog) wr _ sub p 0 HIT.out hp (by omega)
                      rw [← hcn] at hnx hc2
                      have HN2 := Aside0.mk (show rv (sub.data.toList.take (p + 1)).reverse = (c - 48) + 10 * n by
                        rw [take_rv _ p (by rw [← size_eq]; exact hp), HN.out, hcn]; rfl)
                      have HBJ := Aside0.mk (Lib.below_iterAt HBI.out (Nat.le_refl _) sub (p + 1))
                      have HIJ := Aside0.mk (Lib.iterAt_heap wr _ sub p (p + 1) HIT.out)
                      have hn8 : n < 100000000 := Nat.lt_of_lt_of_le hn9 (Nat.le_trans (Nat.pow_le_pow_right (by omega) (show p ≤ 8 by have := HSS.out; have := HLO.out; omega)) (by decide))
                      have HCC := Aside0.mk (show 48 ≤ c ∧ c ≤ 57 ∧ n < 100000000 from ⟨hc2.1, hc2.2, hn8⟩)
                      clear hcn hc2 hcd hn9 hn8 hp
                      go_wp2
                      go_roundg jj
                      case measure => omega
                      case rel =>
                        refine ⟨p + 1, 10 * n + (c - 48), ?_, ⟨by rw [HN2.out]; exact Nat.add_comm _ _⟩, ⟨by have := HPP.out; omega⟩, HIJ, HBJ⟩
                        rw [num_step n c HCC.out.1 HCC.out.2.1 HCC.out.2.2]
                · obtain ⟨e, hee⟩ : ∃ e : Nat, (E : Int) - 9 = (e : Int) := ⟨E - 9, by omega⟩
                  have w9 : wrap64 ((E : Int) - 9) = (e : Int) := by rw [w64 (by omega) (by omega)]; exact hee
                  have q1 : 0 < e := by omega
                  have q3 : e ≤ E := by omega
                  have q2 : E ≤ s.size := by omega
                  have HLO := Aside0.mk (show e = s.size - 9 * (i + 1) ∧ e ≤ E ∧ E - e ≤ 9 ∧ E = s.size - 9 * i by omega)
                  obtain ⟨sub, hsub⟩ : ∃ sub, sub = s.extract e E := ⟨_, rfl⟩
                  have HSUB := Aside0.mk hsub
                  go_wp2
                  rw [← HSUB.out]
                  have HDS := Aside0.mk (show digL sub.data.toList = true by
                    have hd := HDB.out
                    rw [HSUB.out, B_extract]
                    unfold dB digL at hd; unfold digL
                    rw [List.all_eq_true] at hd ⊢
                    exact fun x hx => hd x (List.mem_of_mem_drop (List.mem_of_mem_take hx)))
                  have HSS := Aside0.mk (show sub.size = E - e by rw [HSUB.out, size_eq, B_extract, List.length_take, List.length_drop, ← size_eq]; have := HLO.out; omega)
                  have HIT := Aside0.mk (show (wr.iter sub 0).heap[wr.heap.size]? = some (.stringIter sub 0) by unfold World.iter; exact heap_alloc_new wr _)
                  have HBI := Aside0.mk (show Below wr.heap.size wr (wr.iter sub 0) from (Below.refl _ wr).alloc (Nat.le_refl _) _)
                  clear hsub hE
                  go_loopg [8, 10] sub.size (fun j v8 v10 w' => ∃ p n : Nat, v8 = .int .u32 (n : Int) ∧ Aside0 (n = rv (sub.data.toList.take p).reverse) ∧ Aside0 (p + j = sub.size) ∧ Aside0 (w'.heap[wr.heap.size]? = some (.stringIter sub p)) ∧ Aside0 (Below wr.heap.size wr w'))
                  case atStart => exact ⟨0, 0, rfl, ⟨rfl⟩, ⟨by omega⟩, HIT, HBI⟩
                  case round =>
                    clear HIT HBI
                    obtain ⟨p, n, rfl, HN, HPP, HIT, HBI⟩ := hrel
                    have hn9 : n < 10 ^ p := by
                      rw [HN.out]
                      refine Nat.lt_of_lt_of_le (rv_lt (by rw [digL_reverse]; exact digL_take HDS.out p)) ?_
                      rw [List.length_reverse, List.length_take]; exact Nat.pow_le_pow_right (by omega) (Nat.min_le_left _ _)
                    cases gk with
                    | zero =>
                      have hnx := Lib.run_next_end_at (P := Tryd.prog) wr _ sub p 0 HIT.out (by have := HPP.out; omega)
                      obtain rfl : p = sub.size := by have := HPP.out; omega
                      have HNV := Aside0.mk (show n = rv sub.data.toList.reverse ∧ n < 1000000000 by
                        have h1 := HN.out
                        rw [List.take_of_length_le (by rw [← size_eq]; exact Nat.le_refl _)] at h1
                        exact ⟨h1, Nat.lt_of_lt_of_le hn9 (Nat.le_trans (Nat.pow_le_pow_right (by omega) (show sub.size ≤ 9 by rw [HSS.out]; exact HLO.out.2.2.1)) (by decide))⟩)
                      have HOW := Aside0.mk (Kd.R_below HO.out HBI.out)
                      have HBW := Aside0.mk (HB.out.trans (HBI.out.mono HB.out.size))
                      have HL := Aside0.mk (show (o.length + 1) * 4 ≤ 140737488355328 by have := HV.out; have := HJ.out; omega)
                      clear hn9
                      go_wp2_with (first
                        | ((with_reducible refine gate_builtin (b := .append) (xs := #[.tmp 46, .tmp 48]) rfl ?_); at_builtin; refine Kd.R_append (Kd.int .u32) (w0 := w) w.heap.size rfl (.tmp 46) (.tmp 48) 44 50 (.int .u32 0) 4 rfl Tryd.underlying44 info50 rfl (by decide) (by omega) _ o (n : Int) [.int .u32 (n : Int)] (fun _ => True) (fun _ => False) rfl rfl rfl (fun _ hk => hk.elim) (fun _ _ => trivial) HOW.out HBW.out HBW.out.size HL.out ?_; intro v49 w11 ho hb hg hat; have HO2 := Aside0.mk ho; have HB2 := Aside0.mk hb; clear ho hb hg hat))
                      go_roundg j
                      case measure => omega
                      case rel =>
                        refine ⟨i + 1, _, ?_, ⟨by have := HJ.out; omega⟩, ⟨?_⟩, HO2, HB2⟩
                        · have h1 := HE.out
                          congr 1; omega
                        · obtain ⟨h1, h2, h3⟩ := HV.out
                          obtain ⟨l1, l2, l3, l4⟩ := HLO.out
                          obtain ⟨n1, n2⟩ := HNV.out
                          refine ⟨by rw [List.length_append, h1]; rfl, goodL_append.2 ⟨h2, goodL_cons.2 ⟨by omega, rfl⟩⟩, ?_⟩
                          rw [valL_snoc, h3, h1, Int.toNat_natCast, n1, HSUB.out, B_extract, pow9, ← l1, suffix_step s.data.toList _ E l2 (by rw [← size_eq]; omega), l4, ← size_eq, show s.size - (s.size - 9 * i) = 9 * i by omega]
                    | succ jj =>
                      have hp : p < sub.size := by have := HPP.out; omega
                      have hcd : isD (sub[p]'hp) = true := by
                        have := HDS.out
                        unfold digL at this
                        exact List.all_eq_true.1 this _ (List.getElem_mem (n := p) (by rw [← size_eq]; exact hp))
                      have hc2 := isD_iff.1 hcd
                      obtain ⟨c, hcn⟩ : ∃ c, c = (sub[p]'hp).toNat := ⟨_, rfl⟩
                      have hnx := Lib.run_next_ascii_at (P := Tryd.prog) wr _ sub p 0 HIT.out hp (by omega)
                      rw [← hcn] at hnx hc2
                      have HN2 := Aside0.mk (show rv (sub.data.toList.take (p + 1)).reverse = (c - 48) + 10 * n by
                        rw [take_rv _ p (by rw [← size_eq]; exact hp), HN.out, hcn]; rfl)
                      have HBJ := Aside0.mk (Lib.below_iterAt HBI.out (Nat.le_refl _) sub (p + 1))
                      have HIJ := Aside0.mk (Lib.iterAt_heap wr _ sub p (p + 1) HIT.out)
                      have hn8 : n < 100000000 := Nat.lt_of_lt_of_le hn9 (Nat.le_trans (Nat.pow_le_pow_right (by omega) (show p ≤ 8 by have := HSS.out; have := HLO.out; omega)) (by decide))
                      have HCC := Aside0.mk (show 48 ≤ c ∧ c ≤ 57 ∧ n < 100000000 from ⟨hc2.1, hc2.2, hn8⟩)
                      clear hcn hc2 hcd hn9 hn8 hp
                      go_wp2
                      go_roundg jj
                      case measure => omega
                      case rel =>
                        refine ⟨p + 1, 10 * n + (c - 48), ?_, ⟨by rw [HN2.out]; exact Nat.add_comm _ _⟩, ⟨by have := HPP.out; omega⟩, HIJ, HBJ⟩
                        rw [num_step n c HCC.out.1 HCC.out.2.1 HCC.out.2.2]
            · have d1 : decide (0 < (s.size : Int) - 9 * (i : Int)) = false := decide_eq_false (by omega)
              obtain ⟨A6, c6, rfl⟩ := Kd.R_slice HO.out
              have HF := Aside0.mk (show trimF o = some (limbs (vB s)) by
                obtain ⟨h1, h2, h3⟩ := HV.out
                rw [show s.size - 9 * i = 0 by omega, List.drop_zero] at h3
                rw [show vB s = valL o from h3.symm]
                have hj := HJ.out
                exact trimF_eq h2 (by omega))
              go_wp2_with (go_at_call 58; (with_reducible refine (nat_Trim.calls A6 c6 o (limbs (vB s)) _ ?side1 ?side2 ?side3).mono ?_); (case side1 => exact (Kd.R_reads' HO.out).2.2); (case side2 => exact (Kd.R_reads' HO.out).2.1); (case side3 => exact HF.out); rintro e w3 ⟨v3, rfl, ho3, hb3⟩; have HO3 := Aside0.mk ho3; have HB3 := Aside0.mk hb3; clear ho3 hb3)
              go_ret2
              exact ⟨_, rfl, Kd.R_lower HO3.out HB.out.size, HB.out.trans (HB3.out.mono HB.out.size)⟩
        | succ j =>
          have hp : pos < s.size := by have := HP.out; omega
          have HPS := Aside0.mk hp
          have hB2 : ∀ q, Below w.heap.size w (wr.iterAt w.heap.size s q) := fun q => Lib.below_iterAt HB.out (Nat.le_refl _) s q
          have hI2 : ∀ q, (wr.iterAt w.heap.size s q).heap[w.heap.size]? = some (.stringIter s q) := fun q => Lib.iterAt_heap wr w.heap.size s pos q HI.out
          have HB2 := Aside0.mk hB2
          have HI2 := Aside0.mk hI2
          clear hB2 hI2
          by_cases hc : isD (s[pos]'HPS.out) = true
          · have hc2 := isD_iff.1 hc
            obtain ⟨c, hcn⟩ : ∃ c, c = (s[pos]'HPS.out).toNat := ⟨_, rfl⟩
            have hnx := Lib.run_next_ascii_at (P := Tryd.prog) wr w.heap.size s pos 0 HI.out HPS.out (by omega)
            rw [← hcn] at hnx hc2
            have d1 : decide ((c : Int) < 48) = false := decide_eq_false (by omega)
            have d2 : decide (57 < (c : Int)) = false := decide_eq_false (by omega)
            have HC := Aside0.mk hc
            clear hc hcn hc2 hp
            go_wp2
            go_roundg j
            case measure => omega
            case rel =>
              exact ⟨pos + 1, ⟨by have := HP.out; omega⟩, ⟨by rw [take_digits s pos HPS.out, HD.out, HC.out]; rfl⟩, ⟨HI2.out _⟩, ⟨HB2.out _⟩⟩
          · have HND := Aside0.mk (not_digits s pos HPS.out (by simpa using hc))
            obtain ⟨c, q, hcn, hc2⟩ : ∃ c q : Nat, (Utf8.decode s pos = (c, q)) ∧ (c < 48 ∨ 57 < c) := by
              by_cases ha : (s[pos]'HPS.out).toNat < 128
              · refine ⟨_, _, decode_ascii s pos HPS.out ha, ?_⟩
                have : ¬ (48 ≤ (s[pos]'HPS.out).toNat ∧ (s[pos]'HPS.out).toNat ≤ 57) := fun h => hc (isD_iff.2 h)
                omega
              · exact ⟨(Utf8.decode s pos).1, (Utf8.decode s pos).2, rfl, .inr (by have := (decode_high s pos HPS.out (by omega)).1; omega)⟩
            have hnx := Lib.run_next_any_at (P := Tryd.prog) wr w.heap.size s pos 0 HI.out HPS.out
            rw [hcn] at hnx
            have h2 := H2.out
            rw [if_neg (fun hh => by rw [HND.out] at hh; cases hh.1)] at h2
            obtain ⟨rfl, rfl⟩ := Prod.mk.inj h2
            clear hc hcn hp h2
            rcases hc2 with hc2 | hc2
            · have d1 : decide ((c : Int) < 48) = true := decide_eq_true (by omega)
              clear hc2
              go_wp2
              go_ret2
              exact ⟨_, rfl, Kd.R_nil _ _ _ _ _, HB2.out _⟩
            · have d1 : decide ((c : Int) < 48) = false := decide_eq_false (by omega)
              have d2 : decide (57 < (c : Int)) = true := decide_eq_true (by omega)
              clear hc2
              go_wp2
              go_ret2
              exact ⟨_, rfl, Kd.R_nil _ _ _ _ _, HB2.out _⟩
  · rw [if_neg hs] at h; cases h
end Go.Proofs.YtjpokifkbclkiaaDoor.Px
end
section
namespace Go.Proofs.YtjpokifkbclkiaaDoor.Px
open Fig Go.RowKit Go.Proofs.YtjpokifkbclkiaaDoorW.PrintWords Go.Proofs.YtjpokifkbclkiaaDoorW.PrintLast Go.Proofs.YtjpokifkbclkiaaDoorW.PrintMore
attribute [local go_sem] max2_int min2_int max_two min_two max_three min_three max_four min_four   -- for this text's walks alone
attribute [local go_sem] fieldA23_0 fieldA23_1 fieldA23_2
def dec_Coef.f (a0_0 : Bool) (a0_1 : ByteArray) (a0_2 : Int) : Option (List Int) := (ten_Number.f a0_1).bind fun bt128 => (some bt128.1)
set_option maxHeartbeats 8000000 in
set_option maxRecDepth 100000 in
theorem dec_Coef.calls (a0_0 : Bool) (a0_1 : ByteArray) (a0_2 : Int) (r : List Int) (w : World) (h : dec_Coef.f a0_0 a0_1 a0_2 = some r) :
    Calls Tryd.prog 54 #[.agg #[.bool a0_0, .string a0_1, .int .i64 a0_2]] w fun e w' => ∃ v0_ : Value, e = .returned (v0_) ∧ Kd.R (Kd.int .u32) 50 w' w.heap.size (fun _ => True) v0_ r ∧ Below w.heap.size w w' := by
  have hu23 := Tryd.underlying23
  have HB := Aside0.mk (Below.refl w.heap.size w)
  have H : ((ten_Number.f a0_1).bind fun bt128 => (some bt128.1)) = some r := h
  clear h
  replace H := Option.bind_eq_some_iff.mp H
  obtain ⟨⟨t128, t129⟩, A20, H⟩ := H
  replace H : (some t128) = some r := H
  have A2 := Aside0.mk A20
  clear A20
  obtain rfl := Option.some.inj H
  go_enter Tryd.func54, Tryd.ntmps54
  go_wp2_with (first | ((with_reducible refine gate_dst (N := 1) rfl ?_); refine box_event ?hg (N := 1) ?hd (cs := #[.bool a0_0, .string a0_1, .int .i64 a0_2]) (t := 23) ?hr ?_; (case hd => rfl); (case hg => rfl); (case hr => first | (go_simp; done) | (go_simp; rfl)); intro gb127 hg w3 hbox hb; have n0_ := Aside0.mk (below_step (by repeat (first | (with_reducible first | exact HB.out | apply below_alloc | apply pw_below_drewN | apply below_drew1) | exact HB.out)) hb); have n1_ := Aside0.mk (hbox); have n2_ := Aside0.mk ((by rw [hg]; exact (below_size (by repeat (first | (with_reducible first | exact HB.out | apply below_alloc | apply pw_below_drewN | apply below_drew1) | exact HB.out))) : w.heap.size ≤ gb127)); have n3_ := Aside0.mk ((by rw [hg]; exact (below_size (by repeat (first | (with_reducible first | exact HB.out | apply below_alloc | apply pw_below_drewN | apply below_drew1) | exact HB.out))) : w.heap.size ≤ gb127)); clear HB; have HB := n0_; have BK127 := n1_; have GW127 := n2_; have GE127 := n3_; clear n0_ n1_ n2_ n3_; clear hb hbox hg; have hcz4_0 : w3.cell? ⟨gb127, 0, none⟩ = some (.bool a0_0) := (blk_cell BK127.out 0).trans rfl; have hcz4_1 : w3.cell? ⟨gb127, 1, none⟩ = some (.string a0_1) := (blk_cell BK127.out 1).trans rfl; have hcz4_2 : w3.cell? ⟨gb127, 2, none⟩ = some (.int .i64 a0_2) := (blk_cell BK127.out 2).trans rfl; have hfz4_0 := blk_frozen BK127.out 0; have hfz4_1 := blk_frozen BK127.out 1; have hfz4_2 := blk_frozen BK127.out 2) | ((with_reducible refine gate_callee (f := 75) rfl ?_); refine goesL_ (some 8) rfl rfl Tryd.func75 (by kernel_rfl) rfl #[.string a0_1] rfl (by (try simp only [List.map_toArray]); (try simp only [List.map_cons]); (try simp only [List.map_nil]); first | done | rfl | (simp only [List.length_drop, List.length_take]; rfl)) ?_; (with_reducible refine (ten_Number.calls a0_1 t128 t129 _ A2.out).mono ?_); rintro e w5 ⟨v130, rfl, ho0, hb⟩; refine ⟨_, rfl, ?_⟩; have n0_ := Aside0.mk (Kd.R_lower ho0 (below_size (by repeat (first | (with_reducible first | exact HB.out | apply below_alloc | apply pw_below_drewN | apply below_drew1 | refine below_set ?_ GE127.out) | exact HB.out)))); have n1_ := Aside0.mk (blk_below (g := gb127) (o := .cells #[.bool a0_0, .string a0_1, .int .i64 a0_2] 23 (0, 0)) (by (with_reducible repeat (first | refine blk_drewN ?_ _ | refine blk_drew ?_ | refine blk_alloc ?_ _)); exact BK127.out) hb); have n2_ := Aside0.mk (below_step (by repeat (first | (with_reducible first | exact HB.out | apply below_alloc | apply pw_below_drewN | apply below_drew1 | refine below_set ?_ GE127.out) | exact HB.out)) hb); clear BK127; clear HB; have HO131 := n0_; have BK127 := n1_; have HB := n2_; clear n0_ n1_ n2_; (try clear hb); (try clear hb2); (try clear hk); (try clear hi); (try clear ho0)))
  go_ret
  exact ⟨_, by first | rfl | (simp [errW_none, errW_some] <;> rfl) | (simp [*, errW_none, errW_some] <;> rfl), by (with_reducible repeat (first | apply Kd.R_alloc | apply Kd.R_drewN | apply Kd.R_drew)); exact HO131.out, by repeat (first | (with_reducible first | exact HB.out | apply below_alloc | apply pw_below_drewN | apply below_drew1 | refine below_set ?_ GE127.out) | exact HB.out)⟩
end Go.Proofs.YtjpokifkbclkiaaDoor.Px
end
section
namespace Go.Proofs.YtjpokifkbclkiaaDoor.Px
open Fig Go.RowKit Go.Proofs.YtjpokifkbclkiaaDoorW.PrintWords Go.Proofs.YtjpokifkbclkiaaDoorW.PrintLast Go.Proofs.YtjpokifkbclkiaaDoorW.PrintMore
attribute [local go_sem] max2_int min2_int max_two min_two max_three min_three max_four min_four   -- for this text's walks alone
attribute [local go_sem] fieldA23_0 fieldA23_1 fieldA23_2
def place_cut.f (a0_0 : Bool) (a0_1 : ByteArray) (a0_2 : Int) (a1 : Int) : Option (List Int × List Int) := (dec_Coef.f a0_0 a0_1 a0_2).bind fun t133 => ((ten_Cut.f t133 (wrap64 (a1 - a0_2))).bind fun bt136 => (some (bt136.1, bt136.2)))
def place_cut.T1 : Bool × List (List Nat × List Nat) := (true, [([], []), ([0], [0]), ([], []), ([], []), ([3], [3]), ([2, 4], [2, 4]), ([1, 5, 1], [1, 5]), ([6], [6]), ([6], [6]), ([7, 6, 0, 1, 2, 3, 4, 5, 6, 7, 8], [7]), ([8, 9, 0, 1, 2, 3, 4, 5, 6, 7, 8, 9], [8])])
def place_cut.B1 : List Nat := [0, 1, 0, 0, 8, 28, 63, 127, 127, 511, 1023]
theorem place_cut.tab1 : rtab .any (opsOf Tryd.f32 1) = place_cut.T1 := by kernel_rfl
theorem place_cut.bits1 : waitsOk place_cut.T1.2 place_cut.B1 = true := by kernel_rfl
set_option maxHeartbeats 8000000 in
set_option maxRecDepth 100000 in
theorem place_cut.calls (a0_0 : Bool) (a0_1 : ByteArray) (a0_2 : Int) (a1 : Int) (r1 : List Int) (r2 : List Int) (w : World) (hG : Fig.Glob w) (h : place_cut.f a0_0 a0_1 a0_2 a1 = some (r1, r2)) :
    Calls Tryd.prog 32 #[.agg #[.bool a0_0, .string a0_1, .int .i64 a0_2], .int .i64 a1] w fun e w' => ∃ v0_ v1_ : Value, e = .returned (.tuple #[v0_, v1_]) ∧ Kd.R (Kd.int .u32) 50 w' w.heap.size (fun k_ => some k_ ≠ (v1_ : Value).ownBlock) v0_ r1 ∧ Kd.R (Kd.int .u32) 50 w' w.heap.size (fun k_ => some k_ ≠ (v0_ : Value).ownBlock) v1_ r2 ∧ Below w.heap.size w w' := by
  have hu23 := Tryd.underlying23
  have HG := Aside0.mk hG
  clear hG
  have HB := Aside0.mk (Below.refl w.heap.size w)
  have H : ((dec_Coef.f a0_0 a0_1 a0_2).bind fun t133 => ((ten_Cut.f t133 (wrap64 (a1 - a0_2))).bind fun bt136 => (some (bt136.1, bt136.2)))) = some (r1, r2) := h
  clear h
  replace H := Option.bind_eq_some_iff.mp H
  obtain ⟨t133, A30, H⟩ := H
  replace H : ((ten_Cut.f t133 (wrap64 (a1 - a0_2))).bind fun bt136 => (some (bt136.1, bt136.2))) = some (r1, r2) := H
  have A3 := Aside0.mk A30
  clear A30
  replace H := Option.bind_eq_some_iff.mp H
  obtain ⟨⟨t136, t137⟩, A40, H⟩ := H
  replace H : (some (t136, t137)) = some (r1, r2) := H
  have A4 := Aside0.mk A40
  clear A40
  simp only [Option.some.injEq, Prod.mk.injEq] at H
  obtain ⟨rfl, rfl⟩ := H
  go_enter Tryd.func32, Tryd.ntmps32
  try go_wp2_with (first | ((with_reducible refine gate_dst (N := 2) rfl ?_); refine box_event ?hg (N := 2) ?hd (cs := #[.bool a0_0, .string a0_1, .int .i64 a0_2]) (t := 23) ?hr ?_; (case hd => rfl); (case hg => rfl); (case hr => first | (go_simp; done) | (go_simp; rfl)); intro gb132 hg w5 hbox hb; have n0_ := Aside0.mk (below_step (by repeat (first | (with_reducible first | exact HB.out | apply below_alloc | apply pw_below_drewN | apply below_drew1) | exact HB.out)) hb); have n1_ := Aside0.mk (hbox); have n2_ := Aside0.mk ((by rw [hg]; exact (below_size (by repeat (first | (with_reducible first | exact HB.out | apply below_alloc | apply pw_below_drewN | apply below_drew1) | exact HB.out))) : w.heap.size ≤ gb132)); have n3_ := Aside0.mk ((by rw [hg]; exact (below_size (by repeat (first | (with_reducible first | exact HB.out | apply below_alloc | apply pw_below_drewN | apply below_drew1) | exact HB.out))) : w.heap.size ≤ gb132)); clear HB; have HB := n0_; have BK132 := n1_; have GW132 := n2_; have GE132 := n3_; clear n0_ n1_ n2_ n3_; clear hb hbox hg))
  (try (rw [drewN_self w5]; generalize hq_ : World.drewN w5 _ = w5; have n0_ : Aside0 (w5.heap[gb132]? = some (.cells #[.bool a0_0, .string a0_1, .int .i64 a0_2] 23 (0, 0))) := ⟨by rw [← hq_]; exact (by (with_reducible repeat (first | refine blk_drewN ?_ _ | refine blk_drew ?_ | refine blk_alloc ?_ _)); exact BK132.out)⟩; have n1_ : Aside0 (Below w.heap.size w w5) := ⟨by rw [← hq_]; exact (by repeat (first | (with_reducible first | exact HB.out | apply below_alloc | apply pw_below_drewN | apply below_drew1 | refine below_set ?_ GE132.out) | exact HB.out))⟩; clear BK132 HB hq_; have BK132 := n0_; have HB := n1_; clear n0_ n1_))
  have n0_ := Aside0.mk (blk_drew BK132.out)
  have n1_ := Aside0.mk (below_drew1 HB.out)
  clear BK132
  clear HB
  have BK132 := n0_
  have HB := n1_
  clear n0_ n1_
  refine start_ (n := 11) (S := fun w' => w'.cell? ⟨gb132, 0, none⟩ = some (.bool a0_0) ∧ w'.cell? ⟨gb132, 1, none⟩ = some (.string a0_1) ∧ w'.cell? ⟨gb132, 2, none⟩ = some (.int .i64 a0_2)) (ds := []) #[false, false, false, false, false, false, false, false, false, false, false] (by kernel_rfl) rfl rfl ⟨(blk_cell BK132.out 0).trans rfl, (blk_cell BK132.out 1).trans rfl, (blk_cell BK132.out 2).trans rfl⟩ (fun hHeld => ?_); refine with_tabW place_cut.tab1 place_cut.bits1 (fun HT_ HW_ => ?_)
  generalize w5.drew = w6 at BK132 HB hHeld ⊢
  refine pure_ (i := 2) (N := some 8) (v := ?_) (a' := ?_) #[false, false, true, false, false, false, false, false, false, false, false] rfl rfl (any_of HT_.out (by kernel_rfl)) (fun _ _ _ h => h) (Or.inl ⟨by rfl, ?_⟩) ?_ ?_
  rotate_left
  · intro w'
    go_simp
    with_reducible rfl
  rotate_left
  · simp only [Act.put, List.setIfInBounds_toArray, List.set_cons_zero, List.set_cons_succ]; (try simp only [i64_w]); (try simp only [i32_w])
    rfl
  refine pure_ (i := 3) (N := some 9) (v := ?_) (a' := ?_) #[false, false, true, true, false, false, false, false, false, false, false] rfl rfl (any_of HT_.out (by kernel_rfl)) (fun _ _ _ h => h) (Or.inl ⟨by rfl, ?_⟩) ?_ ?_
  rotate_left
  · intro w'
    go_simp
    with_reducible rfl
  rotate_left
  · simp only [Act.put, List.setIfInBounds_toArray, List.set_cons_zero, List.set_cons_succ]; (try simp only [i64_w]); (try simp only [i32_w])
    rfl
  refine take_ (i := 0) (N := some 6) (v := ?_) (a' := ?_) #[true, false, true, true, false, false, false, false, false, false, false] rfl rfl (take_ofW HT_.out HW_.out (by kernel_rfl)) (fun _ _ _ h => h) (Or.inl ⟨by rfl, ?_⟩) hHeld ?_ ?_
  rotate_left
  · rintro w' ⟨s0, s1, s2⟩
    go_simp
    with_reducible rfl
  rotate_left
  · simp only [Act.put, List.setIfInBounds_toArray, List.set_cons_zero, List.set_cons_succ]; (try simp only [i64_w]); (try simp only [i32_w])
    rfl
  refine take_ (i := 4) (N := some 10) (v := ?_) (a' := ?_) #[true, false, true, true, true, false, false, false, false, false, false] rfl rfl (take_ofW HT_.out HW_.out (by kernel_rfl)) (fun _ _ _ h => h) (Or.inl ⟨by rfl, ?_⟩) hHeld ?_ ?_
  rotate_left
  · rintro w' ⟨s0, s1, s2⟩
    go_simp
    with_reducible rfl
  rotate_left
  · simp only [Act.put, List.setIfInBounds_toArray, List.set_cons_zero, List.set_cons_succ]; (try simp only [i64_w]); (try simp only [i32_w])
    rfl
  refine pure_ (i := 5) (N := some 11) (v := ?_) (a' := ?_) #[true, false, true, true, true, true, false, false, false, false, false] rfl rfl (any_of HT_.out (by kernel_rfl)) (fun _ _ _ h => h) (Or.inl ⟨by rfl, ?_⟩) ?_ ?_
  rotate_left
  · intro w'
    go_simp
    with_reducible rfl
  rotate_left
  · simp only [Act.put, List.setIfInBounds_toArray, List.set_cons_zero, List.set_cons_succ]; (try simp only [i64_w]); (try simp only [i32_w])
    rfl
  refine one_ (i := 1) (N := some 7) #[true, true, true, true, true, true, false, false, false, false, false] rfl rfl (one_of HT_.out (by kernel_rfl)) (by decide) (fun K hK => ?_)
  refine goes_ Tryd.func54 (by kernel_rfl) rfl #[.agg #[.bool a0_0, .string a0_1, .int .i64 a0_2]] (by rfl) rfl rfl (by (try simp only [List.map_toArray]); (try simp only [List.map_cons]); (try simp only [List.map_nil]); first | done | rfl | (simp only [List.length_drop, List.length_take]; rfl)) ?_
  with_reducible refine (dec_Coef.calls a0_0 a0_1 a0_2 t133 _ A3.out).mono ?_
  rintro e w7 ⟨v134, rfl, ho0, hb⟩
  refine ⟨_, rfl, ?_⟩
  have n0_ := Aside0.mk (Kd.R_lower ho0 (below_size (by repeat (first | (with_reducible first | exact HB.out | apply below_alloc | apply pw_below_drewN | apply below_drew1 | refine below_set ?_ GE132.out) | exact HB.out))))
  have n1_ := Aside0.mk (blk_below (g := gb132) (o := .cells #[.bool a0_0, .string a0_1, .int .i64 a0_2] 23 (0, 0)) (by (with_reducible repeat (first | refine blk_drewN ?_ _ | refine blk_drew ?_ | refine blk_alloc ?_ _)); exact BK132.out) hb)
  have n2_ := Aside0.mk (below_step (by repeat (first | (with_reducible first | exact HB.out | apply below_alloc | apply pw_below_drewN | apply below_drew1 | refine below_set ?_ GE132.out) | exact HB.out)) hb)
  clear BK132
  clear HB
  have HO135 := n0_
  have BK132 := n1_
  have HB := n2_
  clear n0_ n1_ n2_
  (try clear hb)
  (try clear hb2)
  (try clear hk)
  (try clear hi)
  (try clear ho0)
  obtain ⟨Ao8, co8, eo8⟩ := Kd.R_slice HO135.out
  (first | subst eo8 | (injection eo8 with f1_ f2_ f3_; have f4_ := f1_.symm; have f5_ := f3_.symm; clear f1_ f2_ f3_; subst f4_; subst f5_))
  refine hK.out _ _ ⟨(blk_cell BK132.out 0).trans rfl, (blk_cell BK132.out 1).trans rfl, (blk_cell BK132.out 2).trans rfl⟩ (fun hHeld => ?_)
  clear hK K
  refine norm_ (a' := ?_) ?_ ?_
  rotate_left
  · show Act.put _ (some 7) _ = _
    simp only [Act.put, List.setIfInBounds_toArray, List.set_cons_zero, List.set_cons_succ]; (try simp only [i64_w]); (try simp only [i32_w])
    rfl
  refine one_ (i := 6) (N := some 12) #[true, true, true, true, true, true, true, false, false, false, false] rfl rfl (one_of HT_.out (by kernel_rfl)) (by decide) (fun K hK => ?_)
  refine goes_ Tryd.func53 (by kernel_rfl) rfl #[.slice Ao8 t133.length co8, .int .i64 (wrap64 (a1 - a0_2))] (by rfl) rfl rfl (by (try simp only [List.map_toArray]); (try simp only [List.map_cons]); (try simp only [List.map_nil]); first | done | rfl | (simp only [List.length_drop, List.length_take]; rfl)) ?_
  with_reducible refine (ten_Cut.calls _ _ t133 (wrap64 (a1 - a0_2)) t136 t137 _ ?side1 ?side2 ?side3 A4.out).mono ?_
  (case side1 => exact Fig.Glob.below HG.out (by repeat (first | (with_reducible first | exact HB.out | apply below_alloc | apply pw_below_drewN | apply below_drew1 | refine below_set ?_ GE132.out) | exact HB.out)))
  (case side2 => repeat (first | exact (Kd.R_reads' HO135.out).2.2 | (with_reducible refine Kd.C_alloc ?_ _) | (with_reducible refine Kd.C_drewN ?_ _) | (with_reducible refine Kd.C_drew ?_)))
  (case side3 => exact (Kd.R_reads' HO135.out).2.1)
  rintro e w9 ⟨v138, v140, rfl, ho0, ho1, hb⟩
  refine ⟨_, rfl, ?_⟩
  have n0_ := Aside0.mk (Kd.R_mono (Kd.R_told (Kd.R_told (Kd.R_old (by (with_reducible repeat (first | apply Kd.R_alloc | apply Kd.R_drewN | apply Kd.R_drew)); exact HO135.out) hb) (Kd.R_base ho0)) (Kd.R_base ho1)) (fun _ h_ => h_.1))
  have n1_ := Aside0.mk (Kd.R_lower (Kd.R_new' ho0 (Kd.R_lt (by (with_reducible repeat (first | apply Kd.R_alloc | apply Kd.R_drewN | apply Kd.R_drew)); exact HO135.out))) (below_size (by repeat (first | (with_reducible first | exact HB.out | apply below_alloc | apply pw_below_drewN | apply below_drew1 | refine below_set ?_ GE132.out) | exact HB.out))))
  have n2_ := Aside0.mk (Kd.R_lower (Kd.R_new' ho1 (Kd.R_lt (by (with_reducible repeat (first | apply Kd.R_alloc | apply Kd.R_drewN | apply Kd.R_drew)); exact HO135.out))) (below_size (by repeat (first | (with_reducible first | exact HB.out | apply below_alloc | apply pw_below_drewN | apply below_drew1 | refine below_set ?_ GE132.out) | exact HB.out))))
  have n3_ := Aside0.mk (blk_below (g := gb132) (o := .cells #[.bool a0_0, .string a0_1, .int .i64 a0_2] 23 (0, 0)) (by (with_reducible repeat (first | refine blk_drewN ?_ _ | refine blk_drew ?_ | refine blk_alloc ?_ _)); exact BK132.out) hb)
  have n4_ := Aside0.mk (below_step (by repeat (first | (with_reducible first | exact HB.out | apply below_alloc | apply pw_below_drewN | apply below_drew1 | refine below_set ?_ GE132.out) | exact HB.out)) hb)
  clear HO135
  clear BK132
  clear HB
  have HO135 := n0_
  have HO139 := n1_
  have HO141 := n2_
  have BK132 := n3_
  have HB := n4_
  clear n0_ n1_ n2_ n3_ n4_
  (try clear hb)
  (try clear hb2)
  (try clear hk)
  (try clear hi)
  (try clear ho0)
  (try clear ho1)
  refine hK.out _ _ ⟨(blk_cell BK132.out 0).trans rfl, (blk_cell BK132.out 1).trans rfl, (blk_cell BK132.out 2).trans rfl⟩ (fun hHeld => ?_)
  clear hK K
  refine norm_ (a' := ?_) ?_ ?_
  rotate_left
  · show Act.put _ (some 12) _ = _
    simp only [Act.put, List.setIfInBounds_toArray, List.set_cons_zero, List.set_cons_succ]; (try simp only [i64_w]); (try simp only [i32_w])
    rfl
  refine pure_ (i := 7) (N := some 13) (v := ?_) (a' := ?_) #[true, true, true, true, true, true, true, true, false, false, false] rfl rfl (any_of HT_.out (by kernel_rfl)) (fun _ _ _ h => h) (Or.inl ⟨by rfl, ?_⟩) ?_ ?_
  rotate_left
  · intro w'
    go_simp
    with_reducible rfl
  rotate_left
  · simp only [Act.put, List.setIfInBounds_toArray, List.set_cons_zero, List.set_cons_succ]; (try simp only [i64_w]); (try simp only [i32_w])
    rfl
  refine pure_ (i := 8) (N := some 14) (v := ?_) (a' := ?_) #[true, true, true, true, true, true, true, true, true, false, false] rfl rfl (any_of HT_.out (by kernel_rfl)) (fun _ _ _ h => h) (Or.inl ⟨by rfl, ?_⟩) ?_ ?_
  rotate_left
  · intro w'
    go_simp
    with_reducible rfl
  rotate_left
  · simp only [Act.put, List.setIfInBounds_toArray, List.set_cons_zero, List.set_cons_succ]; (try simp only [i64_w]); (try simp only [i32_w])
    rfl
  refine pure_ (i := 9) (N := some 4) (v := ?_) (a' := ?_) #[true, true, true, true, true, true, true, true, true, true, false] rfl rfl (any_of HT_.out (by kernel_rfl)) (fun _ _ _ h => h) (Or.inl ⟨by rfl, ?_⟩) ?_ ?_
  rotate_left
  · intro w'
    go_simp
    with_reducible rfl
  rotate_left
  · simp only [Act.put, List.setIfInBounds_toArray, List.set_cons_zero, List.set_cons_succ]; (try simp only [i64_w]); (try simp only [i32_w])
    rfl
  refine pure_ (i := 10) (N := some 5) (v := ?_) (a' := ?_) #[true, true, true, true, true, true, true, true, true, true, true] rfl rfl (any_of HT_.out (by kernel_rfl)) (fun _ _ _ h => h) (Or.inl ⟨by rfl, ?_⟩) ?_ ?_
  rotate_left
  · intro w'
    go_simp
    with_reducible rfl
  rotate_left
  · simp only [Act.put, List.setIfInBounds_toArray, List.set_cons_zero, List.set_cons_succ]; (try simp only [i64_w]); (try simp only [i32_w])
    rfl
  refine done_ (done_of HT_.out (by kernel_rfl)) ?_
  try go_wp2
  go_ret2
  exact ⟨_, _, by first | rfl | (simp [errW_none, errW_some] <;> rfl) | (simp [*, errW_none, errW_some] <;> rfl), by (with_reducible repeat (first | apply Kd.R_alloc | apply Kd.R_drewN | apply Kd.R_drew)); exact Kd.R_mono HO139.out (fun _ hk => hk.1), by (with_reducible repeat (first | apply Kd.R_alloc | apply Kd.R_drewN | apply Kd.R_drew)); exact Kd.R_mono HO141.out (fun _ hk => hk.1), by repeat (first | (with_reducible first | exact HB.out | apply below_alloc | apply pw_below_drewN | apply below_drew1 | refine below_set ?_ GE132.out) | exact HB.out)⟩
end Go.Proofs.YtjpokifkbclkiaaDoor.Px
end
section
namespace Go.Proofs.YtjpokifkbclkiaaDoor.Px
open Fig Go.RowKit Go.Proofs.YtjpokifkbclkiaaDoorW.PrintWords Go.Proofs.YtjpokifkbclkiaaDoorW.PrintLast Go.Proofs.YtjpokifkbclkiaaDoorW.PrintMore
attribute [local go_sem] max2_int min2_int max_two min_two max_three min_three max_four min_four   -- for this text's walks alone
attribute [local go_sem] fieldA23_0 fieldA23_1 fieldA23_2
def place_Fits.f (a0_0 : Bool) (a0_1 : ByteArray) (a0_2 : Int) (a1 : Int) : Option (Bool) := if a1 ≤ a0_2 then (some true) else ((place_cut.f a0_0 a0_1 a0_2 a1).bind fun bt143 => (some ((bt143.2.length : Int) == 0)))
set_option maxHeartbeats 8000000 in
set_option maxRecDepth 100000 in
theorem place_Fits.calls (a0_0 : Bool) (a0_1 : ByteArray) (a0_2 : Int) (a1 : Int) (r : Bool) (w : World) (hG : Fig.Glob w) (h : place_Fits.f a0_0 a0_1 a0_2 a1 = some r) :
    Calls Tryd.prog 18 #[.agg #[.bool a0_0, .string a0_1, .int .i64 a0_2], .int .i64 a1] w fun e w' => e = .returned (.bool r) ∧ Below w.heap.size w w' := by
  have hu23 := Tryd.underlying23
  have HG := Aside0.mk hG
  clear hG
  have HB := Aside0.mk (Below.refl w.heap.size w)
  have H : (if a1 ≤ a0_2 then (some true) else ((place_cut.f a0_0 a0_1 a0_2 a1).bind fun bt143 => (some ((bt143.2.length : Int) == 0)))) = some r := h
  clear h
  by_cases c3 : a1 ≤ a0_2
  · rw [if_pos c3] at H
    have c3b0 : decide (a1 ≤ a0_2) = true := decide_eq_true c3
    clear c3
    obtain rfl := Option.some.inj H
    go_enter Tryd.func18, Tryd.ntmps18
    go_wp2_with (first | ((with_reducible refine gate_dst (N := 2) rfl ?_); refine box_event ?hg (N := 2) ?hd (cs := #[.bool a0_0, .string a0_1, .int .i64 a0_2]) (t := 23) ?hr ?_; (case hd => rfl); (case hg => rfl); (case hr => first | (go_simp; done) | (go_simp; rfl)); intro gb142 hg w4 hbox hb; have n0_ := Aside0.mk (below_step (by repeat (first | (with_reducible first | exact HB.out | apply below_alloc | apply pw_below_drewN | apply below_drew1) | exact HB.out)) hb); have n1_ := Aside0.mk (hbox); have n2_ := Aside0.mk ((by rw [hg]; exact (below_size (by repeat (first | (with_reducible first | exact HB.out | apply below_alloc | apply pw_below_drewN | apply below_drew1) | exact HB.out))) : w.heap.size ≤ gb142)); have n3_ := Aside0.mk ((by rw [hg]; exact (below_size (by repeat (first | (with_reducible first | exact HB.out | apply below_alloc | apply pw_below_drewN | apply below_drew1) | exact HB.out))) : w.heap.size ≤ gb142)); clear HB; have HB := n0_; have BK142 := n1_; have GW142 := n2_; have GE142 := n3_; clear n0_ n1_ n2_ n3_; clear hb hbox hg; have hcz5_0 : w4.cell? ⟨gb142, 0, none⟩ = some (.bool a0_0) := (blk_cell BK142.out 0).trans rfl; have hcz5_1 : w4.cell? ⟨gb142, 1, none⟩ = some (.string a0_1) := (blk_cell BK142.out 1).trans rfl; have hcz5_2 : w4.cell? ⟨gb142, 2, none⟩ = some (.int .i64 a0_2) := (blk_cell BK142.out 2).trans rfl; have hfz5_0 := blk_frozen BK142.out 0; have hfz5_1 := blk_frozen BK142.out 1; have hfz5_2 := blk_frozen BK142.out 2))
    go_ret
    exact ⟨by first | rfl | (simp [errW_none, errW_some] <;> rfl) | (simp [*, errW_none, errW_some] <;> rfl), by repeat (first | (with_reducible first | exact HB.out | apply below_alloc | apply pw_below_drewN | apply below_drew1 | refine below_set ?_ GE142.out) | exact HB.out)⟩
  · rw [if_neg c3] at H
    have c3b0 : decide (a1 ≤ a0_2) = false := decide_eq_false c3
    clear c3
    replace H := Option.bind_eq_some_iff.mp H
    obtain ⟨⟨t143, t146⟩, A60, H⟩ := H
    replace H : (some ((t146.length : Int) == 0)) = some r := H
    have A6 := Aside0.mk A60
    clear A60
    obtain rfl := Option.some.inj H
    go_enter Tryd.func18, Tryd.ntmps18
    go_wp2_with (first | ((with_reducible refine gate_dst (N := 2) rfl ?_); refine box_event ?hg (N := 2) ?hd (cs := #[.bool a0_0, .string a0_1, .int .i64 a0_2]) (t := 23) ?hr ?_; (case hd => rfl); (case hg => rfl); (case hr => first | (go_simp; done) | (go_simp; rfl)); intro gb142 hg w7 hbox hb; have n0_ := Aside0.mk (below_step (by repeat (first | (with_reducible first | exact HB.out | apply below_alloc | apply pw_below_drewN | apply below_drew1) | exact HB.out)) hb); have n1_ := Aside0.mk (hbox); have n2_ := Aside0.mk ((by rw [hg]; exact (below_size (by repeat (first | (with_reducible first | exact HB.out | apply below_alloc | apply pw_below_drewN | apply below_drew1) | exact HB.out))) : w.heap.size ≤ gb142)); have n3_ := Aside0.mk ((by rw [hg]; exact (below_size (by repeat (first | (with_reducible first | exact HB.out | apply below_alloc | apply pw_below_drewN | apply below_drew1) | exact HB.out))) : w.heap.size ≤ gb142)); clear HB; have HB := n0_; have BK142 := n1_; have GW142 := n2_; have GE142 := n3_; clear n0_ n1_ n2_ n3_; clear hb hbox hg; have hcz8_0 : w7.cell? ⟨gb142, 0, none⟩ = some (.bool a0_0) := (blk_cell BK142.out 0).trans rfl; have hcz8_1 : w7.cell? ⟨gb142, 1, none⟩ = some (.string a0_1) := (blk_cell BK142.out 1).trans rfl; have hcz8_2 : w7.cell? ⟨gb142, 2, none⟩ = some (.int .i64 a0_2) := (blk_cell BK142.out 2).trans rfl; have hfz8_0 := blk_frozen BK142.out 0; have hfz8_1 := blk_frozen BK142.out 1; have hfz8_2 := blk_frozen BK142.out 2) | ((with_reducible refine gate_callee (f := 32) rfl ?_); refine goesL_ (some 14) rfl rfl Tryd.func32 (by kernel_rfl) rfl #[.agg #[.bool a0_0, .string a0_1, .int .i64 a0_2], .int .i64 a1] rfl (by (try simp only [List.map_toArray]); (try simp only [List.map_cons]); (try simp only [List.map_nil]); first | done | rfl | (simp only [List.length_drop, List.length_take]; rfl)) ?_; (with_reducible refine (place_cut.calls a0_0 a0_1 a0_2 a1 t143 t146 _ ?side1 A6.out).mono ?_); (case side1 => exact Fig.Glob.below HG.out (by repeat (first | (with_reducible first | exact HB.out | apply below_alloc | apply pw_below_drewN | apply below_drew1 | refine below_set ?_ GE142.out) | exact HB.out))); rintro e w9 ⟨v144, v147, rfl, ho0, ho1, hb⟩; refine ⟨_, rfl, ?_⟩; have n0_ := Aside0.mk (Kd.R_lower ho0 (below_size (by repeat (first | (with_reducible first | exact HB.out | apply below_alloc | apply pw_below_drewN | apply below_drew1 | refine below_set ?_ GE142.out) | exact HB.out)))); have n1_ := Aside0.mk (Kd.R_lower ho1 (below_size (by repeat (first | (with_reducible first | exact HB.out | apply below_alloc | apply pw_below_drewN | apply below_drew1 | refine below_set ?_ GE142.out) | exact HB.out)))); have n2_ := Aside0.mk (blk_below (g := gb142) (o := .cells #[.bool a0_0, .string a0_1, .int .i64 a0_2] 23 (0, 0)) (by (with_reducible repeat (first | refine blk_drewN ?_ _ | refine blk_drew ?_ | refine blk_alloc ?_ _)); exact BK142.out) hb); have n3_ := Aside0.mk (below_step (by repeat (first | (with_reducible first | exact HB.out | apply below_alloc | apply pw_below_drewN | apply below_drew1 | refine below_set ?_ GE142.out) | exact HB.out)) hb); clear BK142; clear HB; have HO145 := n0_; have HO148 := n1_; have BK142 := n2_; have HB := n3_; clear n0_ n1_ n2_ n3_; (try clear hb); (try clear hb2); (try clear hk); (try clear hi); (try clear ho0); (try clear ho1); obtain ⟨Ao10, co10, eo10⟩ := Kd.R_slice HO148.out; subst eo10))
    go_ret
    exact ⟨by first | rfl | (simp [errW_none, errW_some] <;> rfl) | (simp [*, errW_none, errW_some] <;> rfl), by repeat (first | (with_reducible first | exact HB.out | apply below_alloc | apply pw_below_drewN | apply below_drew1 | refine below_set ?_ GE142.out) | exact HB.out)⟩
end Go.Proofs.YtjpokifkbclkiaaDoor.Px
end
section
namespace Go.Proofs
open Go.Shelf
def Tryd.lays169_ren : Go.Shelf.Ren := ⟨fun | 169 => 63 | n => n, fun | 70 => 74 | 9 => 9 | 0 => 0 | 72 => 77 | 37 => 75 | 127 => 105 | 3 => 3 | 5 => 5 | n => n, fun | n => n⟩
theorem Tryd.lays169 : Go.Proofs.Lays.n169 Tryd.prog Tryd.lays169_ren := {
  mixed := by kernel_rfl
  f169 := Tryd.func63.trans (congrArg some (by kernel_rfl))
  t0 := Tryd.underlying0
  a0 := Tryd.isAgg0
  z0 := Tryd.sizeOf0
  v0 := Tryd.zeroValue0
  t3 := Tryd.underlying3
  a3 := Tryd.isAgg3
  z3 := Tryd.sizeOf3
  v3 := Tryd.zeroValue3
  t9 := Tryd.underlying9
  a9 := Tryd.isAgg9
  z9 := Tryd.sizeOf9
  v9 := Tryd.zeroValue9
  t37 := Tryd.underlying75
  a37 := Tryd.isAgg75
  z37 := Tryd.sizeOf75
  v37 := Tryd.zeroValue75
  t70 := Tryd.underlying74
  a70 := Tryd.isAgg74
  z70 := Tryd.sizeOf74
  v70 := Tryd.zeroValue74
  t72 := Tryd.underlying77
  a72 := Tryd.isAgg77
  z72 := Tryd.sizeOf77
  v72 := Tryd.zeroValue77
  t127 := Tryd.underlying105
  a127 := Tryd.isAgg105
  z127 := Tryd.sizeOf105
  v127 := Tryd.zeroValue105 }
theorem Tryd.Builder_Extra_169 : Builder.Extra Tryd.prog Tryd.lays169_ren := {
  sizeBuilder := by kernel_rfl
  liesBuilder := by kernel_rfl
  t5 := Tryd.underlying5
  a5 := Tryd.isAgg5
  z5 := Tryd.sizeOf5
  v5 := Tryd.zeroValue5
  infoByte := by kernel_rfl
  cellsByte := by kernel_rfl
  sizeByte := by kernel_rfl
  neB5 := by decide }
def Tryd.lays161_ren : Go.Shelf.Ren := ⟨fun | 161 => 51 | 231 => 66 | 227 => 67 | 233 => 68 | 235 => 69 | 228 => 81 | 197 => 82 | 151 => 83 | 260 => 86 | 152 => 87 | 137 => 89 | 119 => 90 | 224 => 91 | 225 => 92 | 217 => 93 | 266 => 94 | n => n, fun | 9 => 9 | 4 => 4 | 3 => 3 | 5 => 5 | 117 => 93 | 116 => 92 | 0 => 0 | 124 => 96 | 105 => 107 | 21 => 21 | 119 => 114 | 46 => 115 | 139 => 118 | 138 => 117 | n => n, fun | 3 => 2 | 4 => 3 | n => n⟩
theorem Tryd.lays161 : Go.Proofs.Lays.n161 Tryd.prog Tryd.lays161_ren := {
  mixed := by kernel_rfl
  f119 := Tryd.func90.trans (congrArg some (by kernel_rfl))
  f137 := Tryd.func89.trans (congrArg some (by kernel_rfl))
  f151 := Tryd.func83.trans (congrArg some (by kernel_rfl))
  f152 := Tryd.func87.trans (congrArg some (by kernel_rfl))
  f161 := Tryd.func51.trans (congrArg some (by kernel_rfl))
  f197 := Tryd.func82.trans (congrArg some (by kernel_rfl))
  f217 := Tryd.func93.trans (congrArg some (by kernel_rfl))
  f224 := Tryd.func91.trans (congrArg some (by kernel_rfl))
  f225 := Tryd.func92.trans (congrArg some (by kernel_rfl))
  f227 := Tryd.func67.trans (congrArg some (by kernel_rfl))
  f228 := Tryd.func81.trans (congrArg some (by kernel_rfl))
  f231 := Tryd.func66.trans (congrArg some (by kernel_rfl))
  f233 := Tryd.func68.trans (congrArg some (by kernel_rfl))
  f235 := Tryd.func69.trans (congrArg some (by kernel_rfl))
  f260 := Tryd.func86.trans (congrArg some (by kernel_rfl))
  f266 := Tryd.func94.trans (congrArg some (by kernel_rfl))
  t0 := Tryd.underlying0
  a0 := Tryd.isAgg0
  z0 := Tryd.sizeOf0
  v0 := Tryd.zeroValue0
  t3 := Tryd.underlying3
  a3 := Tryd.isAgg3
  z3 := Tryd.sizeOf3
  v3 := Tryd.zeroValue3
  t4 := Tryd.underlying4
  a4 := Tryd.isAgg4
  z4 := Tryd.sizeOf4
  v4 := Tryd.zeroValue4
  t5 := Tryd.underlying5
  a5 := Tryd.isAgg5
  z5 := Tryd.sizeOf5
  v5 := Tryd.zeroValue5
  t9 := Tryd.underlying9
  a9 := Tryd.isAgg9
  z9 := Tryd.sizeOf9
  v9 := Tryd.zeroValue9
  t21 := Tryd.underlying21
  a21 := Tryd.isAgg21
  z21 := Tryd.sizeOf21
  v21 := Tryd.zeroValue21
  t46 := Tryd.underlying115
  a46 := Tryd.isAgg115
  z46 := Tryd.sizeOf115
  v46 := Tryd.zeroValue115
  t105 := Tryd.underlying107
  a105 := Tryd.isAgg107
  z105 := Tryd.sizeOf107
  v105 := Tryd.zeroValue107
  t116 := Tryd.underlying92
  a116 := Tryd.isAgg92
  z116 := Tryd.sizeOf92
  t117 := Tryd.underlying93
  a117 := Tryd.isAgg93
  z117 := Tryd.sizeOf93
  v117 := Tryd.zeroValue93
  t119 := Tryd.underlying114
  a119 := Tryd.isAgg114
  z119 := Tryd.sizeOf114
  t124 := Tryd.underlying96
  a124 := Tryd.isAgg96
  z124 := Tryd.sizeOf96
  v124 := Tryd.zeroValue96
  t138 := Tryd.underlying117
  a138 := Tryd.isAgg117
  z138 := Tryd.sizeOf117
  v138 := Tryd.zeroValue117
  t139 := Tryd.underlying118
  a139 := Tryd.isAgg118
  z139 := Tryd.sizeOf118
  v139 := Tryd.zeroValue118
  g3 := by kernel_rfl
  g4 := by kernel_rfl }
open Go.RowKit in
theorem Tryd.strings_TrimLeft_one (s : ByteArray) (c : UInt8) (hc : c.toNat < 128) (w : World) :
    Calls Tryd.prog 51 #[.string s, .string ⟨#[c]⟩] w fun e w' => e = .returned (.string ⟨(Lib.trimLeftB s.data.toList c).toArray⟩) ∧ w' = w := Any.strings_TrimLeft_one Tryd.lays161 s c hc w
def Tryd.lays162_ren : Go.Shelf.Ren := ⟨fun | 162 => 52 | 232 => 70 | 227 => 67 | 234 => 71 | 236 => 72 | 228 => 81 | 271 => 84 | 151 => 83 | 120 => 88 | 197 => 82 | 152 => 87 | 260 => 86 | 137 => 89 | 119 => 90 | 224 => 91 | 225 => 92 | 217 => 93 | 266 => 94 | n => n, fun | 9 => 9 | 4 => 4 | 3 => 3 | 5 => 5 | 117 => 93 | 116 => 92 | 0 => 0 | 124 => 96 | 21 => 21 | 105 => 107 | 46 => 115 | 119 => 114 | 139 => 118 | 138 => 117 | n => n, fun | 3 => 2 | 4 => 3 | n => n⟩
theorem Tryd.lays162 : Go.Proofs.Lays.n162 Tryd.prog Tryd.lays162_ren := {
  mixed := by kernel_rfl
  f119 := Tryd.func90.trans (congrArg some (by kernel_rfl))
  f120 := Tryd.func88.trans (congrArg some (by kernel_rfl))
  f137 := Tryd.func89.trans (congrArg some (by kernel_rfl))
  f151 := Tryd.func83.trans (congrArg some (by kernel_rfl))
  f152 := Tryd.func87.trans (congrArg some (by kernel_rfl))
  f162 := Tryd.func52.trans (congrArg some (by kernel_rfl))
  f197 := Tryd.func82.trans (congrArg some (by kernel_rfl))
  f217 := Tryd.func93.trans (congrArg some (by kernel_rfl))
  f224 := Tryd.func91.trans (congrArg some (by kernel_rfl))
  f225 := Tryd.func92.trans (congrArg some (by kernel_rfl))
  f227 := Tryd.func67.trans (congrArg some (by kernel_rfl))
  f228 := Tryd.func81.trans (congrArg some (by kernel_rfl))
  f232 := Tryd.func70.trans (congrArg some (by kernel_rfl))
  f234 := Tryd.func71.trans (congrArg some (by kernel_rfl))
  f236 := Tryd.func72.trans (congrArg some (by kernel_rfl))
  f260 := Tryd.func86.trans (congrArg some (by kernel_rfl))
  f266 := Tryd.func94.trans (congrArg some (by kernel_rfl))
  f271 := Tryd.func84.trans (congrArg some (by kernel_rfl))
  t0 := Tryd.underlying0
  a0 := Tryd.isAgg0
  z0 := Tryd.sizeOf0
  v0 := Tryd.zeroValue0
  t3 := Tryd.underlying3
  a3 := Tryd.isAgg3
  z3 := Tryd.sizeOf3
  v3 := Tryd.zeroValue3
  t4 := Tryd.underlying4
  a4 := Tryd.isAgg4
  z4 := Tryd.sizeOf4
  v4 := Tryd.zeroValue4
  t5 := Tryd.underlying5
  a5 := Tryd.isAgg5
  z5 := Tryd.sizeOf5
  v5 := Tryd.zeroValue5
  t9 := Tryd.underlying9
  a9 := Tryd.isAgg9
  z9 := Tryd.sizeOf9
  v9 := Tryd.zeroValue9
  t21 := Tryd.underlying21
  a21 := Tryd.isAgg21
  z21 := Tryd.sizeOf21
  v21 := Tryd.zeroValue21
  t46 := Tryd.underlying115
  a46 := Tryd.isAgg115
  z46 := Tryd.sizeOf115
  v46 := Tryd.zeroValue115
  t105 := Tryd.underlying107
  a105 := Tryd.isAgg107
  z105 := Tryd.sizeOf107
  v105 := Tryd.zeroValue107
  t116 := Tryd.underlying92
  a116 := Tryd.isAgg92
  z116 := Tryd.sizeOf92
  t117 := Tryd.underlying93
  a117 := Tryd.isAgg93
  z117 := Tryd.sizeOf93
  v117 := Tryd.zeroValue93
  t119 := Tryd.underlying114
  a119 := Tryd.isAgg114
  z119 := Tryd.sizeOf114
  t124 := Tryd.underlying96
  a124 := Tryd.isAgg96
  z124 := Tryd.sizeOf96
  v124 := Tryd.zeroValue96
  t138 := Tryd.underlying117
  a138 := Tryd.isAgg117
  z138 := Tryd.sizeOf117
  v138 := Tryd.zeroValue117
  t139 := Tryd.underlying118
  a139 := Tryd.isAgg118
  z139 := Tryd.sizeOf118
  v139 := Tryd.zeroValue118
  g3 := by kernel_rfl
  g4 := by kernel_rfl }
open Go.RowKit in
theorem Tryd.strings_TrimRight_one (s : ByteArray) (c : UInt8) (hc : c.toNat < 128) (w : World) (hs : s.size ≤ 9223372036854775807) :
    Calls Tryd.prog 52 #[.string s, .string ⟨#[c]⟩] w fun e w' => e = .returned (.string ⟨(Lib.trimRightB s.data.toList c).toArray⟩) ∧ w' = w := Any.strings_TrimRight_one Tryd.lays162 s c hc w hs
open Go.RowKit in
theorem Tryd.Builder_String_any_k (B b : Nat) (l : List UInt8) (w : World) (h : Lib.IsBuilderF 77 5 B b (Lib.byteCells l) w) (hBw : B ≤ w.heap.size) :
    Calls Tryd.prog 63 #[.pointer (some ⟨b, 0, none⟩)] w fun e w' => e = .returned (.string ⟨l.toArray⟩) ∧ (Lib.IsBuilderF 77 5 B b (Lib.byteCells l) w' ∧ Below B w w' ∧ Lib.OthersKept 5 (some b) w w') := Any.Builder_String_any_k Tryd.lays169 Tryd.Builder_Extra_169 B b l w h hBw
end Go.Proofs
end
section
namespace Go.Proofs.YtjpokifkbclkiaaDoor.Px
open Fig Go.RowKit Go.Proofs.YtjpokifkbclkiaaDoorW.PrintWords Go.Proofs.YtjpokifkbclkiaaDoorW.PrintLast Go.Proofs.YtjpokifkbclkiaaDoorW.PrintMore
attribute [local go_sem] max2_int min2_int max_two min_two max_three min_three max_four min_four   -- for this text's walks alone
attribute [local go_sem] fieldA23_0 fieldA23_1 fieldA23_2
set_option maxRecDepth 100000
def strings_TrimLeft.f (a0 a1 : ByteArray) : Option ByteArray := if a1.data.toList = [48] then some (stripB a0) else none
theorem one_nought {a1 : ByteArray} (h : a1.data.toList = [48]) : a1 = ⟨#[48]⟩ := B_ext h
theorem strings_TrimLeft.calls (a0 a1 r : ByteArray) (w : World) (h : strings_TrimLeft.f a0 a1 = some r) :
    Calls Tryd.prog 51 #[.string a0, .string a1] w fun e w' => e = .returned (.string r) ∧ Below w.heap.size w w' := by
  unfold strings_TrimLeft.f at h
  by_cases hc : a1.data.toList = [48]
  · rw [if_pos hc] at h
    obtain rfl := Option.some.inj h
    obtain rfl := one_nought hc
    exact (Tryd.strings_TrimLeft_one a0 48 (by decide) w).mono fun e w' ⟨h1, h2⟩ => ⟨h1, h2 ▸ Below.refl _ _⟩
  · rw [if_neg hc] at h; cases h
end Go.Proofs.YtjpokifkbclkiaaDoor.Px
end
section
namespace Go.Proofs.YtjpokifkbclkiaaDoor.Px
open Fig Go.RowKit Go.Proofs.YtjpokifkbclkiaaDoorW.PrintWords Go.Proofs.YtjpokifkbclkiaaDoorW.PrintLast Go.Proofs.YtjpokifkbclkiaaDoorW.PrintMore
attribute [local go_sem] max2_int min2_int max_two min_two max_three min_three max_four min_four   -- for this text's walks alone
attribute [local go_sem] fieldA23_0 fieldA23_1 fieldA23_2
set_option maxRecDepth 100000
def strings_TrimRight.f (a0 a1 : ByteArray) : Option ByteArray := if a1.data.toList = [48] ∧ a0.size ≤ 9223372036854775807 then some ⟨(Lib.trimRightB a0.data.toList 48).toArray⟩ else none
theorem one_nought' {a1 : ByteArray} (h : a1.data.toList = [48]) : a1 = ⟨#[48]⟩ := B_ext h
theorem strings_TrimRight.calls (a0 a1 r : ByteArray) (w : World) (h : strings_TrimRight.f a0 a1 = some r) :
    Calls Tryd.prog 52 #[.string a0, .string a1] w fun e w' => e = .returned (.string r) ∧ Below w.heap.size w w' := by
  unfold strings_TrimRight.f at h
  by_cases hc : a1.data.toList = [48] ∧ a0.size ≤ 9223372036854775807
  · rw [if_pos hc] at h
    obtain rfl := Option.some.inj h
    obtain rfl := one_nought' hc.1
    exact (Tryd.strings_TrimRight_one a0 48 (by decide) w hc.2).mono fun e w' ⟨h1, h2⟩ => ⟨h1, h2 ▸ Below.refl _ _⟩
  · rw [if_neg hc] at h; cases h
end Go.Proofs.YtjpokifkbclkiaaDoor.Px
end
section
namespace Go.Proofs.YtjpokifkbclkiaaDoor.Px
open Fig Go.RowKit Go.Proofs.YtjpokifkbclkiaaDoorW.PrintWords Go.Proofs.YtjpokifkbclkiaaDoorW.PrintLast Go.Proofs.YtjpokifkbclkiaaDoorW.PrintMore
attribute [local go_sem] max2_int min2_int max_two min_two max_three min_three max_four min_four   -- for this text's walks alone
attribute [local go_sem] fieldA23_0 fieldA23_1 fieldA23_2
def dec_Norm.f (a0_0 : Bool) (a0_1 : ByteArray) (a0_2 : Int) : Option (Bool × ByteArray × Int) := (strings_TrimLeft.f a0_1 (⟨#[48]⟩ : ByteArray)).bind fun t151 => (if t151.toList = ([] : List UInt8) then (some (a0_0, (⟨#[48]⟩ : ByteArray), 0)) else ((strings_TrimRight.f t151 (⟨#[48]⟩ : ByteArray)).bind fun t152 => (some (a0_0, t152, wrap64 ((wrap64 (a0_2 + (t151.size : Int))) - (t152.size : Int))))))
set_option maxHeartbeats 8000000 in
set_option maxRecDepth 100000 in
theorem dec_Norm.calls (a0_0 : Bool) (a0_1 : ByteArray) (a0_2 : Int) (r1 : Bool) (r2 : ByteArray) (r3 : Int) (w : World) (h : dec_Norm.f a0_0 a0_1 a0_2 = some (r1, r2, r3)) :
    Calls Tryd.prog 31 #[.agg #[.bool a0_0, .string a0_1, .int .i64 a0_2]] w fun e w' => e = .returned (.agg #[.bool r1, .string r2, .int .i64 r3]) ∧ Below w.heap.size w w' := by
  have hu23 := Tryd.underlying23
  have HB := Aside0.mk (Below.refl w.heap.size w)
  have H : ((strings_TrimLeft.f a0_1 (⟨#[48]⟩ : ByteArray)).bind fun t151 => (if t151.toList = ([] : List UInt8) then (some (a0_0, (⟨#[48]⟩ : ByteArray), 0)) else ((strings_TrimRight.f t151 (⟨#[48]⟩ : ByteArray)).bind fun t152 => (some (a0_0, t152, wrap64 ((wrap64 (a0_2 + (t151.size : Int))) - (t152.size : Int))))))) = some (r1, r2, r3) := h
  clear h
  replace H := Option.bind_eq_some_iff.mp H
  obtain ⟨t151, A20, H⟩ := H
  replace H : (if t151.toList = ([] : List UInt8) then (some (a0_0, (⟨#[48]⟩ : ByteArray), 0)) else ((strings_TrimRight.f t151 (⟨#[48]⟩ : ByteArray)).bind fun t152 => (some (a0_0, t152, wrap64 ((wrap64 (a0_2 + (t151.size : Int))) - (t152.size : Int)))))) = some (r1, r2, r3) := H
  have A2 := Aside0.mk A20
  clear A20
  by_cases c3 : t151.toList = ([] : List UInt8)
  · rw [if_pos c3] at H
    have c3b0 : (t151.toList == ([] : List UInt8)) = true := beq_iff_eq.mpr c3
    have c3b1 : (t151.toList != ([] : List UInt8)) = false := bne_eq_false_iff_eq.mpr c3
    clear c3
    simp only [Option.some.injEq, Prod.mk.injEq] at H
    obtain ⟨rfl, rfl, rfl⟩ := H
    go_enter Tryd.func31, Tryd.ntmps31
    go_wp2_with (first | ((with_reducible refine gate_dst (N := 1) rfl ?_); refine box_event ?hg (N := 1) ?hd (cs := #[.bool a0_0, .string a0_1, .int .i64 a0_2]) (t := 23) ?hr ?_; (case hd => rfl); (case hg => rfl); (case hr => first | (go_simp; done) | (go_simp; rfl)); intro gb149 hg w4 hbox hb; have n0_ := Aside0.mk (below_step (by repeat (first | (with_reducible first | exact HB.out | apply below_alloc | apply pw_below_drewN | apply below_drew1) | exact HB.out)) hb); have n1_ := Aside0.mk (hbox); have n2_ := Aside0.mk ((by rw [hg]; exact (below_size (by repeat (first | (with_reducible first | exact HB.out | apply below_alloc | apply pw_below_drewN | apply below_drew1) | exact HB.out))) : w.heap.size ≤ gb149)); have n3_ := Aside0.mk ((by rw [hg]; exact (below_size (by repeat (first | (with_reducible first | exact HB.out | apply below_alloc | apply pw_below_drewN | apply below_drew1) | exact HB.out))) : w.heap.size ≤ gb149)); clear HB; have HB := n0_; have BK149 := n1_; have GW149 := n2_; have GE149 := n3_; clear n0_ n1_ n2_ n3_; clear hb hbox hg) | ((with_reducible refine gate_dst (N := 2) rfl ?_); refine box_event ?hg (N := 2) ?hd (cs := #[.bool false, .string (⟨#[]⟩ : ByteArray), .int .i64 0]) (t := 23) ?hr ?_; (case hd => rfl); (case hg => rfl); (case hr => first | (go_simp; done) | (go_simp; rfl)); intro gb150 hg w5 hbox hb; have n0_ := Aside0.mk (blk_below (g := gb149) (o := .cells #[.bool a0_0, .string a0_1, .int .i64 a0_2] 23 (0, 0)) (by (with_reducible repeat (first | refine blk_drewN ?_ _ | refine blk_drew ?_ | refine blk_alloc ?_ _)); exact BK149.out) hb); have n1_ := Aside0.mk (below_step (by repeat (first | (with_reducible first | exact HB.out | apply below_alloc | apply pw_below_drewN | apply below_drew1 | refine below_set ?_ GE149.out) | exact HB.out)) hb); have n2_ := Aside0.mk (hbox); have n3_ := Aside0.mk ((by rw [hg]; exact (below_size (by repeat (first | (with_reducible first | exact HB.out | apply below_alloc | apply pw_below_drewN | apply below_drew1 | refine below_set ?_ GE149.out) | exact HB.out))) : w.heap.size ≤ gb150)); have n4_ := Aside0.mk ((by rw [hg]; exact (below_size (by repeat (first | (with_reducible first | exact HB.out | apply below_alloc | apply pw_below_drewN | apply below_drew1 | refine below_set ?_ GE149.out) | exact HB.out))) : w.heap.size ≤ gb150)); have n5_ := Aside0.mk ((by rw [hg]; exact Nat.ne_of_lt (blk_lt (g := gb149) (o := .cells #[.bool a0_0, .string a0_1, .int .i64 a0_2] 23 (0, 0)) (by (with_reducible repeat (first | refine blk_drewN ?_ _ | refine blk_drew ?_ | refine blk_alloc ?_ _)); exact BK149.out)) : gb149 ≠ gb150)); have n6_ := Aside0.mk ((by rw [hg]; exact Nat.ne_of_gt (blk_lt (g := gb149) (o := .cells #[.bool a0_0, .string a0_1, .int .i64 a0_2] 23 (0, 0)) (by (with_reducible repeat (first | refine blk_drewN ?_ _ | refine blk_drew ?_ | refine blk_alloc ?_ _)); exact BK149.out)) : gb150 ≠ gb149)); clear BK149; clear HB; have BK149 := n0_; have HB := n1_; have BK150 := n2_; have GW150 := n3_; have GE150 := n4_; have NB149_150 := n5_; have NB150_149 := n6_; clear n0_ n1_ n2_ n3_ n4_ n5_ n6_; clear hb hbox hg; have hnb6 := NB149_150.out; have hnc6 := NB150_149.out; have hcz7_0 : w5.cell? ⟨gb149, 0, none⟩ = some (.bool a0_0) := (blk_cell BK149.out 0).trans rfl; have hcz7_1 : w5.cell? ⟨gb149, 1, none⟩ = some (.string a0_1) := (blk_cell BK149.out 1).trans rfl; have hcz7_2 : w5.cell? ⟨gb149, 2, none⟩ = some (.int .i64 a0_2) := (blk_cell BK149.out 2).trans rfl; have hfz7_0 := blk_frozen BK149.out 0; have hfz7_1 := blk_frozen BK149.out 1; have hfz7_2 := blk_frozen BK149.out 2) | ((with_reducible refine gate_callee (f := 51) rfl ?_); refine goesL_ (some 7) rfl rfl Tryd.func51 (by kernel_rfl) rfl #[.string a0_1, .string (⟨#[48]⟩ : ByteArray)] rfl (by (try simp only [List.map_toArray]); (try simp only [List.map_cons]); (try simp only [List.map_nil]); first | done | rfl | (simp only [List.length_drop, List.length_take]; rfl)) ?_; (with_reducible refine (strings_TrimLeft.calls a0_1 (⟨#[48]⟩ : ByteArray) t151 _ A2.out).mono ?_); rintro e w8 ⟨rfl, hb⟩; refine ⟨_, rfl, ?_⟩; have n0_ := Aside0.mk (blk_below (g := gb149) (o := .cells #[.bool a0_0, .string a0_1, .int .i64 a0_2] 23 (0, 0)) (by (with_reducible repeat (first | refine blk_drewN ?_ _ | refine blk_drew ?_ | refine blk_alloc ?_ _)); exact BK149.out) hb); have n1_ := Aside0.mk (blk_below (g := gb150) (o := .cells #[.bool false, .string (⟨#[]⟩ : ByteArray), .int .i64 0] 23 (0, 0)) (by (with_reducible repeat (first | refine blk_drewN ?_ _ | refine blk_drew ?_ | refine blk_alloc ?_ _)); exact BK150.out) hb); have n2_ := Aside0.mk (below_step (by repeat (first | (with_reducible first | exact HB.out | apply below_alloc | apply pw_below_drewN | apply below_drew1 | refine below_set ?_ GE149.out | refine below_set ?_ GE150.out) | exact HB.out)) hb); clear BK149; clear BK150; clear HB; have BK149 := n0_; have BK150 := n1_; have HB := n2_; clear n0_ n1_ n2_; (try clear hb); (try clear hb2); (try clear hk); (try clear hi); have hcz9_0 : w8.cell? ⟨gb149, 0, none⟩ = some (.bool a0_0) := (blk_cell BK149.out 0).trans rfl; have hcz9_1 : w8.cell? ⟨gb149, 1, none⟩ = some (.string a0_1) := (blk_cell BK149.out 1).trans rfl; have hcz9_2 : w8.cell? ⟨gb149, 2, none⟩ = some (.int .i64 a0_2) := (blk_cell BK149.out 2).trans rfl; have hfz9_0 := blk_frozen BK149.out 0; have hfz9_1 := blk_frozen BK149.out 1; have hfz9_2 := blk_frozen BK149.out 2; have hcz10_0 : w8.cell? ⟨gb150, 0, none⟩ = some (.bool false) := (blk_cell BK150.out 0).trans rfl; have hcz10_1 : w8.cell? ⟨gb150, 1, none⟩ = some (.string (⟨#[]⟩ : ByteArray)) := (blk_cell BK150.out 1).trans rfl; have hcz10_2 : w8.cell? ⟨gb150, 2, none⟩ = some (.int .i64 0) := (blk_cell BK150.out 2).trans rfl; have hfz10_0 := blk_frozen BK150.out 0; have hfz10_1 := blk_frozen BK150.out 1; have hfz10_2 := blk_frozen BK150.out 2))
    refine bodyPost_ret (results_cell_row rfl _ _ gb150 23 #[.bool a0_0, .string (⟨#[48]⟩ : ByteArray), .int .i64 0] (0, 0) _ rfl (by (with_reducible repeat (first | refine blk_drewN ?_ _ | refine blk_drew ?_ | refine blk_alloc ?_ _)); refine blk_put (cs := #[.bool a0_0, .string (⟨#[48]⟩ : ByteArray), .int .i64 0]) ?_ 2 _ rfl; (with_reducible repeat (first | refine blk_drewN ?_ _ | refine blk_drew ?_ | refine blk_alloc ?_ _)); refine blk_put (cs := #[.bool a0_0, .string (⟨#[]⟩ : ByteArray), .int .i64 0]) ?_ 1 _ rfl; (with_reducible repeat (first | refine blk_drewN ?_ _ | refine blk_drew ?_ | refine blk_alloc ?_ _)); refine blk_put (cs := #[.bool false, .string (⟨#[]⟩ : ByteArray), .int .i64 0]) ?_ 0 _ rfl; (with_reducible repeat (first | refine blk_drewN ?_ _ | refine blk_drew ?_ | refine blk_alloc ?_ _)); exact BK150.out) Tryd.underlying23 rfl (by kernel_rfl)) rfl ?_
    exact ⟨by first | rfl | (simp [errW_none, errW_some] <;> rfl) | (simp [*, errW_none, errW_some] <;> rfl), by repeat (first | (with_reducible first | exact HB.out | apply below_alloc | apply pw_below_drewN | apply below_drew1 | refine below_set ?_ GE149.out | refine below_set ?_ GE150.out) | exact HB.out)⟩
  · rw [if_neg c3] at H
    have c3b0 : (t151.toList == ([] : List UInt8)) = false := beq_eq_false_iff_ne.mpr c3
    have c3b1 : (t151.toList != ([] : List UInt8)) = true := bne_iff_ne.mpr c3
    replace H := Option.bind_eq_some_iff.mp H
    obtain ⟨t152, A110, H⟩ := H
    replace H : (some (a0_0, t152, wrap64 ((wrap64 (a0_2 + (t151.size : Int))) - (t152.size : Int)))) = some (r1, r2, r3) := H
    have A11 := Aside0.mk A110
    clear A110
    simp only [Option.some.injEq, Prod.mk.injEq] at H
    obtain ⟨rfl, rfl, rfl⟩ := H
    go_enter Tryd.func31, Tryd.ntmps31
    go_wp2_with (first | ((with_reducible refine gate_dst (N := 1) rfl ?_); refine box_event ?hg (N := 1) ?hd (cs := #[.bool a0_0, .string a0_1, .int .i64 a0_2]) (t := 23) ?hr ?_; (case hd => rfl); (case hg => rfl); (case hr => first | (go_simp; done) | (go_simp; rfl)); intro gb149 hg w12 hbox hb; have n0_ := Aside0.mk (below_step (by repeat (first | (with_reducible first | exact HB.out | apply below_alloc | apply pw_below_drewN | apply below_drew1) | exact HB.out)) hb); have n1_ := Aside0.mk (hbox); have n2_ := Aside0.mk ((by rw [hg]; exact (below_size (by repeat (first | (with_reducible first | exact HB.out | apply below_alloc | apply pw_below_drewN | apply below_drew1) | exact HB.out))) : w.heap.size ≤ gb149)); have n3_ := Aside0.mk ((by rw [hg]; exact (below_size (by repeat (first | (with_reducible first | exact HB.out | apply below_alloc | apply pw_below_drewN | apply below_drew1) | exact HB.out))) : w.heap.size ≤ gb149)); clear HB; have HB := n0_; have BK149 := n1_; have GW149 := n2_; have GE149 := n3_; clear n0_ n1_ n2_ n3_; clear hb hbox hg) | ((with_reducible refine gate_dst (N := 2) rfl ?_); refine box_event ?hg (N := 2) ?hd (cs := #[.bool false, .string (⟨#[]⟩ : ByteArray), .int .i64 0]) (t := 23) ?hr ?_; (case hd => rfl); (case hg => rfl); (case hr => first | (go_simp; done) | (go_simp; rfl)); intro gb150 hg w13 hbox hb; have n0_ := Aside0.mk (blk_below (g := gb149) (o := .cells #[.bool a0_0, .string a0_1, .int .i64 a0_2] 23 (0, 0)) (by (with_reducible repeat (first | refine blk_drewN ?_ _ | refine blk_drew ?_ | refine blk_alloc ?_ _)); exact BK149.out) hb); have n1_ := Aside0.mk (below_step (by repeat (first | (with_reducible first | exact HB.out | apply below_alloc | apply pw_below_drewN | apply below_drew1 | refine below_set ?_ GE149.out) | exact HB.out)) hb); have n2_ := Aside0.mk (hbox); have n3_ := Aside0.mk ((by rw [hg]; exact (below_size (by repeat (first | (with_reducible first | exact HB.out | apply below_alloc | apply pw_below_drewN | apply below_drew1 | refine below_set ?_ GE149.out) | exact HB.out))) : w.heap.size ≤ gb150)); have n4_ := Aside0.mk ((by rw [hg]; exact (below_size (by repeat (first | (with_reducible first | exact HB.out | apply below_alloc | apply pw_below_drewN | apply below_drew1 | refine below_set ?_ GE149.out) | exact HB.out))) : w.heap.size ≤ gb150)); have n5_ := Aside0.mk ((by rw [hg]; exact Nat.ne_of_lt (blk_lt (g := gb149) (o := .cells #[.bool a0_0, .string a0_1, .int .i64 a0_2] 23 (0, 0)) (by (with_reducible repeat (first | refine blk_drewN ?_ _ | refine blk_drew ?_ | refine blk_alloc ?_ _)); exact BK149.out)) : gb149 ≠ gb150)); have n6_ := Aside0.mk ((by rw [hg]; exact Nat.ne_of_gt (blk_lt (g := gb149) (o := .cells #[.bool a0_0, .string a0_1, .int .i64 a0_2] 23 (0, 0)) (by (with_reducible repeat (first | refine blk_drewN ?_ _ | refine blk_drew ?_ | refine blk_alloc ?_ _)); exact BK149.out)) : gb150 ≠ gb149)); clear BK149; clear HB; have BK149 := n0_; have HB := n1_; have BK150 := n2_; have GW150 := n3_; have GE150 := n4_; have NB149_150 := n5_; have NB150_149 := n6_; clear n0_ n1_ n2_ n3_ n4_ n5_ n6_; clear hb hbox hg; have hnb14 := NB149_150.out; have hnc14 := NB150_149.out; have hcz15_0 : w13.cell? ⟨gb149, 0, none⟩ = some (.bool a0_0) := (blk_cell BK149.out 0).trans rfl; have hcz15_1 : w13.cell? ⟨gb149, 1, none⟩ = some (.string a0_1) := (blk_cell BK149.out 1).trans rfl; have hcz15_2 : w13.cell? ⟨gb149, 2, none⟩ = some (.int .i64 a0_2) := (blk_cell BK149.out 2).trans rfl; have hfz15_0 := blk_frozen BK149.out 0; have hfz15_1 := blk_frozen BK149.out 1; have hfz15_2 := blk_frozen BK149.out 2) | ((with_reducible refine gate_callee (f := 51) rfl ?_); refine goesL_ (some 7) rfl rfl Tryd.func51 (by kernel_rfl) rfl #[.string a0_1, .string (⟨#[48]⟩ : ByteArray)] rfl (by (try simp only [List.map_toArray]); (try simp only [List.map_cons]); (try simp only [List.map_nil]); first | done | rfl | (simp only [List.length_drop, List.length_take]; rfl)) ?_; (with_reducible refine (strings_TrimLeft.calls a0_1 (⟨#[48]⟩ : ByteArray) t151 _ A2.out).mono ?_); rintro e w16 ⟨rfl, hb⟩; refine ⟨_, rfl, ?_⟩; have n0_ := Aside0.mk (blk_below (g := gb149) (o := .cells #[.bool a0_0, .string a0_1, .int .i64 a0_2] 23 (0, 0)) (by (with_reducible repeat (first | refine blk_drewN ?_ _ | refine blk_drew ?_ | refine blk_alloc ?_ _)); exact BK149.out) hb); have n1_ := Aside0.mk (blk_below (g := gb150) (o := .cells #[.bool false, .string (⟨#[]⟩ : ByteArray), .int .i64 0] 23 (0, 0)) (by (with_reducible repeat (first | refine blk_drewN ?_ _ | refine blk_drew ?_ | refine blk_alloc ?_ _)); exact BK150.out) hb); have n2_ := Aside0.mk (below_step (by repeat (first | (with_reducible first | exact HB.out | apply below_alloc | apply pw_below_drewN | apply below_drew1 | refine below_set ?_ GE149.out | refine below_set ?_ GE150.out) | exact HB.out)) hb); clear BK149; clear BK150; clear HB; have BK149 := n0_; have BK150 := n1_; have HB := n2_; clear n0_ n1_ n2_; (try clear hb); (try clear hb2); (try clear hk); (try clear hi)) | ((with_reducible refine gate_callee (f := 52) rfl ?_); refine goesL_ (some 14) rfl rfl Tryd.func52 (by kernel_rfl) rfl #[.string t151, .string (⟨#[48]⟩ : ByteArray)] rfl (by (try simp only [List.map_toArray]); (try simp only [List.map_cons]); (try simp only [List.map_nil]); first | done | rfl | (simp only [List.length_drop, List.length_take]; rfl)) ?_; (with_reducible refine (strings_TrimRight.calls t151 (⟨#[48]⟩ : ByteArray) t152 _ A11.out).mono ?_); rintro e w17 ⟨rfl, hb⟩; refine ⟨_, rfl, ?_⟩; have n0_ := Aside0.mk (blk_below (g := gb149) (o := .cells #[.bool a0_0, .string a0_1, .int .i64 a0_2] 23 (0, 0)) (by (with_reducible repeat (first | refine blk_drewN ?_ _ | refine blk_drew ?_ | refine blk_alloc ?_ _)); exact BK149.out) hb); have n1_ := Aside0.mk (blk_below (g := gb150) (o := .cells #[.bool false, .string (⟨#[]⟩ : ByteArray), .int .i64 0] 23 (0, 0)) (by (with_reducible repeat (first | refine blk_drewN ?_ _ | refine blk_drew ?_ | refine blk_alloc ?_ _)); exact BK150.out) hb); have n2_ := Aside0.mk (below_step (by repeat (first | (with_reducible first | exact HB.out | apply below_alloc | apply pw_below_drewN | apply below_drew1 | refine below_set ?_ GE149.out | refine below_set ?_ GE150.out) | exact HB.out)) hb); clear BK149; clear BK150; clear HB; have BK149 := n0_; have BK150 := n1_; have HB := n2_; clear n0_ n1_ n2_; (try clear hb); (try clear hb2); (try clear hk); (try clear hi); have hcz18_0 : w17.cell? ⟨gb149, 0, none⟩ = some (.bool a0_0) := (blk_cell BK149.out 0).trans rfl; have hcz18_1 : w17.cell? ⟨gb149, 1, none⟩ = some (.string a0_1) := (blk_cell BK149.out 1).trans rfl; have hcz18_2 : w17.cell? ⟨gb149, 2, none⟩ = some (.int .i64 a0_2) := (blk_cell BK149.out 2).trans rfl; have hfz18_0 := blk_frozen BK149.out 0; have hfz18_1 := blk_frozen BK149.out 1; have hfz18_2 := blk_frozen BK149.out 2; have hcz19_0 : w17.cell? ⟨gb150, 0, none⟩ = some (.bool false) := (blk_cell BK150.out 0).trans rfl; have hcz19_1 : w17.cell? ⟨gb150, 1, none⟩ = some (.string (⟨#[]⟩ : ByteArray)) := (blk_cell BK150.out 1).trans rfl; have hcz19_2 : w17.cell? ⟨gb150, 2, none⟩ = some (.int .i64 0) := (blk_cell BK150.out 2).trans rfl; have hfz19_0 := blk_frozen BK150.out 0; have hfz19_1 := blk_frozen BK150.out 1; have hfz19_2 := blk_frozen BK150.out 2))
    refine bodyPost_ret (results_cell_row rfl _ _ gb150 23 #[.bool a0_0, .string t152, .int .i64 (wrap64 ((wrap64 (a0_2 + (t151.size : Int))) - (t152.size : Int)))] (0, 0) _ rfl (by (with_reducible repeat (first | refine blk_drewN ?_ _ | refine blk_drew ?_ | refine blk_alloc ?_ _)); refine blk_put (cs := #[.bool a0_0, .string t152, .int .i64 0]) ?_ 2 _ rfl; (with_reducible repeat (first | refine blk_drewN ?_ _ | refine blk_drew ?_ | refine blk_alloc ?_ _)); refine blk_put (cs := #[.bool a0_0, .string (⟨#[]⟩ : ByteArray), .int .i64 0]) ?_ 1 _ rfl; (with_reducible repeat (first | refine blk_drewN ?_ _ | refine blk_drew ?_ | refine blk_alloc ?_ _)); refine blk_put (cs := #[.bool false, .string (⟨#[]⟩ : ByteArray), .int .i64 0]) ?_ 0 _ rfl; (with_reducible repeat (first | refine blk_drewN ?_ _ | refine blk_drew ?_ | refine blk_alloc ?_ _)); exact BK150.out) Tryd.underlying23 rfl (by kernel_rfl)) rfl ?_
    exact ⟨by first | rfl | (simp [errW_none, errW_some] <;> rfl) | (simp [*, errW_none, errW_some] <;> rfl), by repeat (first | (with_reducible first | exact HB.out | apply below_alloc | apply pw_below_drewN | apply below_drew1 | refine below_set ?_ GE149.out | refine below_set ?_ GE150.out) | exact HB.out)⟩
end Go.Proofs.YtjpokifkbclkiaaDoor.Px
end
section
namespace Go.Proofs.YtjpokifkbclkiaaDoor.Px
open Fig Go.RowKit Go.Proofs.YtjpokifkbclkiaaDoorW.PrintWords Go.Proofs.YtjpokifkbclkiaaDoorW.PrintLast Go.Proofs.YtjpokifkbclkiaaDoorW.PrintMore
attribute [local go_sem] max2_int min2_int max_two min_two max_three min_three max_four min_four   -- for this text's walks alone
attribute [local go_sem] fieldA23_0 fieldA23_1 fieldA23_2
def cmp_isNaN_int.f (a0 : Int) : Option (Bool) := some (a0 != a0)
set_option maxHeartbeats 8000000 in
set_option maxRecDepth 100000 in
theorem cmp_isNaN_int.calls (a0 : Int) (r : Bool) (w : World) (h : cmp_isNaN_int.f a0 = some r) :
    Calls Tryd.prog 76 #[.int .i64 a0] w fun e w' => e = .returned (.bool r) ∧ Drawn0 w w' := by
  have H : (some (a0 != a0)) = some r := h
  clear h
  obtain rfl := Option.some.inj H
  go_enter Tryd.func76, Tryd.ntmps76
  go_wp2
  go_ret
  exact ⟨by first | rfl | (simp; done) | (simp [*]; done) | (simp [*, Fig.bne_nil]; done), by repeat (first | exact Drawn0.refl _ | apply Drawn0.step)⟩
end Go.Proofs.YtjpokifkbclkiaaDoor.Px
end
section
namespace Go.Proofs.YtjpokifkbclkiaaDoor.Px
open Fig Go.RowKit Go.Proofs.YtjpokifkbclkiaaDoorW.PrintWords Go.Proofs.YtjpokifkbclkiaaDoorW.PrintLast Go.Proofs.YtjpokifkbclkiaaDoorW.PrintMore
attribute [local go_sem] max2_int min2_int max_two min_two max_three min_three max_four min_four   -- for this text's walks alone
attribute [local go_sem] fieldA23_0 fieldA23_1 fieldA23_2
def cmp_Compare_int.f (a0 : Int) (a1 : Int) : Option (Int) := (cmp_isNaN_int.f a0).bind fun t153 => ((cmp_isNaN_int.f a1).bind fun t154 => (if t153 = true then (if t154 = true then (some 0) else (some (-1))) else (if t154 = true then (some 1) else (if a0 < a1 then (some (-1)) else (if a0 > a1 then (some 1) else (some 0))))))
set_option maxHeartbeats 8000000 in
set_option maxRecDepth 100000 in
theorem cmp_Compare_int.calls (a0 : Int) (a1 : Int) (r : Int) (w : World) (h : cmp_Compare_int.f a0 a1 = some r) :
    Calls Tryd.prog 56 #[.int .i64 a0, .int .i64 a1] w fun e w' => e = .returned (.int .i64 r) ∧ Drawn0 w w' := by
  have H : ((cmp_isNaN_int.f a0).bind fun t153 => ((cmp_isNaN_int.f a1).bind fun t154 => (if t153 = true then (if t154 = true then (some 0) else (some (-1))) else (if t154 = true then (some 1) else (if a0 < a1 then (some (-1)) else (if a0 > a1 then (some 1) else (some 0))))))) = some r := h
  clear h
  replace H := Option.bind_eq_some_iff.mp H
  obtain ⟨t153, A30, H⟩ := H
  replace H : ((cmp_isNaN_int.f a1).bind fun t154 => (if t153 = true then (if t154 = true then (some 0) else (some (-1))) else (if t154 = true then (some 1) else (if a0 < a1 then (some (-1)) else (if a0 > a1 then (some 1) else (some 0)))))) = some r := H
  have A3 := Aside0.mk A30
  clear A30
  replace H := Option.bind_eq_some_iff.mp H
  obtain ⟨t154, A40, H⟩ := H
  replace H : (if t153 = true then (if t154 = true then (some 0) else (some (-1))) else (if t154 = true then (some 1) else (if a0 < a1 then (some (-1)) else (if a0 > a1 then (some 1) else (some 0))))) = some r := H
  have A4 := Aside0.mk A40
  clear A40
  by_cases c5 : t153 = true
  · subst c5
    have H1 : (if t154 = true then (some 0) else (some (-1))) = some r := by rw [if_pos rfl] at H; exact H
    clear H
    have H := H1
    clear H1
    by_cases c6 : t154 = true
    · subst c6
      have H1 : (some 0) = some r := by rw [if_pos rfl] at H; exact H
      clear H
      have H := H1
      clear H1
      obtain rfl := Option.some.inj H
      go_enter Tryd.func56, Tryd.ntmps56
      go_wp2_with (first | ((with_reducible refine gate_callee (f := 76) rfl ?_); refine goesL_ (some 8) rfl rfl Tryd.func76 (by kernel_rfl) rfl #[.int .i64 a0] rfl (by (try simp only [List.map_toArray]); (try simp only [List.map_cons]); (try simp only [List.map_nil]); first | done | rfl | (simp only [List.length_drop, List.length_take]; rfl)) ?_; (with_reducible refine (cmp_isNaN_int.calls a0 true _ A3.out).mono ?_); rintro e w' ⟨rfl, ⟨nd, rfl⟩⟩; refine ⟨_, rfl, ?_⟩) | ((with_reducible refine gate_callee (f := 76) rfl ?_); refine goesL_ (some 10) rfl rfl Tryd.func76 (by kernel_rfl) rfl #[.int .i64 a1] rfl (by (try simp only [List.map_toArray]); (try simp only [List.map_cons]); (try simp only [List.map_nil]); first | done | rfl | (simp only [List.length_drop, List.length_take]; rfl)) ?_; (with_reducible refine (cmp_isNaN_int.calls a1 true _ A4.out).mono ?_); rintro e w' ⟨rfl, ⟨nd, rfl⟩⟩; refine ⟨_, rfl, ?_⟩))
      go_ret
      exact ⟨by first | rfl | (simp; done) | (simp [*]; done) | (simp [*, Fig.bne_nil]; done), by repeat (first | exact Drawn0.refl _ | apply Drawn0.step)⟩
    · replace c6 := Bool.eq_false_iff.mpr c6
      subst c6
      have H1 : (some (-1)) = some r := by rw [if_neg (show ¬ (false = true) by decide)] at H; exact H
      clear H
      have H := H1
      clear H1
      obtain rfl := Option.some.inj H
      go_enter Tryd.func56, Tryd.ntmps56
      go_wp2_with (first | ((with_reducible refine gate_callee (f := 76) rfl ?_); refine goesL_ (some 8) rfl rfl Tryd.func76 (by kernel_rfl) rfl #[.int .i64 a0] rfl (by (try simp only [List.map_toArray]); (try simp only [List.map_cons]); (try simp only [List.map_nil]); first | done | rfl | (simp only [List.length_drop, List.length_take]; rfl)) ?_; (with_reducible refine (cmp_isNaN_int.calls a0 true _ A3.out).mono ?_); rintro e w' ⟨rfl, ⟨nd, rfl⟩⟩; refine ⟨_, rfl, ?_⟩) | ((with_reducible refine gate_callee (f := 76) rfl ?_); refine goesL_ (some 10) rfl rfl Tryd.func76 (by kernel_rfl) rfl #[.int .i64 a1] rfl (by (try simp only [List.map_toArray]); (try simp only [List.map_cons]); (try simp only [List.map_nil]); first | done | rfl | (simp only [List.length_drop, List.length_take]; rfl)) ?_; (with_reducible refine (cmp_isNaN_int.calls a1 false _ A4.out).mono ?_); rintro e w' ⟨rfl, ⟨nd, rfl⟩⟩; refine ⟨_, rfl, ?_⟩))
      go_ret
      exact ⟨by first | rfl | (simp; done) | (simp [*]; done) | (simp [*, Fig.bne_nil]; done), by repeat (first | exact Drawn0.refl _ | apply Drawn0.step)⟩
  · replace c5 := Bool.eq_false_iff.mpr c5
    subst c5
    have H1 : (if t154 = true then (some 1) else (if a0 < a1 then (some (-1)) else (if a0 > a1 then (some 1) else (some 0)))) = some r := by rw [if_neg (show ¬ (false = true) by decide)] at H; exact H
    clear H
    have H := H1
    clear H1
    by_cases c7 : t154 = true
    · subst c7
      have H1 : (some 1) = some r := by rw [if_pos rfl] at H; exact H
      clear H
      have H := H1
      clear H1
      obtain rfl := Option.some.inj H
      go_enter Tryd.func56, Tryd.ntmps56
      go_wp2_with (first | ((with_reducible refine gate_callee (f := 76) rfl ?_); refine goesL_ (some 8) rfl rfl Tryd.func76 (by kernel_rfl) rfl #[.int .i64 a0] rfl (by (try simp only [List.map_toArray]); (try simp only [List.map_cons]); (try simp only [List.map_nil]); first | done | rfl | (simp only [List.length_drop, List.length_take]; rfl)) ?_; (with_reducible refine (cmp_isNaN_int.calls a0 false _ A3.out).mono ?_); rintro e w' ⟨rfl, ⟨nd, rfl⟩⟩; refine ⟨_, rfl, ?_⟩) | ((with_reducible refine gate_callee (f := 76) rfl ?_); refine goesL_ (some 10) rfl rfl Tryd.func76 (by kernel_rfl) rfl #[.int .i64 a1] rfl (by (try simp only [List.map_toArray]); (try simp only [List.map_cons]); (try simp only [List.map_nil]); first | done | rfl | (simp only [List.length_drop, List.length_take]; rfl)) ?_; (with_reducible refine (cmp_isNaN_int.calls a1 true _ A4.out).mono ?_); rintro e w' ⟨rfl, ⟨nd, rfl⟩⟩; refine ⟨_, rfl, ?_⟩))
      go_ret
      exact ⟨by first | rfl | (simp; done) | (simp [*]; done) | (simp [*, Fig.bne_nil]; done), by repeat (first | exact Drawn0.refl _ | apply Drawn0.step)⟩
    · replace c7 := Bool.eq_false_iff.mpr c7
      subst c7
      have H1 : (if a0 < a1 then (some (-1)) else (if a0 > a1 then (some 1) else (some 0))) = some r := by rw [if_neg (show ¬ (false = true) by decide)] at H; exact H
      clear H
      have H := H1
      clear H1
      by_cases c8 : a0 < a1
      · rw [if_pos c8] at H
        have c8b0 : decide (a0 < a1) = true := decide_eq_true c8
        clear c8
        obtain rfl := Option.some.inj H
        go_enter Tryd.func56, Tryd.ntmps56
        go_wp2_with (first | ((with_reducible refine gate_callee (f := 76) rfl ?_); refine goesL_ (some 8) rfl rfl Tryd.func76 (by kernel_rfl) rfl #[.int .i64 a0] rfl (by (try simp only [List.map_toArray]); (try simp only [List.map_cons]); (try simp only [List.map_nil]); first | done | rfl | (simp only [List.length_drop, List.length_take]; rfl)) ?_; (with_reducible refine (cmp_isNaN_int.calls a0 false _ A3.out).mono ?_); rintro e w' ⟨rfl, ⟨nd, rfl⟩⟩; refine ⟨_, rfl, ?_⟩) | ((with_reducible refine gate_callee (f := 76) rfl ?_); refine goesL_ (some 10) rfl rfl Tryd.func76 (by kernel_rfl) rfl #[.int .i64 a1] rfl (by (try simp only [List.map_toArray]); (try simp only [List.map_cons]); (try simp only [List.map_nil]); first | done | rfl | (simp only [List.length_drop, List.length_take]; rfl)) ?_; (with_reducible refine (cmp_isNaN_int.calls a1 false _ A4.out).mono ?_); rintro e w' ⟨rfl, ⟨nd, rfl⟩⟩; refine ⟨_, rfl, ?_⟩))
        go_ret
        exact ⟨by first | rfl | (simp; done) | (simp [*]; done) | (simp [*, Fig.bne_nil]; done), by repeat (first | exact Drawn0.refl _ | apply Drawn0.step)⟩
      · rw [if_neg c8] at H
        have c8b0 : decide (a0 < a1) = false := decide_eq_false c8
        clear c8
        by_cases c9 : a0 > a1
        · rw [if_pos c9] at H
          have c9b0 : decide (a1 < a0) = true := decide_eq_true c9
          clear c9
          obtain rfl := Option.some.inj H
          go_enter Tryd.func56, Tryd.ntmps56
          go_wp2_with (first | ((with_reducible refine gate_callee (f := 76) rfl ?_); refine goesL_ (some 8) rfl rfl Tryd.func76 (by kernel_rfl) rfl #[.int .i64 a0] rfl (by (try simp only [List.map_toArray]); (try simp only [List.map_cons]); (try simp only [List.map_nil]); first | done | rfl | (simp only [List.length_drop, List.length_take]; rfl)) ?_; (with_reducible refine (cmp_isNaN_int.calls a0 false _ A3.out).mono ?_); rintro e w' ⟨rfl, ⟨nd, rfl⟩⟩; refine ⟨_, rfl, ?_⟩) | ((with_reducible refine gate_callee (f := 76) rfl ?_); refine goesL_ (some 10) rfl rfl Tryd.func76 (by kernel_rfl) rfl #[.int .i64 a1] rfl (by (try simp only [List.map_toArray]); (try simp only [List.map_cons]); (try simp only [List.map_nil]); first | done | rfl | (simp only [List.length_drop, List.length_take]; rfl)) ?_; (with_reducible refine (cmp_isNaN_int.calls a1 false _ A4.out).mono ?_); rintro e w' ⟨rfl, ⟨nd, rfl⟩⟩; refine ⟨_, rfl, ?_⟩))
          go_ret
          exact ⟨by first | rfl | (simp; done) | (simp [*]; done) | (simp [*, Fig.bne_nil]; done), by repeat (first | exact Drawn0.refl _ | apply Drawn0.step)⟩
        · rw [if_neg c9] at H
          have c9b0 : decide (a1 < a0) = false := decide_eq_false c9
          clear c9
          obtain rfl := Option.some.inj H
          go_enter Tryd.func56, Tryd.ntmps56
          go_wp2_with (first | ((with_reducible refine gate_callee (f := 76) rfl ?_); refine goesL_ (some 8) rfl rfl Tryd.func76 (by kernel_rfl) rfl #[.int .i64 a0] rfl (by (try simp only [List.map_toArray]); (try simp only [List.map_cons]); (try simp only [List.map_nil]); first | done | rfl | (simp only [List.length_drop, List.length_take]; rfl)) ?_; (with_reducible refine (cmp_isNaN_int.calls a0 false _ A3.out).mono ?_); rintro e w' ⟨rfl, ⟨nd, rfl⟩⟩; refine ⟨_, rfl, ?_⟩) | ((with_reducible refine gate_callee (f := 76) rfl ?_); refine goesL_ (some 10) rfl rfl Tryd.func76 (by kernel_rfl) rfl #[.int .i64 a1] rfl (by (try simp only [List.map_toArray]); (try simp only [List.map_cons]); (try simp only [List.map_nil]); first | done | rfl | (simp only [List.length_drop, List.length_take]; rfl)) ?_; (with_reducible refine (cmp_isNaN_int.calls a1 false _ A4.out).mono ?_); rintro e w' ⟨rfl, ⟨nd, rfl⟩⟩; refine ⟨_, rfl, ?_⟩))
          go_ret
          exact ⟨by first | rfl | (simp; done) | (simp [*]; done) | (simp [*, Fig.bne_nil]; done), by repeat (first | exact Drawn0.refl _ | apply Drawn0.step)⟩
end Go.Proofs.YtjpokifkbclkiaaDoor.Px
end
section
namespace Go.Proofs.YtjpokifkbclkiaaDoor.Px
open Fig Go.RowKit Go.Proofs.YtjpokifkbclkiaaDoorW.PrintWords Go.Proofs.YtjpokifkbclkiaaDoorW.PrintLast Go.Proofs.YtjpokifkbclkiaaDoorW.PrintMore
attribute [local go_sem] max2_int min2_int max_two min_two max_three min_three max_four min_four   -- for this text's walks alone
attribute [local go_sem] fieldA23_0 fieldA23_1 fieldA23_2
def cmp_isNaN_uint32.f (a0 : Int) : Option (Bool) := some (a0 != a0)
set_option maxHeartbeats 8000000 in
set_option maxRecDepth 100000 in
theorem cmp_isNaN_uint32.calls (a0 : Int) (r : Bool) (w : World) (h : cmp_isNaN_uint32.f a0 = some r) :
    Calls Tryd.prog 77 #[.int .u32 a0] w fun e w' => e = .returned (.bool r) ∧ Drawn0 w w' := by
  have H : (some (a0 != a0)) = some r := h
  clear h
  obtain rfl := Option.some.inj H
  go_enter Tryd.func77, Tryd.ntmps77
  go_wp2
  go_ret
  exact ⟨by first | rfl | (simp; done) | (simp [*]; done) | (simp [*, Fig.bne_nil]; done), by repeat (first | exact Drawn0.refl _ | apply Drawn0.step)⟩
end Go.Proofs.YtjpokifkbclkiaaDoor.Px
end
section
namespace Go.Proofs.YtjpokifkbclkiaaDoor.Px
open Fig Go.RowKit Go.Proofs.YtjpokifkbclkiaaDoorW.PrintWords Go.Proofs.YtjpokifkbclkiaaDoorW.PrintLast Go.Proofs.YtjpokifkbclkiaaDoorW.PrintMore
attribute [local go_sem] max2_int min2_int max_two min_two max_three min_three max_four min_four   -- for this text's walks alone
attribute [local go_sem] fieldA23_0 fieldA23_1 fieldA23_2
def cmp_Compare_uint32.f (a0 : Int) (a1 : Int) : Option (Int) := (cmp_isNaN_uint32.f a0).bind fun t155 => ((cmp_isNaN_uint32.f a1).bind fun t156 => (if t155 = true then (if t156 = true then (some 0) else (some (-1))) else (if t156 = true then (some 1) else (if a0 < a1 then (some (-1)) else (if a0 > a1 then (some 1) else (some 0))))))
set_option maxHeartbeats 8000000 in
set_option maxRecDepth 100000 in
theorem cmp_Compare_uint32.calls (a0 : Int) (a1 : Int) (r : Int) (w : World) (h : cmp_Compare_uint32.f a0 a1 = some r) :
    Calls Tryd.prog 57 #[.int .u32 a0, .int .u32 a1] w fun e w' => e = .returned (.int .i64 r) ∧ Drawn0 w w' := by
  have H : ((cmp_isNaN_uint32.f a0).bind fun t155 => ((cmp_isNaN_uint32.f a1).bind fun t156 => (if t155 = true then (if t156 = true then (some 0) else (some (-1))) else (if t156 = true then (some 1) else (if a0 < a1 then (some (-1)) else (if a0 > a1 then (some 1) else (some 0))))))) = some r := h
  clear h
  replace H := Option.bind_eq_some_iff.mp H
  obtain ⟨t155, A30, H⟩ := H
  replace H : ((cmp_isNaN_uint32.f a1).bind fun t156 => (if t155 = true then (if t156 = true then (some 0) else (some (-1))) else (if t156 = true then (some 1) else (if a0 < a1 then (some (-1)) else (if a0 > a1 then (some 1) else (some 0)))))) = some r := H
  have A3 := Aside0.mk A30
  clear A30
  replace H := Option.bind_eq_some_iff.mp H
  obtain ⟨t156, A40, H⟩ := H
  replace H : (if t155 = true then (if t156 = true then (some 0) else (some (-1))) else (if t156 = true then (some 1) else (if a0 < a1 then (some (-1)) else (if a0 > a1 then (some 1) else (some 0))))) = some r := H
  have A4 := Aside0.mk A40
  clear A40
  by_cases c5 : t155 = true
  · subst c5
    have H1 : (if t156 = true then (some 0) else (some (-1))) = some r := by rw [if_pos rfl] at H; exact H
    clear H
    have H := H1
    clear H1
    by_cases c6 : t156 = true
    · subst c6
      have H1 : (some 0) = some r := by rw [if_pos rfl] at H; exact H
      clear H
      have H := H1
      clear H1
      obtain rfl := Option.some.inj H
      go_enter Tryd.func57, Tryd.ntmps57
      go_wp2_with (first | ((with_reducible refine gate_callee (f := 77) rfl ?_); refine goesL_ (some 8) rfl rfl Tryd.func77 (by kernel_rfl) rfl #[.int .u32 a0] rfl (by (try simp only [List.map_toArray]); (try simp only [List.map_cons]); (try simp only [List.map_nil]); first | done | rfl | (simp only [List.length_drop, List.length_take]; rfl)) ?_; (with_reducible refine (cmp_isNaN_uint32.calls a0 true _ A3.out).mono ?_); rintro e w' ⟨rfl, ⟨nd, rfl⟩⟩; refine ⟨_, rfl, ?_⟩) | ((with_reducible refine gate_callee (f := 77) rfl ?_); refine goesL_ (some 10) rfl rfl Tryd.func77 (by kernel_rfl) rfl #[.int .u32 a1] rfl (by (try simp only [List.map_toArray]); (try simp only [List.map_cons]); (try simp only [List.map_nil]); first | done | rfl | (simp only [List.length_drop, List.length_take]; rfl)) ?_; (with_reducible refine (cmp_isNaN_uint32.calls a1 true _ A4.out).mono ?_); rintro e w' ⟨rfl, ⟨nd, rfl⟩⟩; refine ⟨_, rfl, ?_⟩))
      go_ret
      exact ⟨by first | rfl | (simp; done) | (simp [*]; done) | (simp [*, Fig.bne_nil]; done), by repeat (first | exact Drawn0.refl _ | apply Drawn0.step)⟩
    · replace c6 := Bool.eq_false_iff.mpr c6
      subst c6
      have H1 : (some (-1)) = some r := by rw [if_neg (show ¬ (false = true) by decide)] at H; exact H
      clear H
      have H := H1
      clear H1
      obtain rfl := Option.some.inj H
      go_enter Tryd.func57, Tryd.ntmps57
      go_wp2_with (first | ((with_reducible refine gate_callee (f := 77) rfl ?_); refine goesL_ (some 8) rfl rfl Tryd.func77 (by kernel_rfl) rfl #[.int .u32 a0] rfl (by (try simp only [List.map_toArray]); (try simp only [List.map_cons]); (try simp only [List.map_nil]); first | done | rfl | (simp only [List.length_drop, List.length_take]; rfl)) ?_; (with_reducible refine (cmp_isNaN_uint32.calls a0 true _ A3.out).mono ?_); rintro e w' ⟨rfl, ⟨nd, rfl⟩⟩; refine ⟨_, rfl, ?_⟩) | ((with_reducible refine gate_callee (f := 77) rfl ?_); refine goesL_ (some 10) rfl rfl Tryd.func77 (by kernel_rfl) rfl #[.int .u32 a1] rfl (by (try simp only [List.map_toArray]); (try simp only [List.map_cons]); (try simp only [List.map_nil]); first | done | rfl | (simp only [List.length_drop, List.length_take]; rfl)) ?_; (with_reducible refine (cmp_isNaN_uint32.calls a1 false _ A4.out).mono ?_); rintro e w' ⟨rfl, ⟨nd, rfl⟩⟩; refine ⟨_, rfl, ?_⟩))
      go_ret
      exact ⟨by first | rfl | (simp; done) | (simp [*]; done) | (simp [*, Fig.bne_nil]; done), by repeat (first | exact Drawn0.refl _ | apply Drawn0.step)⟩
  · replace c5 := Bool.eq_false_iff.mpr c5
    subst c5
    have H1 : (if t156 = true then (some 1) else (if a0 < a1 then (some (-1)) else (if a0 > a1 then (some 1) else (some 0)))) = some r := by rw [if_neg (show ¬ (false = true) by decide)] at H; exact H
    clear H
    have H := H1
    clear H1
    by_cases c7 : t156 = true
    · subst c7
      have H1 : (some 1) = some r := by rw [if_pos rfl] at H; exact H
      clear H
      have H := H1
      clear H1
      obtain rfl := Option.some.inj H
      go_enter Tryd.func57, Tryd.ntmps57
      go_wp2_with (first | ((with_reducible refine gate_callee (f := 77) rfl ?_); refine goesL_ (some 8) rfl rfl Tryd.func77 (by kernel_rfl) rfl #[.int .u32 a0] rfl (by (try simp only [List.map_toArray]); (try simp only [List.map_cons]); (try simp only [List.map_nil]); first | done | rfl | (simp only [List.length_drop, List.length_take]; rfl)) ?_; (with_reducible refine (cmp_isNaN_uint32.calls a0 false _ A3.out).mono ?_); rintro e w' ⟨rfl, ⟨nd, rfl⟩⟩; refine ⟨_, rfl, ?_⟩) | ((with_reducible refine gate_callee (f := 77) rfl ?_); refine goesL_ (some 10) rfl rfl Tryd.func77 (by kernel_rfl) rfl #[.int .u32 a1] rfl (by (try simp only [List.map_toArray]); (try simp only [List.map_cons]); (try simp only [List.map_nil]); first | done | rfl | (simp only [List.length_drop, List.length_take]; rfl)) ?_; (with_reducible refine (cmp_isNaN_uint32.calls a1 true _ A4.out).mono ?_); rintro e w' ⟨rfl, ⟨nd, rfl⟩⟩; refine ⟨_, rfl, ?_⟩))
      go_ret
      exact ⟨by first | rfl | (simp; done) | (simp [*]; done) | (simp [*, Fig.bne_nil]; done), by repeat (first | exact Drawn0.refl _ | apply Drawn0.step)⟩
    · replace c7 := Bool.eq_false_iff.mpr c7
      subst c7
      have H1 : (if a0 < a1 then (some (-1)) else (if a0 > a1 then (some 1) else (some 0))) = some r := by rw [if_neg (show ¬ (false = true) by decide)] at H; exact H
      clear H
      have H := H1
      clear H1
      by_cases c8 : a0 < a1
      · rw [if_pos c8] at H
        have c8b0 : decide (a0 < a1) = true := decide_eq_true c8
        clear c8
        obtain rfl := Option.some.inj H
        go_enter Tryd.func57, Tryd.ntmps57
        go_wp2_with (first | ((with_reducible refine gate_callee (f := 77) rfl ?_); refine goesL_ (some 8) rfl rfl Tryd.func77 (by kernel_rfl) rfl #[.int .u32 a0] rfl (by (try simp only [List.map_toArray]); (try simp only [List.map_cons]); (try simp only [List.map_nil]); first | done | rfl | (simp only [List.length_drop, List.length_take]; rfl)) ?_; (with_reducible refine (cmp_isNaN_uint32.calls a0 false _ A3.out).mono ?_); rintro e w' ⟨rfl, ⟨nd, rfl⟩⟩; refine ⟨_, rfl, ?_⟩) | ((with_reducible refine gate_callee (f := 77) rfl ?_); refine goesL_ (some 10) rfl rfl Tryd.func77 (by kernel_rfl) rfl #[.int .u32 a1] rfl (by (try simp only [List.map_toArray]); (try simp only [List.map_cons]); (try simp only [List.map_nil]); first | done | rfl | (simp only [List.length_drop, List.length_take]; rfl)) ?_; (with_reducible refine (cmp_isNaN_uint32.calls a1 false _ A4.out).mono ?_); rintro e w' ⟨rfl, ⟨nd, rfl⟩⟩; refine ⟨_, rfl, ?_⟩))
        go_ret
        exact ⟨by first | rfl | (simp; done) | (simp [*]; done) | (simp [*, Fig.bne_nil]; done), by repeat (first | exact Drawn0.refl _ | apply Drawn0.step)⟩
      · rw [if_neg c8] at H
        have c8b0 : decide (a0 < a1) = false := decide_eq_false c8
        clear c8
        by_cases c9 : a0 > a1
        · rw [if_pos c9] at H
          have c9b0 : decide (a1 < a0) = true := decide_eq_true c9
          clear c9
          obtain rfl := Option.some.inj H
          go_enter Tryd.func57, Tryd.ntmps57
          go_wp2_with (first | ((with_reducible refine gate_callee (f := 77) rfl ?_); refine goesL_ (some 8) rfl rfl Tryd.func77 (by kernel_rfl) rfl #[.int .u32 a0] rfl (by (try simp only [List.map_toArray]); (try simp only [List.map_cons]); (try simp only [List.map_nil]); first | done | rfl | (simp only [List.length_drop, List.length_take]; rfl)) ?_; (with_reducible refine (cmp_isNaN_uint32.calls a0 false _ A3.out).mono ?_); rintro e w' ⟨rfl, ⟨nd, rfl⟩⟩; refine ⟨_, rfl, ?_⟩) | ((with_reducible refine gate_callee (f := 77) rfl ?_); refine goesL_ (some 10) rfl rfl Tryd.func77 (by kernel_rfl) rfl #[.int .u32 a1] rfl (by (try simp only [List.map_toArray]); (try simp only [List.map_cons]); (try simp only [List.map_nil]); first | done | rfl | (simp only [List.length_drop, List.length_take]; rfl)) ?_; (with_reducible refine (cmp_isNaN_uint32.calls a1 false _ A4.out).mono ?_); rintro e w' ⟨rfl, ⟨nd, rfl⟩⟩; refine ⟨_, rfl, ?_⟩))
          go_ret
          exact ⟨by first | rfl | (simp; done) | (simp [*]; done) | (simp [*, Fig.bne_nil]; done), by repeat (first | exact Drawn0.refl _ | apply Drawn0.step)⟩
        · rw [if_neg c9] at H
          have c9b0 : decide (a1 < a0) = false := decide_eq_false c9
          clear c9
          obtain rfl := Option.some.inj H
          go_enter Tryd.func57, Tryd.ntmps57
          go_wp2_with (first | ((with_reducible refine gate_callee (f := 77) rfl ?_); refine goesL_ (some 8) rfl rfl Tryd.func77 (by kernel_rfl) rfl #[.int .u32 a0] rfl (by (try simp only [List.map_toArray]); (try simp only [List.map_cons]); (try simp only [List.map_nil]); first | done | rfl | (simp only [List.length_drop, List.length_take]; rfl)) ?_; (with_reducible refine (cmp_isNaN_uint32.calls a0 false _ A3.out).mono ?_); rintro e w' ⟨rfl, ⟨nd, rfl⟩⟩; refine ⟨_, rfl, ?_⟩) | ((with_reducible refine gate_callee (f := 77) rfl ?_); refine goesL_ (some 10) rfl rfl Tryd.func77 (by kernel_rfl) rfl #[.int .u32 a1] rfl (by (try simp only [List.map_toArray]); (try simp only [List.map_cons]); (try simp only [List.map_nil]); first | done | rfl | (simp only [List.length_drop, List.length_take]; rfl)) ?_; (with_reducible refine (cmp_isNaN_uint32.calls a1 false _ A4.out).mono ?_); rintro e w' ⟨rfl, ⟨nd, rfl⟩⟩; refine ⟨_, rfl, ?_⟩))
          go_ret
          exact ⟨by first | rfl | (simp; done) | (simp [*]; done) | (simp [*, Fig.bne_nil]; done), by repeat (first | exact Drawn0.refl _ | apply Drawn0.step)⟩
end Go.Proofs.YtjpokifkbclkiaaDoor.Px
end
section
namespace Go.Proofs.YtjpokifkbclkiaaDoor.Px
open Fig Go.RowKit Go.Proofs.YtjpokifkbclkiaaDoorW.PrintWords Go.Proofs.YtjpokifkbclkiaaDoorW.PrintLast Go.Proofs.YtjpokifkbclkiaaDoorW.PrintMore
attribute [local go_sem] max2_int min2_int max_two min_two max_three min_three max_four min_four   -- for this text's walks alone
attribute [local go_sem] fieldA23_0 fieldA23_1 fieldA23_2
set_option maxRecDepth 100000
theorem ret_num {k : IntKind} {a b : Int} (h : a = b) : Ending.returned (.int k a) = .returned (.int k b) := by rw [h]
theorem cmpi_eq (m n : Nat) : cmp_Compare_int.f (m : Int) (n : Int) = some (cmpN m n) := by
  unfold cmp_Compare_int.f cmp_isNaN_int.f cmpN
  simp only [Option.bind_some, bne_self_eq_false]
  repeat' split
  all_goals first | rfl | omega | simp_all
theorem cmpu_eq (m n : Nat) : cmp_Compare_uint32.f (m : Int) (n : Int) = some (cmpN m n) := by
  unfold cmp_Compare_uint32.f cmp_isNaN_uint32.f cmpN
  simp only [Option.bind_some, bne_self_eq_false]
  repeat' split
  all_goals first | rfl | omega | simp_all
def nat_Cmp.f (l0 : List Int) (l1 : List Int) : Option Int := cmpF l0 l1
set_option maxHeartbeats 1000000 in
theorem nat_Cmp.calls (A0 : Option Addr) (c0 : Nat) (l0 : List Int) (A1 : Option Addr) (c1 : Nat) (l1 : List Int) (r : Int) (w : World) (hr0 : Kd.C (Kd.int .u32) w A0 l0.length l0) (hc0 : l0.length ≤ c0) (hr1 : Kd.C (Kd.int .u32) w A1 l1.length l1) (hc1 : l1.length ≤ c1) (h : nat_Cmp.f l0 l1 = some r) :
    Calls Tryd.prog 33 #[.slice A0 l0.length c0, .slice A1 l1.length c1] w fun e w' => e = .returned (.int .i64 r) ∧ Drawn0 w w' := by
  unfold nat_Cmp.f cmpF at h
  by_cases hg : goodL l0 = true ∧ goodL l1 = true ∧ l0.length ≤ 1000000000000 ∧ l1.length ≤ 1000000000000
  · rw [if_pos hg] at h
    obtain rfl := Option.some.inj h
    obtain ⟨g0, g1, z0, z1⟩ := hg
    obtain ⟨k0, hk0⟩ := top_at (l := l0) (by omega)
    obtain ⟨k1, hk1⟩ := top_at (l := l1) (by omega)
    have ht0 := trimL_len l0
    have ht1 := trimL_len l1
    have hv0 := trimL_val l0
    have hv1 := trimL_val l1
    have hq0 := Fig.take_trim l0
    have hq1 := Fig.take_trim l1
    have hcl : (trimL l0).length ≠ (trimL l1).length → cmpN (valL l0) (valL l1) = cmpN (trimL l0).length (trimL l1).length := fun hne => by
      rw [← hv0, ← hv1]; exact cmp_len (trimL_good g0) (trimL_good g1) (trimL_canon l0) (trimL_canon l1) hne
    have hst : cmpN (valL l0) (valL l1) = cmpN (valL (l0.take (trimL l0).length)) (valL (l1.take (trimL l1).length)) := by rw [hq0, hq1, hv0, hv1]
    obtain ⟨n, hn⟩ : ∃ n, n = (trimL l0).length := ⟨_, rfl⟩
    obtain ⟨m, hm⟩ : ∃ m, m = (trimL l1).length := ⟨_, rfl⟩
    rw [← hn] at hk0 ht0 hcl hst
    rw [← hm] at hk1 ht1 hcl hst
    clear hn hm hq0 hq1 hv0 hv1 h
    obtain ⟨i0, hi0, _, hsz, _⟩ := info_parts info50
    obtain ⟨hcutA, _, hcA⟩ := print_take_of (P := Tryd.prog) (Value.int .u32) 0 44 50 .i64 Tryd.underlying44 hi0 hsz A0 c0 l0 (n : Int) (by omega) (by omega) hc0
    obtain ⟨hcutB, _, hcB⟩ := print_take_of (P := Tryd.prog) (Value.int .u32) 0 44 50 .i64 Tryd.underlying44 hi0 hsz A1 c1 l1 (m : Int) (by omega) (by omega) hc1
    rw [Int.toNat_natCast] at hcutA hcutB
    have Hk0 := Aside0.mk hk0
    have Hk1 := Aside0.mk hk1
    have HR0 := Aside0.mk hr0
    have HR1 := Aside0.mk hr1
    have HC0 := Aside0.mk hc0
    have HC1 := Aside0.mk hc1
    have Hcl := Aside0.mk hcl
    have Hst := Aside0.mk hst
    have G0 := Aside0.mk g0
    have G1 := Aside0.mk g1
    clear hk0 hk1 hr0 hr1 hc0 hc1 hcl hst g0 g1 hi0 hsz hcA hcB
    by_cases hnm : n = m
    · have e1 : ((n : Int) == (m : Int)) = true := by simp [hnm]
      have e2 : ((n : Int) != (m : Int)) = false := by simp [hnm]
      have e3 : (n == m) = true := by simp [hnm]
      have e4 : (n != m) = false := by simp [hnm]
      have Hnm := Aside0.mk hnm
      clear hnm
      go_enter Tryd.func33, Tryd.ntmps33
      go_wp2
      go_quiet (first | (go_at_call 55; (with_reducible refine (nat_top.calls k0 _ _ l0 (n : Int) _ ?side1 ?side2 Hk0.out).mono ?_); (case side1 => repeat (first | exact HR0.out | (with_reducible refine Kd.C_drewN ?_ _) | (with_reducible refine Kd.C_drew ?_))); (case side2 => exact HC0.out); rintro e w' ⟨rfl, ⟨nd, rfl⟩⟩; (first | exact ⟨rfl, _, World.drewN_drewN _ _ _⟩ | exact ⟨rfl, _, rfl⟩ | exact ⟨rfl, _, Eq.trans (World.drewN_drewN _ _ _) (congrArg (World.drewN _) (Nat.add_assoc _ _ _))⟩)) | (go_at_call 55; (with_reducible refine (nat_top.calls k1 _ _ l1 (m : Int) _ ?side1 ?side2 Hk1.out).mono ?_); (case side1 => repeat (first | exact HR1.out | (with_reducible refine Kd.C_drewN ?_ _) | (with_reducible refine Kd.C_drew ?_))); (case side2 => exact HC1.out); rintro e w' ⟨rfl, ⟨nd, rfl⟩⟩; (first | exact ⟨rfl, _, World.drewN_drewN _ _ _⟩ | exact ⟨rfl, _, rfl⟩ | exact ⟨rfl, _, Eq.trans (World.drewN_drewN _ _ _) (congrArg (World.drewN _) (Nat.add_assoc _ _ _))⟩)))
      go_wp2
      go_loopg [5] n (fun j v5 w' => ∃ x : Int, v5 = .int .i64 x ∧ Aside0 (x = (j : Int) - 1) ∧ Aside0 (j ≤ n) ∧ Aside0 (cmpN (valL l0) (valL l1) = cmpN (valL (l0.take j)) (valL (l1.take j))) ∧ Drawn0 w w')
      case atStart => exact ⟨(n : Int) - 1, rfl, ⟨rfl⟩, ⟨Nat.le_refl _⟩, ⟨by rw [Hst.out, ← Hnm.out]⟩, by repeat (first | exact Drawn0.refl _ | apply Drawn0.step)⟩
      case round =>
        obtain ⟨x, rfl, HX, HJ, HV, ⟨mm, rfl⟩⟩ := hrel
        cases gk with
        | zero =>
          have hx0 := HX.out
          have dx : decide (0 ≤ x) = false := decide_eq_false (by omega)
          clear hx0
          go_wp2
          go_ret
          exact ⟨ret_num (by rw [HV.out]; simp [valL, cmpN]), by repeat (first | exact Drawn0.refl _ | apply Drawn0.step)⟩
        | succ j =>
          have hx1 : 0 ≤ x := by have := HX.out; omega
          have hx2 : x < (n : Int) := by have := HX.out; have := HJ.out; omega
          have hx3 : x < (m : Int) := by have := Hnm.out; omega
          obtain ⟨ad0, ea0, hc0⟩ := Kd.at_int HR0.out x hx1 (by omega)
          obtain ⟨ad1, ea1, hc1⟩ := Kd.at_int HR1.out x hx1 (by omega)
          cases ea0
          cases ea1
          have dx : decide (0 ≤ x) = true := decide_eq_true hx1
          have xj : x = (j : Int) := by have := HX.out; omega
          have XJ := Aside0.mk xj
          have hj0 : j < l0.length := by omega
          have hj1 : j < l1.length := by omega
          have ht0 : rd l0 x = l0[j]'hj0 := by rw [xj]; exact rd_get hj0
          have ht1 : rd l1 x = l1[j]'hj1 := by rw [xj]; exact rd_get hj1
          have HT0 := Aside0.mk ht0
          have HT1 := Aside0.mk ht1
          have p0 := goodL_iff.1 G0.out _ (List.getElem_mem (l := l0) (n := j) hj0)
          have p1 := goodL_iff.1 G1.out _ (List.getElem_mem (l := l1) (n := j) hj1)
          have HP := Aside0.mk (And.intro p0 p1)
          have s0 := Fig.valL_take_succ (l := l0) (n := j) hj0
          have s1 := Fig.valL_take_succ (l := l1) (n := j) hj1
          have HS := Aside0.mk (And.intro s0 s1)
          clear xj ht0 ht1 p0 p1 s0 s1
          have px := eq_true hx1
          have q0 := eq_true hx2
          have q1 := eq_true hx3
          by_cases he : rd l0 x = rd l1 x
          · have b0 : (rd l0 x == rd l1 x) = true := by simpa using he
            have b1 : (rd l0 x != rd l1 x) = false := by simpa using he
            have HE := Aside0.mk he
            clear he
            go_wp2
            repeat (go_quiet (fail); go_wp2)
            go_roundg j
            case measure => omega
            case rel => exact ⟨x - 1, by first | rfl | simp | (simp [wrap64]; omega), ⟨by have := XJ.out; omega⟩, ⟨by have := HJ.out; omega⟩, ⟨by rw [HV.out, HS.out.1, HS.out.2]; have h1 := HT0.out; have h2 := HT1.out; have h3 := HE.out; rw [h1, h2] at h3; rw [h3]; exact (cmp_low _ _ _).symm⟩, by repeat (first | exact Drawn0.refl _ | apply Drawn0.step)⟩
          · have b0 : (rd l0 x == rd l1 x) = false := by simpa using he
            have b1 : (rd l0 x != rd l1 x) = true := by simpa using he
            have HV2 := Aside0.mk (show cmpN (rd l0 x).toNat (rd l1 x).toNat = cmpN (valL l0) (valL l1) by
              have h1 := HT0.out
              have h2 := HT1.out
              have h3 := HP.out
              rw [HV.out, HS.out.1, HS.out.2, h1, h2]
              rw [h1, h2] at he
              exact cmp_top _ _ _ _ _ (valL_take_lt G0.out j) (valL_take_lt G1.out j) (by omega))
            have HC2 := Aside0.mk (show cmp_Compare_uint32.f (rd l0 x) (rd l1 x) = some (cmpN (valL l0) (valL l1)) by
              have h1 := HT0.out
              have h2 := HT1.out
              have h3 := HP.out
              rw [← HV2.out]
              have := cmpu_eq (rd l0 x).toNat (rd l1 x).toNat
              rwa [Int.toNat_of_nonneg (by rw [h1]; exact h3.1.1), Int.toNat_of_nonneg (by rw [h2]; exact h3.2.1)] at this)
            clear he
            go_wp2
            repeat (go_quiet (first | (go_at_call 57; (with_reducible refine (cmp_Compare_uint32.calls (rd l0 x) (rd l1 x) _ _ HC2.out).mono ?_); rintro e w' ⟨rfl, ⟨nd, rfl⟩⟩; (first | exact ⟨rfl, _, World.drewN_drewN _ _ _⟩ | exact ⟨rfl, _, rfl⟩ | exact ⟨rfl, _, Eq.trans (World.drewN_drewN _ _ _) (congrArg (World.drewN _) (Nat.add_assoc _ _ _))⟩))); go_wp2)
            go_ret
            exact ⟨rfl, by repeat (first | exact Drawn0.refl _ | apply Drawn0.step)⟩
    · have e1 : ((n : Int) == (m : Int)) = false := by simp; omega
      have e2 : ((n : Int) != (m : Int)) = true := by simp; omega
      have e3 : (n == m) = false := by simpa using hnm
      have e4 : (n != m) = true := by simpa using hnm
      have HC2 := Aside0.mk (show cmp_Compare_int.f (n : Int) (m : Int) = some (cmpN (valL l0) (valL l1)) by rw [Hcl.out hnm]; exact cmpi_eq n m)
      clear hnm
      go_enter Tryd.func33, Tryd.ntmps33
      go_wp2
      go_quiet (first | (go_at_call 55; (with_reducible refine (nat_top.calls k0 _ _ l0 (n : Int) _ ?side1 ?side2 Hk0.out).mono ?_); (case side1 => repeat (first | exact HR0.out | (with_reducible refine Kd.C_drewN ?_ _) | (with_reducible refine Kd.C_drew ?_))); (case side2 => exact HC0.out); rintro e w' ⟨rfl, ⟨nd, rfl⟩⟩; (first | exact ⟨rfl, _, World.drewN_drewN _ _ _⟩ | exact ⟨rfl, _, rfl⟩ | exact ⟨rfl, _, Eq.trans (World.drewN_drewN _ _ _) (congrArg (World.drewN _) (Nat.add_assoc _ _ _))⟩)) | (go_at_call 55; (with_reducible refine (nat_top.calls k1 _ _ l1 (m : Int) _ ?side1 ?side2 Hk1.out).mono ?_); (case side1 => repeat (first | exact HR1.out | (with_reducible refine Kd.C_drewN ?_ _) | (with_reducible refine Kd.C_drew ?_))); (case side2 => exact HC1.out); rintro e w' ⟨rfl, ⟨nd, rfl⟩⟩; (first | exact ⟨rfl, _, World.drewN_drewN _ _ _⟩ | exact ⟨rfl, _, rfl⟩ | exact ⟨rfl, _, Eq.trans (World.drewN_drewN _ _ _) (congrArg (World.drewN _) (Nat.add_assoc _ _ _))⟩)))
      go_wp2_with (go_at_call 56; (with_reducible refine (cmp_Compare_int.calls (n : Int) (m : Int) _ _ HC2.out).mono ?_); rintro e w' ⟨rfl, ⟨nd, rfl⟩⟩)
      go_ret
      exact ⟨rfl, by repeat (first | exact Drawn0.refl _ | apply Drawn0.step)⟩
  · rw [if_neg hg] at h; cases h
end Go.Proofs.YtjpokifkbclkiaaDoor.Px
end
section
namespace Go.Proofs.YtjpokifkbclkiaaDoor.Px
open Fig Go.RowKit Go.Proofs.YtjpokifkbclkiaaDoorW.PrintWords Go.Proofs.YtjpokifkbclkiaaDoorW.PrintLast Go.Proofs.YtjpokifkbclkiaaDoorW.PrintMore
attribute [local go_sem] max2_int min2_int max_two min_two max_three min_three max_four min_four   -- for this text's walks alone
attribute [local go_sem] fieldA23_0 fieldA23_1 fieldA23_2
set_option maxRecDepth 100000
theorem add_digit (v a b P p cy q : Nat) (h : v + P * cy = a + b) : v + P * ((p + cy + q) % 1000000000) + P * 1000000000 * ((p + cy + q) / 1000000000) = a + P * p + (b + P * q) := by
  have e := congrArg (P * ·) (Nat.div_add_mod (p + cy + q) 1000000000)
  simp only [Nat.mul_add] at e
  rw [Nat.mul_assoc]; omega
theorem add_digit0 (v a b P p cy : Nat) (h : v + P * cy = a + b) : v + P * ((p + cy) % 1000000000) + P * 1000000000 * ((p + cy) / 1000000000) = a + P * p + b := by
  have := add_digit v a b P p cy 0 h
  simpa using this
def nat_Add.f (l0 : List Int) (l1 : List Int) : Option (List Int) := addF l0 l1
set_option maxHeartbeats 1000000 in
theorem nat_Add.calls (A0 : Option Addr) (c0 : Nat) (l0 : List Int) (A1 : Option Addr) (c1 : Nat) (l1 : List Int) (r : List Int) (w : World) (hr0 : Kd.C (Kd.int .u32) w A0 l0.length l0) (hc0 : l0.length ≤ c0) (hr1 : Kd.C (Kd.int .u32) w A1 l1.length l1) (hc1 : l1.length ≤ c1) (h : nat_Add.f l0 l1 = some r) :
    Calls Tryd.prog 34 #[.slice A0 l0.length c0, .slice A1 l1.length c1] w fun e w' => ∃ v0_ : Value, e = .returned (v0_) ∧ Kd.R (Kd.int .u32) 50 w' w.heap.size (fun _ => True) v0_ r ∧ Below w.heap.size w w' := by
  unfold nat_Add.f addF at h
  by_cases hg : goodL l0 = true ∧ goodL l1 = true ∧ l0.length ≤ 1000000000000 ∧ l1.length ≤ 1000000000000
  · rw [if_pos hg] at h
    obtain rfl := Option.some.inj h
    obtain ⟨g0, g1, z0, z1⟩ := hg
    have G0 := Aside0.mk g0
    have G1 := Aside0.mk g1
    have HR0 := Aside0.mk hr0
    have HR1 := Aside0.mk hr1
    have HC0 := Aside0.mk hc0
    have HC1 := Aside0.mk hc1
    clear g0 g1 hr0 hr1 hc0 hc1 h
    by_cases hsw : l0.length < l1.length
    · have ds : decide (l0.length < l1.length) = true := decide_eq_true hsw
      have HZ := Aside0.mk (show l0.length ≤ 1000000000000 ∧ l1.length ≤ 1000000000000 ∧ l0.length ≤ l1.length by omega)
      clear hsw
      go_enter Tryd.func34, Tryd.ntmps34
      go_wp2_with (first | ((with_reducible refine gate_dst (N := 20) rfl ?_); refine R_make_cap (k := .u32) w.heap.size 50 rfl 44 _ _ rfl (l1.length + 1) rfl (by first | rfl | simp) Tryd.underlying44 (.int .u32 0) 4 info50 (fun _ => True) trivial (by omega) (by omega) (w0 := w) (by first | exact Below.refl _ _ | exact pw_below_drewN (Below.refl _ _) _) (by first | exact Nat.le_refl _ | simp) ?_; intro v20 w20 ho20 hb20; have HO := Aside0.mk ho20; have HB := Aside0.mk hb20; clear ho20 hb20))
      go_loopg [5, 6, 23] l1.length (fun j v5 v6 v23 w' => ∃ (n cy : Nat) (o : List Int), v23 = .int .i64 (n : Int) ∧ v6 = .int .u32 (cy : Int) ∧ Aside0 (n + j = l1.length) ∧ Aside0 (cy ≤ 1 ∧ goodL o = true ∧ o.length = n ∧ valL o + 1000000000 ^ n * cy = valL (l1.take n) + valL (l0.take n)) ∧ Aside0 (Kd.R (Kd.int .u32) 50 w' w.heap.size (fun _ => True) v5 o) ∧ Aside0 (Below w.heap.size w w'))
      case atStart => exact ⟨0, 0, [], rfl, rfl, ⟨by omega⟩, ⟨by omega, rfl, rfl, by simp [valL]⟩, HO, HB⟩
      case round =>
        clear HO HB
        obtain ⟨n, cy, o, rfl, rfl, HN, HI, HO, HB⟩ := hrel
        cases gk with
        | zero =>
          have hn := HN.out
          have hd : decide (n < l1.length) = false := decide_eq_false (by omega)
          have HV := Aside0.mk (show goodL (o ++ [(cy : Int)]) = true ∧ (o ++ [(cy : Int)]).length ≤ 20000000000000 ∧ valL (o ++ [(cy : Int)]) = valL l0 + valL l1 by
            obtain ⟨i1, i2, i3, i4⟩ := HI.out
            have hz := HZ.out
            refine ⟨goodL_append.2 ⟨i2, goodL_cons.2 ⟨by omega, rfl⟩⟩, by simp; omega, ?_⟩
            rw [valL_snoc, Int.toNat_natCast, i3, i4, List.take_of_length_le (by omega), List.take_of_length_le (by omega)]; exact Nat.add_comm _ _)
          have HL := Aside0.mk (show (o.length + 1) * 4 ≤ 140737488355328 by
            have := HI.out
            have hz := HZ.out
            omega)
          obtain ⟨y, hy⟩ : ∃ y, y = o ++ [(cy : Int)] := ⟨_, rfl⟩
          rw [← hy] at HV
          have NY := Aside0.mk hy
          clear hn hy
          go_wp2_with (first
            | ((with_reducible refine gate_builtin (b := .append) (xs := #[.tmp 49, .tmp 51]) rfl ?_); at_builtin; refine Kd.R_append (Kd.int .u32) (w0 := w) w.heap.size rfl (.tmp 49) (.tmp 51) 44 50 (.int .u32 0) 4 rfl Tryd.underlying44 info50 rfl (by decide) (by omega) _ o (cy : Int) [.int .u32 (cy : Int)] (fun _ => True) (fun _ => False) rfl rfl ?aP (fun _ hk => hk.elim) ?aF ?aO ?aB ?aS ?aL ?_; (case aP => exact rfl); (case aB => exact (by repeat (first | (with_reducible first | exact HB.out | apply below_alloc | apply pw_below_drewN | apply below_drew1) | exact HB.out))); (case aF => exact (fun _ _ => trivial)); (case aO => exact (by (with_reducible repeat (first | apply Kd.R_alloc | apply Kd.R_drewN | apply Kd.R_drew)); exact HO.out)); (case aS => exact (below_size (by repeat (first | (with_reducible first | exact HB.out | apply below_alloc | apply pw_below_drewN | apply below_drew1) | exact HB.out)))); (case aL => exact HL.out); intro v49 w11 ho hb hg hat; rw [← NY.out] at ho; have n0_ := Aside0.mk hb; have n1_ := Aside0.mk ho; clear HB; clear HO; have HB := n0_; have HO := n1_; clear n0_ n1_; clear ho hb hg hat; obtain ⟨A9, c9, rfl⟩ := Kd.R_slice HO.out)
            | (go_at_call 58; (with_reducible refine (nat_Trim.calls A9 c9 y (limbs (valL l0 + valL l1)) _ ?side1 ?side2 ?side3).mono ?_); (case side1 => exact (Kd.R_reads' HO.out).2.2); (case side2 => exact (Kd.R_reads' HO.out).2.1); (case side3 => rw [← HV.out.2.2]; exact trimF_eq HV.out.1 HV.out.2.1); rintro e w12 ⟨v0, rfl, ho, hb⟩; have n0_ := Aside0.mk (Kd.R_lower ho (below_size (by repeat (first | (with_reducible first | exact HB.out | apply below_alloc | apply pw_below_drewN | apply below_drew1) | exact HB.out)))); have n1_ := Aside0.mk (below_step (by repeat (first | (with_reducible first | exact HB.out | apply below_alloc | apply pw_below_drewN | apply below_drew1) | exact HB.out)) hb); clear ho hb HB HO; have HB := n1_; have HO := n0_; clear n0_ n1_))
          go_ret
          exact ⟨_, rfl, HO.out, HB.out⟩
        | succ j =>
          have hn := HN.out
          have hnl : n < l1.length := by omega
          have hd : decide (n < l1.length) = true := decide_eq_true hnl
          obtain ⟨ad, ea, hc⟩ := Kd.at_int HR1.out (n : Int) (by omega) (by omega)
          cases ea
          rw [Int.toNat_natCast] at hc
          replace hc := (HB.out.cell (World.block_lt_of_cell? w _ hc)).trans hc
          obtain ⟨p, hp⟩ : ∃ p : Nat, rd l1 (n : Int) = (p : Int) := ⟨(rd l1 (n : Int)).toNat, by have := goodL_iff.1 G1.out _ (List.getElem_mem hnl); rw [rd_get hnl]; omega⟩
          have hp9 : p < 1000000000 := by have := goodL_iff.1 G1.out _ (List.getElem_mem hnl); rw [rd_get hnl] at hp; omega
          rw [hp] at hc
          have HNL := Aside0.mk hnl
          have HP := Aside0.mk (show (l1[n]'HNL.out).toNat = p by rw [rd_get hnl] at hp; rw [hp]; rfl)
          have HS := Aside0.mk (Fig.valL_take_succ HNL.out)
          have hcy : cy ≤ 1 := HI.out.1
          have HL := Aside0.mk (show (o.length + 1) * 4 ≤ 140737488355328 by
            have := HI.out
            have hz := HZ.out
            omega)
          have qn := eq_true hnl
          clear hp hn hnl
          by_cases hm : n < l0.length
          · have hdm : decide (n < l0.length) = true := decide_eq_true hm
            obtain ⟨ad2, ea2, hc2⟩ := Kd.at_int HR0.out (n : Int) (by omega) (by omega)
            cases ea2
            rw [Int.toNat_natCast] at hc2
            replace hc2 := (HB.out.cell (World.block_lt_of_cell? w _ hc2)).trans hc2
            obtain ⟨q, hq⟩ : ∃ q : Nat, rd l0 (n : Int) = (q : Int) := ⟨(rd l0 (n : Int)).toNat, by have := goodL_iff.1 G0.out _ (List.getElem_mem hm); rw [rd_get hm]; omega⟩
            have hq9 : q < 1000000000 := by have := goodL_iff.1 G0.out _ (List.getElem_mem hm); rw [rd_get hm] at hq; omega
            rw [hq] at hc2
            have HM := Aside0.mk hm
            have HQ := Aside0.mk (show (l0[n]'HM.out).toNat = q by rw [rd_get hm] at hq; rw [hq]; rfl)
            have HS2 := Aside0.mk (Fig.valL_take_succ HM.out)
            have qm := eq_true hm
            clear hq hm
            go_wp2_with (first
              | ((with_reducible refine gate_builtin (b := .append) (xs := #[.tmp 43, .tmp 46]) rfl ?_); at_builtin; refine Kd.R_append (Kd.int .u32) (w0 := w) w.heap.size rfl (.tmp 43) (.tmp 46) 44 50 (.int .u32 0) 4 rfl Tryd.underlying44 info50 rfl (by decide) (by omega) _ o (((p + cy + q) % 1000000000 : Nat) : Int) [.int .u32 (((p + cy + q) % 1000000000 : Nat) : Int)] (fun _ => True) (fun _ => False) rfl rfl ?aP (fun _ hk => hk.elim) ?aF ?aO ?aB ?aS ?aL ?_; (case aP => exact rfl); (case aB => exact (by repeat (first | (with_reducible first | exact HB.out | apply below_alloc | apply pw_below_drewN | apply below_drew1) | exact HB.out))); (case aF => exact (fun _ _ => trivial)); (case aO => exact (by (with_reducible repeat (first | apply Kd.R_alloc | apply Kd.R_drewN | apply Kd.R_drew)); exact HO.out)); (case aS => exact (below_size (by repeat (first | (with_reducible first | exact HB.out | apply below_alloc | apply pw_below_drewN | apply below_drew1) | exact HB.out)))); (case aL => exact HL.out); intro v49 w11 ho hb hg hat; have n0_ := Aside0.mk hb; have n1_ := Aside0.mk ho; clear HB; clear HO; have HB := n0_; have HO := n1_; clear n0_ n1_; clear ho hb hg hat))
            go_roundg j
            case measure => omega
            case rel =>
              exact ⟨n + 1, (p + cy + q) / 1000000000, _, by rw [succ64 n (by have := HN.out; have := HZ.out; omega)], by first | rfl | go_num, ⟨by have := HN.out; omega⟩, ⟨by
                obtain ⟨i1, i2, i3, i4⟩ := HI.out
                refine ⟨by omega, goodL_append.2 ⟨i2, goodL_cons.2 ⟨by omega, rfl⟩⟩, by simp [i3], ?_⟩
                rw [valL_snoc, Int.toNat_natCast, i3, Nat.pow_succ, HS.out, HS2.out, HP.out, HQ.out]
                exact add_digit _ _ _ _ _ _ _ i4⟩, HO, HB⟩
          · have hdm : decide (n < l0.length) = false := decide_eq_false hm
            have HM := Aside0.mk hm
            clear hm
            go_wp2_with (first
              | ((with_reducible refine gate_builtin (b := .append) (xs := #[.tmp 43, .tmp 46]) rfl ?_); at_builtin; refine Kd.R_append (Kd.int .u32) (w0 := w) w.heap.size rfl (.tmp 43) (.tmp 46) 44 50 (.int .u32 0) 4 rfl Tryd.underlying44 info50 rfl (by decide) (by omega) _ o (((p + cy) % 1000000000 : Nat) : Int) [.int .u32 (((p + cy) % 1000000000 : Nat) : Int)] (fun _ => True) (fun _ => False) rfl rfl ?aP (fun _ hk => hk.elim) ?aF ?aO ?aB ?aS ?aL ?_; (case aP => exact rfl); (case aB => exact (by repeat (first | (with_reducible first | exact HB.out | apply below_alloc | apply pw_below_drewN | apply below_drew1) | exact HB.out))); (case aF => exact (fun _ _ => trivial)); (case aO => exact (by (with_reducible repeat (first | apply Kd.R_alloc | apply Kd.R_drewN | apply Kd.R_drew)); exact HO.out)); (case aS => exact (below_size (by repeat (first | (with_reducible first | exact HB.out | apply below_alloc | apply pw_below_drewN | apply below_drew1) | exact HB.out)))); (case aL => exact HL.out); intro v49 w11 ho hb hg hat; have n0_ := Aside0.mk hb; have n1_ := Aside0.mk ho; clear HB; clear HO; have HB := n0_; have HO := n1_; clear n0_ n1_; clear ho hb hg hat))
            go_roundg j
            case measure => omega
            case rel =>
              exact ⟨n + 1, (p + cy) / 1000000000, _, by rw [succ64 n (by have := HN.out; have := HZ.out; omega)], by first | rfl | go_num, ⟨by have := HN.out; omega⟩, ⟨by
                obtain ⟨i1, i2, i3, i4⟩ := HI.out
                refine ⟨by omega, goodL_append.2 ⟨i2, goodL_cons.2 ⟨by omega, rfl⟩⟩, by simp [i3], ?_⟩
                have hm := HM.out
                have e1 : l0.take (n + 1) = l0.take n := by rw [List.take_of_length_le (by omega), List.take_of_length_le (by omega)]
                rw [valL_snoc, Int.toNat_natCast, i3, Nat.pow_succ, HS.out, HP.out, e1]
                exact add_digit0 _ _ _ _ _ _ i4⟩, HO, HB⟩
    · have ds : decide (l0.length < l1.length) = false := decide_eq_false hsw
      have HZ := Aside0.mk (show l0.length ≤ 1000000000000 ∧ l1.length ≤ 1000000000000 ∧ l1.length ≤ l0.length by omega)
      clear hsw
      go_enter Tryd.func34, Tryd.ntmps34
      go_wp2_with (first | ((with_reducible refine gate_dst (N := 20) rfl ?_); refine R_make_cap (k := .u32) w.heap.size 50 rfl 44 _ _ rfl (l0.length + 1) rfl (by first | rfl | simp) Tryd.underlying44 (.int .u32 0) 4 info50 (fun _ => True) trivial (by omega) (by omega) (w0 := w) (by first | exact Below.refl _ _ | exact pw_below_drewN (Below.refl _ _) _) (by first | exact Nat.le_refl _ | simp) ?_; intro v20 w20 ho20 hb20; have HO := Aside0.mk ho20; have HB := Aside0.mk hb20; clear ho20 hb20))
      go_loopg [5, 6, 23] l0.length (fun j v5 v6 v23 w' => ∃ (n cy : Nat) (o : List Int), v23 = .int .i64 (n : Int) ∧ v6 = .int .u32 (cy : Int) ∧ Aside0 (n + j = l0.length) ∧ Aside0 (cy ≤ 1 ∧ goodL o = true ∧ o.length = n ∧ valL o + 1000000000 ^ n * cy = valL (l0.take n) + valL (l1.take n)) ∧ Aside0 (Kd.R (Kd.int .u32) 50 w' w.heap.size (fun _ => True) v5 o) ∧ Aside0 (Below w.heap.size w w'))
      case atStart => exact ⟨0, 0, [], rfl, rfl, ⟨by omega⟩, ⟨by omega, rfl, rfl, by simp [valL]⟩, HO, HB⟩
      case round =>
        clear HO HB
        obtain ⟨n, cy, o, rfl, rfl, HN, HI, HO, HB⟩ := hrel
        cases gk with
        | zero =>
          have hn := HN.out
          have hd : decide (n < l0.length) = false := decide_eq_false (by omega)
          have HV := Aside0.mk (show goodL (o ++ [(cy : Int)]) = true ∧ (o ++ [(cy : Int)]).length ≤ 20000000000000 ∧ valL (o ++ [(cy : Int)]) = valL l0 + valL l1 by
            obtain ⟨i1, i2, i3, i4⟩ := HI.out
            have hz := HZ.out
            refine ⟨goodL_append.2 ⟨i2, goodL_cons.2 ⟨by omega, rfl⟩⟩, by simp; omega, ?_⟩
            rw [valL_snoc, Int.toNat_natCast, i3, i4, List.take_of_length_le (by omega), List.take_of_length_le (by omega)])
          have HL := Aside0.mk (show (o.length + 1) * 4 ≤ 140737488355328 by
            have := HI.out
            have hz := HZ.out
            omega)
          obtain ⟨y, hy⟩ : ∃ y, y = o ++ [(cy : Int)] := ⟨_, rfl⟩
          rw [← hy] at HV
          have NY := Aside0.mk hy
          clear hn hy
          go_wp2_with (first
            | ((with_reducible refine gate_builtin (b := .append) (xs := #[.tmp 49, .tmp 51]) rfl ?_); at_builtin; refine Kd.R_append (Kd.int .u32) (w0 := w) w.heap.size rfl (.tmp 49) (.tmp 51) 44 50 (.int .u32 0) 4 rfl Tryd.underlying44 info50 rfl (by decide) (by omega) _ o (cy : Int) [.int .u32 (cy : Int)] (fun _ => True) (fun _ => False) rfl rfl ?aP (fun _ hk => hk.elim) ?aF ?aO ?aB ?aS ?aL ?_; (case aP => exact rfl); (case aB => exact (by repeat (first | (with_reducible first | exact HB.out | apply below_alloc | apply pw_below_drewN | apply below_drew1) | exact HB.out))); (case aF => exact (fun _ _ => trivial)); (case aO => exact (by (with_reducible repeat (first | apply Kd.R_alloc | apply Kd.R_drewN | apply Kd.R_drew)); exact HO.out)); (case aS => exact (below_size (by repeat (first | (with_reducible first | exact HB.out | apply below_alloc | apply pw_below_drewN | apply below_drew1) | exact HB.out)))); (case aL => exact HL.out); intro v49 w11 ho hb hg hat; rw [← NY.out] at ho; have n0_ := Aside0.mk hb; have n1_ := Aside0.mk ho; clear HB; clear HO; have HB := n0_; have HO := n1_; clear n0_ n1_; clear ho hb hg hat; obtain ⟨A9, c9, rfl⟩ := Kd.R_slice HO.out)
            | (go_at_call 58; (with_reducible refine (nat_Trim.calls A9 c9 y (limbs (valL l0 + valL l1)) _ ?side1 ?side2 ?side3).mono ?_); (case side1 => exact (Kd.R_reads' HO.out).2.2); (case side2 => exact (Kd.R_reads' HO.out).2.1); (case side3 => rw [← HV.out.2.2]; exact trimF_eq HV.out.1 HV.out.2.1); rintro e w12 ⟨v0, rfl, ho, hb⟩; have n0_ := Aside0.mk (Kd.R_lower ho (below_size (by repeat (first | (with_reducible first | exact HB.out | apply below_alloc | apply pw_below_drewN | apply below_drew1) | exact HB.out)))); have n1_ := Aside0.mk (below_step (by repeat (first | (with_reducible first | exact HB.out | apply below_alloc | apply pw_below_drewN | apply below_drew1) | exact HB.out)) hb); clear ho hb HB HO; have HB := n1_; have HO := n0_; clear n0_ n1_))
          go_ret
          exact ⟨_, rfl, HO.out, HB.out⟩
        | succ j =>
          have hn := HN.out
          have hnl : n < l0.length := by omega
          have hd : decide (n < l0.length) = true := decide_eq_true hnl
          obtain ⟨ad, ea, hc⟩ := Kd.at_int HR0.out (n : Int) (by omega) (by omega)
          cases ea
          rw [Int.toNat_natCast] at hc
          replace hc := (HB.out.cell (World.block_lt_of_cell? w _ hc)).trans hc
          obtain ⟨p, hp⟩ : ∃ p : Nat, rd l0 (n : Int) = (p : Int) := ⟨(rd l0 (n : Int)).toNat, by have := goodL_iff.1 G0.out _ (List.getElem_mem hnl); rw [rd_get hnl]; omega⟩
          have hp9 : p < 1000000000 := by have := goodL_iff.1 G0.out _ (List.getElem_mem hnl); rw [rd_get hnl] at hp; omega
          rw [hp] at hc
          have HNL := Aside0.mk hnl
          have HP := Aside0.mk (show (l0[n]'HNL.out).toNat = p by rw [rd_get hnl] at hp; rw [hp]; rfl)
          have HS := Aside0.mk (Fig.valL_take_succ HNL.out)
          have hcy : cy ≤ 1 := HI.out.1
          have HL := Aside0.mk (show (o.length + 1) * 4 ≤ 140737488355328 by
            have := HI.out
            have hz := HZ.out
            omega)
          have qn := eq_true hnl
          clear hp hn hnl
          by_cases hm : n < l1.length
          · have hdm : decide (n < l1.length) = true := decide_eq_true hm
            obtain ⟨ad2, ea2, hc2⟩ := Kd.at_int HR1.out (n : Int) (by omega) (by omega)
            cases ea2
            rw [Int.toNat_natCast] at hc2
            replace hc2 := (HB.out.cell (World.block_lt_of_cell? w _ hc2)).trans hc2
            obtain ⟨q, hq⟩ : ∃ q : Nat, rd l1 (n : Int) = (q : Int) := ⟨(rd l1 (n : Int)).toNat, by have := goodL_iff.1 G1.out _ (List.getElem_mem hm); rw [rd_get hm]; omega⟩
            have hq9 : q < 1000000000 := by have := goodL_iff.1 G1.out _ (List.getElem_mem hm); rw [rd_get hm] at hq; omega
            rw [hq] at hc2
            have HM := Aside0.mk hm
            have HQ := Aside0.mk (show (l1[n]'HM.out).toNat = q by rw [rd_get hm] at hq; rw [hq]; rfl)
            have HS2 := Aside0.mk (Fig.valL_take_succ HM.out)
            have qm := eq_true hm
            clear hq hm
            go_wp2_with (first
              | ((with_reducible refine gate_builtin (b := .append) (xs := #[.tmp 43, .tmp 46]) rfl ?_); at_builtin; refine Kd.R_append (Kd.int .u32) (w0 := w) w.heap.size rfl (.tmp 43) (.tmp 46) 44 50 (.int .u32 0) 4 rfl Tryd.underlying44 info50 rfl (by decide) (by omega) _ o (((p + cy + q) % 1000000000 : Nat) : Int) [.int .u32 (((p + cy + q) % 1000000000 : Nat) : Int)] (fun _ => True) (fun _ => False) rfl rfl ?aP (fun _ hk => hk.elim) ?aF ?aO ?aB ?aS ?aL ?_; (case aP => exact rfl); (case aB => exact (by repeat (first | (with_reducible first | exact HB.out | apply below_alloc | apply pw_below_drewN | apply below_drew1) | exact HB.out))); (case aF => exact (fun _ _ => trivial)); (case aO => exact (by (with_reducible repeat (first | apply Kd.R_alloc | apply Kd.R_drewN | apply Kd.R_drew)); exact HO.out)); (case aS => exact (below_size (by repeat (first | (with_reducible first | exact HB.out | apply below_alloc | apply pw_below_drewN | apply below_drew1) | exact HB.out)))); (case aL => exact HL.out); intro v49 w11 ho hb hg hat; have n0_ := Aside0.mk hb; have n1_ := Aside0.mk ho; clear HB; clear HO; have HB := n0_; have HO := n1_; clear n0_ n1_; clear ho hb hg hat))
            go_roundg j
            case measure => omega
            case rel =>
              exact ⟨n + 1, (p + cy + q) / 1000000000, _, by rw [succ64 n (by have := HN.out; have := HZ.out; omega)], by first | rfl | go_num, ⟨by have := HN.out; omega⟩, ⟨by
                obtain ⟨i1, i2, i3, i4⟩ := HI.out
                refine ⟨by omega, goodL_append.2 ⟨i2, goodL_cons.2 ⟨by omega, rfl⟩⟩, by simp [i3], ?_⟩
                rw [valL_snoc, Int.toNat_natCast, i3, Nat.pow_succ, HS.out, HS2.out, HP.out, HQ.out]
                exact add_digit _ _ _ _ _ _ _ i4⟩, HO, HB⟩
          · have hdm : decide (n < l1.length) = false := decide_eq_false hm
            have HM := Aside0.mk hm
            clear hm
            go_wp2_with (first
              | ((with_reducible refine gate_builtin (b := .append) (xs := #[.tmp 43, .tmp 46]) rfl ?_); at_builtin; refine Kd.R_append (Kd.int .u32) (w0 := w) w.heap.size rfl (.tmp 43) (.tmp 46) 44 50 (.int .u32 0) 4 rfl Tryd.underlying44 info50 rfl (by decide) (by omega) _ o (((p + cy) % 1000000000 : Nat) : Int) [.int .u32 (((p + cy) % 1000000000 : Nat) : Int)] (fun _ => True) (fun _ => False) rfl rfl ?aP (fun _ hk => hk.elim) ?aF ?aO ?aB ?aS ?aL ?_; (case aP => exact rfl); (case aB => exact (by repeat (first | (with_reducible first | exact HB.out | apply below_alloc | apply pw_below_drewN | apply below_drew1) | exact HB.out))); (case aF => exact (fun _ _ => trivial)); (case aO => exact (by (with_reducible repeat (first | apply Kd.R_alloc | apply Kd.R_drewN | apply Kd.R_drew)); exact HO.out)); (case aS => exact (below_size (by repeat (first | (with_reducible first | exact HB.out | apply below_alloc | apply pw_below_drewN | apply below_drew1) | exact HB.out)))); (case aL => exact HL.out); intro v49 w11 ho hb hg hat; have n0_ := Aside0.mk hb; have n1_ := Aside0.mk ho; clear HB; clear HO; have HB := n0_; have HO := n1_; clear n0_ n1_; clear ho hb hg hat))
            go_roundg j
            case measure => omega
            case rel =>
              exact ⟨n + 1, (p + cy) / 1000000000, _, by rw [succ64 n (by have := HN.out; have := HZ.out; omega)], by first | rfl | go_num, ⟨by have := HN.out; omega⟩, ⟨by
                obtain ⟨i1, i2, i3, i4⟩ := HI.out
                refine ⟨by omega, goodL_append.2 ⟨i2, goodL_cons.2 ⟨by omega, rfl⟩⟩, by simp [i3], ?_⟩
                have hm := HM.out
                have e1 : l1.take (n + 1) = l1.take n := by rw [List.take_of_length_le (by omega), List.take_of_length_le (by omega)]
                rw [valL_snoc, Int.toNat_natCast, i3, Nat.pow_succ, HS.out, HP.out, e1]
                exact add_digit0 _ _ _ _ _ _ i4⟩, HO, HB⟩
  · rw [if_neg hg] at h; cases h
end Go.Proofs.YtjpokifkbclkiaaDoor.Px
end
section
namespace Go.Proofs.YtjpokifkbclkiaaDoor.Px
open Fig Go.RowKit Go.Proofs.YtjpokifkbclkiaaDoorW.PrintWords Go.Proofs.YtjpokifkbclkiaaDoorW.PrintLast Go.Proofs.YtjpokifkbclkiaaDoorW.PrintMore
attribute [local go_sem] max2_int min2_int max_two min_two max_three min_three max_four min_four   -- for this text's walks alone
attribute [local go_sem] fieldA23_0 fieldA23_1 fieldA23_2
set_option maxRecDepth 100000
def awayB (m : Int) (neg odd : Bool) (half : Int) : Bool :=
  if m = 0 then !neg else if m = 1 then neg else if m = 2 then true else if m = 3 then false else if m = 4 then decide (0 < half) || (half == 0 && odd) else if m = 5 then decide (0 ≤ half) else if m = 6 then decide (0 < half) else false
def mode_Away.f (m : Int) (neg odd : Bool) (half : Int) : Option Bool := some (awayB m neg odd half)
set_option maxHeartbeats 4000000 in
theorem mode_Away.calls (m : Int) (neg odd : Bool) (half : Int) (r : Bool) (w : World) (hG : Fig.Glob w) (h : mode_Away.f m neg odd half = some r) :
    Calls Tryd.prog 36 #[.int .i64 m, .bool neg, .bool odd, .int .i64 half] w fun e w' => e = .returned (.bool r) ∧ Drawn0 w w' := by
  obtain rfl := Option.some.inj h
  clear h
  have h0 := hG.ways 0 _ rfl
  have h1 := hG.ways 1 _ rfl
  have h2 := hG.ways 2 _ rfl
  have h3 := hG.ways 3 _ rfl
  have h4 := hG.ways 4 _ rfl
  have h5 := hG.ways 5 _ rfl
  have h6 := hG.ways 6 _ rfl
  have h7 := hG.ways 7 _ rfl
  clear hG
  by_cases hm : 0 ≤ m ∧ m < 8
  · obtain ⟨k, rfl⟩ : ∃ k : Nat, m = k := ⟨m.toNat, by omega⟩
    have hk : k < 8 := by omega
    clear hm
    match k, hk with
    | 0, _ =>
      clear h1 h2 h3 h4 h5 h6 h7
      go_enter Tryd.func36, Tryd.ntmps36
      go_wp2
      go_ret
      exact ⟨by simp [awayB], Drawn0.refl _⟩
    | 1, _ =>
      clear h0 h2 h3 h4 h5 h6 h7
      go_enter Tryd.func36, Tryd.ntmps36
      go_wp2
      go_ret
      exact ⟨by simp [awayB], Drawn0.refl _⟩
    | 2, _ =>
      clear h0 h1 h3 h4 h5 h6 h7
      go_enter Tryd.func36, Tryd.ntmps36
      go_wp2
      go_ret
      exact ⟨by simp [awayB], Drawn0.refl _⟩
    | 3, _ =>
      clear h0 h1 h2 h4 h5 h6 h7
      go_enter Tryd.func36, Tryd.ntmps36
      go_wp2
      go_ret
      exact ⟨by simp [awayB], Drawn0.refl _⟩
    | 4, _ =>
      clear h0 h1 h2 h3 h5 h6 h7
      by_cases hp : 0 < half
      · have d1 : decide (0 < half) = true := decide_eq_true hp
        go_enter Tryd.func36, Tryd.ntmps36
        go_wp2
        go_ret
        exact ⟨by simp [awayB, hp], Drawn0.refl _⟩
      · have d1 : decide (0 < half) = false := decide_eq_false hp
        by_cases hz : half = 0
        · have d2 : (half == 0) = true := by simp [hz]
          go_enter Tryd.func36, Tryd.ntmps36
          go_wp2
          go_ret
          exact ⟨by simp [awayB, hz], Drawn0.refl _⟩
        · have d2 : (half == 0) = false := by simp [hz]
          go_enter Tryd.func36, Tryd.ntmps36
          go_wp2
          go_ret
          exact ⟨by simp [awayB, hp, hz], Drawn0.refl _⟩
    | 5, _ =>
      clear h0 h1 h2 h3 h4 h6 h7
      go_enter Tryd.func36, Tryd.ntmps36
      go_wp2
      go_ret
      exact ⟨by simp [awayB], Drawn0.refl _⟩
    | 6, _ =>
      clear h0 h1 h2 h3 h4 h5 h7
      go_enter Tryd.func36, Tryd.ntmps36
      go_wp2
      go_ret
      exact ⟨by simp [awayB], Drawn0.refl _⟩
    | 7, _ =>
      clear h0 h1 h2 h3 h4 h5 h6
      go_enter Tryd.func36, Tryd.ntmps36
      go_wp2
      go_ret
      exact ⟨by simp [awayB], Drawn0.refl _⟩
    | n + 8, hk => exact absurd hk (by omega)
  · clear h0 h1 h2 h3 h4 h5 h6 h7
    have hz : awayB m neg odd half = false := by unfold awayB; repeat (rw [if_neg (by omega)])
    rw [hz]
    by_cases h0 : 0 ≤ m
    · have d1 : decide (0 ≤ m) = true := decide_eq_true h0
      have d2 : decide (m < 8) = false := decide_eq_false (by omega)
      go_enter Tryd.func36, Tryd.ntmps36
      go_wp2
      go_ret
      exact ⟨rfl, Drawn0.refl _⟩
    · have d1 : decide (0 ≤ m) = false := decide_eq_false h0
      go_enter Tryd.func36, Tryd.ntmps36
      go_wp2
      go_ret
      exact ⟨rfl, Drawn0.refl _⟩
end Go.Proofs.YtjpokifkbclkiaaDoor.Px
end
section
namespace Go.Proofs.YtjpokifkbclkiaaDoor.Px
open Fig Go.RowKit Go.Proofs.YtjpokifkbclkiaaDoorW.PrintWords Go.Proofs.YtjpokifkbclkiaaDoorW.PrintLast Go.Proofs.YtjpokifkbclkiaaDoorW.PrintMore
attribute [local go_sem] max2_int min2_int max_two min_two max_three min_three max_four min_four   -- for this text's walks alone
attribute [local go_sem] fieldA23_0 fieldA23_1 fieldA23_2
set_option maxRecDepth 100000
def lowL (n : Nat) : Nat → List Int
  | 0 => []
  | k + 1 => ((48 + n / 10 ^ k % 10 : Nat) : Int) :: lowL n k
theorem lowL_len (n : Nat) : ∀ k, (lowL n k).length = k
  | 0 => rfl
  | k + 1 => by rw [lowL, List.length_cons, lowL_len n k]
def rowL (n k : Nat) : List Int := List.replicate (9 - k) 0 ++ lowL n k
theorem rowL_len (n k : Nat) (hk : k ≤ 9) : (rowL n k).length = 9 := by rw [rowL, List.length_append, List.length_replicate, lowL_len]; omega
theorem rowL_set (n k : Nat) (hk : k < 9) : (rowL n k).set (8 - k) ((48 + n / 10 ^ k % 10 : Nat) : Int) = rowL n (k + 1) := by
  unfold rowL
  rw [show 9 - k = (8 - k) + 1 by omega, show 9 - (k + 1) = 8 - k by omega, List.replicate_succ', List.append_assoc, List.set_append_right _ _ (by simp), List.length_replicate, Nat.sub_self]
  rfl
set_option maxHeartbeats 4000000 in
theorem ten_limb.calls (n : Nat) (hn : n < 4294967296) (w : World) :
    Calls Tryd.prog 62 #[.int .u32 (n : Int)] w fun e w' => e = .returned (.string (strOfNums (lowL n 9))) ∧ Below w.heap.size w w' := by
  go_enter Tryd.func62, Tryd.ntmps62
  go_wp2
  go_loopg [0, 5] 9 (fun j v0 v5 w' => ∃ k : Nat, v5 = .int .i64 (k : Int) ∧ Aside0 (k + j = 9) ∧ (∃ p : Nat, v0 = .int .u32 (p : Int) ∧ Aside0 (p = n / 10 ^ k)) ∧ Aside0 (w' = w.alloc (.cells ((rowL n k).map (Value.int .u8)).toArray 104)))
  case atStart => exact ⟨0, rfl, ⟨rfl⟩, ⟨n, rfl, ⟨by simp⟩⟩, ⟨rfl⟩⟩
  case round =>
    obtain ⟨k, rfl, HN, ⟨p, rfl, HP⟩, HW⟩ := hrel
    have hw := HW.out
    subst hw
    cases gk with
    | zero =>
      obtain rfl : k = 9 := by have := HN.out; omega
      have hcv := run_convert_bytes_arg (P := Tryd.prog) (w.alloc (.cells ((rowL n 9).map (Value.int .u8)).toArray 104)) 75 5 Tryd.underlying75 Tryd.underlying5 w.heap.size 0 9 9 (rowL n 9) (rowL_len n 9 (by omega)) (fun i hi => by
        have hl := rowL_len n 9 (Nat.le_refl _)
        generalize rowL n 9 = o at hl
        rw [Nat.zero_add]
        unfold World.cell? World.alloc
        simp [List.getD, List.getElem?_eq_getElem (show i < o.length by omega)]) 9 Tryd.underlying9
      have HR := Aside0.mk (show rowL n 9 = lowL n 9 by simp [rowL])
      rw [HR.out] at hcv ⊢
      go_wp2
      go_ret
      exact ⟨rfl, (Below.refl _ w).alloc (Nat.le_refl _) _⟩
    | succ j =>
      have hk : k < 9 := by have := HN.out; omega
      have hg : (rowL n k)[8 - k]? = some 0 := by
        unfold rowL; rw [List.getElem?_append_left (by rw [List.length_replicate]; omega), List.getElem?_replicate, if_pos (by omega)]
      have HS := Aside0.mk (rowL_set n k hk)
      have e1 : wrap64 (8 - (k : Int)) = ((8 - k : Nat) : Int) := by rw [w64 (by omega) (by omega)]; omega
      have e2 : decide ((k : Int) < 9) = true := decide_eq_true (by omega)
      have HPN := Aside0.mk (show p < 4294967296 by have := HP.out; have := Nat.div_le_self n (10 ^ k); omega)
      have HK := Aside0.mk hk
      go_wp2
      go_roundg j
      case measure => omega
      case rel =>
        have hp := HP.out
        have hpn := HPN.out
        have hk := HK.out
        refine ⟨k + 1, ?_, ⟨by have := HN.out; omega⟩, ⟨p / 10, ?_, ⟨by rw [hp, Nat.pow_succ, Nat.div_div_eq_div_mul]⟩⟩, ⟨?_⟩⟩
        · rfl
        · rw [Int.emod_eq_of_lt (by omega) (by omega)]; rfl
        · rw [← HS.out, ← hp, List.map_set]; rfl
end Go.Proofs.YtjpokifkbclkiaaDoor.Px
end
section
namespace Go.Proofs.YtjpokifkbclkiaaDoor.Px
open Fig Go.RowKit Go.Proofs.YtjpokifkbclkiaaDoorW.PrintWords Go.Proofs.YtjpokifkbclkiaaDoorW.PrintLast Go.Proofs.YtjpokifkbclkiaaDoorW.PrintMore
attribute [local go_sem] max2_int min2_int max_two min_two max_three min_three max_four min_four   -- for this text's walks alone
attribute [local go_sem] fieldA23_0 fieldA23_1 fieldA23_2
set_option maxRecDepth 100000
theorem cc_used (b : Nat) (w : World) (h0 : w.cell? ⟨b, 0, none⟩ = some (.pointer (some ⟨b, 0, none⟩))) :
    Calls Tryd.prog 80 #[.pointer (some ⟨b, 0, none⟩)] w fun e w' => e = .returned (.tuple #[]) ∧ w' = w := by
  obtain ⟨j, hj, _⟩ := Option.map_eq_some_iff.1 (show (Tryd.prog.info? 77).map (·.size) = some 2 by kernel_rfl)
  go_enter Tryd.func80, Tryd.ntmps80
  go_wp2
  rw [Lib.run_neq_ptr_same w _ Tryd.underlying74 hj]
  go_wp2
  go_end0
  exact ⟨rfl, rfl⟩
theorem cc_fresh (b : Nat) (w : World) (h0 : w.cell? ⟨b, 0, none⟩ = some (.pointer none)) (hsh : w.shape? b = some (77, 2)) (hfz : w.frozen? ⟨b, 0, none⟩ = false) :
    Calls Tryd.prog 80 #[.pointer (some ⟨b, 0, none⟩)] w fun e w' => e = .returned (.tuple #[]) ∧ w' = w.setCell ⟨b, 0, none⟩ (.pointer (some ⟨b, 0, none⟩)) := by
  obtain ⟨j, hj, hjs⟩ := Option.map_eq_some_iff.1 (show (Tryd.prog.info? 77).map (·.size) = some 2 by kernel_rfl)
  go_enter Tryd.func80, Tryd.ntmps80
  go_wp2
  rw [Lib.run_to_unsafe w ⟨b, 0, none⟩ Tryd.underlying74 Tryd.underlying111 hj (by rw [hjs]; decide) hsh (Nat.zero_lt_succ 1)]
  simp only [Result.andThen]
  rw [Oper.upon_value]
  go_wp2
  rw [run_callFunc_extern Tryd.func85 (by kernel_rfl) (by kernel_rfl) (by kernel_rfl) (e := Extern.AbiNoEscape.same) (by kernel_rfl)]
  rw [Lib.run_noEscape]
  simp only [Result.andThen]
  rw [Oper.upon_value]
  go_wp2
  rw [Lib.run_from_unsafe w ⟨b, 0, none⟩ Tryd.underlying111 Tryd.underlying74 hj hsh (by kernel_rfl)]
  simp only [Result.andThen]
  rw [Oper.upon_value]
  go_wp2
  go_end0
  exact ⟨rfl, rfl⟩
theorem cc (B b : Nat) (bs : List Value) (w : World) (h : Lib.IsBuilderF 77 5 B b bs w) :
    Calls Tryd.prog 80 #[.pointer (some ⟨b, 0, none⟩)] w fun e w' => e = .returned (.tuple #[]) ∧ Lib.BuilderAtF 77 5 B b (.pointer (some ⟨b, 0, none⟩)) bs w' ∧ Below B w w' ∧ Lib.OthersKept 5 (some b) w w' := by
  rcases h with h | h
  · refine (cc_fresh b w h.cell0 h.shape h.frozen0).mono ?_
    rintro e w' ⟨rfl, rfl⟩
    exact ⟨rfl, h.used _, (Below.refl B w).setCell (p := ⟨b, 0, none⟩) h.1 _, (Lib.OthersKept.refl _ _ w).setCell ⟨b, 0, none⟩ rfl _⟩
  · refine (cc_used b w h.cell0).mono ?_
    rintro e w' ⟨rfl, rfl⟩
    exact ⟨rfl, h, Below.refl B _, Lib.OthersKept.refl _ _ _⟩
set_option maxHeartbeats 2000000 in
theorem strings_WriteString.calls (B b : Nat) (bs : List Value) (s : ByteArray) (w : World) (h : Lib.IsBuilderF 77 5 B b bs w) (hlen : bs.length + s.size ≤ 140737488355328) (hBw : B ≤ w.heap.size) :
    Calls Tryd.prog 61 #[.pointer (some ⟨b, 0, none⟩), .string s] w fun e w' => e = .returned (.tuple #[.int .i64 s.size, .nilIface]) ∧ Lib.BuilderAtF 77 5 B b (.pointer (some ⟨b, 0, none⟩)) (bs ++ Lib.strCells s) w' ∧ Below B w w' ∧ Lib.OthersKept 5 (some b) w w' := by
  obtain ⟨i0, hi, hz0, hz1, hz2⟩ := info_parts (show (Tryd.prog.info? 5).map (fun i => (i.zero, i.size, i.bytes)) = some (some (.int .u8 0), 1, 1) by kernel_rfl)
  go_enter Tryd.func61, Tryd.ntmps61
  go_wp2_with (go_at_call 80; refine (cc B b bs _ h).mono ?_)
  rintro e w1 ⟨rfl, h1, hb1, hk1⟩
  obtain ⟨hB, v, hbk, hown, hne⟩ := h1
  have c0 : w1.cell? ⟨b, 0, none⟩ = some (.pointer (some ⟨b, 0, none⟩)) := by rw [Lib.cell_of_heap hbk]; rfl
  have c1 : w1.cell? ⟨b, 1, none⟩ = some v := by rw [Lib.cell_of_heap hbk]; rfl
  go_wp2_with (at_builtin; refine Lib.wpList_append_own_stringF _ rfl _ _ 75 9 rfl B 5 i0 Tryd.underlying75 Tryd.underlying9 hi hz0 hz1 hz2 _ _ _ rfl hown s rfl ?c3 ?c4 ?c5 ?_)
  case c3 => unfold maxLen; omega
  case c4 => omega
  case c5 => have := hb1.size; omega
  intro v' w2 hown' hgrow _
  have hlt : b < w1.heap.size := by
    rcases Nat.lt_or_ge b w1.heap.size with h' | h'
    · exact h'
    · simp [Array.getElem?_eq_none h'] at hbk
  have hb2 : w2.heap[b]? = some (.cells #[.pointer (some ⟨b, 0, none⟩), v] 77 (0, 0)) := by
    rw [hgrow.block b hlt (fun e => hne e.symm)]
    exact hbk
  have d0 : w2.cell? ⟨b, 0, none⟩ = some (.pointer (some ⟨b, 0, none⟩)) := by rw [Lib.cell_of_heap hb2]; rfl
  have d1 : w2.cell? ⟨b, 1, none⟩ = some v := by rw [Lib.cell_of_heap hb2]; rfl
  have f1 : w2.frozen? ⟨b, 1, none⟩ = false := Lib.frozen_of_heap hb2 1
  obtain ⟨ao, n', cap, rfl⟩ : ∃ ao n' cap, v' = .slice ao n' cap := by
    rcases hown'.2 with ⟨hv, _⟩ | ⟨g, cap, cur, fz, hv, _⟩
    · exact ⟨_, _, _, hv⟩
    · exact ⟨_, _, _, hv⟩
  go_wp2
  go_ret2
  refine ⟨rfl, ?_, ?_, (hk1.grown hgrow (Lib.ownsRowF_kind hown)).setCell ⟨b, 1, none⟩ rfl _⟩
  · exact Lib.BuilderAtF.put (T := 77) (e := 5) hB hb2 (bs' := bs ++ Lib.strCells s) (by simpa [Lib.strCells_length] using hown') (by decide)
  · exact (hb1.grown hgrow (by have := hb1.size; omega) (fun k hk => (hown.lt k hk).1)).setCell (p := ⟨b, 1, none⟩) hB _
abbrev U32 := { n : Nat // n < 4294967296 }
def toU (x : Int) : U32 := ⟨x.toNat % 4294967296, Nat.mod_lt _ (by decide)⟩
theorem toU_val {x : Int} (h : 0 ≤ x ∧ x < 4294967296) : ((toU x).1 : Int) = x := by
  unfold toU; show ((x.toNat % 4294967296 : Nat) : Int) = x; omega
def bk (zs : List Int) (m : Nat) : List (Nat × U32) := (List.range m).map fun j => (zs.length - 1 - j, toU (rd zs ((zs.length - 1 - j : Nat) : Int)))
theorem bk_succ (zs : List Int) (m : Nat) : bk zs (m + 1) = bk zs m ++ [(zs.length - 1 - m, toU (rd zs ((zs.length - 1 - m : Nat) : Int)))] := by simp [bk, List.range_succ]
theorem bk_len (zs : List Int) (m : Nat) : (bk zs m).length = m := by simp [bk]
def KpD (n₀ Bs : Nat) (W W' : World) : Prop := Below n₀ W W' ∧ (∀ cs fz, W.heap[Bs]? = some (.cells cs 44 fz) → W'.heap[Bs]? = some (.cells cs 44 fz))
theorem KpD.trans {n₀ Bs : Nat} {A B C : World} (h : KpD n₀ Bs A B) (k : KpD n₀ Bs B C) : KpD n₀ Bs A C := ⟨h.1.trans k.1, fun cs fz e => k.2 cs fz (h.2 cs fz e)⟩
section
attribute [local go_sem] Oper.semAt_some
set_option maxRecDepth 100000 in
set_option maxHeartbeats 2000000 in
theorem back1_in (F : Fence) (n : Nat) (h32 : F.fn 79) (hro : F.round = none) (hn : 1 ≤ n) (l Bs : Nat) (A : Option Addr) (c : Nat) (zs : List Int) (hz : ∀ x ∈ zs, 0 ≤ x ∧ x < 4294967296) (hlen : zs.length ≤ 1000000) (w : World) (hr : Kd.C (Kd.int .u32) w A zs.length zs)
    (J Jx : List (Nat × U32) → World → Prop)
    (hY : ∀ pre x W, J pre W → pre.length < zs.length → YieldAt F (n - 1) Tryd.prog l #[.int .i64 (x.1 : Int), .int .u32 (x.2.1 : Int)] W fun e W' =>
      (e = .returned (.bool true) ∧ J (pre ++ [x]) W' ∧ KpD w.heap.size Bs W W') ∨ (e = .returned (.bool false) ∧ Jx (pre ++ [x]) W'))
    (W : World) (hW : Below w.heap.size w W) (hBs : W.heap[Bs]? = some (.cells #[.slice A zs.length c] 44 (0, 0))) (h0 : J [] W) :
    CallsIn F n Tryd.prog 79 #[.func (.yield l) #[] #[], .pointer (some ⟨Bs, 0, none⟩)] W fun e W' => (∃ v, e = .returned v) ∧
      ((∃ ys, ys = bk zs zs.length ∧ J ys W') ∨ (∃ pre, (∃ k, k ≤ zs.length ∧ pre = bk zs k) ∧ Jx pre W')) := by
  have hb0 : W.cell? ⟨Bs, 0, none⟩ = some (.slice A zs.length c) := Lib.cell_of_heap hBs 0
  have HB := Aside0.mk hBs
  have HW := Aside0.mk hW
  clear hBs hW
  have HR := Aside0.mk hr
  have HZ := Aside0.mk hz
  clear hr hz
  refine callsIn_of_wp Tryd.func79 rfl h32 ?_ hro
  simp only [Tryd.ntmps79, List.size_toArray, List.length_cons, List.length_nil, Nat.reduceAdd, Nat.reduceSub, Array.replicate_succ, Array.replicate_zero, List.push_toArray, List.append_toArray, List.nil_append, List.cons_append]
  have e0 : wrap64 ((zs.length : Int) - 1) = (zs.length : Int) - 1 := by rw [w64 (by omega) (by omega)]
  gi_wp2
  gi_loopw [3] (fun i wr => ∃ q m : Nat, i = .int .i64 ((q : Int) - 1) ∧ Aside0 (q + m = zs.length) ∧ Aside0 (J (bk zs m) wr) ∧ Aside0 (KpD w.heap.size Bs W wr))
    (fun i _ => (intOf i + 1).toNat)
  case atStart => exact ⟨zs.length, 0, rfl, ⟨rfl⟩, ⟨h0⟩, ⟨Below.refl _ _, fun _ _ e => e⟩⟩
  case round =>
    obtain ⟨q, m, rfl, HQ, HJ, HK⟩ := hrel
    have hcb : wr.cell? ⟨Bs, 0, none⟩ = some (.slice A zs.length c) := Lib.cell_of_heap (HK.out.2 _ _ HB.out) 0
    clear hb0 h0
    cases q with
    | zero =>
      have e1 : (((0 : Nat) : Int) - 1) = -1 := rfl
      rw [e1]
      obtain rfl : m = zs.length := by have := HQ.out; omega
      gi_wp2
      go_end0
      exact ⟨⟨_, rfl⟩, .inl ⟨_, rfl, HJ.out⟩⟩
    | succ p =>
      have e1 : (((p + 1 : Nat) : Int) - 1) = (p : Int) := by omega
      rw [e1]
      have hp : p < zs.length := by have := HQ.out; omega
      obtain ⟨ad, ea, hc⟩ := Kd.at_int HR.out (p : Int) (by omega) (by omega)
      subst ea
      rw [Int.toNat_natCast] at hc
      have hc2 := (HW.out.trans HK.out.1).cell (World.block_lt_of_cell? w _ hc) |>.trans hc
      have hx : zs.length - 1 - m = p := by have := HQ.out; omega
      have hv : ((toU (rd zs (p : Int))).1 : Int) = rd zs (p : Int) := toU_val (by rw [rd_get hp]; exact HZ.out _ (List.getElem_mem hp))
      obtain ⟨fn, tmps, assign, body, hy, hR⟩ := hY _ (p, toU (rd zs (p : Int))) wr HJ.out (by rw [bk_len]; have := HQ.out; omega)
      dsimp only at hy
      rw [hv] at hy
      have hd : decide (p < zs.length) = true := decide_eq_true hp
      have qn := eq_true hp
      clear hc hv hp
      gi_wp2
      refine hR.mono ?_
      rintro e W3 (⟨rfl, hJ3, hk3⟩ | ⟨rfl, hJx3⟩)
      · have HJ3 := Aside0.mk hJ3
        have HK3 := Aside0.mk hk3
        clear hJ3 hk3 hR hy
        gi_wp2
        go_roundw
        case rel =>
          refine ⟨p, m + 1, rfl, ⟨by have := HQ.out; omega⟩, ⟨?_⟩, ⟨HK.out.trans HK3.out⟩⟩
          rw [bk_succ, hx]; exact HJ3.out
        case measure => simp only [intOf]; omega
      · have HJ3 := Aside0.mk hJx3
        clear hJx3 hR hy
        gi_wp2
        refine bodyPost_ret (results_none rfl _ _ _) rfl ?_
        exact ⟨⟨_, rfl⟩, .inr ⟨_, ⟨m + 1, by have := HQ.out; omega, rfl⟩, by rw [bk_succ, hx]; exact HJ3.out⟩⟩
set_option maxHeartbeats 1000000 in
theorem back_in (F : Fence) (n : Nat) (h23 : F.fn 60) (hro : F.round = none) (a : Option Addr) (len cap : Nat) (w : World) :
    CallsIn F n Tryd.prog 60 #[.slice a len cap] w fun e w' => e = .returned (.func (.func 79) #[] #[.pointer (some ⟨w.heap.size, 0, none⟩)]) ∧ w' = w.alloc (.cells #[.slice a len cap] 44) := by
  refine callsIn_of_wp Tryd.func60 rfl h23 ?_ hro
  simp only [Tryd.ntmps60, List.size_toArray, List.length_cons, List.length_nil, Nat.reduceAdd, Nat.reduceSub, Array.replicate_succ, Array.replicate_zero, List.push_toArray, List.append_toArray, List.nil_append, List.cons_append]
  gi_wp2
  go_ret
  exact ⟨rfl, rfl⟩
theorem back_stops (F : Fence) (n : Nat) (h32 : F.fn 79) (hro : F.round = none) (hn : 1 ≤ n) (Bs : Nat) (A : Option Addr) (c : Nat) (zs : List Int) (hz : ∀ x ∈ zs, 0 ≤ x ∧ x < 4294967296) (hlen : zs.length ≤ 1000000) (w : World) (hr : Kd.C (Kd.int .u32) w A zs.length zs)
    (W0 : World) (hW0 : Below w.heap.size w W0) (hBl : Bs < W0.heap.size) (hBs : W0.heap[Bs]? = some (.cells #[.slice A zs.length c] 44 (0, 0))) :
    SeqStopsK F n Tryd.prog 79 #[.pointer (some ⟨Bs, 0, none⟩)] (fun x : Nat × U32 => #[Value.int .i64 (x.1 : Int), Value.int .u32 (x.2.1 : Int)]) (KpD w.heap.size Bs) (fun ys => ys = bk zs zs.length)
      (fun pre => ∃ k, k ≤ zs.length ∧ pre = bk zs k) zs.length W0 := fun l J Jx W hW _ _ hY h0 =>
  back1_in F n h32 hro hn l Bs A c zs hz hlen w hr J Jx hY W (hW0.trans (hW.mono hW0.size)) ((hW.block Bs hBl).trans hBs) h0
end
def limbB (n : Nat) : List UInt8 := (strOfNums (lowL n 9)).data.toList
theorem low_dig (n : Nat) : ∀ k, digL ((lowL n k).map fun x => UInt8.ofNat x.toNat) = true ∧ rv ((lowL n k).map fun x => UInt8.ofNat x.toNat).reverse = n % 10 ^ k
  | 0 => ⟨rfl, by simp [lowL, rv, Nat.mod_one]⟩
  | k + 1 => by
    obtain ⟨h1, h2⟩ := low_dig n k
    have e : (UInt8.ofNat (48 + n / 10 ^ k % 10)).toNat = 48 + n / 10 ^ k % 10 := by rw [UInt8.toNat_ofNat']; omega
    rw [lowL, List.map_cons, Int.toNat_natCast]
    refine ⟨?_, ?_⟩
    · rw [digL_cons, isD_iff, e]; exact ⟨by omega, h1⟩
    · rw [List.reverse_cons, rv_append, h2, List.length_reverse, List.length_map, lowL_len]
      simp only [rv, e]
      rw [Nat.mul_zero, Nat.add_zero, Nat.add_sub_cancel_left, Nat.pow_succ, Nat.mod_mul]
theorem limbB_dig (n : Nat) : digL (limbB n) = true := by unfold limbB; rw [B_nums]; exact (low_dig n 9).1
theorem limbB_val {n : Nat} (h : n < 1000000000) : rv (limbB n).reverse = n := by unfold limbB; rw [B_nums, (low_dig n 9).2]; exact Nat.mod_eq_of_lt h
theorem limbB_len (n : Nat) : (limbB n).length = 9 := by unfold limbB; rw [B_nums, List.length_map, lowL_len]
def accL (pre : List (Nat × U32)) : List UInt8 := pre.flatMap fun x => limbB x.2.1
theorem accL_snoc (pre : List (Nat × U32)) (x : Nat × U32) : accL (pre ++ [x]) = accL pre ++ limbB x.2.1 := by simp [accL]
theorem accL_len (pre : List (Nat × U32)) : (accL pre).length = 9 * pre.length := by
  induction pre with
  | nil => rfl
  | cons x pre ih => rw [show accL (x :: pre) = limbB x.2.1 ++ accL pre from rfl, List.length_append, limbB_len, ih, List.length_cons]; omega
theorem acc_val (zs : List Int) (g : goodL zs = true) : ∀ m, m ≤ zs.length → digL (accL (bk zs m)) = true ∧ rv (accL (bk zs m)).reverse = valL (zs.drop (zs.length - m))
  | 0, _ => ⟨rfl, by simp [accL, bk, rv, valL]⟩
  | m + 1, hm => by
    obtain ⟨h1, h2⟩ := acc_val zs g m (by omega)
    have hp : zs.length - 1 - m < zs.length := by omega
    have hx := goodL_iff.1 g _ (List.getElem_mem hp)
    rw [bk_succ, accL_snoc, digL_append, h1, limbB_dig, List.reverse_append, rv_append, h2, List.length_reverse, limbB_len, rd_get hp]
    refine ⟨⟨rfl, rfl⟩, ?_⟩
    have e : (toU (zs[zs.length - 1 - m]'hp)).1 = (zs[zs.length - 1 - m]'hp).toNat := by unfold toU; show _ % _ = _; omega
    rw [e, limbB_val (by omega), show zs.length - (m + 1) = zs.length - 1 - m by omega, List.drop_eq_getElem_cons hp, valL, show zs.length - 1 - m + 1 = zs.length - m by omega]
def zeroB (n : Nat) : ByteArray := if n = 0 then ⟨#[48]⟩ else digB n
theorem isBuilderF_kept {T e : TypeId} {B b : Nat} {bs : List Value} {w w' : World} {row : Option Nat} (h : Lib.IsBuilderF T e B b bs w) (hg : w.grownBy w' row) (hr : ∀ r, row = some r → ∃ o : Obj, w.heap[r]? = some o ∧ o.isCells = false) : Lib.IsBuilderF T e B b bs w' := by
  have key : ∀ (k : Nat) (cs : Array Value) (t : TypeId) (fz : Nat × Nat), w.heap[k]? = some (.cells cs t fz) → w'.heap[k]? = some (.cells cs t fz) := fun k cs t fz hk => by
    rw [hg.block k (Array.getElem?_eq_some_iff.1 hk).1 (fun he => by
      obtain ⟨o, ho, hc⟩ := hr k he.symm
      rw [hk] at ho; cases ho; cases hc)]
    exact hk
  have one : ∀ p, Lib.BuilderAtF T e B b p bs w → Lib.BuilderAtF T e B b p bs w' := fun p ⟨hB, v, hb, ⟨hl, ho⟩, hne⟩ =>
    ⟨hB, v, key _ _ _ _ hb, ⟨hl, ho.imp id fun ⟨g, cap, cur, fz, h1, h2, h3, h4⟩ => ⟨g, cap, cur, fz, h1, h2, key _ _ _ _ h3, h4⟩⟩, hne⟩
  exact h.imp (one _) (one _)
theorem isBuilderF_below {T e : TypeId} {B b : Nat} {bs : List Value} {w w' : World} (h : Lib.IsBuilderF T e B b bs w) (hg : Below w.heap.size w w') : Lib.IsBuilderF T e B b bs w' := by
  have key : ∀ (k : Nat) (cs : Array Value) (t : TypeId) (fz : Nat × Nat), w.heap[k]? = some (.cells cs t fz) → w'.heap[k]? = some (.cells cs t fz) := fun k cs t fz hk => by
    rw [hg.block k (Array.getElem?_eq_some_iff.1 hk).1]; exact hk
  have one : ∀ p, Lib.BuilderAtF T e B b p bs w → Lib.BuilderAtF T e B b p bs w' := fun p ⟨hB, v, hb, ⟨hl, ho⟩, hne⟩ =>
    ⟨hB, v, key _ _ _ _ hb, ⟨hl, ho.imp id fun ⟨g, cap, cur, fz, h1, h2, h3, h4⟩ => ⟨g, cap, cur, fz, h1, h2, key _ _ _ _ h3, h4⟩⟩, hne⟩
  exact h.imp (one _) (one _)
theorem strCells_eq (s : ByteArray) : Lib.strCells s = Lib.byteCells s.data.toList := rfl
theorem byteCells_append (a b : List UInt8) : Lib.byteCells a ++ Lib.byteCells b = Lib.byteCells (a ++ b) := by simp [Lib.byteCells]
section
attribute [local go_sem] Oper.semAt_some
set_option maxRecDepth 100000 in
set_option maxHeartbeats 4000000 in
theorem digits_calls (A : Option Addr) (c : Nat) (zs : List Int) (g : goodL zs = true) (hlen : zs.length ≤ 1000000) (w : World) (hr : Kd.C (Kd.int .u32) w A zs.length zs) :
    Calls Tryd.prog 37 #[.slice A zs.length c] w fun e W' => e = .returned (.string (zeroB (valL zs))) ∧ Below w.heap.size w W' := by
  have hz : ∀ x ∈ zs, 0 ≤ x ∧ x < 4294967296 := fun x hx => by have := goodL_iff.1 g x hx; omega
  refine (callsIn_wide (n := 5)).1 ?_
  obtain ⟨F, hF⟩ : ∃ F, F = Fence.wide := ⟨_, rfl⟩
  have hfn : ∀ k, Fence.wide.fn k := fun _ => trivial
  have hro : Fence.wide.round = none := rfl
  refine callsIn_of_wp_marks Tryd.func37 rfl (hfn 37) ?_ hro
  simp only [Tryd.ntmps37, List.size_toArray, List.length_cons, List.length_nil, Nat.reduceAdd, Nat.reduceSub, Array.replicate_succ, Array.replicate_zero, List.push_toArray, List.append_toArray, List.nil_append, List.cons_append]
  have HR := Aside0.mk hr
  have HZ := Aside0.mk hz
  have HG := Aside0.mk g
  clear hr hz g hF F
  gi_wp2_with (gi_at_call 60; refine (back_in Fence.wide _ (hfn 60) hro _ _ _ _).mono ?_; rintro e w' ⟨rfl, rfl⟩)
  have hB0 : Below w.heap.size w ((w.alloc (.cells #[.pointer none, .slice none 0 0] 77)).alloc (.cells #[.slice A zs.length c] 44)) := ((Below.refl _ w).alloc (Nat.le_refl _) _).alloc (by simp) _
  have hbx : ((w.alloc (.cells #[.pointer none, .slice none 0 0] 77)).alloc (.cells #[.slice A zs.length c] 44)).heap[w.heap.size + 1]? = some (.cells #[.slice A zs.length c] 44 (0, 0)) := by
    have := World.alloc_heap_new (w.alloc (.cells #[.pointer none, .slice none 0 0] 77)) (.cells #[.slice A zs.length c] 44)
    simpa using this
  have hbd : Lib.IsBuilderF 77 5 w.heap.size w.heap.size (Lib.byteCells (accL [])) ((w.alloc (.cells #[.pointer none, .slice none 0 0] 77)).alloc (.cells #[.slice A zs.length c] 44)) := (Lib.IsBuilderF.of (Lib.fresh_isBuilder 77 5 w)).alloc _
  refine wpIn_rangeFunc_ownF hro (by omega) (gf := 79) (lb := #[.pointer (some ⟨w.heap.size + 1, 0, none⟩)]) rfl (hfn 79) (enters_of Tryd.func79 (by kernel_rfl) rfl)
    (back_stops Fence.wide _ (hfn 79) hro (by omega) (w.heap.size + 1) A c zs HZ.out hlen w HR.out _ hB0 (by simp) hbx) KpD.trans ?kb (Below.refl _ _) (fun _ => rfl)
    (fun pre W => Lib.IsBuilderF 77 5 w.heap.size w.heap.size (Lib.byteCells (accL pre)) W ∧ Below w.heap.size w W)
    (fun _ _ _ => False)
    (OwnFrom.and (Own.from (I := fun pre W => Lib.IsBuilderF 77 5 w.heap.size w.heap.size (Lib.byteCells (accL pre)) W) (fun s A B row hs hg hr => isBuilderF_kept hs hg hr) _) (ownFrom_below (Nat.le_refl _) (by simp; omega)))
    (fun _ _ _ _ _ hs _ _ => hs)
    ⟨hbd, hB0⟩
    (fun x => { tmps := #[.slice A zs.length c, undef, .string { data := #[] }, .pointer (some ⟨w.heap.size, 0, none⟩), undef, .int .u32 (x.2.1 : Int), undef, .slice A zs.length c, .func (.func 79) #[] #[.pointer (some ⟨w.heap.size + 1, 0, none⟩)], .int .i64 (x.1 : Int), .int .u32 (x.2.1 : Int), undef, undef, undef, undef, undef, undef, undef, undef], defers := [] }) ?assign ?body ?done ?stop
  case kb =>
    intro W l o o' hl hlo ho hk
    refine ⟨belowK_b (w := w) (Nat.le_refl _) W l o o' (by simp at hl; omega) hlo ho hk, fun cs fz e => ?_⟩
    rw [World.putObj_heap_other (fun he => by subst he; rw [hlo] at e; cases e; cases ho)]
    exact e
  case assign =>
    intro l x W K hK
    gi_wp2
    exact hK
  case body =>
    rintro l pre x W ⟨hBd, hB⟩ hpre
    have HBd := Aside0.mk hBd
    have HB := Aside0.mk hB
    have HL := Aside0.mk (show (Lib.byteCells (accL pre)).length + (strOfNums (lowL x.2.1 9)).size ≤ 140737488355328 by
      rw [show (Lib.byteCells (accL pre)).length = (accL pre).length by simp [Lib.byteCells], accL_len, strOfNums_size, lowL_len]; omega)
    clear hBd hB hbd hbx hB0
    gi_wp2_with (first
      | (gi_at_call 62; refine (CallsIn.inRound l (callsIn_wide.2 (ten_limb.calls x.2.1 x.2.2 _))).mono ?_; rintro e W1 ⟨rfl, hb1⟩; have HB1 := Aside0.mk hb1; clear hb1)
      | (gi_at_call 61; refine (CallsIn.inRound l (callsIn_wide.2 (strings_WriteString.calls w.heap.size w.heap.size _ _ _ (isBuilderF_below HBd.out HB1.out) HL.out (Nat.le_trans HB.out.size HB1.out.size)))).mono ?_; rintro e W2 ⟨rfl, h2, hb2, hk2⟩; have H2 := Aside0.mk h2; have HB2 := Aside0.mk hb2; have HK2 := Aside0.mk hk2; have HB1' := HB1; clear h2 hb2 hk2))
    have hkeep : ∀ (k : Nat) (o : Obj), W.heap[k]? = some o → k ≠ w.heap.size → (∀ cs fz, o ≠ .cells cs 5 fz) → W2.heap[k]? = some o := fun k o hk hne ho => by
      refine HK2.out k o ?_ (fun e => hne (by cases e; rfl)) ho
      rw [HB1.out.block k (Array.getElem?_eq_some_iff.1 hk).1]; exact hk
    have hlt : w.heap.size < W.heap.size := by
      rcases HBd.out with h | h
      · exact (Array.getElem?_eq_some_iff.1 h.2.choose_spec.1).1
      · exact (Array.getElem?_eq_some_iff.1 h.2.choose_spec.1).1
    have hcell : ∃ cs t fz, W.heap[w.heap.size]? = some (.cells cs t fz) := by
      rcases HBd.out with h | h
      · exact ⟨_, _, _, h.2.choose_spec.1⟩
      · exact ⟨_, _, _, h.2.choose_spec.1⟩
    have hB12 : Below w.heap.size W W2 := (HB1.out.mono (Nat.le_of_lt hlt)).trans HB2.out
    refine ⟨⟨hB12.size, fun k o hk ho => hkeep k o hk (fun e => by subst e; obtain ⟨cs, t, fz, hc⟩ := hcell; rw [hc] at hk; cases hk; cases ho) (fun cs fz e => by subst e; cases ho)⟩,
      ⟨hB12, fun cs fz e => hkeep _ _ e (by omega) (fun cs' fz' e' => by cases e')⟩, .inr ?_, HB.out.trans hB12⟩
    have h2 := H2.out
    rw [strCells_eq, byteCells_append] at h2
    rw [accL_snoc]; exact h2
  case done =>
    rintro D ys W hD rfl ⟨hBd, hB⟩ hK
    have HBd := Aside0.mk hBd
    have HB := Aside0.mk hB
    have HK := Aside0.mk hK
    clear hBd hB hbd hbx hB0 hK
    have HV := Aside0.mk (show Lib.trimLeftB (accL (bk zs zs.length)) 48 = digs (valL zs) by
      obtain ⟨h1, h2⟩ := acc_val zs HG.out zs.length (Nat.le_refl _)
      rw [Nat.sub_self, List.drop_zero] at h2
      rw [← h2]; exact stripL_eq h1)
    gi_wp2_with (first
      | (gi_at_call 63; refine (callsIn_wide.2 (Tryd.Builder_String_any_k w.heap.size w.heap.size (accL (bk zs zs.length)) _ HBd.out HB.out.size)).mono ?_; rintro e W1 ⟨rfl, h1, hb1, hk1⟩; have HB1 := Aside0.mk hb1; have HK1 := Aside0.mk (hk1 D _ HK.out (fun e => by cases e; simp at hD; omega) (fun _ _ e => by cases e)); clear h1 hb1 hk1)
      | (gi_at_call 51; refine (callsIn_wide.2 (Tryd.strings_TrimLeft_one _ 48 (by decide) _)).mono ?_; rintro e W2 ⟨rfl, rfl⟩))
    · have hne : (!(Lib.trimLeftB (accL (bk zs zs.length)) 48).isEmpty) = true := by assumption
      rw [HV.out] at hne ⊢
      have hz0 : valL zs ≠ 0 := fun e => by rw [e, digs_zero] at hne; cases hne
      refine ⟨by simp, .inl ⟨_, _, rfl, run_takeDeferred HK1.out, ?_⟩⟩
      exact ⟨_, results_tmp rfl _ _ _, by rw [zeroB, if_neg hz0]; rfl, (HB.out.trans HB1.out).trans (belowK_b (w := w) (Nat.le_refl _) _ D _ _ (by simp at hD; omega) HK1.out rfl rfl)⟩
    · have hne : (!(Lib.trimLeftB (accL (bk zs zs.length)) 48).isEmpty) = false := by assumption
      rw [HV.out] at hne ⊢
      have hz0 : valL zs = 0 := digs_nil_iff.1 (by simpa using hne)
      refine ⟨by simp, .inl ⟨_, _, rfl, run_takeDeferred HK1.out, ?_⟩⟩
      exact ⟨_, results_tmp rfl _ _ _, by rw [zeroB, if_pos hz0]; rfl, (HB.out.trans HB1.out).trans (belowK_b (w := w) (Nat.le_refl _) _ D _ _ (by simp at hD; omega) HK1.out rfl rfl)⟩
  case stop =>
    rintro D c pre W _ _ h _
    exact h.elim
end
def ten_Digits.f (l0 : List Int) : Option ByteArray := if goodL l0 = true ∧ l0.length ≤ 1000000 then some (zeroB (valL l0)) else none
theorem ten_Digits.calls (A0 : Option Addr) (c0 : Nat) (l0 : List Int) (r : ByteArray) (w : World) (hr0 : Kd.C (Kd.int .u32) w A0 l0.length l0) (hc0 : l0.length ≤ c0) (h : ten_Digits.f l0 = some r) :
    Calls Tryd.prog 37 #[.slice A0 l0.length c0] w fun e w' => e = .returned (.string r) ∧ Below w.heap.size w w' := by
  unfold ten_Digits.f at h
  by_cases hg : goodL l0 = true ∧ l0.length ≤ 1000000
  · rw [if_pos hg] at h
    obtain rfl := Option.some.inj h
    exact digits_calls A0 c0 l0 hg.1 hg.2 w hr0
  · rw [if_neg hg] at h; cases h
end Go.Proofs.YtjpokifkbclkiaaDoor.Px
end
