/- The functions that the law IncOnes reaches, told as plain functions, with what is proved of them, and the words they need (part 4). -/
import Derived.Test.YtekkpmoppihlaaaDoorCIncOnes0
import Derived.Test.YtekkpmoppihlaaaDoorCIncOnes1
import Derived.Test.YtekkpmoppihlaaaDoorCIncOnes3
import Derived.Deep.RegionLaw
import Derived.Lib.SliceRun
import Derived.Test.YtekkpmoppihlaaaDoorCIncOnes2
import Derived.SizedLaws
import Derived.ChangeSlices
set_option linter.unusedVariables false
set_option linter.unusedSimpArgs false
section
namespace Go.Proofs.YtekkpmoppihlaaaDoor.Px
open Fig Go.RowKit Go.Proofs.YtekkpmoppihlaaaDoorW.PrintWords Go.Proofs.YtekkpmoppihlaaaDoorW.PrintLast Go.Proofs.YtekkpmoppihlaaaDoorW.PrintMore
attribute [local go_sem] max2_int min2_int max_two min_two max_three min_three max_four min_four   -- for this text's walks alone
attribute [local go_sem] fieldA23_0 fieldA23_1 fieldA23_2
set_option maxRecDepth 100000
theorem R_lit0 (w : World) : Kd.R (Kd.int .u32) 48 (w.alloc (.cells #[] 48)) w.heap.size (fun _ => True) (.slice (some ⟨w.heap.size, 0, none⟩) 0 0) [] := by
  have := R_made w w.heap.size 0 48 (Nat.le_refl _) (by omega)
  rw [show madeCells #[Value.int .u32 0] 0 = #[] from Array.eq_empty_of_size_eq_zero (size_madeCells _ _)] at this
  exact this
set_option maxHeartbeats 2000000 in
theorem clone_calls (A : Option Addr) (c : Nat) (xs : List Int) (w : World) (hr : Kd.C (Kd.int .u32) w A xs.length xs) (hlen : xs.length ≤ 1000000) :
    Calls Tryd.prog 73 #[.slice A xs.length c] w fun e w' => ∃ v : Value, e = .returned v ∧ Kd.R (Kd.int .u32) 48 w' w.heap.size (fun _ => True) v xs ∧ Below w.heap.size w w' := by
  have HR := Aside0.mk hr
  cases A with
  | none =>
    have h0 : xs = [] := by
      cases xs with
      | nil => rfl
      | cons x xs => exact absurd (hr.2.2 (by simp)) (by rintro ⟨ad, h, _⟩; cases h)
    subst h0
    clear hr
    have hq := fun W => Lib.run_eql_slice_nil (P := Tryd.prog) W 39 48 none 0 c 0 0 Tryd.underlying39
    go_enter Tryd.func73, Tryd.ntmps73
    go_wp2
    go_ret
    exact ⟨_, rfl, Kd.R_nil _ _ _ _ _, Below.refl _ _⟩
  | some ad =>
    have HL := Aside0.mk (show (([] : List Int).length + xs.length) * 4 ≤ 140737488355328 by simp; omega)
    clear hr
    have hq := fun W => Lib.run_eql_slice_nil (P := Tryd.prog) W 39 48 (some ad) xs.length c 0 0 Tryd.underlying39
    go_enter Tryd.func73, Tryd.ntmps73
    go_wp2_with ((with_reducible refine gate_builtin (b := .append) (xs := #[.tmp 5, .tmp 6]) rfl ?_); at_builtin; (refine Kd.R_append_rows (Kd.int .u32) (w0 := w) w.heap.size rfl (.tmp 5) (.tmp 6) 39 48 (.int .u32 0) 4 rfl Tryd.underlying39 info48 rfl (by decide) (by omega) (.slice (some ⟨w.heap.size, 0, none⟩) 0 0) [] xs (some ad) xs.length c (fun _ => True) (fun _ => False) rfl rfl ?aO ?aR (fun _ _ h => h) (fun _ h => h.elim) (fun _ _ => trivial) ?aB ?aS ?aL ?_; (case aO => exact R_lit0 w); (case aR => exact Kd.C_alloc HR.out _); (case aB => exact (Below.refl _ w).alloc (Nat.le_refl _) _); (case aS => exact ((Below.refl w.heap.size w).alloc (Nat.le_refl _) _).size); (case aL => exact HL.out); intro v1 w2 ho2 hb2 hg2 hat2; rw [List.nil_append] at ho2; have HO2 := Aside0.mk ho2; have HB2 := Aside0.mk hb2; clear ho2 hb2 hg2 hat2))
    go_ret
    exact ⟨_, rfl, HO2.out, HB2.out⟩
theorem pow_tab (q p : Nat) (hq : q < 9) (hp : p = 10 ^ q) : ([1, 10, 100, 1000, 10000, 100000, 1000000, 10000000, 100000000] : List Int).getD q 0 = (p : Int) := by
  rw [hp]
  match q, hq with
  | 0, _ => rfl
  | 1, _ => rfl
  | 2, _ => rfl
  | 3, _ => rfl
  | 4, _ => rfl
  | 5, _ => rfl
  | 6, _ => rfl
  | 7, _ => rfl
  | 8, _ => rfl
  | q + 9, h => exact absurd h (by omega)
def ten_Cut.f (l0 : List Int) (a1 : Int) : Option (List Int × List Int) := if goodL l0 = true ∧ l0.length ≤ 500000 ∧ a1 ≤ 1000000 then some (limbs (valL l0 / 10 ^ a1.toNat), limbs (valL l0 % 10 ^ a1.toNat)) else none
set_option maxHeartbeats 4000000 in
theorem ten_Cut.calls (A0 : Option Addr) (c0 : Nat) (l0 : List Int) (a1 : Int) (r1 r2 : List Int) (w : World) (hG : Fig.Glob w) (hr0 : Kd.C (Kd.int .u32) w A0 l0.length l0) (hc0 : l0.length ≤ c0) (h : ten_Cut.f l0 a1 = some (r1, r2)) :
    Calls Tryd.prog 59 #[.slice A0 l0.length c0, .int .i64 a1] w fun e w' => ∃ v0_ v1_ : Value, e = .returned (.tuple #[v0_, v1_]) ∧ Kd.R (Kd.int .u32) 48 w' w.heap.size (fun k_ => some k_ ≠ (v1_ : Value).ownBlock) v0_ r1 ∧ Kd.R (Kd.int .u32) 48 w' w.heap.size (fun k_ => some k_ ≠ (v0_ : Value).ownBlock) v1_ r2 ∧ Below w.heap.size w w' := by
  unfold ten_Cut.f at h
  by_cases hg : goodL l0 = true ∧ l0.length ≤ 500000 ∧ a1 ≤ 1000000
  · rw [if_pos hg] at h
    obtain ⟨rfl, rfl⟩ := Prod.mk.inj (Option.some.inj h)
    obtain ⟨g0, z0, z1⟩ := hg
    obtain ⟨m, hm⟩ : ∃ m : Nat, m = a1.toNat := ⟨_, rfl⟩
    rw [← hm]
    have HR0 := Aside0.mk hr0
    have HC0 := Aside0.mk hc0
    have HG := Aside0.mk hG
    have G0 := Aside0.mk g0
    have HT := Aside0.mk (trimF_eq g0 (by omega))
    by_cases ha : a1 < 0
    · obtain rfl : m = 0 := by omega
      have e0 : IntKind.i64.wrap 0 = 0 := by rw [IntKind.wrap_i64]; rfl
      have hcell := hG.pows 0 (by omega)
      have hle : 0 ≤ l0.length := by omega
      obtain ⟨i0, hi0, hi1, hsz, _⟩ := info_parts info48
      obtain ⟨A1, hdr, hdc, hdl⟩ := print_drop_of (P := Tryd.prog) (Value.int .u32) 0 39 48 .i64 Tryd.underlying39 hi0 hsz A0 c0 l0 0 (by omega) (by omega) hc0
      obtain ⟨htr, htc, htl⟩ := print_take_of (P := Tryd.prog) (Value.int .u32) 0 39 48 .i64 Tryd.underlying39 hi0 hsz A0 c0 l0 0 (by omega) (by omega) hc0
      rw [show (0 : Int).toNat = 0 from rfl] at hdr hdc hdl htr htc htl
      have HCD := Aside0.mk (Kd.C_of_reads (d := (0 : Int)) (h1 := fun _ => rfl) (hdc w (Kd.reads_of_C (enc := Value.int .u32) (d := (0 : Int)) (h1 := fun _ => rfl) hr0)))
      have HCT := Aside0.mk (Kd.C_of_reads (d := (0 : Int)) (h1 := fun _ => rfl) (htc w (Kd.reads_of_C (enc := Value.int .u32) (d := (0 : Int)) (h1 := fun _ => rfl) hr0)))
      have HDL := Aside0.mk hdl
      have HTL := Aside0.mk htl
      obtain ⟨p, hp⟩ : ∃ p : Nat, p = 10 ^ 0 := ⟨_, rfl⟩
      rw [pow_tab 0 p (by decide) hp] at hcell
      obtain ⟨y, hy⟩ : ∃ y, y = l0.drop 0 := ⟨_, rfl⟩
      obtain ⟨x, hx⟩ : ∃ x, x = l0.take 0 := ⟨_, rfl⟩
      rw [← hy] at hdr HCD HDL
      rw [← hx] at htr HCT HTL
      have hyg : goodL y = true := by rw [hy]; exact goodL_drop g0 0
      have hxg : goodL x = true := by rw [hx]; exact goodL_take g0 0
      have hyl : y.length ≤ 500000 := by rw [hy, List.length_drop]; omega
      have hxl : x.length = 0 := by rw [hx, List.length_take]; omega
      have hxy : valL l0 = valL x + 1000000000 ^ 0 * valL y := by
        have e := valL_append x y
        rw [hxl, hx, hy, List.take_append_drop] at e; rw [e, hx, hy]
      have hp0 : 0 < p := by rw [hp]; exact Nat.pow_pos (by decide)
      have hp9 : p < 1000000000 := by rw [hp]; exact Nat.lt_of_lt_of_le (Nat.pow_lt_pow_right (by decide) (show 0 < 9 by decide)) (by decide)
      obtain ⟨k, hk⟩ := Ev.rounds (DivSmall_ev hyg (by omega) hp0 hp9)
      have HK := Aside0.mk hk
      have HXG := Aside0.mk hxg
      have HXY := Aside0.mk hxy
      have HXL := Aside0.mk hxl
      have HPP := Aside0.mk (And.intro hp (And.intro hp0 hp9))
      have hc1 : w.drew.cell? ⟨0, 0, none⟩ = some (.int .u32 (p : Int)) := hcell
      clear hr0 hc0 hG g0 h hm hdc htc hdl htl hy hx hyg hxg hyl hxl hxy hp0 hp9 hk hp
      go_enter Tryd.func59, Tryd.ntmps59
      go_wp2
      go_region_law (go_simp; go_wp2_with (go_at_call 72; (with_reducible refine (div_Small.calls k A1 c0 y (p : Int) (limbs (valL y / p)) ((valL y % p : Nat) : Int) true _ ?side1 ?side2 ?side3).mono ?_); (case side1 => exact Kd.C_drew HCD.out); (case side2 => exact HDL.out); (case side3 => exact HK.out); rintro e w1 ⟨v0, rfl, ho, hb⟩; have HO := Aside0.mk ho; have HB := Aside0.mk hb; clear ho hb))
      have HB1 := Aside0.mk (((Below.refl w.heap.size w).drew).trans HB.out)
      have HLX := Aside0.mk (show x.length ≤ 1000000 ∧ (x.length + 1) * 4 ≤ 140737488355328 ∧ goodL (x ++ [((valL y % p : Nat) : Int)]) = true ∧ (x ++ [((valL y % p : Nat) : Int)]).length ≤ 20000000000000 by
        have h1 := HXL.out
        have h2 := HPP.out
        have h3 := Nat.mod_lt (valL y) h2.2.1
        refine ⟨by omega, by omega, goodL_append.2 ⟨HXG.out, goodL_cons.2 ⟨by omega, rfl⟩⟩, by simp; omega⟩)
      obtain ⟨l, hl⟩ : ∃ l, l = valL y % p := ⟨_, rfl⟩
      obtain ⟨z, hz⟩ : ∃ z, z = x ++ [(l : Int)] := ⟨_, rfl⟩
      rw [← hl, ← hz] at HLX
      have HLL := Aside0.mk hl
      have HZ := Aside0.mk hz
      have hl2 : ((valL y : Int) % (p : Int)) = (l : Int) := by rw [hl]; rfl
      clear hl hz
      go_wp2_with (first
        | (go_at_call 73; go_loud ((with_reducible refine (clone_calls A0 c0 x _ ?side1 ?side2).mono ?_); (case side1 => exact Kd.C_below HCT.out HB1.out); (case side2 => exact HLX.out.1); rintro e w2 ⟨v2, rfl, ho, hb⟩; have HO2 := Aside0.mk ho; have HB2 := Aside0.mk hb; clear ho hb))
        | ((with_reducible refine gate_builtin (b := .append) (xs := #[.tmp 39, .tmp 41]) rfl ?_); at_builtin; go_loud (refine Kd.R_append (Kd.int .u32) (w0 := w1) w1.heap.size rfl (.tmp 39) (.tmp 41) 39 48 (.int .u32 0) 4 rfl Tryd.underlying39 info48 rfl (by decide) (by omega) v2 x (l : Int) [.int .u32 (l : Int)] (fun _ => True) (fun _ => False) rfl rfl rfl (fun _ hk => hk.elim) (fun _ _ => trivial) HO2.out HB2.out HB2.out.size HLX.out.2.1 ?_; intro v3 w3 ho hb hg hat; rw [← HZ.out] at ho; obtain ⟨A3, c3, rfl⟩ := Kd.R_slice ho; have HO3 := Aside0.mk ho; have HB3 := Aside0.mk hb; clear ho hb hg hat))
        | (go_at_call 44; go_loud ((with_reducible refine (nat_Trim.calls A3 c3 z (limbs (valL z)) _ ?side1 ?side2 ?side3).mono ?_); (case side3 => exact trimF_eq HLX.out.2.2.1 HLX.out.2.2.2); (case side1 => exact (Kd.R_reads' HO3.out).2.2); (case side2 => exact (Kd.R_reads' HO3.out).2.1); rintro e w4 ⟨v4, rfl, ho, hb⟩; have HO4 := Aside0.mk ho; have HB4 := Aside0.mk hb; clear ho hb)))
      have hq := Kd.R_bound HO.out
      have hr := Kd.R_bound HO4.out
      have hb14 : Below w1.heap.size w1 w4 := HB3.out.trans (HB4.out.mono HB3.out.size)
      have hvz : valL z = valL x + 1000000000 ^ 0 * l := by
        rw [HZ.out, valL_append, HXL.out]; simp [valL]
      have hp1 : p = 1 := HPP.out.1
      have hx0 : valL x = 0 := by have := valL_lt HXG.out; rw [HXL.out] at this; simpa using this
      have ed : valL l0 / 10 ^ 0 = valL y / p := by rw [HXY.out, hx0, hp1]; simp
      have em : valL l0 % 10 ^ 0 = valL z := by rw [hvz, HXY.out, hx0, HLL.out, hp1]; simp [Nat.mod_one]
      go_ret2
      rw [ed, em]
      refine ⟨v0, v4, rfl, ?_, ?_, HB1.out.trans (hb14.mono HB1.out.size)⟩
      · refine Kd.R_mono (Kd.R_below hq hb14) (fun k_ hk he => ?_)
        have := hr.1 k_ he.symm
        have h3 := HB3.out.size
        omega
      · refine Kd.R_mono (Kd.R_lower hr (Nat.le_trans HB1.out.size HB3.out.size)) (fun k_ hk he => ?_)
        have := hq.1 k_ he.symm
        have h3 := HB3.out.size
        omega
    obtain rfl : a1 = (m : Int) := by omega
    have hm6 : m ≤ 1000000 := by omega
    obtain ⟨n9, hn9⟩ : ∃ n9, n9 = m / 9 := ⟨_, rfl⟩
    obtain ⟨q9, hq9⟩ : ∃ q9, q9 = m % 9 := ⟨_, rfl⟩
    have e9 : IntKind.i64.wrap ((m : Int) / 9) = (n9 : Int) := by rw [IntKind.wrap_i64]; omega
    have r9 : (m : Int).tmod 9 = (q9 : Int) := by rw [Int.tmod_eq_emod_of_nonneg (by omega)]; omega
    have hq : q9 < 9 := by omega
    have hn : n9 ≤ 200000 := by omega
    have HN9 := Aside0.mk hn9
    have HQ9 := Aside0.mk hq9
    have hcell := hG.pows q9 hq
    by_cases hnl : l0.length < n9
    · have d1 : decide (l0.length < n9) = true := decide_eq_true hnl
      clear hr0 hc0 hG g0 h hm hn9 hq9 hcell
      go_enter Tryd.func59, Tryd.ntmps59
      go_wp2_with (go_at_call 44; (with_reducible refine (nat_Trim.calls A0 c0 l0 (limbs (valL l0)) _ ?side1 ?side2 ?side3).mono ?_); (case side3 => exact HT.out); (case side1 => exact HR0.out); (case side2 => exact HC0.out); rintro e w1 ⟨v0, rfl, ho, hb⟩; have HO := Aside0.mk ho; have HB := Aside0.mk hb; clear ho hb)
      have hlt : valL l0 < 10 ^ m := by
        refine Nat.lt_of_lt_of_le (valL_lt G0.out) ?_
        rw [pow9]; exact Nat.pow_le_pow_right (by decide) (by have := HN9.out; omega)
      go_ret2
      refine ⟨_, v0, rfl, ?_, ?_, HB.out⟩
      · rw [Nat.div_eq_of_lt hlt, limbs_zero]; exact Kd.R_nil _ _ _ _ _
      · rw [Nat.mod_eq_of_lt hlt]
        exact Kd.R_mono HO.out (fun k_ _ => by simp [Value.ownBlock])
    · have d1 : decide (l0.length < n9) = false := decide_eq_false hnl
      have hle : n9 ≤ l0.length := by omega
      obtain ⟨i0, hi0, hi1, hsz, _⟩ := info_parts info48
      obtain ⟨A1, hdr, hdc, hdl⟩ := print_drop_of (P := Tryd.prog) (Value.int .u32) 0 39 48 .i64 Tryd.underlying39 hi0 hsz A0 c0 l0 (n9 : Int) (by omega) (by omega) hc0
      obtain ⟨htr, htc, htl⟩ := print_take_of (P := Tryd.prog) (Value.int .u32) 0 39 48 .i64 Tryd.underlying39 hi0 hsz A0 c0 l0 (n9 : Int) (by omega) (by omega) hc0
      rw [Int.toNat_natCast] at hdr hdc hdl htr htc htl
      have HCD := Aside0.mk (Kd.C_of_reads (d := (0 : Int)) (h1 := fun _ => rfl) (hdc w (Kd.reads_of_C (enc := Value.int .u32) (d := (0 : Int)) (h1 := fun _ => rfl) hr0)))
      have HCT := Aside0.mk (Kd.C_of_reads (d := (0 : Int)) (h1 := fun _ => rfl) (htc w (Kd.reads_of_C (enc := Value.int .u32) (d := (0 : Int)) (h1 := fun _ => rfl) hr0)))
      have HDL := Aside0.mk hdl
      have HTL := Aside0.mk htl
      obtain ⟨p, hp⟩ : ∃ p : Nat, p = 10 ^ q9 := ⟨_, rfl⟩
      rw [pow_tab q9 p hq hp] at hcell
      have hd2 : ((q9 : Int) < 9) = True := eq_true (by omega)
      obtain ⟨y, hy⟩ : ∃ y, y = l0.drop n9 := ⟨_, rfl⟩
      obtain ⟨x, hx⟩ : ∃ x, x = l0.take n9 := ⟨_, rfl⟩
      rw [← hy] at hdr HCD HDL
      rw [← hx] at htr HCT HTL
      have hyg : goodL y = true := by rw [hy]; exact goodL_drop g0 n9
      have hxg : goodL x = true := by rw [hx]; exact goodL_take g0 n9
      have hyl : y.length ≤ 500000 := by rw [hy, List.length_drop]; omega
      have hxl : x.length = n9 := by rw [hx, List.length_take]; omega
      have hxy : valL l0 = valL x + 1000000000 ^ n9 * valL y := by
        have e := valL_append x y
        rw [hxl, hx, hy, List.take_append_drop] at e; rw [e, hx, hy]
      have hp0 : 0 < p := by rw [hp]; exact Nat.pow_pos (by decide)
      have hp9 : p < 1000000000 := by rw [hp]; exact Nat.lt_of_lt_of_le (Nat.pow_lt_pow_right (by decide) hq) (by decide)
      obtain ⟨k, hk⟩ := Ev.rounds (DivSmall_ev hyg (by omega) hp0 hp9)
      have HK := Aside0.mk hk
      have HXG := Aside0.mk hxg
      have HXY := Aside0.mk hxy
      have HXL := Aside0.mk hxl
      have HPP := Aside0.mk (And.intro hp (And.intro hp0 hp9))
      have hc1 : w.drew.cell? ⟨0, q9, none⟩ = some (.int .u32 (p : Int)) := hcell
      clear hr0 hc0 hG g0 h hm hn9 hq9 hnl hdc htc hdl htl hy hx hyg hxg hyl hxl hxy hp0 hp9 hk hp
      go_enter Tryd.func59, Tryd.ntmps59
      go_wp2
      go_region_law (go_simp; go_wp2_with (go_at_call 72; (with_reducible refine (div_Small.calls k A1 (c0 - n9) y (p : Int) (limbs (valL y / p)) ((valL y % p : Nat) : Int) true _ ?side1 ?side2 ?side3).mono ?_); (case side1 => exact Kd.C_drew HCD.out); (case side2 => exact HDL.out); (case side3 => exact HK.out); rintro e w1 ⟨v0, rfl, ho, hb⟩; have HO := Aside0.mk ho; have HB := Aside0.mk hb; clear ho hb))
      have HB1 := Aside0.mk (((Below.refl w.heap.size w).drew).trans HB.out)
      have HLX := Aside0.mk (show x.length ≤ 1000000 ∧ (x.length + 1) * 4 ≤ 140737488355328 ∧ goodL (x ++ [((valL y % p : Nat) : Int)]) = true ∧ (x ++ [((valL y % p : Nat) : Int)]).length ≤ 20000000000000 by
        have h1 := HXL.out
        have h2 := HPP.out
        have h3 := Nat.mod_lt (valL y) h2.2.1
        refine ⟨by omega, by omega, goodL_append.2 ⟨HXG.out, goodL_cons.2 ⟨by omega, rfl⟩⟩, by simp; omega⟩)
      obtain ⟨l, hl⟩ : ∃ l, l = valL y % p := ⟨_, rfl⟩
      obtain ⟨z, hz⟩ : ∃ z, z = x ++ [(l : Int)] := ⟨_, rfl⟩
      rw [← hl, ← hz] at HLX
      have HLL := Aside0.mk hl
      have HZ := Aside0.mk hz
      have hl2 : ((valL y : Int) % (p : Int)) = (l : Int) := by rw [hl]; rfl
      clear hl hz
      go_wp2_with (first
        | (go_at_call 73; go_loud ((with_reducible refine (clone_calls A0 c0 x _ ?side1 ?side2).mono ?_); (case side1 => exact Kd.C_below HCT.out HB1.out); (case side2 => exact HLX.out.1); rintro e w2 ⟨v2, rfl, ho, hb⟩; have HO2 := Aside0.mk ho; have HB2 := Aside0.mk hb; clear ho hb))
        | ((with_reducible refine gate_builtin (b := .append) (xs := #[.tmp 39, .tmp 41]) rfl ?_); at_builtin; go_loud (refine Kd.R_append (Kd.int .u32) (w0 := w1) w1.heap.size rfl (.tmp 39) (.tmp 41) 39 48 (.int .u32 0) 4 rfl Tryd.underlying39 info48 rfl (by decide) (by omega) v2 x (l : Int) [.int .u32 (l : Int)] (fun _ => True) (fun _ => False) rfl rfl rfl (fun _ hk => hk.elim) (fun _ _ => trivial) HO2.out HB2.out HB2.out.size HLX.out.2.1 ?_; intro v3 w3 ho hb hg hat; rw [← HZ.out] at ho; obtain ⟨A3, c3, rfl⟩ := Kd.R_slice ho; have HO3 := Aside0.mk ho; have HB3 := Aside0.mk hb; clear ho hb hg hat))
        | (go_at_call 44; go_loud ((with_reducible refine (nat_Trim.calls A3 c3 z (limbs (valL z)) _ ?side1 ?side2 ?side3).mono ?_); (case side3 => exact trimF_eq HLX.out.2.2.1 HLX.out.2.2.2); (case side1 => exact (Kd.R_reads' HO3.out).2.2); (case side2 => exact (Kd.R_reads' HO3.out).2.1); rintro e w4 ⟨v4, rfl, ho, hb⟩; have HO4 := Aside0.mk ho; have HB4 := Aside0.mk hb; clear ho hb)))
      have hq := Kd.R_bound HO.out
      have hr := Kd.R_bound HO4.out
      have hb14 : Below w1.heap.size w1 w4 := HB3.out.trans (HB4.out.mono HB3.out.size)
      have hvz : valL z = valL x + 1000000000 ^ n9 * l := by
        rw [HZ.out, valL_append, HXL.out]; simp [valL]
      have e1 : 10 ^ m = 1000000000 ^ n9 * p := by
        rw [pow9, HPP.out.1, ← Nat.pow_add, HN9.out, HQ9.out, Nat.div_add_mod]
      have hxlt : valL x < 1000000000 ^ n9 := by have := valL_lt HXG.out; rwa [HXL.out] at this
      have hB0 : 0 < 1000000000 ^ n9 := Nat.pow_pos (by decide)
      have ed : valL l0 / 10 ^ m = valL y / p := by
        rw [HXY.out, e1, ← Nat.div_div_eq_div_mul, Nat.add_mul_div_left _ _ hB0, Nat.div_eq_of_lt hxlt, Nat.zero_add]
      have em : valL l0 % 10 ^ m = valL z := by
        rw [hvz, HXY.out, e1, Nat.mod_mul, Nat.add_mul_mod_self_left, Nat.mod_eq_of_lt hxlt, Nat.add_mul_div_left _ _ hB0, Nat.div_eq_of_lt hxlt, Nat.zero_add, HLL.out]
      go_ret2
      rw [ed, em]
      refine ⟨v0, v4, rfl, ?_, ?_, HB1.out.trans (hb14.mono HB1.out.size)⟩
      · refine Kd.R_mono (Kd.R_below hq hb14) (fun k_ hk he => ?_)
        have := hr.1 k_ he.symm
        have h3 := HB3.out.size
        omega
      · refine Kd.R_mono (Kd.R_lower hr (Nat.le_trans HB1.out.size HB3.out.size)) (fun k_ hk he => ?_)
        have := hq.1 k_ he.symm
        have h3 := HB3.out.size
        omega
  · rw [if_neg hg] at h; cases h
end Go.Proofs.YtekkpmoppihlaaaDoor.Px
end
section
namespace Go.Proofs.YtekkpmoppihlaaaDoor.Px
open Fig Go.RowKit Go.Proofs.YtekkpmoppihlaaaDoorW.PrintWords Go.Proofs.YtekkpmoppihlaaaDoorW.PrintLast Go.Proofs.YtekkpmoppihlaaaDoorW.PrintMore
attribute [local go_sem] max2_int min2_int max_two min_two max_three min_three max_four min_four   -- for this text's walks alone
attribute [local go_sem] fieldA23_0 fieldA23_1 fieldA23_2
def place_cut.f (a0_0 : Bool) (a0_1 : ByteArray) (a0_2 : Int) (a1 : Int) : Option (List Int × List Int) := (dec_Coef.f a0_0 a0_1 a0_2).bind fun t447 => ((ten_Cut.f t447 (wrap64 (a1 - a0_2))).bind fun bt450 => (some (bt450.1, bt450.2)))
def place_cut.T1 : Bool × List (List Nat × List Nat) := (true, [([], []), ([0], [0]), ([], []), ([], []), ([3], [3]), ([2, 4], [2, 4]), ([1, 5, 1], [1, 5]), ([6], [6]), ([6], [6]), ([7, 6, 0, 1, 2, 3, 4, 5, 6, 7, 8], [7]), ([8, 9, 0, 1, 2, 3, 4, 5, 6, 7, 8, 9], [8])])
def place_cut.B1 : List Nat := [0, 1, 0, 0, 8, 28, 63, 127, 127, 511, 1023]
theorem place_cut.tab1 : rtab .any (opsOf Tryd.f42 1) = place_cut.T1 := by kernel_rfl
theorem place_cut.bits1 : waitsOk place_cut.T1.2 place_cut.B1 = true := by kernel_rfl
set_option maxHeartbeats 8000000 in
set_option maxRecDepth 100000 in
theorem place_cut.calls (a0_0 : Bool) (a0_1 : ByteArray) (a0_2 : Int) (a1 : Int) (r1 : List Int) (r2 : List Int) (w : World) (hG : Fig.Glob w) (h : place_cut.f a0_0 a0_1 a0_2 a1 = some (r1, r2)) :
    Calls Tryd.prog 42 #[.agg #[.bool a0_0, .string a0_1, .int .i64 a0_2], .int .i64 a1] w fun e w' => ∃ v0_ v1_ : Value, e = .returned (.tuple #[v0_, v1_]) ∧ Kd.R (Kd.int .u32) 48 w' w.heap.size (fun k_ => some k_ ≠ (v1_ : Value).ownBlock) v0_ r1 ∧ Kd.R (Kd.int .u32) 48 w' w.heap.size (fun k_ => some k_ ≠ (v0_ : Value).ownBlock) v1_ r2 ∧ Below w.heap.size w w' := by
  have hu23 := Tryd.underlying23
  have HG := Aside0.mk hG
  clear hG
  have HB := Aside0.mk (Below.refl w.heap.size w)
  have H : ((dec_Coef.f a0_0 a0_1 a0_2).bind fun t447 => ((ten_Cut.f t447 (wrap64 (a1 - a0_2))).bind fun bt450 => (some (bt450.1, bt450.2)))) = some (r1, r2) := h
  clear h
  replace H := Option.bind_eq_some_iff.mp H
  obtain ⟨t447, A30, H⟩ := H
  replace H : ((ten_Cut.f t447 (wrap64 (a1 - a0_2))).bind fun bt450 => (some (bt450.1, bt450.2))) = some (r1, r2) := H
  have A3 := Aside0.mk A30
  clear A30
  replace H := Option.bind_eq_some_iff.mp H
  obtain ⟨⟨t450, t451⟩, A40, H⟩ := H
  replace H : (some (t450, t451)) = some (r1, r2) := H
  have A4 := Aside0.mk A40
  clear A40
  simp only [Option.some.injEq, Prod.mk.injEq] at H
  obtain ⟨rfl, rfl⟩ := H
  go_enter Tryd.func42, Tryd.ntmps42
  try go_wp2_with (first | ((with_reducible refine gate_dst (N := 2) rfl ?_); refine box_event ?hg (N := 2) ?hd (cs := #[.bool a0_0, .string a0_1, .int .i64 a0_2]) (t := 23) ?hr ?_; (case hd => rfl); (case hg => rfl); (case hr => first | (go_simp; done) | (go_simp; rfl)); intro gb446 hg w5 hbox hb; have n0_ := Aside0.mk (below_step (by repeat (first | (with_reducible first | exact HB.out | apply below_alloc | apply pw_below_drewN | apply below_drew1) | exact HB.out)) hb); have n1_ := Aside0.mk (hbox); have n2_ := Aside0.mk ((by rw [hg]; exact (below_size (by repeat (first | (with_reducible first | exact HB.out | apply below_alloc | apply pw_below_drewN | apply below_drew1) | exact HB.out))) : w.heap.size ≤ gb446)); have n3_ := Aside0.mk ((by rw [hg]; exact (below_size (by repeat (first | (with_reducible first | exact HB.out | apply below_alloc | apply pw_below_drewN | apply below_drew1) | exact HB.out))) : w.heap.size ≤ gb446)); clear HB; have HB := n0_; have BK446 := n1_; have GW446 := n2_; have GE446 := n3_; clear n0_ n1_ n2_ n3_; clear hb hbox hg))
  (try (rw [drewN_self w5]; generalize hq_ : World.drewN w5 _ = w5; have n0_ : Aside0 (w5.heap[gb446]? = some (.cells #[.bool a0_0, .string a0_1, .int .i64 a0_2] 23 (0, 0))) := ⟨by rw [← hq_]; exact (by (with_reducible repeat (first | refine blk_drewN ?_ _ | refine blk_drew ?_ | refine blk_alloc ?_ _)); exact BK446.out)⟩; have n1_ : Aside0 (Below w.heap.size w w5) := ⟨by rw [← hq_]; exact (by repeat (first | (with_reducible first | exact HB.out | apply below_alloc | apply pw_below_drewN | apply below_drew1 | refine below_set ?_ GE446.out) | exact HB.out))⟩; clear BK446 HB hq_; have BK446 := n0_; have HB := n1_; clear n0_ n1_))
  have n0_ := Aside0.mk (blk_drew BK446.out)
  have n1_ := Aside0.mk (below_drew1 HB.out)
  clear BK446
  clear HB
  have BK446 := n0_
  have HB := n1_
  clear n0_ n1_
  refine start_ (n := 11) (S := fun w' => w'.cell? ⟨gb446, 0, none⟩ = some (.bool a0_0) ∧ w'.cell? ⟨gb446, 1, none⟩ = some (.string a0_1) ∧ w'.cell? ⟨gb446, 2, none⟩ = some (.int .i64 a0_2)) (ds := []) #[false, false, false, false, false, false, false, false, false, false, false] (by kernel_rfl) rfl rfl ⟨(blk_cell BK446.out 0).trans rfl, (blk_cell BK446.out 1).trans rfl, (blk_cell BK446.out 2).trans rfl⟩ (fun hHeld => ?_); refine with_tabW place_cut.tab1 place_cut.bits1 (fun HT_ HW_ => ?_)
  generalize w5.drew = w6 at BK446 HB hHeld ⊢
  refine pure_ (i := 2) (N := some 8) (v := ?_) (a' := ?_) #[false, false, true, false, false, false, false, false, false, false, false] rfl rfl (any_of HT_.out (by kernel_rfl)) (fun _ _ _ h => h) (Or.inl ⟨by rfl, ?_⟩) ?_ ?_
  rotate_left
  · intro w'
    go_simp
    with_reducible rfl
  rotate_left
  · simp only [Act.put, List.setIfInBounds_toArray, List.set_cons_zero, List.set_cons_succ]; (try simp only [i64_w]); (try simp only [i32_w])
    rfl
  refine pure_ (i := 3) (N := some 9) (v := ?_) (a' := ?_) #[false, false, true, true, false, false, false, false, false, false, false] rfl rfl (any_of HT_.out (by kernel_rfl)) (fun _ _ _ h => h) (Or.inl ⟨by rfl, ?_⟩) ?_ ?_
  rotate_left
  · intro w'
    go_simp
    with_reducible rfl
  rotate_left
  · simp only [Act.put, List.setIfInBounds_toArray, List.set_cons_zero, List.set_cons_succ]; (try simp only [i64_w]); (try simp only [i32_w])
    rfl
  refine take_ (i := 0) (N := some 6) (v := ?_) (a' := ?_) #[true, false, true, true, false, false, false, false, false, false, false] rfl rfl (take_ofW HT_.out HW_.out (by kernel_rfl)) (fun _ _ _ h => h) (Or.inl ⟨by rfl, ?_⟩) hHeld ?_ ?_
  rotate_left
  · rintro w' ⟨s0, s1, s2⟩
    go_simp
    with_reducible rfl
  rotate_left
  · simp only [Act.put, List.setIfInBounds_toArray, List.set_cons_zero, List.set_cons_succ]; (try simp only [i64_w]); (try simp only [i32_w])
    rfl
  refine take_ (i := 4) (N := some 10) (v := ?_) (a' := ?_) #[true, false, true, true, true, false, false, false, false, false, false] rfl rfl (take_ofW HT_.out HW_.out (by kernel_rfl)) (fun _ _ _ h => h) (Or.inl ⟨by rfl, ?_⟩) hHeld ?_ ?_
  rotate_left
  · rintro w' ⟨s0, s1, s2⟩
    go_simp
    with_reducible rfl
  rotate_left
  · simp only [Act.put, List.setIfInBounds_toArray, List.set_cons_zero, List.set_cons_succ]; (try simp only [i64_w]); (try simp only [i32_w])
    rfl
  refine pure_ (i := 5) (N := some 11) (v := ?_) (a' := ?_) #[true, false, true, true, true, true, false, false, false, false, false] rfl rfl (any_of HT_.out (by kernel_rfl)) (fun _ _ _ h => h) (Or.inl ⟨by rfl, ?_⟩) ?_ ?_
  rotate_left
  · intro w'
    go_simp
    with_reducible rfl
  rotate_left
  · simp only [Act.put, List.setIfInBounds_toArray, List.set_cons_zero, List.set_cons_succ]; (try simp only [i64_w]); (try simp only [i32_w])
    rfl
  refine one_ (i := 1) (N := some 7) #[true, true, true, true, true, true, false, false, false, false, false] rfl rfl (one_of HT_.out (by kernel_rfl)) (by decide) (fun K hK => ?_)
  refine goes_ Tryd.func22 (by kernel_rfl) rfl #[.agg #[.bool a0_0, .string a0_1, .int .i64 a0_2]] (by rfl) rfl rfl (by (try simp only [List.map_toArray]); (try simp only [List.map_cons]); (try simp only [List.map_nil]); first | done | rfl | (simp only [List.length_drop, List.length_take]; rfl)) ?_
  with_reducible refine (dec_Coef.calls a0_0 a0_1 a0_2 t447 _ A3.out).mono ?_
  rintro e w7 ⟨v448, rfl, ho0, hb⟩
  refine ⟨_, rfl, ?_⟩
  have n0_ := Aside0.mk (Kd.R_lower ho0 (below_size (by repeat (first | (with_reducible first | exact HB.out | apply below_alloc | apply pw_below_drewN | apply below_drew1 | refine below_set ?_ GE446.out) | exact HB.out))))
  have n1_ := Aside0.mk (blk_below (g := gb446) (o := .cells #[.bool a0_0, .string a0_1, .int .i64 a0_2] 23 (0, 0)) (by (with_reducible repeat (first | refine blk_drewN ?_ _ | refine blk_drew ?_ | refine blk_alloc ?_ _)); exact BK446.out) hb)
  have n2_ := Aside0.mk (below_step (by repeat (first | (with_reducible first | exact HB.out | apply below_alloc | apply pw_below_drewN | apply below_drew1 | refine below_set ?_ GE446.out) | exact HB.out)) hb)
  clear BK446
  clear HB
  have HO449 := n0_
  have BK446 := n1_
  have HB := n2_
  clear n0_ n1_ n2_
  (try clear hb)
  (try clear hb2)
  (try clear hk)
  (try clear hi)
  (try clear ho0)
  obtain ⟨Ao8, co8, eo8⟩ := Kd.R_slice HO449.out
  (first | subst eo8 | (injection eo8 with f1_ f2_ f3_; have f4_ := f1_.symm; have f5_ := f3_.symm; clear f1_ f2_ f3_; subst f4_; subst f5_))
  refine hK.out _ _ ⟨(blk_cell BK446.out 0).trans rfl, (blk_cell BK446.out 1).trans rfl, (blk_cell BK446.out 2).trans rfl⟩ (fun hHeld => ?_)
  clear hK K
  refine norm_ (a' := ?_) ?_ ?_
  rotate_left
  · show Act.put _ (some 7) _ = _
    simp only [Act.put, List.setIfInBounds_toArray, List.set_cons_zero, List.set_cons_succ]; (try simp only [i64_w]); (try simp only [i32_w])
    rfl
  refine one_ (i := 6) (N := some 12) #[true, true, true, true, true, true, true, false, false, false, false] rfl rfl (one_of HT_.out (by kernel_rfl)) (by decide) (fun K hK => ?_)
  refine goes_ Tryd.func59 (by kernel_rfl) rfl #[.slice Ao8 t447.length co8, .int .i64 (wrap64 (a1 - a0_2))] (by rfl) rfl rfl (by (try simp only [List.map_toArray]); (try simp only [List.map_cons]); (try simp only [List.map_nil]); first | done | rfl | (simp only [List.length_drop, List.length_take]; rfl)) ?_
  with_reducible refine (ten_Cut.calls _ _ t447 (wrap64 (a1 - a0_2)) t450 t451 _ ?side1 ?side2 ?side3 A4.out).mono ?_
  (case side1 => exact Fig.Glob.below HG.out (by repeat (first | (with_reducible first | exact HB.out | apply below_alloc | apply pw_below_drewN | apply below_drew1 | refine below_set ?_ GE446.out) | exact HB.out)))
  (case side2 => repeat (first | exact (Kd.R_reads' HO449.out).2.2 | (with_reducible refine Kd.C_alloc ?_ _) | (with_reducible refine Kd.C_drewN ?_ _) | (with_reducible refine Kd.C_drew ?_)))
  (case side3 => exact (Kd.R_reads' HO449.out).2.1)
  rintro e w9 ⟨v452, v454, rfl, ho0, ho1, hb⟩
  refine ⟨_, rfl, ?_⟩
  have n0_ := Aside0.mk (Kd.R_mono (Kd.R_told (Kd.R_told (Kd.R_old (by (with_reducible repeat (first | apply Kd.R_alloc | apply Kd.R_drewN | apply Kd.R_drew)); exact HO449.out) hb) (Kd.R_base ho0)) (Kd.R_base ho1)) (fun _ h_ => h_.1))
  have n1_ := Aside0.mk (Kd.R_lower (Kd.R_new' ho0 (Kd.R_lt (by (with_reducible repeat (first | apply Kd.R_alloc | apply Kd.R_drewN | apply Kd.R_drew)); exact HO449.out))) (below_size (by repeat (first | (with_reducible first | exact HB.out | apply below_alloc | apply pw_below_drewN | apply below_drew1 | refine below_set ?_ GE446.out) | exact HB.out))))
  have n2_ := Aside0.mk (Kd.R_lower (Kd.R_new' ho1 (Kd.R_lt (by (with_reducible repeat (first | apply Kd.R_alloc | apply Kd.R_drewN | apply Kd.R_drew)); exact HO449.out))) (below_size (by repeat (first | (with_reducible first | exact HB.out | apply below_alloc | apply pw_below_drewN | apply below_drew1 | refine below_set ?_ GE446.out) | exact HB.out))))
  have n3_ := Aside0.mk (blk_below (g := gb446) (o := .cells #[.bool a0_0, .string a0_1, .int .i64 a0_2] 23 (0, 0)) (by (with_reducible repeat (first | refine blk_drewN ?_ _ | refine blk_drew ?_ | refine blk_alloc ?_ _)); exact BK446.out) hb)
  have n4_ := Aside0.mk (below_step (by repeat (first | (with_reducible first | exact HB.out | apply below_alloc | apply pw_below_drewN | apply below_drew1 | refine below_set ?_ GE446.out) | exact HB.out)) hb)
  clear HO449
  clear BK446
  clear HB
  have HO449 := n0_
  have HO453 := n1_
  have HO455 := n2_
  have BK446 := n3_
  have HB := n4_
  clear n0_ n1_ n2_ n3_ n4_
  (try clear hb)
  (try clear hb2)
  (try clear hk)
  (try clear hi)
  (try clear ho0)
  (try clear ho1)
  refine hK.out _ _ ⟨(blk_cell BK446.out 0).trans rfl, (blk_cell BK446.out 1).trans rfl, (blk_cell BK446.out 2).trans rfl⟩ (fun hHeld => ?_)
  clear hK K
  refine norm_ (a' := ?_) ?_ ?_
  rotate_left
  · show Act.put _ (some 12) _ = _
    simp only [Act.put, List.setIfInBounds_toArray, List.set_cons_zero, List.set_cons_succ]; (try simp only [i64_w]); (try simp only [i32_w])
    rfl
  refine pure_ (i := 7) (N := some 13) (v := ?_) (a' := ?_) #[true, true, true, true, true, true, true, true, false, false, false] rfl rfl (any_of HT_.out (by kernel_rfl)) (fun _ _ _ h => h) (Or.inl ⟨by rfl, ?_⟩) ?_ ?_
  rotate_left
  · intro w'
    go_simp
    with_reducible rfl
  rotate_left
  · simp only [Act.put, List.setIfInBounds_toArray, List.set_cons_zero, List.set_cons_succ]; (try simp only [i64_w]); (try simp only [i32_w])
    rfl
  refine pure_ (i := 8) (N := some 14) (v := ?_) (a' := ?_) #[true, true, true, true, true, true, true, true, true, false, false] rfl rfl (any_of HT_.out (by kernel_rfl)) (fun _ _ _ h => h) (Or.inl ⟨by rfl, ?_⟩) ?_ ?_
  rotate_left
  · intro w'
    go_simp
    with_reducible rfl
  rotate_left
  · simp only [Act.put, List.setIfInBounds_toArray, List.set_cons_zero, List.set_cons_succ]; (try simp only [i64_w]); (try simp only [i32_w])
    rfl
  refine pure_ (i := 9) (N := some 4) (v := ?_) (a' := ?_) #[true, true, true, true, true, true, true, true, true, true, false] rfl rfl (any_of HT_.out (by kernel_rfl)) (fun _ _ _ h => h) (Or.inl ⟨by rfl, ?_⟩) ?_ ?_
  rotate_left
  · intro w'
    go_simp
    with_reducible rfl
  rotate_left
  · simp only [Act.put, List.setIfInBounds_toArray, List.set_cons_zero, List.set_cons_succ]; (try simp only [i64_w]); (try simp only [i32_w])
    rfl
  refine pure_ (i := 10) (N := some 5) (v := ?_) (a' := ?_) #[true, true, true, true, true, true, true, true, true, true, true] rfl rfl (any_of HT_.out (by kernel_rfl)) (fun _ _ _ h => h) (Or.inl ⟨by rfl, ?_⟩) ?_ ?_
  rotate_left
  · intro w'
    go_simp
    with_reducible rfl
  rotate_left
  · simp only [Act.put, List.setIfInBounds_toArray, List.set_cons_zero, List.set_cons_succ]; (try simp only [i64_w]); (try simp only [i32_w])
    rfl
  refine done_ (done_of HT_.out (by kernel_rfl)) ?_
  try go_wp2
  go_ret2
  exact ⟨_, _, by first | rfl | (simp [errW_none, errW_some] <;> rfl) | (simp [*, errW_none, errW_some] <;> rfl), by (with_reducible repeat (first | apply Kd.R_alloc | apply Kd.R_drewN | apply Kd.R_drew)); exact Kd.R_mono HO453.out (fun _ hk => hk.1), by (with_reducible repeat (first | apply Kd.R_alloc | apply Kd.R_drewN | apply Kd.R_drew)); exact Kd.R_mono HO455.out (fun _ hk => hk.1), by repeat (first | (with_reducible first | exact HB.out | apply below_alloc | apply pw_below_drewN | apply below_drew1 | refine below_set ?_ GE446.out) | exact HB.out)⟩
end Go.Proofs.YtekkpmoppihlaaaDoor.Px
end
section
namespace Go.Proofs.YtekkpmoppihlaaaDoor.Px
open Fig Go.RowKit Go.Proofs.YtekkpmoppihlaaaDoorW.PrintWords Go.Proofs.YtekkpmoppihlaaaDoorW.PrintLast Go.Proofs.YtekkpmoppihlaaaDoorW.PrintMore
attribute [local go_sem] max2_int min2_int max_two min_two max_three min_three max_four min_four   -- for this text's walks alone
attribute [local go_sem] fieldA23_0 fieldA23_1 fieldA23_2
def place_Fits.f (a0_0 : Bool) (a0_1 : ByteArray) (a0_2 : Int) (a1 : Int) : Option (Bool) := if a1 ≤ a0_2 then (some true) else ((place_cut.f a0_0 a0_1 a0_2 a1).bind fun bt457 => (some ((bt457.2.length : Int) == 0)))
set_option maxHeartbeats 8000000 in
set_option maxRecDepth 100000 in
theorem place_Fits.calls (a0_0 : Bool) (a0_1 : ByteArray) (a0_2 : Int) (a1 : Int) (r : Bool) (w : World) (hG : Fig.Glob w) (h : place_Fits.f a0_0 a0_1 a0_2 a1 = some r) :
    Calls Tryd.prog 41 #[.agg #[.bool a0_0, .string a0_1, .int .i64 a0_2], .int .i64 a1] w fun e w' => e = .returned (.bool r) ∧ Below w.heap.size w w' := by
  have hu23 := Tryd.underlying23
  have HG := Aside0.mk hG
  clear hG
  have HB := Aside0.mk (Below.refl w.heap.size w)
  have H : (if a1 ≤ a0_2 then (some true) else ((place_cut.f a0_0 a0_1 a0_2 a1).bind fun bt457 => (some ((bt457.2.length : Int) == 0)))) = some r := h
  clear h
  by_cases c3 : a1 ≤ a0_2
  · rw [if_pos c3] at H
    have c3b0 : decide (a1 ≤ a0_2) = true := decide_eq_true c3
    clear c3
    obtain rfl := Option.some.inj H
    go_enter Tryd.func41, Tryd.ntmps41
    go_wp2_with (first | ((with_reducible refine gate_dst (N := 2) rfl ?_); refine box_event ?hg (N := 2) ?hd (cs := #[.bool a0_0, .string a0_1, .int .i64 a0_2]) (t := 23) ?hr ?_; (case hd => rfl); (case hg => rfl); (case hr => first | (go_simp; done) | (go_simp; rfl)); intro gb456 hg w4 hbox hb; have n0_ := Aside0.mk (below_step (by repeat (first | (with_reducible first | exact HB.out | apply below_alloc | apply pw_below_drewN | apply below_drew1) | exact HB.out)) hb); have n1_ := Aside0.mk (hbox); have n2_ := Aside0.mk ((by rw [hg]; exact (below_size (by repeat (first | (with_reducible first | exact HB.out | apply below_alloc | apply pw_below_drewN | apply below_drew1) | exact HB.out))) : w.heap.size ≤ gb456)); have n3_ := Aside0.mk ((by rw [hg]; exact (below_size (by repeat (first | (with_reducible first | exact HB.out | apply below_alloc | apply pw_below_drewN | apply below_drew1) | exact HB.out))) : w.heap.size ≤ gb456)); clear HB; have HB := n0_; have BK456 := n1_; have GW456 := n2_; have GE456 := n3_; clear n0_ n1_ n2_ n3_; clear hb hbox hg; have hcz5_0 : w4.cell? ⟨gb456, 0, none⟩ = some (.bool a0_0) := (blk_cell BK456.out 0).trans rfl; have hcz5_1 : w4.cell? ⟨gb456, 1, none⟩ = some (.string a0_1) := (blk_cell BK456.out 1).trans rfl; have hcz5_2 : w4.cell? ⟨gb456, 2, none⟩ = some (.int .i64 a0_2) := (blk_cell BK456.out 2).trans rfl; have hfz5_0 := blk_frozen BK456.out 0; have hfz5_1 := blk_frozen BK456.out 1; have hfz5_2 := blk_frozen BK456.out 2))
    go_ret
    exact ⟨by first | rfl | (simp [errW_none, errW_some] <;> rfl) | (simp [*, errW_none, errW_some] <;> rfl), by repeat (first | (with_reducible first | exact HB.out | apply below_alloc | apply pw_below_drewN | apply below_drew1 | refine below_set ?_ GE456.out) | exact HB.out)⟩
  · rw [if_neg c3] at H
    have c3b0 : decide (a1 ≤ a0_2) = false := decide_eq_false c3
    clear c3
    replace H := Option.bind_eq_some_iff.mp H
    obtain ⟨⟨t457, t460⟩, A60, H⟩ := H
    replace H : (some ((t460.length : Int) == 0)) = some r := H
    have A6 := Aside0.mk A60
    clear A60
    obtain rfl := Option.some.inj H
    go_enter Tryd.func41, Tryd.ntmps41
    go_wp2_with (first | ((with_reducible refine gate_dst (N := 2) rfl ?_); refine box_event ?hg (N := 2) ?hd (cs := #[.bool a0_0, .string a0_1, .int .i64 a0_2]) (t := 23) ?hr ?_; (case hd => rfl); (case hg => rfl); (case hr => first | (go_simp; done) | (go_simp; rfl)); intro gb456 hg w7 hbox hb; have n0_ := Aside0.mk (below_step (by repeat (first | (with_reducible first | exact HB.out | apply below_alloc | apply pw_below_drewN | apply below_drew1) | exact HB.out)) hb); have n1_ := Aside0.mk (hbox); have n2_ := Aside0.mk ((by rw [hg]; exact (below_size (by repeat (first | (with_reducible first | exact HB.out | apply below_alloc | apply pw_below_drewN | apply below_drew1) | exact HB.out))) : w.heap.size ≤ gb456)); have n3_ := Aside0.mk ((by rw [hg]; exact (below_size (by repeat (first | (with_reducible first | exact HB.out | apply below_alloc | apply pw_below_drewN | apply below_drew1) | exact HB.out))) : w.heap.size ≤ gb456)); clear HB; have HB := n0_; have BK456 := n1_; have GW456 := n2_; have GE456 := n3_; clear n0_ n1_ n2_ n3_; clear hb hbox hg; have hcz8_0 : w7.cell? ⟨gb456, 0, none⟩ = some (.bool a0_0) := (blk_cell BK456.out 0).trans rfl; have hcz8_1 : w7.cell? ⟨gb456, 1, none⟩ = some (.string a0_1) := (blk_cell BK456.out 1).trans rfl; have hcz8_2 : w7.cell? ⟨gb456, 2, none⟩ = some (.int .i64 a0_2) := (blk_cell BK456.out 2).trans rfl; have hfz8_0 := blk_frozen BK456.out 0; have hfz8_1 := blk_frozen BK456.out 1; have hfz8_2 := blk_frozen BK456.out 2) | ((with_reducible refine gate_callee (f := 42) rfl ?_); refine goesL_ (some 14) rfl rfl Tryd.func42 (by kernel_rfl) rfl #[.agg #[.bool a0_0, .string a0_1, .int .i64 a0_2], .int .i64 a1] rfl (by (try simp only [List.map_toArray]); (try simp only [List.map_cons]); (try simp only [List.map_nil]); first | done | rfl | (simp only [List.length_drop, List.length_take]; rfl)) ?_; (with_reducible refine (place_cut.calls a0_0 a0_1 a0_2 a1 t457 t460 _ ?side1 A6.out).mono ?_); (case side1 => exact Fig.Glob.below HG.out (by repeat (first | (with_reducible first | exact HB.out | apply below_alloc | apply pw_below_drewN | apply below_drew1 | refine below_set ?_ GE456.out) | exact HB.out))); rintro e w9 ⟨v458, v461, rfl, ho0, ho1, hb⟩; refine ⟨_, rfl, ?_⟩; have n0_ := Aside0.mk (Kd.R_lower ho0 (below_size (by repeat (first | (with_reducible first | exact HB.out | apply below_alloc | apply pw_below_drewN | apply below_drew1 | refine below_set ?_ GE456.out) | exact HB.out)))); have n1_ := Aside0.mk (Kd.R_lower ho1 (below_size (by repeat (first | (with_reducible first | exact HB.out | apply below_alloc | apply pw_below_drewN | apply below_drew1 | refine below_set ?_ GE456.out) | exact HB.out)))); have n2_ := Aside0.mk (blk_below (g := gb456) (o := .cells #[.bool a0_0, .string a0_1, .int .i64 a0_2] 23 (0, 0)) (by (with_reducible repeat (first | refine blk_drewN ?_ _ | refine blk_drew ?_ | refine blk_alloc ?_ _)); exact BK456.out) hb); have n3_ := Aside0.mk (below_step (by repeat (first | (with_reducible first | exact HB.out | apply below_alloc | apply pw_below_drewN | apply below_drew1 | refine below_set ?_ GE456.out) | exact HB.out)) hb); clear BK456; clear HB; have HO459 := n0_; have HO462 := n1_; have BK456 := n2_; have HB := n3_; clear n0_ n1_ n2_ n3_; (try clear hb); (try clear hb2); (try clear hk); (try clear hi); (try clear ho0); (try clear ho1); obtain ⟨Ao10, co10, eo10⟩ := Kd.R_slice HO462.out; subst eo10))
    go_ret
    exact ⟨by first | rfl | (simp [errW_none, errW_some] <;> rfl) | (simp [*, errW_none, errW_some] <;> rfl), by repeat (first | (with_reducible first | exact HB.out | apply below_alloc | apply pw_below_drewN | apply below_drew1 | refine below_set ?_ GE456.out) | exact HB.out)⟩
end Go.Proofs.YtekkpmoppihlaaaDoor.Px
end
section
namespace Go.Proofs.YtekkpmoppihlaaaDoor.Px
open Fig Go.RowKit Go.Proofs.YtekkpmoppihlaaaDoorW.PrintWords Go.Proofs.YtekkpmoppihlaaaDoorW.PrintLast Go.Proofs.YtekkpmoppihlaaaDoorW.PrintMore
attribute [local go_sem] max2_int min2_int max_two min_two max_three min_three max_four min_four   -- for this text's walks alone
attribute [local go_sem] fieldA23_0 fieldA23_1 fieldA23_2
def place_Round.j0 : Nat → Int → List Int → Bool → Bool → ByteArray → Int → Option (Bool × ByteArray × Int × Int)
  | 0, _, _, _, _, _, _ => none
  | k + 1, x2, x8, x56, x464000, x464001, x464002 => if x56 = true then ((nat_Add.f x8 (([1] : List Int))).bind fun t492 => ((ten_Digits.f t492).bind fun t495 => ((dec_Norm.f x464000 t495 x2).bind fun bt496 => (some (bt496.1, bt496.2.1, bt496.2.2, 0))))) else ((ten_Digits.f x8).bind fun t499 => ((dec_Norm.f x464000 t499 x2).bind fun bt500 => (some (bt500.1, bt500.2.1, bt500.2.2, 0))))
def place_Round.f (k : Nat) (a0 : Int) (a1_0 : Bool) (a1_1 : ByteArray) (a1_2 : Int) (a2 : Int) : Option (Bool × ByteArray × Int × Int) := (mode_Good.f a0).bind fun t465 => (if t465 = true then ((place_Fits.f a1_0 a1_1 a1_2 a2).bind fun t466 => (if t466 = true then ((dec_Norm.f a1_0 a1_1 a1_2).bind fun bt467 => (some (bt467.1, bt467.2.1, bt467.2.2, 0))) else (if a0 = 7 then (some (false, (⟨#[]⟩ : ByteArray), 0, 11)) else ((place_cut.f a1_0 a1_1 a1_2 a2).bind fun bt470 => ((nat_Add.f bt470.2 bt470.2).bind fun t476 => ((ten_Shift.f (([1] : List Int)) (wrap64 (a2 - a1_2))).bind fun t482 => ((nat_Cmp.f t476 t482).bind fun t485 => (if (bt470.1.length : Int) > 0 then (if 0 < (bt470.1.length : Int) then ((mode_Away.f a0 a1_0 ((Int.tmod (rd bt470.1 0) 2) == 1) t485).bind fun t487 => (place_Round.j0 k a2 bt470.1 t487 a1_0 a1_1 a1_2)) else (none)) else ((mode_Away.f a0 a1_0 false t485).bind fun t488 => (place_Round.j0 k a2 bt470.1 t488 a1_0 a1_1 a1_2)))))))))) else (some (false, (⟨#[]⟩ : ByteArray), 0, 1)))
theorem place_Round.mono_l : ∀ k, (∀ y0 y1 y2 y3 y4 y5, LeO (place_Round.j0 k y0 y1 y2 y3 y4 y5) (place_Round.j0 (k + 1) y0 y1 y2 y3 y4 y5))
  | 0 => fun _ _ _ _ _ _ r h => by simp [place_Round.j0] at h
  | k + 1 => by
    have ih0 := place_Round.mono_l k
    · intro y0 y1 y2 y3 y4 y5
      unfold place_Round.j0
      repeat' first
      | (with_reducible exact ih0 _ _ _ _ _ _)
      | (with_reducible exact LeO.refl _)
      | (with_reducible exact LeO.none _)
      | (with_reducible refine LeO.ite ?_ ?_)
      | (with_reducible refine LeO.bind ?_ (fun _ => ?_))
      | exact ih0 _ _ _ _ _ _
      | exact LeO.none _
      | refine LeO.ite ?_ ?_
      | refine LeO.bind ?_ (fun _ => ?_)
theorem place_Round.mono : ∀ a0 a1 a2 a3 a4 k, LeO (place_Round.f k a0 a1 a2 a3 a4) (place_Round.f (k + 1) a0 a1 a2 a3 a4) := by
  intro a0 a1 a2 a3 a4 k
  have ih0 := place_Round.mono_l k
  unfold place_Round.f
  repeat' first
      | (with_reducible exact ih0 _ _ _ _ _ _)
      | (with_reducible exact LeO.refl _)
      | (with_reducible exact LeO.none _)
      | (with_reducible refine LeO.ite ?_ ?_)
      | (with_reducible refine LeO.bind ?_ (fun _ => ?_))
      | exact ih0 _ _ _ _ _ _
      | exact LeO.none _
      | refine LeO.ite ?_ ?_
      | refine LeO.bind ?_ (fun _ => ?_)
def place_Round.T8 : Bool × List (List Nat × List Nat) := (true, [([], []), ([], []), ([0, 1], [0, 1]), ([], []), ([], []), ([], []), ([5], [5]), ([4, 6], [4, 6]), ([3, 7, 2], [3, 7]), ([2, 8, 8], [2, 8]), ([9, 9, 0, 1, 2, 3, 4, 5, 6, 7, 8, 9], [9])])
def place_Round.B8 : List Nat := [0, 0, 3, 0, 0, 0, 32, 112, 255, 511, 1023]
theorem place_Round.tab8 : rtab .any (opsOf Tryd.f16 8) = place_Round.T8 := by kernel_rfl
theorem place_Round.bits8 : waitsOk place_Round.T8.2 place_Round.B8 = true := by kernel_rfl
def place_Round.T9 : Bool × List (List Nat × List Nat) := (true, [([], []), ([], []), ([1], [1]), ([], []), ([3], [3]), ([4], [4]), ([5], [5]), ([6], [6]), ([7, 6], [6, 7]), ([8, 6], [6, 8]), ([9, 6], [6, 9]), ([10, 6], [6, 10]), ([6, 11], [6, 11]), ([], []), ([0, 2, 12, 13, 6], [0, 2, 12, 13])])
def place_Round.B9 : List Nat := [0, 0, 2, 0, 8, 24, 56, 120, 248, 504, 1016, 2040, 4088, 0, 16383]
theorem place_Round.tab9 : rtab .any (opsOf Tryd.f16 9) = place_Round.T9 := by kernel_rfl
theorem place_Round.bits9 : waitsOk place_Round.T9.2 place_Round.B9 = true := by kernel_rfl
def place_Round.T11 : Bool × List (List Nat × List Nat) := (true, [([], []), ([0], [0]), ([], []), ([2], [2]), ([], []), ([1, 3, 4], [1, 3, 4]), ([5, 3], [5]), ([6, 6, 0, 1, 2, 3, 4, 5, 6], [6]), ([7, 0, 1, 2, 3, 4, 5, 6, 7], [])])
def place_Round.B11 : List Nat := [0, 1, 0, 4, 0, 31, 63, 127, 255]
theorem place_Round.tab11 : rtab .any (opsOf Tryd.f16 11) = place_Round.T11 := by kernel_rfl
theorem place_Round.bits11 : waitsOk place_Round.T11.2 place_Round.B11 = true := by kernel_rfl
set_option maxHeartbeats 8000000 in
set_option maxRecDepth 100000 in
theorem place_Round.calls (k : Nat) (a0 : Int) (a1_0 : Bool) (a1_1 : ByteArray) (a1_2 : Int) (a2 : Int) (r1 : Bool) (r2 : ByteArray) (r3 : Int) (r4 : Int) (w : World) (hG : Fig.Glob w) (h : place_Round.f k a0 a1_0 a1_1 a1_2 a2 = some (r1, r2, r3, r4)) :
    Calls Tryd.prog 16 #[.int .i64 a0, .agg #[.bool a1_0, .string a1_1, .int .i64 a1_2], .int .i64 a2] w fun e w' => e = .returned (.tuple #[.agg #[.bool r1, .string r2, .int .i64 r3], .int .i64 r4]) ∧ Below w.heap.size w w' := by
  have hu23 := Tryd.underlying23
  have HG := Aside0.mk hG
  clear hG
  have HB := Aside0.mk (Below.refl w.heap.size w)
  have H : ((mode_Good.f a0).bind fun t465 => (if t465 = true then ((place_Fits.f a1_0 a1_1 a1_2 a2).bind fun t466 => (if t466 = true then ((dec_Norm.f a1_0 a1_1 a1_2).bind fun bt467 => (some (bt467.1, bt467.2.1, bt467.2.2, 0))) else (if a0 = 7 then (some (false, (⟨#[]⟩ : ByteArray), 0, 11)) else ((place_cut.f a1_0 a1_1 a1_2 a2).bind fun bt470 => ((nat_Add.f bt470.2 bt470.2).bind fun t476 => ((ten_Shift.f (([1] : List Int)) (wrap64 (a2 - a1_2))).bind fun t482 => ((nat_Cmp.f t476 t482).bind fun t485 => (if (bt470.1.length : Int) > 0 then (if 0 < (bt470.1.length : Int) then ((mode_Away.f a0 a1_0 ((Int.tmod (rd bt470.1 0) 2) == 1) t485).bind fun t487 => (place_Round.j0 k a2 bt470.1 t487 a1_0 a1_1 a1_2)) else (none)) else ((mode_Away.f a0 a1_0 false t485).bind fun t488 => (place_Round.j0 k a2 bt470.1 t488 a1_0 a1_1 a1_2)))))))))) else (some (false, (⟨#[]⟩ : ByteArray), 0, 1)))) = some (r1, r2, r3, r4) := h
  clear h
  replace H := Option.bind_eq_some_iff.mp H
  obtain ⟨t465, A40, H⟩ := H
  replace H : (if t465 = true then ((place_Fits.f a1_0 a1_1 a1_2 a2).bind fun t466 => (if t466 = true then ((dec_Norm.f a1_0 a1_1 a1_2).bind fun bt467 => (some (bt467.1, bt467.2.1, bt467.2.2, 0))) else (if a0 = 7 then (some (false, (⟨#[]⟩ : ByteArray), 0, 11)) else ((place_cut.f a1_0 a1_1 a1_2 a2).bind fun bt470 => ((nat_Add.f bt470.2 bt470.2).bind fun t476 => ((ten_Shift.f (([1] : List Int)) (wrap64 (a2 - a1_2))).bind fun t482 => ((nat_Cmp.f t476 t482).bind fun t485 => (if (bt470.1.length : Int) > 0 then (if 0 < (bt470.1.length : Int) then ((mode_Away.f a0 a1_0 ((Int.tmod (rd bt470.1 0) 2) == 1) t485).bind fun t487 => (place_Round.j0 k a2 bt470.1 t487 a1_0 a1_1 a1_2)) else (none)) else ((mode_Away.f a0 a1_0 false t485).bind fun t488 => (place_Round.j0 k a2 bt470.1 t488 a1_0 a1_1 a1_2)))))))))) else (some (false, (⟨#[]⟩ : ByteArray), 0, 1))) = some (r1, r2, r3, r4) := H
  have A4 := Aside0.mk A40
  clear A40
  by_cases c5 : t465 = true
  · subst c5
    have H1 : ((place_Fits.f a1_0 a1_1 a1_2 a2).bind fun t466 => (if t466 = true then ((dec_Norm.f a1_0 a1_1 a1_2).bind fun bt467 => (some (bt467.1, bt467.2.1, bt467.2.2, 0))) else (if a0 = 7 then (some (false, (⟨#[]⟩ : ByteArray), 0, 11)) else ((place_cut.f a1_0 a1_1 a1_2 a2).bind fun bt470 => ((nat_Add.f bt470.2 bt470.2).bind fun t476 => ((ten_Shift.f (([1] : List Int)) (wrap64 (a2 - a1_2))).bind fun t482 => ((nat_Cmp.f t476 t482).bind fun t485 => (if (bt470.1.length : Int) > 0 then (if 0 < (bt470.1.length : Int) then ((mode_Away.f a0 a1_0 ((Int.tmod (rd bt470.1 0) 2) == 1) t485).bind fun t487 => (place_Round.j0 k a2 bt470.1 t487 a1_0 a1_1 a1_2)) else (none)) else ((mode_Away.f a0 a1_0 false t485).bind fun t488 => (place_Round.j0 k a2 bt470.1 t488 a1_0 a1_1 a1_2)))))))))) = some (r1, r2, r3, r4) := by rw [if_pos rfl] at H; exact H
    clear H
    have H := H1
    clear H1
    replace H := Option.bind_eq_some_iff.mp H
    obtain ⟨t466, A60, H⟩ := H
    replace H : (if t466 = true then ((dec_Norm.f a1_0 a1_1 a1_2).bind fun bt467 => (some (bt467.1, bt467.2.1, bt467.2.2, 0))) else (if a0 = 7 then (some (false, (⟨#[]⟩ : ByteArray), 0, 11)) else ((place_cut.f a1_0 a1_1 a1_2 a2).bind fun bt470 => ((nat_Add.f bt470.2 bt470.2).bind fun t476 => ((ten_Shift.f (([1] : List Int)) (wrap64 (a2 - a1_2))).bind fun t482 => ((nat_Cmp.f t476 t482).bind fun t485 => (if (bt470.1.length : Int) > 0 then (if 0 < (bt470.1.length : Int) then ((mode_Away.f a0 a1_0 ((Int.tmod (rd bt470.1 0) 2) == 1) t485).bind fun t487 => (place_Round.j0 k a2 bt470.1 t487 a1_0 a1_1 a1_2)) else (none)) else ((mode_Away.f a0 a1_0 false t485).bind fun t488 => (place_Round.j0 k a2 bt470.1 t488 a1_0 a1_1 a1_2))))))))) = some (r1, r2, r3, r4) := H
    have A6 := Aside0.mk A60
    clear A60
    by_cases c7 : t466 = true
    · subst c7
      have H1 : ((dec_Norm.f a1_0 a1_1 a1_2).bind fun bt467 => (some (bt467.1, bt467.2.1, bt467.2.2, 0))) = some (r1, r2, r3, r4) := by rw [if_pos rfl] at H; exact H
      clear H
      have H := H1
      clear H1
      replace H := Option.bind_eq_some_iff.mp H
      obtain ⟨⟨t467, t468, t469⟩, A80, H⟩ := H
      replace H : (some (t467, t468, t469, 0)) = some (r1, r2, r3, r4) := H
      have A8 := Aside0.mk A80
      clear A80
      simp only [Option.some.injEq, Prod.mk.injEq] at H
      obtain ⟨rfl, rfl, rfl, rfl⟩ := H
      go_enter Tryd.func16, Tryd.ntmps16
      go_wp2_with (first | ((with_reducible refine gate_dst (N := 4) rfl ?_); refine box_event ?hg (N := 4) ?hd (cs := #[.bool a1_0, .string a1_1, .int .i64 a1_2]) (t := 23) ?hr ?_; (case hd => rfl); (case hg => rfl); (case hr => first | (go_simp; done) | (go_simp; rfl)); intro gb463 hg w9 hbox hb; have n0_ := Aside0.mk (below_step (by repeat (first | (with_reducible first | exact HB.out | apply below_alloc | apply pw_below_drewN | apply below_drew1) | exact HB.out)) hb); have n1_ := Aside0.mk (hbox); have n2_ := Aside0.mk ((by rw [hg]; exact (below_size (by repeat (first | (with_reducible first | exact HB.out | apply below_alloc | apply pw_below_drewN | apply below_drew1) | exact HB.out))) : w.heap.size ≤ gb463)); have n3_ := Aside0.mk ((by rw [hg]; exact (below_size (by repeat (first | (with_reducible first | exact HB.out | apply below_alloc | apply pw_below_drewN | apply below_drew1) | exact HB.out))) : w.heap.size ≤ gb463)); clear HB; have HB := n0_; have BK463 := n1_; have GW463 := n2_; have GE463 := n3_; clear n0_ n1_ n2_ n3_; clear hb hbox hg) | ((with_reducible refine gate_dst (N := 6) rfl ?_); refine box_event ?hg (N := 6) ?hd (cs := #[.bool false, .string (⟨#[]⟩ : ByteArray), .int .i64 0]) (t := 23) ?hr ?_; (case hd => rfl); (case hg => rfl); (case hr => first | (go_simp; done) | (go_simp; rfl)); intro gb464 hg w10 hbox hb; have n0_ := Aside0.mk (blk_below (g := gb463) (o := .cells #[.bool a1_0, .string a1_1, .int .i64 a1_2] 23 (0, 0)) (by (with_reducible repeat (first | refine blk_drewN ?_ _ | refine blk_drew ?_ | refine blk_alloc ?_ _)); exact BK463.out) hb); have n1_ := Aside0.mk (below_step (by repeat (first | (with_reducible first | exact HB.out | apply below_alloc | apply pw_below_drewN | apply below_drew1 | refine below_set ?_ GE463.out) | exact HB.out)) hb); have n2_ := Aside0.mk (hbox); have n3_ := Aside0.mk ((by rw [hg]; exact (below_size (by repeat (first | (with_reducible first | exact HB.out | apply below_alloc | apply pw_below_drewN | apply below_drew1 | refine below_set ?_ GE463.out) | exact HB.out))) : w.heap.size ≤ gb464)); have n4_ := Aside0.mk ((by rw [hg]; exact (below_size (by repeat (first | (with_reducible first | exact HB.out | apply below_alloc | apply pw_below_drewN | apply below_drew1 | refine below_set ?_ GE463.out) | exact HB.out))) : w.heap.size ≤ gb464)); have n5_ := Aside0.mk ((by rw [hg]; exact Nat.ne_of_lt (blk_lt (g := gb463) (o := .cells #[.bool a1_0, .string a1_1, .int .i64 a1_2] 23 (0, 0)) (by (with_reducible repeat (first | refine blk_drewN ?_ _ | refine blk_drew ?_ | refine blk_alloc ?_ _)); exact BK463.out)) : gb463 ≠ gb464)); have n6_ := Aside0.mk ((by rw [hg]; exact Nat.ne_of_gt (blk_lt (g := gb463) (o := .cells #[.bool a1_0, .string a1_1, .int .i64 a1_2] 23 (0, 0)) (by (with_reducible repeat (first | refine blk_drewN ?_ _ | refine blk_drew ?_ | refine blk_alloc ?_ _)); exact BK463.out)) : gb464 ≠ gb463)); clear BK463; clear HB; have BK463 := n0_; have HB := n1_; have BK464 := n2_; have GW464 := n3_; have GE464 := n4_; have NB463_464 := n5_; have NB464_463 := n6_; clear n0_ n1_ n2_ n3_ n4_ n5_ n6_; clear hb hbox hg) | ((with_reducible refine gate_callee (f := 19) rfl ?_); refine goesL_ (some 13) rfl rfl Tryd.func19 (by kernel_rfl) rfl #[.int .i64 a0] rfl (by (try simp only [List.map_toArray]); (try simp only [List.map_cons]); (try simp only [List.map_nil]); first | done | rfl | (simp only [List.length_drop, List.length_take]; rfl)) ?_; (with_reducible refine (mode_Good.calls a0 true _ A4.out).mono ?_); rintro e w' ⟨rfl, ⟨nd, rfl⟩⟩; refine ⟨_, rfl, ?_⟩; (try (rw [drewN_self w10]; generalize hq_ : World.drewN w10 _ = w10; have n0_ : Aside0 (w10.heap[gb463]? = some (.cells #[.bool a1_0, .string a1_1, .int .i64 a1_2] 23 (0, 0))) := ⟨by rw [← hq_]; exact (by (with_reducible repeat (first | refine blk_drewN ?_ _ | refine blk_drew ?_ | refine blk_alloc ?_ _)); exact BK463.out)⟩; have n1_ : Aside0 (w10.heap[gb464]? = some (.cells #[.bool false, .string (⟨#[]⟩ : ByteArray), .int .i64 0] 23 (0, 0))) := ⟨by rw [← hq_]; exact (by (with_reducible repeat (first | refine blk_drewN ?_ _ | refine blk_drew ?_ | refine blk_alloc ?_ _)); exact BK464.out)⟩; have n2_ : Aside0 (Below w.heap.size w w10) := ⟨by rw [← hq_]; exact (by repeat (first | (with_reducible first | exact HB.out | apply below_alloc | apply pw_below_drewN | apply below_drew1 | refine below_set ?_ GE463.out | refine below_set ?_ GE464.out) | exact HB.out))⟩; clear BK463 BK464 HB hq_; have BK463 := n0_; have BK464 := n1_; have HB := n2_; clear n0_ n1_ n2_)); (try (have hcz9021_0 : w10.cell? ⟨gb463, 0, none⟩ = some (.bool a1_0) := (blk_cell BK463.out 0).trans rfl)); (try (have hcz9021_1 : w10.cell? ⟨gb463, 1, none⟩ = some (.string a1_1) := (blk_cell BK463.out 1).trans rfl)); (try (have hcz9021_2 : w10.cell? ⟨gb463, 2, none⟩ = some (.int .i64 a1_2) := (blk_cell BK463.out 2).trans rfl)); (try (have hfz9021_0 := blk_frozen BK463.out 0)); (try (have hfz9021_1 := blk_frozen BK463.out 1)); (try (have hfz9021_2 := blk_frozen BK463.out 2)); (try (have hcz9022_0 : w10.cell? ⟨gb464, 0, none⟩ = some (.bool false) := (blk_cell BK464.out 0).trans rfl)); (try (have hcz9022_1 : w10.cell? ⟨gb464, 1, none⟩ = some (.string (⟨#[]⟩ : ByteArray)) := (blk_cell BK464.out 1).trans rfl)); (try (have hcz9022_2 : w10.cell? ⟨gb464, 2, none⟩ = some (.int .i64 0) := (blk_cell BK464.out 2).trans rfl)); (try (have hfz9022_0 := blk_frozen BK464.out 0)); (try (have hfz9022_1 := blk_frozen BK464.out 1)); (try (have hfz9022_2 := blk_frozen BK464.out 2)); have hnb11 := NB463_464.out; have hnc11 := NB464_463.out; have hcz12_0 : w10.cell? ⟨gb463, 0, none⟩ = some (.bool a1_0) := (blk_cell BK463.out 0).trans rfl; have hcz12_1 : w10.cell? ⟨gb463, 1, none⟩ = some (.string a1_1) := (blk_cell BK463.out 1).trans rfl; have hcz12_2 : w10.cell? ⟨gb463, 2, none⟩ = some (.int .i64 a1_2) := (blk_cell BK463.out 2).trans rfl; have hfz12_0 := blk_frozen BK463.out 0; have hfz12_1 := blk_frozen BK463.out 1; have hfz12_2 := blk_frozen BK463.out 2) | ((with_reducible refine gate_callee (f := 41) rfl ?_); refine goesL_ (some 19) rfl rfl Tryd.func41 (by kernel_rfl) rfl #[.agg #[.bool a1_0, .string a1_1, .int .i64 a1_2], .int .i64 a2] rfl (by (try simp only [List.map_toArray]); (try simp only [List.map_cons]); (try simp only [List.map_nil]); first | done | rfl | (simp only [List.length_drop, List.length_take]; rfl)) ?_; (with_reducible refine (place_Fits.calls a1_0 a1_1 a1_2 a2 true _ ?side1 A6.out).mono ?_); (case side1 => exact Fig.Glob.below HG.out (by repeat (first | (with_reducible first | exact HB.out | apply below_alloc | apply pw_below_drewN | apply below_drew1 | refine below_set ?_ GE463.out | refine below_set ?_ GE464.out) | exact HB.out))); rintro e w13 ⟨rfl, hb⟩; refine ⟨_, rfl, ?_⟩; have n0_ := Aside0.mk (blk_below (g := gb463) (o := .cells #[.bool a1_0, .string a1_1, .int .i64 a1_2] 23 (0, 0)) (by (with_reducible repeat (first | refine blk_drewN ?_ _ | refine blk_drew ?_ | refine blk_alloc ?_ _)); exact BK463.out) hb); have n1_ := Aside0.mk (blk_below (g := gb464) (o := .cells #[.bool false, .string (⟨#[]⟩ : ByteArray), .int .i64 0] 23 (0, 0)) (by (with_reducible repeat (first | refine blk_drewN ?_ _ | refine blk_drew ?_ | refine blk_alloc ?_ _)); exact BK464.out) hb); have n2_ := Aside0.mk (below_step (by repeat (first | (with_reducible first | exact HB.out | apply below_alloc | apply pw_below_drewN | apply below_drew1 | refine below_set ?_ GE463.out | refine below_set ?_ GE464.out) | exact HB.out)) hb); clear BK463; clear BK464; clear HB; have BK463 := n0_; have BK464 := n1_; have HB := n2_; clear n0_ n1_ n2_; (try clear hb); (try clear hb2); (try clear hk); (try clear hi); have hcz14_0 : w13.cell? ⟨gb463, 0, none⟩ = some (.bool a1_0) := (blk_cell BK463.out 0).trans rfl; have hcz14_1 : w13.cell? ⟨gb463, 1, none⟩ = some (.string a1_1) := (blk_cell BK463.out 1).trans rfl; have hcz14_2 : w13.cell? ⟨gb463, 2, none⟩ = some (.int .i64 a1_2) := (blk_cell BK463.out 2).trans rfl; have hfz14_0 := blk_frozen BK463.out 0; have hfz14_1 := blk_frozen BK463.out 1; have hfz14_2 := blk_frozen BK463.out 2) | ((with_reducible refine gate_callee (f := 23) rfl ?_); refine goesL_ (some 21) rfl rfl Tryd.func23 (by kernel_rfl) rfl #[.agg #[.bool a1_0, .string a1_1, .int .i64 a1_2]] rfl (by (try simp only [List.map_toArray]); (try simp only [List.map_cons]); (try simp only [List.map_nil]); first | done | rfl | (simp only [List.length_drop, List.length_take]; rfl)) ?_; (with_reducible refine (dec_Norm.calls a1_0 a1_1 a1_2 t467 t468 t469 _ A8.out).mono ?_); rintro e w15 ⟨rfl, hb⟩; refine ⟨_, rfl, ?_⟩; have n0_ := Aside0.mk (blk_below (g := gb463) (o := .cells #[.bool a1_0, .string a1_1, .int .i64 a1_2] 23 (0, 0)) (by (with_reducible repeat (first | refine blk_drewN ?_ _ | refine blk_drew ?_ | refine blk_alloc ?_ _)); exact BK463.out) hb); have n1_ := Aside0.mk (blk_below (g := gb464) (o := .cells #[.bool false, .string (⟨#[]⟩ : ByteArray), .int .i64 0] 23 (0, 0)) (by (with_reducible repeat (first | refine blk_drewN ?_ _ | refine blk_drew ?_ | refine blk_alloc ?_ _)); exact BK464.out) hb); have n2_ := Aside0.mk (below_step (by repeat (first | (with_reducible first | exact HB.out | apply below_alloc | apply pw_below_drewN | apply below_drew1 | refine below_set ?_ GE463.out | refine below_set ?_ GE464.out) | exact HB.out)) hb); clear BK463; clear BK464; clear HB; have BK463 := n0_; have BK464 := n1_; have HB := n2_; clear n0_ n1_ n2_; (try clear hb); (try clear hb2); (try clear hk); (try clear hi); have hcz16_0 : w15.cell? ⟨gb464, 0, none⟩ = some (.bool false) := (blk_cell BK464.out 0).trans rfl; have hcz16_1 : w15.cell? ⟨gb464, 1, none⟩ = some (.string (⟨#[]⟩ : ByteArray)) := (blk_cell BK464.out 1).trans rfl; have hcz16_2 : w15.cell? ⟨gb464, 2, none⟩ = some (.int .i64 0) := (blk_cell BK464.out 2).trans rfl; have hfz16_0 := blk_frozen BK464.out 0; have hfz16_1 := blk_frozen BK464.out 1; have hfz16_2 := blk_frozen BK464.out 2))
      refine bodyPost_ret (results_ct rfl _ _ gb464 23 #[.bool t467, .string t468, .int .i64 t469] (0, 0) _ rfl (by (with_reducible repeat (first | refine blk_drewN ?_ _ | refine blk_drew ?_ | refine blk_alloc ?_ _)); refine blk_put (cs := #[.bool t467, .string t468, .int .i64 0]) ?_ 2 _ rfl; (with_reducible repeat (first | refine blk_drewN ?_ _ | refine blk_drew ?_ | refine blk_alloc ?_ _)); refine blk_put (cs := #[.bool t467, .string (⟨#[]⟩ : ByteArray), .int .i64 0]) ?_ 1 _ rfl; (with_reducible repeat (first | refine blk_drewN ?_ _ | refine blk_drew ?_ | refine blk_alloc ?_ _)); refine blk_put (cs := #[.bool false, .string (⟨#[]⟩ : ByteArray), .int .i64 0]) ?_ 0 _ rfl; (with_reducible repeat (first | refine blk_drewN ?_ _ | refine blk_drew ?_ | refine blk_alloc ?_ _)); exact BK464.out) Tryd.underlying23 rfl (by kernel_rfl)) rfl ?_
      exact ⟨by first | rfl | (simp [errW_none, errW_some] <;> rfl) | (simp [*, errW_none, errW_some] <;> rfl), by repeat (first | (with_reducible first | exact HB.out | apply below_alloc | apply pw_below_drewN | apply below_drew1 | refine below_set ?_ GE463.out | refine below_set ?_ GE464.out) | exact HB.out)⟩
    · replace c7 := Bool.eq_false_iff.mpr c7
      subst c7
      have H1 : (if a0 = 7 then (some (false, (⟨#[]⟩ : ByteArray), 0, 11)) else ((place_cut.f a1_0 a1_1 a1_2 a2).bind fun bt470 => ((nat_Add.f bt470.2 bt470.2).bind fun t476 => ((ten_Shift.f (([1] : List Int)) (wrap64 (a2 - a1_2))).bind fun t482 => ((nat_Cmp.f t476 t482).bind fun t485 => (if (bt470.1.length : Int) > 0 then (if 0 < (bt470.1.length : Int) then ((mode_Away.f a0 a1_0 ((Int.tmod (rd bt470.1 0) 2) == 1) t485).bind fun t487 => (place_Round.j0 k a2 bt470.1 t487 a1_0 a1_1 a1_2)) else (none)) else ((mode_Away.f a0 a1_0 false t485).bind fun t488 => (place_Round.j0 k a2 bt470.1 t488 a1_0 a1_1 a1_2)))))))) = some (r1, r2, r3, r4) := by rw [if_neg (show ¬ (false = true) by decide)] at H; exact H
      clear H
      have H := H1
      clear H1
      by_cases c17 : a0 = 7
      · rw [if_pos c17] at H
        have c17b0 : (a0 == 7) = true := beq_iff_eq.mpr c17
        have c17b1 : (a0 != 7) = false := bne_eq_false_iff_eq.mpr c17
        clear c17
        simp only [Option.some.injEq, Prod.mk.injEq] at H
        obtain ⟨rfl, rfl, rfl, rfl⟩ := H
        go_enter Tryd.func16, Tryd.ntmps16
        go_wp2_with (first | ((with_reducible refine gate_dst (N := 4) rfl ?_); refine box_event ?hg (N := 4) ?hd (cs := #[.bool a1_0, .string a1_1, .int .i64 a1_2]) (t := 23) ?hr ?_; (case hd => rfl); (case hg => rfl); (case hr => first | (go_simp; done) | (go_simp; rfl)); intro gb463 hg w18 hbox hb; have n0_ := Aside0.mk (below_step (by repeat (first | (with_reducible first | exact HB.out | apply below_alloc | apply pw_below_drewN | apply below_drew1) | exact HB.out)) hb); have n1_ := Aside0.mk (hbox); have n2_ := Aside0.mk ((by rw [hg]; exact (below_size (by repeat (first | (with_reducible first | exact HB.out | apply below_alloc | apply pw_below_drewN | apply below_drew1) | exact HB.out))) : w.heap.size ≤ gb463)); have n3_ := Aside0.mk ((by rw [hg]; exact (below_size (by repeat (first | (with_reducible first | exact HB.out | apply below_alloc | apply pw_below_drewN | apply below_drew1) | exact HB.out))) : w.heap.size ≤ gb463)); clear HB; have HB := n0_; have BK463 := n1_; have GW463 := n2_; have GE463 := n3_; clear n0_ n1_ n2_ n3_; clear hb hbox hg) | ((with_reducible refine gate_dst (N := 6) rfl ?_); refine box_event ?hg (N := 6) ?hd (cs := #[.bool false, .string (⟨#[]⟩ : ByteArray), .int .i64 0]) (t := 23) ?hr ?_; (case hd => rfl); (case hg => rfl); (case hr => first | (go_simp; done) | (go_simp; rfl)); intro gb464 hg w19 hbox hb; have n0_ := Aside0.mk (blk_below (g := gb463) (o := .cells #[.bool a1_0, .string a1_1, .int .i64 a1_2] 23 (0, 0)) (by (with_reducible repeat (first | refine blk_drewN ?_ _ | refine blk_drew ?_ | refine blk_alloc ?_ _)); exact BK463.out) hb); have n1_ := Aside0.mk (below_step (by repeat (first | (with_reducible first | exact HB.out | apply below_alloc | apply pw_below_drewN | apply below_drew1 | refine below_set ?_ GE463.out) | exact HB.out)) hb); have n2_ := Aside0.mk (hbox); have n3_ := Aside0.mk ((by rw [hg]; exact (below_size (by repeat (first | (with_reducible first | exact HB.out | apply below_alloc | apply pw_below_drewN | apply below_drew1 | refine below_set ?_ GE463.out) | exact HB.out))) : w.heap.size ≤ gb464)); have n4_ := Aside0.mk ((by rw [hg]; exact (below_size (by repeat (first | (with_reducible first | exact HB.out | apply below_alloc | apply pw_below_drewN | apply below_drew1 | refine below_set ?_ GE463.out) | exact HB.out))) : w.heap.size ≤ gb464)); have n5_ := Aside0.mk ((by rw [hg]; exact Nat.ne_of_lt (blk_lt (g := gb463) (o := .cells #[.bool a1_0, .string a1_1, .int .i64 a1_2] 23 (0, 0)) (by (with_reducible repeat (first | refine blk_drewN ?_ _ | refine blk_drew ?_ | refine blk_alloc ?_ _)); exact BK463.out)) : gb463 ≠ gb464)); have n6_ := Aside0.mk ((by rw [hg]; exact Nat.ne_of_gt (blk_lt (g := gb463) (o := .cells #[.bool a1_0, .string a1_1, .int .i64 a1_2] 23 (0, 0)) (by (with_reducible repeat (first | refine blk_drewN ?_ _ | refine blk_drew ?_ | refine blk_alloc ?_ _)); exact BK463.out)) : gb464 ≠ gb463)); clear BK463; clear HB; have BK463 := n0_; have HB := n1_; have BK464 := n2_; have GW464 := n3_; have GE464 := n4_; have NB463_464 := n5_; have NB464_463 := n6_; clear n0_ n1_ n2_ n3_ n4_ n5_ n6_; clear hb hbox hg) | ((with_reducible refine gate_callee (f := 19) rfl ?_); refine goesL_ (some 13) rfl rfl Tryd.func19 (by kernel_rfl) rfl #[.int .i64 a0] rfl (by (try simp only [List.map_toArray]); (try simp only [List.map_cons]); (try simp only [List.map_nil]); first | done | rfl | (simp only [List.length_drop, List.length_take]; rfl)) ?_; (with_reducible refine (mode_Good.calls a0 true _ A4.out).mono ?_); rintro e w' ⟨rfl, ⟨nd, rfl⟩⟩; refine ⟨_, rfl, ?_⟩; (try (rw [drewN_self w19]; generalize hq_ : World.drewN w19 _ = w19; have n0_ : Aside0 (w19.heap[gb463]? = some (.cells #[.bool a1_0, .string a1_1, .int .i64 a1_2] 23 (0, 0))) := ⟨by rw [← hq_]; exact (by (with_reducible repeat (first | refine blk_drewN ?_ _ | refine blk_drew ?_ | refine blk_alloc ?_ _)); exact BK463.out)⟩; have n1_ : Aside0 (w19.heap[gb464]? = some (.cells #[.bool false, .string (⟨#[]⟩ : ByteArray), .int .i64 0] 23 (0, 0))) := ⟨by rw [← hq_]; exact (by (with_reducible repeat (first | refine blk_drewN ?_ _ | refine blk_drew ?_ | refine blk_alloc ?_ _)); exact BK464.out)⟩; have n2_ : Aside0 (Below w.heap.size w w19) := ⟨by rw [← hq_]; exact (by repeat (first | (with_reducible first | exact HB.out | apply below_alloc | apply pw_below_drewN | apply below_drew1 | refine below_set ?_ GE463.out | refine below_set ?_ GE464.out) | exact HB.out))⟩; clear BK463 BK464 HB hq_; have BK463 := n0_; have BK464 := n1_; have HB := n2_; clear n0_ n1_ n2_)); (try (have hcz9023_0 : w19.cell? ⟨gb463, 0, none⟩ = some (.bool a1_0) := (blk_cell BK463.out 0).trans rfl)); (try (have hcz9023_1 : w19.cell? ⟨gb463, 1, none⟩ = some (.string a1_1) := (blk_cell BK463.out 1).trans rfl)); (try (have hcz9023_2 : w19.cell? ⟨gb463, 2, none⟩ = some (.int .i64 a1_2) := (blk_cell BK463.out 2).trans rfl)); (try (have hfz9023_0 := blk_frozen BK463.out 0)); (try (have hfz9023_1 := blk_frozen BK463.out 1)); (try (have hfz9023_2 := blk_frozen BK463.out 2)); (try (have hcz9024_0 : w19.cell? ⟨gb464, 0, none⟩ = some (.bool false) := (blk_cell BK464.out 0).trans rfl)); (try (have hcz9024_1 : w19.cell? ⟨gb464, 1, none⟩ = some (.string (⟨#[]⟩ : ByteArray)) := (blk_cell BK464.out 1).trans rfl)); (try (have hcz9024_2 : w19.cell? ⟨gb464, 2, none⟩ = some (.int .i64 0) := (blk_cell BK464.out 2).trans rfl)); (try (have hfz9024_0 := blk_frozen BK464.out 0)); (try (have hfz9024_1 := blk_frozen BK464.out 1)); (try (have hfz9024_2 := blk_frozen BK464.out 2)); have hnb20 := NB463_464.out; have hnc20 := NB464_463.out; have hcz21_0 : w19.cell? ⟨gb463, 0, none⟩ = some (.bool a1_0) := (blk_cell BK463.out 0).trans rfl; have hcz21_1 : w19.cell? ⟨gb463, 1, none⟩ = some (.string a1_1) := (blk_cell BK463.out 1).trans rfl; have hcz21_2 : w19.cell? ⟨gb463, 2, none⟩ = some (.int .i64 a1_2) := (blk_cell BK463.out 2).trans rfl; have hfz21_0 := blk_frozen BK463.out 0; have hfz21_1 := blk_frozen BK463.out 1; have hfz21_2 := blk_frozen BK463.out 2) | ((with_reducible refine gate_callee (f := 41) rfl ?_); refine goesL_ (some 19) rfl rfl Tryd.func41 (by kernel_rfl) rfl #[.agg #[.bool a1_0, .string a1_1, .int .i64 a1_2], .int .i64 a2] rfl (by (try simp only [List.map_toArray]); (try simp only [List.map_cons]); (try simp only [List.map_nil]); first | done | rfl | (simp only [List.length_drop, List.length_take]; rfl)) ?_; (with_reducible refine (place_Fits.calls a1_0 a1_1 a1_2 a2 false _ ?side1 A6.out).mono ?_); (case side1 => exact Fig.Glob.below HG.out (by repeat (first | (with_reducible first | exact HB.out | apply below_alloc | apply pw_below_drewN | apply below_drew1 | refine below_set ?_ GE463.out | refine below_set ?_ GE464.out) | exact HB.out))); rintro e w22 ⟨rfl, hb⟩; refine ⟨_, rfl, ?_⟩; have n0_ := Aside0.mk (blk_below (g := gb463) (o := .cells #[.bool a1_0, .string a1_1, .int .i64 a1_2] 23 (0, 0)) (by (with_reducible repeat (first | refine blk_drewN ?_ _ | refine blk_drew ?_ | refine blk_alloc ?_ _)); exact BK463.out) hb); have n1_ := Aside0.mk (blk_below (g := gb464) (o := .cells #[.bool false, .string (⟨#[]⟩ : ByteArray), .int .i64 0] 23 (0, 0)) (by (with_reducible repeat (first | refine blk_drewN ?_ _ | refine blk_drew ?_ | refine blk_alloc ?_ _)); exact BK464.out) hb); have n2_ := Aside0.mk (below_step (by repeat (first | (with_reducible first | exact HB.out | apply below_alloc | apply pw_below_drewN | apply below_drew1 | refine below_set ?_ GE463.out | refine below_set ?_ GE464.out) | exact HB.out)) hb); clear BK463; clear BK464; clear HB; have BK463 := n0_; have BK464 := n1_; have HB := n2_; clear n0_ n1_ n2_; (try clear hb); (try clear hb2); (try clear hk); (try clear hi); have hcz23_0 : w22.cell? ⟨gb464, 0, none⟩ = some (.bool false) := (blk_cell BK464.out 0).trans rfl; have hcz23_1 : w22.cell? ⟨gb464, 1, none⟩ = some (.string (⟨#[]⟩ : ByteArray)) := (blk_cell BK464.out 1).trans rfl; have hcz23_2 : w22.cell? ⟨gb464, 2, none⟩ = some (.int .i64 0) := (blk_cell BK464.out 2).trans rfl; have hfz23_0 := blk_frozen BK464.out 0; have hfz23_1 := blk_frozen BK464.out 1; have hfz23_2 := blk_frozen BK464.out 2))
        refine bodyPost_ret (results_ct rfl _ _ gb464 23 #[.bool false, .string (⟨#[]⟩ : ByteArray), .int .i64 0] (0, 0) _ rfl (by (with_reducible repeat (first | refine blk_drewN ?_ _ | refine blk_drew ?_ | refine blk_alloc ?_ _)); refine blk_put (cs := #[.bool false, .string (⟨#[]⟩ : ByteArray), .int .i64 0]) ?_ 2 _ rfl; (with_reducible repeat (first | refine blk_drewN ?_ _ | refine blk_drew ?_ | refine blk_alloc ?_ _)); refine blk_put (cs := #[.bool false, .string (⟨#[]⟩ : ByteArray), .int .i64 0]) ?_ 1 _ rfl; (with_reducible repeat (first | refine blk_drewN ?_ _ | refine blk_drew ?_ | refine blk_alloc ?_ _)); refine blk_put (cs := #[.bool false, .string (⟨#[]⟩ : ByteArray), .int .i64 0]) ?_ 0 _ rfl; (with_reducible repeat (first | refine blk_drewN ?_ _ | refine blk_drew ?_ | refine blk_alloc ?_ _)); exact BK464.out) Tryd.underlying23 rfl (by kernel_rfl)) rfl ?_
        exact ⟨by first | rfl | (simp [errW_none, errW_some] <;> rfl) | (simp [*, errW_none, errW_some] <;> rfl), by repeat (first | (with_reducible first | exact HB.out | apply below_alloc | apply pw_below_drewN | apply below_drew1 | refine below_set ?_ GE463.out | refine below_set ?_ GE464.out) | exact HB.out)⟩
      · rw [if_neg c17] at H
        have c17b0 : (a0 == 7) = false := beq_eq_false_iff_ne.mpr c17
        have c17b1 : (a0 != 7) = true := bne_iff_ne.mpr c17
        replace H := Option.bind_eq_some_iff.mp H
        obtain ⟨⟨t470, t473⟩, A240, H⟩ := H
        replace H : ((nat_Add.f t473 t473).bind fun t476 => ((ten_Shift.f (([1] : List Int)) (wrap64 (a2 - a1_2))).bind fun t482 => ((nat_Cmp.f t476 t482).bind fun t485 => (if (t470.length : Int) > 0 then (if 0 < (t470.length : Int) then ((mode_Away.f a0 a1_0 ((Int.tmod (rd t470 0) 2) == 1) t485).bind fun t487 => (place_Round.j0 k a2 t470 t487 a1_0 a1_1 a1_2)) else (none)) else ((mode_Away.f a0 a1_0 false t485).bind fun t488 => (place_Round.j0 k a2 t470 t488 a1_0 a1_1 a1_2)))))) = some (r1, r2, r3, r4) := H
        have A24 := Aside0.mk A240
        clear A240
        replace H := Option.bind_eq_some_iff.mp H
        obtain ⟨t476, A250, H⟩ := H
        replace H : ((ten_Shift.f (([1] : List Int)) (wrap64 (a2 - a1_2))).bind fun t482 => ((nat_Cmp.f t476 t482).bind fun t485 => (if (t470.length : Int) > 0 then (if 0 < (t470.length : Int) then ((mode_Away.f a0 a1_0 ((Int.tmod (rd t470 0) 2) == 1) t485).bind fun t487 => (place_Round.j0 k a2 t470 t487 a1_0 a1_1 a1_2)) else (none)) else ((mode_Away.f a0 a1_0 false t485).bind fun t488 => (place_Round.j0 k a2 t470 t488 a1_0 a1_1 a1_2))))) = some (r1, r2, r3, r4) := H
        have A25 := Aside0.mk A250
        clear A250
        obtain ⟨y479, hy479⟩ : ∃ y_ : List Int, y_ = (([1] : List Int)) := ⟨_, rfl⟩
        replace H : ((ten_Shift.f y479 (wrap64 (a2 - a1_2))).bind fun t482 => ((nat_Cmp.f t476 t482).bind fun t485 => (if (t470.length : Int) > 0 then (if 0 < (t470.length : Int) then ((mode_Away.f a0 a1_0 ((Int.tmod (rd t470 0) 2) == 1) t485).bind fun t487 => (place_Round.j0 k a2 t470 t487 a1_0 a1_1 a1_2)) else (none)) else ((mode_Away.f a0 a1_0 false t485).bind fun t488 => (place_Round.j0 k a2 t470 t488 a1_0 a1_1 a1_2))))) = some (r1, r2, r3, r4) := by first | (rw [hy479]; with_reducible exact H) | (have H2_ := (Option.bind_some _ _).symm.trans H; rw [hy479]; with_reducible exact H2_) | (have H2_ := (Option.bind_some _ _).symm.trans H; with_reducible exact H2_) | with_reducible exact H | (rw [hy479]; exact H) | exact H
        have Ny479 := Aside0.mk hy479
        clear hy479
        replace H := Option.bind_eq_some_iff.mp H
        obtain ⟨t482, A260, H⟩ := H
        replace H : ((nat_Cmp.f t476 t482).bind fun t485 => (if (t470.length : Int) > 0 then (if 0 < (t470.length : Int) then ((mode_Away.f a0 a1_0 ((Int.tmod (rd t470 0) 2) == 1) t485).bind fun t487 => (place_Round.j0 k a2 t470 t487 a1_0 a1_1 a1_2)) else (none)) else ((mode_Away.f a0 a1_0 false t485).bind fun t488 => (place_Round.j0 k a2 t470 t488 a1_0 a1_1 a1_2)))) = some (r1, r2, r3, r4) := H
        have A26 := Aside0.mk A260
        clear A260
        replace H := Option.bind_eq_some_iff.mp H
        obtain ⟨t485, A270, H⟩ := H
        replace H : (if (t470.length : Int) > 0 then (if 0 < (t470.length : Int) then ((mode_Away.f a0 a1_0 ((Int.tmod (rd t470 0) 2) == 1) t485).bind fun t487 => (place_Round.j0 k a2 t470 t487 a1_0 a1_1 a1_2)) else (none)) else ((mode_Away.f a0 a1_0 false t485).bind fun t488 => (place_Round.j0 k a2 t470 t488 a1_0 a1_1 a1_2))) = some (r1, r2, r3, r4) := H
        have A27 := Aside0.mk A270
        clear A270
        have HC28 := Aside0.mk H
        clear H
        go_enter Tryd.func16, Tryd.ntmps16
        try go_wp2_with (first | ((with_reducible refine gate_dst (N := 4) rfl ?_); refine box_event ?hg (N := 4) ?hd (cs := #[.bool a1_0, .string a1_1, .int .i64 a1_2]) (t := 23) ?hr ?_; (case hd => rfl); (case hg => rfl); (case hr => first | (go_simp; done) | (go_simp; rfl)); intro gb463 hg w29 hbox hb; have n0_ := Aside0.mk (below_step (by repeat (first | (with_reducible first | exact HB.out | apply below_alloc | apply pw_below_drewN | apply below_drew1) | exact HB.out)) hb); have n1_ := Aside0.mk (hbox); have n2_ := Aside0.mk ((by rw [hg]; exact (below_size (by repeat (first | (with_reducible first | exact HB.out | apply below_alloc | apply pw_below_drewN | apply below_drew1) | exact HB.out))) : w.heap.size ≤ gb463)); have n3_ := Aside0.mk ((by rw [hg]; exact (below_size (by repeat (first | (with_reducible first | exact HB.out | apply below_alloc | apply pw_below_drewN | apply below_drew1) | exact HB.out))) : w.heap.size ≤ gb463)); clear HB; have HB := n0_; have BK463 := n1_; have GW463 := n2_; have GE463 := n3_; clear n0_ n1_ n2_ n3_; clear hb hbox hg) | ((with_reducible refine gate_dst (N := 6) rfl ?_); refine box_event ?hg (N := 6) ?hd (cs := #[.bool false, .string (⟨#[]⟩ : ByteArray), .int .i64 0]) (t := 23) ?hr ?_; (case hd => rfl); (case hg => rfl); (case hr => first | (go_simp; done) | (go_simp; rfl)); intro gb464 hg w30 hbox hb; have n0_ := Aside0.mk (blk_below (g := gb463) (o := .cells #[.bool a1_0, .string a1_1, .int .i64 a1_2] 23 (0, 0)) (by (with_reducible repeat (first | refine blk_drewN ?_ _ | refine blk_drew ?_ | refine blk_alloc ?_ _)); exact BK463.out) hb); have n1_ := Aside0.mk (below_step (by repeat (first | (with_reducible first | exact HB.out | apply below_alloc | apply pw_below_drewN | apply below_drew1 | refine below_set ?_ GE463.out) | exact HB.out)) hb); have n2_ := Aside0.mk (hbox); have n3_ := Aside0.mk ((by rw [hg]; exact (below_size (by repeat (first | (with_reducible first | exact HB.out | apply below_alloc | apply pw_below_drewN | apply below_drew1 | refine below_set ?_ GE463.out) | exact HB.out))) : w.heap.size ≤ gb464)); have n4_ := Aside0.mk ((by rw [hg]; exact (below_size (by repeat (first | (with_reducible first | exact HB.out | apply below_alloc | apply pw_below_drewN | apply below_drew1 | refine below_set ?_ GE463.out) | exact HB.out))) : w.heap.size ≤ gb464)); have n5_ := Aside0.mk ((by rw [hg]; exact Nat.ne_of_lt (blk_lt (g := gb463) (o := .cells #[.bool a1_0, .string a1_1, .int .i64 a1_2] 23 (0, 0)) (by (with_reducible repeat (first | refine blk_drewN ?_ _ | refine blk_drew ?_ | refine blk_alloc ?_ _)); exact BK463.out)) : gb463 ≠ gb464)); have n6_ := Aside0.mk ((by rw [hg]; exact Nat.ne_of_gt (blk_lt (g := gb463) (o := .cells #[.bool a1_0, .string a1_1, .int .i64 a1_2] 23 (0, 0)) (by (with_reducible repeat (first | refine blk_drewN ?_ _ | refine blk_drew ?_ | refine blk_alloc ?_ _)); exact BK463.out)) : gb464 ≠ gb463)); clear BK463; clear HB; have BK463 := n0_; have HB := n1_; have BK464 := n2_; have GW464 := n3_; have GE464 := n4_; have NB463_464 := n5_; have NB464_463 := n6_; clear n0_ n1_ n2_ n3_ n4_ n5_ n6_; clear hb hbox hg) | ((with_reducible refine gate_callee (f := 19) rfl ?_); refine goesL_ (some 13) rfl rfl Tryd.func19 (by kernel_rfl) rfl #[.int .i64 a0] rfl (by (try simp only [List.map_toArray]); (try simp only [List.map_cons]); (try simp only [List.map_nil]); first | done | rfl | (simp only [List.length_drop, List.length_take]; rfl)) ?_; (with_reducible refine (mode_Good.calls a0 true _ A4.out).mono ?_); rintro e w' ⟨rfl, ⟨nd, rfl⟩⟩; refine ⟨_, rfl, ?_⟩; have hnb31 := NB463_464.out; have hnc31 := NB464_463.out; have hcz32_0 : w30.cell? ⟨gb463, 0, none⟩ = some (.bool a1_0) := (blk_cell BK463.out 0).trans rfl; have hcz32_1 : w30.cell? ⟨gb463, 1, none⟩ = some (.string a1_1) := (blk_cell BK463.out 1).trans rfl; have hcz32_2 : w30.cell? ⟨gb463, 2, none⟩ = some (.int .i64 a1_2) := (blk_cell BK463.out 2).trans rfl; have hfz32_0 := blk_frozen BK463.out 0; have hfz32_1 := blk_frozen BK463.out 1; have hfz32_2 := blk_frozen BK463.out 2) | ((with_reducible refine gate_callee (f := 41) rfl ?_); refine goesL_ (some 19) rfl rfl Tryd.func41 (by kernel_rfl) rfl #[.agg #[.bool a1_0, .string a1_1, .int .i64 a1_2], .int .i64 a2] rfl (by (try simp only [List.map_toArray]); (try simp only [List.map_cons]); (try simp only [List.map_nil]); first | done | rfl | (simp only [List.length_drop, List.length_take]; rfl)) ?_; (with_reducible refine (place_Fits.calls a1_0 a1_1 a1_2 a2 false _ ?side1 A6.out).mono ?_); (case side1 => exact Fig.Glob.below HG.out (by repeat (first | (with_reducible first | exact HB.out | apply below_alloc | apply pw_below_drewN | apply below_drew1 | refine below_set ?_ GE463.out | refine below_set ?_ GE464.out) | exact HB.out))); rintro e w33 ⟨rfl, hb⟩; refine ⟨_, rfl, ?_⟩; have n0_ := Aside0.mk (blk_below (g := gb463) (o := .cells #[.bool a1_0, .string a1_1, .int .i64 a1_2] 23 (0, 0)) (by (with_reducible repeat (first | refine blk_drewN ?_ _ | refine blk_drew ?_ | refine blk_alloc ?_ _)); exact BK463.out) hb); have n1_ := Aside0.mk (blk_below (g := gb464) (o := .cells #[.bool false, .string (⟨#[]⟩ : ByteArray), .int .i64 0] 23 (0, 0)) (by (with_reducible repeat (first | refine blk_drewN ?_ _ | refine blk_drew ?_ | refine blk_alloc ?_ _)); exact BK464.out) hb); have n2_ := Aside0.mk (below_step (by repeat (first | (with_reducible first | exact HB.out | apply below_alloc | apply pw_below_drewN | apply below_drew1 | refine below_set ?_ GE463.out | refine below_set ?_ GE464.out) | exact HB.out)) hb); clear BK463; clear BK464; clear HB; have BK463 := n0_; have BK464 := n1_; have HB := n2_; clear n0_ n1_ n2_; (try clear hb); (try clear hb2); (try clear hk); (try clear hi); have hcz34_0 : w33.cell? ⟨gb463, 0, none⟩ = some (.bool a1_0) := (blk_cell BK463.out 0).trans rfl; have hcz34_1 : w33.cell? ⟨gb463, 1, none⟩ = some (.string a1_1) := (blk_cell BK463.out 1).trans rfl; have hcz34_2 : w33.cell? ⟨gb463, 2, none⟩ = some (.int .i64 a1_2) := (blk_cell BK463.out 2).trans rfl; have hfz34_0 := blk_frozen BK463.out 0; have hfz34_1 := blk_frozen BK463.out 1; have hfz34_2 := blk_frozen BK463.out 2) | ((with_reducible refine gate_callee (f := 42) rfl ?_); refine goesL_ (some 29) rfl rfl Tryd.func42 (by kernel_rfl) rfl #[.agg #[.bool a1_0, .string a1_1, .int .i64 a1_2], .int .i64 a2] rfl (by (try simp only [List.map_toArray]); (try simp only [List.map_cons]); (try simp only [List.map_nil]); first | done | rfl | (simp only [List.length_drop, List.length_take]; rfl)) ?_; (with_reducible refine (place_cut.calls a1_0 a1_1 a1_2 a2 t470 t473 _ ?side1 A24.out).mono ?_); (case side1 => exact Fig.Glob.below HG.out (by repeat (first | (with_reducible first | exact HB.out | apply below_alloc | apply pw_below_drewN | apply below_drew1 | refine below_set ?_ GE463.out | refine below_set ?_ GE464.out) | exact HB.out))); rintro e w35 ⟨v471, v474, rfl, ho0, ho1, hb⟩; refine ⟨_, rfl, ?_⟩; have n0_ := Aside0.mk (Kd.R_lower ho0 (below_size (by repeat (first | (with_reducible first | exact HB.out | apply below_alloc | apply pw_below_drewN | apply below_drew1 | refine below_set ?_ GE463.out | refine below_set ?_ GE464.out) | exact HB.out)))); have n1_ := Aside0.mk (Kd.R_lower ho1 (below_size (by repeat (first | (with_reducible first | exact HB.out | apply below_alloc | apply pw_below_drewN | apply below_drew1 | refine below_set ?_ GE463.out | refine below_set ?_ GE464.out) | exact HB.out)))); have n2_ := Aside0.mk (blk_below (g := gb463) (o := .cells #[.bool a1_0, .string a1_1, .int .i64 a1_2] 23 (0, 0)) (by (with_reducible repeat (first | refine blk_drewN ?_ _ | refine blk_drew ?_ | refine blk_alloc ?_ _)); exact BK463.out) hb); have n3_ := Aside0.mk (blk_below (g := gb464) (o := .cells #[.bool false, .string (⟨#[]⟩ : ByteArray), .int .i64 0] 23 (0, 0)) (by (with_reducible repeat (first | refine blk_drewN ?_ _ | refine blk_drew ?_ | refine blk_alloc ?_ _)); exact BK464.out) hb); have n4_ := Aside0.mk (below_step (by repeat (first | (with_reducible first | exact HB.out | apply below_alloc | apply pw_below_drewN | apply below_drew1 | refine below_set ?_ GE463.out | refine below_set ?_ GE464.out) | exact HB.out)) hb); clear BK463; clear BK464; clear HB; have HO472 := n0_; have HO475 := n1_; have BK463 := n2_; have BK464 := n3_; have HB := n4_; clear n0_ n1_ n2_ n3_ n4_; (try clear hb); (try clear hb2); (try clear hk); (try clear hi); (try clear ho0); (try clear ho1); obtain ⟨Ao36, co36, eo36⟩ := Kd.R_slice HO475.out; subst eo36))
        (try (rw [drewN_self w35]; generalize hq_ : World.drewN w35 _ = w35; have n0_ : Aside0 (Kd.R (Kd.int .u32) 48 w35 w.heap.size (fun k_ => some k_ ≠ (.slice Ao36 t473.length co36 : Value).ownBlock) v471 t470) := ⟨by rw [← hq_]; exact (by (with_reducible repeat (first | apply Kd.R_alloc | apply Kd.R_drewN | apply Kd.R_drew)); exact HO472.out)⟩; have n1_ : Aside0 (Kd.R (Kd.int .u32) 48 w35 w.heap.size (fun k_ => some k_ ≠ (v471 : Value).ownBlock) (.slice Ao36 t473.length co36) t473) := ⟨by rw [← hq_]; exact (by (with_reducible repeat (first | apply Kd.R_alloc | apply Kd.R_drewN | apply Kd.R_drew)); exact HO475.out)⟩; have n2_ : Aside0 (w35.heap[gb463]? = some (.cells #[.bool a1_0, .string a1_1, .int .i64 a1_2] 23 (0, 0))) := ⟨by rw [← hq_]; exact (by (with_reducible repeat (first | refine blk_drewN ?_ _ | refine blk_drew ?_ | refine blk_alloc ?_ _)); exact BK463.out)⟩; have n3_ : Aside0 (w35.heap[gb464]? = some (.cells #[.bool false, .string (⟨#[]⟩ : ByteArray), .int .i64 0] 23 (0, 0))) := ⟨by rw [← hq_]; exact (by (with_reducible repeat (first | refine blk_drewN ?_ _ | refine blk_drew ?_ | refine blk_alloc ?_ _)); exact BK464.out)⟩; have n4_ : Aside0 (Below w.heap.size w w35) := ⟨by rw [← hq_]; exact (by repeat (first | (with_reducible first | exact HB.out | apply below_alloc | apply pw_below_drewN | apply below_drew1 | refine below_set ?_ GE463.out | refine below_set ?_ GE464.out) | exact HB.out))⟩; clear HO472 HO475 BK463 BK464 HB hq_; have HO472 := n0_; have HO475 := n1_; have BK463 := n2_; have BK464 := n3_; have HB := n4_; clear n0_ n1_ n2_ n3_ n4_))
        have n0_ := Aside0.mk (Kd.R_drew HO472.out)
        have n1_ := Aside0.mk (Kd.R_drew HO475.out)
        have n2_ := Aside0.mk (blk_drew BK463.out)
        have n3_ := Aside0.mk (blk_drew BK464.out)
        have n4_ := Aside0.mk (below_drew1 HB.out)
        clear HO472
        clear HO475
        clear BK463
        clear BK464
        clear HB
        have HO472 := n0_
        have HO475 := n1_
        have BK463 := n2_
        have BK464 := n3_
        have HB := n4_
        clear n0_ n1_ n2_ n3_ n4_
        refine start_ (n := 11) (S := fun w' => w'.cell? ⟨gb463, 0, none⟩ = some (.bool a1_0) ∧ w'.cell? ⟨gb463, 1, none⟩ = some (.string a1_1) ∧ w'.cell? ⟨gb463, 2, none⟩ = some (.int .i64 a1_2)) (ds := []) #[false, false, false, false, false, false, false, false, false, false, false] (by kernel_rfl) rfl rfl ⟨(blk_cell BK463.out 0).trans rfl, (blk_cell BK463.out 1).trans rfl, (blk_cell BK463.out 2).trans rfl⟩ (fun hHeld => ?_); refine with_tabW place_Round.tab8 place_Round.bits8 (fun HT_ HW_ => ?_)
        generalize w35.drew = w37 at HO472 HO475 BK463 BK464 HB hHeld ⊢
        refine pure_ (i := 0) (N := some 32) (v := ?_) (a' := ?_) #[true, false, false, false, false, false, false, false, false, false, false] rfl rfl (any_of HT_.out (by kernel_rfl)) (fun _ _ _ h => h) (Or.inl ⟨by rfl, ?_⟩) ?_ ?_
        rotate_left
        · intro w'
          go_simp
          with_reducible rfl
        rotate_left
        · simp only [Act.put, List.setIfInBounds_toArray, List.set_cons_zero, List.set_cons_succ]; (try simp only [i64_w]); (try simp only [i32_w])
          rfl
        refine pure_ (i := 1) (N := some 33) (v := ?_) (a' := ?_) #[true, true, false, false, false, false, false, false, false, false, false] rfl rfl (any_of HT_.out (by kernel_rfl)) (fun _ _ _ h => h) (Or.inl ⟨by rfl, ?_⟩) ?_ ?_
        rotate_left
        · intro w'
          go_simp
          with_reducible rfl
        rotate_left
        · simp only [Act.put, List.setIfInBounds_toArray, List.set_cons_zero, List.set_cons_succ]; (try simp only [i64_w]); (try simp only [i32_w])
          rfl
        refine pure_ (i := 4) (N := some 36) (v := ?_) (a' := ?_) #[true, true, false, false, true, false, false, false, false, false, false] rfl rfl (any_of HT_.out (by kernel_rfl)) (fun _ _ _ h => h) (Or.inl ⟨by rfl, ?_⟩) ?_ ?_
        rotate_left
        · intro w'
          go_simp
          with_reducible rfl
        rotate_left
        · simp only [Act.put, List.setIfInBounds_toArray, List.set_cons_zero, List.set_cons_succ]; (try simp only [i64_w]); (try simp only [i32_w])
          rfl
        refine pure_ (i := 5) (N := some 37) (v := ?_) (a' := ?_) #[true, true, false, false, true, true, false, false, false, false, false] rfl rfl (any_of HT_.out (by kernel_rfl)) (fun _ _ _ h => h) (Or.inl ⟨by rfl, ?_⟩) ?_ ?_
        rotate_left
        · intro w'
          go_simp
          with_reducible rfl
        rotate_left
        · simp only [Act.put, List.setIfInBounds_toArray, List.set_cons_zero, List.set_cons_succ]; (try simp only [i64_w]); (try simp only [i32_w])
          rfl
        refine take_ (i := 6) (N := some 38) (v := ?_) (a' := ?_) #[true, true, false, false, true, true, true, false, false, false, false] rfl rfl (take_ofW HT_.out HW_.out (by kernel_rfl)) (fun _ _ _ h => h) (Or.inl ⟨by rfl, ?_⟩) hHeld ?_ ?_
        rotate_left
        · rintro w' ⟨s0, s1, s2⟩
          go_simp
          with_reducible rfl
        rotate_left
        · simp only [Act.put, List.setIfInBounds_toArray, List.set_cons_zero, List.set_cons_succ]; (try simp only [i64_w]); (try simp only [i32_w])
          rfl
        refine pure_ (i := 7) (N := some 39) (v := ?_) (a' := ?_) #[true, true, false, false, true, true, true, true, false, false, false] rfl rfl (any_of HT_.out (by kernel_rfl)) (fun _ _ _ h => h) (Or.inl ⟨by rfl, ?_⟩) ?_ ?_
        rotate_left
        · intro w'
          go_simp
          with_reducible rfl
        rotate_left
        · simp only [Act.put, List.setIfInBounds_toArray, List.set_cons_zero, List.set_cons_succ]; (try simp only [i64_w]); (try simp only [i32_w])
          rfl
        refine join_ (σ := Value × Value) 3 #[true, true, true, true, true, true, true, true, false, false, false] (fun s_ => [(34, s_.1), (35, s_.2)]) (fun s_ w' => (w'.cell? ⟨gb463, 0, none⟩ = some (.bool a1_0) ∧ w'.cell? ⟨gb463, 1, none⟩ = some (.string a1_1) ∧ w'.cell? ⟨gb463, 2, none⟩ = some (.int .i64 a1_2)) ∧ (Kd.R (Kd.int .u32) 48 w' w.heap.size (fun k_ => some k_ ≠ (.slice Ao36 t473.length co36 : Value).ownBlock ∧ some k_ ≠ (s_.1 : Value).ownBlock ∧ some k_ ≠ (s_.2 : Value).ownBlock) v471 t470) ∧ (Kd.R (Kd.int .u32) 48 w' w.heap.size (fun k_ => some k_ ≠ (v471 : Value).ownBlock ∧ some k_ ≠ (s_.1 : Value).ownBlock ∧ some k_ ≠ (s_.2 : Value).ownBlock) (.slice Ao36 t473.length co36) t473) ∧ (Kd.R (Kd.int .u32) 48 w' w.heap.size (fun k_ => some k_ ≠ (v471 : Value).ownBlock ∧ some k_ ≠ (.slice Ao36 t473.length co36 : Value).ownBlock ∧ some k_ ≠ (s_.2 : Value).ownBlock) s_.1 t476) ∧ (Kd.R (Kd.int .u32) 48 w' w.heap.size (fun k_ => some k_ ≠ (v471 : Value).ownBlock ∧ some k_ ≠ (.slice Ao36 t473.length co36 : Value).ownBlock ∧ some k_ ≠ (s_.1 : Value).ownBlock) s_.2 y479) ∧ (w'.heap[gb463]? = some (.cells #[.bool a1_0, .string a1_1, .int .i64 a1_2] 23 (0, 0))) ∧ (w'.heap[gb464]? = some (.cells #[.bool false, .string (⟨#[]⟩ : ByteArray), .int .i64 0] 23 (0, 0))) ∧ (Below w.heap.size w w')) ?_ ?_
        rotate_left
        · intro hCont
          refine two_ (i := 2) (j := 3) (Ni := some 34) (Nj := some 35) #[true, true, true, false, true, true, true, true, false, false, false] #[true, true, false, true, true, true, true, true, false, false, false] rfl rfl rfl rfl (two_of HT_.out (by kernel_rfl)) (by decide) (by decide) (fun K hK => ?_) (fun K hK => ?_)
          · skip
            refine goes_ Tryd.func26 (by kernel_rfl) rfl #[.slice Ao36 t473.length co36, .slice Ao36 t473.length co36] (by rfl) rfl rfl (by (try simp only [List.map_toArray]); (try simp only [List.map_cons]); (try simp only [List.map_nil]); first | done | rfl | (simp only [List.length_drop, List.length_take]; rfl)) ?_
            with_reducible refine (nat_Add.calls _ _ t473 _ _ t473 t476 _ ?side1 ?side2 ?side3 ?side4 A25.out).mono ?_
            (case side1 => repeat (first | exact (Kd.R_reads' HO475.out).2.2 | (with_reducible refine Kd.C_alloc ?_ _) | (with_reducible refine Kd.C_drewN ?_ _) | (with_reducible refine Kd.C_drew ?_)))
            (case side2 => exact (Kd.R_reads' HO475.out).2.1)
            (case side3 => repeat (first | exact (Kd.R_reads' HO475.out).2.2 | (with_reducible refine Kd.C_alloc ?_ _) | (with_reducible refine Kd.C_drewN ?_ _) | (with_reducible refine Kd.C_drew ?_)))
            (case side4 => exact (Kd.R_reads' HO475.out).2.1)
            rintro e w38 ⟨v477, rfl, ho0, hb⟩
            refine ⟨_, rfl, ?_⟩
            have n0_ := Aside0.mk (Kd.R_elder' (by (with_reducible repeat (first | apply Kd.R_alloc | apply Kd.R_drewN | apply Kd.R_drew)); exact HO472.out) (Kd.R_base ho0) hb)
            have n1_ := Aside0.mk (Kd.R_elder' (by (with_reducible repeat (first | apply Kd.R_alloc | apply Kd.R_drewN | apply Kd.R_drew)); exact HO475.out) (Kd.R_base ho0) hb)
            have n2_ := Aside0.mk (Kd.R_lower (Kd.R_new' (Kd.R_new' ho0 (Kd.R_lt (by (with_reducible repeat (first | apply Kd.R_alloc | apply Kd.R_drewN | apply Kd.R_drew)); exact HO472.out))) (Kd.R_lt (by (with_reducible repeat (first | apply Kd.R_alloc | apply Kd.R_drewN | apply Kd.R_drew)); exact HO475.out))) (below_size (by repeat (first | (with_reducible first | exact HB.out | apply below_alloc | apply pw_below_drewN | apply below_drew1 | refine below_set ?_ GE463.out | refine below_set ?_ GE464.out) | exact HB.out))))
            have n3_ := Aside0.mk (blk_below (g := gb463) (o := .cells #[.bool a1_0, .string a1_1, .int .i64 a1_2] 23 (0, 0)) (by (with_reducible repeat (first | refine blk_drewN ?_ _ | refine blk_drew ?_ | refine blk_alloc ?_ _)); exact BK463.out) hb)
            have n4_ := Aside0.mk (blk_below (g := gb464) (o := .cells #[.bool false, .string (⟨#[]⟩ : ByteArray), .int .i64 0] 23 (0, 0)) (by (with_reducible repeat (first | refine blk_drewN ?_ _ | refine blk_drew ?_ | refine blk_alloc ?_ _)); exact BK464.out) hb)
            have n5_ := Aside0.mk (below_step (by repeat (first | (with_reducible first | exact HB.out | apply below_alloc | apply pw_below_drewN | apply below_drew1 | refine below_set ?_ GE463.out | refine below_set ?_ GE464.out) | exact HB.out)) hb)
            clear HO472
            clear HO475
            clear BK463
            clear BK464
            clear HB
            have HO472 := n0_
            have HO475 := n1_
            have HO478 := n2_
            have BK463 := n3_
            have BK464 := n4_
            have HB := n5_
            clear n0_ n1_ n2_ n3_ n4_ n5_
            (try clear hb)
            (try clear hb2)
            (try clear hk)
            (try clear hi)
            (try clear ho0)
            refine hK.out _ _ ⟨(blk_cell BK463.out 0).trans rfl, (blk_cell BK463.out 1).trans rfl, (blk_cell BK463.out 2).trans rfl⟩ (fun hHeld => ?_)
            clear hK K
            refine norm_ (a' := ?_) ?_ ?_
            rotate_left
            · show Act.put _ (some 34) _ = _
              simp only [Act.put, List.setIfInBounds_toArray, List.set_cons_zero, List.set_cons_succ]; (try simp only [i64_w]); (try simp only [i32_w])
              rfl
            refine one_ (i := 3) (N := some 35) #[true, true, true, true, true, true, true, true, false, false, false] rfl rfl (one_of HT_.out (by kernel_rfl)) (by decide) (fun K hK => ?_)
            refine Kd.R_lit_step (Kd.int .u32) _ 48 ?hg (N := 35) ?hd (xs := ([1] : List Int)) (inner := [.int .u32 1]) (ok := fun _ => True) (okp := fun _ => True) ?hr ?hp (fun _ hk => hk) trivial (Below.refl _ _) (Nat.le_refl _) (by simp) ?_; (case hd => rfl); (case hg => rfl); (case hr => first | (go_simp; done) | (go_simp; rfl)); (case hp => exact (Reps.one (show Kd.M (Kd.int .u32) _ _ _ 1 [.int .u32 1] from rfl) (Reps.none _ _)))
            intro v480 w39 ho40 hb hg_ hnew_
            clear hg_ hnew_
            (first | rw [← Ny479.out] at ho40 | (simp only [Int.reduceToNat] at ho40; rw [← Ny479.out] at ho40))
            have n0_ := Aside0.mk (Kd.R_elder' (by (with_reducible repeat (first | apply Kd.R_alloc | apply Kd.R_drewN | apply Kd.R_drew)); exact HO472.out) (Kd.R_base ho40) hb)
            have n1_ := Aside0.mk (Kd.R_elder' (by (with_reducible repeat (first | apply Kd.R_alloc | apply Kd.R_drewN | apply Kd.R_drew)); exact HO475.out) (Kd.R_base ho40) hb)
            have n2_ := Aside0.mk (Kd.R_elder' (by (with_reducible repeat (first | apply Kd.R_alloc | apply Kd.R_drewN | apply Kd.R_drew)); exact HO478.out) (Kd.R_base ho40) hb)
            have n3_ := Aside0.mk (Kd.R_lower (Kd.R_new' (Kd.R_new' (Kd.R_new' ho40 (Kd.R_lt (by (with_reducible repeat (first | apply Kd.R_alloc | apply Kd.R_drewN | apply Kd.R_drew)); exact HO472.out))) (Kd.R_lt (by (with_reducible repeat (first | apply Kd.R_alloc | apply Kd.R_drewN | apply Kd.R_drew)); exact HO475.out))) (Kd.R_lt (by (with_reducible repeat (first | apply Kd.R_alloc | apply Kd.R_drewN | apply Kd.R_drew)); exact HO478.out))) (below_size (by repeat (first | (with_reducible first | exact HB.out | apply below_alloc | apply pw_below_drewN | apply below_drew1 | refine below_set ?_ GE463.out | refine below_set ?_ GE464.out) | exact HB.out))))
            have n4_ := Aside0.mk (blk_below (g := gb463) (o := .cells #[.bool a1_0, .string a1_1, .int .i64 a1_2] 23 (0, 0)) (by (with_reducible repeat (first | refine blk_drewN ?_ _ | refine blk_drew ?_ | refine blk_alloc ?_ _)); exact BK463.out) hb)
            have n5_ := Aside0.mk (blk_below (g := gb464) (o := .cells #[.bool false, .string (⟨#[]⟩ : ByteArray), .int .i64 0] 23 (0, 0)) (by (with_reducible repeat (first | refine blk_drewN ?_ _ | refine blk_drew ?_ | refine blk_alloc ?_ _)); exact BK464.out) hb)
            have n6_ := Aside0.mk (below_step (by repeat (first | (with_reducible first | exact HB.out | apply below_alloc | apply pw_below_drewN | apply below_drew1 | refine below_set ?_ GE463.out | refine below_set ?_ GE464.out) | exact HB.out)) hb)
            clear HO472
            clear HO475
            clear HO478
            clear BK463
            clear BK464
            clear HB
            have HO472 := n0_
            have HO475 := n1_
            have HO478 := n2_
            have HO481 := n3_
            have BK463 := n4_
            have BK464 := n5_
            have HB := n6_
            clear n0_ n1_ n2_ n3_ n4_ n5_ n6_
            clear hb ho40
            refine hK.out _ _ ⟨(blk_cell BK463.out 0).trans rfl, (blk_cell BK463.out 1).trans rfl, (blk_cell BK463.out 2).trans rfl⟩ (fun hHeld => ?_)
            clear hK K
            refine norm_ (a' := ?_) ?_ ?_
            rotate_left
            · show Act.put _ (some 35) _ = _
              simp only [Act.put, List.setIfInBounds_toArray, List.set_cons_zero, List.set_cons_succ]; (try simp only [i64_w]); (try simp only [i32_w])
              rfl
            exact norm_ (by simp only [putAll, Act.put, List.setIfInBounds_toArray, List.set_cons_zero, List.set_cons_succ]) (hCont (v477, v480) _ ⟨hHeld, (by (with_reducible repeat (first | apply Kd.R_alloc | apply Kd.R_drewN | apply Kd.R_drew)); exact Kd.R_mono HO472.out (fun _ hk => ⟨hk.1.1, ⟨hk.1.2, hk.2⟩⟩)), (by (with_reducible repeat (first | apply Kd.R_alloc | apply Kd.R_drewN | apply Kd.R_drew)); exact Kd.R_mono HO475.out (fun _ hk => ⟨hk.1.1, ⟨hk.1.2, hk.2⟩⟩)), (by (with_reducible repeat (first | apply Kd.R_alloc | apply Kd.R_drewN | apply Kd.R_drew)); exact Kd.R_mono HO478.out (fun _ hk => ⟨hk.1.1.2, ⟨hk.1.2, hk.2⟩⟩)), (by (with_reducible repeat (first | apply Kd.R_alloc | apply Kd.R_drewN | apply Kd.R_drew)); exact Kd.R_mono HO481.out (fun _ hk => ⟨hk.1.1.2, ⟨hk.1.2, hk.2⟩⟩)), (by (with_reducible repeat (first | refine blk_drewN ?_ _ | refine blk_drew ?_ | refine blk_alloc ?_ _)); exact BK463.out), (by (with_reducible repeat (first | refine blk_drewN ?_ _ | refine blk_drew ?_ | refine blk_alloc ?_ _)); exact BK464.out), (by repeat (first | (with_reducible first | exact HB.out | apply below_alloc | apply pw_below_drewN | apply below_drew1 | refine below_set ?_ GE463.out | refine below_set ?_ GE464.out) | exact HB.out))⟩)
          · skip
            refine Kd.R_lit_step (Kd.int .u32) _ 48 ?hg (N := 35) ?hd (xs := ([1] : List Int)) (inner := [.int .u32 1]) (ok := fun _ => True) (okp := fun _ => True) ?hr ?hp (fun _ hk => hk) trivial (Below.refl _ _) (Nat.le_refl _) (by simp) ?_; (case hd => rfl); (case hg => rfl); (case hr => first | (go_simp; done) | (go_simp; rfl)); (case hp => exact (Reps.one (show Kd.M (Kd.int .u32) _ _ _ 1 [.int .u32 1] from rfl) (Reps.none _ _)))
            intro v480 w38 ho39 hb hg_ hnew_
            clear hg_ hnew_
            (first | rw [← Ny479.out] at ho39 | (simp only [Int.reduceToNat] at ho39; rw [← Ny479.out] at ho39))
            have n0_ := Aside0.mk (Kd.R_elder' (by (with_reducible repeat (first | apply Kd.R_alloc | apply Kd.R_drewN | apply Kd.R_drew)); exact HO472.out) (Kd.R_base ho39) hb)
            have n1_ := Aside0.mk (Kd.R_elder' (by (with_reducible repeat (first | apply Kd.R_alloc | apply Kd.R_drewN | apply Kd.R_drew)); exact HO475.out) (Kd.R_base ho39) hb)
            have n2_ := Aside0.mk (Kd.R_lower (Kd.R_new' (Kd.R_new' ho39 (Kd.R_lt (by (with_reducible repeat (first | apply Kd.R_alloc | apply Kd.R_drewN | apply Kd.R_drew)); exact HO472.out))) (Kd.R_lt (by (with_reducible repeat (first | apply Kd.R_alloc | apply Kd.R_drewN | apply Kd.R_drew)); exact HO475.out))) (below_size (by repeat (first | (with_reducible first | exact HB.out | apply below_alloc | apply pw_below_drewN | apply below_drew1 | refine below_set ?_ GE463.out | refine below_set ?_ GE464.out) | exact HB.out))))
            have n3_ := Aside0.mk (blk_below (g := gb463) (o := .cells #[.bool a1_0, .string a1_1, .int .i64 a1_2] 23 (0, 0)) (by (with_reducible repeat (first | refine blk_drewN ?_ _ | refine blk_drew ?_ | refine blk_alloc ?_ _)); exact BK463.out) hb)
            have n4_ := Aside0.mk (blk_below (g := gb464) (o := .cells #[.bool false, .string (⟨#[]⟩ : ByteArray), .int .i64 0] 23 (0, 0)) (by (with_reducible repeat (first | refine blk_drewN ?_ _ | refine blk_drew ?_ | refine blk_alloc ?_ _)); exact BK464.out) hb)
            have n5_ := Aside0.mk (below_step (by repeat (first | (with_reducible first | exact HB.out | apply below_alloc | apply pw_below_drewN | apply below_drew1 | refine below_set ?_ GE463.out | refine below_set ?_ GE464.out) | exact HB.out)) hb)
            clear HO472
            clear HO475
            clear BK463
            clear BK464
            clear HB
            have HO472 := n0_
            have HO475 := n1_
            have HO481 := n2_
            have BK463 := n3_
            have BK464 := n4_
            have HB := n5_
            clear n0_ n1_ n2_ n3_ n4_ n5_
            clear hb ho39
            refine hK.out _ _ ⟨(blk_cell BK463.out 0).trans rfl, (blk_cell BK463.out 1).trans rfl, (blk_cell BK463.out 2).trans rfl⟩ (fun hHeld => ?_)
            clear hK K
            refine norm_ (a' := ?_) ?_ ?_
            rotate_left
            · show Act.put _ (some 35) _ = _
              simp only [Act.put, List.setIfInBounds_toArray, List.set_cons_zero, List.set_cons_succ]; (try simp only [i64_w]); (try simp only [i32_w])
              rfl
            refine one_ (i := 2) (N := some 34) #[true, true, true, true, true, true, true, true, false, false, false] rfl rfl (one_of HT_.out (by kernel_rfl)) (by decide) (fun K hK => ?_)
            refine goes_ Tryd.func26 (by kernel_rfl) rfl #[.slice Ao36 t473.length co36, .slice Ao36 t473.length co36] (by rfl) rfl rfl (by (try simp only [List.map_toArray]); (try simp only [List.map_cons]); (try simp only [List.map_nil]); first | done | rfl | (simp only [List.length_drop, List.length_take]; rfl)) ?_
            with_reducible refine (nat_Add.calls _ _ t473 _ _ t473 t476 _ ?side1 ?side2 ?side3 ?side4 A25.out).mono ?_
            (case side1 => repeat (first | exact (Kd.R_reads' HO475.out).2.2 | (with_reducible refine Kd.C_alloc ?_ _) | (with_reducible refine Kd.C_drewN ?_ _) | (with_reducible refine Kd.C_drew ?_)))
            (case side2 => exact (Kd.R_reads' HO475.out).2.1)
            (case side3 => repeat (first | exact (Kd.R_reads' HO475.out).2.2 | (with_reducible refine Kd.C_alloc ?_ _) | (with_reducible refine Kd.C_drewN ?_ _) | (with_reducible refine Kd.C_drew ?_)))
            (case side4 => exact (Kd.R_reads' HO475.out).2.1)
            rintro e w40 ⟨v477, rfl, ho0, hb⟩
            refine ⟨_, rfl, ?_⟩
            have n0_ := Aside0.mk (Kd.R_elder' (by (with_reducible repeat (first | apply Kd.R_alloc | apply Kd.R_drewN | apply Kd.R_drew)); exact HO472.out) (Kd.R_base ho0) hb)
            have n1_ := Aside0.mk (Kd.R_elder' (by (with_reducible repeat (first | apply Kd.R_alloc | apply Kd.R_drewN | apply Kd.R_drew)); exact HO475.out) (Kd.R_base ho0) hb)
            have n2_ := Aside0.mk (Kd.R_elder' (by (with_reducible repeat (first | apply Kd.R_alloc | apply Kd.R_drewN | apply Kd.R_drew)); exact HO481.out) (Kd.R_base ho0) hb)
            have n3_ := Aside0.mk (Kd.R_lower (Kd.R_new' (Kd.R_new' (Kd.R_new' ho0 (Kd.R_lt (by (with_reducible repeat (first | apply Kd.R_alloc | apply Kd.R_drewN | apply Kd.R_drew)); exact HO472.out))) (Kd.R_lt (by (with_reducible repeat (first | apply Kd.R_alloc | apply Kd.R_drewN | apply Kd.R_drew)); exact HO475.out))) (Kd.R_lt (by (with_reducible repeat (first | apply Kd.R_alloc | apply Kd.R_drewN | apply Kd.R_drew)); exact HO481.out))) (below_size (by repeat (first | (with_reducible first | exact HB.out | apply below_alloc | apply pw_below_drewN | apply below_drew1 | refine below_set ?_ GE463.out | refine below_set ?_ GE464.out) | exact HB.out))))
            have n4_ := Aside0.mk (blk_below (g := gb463) (o := .cells #[.bool a1_0, .string a1_1, .int .i64 a1_2] 23 (0, 0)) (by (with_reducible repeat (first | refine blk_drewN ?_ _ | refine blk_drew ?_ | refine blk_alloc ?_ _)); exact BK463.out) hb)
            have n5_ := Aside0.mk (blk_below (g := gb464) (o := .cells #[.bool false, .string (⟨#[]⟩ : ByteArray), .int .i64 0] 23 (0, 0)) (by (with_reducible repeat (first | refine blk_drewN ?_ _ | refine blk_drew ?_ | refine blk_alloc ?_ _)); exact BK464.out) hb)
            have n6_ := Aside0.mk (below_step (by repeat (first | (with_reducible first | exact HB.out | apply below_alloc | apply pw_below_drewN | apply below_drew1 | refine below_set ?_ GE463.out | refine below_set ?_ GE464.out) | exact HB.out)) hb)
            clear HO472
            clear HO475
            clear HO481
            clear BK463
            clear BK464
            clear HB
            have HO472 := n0_
            have HO475 := n1_
            have HO481 := n2_
            have HO478 := n3_
            have BK463 := n4_
            have BK464 := n5_
            have HB := n6_
            clear n0_ n1_ n2_ n3_ n4_ n5_ n6_
            (try clear hb)
            (try clear hb2)
            (try clear hk)
            (try clear hi)
            (try clear ho0)
            refine hK.out _ _ ⟨(blk_cell BK463.out 0).trans rfl, (blk_cell BK463.out 1).trans rfl, (blk_cell BK463.out 2).trans rfl⟩ (fun hHeld => ?_)
            clear hK K
            refine norm_ (a' := ?_) ?_ ?_
            rotate_left
            · show Act.put _ (some 34) _ = _
              simp only [Act.put, List.setIfInBounds_toArray, List.set_cons_zero, List.set_cons_succ]; (try simp only [i64_w]); (try simp only [i32_w])
              rfl
            exact norm_ (by simp only [putAll, Act.put, List.setIfInBounds_toArray, List.set_cons_zero, List.set_cons_succ]) (hCont (v477, v480) _ ⟨hHeld, (by (with_reducible repeat (first | apply Kd.R_alloc | apply Kd.R_drewN | apply Kd.R_drew)); exact Kd.R_mono HO472.out (fun _ hk => ⟨hk.1.1, ⟨hk.2, hk.1.2⟩⟩)), (by (with_reducible repeat (first | apply Kd.R_alloc | apply Kd.R_drewN | apply Kd.R_drew)); exact Kd.R_mono HO475.out (fun _ hk => ⟨hk.1.1, ⟨hk.2, hk.1.2⟩⟩)), (by (with_reducible repeat (first | apply Kd.R_alloc | apply Kd.R_drewN | apply Kd.R_drew)); exact Kd.R_mono HO478.out (fun _ hk => ⟨hk.1.1.2, ⟨hk.1.2, hk.2⟩⟩)), (by (with_reducible repeat (first | apply Kd.R_alloc | apply Kd.R_drewN | apply Kd.R_drew)); exact Kd.R_mono HO481.out (fun _ hk => ⟨hk.1.1.2, ⟨hk.1.2, hk.2⟩⟩)), (by (with_reducible repeat (first | refine blk_drewN ?_ _ | refine blk_drew ?_ | refine blk_alloc ?_ _)); exact BK463.out), (by (with_reducible repeat (first | refine blk_drewN ?_ _ | refine blk_drew ?_ | refine blk_alloc ?_ _)); exact BK464.out), (by repeat (first | (with_reducible first | exact HB.out | apply below_alloc | apply pw_below_drewN | apply below_drew1 | refine below_set ?_ GE463.out | refine below_set ?_ GE464.out) | exact HB.out))⟩)
        rintro ⟨v477, v480⟩ w41 ⟨hS_, h0_, h1_, h2_, h3_, h4_, h5_, h6_⟩
        have n0_ : Aside0 (Kd.R (Kd.int .u32) 48 w41 w.heap.size (fun k_ => some k_ ≠ (.slice Ao36 t473.length co36 : Value).ownBlock ∧ some k_ ≠ (v477 : Value).ownBlock ∧ some k_ ≠ (v480 : Value).ownBlock) v471 t470) := ⟨h0_⟩
        have n1_ : Aside0 (Kd.R (Kd.int .u32) 48 w41 w.heap.size (fun k_ => some k_ ≠ (v471 : Value).ownBlock ∧ some k_ ≠ (v477 : Value).ownBlock ∧ some k_ ≠ (v480 : Value).ownBlock) (.slice Ao36 t473.length co36) t473) := ⟨h1_⟩
        have n2_ : Aside0 (Kd.R (Kd.int .u32) 48 w41 w.heap.size (fun k_ => some k_ ≠ (v471 : Value).ownBlock ∧ some k_ ≠ (.slice Ao36 t473.length co36 : Value).ownBlock ∧ some k_ ≠ (v480 : Value).ownBlock) v477 t476) := ⟨h2_⟩
        have n3_ : Aside0 (Kd.R (Kd.int .u32) 48 w41 w.heap.size (fun k_ => some k_ ≠ (v471 : Value).ownBlock ∧ some k_ ≠ (.slice Ao36 t473.length co36 : Value).ownBlock ∧ some k_ ≠ (v477 : Value).ownBlock) v480 y479) := ⟨h3_⟩
        have n4_ : Aside0 (w41.heap[gb463]? = some (.cells #[.bool a1_0, .string a1_1, .int .i64 a1_2] 23 (0, 0))) := ⟨h4_⟩
        have n5_ : Aside0 (w41.heap[gb464]? = some (.cells #[.bool false, .string (⟨#[]⟩ : ByteArray), .int .i64 0] 23 (0, 0))) := ⟨h5_⟩
        have n6_ : Aside0 (Below w.heap.size w w41) := ⟨h6_⟩
        clear HO472
        clear HO475
        clear BK463
        clear BK464
        clear HB
        clear h0_ h1_ h2_ h3_ h4_ h5_ h6_
        have HO472 := n0_
        have HO475 := n1_
        have HO478 := n2_
        have HO481 := n3_
        have BK463 := n4_
        have BK464 := n5_
        have HB := n6_
        clear n0_ n1_ n2_ n3_ n4_ n5_ n6_
        have hHeld : w41.cell? ⟨gb463, 0, none⟩ = some (.bool a1_0) ∧ w41.cell? ⟨gb463, 1, none⟩ = some (.string a1_1) ∧ w41.cell? ⟨gb463, 2, none⟩ = some (.int .i64 a1_2) := hS_
        obtain ⟨Ao42, co42, eo42⟩ := Kd.R_slice HO481.out
        (first | subst eo42 | (injection eo42 with f1_ f2_ f3_; have f4_ := f1_.symm; have f5_ := f3_.symm; clear f1_ f2_ f3_; subst f4_; subst f5_))
        refine norm_ (a' := ?_) ?_ ?_
        rotate_left
        · simp only [putAll, Act.put, List.setIfInBounds_toArray, List.set_cons_zero, List.set_cons_succ]
          rfl
        refine one_ (i := 8) (N := some 40) #[true, true, true, true, true, true, true, true, true, false, false] rfl rfl (one_of HT_.out (by kernel_rfl)) (by decide) (fun K hK => ?_)
        refine goes_ Tryd.func20 (by kernel_rfl) rfl #[.slice Ao42 y479.length co42, .int .i64 (wrap64 (a2 - a1_2))] (by rfl) rfl rfl (by (try simp only [List.map_toArray]); (try simp only [List.map_cons]); (try simp only [List.map_nil]); first | done | rfl | (simp only [List.length_drop, List.length_take]; rfl)) ?_
        with_reducible refine (ten_Shift.calls _ _ y479 (wrap64 (a2 - a1_2)) t482 _ ?side1 ?side2 ?side3 A26.out).mono ?_
        (case side1 => exact Fig.Glob.below HG.out (by repeat (first | (with_reducible first | exact HB.out | apply below_alloc | apply pw_below_drewN | apply below_drew1 | refine below_set ?_ GE463.out | refine below_set ?_ GE464.out) | exact HB.out)))
        (case side2 => repeat (first | exact (Kd.R_reads' HO481.out).2.2 | (with_reducible refine Kd.C_alloc ?_ _) | (with_reducible refine Kd.C_drewN ?_ _) | (with_reducible refine Kd.C_drew ?_)))
        (case side3 => exact (Kd.R_reads' HO481.out).2.1)
        rintro e w43 ⟨v483, rfl, ho0, hb⟩
        refine ⟨_, rfl, ?_⟩
        have n0_ := Aside0.mk (Kd.R_elder' (by (with_reducible repeat (first | apply Kd.R_alloc | apply Kd.R_drewN | apply Kd.R_drew)); exact HO472.out) (Kd.R_base ho0) hb)
        have n1_ := Aside0.mk (Kd.R_elder' (by (with_reducible repeat (first | apply Kd.R_alloc | apply Kd.R_drewN | apply Kd.R_drew)); exact HO475.out) (Kd.R_base ho0) hb)
        have n2_ := Aside0.mk (Kd.R_elder' (by (with_reducible repeat (first | apply Kd.R_alloc | apply Kd.R_drewN | apply Kd.R_drew)); exact HO478.out) (Kd.R_base ho0) hb)
        have n3_ := Aside0.mk (Kd.R_elder' (by (with_reducible repeat (first | apply Kd.R_alloc | apply Kd.R_drewN | apply Kd.R_drew)); exact HO481.out) (Kd.R_base ho0) hb)
        have n4_ := Aside0.mk (Kd.R_lower (Kd.R_new' (Kd.R_new' (Kd.R_new' (Kd.R_new' ho0 (Kd.R_lt (by (with_reducible repeat (first | apply Kd.R_alloc | apply Kd.R_drewN | apply Kd.R_drew)); exact HO472.out))) (Kd.R_lt (by (with_reducible repeat (first | apply Kd.R_alloc | apply Kd.R_drewN | apply Kd.R_drew)); exact HO475.out))) (Kd.R_lt (by (with_reducible repeat (first | apply Kd.R_alloc | apply Kd.R_drewN | apply Kd.R_drew)); exact HO478.out))) (Kd.R_lt (by (with_reducible repeat (first | apply Kd.R_alloc | apply Kd.R_drewN | apply Kd.R_drew)); exact HO481.out))) (below_size (by repeat (first | (with_reducible first | exact HB.out | apply below_alloc | apply pw_below_drewN | apply below_drew1 | refine below_set ?_ GE463.out | refine below_set ?_ GE464.out) | exact HB.out))))
        have n5_ := Aside0.mk (blk_below (g := gb463) (o := .cells #[.bool a1_0, .string a1_1, .int .i64 a1_2] 23 (0, 0)) (by (with_reducible repeat (first | refine blk_drewN ?_ _ | refine blk_drew ?_ | refine blk_alloc ?_ _)); exact BK463.out) hb)
        have n6_ := Aside0.mk (blk_below (g := gb464) (o := .cells #[.bool false, .string (⟨#[]⟩ : ByteArray), .int .i64 0] 23 (0, 0)) (by (with_reducible repeat (first | refine blk_drewN ?_ _ | refine blk_drew ?_ | refine blk_alloc ?_ _)); exact BK464.out) hb)
        have n7_ := Aside0.mk (below_step (by repeat (first | (with_reducible first | exact HB.out | apply below_alloc | apply pw_below_drewN | apply below_drew1 | refine below_set ?_ GE463.out | refine below_set ?_ GE464.out) | exact HB.out)) hb)
        clear HO472
        clear HO475
        clear HO478
        clear HO481
        clear BK463
        clear BK464
        clear HB
        have HO472 := n0_
        have HO475 := n1_
        have HO478 := n2_
        have HO481 := n3_
        have HO484 := n4_
        have BK463 := n5_
        have BK464 := n6_
        have HB := n7_
        clear n0_ n1_ n2_ n3_ n4_ n5_ n6_ n7_
        (try clear hb)
        (try clear hb2)
        (try clear hk)
        (try clear hi)
        (try clear ho0)
        obtain ⟨Ao44, co44, eo44⟩ := Kd.R_slice HO478.out
        (first | subst eo44 | (injection eo44 with f1_ f2_ f3_; have f4_ := f1_.symm; have f5_ := f3_.symm; clear f1_ f2_ f3_; subst f4_; subst f5_))
        obtain ⟨Ao45, co45, eo45⟩ := Kd.R_slice HO484.out
        (first | subst eo45 | (injection eo45 with f1_ f2_ f3_; have f4_ := f1_.symm; have f5_ := f3_.symm; clear f1_ f2_ f3_; subst f4_; subst f5_))
        refine hK.out _ _ ⟨(blk_cell BK463.out 0).trans rfl, (blk_cell BK463.out 1).trans rfl, (blk_cell BK463.out 2).trans rfl⟩ (fun hHeld => ?_)
        clear hK K
        refine norm_ (a' := ?_) ?_ ?_
        rotate_left
        · show Act.put _ (some 40) _ = _
          simp only [Act.put, List.setIfInBounds_toArray, List.set_cons_zero, List.set_cons_succ]; (try simp only [i64_w]); (try simp only [i32_w])
          rfl
        refine one_ (i := 9) (N := some 41) #[true, true, true, true, true, true, true, true, true, true, false] rfl rfl (one_of HT_.out (by kernel_rfl)) (by decide) (fun K hK => ?_)
        refine goes_ Tryd.func25 (by kernel_rfl) rfl #[.slice Ao44 t476.length co44, .slice Ao45 t482.length co45] (by rfl) rfl rfl (by (try simp only [List.map_toArray]); (try simp only [List.map_cons]); (try simp only [List.map_nil]); first | done | rfl | (simp only [List.length_drop, List.length_take]; rfl)) ?_
        with_reducible refine (nat_Cmp.calls _ _ t476 _ _ t482 t485 _ ?side1 ?side2 ?side3 ?side4 A27.out).mono ?_
        (case side1 => repeat (first | exact (Kd.R_reads' HO478.out).2.2 | (with_reducible refine Kd.C_alloc ?_ _) | (with_reducible refine Kd.C_drewN ?_ _) | (with_reducible refine Kd.C_drew ?_)))
        (case side2 => exact (Kd.R_reads' HO478.out).2.1)
        (case side3 => repeat (first | exact (Kd.R_reads' HO484.out).2.2 | (with_reducible refine Kd.C_alloc ?_ _) | (with_reducible refine Kd.C_drewN ?_ _) | (with_reducible refine Kd.C_drew ?_)))
        (case side4 => exact (Kd.R_reads' HO484.out).2.1)
        rintro e w' ⟨rfl, ⟨nd, rfl⟩⟩
        refine ⟨_, rfl, ?_⟩
        refine hK.out _ _ ⟨(blk_cell BK463.out 0).trans rfl, (blk_cell BK463.out 1).trans rfl, (blk_cell BK463.out 2).trans rfl⟩ (fun hHeld => ?_)
        clear hK K
        refine norm_ (a' := ?_) ?_ ?_
        rotate_left
        · show Act.put _ (some 41) _ = _
          simp only [Act.put, List.setIfInBounds_toArray, List.set_cons_zero, List.set_cons_succ]; (try simp only [i64_w]); (try simp only [i32_w])
          rfl
        refine pure_ (i := 10) (N := some 10) (v := ?_) (a' := ?_) #[true, true, true, true, true, true, true, true, true, true, true] rfl rfl (any_of HT_.out (by kernel_rfl)) (fun _ _ _ h => h) (Or.inl ⟨by rfl, ?_⟩) ?_ ?_
        rotate_left
        · intro w'
          go_simp
          with_reducible rfl
        rotate_left
        · simp only [Act.put, List.setIfInBounds_toArray, List.set_cons_zero, List.set_cons_succ]; (try simp only [i64_w]); (try simp only [i32_w])
          rfl
        refine done_ (done_of HT_.out (by kernel_rfl)) ?_
        go_upto_region 9 with (fail)
        go_cut [56] (fun v56 wc => ∃ (kq : Nat) (x56_27 : Bool), v56 = .bool x56_27 ∧ Aside0 (place_Round.j0 kq a2 t470 x56_27 a1_0 a1_1 a1_2 = some (r1, r2, r3, r4)) ∧ Aside0 (kq ≤ k) ∧ Aside0 (Kd.R (Kd.int .u32) 48 wc w.heap.size (fun _ => True) v471 t470) ∧ Aside0 (wc.heap[gb463]? = some (.cells #[.bool a1_0, .string a1_1, .int .i64 a1_2] 23 (0, 0))) ∧ Aside0 (wc.heap[gb464]? = some (.cells #[.bool false, .string (⟨#[]⟩ : ByteArray), .int .i64 0] 23 (0, 0))) ∧ Aside0 (Below w.heap.size w wc))
        case first =>
          have H := HC28.out
          clear HC28
          by_cases c46 : (t470.length : Int) > 0
          · rw [if_pos c46] at H
            have c46b0 : decide (0 < (t470.length : Int)) = true := decide_eq_true c46
            have c46b1 : decide (0 < t470.length) = true := decide_eq_true (by omega)
            clear c46
            (first | rw [c46b0] | (simp only [i64_w, i32_w]; rw [c46b0]) | skip)
            by_cases c47 : 0 < (t470.length : Int)
            · rw [if_pos c47] at H
              have c47b0 : decide (0 < (t470.length : Int)) = true := decide_eq_true c47
              have c47b1 : decide (0 < t470.length) = true := decide_eq_true (by omega)
              clear c47
              replace H := Option.bind_eq_some_iff.mp H
              obtain ⟨t487, A480, H⟩ := H
              replace H : (place_Round.j0 k a2 t470 t487 a1_0 a1_1 a1_2) = some (r1, r2, r3, r4) := H
              have A48 := Aside0.mk A480
              clear A480
              have H' := Aside0.mk H
              clear H
              try go_wp2
              (try (rw [drewN_self w43]; generalize hq_ : World.drewN w43 _ = w43; have n0_ : Aside0 (Kd.R (Kd.int .u32) 48 w43 w.heap.size (fun k_ => some k_ ≠ (.slice Ao36 t473.length co36 : Value).ownBlock ∧ some k_ ≠ (.slice Ao44 t476.length co44 : Value).ownBlock ∧ some k_ ≠ (.slice Ao42 y479.length co42 : Value).ownBlock ∧ some k_ ≠ (.slice Ao45 t482.length co45 : Value).ownBlock) v471 t470) := ⟨by rw [← hq_]; exact (by (with_reducible repeat (first | apply Kd.R_alloc | apply Kd.R_drewN | apply Kd.R_drew)); exact Kd.R_mono HO472.out (fun _ hk => ⟨hk.1.1, ⟨hk.1.2.1, ⟨hk.1.2.2, hk.2⟩⟩⟩))⟩; have n1_ : Aside0 (Kd.R (Kd.int .u32) 48 w43 w.heap.size (fun k_ => some k_ ≠ (v471 : Value).ownBlock ∧ some k_ ≠ (.slice Ao44 t476.length co44 : Value).ownBlock ∧ some k_ ≠ (.slice Ao42 y479.length co42 : Value).ownBlock ∧ some k_ ≠ (.slice Ao45 t482.length co45 : Value).ownBlock) (.slice Ao36 t473.length co36) t473) := ⟨by rw [← hq_]; exact (by (with_reducible repeat (first | apply Kd.R_alloc | apply Kd.R_drewN | apply Kd.R_drew)); exact Kd.R_mono HO475.out (fun _ hk => ⟨hk.1.1, ⟨hk.1.2.1, ⟨hk.1.2.2, hk.2⟩⟩⟩))⟩; have n2_ : Aside0 (Kd.R (Kd.int .u32) 48 w43 w.heap.size (fun k_ => some k_ ≠ (v471 : Value).ownBlock ∧ some k_ ≠ (.slice Ao36 t473.length co36 : Value).ownBlock ∧ some k_ ≠ (.slice Ao42 y479.length co42 : Value).ownBlock ∧ some k_ ≠ (.slice Ao45 t482.length co45 : Value).ownBlock) (.slice Ao44 t476.length co44) t476) := ⟨by rw [← hq_]; exact (by (with_reducible repeat (first | apply Kd.R_alloc | apply Kd.R_drewN | apply Kd.R_drew)); exact Kd.R_mono HO478.out (fun _ hk => ⟨hk.1.1, ⟨hk.1.2.1, ⟨hk.1.2.2, hk.2⟩⟩⟩))⟩; have n3_ : Aside0 (Kd.R (Kd.int .u32) 48 w43 w.heap.size (fun k_ => some k_ ≠ (v471 : Value).ownBlock ∧ some k_ ≠ (.slice Ao36 t473.length co36 : Value).ownBlock ∧ some k_ ≠ (.slice Ao44 t476.length co44 : Value).ownBlock ∧ some k_ ≠ (.slice Ao45 t482.length co45 : Value).ownBlock) (.slice Ao42 y479.length co42) y479) := ⟨by rw [← hq_]; exact (by (with_reducible repeat (first | apply Kd.R_alloc | apply Kd.R_drewN | apply Kd.R_drew)); exact Kd.R_mono HO481.out (fun _ hk => ⟨hk.1.1, ⟨hk.1.2.1, ⟨hk.1.2.2, hk.2⟩⟩⟩))⟩; have n4_ : Aside0 (Kd.R (Kd.int .u32) 48 w43 w.heap.size (fun k_ => some k_ ≠ (v471 : Value).ownBlock ∧ some k_ ≠ (.slice Ao36 t473.length co36 : Value).ownBlock ∧ some k_ ≠ (.slice Ao44 t476.length co44 : Value).ownBlock ∧ some k_ ≠ (.slice Ao42 y479.length co42 : Value).ownBlock) (.slice Ao45 t482.length co45) t482) := ⟨by rw [← hq_]; exact (by (with_reducible repeat (first | apply Kd.R_alloc | apply Kd.R_drewN | apply Kd.R_drew)); exact Kd.R_mono HO484.out (fun _ hk => ⟨hk.1.1.1.2, ⟨hk.1.1.2, ⟨hk.1.2, hk.2⟩⟩⟩))⟩; have n5_ : Aside0 (w43.heap[gb463]? = some (.cells #[.bool a1_0, .string a1_1, .int .i64 a1_2] 23 (0, 0))) := ⟨by rw [← hq_]; exact (by (with_reducible repeat (first | refine blk_drewN ?_ _ | refine blk_drew ?_ | refine blk_alloc ?_ _)); exact BK463.out)⟩; have n6_ : Aside0 (w43.heap[gb464]? = some (.cells #[.bool false, .string (⟨#[]⟩ : ByteArray), .int .i64 0] 23 (0, 0))) := ⟨by rw [← hq_]; exact (by (with_reducible repeat (first | refine blk_drewN ?_ _ | refine blk_drew ?_ | refine blk_alloc ?_ _)); exact BK464.out)⟩; have n7_ : Aside0 (Below w.heap.size w w43) := ⟨by rw [← hq_]; exact (by repeat (first | (with_reducible first | exact HB.out | apply below_alloc | apply pw_below_drewN | apply below_drew1 | refine below_set ?_ GE463.out | refine below_set ?_ GE464.out) | exact HB.out))⟩; clear HO472 HO475 HO478 HO481 HO484 BK463 BK464 HB hq_; have HO472 := n0_; have HO475 := n1_; have HO478 := n2_; have HO481 := n3_; have HO484 := n4_; have BK463 := n5_; have BK464 := n6_; have HB := n7_; clear n0_ n1_ n2_ n3_ n4_ n5_ n6_ n7_))
              have n0_ := Aside0.mk (Kd.R_drew HO472.out)
              have n1_ := Aside0.mk (Kd.R_drew HO475.out)
              have n2_ := Aside0.mk (Kd.R_drew HO478.out)
              have n3_ := Aside0.mk (Kd.R_drew HO481.out)
              have n4_ := Aside0.mk (Kd.R_drew HO484.out)
              have n5_ := Aside0.mk (blk_drew BK463.out)
              have n6_ := Aside0.mk (blk_drew BK464.out)
              have n7_ := Aside0.mk (below_drew1 HB.out)
              clear HO472
              clear HO475
              clear HO478
              clear HO481
              clear HO484
              clear BK463
              clear BK464
              clear HB
              have HO472 := n0_
              have HO475 := n1_
              have HO478 := n2_
              have HO481 := n3_
              have HO484 := n4_
              have BK463 := n5_
              have BK464 := n6_
              have HB := n7_
              clear n0_ n1_ n2_ n3_ n4_ n5_ n6_ n7_
              obtain ⟨Ao50, co50, eo50⟩ := Kd.R_slice HO472.out
              (first | subst eo50 | (injection eo50 with f1_ f2_ f3_; have f4_ := f1_.symm; have f5_ := f3_.symm; clear f1_ f2_ f3_; subst f4_; subst f5_))
              have p486 : 0 ≤ (0 : Int) := (by omega)
              have q486 : 0 < (t470.length : Int) := of_decide_eq_true (by first | (with_reducible assumption) | assumption)
              obtain ⟨ad486, e486, hx486_0⟩ := Kd.at_int (Kd.R_reads' HO472.out).2.2 0 p486 q486
              cases e486
              have qi486 : (0 < t470.length) = True := eq_true (by omega)
              (try rw [show ((0 : Int)).toNat = 0 from rfl] at hx486_0)
              (try rw [Addr.add_zero'] at hx486_0)
              replace p486 := eq_true p486
              replace q486 := eq_true q486
              refine start_ (n := 15) (S := fun w' => w'.cell? ⟨gb463, 0, none⟩ = some (.bool a1_0) ∧ w'.cell? ⟨gb463, 1, none⟩ = some (.string a1_1) ∧ w'.cell? ⟨gb463, 2, none⟩ = some (.int .i64 a1_2) ∧ w'.cell? ad486 = some (.int .u32 (rd t470 0))) (ds := []) #[false, false, false, false, false, false, false, false, false, false, false, false, false, false, false] (by kernel_rfl) rfl rfl ⟨(blk_cell BK463.out 0).trans rfl, (blk_cell BK463.out 1).trans rfl, (blk_cell BK463.out 2).trans rfl, hx486_0⟩ (fun hHeld => ?_); refine with_tabW place_Round.tab9 place_Round.bits9 (fun HT_ HW_ => ?_)
              generalize w43.drew = w49 at HO472 HO475 HO478 HO481 HO484 BK463 BK464 HB hx486_0 hHeld ⊢
              refine pure_ (i := 0) (N := some 42) (v := ?_) (a' := ?_) #[true, false, false, false, false, false, false, false, false, false, false, false, false, false, false] rfl rfl (any_of HT_.out (by kernel_rfl)) (fun _ _ _ h => h) (Or.inl ⟨by rfl, ?_⟩) ?_ ?_
              rotate_left
              · intro w'
                go_simp
                with_reducible rfl
              rotate_left
              · simp only [Act.put, List.setIfInBounds_toArray, List.set_cons_zero, List.set_cons_succ]; (try simp only [i64_w]); (try simp only [i32_w])
                rfl
              refine pure_ (i := 1) (N := some 43) (v := ?_) (a' := ?_) #[true, true, false, false, false, false, false, false, false, false, false, false, false, false, false] rfl rfl (any_of HT_.out (by kernel_rfl)) (fun _ _ _ h => h) (Or.inl ⟨by rfl, ?_⟩) ?_ ?_
              rotate_left
              · intro w'
                go_simp
                with_reducible rfl
              rotate_left
              · simp only [Act.put, List.setIfInBounds_toArray, List.set_cons_zero, List.set_cons_succ]; (try simp only [i64_w]); (try simp only [i32_w])
                rfl
              refine pure_ (i := 3) (N := some 45) (v := ?_) (a' := ?_) #[true, true, false, true, false, false, false, false, false, false, false, false, false, false, false] rfl rfl (any_of HT_.out (by kernel_rfl)) (fun _ _ _ h => h) (Or.inl ⟨by rfl, ?_⟩) ?_ ?_
              rotate_left
              · intro w'
                go_simp
                with_reducible rfl
              rotate_left
              · simp only [Act.put, List.setIfInBounds_toArray, List.set_cons_zero, List.set_cons_succ]; (try simp only [i64_w]); (try simp only [i32_w])
                rfl
              refine pure_ (i := 4) (N := some 46) (v := ?_) (a' := ?_) #[true, true, false, true, true, false, false, false, false, false, false, false, false, false, false] rfl rfl (any_of HT_.out (by kernel_rfl)) (fun _ _ _ h => h) (Or.inl ⟨by rfl, ?_⟩) ?_ ?_
              rotate_left
              · intro w'
                go_simp
                with_reducible rfl
              rotate_left
              · simp only [Act.put, List.setIfInBounds_toArray, List.set_cons_zero, List.set_cons_succ]; (try simp only [i64_w]); (try simp only [i32_w])
                rfl
              refine pure_ (i := 5) (N := some 47) (v := ?_) (a' := ?_) #[true, true, false, true, true, true, false, false, false, false, false, false, false, false, false] rfl rfl (any_of HT_.out (by kernel_rfl)) (fun _ _ _ h => h) (Or.inl ⟨by rfl, ?_⟩) ?_ ?_
              rotate_left
              · intro w'
                go_simp
                with_reducible rfl
              rotate_left
              · simp only [Act.put, List.setIfInBounds_toArray, List.set_cons_zero, List.set_cons_succ]; (try simp only [i64_w]); (try simp only [i32_w])
                rfl
              refine pure_ (i := 6) (N := some 48) (v := ?_) (a' := ?_) #[true, true, false, true, true, true, true, false, false, false, false, false, false, false, false] rfl rfl (any_of HT_.out (by kernel_rfl)) (fun _ _ _ h => h) (Or.inl ⟨by rfl, ?_⟩) ?_ ?_
              rotate_left
              · intro w'
                go_simp
                with_reducible rfl
              rotate_left
              · simp only [Act.put, List.setIfInBounds_toArray, List.set_cons_zero, List.set_cons_succ]; (try simp only [i64_w]); (try simp only [i32_w])
                rfl
              refine pure_ (i := 7) (N := some 49) (v := ?_) (a' := ?_) #[true, true, false, true, true, true, true, true, false, false, false, false, false, false, false] rfl rfl (any_of HT_.out (by kernel_rfl)) (fun _ _ _ h => h) (Or.inl ⟨by rfl, ?_⟩) ?_ ?_
              rotate_left
              · intro w'
                go_simp
                with_reducible rfl
              rotate_left
              · simp only [Act.put, List.setIfInBounds_toArray, List.set_cons_zero, List.set_cons_succ]; (try simp only [i64_w]); (try simp only [i32_w])
                rfl
              refine pure_ (i := 8) (N := some 50) (v := ?_) (a' := ?_) #[true, true, false, true, true, true, true, true, true, false, false, false, false, false, false] rfl rfl (any_of HT_.out (by kernel_rfl)) (fun _ _ _ h => h) (Or.inl ⟨by rfl, ?_⟩) ?_ ?_
              rotate_left
              · intro w'
                go_simp
                with_reducible rfl
              rotate_left
              · simp only [Act.put, List.setIfInBounds_toArray, List.set_cons_zero, List.set_cons_succ]; (try simp only [i64_w]); (try simp only [i32_w])
                rfl
              refine pure_ (i := 13) (N := some 55) (v := ?_) (a' := ?_) #[true, true, false, true, true, true, true, true, true, false, false, false, false, true, false] rfl rfl (any_of HT_.out (by kernel_rfl)) (fun _ _ _ h => h) (Or.inl ⟨by rfl, ?_⟩) ?_ ?_
              rotate_left
              · intro w'
                go_simp
                with_reducible rfl
              rotate_left
              · simp only [Act.put, List.setIfInBounds_toArray, List.set_cons_zero, List.set_cons_succ]; (try simp only [i64_w]); (try simp only [i32_w])
                rfl
              refine take_ (i := 2) (N := some 44) (v := ?_) (a' := ?_) #[true, true, true, true, true, true, true, true, true, false, false, false, false, true, false] rfl rfl (take_ofW HT_.out HW_.out (by kernel_rfl)) (fun _ _ _ h => h) (Or.inl ⟨by rfl, ?_⟩) hHeld ?_ ?_
              rotate_left
              · rintro w' ⟨s0, s1, s2, s3⟩
                go_simp
                with_reducible rfl
              rotate_left
              · simp only [Act.put, List.setIfInBounds_toArray, List.set_cons_zero, List.set_cons_succ]; (try simp only [i64_w]); (try simp only [i32_w])
                rfl
              refine take_ (i := 9) (N := some 51) (v := ?_) (a' := ?_) #[true, true, true, true, true, true, true, true, true, true, false, false, false, true, false] rfl rfl (take_ofW HT_.out HW_.out (by kernel_rfl)) (fun _ _ _ h => h) (Or.inl ⟨by rfl, ?_⟩) hHeld ?_ ?_
              rotate_left
              · rintro w' ⟨s0, s1, s2, s3⟩
                go_simp
                with_reducible rfl
              rotate_left
              · simp only [Act.put, List.setIfInBounds_toArray, List.set_cons_zero, List.set_cons_succ]; (try simp only [i64_w]); (try simp only [i32_w])
                rfl
              refine pure_ (i := 10) (N := some 52) (v := ?_) (a' := ?_) #[true, true, true, true, true, true, true, true, true, true, true, false, false, true, false] rfl rfl (any_of HT_.out (by kernel_rfl)) (fun _ _ _ h => h) (Or.inl ⟨by rfl, ?_⟩) ?_ ?_
              rotate_left
              · intro w'
                go_simp
                with_reducible rfl
              rotate_left
              · simp only [Act.put, List.setIfInBounds_toArray, List.set_cons_zero, List.set_cons_succ]; (try simp only [i64_w]); (try simp only [i32_w])
                rfl
              refine pure_ (i := 11) (N := some 53) (v := ?_) (a' := ?_) #[true, true, true, true, true, true, true, true, true, true, true, true, false, true, false] rfl rfl (any_of HT_.out (by kernel_rfl)) (fun _ _ _ h => h) (Or.inl ⟨by rfl, ?_⟩) ?_ ?_
              rotate_left
              · intro w'
                go_simp
                with_reducible rfl
              rotate_left
              · simp only [Act.put, List.setIfInBounds_toArray, List.set_cons_zero, List.set_cons_succ]; (try simp only [i64_w]); (try simp only [i32_w])
                rfl
              refine pure_ (i := 12) (N := some 54) (v := ?_) (a' := ?_) #[true, true, true, true, true, true, true, true, true, true, true, true, true, true, false] rfl rfl (any_of HT_.out (by kernel_rfl)) (fun _ _ _ h => h) (Or.inl ⟨by rfl, ?_⟩) ?_ ?_
              rotate_left
              · intro w'
                go_simp
                with_reducible rfl
              rotate_left
              · simp only [Act.put, List.setIfInBounds_toArray, List.set_cons_zero, List.set_cons_succ]; (try simp only [i64_w]); (try simp only [i32_w])
                rfl
              refine one_ (i := 14) (N := some 56) #[true, true, true, true, true, true, true, true, true, true, true, true, true, true, true] rfl rfl (one_of HT_.out (by kernel_rfl)) (by decide) (fun K hK => ?_)
              refine goes_ Tryd.func24 (by kernel_rfl) rfl #[.int .i64 a0, .bool a1_0, .bool ((Int.tmod (rd t470 0) 2) == 1), .int .i64 t485] (by rfl) rfl rfl (by (try simp only [List.map_toArray]); (try simp only [List.map_cons]); (try simp only [List.map_nil]); first | done | rfl | (simp only [List.length_drop, List.length_take]; rfl)) ?_
              with_reducible refine (mode_Away.calls a0 a1_0 ((Int.tmod (rd t470 0) 2) == 1) t485 t487 _ ?side1 A48.out).mono ?_
              (case side1 => exact Fig.Glob.below HG.out (by repeat (first | (with_reducible first | exact HB.out | apply below_alloc | apply pw_below_drewN | apply below_drew1 | refine below_set ?_ GE463.out | refine below_set ?_ GE464.out) | exact HB.out)))
              rintro e w' ⟨rfl, ⟨nd, rfl⟩⟩
              refine ⟨_, rfl, ?_⟩
              refine hK.out _ _ ⟨(blk_cell BK463.out 0).trans rfl, (blk_cell BK463.out 1).trans rfl, (blk_cell BK463.out 2).trans rfl, hHeld.2.2.2⟩ (fun hHeld => ?_)
              clear hK K
              refine norm_ (a' := ?_) ?_ ?_
              rotate_left
              · show Act.put _ (some 56) _ = _
                simp only [Act.put, List.setIfInBounds_toArray, List.set_cons_zero, List.set_cons_succ]; (try simp only [i64_w]); (try simp only [i32_w])
                rfl
              refine done_ (done_of HT_.out (by kernel_rfl)) ?_
              try go_wp2
              go_meet
              case rel => exact ⟨_, (t487), (by first | rfl | (simp; done) | (simp [*]; done) | (simp [*, Fig.bne_nil]; done)), H', ⟨by first | omega | exact Nat.le_refl _⟩, ⟨by (with_reducible repeat (first | apply Kd.R_alloc | apply Kd.R_drewN | apply Kd.R_drew)); exact Kd.R_mono HO472.out (fun _ hk => trivial)⟩, ⟨by (with_reducible repeat (first | refine blk_drewN ?_ _ | refine blk_drew ?_ | refine blk_alloc ?_ _)); exact BK463.out⟩, ⟨by (with_reducible repeat (first | refine blk_drewN ?_ _ | refine blk_drew ?_ | refine blk_alloc ?_ _)); exact BK464.out⟩, ⟨by repeat (first | (with_reducible first | exact HB.out | apply below_alloc | apply pw_below_drewN | apply below_drew1 | refine below_set ?_ GE463.out | refine below_set ?_ GE464.out) | exact HB.out)⟩⟩
            · rw [if_neg c47] at H
              exact absurd H (by simp)
          · rw [if_neg c46] at H
            have c46b0 : decide (0 < (t470.length : Int)) = false := decide_eq_false c46
            have c46b1 : decide (0 < t470.length) = false := decide_eq_false (by omega)
            clear c46
            (first | rw [c46b0] | (simp only [i64_w, i32_w]; rw [c46b0]) | skip)
            replace H := Option.bind_eq_some_iff.mp H
            obtain ⟨t488, A510, H⟩ := H
            replace H : (place_Round.j0 k a2 t470 t488 a1_0 a1_1 a1_2) = some (r1, r2, r3, r4) := H
            have A51 := Aside0.mk A510
            clear A510
            have H' := Aside0.mk H
            clear H
            try go_wp2
            (try (rw [drewN_self w43]; generalize hq_ : World.drewN w43 _ = w43; have n0_ : Aside0 (Kd.R (Kd.int .u32) 48 w43 w.heap.size (fun k_ => some k_ ≠ (.slice Ao36 t473.length co36 : Value).ownBlock ∧ some k_ ≠ (.slice Ao44 t476.length co44 : Value).ownBlock ∧ some k_ ≠ (.slice Ao42 y479.length co42 : Value).ownBlock ∧ some k_ ≠ (.slice Ao45 t482.length co45 : Value).ownBlock) v471 t470) := ⟨by rw [← hq_]; exact (by (with_reducible repeat (first | apply Kd.R_alloc | apply Kd.R_drewN | apply Kd.R_drew)); exact Kd.R_mono HO472.out (fun _ hk => ⟨hk.1.1, ⟨hk.1.2.1, ⟨hk.1.2.2, hk.2⟩⟩⟩))⟩; have n1_ : Aside0 (Kd.R (Kd.int .u32) 48 w43 w.heap.size (fun k_ => some k_ ≠ (v471 : Value).ownBlock ∧ some k_ ≠ (.slice Ao44 t476.length co44 : Value).ownBlock ∧ some k_ ≠ (.slice Ao42 y479.length co42 : Value).ownBlock ∧ some k_ ≠ (.slice Ao45 t482.length co45 : Value).ownBlock) (.slice Ao36 t473.length co36) t473) := ⟨by rw [← hq_]; exact (by (with_reducible repeat (first | apply Kd.R_alloc | apply Kd.R_drewN | apply Kd.R_drew)); exact Kd.R_mono HO475.out (fun _ hk => ⟨hk.1.1, ⟨hk.1.2.1, ⟨hk.1.2.2, hk.2⟩⟩⟩))⟩; have n2_ : Aside0 (Kd.R (Kd.int .u32) 48 w43 w.heap.size (fun k_ => some k_ ≠ (v471 : Value).ownBlock ∧ some k_ ≠ (.slice Ao36 t473.length co36 : Value).ownBlock ∧ some k_ ≠ (.slice Ao42 y479.length co42 : Value).ownBlock ∧ some k_ ≠ (.slice Ao45 t482.length co45 : Value).ownBlock) (.slice Ao44 t476.length co44) t476) := ⟨by rw [← hq_]; exact (by (with_reducible repeat (first | apply Kd.R_alloc | apply Kd.R_drewN | apply Kd.R_drew)); exact Kd.R_mono HO478.out (fun _ hk => ⟨hk.1.1, ⟨hk.1.2.1, ⟨hk.1.2.2, hk.2⟩⟩⟩))⟩; have n3_ : Aside0 (Kd.R (Kd.int .u32) 48 w43 w.heap.size (fun k_ => some k_ ≠ (v471 : Value).ownBlock ∧ some k_ ≠ (.slice Ao36 t473.length co36 : Value).ownBlock ∧ some k_ ≠ (.slice Ao44 t476.length co44 : Value).ownBlock ∧ some k_ ≠ (.slice Ao45 t482.length co45 : Value).ownBlock) (.slice Ao42 y479.length co42) y479) := ⟨by rw [← hq_]; exact (by (with_reducible repeat (first | apply Kd.R_alloc | apply Kd.R_drewN | apply Kd.R_drew)); exact Kd.R_mono HO481.out (fun _ hk => ⟨hk.1.1, ⟨hk.1.2.1, ⟨hk.1.2.2, hk.2⟩⟩⟩))⟩; have n4_ : Aside0 (Kd.R (Kd.int .u32) 48 w43 w.heap.size (fun k_ => some k_ ≠ (v471 : Value).ownBlock ∧ some k_ ≠ (.slice Ao36 t473.length co36 : Value).ownBlock ∧ some k_ ≠ (.slice Ao44 t476.length co44 : Value).ownBlock ∧ some k_ ≠ (.slice Ao42 y479.length co42 : Value).ownBlock) (.slice Ao45 t482.length co45) t482) := ⟨by rw [← hq_]; exact (by (with_reducible repeat (first | apply Kd.R_alloc | apply Kd.R_drewN | apply Kd.R_drew)); exact Kd.R_mono HO484.out (fun _ hk => ⟨hk.1.1.1.2, ⟨hk.1.1.2, ⟨hk.1.2, hk.2⟩⟩⟩))⟩; have n5_ : Aside0 (w43.heap[gb463]? = some (.cells #[.bool a1_0, .string a1_1, .int .i64 a1_2] 23 (0, 0))) := ⟨by rw [← hq_]; exact (by (with_reducible repeat (first | refine blk_drewN ?_ _ | refine blk_drew ?_ | refine blk_alloc ?_ _)); exact BK463.out)⟩; have n6_ : Aside0 (w43.heap[gb464]? = some (.cells #[.bool false, .string (⟨#[]⟩ : ByteArray), .int .i64 0] 23 (0, 0))) := ⟨by rw [← hq_]; exact (by (with_reducible repeat (first | refine blk_drewN ?_ _ | refine blk_drew ?_ | refine blk_alloc ?_ _)); exact BK464.out)⟩; have n7_ : Aside0 (Below w.heap.size w w43) := ⟨by rw [← hq_]; exact (by repeat (first | (with_reducible first | exact HB.out | apply below_alloc | apply pw_below_drewN | apply below_drew1 | refine below_set ?_ GE463.out | refine below_set ?_ GE464.out) | exact HB.out))⟩; clear HO472 HO475 HO478 HO481 HO484 BK463 BK464 HB hq_; have HO472 := n0_; have HO475 := n1_; have HO478 := n2_; have HO481 := n3_; have HO484 := n4_; have BK463 := n5_; have BK464 := n6_; have HB := n7_; clear n0_ n1_ n2_ n3_ n4_ n5_ n6_ n7_))
            have n0_ := Aside0.mk (Kd.R_drew HO472.out)
            have n1_ := Aside0.mk (Kd.R_drew HO475.out)
            have n2_ := Aside0.mk (Kd.R_drew HO478.out)
            have n3_ := Aside0.mk (Kd.R_drew HO481.out)
            have n4_ := Aside0.mk (Kd.R_drew HO484.out)
            have n5_ := Aside0.mk (blk_drew BK463.out)
            have n6_ := Aside0.mk (blk_drew BK464.out)
            have n7_ := Aside0.mk (below_drew1 HB.out)
            clear HO472
            clear HO475
            clear HO478
            clear HO481
            clear HO484
            clear BK463
            clear BK464
            clear HB
            have HO472 := n0_
            have HO475 := n1_
            have HO478 := n2_
            have HO481 := n3_
            have HO484 := n4_
            have BK463 := n5_
            have BK464 := n6_
            have HB := n7_
            clear n0_ n1_ n2_ n3_ n4_ n5_ n6_ n7_
            obtain ⟨Ao53, co53, eo53⟩ := Kd.R_slice HO472.out
            (first | subst eo53 | (injection eo53 with f1_ f2_ f3_; have f4_ := f1_.symm; have f5_ := f3_.symm; clear f1_ f2_ f3_; subst f4_; subst f5_))
            refine start_ (n := 15) (S := fun w' => w'.cell? ⟨gb463, 0, none⟩ = some (.bool a1_0) ∧ w'.cell? ⟨gb463, 1, none⟩ = some (.string a1_1) ∧ w'.cell? ⟨gb463, 2, none⟩ = some (.int .i64 a1_2)) (ds := []) #[false, false, false, false, false, false, false, false, false, false, false, false, false, false, false] (by kernel_rfl) rfl rfl ⟨(blk_cell BK463.out 0).trans rfl, (blk_cell BK463.out 1).trans rfl, (blk_cell BK463.out 2).trans rfl⟩ (fun hHeld => ?_); refine with_tabW place_Round.tab9 place_Round.bits9 (fun HT_ HW_ => ?_)
            generalize w43.drew = w52 at HO472 HO475 HO478 HO481 HO484 BK463 BK464 HB hHeld ⊢
            refine pure_ (i := 0) (N := some 42) (v := ?_) (a' := ?_) #[true, false, false, false, false, false, false, false, false, false, false, false, false, false, false] rfl rfl (any_of HT_.out (by kernel_rfl)) (fun _ _ _ h => h) (Or.inl ⟨by rfl, ?_⟩) ?_ ?_
            rotate_left
            · intro w'
              go_simp
              with_reducible rfl
            rotate_left
            · simp only [Act.put, List.setIfInBounds_toArray, List.set_cons_zero, List.set_cons_succ]; (try simp only [i64_w]); (try simp only [i32_w])
              rfl
            refine pure_ (i := 1) (N := some 43) (v := ?_) (a' := ?_) #[true, true, false, false, false, false, false, false, false, false, false, false, false, false, false] rfl rfl (any_of HT_.out (by kernel_rfl)) (fun _ _ _ h => h) (Or.inl ⟨by rfl, ?_⟩) ?_ ?_
            rotate_left
            · intro w'
              go_simp
              with_reducible rfl
            rotate_left
            · simp only [Act.put, List.setIfInBounds_toArray, List.set_cons_zero, List.set_cons_succ]; (try simp only [i64_w]); (try simp only [i32_w])
              rfl
            refine pure_ (i := 3) (N := some 45) (v := ?_) (a' := ?_) #[true, true, false, true, false, false, false, false, false, false, false, false, false, false, false] rfl rfl (any_of HT_.out (by kernel_rfl)) (fun _ _ _ h => h) (Or.inl ⟨by rfl, ?_⟩) ?_ ?_
            rotate_left
            · intro w'
              go_simp
              with_reducible rfl
            rotate_left
            · simp only [Act.put, List.setIfInBounds_toArray, List.set_cons_zero, List.set_cons_succ]; (try simp only [i64_w]); (try simp only [i32_w])
              rfl
            refine pure_ (i := 4) (N := some 46) (v := ?_) (a' := ?_) #[true, true, false, true, true, false, false, false, false, false, false, false, false, false, false] rfl rfl (any_of HT_.out (by kernel_rfl)) (fun _ _ _ h => h) (Or.inl ⟨by rfl, ?_⟩) ?_ ?_
            rotate_left
            · intro w'
              go_simp
              with_reducible rfl
            rotate_left
            · simp only [Act.put, List.setIfInBounds_toArray, List.set_cons_zero, List.set_cons_succ]; (try simp only [i64_w]); (try simp only [i32_w])
              rfl
            refine pure_ (i := 5) (N := some 47) (v := ?_) (a' := ?_) #[true, true, false, true, true, true, false, false, false, false, false, false, false, false, false] rfl rfl (any_of HT_.out (by kernel_rfl)) (fun _ _ _ h => h) (Or.inl ⟨by rfl, ?_⟩) ?_ ?_
            rotate_left
            · intro w'
              go_simp
              with_reducible rfl
            rotate_left
            · simp only [Act.put, List.setIfInBounds_toArray, List.set_cons_zero, List.set_cons_succ]; (try simp only [i64_w]); (try simp only [i32_w])
              rfl
            refine pure_ (i := 6) (N := some 48) (v := ?_) (a' := ?_) #[true, true, false, true, true, true, true, false, false, false, false, false, false, false, false] rfl rfl (any_of HT_.out (by kernel_rfl)) (fun _ _ _ h => h) (Or.inl ⟨by rfl, ?_⟩) ?_ ?_
            rotate_left
            · intro w'
              go_simp
              with_reducible rfl
            rotate_left
            · simp only [Act.put, List.setIfInBounds_toArray, List.set_cons_zero, List.set_cons_succ]; (try simp only [i64_w]); (try simp only [i32_w])
              rfl
            refine pure_ (i := 7) (N := some 49) (v := undef) (a' := ?_) #[true, true, false, true, true, true, true, true, false, false, false, false, false, false, false] rfl rfl (any_of HT_.out (by kernel_rfl)) (fun _ _ _ h => h) (Or.inr ⟨by rfl, rfl⟩) ?_ ?_
            rotate_left
            · simp only [Act.put, List.setIfInBounds_toArray, List.set_cons_zero, List.set_cons_succ]; (try simp only [i64_w]); (try simp only [i32_w])
              rfl
            refine pure_ (i := 8) (N := some 50) (v := undef) (a' := ?_) #[true, true, false, true, true, true, true, true, true, false, false, false, false, false, false] rfl rfl (any_of HT_.out (by kernel_rfl)) (fun _ _ _ h => h) (Or.inr ⟨by rfl, rfl⟩) ?_ ?_
            rotate_left
            · simp only [Act.put, List.setIfInBounds_toArray, List.set_cons_zero, List.set_cons_succ]; (try simp only [i64_w]); (try simp only [i32_w])
              rfl
            refine pure_ (i := 9) (N := some 51) (v := undef) (a' := ?_) #[true, true, false, true, true, true, true, true, true, true, false, false, false, false, false] rfl rfl (any_of HT_.out (by kernel_rfl)) (fun _ _ _ h => h) (Or.inr ⟨by rfl, rfl⟩) ?_ ?_
            rotate_left
            · simp only [Act.put, List.setIfInBounds_toArray, List.set_cons_zero, List.set_cons_succ]; (try simp only [i64_w]); (try simp only [i32_w])
              rfl
            refine pure_ (i := 10) (N := some 52) (v := undef) (a' := ?_) #[true, true, false, true, true, true, true, true, true, true, true, false, false, false, false] rfl rfl (any_of HT_.out (by kernel_rfl)) (fun _ _ _ h => h) (Or.inr ⟨by rfl, rfl⟩) ?_ ?_
            rotate_left
            · simp only [Act.put, List.setIfInBounds_toArray, List.set_cons_zero, List.set_cons_succ]; (try simp only [i64_w]); (try simp only [i32_w])
              rfl
            refine pure_ (i := 11) (N := some 53) (v := undef) (a' := ?_) #[true, true, false, true, true, true, true, true, true, true, true, true, false, false, false] rfl rfl (any_of HT_.out (by kernel_rfl)) (fun _ _ _ h => h) (Or.inr ⟨by rfl, rfl⟩) ?_ ?_
            rotate_left
            · simp only [Act.put, List.setIfInBounds_toArray, List.set_cons_zero, List.set_cons_succ]; (try simp only [i64_w]); (try simp only [i32_w])
              rfl
            refine pure_ (i := 12) (N := some 54) (v := ?_) (a' := ?_) #[true, true, false, true, true, true, true, true, true, true, true, true, true, false, false] rfl rfl (any_of HT_.out (by kernel_rfl)) (fun _ _ _ h => h) (Or.inl ⟨by rfl, ?_⟩) ?_ ?_
            rotate_left
            · intro w'
              go_simp
              with_reducible rfl
            rotate_left
            · simp only [Act.put, List.setIfInBounds_toArray, List.set_cons_zero, List.set_cons_succ]; (try simp only [i64_w]); (try simp only [i32_w])
              rfl
            refine pure_ (i := 13) (N := some 55) (v := ?_) (a' := ?_) #[true, true, false, true, true, true, true, true, true, true, true, true, true, true, false] rfl rfl (any_of HT_.out (by kernel_rfl)) (fun _ _ _ h => h) (Or.inl ⟨by rfl, ?_⟩) ?_ ?_
            rotate_left
            · intro w'
              go_simp
              with_reducible rfl
            rotate_left
            · simp only [Act.put, List.setIfInBounds_toArray, List.set_cons_zero, List.set_cons_succ]; (try simp only [i64_w]); (try simp only [i32_w])
              rfl
            refine take_ (i := 2) (N := some 44) (v := ?_) (a' := ?_) #[true, true, true, true, true, true, true, true, true, true, true, true, true, true, false] rfl rfl (take_ofW HT_.out HW_.out (by kernel_rfl)) (fun _ _ _ h => h) (Or.inl ⟨by rfl, ?_⟩) hHeld ?_ ?_
            rotate_left
            · rintro w' ⟨s0, s1, s2⟩
              go_simp
              with_reducible rfl
            rotate_left
            · simp only [Act.put, List.setIfInBounds_toArray, List.set_cons_zero, List.set_cons_succ]; (try simp only [i64_w]); (try simp only [i32_w])
              rfl
            refine one_ (i := 14) (N := some 56) #[true, true, true, true, true, true, true, true, true, true, true, true, true, true, true] rfl rfl (one_of HT_.out (by kernel_rfl)) (by decide) (fun K hK => ?_)
            refine goes_ Tryd.func24 (by kernel_rfl) rfl #[.int .i64 a0, .bool a1_0, .bool false, .int .i64 t485] (by rfl) rfl rfl (by (try simp only [List.map_toArray]); (try simp only [List.map_cons]); (try simp only [List.map_nil]); first | done | rfl | (simp only [List.length_drop, List.length_take]; rfl)) ?_
            with_reducible refine (mode_Away.calls a0 a1_0 false t485 t488 _ ?side1 A51.out).mono ?_
            (case side1 => exact Fig.Glob.below HG.out (by repeat (first | (with_reducible first | exact HB.out | apply below_alloc | apply pw_below_drewN | apply below_drew1 | refine below_set ?_ GE463.out | refine below_set ?_ GE464.out) | exact HB.out)))
            rintro e w' ⟨rfl, ⟨nd, rfl⟩⟩
            refine ⟨_, rfl, ?_⟩
            refine hK.out _ _ ⟨(blk_cell BK463.out 0).trans rfl, (blk_cell BK463.out 1).trans rfl, (blk_cell BK463.out 2).trans rfl⟩ (fun hHeld => ?_)
            clear hK K
            refine norm_ (a' := ?_) ?_ ?_
            rotate_left
            · show Act.put _ (some 56) _ = _
              simp only [Act.put, List.setIfInBounds_toArray, List.set_cons_zero, List.set_cons_succ]; (try simp only [i64_w]); (try simp only [i32_w])
              rfl
            refine done_ (done_of HT_.out (by kernel_rfl)) ?_
            try go_wp2
            go_meet
            case rel => exact ⟨_, (t488), (by first | rfl | (simp; done) | (simp [*]; done) | (simp [*, Fig.bne_nil]; done)), H', ⟨by first | omega | exact Nat.le_refl _⟩, ⟨by (with_reducible repeat (first | apply Kd.R_alloc | apply Kd.R_drewN | apply Kd.R_drew)); exact Kd.R_mono HO472.out (fun _ hk => trivial)⟩, ⟨by (with_reducible repeat (first | refine blk_drewN ?_ _ | refine blk_drew ?_ | refine blk_alloc ?_ _)); exact BK463.out⟩, ⟨by (with_reducible repeat (first | refine blk_drewN ?_ _ | refine blk_drew ?_ | refine blk_alloc ?_ _)); exact BK464.out⟩, ⟨by repeat (first | (with_reducible first | exact HB.out | apply below_alloc | apply pw_below_drewN | apply below_drew1 | refine below_set ?_ GE463.out | refine below_set ?_ GE464.out) | exact HB.out)⟩⟩
        case rest =>
          clear HC28
          try clear c2
          try clear p2
          try clear c4
          try clear p4
          try clear q4
          try clear hx4
          try clear qi4
          try clear p6
          try clear c20
          try clear c24
          try clear c25
          try clear c26
          try clear c46
          try clear c46b0
          try clear c46b1
          try clear c47
          try clear c47b0
          try clear c47b1
          try clear p48
          try clear q48
          try clear hx48
          try clear qi48
          try clear hx486_0
          try clear p486
          try clear q486
          obtain ⟨kq, x56_27, rfl, HA, HJ27, HO_8, BK463, BK464, HB⟩ := hcut
          cases kq with
          | zero => exact absurd HA.out (by simp [place_Round.j0])
          | succ kj27 =>
            have H := HA.out
            clear HA
            simp only [place_Round.j0] at H
            by_cases c54 : x56_27 = true
            · subst c54
              have H1 : ((nat_Add.f t470 (([1] : List Int))).bind fun t492 => ((ten_Digits.f t492).bind fun t495 => ((dec_Norm.f a1_0 t495 a2).bind fun bt496 => (some (bt496.1, bt496.2.1, bt496.2.2, 0))))) = some (r1, r2, r3, r4) := by rw [if_pos rfl] at H; exact H
              clear H
              have H := H1
              clear H1
              obtain ⟨y489, hy489⟩ : ∃ y_ : List Int, y_ = (([1] : List Int)) := ⟨_, rfl⟩
              replace H : ((nat_Add.f t470 y489).bind fun t492 => ((ten_Digits.f t492).bind fun t495 => ((dec_Norm.f a1_0 t495 a2).bind fun bt496 => (some (bt496.1, bt496.2.1, bt496.2.2, 0))))) = some (r1, r2, r3, r4) := by first | (rw [hy489]; with_reducible exact H) | (have H2_ := (Option.bind_some _ _).symm.trans H; rw [hy489]; with_reducible exact H2_) | (have H2_ := (Option.bind_some _ _).symm.trans H; with_reducible exact H2_) | with_reducible exact H | (rw [hy489]; exact H) | exact H
              have Ny489 := Aside0.mk hy489
              clear hy489
              replace H := Option.bind_eq_some_iff.mp H
              obtain ⟨t492, A550, H⟩ := H
              replace H : ((ten_Digits.f t492).bind fun t495 => ((dec_Norm.f a1_0 t495 a2).bind fun bt496 => (some (bt496.1, bt496.2.1, bt496.2.2, 0)))) = some (r1, r2, r3, r4) := H
              have A55 := Aside0.mk A550
              clear A550
              replace H := Option.bind_eq_some_iff.mp H
              obtain ⟨t495, A560, H⟩ := H
              replace H : ((dec_Norm.f a1_0 t495 a2).bind fun bt496 => (some (bt496.1, bt496.2.1, bt496.2.2, 0))) = some (r1, r2, r3, r4) := H
              have A56 := Aside0.mk A560
              clear A560
              replace H := Option.bind_eq_some_iff.mp H
              obtain ⟨⟨t496, t497, t498⟩, A570, H⟩ := H
              replace H : (some (t496, t497, t498, 0)) = some (r1, r2, r3, r4) := H
              have A57 := Aside0.mk A570
              clear A570
              simp only [Option.some.injEq, Prod.mk.injEq] at H
              obtain ⟨rfl, rfl, rfl, rfl⟩ := H
              try go_wp2_with (first | ((with_reducible refine gate_dst (N := 58) rfl ?_); refine Kd.R_lit (Kd.int .u32) _ 48 ?hg (N := 58) ?hd (xs := ([1] : List Int)) (inner := [.int .u32 1]) (ok := fun _ => True) (okp := fun _ => True) ?hr ?hp (fun _ hk => hk) trivial (Below.refl _ _) (Nat.le_refl _) (by simp) ?_; (case hd => rfl); (case hg => rfl); (case hr => first | (go_simp; done) | (go_simp; rfl)); (case hp => exact (Reps.one (show Kd.M (Kd.int .u32) _ _ _ 1 [.int .u32 1] from rfl) (Reps.none _ _))); intro v490 w58 ho59 hb hg_ hnew_; clear hg_ hnew_; (first | rw [← Ny489.out] at ho59 | (simp only [Int.reduceToNat] at ho59; rw [← Ny489.out] at ho59)); have n0_ := Aside0.mk (Kd.R_elder' (by (with_reducible repeat (first | apply Kd.R_alloc | apply Kd.R_drewN | apply Kd.R_drew)); exact HO_8.out) (Kd.R_base ho59) hb); have n1_ := Aside0.mk (Kd.R_lower (Kd.R_new' ho59 (Kd.R_lt (by (with_reducible repeat (first | apply Kd.R_alloc | apply Kd.R_drewN | apply Kd.R_drew)); exact HO_8.out))) (below_size (by repeat (first | (with_reducible first | exact HB.out | apply below_alloc | apply pw_below_drewN | apply below_drew1 | refine below_set ?_ GE463.out | refine below_set ?_ GE464.out) | exact HB.out)))); have n2_ := Aside0.mk (blk_below (g := gb463) (o := .cells #[.bool a1_0, .string a1_1, .int .i64 a1_2] 23 (0, 0)) (by (with_reducible repeat (first | refine blk_drewN ?_ _ | refine blk_drew ?_ | refine blk_alloc ?_ _)); exact BK463.out) hb); have n3_ := Aside0.mk (blk_below (g := gb464) (o := .cells #[.bool false, .string (⟨#[]⟩ : ByteArray), .int .i64 0] 23 (0, 0)) (by (with_reducible repeat (first | refine blk_drewN ?_ _ | refine blk_drew ?_ | refine blk_alloc ?_ _)); exact BK464.out) hb); have n4_ := Aside0.mk (below_step (by repeat (first | (with_reducible first | exact HB.out | apply below_alloc | apply pw_below_drewN | apply below_drew1 | refine below_set ?_ GE463.out | refine below_set ?_ GE464.out) | exact HB.out)) hb); clear HO_8; clear BK463; clear BK464; clear HB; have HO_8 := n0_; have HO491 := n1_; have BK463 := n2_; have BK464 := n3_; have HB := n4_; clear n0_ n1_ n2_ n3_ n4_; clear hb ho59; obtain ⟨Ao60, co60, eo60⟩ := Kd.R_slice HO_8.out; subst eo60; obtain ⟨Ao61, co61, eo61⟩ := Kd.R_slice HO491.out; subst eo61) | ((with_reducible refine gate_callee (f := 26) rfl ?_); refine goesL_ (some 59) rfl rfl Tryd.func26 (by kernel_rfl) rfl #[.slice Ao60 t470.length co60, .slice Ao61 y489.length co61] rfl (by (try simp only [List.map_toArray]); (try simp only [List.map_cons]); (try simp only [List.map_nil]); first | done | rfl | (simp only [List.length_drop, List.length_take]; rfl)) ?_; (with_reducible refine (nat_Add.calls _ _ t470 _ _ y489 t492 _ ?side1 ?side2 ?side3 ?side4 A55.out).mono ?_); (case side1 => repeat (first | exact (Kd.R_reads' HO_8.out).2.2 | (with_reducible refine Kd.C_alloc ?_ _) | (with_reducible refine Kd.C_drewN ?_ _) | (with_reducible refine Kd.C_drew ?_))); (case side2 => exact (Kd.R_reads' HO_8.out).2.1); (case side3 => repeat (first | exact (Kd.R_reads' HO491.out).2.2 | (with_reducible refine Kd.C_alloc ?_ _) | (with_reducible refine Kd.C_drewN ?_ _) | (with_reducible refine Kd.C_drew ?_))); (case side4 => exact (Kd.R_reads' HO491.out).2.1); rintro e w62 ⟨v493, rfl, ho0, hb⟩; refine ⟨_, rfl, ?_⟩; have n0_ := Aside0.mk (Kd.R_elder' (by (with_reducible repeat (first | apply Kd.R_alloc | apply Kd.R_drewN | apply Kd.R_drew)); exact HO_8.out) (Kd.R_base ho0) hb); have n1_ := Aside0.mk (Kd.R_elder' (by (with_reducible repeat (first | apply Kd.R_alloc | apply Kd.R_drewN | apply Kd.R_drew)); exact HO491.out) (Kd.R_base ho0) hb); have n2_ := Aside0.mk (Kd.R_lower (Kd.R_new' (Kd.R_new' ho0 (Kd.R_lt (by (with_reducible repeat (first | apply Kd.R_alloc | apply Kd.R_drewN | apply Kd.R_drew)); exact HO_8.out))) (Kd.R_lt (by (with_reducible repeat (first | apply Kd.R_alloc | apply Kd.R_drewN | apply Kd.R_drew)); exact HO491.out))) (below_size (by repeat (first | (with_reducible first | exact HB.out | apply below_alloc | apply pw_below_drewN | apply below_drew1 | refine below_set ?_ GE463.out | refine below_set ?_ GE464.out) | exact HB.out)))); have n3_ := Aside0.mk (blk_below (g := gb463) (o := .cells #[.bool a1_0, .string a1_1, .int .i64 a1_2] 23 (0, 0)) (by (with_reducible repeat (first | refine blk_drewN ?_ _ | refine blk_drew ?_ | refine blk_alloc ?_ _)); exact BK463.out) hb); have n4_ := Aside0.mk (blk_below (g := gb464) (o := .cells #[.bool false, .string (⟨#[]⟩ : ByteArray), .int .i64 0] 23 (0, 0)) (by (with_reducible repeat (first | refine blk_drewN ?_ _ | refine blk_drew ?_ | refine blk_alloc ?_ _)); exact BK464.out) hb); have n5_ := Aside0.mk (below_step (by repeat (first | (with_reducible first | exact HB.out | apply below_alloc | apply pw_below_drewN | apply below_drew1 | refine below_set ?_ GE463.out | refine below_set ?_ GE464.out) | exact HB.out)) hb); clear HO_8; clear HO491; clear BK463; clear BK464; clear HB; have HO_8 := n0_; have HO491 := n1_; have HO494 := n2_; have BK463 := n3_; have BK464 := n4_; have HB := n5_; clear n0_ n1_ n2_ n3_ n4_ n5_; (try clear hb); (try clear hb2); (try clear hk); (try clear hi); (try clear ho0)))
              (try (rw [drewN_self w62]; generalize hq_ : World.drewN w62 _ = w62; have n0_ : Aside0 (Kd.R (Kd.int .u32) 48 w62 w.heap.size (fun k_ => some k_ ≠ (v493 : Value).ownBlock ∧ some k_ ≠ (.slice Ao60 t470.length co60 : Value).ownBlock) (.slice Ao61 y489.length co61) y489) := ⟨by rw [← hq_]; exact (by (with_reducible repeat (first | apply Kd.R_alloc | apply Kd.R_drewN | apply Kd.R_drew)); exact Kd.R_mono HO491.out (fun _ hk => ⟨hk.2, hk.1.2⟩))⟩; have n1_ : Aside0 (Kd.R (Kd.int .u32) 48 w62 w.heap.size (fun k_ => some k_ ≠ (.slice Ao61 y489.length co61 : Value).ownBlock ∧ some k_ ≠ (.slice Ao60 t470.length co60 : Value).ownBlock) v493 t492) := ⟨by rw [← hq_]; exact (by (with_reducible repeat (first | apply Kd.R_alloc | apply Kd.R_drewN | apply Kd.R_drew)); exact Kd.R_mono HO494.out (fun _ hk => ⟨hk.2, hk.1.2⟩))⟩; have n2_ : Aside0 (Kd.R (Kd.int .u32) 48 w62 w.heap.size (fun k_ => some k_ ≠ (.slice Ao61 y489.length co61 : Value).ownBlock ∧ some k_ ≠ (v493 : Value).ownBlock) (.slice Ao60 t470.length co60) t470) := ⟨by rw [← hq_]; exact (by (with_reducible repeat (first | apply Kd.R_alloc | apply Kd.R_drewN | apply Kd.R_drew)); exact Kd.R_mono HO_8.out (fun _ hk => ⟨hk.1.2, hk.2⟩))⟩; have n3_ : Aside0 (w62.heap[gb463]? = some (.cells #[.bool a1_0, .string a1_1, .int .i64 a1_2] 23 (0, 0))) := ⟨by rw [← hq_]; exact (by (with_reducible repeat (first | refine blk_drewN ?_ _ | refine blk_drew ?_ | refine blk_alloc ?_ _)); exact BK463.out)⟩; have n4_ : Aside0 (w62.heap[gb464]? = some (.cells #[.bool false, .string (⟨#[]⟩ : ByteArray), .int .i64 0] 23 (0, 0))) := ⟨by rw [← hq_]; exact (by (with_reducible repeat (first | refine blk_drewN ?_ _ | refine blk_drew ?_ | refine blk_alloc ?_ _)); exact BK464.out)⟩; have n5_ : Aside0 (Below w.heap.size w w62) := ⟨by rw [← hq_]; exact (by repeat (first | (with_reducible first | exact HB.out | apply below_alloc | apply pw_below_drewN | apply below_drew1 | refine below_set ?_ GE463.out | refine below_set ?_ GE464.out) | exact HB.out))⟩; clear HO491 HO494 HO_8 BK463 BK464 HB hq_; have HO491 := n0_; have HO494 := n1_; have HO_8 := n2_; have BK463 := n3_; have BK464 := n4_; have HB := n5_; clear n0_ n1_ n2_ n3_ n4_ n5_))
              have n0_ := Aside0.mk (Kd.R_drew HO_8.out)
              have n1_ := Aside0.mk (Kd.R_drew HO491.out)
              have n2_ := Aside0.mk (Kd.R_drew HO494.out)
              have n3_ := Aside0.mk (blk_drew BK463.out)
              have n4_ := Aside0.mk (blk_drew BK464.out)
              have n5_ := Aside0.mk (below_drew1 HB.out)
              clear HO_8
              clear HO491
              clear HO494
              clear BK463
              clear BK464
              clear HB
              have HO_8 := n0_
              have HO491 := n1_
              have HO494 := n2_
              have BK463 := n3_
              have BK464 := n4_
              have HB := n5_
              clear n0_ n1_ n2_ n3_ n4_ n5_
              obtain ⟨Ao64, co64, eo64⟩ := Kd.R_slice HO494.out
              (first | subst eo64 | (injection eo64 with f1_ f2_ f3_; have f4_ := f1_.symm; have f5_ := f3_.symm; clear f1_ f2_ f3_; subst f4_; subst f5_))
              refine start_ (n := 9) (S := fun w' => w'.cell? ⟨gb463, 0, none⟩ = some (.bool a1_0) ∧ w'.cell? ⟨gb463, 1, none⟩ = some (.string a1_1) ∧ w'.cell? ⟨gb463, 2, none⟩ = some (.int .i64 a1_2)) (ds := []) #[false, false, false, false, false, false, false, false, false] (by kernel_rfl) rfl rfl ⟨(blk_cell BK463.out 0).trans rfl, (blk_cell BK463.out 1).trans rfl, (blk_cell BK463.out 2).trans rfl⟩ (fun hHeld => ?_); refine with_tabW place_Round.tab11 place_Round.bits11 (fun HT_ HW_ => ?_)
              generalize w62.drew = w63 at HO_8 HO491 HO494 BK463 BK464 HB hHeld ⊢
              refine pure_ (i := 0) (N := some 60) (v := ?_) (a' := ?_) #[true, false, false, false, false, false, false, false, false] rfl rfl (any_of HT_.out (by kernel_rfl)) (fun _ _ _ h => h) (Or.inl ⟨by rfl, ?_⟩) ?_ ?_
              rotate_left
              · intro w'
                go_simp
                with_reducible rfl
              rotate_left
              · simp only [Act.put, List.setIfInBounds_toArray, List.set_cons_zero, List.set_cons_succ]; (try simp only [i64_w]); (try simp only [i32_w])
                rfl
              refine pure_ (i := 2) (N := some 62) (v := ?_) (a' := ?_) #[true, false, true, false, false, false, false, false, false] rfl rfl (any_of HT_.out (by kernel_rfl)) (fun _ _ _ h => h) (Or.inl ⟨by rfl, ?_⟩) ?_ ?_
              rotate_left
              · intro w'
                go_simp
                with_reducible rfl
              rotate_left
              · simp only [Act.put, List.setIfInBounds_toArray, List.set_cons_zero, List.set_cons_succ]; (try simp only [i64_w]); (try simp only [i32_w])
                rfl
              refine pure_ (i := 4) (N := some 64) (v := ?_) (a' := ?_) #[true, false, true, false, true, false, false, false, false] rfl rfl (any_of HT_.out (by kernel_rfl)) (fun _ _ _ h => h) (Or.inl ⟨by rfl, ?_⟩) ?_ ?_
              rotate_left
              · intro w'
                go_simp
                with_reducible rfl
              rotate_left
              · simp only [Act.put, List.setIfInBounds_toArray, List.set_cons_zero, List.set_cons_succ]; (try simp only [i64_w]); (try simp only [i32_w])
                rfl
              refine take_ (i := 1) (N := some 61) (v := ?_) (a' := ?_) #[true, true, true, false, true, false, false, false, false] rfl rfl (take_ofW HT_.out HW_.out (by kernel_rfl)) (fun _ _ _ h => h) (Or.inl ⟨by rfl, ?_⟩) hHeld ?_ ?_
              rotate_left
              · rintro w' ⟨s0, s1, s2⟩
                go_simp
                with_reducible rfl
              rotate_left
              · simp only [Act.put, List.setIfInBounds_toArray, List.set_cons_zero, List.set_cons_succ]; (try simp only [i64_w]); (try simp only [i32_w])
                rfl
              refine one_ (i := 3) (N := some 63) #[true, true, true, true, true, false, false, false, false] rfl rfl (one_of HT_.out (by kernel_rfl)) (by decide) (fun K hK => ?_)
              refine goes_ Tryd.func27 (by kernel_rfl) rfl #[.slice Ao64 t492.length co64] (by rfl) rfl rfl (by (try simp only [List.map_toArray]); (try simp only [List.map_cons]); (try simp only [List.map_nil]); first | done | rfl | (simp only [List.length_drop, List.length_take]; rfl)) ?_
              with_reducible refine (ten_Digits.calls _ _ t492 t495 _ ?side1 ?side2 A56.out).mono ?_
              (case side1 => repeat (first | exact (Kd.R_reads' HO494.out).2.2 | (with_reducible refine Kd.C_alloc ?_ _) | (with_reducible refine Kd.C_drewN ?_ _) | (with_reducible refine Kd.C_drew ?_)))
              (case side2 => exact (Kd.R_reads' HO494.out).2.1)
              rintro e w65 ⟨rfl, hb⟩
              refine ⟨_, rfl, ?_⟩
              have n0_ := Aside0.mk (Kd.R_below (by (with_reducible repeat (first | apply Kd.R_alloc | apply Kd.R_drewN | apply Kd.R_drew)); exact HO_8.out) hb)
              have n1_ := Aside0.mk (Kd.R_below (by (with_reducible repeat (first | apply Kd.R_alloc | apply Kd.R_drewN | apply Kd.R_drew)); exact HO491.out) hb)
              have n2_ := Aside0.mk (Kd.R_below (by (with_reducible repeat (first | apply Kd.R_alloc | apply Kd.R_drewN | apply Kd.R_drew)); exact HO494.out) hb)
              have n3_ := Aside0.mk (blk_below (g := gb463) (o := .cells #[.bool a1_0, .string a1_1, .int .i64 a1_2] 23 (0, 0)) (by (with_reducible repeat (first | refine blk_drewN ?_ _ | refine blk_drew ?_ | refine blk_alloc ?_ _)); exact BK463.out) hb)
              have n4_ := Aside0.mk (blk_below (g := gb464) (o := .cells #[.bool false, .string (⟨#[]⟩ : ByteArray), .int .i64 0] 23 (0, 0)) (by (with_reducible repeat (first | refine blk_drewN ?_ _ | refine blk_drew ?_ | refine blk_alloc ?_ _)); exact BK464.out) hb)
              have n5_ := Aside0.mk (below_step (by repeat (first | (with_reducible first | exact HB.out | apply below_alloc | apply pw_below_drewN | apply below_drew1 | refine below_set ?_ GE463.out | refine below_set ?_ GE464.out) | exact HB.out)) hb)
              clear HO_8
              clear HO491
              clear HO494
              clear BK463
              clear BK464
              clear HB
              have HO_8 := n0_
              have HO491 := n1_
              have HO494 := n2_
              have BK463 := n3_
              have BK464 := n4_
              have HB := n5_
              clear n0_ n1_ n2_ n3_ n4_ n5_
              (try clear hb)
              (try clear hb2)
              (try clear hk)
              (try clear hi)
              refine hK.out _ _ ⟨(blk_cell BK463.out 0).trans rfl, (blk_cell BK463.out 1).trans rfl, (blk_cell BK463.out 2).trans rfl⟩ (fun hHeld => ?_)
              clear hK K
              refine norm_ (a' := ?_) ?_ ?_
              rotate_left
              · show Act.put _ (some 63) _ = _
                simp only [Act.put, List.setIfInBounds_toArray, List.set_cons_zero, List.set_cons_succ]; (try simp only [i64_w]); (try simp only [i32_w])
                rfl
              refine pure_ (i := 5) (N := some 65) (v := ?_) (a' := ?_) #[true, true, true, true, true, true, false, false, false] rfl rfl (any_of HT_.out (by kernel_rfl)) (fun _ _ _ h => h) (Or.inl ⟨by rfl, ?_⟩) ?_ ?_
              rotate_left
              · intro w'
                go_simp
                with_reducible rfl
              rotate_left
              · simp only [Act.put, List.setIfInBounds_toArray, List.set_cons_zero, List.set_cons_succ]; (try simp only [i64_w]); (try simp only [i32_w])
                rfl
              refine one_ (i := 6) (N := some 66) #[true, true, true, true, true, true, true, false, false] rfl rfl (one_of HT_.out (by kernel_rfl)) (by decide) (fun K hK => ?_)
              refine goes_ Tryd.func23 (by kernel_rfl) rfl #[.agg #[.bool a1_0, .string t495, .int .i64 a2]] (by rfl) rfl rfl (by (try simp only [List.map_toArray]); (try simp only [List.map_cons]); (try simp only [List.map_nil]); first | done | rfl | (simp only [List.length_drop, List.length_take]; rfl)) ?_
              with_reducible refine (dec_Norm.calls a1_0 t495 a2 t496 t497 t498 _ A57.out).mono ?_
              rintro e w66 ⟨rfl, hb⟩
              refine ⟨_, rfl, ?_⟩
              have n0_ := Aside0.mk (Kd.R_below (by (with_reducible repeat (first | apply Kd.R_alloc | apply Kd.R_drewN | apply Kd.R_drew)); exact HO_8.out) hb)
              have n1_ := Aside0.mk (Kd.R_below (by (with_reducible repeat (first | apply Kd.R_alloc | apply Kd.R_drewN | apply Kd.R_drew)); exact HO491.out) hb)
              have n2_ := Aside0.mk (Kd.R_below (by (with_reducible repeat (first | apply Kd.R_alloc | apply Kd.R_drewN | apply Kd.R_drew)); exact HO494.out) hb)
              have n3_ := Aside0.mk (blk_below (g := gb463) (o := .cells #[.bool a1_0, .string a1_1, .int .i64 a1_2] 23 (0, 0)) (by (with_reducible repeat (first | refine blk_drewN ?_ _ | refine blk_drew ?_ | refine blk_alloc ?_ _)); exact BK463.out) hb)
              have n4_ := Aside0.mk (blk_below (g := gb464) (o := .cells #[.bool false, .string (⟨#[]⟩ : ByteArray), .int .i64 0] 23 (0, 0)) (by (with_reducible repeat (first | refine blk_drewN ?_ _ | refine blk_drew ?_ | refine blk_alloc ?_ _)); exact BK464.out) hb)
              have n5_ := Aside0.mk (below_step (by repeat (first | (with_reducible first | exact HB.out | apply below_alloc | apply pw_below_drewN | apply below_drew1 | refine below_set ?_ GE463.out | refine below_set ?_ GE464.out) | exact HB.out)) hb)
              clear HO_8
              clear HO491
              clear HO494
              clear BK463
              clear BK464
              clear HB
              have HO_8 := n0_
              have HO491 := n1_
              have HO494 := n2_
              have BK463 := n3_
              have BK464 := n4_
              have HB := n5_
              clear n0_ n1_ n2_ n3_ n4_ n5_
              (try clear hb)
              (try clear hb2)
              (try clear hk)
              (try clear hi)
              refine hK.out _ _ ⟨(blk_cell BK463.out 0).trans rfl, (blk_cell BK463.out 1).trans rfl, (blk_cell BK463.out 2).trans rfl⟩ (fun hHeld => ?_)
              clear hK K
              refine norm_ (a' := ?_) ?_ ?_
              rotate_left
              · show Act.put _ (some 66) _ = _
                simp only [Act.put, List.setIfInBounds_toArray, List.set_cons_zero, List.set_cons_succ]; (try simp only [i64_w]); (try simp only [i32_w])
                rfl
              refine one_ (i := 7) (N := none) #[true, true, true, true, true, true, true, true, false] rfl rfl (one_of HT_.out (by kernel_rfl)) (by decide) (fun K hK => ?_)
              have hs67 : w66.cell? ⟨gb464, 0, none⟩ = some (.bool false) := (blk_cell BK464.out 0).trans rfl
              have hfs67 := blk_frozen BK464.out 0
              have hns67_0 := NB463_464.out
              have hms67_0 := NB464_463.out
              have hs68 : w66.cell? ⟨gb464, 1, none⟩ = some (.string (⟨#[]⟩ : ByteArray)) := (blk_cell BK464.out 1).trans rfl
              have hfs68 := blk_frozen BK464.out 1
              have hns68_0 := NB463_464.out
              have hms68_0 := NB464_463.out
              have hs69 : w66.cell? ⟨gb464, 2, none⟩ = some (.int .i64 0) := (blk_cell BK464.out 2).trans rfl
              have hfs69 := blk_frozen BK464.out 2
              have hns69_0 := NB463_464.out
              have hms69_0 := NB464_463.out
              refine skip_ (w1 := ?_) (by rfl) rfl ?_ ?_
              rotate_left
              · go_simp
                rfl
              refine hK.out _ _ ⟨((cell_far (p := ⟨gb464, _, none⟩) NB463_464.out _).trans (((cell_far (p := ⟨gb464, _, none⟩) NB463_464.out _).trans (((cell_far (p := ⟨gb464, _, none⟩) NB463_464.out _).trans (hHeld.1)))))), ((cell_far (p := ⟨gb464, _, none⟩) NB463_464.out _).trans (((cell_far (p := ⟨gb464, _, none⟩) NB463_464.out _).trans (((cell_far (p := ⟨gb464, _, none⟩) NB463_464.out _).trans (hHeld.2.1)))))), ((cell_far (p := ⟨gb464, _, none⟩) NB463_464.out _).trans (((cell_far (p := ⟨gb464, _, none⟩) NB463_464.out _).trans (((cell_far (p := ⟨gb464, _, none⟩) NB463_464.out _).trans (hHeld.2.2))))))⟩ (fun hHeld => ?_)
              clear hK K
              refine pure_ (i := 8) (N := some 7) (v := ?_) (a' := ?_) #[true, true, true, true, true, true, true, true, true] rfl rfl (any_of HT_.out (by kernel_rfl)) (fun _ _ _ h => h) (Or.inl ⟨by rfl, ?_⟩) ?_ ?_
              rotate_left
              · intro w'
                go_simp
                with_reducible rfl
              rotate_left
              · simp only [Act.put, List.setIfInBounds_toArray, List.set_cons_zero, List.set_cons_succ]; (try simp only [i64_w]); (try simp only [i32_w])
                rfl
              refine done_ (done_of HT_.out (by kernel_rfl)) ?_
              try go_wp2
              refine bodyPost_ret (results_ct rfl _ _ gb464 23 #[.bool t496, .string t497, .int .i64 t498] (0, 0) _ rfl (by (with_reducible repeat (first | refine blk_drewN ?_ _ | refine blk_drew ?_ | refine blk_alloc ?_ _)); refine blk_put (cs := #[.bool t496, .string t497, .int .i64 0]) ?_ 2 _ rfl; (with_reducible repeat (first | refine blk_drewN ?_ _ | refine blk_drew ?_ | refine blk_alloc ?_ _)); refine blk_put (cs := #[.bool t496, .string (⟨#[]⟩ : ByteArray), .int .i64 0]) ?_ 1 _ rfl; (with_reducible repeat (first | refine blk_drewN ?_ _ | refine blk_drew ?_ | refine blk_alloc ?_ _)); refine blk_put (cs := #[.bool false, .string (⟨#[]⟩ : ByteArray), .int .i64 0]) ?_ 0 _ rfl; (with_reducible repeat (first | refine blk_drewN ?_ _ | refine blk_drew ?_ | refine blk_alloc ?_ _)); exact BK464.out) Tryd.underlying23 rfl (by kernel_rfl)) rfl ?_
              exact ⟨by first | rfl | (simp [errW_none, errW_some] <;> rfl) | (simp [*, errW_none, errW_some] <;> rfl), by repeat (first | (with_reducible first | exact HB.out | apply below_alloc | apply pw_below_drewN | apply below_drew1 | refine below_set ?_ GE463.out | refine below_set ?_ GE464.out) | exact HB.out)⟩
            · replace c54 := Bool.eq_false_iff.mpr c54
              subst c54
              have H1 : ((ten_Digits.f t470).bind fun t499 => ((dec_Norm.f a1_0 t499 a2).bind fun bt500 => (some (bt500.1, bt500.2.1, bt500.2.2, 0)))) = some (r1, r2, r3, r4) := by rw [if_neg (show ¬ (false = true) by decide)] at H; exact H
              clear H
              have H := H1
              clear H1
              replace H := Option.bind_eq_some_iff.mp H
              obtain ⟨t499, A700, H⟩ := H
              replace H : ((dec_Norm.f a1_0 t499 a2).bind fun bt500 => (some (bt500.1, bt500.2.1, bt500.2.2, 0))) = some (r1, r2, r3, r4) := H
              have A70 := Aside0.mk A700
              clear A700
              replace H := Option.bind_eq_some_iff.mp H
              obtain ⟨⟨t500, t501, t502⟩, A710, H⟩ := H
              replace H : (some (t500, t501, t502, 0)) = some (r1, r2, r3, r4) := H
              have A71 := Aside0.mk A710
              clear A710
              simp only [Option.some.injEq, Prod.mk.injEq] at H
              obtain ⟨rfl, rfl, rfl, rfl⟩ := H
              try go_wp2
              (try (rw [drewN_self wc]; generalize hq_ : World.drewN wc _ = wc; have n0_ : Aside0 (Kd.R (Kd.int .u32) 48 wc w.heap.size (fun _ => True) v471 t470) := ⟨by rw [← hq_]; exact (by (with_reducible repeat (first | apply Kd.R_alloc | apply Kd.R_drewN | apply Kd.R_drew)); exact HO_8.out)⟩; have n1_ : Aside0 (wc.heap[gb463]? = some (.cells #[.bool a1_0, .string a1_1, .int .i64 a1_2] 23 (0, 0))) := ⟨by rw [← hq_]; exact (by (with_reducible repeat (first | refine blk_drewN ?_ _ | refine blk_drew ?_ | refine blk_alloc ?_ _)); exact BK463.out)⟩; have n2_ : Aside0 (wc.heap[gb464]? = some (.cells #[.bool false, .string (⟨#[]⟩ : ByteArray), .int .i64 0] 23 (0, 0))) := ⟨by rw [← hq_]; exact (by (with_reducible repeat (first | refine blk_drewN ?_ _ | refine blk_drew ?_ | refine blk_alloc ?_ _)); exact BK464.out)⟩; have n3_ : Aside0 (Below w.heap.size w wc) := ⟨by rw [← hq_]; exact (by repeat (first | (with_reducible first | exact HB.out | apply below_alloc | apply pw_below_drewN | apply below_drew1 | refine below_set ?_ GE463.out | refine below_set ?_ GE464.out) | exact HB.out))⟩; clear HO_8 BK463 BK464 HB hq_; have HO_8 := n0_; have BK463 := n1_; have BK464 := n2_; have HB := n3_; clear n0_ n1_ n2_ n3_))
              have n0_ := Aside0.mk (Kd.R_drew HO_8.out)
              have n1_ := Aside0.mk (blk_drew BK463.out)
              have n2_ := Aside0.mk (blk_drew BK464.out)
              have n3_ := Aside0.mk (below_drew1 HB.out)
              clear HO_8
              clear BK463
              clear BK464
              clear HB
              have HO_8 := n0_
              have BK463 := n1_
              have BK464 := n2_
              have HB := n3_
              clear n0_ n1_ n2_ n3_
              obtain ⟨Ao73, co73, eo73⟩ := Kd.R_slice HO_8.out
              (first | subst eo73 | (injection eo73 with f1_ f2_ f3_; have f4_ := f1_.symm; have f5_ := f3_.symm; clear f1_ f2_ f3_; subst f4_; subst f5_))
              refine start_ (n := 9) (S := fun w' => w'.cell? ⟨gb463, 0, none⟩ = some (.bool a1_0) ∧ w'.cell? ⟨gb463, 1, none⟩ = some (.string a1_1) ∧ w'.cell? ⟨gb463, 2, none⟩ = some (.int .i64 a1_2)) (ds := []) #[false, false, false, false, false, false, false, false, false] (by kernel_rfl) rfl rfl ⟨(blk_cell BK463.out 0).trans rfl, (blk_cell BK463.out 1).trans rfl, (blk_cell BK463.out 2).trans rfl⟩ (fun hHeld => ?_); refine with_tabW place_Round.tab11 place_Round.bits11 (fun HT_ HW_ => ?_)
              generalize wc.drew = w72 at HO_8 BK463 BK464 HB hHeld ⊢
              refine pure_ (i := 0) (N := some 60) (v := ?_) (a' := ?_) #[true, false, false, false, false, false, false, false, false] rfl rfl (any_of HT_.out (by kernel_rfl)) (fun _ _ _ h => h) (Or.inl ⟨by rfl, ?_⟩) ?_ ?_
              rotate_left
              · intro w'
                go_simp
                with_reducible rfl
              rotate_left
              · simp only [Act.put, List.setIfInBounds_toArray, List.set_cons_zero, List.set_cons_succ]; (try simp only [i64_w]); (try simp only [i32_w])
                rfl
              refine pure_ (i := 2) (N := some 62) (v := ?_) (a' := ?_) #[true, false, true, false, false, false, false, false, false] rfl rfl (any_of HT_.out (by kernel_rfl)) (fun _ _ _ h => h) (Or.inl ⟨by rfl, ?_⟩) ?_ ?_
              rotate_left
              · intro w'
                go_simp
                with_reducible rfl
              rotate_left
              · simp only [Act.put, List.setIfInBounds_toArray, List.set_cons_zero, List.set_cons_succ]; (try simp only [i64_w]); (try simp only [i32_w])
                rfl
              refine pure_ (i := 4) (N := some 64) (v := ?_) (a' := ?_) #[true, false, true, false, true, false, false, false, false] rfl rfl (any_of HT_.out (by kernel_rfl)) (fun _ _ _ h => h) (Or.inl ⟨by rfl, ?_⟩) ?_ ?_
              rotate_left
              · intro w'
                go_simp
                with_reducible rfl
              rotate_left
              · simp only [Act.put, List.setIfInBounds_toArray, List.set_cons_zero, List.set_cons_succ]; (try simp only [i64_w]); (try simp only [i32_w])
                rfl
              refine take_ (i := 1) (N := some 61) (v := ?_) (a' := ?_) #[true, true, true, false, true, false, false, false, false] rfl rfl (take_ofW HT_.out HW_.out (by kernel_rfl)) (fun _ _ _ h => h) (Or.inl ⟨by rfl, ?_⟩) hHeld ?_ ?_
              rotate_left
              · rintro w' ⟨s0, s1, s2⟩
                go_simp
                with_reducible rfl
              rotate_left
              · simp only [Act.put, List.setIfInBounds_toArray, List.set_cons_zero, List.set_cons_succ]; (try simp only [i64_w]); (try simp only [i32_w])
                rfl
              refine one_ (i := 3) (N := some 63) #[true, true, true, true, true, false, false, false, false] rfl rfl (one_of HT_.out (by kernel_rfl)) (by decide) (fun K hK => ?_)
              refine goes_ Tryd.func27 (by kernel_rfl) rfl #[.slice Ao73 t470.length co73] (by rfl) rfl rfl (by (try simp only [List.map_toArray]); (try simp only [List.map_cons]); (try simp only [List.map_nil]); first | done | rfl | (simp only [List.length_drop, List.length_take]; rfl)) ?_
              with_reducible refine (ten_Digits.calls _ _ t470 t499 _ ?side1 ?side2 A70.out).mono ?_
              (case side1 => repeat (first | exact (Kd.R_reads' HO_8.out).2.2 | (with_reducible refine Kd.C_alloc ?_ _) | (with_reducible refine Kd.C_drewN ?_ _) | (with_reducible refine Kd.C_drew ?_)))
              (case side2 => exact (Kd.R_reads' HO_8.out).2.1)
              rintro e w74 ⟨rfl, hb⟩
              refine ⟨_, rfl, ?_⟩
              have n0_ := Aside0.mk (Kd.R_below (by (with_reducible repeat (first | apply Kd.R_alloc | apply Kd.R_drewN | apply Kd.R_drew)); exact HO_8.out) hb)
              have n1_ := Aside0.mk (blk_below (g := gb463) (o := .cells #[.bool a1_0, .string a1_1, .int .i64 a1_2] 23 (0, 0)) (by (with_reducible repeat (first | refine blk_drewN ?_ _ | refine blk_drew ?_ | refine blk_alloc ?_ _)); exact BK463.out) hb)
              have n2_ := Aside0.mk (blk_below (g := gb464) (o := .cells #[.bool false, .string (⟨#[]⟩ : ByteArray), .int .i64 0] 23 (0, 0)) (by (with_reducible repeat (first | refine blk_drewN ?_ _ | refine blk_drew ?_ | refine blk_alloc ?_ _)); exact BK464.out) hb)
              have n3_ := Aside0.mk (below_step (by repeat (first | (with_reducible first | exact HB.out | apply below_alloc | apply pw_below_drewN | apply below_drew1 | refine below_set ?_ GE463.out | refine below_set ?_ GE464.out) | exact HB.out)) hb)
              clear HO_8
              clear BK463
              clear BK464
              clear HB
              have HO_8 := n0_
              have BK463 := n1_
              have BK464 := n2_
              have HB := n3_
              clear n0_ n1_ n2_ n3_
              (try clear hb)
              (try clear hb2)
              (try clear hk)
              (try clear hi)
              refine hK.out _ _ ⟨(blk_cell BK463.out 0).trans rfl, (blk_cell BK463.out 1).trans rfl, (blk_cell BK463.out 2).trans rfl⟩ (fun hHeld => ?_)
              clear hK K
              refine norm_ (a' := ?_) ?_ ?_
              rotate_left
              · show Act.put _ (some 63) _ = _
                simp only [Act.put, List.setIfInBounds_toArray, List.set_cons_zero, List.set_cons_succ]; (try simp only [i64_w]); (try simp only [i32_w])
                rfl
              refine pure_ (i := 5) (N := some 65) (v := ?_) (a' := ?_) #[true, true, true, true, true, true, false, false, false] rfl rfl (any_of HT_.out (by kernel_rfl)) (fun _ _ _ h => h) (Or.inl ⟨by rfl, ?_⟩) ?_ ?_
              rotate_left
              · intro w'
                go_simp
                with_reducible rfl
              rotate_left
              · simp only [Act.put, List.setIfInBounds_toArray, List.set_cons_zero, List.set_cons_succ]; (try simp only [i64_w]); (try simp only [i32_w])
                rfl
              refine one_ (i := 6) (N := some 66) #[true, true, true, true, true, true, true, false, false] rfl rfl (one_of HT_.out (by kernel_rfl)) (by decide) (fun K hK => ?_)
              refine goes_ Tryd.func23 (by kernel_rfl) rfl #[.agg #[.bool a1_0, .string t499, .int .i64 a2]] (by rfl) rfl rfl (by (try simp only [List.map_toArray]); (try simp only [List.map_cons]); (try simp only [List.map_nil]); first | done | rfl | (simp only [List.length_drop, List.length_take]; rfl)) ?_
              with_reducible refine (dec_Norm.calls a1_0 t499 a2 t500 t501 t502 _ A71.out).mono ?_
              rintro e w75 ⟨rfl, hb⟩
              refine ⟨_, rfl, ?_⟩
              have n0_ := Aside0.mk (Kd.R_below (by (with_reducible repeat (first | apply Kd.R_alloc | apply Kd.R_drewN | apply Kd.R_drew)); exact HO_8.out) hb)
              have n1_ := Aside0.mk (blk_below (g := gb463) (o := .cells #[.bool a1_0, .string a1_1, .int .i64 a1_2] 23 (0, 0)) (by (with_reducible repeat (first | refine blk_drewN ?_ _ | refine blk_drew ?_ | refine blk_alloc ?_ _)); exact BK463.out) hb)
              have n2_ := Aside0.mk (blk_below (g := gb464) (o := .cells #[.bool false, .string (⟨#[]⟩ : ByteArray), .int .i64 0] 23 (0, 0)) (by (with_reducible repeat (first | refine blk_drewN ?_ _ | refine blk_drew ?_ | refine blk_alloc ?_ _)); exact BK464.out) hb)
              have n3_ := Aside0.mk (below_step (by repeat (first | (with_reducible first | exact HB.out | apply below_alloc | apply pw_below_drewN | apply below_drew1 | refine below_set ?_ GE463.out | refine below_set ?_ GE464.out) | exact HB.out)) hb)
              clear HO_8
              clear BK463
              clear BK464
              clear HB
              have HO_8 := n0_
              have BK463 := n1_
              have BK464 := n2_
              have HB := n3_
              clear n0_ n1_ n2_ n3_
              (try clear hb)
              (try clear hb2)
              (try clear hk)
              (try clear hi)
              refine hK.out _ _ ⟨(blk_cell BK463.out 0).trans rfl, (blk_cell BK463.out 1).trans rfl, (blk_cell BK463.out 2).trans rfl⟩ (fun hHeld => ?_)
              clear hK K
              refine norm_ (a' := ?_) ?_ ?_
              rotate_left
              · show Act.put _ (some 66) _ = _
                simp only [Act.put, List.setIfInBounds_toArray, List.set_cons_zero, List.set_cons_succ]; (try simp only [i64_w]); (try simp only [i32_w])
                rfl
              refine one_ (i := 7) (N := none) #[true, true, true, true, true, true, true, true, false] rfl rfl (one_of HT_.out (by kernel_rfl)) (by decide) (fun K hK => ?_)
              have hs76 : w75.cell? ⟨gb464, 0, none⟩ = some (.bool false) := (blk_cell BK464.out 0).trans rfl
              have hfs76 := blk_frozen BK464.out 0
              have hns76_0 := NB463_464.out
              have hms76_0 := NB464_463.out
              have hs77 : w75.cell? ⟨gb464, 1, none⟩ = some (.string (⟨#[]⟩ : ByteArray)) := (blk_cell BK464.out 1).trans rfl
              have hfs77 := blk_frozen BK464.out 1
              have hns77_0 := NB463_464.out
              have hms77_0 := NB464_463.out
              have hs78 : w75.cell? ⟨gb464, 2, none⟩ = some (.int .i64 0) := (blk_cell BK464.out 2).trans rfl
              have hfs78 := blk_frozen BK464.out 2
              have hns78_0 := NB463_464.out
              have hms78_0 := NB464_463.out
              refine skip_ (w1 := ?_) (by rfl) rfl ?_ ?_
              rotate_left
              · go_simp
                rfl
              refine hK.out _ _ ⟨((cell_far (p := ⟨gb464, _, none⟩) NB463_464.out _).trans (((cell_far (p := ⟨gb464, _, none⟩) NB463_464.out _).trans (((cell_far (p := ⟨gb464, _, none⟩) NB463_464.out _).trans (hHeld.1)))))), ((cell_far (p := ⟨gb464, _, none⟩) NB463_464.out _).trans (((cell_far (p := ⟨gb464, _, none⟩) NB463_464.out _).trans (((cell_far (p := ⟨gb464, _, none⟩) NB463_464.out _).trans (hHeld.2.1)))))), ((cell_far (p := ⟨gb464, _, none⟩) NB463_464.out _).trans (((cell_far (p := ⟨gb464, _, none⟩) NB463_464.out _).trans (((cell_far (p := ⟨gb464, _, none⟩) NB463_464.out _).trans (hHeld.2.2))))))⟩ (fun hHeld => ?_)
              clear hK K
              refine pure_ (i := 8) (N := some 7) (v := ?_) (a' := ?_) #[true, true, true, true, true, true, true, true, true] rfl rfl (any_of HT_.out (by kernel_rfl)) (fun _ _ _ h => h) (Or.inl ⟨by rfl, ?_⟩) ?_ ?_
              rotate_left
              · intro w'
                go_simp
                with_reducible rfl
              rotate_left
              · simp only [Act.put, List.setIfInBounds_toArray, List.set_cons_zero, List.set_cons_succ]; (try simp only [i64_w]); (try simp only [i32_w])
                rfl
              refine done_ (done_of HT_.out (by kernel_rfl)) ?_
              try go_wp2
              refine bodyPost_ret (results_ct rfl _ _ gb464 23 #[.bool t500, .string t501, .int .i64 t502] (0, 0) _ rfl (by (with_reducible repeat (first | refine blk_drewN ?_ _ | refine blk_drew ?_ | refine blk_alloc ?_ _)); refine blk_put (cs := #[.bool t500, .string t501, .int .i64 0]) ?_ 2 _ rfl; (with_reducible repeat (first | refine blk_drewN ?_ _ | refine blk_drew ?_ | refine blk_alloc ?_ _)); refine blk_put (cs := #[.bool t500, .string (⟨#[]⟩ : ByteArray), .int .i64 0]) ?_ 1 _ rfl; (with_reducible repeat (first | refine blk_drewN ?_ _ | refine blk_drew ?_ | refine blk_alloc ?_ _)); refine blk_put (cs := #[.bool false, .string (⟨#[]⟩ : ByteArray), .int .i64 0]) ?_ 0 _ rfl; (with_reducible repeat (first | refine blk_drewN ?_ _ | refine blk_drew ?_ | refine blk_alloc ?_ _)); exact BK464.out) Tryd.underlying23 rfl (by kernel_rfl)) rfl ?_
              exact ⟨by first | rfl | (simp [errW_none, errW_some] <;> rfl) | (simp [*, errW_none, errW_some] <;> rfl), by repeat (first | (with_reducible first | exact HB.out | apply below_alloc | apply pw_below_drewN | apply below_drew1 | refine below_set ?_ GE463.out | refine below_set ?_ GE464.out) | exact HB.out)⟩
  · replace c5 := Bool.eq_false_iff.mpr c5
    subst c5
    have H1 : (some (false, (⟨#[]⟩ : ByteArray), 0, 1)) = some (r1, r2, r3, r4) := by rw [if_neg (show ¬ (false = true) by decide)] at H; exact H
    clear H
    have H := H1
    clear H1
    simp only [Option.some.injEq, Prod.mk.injEq] at H
    obtain ⟨rfl, rfl, rfl, rfl⟩ := H
    go_enter Tryd.func16, Tryd.ntmps16
    go_wp2_with (first | ((with_reducible refine gate_dst (N := 4) rfl ?_); refine box_event ?hg (N := 4) ?hd (cs := #[.bool a1_0, .string a1_1, .int .i64 a1_2]) (t := 23) ?hr ?_; (case hd => rfl); (case hg => rfl); (case hr => first | (go_simp; done) | (go_simp; rfl)); intro gb463 hg w79 hbox hb; have n0_ := Aside0.mk (below_step (by repeat (first | (with_reducible first | exact HB.out | apply below_alloc | apply pw_below_drewN | apply below_drew1) | exact HB.out)) hb); have n1_ := Aside0.mk (hbox); have n2_ := Aside0.mk ((by rw [hg]; exact (below_size (by repeat (first | (with_reducible first | exact HB.out | apply below_alloc | apply pw_below_drewN | apply below_drew1) | exact HB.out))) : w.heap.size ≤ gb463)); have n3_ := Aside0.mk ((by rw [hg]; exact (below_size (by repeat (first | (with_reducible first | exact HB.out | apply below_alloc | apply pw_below_drewN | apply below_drew1) | exact HB.out))) : w.heap.size ≤ gb463)); clear HB; have HB := n0_; have BK463 := n1_; have GW463 := n2_; have GE463 := n3_; clear n0_ n1_ n2_ n3_; clear hb hbox hg) | ((with_reducible refine gate_dst (N := 6) rfl ?_); refine box_event ?hg (N := 6) ?hd (cs := #[.bool false, .string (⟨#[]⟩ : ByteArray), .int .i64 0]) (t := 23) ?hr ?_; (case hd => rfl); (case hg => rfl); (case hr => first | (go_simp; done) | (go_simp; rfl)); intro gb464 hg w80 hbox hb; have n0_ := Aside0.mk (blk_below (g := gb463) (o := .cells #[.bool a1_0, .string a1_1, .int .i64 a1_2] 23 (0, 0)) (by (with_reducible repeat (first | refine blk_drewN ?_ _ | refine blk_drew ?_ | refine blk_alloc ?_ _)); exact BK463.out) hb); have n1_ := Aside0.mk (below_step (by repeat (first | (with_reducible first | exact HB.out | apply below_alloc | apply pw_below_drewN | apply below_drew1 | refine below_set ?_ GE463.out) | exact HB.out)) hb); have n2_ := Aside0.mk (hbox); have n3_ := Aside0.mk ((by rw [hg]; exact (below_size (by repeat (first | (with_reducible first | exact HB.out | apply below_alloc | apply pw_below_drewN | apply below_drew1 | refine below_set ?_ GE463.out) | exact HB.out))) : w.heap.size ≤ gb464)); have n4_ := Aside0.mk ((by rw [hg]; exact (below_size (by repeat (first | (with_reducible first | exact HB.out | apply below_alloc | apply pw_below_drewN | apply below_drew1 | refine below_set ?_ GE463.out) | exact HB.out))) : w.heap.size ≤ gb464)); have n5_ := Aside0.mk ((by rw [hg]; exact Nat.ne_of_lt (blk_lt (g := gb463) (o := .cells #[.bool a1_0, .string a1_1, .int .i64 a1_2] 23 (0, 0)) (by (with_reducible repeat (first | refine blk_drewN ?_ _ | refine blk_drew ?_ | refine blk_alloc ?_ _)); exact BK463.out)) : gb463 ≠ gb464)); have n6_ := Aside0.mk ((by rw [hg]; exact Nat.ne_of_gt (blk_lt (g := gb463) (o := .cells #[.bool a1_0, .string a1_1, .int .i64 a1_2] 23 (0, 0)) (by (with_reducible repeat (first | refine blk_drewN ?_ _ | refine blk_drew ?_ | refine blk_alloc ?_ _)); exact BK463.out)) : gb464 ≠ gb463)); clear BK463; clear HB; have BK463 := n0_; have HB := n1_; have BK464 := n2_; have GW464 := n3_; have GE464 := n4_; have NB463_464 := n5_; have NB464_463 := n6_; clear n0_ n1_ n2_ n3_ n4_ n5_ n6_; clear hb hbox hg) | ((with_reducible refine gate_callee (f := 19) rfl ?_); refine goesL_ (some 13) rfl rfl Tryd.func19 (by kernel_rfl) rfl #[.int .i64 a0] rfl (by (try simp only [List.map_toArray]); (try simp only [List.map_cons]); (try simp only [List.map_nil]); first | done | rfl | (simp only [List.length_drop, List.length_take]; rfl)) ?_; (with_reducible refine (mode_Good.calls a0 false _ A4.out).mono ?_); rintro e w' ⟨rfl, ⟨nd, rfl⟩⟩; refine ⟨_, rfl, ?_⟩; (try (rw [drewN_self w80]; generalize hq_ : World.drewN w80 _ = w80; have n0_ : Aside0 (w80.heap[gb463]? = some (.cells #[.bool a1_0, .string a1_1, .int .i64 a1_2] 23 (0, 0))) := ⟨by rw [← hq_]; exact (by (with_reducible repeat (first | refine blk_drewN ?_ _ | refine blk_drew ?_ | refine blk_alloc ?_ _)); exact BK463.out)⟩; have n1_ : Aside0 (w80.heap[gb464]? = some (.cells #[.bool false, .string (⟨#[]⟩ : ByteArray), .int .i64 0] 23 (0, 0))) := ⟨by rw [← hq_]; exact (by (with_reducible repeat (first | refine blk_drewN ?_ _ | refine blk_drew ?_ | refine blk_alloc ?_ _)); exact BK464.out)⟩; have n2_ : Aside0 (Below w.heap.size w w80) := ⟨by rw [← hq_]; exact (by repeat (first | (with_reducible first | exact HB.out | apply below_alloc | apply pw_below_drewN | apply below_drew1 | refine below_set ?_ GE463.out | refine below_set ?_ GE464.out) | exact HB.out))⟩; clear BK463 BK464 HB hq_; have BK463 := n0_; have BK464 := n1_; have HB := n2_; clear n0_ n1_ n2_)); (try (have hcz9025_0 : w80.cell? ⟨gb463, 0, none⟩ = some (.bool a1_0) := (blk_cell BK463.out 0).trans rfl)); (try (have hcz9025_1 : w80.cell? ⟨gb463, 1, none⟩ = some (.string a1_1) := (blk_cell BK463.out 1).trans rfl)); (try (have hcz9025_2 : w80.cell? ⟨gb463, 2, none⟩ = some (.int .i64 a1_2) := (blk_cell BK463.out 2).trans rfl)); (try (have hfz9025_0 := blk_frozen BK463.out 0)); (try (have hfz9025_1 := blk_frozen BK463.out 1)); (try (have hfz9025_2 := blk_frozen BK463.out 2)); (try (have hcz9026_0 : w80.cell? ⟨gb464, 0, none⟩ = some (.bool false) := (blk_cell BK464.out 0).trans rfl)); (try (have hcz9026_1 : w80.cell? ⟨gb464, 1, none⟩ = some (.string (⟨#[]⟩ : ByteArray)) := (blk_cell BK464.out 1).trans rfl)); (try (have hcz9026_2 : w80.cell? ⟨gb464, 2, none⟩ = some (.int .i64 0) := (blk_cell BK464.out 2).trans rfl)); (try (have hfz9026_0 := blk_frozen BK464.out 0)); (try (have hfz9026_1 := blk_frozen BK464.out 1)); (try (have hfz9026_2 := blk_frozen BK464.out 2)); have hnb81 := NB464_463.out; have hnc81 := NB463_464.out; have hcz82_0 : w80.cell? ⟨gb464, 0, none⟩ = some (.bool false) := (blk_cell BK464.out 0).trans rfl; have hcz82_1 : w80.cell? ⟨gb464, 1, none⟩ = some (.string (⟨#[]⟩ : ByteArray)) := (blk_cell BK464.out 1).trans rfl; have hcz82_2 : w80.cell? ⟨gb464, 2, none⟩ = some (.int .i64 0) := (blk_cell BK464.out 2).trans rfl; have hfz82_0 := blk_frozen BK464.out 0; have hfz82_1 := blk_frozen BK464.out 1; have hfz82_2 := blk_frozen BK464.out 2))
    refine bodyPost_ret (results_ct rfl _ _ gb464 23 #[.bool false, .string (⟨#[]⟩ : ByteArray), .int .i64 0] (0, 0) _ rfl (by (with_reducible repeat (first | refine blk_drewN ?_ _ | refine blk_drew ?_ | refine blk_alloc ?_ _)); refine blk_put (cs := #[.bool false, .string (⟨#[]⟩ : ByteArray), .int .i64 0]) ?_ 2 _ rfl; (with_reducible repeat (first | refine blk_drewN ?_ _ | refine blk_drew ?_ | refine blk_alloc ?_ _)); refine blk_put (cs := #[.bool false, .string (⟨#[]⟩ : ByteArray), .int .i64 0]) ?_ 1 _ rfl; (with_reducible repeat (first | refine blk_drewN ?_ _ | refine blk_drew ?_ | refine blk_alloc ?_ _)); refine blk_put (cs := #[.bool false, .string (⟨#[]⟩ : ByteArray), .int .i64 0]) ?_ 0 _ rfl; (with_reducible repeat (first | refine blk_drewN ?_ _ | refine blk_drew ?_ | refine blk_alloc ?_ _)); exact BK464.out) Tryd.underlying23 rfl (by kernel_rfl)) rfl ?_
    exact ⟨by first | rfl | (simp [errW_none, errW_some] <;> rfl) | (simp [*, errW_none, errW_some] <;> rfl), by repeat (first | (with_reducible first | exact HB.out | apply below_alloc | apply pw_below_drewN | apply below_drew1 | refine below_set ?_ GE463.out | refine below_set ?_ GE464.out) | exact HB.out)⟩
end Go.Proofs.YtekkpmoppihlaaaDoor.Px
end
section
namespace Go.Proofs.YtekkpmoppihlaaaDoor.Px
open Fig Go.RowKit Go.Proofs.YtekkpmoppihlaaaDoorW.PrintWords Go.Proofs.YtekkpmoppihlaaaDoorW.PrintLast Go.Proofs.YtekkpmoppihlaaaDoorW.PrintMore
attribute [local go_sem] max2_int min2_int max_two min_two max_three min_three max_four min_four   -- for this text's walks alone
attribute [local go_sem high] eqA23
attribute [local go_sem] fieldA23_0 fieldA23_1 fieldA23_2
def figureheadlaw10_IncOnes.l0 : Nat → Int → Int → Int → ByteArray → Int → Bool → ByteArray → Int → Option (Bool)
  | 0, _, _, _, _, _, _, _, _ => none
  | k + 1, x0, x2, x3, x9, x10, x504000, x504001, x504002 => if x10 < (wrap64 (Int.tmod x3 9)) then (if 1 + x9.size ≤ 9223372036854775807 then (figureheadlaw10_IncOnes.l0 k x0 x2 x3 ((⟨#[48]⟩ : ByteArray) ++ x9) (wrap64 (x10 + 1)) x504000 x504001 x504002) else (none)) else ((inc_Round.f k x0 x504000 x504001 x504002 x9 x2).bind fun bt506 => ((place_Round.f k x0 x504000 x504001 x504002 x2).bind fun bt511 => ((figureheadlaw10_answers.f k).bind fun t516 => (if t516 = true then (if bt506.2.2.2 = bt511.2.2.2 then (some (bt506.1 == bt511.1 && (bt506.2.1.toList == bt511.2.1.toList && (bt506.2.2.1 == bt511.2.2.1)))) else (some false)) else (some false)))))
def figureheadlaw10_IncOnes.f (k : Nat) (a0 : Int) (a1_0 : Bool) (a1_1 : ByteArray) (a1_2 : Int) (a2 : Int) (a3 : Int) : Option (Bool) := (figureheadlaw10_good.f k a1_0 a1_1 a1_2 a2).bind fun t504 => (if t504 = true then (figureheadlaw10_IncOnes.l0 k a0 a2 a3 (⟨#[49]⟩ : ByteArray) 0 a1_0 a1_1 a1_2) else ((figureheadlaw10_answers.f k).bind fun t505 => (some t505)))
theorem figureheadlaw10_IncOnes.mono_l : ∀ k, (∀ y0 y1 y2 y3 y4 y5 y6 y7, LeO (figureheadlaw10_IncOnes.l0 k y0 y1 y2 y3 y4 y5 y6 y7) (figureheadlaw10_IncOnes.l0 (k + 1) y0 y1 y2 y3 y4 y5 y6 y7))
  | 0 => fun _ _ _ _ _ _ _ _ r h => by simp [figureheadlaw10_IncOnes.l0] at h
  | k + 1 => by
    have ih0 := figureheadlaw10_IncOnes.mono_l k
    · intro y0 y1 y2 y3 y4 y5 y6 y7
      unfold figureheadlaw10_IncOnes.l0
      repeat' first
      | (with_reducible exact ih0 _ _ _ _ _ _ _ _)
      | (with_reducible exact figureheadlaw10_answers.mono _)
      | (with_reducible exact figureheadlaw10_good.mono _ _ _ _ _)
      | (with_reducible exact inc_Round.mono _ _ _ _ _ _ _)
      | (with_reducible exact place_Round.mono _ _ _ _ _ _)
      | (with_reducible exact LeO.refl _)
      | (with_reducible exact LeO.none _)
      | (with_reducible refine LeO.ite ?_ ?_)
      | (with_reducible refine LeO.bind ?_ (fun _ => ?_))
      | exact ih0 _ _ _ _ _ _ _ _
      | exact figureheadlaw10_answers.mono _
      | exact figureheadlaw10_good.mono _ _ _ _ _
      | exact inc_Round.mono _ _ _ _ _ _ _
      | exact place_Round.mono _ _ _ _ _ _
      | exact LeO.none _
      | refine LeO.ite ?_ ?_
      | refine LeO.bind ?_ (fun _ => ?_)
theorem figureheadlaw10_IncOnes.mono : ∀ a0 a1 a2 a3 a4 a5 k, LeO (figureheadlaw10_IncOnes.f k a0 a1 a2 a3 a4 a5) (figureheadlaw10_IncOnes.f (k + 1) a0 a1 a2 a3 a4 a5) := by
  intro a0 a1 a2 a3 a4 a5 k
  have ih0 := figureheadlaw10_IncOnes.mono_l k
  unfold figureheadlaw10_IncOnes.f
  repeat' first
      | (with_reducible exact ih0 _ _ _ _ _ _ _ _)
      | (with_reducible exact figureheadlaw10_answers.mono _)
      | (with_reducible exact figureheadlaw10_good.mono _ _ _ _ _)
      | (with_reducible exact inc_Round.mono _ _ _ _ _ _ _)
      | (with_reducible exact place_Round.mono _ _ _ _ _ _)
      | (with_reducible exact LeO.refl _)
      | (with_reducible exact LeO.none _)
      | (with_reducible refine LeO.ite ?_ ?_)
      | (with_reducible refine LeO.bind ?_ (fun _ => ?_))
      | exact ih0 _ _ _ _ _ _ _ _
      | exact figureheadlaw10_answers.mono _
      | exact figureheadlaw10_good.mono _ _ _ _ _
      | exact inc_Round.mono _ _ _ _ _ _ _
      | exact place_Round.mono _ _ _ _ _ _
      | exact LeO.none _
      | refine LeO.ite ?_ ?_
      | refine LeO.bind ?_ (fun _ => ?_)
set_option maxHeartbeats 8000000 in
set_option maxRecDepth 100000 in
theorem figureheadlaw10_IncOnes.calls (k : Nat) (a0 : Int) (a1_0 : Bool) (a1_1 : ByteArray) (a1_2 : Int) (a2 : Int) (a3 : Int) (r : Bool) (w : World) (hG : Fig.Glob w) (HT : Aside0 (r = true)) (h : figureheadlaw10_IncOnes.f k a0 a1_0 a1_1 a1_2 a2 a3 = some r) :
    Calls Tryd.prog 7 #[.int .i64 a0, .agg #[.bool a1_0, .string a1_1, .int .i64 a1_2], .int .i64 a2, .int .u8 a3] w fun e w' => e = .returned (.bool r) ∧ Below w.heap.size w w' := by
  have hu23 := Tryd.underlying23
  have HG := Aside0.mk hG
  clear hG
  have HB := Aside0.mk (Below.refl w.heap.size w)
  have H : ((figureheadlaw10_good.f k a1_0 a1_1 a1_2 a2).bind fun t504 => (if t504 = true then (figureheadlaw10_IncOnes.l0 k a0 a2 a3 (⟨#[49]⟩ : ByteArray) 0 a1_0 a1_1 a1_2) else ((figureheadlaw10_answers.f k).bind fun t505 => (some t505)))) = some r := h
  clear h
  replace H := Option.bind_eq_some_iff.mp H
  obtain ⟨t504, A50, H⟩ := H
  replace H : (if t504 = true then (figureheadlaw10_IncOnes.l0 k a0 a2 a3 (⟨#[49]⟩ : ByteArray) 0 a1_0 a1_1 a1_2) else ((figureheadlaw10_answers.f k).bind fun t505 => (some t505))) = some r := H
  have A5 := Aside0.mk A50
  clear A50
  by_cases c6 : t504 = true
  · subst c6
    have H1 : (figureheadlaw10_IncOnes.l0 k a0 a2 a3 (⟨#[49]⟩ : ByteArray) 0 a1_0 a1_1 a1_2) = some r := by rw [if_pos rfl] at H; exact H
    clear H
    have H := H1
    clear H1
    have H' := Aside0.mk H
    clear H
    go_enter Tryd.func7, Tryd.ntmps7
    go_wp2_with (first | ((with_reducible refine gate_dst (N := 5) rfl ?_); refine box_event ?hg (N := 5) ?hd (cs := #[.bool a1_0, .string a1_1, .int .i64 a1_2]) (t := 23) ?hr ?_; (case hd => rfl); (case hg => rfl); (case hr => first | (go_simp; done) | (go_simp; rfl)); intro gb503 hg w7 hbox hb; have n0_ := Aside0.mk (below_step (by repeat (first | (with_reducible first | exact HB.out | apply below_alloc | apply pw_below_drewN | apply below_drew1) | exact HB.out)) hb); have n1_ := Aside0.mk (hbox); have n2_ := Aside0.mk ((by rw [hg]; exact (below_size (by repeat (first | (with_reducible first | exact HB.out | apply below_alloc | apply pw_below_drewN | apply below_drew1) | exact HB.out))) : w.heap.size ≤ gb503)); have n3_ := Aside0.mk ((by rw [hg]; exact (below_size (by repeat (first | (with_reducible first | exact HB.out | apply below_alloc | apply pw_below_drewN | apply below_drew1) | exact HB.out))) : w.heap.size ≤ gb503)); clear HB; have HB := n0_; have BK503 := n1_; have GW503 := n2_; have GE503 := n3_; clear n0_ n1_ n2_ n3_; clear hb hbox hg; have hcz8_0 : w7.cell? ⟨gb503, 0, none⟩ = some (.bool a1_0) := (blk_cell BK503.out 0).trans rfl; have hcz8_1 : w7.cell? ⟨gb503, 1, none⟩ = some (.string a1_1) := (blk_cell BK503.out 1).trans rfl; have hcz8_2 : w7.cell? ⟨gb503, 2, none⟩ = some (.int .i64 a1_2) := (blk_cell BK503.out 2).trans rfl; have hfz8_0 := blk_frozen BK503.out 0; have hfz8_1 := blk_frozen BK503.out 1; have hfz8_2 := blk_frozen BK503.out 2) | ((with_reducible refine gate_callee (f := 8) rfl ?_); refine goesL_ (some 17) rfl rfl Tryd.func8 (by kernel_rfl) rfl #[.agg #[.bool a1_0, .string a1_1, .int .i64 a1_2], .int .i64 a2] rfl (by (try simp only [List.map_toArray]); (try simp only [List.map_cons]); (try simp only [List.map_nil]); first | done | rfl | (simp only [List.length_drop, List.length_take]; rfl)) ?_; (with_reducible refine (figureheadlaw10_good.calls k a1_0 a1_1 a1_2 a2 true _ A5.out).mono ?_); rintro e w9 ⟨rfl, hb⟩; refine ⟨_, rfl, ?_⟩; have n0_ := Aside0.mk (blk_below (g := gb503) (o := .cells #[.bool a1_0, .string a1_1, .int .i64 a1_2] 23 (0, 0)) (by (with_reducible repeat (first | refine blk_drewN ?_ _ | refine blk_drew ?_ | refine blk_alloc ?_ _)); exact BK503.out) hb); have n1_ := Aside0.mk (below_step (by repeat (first | (with_reducible first | exact HB.out | apply below_alloc | apply pw_below_drewN | apply below_drew1 | refine below_set ?_ GE503.out) | exact HB.out)) hb); clear BK503; clear HB; have BK503 := n0_; have HB := n1_; clear n0_ n1_; (try clear hb); (try clear hb2); (try clear hk); (try clear hi)))
    go_loopg [9, 10] k (fun kq v9 v10 w' => ∃ (x9_1 : ByteArray) (x10_1 : Int), v9 = .string x9_1 ∧ v10 = .int .i64 x10_1 ∧ Aside0 (figureheadlaw10_IncOnes.l0 kq a0 a2 a3 x9_1 x10_1 a1_0 a1_1 a1_2 = some r) ∧ Aside0 (kq ≤ k) ∧ Aside0 (w'.heap[gb503]? = some (.cells #[.bool a1_0, .string a1_1, .int .i64 a1_2] 23 (0, 0))) ∧ Aside0 (Below w.heap.size w w'))
    case atStart => exact ⟨((⟨#[49]⟩ : ByteArray)), (0), (by first | rfl | (simp; done) | (simp [*]; done) | (simp [*, Fig.bne_nil]; done)), (by first | rfl | (simp; done) | (simp [*]; done) | (simp [*, Fig.bne_nil]; done)), H', ⟨Nat.le_refl _⟩, ⟨by (with_reducible repeat (first | refine blk_drewN ?_ _ | refine blk_drew ?_ | refine blk_alloc ?_ _)); exact BK503.out⟩, ⟨by repeat (first | (with_reducible first | exact HB.out | apply below_alloc | apply pw_below_drewN | apply below_drew1 | refine below_set ?_ GE503.out) | exact HB.out)⟩⟩
    case round =>
      clear H'
      try clear p2
      try clear c6
      try clear c7
      try clear c8
      try clear hcz8_0
      try clear hcz8_1
      try clear hcz8_2
      try clear hfz8_0
      try clear hfz8_1
      try clear hfz8_2
      obtain ⟨x9_1, x10_1, rfl, rfl, HA, HK1, BK503, HB⟩ := hrel
      cases gk with
      | zero => exact absurd HA.out (by simp [figureheadlaw10_IncOnes.l0])
      | succ k1 =>
        have H := HA.out
        clear HA
        simp only [figureheadlaw10_IncOnes.l0] at H
        by_cases c10 : x10_1 < (wrap64 (Int.tmod a3 9))
        · rw [if_pos c10] at H
          have c10b0 : decide (x10_1 < (wrap64 (Int.tmod a3 9))) = true := decide_eq_true c10
          clear c10
          by_cases c11 : 1 + x9_1.size ≤ 9223372036854775807
          · rw [if_pos c11] at H
            have c11b0 := eq_true c11
            have c11b1 : decide (1 + x9_1.size ≤ 9223372036854775807) = true := decide_eq_true c11
            try have c11b2 : (9223372036854775807 < 1 + x9_1.size) = False := eq_false (Nat.not_lt.2 c11)
            have H' := Aside0.mk H
            clear H
            go_wp2
            go_roundg k1
            case measure => have := HK1.out; omega
            case rel => exact ⟨((⟨#[48]⟩ : ByteArray) ++ x9_1), (wrap64 (x10_1 + 1)), (by first | rfl | (simp; done) | (simp [*]; done) | (simp [*, Fig.bne_nil]; done)), (by first | rfl | (simp; done) | (simp [*]; done) | (simp [*, Fig.bne_nil]; done)), H', ⟨by have := HK1.out; omega⟩, ⟨by (with_reducible repeat (first | refine blk_drewN ?_ _ | refine blk_drew ?_ | refine blk_alloc ?_ _)); exact BK503.out⟩, ⟨by repeat (first | (with_reducible first | exact HB.out | apply below_alloc | apply pw_below_drewN | apply below_drew1 | refine below_set ?_ GE503.out) | exact HB.out)⟩⟩
          · rw [if_neg c11] at H
            exact absurd H (by simp)
        · rw [if_neg c10] at H
          have c10b0 : decide (x10_1 < (wrap64 (Int.tmod a3 9))) = false := decide_eq_false c10
          clear c10
          replace H := Option.bind_eq_some_iff.mp H
          obtain ⟨⟨t506, t507, t508, t509⟩, A120, H⟩ := H
          replace H : ((place_Round.f k1 a0 a1_0 a1_1 a1_2 a2).bind fun bt511 => ((figureheadlaw10_answers.f k1).bind fun t516 => (if t516 = true then (if t509 = bt511.2.2.2 then (some (t506 == bt511.1 && (t507.toList == bt511.2.1.toList && (t508 == bt511.2.2.1)))) else (some false)) else (some false)))) = some r := H
          have A12 := Aside0.mk A120
          clear A120
          replace H := Option.bind_eq_some_iff.mp H
          obtain ⟨⟨t511, t512, t513, t514⟩, A130, H⟩ := H
          replace H : ((figureheadlaw10_answers.f k1).bind fun t516 => (if t516 = true then (if t509 = t514 then (some (t506 == t511 && (t507.toList == t512.toList && (t508 == t513)))) else (some false)) else (some false))) = some r := H
          have A13 := Aside0.mk A130
          clear A130
          replace H := Option.bind_eq_some_iff.mp H
          obtain ⟨t516, A140, H⟩ := H
          replace H : (if t516 = true then (if t509 = t514 then (some (t506 == t511 && (t507.toList == t512.toList && (t508 == t513)))) else (some false)) else (some false)) = some r := H
          have A14 := Aside0.mk A140
          clear A140
          by_cases c15 : t516 = true
          · subst c15
            have H1 : (if t509 = t514 then (some (t506 == t511 && (t507.toList == t512.toList && (t508 == t513)))) else (some false)) = some r := by rw [if_pos rfl] at H; exact H
            clear H
            have H := H1
            clear H1
            by_cases c16 : t509 = t514
            · rw [if_pos c16] at H
              have c16b0 : (t509 == t514) = true := beq_iff_eq.mpr c16
              have c16b1 : (t509 != t514) = false := bne_eq_false_iff_eq.mpr c16
              clear c16
              obtain rfl := Option.some.inj H
              have hcz17_0 : wr.cell? ⟨gb503, 0, none⟩ = some (.bool a1_0) := (blk_cell BK503.out 0).trans rfl
              have hcz17_1 : wr.cell? ⟨gb503, 1, none⟩ = some (.string a1_1) := (blk_cell BK503.out 1).trans rfl
              have hcz17_2 : wr.cell? ⟨gb503, 2, none⟩ = some (.int .i64 a1_2) := (blk_cell BK503.out 2).trans rfl
              have hfz17_0 := blk_frozen BK503.out 0
              have hfz17_1 := blk_frozen BK503.out 1
              have hfz17_2 := blk_frozen BK503.out 2
              go_wp2_with (first | ((with_reducible refine gate_callee (f := 10) rfl ?_); refine goesL_ (some 34) rfl rfl Tryd.func10 (by kernel_rfl) rfl #[.int .i64 a0, .agg #[.bool a1_0, .string a1_1, .int .i64 a1_2], .string x9_1, .int .i64 a2] rfl (by (try simp only [List.map_toArray]); (try simp only [List.map_cons]); (try simp only [List.map_nil]); first | done | rfl | (simp only [List.length_drop, List.length_take]; rfl)) ?_; (with_reducible refine (inc_Round.calls k1 a0 a1_0 a1_1 a1_2 x9_1 a2 t506 t507 t508 t509 _ ?side1 A12.out).mono ?_); (case side1 => exact Fig.Glob.below HG.out (by repeat (first | (with_reducible first | exact HB.out | apply below_alloc | apply pw_below_drewN | apply below_drew1 | refine below_set ?_ GE503.out) | exact HB.out))); rintro e w18 ⟨rfl, hb⟩; refine ⟨_, rfl, ?_⟩; have n0_ := Aside0.mk (blk_below (g := gb503) (o := .cells #[.bool a1_0, .string a1_1, .int .i64 a1_2] 23 (0, 0)) (by (with_reducible repeat (first | refine blk_drewN ?_ _ | refine blk_drew ?_ | refine blk_alloc ?_ _)); exact BK503.out) hb); have n1_ := Aside0.mk (below_step (by repeat (first | (with_reducible first | exact HB.out | apply below_alloc | apply pw_below_drewN | apply below_drew1 | refine below_set ?_ GE503.out) | exact HB.out)) hb); clear BK503; clear HB; have BK503 := n0_; have HB := n1_; clear n0_ n1_; (try clear hb); (try clear hb2); (try clear hk); (try clear hi)) | ((with_reducible refine gate_dst (N := 11) rfl ?_); refine box_event ?hg (N := 11) ?hd (cs := #[.bool false, .string (⟨#[]⟩ : ByteArray), .int .i64 0]) (t := 23) ?hr ?_; (case hd => rfl); (case hg => rfl); (case hr => first | (go_simp; done) | (go_simp; rfl)); intro gb510 hg w19 hbox hb; have n0_ := Aside0.mk (blk_below (g := gb503) (o := .cells #[.bool a1_0, .string a1_1, .int .i64 a1_2] 23 (0, 0)) (by (with_reducible repeat (first | refine blk_drewN ?_ _ | refine blk_drew ?_ | refine blk_alloc ?_ _)); exact BK503.out) hb); have n1_ := Aside0.mk (below_step (by repeat (first | (with_reducible first | exact HB.out | apply below_alloc | apply pw_below_drewN | apply below_drew1 | refine below_set ?_ GE503.out) | exact HB.out)) hb); have n2_ := Aside0.mk (hbox); have n3_ := Aside0.mk ((by rw [hg]; exact (below_size (by repeat (first | (with_reducible first | exact HB.out | apply below_alloc | apply pw_below_drewN | apply below_drew1 | refine below_set ?_ GE503.out) | exact HB.out))) : w.heap.size ≤ gb510)); have n4_ := Aside0.mk ((by rw [hg]; exact (below_size (by repeat (first | (with_reducible first | exact HB.out | apply below_alloc | apply pw_below_drewN | apply below_drew1 | refine below_set ?_ GE503.out) | exact HB.out))) : w.heap.size ≤ gb510)); have n5_ := Aside0.mk ((by rw [hg]; exact Nat.ne_of_lt (blk_lt (g := gb503) (o := .cells #[.bool a1_0, .string a1_1, .int .i64 a1_2] 23 (0, 0)) (by (with_reducible repeat (first | refine blk_drewN ?_ _ | refine blk_drew ?_ | refine blk_alloc ?_ _)); exact BK503.out)) : gb503 ≠ gb510)); have n6_ := Aside0.mk ((by rw [hg]; exact Nat.ne_of_gt (blk_lt (g := gb503) (o := .cells #[.bool a1_0, .string a1_1, .int .i64 a1_2] 23 (0, 0)) (by (with_reducible repeat (first | refine blk_drewN ?_ _ | refine blk_drew ?_ | refine blk_alloc ?_ _)); exact BK503.out)) : gb510 ≠ gb503)); clear BK503; clear HB; have BK503 := n0_; have HB := n1_; have BK510 := n2_; have GW510 := n3_; have GE510 := n4_; have NB503_510 := n5_; have NB510_503 := n6_; clear n0_ n1_ n2_ n3_ n4_ n5_ n6_; clear hb hbox hg; have hnb20 := NB510_503.out; have hnc20 := NB503_510.out; have hcz21_0 : w19.cell? ⟨gb510, 0, none⟩ = some (.bool false) := (blk_cell BK510.out 0).trans rfl; have hcz21_1 : w19.cell? ⟨gb510, 1, none⟩ = some (.string (⟨#[]⟩ : ByteArray)) := (blk_cell BK510.out 1).trans rfl; have hcz21_2 : w19.cell? ⟨gb510, 2, none⟩ = some (.int .i64 0) := (blk_cell BK510.out 2).trans rfl; have hfz21_0 := blk_frozen BK510.out 0; have hfz21_1 := blk_frozen BK510.out 1; have hfz21_2 := blk_frozen BK510.out 2; have hcz22_0 : w19.cell? ⟨gb503, 0, none⟩ = some (.bool a1_0) := (blk_cell BK503.out 0).trans rfl; have hcz22_1 : w19.cell? ⟨gb503, 1, none⟩ = some (.string a1_1) := (blk_cell BK503.out 1).trans rfl; have hcz22_2 : w19.cell? ⟨gb503, 2, none⟩ = some (.int .i64 a1_2) := (blk_cell BK503.out 2).trans rfl; have hfz22_0 := blk_frozen BK503.out 0; have hfz22_1 := blk_frozen BK503.out 1; have hfz22_2 := blk_frozen BK503.out 2) | ((with_reducible refine gate_callee (f := 16) rfl ?_); refine goesL_ (some 41) rfl rfl Tryd.func16 (by kernel_rfl) rfl #[.int .i64 a0, .agg #[.bool a1_0, .string a1_1, .int .i64 a1_2], .int .i64 a2] rfl (by (try simp only [List.map_toArray]); (try simp only [List.map_cons]); (try simp only [List.map_nil]); first | done | rfl | (simp only [List.length_drop, List.length_take]; rfl)) ?_; (with_reducible refine (place_Round.calls k1 a0 a1_0 a1_1 a1_2 a2 t511 t512 t513 t514 _ ?side1 A13.out).mono ?_); (case side1 => exact Fig.Glob.below HG.out (by repeat (first | (with_reducible first | exact HB.out | apply below_alloc | apply pw_below_drewN | apply below_drew1 | refine below_set ?_ GE503.out | refine below_set ?_ GE510.out) | exact HB.out))); rintro e w23 ⟨rfl, hb⟩; refine ⟨_, rfl, ?_⟩; have n0_ := Aside0.mk (blk_below (g := gb503) (o := .cells #[.bool a1_0, .string a1_1, .int .i64 a1_2] 23 (0, 0)) (by (with_reducible repeat (first | refine blk_drewN ?_ _ | refine blk_drew ?_ | refine blk_alloc ?_ _)); refine blk_far ?_ NB503_510.out _; (with_reducible repeat (first | refine blk_drewN ?_ _ | refine blk_drew ?_ | refine blk_alloc ?_ _)); refine blk_far ?_ NB503_510.out _; (with_reducible repeat (first | refine blk_drewN ?_ _ | refine blk_drew ?_ | refine blk_alloc ?_ _)); refine blk_far ?_ NB503_510.out _; (with_reducible repeat (first | refine blk_drewN ?_ _ | refine blk_drew ?_ | refine blk_alloc ?_ _)); exact BK503.out) hb); have n1_ := Aside0.mk (blk_below (g := gb510) (o := .cells #[.bool t506, .string t507, .int .i64 t508] 23 (0, 0)) (by (with_reducible repeat (first | refine blk_drewN ?_ _ | refine blk_drew ?_ | refine blk_alloc ?_ _)); refine blk_put (cs := #[.bool t506, .string t507, .int .i64 0]) ?_ 2 _ rfl; (with_reducible repeat (first | refine blk_drewN ?_ _ | refine blk_drew ?_ | refine blk_alloc ?_ _)); refine blk_put (cs := #[.bool t506, .string (⟨#[]⟩ : ByteArray), .int .i64 0]) ?_ 1 _ rfl; (with_reducible repeat (first | refine blk_drewN ?_ _ | refine blk_drew ?_ | refine blk_alloc ?_ _)); refine blk_put (cs := #[.bool false, .string (⟨#[]⟩ : ByteArray), .int .i64 0]) ?_ 0 _ rfl; (with_reducible repeat (first | refine blk_drewN ?_ _ | refine blk_drew ?_ | refine blk_alloc ?_ _)); exact BK510.out) hb); have n2_ := Aside0.mk (below_step (by repeat (first | (with_reducible first | exact HB.out | apply below_alloc | apply pw_below_drewN | apply below_drew1 | refine below_set ?_ GE503.out | refine below_set ?_ GE510.out) | exact HB.out)) hb); clear BK503; clear BK510; clear HB; have BK503 := n0_; have BK510 := n1_; have HB := n2_; clear n0_ n1_ n2_; (try clear hb); (try clear hb2); (try clear hk); (try clear hi)) | ((with_reducible refine gate_dst (N := 13) rfl ?_); refine box_event ?hg (N := 13) ?hd (cs := #[.bool false, .string (⟨#[]⟩ : ByteArray), .int .i64 0]) (t := 23) ?hr ?_; (case hd => rfl); (case hg => rfl); (case hr => first | (go_simp; done) | (go_simp; rfl)); intro gb515 hg w24 hbox hb; have n0_ := Aside0.mk (blk_below (g := gb503) (o := .cells #[.bool a1_0, .string a1_1, .int .i64 a1_2] 23 (0, 0)) (by (with_reducible repeat (first | refine blk_drewN ?_ _ | refine blk_drew ?_ | refine blk_alloc ?_ _)); exact BK503.out) hb); have n1_ := Aside0.mk (blk_below (g := gb510) (o := .cells #[.bool t506, .string t507, .int .i64 t508] 23 (0, 0)) (by (with_reducible repeat (first | refine blk_drewN ?_ _ | refine blk_drew ?_ | refine blk_alloc ?_ _)); exact BK510.out) hb); have n2_ := Aside0.mk (below_step (by repeat (first | (with_reducible first | exact HB.out | apply below_alloc | apply pw_below_drewN | apply below_drew1 | refine below_set ?_ GE503.out | refine below_set ?_ GE510.out) | exact HB.out)) hb); have n3_ := Aside0.mk (hbox); have n4_ := Aside0.mk ((by rw [hg]; exact (below_size (by repeat (first | (with_reducible first | exact HB.out | apply below_alloc | apply pw_below_drewN | apply below_drew1 | refine below_set ?_ GE503.out | refine below_set ?_ GE510.out) | exact HB.out))) : w.heap.size ≤ gb515)); have n5_ := Aside0.mk ((by rw [hg]; exact (below_size (by repeat (first | (with_reducible first | exact HB.out | apply below_alloc | apply pw_below_drewN | apply below_drew1 | refine below_set ?_ GE503.out | refine below_set ?_ GE510.out) | exact HB.out))) : w.heap.size ≤ gb515)); have n6_ := Aside0.mk ((by rw [hg]; exact Nat.ne_of_lt (blk_lt (g := gb503) (o := .cells #[.bool a1_0, .string a1_1, .int .i64 a1_2] 23 (0, 0)) (by (with_reducible repeat (first | refine blk_drewN ?_ _ | refine blk_drew ?_ | refine blk_alloc ?_ _)); exact BK503.out)) : gb503 ≠ gb515)); have n7_ := Aside0.mk ((by rw [hg]; exact Nat.ne_of_gt (blk_lt (g := gb503) (o := .cells #[.bool a1_0, .string a1_1, .int .i64 a1_2] 23 (0, 0)) (by (with_reducible repeat (first | refine blk_drewN ?_ _ | refine blk_drew ?_ | refine blk_alloc ?_ _)); exact BK503.out)) : gb515 ≠ gb503)); have n8_ := Aside0.mk ((by rw [hg]; exact Nat.ne_of_lt (blk_lt (g := gb510) (o := .cells #[.bool t506, .string t507, .int .i64 t508] 23 (0, 0)) (by (with_reducible repeat (first | refine blk_drewN ?_ _ | refine blk_drew ?_ | refine blk_alloc ?_ _)); exact BK510.out)) : gb510 ≠ gb515)); have n9_ := Aside0.mk ((by rw [hg]; exact Nat.ne_of_gt (blk_lt (g := gb510) (o := .cells #[.bool t506, .string t507, .int .i64 t508] 23 (0, 0)) (by (with_reducible repeat (first | refine blk_drewN ?_ _ | refine blk_drew ?_ | refine blk_alloc ?_ _)); exact BK510.out)) : gb515 ≠ gb510)); clear BK503; clear BK510; clear HB; have BK503 := n0_; have BK510 := n1_; have HB := n2_; have BK515 := n3_; have GW515 := n4_; have GE515 := n5_; have NB503_515 := n6_; have NB515_503 := n7_; have NB510_515 := n8_; have NB515_510 := n9_; clear n0_ n1_ n2_ n3_ n4_ n5_ n6_ n7_ n8_ n9_; clear hb hbox hg; have hnb25 := NB515_503.out; have hnc25 := NB503_515.out; have hnb26 := NB515_510.out; have hnc26 := NB510_515.out; have hcz27_0 : w24.cell? ⟨gb515, 0, none⟩ = some (.bool false) := (blk_cell BK515.out 0).trans rfl; have hcz27_1 : w24.cell? ⟨gb515, 1, none⟩ = some (.string (⟨#[]⟩ : ByteArray)) := (blk_cell BK515.out 1).trans rfl; have hcz27_2 : w24.cell? ⟨gb515, 2, none⟩ = some (.int .i64 0) := (blk_cell BK515.out 2).trans rfl; have hfz27_0 := blk_frozen BK515.out 0; have hfz27_1 := blk_frozen BK515.out 1; have hfz27_2 := blk_frozen BK515.out 2) | ((with_reducible refine gate_callee (f := 9) rfl ?_); refine goesL_ (some 44) rfl rfl Tryd.func9 (by kernel_rfl) rfl #[] rfl (by (try simp only [List.map_toArray]); (try simp only [List.map_cons]); (try simp only [List.map_nil]); first | done | rfl | (simp only [List.length_drop, List.length_take]; rfl)) ?_; (with_reducible refine (figureheadlaw10_answers.calls k1  true _ ?side1 ?side2 A14.out).mono ?_); (case side1 => exact Fig.Glob.below HG.out (by repeat (first | (with_reducible first | exact HB.out | apply below_alloc | apply pw_below_drewN | apply below_drew1 | refine below_set ?_ GE503.out | refine below_set ?_ GE510.out | refine below_set ?_ GE515.out) | exact HB.out))); (case side2 => exact ⟨by first | rfl | exact HT.out⟩); rintro e w28 ⟨rfl, hb⟩; refine ⟨_, rfl, ?_⟩; have n0_ := Aside0.mk (blk_below (g := gb503) (o := .cells #[.bool a1_0, .string a1_1, .int .i64 a1_2] 23 (0, 0)) (by (with_reducible repeat (first | refine blk_drewN ?_ _ | refine blk_drew ?_ | refine blk_alloc ?_ _)); refine blk_far ?_ NB503_515.out _; (with_reducible repeat (first | refine blk_drewN ?_ _ | refine blk_drew ?_ | refine blk_alloc ?_ _)); refine blk_far ?_ NB503_515.out _; (with_reducible repeat (first | refine blk_drewN ?_ _ | refine blk_drew ?_ | refine blk_alloc ?_ _)); refine blk_far ?_ NB503_515.out _; (with_reducible repeat (first | refine blk_drewN ?_ _ | refine blk_drew ?_ | refine blk_alloc ?_ _)); exact BK503.out) hb); have n1_ := Aside0.mk (blk_below (g := gb510) (o := .cells #[.bool t506, .string t507, .int .i64 t508] 23 (0, 0)) (by (with_reducible repeat (first | refine blk_drewN ?_ _ | refine blk_drew ?_ | refine blk_alloc ?_ _)); refine blk_far ?_ NB510_515.out _; (with_reducible repeat (first | refine blk_drewN ?_ _ | refine blk_drew ?_ | refine blk_alloc ?_ _)); refine blk_far ?_ NB510_515.out _; (with_reducible repeat (first | refine blk_drewN ?_ _ | refine blk_drew ?_ | refine blk_alloc ?_ _)); refine blk_far ?_ NB510_515.out _; (with_reducible repeat (first | refine blk_drewN ?_ _ | refine blk_drew ?_ | refine blk_alloc ?_ _)); exact BK510.out) hb); have n2_ := Aside0.mk (blk_below (g := gb515) (o := .cells #[.bool t511, .string t512, .int .i64 t513] 23 (0, 0)) (by (with_reducible repeat (first | refine blk_drewN ?_ _ | refine blk_drew ?_ | refine blk_alloc ?_ _)); refine blk_put (cs := #[.bool t511, .string t512, .int .i64 0]) ?_ 2 _ rfl; (with_reducible repeat (first | refine blk_drewN ?_ _ | refine blk_drew ?_ | refine blk_alloc ?_ _)); refine blk_put (cs := #[.bool t511, .string (⟨#[]⟩ : ByteArray), .int .i64 0]) ?_ 1 _ rfl; (with_reducible repeat (first | refine blk_drewN ?_ _ | refine blk_drew ?_ | refine blk_alloc ?_ _)); refine blk_put (cs := #[.bool false, .string (⟨#[]⟩ : ByteArray), .int .i64 0]) ?_ 0 _ rfl; (with_reducible repeat (first | refine blk_drewN ?_ _ | refine blk_drew ?_ | refine blk_alloc ?_ _)); exact BK515.out) hb); have n3_ := Aside0.mk (below_step (by repeat (first | (with_reducible first | exact HB.out | apply below_alloc | apply pw_below_drewN | apply below_drew1 | refine below_set ?_ GE503.out | refine below_set ?_ GE510.out | refine below_set ?_ GE515.out) | exact HB.out)) hb); clear BK503; clear BK510; clear BK515; clear HB; have BK503 := n0_; have BK510 := n1_; have BK515 := n2_; have HB := n3_; clear n0_ n1_ n2_ n3_; (try clear hb); (try clear hb2); (try clear hk); (try clear hi); have hcz29_0 : w28.cell? ⟨gb510, 0, none⟩ = some (.bool t506) := (blk_cell BK510.out 0).trans rfl; have hcz29_1 : w28.cell? ⟨gb510, 1, none⟩ = some (.string t507) := (blk_cell BK510.out 1).trans rfl; have hcz29_2 : w28.cell? ⟨gb510, 2, none⟩ = some (.int .i64 t508) := (blk_cell BK510.out 2).trans rfl; have hfz29_0 := blk_frozen BK510.out 0; have hfz29_1 := blk_frozen BK510.out 1; have hfz29_2 := blk_frozen BK510.out 2; have hcz30_0 : w28.cell? ⟨gb515, 0, none⟩ = some (.bool t511) := (blk_cell BK515.out 0).trans rfl; have hcz30_1 : w28.cell? ⟨gb515, 1, none⟩ = some (.string t512) := (blk_cell BK515.out 1).trans rfl; have hcz30_2 : w28.cell? ⟨gb515, 2, none⟩ = some (.int .i64 t513) := (blk_cell BK515.out 2).trans rfl; have hfz30_0 := blk_frozen BK515.out 0; have hfz30_1 := blk_frozen BK515.out 1; have hfz30_2 := blk_frozen BK515.out 2))
              go_ret
              exact ⟨by first | rfl | (simp [errW_none, errW_some] <;> rfl) | (simp [*, errW_none, errW_some] <;> rfl), by repeat (first | (with_reducible first | exact HB.out | apply below_alloc | apply pw_below_drewN | apply below_drew1 | refine below_set ?_ GE503.out | refine below_set ?_ GE510.out | refine below_set ?_ GE515.out) | exact HB.out)⟩
            · rw [if_neg c16] at H
              have c16b0 : (t509 == t514) = false := beq_eq_false_iff_ne.mpr c16
              have c16b1 : (t509 != t514) = true := bne_iff_ne.mpr c16
              exact absurd ((Option.some.inj H).trans HT.out) (by decide)
          · replace c15 := Bool.eq_false_iff.mpr c15
            subst c15
            have H1 : (some false) = some r := by rw [if_neg (show ¬ (false = true) by decide)] at H; exact H
            clear H
            have H := H1
            clear H1
            exact absurd ((Option.some.inj H).trans HT.out) (by decide)
  · replace c6 := Bool.eq_false_iff.mpr c6
    subst c6
    have H1 : ((figureheadlaw10_answers.f k).bind fun t505 => (some t505)) = some r := by rw [if_neg (show ¬ (false = true) by decide)] at H; exact H
    clear H
    have H := H1
    clear H1
    replace H := Option.bind_eq_some_iff.mp H
    obtain ⟨t505, A310, H⟩ := H
    replace H : (some t505) = some r := H
    have A31 := Aside0.mk A310
    clear A310
    obtain rfl := Option.some.inj H
    go_enter Tryd.func7, Tryd.ntmps7
    go_wp2_with (first | ((with_reducible refine gate_dst (N := 5) rfl ?_); refine box_event ?hg (N := 5) ?hd (cs := #[.bool a1_0, .string a1_1, .int .i64 a1_2]) (t := 23) ?hr ?_; (case hd => rfl); (case hg => rfl); (case hr => first | (go_simp; done) | (go_simp; rfl)); intro gb503 hg w32 hbox hb; have n0_ := Aside0.mk (below_step (by repeat (first | (with_reducible first | exact HB.out | apply below_alloc | apply pw_below_drewN | apply below_drew1) | exact HB.out)) hb); have n1_ := Aside0.mk (hbox); have n2_ := Aside0.mk ((by rw [hg]; exact (below_size (by repeat (first | (with_reducible first | exact HB.out | apply below_alloc | apply pw_below_drewN | apply below_drew1) | exact HB.out))) : w.heap.size ≤ gb503)); have n3_ := Aside0.mk ((by rw [hg]; exact (below_size (by repeat (first | (with_reducible first | exact HB.out | apply below_alloc | apply pw_below_drewN | apply below_drew1) | exact HB.out))) : w.heap.size ≤ gb503)); clear HB; have HB := n0_; have BK503 := n1_; have GW503 := n2_; have GE503 := n3_; clear n0_ n1_ n2_ n3_; clear hb hbox hg; have hcz33_0 : w32.cell? ⟨gb503, 0, none⟩ = some (.bool a1_0) := (blk_cell BK503.out 0).trans rfl; have hcz33_1 : w32.cell? ⟨gb503, 1, none⟩ = some (.string a1_1) := (blk_cell BK503.out 1).trans rfl; have hcz33_2 : w32.cell? ⟨gb503, 2, none⟩ = some (.int .i64 a1_2) := (blk_cell BK503.out 2).trans rfl; have hfz33_0 := blk_frozen BK503.out 0; have hfz33_1 := blk_frozen BK503.out 1; have hfz33_2 := blk_frozen BK503.out 2) | ((with_reducible refine gate_callee (f := 8) rfl ?_); refine goesL_ (some 17) rfl rfl Tryd.func8 (by kernel_rfl) rfl #[.agg #[.bool a1_0, .string a1_1, .int .i64 a1_2], .int .i64 a2] rfl (by (try simp only [List.map_toArray]); (try simp only [List.map_cons]); (try simp only [List.map_nil]); first | done | rfl | (simp only [List.length_drop, List.length_take]; rfl)) ?_; (with_reducible refine (figureheadlaw10_good.calls k a1_0 a1_1 a1_2 a2 false _ A5.out).mono ?_); rintro e w34 ⟨rfl, hb⟩; refine ⟨_, rfl, ?_⟩; have n0_ := Aside0.mk (blk_below (g := gb503) (o := .cells #[.bool a1_0, .string a1_1, .int .i64 a1_2] 23 (0, 0)) (by (with_reducible repeat (first | refine blk_drewN ?_ _ | refine blk_drew ?_ | refine blk_alloc ?_ _)); exact BK503.out) hb); have n1_ := Aside0.mk (below_step (by repeat (first | (with_reducible first | exact HB.out | apply below_alloc | apply pw_below_drewN | apply below_drew1 | refine below_set ?_ GE503.out) | exact HB.out)) hb); clear BK503; clear HB; have BK503 := n0_; have HB := n1_; clear n0_ n1_; (try clear hb); (try clear hb2); (try clear hk); (try clear hi)) | ((with_reducible refine gate_callee (f := 9) rfl ?_); refine goesL_ (some 19) rfl rfl Tryd.func9 (by kernel_rfl) rfl #[] rfl (by (try simp only [List.map_toArray]); (try simp only [List.map_cons]); (try simp only [List.map_nil]); first | done | rfl | (simp only [List.length_drop, List.length_take]; rfl)) ?_; (with_reducible refine (figureheadlaw10_answers.calls k  t505 _ ?side1 ?side2 A31.out).mono ?_); (case side1 => exact Fig.Glob.below HG.out (by repeat (first | (with_reducible first | exact HB.out | apply below_alloc | apply pw_below_drewN | apply below_drew1 | refine below_set ?_ GE503.out) | exact HB.out))); (case side2 => exact ⟨by first | rfl | exact HT.out⟩); rintro e w35 ⟨rfl, hb⟩; refine ⟨_, rfl, ?_⟩; have n0_ := Aside0.mk (blk_below (g := gb503) (o := .cells #[.bool a1_0, .string a1_1, .int .i64 a1_2] 23 (0, 0)) (by (with_reducible repeat (first | refine blk_drewN ?_ _ | refine blk_drew ?_ | refine blk_alloc ?_ _)); exact BK503.out) hb); have n1_ := Aside0.mk (below_step (by repeat (first | (with_reducible first | exact HB.out | apply below_alloc | apply pw_below_drewN | apply below_drew1 | refine below_set ?_ GE503.out) | exact HB.out)) hb); clear BK503; clear HB; have BK503 := n0_; have HB := n1_; clear n0_ n1_; (try clear hb); (try clear hb2); (try clear hk); (try clear hi)))
    go_ret
    exact ⟨by first | rfl | (simp [errW_none, errW_some] <;> rfl) | (simp [*, errW_none, errW_some] <;> rfl), by repeat (first | (with_reducible first | exact HB.out | apply below_alloc | apply pw_below_drewN | apply below_drew1 | refine below_set ?_ GE503.out) | exact HB.out)⟩
end Go.Proofs.YtekkpmoppihlaaaDoor.Px
end
section
namespace Go.Proofs.YtekkpmoppihlaaaDoor.Px
open Fig Go.RowKit Go.Proofs.YtekkpmoppihlaaaDoorW.PrintWords Go.Proofs.YtekkpmoppihlaaaDoorW.PrintLast Go.Proofs.YtekkpmoppihlaaaDoorW.PrintMore
attribute [local go_sem] max2_int min2_int max_two min_two max_three min_three max_four min_four   -- for this text's walks alone
attribute [local go_sem] fieldA23_0 fieldA23_1 fieldA23_2
theorem Digits_loop (s : ByteArray) (hs : s.size ≤ 4611686018427387904) : ∀ (d n : Nat), s.size - n = d → n ≤ s.size → Ev (fun k => figureheadref05_Digits.l0 k s (n : Int)) (digL (s.data.toList.drop n) && decide (s.size ≠ 0))
  | 0, n, hd, hn => by
    refine evDone (r' := (s.toList != ([] : List UInt8))) (fun k => ?_) ?_
    · simp only [figureheadref05_Digits.l0]; rw [if_neg (by omega)]
    · rw [List.drop_of_length_le (by rw [← size_eq]; omega), bne_nil, ByteArray.toList_eq, size_eq]
      cases s.data.toList <;> simp [digL]
  | d + 1, n, hd, hn => by
    have hlt : n < s.size := by omega
    have hbt := bt_get hlt
    have hc := List.drop_eq_getElem_cons (l := s.data.toList) (i := n) (by rw [← size_eq]; exact hlt)
    rw [hc]
    generalize hx : s.data.toList[n]'(by rw [← size_eq]; exact hlt) = c at hbt
    by_cases h1 : c.toNat < 48
    · refine evDone (r' := false) (fun k => ?_) ?_
      · simp only [figureheadref05_Digits.l0]; rw [if_pos (by omega), if_pos (by omega), hbt, if_pos (by omega)]
      · have : isD c = false := by unfold isD; simp; omega
        simp [digL, this]
    · by_cases h2 : c.toNat > 57
      · refine evDone (r' := false) (fun k => ?_) ?_
        · simp only [figureheadref05_Digits.l0]; rw [if_pos (by omega), if_pos (by omega), hbt, if_neg (by omega), if_pos (by omega)]
        · have : isD c = false := by unfold isD; simp; omega
          simp [digL, this]
      · have hd1 : isD c = true := isD_iff.2 ⟨by omega, by omega⟩
        refine evIs (Ev.step (f := fun k => figureheadref05_Digits.l0 k s ((n + 1 : Nat) : Int)) (fun k => ?_) (Digits_loop s hs d (n + 1) (by omega) (by omega))) ?_
        · simp only [figureheadref05_Digits.l0]; rw [if_pos (by omega), if_pos (by omega), hbt, if_neg (by omega), if_neg (by omega), succ64 _ (by omega)]
        · simp [digL, hd1]
theorem Digits05_ev {s : ByteArray} (hs : s.size ≤ 4611686018427387904) : Ev (fun k => figureheadref05_Digits.f k s) (dB s && decide (s.size ≠ 0)) := by
  have := Digits_loop s hs s.size 0 (by omega) (by omega)
  rw [List.drop_zero] at this
  exact this
end Go.Proofs.YtekkpmoppihlaaaDoor.Px
end
section
namespace Go.Proofs.YtekkpmoppihlaaaDoor.Px
open Fig Go.RowKit Go.Proofs.YtekkpmoppihlaaaDoorW.PrintWords Go.Proofs.YtekkpmoppihlaaaDoorW.PrintLast Go.Proofs.YtekkpmoppihlaaaDoorW.PrintMore
attribute [local go_sem] max2_int min2_int max_two min_two max_three min_three max_four min_four   -- for this text's walks alone
attribute [local go_sem] fieldA23_0 fieldA23_1 fieldA23_2
theorem Good05_ev {b : Bool} {s : ByteArray} {e : Int} (hs : s.size ≤ 4611686018427387904) : Ev (fun k => figureheadref05_Good.f k b s e) (goodD s e) := by
  unfold figureheadref05_Good.f
  refine Ev.bind (Digits05_ev hs) ?_
  unfold goodD
  cases hd : (dB s && decide (s.size ≠ 0))
  · simp only [Bool.false_eq_true, if_false, Bool.false_and]
    exact Ev.now _
  · simp only [if_true, Bool.true_and]
    by_cases h1 : s.size ≤ 1000
    · have h1' : (s.size : Int) ≤ 1000 := by omega
      simp only [h1', h1, if_true, decide_true, Bool.true_and]
      by_cases h2 : e ≥ -1000
      · have h2' : -1000 ≤ e := h2
        simp only [h2, h2', if_true, decide_true, Bool.true_and]
        exact Ev.now _
      · have h2' : ¬ -1000 ≤ e := h2
        simp only [h2, h2', if_false, decide_false, Bool.false_and]
        exact Ev.now _
    · have h1' : ¬ (s.size : Int) ≤ 1000 := by omega
      simp only [h1', h1, if_false, decide_false, Bool.false_and]
      exact Ev.now _
end Go.Proofs.YtekkpmoppihlaaaDoor.Px
end
section
namespace Go.Proofs.YtekkpmoppihlaaaDoor.Px
open Fig Go.RowKit Go.Proofs.YtekkpmoppihlaaaDoorW.PrintWords Go.Proofs.YtekkpmoppihlaaaDoorW.PrintLast Go.Proofs.YtekkpmoppihlaaaDoorW.PrintMore
attribute [local go_sem] max2_int min2_int max_two min_two max_three min_three max_four min_four   -- for this text's walks alone
attribute [local go_sem] fieldA23_0 fieldA23_1 fieldA23_2
def goodP10 (s : ByteArray) (e p : Int) : Bool := goodD s e && decide (s.size ≤ 60) && decide (-100 ≤ p) && decide (p ≤ 100) && decide (-100 ≤ e) && decide (e ≤ 100)
theorem goodP10_iff {s : ByteArray} {e p : Int} : goodP10 s e p = true ↔ goodD s e = true ∧ s.size ≤ 60 ∧ -100 ≤ p ∧ p ≤ 100 ∧ -100 ≤ e ∧ e ≤ 100 := by
  unfold goodP10; simp only [Bool.and_eq_true, decide_eq_true_eq, and_assoc]
theorem good10_ev {b : Bool} {s : ByteArray} {e p : Int} (hs : s.size ≤ 4611686018427387904) : Ev (fun k => figureheadlaw10_good.f k b s e p) (goodP10 s e p) := by
  unfold figureheadlaw10_good.f
  refine Ev.bind (Good05_ev hs) ?_
  unfold goodP10
  cases goodD s e
  · exact evF (by decide) (evIs (Ev.now _) (by simp))
  refine evT rfl ?_
  by_cases h1 : s.size ≤ 60
  · refine evT (by omega) ?_
    by_cases h2 : p ≥ -100
    · refine evT h2 ?_
      by_cases h3 : p ≤ 100
      · refine evT h3 ?_
        by_cases h4 : e ≥ -100
        · have h2' : -100 ≤ p := h2
          have h4' : -100 ≤ e := h4
          exact evT h4 (evIs (Ev.now _) (by simp [h1, h2', h3, h4']))
        · have h4' : ¬ -100 ≤ e := h4
          exact evF h4 (evIs (Ev.now _) (by simp [h4']))
      · exact evF h3 (evIs (Ev.now _) (by simp [h3]))
    · have h2' : ¬ -100 ≤ p := h2
      exact evF h2 (evIs (Ev.now _) (by simp [h2']))
  · exact evF (by omega) (evIs (Ev.now _) (by simp [h1]))
theorem goodP10_ok {s : ByteArray} {e p : Int} (h : goodP10 s e p = true) : OkS s e ∧ (digB (vB s)).size ≤ 60 ∧ -100 ≤ p ∧ p ≤ 100 ∧ -100 ≤ e ∧ e ≤ 100 := by
  obtain ⟨a, b, c, d, f, g⟩ := goodP10_iff.1 h
  have ok := OkS.of_good a
  have := ok.ok.val
  exact ⟨ok, by have := digs_size_lt (vB_lt ok.d); omega, c, d, f, g⟩
theorem inc_wf_u8 {x : Int} (h : (Lit.int .u8 x).wf = true) : 0 ≤ x ∧ x < 256 := by
  simp [Lit.wf, IntKind.min, IntKind.max, IntKind.signed, IntKind.bits] at h; omega
end Go.Proofs.YtekkpmoppihlaaaDoor.Px
end
section
namespace Go.Proofs.YtekkpmoppihlaaaDoor.Px
open Fig Go.RowKit Go.Proofs.YtekkpmoppihlaaaDoorW.PrintWords Go.Proofs.YtekkpmoppihlaaaDoorW.PrintLast Go.Proofs.YtekkpmoppihlaaaDoorW.PrintMore
attribute [local go_sem] max2_int min2_int max_two min_two max_three min_three max_four min_four   -- for this text's walks alone
attribute [local go_sem] fieldA23_0 fieldA23_1 fieldA23_2
theorem modeP (m : Int) : mode_Good.f m = some (decide (0 ≤ m ∧ m < 8)) := by
  unfold mode_Good.f
  by_cases h : m ≥ 0
  · rw [if_pos h]; congr 1; rw [decide_eq_decide]; omega
  · rw [if_neg h]; congr 1; symm; rw [decide_eq_false_iff_not]; omega
end Go.Proofs.YtekkpmoppihlaaaDoor.Px
end
section
namespace Go.Proofs.YtekkpmoppihlaaaDoor.Px
open Fig Go.RowKit Go.Proofs.YtekkpmoppihlaaaDoorW.PrintWords Go.Proofs.YtekkpmoppihlaaaDoorW.PrintLast Go.Proofs.YtekkpmoppihlaaaDoorW.PrintMore
attribute [local go_sem] max2_int min2_int max_two min_two max_three min_three max_four min_four   -- for this text's walks alone
attribute [local go_sem] fieldA23_0 fieldA23_1 fieldA23_2
theorem guess_mid (p q : Nat) (hp : p ≤ 1000000000) (hq : q ≤ 1000000000) : (((p : Int) + (q : Int)) % 4294967296) / 2 = (((p + q) / 2 : Nat) : Int) := by omega
theorem guess_loop (r b : List Int) (gr : goodL r = true) (gb : goodL b = true) (lr : r.length ≤ 1000001) (lb : b.length ≤ 1000000) : ∀ (d p q : Nat), q - p = d → p < q → q ≤ 1000000000 → valL b * p ≤ valL r → valL r < valL b * q →
    Ev (fun k => div_guess.l0 k r b (p : Int) (q : Int)) (((valL r / valL b : Nat) : Int), limbs (valL r % valL b)) := by
  intro d
  induction d using Nat.strongRecOn with
  | _ d ih =>
  intro p q hd hpq hq h1 h2
  by_cases hs : 1 < q - p
  · have hm1 : p < (p + q) / 2 := by omega
    have hm2 : (p + q) / 2 < q := by omega
    have lm : (limbs (valL b * ((p + q) / 2) + 0)).length ≤ 1000001 := by
      have := valL_lt gb
      have h3 : valL b * ((p + q) / 2) < 1000000000 ^ b.length * 1000000000 := Nat.mul_lt_mul'' this (by omega)
      rw [← Nat.pow_succ] at h3
      exact limbs_pow9 h3 (by omega)
    refine Ev.step (f := fun k => (mul_Small.f k b (((p + q) / 2 : Nat) : Int) ((0 : Nat) : Int)).bind fun t => (nat_Cmp.f t r).bind fun t2 => if t2 ≤ 0 then div_guess.l0 k r b (((p + q) / 2 : Nat) : Int) (q : Int) else div_guess.l0 k r b (p : Int) (((p + q) / 2 : Nat) : Int)) (fun k => ?_) (Ev.bind (Small_ev gb lb (by omega) (by omega)) (Ev.bind (evSome fun _ => cmpF_eq (limbs_good _) gr (by omega) (by omega)) ?_))
    · simp only [div_guess.l0]
      rw [if_pos (by omega), guess_mid p q (by omega) hq]; rfl
    · rw [limbs_val, Nat.add_zero]
      by_cases hc : valL b * ((p + q) / 2) ≤ valL r
      · have c0 : cmpN (valL b * ((p + q) / 2)) (valL r) ≤ 0 := by
          unfold cmpN
          split
          · omega
          · rw [if_neg (by omega)]; omega
        simp only [c0, if_true]
        exact ih _ (by omega) _ _ rfl hm2 hq hc h2
      · have c0 : ¬ cmpN (valL b * ((p + q) / 2)) (valL r) ≤ 0 := by unfold cmpN; rw [if_neg (by omega), if_pos (by omega)]; omega
        simp only [c0, if_false]
        exact ih _ (by omega) _ _ rfl hm1 (by omega) h1 (by omega)
  · have hq1 : q = p + 1 := by omega
    subst hq1
    have hb0 : 0 < valL b := by
      rcases Nat.eq_zero_or_pos (valL b) with h0 | h0
      · rw [h0] at h2; omega
      · exact h0
    have e1 : valL r / valL b = p := by
      rw [Nat.mul_add] at h2
      exact Nat.div_eq_of_lt_le (by rw [Nat.mul_comm]; exact h1) (by rw [Nat.add_mul, Nat.mul_comm p]; omega)
    have e2 : valL r % valL b = valL r - valL b * p := by
      have := Nat.div_add_mod (valL r) (valL b)
      rw [e1] at this; omega
    have lm : (limbs (valL b * p + 0)).length ≤ 1000001 := by
      exact limbs_pow9 (Nat.lt_of_le_of_lt h1 (valL_lt gr)) lr
    refine Ev.step (f := fun k => (mul_Small.f k b ((p : Nat) : Int) ((0 : Nat) : Int)).bind fun t => (nat_Sub.f r t).bind fun t2 => some (((p : Nat) : Int), t2.1)) (fun k => ?_) (Ev.bind (Small_ev gb lb (by omega) (by omega)) (Ev.bind (evSome fun _ => subF_ge gr (limbs_good _) (by omega) (by omega) (by rw [limbs_val]; omega)) ?_))
    · simp only [div_guess.l0]
      rw [if_neg (by omega)]; rfl
    · rw [limbs_val, Nat.add_zero, e1, e2]; exact Ev.now _
theorem guess_ev {r b : List Int} (gr : goodL r = true) (gb : goodL b = true) (lr : r.length ≤ 1000001) (lb : b.length ≤ 1000000) (h : valL r < 1000000000 * valL b) : Ev (fun k => div_guess.f k r b) (((valL r / valL b : Nat) : Int), limbs (valL r % valL b)) := by
  have := guess_loop r b gr gb lr lb _ 0 1000000000 rfl (by omega) (by omega) (by omega) (by rw [Nat.mul_comm]; exact h)
  exact this
end Go.Proofs.YtekkpmoppihlaaaDoor.Px
end
section
namespace Go.Proofs.YtekkpmoppihlaaaDoor.Px
open Fig Go.RowKit Go.Proofs.YtekkpmoppihlaaaDoorW.PrintWords Go.Proofs.YtekkpmoppihlaaaDoorW.PrintLast Go.Proofs.YtekkpmoppihlaaaDoorW.PrintMore
attribute [local go_sem] max2_int min2_int max_two min_two max_three min_three max_four min_four   -- for this text's walks alone
attribute [local go_sem] fieldA23_0 fieldA23_1 fieldA23_2
theorem divm_val (A V y p r X Q R : Nat) (h : X * y + r = V) (hq : Q = (p + 1000000000 * r) / y) (hr : R = (p + 1000000000 * r) % y) : (Q + 1000000000 * X) * y + R = p + 1000000000 * V := by
  have := Nat.div_add_mod (p + 1000000000 * r) y
  rw [← hq, ← hr] at this
  rw [Nat.add_mul, Nat.mul_assoc, Nat.mul_comm _ y, ← h, Nat.mul_add]; omega
theorem DivMod_loop (a b : List Int) (ga : goodL a = true) (gb : goodL b = true) (la : a.length ≤ 1000000) (lb : b.length ≤ 1000000) (hb : 0 < valL b) : ∀ (n : Nat) (q r : List Int), n ≤ a.length → q.length = a.length → goodL q = true → goodL r = true → r.length ≤ 1000000 → valL r < valL b → valL (q.drop n) * valL b + valL r = valL (a.drop n) →
    Ev (fun k => div_DivMod.l0 k a b q r ((n : Int) - 1)) (limbs (valL a / valL b), limbs (valL a % valL b), true)
  | 0, q, r, hn, hq, gq, gr, lr, hr, hv => by
    rw [List.drop_zero, List.drop_zero] at hv
    have e1 : valL q = valL a / valL b := by rw [← hv, Nat.mul_comm, Nat.mul_add_div hb, Nat.div_eq_of_lt hr]; rfl
    have e2 : valL r = valL a % valL b := by rw [← hv, Nat.mul_comm, Nat.mul_add_mod, Nat.mod_eq_of_lt hr]
    refine evIs (Ev.step (f := fun _ => (nat_Trim.f q).bind fun t => (nat_Trim.f r).bind fun t2 => some (t, t2, true)) (fun k => ?_) (Ev.bind (evSome fun _ => trimF_eq gq (by omega)) (Ev.bind (evSome fun _ => trimF_eq gr (by omega)) (Ev.now _)))) ?_
    · simp only [div_DivMod.l0]; rw [if_neg (by omega)]
    · rw [e1, e2]
  | n + 1, q, r, hn, hq, gq, gr, lr, hr, hv => by
    have hna : n < a.length := by omega
    have hnq : n < q.length := by omega
    have pa := goodL_iff.1 ga _ (List.getElem_mem hna)
    obtain ⟨p, hp⟩ : ∃ v : Nat, a[n] = (v : Int) := ⟨a[n].toNat, by omega⟩
    have hp9 : p < 1000000000 := by omega
    have gpr : goodL ([(p : Int)] ++ r) = true := goodL_append.2 ⟨goodL_cons.2 ⟨by omega, rfl⟩, gr⟩
    have vpr : valL ([(p : Int)] ++ r) = p + 1000000000 * valL r := by simp [valL]
    have hlt : p + 1000000000 * valL r < 1000000000 * valL b := by omega
    have hqb : (p + 1000000000 * valL r) / valL b < 1000000000 := by rw [Nat.div_lt_iff_lt_mul hb]; exact hlt
    have hmod := Nat.mod_lt (p + 1000000000 * valL r) hb
    have lt2 : (limbs (p + 1000000000 * valL r)).length ≤ 1000001 := by
      rw [← vpr]
      exact Nat.le_trans (limbs_len_le (valL_lt gpr)) (by simp; omega)
    have lm : (limbs ((p + 1000000000 * valL r) % valL b)).length ≤ 1000000 := by
      have := valL_lt gb
      exact limbs_pow9 (Nat.lt_trans hmod this) lb
    have ex : (((n + 1 : Nat) : Int) - 1) = (n : Int) := by omega
    refine Ev.step (f := fun k => (nat_Trim.f ([(p : Int)] ++ r)).bind fun t => (div_guess.f k t b).bind fun t2 => div_DivMod.l0 k a b (q.set n t2.1) t2.2 ((n : Int) - 1)) (fun k => ?_) (Ev.bind (evSome fun _ => trimF_eq gpr (by simp; omega)) ?_)
    · simp only [ex, div_DivMod.l0, Option.bind_some]
      rw [if_pos (by omega), if_pos (by omega), if_pos (by omega), rd_get hna, hp, if_pos (by simp; omega)]
      have c1 : (n : Int) < (q.length : Int) := by omega
      simp only [c1, if_true, Int.toNat_natCast, w64 (x := (n : Int) - 1) (by omega) (by omega)]
    · rw [vpr]
      refine Ev.bind (guess_ev (limbs_good _) gb (by omega) lb (by rw [limbs_val]; exact hlt)) ?_
      rw [limbs_val]
      refine DivMod_loop a b ga gb la lb hb n _ _ (by omega) (by simpa using hq) (goodL_set gq n (cast_bd hqb)) (limbs_good _) lm (by rw [limbs_val]; exact hmod) ?_
      rw [limbs_val, drop_set_self q n _ hnq, List.drop_eq_getElem_cons hna, hp]
      exact divm_val 0 _ _ p _ _ _ _ hv rfl rfl
theorem DivMod_ev {a b : List Int} (ga : goodL a = true) (gb : goodL b = true) (la : a.length ≤ 1000000) (lb : b.length ≤ 1000000) (hb : 0 < valL b) : Ev (fun k => div_DivMod.f k a b) (limbs (valL a / valL b), limbs (valL a % valL b), true) := by
  unfold div_DivMod.f
  refine Ev.bind (evSome fun _ => trimF_eq gb (by omega)) ?_
  have lb2 : (limbs (valL b)).length ≤ 1000000 := Nat.le_trans (limbs_len_le (valL_lt gb)) lb
  have h0 : ¬ ((limbs (valL b)).length : Int) = 0 := by
    intro h
    have : limbs (valL b) = [] := List.eq_nil_of_length_eq_zero (by omega)
    have := limbs_nil_iff.1 this; omega
  have h1 : (0 : Int) ≤ (a.length : Int) := by omega
  have h2 : a.length ≤ 70368744177664 := by omega
  simp only [h0, h1, if_true, if_false, Int.toNat_natCast, h2]
  rw [w64 (by omega) (by omega)]
  have := DivMod_loop a (limbs (valL b)) ga (limbs_good _) la lb2 (by rw [limbs_val]; exact hb) a.length (List.replicate a.length 0) [] (Nat.le_refl _) (by simp) (goodL_replicate _) rfl (by simp) (by rw [limbs_val]; exact hb) (by
    rw [List.drop_of_length_le (by simp), List.drop_of_length_le (Nat.le_refl _)]; simp [valL])
  rwa [limbs_val] at this
end Go.Proofs.YtekkpmoppihlaaaDoor.Px
end
section
namespace Go.Proofs.YtekkpmoppihlaaaDoor.Px
open Fig Go.RowKit Go.Proofs.YtekkpmoppihlaaaDoorW.PrintWords Go.Proofs.YtekkpmoppihlaaaDoorW.PrintLast Go.Proofs.YtekkpmoppihlaaaDoorW.PrintMore
attribute [local go_sem] max2_int min2_int max_two min_two max_three min_three max_four min_four   -- for this text's walks alone
attribute [local go_sem] fieldA23_0 fieldA23_1 fieldA23_2
theorem numP {s : ByteArray} (h : dB s = true) (hne : s.size ≠ 0) (hs : s.size ≤ 140737488351232) : ten_Number.f s = some (limbs (vB s), true) := by
  unfold ten_Number.f; rw [if_pos hs, if_pos ⟨h, hne⟩]
end Go.Proofs.YtekkpmoppihlaaaDoor.Px
end
section
namespace Go.Proofs.YtekkpmoppihlaaaDoor.Px
open Fig Go.RowKit Go.Proofs.YtekkpmoppihlaaaDoorW.PrintWords Go.Proofs.YtekkpmoppihlaaaDoorW.PrintLast Go.Proofs.YtekkpmoppihlaaaDoorW.PrintMore
attribute [local go_sem] max2_int min2_int max_two min_two max_three min_three max_four min_four   -- for this text's walks alone
attribute [local go_sem] fieldA23_0 fieldA23_1 fieldA23_2
theorem coefP {b : Bool} {s : ByteArray} {e : Int} (h : OkD s e) : dec_Coef.f b s e = some (limbs (vB s)) := by
  have := h.sz
  unfold dec_Coef.f; rw [numP h.d h.ne (by omega)]; rfl
theorem coef_len {s : ByteArray} {e : Int} (h : OkD s e) : (limbs (vB s)).length ≤ 100000 := by
  have := limbs_len_digB (vB s)
  have := h.val
  have := h.sz
  omega
theorem shiftP {l : List Int} {n : Int} (g : goodL l = true) (hl : l.length ≤ 500000) (hn : n ≤ 1000000) : ten_Shift.f l n = some (limbs (valL l * 10 ^ n.toNat)) := by unfold ten_Shift.f; rw [if_pos ⟨g, hl, hn⟩]
end Go.Proofs.YtekkpmoppihlaaaDoor.Px
end
section
namespace Go.Proofs.YtekkpmoppihlaaaDoor.Px
open Fig Go.RowKit Go.Proofs.YtekkpmoppihlaaaDoorW.PrintWords Go.Proofs.YtekkpmoppihlaaaDoorW.PrintLast Go.Proofs.YtekkpmoppihlaaaDoorW.PrintMore
attribute [local go_sem] max2_int min2_int max_two min_two max_three min_three max_four min_four   -- for this text's walks alone
attribute [local go_sem] fieldA23_0 fieldA23_1 fieldA23_2
theorem w_add (e : Int) (p : Nat) (h1 : -1000000 ≤ e) (h2 : e ≤ 1000000) (hp : p ≤ 1000000) : wrap64 (e + (p : Int)) = e + (p : Int) := w64 (by omega) (by omega)
theorem w_norm (e : Int) (p q : Nat) (h1 : -1000000 ≤ e) (h2 : e ≤ 1000000) (hp : p ≤ 1000000) (hq : q ≤ 1000000) : wrap64 (wrap64 (e + (p : Int)) - (q : Int)) = e + (p : Int) - (q : Int) := by rw [w_add e p h1 h2 hp, w64 (by omega) (by omega)]
theorem normP {b : Bool} {s : ByteArray} {e : Int} (h : OkD s e) : dec_Norm.f b s e = some (b, nD (vB s), nE (vB s) e) := by
  have hz := h.val
  have h1 := h.sz
  have h2 := h.lo
  have h3 := h.hi
  unfold dec_Norm.f
  rw [show strings_TrimLeft.f s (⟨#[48]⟩ : ByteArray) = some (digB (vB s)) by unfold strings_TrimLeft.f; rw [if_pos rfl, stripB_eq h.d]]
  simp only [Option.bind_some]
  by_cases h0 : vB s = 0
  · rw [if_pos (digB_toList_nil.2 h0), h0]; rfl
  · rw [if_neg (fun hh => h0 (digB_toList_nil.1 hh))]
    have hl := digB_len_core h0
    have ht : strings_TrimRight.f (digB (vB s)) (⟨#[48]⟩ : ByteArray) = some (digB (core (vB s))) := by
      unfold strings_TrimRight.f
      rw [if_pos ⟨rfl, by omega⟩]
      show some (⟨(Lib.trimRightB (digs (vB s)) 48).toArray⟩ : ByteArray) = _
      unfold Lib.trimRightB; rw [trimR_digs h0]; rfl
    rw [ht]
    simp only [Option.bind_some]
    rw [w_norm e _ _ (by omega) (by omega) (by omega) (by omega)]
    unfold nD nE
    rw [if_neg h0, if_neg h0, show e + ((digB (vB s)).size : Int) - ((digB (core (vB s))).size : Int) = e + (tz (vB s) : Int) by omega]
end Go.Proofs.YtekkpmoppihlaaaDoor.Px
end
section
namespace Go.Proofs.YtekkpmoppihlaaaDoor.Px
open Fig Go.RowKit Go.Proofs.YtekkpmoppihlaaaDoorW.PrintWords Go.Proofs.YtekkpmoppihlaaaDoorW.PrintLast Go.Proofs.YtekkpmoppihlaaaDoorW.PrintMore
attribute [local go_sem] max2_int min2_int max_two min_two max_three min_three max_four min_four   -- for this text's walks alone
attribute [local go_sem] fieldA23_0 fieldA23_1 fieldA23_2
theorem away_up (m : Int) (neg odd : Bool) (half : Int) : mode_Away.f m neg odd half = some (upB m neg odd half) := rfl
end Go.Proofs.YtekkpmoppihlaaaDoor.Px
end
section
namespace Go.Proofs.YtekkpmoppihlaaaDoor.Px
open Fig Go.RowKit Go.Proofs.YtekkpmoppihlaaaDoorW.PrintWords Go.Proofs.YtekkpmoppihlaaaDoorW.PrintLast Go.Proofs.YtekkpmoppihlaaaDoorW.PrintMore
attribute [local go_sem] max2_int min2_int max_two min_two max_three min_three max_four min_four   -- for this text's walks alone
attribute [local go_sem] fieldA23_0 fieldA23_1 fieldA23_2
theorem Mul_loop (a b : List Int) (ga : goodL a = true) (gb : goodL b = true) (la : a.length ≤ 1000000) (lb : b.length ≤ 1000000) : ∀ (d n : Nat) (x : List Int), b.length - n = d → n ≤ b.length → goodL x = true → x.length = a.length + b.length + 1 → valL x = valL a * valL (b.take n) →
    Ev (fun k => mul_Mul.l0 k a x b (b.length : Int) (n : Int)) (limbs (valL a * valL b))
  | 0, n, x, h1, h2, gx, hx, hv => by
    refine evDone (r' := limbs (valL x)) (fun k => ?_) ?_
    · simp only [mul_Mul.l0, nat_Trim.f]; rw [if_neg (by omega), trimF_eq gx (by omega)]; rfl
    · rw [hv, List.take_of_length_le (by omega)]
  | d + 1, n, x, h1, h2, gx, hx, hv => by
    have hnb : n < b.length := by omega
    have pb := goodL_iff.1 gb _ (List.getElem_mem hnb)
    obtain ⟨y, hy⟩ : ∃ v : Nat, b[n] = (v : Int) := ⟨b[n].toNat, by omega⟩
    have e : valL (b.take (n + 1)) = valL (b.take n) + 1000000000 ^ n * y := by
      rw [List.take_succ_eq_append_getElem hnb, valL_snoc, hy, Int.toNat_natCast, List.length_take, Nat.min_eq_left (by omega)]
    have key : valL x + 1000000000 ^ n * (valL a * y) = valL a * valL (b.take (n + 1)) := by
      rw [hv, e, Nat.mul_add, Nat.mul_left_comm (1000000000 ^ n)]
    have hlt : valL x + 1000000000 ^ n * (valL a * y) < 1000000000 ^ x.length := by
      rw [key, hx]
      have va := valL_lt ga
      have vb := valL_lt (goodL_take gb (n + 1))
      have h3 := Nat.mul_lt_mul'' va vb
      rw [← Nat.pow_add] at h3
      exact Nat.lt_of_lt_of_le h3 (Nat.pow_le_pow_right (by omega) (by rw [List.length_take]; omega))
    obtain ⟨r, hr, g1, g2, g3⟩ := row_ev (p := n) gx ga (show y < 1000000000 by omega) (by omega) (by omega) hlt
    refine Ev.step (f := fun k => (mul_row.f k x a (y : Int) (n : Int)).bind fun t => mul_Mul.l0 k a t b (b.length : Int) ((n + 1 : Nat) : Int)) (fun k => ?_) (Ev.bind hr (Mul_loop a b ga gb la lb d (n + 1) r (by omega) (by omega) g1 (by omega) (by rw [g3, key])))
    simp only [mul_Mul.l0]; rw [if_pos (by omega), if_pos (by omega), if_pos (by omega), rd_get hnb, hy, succ64 _ (by omega)]
theorem Mul_ev {a b : List Int} (ga : goodL a = true) (gb : goodL b = true) (la : a.length ≤ 1000000) (lb : b.length ≤ 1000000) : Ev (fun k => mul_Mul.f k a b) (limbs (valL a * valL b)) := by
  unfold mul_Mul.f
  rw [times_len _ _ la lb]
  have c1 : (0 : Int) ≤ ((a.length + b.length + 1 : Nat) : Int) := by omega
  have c2 : a.length + b.length + 1 ≤ 70368744177664 := by omega
  simp only [Int.toNat_natCast, c1, c2, if_true]
  exact Mul_loop a b ga gb la lb b.length 0 _ rfl (by omega) (goodL_replicate _) (by simp) (by rw [valL_replicate]; simp [valL])
end Go.Proofs.YtekkpmoppihlaaaDoor.Px
end
section
namespace Go.Proofs.YtekkpmoppihlaaaDoor.Px
open Fig Go.RowKit Go.Proofs.YtekkpmoppihlaaaDoorW.PrintWords Go.Proofs.YtekkpmoppihlaaaDoorW.PrintLast Go.Proofs.YtekkpmoppihlaaaDoorW.PrintMore
attribute [local go_sem] max2_int min2_int max_two min_two max_three min_three max_four min_four   -- for this text's walks alone
attribute [local go_sem] fieldA23_0 fieldA23_1 fieldA23_2
theorem mnP (a b : Int) : mn a b = min b a := by unfold mn; split <;> omega
theorem inc_head {q : Nat} (h : q ≠ 0) : (limbs q).length > 0 ∧ rd (limbs q) 0 = ((q % 1000000000 : Nat) : Int) := by
  have hv := limbs_val q
  have hg := limbs_good q
  rcases hl : limbs q with _ | ⟨x, l⟩
  · exact absurd (limbs_nil_iff.1 hl) h
  · rw [hl] at hv hg
    obtain ⟨hx, _⟩ := goodL_cons.1 hg
    simp only [valL] at hv
    refine ⟨by simp, ?_⟩
    show x = _
    omega
theorem inc_zeroB (v : Nat) : dB (zeroB v) = true ∧ (zeroB v).size ≠ 0 ∧ vB (zeroB v) = v := by
  unfold zeroB
  by_cases h : v = 0
  · rw [if_pos h, h]; exact ⟨rfl, by decide, rfl⟩
  · rw [if_neg h]; exact ⟨dB_digB v, fun e => h (digB_empty_iff.1 e), vB_digB v⟩
theorem inc_zeroB_size {v k : Nat} (h : (digB v).size ≤ k) (hk : 1 ≤ k) : (zeroB v).size ≤ k := by
  unfold zeroB
  by_cases h0 : v = 0
  · rw [if_pos h0]; exact hk
  · rw [if_neg h0]; exact h
theorem inc_digits {v k : Nat} (h : (digB v).size ≤ k) (hk : k ≤ 1000000) : ten_Digits.f (limbs v) = some (zeroB v) := by
  have := limbs_len_digB v
  unfold ten_Digits.f; rw [if_pos ⟨limbs_good v, by omega⟩, limbs_val]
theorem inc_end {b : Bool} {v : Nat} {p : Int} (hz : (digB v).size ≤ 100000) (h1 : -100000 ≤ p) (h2 : p ≤ 100000) : ((ten_Digits.f (limbs v)).bind fun t => (dec_Norm.f b t p).bind fun u => some (u.1, u.2.1, u.2.2, (0 : Int))) = some (b, nD v, nE v p, 0) := by
  obtain ⟨d1, d2, d3⟩ := inc_zeroB v
  have d4 := inc_zeroB_size (k := 100000) hz (by decide)
  rw [inc_digits hz (by decide)]
  simp only [Option.bind_some]
  rw [normP ⟨d1, d2, by omega, h1, h2⟩, d3]; rfl
theorem inc_add {q : Nat} (h : (digB q).size ≤ 1000000) : nat_Add.f (limbs q) ([1] : List Int) = some (limbs (q + 1)) := by
  have hl := limbs_len_digB q
  have h1 : ([1] : List Int).length ≤ 1000000000000 := by show 1 ≤ 1000000000000; omega
  have := addF_eq (limbs_good q) (b := [1]) (by decide) (by omega) h1
  rwa [limbs_val, show valL [1] = 1 from rfl] at this
theorem inc_j1 {b : Bool} {s : ByteArray} {e E : Int} {q B : Nat} {u : Bool} (hz : (digB q).size ≤ 40000) (hB : (digB B).size ≤ 40000) (h1 : -100000 ≤ E) (h2 : E ≤ 100000) : Ev (fun k => inc_Round.j1 k (limbs B) E (limbs q) u b s e) (b, nD ((q + if u = true then 1 else 0) * B), nE ((q + if u = true then 1 else 0) * B) E, 0) := by
  have lB := limbs_len_digB B
  cases u
  · have lq := limbs_len_digB q
    have hm := digB_mul_le hz hB
    have := Mul_ev (limbs_good q) (limbs_good B) (by omega) (by omega)
    rw [limbs_val, limbs_val] at this
    refine Ev.step (fun k => by simp only [inc_Round.j1, Bool.false_eq_true, if_false]; rfl) (Ev.bind this (evSome fun _ => ?_))
    simp only [Bool.false_eq_true, if_false, Nat.add_zero]
    exact inc_end (by omega) h1 h2
  · have ha := inc_add (q := q) (by omega)
    have h3 := digB_add_le (m := q) (n := 1) (p := 40000) hz (by rw [digB_one_size]; omega)
    have lq := limbs_len_digB (q + 1)
    have hm := digB_mul_le h3 hB
    have := Mul_ev (limbs_good (q + 1)) (limbs_good B) (by omega) (by omega)
    rw [limbs_val, limbs_val] at this
    refine Ev.step (fun k => by simp only [inc_Round.j1, if_true]; rfl) (evE ha (Ev.bind this (evSome fun _ => ?_)))
    simp only [if_true]
    exact inc_end (by omega) h1 h2
theorem inc_err (m p : Int) (l : List Int) (b : Bool) (s : ByteArray) (e : Int) : Ev (fun k => inc_Round.j0 k m p l true b s e) (false, (⟨#[]⟩ : ByteArray), 0, 1) :=
  evDone (r' := (false, (⟨#[]⟩ : ByteArray), 0, 1)) (fun k => by simp only [inc_Round.j0, if_true]) rfl
theorem inc_j0 {m : Int} {b : Bool} {s : ByteArray} {e p : Int} {S : Nat} (h : OkS s e) (hS0 : S ≠ 0) (hS : (digB S).size ≤ 1000) (h1 : -10000 ≤ p) (h2 : p ≤ 10000) : Ev (fun k => inc_Round.j0 k m p (limbs S) false b s e) (roundD m b (vB s) e S p) := by
  have hv := h.ok.val
  have hz := h.sz
  have hlo := h.lo
  have hhi := h.hi
  have hc := coef_len h.ok
  have lS := limbs_len_digB S
  obtain ⟨E, hE⟩ : ∃ E, E = mn e p := ⟨_, rfl⟩
  have hE2 : E = min e p := by rw [hE, mnP]; omega
  have sB : ten_Shift.f (limbs S) (wrap64 (p - E)) = some (limbs (atE S p E)) := by
    rw [w64 (x := p - E) (by omega) (by omega), shiftP (limbs_good _) (by omega) (by omega), limbs_val]; rfl
  have sN : ten_Shift.f (limbs (vB s)) (wrap64 (e - E)) = some (limbs (atE (vB s) e E)) := by
    rw [w64 (x := e - E) (by omega) (by omega), shiftP (limbs_good _) (by omega) (by omega), limbs_val]; rfl
  have zB : (digB (atE S p E)).size ≤ 30000 := by
    unfold atE; rw [digB_len_pow hS0]; omega
  have zN := size_vZ b (n := vB s) (p := 10000) e E (by omega)
  rw [vZ_natAbs] at zN
  have hB0 := atE_pos hS0 p E
  refine Ev.step (fun k => by simp only [inc_Round.j0, Bool.false_eq_true, if_false, ← hE]; rfl) ?_
  refine evE sB (evE (coefP h.ok) (evE sN ?_))
  obtain ⟨N, hN⟩ : ∃ N, N = atE (vB s) e E := ⟨_, rfl⟩
  obtain ⟨B, hBB⟩ : ∃ B, B = atE S p E := ⟨_, rfl⟩
  rw [← hN, ← hBB]
  rw [← hN] at zN
  rw [← hBB] at zB hB0
  have zN2 : (digB N).size ≤ 30000 := by omega
  have zr := digB_mono (Nat.mod_le N B) zN2
  have zq := digB_mono (Nat.div_le_self N B) zN2
  have lN := limbs_len_digB N
  have lB := limbs_len_digB B
  have lr := limbs_len_digB (N % B)
  have z2 := digB_add_le zr zr
  have l2 := limbs_len_digB (N % B + N % B)
  have hd := DivMod_ev (limbs_good N) (limbs_good B) (by omega) (by omega) (by rw [limbs_val]; exact hB0)
  rw [limbs_val, limbs_val] at hd
  refine Ev.bind hd ?_
  dsimp only
  by_cases hf : N % B = 0
  · have hf2 : atE (vB s) e (min e p) % atE S p (min e p) = 0 := by rw [← hE2, ← hN, ← hBB]; exact hf
    rw [roundD_fit hf2]
    exact evT (by rw [hf, limbs_zero]; rfl) (evE (normP h.ok) (Ev.now _))
  have hf2 : ¬ atE (vB s) e (min e p) % atE S p (min e p) = 0 := by rw [← hE2, ← hN, ← hBB]; exact hf
  refine evF (fun hh => hf (limbs_nil_iff.1 (List.eq_nil_of_length_eq_zero (by omega)))) ?_
  by_cases h7 : m = 7
  · subst h7
    rw [roundD_exact hf2]
    exact evT rfl (Ev.now _)
  refine evF h7 ?_
  have ha : nat_Add.f (limbs (N % B)) (limbs (N % B)) = some (limbs (N % B + N % B)) := by
    have := addF_eq (limbs_good (N % B)) (limbs_good (N % B)) (by omega) (by omega)
    rwa [limbs_val] at this
  have hcm : nat_Cmp.f (limbs (N % B + N % B)) (limbs B) = some (cmpN (N % B + N % B) B) := by
    have := cmpF_eq (limbs_good (N % B + N % B)) (limbs_good B) (by omega) (by omega)
    rwa [limbs_val, limbs_val] at this
  have hres : roundD m b (vB s) e S p = (b, nD ((N / B + if upB m b (N / B % 2 == 1) (cmpN (N % B + N % B) B) = true then 1 else 0) * B), nE ((N / B + if upB m b (N / B % 2 == 1) (cmpN (N % B + N % B) B) = true then 1 else 0) * B) E, 0) := by
    rw [roundD_ok h7, ← hE2]
    unfold rv0
    rw [← hN, ← hBB]
    have hq : rq m b N B = N / B + if upB m b (N / B % 2 == 1) (cmpN (N % B + N % B) B) = true then 1 else 0 := by
      unfold rq; simp only [ne_eq, hf, not_false_eq_true, true_and]
    rw [hq]
  rw [hres]
  by_cases hq0 : N / B = 0
  · refine evF (by rw [hq0, limbs_zero]; decide) (evE ha (evE hcm (evE (away_up _ _ _ _) ?_)))
    have : (N / B % 2 == 1) = false := by rw [hq0]; rfl
    rw [this]
    exact inc_j1 (by omega) (by omega) (by omega) (by omega)
  · obtain ⟨g1, g2⟩ := inc_head hq0
    refine evT (by omega) (evT (by omega) (evE ha (evE hcm ?_)))
    have : (Int.tmod (rd (limbs (N / B)) 0) 2 == 1) = (N / B % 2 == 1) := by
      rw [g2, Int.tmod_eq_emod_of_nonneg (by omega), Bool.eq_iff_iff, beq_iff_eq, beq_iff_eq]; omega
    rw [this]
    refine evE (away_up _ _ _ _) ?_
    exact inc_j1 (by omega) (by omega) (by omega) (by omega)
theorem inc_num {st : ByteArray} (hst : st.size ≤ 140737488351232) : ten_Number.f st = some (if dB st = true ∧ st.size ≠ 0 then (limbs (vB st), true) else ([], false)) := by unfold ten_Number.f; rw [if_pos hst]
theorem incRound_bad {m : Int} {b : Bool} {s st : ByteArray} {e p : Int} (hst : st.size ≤ 140737488351232) (h : m < 0 ∨ 7 < m ∨ ¬ (dB st = true ∧ st.size ≠ 0) ∨ 40 < st.size ∨ vB st = 0) : Ev (fun k => inc_Round.f k m b s e st p) (false, (⟨#[]⟩ : ByteArray), 0, 1) := by
  unfold inc_Round.f
  refine evE (inc_num hst) (evE (modeP m) ?_)
  by_cases hg : 0 ≤ m ∧ m < 8
  · refine evT (decide_eq_true hg) ?_
    by_cases hd : dB st = true ∧ st.size ≠ 0
    · rw [if_pos hd]
      refine evT rfl ?_
      by_cases hz : (st.size : Int) > 40
      · exact evT hz (inc_err _ _ _ _ _ _)
      · refine evF hz ?_
        have hv : vB st = 0 := by
          rcases h with h | h | h | h | h
          · omega
          · omega
          · exact absurd hd h
          · omega
          · exact h
        have : (((limbs (vB st)).length : Int) == 0) = true := by rw [hv, limbs_zero]; rfl
        dsimp only
        rw [this]; exact inc_err _ _ _ _ _ _
    · rw [if_neg hd]
      exact evF (by decide) (inc_err _ _ _ _ _ _)
  · exact evF (by simpa using hg) (inc_err _ _ _ _ _ _)
theorem incRound_ev {m : Int} {b : Bool} {s st : ByteArray} {e p : Int} (hm : 0 ≤ m) (hm7 : m ≤ 7) (h : OkS s e) (hd : dB st = true) (hs0 : vB st ≠ 0) (hsz : st.size ≤ 40) (h1 : -10000 ≤ p) (h2 : p ≤ 10000) : Ev (fun k => inc_Round.f k m b s e st p) (roundD m b (vB s) e (vB st) p) := by
  have hn0 : st.size ≠ 0 := by
    intro h0
    rw [ByteArray.size_eq_zero_iff.1 h0] at hs0; exact hs0 rfl
  have hst := digs_size_lt (vB_lt hd)
  unfold inc_Round.f
  refine evE (inc_num (by omega)) (evE (modeP m) (evT (by simp; omega) ?_))
  rw [if_pos ⟨hd, hn0⟩]
  refine evT rfl (evF (by omega) ?_)
  have : (((limbs (vB st)).length : Int) == 0) = false := by
    rw [beq_eq_false_iff_ne]
    intro hh
    exact hs0 (limbs_nil_iff.1 (List.eq_nil_of_length_eq_zero (by omega)))
  dsimp only
  rw [this]
  exact inc_j0 h hs0 (by omega) h1 h2
end Go.Proofs.YtekkpmoppihlaaaDoor.Px
end
section
namespace Go.Proofs.YtekkpmoppihlaaaDoor.Px
open Fig Go.RowKit Go.Proofs.YtekkpmoppihlaaaDoorW.PrintWords Go.Proofs.YtekkpmoppihlaaaDoorW.PrintLast Go.Proofs.YtekkpmoppihlaaaDoorW.PrintMore
attribute [local go_sem] max2_int min2_int max_two min_two max_three min_three max_four min_four   -- for this text's walks alone
attribute [local go_sem] fieldA23_0 fieldA23_1 fieldA23_2
theorem nD_lit10 {n m k : Nat} {s : ByteArray} (h : n = m * 10 ^ k) (hm : m % 10 ≠ 0) (hd : dB s = true) (hv : vB s = m) (hs : stripB s = s) : nD n = s := by
  rw [h, nD_pow, nD_of hm, ← hv, ← stripB_eq hd, hs]
theorem nE_lit10 {n m k : Nat} {e : Int} (h : n = m * 10 ^ k) (hm : m % 10 ≠ 0) : nE n e = e + (k : Int) := by rw [h, nE_pow, nE_of hm]
theorem answers10_ev : Ev (fun k => figureheadlaw10_answers.f k) true := by
  have ok1 : OkS (⟨#[52]⟩ : ByteArray) (-1) := OkS.of_good (by decide)
  have v1 : vB (⟨#[52]⟩ : ByteArray) = 4 := by decide
  have v2 : vB (⟨#[50, 53]⟩ : ByteArray) = 25 := by decide
  have n50 : nD 50 = (⟨#[53]⟩ : ByteArray) := nD_lit10 (m := 5) (k := 1) (by decide) (by decide) (by decide) (by decide) (by decide)
  have e50 : nE 50 (-2) = -1 := by rw [nE_lit10 (m := 5) (k := 1) (by decide) (by decide)]; decide
  have r1 : roundD 5 false 4 (-1) 25 (-2) = (false, (⟨#[53]⟩ : ByteArray), -1, 0) := by
    rw [roundD_ok (by decide), show rv0 5 false 4 (-1) 25 (-2) (min (-1) (-2)) = 50 by decide, n50, show min (-1 : Int) (-2) = -2 by decide, e50]
  unfold figureheadlaw10_answers.f
  refine Ev.bind (incRound_ev (by decide) (by decide) ok1 (by decide) (by decide) (by decide) (by decide) (by decide)) ?_
  rw [v1, v2, r1]
  refine Ev.bind (incRound_bad (by decide) (.inr (.inr (.inr (.inr (by decide)))))) ?_
  exact evT rfl (evT (by simp [ByteArray.toList_eq]) (evIs (Ev.now _) (by decide)))
end Go.Proofs.YtekkpmoppihlaaaDoor.Px
end
section
namespace Go.Proofs.YtekkpmoppihlaaaDoor.Px
open Fig Go.RowKit Go.Proofs.YtekkpmoppihlaaaDoorW.PrintWords Go.Proofs.YtekkpmoppihlaaaDoorW.PrintLast Go.Proofs.YtekkpmoppihlaaaDoorW.PrintMore
attribute [local go_sem] max2_int min2_int max_two min_two max_three min_three max_four min_four   -- for this text's walks alone
attribute [local go_sem] fieldA23_0 fieldA23_1 fieldA23_2
theorem cutP {b : Bool} {s : ByteArray} {e p : Int} (h : OkS s e) (h1 : -10000 ≤ p) (h2 : p ≤ 10000) : place_cut.f b s e p = some (limbs (vB s / 10 ^ (p - e).toNat), limbs (vB s % 10 ^ (p - e).toNat)) := by
  have hl := h.lo
  have hh := h.hi
  have hc := coef_len h.ok
  unfold place_cut.f
  rw [coefP h.ok]
  simp only [Option.bind_some]
  rw [w64 (x := p - e) (by omega) (by omega)]
  have : ten_Cut.f (limbs (vB s)) (p - e) = some (limbs (vB s / 10 ^ (p - e).toNat), limbs (vB s % 10 ^ (p - e).toNat)) := by
    unfold ten_Cut.f; rw [if_pos ⟨limbs_good _, by omega, by omega⟩, limbs_val]
  rw [this]; rfl
end Go.Proofs.YtekkpmoppihlaaaDoor.Px
end
section
namespace Go.Proofs.YtekkpmoppihlaaaDoor.Px
open Fig Go.RowKit Go.Proofs.YtekkpmoppihlaaaDoorW.PrintWords Go.Proofs.YtekkpmoppihlaaaDoorW.PrintLast Go.Proofs.YtekkpmoppihlaaaDoorW.PrintMore
attribute [local go_sem] max2_int min2_int max_two min_two max_three min_three max_four min_four   -- for this text's walks alone
attribute [local go_sem] fieldA23_0 fieldA23_1 fieldA23_2
theorem fitsP {b : Bool} {s : ByteArray} {e p : Int} (h : OkS s e) (h1 : -10000 ≤ p) (h2 : p ≤ 10000) : place_Fits.f b s e p = some (decide (atE (vB s) e (min e p) % atE 1 p (min e p) = 0)) := by
  unfold place_Fits.f
  by_cases hp : p ≤ e
  · rw [if_pos hp, show min e p = p by omega, atE_self, Nat.mod_one]; rfl
  · rw [if_neg hp, cutP h h1 h2]
    simp only [Option.bind_some, Option.some.injEq]
    rw [show min e p = e by omega, atE_self, show atE 1 p e = 10 ^ (p - e).toNat by unfold atE; rw [Nat.one_mul]]
    rw [Bool.eq_iff_iff, beq_iff_eq, decide_eq_true_eq]
    constructor
    · intro hh; exact limbs_nil_iff.1 (List.eq_nil_of_length_eq_zero (by omega))
    · intro hh; rw [hh, limbs_zero]; rfl
end Go.Proofs.YtekkpmoppihlaaaDoor.Px
end
section
namespace Go.Proofs.YtekkpmoppihlaaaDoor.Px
open Fig Go.RowKit Go.Proofs.YtekkpmoppihlaaaDoorW.PrintWords Go.Proofs.YtekkpmoppihlaaaDoorW.PrintLast Go.Proofs.YtekkpmoppihlaaaDoorW.PrintMore
attribute [local go_sem] max2_int min2_int max_two min_two max_three min_three max_four min_four   -- for this text's walks alone
attribute [local go_sem] fieldA23_0 fieldA23_1 fieldA23_2
theorem limbs_head {q : Nat} (h : q ≠ 0) : (limbs q).length > 0 ∧ rd (limbs q) 0 = ((q % 1000000000 : Nat) : Int) := by
  have hv := limbs_val q
  have hg := limbs_good q
  rcases hl : limbs q with _ | ⟨x, l⟩
  · exact absurd (limbs_nil_iff.1 hl) h
  · rw [hl] at hv hg
    obtain ⟨hx, _⟩ := goodL_cons.1 hg
    simp only [valL] at hv
    refine ⟨by simp, ?_⟩
    show x = _
    omega
theorem zeroB_okP (v : Nat) : dB (zeroB v) = true ∧ (zeroB v).size ≠ 0 ∧ vB (zeroB v) = v := by
  unfold zeroB
  by_cases h : v = 0
  · rw [if_pos h, h]; exact ⟨rfl, by decide, rfl⟩
  · rw [if_neg h]; exact ⟨dB_digB v, fun e => h (digB_empty_iff.1 e), vB_digB v⟩
theorem zeroB_sizeP {v k : Nat} (h : (digB v).size ≤ k) (hk : 1 ≤ k) : (zeroB v).size ≤ k := by
  unfold zeroB
  by_cases h0 : v = 0
  · rw [if_pos h0]; exact hk
  · rw [if_neg h0]; exact h
theorem digitsPP {v k : Nat} (h : (digB v).size ≤ k) (hk : k ≤ 1000000) : ten_Digits.f (limbs v) = some (zeroB v) := by
  have := limbs_len_digB v
  unfold ten_Digits.f; rw [if_pos ⟨limbs_good v, by omega⟩, limbs_val]
theorem Round_end {b : Bool} {v : Nat} {p : Int} (hz : (digB v).size ≤ 50000) (h1 : -100000 ≤ p) (h2 : p ≤ 100000) : ((ten_Digits.f (limbs v)).bind fun t => (dec_Norm.f b t p).bind fun u => some (u.1, u.2.1, u.2.2, (0 : Int))) = some (b, nD v, nE v p, 0) := by
  obtain ⟨d1, d2, d3⟩ := zeroB_okP v
  have d4 := zeroB_sizeP (k := 50000) hz (by decide)
  rw [digitsPP hz (by decide)]
  simp only [Option.bind_some]
  rw [normP ⟨d1, d2, by omega, h1, h2⟩, d3]; rfl
theorem placeRound_bad {m : Int} {b : Bool} {s : ByteArray} {e p : Int} (hm : m < 0 ∨ 7 < m) : Ev (fun k => place_Round.f k m b s e p) (false, (⟨#[]⟩ : ByteArray), 0, 1) := by
  unfold place_Round.f
  refine evE (modeP m) (evF (by simp; omega) (Ev.now _))
theorem add_one {q : Nat} (h : (digB q).size ≤ 1000000) : nat_Add.f (limbs q) ([1] : List Int) = some (limbs (q + 1)) := by
  have hl := limbs_len_digB q
  have h1 : ([1] : List Int).length ≤ 1000000000000 := by show 1 ≤ 1000000000000; omega
  have := addF_eq (limbs_good q) (b := [1]) (by decide) (by omega) h1
  rwa [limbs_val, show valL [1] = 1 from rfl] at this
theorem bind_of {α β : Type} {x : Option α} {f : α → Option β} {a : α} {r : Option β} (h : x = some a) (h2 : f a = r) : x.bind f = r := by subst h; exact h2
theorem placeRound_j0 {b : Bool} {s : ByteArray} {e p : Int} {q : Nat} {u : Bool} (hz : (digB q).size ≤ 40000) (h1 : -10000 ≤ p) (h2 : p ≤ 10000) : Ev (fun k => place_Round.j0 k p (limbs q) u b s e) (b, nD (q + if u = true then 1 else 0), nE (q + if u = true then 1 else 0) p, 0) := by
  cases u
  · refine evDone (r' := (b, nD q, nE q p, 0)) (fun k => ?_) (by simp)
    simp only [place_Round.j0, Bool.false_eq_true, if_false]
    exact Round_end (by omega) (by omega) (by omega)
  · have ha := add_one (q := q) (by omega)
    have hz2 := digB_add_le (m := q) (n := 1) (p := 40000) hz (by rw [digB_one_size]; omega)
    refine evDone (r' := (b, nD (q + 1), nE (q + 1) p, 0)) (fun k => ?_) (by simp)
    simp only [place_Round.j0, if_true]
    exact bind_of ha (Round_end (by omega) (by omega) (by omega))
theorem placeRound_ev {m : Int} {b : Bool} {s : ByteArray} {e p : Int} (hm : 0 ≤ m) (hm7 : m ≤ 7) (h : OkS s e) (h1 : -10000 ≤ p) (h2 : p ≤ 10000) : Ev (fun k => place_Round.f k m b s e p) (roundD m b (vB s) e 1 p) := by
  have hv := h.ok.val
  have hsz := h.sz
  have hlo := h.lo
  have hhi := h.hi
  unfold place_Round.f
  refine evE (modeP m) (evT (by simp; omega) (evE (fitsP h h1 h2) ?_))
  by_cases hf : atE (vB s) e (min e p) % atE 1 p (min e p) = 0
  · rw [roundD_fit hf]
    exact evT (decide_eq_true hf) (evE (normP h.ok) (Ev.now _))
  refine evF (by simpa using hf) ?_
  have hpe : e < p := by
    apply Classical.byContradiction; intro hn
    rw [show min e p = p by omega, atE_self, Nat.mod_one] at hf
    exact hf rfl
  by_cases h7 : m = 7
  · subst h7
    rw [roundD_exact hf]
    exact evT rfl (Ev.now _)
  refine evF h7 ?_
  have hme : min e p = e := by omega
  obtain ⟨B, hB⟩ : ∃ B, B = 10 ^ (p - e).toNat := ⟨_, rfl⟩
  have hB1 : atE 1 p e = B := by unfold atE; rw [Nat.one_mul, hB]
  rw [hme, atE_self, hB1] at hf
  have hB0 : 0 < B := by rw [hB]; exact pow10_pos _
  have hzB : (digB B).size ≤ 20001 := by rw [hB, digB_pow_size]; omega
  have zq := digB_mono (Nat.div_le_self (vB s) B) hv
  have zr := digB_mono (Nat.mod_le (vB s) B) hv
  have lq := limbs_len_digB (vB s / B)
  have lr := limbs_len_digB (vB s % B)
  have z2 := digB_add_le zr zr
  have l2 := limbs_len_digB (vB s % B + vB s % B)
  have lB := limbs_len_digB B
  have hcut := cutP (b := b) h h1 h2
  rw [← hB] at hcut
  refine evE hcut ?_
  have ha : nat_Add.f (limbs (vB s % B)) (limbs (vB s % B)) = some (limbs (vB s % B + vB s % B)) := by
    have := addF_eq (limbs_good (vB s % B)) (limbs_good (vB s % B)) (by omega) (by omega)
    rwa [limbs_val] at this
  have hs : ten_Shift.f ([1] : List Int) (wrap64 (p - e)) = some (limbs B) := by
    rw [w64 (x := p - e) (by omega) (by omega), shiftP (by decide) (by decide) (by omega), show valL [1] = 1 by decide, Nat.one_mul, hB]
  have hc : nat_Cmp.f (limbs (vB s % B + vB s % B)) (limbs B) = some (cmpN (vB s % B + vB s % B) B) := by
    have := cmpF_eq (limbs_good (vB s % B + vB s % B)) (limbs_good B) (by omega) (by omega)
    rwa [limbs_val, limbs_val] at this
  refine evE ha (evE hs (evE hc ?_))
  have hres : roundD m b (vB s) e 1 p = (b, nD (vB s / B + if upB m b (vB s / B % 2 == 1) (cmpN (vB s % B + vB s % B) B) = true then 1 else 0), nE (vB s / B + if upB m b (vB s / B % 2 == 1) (cmpN (vB s % B + vB s % B) B) = true then 1 else 0) p, 0) := by
    rw [roundD_at h7 b (vB s) e 1 p e (Int.le_refl e) (by omega)]
    unfold rv0
    rw [atE_self, hB1]
    have hq : rq m b (vB s) B = vB s / B + if upB m b (vB s / B % 2 == 1) (cmpN (vB s % B + vB s % B) B) = true then 1 else 0 := by
      unfold rq; simp only [ne_eq, hf, not_false_eq_true, true_and]
    rw [hq, hB, nD_pow, nE_pow, show e + ((p - e).toNat : Int) = p by omega]
  rw [hres]
  dsimp only
  by_cases hq0 : vB s / B = 0
  · refine evF (by rw [hq0, limbs_zero]; decide) (evE (away_up _ _ _ _) ?_)
    have : (vB s / B % 2 == 1) = false := by rw [hq0]; rfl
    rw [this]
    exact placeRound_j0 (by omega) h1 h2
  · obtain ⟨g1, g2⟩ := limbs_head hq0
    refine evT (by omega) (evT (by omega) ?_)
    have : (Int.tmod (rd (limbs (vB s / B)) 0) 2 == 1) = (vB s / B % 2 == 1) := by
      rw [g2, Int.tmod_eq_emod_of_nonneg (by omega), Bool.eq_iff_iff, beq_iff_eq, beq_iff_eq]; omega
    rw [this]
    refine evE (away_up _ _ _ _) ?_
    exact placeRound_j0 (by omega) h1 h2
end Go.Proofs.YtekkpmoppihlaaaDoor.Px
end
section
namespace Go.Proofs.YtekkpmoppihlaaaDoor.Px
open Fig Go.RowKit Go.Proofs.YtekkpmoppihlaaaDoorW.PrintWords Go.Proofs.YtekkpmoppihlaaaDoorW.PrintLast Go.Proofs.YtekkpmoppihlaaaDoorW.PrintMore
attribute [local go_sem] max2_int min2_int max_two min_two max_three min_three max_four min_four   -- for this text's walks alone
attribute [local go_sem] fieldA23_0 fieldA23_1 fieldA23_2
theorem IncOnes_loop {a0 a2 a3 e : Int} {s : ByteArray} {b : Bool} {K : Nat} (hK : K < 9) (hw : wrap64 (Int.tmod a3 9) = (K : Int)) (ok : OkS s e) (hp1 : -100 ≤ a2) (hp2 : a2 ≤ 100) : ∀ (d i : Nat) (t : ByteArray), i + d = K → dB t = true → vB t = 1 → t.size = 1 + i → Ev (fun k => figureheadlaw10_IncOnes.l0 k a0 a2 a3 t (i : Int) b s e) true
  | 0, i, t, hi, h1, h2, h3 => by
    have hiK : i = K := by omega
    subst hiK
    refine Ev.step (fun k => by simp only [figureheadlaw10_IncOnes.l0, hw, Int.lt_irrefl, if_false]; rfl) ?_
    by_cases hm : a0 < 0 ∨ 7 < a0
    · refine Ev.bind (incRound_bad (by omega) (by omega)) (Ev.bind (placeRound_bad hm) (Ev.bind answers10_ev (evT rfl (evT rfl (evIs (Ev.now _) (by simp))))))
    · refine Ev.bind (incRound_ev (by omega) (by omega) ok h1 (by omega) (by omega) (by omega) (by omega)) (Ev.bind (placeRound_ev (by omega) (by omega) ok (by omega) (by omega)) ?_)
      rw [h2]
      exact Ev.bind answers10_ev (evT rfl (evT rfl (evIs (Ev.now _) (by simp))))
  | d + 1, i, t, hi, h1, h2, h3 => by
    have v0 : vB (⟨#[48]⟩ : ByteArray) = 0 := by decide
    have s0 : (⟨#[48]⟩ : ByteArray).size = 1 := by decide
    refine Ev.step (f := fun k => figureheadlaw10_IncOnes.l0 k a0 a2 a3 ((⟨#[48]⟩ : ByteArray) ++ t) ((i + 1 : Nat) : Int) b s e) (fun k => ?_) (IncOnes_loop hK hw ok hp1 hp2 d (i + 1) _ (by omega) (dB_append.2 ⟨by decide, h1⟩) (by rw [vB_append, h2, v0]; omega) (by rw [ByteArray.size_append, s0]; omega))
    simp only [figureheadlaw10_IncOnes.l0, hw]; rw [if_pos (by omega), if_pos (by omega), w64 (by omega) (by omega)]; rfl
theorem IncOnes_pure (a0 : Int) (a1_0 : Bool) (a1_1 : ByteArray) (a1_2 : Int) (a2 a3 : Int) (w0 : (Lit.int .i64 a0).wf = true) (w1_1 : a1_1.size ≤ 140737488351232) (w1_2 : (Lit.int .i64 a1_2).wf = true) (w2 : (Lit.int .i64 a2).wf = true) (w3 : (Lit.int .u8 a3).wf = true) : ∃ k, figureheadlaw10_IncOnes.f k a0 a1_0 a1_1 a1_2 a2 a3 = some true := by
  obtain ⟨u1, u2⟩ := inc_wf_u8 w3
  refine Ev.rounds (g := fun k => figureheadlaw10_IncOnes.f k a0 a1_0 a1_1 a1_2 a2 a3) ?_
  unfold figureheadlaw10_IncOnes.f
  refine Ev.bind (good10_ev (by omega)) ?_
  cases hg : goodP10 a1_1 a1_2 a2
  · exact evF (by decide) (Ev.bind answers10_ev (Ev.now true))
  obtain ⟨ok, hz, hp1, hp2, he1, he2⟩ := goodP10_ok hg
  obtain ⟨K, hK⟩ : ∃ K : Nat, K = (a3 % 9).toNat := ⟨_, rfl⟩
  have hw : wrap64 (Int.tmod a3 9) = (K : Int) := by
    rw [Int.tmod_eq_emod_of_nonneg u1, w64 (x := a3 % 9) (by omega) (by omega)]; omega
  refine evT rfl ?_
  exact IncOnes_loop (by omega) hw ok hp1 hp2 K 0 _ (by omega) (by decide) (by decide) (by decide)
end Go.Proofs.YtekkpmoppihlaaaDoor.Px
end
section
namespace Go.Proofs.YtekkpmoppihlaaaDoorW.PrintWords
open Go.ChangeShapes Go.WideShapes
end Go.Proofs.YtekkpmoppihlaaaDoorW.PrintWords
end
