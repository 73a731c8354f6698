/- The functions that the law DecPlaces reaches, told as plain functions, with what is proved of them, and the words they need (part 1). -/
import Derived.Test.YtbjaiphfehnncaaDoorCDecPlaces0
import Derived.Lib.OthersKept
import Derived.Laws.RangeAny
import Derived.Laws.RangeString
import Derived.Deep.RegionLaw
set_option linter.unusedVariables false
set_option linter.unusedSimpArgs false
section
namespace Go.Proofs.YtbjaiphfehnncaaDoor.Px
open Fig Go.RowKit Go.Proofs.YtbjaiphfehnncaaDoorW.PrintWords Go.Proofs.YtbjaiphfehnncaaDoorW.PrintLast Go.Proofs.YtbjaiphfehnncaaDoorW.PrintMore
attribute [local go_sem] max2_int min2_int max_two min_two max_three min_three max_four min_four   -- for this text's walks alone
attribute [local go_sem] fieldA23_0 fieldA23_1 fieldA23_2
set_option maxRecDepth 100000
theorem digL_take {l : List UInt8} (h : digL l = true) (n : Nat) : digL (l.take n) = true := by
  unfold digL at h ⊢; rw [List.all_eq_true] at h ⊢; exact fun x hx => h x (List.mem_of_mem_take hx)
theorem num_step (n c : Nat) (h1 : 48 ≤ c) (h2 : c ≤ 57) (hn : n < 100000000) : (((n : Int) * 10 % 4294967296 + wrap32 ((c : Int) - 48) % 4294967296) % 4294967296) = ((10 * n + (c - 48) : Nat) : Int) := by
  have e : wrap32 ((c : Int) - 48) = ((c - 48 : Nat) : Int) := by unfold wrap32; omega
  rw [e]; omega
def ten_Number.f (s : ByteArray) : Option (List Int × Bool) := if s.size ≤ 140737488351232 then some (if dB s = true ∧ s.size ≠ 0 then (limbs (vB s), true) else ([], false)) else none
theorem byte_at (s : ByteArray) (i : Nat) (h : i < s.size) : s.data.toList[i]'(by rw [← size_eq]; exact h) = s[i]'h := rfl
theorem take_digits (s : ByteArray) (i : Nat) (h : i < s.size) : digL (s.data.toList.take (i + 1)) = (digL (s.data.toList.take i) && isD (s[i]'h)) := by
  rw [List.take_succ_eq_append_getElem (by rw [← size_eq]; exact h)]
  unfold digL
  rw [List.all_append]; simp; rfl
theorem not_digits (s : ByteArray) (i : Nat) (h : i < s.size) (hc : isD (s[i]'h) = false) : dB s = false := by
  unfold dB digL
  rw [Bool.eq_false_iff]; intro hall
  have := List.all_eq_true.1 hall _ (List.getElem_mem (n := i) (by rw [← size_eq]; exact h))
  rw [byte_at s i h, hc] at this; cases this
theorem suffix_step (L : List UInt8) (a e : Nat) (ha : a ≤ e) (he : e ≤ L.length) : rv (L.drop a).reverse = rv (L.drop e).reverse + 10 ^ (L.length - e) * rv ((L.drop a).take (e - a)).reverse := by
  have h1 : L.drop a = (L.drop a).take (e - a) ++ L.drop e := by
    have := (List.take_append_drop (e - a) (L.drop a)).symm
    rwa [List.drop_drop, show a + (e - a) = e by omega] at this
  conv => lhs; rw [h1]
  rw [List.reverse_append, rv_append, List.length_reverse, List.length_drop]
theorem take_rv (L : List UInt8) (p : Nat) (h : p < L.length) : rv (L.take (p + 1)).reverse = ((L[p]'h).toNat - 48) + 10 * rv (L.take p).reverse := by
  rw [List.take_succ_eq_append_getElem h, List.reverse_append]; rfl
set_option maxHeartbeats 8000000 in
theorem ten_Number.calls (s : ByteArray) (r1 : List Int) (r2 : Bool) (w : World) (h : ten_Number.f s = some (r1, r2)) :
    Calls Tryd.prog 43 #[.string s] w fun e w' => ∃ v0_ : Value, e = .returned (.tuple #[v0_, .bool r2]) ∧ Kd.R (Kd.int .u32) 47 w' w.heap.size (fun _ => True) v0_ r1 ∧ Below w.heap.size w w' := by
  unfold ten_Number.f at h
  by_cases hs : s.size ≤ 140737488351232
  · rw [if_pos hs] at h
    have h2 := Option.some.inj h
    clear h
    by_cases hz : s.size = 0
    · rw [if_neg (fun hh => hh.2 hz)] at h2
      obtain ⟨rfl, rfl⟩ := Prod.mk.inj h2
      obtain rfl : s = ⟨#[]⟩ := by apply B_ext; exact List.eq_nil_of_length_eq_zero (by rw [← size_eq]; exact hz)
      clear hz h2 hs
      go_enter Tryd.func43, Tryd.ntmps43
      go_wp2
      go_ret2
      exact ⟨_, rfl, Kd.R_nil _ _ _ _ _, Below.refl _ _⟩
    · have hne : (s.toList == ([] : List UInt8)) = false := by
        rw [beq_eq_false_iff_ne, ByteArray.toList_eq]; intro hh; apply hz; rw [size_eq, hh]; rfl
      have HZ := Aside0.mk hz
      have H2 := Aside0.mk h2
      clear hz h2
      go_enter Tryd.func43, Tryd.ntmps43
      go_wp2
      go_loopg [5] s.size (fun j v5 w' => ∃ pos : Nat, Aside0 (pos + j = s.size) ∧ Aside0 (digL (s.data.toList.take pos) = true) ∧ Aside0 (w'.heap[w.heap.size]? = some (.stringIter s pos)) ∧ Aside0 (Below w.heap.size w w'))
      case atStart => exact ⟨0, ⟨by omega⟩, ⟨rfl⟩, ⟨by unfold World.iter; exact heap_alloc_new w _⟩, ⟨(Below.refl _ w).alloc (Nat.le_refl _) _⟩⟩
      case round =>
        obtain ⟨pos, HP, HD, HI, HB⟩ := hrel
        cases gk with
        | zero =>
          have hp := HP.out
          have hnx := Lib.run_next_end_at (P := Tryd.prog) wr w.heap.size s pos 0 HI.out (by omega)
          clear hp
          obtain rfl : pos = s.size := by have := HP.out; omega
          have hdb : dB s = true := by have := HD.out; rw [List.take_of_length_le (by rw [← size_eq]; exact Nat.le_refl _)] at this; exact this
          have h2 := H2.out
          rw [if_pos ⟨hdb, HZ.out⟩] at h2
          obtain ⟨rfl, rfl⟩ := Prod.mk.inj h2
          have HDB := Aside0.mk hdb
          clear h2 hdb HD
          go_wp2
          go_loopg [6, 7, 8, 10] (s.size / 9 + 1) (fun j v6 v7 v8 v10 w' => ∃ (i : Nat) (o : List Int), v7 = .int .i64 ((s.size : Int) - 9 * (i : Int)) ∧ Aside0 (i + j = s.size / 9 + 1) ∧ Aside0 (o.length = i ∧ goodL o = true ∧ valL o = rv (s.data.toList.drop (s.size - 9 * i)).reverse) ∧ Aside0 (Kd.R (Kd.int .u32) 47 w' w.heap.size (fun _ => True) v6 o) ∧ Aside0 (Below w.heap.size w w'))
          case atStart => exact ⟨0, [], by simp, ⟨by omega⟩, ⟨rfl, rfl, by rw [Nat.mul_zero, Nat.sub_zero, size_eq, List.drop_length]; rfl⟩, ⟨Kd.R_nil _ _ _ _ _⟩, HB⟩
          case round =>
            clear HB HI hnx
            obtain ⟨i, o, rfl, HJ, HV, HO, HB⟩ := hrel
            by_cases he : 9 * i < s.size
            · cases gk with
              | zero => exact absurd HJ.out (by omega)
              | succ j =>
                obtain ⟨E, hE⟩ : ∃ E : Nat, (s.size : Int) - 9 * (i : Int) = (E : Int) := ⟨s.size - 9 * i, by omega⟩
                rw [hE]
                have d1 : decide (0 < E) = true := decide_eq_true (by omega)
                have HE := Aside0.mk hE
                rcases Int.lt_trichotomy ((E : Int) - 9) 0 with hx | hx | hx
                · obtain ⟨x, hxx⟩ : ∃ x : Int, (E : Int) - 9 = x := ⟨_, rfl⟩
                  have w9 : wrap64 ((E : Int) - 9) = x := by rw [w64 (by omega) (by omega)]; exact hxx
                  have q1 : x < 0 := by omega
                  have q3 : decide (x < 0) = true := decide_eq_true q1
                  have q2 : E ≤ s.size := by omega
                  have HLO := Aside0.mk (show 0 = s.size - 9 * (i + 1) ∧ 0 ≤ E ∧ E - 0 ≤ 9 ∧ E = s.size - 9 * i by omega)
                  obtain ⟨sub, hsub⟩ : ∃ sub, sub = s.extract 0 E := ⟨_, rfl⟩
                  have HSUB := Aside0.mk hsub
                  go_wp2
                  rw [← HSUB.out]
                  have HDS := Aside0.mk (show digL sub.data.toList = true by
                    have hd := HDB.out
                    rw [HSUB.out, B_extract]
                    unfold dB digL at hd; unfold digL
                    rw [List.all_eq_true] at hd ⊢
                    exact fun x hx => hd x (List.mem_of_mem_drop (List.mem_of_mem_take hx)))
                  have HSS := Aside0.mk (show sub.size = E - 0 by rw [HSUB.out, size_eq, B_extract, List.length_take, List.length_drop, ← size_eq]; have := HLO.out; omega)
                  have HIT := Aside0.mk (show (wr.iter sub 0).heap[wr.heap.size]? = some (.stringIter sub 0) by unfold World.iter; exact heap_alloc_new wr _)
                  have HBI := Aside0.mk (show Below wr.heap.size wr (wr.iter sub 0) from (Below.refl _ wr).alloc (Nat.le_refl _) _)
                  clear hsub hE
                  go_loopg [8, 10] sub.size (fun j v8 v10 w' => ∃ p n : Nat, v8 = .int .u32 (n : Int) ∧ Aside0 (n = rv (sub.data.toList.take p).reverse) ∧ Aside0 (p + j = sub.size) ∧ Aside0 (w'.heap[wr.heap.size]? = some (.stringIter sub p)) ∧ Aside0 (Below wr.heap.size wr w'))
                  case atStart => exact ⟨0, 0, rfl, ⟨rfl⟩, ⟨by omega⟩, HIT, HBI⟩
                  case round =>
                    clear HIT HBI
                    obtain ⟨p, n, rfl, HN, HPP, HIT, HBI⟩ := hrel
                    have hn9 : n < 10 ^ p := by
                      rw [HN.out]
                      refine Nat.lt_of_lt_of_le (rv_lt (by rw [digL_reverse]; exact digL_take HDS.out p)) ?_
                      rw [List.length_reverse, List.length_take]; exact Nat.pow_le_pow_right (by omega) (Nat.min_le_left _ _)
                    cases gk with
                    | zero =>
                      have hnx := Lib.run_next_end_at (P := Tryd.prog) wr _ sub p 0 HIT.out (by have := HPP.out; omega)
                      obtain rfl : p = sub.size := by have := HPP.out; omega
                      have HNV := Aside0.mk (show n = rv sub.data.toList.reverse ∧ n < 1000000000 by
                        have h1 := HN.out
                        rw [List.take_of_length_le (by rw [← size_eq]; exact Nat.le_refl _)] at h1
                        exact ⟨h1, Nat.lt_of_lt_of_le hn9 (Nat.le_trans (Nat.pow_le_pow_right (by omega) (show sub.size ≤ 9 by rw [HSS.out]; exact HLO.out.2.2.1)) (by decide))⟩)
                      have HOW := Aside0.mk (Kd.R_below HO.out HBI.out)
                      have HBW := Aside0.mk (HB.out.trans (HBI.out.mono HB.out.size))
                      have HL := Aside0.mk (show (o.length + 1) * 4 ≤ 140737488355328 by have := HV.out; have := HJ.out; omega)
                      clear hn9
                      go_wp2_with (first
                        | ((with_reducible refine gate_builtin (b := .append) (xs := #[.tmp 46, .tmp 48]) rfl ?_); at_builtin; refine Kd.R_append (Kd.int .u32) (w0 := w) w.heap.size rfl (.tmp 46) (.tmp 48) 28 47 (.int .u32 0) 4 rfl Tryd.underlying28 info47 rfl (by decide) (by omega) _ o (n : Int) [.int .u32 (n : Int)] (fun _ => True) (fun _ => False) rfl rfl rfl (fun _ hk => hk.elim) (fun _ _ => trivial) HOW.out HBW.out HBW.out.size HL.out ?_; intro v49 w11 ho hb hg hat; have HO2 := Aside0.mk ho; have HB2 := Aside0.mk hb; clear ho hb hg hat))
                      go_roundg j
                      case measure => omega
                      case rel =>
                        refine ⟨i + 1, _, ?_, ⟨by have := HJ.out; omega⟩, ⟨?_⟩, HO2, HB2⟩
                        · have h1 := HE.out
                          congr 1; omega
                        · obtain ⟨h1, h2, h3⟩ := HV.out
                          obtain ⟨l1, l2, l3, l4⟩ := HLO.out
                          obtain ⟨n1, n2⟩ := HNV.out
                          refine ⟨by rw [List.length_append, h1]; rfl, goodL_append.2 ⟨h2, goodL_cons.2 ⟨by omega, rfl⟩⟩, ?_⟩
                          rw [valL_snoc, h3, h1, Int.toNat_natCast, n1, HSUB.out, B_extract, pow9, ← l1, suffix_step s.data.toList _ E l2 (by rw [← size_eq]; omega), l4, ← size_eq, show s.size - (s.size - 9 * i) = 9 * i by omega]
                    | succ jj =>
                      have hp : p < sub.size := by have := HPP.out; omega
                      have hcd : isD (sub[p]'hp) = true := by
                        have := HDS.out
                        unfold digL at this
                        exact List.all_eq_true.1 this _ (List.getElem_mem (n := p) (by rw [← size_eq]; exact hp))
                      have hc2 := isD_iff.1 hcd
                      obtain ⟨c, hcn⟩ : ∃ c, c = (sub[p]'hp).toNat := ⟨_, rfl⟩
                      have hnx := Lib.run_next_ascii_at (P := Tryd.prog) wr _ sub p 0 HIT.out hp (by omega)
                      rw [← hcn] at hnx hc2
                      have HN2 := Aside0.mk (show rv (sub.data.toList.take (p + 1)).reverse = (c - 48) + 10 * n by
                        rw [take_rv _ p (by rw [← size_eq]; exact hp), HN.out, hcn]; rfl)
                      have HBJ := Aside0.mk (Lib.below_iterAt HBI.out (Nat.le_refl _) sub (p + 1))
                      have HIJ := Aside0.mk (Lib.iterAt_heap wr _ sub p (p + 1) HIT.out)
                      have hn8 : n < 100000000 := Nat.lt_of_lt_of_le hn9 (Nat.le_trans (Nat.pow_le_pow_right (by omega) (show p ≤ 8 by have := HSS.out; have := HLO.out; omega)) (by decide))
                      have HCC := Aside0.mk (show 48 ≤ c ∧ c ≤ 57 ∧ n < 100000000 from ⟨hc2.1, hc2.2, hn8⟩)
                      clear hcn hc2 hcd hn9 hn8 hp
                      go_wp2
                      go_roundg jj
                      case measure => omega
                      case rel =>
                        refine ⟨p + 1, 10 * n + (c - 48), ?_, ⟨by rw [HN2.out]; exact Nat.add_comm _ _⟩, ⟨by have := HPP.out; omega⟩, HIJ, HBJ⟩
                        rw [num_step n c HCC.out.1 HCC.out.2.1 HCC.out.2.2]
                · have w9 : wrap64 ((E : Int) - 9) = 0 := by rw [w64 (by omega) (by omega)]; exact hx
                  have q2 : E ≤ s.size := by omega
                  have HLO := Aside0.mk (show 0 = s.size - 9 * (i + 1) ∧ 0 ≤ E ∧ E - 0 ≤ 9 ∧ E = s.size - 9 * i by omega)
                  obtain ⟨sub, hsub⟩ : ∃ sub, sub = s.extract 0 E := ⟨_, rfl⟩
                  have HSUB := Aside0.mk hsub
                  go_wp2
                  rw [← HSUB.out]
                  have HDS := Aside0.mk (show digL sub.data.toList = true by
                    have hd := HDB.out
                    rw [HSUB.out, B_extract]
                    unfold dB digL at hd; unfold digL
                    rw [List.all_eq_true] at hd ⊢
                    exact fun x hx => hd x (List.mem_of_mem_drop (List.mem_of_mem_take hx)))
                  have HSS := Aside0.mk (show sub.size = E - 0 by rw [HSUB.out, size_eq, B_extract, List.length_take, List.length_drop, ← size_eq]; have := HLO.out; omega)
                  have HIT := Aside0.mk (show (wr.iter sub 0).heap[wr.heap.size]? = some (.stringIter sub 0) by unfold World.iter; exact heap_alloc_new wr _)
                  have HBI := Aside0.mk (show Below wr.heap.size wr (wr.iter sub 0) from (Below.refl _ wr).alloc (Nat.le_refl _) _)
                  clear hsub hE
                  go_loopg [8, 10] sub.size (fun j v8 v10 w' => ∃ p n : Nat, v8 = .int .u32 (n : Int) ∧ Aside0 (n = rv (sub.data.toList.take p).reverse) ∧ Aside0 (p + j = sub.size) ∧ Aside0 (w'.heap[wr.heap.size]? = some (.stringIter sub p)) ∧ Aside0 (Below wr.heap.size wr w'))
                  case atStart => exact ⟨0, 0, rfl, ⟨rfl⟩, ⟨by omega⟩, HIT, HBI⟩
                  case round =>
                    clear HIT HBI
                    obtain ⟨p, n, rfl, HN, HPP, HIT, HBI⟩ := hrel
                    have hn9 : n < 10 ^ p := by
                      rw [HN.out]
                      refine Nat.lt_of_lt_of_le (rv_lt (by rw [digL_reverse]; exact digL_take HDS.out p)) ?_
                      rw [List.length_reverse, List.length_take]; exact Nat.pow_le_pow_right (by omega) (Nat.min_le_left _ _)
                    cases gk with
                    | zero =>
                      have hnx := Lib.run_next_end_at (P := Tryd.prog) wr _ sub p 0 HIT.out (by have := HPP.out; omega)
                      obtain rfl : p = sub.size := by have := HPP.out; omega
                      have HNV := Aside0.mk (show n = rv sub.data.toList.reverse ∧ n < 1000000000 by
                        have h1 := HN.out
                        rw [List.take_of_length_le (by rw [← size_eq]; exact Nat.le_refl _)] at h1
                        exact ⟨h1, Nat.lt_of_lt_of_le hn9 (Nat.le_trans (Nat.pow_le_pow_right (by omega) (show sub.size ≤ 9 by rw [HSS.out]; exact HLO.out.2.2.1)) (by decide))⟩)
                      have HOW := Aside0.mk (Kd.R_below HO.out HBI.out)
                      have HBW := Aside0.mk (HB.out.trans (HBI.out.mono HB.out.size))
                      have HL := Aside0.mk (show (o.length + 1) * 4 ≤ 140737488355328 by have := HV.out; have := HJ.out; omega)
                      clear hn9
                      go_wp2_with (first
                        | ((with_reducible refine gate_builtin (b := .append) (xs := #[.tmp 46, .tmp 48]) rfl ?_); at_builtin; refine Kd.R_append (Kd.int .u32) (w0 := w) w.heap.size rfl (.tmp 46) (.tmp 48) 28 47 (.int .u32 0) 4 rfl Tryd.underlying28 info47 rfl (by decide) (by omega) _ o (n : Int) [.int .u32 (n : Int)] (fun _ => True) (fun _ => False) rfl rfl rfl (fun _ hk => hk.elim) (fun _ _ => trivial) HOW.out HBW.out HBW.out.size HL.out ?_; intro v49 w11 ho hb hg hat; have HO2 := Aside0.mk ho; have HB2 := Aside0.mk hb; clear ho hb hg hat))
                      go_roundg j
                      case measure => omega
                      case rel =>
                        refine ⟨i + 1, _, ?_, ⟨by have := HJ.out; omega⟩, ⟨?_⟩, HO2, HB2⟩
                        · have h1 := HE.out
                          congr 1; omega
                        · obtain ⟨h1, h2, h3⟩ := HV.out
                          obtain ⟨l1, l2, l3, l4⟩ := HLO.out
                          obtain ⟨n1, n2⟩ := HNV.out
                          refine ⟨by rw [List.length_append, h1]; rfl, goodL_append.2 ⟨h2, goodL_cons.2 ⟨by omega, rfl⟩⟩, ?_⟩
                          rw [valL_snoc, h3, h1, Int.toNat_natCast, n1, HSUB.out, B_extract, pow9, ← l1, suffix_step s.data.toList _ E l2 (by rw [← size_eq]; omega), l4, ← size_eq, show s.size - (s.size - 9 * i) = 9 * i by omega]
                    | succ jj =>
                      have hp : p < sub.size := by have := HPP.out; omega
                      have hcd : isD (sub[p]'hp) = true := by
                        have := HDS.out
                        unfold digL at this
                        exact List.all_eq_true.1 this _ (List.getElem_mem (n := p) (by rw [← size_eq]; exact hp))
                      have hc2 := isD_iff.1 hcd
                      obtain ⟨c, hcn⟩ : ∃ c, c = (sub[p]'hp).toNat := ⟨_, rfl⟩
                      have hnx := Lib.run_next_ascii_at (P := Tryd.prog) wr _ sub p 0 HIT.out hp (by omega)
                      rw [← hcn] at hnx hc2
                      have HN2 := Aside0.mk (show rv (sub.data.toList.take (p + 1)).reverse = (c - 48) + 10 * n by
                        rw [take_rv _ p (by rw [← size_eq]; exact hp), HN.out, hcn]; rfl)
                      have HBJ := Aside0.mk (Lib.below_iterAt HBI.out (Nat.le_refl _) sub (p + 1))
                      have HIJ := Aside0.mk (Lib.iterAt_heap wr _ sub p (p + 1) HIT.out)
                      have hn8 : n < 100000000 := Nat.lt_of_lt_of_le hn9 (Nat.le_trans (Nat.pow_le_pow_right (by omega) (show p ≤ 8 by have := HSS.out; have := HLO.out; omega)) (by decide))
                      have HCC := Aside0.mk (show 48 ≤ c ∧ c ≤ 57 ∧ n < 100000000 from ⟨hc2.1, hc2.2, hn8⟩)
                      clear hcn hc2 hcd hn9 hn8 hp
                      go_wp2
                      go_roundg jj
                      case measure => omega
                      case rel =>
                        refine ⟨p + 1, 10 * n + (c - 48), ?_, ⟨by rw [HN2.out]; exact Nat.add_comm _ _⟩, ⟨by have := HPP.out; omega⟩, HIJ, HBJ⟩
                        rw [num_step n c HCC.out.1 HCC.out.2.1 HCC.out.2.2]
                · obtain ⟨e, hee⟩ : ∃ e : Nat, (E : Int) - 9 = (e : Int) := ⟨E - 9, by omega⟩
                  have w9 : wrap64 ((E : Int) - 9) = (e : Int) := by rw [w64 (by omega) (by omega)]; exact hee
                  have q1 : 0 < e := by omega
                  have q3 : e ≤ E := by omega
                  have q2 : E ≤ s.size := by omega
                  have HLO := Aside0.mk (show e = s.size - 9 * (i + 1) ∧ e ≤ E ∧ E - e ≤ 9 ∧ E = s.size - 9 * i by omega)
                  obtain ⟨sub, hsub⟩ : ∃ sub, sub = s.extract e E := ⟨_, rfl⟩
                  have HSUB := Aside0.mk hsub
                  go_wp2
                  rw [← HSUB.out]
                  have HDS := Aside0.mk (show digL sub.data.toList = true by
                    have hd := HDB.out
                    rw [HSUB.out, B_extract]
                    unfold dB digL at hd; unfold digL
                    rw [List.all_eq_true] at hd ⊢
                    exact fun x hx => hd x (List.mem_of_mem_drop (List.mem_of_mem_take hx)))
                  have HSS := Aside0.mk (show sub.size = E - e by rw [HSUB.out, size_eq, B_extract, List.length_take, List.length_drop, ← size_eq]; have := HLO.out; omega)
                  have HIT := Aside0.mk (show (wr.iter sub 0).heap[wr.heap.size]? = some (.stringIter sub 0) by unfold World.iter; exact heap_alloc_new wr _)
                  have HBI := Aside0.mk (show Below wr.heap.size wr (wr.iter sub 0) from (Below.refl _ wr).alloc (Nat.le_refl _) _)
                  clear hsub hE
                  go_loopg [8, 10] sub.size (fun j v8 v10 w' => ∃ p n : Nat, v8 = .int .u32 (n : Int) ∧ Aside0 (n = rv (sub.data.toList.take p).reverse) ∧ Aside0 (p + j = sub.size) ∧ Aside0 (w'.heap[wr.heap.size]? = some (.stringIter sub p)) ∧ Aside0 (Below wr.heap.size wr w'))
                  case atStart => exact ⟨0, 0, rfl, ⟨rfl⟩, ⟨by omega⟩, HIT, HBI⟩
                  case round =>
                    clear HIT HBI
                    obtain ⟨p, n, rfl, HN, HPP, HIT, HBI⟩ := hrel
                    have hn9 : n < 10 ^ p := by
                      rw [HN.out]
                      refine Nat.lt_of_lt_of_le (rv_lt (by rw [digL_reverse]; exact digL_take HDS.out p)) ?_
                      rw [List.length_reverse, List.length_take]; exact Nat.pow_le_pow_right (by omega) (Nat.min_le_left _ _)
                    cases gk with
                    | zero =>
                      have hnx := Lib.run_next_end_at (P := Tryd.prog) wr _ sub p 0 HIT.out (by have := HPP.out; omega)
                      obtain rfl : p = sub.size := by have := HPP.out; omega
                      have HNV := Aside0.mk (show n = rv sub.data.toList.reverse ∧ n < 1000000000 by
                        have h1 := HN.out
                        rw [List.take_of_length_le (by rw [← size_eq]; exact Nat.le_refl _)] at h1
                        exact ⟨h1, Nat.lt_of_lt_of_le hn9 (Nat.le_trans (Nat.pow_le_pow_right (by omega) (show sub.size ≤ 9 by rw [HSS.out]; exact HLO.out.2.2.1)) (by decide))⟩)
                      have HOW := Aside0.mk (Kd.R_below HO.out HBI.out)
                      have HBW := Aside0.mk (HB.out.trans (HBI.out.mono HB.out.size))
                      have HL := Aside0.mk (show (o.length + 1) * 4 ≤ 140737488355328 by have := HV.out; have := HJ.out; omega)
                      clear hn9
                      go_wp2_with (first
                        | ((with_reducible refine gate_builtin (b := .append) (xs := #[.tmp 46, .tmp 48]) rfl ?_); at_builtin; refine Kd.R_append (Kd.int .u32) (w0 := w) w.heap.size rfl (.tmp 46) (.tmp 48) 28 47 (.int .u32 0) 4 rfl Tryd.underlying28 info47 rfl (by decide) (by omega) _ o (n : Int) [.int .u32 (n : Int)] (fun _ => True) (fun _ => False) rfl rfl rfl (fun _ hk => hk.elim) (fun _ _ => trivial) HOW.out HBW.out HBW.out.size HL.out ?_; intro v49 w11 ho hb hg hat; have HO2 := Aside0.mk ho; have HB2 := Aside0.mk hb; clear ho hb hg hat))
                      go_roundg j
                      case measure => omega
                      case rel =>
                        refine ⟨i + 1, _, ?_, ⟨by have := HJ.out; omega⟩, ⟨?_⟩, HO2, HB2⟩
                        · have h1 := HE.out
                          congr 1; omega
                        · obtain ⟨h1, h2, h3⟩ := HV.out
                          obtain ⟨l1, l2, l3, l4⟩ := HLO.out
                          obtain ⟨n1, n2⟩ := HNV.out
                          refine ⟨by rw [List.length_append, h1]; rfl, goodL_append.2 ⟨h2, goodL_cons.2 ⟨by omega, rfl⟩⟩, ?_⟩
                          rw [valL_snoc, h3, h1, Int.toNat_natCast, n1, HSUB.out, B_extract, pow9, ← l1, suffix_step s.data.toList _ E l2 (by rw [← size_eq]; omega), l4, ← size_eq, show s.size - (s.size - 9 * i) = 9 * i by omega]
                    | succ jj =>
                      have hp : p < sub.size := by have := HPP.out; omega
                      have hcd : isD (sub[p]'hp) = true := by
                        have := HDS.out
                        unfold digL at this
                        exact List.all_eq_true.1 this _ (List.getElem_mem (n := p) (by rw [← size_eq]; exact hp))
                      have hc2 := isD_iff.1 hcd
                      obtain ⟨c, hcn⟩ : ∃ c, c = (sub[p]'hp).toNat := ⟨_, rfl⟩
                      have hnx := Lib.run_next_ascii_at (P := Tryd.prog) wr _ sub p 0 HIT.out hp (by omega)
                      rw [← hcn] at hnx hc2
                      have HN2 := Aside0.mk (show rv (sub.data.toList.take (p + 1)).reverse = (c - 48) + 10 * n by
                        rw [take_rv _ p (by rw [← size_eq]; exact hp), HN.out, hcn]; rfl)
                      have HBJ := Aside0.mk (Lib.below_iterAt HBI.out (Nat.le_refl _) sub (p + 1))
                      have HIJ := Aside0.mk (Lib.iterAt_heap wr _ sub p (p + 1) HIT.out)
                      have hn8 : n < 100000000 := Nat.lt_of_lt_of_le hn9 (Nat.le_trans (Nat.pow_le_pow_right (by omega) (show p ≤ 8 by have := HSS.out; have := HLO.out; omega)) (by decide))
                      have HCC := Aside0.mk (show 48 ≤ c ∧ c ≤ 57 ∧ n < 100000000 from ⟨hc2.1, hc2.2, hn8⟩)
                      clear hcn hc2 hcd hn9 hn8 hp
                      go_wp2
                      go_roundg jj
                      case measure => omega
                      case rel =>
                        refine ⟨p + 1, 10 * n + (c - 48), ?_, ⟨by rw [HN2.out]; exact Nat.add_comm _ _⟩, ⟨by have := HPP.out; omega⟩, HIJ, HBJ⟩
                        rw [num_step n c HCC.out.1 HCC.out.2.1 HCC.out.2.2]
            · have d1 : decide (0 < (s.size : Int) - 9 * (i : Int)) = false := decide_eq_false (by omega)
              obtain ⟨A6, c6, rfl⟩ := Kd.R_slice HO.out
              have HF := Aside0.mk (show trimF o = some (limbs (vB s)) by
                obtain ⟨h1, h2, h3⟩ := HV.out
                rw [show s.size - 9 * i = 0 by omega, List.drop_zero] at h3
                rw [show vB s = valL o from h3.symm]
                have hj := HJ.out
                exact trimF_eq h2 (by omega))
              go_wp2_with (go_at_call 62; (with_reducible refine (nat_Trim.calls A6 c6 o (limbs (vB s)) _ ?side1 ?side2 ?side3).mono ?_); (case side1 => exact (Kd.R_reads' HO.out).2.2); (case side2 => exact (Kd.R_reads' HO.out).2.1); (case side3 => exact HF.out); rintro e w3 ⟨v3, rfl, ho3, hb3⟩; have HO3 := Aside0.mk ho3; have HB3 := Aside0.mk hb3; clear ho3 hb3)
              go_ret2
              exact ⟨_, rfl, Kd.R_lower HO3.out HB.out.size, HB.out.trans (HB3.out.mono HB.out.size)⟩
        | succ j =>
          have hp : pos < s.size := by have := HP.out; omega
          have HPS := Aside0.mk hp
          have hB2 : ∀ q, Below w.heap.size w (wr.iterAt w.heap.size s q) := fun q => Lib.below_iterAt HB.out (Nat.le_refl _) s q
          have hI2 : ∀ q, (wr.iterAt w.heap.size s q).heap[w.heap.size]? = some (.stringIter s q) := fun q => Lib.iterAt_heap wr w.heap.size s pos q HI.out
          have HB2 := Aside0.mk hB2
          have HI2 := Aside0.mk hI2
          clear hB2 hI2
          by_cases hc : isD (s[pos]'HPS.out) = true
          · have hc2 := isD_iff.1 hc
            obtain ⟨c, hcn⟩ : ∃ c, c = (s[pos]'HPS.out).toNat := ⟨_, rfl⟩
            have hnx := Lib.run_next_ascii_at (P := Tryd.prog) wr w.heap.size s pos 0 HI.out HPS.out (by omega)
            rw [← hcn] at hnx hc2
            have d1 : decide ((c : Int) < 48) = false := decide_eq_false (by omega)
            have d2 : decide (57 < (c : Int)) = false := decide_eq_false (by omega)
            have HC := Aside0.mk hc
            clear hc hcn hc2 hp
            go_wp2
            go_roundg j
            case measure => omega
            case rel =>
              exact ⟨pos + 1, ⟨by have := HP.out; omega⟩, ⟨by rw [take_digits s pos HPS.out, HD.out, HC.out]; rfl⟩, ⟨HI2.out _⟩, ⟨HB2.out _⟩⟩
          · have HND := Aside0.mk (not_digits s pos HPS.out (by simpa using hc))
            obtain ⟨c, q, hcn, hc2⟩ : ∃ c q : Nat, (Utf8.decode s pos = (c, q)) ∧ (c < 48 ∨ 57 < c) := by
              by_cases ha : (s[pos]'HPS.out).toNat < 128
              · refine ⟨_, _, decode_ascii s pos HPS.out ha, ?_⟩
                have : ¬ (48 ≤ (s[pos]'HPS.out).toNat ∧ (s[pos]'HPS.out).toNat ≤ 57) := fun h => hc (isD_iff.2 h)
                omega
              · exact ⟨(Utf8.decode s pos).1, (Utf8.decode s pos).2, rfl, .inr (by have := (decode_high s pos HPS.out (by omega)).1; omega)⟩
            have hnx := Lib.run_next_any_at (P := Tryd.prog) wr w.heap.size s pos 0 HI.out HPS.out
            rw [hcn] at hnx
            have h2 := H2.out
            rw [if_neg (fun hh => by rw [HND.out] at hh; cases hh.1)] at h2
            obtain ⟨rfl, rfl⟩ := Prod.mk.inj h2
            clear hc hcn hp h2
            rcases hc2 with hc2 | hc2
            · have d1 : decide ((c : Int) < 48) = true := decide_eq_true (by omega)
              clear hc2
              go_wp2
              go_ret2
              exact ⟨_, rfl, Kd.R_nil _ _ _ _ _, HB2.out _⟩
            · have d1 : decide ((c : Int) < 48) = false := decide_eq_false (by omega)
              have d2 : decide (57 < (c : Int)) = true := decide_eq_true (by omega)
              clear hc2
              go_wp2
              go_ret2
              exact ⟨_, rfl, Kd.R_nil _ _ _ _ _, HB2.out _⟩
  · rw [if_neg hs] at h; cases h
end Go.Proofs.YtbjaiphfehnncaaDoor.Px
end
section
namespace Go.Proofs.YtbjaiphfehnncaaDoor.Px
open Fig Go.RowKit Go.Proofs.YtbjaiphfehnncaaDoorW.PrintWords Go.Proofs.YtbjaiphfehnncaaDoorW.PrintLast Go.Proofs.YtbjaiphfehnncaaDoorW.PrintMore
attribute [local go_sem] max2_int min2_int max_two min_two max_three min_three max_four min_four   -- for this text's walks alone
attribute [local go_sem] fieldA23_0 fieldA23_1 fieldA23_2
def dec_Coef.f (a0_0 : Bool) (a0_1 : ByteArray) (a0_2 : Int) : Option (List Int) := (ten_Number.f a0_1).bind fun bt123 => (some bt123.1)
set_option maxHeartbeats 8000000 in
set_option maxRecDepth 100000 in
theorem dec_Coef.calls (a0_0 : Bool) (a0_1 : ByteArray) (a0_2 : Int) (r : List Int) (w : World) (h : dec_Coef.f a0_0 a0_1 a0_2 = some r) :
    Calls Tryd.prog 23 #[.agg #[.bool a0_0, .string a0_1, .int .i64 a0_2]] w fun e w' => ∃ v0_ : Value, e = .returned (v0_) ∧ Kd.R (Kd.int .u32) 47 w' w.heap.size (fun _ => True) v0_ r ∧ Below w.heap.size w w' := by
  have hu23 := Tryd.underlying23
  have HB := Aside0.mk (Below.refl w.heap.size w)
  have H : ((ten_Number.f a0_1).bind fun bt123 => (some bt123.1)) = some r := h
  clear h
  replace H := Option.bind_eq_some_iff.mp H
  obtain ⟨⟨t123, t124⟩, A20, H⟩ := H
  replace H : (some t123) = some r := H
  have A2 := Aside0.mk A20
  clear A20
  obtain rfl := Option.some.inj H
  go_enter Tryd.func23, Tryd.ntmps23
  go_wp2_with (first | ((with_reducible refine gate_dst (N := 1) rfl ?_); refine box_event ?hg (N := 1) ?hd (cs := #[.bool a0_0, .string a0_1, .int .i64 a0_2]) (t := 23) ?hr ?_; (case hd => rfl); (case hg => rfl); (case hr => first | (go_simp; done) | (go_simp; rfl)); intro gb122 hg w3 hbox hb; have n0_ := Aside0.mk (below_step (by repeat (first | (with_reducible first | exact HB.out | apply below_alloc | apply pw_below_drewN | apply below_drew1) | exact HB.out)) hb); have n1_ := Aside0.mk (hbox); have n2_ := Aside0.mk ((by rw [hg]; exact (below_size (by repeat (first | (with_reducible first | exact HB.out | apply below_alloc | apply pw_below_drewN | apply below_drew1) | exact HB.out))) : w.heap.size ≤ gb122)); have n3_ := Aside0.mk ((by rw [hg]; exact (below_size (by repeat (first | (with_reducible first | exact HB.out | apply below_alloc | apply pw_below_drewN | apply below_drew1) | exact HB.out))) : w.heap.size ≤ gb122)); clear HB; have HB := n0_; have BK122 := n1_; have GW122 := n2_; have GE122 := n3_; clear n0_ n1_ n2_ n3_; clear hb hbox hg; have hcz4_0 : w3.cell? ⟨gb122, 0, none⟩ = some (.bool a0_0) := (blk_cell BK122.out 0).trans rfl; have hcz4_1 : w3.cell? ⟨gb122, 1, none⟩ = some (.string a0_1) := (blk_cell BK122.out 1).trans rfl; have hcz4_2 : w3.cell? ⟨gb122, 2, none⟩ = some (.int .i64 a0_2) := (blk_cell BK122.out 2).trans rfl; have hfz4_0 := blk_frozen BK122.out 0; have hfz4_1 := blk_frozen BK122.out 1; have hfz4_2 := blk_frozen BK122.out 2) | ((with_reducible refine gate_callee (f := 43) rfl ?_); refine goesL_ (some 8) rfl rfl Tryd.func43 (by kernel_rfl) rfl #[.string a0_1] rfl (by (try simp only [List.map_toArray]); (try simp only [List.map_cons]); (try simp only [List.map_nil]); first | done | rfl | (simp only [List.length_drop, List.length_take]; rfl)) ?_; (with_reducible refine (ten_Number.calls a0_1 t123 t124 _ A2.out).mono ?_); rintro e w5 ⟨v125, rfl, ho0, hb⟩; refine ⟨_, rfl, ?_⟩; have n0_ := Aside0.mk (Kd.R_lower ho0 (below_size (by repeat (first | (with_reducible first | exact HB.out | apply below_alloc | apply pw_below_drewN | apply below_drew1 | refine below_set ?_ GE122.out) | exact HB.out)))); have n1_ := Aside0.mk (blk_below (g := gb122) (o := .cells #[.bool a0_0, .string a0_1, .int .i64 a0_2] 23 (0, 0)) (by (with_reducible repeat (first | refine blk_drewN ?_ _ | refine blk_drew ?_ | refine blk_alloc ?_ _)); exact BK122.out) hb); have n2_ := Aside0.mk (below_step (by repeat (first | (with_reducible first | exact HB.out | apply below_alloc | apply pw_below_drewN | apply below_drew1 | refine below_set ?_ GE122.out) | exact HB.out)) hb); clear BK122; clear HB; have HO126 := n0_; have BK122 := n1_; have HB := n2_; clear n0_ n1_ n2_; (try clear hb); (try clear hb2); (try clear hk); (try clear hi); (try clear ho0)))
  go_ret
  exact ⟨_, by first | rfl | (simp [errW_none, errW_some] <;> rfl) | (simp [*, errW_none, errW_some] <;> rfl), by (with_reducible repeat (first | apply Kd.R_alloc | apply Kd.R_drewN | apply Kd.R_drew)); exact HO126.out, by repeat (first | (with_reducible first | exact HB.out | apply below_alloc | apply pw_below_drewN | apply below_drew1 | refine below_set ?_ GE122.out) | exact HB.out)⟩
end Go.Proofs.YtbjaiphfehnncaaDoor.Px
end
section
namespace Go.Proofs.YtbjaiphfehnncaaDoor.Px
open Fig Go.RowKit Go.Proofs.YtbjaiphfehnncaaDoorW.PrintWords Go.Proofs.YtbjaiphfehnncaaDoorW.PrintLast Go.Proofs.YtbjaiphfehnncaaDoorW.PrintMore
attribute [local go_sem] max2_int min2_int max_two min_two max_three min_three max_four min_four   -- for this text's walks alone
attribute [local go_sem] fieldA23_0 fieldA23_1 fieldA23_2
mutual
def mul_row.l0 : Nat → List Int → List Int → Int → Int → Int → List Int → Int → Int → Option (List Int)
  | 0, _, _, _, _, _, _, _, _ => none
  | k + 1, x0, x1, x2, x3, x8, x14, x15, x16 => if x16 < x15 then (if 0 ≤ x16 then (if x16 < (x14.length : Int) then (if 0 ≤ (wrap64 (x3 + x16)) then (if (wrap64 (x3 + x16)) < (x0.length : Int) then (mul_row.l0 k (x0.set ((wrap64 (x3 + x16)) : Int).toNat ((Int.tmod (IntKind.u64.wrap ((IntKind.u64.wrap ((IntKind.u64.wrap (rd x0 (wrap64 (x3 + x16)))) + (IntKind.u64.wrap ((IntKind.u64.wrap (rd x14 x16)) * (IntKind.u64.wrap (x2)))))) + x8)) 1000000000) % 4294967296)) x1 x2 x3 (IntKind.u64.wrap (Int.tdiv (IntKind.u64.wrap ((IntKind.u64.wrap ((IntKind.u64.wrap (rd x0 (wrap64 (x3 + x16)))) + (IntKind.u64.wrap ((IntKind.u64.wrap (rd x14 x16)) * (IntKind.u64.wrap (x2)))))) + x8)) 1000000000)) x14 x15 (wrap64 (x16 + 1))) else (none)) else (none)) else (none)) else (none)) else (mul_row.l1 k x0 x8 (wrap64 (x3 + (x1.length : Int))))
def mul_row.l1 : Nat → List Int → Int → Int → Option (List Int)
  | 0, _, _, _ => none
  | k + 1, x0, x8, x12 => if x8 > 0 then (if 0 ≤ x12 then (if x12 < (x0.length : Int) then (mul_row.l1 k (x0.set (x12 : Int).toNat ((Int.tmod (IntKind.u64.wrap ((IntKind.u64.wrap (rd x0 x12)) + x8)) 1000000000) % 4294967296)) (IntKind.u64.wrap (Int.tdiv (IntKind.u64.wrap ((IntKind.u64.wrap (rd x0 x12)) + x8)) 1000000000)) (wrap64 (x12 + 1))) else (none)) else (none)) else (some x0)
end
def mul_row.f (k : Nat) (l0 : List Int) (l1 : List Int) (a2 : Int) (a3 : Int) : Option (List Int) := mul_row.l0 k l0 l1 a2 a3 0 l1 (l1.length : Int) 0
theorem mul_row.mono_l : ∀ k, (∀ y0 y1 y2 y3 y4 y5 y6 y7, LeO (mul_row.l0 k y0 y1 y2 y3 y4 y5 y6 y7) (mul_row.l0 (k + 1) y0 y1 y2 y3 y4 y5 y6 y7)) ∧ (∀ y0 y1 y2, LeO (mul_row.l1 k y0 y1 y2) (mul_row.l1 (k + 1) y0 y1 y2))
  | 0 => ⟨fun _ _ _ _ _ _ _ _ r h => by simp [mul_row.l0] at h, fun _ _ _ r h => by simp [mul_row.l1] at h⟩
  | k + 1 => by
    obtain ⟨ih0, ih1⟩ := mul_row.mono_l k
    refine ⟨?_, ?_⟩
    · intro y0 y1 y2 y3 y4 y5 y6 y7
      unfold mul_row.l0
      repeat' first
      | (with_reducible exact ih0 _ _ _ _ _ _ _ _)
      | (with_reducible exact ih1 _ _ _)
      | (with_reducible exact LeO.refl _)
      | (with_reducible exact LeO.none _)
      | (with_reducible refine LeO.ite ?_ ?_)
      | (with_reducible refine LeO.bind ?_ (fun _ => ?_))
      | exact ih0 _ _ _ _ _ _ _ _
      | exact ih1 _ _ _
      | exact LeO.none _
      | refine LeO.ite ?_ ?_
      | refine LeO.bind ?_ (fun _ => ?_)
    · intro y0 y1 y2
      unfold mul_row.l1
      repeat' first
      | (with_reducible exact ih0 _ _ _ _ _ _ _ _)
      | (with_reducible exact ih1 _ _ _)
      | (with_reducible exact LeO.refl _)
      | (with_reducible exact LeO.none _)
      | (with_reducible refine LeO.ite ?_ ?_)
      | (with_reducible refine LeO.bind ?_ (fun _ => ?_))
      | exact ih0 _ _ _ _ _ _ _ _
      | exact ih1 _ _ _
      | exact LeO.none _
      | refine LeO.ite ?_ ?_
      | refine LeO.bind ?_ (fun _ => ?_)
theorem mul_row.mono : ∀ a0 a1 a2 a3 k, LeO (mul_row.f k a0 a1 a2 a3) (mul_row.f (k + 1) a0 a1 a2 a3) := by
  intro a0 a1 a2 a3 k
  obtain ⟨ih0, ih1⟩ := mul_row.mono_l k
  unfold mul_row.f
  repeat' first
      | (with_reducible exact ih0 _ _ _ _ _ _ _ _)
      | (with_reducible exact ih1 _ _ _)
      | (with_reducible exact LeO.refl _)
      | (with_reducible exact LeO.none _)
      | (with_reducible refine LeO.ite ?_ ?_)
      | (with_reducible refine LeO.bind ?_ (fun _ => ?_))
      | exact ih0 _ _ _ _ _ _ _ _
      | exact ih1 _ _ _
      | exact LeO.none _
      | refine LeO.ite ?_ ?_
      | refine LeO.bind ?_ (fun _ => ?_)
set_option maxHeartbeats 8000000 in
set_option maxRecDepth 100000 in
theorem mul_row.calls (k : Nat) (P0_ : Nat → Prop) (u9000_ : Value) (l0 : List Int) (A1 : Option Addr) (c1 : Nat) (l1 : List Int) (a2 : Int) (a3 : Int) (r : List Int) (w0 w : World) (hB : Below w0.heap.size w0 w) (ho0 : Kd.R (Kd.int .u32) 47 w w0.heap.size P0_ u9000_ l0) (hr1 : ∀ W_, Kept w W_ (fun k_ => P0_ k_) → Kd.C (Kd.int .u32) W_ A1 l1.length l1) (hc1 : l1.length ≤ c1) (h : mul_row.f k l0 l1 a2 a3 = some r) :
    Calls Tryd.prog 78 #[u9000_, .slice A1 l1.length c1, .int .u32 a2, .int .i64 a3] w fun e w' => e = .returned (.tuple #[]) ∧ Kd.R (Kd.int .u32) 47 w' w0.heap.size (fun k_ => (P0_ k_ ∨ w.heap.size ≤ k_)) u9000_ r ∧ Below w0.heap.size w0 w' ∧ Kept w w' (fun k_ => P0_ k_) := by
  have HO0 := Aside0.mk (show Kd.R (Kd.int .u32) 47 w w0.heap.size (fun k_ => (P0_ k_ ∨ w.heap.size ≤ k_)) u9000_ l0 from Kd.R_mono ho0 (fun k_ hk => (.inl hk)))
  have HR1 := Aside0.mk hr1
  have HC1 := Aside0.mk hc1
  clear hr1 hc1
  have HK := Aside0.mk (Kept.refl w (fun k_ => P0_ k_))
  have HW0 := Aside0.mk hB.size
  have HB := Aside0.mk hB
  clear hB
  have H : (mul_row.l0 k l0 l1 a2 a3 0 l1 (l1.length : Int) 0) = some r := h
  clear h
  have H' := Aside0.mk H
  clear H
  go_enter Tryd.func78, Tryd.ntmps78
  go_wp2
  go_loopg [8, 16] k (fun kq v8 v16 w' => ∃ (x0_1 : List Int) (x8_1 : Int) (x16_1 : Int), v8 = .int .u64 x8_1 ∧ v16 = .int .i64 x16_1 ∧ Aside0 (mul_row.l0 kq x0_1 l1 a2 a3 x8_1 l1 (l1.length : Int) x16_1 = some r) ∧ Aside0 (kq ≤ k) ∧ Aside0 (Kd.R (Kd.int .u32) 47 w' w0.heap.size (fun k_ => (P0_ k_ ∨ w.heap.size ≤ k_)) u9000_ x0_1) ∧ Aside0 (Kept w w' (fun k_ => P0_ k_)) ∧ Aside0 (Below w0.heap.size w0 w'))
  case atStart => exact ⟨(l0), (0), (0), (by first | rfl | (simp; done) | (simp [*]; done) | (simp [*, Fig.bne_nil]; done)), (by first | rfl | (simp; done) | (simp [*]; done) | (simp [*, Fig.bne_nil]; done)), H', ⟨Nat.le_refl _⟩, ⟨by (with_reducible repeat (first | apply Kd.R_alloc | apply Kd.R_drewN | apply Kd.R_drew)); exact HO0.out⟩, ⟨by repeat (first | (with_reducible first | exact HK.out | apply Kept.alloc | apply Kept.drewN | apply Kept.drew) | exact HK.out)⟩, ⟨by repeat (first | (with_reducible first | exact HB.out | apply below_alloc | apply pw_below_drewN | apply below_drew1) | exact HB.out)⟩⟩
  case round =>
    clear H'
    try clear c1
    try clear p2
    obtain ⟨x0_1, x8_1, x16_1, rfl, rfl, HA, HK1, HO_0, HK, HB⟩ := hrel
    cases gk with
    | zero => exact absurd HA.out (by simp [mul_row.l0])
    | succ k1 =>
      have H := HA.out
      clear HA
      simp only [mul_row.l0] at H
      by_cases c5 : x16_1 < (l1.length : Int)
      · rw [if_pos c5] at H
        have c5b0 : decide (x16_1 < (l1.length : Int)) = true := decide_eq_true c5
        clear c5
        by_cases c6 : 0 ≤ x16_1
        · rw [if_pos c6] at H
          have c6b0 : decide (0 ≤ x16_1) = true := decide_eq_true c6
          clear c6
          by_cases c7 : x16_1 < (l1.length : Int)
          · rw [if_pos c7] at H
            have c7b0 : decide (x16_1 < (l1.length : Int)) = true := decide_eq_true c7
            clear c7
            obtain ⟨ji8, hji8⟩ : ∃ j_ : Int, (wrap64 (a3 + x16_1)) = j_ := ⟨_, rfl⟩
            replace H : (if 0 ≤ (ji8) then (if (ji8) < (x0_1.length : Int) then (mul_row.l0 k1 (x0_1.set ((ji8) : Int).toNat ((Int.tmod (IntKind.u64.wrap ((IntKind.u64.wrap ((IntKind.u64.wrap (rd x0_1 (ji8))) + (IntKind.u64.wrap ((IntKind.u64.wrap (rd l1 x16_1)) * (IntKind.u64.wrap (a2)))))) + x8_1)) 1000000000) % 4294967296)) l1 a2 a3 (IntKind.u64.wrap (Int.tdiv (IntKind.u64.wrap ((IntKind.u64.wrap ((IntKind.u64.wrap (rd x0_1 (ji8))) + (IntKind.u64.wrap ((IntKind.u64.wrap (rd l1 x16_1)) * (IntKind.u64.wrap (a2)))))) + x8_1)) 1000000000)) l1 (l1.length : Int) (wrap64 (x16_1 + 1))) else (none)) else (none)) = some r := by first | (rw [hji8] at H; exact H) | (simp only [hji8] at H ⊢; exact H)
            have hji8w : (IntKind.i64.wrap (a3 + x16_1)) = ji8 := (i64_w _).trans hji8
            by_cases c9 : 0 ≤ (ji8)
            · rw [if_pos c9] at H
              have c9b0 : decide (0 ≤ (ji8)) = true := decide_eq_true c9
              clear c9
              by_cases c10 : (ji8) < (x0_1.length : Int)
              · rw [if_pos c10] at H
                have c10b0 : decide ((ji8) < (x0_1.length : Int)) = true := decide_eq_true c10
                clear c10
                obtain ⟨y129, hy129⟩ : ∃ y_ : List Int, y_ = (x0_1.set ((ji8) : Int).toNat ((Int.tmod (IntKind.u64.wrap ((IntKind.u64.wrap ((IntKind.u64.wrap (rd x0_1 (ji8))) + (IntKind.u64.wrap ((IntKind.u64.wrap (rd l1 x16_1)) * (IntKind.u64.wrap (a2)))))) + x8_1)) 1000000000) % 4294967296)) := ⟨_, rfl⟩
                replace H : (mul_row.l0 k1 y129 l1 a2 a3 (IntKind.u64.wrap (Int.tdiv (IntKind.u64.wrap ((IntKind.u64.wrap ((IntKind.u64.wrap (rd x0_1 (ji8))) + (IntKind.u64.wrap ((IntKind.u64.wrap (rd l1 x16_1)) * (IntKind.u64.wrap (a2)))))) + x8_1)) 1000000000)) l1 (l1.length : Int) (wrap64 (x16_1 + 1))) = some r := by first | (rw [hy129]; with_reducible exact H) | (have H2_ := (Option.bind_some _ _).symm.trans H; rw [hy129]; with_reducible exact H2_) | (have H2_ := (Option.bind_some _ _).symm.trans H; with_reducible exact H2_) | with_reducible exact H | (rw [hy129]; exact H) | exact H
                have Ny129 := Aside0.mk hy129
                clear hy129
                have H' := Aside0.mk H
                clear H
                have p127 : 0 ≤ (x16_1 : Int) := of_decide_eq_true (by first | (with_reducible assumption) | assumption)
                have q127 : x16_1 < (l1.length : Int) := of_decide_eq_true (by first | (with_reducible assumption) | assumption)
                obtain ⟨ad127, e127, hx127_0⟩ := Kd.at_int (Kd.C_kept_now HR1.out HK.out) x16_1 p127 q127
                cases e127
                replace p127 := eq_true p127
                replace q127 := eq_true q127
                obtain ⟨Ao12, co12, eo12⟩ := Kd.R_slice HO_0.out
                subst eo12
                have p128 : 0 ≤ ((ji8) : Int) := of_decide_eq_true (by first | (with_reducible assumption) | assumption)
                have q128 : (ji8) < (x0_1.length : Int) := of_decide_eq_true (by first | (with_reducible assumption) | assumption)
                obtain ⟨ad128, e128, hx128_0⟩ := Kd.at_int (Kd.R_reads' HO_0.out).2.2 (ji8) p128 q128
                cases e128
                replace p128 := eq_true p128
                replace q128 := eq_true q128
                have p11 : 0 ≤ ((ji8) : Int) := of_decide_eq_true (by first | (with_reducible assumption) | assumption)
                have q11 : ((ji8) : Int) < ((x0_1.length : Int) : Int) := of_decide_eq_true (by first | (with_reducible assumption) | assumption)
                obtain ⟨go11, co11, eo11, gb11, gl11, cl11, HG11⟩ := Kd.R_form HO_0.out (by omega)
                (first | cases eo11 | (injection eo11 with ea_ en_ ec_; (first | subst ea_ | (injection ea_ with ea_; subst ea_)); subst ec_; clear en_))
                have GB11 := Aside0.mk gb11
                have GG11 := Aside0.mk HG11
                clear gb11 gl11 HG11
                have HMgo11 := Aside0.mk (show (P0_ go11 ∨ w.heap.size ≤ go11) from (HO_0.out.1 _ rfl))
                (first | simp only [add_plain] at hx128_0 | skip)
                obtain ⟨hx11_0, hf11_0⟩ := Kd.R_celln 0 HO_0.out ((ji8) : Int) p11 q11
                replace p11 := eq_true p11
                replace q11 := eq_true q11
                have HP13 := Kd.R_putg HO_0.out ((ji8) : Int) ((Int.tmod (IntKind.u64.wrap ((IntKind.u64.wrap ((IntKind.u64.wrap (rd x0_1 (ji8))) + (IntKind.u64.wrap ((IntKind.u64.wrap (rd l1 x16_1)) * (IntKind.u64.wrap (a2)))))) + x8_1)) 1000000000) % 4294967296)
                go_wp2_with (first | ((with_reducible refine gate_store (t := 47) (p := 43) rfl ?_); refine store_event (t := 47) (p := 43) (v := ?vo_w14) (w1 := (wr.setCell ⟨go11, ((ji8) : Int).toNat, none⟩ (.int .u32 ((Int.tmod (IntKind.u64.wrap ((IntKind.u64.wrap ((IntKind.u64.wrap (rd x0_1 (ji8))) + (IntKind.u64.wrap ((IntKind.u64.wrap (rd l1 x16_1)) * (IntKind.u64.wrap (a2)))))) + x8_1)) 1000000000) % 4294967296)))) ?hg ?ho ?hn ?hr ?_; (case ho => rfl); (case hg => rfl); (case hn => rfl); (case hr => first | (go_simp; done) | (go_simp; rfl)); intro w14 hw; have hg : wr.grownBy w14 (some go11) := (by rw [hw]; exact HP13.2); have hp_ : Kd.R (Kd.int .u32) 47 w14 w0.heap.size (fun k_ => (P0_ k_ ∨ w.heap.size ≤ k_)) (.slice (some ⟨go11, 0, none⟩) x0_1.length co12) y129 := (by rw [hw, Ny129.out]; exact HP13.1); clear HP13; have n0_ := Aside0.mk (hp_); have n1_ := Aside0.mk ((by rw [hw]; exact below_set (HB.out) GB11.out : Below w0.heap.size w0 w14)); have n2_ := Aside0.mk (Kept.of_grown (S := (fun k_ => P0_ k_)) hg (by repeat (first | (with_reducible first | exact HK.out | apply Kept.alloc | apply Kept.drewN | apply Kept.drew) | exact HK.out)) (fun k_ e_ => (HO_0.out.1 k_ e_))); clear HO_0; clear HB; clear HK; have HO_0 := n0_; have HB := n1_; have HK := n2_; clear n0_ n1_ n2_; clear hg hw hp_))
                go_roundg k1
                case measure => have := HK1.out; omega
                case rel => exact ⟨(y129), (IntKind.u64.wrap (Int.tdiv (IntKind.u64.wrap ((IntKind.u64.wrap ((IntKind.u64.wrap (rd x0_1 (ji8))) + (IntKind.u64.wrap ((IntKind.u64.wrap (rd l1 x16_1)) * (IntKind.u64.wrap (a2)))))) + x8_1)) 1000000000)), (wrap64 (x16_1 + 1)), (by first | rfl | (simp; done) | (simp only [← hji8] <;> (first | rfl | simp)) | (simp [*]; done) | (simp [*, Fig.bne_nil]; done)), (by first | rfl | (simp; done) | (simp [*]; done) | (simp [*, Fig.bne_nil]; done)), H', ⟨by have := HK1.out; omega⟩, ⟨by (with_reducible repeat (first | apply Kd.R_alloc | apply Kd.R_drewN | apply Kd.R_drew)); exact HO_0.out⟩, ⟨by repeat (first | (with_reducible first | exact HK.out | apply Kept.alloc | apply Kept.drewN | apply Kept.drew) | exact HK.out)⟩, ⟨by repeat (first | (with_reducible first | exact HB.out | apply below_alloc | apply pw_below_drewN | apply below_drew1) | exact HB.out)⟩⟩
              · rw [if_neg c10] at H
                exact absurd H (by simp)
            · rw [if_neg c9] at H
              exact absurd H (by simp)
          · rw [if_neg c7] at H
            exact absurd H (by simp)
        · rw [if_neg c6] at H
          exact absurd H (by simp)
      · rw [if_neg c5] at H
        have c5b0 : decide (x16_1 < (l1.length : Int)) = false := decide_eq_false c5
        clear c5
        have H' := Aside0.mk H
        clear H
        go_wp2
        go_loopg [8, 12] k1 (fun kq v8 v12 w' => ∃ (x0_2 : List Int) (x8_2 : Int) (x12_2 : Int), v8 = .int .u64 x8_2 ∧ v12 = .int .i64 x12_2 ∧ Aside0 (mul_row.l1 kq x0_2 x8_2 x12_2 = some r) ∧ Aside0 (kq ≤ k1) ∧ Aside0 (Kd.R (Kd.int .u32) 47 w' w0.heap.size (fun k_ => (P0_ k_ ∨ w.heap.size ≤ k_)) u9000_ x0_2) ∧ Aside0 (Kept w w' (fun k_ => P0_ k_)) ∧ Aside0 (Below w0.heap.size w0 w'))
        case atStart => exact ⟨(x0_1), (x8_1), (wrap64 (a3 + (l1.length : Int))), (by first | rfl | (simp; done) | (simp [*]; done) | (simp [*, Fig.bne_nil]; done)), (by first | rfl | (simp; done) | (simp [*]; done) | (simp [*, Fig.bne_nil]; done)), H', ⟨Nat.le_refl _⟩, ⟨by (with_reducible repeat (first | apply Kd.R_alloc | apply Kd.R_drewN | apply Kd.R_drew)); exact HO_0.out⟩, ⟨by repeat (first | (with_reducible first | exact HK.out | apply Kept.alloc | apply Kept.drewN | apply Kept.drew) | exact HK.out)⟩, ⟨by repeat (first | (with_reducible first | exact HB.out | apply below_alloc | apply pw_below_drewN | apply below_drew1) | exact HB.out)⟩⟩
        case round =>
          clear H'
          try clear c1
          try clear p1
          try clear q1
          try clear hx1
          try clear p2
          try clear c5
          try clear c5b0
          try clear c6
          try clear c6b0
          try clear p6
          try clear c7
          try clear c7b0
          try clear c9
          try clear c9b0
          try clear c10
          try clear c10b0
          try clear p11
          try clear q11
          try clear hx11
          try clear hf11
          try clear p12
          try clear q12
          try clear hx12
          try clear hx11_0
          try clear hx127_0
          try clear hx128_0
          try clear p11
          try clear p127
          try clear p128
          try clear p2
          try clear q11
          try clear q127
          try clear q128
          obtain ⟨x0_2, x8_2, x12_2, rfl, rfl, HA, HK2, HO_0, HK, HB⟩ := hrel
          cases gk with
          | zero => exact absurd HA.out (by simp [mul_row.l1])
          | succ k2 =>
            have H := HA.out
            clear HA
            simp only [mul_row.l1] at H
            by_cases c15 : x8_2 > 0
            · rw [if_pos c15] at H
              have c15b0 : decide (0 < x8_2) = true := decide_eq_true c15
              clear c15
              by_cases c16 : 0 ≤ x12_2
              · rw [if_pos c16] at H
                have c16b0 : decide (0 ≤ x12_2) = true := decide_eq_true c16
                clear c16
                by_cases c17 : x12_2 < (x0_2.length : Int)
                · rw [if_pos c17] at H
                  have c17b0 : decide (x12_2 < (x0_2.length : Int)) = true := decide_eq_true c17
                  clear c17
                  obtain ⟨y131, hy131⟩ : ∃ y_ : List Int, y_ = (x0_2.set (x12_2 : Int).toNat ((Int.tmod (IntKind.u64.wrap ((IntKind.u64.wrap (rd x0_2 x12_2)) + x8_2)) 1000000000) % 4294967296)) := ⟨_, rfl⟩
                  replace H : (mul_row.l1 k2 y131 (IntKind.u64.wrap (Int.tdiv (IntKind.u64.wrap ((IntKind.u64.wrap (rd x0_2 x12_2)) + x8_2)) 1000000000)) (wrap64 (x12_2 + 1))) = some r := by first | (rw [hy131]; with_reducible exact H) | (have H2_ := (Option.bind_some _ _).symm.trans H; rw [hy131]; with_reducible exact H2_) | (have H2_ := (Option.bind_some _ _).symm.trans H; with_reducible exact H2_) | with_reducible exact H | (rw [hy131]; exact H) | exact H
                  have Ny131 := Aside0.mk hy131
                  clear hy131
                  have H' := Aside0.mk H
                  clear H
                  obtain ⟨Ao19, co19, eo19⟩ := Kd.R_slice HO_0.out
                  subst eo19
                  have p130 : 0 ≤ (x12_2 : Int) := of_decide_eq_true (by first | (with_reducible assumption) | assumption)
                  have q130 : x12_2 < (x0_2.length : Int) := of_decide_eq_true (by first | (with_reducible assumption) | assumption)
                  obtain ⟨ad130, e130, hx130_0⟩ := Kd.at_int (Kd.R_reads' HO_0.out).2.2 x12_2 p130 q130
                  cases e130
                  replace p130 := eq_true p130
                  replace q130 := eq_true q130
                  have p18 : 0 ≤ (x12_2 : Int) := of_decide_eq_true (by first | (with_reducible assumption) | assumption)
                  have q18 : (x12_2 : Int) < ((x0_2.length : Int) : Int) := of_decide_eq_true (by first | (with_reducible assumption) | assumption)
                  obtain ⟨go18, co18, eo18, gb18, gl18, cl18, HG18⟩ := Kd.R_form HO_0.out (by omega)
                  (first | cases eo18 | (injection eo18 with ea_ en_ ec_; (first | subst ea_ | (injection ea_ with ea_; subst ea_)); subst ec_; clear en_))
                  have GB18 := Aside0.mk gb18
                  have GG18 := Aside0.mk HG18
                  clear gb18 gl18 HG18
                  have HMgo18 := Aside0.mk (show (P0_ go18 ∨ w.heap.size ≤ go18) from (HO_0.out.1 _ rfl))
                  (first | simp only [add_plain] at hx130_0 | skip)
                  obtain ⟨hx18_0, hf18_0⟩ := Kd.R_celln 0 HO_0.out (x12_2 : Int) p18 q18
                  replace p18 := eq_true p18
                  replace q18 := eq_true q18
                  have HP20 := Kd.R_putg HO_0.out (x12_2 : Int) ((Int.tmod (IntKind.u64.wrap ((IntKind.u64.wrap (rd x0_2 x12_2)) + x8_2)) 1000000000) % 4294967296)
                  go_wp2_with (first | ((with_reducible refine gate_store (t := 47) (p := 67) rfl ?_); refine store_event (t := 47) (p := 67) (v := ?vo_w21) (w1 := (wr.setCell ⟨go18, (x12_2 : Int).toNat, none⟩ (.int .u32 ((Int.tmod (IntKind.u64.wrap ((IntKind.u64.wrap (rd x0_2 x12_2)) + x8_2)) 1000000000) % 4294967296)))) ?hg ?ho ?hn ?hr ?_; (case ho => rfl); (case hg => rfl); (case hn => rfl); (case hr => first | (go_simp; done) | (go_simp; rfl)); intro w21 hw; have hg : wr.grownBy w21 (some go18) := (by rw [hw]; exact HP20.2); have hp_ : Kd.R (Kd.int .u32) 47 w21 w0.heap.size (fun k_ => (P0_ k_ ∨ w.heap.size ≤ k_)) (.slice (some ⟨go18, 0, none⟩) x0_2.length co19) y131 := (by rw [hw, Ny131.out]; exact HP20.1); clear HP20; have n0_ := Aside0.mk (hp_); have n1_ := Aside0.mk ((by rw [hw]; exact below_set (HB.out) GB18.out : Below w0.heap.size w0 w21)); have n2_ := Aside0.mk (Kept.of_grown (S := (fun k_ => P0_ k_)) hg (by repeat (first | (with_reducible first | exact HK.out | apply Kept.alloc | apply Kept.drewN | apply Kept.drew) | exact HK.out)) (fun k_ e_ => (HO_0.out.1 k_ e_))); clear HO_0; clear HB; clear HK; have HO_0 := n0_; have HB := n1_; have HK := n2_; clear n0_ n1_ n2_; clear hg hw hp_))
                  go_roundg k2
                  case measure => have := HK1.out; have := HK2.out; omega
                  case rel => exact ⟨(y131), (IntKind.u64.wrap (Int.tdiv (IntKind.u64.wrap ((IntKind.u64.wrap (rd x0_2 x12_2)) + x8_2)) 1000000000)), (wrap64 (x12_2 + 1)), (by first | rfl | (simp; done) | (simp [*]; done) | (simp [*, Fig.bne_nil]; done)), (by first | rfl | (simp; done) | (simp [*]; done) | (simp [*, Fig.bne_nil]; done)), H', ⟨by have := HK1.out; have := HK2.out; omega⟩, ⟨by (with_reducible repeat (first | apply Kd.R_alloc | apply Kd.R_drewN | apply Kd.R_drew)); exact HO_0.out⟩, ⟨by repeat (first | (with_reducible first | exact HK.out | apply Kept.alloc | apply Kept.drewN | apply Kept.drew) | exact HK.out)⟩, ⟨by repeat (first | (with_reducible first | exact HB.out | apply below_alloc | apply pw_below_drewN | apply below_drew1) | exact HB.out)⟩⟩
                · rw [if_neg c17] at H
                  exact absurd H (by simp)
              · rw [if_neg c16] at H
                exact absurd H (by simp)
            · rw [if_neg c15] at H
              have c15b0 : decide (0 < x8_2) = false := decide_eq_false c15
              clear c15
              obtain rfl := Option.some.inj H
              go_wp2
              first | go_end0 | ((try simp only [Exit.inBlock, Exit.then]); refine bodyPost_ret (results_none rfl _ _ _) rfl ?_)
              exact ⟨by first | rfl | (simp [errW_none, errW_some] <;> rfl) | (simp [*, errW_none, errW_some] <;> rfl), by (with_reducible repeat (first | apply Kd.R_alloc | apply Kd.R_drewN | apply Kd.R_drew)); exact HO_0.out, by repeat (first | (with_reducible first | exact HB.out | apply below_alloc | apply pw_below_drewN | apply below_drew1) | exact HB.out), by repeat (first | (with_reducible first | exact HK.out | apply Kept.alloc | apply Kept.drewN | apply Kept.drew) | exact HK.out)⟩
end Go.Proofs.YtbjaiphfehnncaaDoor.Px
end
section
namespace Go.Proofs.YtbjaiphfehnncaaDoor.Px
open Fig Go.RowKit Go.Proofs.YtbjaiphfehnncaaDoorW.PrintWords Go.Proofs.YtbjaiphfehnncaaDoorW.PrintLast Go.Proofs.YtbjaiphfehnncaaDoorW.PrintMore
attribute [local go_sem] max2_int min2_int max_two min_two max_three min_three max_four min_four   -- for this text's walks alone
attribute [local go_sem] fieldA23_0 fieldA23_1 fieldA23_2
def mul_Small.f (k : Nat) (l0 : List Int) (a1 : Int) (a2 : Int) : Option (List Int) := if 0 ≤ (wrap64 ((l0.length : Int) + 2)) then (if (wrap64 ((l0.length : Int) + 2) : Int).toNat ≤ 70368744177664 then ((some (List.replicate (wrap64 ((l0.length : Int) + 2) : Int).toNat 0 : List Int)).bind fun y132 => (if 0 < (y132.length : Int) then ((mul_row.f k (y132.set (0 : Int).toNat a2) l0 a1 0).bind fun t136 => ((nat_Trim.f t136).bind fun t137 => (some t137))) else (none))) else (none)) else (none)
theorem mul_Small.mono : ∀ a0 a1 a2 k, LeO (mul_Small.f k a0 a1 a2) (mul_Small.f (k + 1) a0 a1 a2) := by
  intro a0 a1 a2 k
  unfold mul_Small.f
  repeat' first
      | (with_reducible exact mul_row.mono _ _ _ _ _)
      | (with_reducible exact LeO.refl _)
      | (with_reducible exact LeO.none _)
      | (with_reducible refine LeO.ite ?_ ?_)
      | (with_reducible refine LeO.bind ?_ (fun _ => ?_))
      | exact mul_row.mono _ _ _ _ _
      | exact LeO.none _
      | refine LeO.ite ?_ ?_
      | refine LeO.bind ?_ (fun _ => ?_)
set_option maxHeartbeats 8000000 in
set_option maxRecDepth 100000 in
theorem mul_Small.calls (k : Nat) (A0 : Option Addr) (c0 : Nat) (l0 : List Int) (a1 : Int) (a2 : Int) (r : List Int) (w : World) (hr0 : Kd.C (Kd.int .u32) w A0 l0.length l0) (hc0 : l0.length ≤ c0) (h : mul_Small.f k l0 a1 a2 = some r) :
    Calls Tryd.prog 74 #[.slice A0 l0.length c0, .int .u32 a1, .int .u32 a2] w fun e w' => ∃ v0_ : Value, e = .returned (v0_) ∧ Kd.R (Kd.int .u32) 47 w' w.heap.size (fun _ => True) v0_ r ∧ Below w.heap.size w w' := by
  have HR0 := Aside0.mk hr0
  have HC0 := Aside0.mk hc0
  clear hr0 hc0
  have HB := Aside0.mk (Below.refl w.heap.size w)
  have H : (if 0 ≤ (wrap64 ((l0.length : Int) + 2)) then (if (wrap64 ((l0.length : Int) + 2) : Int).toNat ≤ 70368744177664 then ((some (List.replicate (wrap64 ((l0.length : Int) + 2) : Int).toNat 0 : List Int)).bind fun y132 => (if 0 < (y132.length : Int) then ((mul_row.f k (y132.set (0 : Int).toNat a2) l0 a1 0).bind fun t136 => ((nat_Trim.f t136).bind fun t137 => (some t137))) else (none))) else (none)) else (none)) = some r := h
  clear h
  obtain ⟨ji4, hji4⟩ : ∃ j_ : Int, (wrap64 ((l0.length : Int) + 2)) = j_ := ⟨_, rfl⟩
  replace H : (if 0 ≤ (ji4) then (if (ji4 : Int).toNat ≤ 70368744177664 then ((some (List.replicate (ji4 : Int).toNat 0 : List Int)).bind fun y132 => (if 0 < (y132.length : Int) then ((mul_row.f k (y132.set (0 : Int).toNat a2) l0 a1 0).bind fun t136 => ((nat_Trim.f t136).bind fun t137 => (some t137))) else (none))) else (none)) else (none)) = some r := by first | (rw [hji4] at H; exact H) | (simp only [hji4] at H ⊢; exact H)
  have hji4w : (IntKind.i64.wrap ((l0.length : Int) + 2)) = ji4 := (i64_w _).trans hji4
  by_cases c5 : 0 ≤ (ji4)
  · rw [if_pos c5] at H
    have c5b0 := eq_true c5
    have c5b1 : decide (0 ≤ (ji4)) = true := decide_eq_true c5
    clear c5
    by_cases c6 : (ji4 : Int).toNat ≤ 70368744177664
    · rw [if_pos c6] at H
      have c6b0 := eq_true c6
      have c6b1 : decide ((ji4 : Int).toNat ≤ 70368744177664) = true := decide_eq_true c6
      clear c6
      obtain ⟨y132, hy132⟩ : ∃ y_ : List Int, y_ = (List.replicate (ji4 : Int).toNat 0) := ⟨_, rfl⟩
      replace H : (if 0 < (y132.length : Int) then ((mul_row.f k (y132.set (0 : Int).toNat a2) l0 a1 0).bind fun t136 => ((nat_Trim.f t136).bind fun t137 => (some t137))) else (none)) = some r := by first | (rw [hy132]; with_reducible exact H) | (have H2_ := (Option.bind_some _ _).symm.trans H; rw [hy132]; with_reducible exact H2_) | (have H2_ := (Option.bind_some _ _).symm.trans H; with_reducible exact H2_) | with_reducible exact H | (rw [hy132]; exact H) | exact H
      have Ny132 := Aside0.mk hy132
      clear hy132
      by_cases c7 : 0 < (y132.length : Int)
      · rw [if_pos c7] at H
        have c7b0 : decide (0 < (y132.length : Int)) = true := decide_eq_true c7
        have c7b1 : decide (0 < y132.length) = true := decide_eq_true (by omega)
        clear c7
        obtain ⟨y135, hy135⟩ : ∃ y_ : List Int, y_ = (y132.set (0 : Int).toNat a2) := ⟨_, rfl⟩
        replace H : ((mul_row.f k y135 l0 a1 0).bind fun t136 => ((nat_Trim.f t136).bind fun t137 => (some t137))) = some r := by first | (rw [hy135]; with_reducible exact H) | (have H2_ := (Option.bind_some _ _).symm.trans H; rw [hy135]; with_reducible exact H2_) | (have H2_ := (Option.bind_some _ _).symm.trans H; with_reducible exact H2_) | with_reducible exact H | (rw [hy135]; exact H) | exact H
        have Ny135 := Aside0.mk hy135
        clear hy135
        replace H := Option.bind_eq_some_iff.mp H
        obtain ⟨t136, A90, H⟩ := H
        replace H : ((nat_Trim.f t136).bind fun t137 => (some t137)) = some r := H
        have A9 := Aside0.mk A90
        clear A90
        replace H := Option.bind_eq_some_iff.mp H
        obtain ⟨t137, A100, H⟩ := H
        replace H : (some t137) = some r := H
        have A10 := Aside0.mk A100
        clear A100
        obtain rfl := Option.some.inj H
        go_enter Tryd.func74, Tryd.ntmps74
        go_wp2_with (first | ((with_reducible refine gate_dst (N := 11) rfl ?_); refine Kd.R_make (Kd.int .u32) _ 47 rfl (N := 11) rfl 28 _ _ rfl ji4 rfl rfl Tryd.underlying28 (.int .u32 0) 4 info47 rfl (by decide) (by omega) 0 (ok := fun _ => True) (okp := fun _ => True) rfl (fun _ hk => hk) trivial (of_decide_eq_true (by first | (with_reducible assumption) | assumption)) (Nat.le_trans (Nat.mul_le_mul_right _ (of_decide_eq_true (by first | (with_reducible assumption) | assumption) : ji4.toNat ≤ 70368744177664)) (by omega)) (Below.refl _ _) (Nat.le_refl _) ?_; intro v133 w11 ho12 hb hg_ hnew_; clear hg_ hnew_; (first | rw [← Ny132.out] at ho12 | (simp only [Int.reduceToNat] at ho12; rw [← Ny132.out] at ho12)); have n0_ := Aside0.mk (Kd.R_lower ho12 (below_size (by repeat (first | (with_reducible first | exact HB.out | apply below_alloc | apply pw_below_drewN | apply below_drew1) | exact HB.out)))); have n1_ := Aside0.mk (below_step (by repeat (first | (with_reducible first | exact HB.out | apply below_alloc | apply pw_below_drewN | apply below_drew1) | exact HB.out)) hb); clear HB; have HO134 := n0_; have HB := n1_; clear n0_ n1_; clear hb ho12; have p8 : 0 ≤ (0 : Int) := (by omega); have q8 : (0 : Int) < ((y132.length : Int) : Int) := of_decide_eq_true (by first | (with_reducible assumption) | assumption); have qi8 : (0 < y132.length) = True := eq_true (by omega); obtain ⟨go8, co8, eo8, gb8, gl8, cl8, HG8⟩ := Kd.R_form HO134.out (by omega); (first | cases eo8 | (injection eo8 with ea_ en_ ec_; (first | subst ea_ | (injection ea_ with ea_; subst ea_)); subst ec_; clear en_)); have GB8 := Aside0.mk gb8; have GG8 := Aside0.mk HG8; clear gb8 gl8 HG8; obtain ⟨hx8_0, hf8_0⟩ := Kd.R_celln 0 HO134.out (0 : Int) p8 q8; (try rw [show ((0 : Int)).toNat = 0 from rfl] at hx8_0); (try simp only [Nat.reduceMul, Nat.zero_mul, Nat.zero_add, Nat.reduceAdd] at hx8_0); (try rw [show ((0 : Int)).toNat = 0 from rfl] at hf8_0); (try simp only [Nat.reduceMul, Nat.zero_mul, Nat.zero_add, Nat.reduceAdd] at hf8_0); replace p8 := eq_true p8; replace q8 := eq_true q8; obtain ⟨hy13_, hz13_⟩ := Kd.R_celln 0 HO134.out (0 : Int) (by omega) (of_decide_eq_true (by first | (with_reducible assumption) | assumption)); (try simp only [Int.reduceToNat, Int.toNat_zero, Int.toNat_ofNat, Nat.reduceMul, Nat.zero_mul, Nat.zero_add] at hy13_ hz13_); (try rw [show ((0 : Int)).toNat = 0 from rfl] at hy13_); (try rw [show ((0 : Int)).toNat = 0 from rfl] at hz13_); have HP13 := Kd.R_putg HO134.out (0 : Int) a2) | ((with_reducible refine gate_store (t := 47) (p := 14) rfl ?_); refine store_event (t := 47) (p := 14) (v := ?vo_w14) (w1 := (w11.setCell ⟨go8, (0 : Int).toNat, none⟩ (.int .u32 a2))) ?hg ?ho ?hn ?hr ?_; (case ho => rfl); (case hg => rfl); (case hn => rfl); (case hr => first | (go_simp; done) | (go_simp; rfl)); intro w14 hw; have hg : w11.grownBy w14 (some go8) := (by rw [hw]; exact HP13.2); have hp_ : Kd.R (Kd.int .u32) 47 w14 w.heap.size (fun _ => True) (.slice (some ⟨go8, 0, none⟩) y132.length co8) y135 := (by rw [hw, Ny135.out]; exact HP13.1); clear HP13; have n0_ := Aside0.mk (hp_); have n1_ := Aside0.mk ((by rw [hw]; exact below_set (HB.out) GB8.out : Below w.heap.size w w14)); clear HO134; clear HB; have HO134 := n0_; have HB := n1_; clear n0_ n1_; clear hg hw hp_) | ((with_reducible refine gate_callee (f := 78) rfl ?_); refine goesL_ (some 18) rfl rfl Tryd.func78 (by kernel_rfl) rfl #[.slice (some ⟨go8, 0, none⟩) y132.length co8, .slice A0 l0.length c0, .int .u32 a1, .int .i64 0] rfl (by (try simp only [List.map_toArray]); (try simp only [List.map_cons]); (try simp only [List.map_nil]); first | done | rfl | (simp only [List.length_drop, List.length_take]; rfl)) ?_; (with_reducible refine (mul_row.calls k (fun k_ => some k_ = (.slice (some ⟨go8, 0, none⟩) y132.length co8 : Value).ownBlock) (.slice (some ⟨go8, 0, none⟩) y132.length co8) y135 _ _ l0 a1 0 t136 w _ ?side1 ?side2 ?side3 ?side4 A9.out).mono ?_); (case side1 => repeat (first | (with_reducible first | exact HB.out | apply below_alloc | apply pw_below_drewN | apply below_drew1) | exact HB.out)); (case side2 => exact Kd.R_tight rfl HO134.out); (case side3 => exact Kd.C_kept_came (Kd.heap_int .u32) HR0.out (by repeat (first | (with_reducible first | exact HB.out | apply below_alloc | apply pw_below_drewN | apply below_drew1) | exact HB.out)) (fun k_ hs_ => (fun e_ => Kd.R_base HO134.out k_ e_.symm) hs_)); (case side4 => exact HC0.out); rintro e w15 ⟨rfl, hy0, hb, hkp⟩; refine ⟨_, rfl, ?_⟩; have n0_ := Aside0.mk (Kd.R_reok rfl hy0 (fun k_ e_ => HO134.out.1 k_ e_)); have n1_ := Aside0.mk (hb); clear HO134; clear HB; have HO134 := n0_; have HB := n1_; clear n0_ n1_; (try clear hb); (try clear hkp); (try clear hy0)) | ((with_reducible refine gate_callee (f := 62) rfl ?_); refine goesL_ (some 20) rfl rfl Tryd.func62 (by kernel_rfl) rfl #[.slice (some ⟨go8, 0, none⟩) t136.length co8] rfl (by (try simp only [List.map_toArray]); (try simp only [List.map_cons]); (try simp only [List.map_nil]); first | done | (rw [show t136.length = y132.length from (Kd.R_reads' HO134.out).1.symm] <;> rfl) | rfl | (simp only [List.length_drop, List.length_take]; rfl)) ?_; (with_reducible refine (nat_Trim.calls _ _ t136 t137 _ ?side1 ?side2 A10.out).mono ?_); (case side1 => repeat (first | exact (Kd.R_reads' HO134.out).2.2 | (with_reducible refine Kd.C_alloc ?_ _) | (with_reducible refine Kd.C_drewN ?_ _) | (with_reducible refine Kd.C_drew ?_))); (case side2 => rw [show t136.length = y132.length from (Kd.R_reads' HO134.out).1.symm]; exact (Kd.R_reads' HO134.out).2.1); rintro e w16 ⟨v138, rfl, ho0, hb⟩; refine ⟨_, rfl, ?_⟩; have n0_ := Aside0.mk (Kd.R_elder' (by (with_reducible repeat (first | apply Kd.R_alloc | apply Kd.R_drewN | apply Kd.R_drew)); exact HO134.out) (Kd.R_base ho0) hb); have n1_ := Aside0.mk (Kd.R_lower (Kd.R_new' ho0 (Kd.R_lt (by (with_reducible repeat (first | apply Kd.R_alloc | apply Kd.R_drewN | apply Kd.R_drew)); exact HO134.out))) (below_size (by repeat (first | (with_reducible first | exact HB.out | apply below_alloc | apply pw_below_drewN | apply below_drew1) | exact HB.out)))); have n2_ := Aside0.mk (below_step (by repeat (first | (with_reducible first | exact HB.out | apply below_alloc | apply pw_below_drewN | apply below_drew1) | exact HB.out)) hb); clear HO134; clear HB; have HO134 := n0_; have HO139 := n1_; have HB := n2_; clear n0_ n1_ n2_; (try clear hb); (try clear hb2); (try clear hk); (try clear hi); (try clear ho0)))
        go_ret
        exact ⟨_, by first | rfl | (simp [errW_none, errW_some] <;> rfl) | (simp only [← hji4]; first | rfl | (simp [errW_none, errW_some] <;> rfl)) | (simp [*, errW_none, errW_some] <;> rfl), by (with_reducible repeat (first | apply Kd.R_alloc | apply Kd.R_drewN | apply Kd.R_drew)); exact Kd.R_mono HO139.out (fun _ hk => trivial), by repeat (first | (with_reducible first | exact HB.out | apply below_alloc | apply pw_below_drewN | apply below_drew1) | exact HB.out)⟩
      · rw [if_neg c7] at H
        exact absurd H (by simp)
    · rw [if_neg c6] at H
      exact absurd H (by simp)
  · rw [if_neg c5] at H
    exact absurd H (by simp)
end Go.Proofs.YtbjaiphfehnncaaDoor.Px
end
section
namespace Go.Proofs.YtbjaiphfehnncaaDoor.Px
open Fig Go.RowKit Go.Proofs.YtbjaiphfehnncaaDoorW.PrintWords Go.Proofs.YtbjaiphfehnncaaDoorW.PrintLast Go.Proofs.YtbjaiphfehnncaaDoorW.PrintMore
attribute [local go_sem] max2_int min2_int max_two min_two max_three min_three max_four min_four   -- for this text's walks alone
attribute [local go_sem] fieldA23_0 fieldA23_1 fieldA23_2
theorem row_step (s v y c : Nat) (hs : s < 1000000000) (hv : v < 1000000000) (hy : y < 1000000000) (hc : c < 1000000000) :
    IntKind.u64.wrap ((IntKind.u64.wrap ((IntKind.u64.wrap (s : Int)) + (IntKind.u64.wrap ((IntKind.u64.wrap (v : Int)) * (IntKind.u64.wrap (y : Int)))))) + (c : Int)) = ((s + v * y + c : Nat) : Int) := by
  have h1 : v * y ≤ 999999999 * 999999999 := Nat.mul_le_mul (by omega) (by omega)
  rw [u64w (x := (s : Int)) (by omega) (by omega), u64w (x := (v : Int)) (by omega) (by omega), u64w (x := (y : Int)) (by omega) (by omega)]
  have e2 : (v : Int) * (y : Int) = ((v * y : Nat) : Int) := by simp
  rw [e2]
  generalize v * y = t at *
  rw [u64w (x := (t : Int)) (by omega) (by omega), u64w (x := (s : Int) + (t : Int)) (by omega) (by omega), u64w (by omega) (by omega)]; omega
theorem row_low (n : Nat) (h : n ≤ 18446744073709551615) : Int.tmod (n : Int) 1000000000 % 4294967296 = ((n % 1000000000 : Nat) : Int) := by
  rw [Int.tmod_eq_emod_of_nonneg (by omega)]; omega
theorem row_high (n : Nat) (h : n ≤ 18446744073709551615) : IntKind.u64.wrap (Int.tdiv (n : Int) 1000000000) = ((n / 1000000000 : Nat) : Int) := by
  rw [Int.tdiv_eq_ediv_of_nonneg (by omega), u64w (by omega) (by omega)]; omega
theorem row_step1 (s c : Nat) (hs : s < 1000000000) (hc : c < 1000000000) : IntKind.u64.wrap ((IntKind.u64.wrap (s : Int)) + (c : Int)) = ((s + c : Nat) : Int) := by
  rw [u64w (x := (s : Int)) (by omega) (by omega), u64w (by omega) (by omega)]; omega
theorem valL_set : ∀ (l : List Int) (m : Nat) (h : m < l.length) (v s : Nat), l[m] = (s : Int) → valL (l.set m (v : Int)) + 1000000000 ^ m * s = valL l + 1000000000 ^ m * v
  | x :: l, 0, h, v, s, h0 => by
    simp only [List.set_cons_zero, valL, List.getElem_cons_zero] at h0 ⊢
    rw [Nat.pow_zero]; omega
  | x :: l, m + 1, h, v, s, h0 => by
    simp only [List.set_cons_succ, valL, List.getElem_cons_succ] at h0 ⊢
    have := valL_set l m (by simpa using h) v s h0
    rw [Nat.pow_succ, Nat.mul_comm (1000000000 ^ m) 1000000000, Nat.mul_assoc, Nat.mul_assoc]; omega
theorem goodL_set {l : List Int} (h : goodL l = true) (m : Nat) {v : Int} (hv : 0 ≤ v ∧ v < 1000000000) : goodL (l.set m v) = true := by
  rw [goodL_iff]; intro e he
  rcases List.mem_or_eq_of_mem_set he with h1 | h1
  · exact goodL_iff.1 h e h1
  · subst h1; exact hv
def RowPost (x : List Int) (V : Nat) (r : List Int) : Prop := goodL r = true ∧ r.length = x.length ∧ valL r = V
theorem row_end (V : Nat) : ∀ (d n : Nat) (x : List Int) (c : Nat), x.length - n = d → goodL x = true → x.length ≤ 1000000000000 → n ≤ x.length → c < 1000000000 → valL x + 1000000000 ^ n * c = V → V < 1000000000 ^ x.length →
    ∃ r, Ev (fun k => mul_row.l1 k x (c : Int) (n : Int)) r ∧ RowPost x V r
  | d, n, x, c, h1, hg, hl, hn, hc, hV, hlt => by
    by_cases h0 : c = 0
    · subst h0
      refine ⟨x, evDone (r' := x) (fun k => ?_) rfl, hg, rfl, by omega⟩
      simp only [mul_row.l1]; rw [if_neg (by omega)]
    · have hnx : n < x.length := by
        rcases Nat.lt_or_ge n x.length with h | h
        · exact h
        · obtain rfl : n = x.length := by omega
          have := Nat.mul_le_mul_left (1000000000 ^ x.length) (show 1 ≤ c by omega)
          omega
      obtain ⟨d, rfl⟩ : ∃ e, d = e + 1 := ⟨d - 1, by omega⟩
      have hp := goodL_iff.1 hg _ (List.getElem_mem hnx)
      obtain ⟨s, hs⟩ : ∃ s : Nat, x[n] = (s : Int) := ⟨x[n].toNat, by omega⟩
      have hset := valL_set x n hnx ((s + c) % 1000000000) s hs
      have hdm := Nat.div_add_mod (s + c) 1000000000
      have key : valL (x.set n (((s + c) % 1000000000 : Nat) : Int)) + 1000000000 ^ (n + 1) * ((s + c) / 1000000000) = V := by
        have e := congrArg (fun z => 1000000000 ^ n * z) hdm
        simp only [Nat.mul_add] at e
        rw [Nat.pow_succ, Nat.mul_assoc]
        omega
      have hc' : (s + c) / 1000000000 < 1000000000 := by omega
      obtain ⟨r, hr, p1, p2, p3⟩ := row_end V d (n + 1) (x.set n (((s + c) % 1000000000 : Nat) : Int)) ((s + c) / 1000000000) (by simp; omega) (goodL_set hg n (by omega)) (by simpa using hl) (by simp; omega) hc' key (by simpa using hlt)
      refine ⟨r, Ev.step (fun k => ?_) hr, p1, by simpa using p2, p3⟩
      simp only [mul_row.l1]; rw [if_pos (by omega), if_pos (by omega), if_pos (by omega), rd_get hnx, hs, row_step1 _ _ (by omega) hc, row_low _ (by omega), row_high _ (by omega), w64 (by omega) (by omega), Int.toNat_natCast]; rfl
theorem row_idx (p q : Nat) (hp : p ≤ 1000000000000) (hq : q ≤ 1000000000000) : wrap64 ((p : Int) + (q : Int)) = ((p + q : Nat) : Int) := by rw [w64 (by omega) (by omega)]; omega
theorem row_loop (a : List Int) (ga : goodL a = true) (y p V : Nat) (hy : y < 1000000000) : ∀ (d n : Nat) (x : List Int) (c : Nat), a.length - n = d → goodL x = true → x.length ≤ 1000000000000 → n ≤ a.length → p + a.length ≤ x.length → c < 1000000000 → valL x + 1000000000 ^ (p + n) * (c + valL (a.drop n) * y) = V → V < 1000000000 ^ x.length →
    ∃ r, Ev (fun k => mul_row.l0 k x a (y : Int) (p : Int) (c : Int) a (a.length : Int) (n : Int)) r ∧ RowPost x V r
  | 0, n, x, c, h1, hg, hl, hn, hpa, hc, hV, hlt => by
    have e : a.drop n = [] := List.drop_of_length_le (by omega)
    rw [e] at hV
    obtain ⟨r, hr, p1⟩ := row_end V _ (p + n) x c rfl hg hl (by omega) hc (by simpa [valL] using hV) hlt
    refine ⟨r, Ev.step (fun k => ?_) hr, p1⟩
    simp only [mul_row.l0]; rw [if_neg (by omega), row_idx p a.length (by omega) (by omega), show a.length = n by omega]
  | d + 1, n, x, c, h1, hg, hl, hn, hpa, hc, hV, hlt => by
    have hna : n < a.length := by omega
    have hnx : p + n < x.length := by omega
    have pa := goodL_iff.1 ga _ (List.getElem_mem hna)
    have px := goodL_iff.1 hg _ (List.getElem_mem hnx)
    obtain ⟨v, hv⟩ : ∃ v : Nat, a[n] = (v : Int) := ⟨a[n].toNat, by omega⟩
    obtain ⟨s, hs⟩ : ∃ s : Nat, x[p + n] = (s : Int) := ⟨x[p + n].toNat, by omega⟩
    have hvy : v * y ≤ 999999999 * 999999999 := Nat.mul_le_mul (by omega) (by omega)
    have e : valL (a.drop n) = v + 1000000000 * valL (a.drop (n + 1)) := by rw [List.drop_eq_getElem_cons hna, hv]; rfl
    have hset := valL_set x (p + n) hnx ((s + v * y + c) % 1000000000) s hs
    have hdm := Nat.div_add_mod (s + v * y + c) 1000000000
    have key : valL (x.set (p + n) (((s + v * y + c) % 1000000000 : Nat) : Int)) + 1000000000 ^ (p + (n + 1)) * ((s + v * y + c) / 1000000000 + valL (a.drop (n + 1)) * y) = V := by
      have e1 := congrArg (fun z => 1000000000 ^ (p + n) * z) hdm
      simp only [Nat.mul_add] at e1
      rw [e, Nat.add_mul, Nat.mul_add, Nat.mul_add, Nat.mul_assoc 1000000000, ← Nat.mul_assoc _ 1000000000] at hV
      rw [← Nat.add_assoc, Nat.pow_succ, Nat.mul_add, Nat.mul_assoc _ 1000000000 (_ / _)]
      omega
    have hc' : (s + v * y + c) / 1000000000 < 1000000000 := by omega
    obtain ⟨r, hr, p1, p2, p3⟩ := row_loop a ga y p V hy d (n + 1) (x.set (p + n) (((s + v * y + c) % 1000000000 : Nat) : Int)) ((s + v * y + c) / 1000000000) (by omega) (goodL_set hg _ (by omega)) (by simpa using hl) (by omega) (by simpa using hpa) hc' key (by simpa using hlt)
    refine ⟨r, Ev.step (fun k => ?_) hr, p1, by simpa using p2, p3⟩
    simp only [mul_row.l0]
    rw [if_pos (by omega), if_pos (by omega), if_pos (by omega), row_idx p n (by omega) (by omega), if_pos (by omega), if_pos (by omega), rd_get hnx, rd_get hna, hs, hv, row_step _ _ _ _ (by omega) (by omega) hy hc, row_low _ (by omega), row_high _ (by omega), succ64 _ (by omega), Int.toNat_natCast]
theorem row_ev {x a : List Int} {y p : Nat} (gx : goodL x = true) (ga : goodL a = true) (hy : y < 1000000000) (hl : x.length ≤ 1000000000000) (hpa : p + a.length ≤ x.length) (hlt : valL x + 1000000000 ^ p * (valL a * y) < 1000000000 ^ x.length) :
    ∃ r, Ev (fun k => mul_row.f k x a (y : Int) (p : Int)) r ∧ goodL r = true ∧ r.length = x.length ∧ valL r = valL x + 1000000000 ^ p * (valL a * y) := by
  obtain ⟨r, hr, h⟩ := row_loop a ga y p _ hy a.length 0 x 0 rfl gx hl (by omega) hpa (by omega) rfl (by simpa using hlt)
  exact ⟨r, hr, h.1, h.2.1, by rw [h.2.2]; simp⟩
end Go.Proofs.YtbjaiphfehnncaaDoor.Px
end
section
namespace Go.Proofs.YtbjaiphfehnncaaDoor.Px
open Fig Go.RowKit Go.Proofs.YtbjaiphfehnncaaDoorW.PrintWords Go.Proofs.YtbjaiphfehnncaaDoorW.PrintLast Go.Proofs.YtbjaiphfehnncaaDoorW.PrintMore
attribute [local go_sem] max2_int min2_int max_two min_two max_three min_three max_four min_four   -- for this text's walks alone
attribute [local go_sem] fieldA23_0 fieldA23_1 fieldA23_2
def figureheadref01_digit.f (a0 : ByteArray) (a1 : Int) : Option (Int) := if a1 ≥ (a0.size : Int) then (some 0) else (if 0 ≤ (wrap64 ((wrap64 ((a0.size : Int) - 1)) - a1)) then (if (wrap64 ((wrap64 ((a0.size : Int) - 1)) - a1)) < (a0.size : Int) then (some (((bt a0 (wrap64 ((wrap64 ((a0.size : Int) - 1)) - a1))) - 48) % 256)) else (none)) else (none))
set_option maxHeartbeats 8000000 in
set_option maxRecDepth 100000 in
theorem figureheadref01_digit.calls (a0 : ByteArray) (a1 : Int) (r : Int) (w : World) (h : figureheadref01_digit.f a0 a1 = some r) :
    Calls Tryd.prog 76 #[.string a0, .int .i64 a1] w fun e w' => e = .returned (.int .i64 r) ∧ Drawn0 w w' := by
  have H : (if a1 ≥ (a0.size : Int) then (some 0) else (if 0 ≤ (wrap64 ((wrap64 ((a0.size : Int) - 1)) - a1)) then (if (wrap64 ((wrap64 ((a0.size : Int) - 1)) - a1)) < (a0.size : Int) then (some (((bt a0 (wrap64 ((wrap64 ((a0.size : Int) - 1)) - a1))) - 48) % 256)) else (none)) else (none))) = some r := h
  clear h
  by_cases c3 : a1 ≥ (a0.size : Int)
  · rw [if_pos c3] at H
    have c3b0 : decide ((a0.size : Int) ≤ a1) = true := decide_eq_true c3
    clear c3
    obtain rfl := Option.some.inj H
    go_enter Tryd.func76, Tryd.ntmps76
    go_wp2
    go_ret
    exact ⟨by first | rfl | (simp; done) | (simp [*]; done) | (simp [*, Fig.bne_nil]; done), by repeat (first | exact Drawn0.refl _ | apply Drawn0.step)⟩
  · rw [if_neg c3] at H
    have c3b0 : decide ((a0.size : Int) ≤ a1) = false := decide_eq_false c3
    clear c3
    obtain ⟨ji4, hji4⟩ : ∃ j_ : Int, (wrap64 ((wrap64 ((a0.size : Int) - 1)) - a1)) = j_ := ⟨_, rfl⟩
    replace H : (if 0 ≤ (ji4) then (if (ji4) < (a0.size : Int) then (some (((bt a0 (ji4)) - 48) % 256)) else (none)) else (none)) = some r := by first | (rw [hji4] at H; exact H) | (simp only [hji4] at H ⊢; exact H)
    have hji4w : (IntKind.i64.wrap ((wrap64 ((a0.size : Int) - 1)) - a1)) = ji4 := (i64_w _).trans hji4
    by_cases c5 : 0 ≤ (ji4)
    · rw [if_pos c5] at H
      have c5b0 : decide (0 ≤ (ji4)) = true := decide_eq_true c5
      clear c5
      by_cases c6 : (ji4) < (a0.size : Int)
      · rw [if_pos c6] at H
        have c6b0 : decide ((ji4) < (a0.size : Int)) = true := decide_eq_true c6
        clear c6
        obtain rfl := Option.some.inj H
        have p7 : 0 ≤ ((ji4) : Int) := of_decide_eq_true (by first | (with_reducible assumption) | assumption)
        have q7 : (ji4) < (a0.size : Int) := of_decide_eq_true (by first | (with_reducible assumption) | assumption)
        have hx7 := bt_at a0 (ji4)
        replace p7 := eq_true p7
        replace q7 := eq_true q7
        go_enter Tryd.func76, Tryd.ntmps76
        go_wp2
        go_ret
        exact ⟨by first | rfl | (simp; done) | (simp only [← hji4] <;> (first | rfl | simp)) | (simp [*]; done) | (simp [*, Fig.bne_nil]; done), by repeat (first | exact Drawn0.refl _ | apply Drawn0.step)⟩
      · rw [if_neg c6] at H
        exact absurd H (by simp)
    · rw [if_neg c5] at H
      exact absurd H (by simp)
end Go.Proofs.YtbjaiphfehnncaaDoor.Px
end
section
namespace Go.Proofs.YtbjaiphfehnncaaDoor.Px
open Fig Go.RowKit Go.Proofs.YtbjaiphfehnncaaDoorW.PrintWords Go.Proofs.YtbjaiphfehnncaaDoorW.PrintLast Go.Proofs.YtbjaiphfehnncaaDoorW.PrintMore
attribute [local go_sem] max2_int min2_int max_two min_two max_three min_three max_four min_four   -- for this text's walks alone
attribute [local go_sem] fieldA23_0 fieldA23_1 fieldA23_2
def rs (s : ByteArray) : List UInt8 := s.data.toList.reverse
end Go.Proofs.YtbjaiphfehnncaaDoor.Px
end
section
namespace Go.Proofs.YtbjaiphfehnncaaDoor.Px
open Fig Go.RowKit Go.Proofs.YtbjaiphfehnncaaDoorW.PrintWords Go.Proofs.YtbjaiphfehnncaaDoorW.PrintLast Go.Proofs.YtbjaiphfehnncaaDoorW.PrintMore
attribute [local go_sem] max2_int min2_int max_two min_two max_three min_three max_four min_four   -- for this text's walks alone
attribute [local go_sem] fieldA23_0 fieldA23_1 fieldA23_2
def figureheadref01_Strip.l0 : Nat → ByteArray → Int → Option (ByteArray)
  | 0, _, _ => none
  | k + 1, x0, x3 => if x3 < (x0.size : Int) then (if 0 ≤ x3 then (if (bt x0 x3) = 48 then (figureheadref01_Strip.l0 k x0 (wrap64 (x3 + 1))) else (if x3 ≤ (x0.size : Int) then (some (x0.extract (x3 : Int).toNat x0.size)) else (none))) else (none)) else (if 0 ≤ x3 then (if x3 ≤ (x0.size : Int) then (some (x0.extract (x3 : Int).toNat x0.size)) else (none)) else (none))
def figureheadref01_Strip.f (k : Nat) (a0 : ByteArray) : Option (ByteArray) := figureheadref01_Strip.l0 k a0 0
theorem figureheadref01_Strip.mono_l : ∀ k, (∀ y0 y1, LeO (figureheadref01_Strip.l0 k y0 y1) (figureheadref01_Strip.l0 (k + 1) y0 y1))
  | 0 => fun _ _ r h => by simp [figureheadref01_Strip.l0] at h
  | k + 1 => by
    have ih0 := figureheadref01_Strip.mono_l k
    · intro y0 y1
      unfold figureheadref01_Strip.l0
      repeat' first
      | (with_reducible exact ih0 _ _)
      | (with_reducible exact LeO.refl _)
      | (with_reducible exact LeO.none _)
      | (with_reducible refine LeO.ite ?_ ?_)
      | (with_reducible refine LeO.bind ?_ (fun _ => ?_))
      | exact ih0 _ _
      | exact LeO.none _
      | refine LeO.ite ?_ ?_
      | refine LeO.bind ?_ (fun _ => ?_)
theorem figureheadref01_Strip.mono : ∀ a0 k, LeO (figureheadref01_Strip.f k a0) (figureheadref01_Strip.f (k + 1) a0) := by
  intro a0 k
  have ih0 := figureheadref01_Strip.mono_l k
  unfold figureheadref01_Strip.f
  repeat' first
      | (with_reducible exact ih0 _ _)
      | (with_reducible exact LeO.refl _)
      | (with_reducible exact LeO.none _)
      | (with_reducible refine LeO.ite ?_ ?_)
      | (with_reducible refine LeO.bind ?_ (fun _ => ?_))
      | exact ih0 _ _
      | exact LeO.none _
      | refine LeO.ite ?_ ?_
      | refine LeO.bind ?_ (fun _ => ?_)
set_option maxHeartbeats 8000000 in
set_option maxRecDepth 100000 in
theorem figureheadref01_Strip.calls (k : Nat) (a0 : ByteArray) (r : ByteArray) (w : World) (h : figureheadref01_Strip.f k a0 = some r) :
    Calls Tryd.prog 46 #[.string a0] w fun e w' => e = .returned (.string r) ∧ Drawn0 w w' := by
  have H : (figureheadref01_Strip.l0 k a0 0) = some r := h
  clear h
  have H' := Aside0.mk H
  clear H
  go_enter Tryd.func46, Tryd.ntmps46
  go_wp2
  go_loopg [3] k (fun kq v3 w' => ∃ (x3_1 : Int), v3 = .int .i64 x3_1 ∧ Aside0 (figureheadref01_Strip.l0 kq a0 x3_1 = some r) ∧ Aside0 (kq ≤ k) ∧ Drawn0 w w')
  case atStart => exact ⟨(0), (by first | rfl | (simp; done) | (simp [*]; done) | (simp [*, Fig.bne_nil]; done)), H', ⟨Nat.le_refl _⟩, by repeat (first | exact Drawn0.refl _ | apply Drawn0.step)⟩
  case round =>
    clear H'
    obtain ⟨x3_1, rfl, HA, HK1, ⟨m1, rfl⟩⟩ := hrel
    cases gk with
    | zero => exact absurd HA.out (by simp [figureheadref01_Strip.l0])
    | succ k1 =>
      have H := HA.out
      clear HA
      simp only [figureheadref01_Strip.l0] at H
      by_cases c2 : x3_1 < (a0.size : Int)
      · rw [if_pos c2] at H
        have c2b0 : decide (x3_1 < (a0.size : Int)) = true := decide_eq_true c2
        clear c2
        by_cases c3 : 0 ≤ x3_1
        · rw [if_pos c3] at H
          have c3b0 : decide (0 ≤ x3_1) = true := decide_eq_true c3
          clear c3
          by_cases c5 : (bt a0 x3_1) = 48
          · rw [if_pos c5] at H
            have c5b0 : ((bt a0 x3_1) == 48) = true := beq_iff_eq.mpr c5
            have c5b1 : ((bt a0 x3_1) != 48) = false := bne_eq_false_iff_eq.mpr c5
            clear c5
            have H' := Aside0.mk H
            clear H
            have p4 : 0 ≤ (x3_1 : Int) := of_decide_eq_true (by first | (with_reducible assumption) | assumption)
            have q4 : x3_1 < (a0.size : Int) := of_decide_eq_true (by first | (with_reducible assumption) | assumption)
            have hx4 := bt_at a0 x3_1
            replace p4 := eq_true p4
            replace q4 := eq_true q4
            go_wp2
            go_roundg k1
            case measure => have := HK1.out; omega
            case rel => exact ⟨(wrap64 (x3_1 + 1)), (by first | rfl | (simp; done) | (simp [*]; done) | (simp [*, Fig.bne_nil]; done)), H', ⟨by have := HK1.out; omega⟩, by repeat (first | exact Drawn0.refl _ | apply Drawn0.step)⟩
          · rw [if_neg c5] at H
            have c5b0 : ((bt a0 x3_1) == 48) = false := beq_eq_false_iff_ne.mpr c5
            have c5b1 : ((bt a0 x3_1) != 48) = true := bne_iff_ne.mpr c5
            have c6b0 := eq_true (of_decide_eq_true (by first | (with_reducible assumption) | assumption) : 0 ≤ x3_1)
            by_cases c7 : x3_1 ≤ (a0.size : Int)
            · rw [if_pos c7] at H
              have c7b0 := eq_true c7
              have c7b1 : decide (x3_1 ≤ (a0.size : Int)) = true := decide_eq_true c7
              clear c7
              obtain rfl := Option.some.inj H
              have p4 : 0 ≤ (x3_1 : Int) := of_decide_eq_true (by first | (with_reducible assumption) | assumption)
              have q4 : x3_1 < (a0.size : Int) := of_decide_eq_true (by first | (with_reducible assumption) | assumption)
              have hx4 := bt_at a0 x3_1
              replace p4 := eq_true p4
              replace q4 := eq_true q4
              go_wp2
              go_ret
              exact ⟨by first | rfl | (simp; done) | (simp [*]; done) | (simp [*, Fig.bne_nil]; done), by repeat (first | exact Drawn0.refl _ | apply Drawn0.step)⟩
            · rw [if_neg c7] at H
              exact absurd H (by simp)
        · rw [if_neg c3] at H
          exact absurd H (by simp)
      · rw [if_neg c2] at H
        have c2b0 : decide (x3_1 < (a0.size : Int)) = false := decide_eq_false c2
        clear c2
        by_cases c8 : 0 ≤ x3_1
        · rw [if_pos c8] at H
          have c8b0 := eq_true c8
          have c8b1 : decide (0 ≤ x3_1) = true := decide_eq_true c8
          clear c8
          by_cases c9 : x3_1 ≤ (a0.size : Int)
          · rw [if_pos c9] at H
            have c9b0 := eq_true c9
            have c9b1 : decide (x3_1 ≤ (a0.size : Int)) = true := decide_eq_true c9
            clear c9
            obtain rfl := Option.some.inj H
            go_wp2
            go_ret
            exact ⟨by first | rfl | (simp; done) | (simp [*]; done) | (simp [*, Fig.bne_nil]; done), by repeat (first | exact Drawn0.refl _ | apply Drawn0.step)⟩
          · rw [if_neg c9] at H
            exact absurd H (by simp)
        · rw [if_neg c8] at H
          exact absurd H (by simp)
end Go.Proofs.YtbjaiphfehnncaaDoor.Px
end
section
namespace Go.Proofs.YtbjaiphfehnncaaDoor.Px
open Fig Go.RowKit Go.Proofs.YtbjaiphfehnncaaDoorW.PrintWords Go.Proofs.YtbjaiphfehnncaaDoorW.PrintLast Go.Proofs.YtbjaiphfehnncaaDoorW.PrintMore
attribute [local go_sem] max2_int min2_int max_two min_two max_three min_three max_four min_four   -- for this text's walks alone
attribute [local go_sem] fieldA23_0 fieldA23_1 fieldA23_2
end Go.Proofs.YtbjaiphfehnncaaDoor.Px
end
section
namespace Go.Proofs.YtbjaiphfehnncaaDoor.Px
open Fig Go.RowKit Go.Proofs.YtbjaiphfehnncaaDoorW.PrintWords Go.Proofs.YtbjaiphfehnncaaDoorW.PrintLast Go.Proofs.YtbjaiphfehnncaaDoorW.PrintMore
attribute [local go_sem] max2_int min2_int max_two min_two max_three min_three max_four min_four   -- for this text's walks alone
attribute [local go_sem] fieldA23_0 fieldA23_1 fieldA23_2
def figureheadref01_turned.l0 : Nat → List Int → List Int → Int → Option (ByteArray)
  | 0, _, _, _ => none
  | k + 1, x0, x3, x4 => if x4 ≥ 0 then (if 0 ≤ x4 then (if x4 < (x0.length : Int) then (if x3.length < 140737488355328 then (figureheadref01_turned.l0 k x0 (x3 ++ [rd x0 x4]) (wrap64 (x4 - 1))) else (none)) else (none)) else (none)) else (some (strOfNums x3))
def figureheadref01_turned.f (k : Nat) (l0 : List Int) : Option (ByteArray) := figureheadref01_turned.l0 k l0 ([] : List Int) (wrap64 ((l0.length : Int) - 1))
theorem figureheadref01_turned.mono_l : ∀ k, (∀ y0 y1 y2, LeO (figureheadref01_turned.l0 k y0 y1 y2) (figureheadref01_turned.l0 (k + 1) y0 y1 y2))
  | 0 => fun _ _ _ r h => by simp [figureheadref01_turned.l0] at h
  | k + 1 => by
    have ih0 := figureheadref01_turned.mono_l k
    · intro y0 y1 y2
      unfold figureheadref01_turned.l0
      repeat' first
      | (with_reducible exact ih0 _ _ _)
      | (with_reducible exact LeO.refl _)
      | (with_reducible exact LeO.none _)
      | (with_reducible refine LeO.ite ?_ ?_)
      | (with_reducible refine LeO.bind ?_ (fun _ => ?_))
      | exact ih0 _ _ _
      | exact LeO.none _
      | refine LeO.ite ?_ ?_
      | refine LeO.bind ?_ (fun _ => ?_)
theorem figureheadref01_turned.mono : ∀ a0 k, LeO (figureheadref01_turned.f k a0) (figureheadref01_turned.f (k + 1) a0) := by
  intro a0 k
  have ih0 := figureheadref01_turned.mono_l k
  unfold figureheadref01_turned.f
  repeat' first
      | (with_reducible exact ih0 _ _ _)
      | (with_reducible exact LeO.refl _)
      | (with_reducible exact LeO.none _)
      | (with_reducible refine LeO.ite ?_ ?_)
      | (with_reducible refine LeO.bind ?_ (fun _ => ?_))
      | exact ih0 _ _ _
      | exact LeO.none _
      | refine LeO.ite ?_ ?_
      | refine LeO.bind ?_ (fun _ => ?_)
set_option maxHeartbeats 8000000 in
set_option maxRecDepth 100000 in
theorem figureheadref01_turned.calls (k : Nat) (A0 : Option Addr) (c0 : Nat) (l0 : List Int) (r : ByteArray) (w : World) (hr0 : Kd.C (Kd.int .u8) w A0 l0.length l0) (hc0 : l0.length ≤ c0) (h : figureheadref01_turned.f k l0 = some r) :
    Calls Tryd.prog 77 #[.slice A0 l0.length c0] w fun e w' => e = .returned (.string r) ∧ Below w.heap.size w w' := by
  have HR0 := Aside0.mk hr0
  have HC0 := Aside0.mk hc0
  clear hr0 hc0
  have HB := Aside0.mk (Below.refl w.heap.size w)
  have H : (figureheadref01_turned.l0 k l0 ([] : List Int) (wrap64 ((l0.length : Int) - 1))) = some r := h
  clear h
  have H' := Aside0.mk H
  clear H
  go_enter Tryd.func77, Tryd.ntmps77
  go_wp2
  go_loopg [3, 4] k (fun kq v3 v4 w' => ∃ (x3_1 : List Int) (x4_1 : Int), v4 = .int .i64 x4_1 ∧ Aside0 (figureheadref01_turned.l0 kq l0 x3_1 x4_1 = some r) ∧ Aside0 (kq ≤ k) ∧ Aside0 (Kd.R (Kd.int .u8) 5 w' w.heap.size (fun _ => True) v3 x3_1) ∧ Aside0 (Below w.heap.size w w'))
  case atStart => exact ⟨(([] : List Int)), (wrap64 ((l0.length : Int) - 1)), (by first | rfl | (simp; done) | (simp [*]; done) | (simp [*, Fig.bne_nil]; done)), H', ⟨Nat.le_refl _⟩, ⟨by first | exact Kd.R_nil _ _ _ _ _ | exact Kd.N_nil _ _ _ _ _ | exact Kd.V_nil _ _ _ _ _ | exact Kd.Q_nil _ _ _ _ _ | exact Kd.S_nil _ _ _ _ _⟩, ⟨by repeat (first | (with_reducible first | exact HB.out | apply below_alloc | apply pw_below_drewN | apply below_drew1) | exact HB.out)⟩⟩
  case round =>
    clear H'
    obtain ⟨x3_1, x4_1, rfl, HA, HK1, HO_3, HB⟩ := hrel
    cases gk with
    | zero => exact absurd HA.out (by simp [figureheadref01_turned.l0])
    | succ k1 =>
      have H := HA.out
      clear HA
      simp only [figureheadref01_turned.l0] at H
      by_cases c2 : x4_1 ≥ 0
      · rw [if_pos c2] at H
        have c2b0 : decide (0 ≤ x4_1) = true := decide_eq_true c2
        clear c2
        by_cases c3 : 0 ≤ x4_1
        · rw [if_pos c3] at H
          have c3b0 : decide (0 ≤ x4_1) = true := decide_eq_true c3
          clear c3
          by_cases c4 : x4_1 < (l0.length : Int)
          · rw [if_pos c4] at H
            have c4b0 : decide (x4_1 < (l0.length : Int)) = true := decide_eq_true c4
            clear c4
            by_cases c5 : x3_1.length < 140737488355328
            · rw [if_pos c5] at H
              have LMc5 := Aside0.mk c5
              clear c5
              obtain ⟨y418, hy418⟩ : ∃ y_ : List Int, y_ = (x3_1 ++ [rd l0 x4_1]) := ⟨_, rfl⟩
              replace H : (figureheadref01_turned.l0 k1 l0 y418 (wrap64 (x4_1 - 1))) = some r := by first | (rw [hy418]; with_reducible exact H) | (have H2_ := (Option.bind_some _ _).symm.trans H; rw [hy418]; with_reducible exact H2_) | (have H2_ := (Option.bind_some _ _).symm.trans H; with_reducible exact H2_) | with_reducible exact H | (rw [hy418]; exact H) | exact H
              have Ny418 := Aside0.mk hy418
              clear hy418
              have H' := Aside0.mk H
              clear H
              have p417 : 0 ≤ (x4_1 : Int) := of_decide_eq_true (by first | (with_reducible assumption) | assumption)
              have q417 : x4_1 < (l0.length : Int) := of_decide_eq_true (by first | (with_reducible assumption) | assumption)
              obtain ⟨ad417, e417, hx417_0⟩ := Kd.at_int HR0.out x4_1 p417 q417
              cases e417
              replace hx417_0 := (HB.out.cell (World.block_lt_of_cell? w _ hx417_0)).trans hx417_0
              replace p417 := eq_true p417
              replace q417 := eq_true q417
              go_wp2_with (first | ((with_reducible refine gate_builtin (b := .append) (xs := #[.tmp 12, .tmp 17]) rfl ?_); at_builtin; refine Kd.R_append (Kd.int .u8) (w0 := w) w.heap.size rfl (.tmp 12) (.tmp 17) 74 5 (.int .u8 0) 1 rfl Tryd.underlying74 info5 rfl (by decide) (by omega) u3 x3_1 (rd l0 x4_1) [.int .u8 (rd l0 x4_1)] (fun _ => True) (fun _ => False) rfl rfl ?aP (fun _ hk => hk.elim) ?aF ?aO ?aB ?aS ?aL ?_; (case aP => exact rfl); (case aB => exact (by repeat (first | (with_reducible first | exact HB.out | apply below_alloc | apply pw_below_drewN | apply below_drew1) | exact HB.out))); (case aF => exact (fun _ _ => trivial)); (case aO => exact (by (with_reducible repeat (first | apply Kd.R_alloc | apply Kd.R_drewN | apply Kd.R_drew)); exact HO_3.out)); (case aS => exact (below_size (by repeat (first | (with_reducible first | exact HB.out | apply below_alloc | apply pw_below_drewN | apply below_drew1) | exact HB.out)))); (case aL => have := LMc5.out; omega); intro v419 w6 ho hb hg hat; rw [← Ny418.out] at ho; have n0_ := Aside0.mk (hb); have n1_ := Aside0.mk (ho); clear HB; clear HO_3; have HB := n0_; have HO420 := n1_; clear n0_ n1_; clear ho hb hg hat))
              go_roundg k1
              case measure => have := HK1.out; omega
              case rel => exact ⟨(y418), (wrap64 (x4_1 - 1)), (by first | rfl | (simp; done) | (simp [*]; done) | (simp [*, Fig.bne_nil]; done)), H', ⟨by have := HK1.out; omega⟩, ⟨by (with_reducible repeat (first | apply Kd.R_alloc | apply Kd.R_drewN | apply Kd.R_drew)); exact HO420.out⟩, ⟨by repeat (first | (with_reducible first | exact HB.out | apply below_alloc | apply pw_below_drewN | apply below_drew1) | exact HB.out)⟩⟩
            · rw [if_neg c5] at H
              exact absurd H (by simp)
          · rw [if_neg c4] at H
            exact absurd H (by simp)
        · rw [if_neg c3] at H
          exact absurd H (by simp)
      · rw [if_neg c2] at H
        have c2b0 : decide (0 ≤ x4_1) = false := decide_eq_false c2
        clear c2
        obtain rfl := Option.some.inj H
        have hcv7 := own_string (P := Tryd.prog) Tryd.underlying74 Tryd.underlying5 Tryd.underlying9 (Kd.own_of_R HO_3.out)
        go_wp2
        go_ret
        exact ⟨by first | rfl | (simp [errW_none, errW_some] <;> rfl) | (simp [*, errW_none, errW_some] <;> rfl), by repeat (first | (with_reducible first | exact HB.out | apply below_alloc | apply pw_below_drewN | apply below_drew1) | exact HB.out)⟩
end Go.Proofs.YtbjaiphfehnncaaDoor.Px
end
section
namespace Go.Proofs.YtbjaiphfehnncaaDoor.Px
open Fig Go.RowKit Go.Proofs.YtbjaiphfehnncaaDoorW.PrintWords Go.Proofs.YtbjaiphfehnncaaDoorW.PrintLast Go.Proofs.YtbjaiphfehnncaaDoorW.PrintMore
attribute [local go_sem] max2_int min2_int max_two min_two max_three min_three max_four min_four   -- for this text's walks alone
attribute [local go_sem] fieldA23_0 fieldA23_1 fieldA23_2
end Go.Proofs.YtbjaiphfehnncaaDoor.Px
end
section
namespace Go.Proofs.YtbjaiphfehnncaaDoor.Px
open Fig Go.RowKit Go.Proofs.YtbjaiphfehnncaaDoorW.PrintWords Go.Proofs.YtbjaiphfehnncaaDoorW.PrintLast Go.Proofs.YtbjaiphfehnncaaDoorW.PrintMore
attribute [local go_sem] max2_int min2_int max_two min_two max_three min_three max_four min_four   -- for this text's walks alone
attribute [local go_sem] fieldA23_0 fieldA23_1 fieldA23_2
mutual
def figureheadref01_Plus.l0 : Nat → ByteArray → ByteArray → List Int → Int → Int → Option (ByteArray)
  | 0, _, _, _, _, _ => none
  | k + 1, x0, x1, x5, x6, x7 => if x7 < (x0.size : Int) then (figureheadref01_Plus.j1 k x0 x1 x5 x6 x7 true) else (if x7 < (x1.size : Int) then (figureheadref01_Plus.j1 k x0 x1 x5 x6 x7 true) else (figureheadref01_Plus.j1 k x0 x1 x5 x6 x7 (decide (x6 > 0))))
def figureheadref01_Plus.j1 : Nat → ByteArray → ByteArray → List Int → Int → Int → Bool → Option (ByteArray)
  | 0, _, _, _, _, _, _ => none
  | k + 1, x0, x1, x5, x6, x7, x22 => if x22 = true then ((figureheadref01_digit.f x0 x7).bind fun t421 => ((figureheadref01_digit.f x1 x7).bind fun t422 => (if x5.length < 140737488355328 then (figureheadref01_Plus.l0 k x0 x1 (x5 ++ [(wrap64 (48 + (Int.tmod (wrap64 ((wrap64 (t421 + t422)) + x6)) 10))) % 256]) (wrap64 (Int.tdiv (wrap64 ((wrap64 (t421 + t422)) + x6)) 10)) (wrap64 (x7 + 1))) else (none)))) else ((figureheadref01_turned.f k x5).bind fun t426 => ((figureheadref01_Strip.f k t426).bind fun t427 => (some t427)))
end
def figureheadref01_Plus.f (k : Nat) (a0 : ByteArray) (a1 : ByteArray) : Option (ByteArray) := figureheadref01_Plus.l0 k a0 a1 ([] : List Int) 0 0
theorem figureheadref01_Plus.mono_l : ∀ k, (∀ y0 y1 y2 y3 y4, LeO (figureheadref01_Plus.l0 k y0 y1 y2 y3 y4) (figureheadref01_Plus.l0 (k + 1) y0 y1 y2 y3 y4)) ∧ (∀ y0 y1 y2 y3 y4 y5, LeO (figureheadref01_Plus.j1 k y0 y1 y2 y3 y4 y5) (figureheadref01_Plus.j1 (k + 1) y0 y1 y2 y3 y4 y5))
  | 0 => ⟨fun _ _ _ _ _ r h => by simp [figureheadref01_Plus.l0] at h, fun _ _ _ _ _ _ r h => by simp [figureheadref01_Plus.j1] at h⟩
  | k + 1 => by
    obtain ⟨ih0, ih1⟩ := figureheadref01_Plus.mono_l k
    refine ⟨?_, ?_⟩
    · intro y0 y1 y2 y3 y4
      unfold figureheadref01_Plus.l0
      repeat' first
      | (with_reducible exact ih0 _ _ _ _ _)
      | (with_reducible exact ih1 _ _ _ _ _ _)
      | (with_reducible exact figureheadref01_Strip.mono _ _)
      | (with_reducible exact figureheadref01_turned.mono _ _)
      | (with_reducible exact LeO.refl _)
      | (with_reducible exact LeO.none _)
      | (with_reducible refine LeO.ite ?_ ?_)
      | (with_reducible refine LeO.bind ?_ (fun _ => ?_))
      | exact ih0 _ _ _ _ _
      | exact ih1 _ _ _ _ _ _
      | exact figureheadref01_Strip.mono _ _
      | exact figureheadref01_turned.mono _ _
      | exact LeO.none _
      | refine LeO.ite ?_ ?_
      | refine LeO.bind ?_ (fun _ => ?_)
    · intro y0 y1 y2 y3 y4 y5
      unfold figureheadref01_Plus.j1
      repeat' first
      | (with_reducible exact ih0 _ _ _ _ _)
      | (with_reducible exact ih1 _ _ _ _ _ _)
      | (with_reducible exact figureheadref01_Strip.mono _ _)
      | (with_reducible exact figureheadref01_turned.mono _ _)
      | (with_reducible exact LeO.refl _)
      | (with_reducible exact LeO.none _)
      | (with_reducible refine LeO.ite ?_ ?_)
      | (with_reducible refine LeO.bind ?_ (fun _ => ?_))
      | exact ih0 _ _ _ _ _
      | exact ih1 _ _ _ _ _ _
      | exact figureheadref01_Strip.mono _ _
      | exact figureheadref01_turned.mono _ _
      | exact LeO.none _
      | refine LeO.ite ?_ ?_
      | refine LeO.bind ?_ (fun _ => ?_)
theorem figureheadref01_Plus.mono : ∀ a0 a1 k, LeO (figureheadref01_Plus.f k a0 a1) (figureheadref01_Plus.f (k + 1) a0 a1) := by
  intro a0 a1 k
  obtain ⟨ih0, ih1⟩ := figureheadref01_Plus.mono_l k
  unfold figureheadref01_Plus.f
  repeat' first
      | (with_reducible exact ih0 _ _ _ _ _)
      | (with_reducible exact ih1 _ _ _ _ _ _)
      | (with_reducible exact figureheadref01_Strip.mono _ _)
      | (with_reducible exact figureheadref01_turned.mono _ _)
      | (with_reducible exact LeO.refl _)
      | (with_reducible exact LeO.none _)
      | (with_reducible refine LeO.ite ?_ ?_)
      | (with_reducible refine LeO.bind ?_ (fun _ => ?_))
      | exact ih0 _ _ _ _ _
      | exact ih1 _ _ _ _ _ _
      | exact figureheadref01_Strip.mono _ _
      | exact figureheadref01_turned.mono _ _
      | exact LeO.none _
      | refine LeO.ite ?_ ?_
      | refine LeO.bind ?_ (fun _ => ?_)
set_option maxHeartbeats 8000000 in
set_option maxRecDepth 100000 in
theorem figureheadref01_Plus.calls (k : Nat) (a0 : ByteArray) (a1 : ByteArray) (r : ByteArray) (w : World) (h : figureheadref01_Plus.f k a0 a1 = some r) :
    Calls Tryd.prog 58 #[.string a0, .string a1] w fun e w' => e = .returned (.string r) ∧ Below w.heap.size w w' := by
  have HB := Aside0.mk (Below.refl w.heap.size w)
  have H : (figureheadref01_Plus.l0 k a0 a1 ([] : List Int) 0 0) = some r := h
  clear h
  have H' := Aside0.mk H
  clear H
  go_enter Tryd.func58, Tryd.ntmps58
  go_wp2
  go_loopg [5, 6, 7] k (fun kq v5 v6 v7 w' => ∃ (x5_1 : List Int) (x6_1 : Int) (x7_1 : Int), v6 = .int .i64 x6_1 ∧ v7 = .int .i64 x7_1 ∧ Aside0 (figureheadref01_Plus.l0 kq a0 a1 x5_1 x6_1 x7_1 = some r) ∧ Aside0 (kq ≤ k) ∧ Aside0 (Kd.R (Kd.int .u8) 5 w' w.heap.size (fun _ => True) v5 x5_1) ∧ Aside0 (Below w.heap.size w w'))
  case atStart => exact ⟨(([] : List Int)), (0), (0), (by first | rfl | (simp; done) | (simp [*]; done) | (simp [*, Fig.bne_nil]; done)), (by first | rfl | (simp; done) | (simp [*]; done) | (simp [*, Fig.bne_nil]; done)), H', ⟨Nat.le_refl _⟩, ⟨by first | exact Kd.R_nil _ _ _ _ _ | exact Kd.N_nil _ _ _ _ _ | exact Kd.V_nil _ _ _ _ _ | exact Kd.Q_nil _ _ _ _ _ | exact Kd.S_nil _ _ _ _ _⟩, ⟨by repeat (first | (with_reducible first | exact HB.out | apply below_alloc | apply pw_below_drewN | apply below_drew1) | exact HB.out)⟩⟩
  case round =>
    clear H'
    try clear p2
    obtain ⟨x5_1, x6_1, x7_1, rfl, rfl, HA, HK1, HO_5, HB⟩ := hrel
    cases gk with
    | zero => exact absurd HA.out (by simp [figureheadref01_Plus.l0])
    | succ k1 =>
      have H := HA.out
      clear HA
      simp only [figureheadref01_Plus.l0] at H
      have HC3 := Aside0.mk H
      clear H
      go_upto_region 4 with (fail)
      go_cut [22] (fun v22 wc => ∃ (kq : Nat) (x22_2 : Bool), v22 = .bool x22_2 ∧ Aside0 (figureheadref01_Plus.j1 kq a0 a1 x5_1 x6_1 x7_1 x22_2 = some r) ∧ Aside0 (kq ≤ k1) ∧ Aside0 (Kd.R (Kd.int .u8) 5 wc w.heap.size (fun _ => True) u5 x5_1) ∧ Aside0 (Below w.heap.size w wc))
      case first =>
        have H := HC3.out
        clear HC3
        by_cases c4 : x7_1 < (a0.size : Int)
        · rw [if_pos c4] at H
          have c4b0 : decide (x7_1 < (a0.size : Int)) = true := decide_eq_true c4
          clear c4
          (first | rw [c4b0] | (simp only [i64_w, i32_w]; rw [c4b0]) | skip)
          have H' := Aside0.mk H
          clear H
          go_wp2
          go_meet
          case rel => exact ⟨_, (true), (by first | rfl | (simp; done) | (simp [*]; done) | (simp [*, Fig.bne_nil]; done)), H', ⟨by have := HK1.out; first | omega | exact Nat.le_refl _⟩, ⟨by (with_reducible repeat (first | apply Kd.R_alloc | apply Kd.R_drewN | apply Kd.R_drew)); exact HO_5.out⟩, ⟨by repeat (first | (with_reducible first | exact HB.out | apply below_alloc | apply pw_below_drewN | apply below_drew1) | exact HB.out)⟩⟩
        · rw [if_neg c4] at H
          have c4b0 : decide (x7_1 < (a0.size : Int)) = false := decide_eq_false c4
          clear c4
          (first | rw [c4b0] | (simp only [i64_w, i32_w]; rw [c4b0]) | skip)
          by_cases c5 : x7_1 < (a1.size : Int)
          · rw [if_pos c5] at H
            have c5b0 : decide (x7_1 < (a1.size : Int)) = true := decide_eq_true c5
            clear c5
            have H' := Aside0.mk H
            clear H
            go_wp2
            go_meet
            case rel => exact ⟨_, (true), (by first | rfl | (simp; done) | (simp [*]; done) | (simp [*, Fig.bne_nil]; done)), H', ⟨by have := HK1.out; first | omega | exact Nat.le_refl _⟩, ⟨by (with_reducible repeat (first | apply Kd.R_alloc | apply Kd.R_drewN | apply Kd.R_drew)); exact HO_5.out⟩, ⟨by repeat (first | (with_reducible first | exact HB.out | apply below_alloc | apply pw_below_drewN | apply below_drew1) | exact HB.out)⟩⟩
          · rw [if_neg c5] at H
            have c5b0 : decide (x7_1 < (a1.size : Int)) = false := decide_eq_false c5
            clear c5
            have H' := Aside0.mk H
            clear H
            go_wp2
            go_meet
            case rel => exact ⟨_, (decide (x6_1 > 0)), (by first | rfl | (simp; done) | (simp [*]; done) | (simp [*, Fig.bne_nil]; done)), H', ⟨by have := HK1.out; first | omega | exact Nat.le_refl _⟩, ⟨by (with_reducible repeat (first | apply Kd.R_alloc | apply Kd.R_drewN | apply Kd.R_drew)); exact HO_5.out⟩, ⟨by repeat (first | (with_reducible first | exact HB.out | apply below_alloc | apply pw_below_drewN | apply below_drew1) | exact HB.out)⟩⟩
      case rest =>
        clear HC3
        try clear p2
        try clear c4
        try clear c4b0
        try clear c5
        try clear c5b0
        try clear p2
        obtain ⟨kq, x22_2, rfl, HA, HJ2, HO_5, HB⟩ := hcut
        cases kq with
        | zero => exact absurd HA.out (by simp [figureheadref01_Plus.j1])
        | succ kj2 =>
          have H := HA.out
          clear HA
          simp only [figureheadref01_Plus.j1] at H
          by_cases c6 : x22_2 = true
          · subst c6
            have H1 : ((figureheadref01_digit.f a0 x7_1).bind fun t421 => ((figureheadref01_digit.f a1 x7_1).bind fun t422 => (if x5_1.length < 140737488355328 then (figureheadref01_Plus.l0 kj2 a0 a1 (x5_1 ++ [(wrap64 (48 + (Int.tmod (wrap64 ((wrap64 (t421 + t422)) + x6_1)) 10))) % 256]) (wrap64 (Int.tdiv (wrap64 ((wrap64 (t421 + t422)) + x6_1)) 10)) (wrap64 (x7_1 + 1))) else (none)))) = some r := by rw [if_pos rfl] at H; exact H
            clear H
            have H := H1
            clear H1
            replace H := Option.bind_eq_some_iff.mp H
            obtain ⟨t421, A70, H⟩ := H
            replace H : ((figureheadref01_digit.f a1 x7_1).bind fun t422 => (if x5_1.length < 140737488355328 then (figureheadref01_Plus.l0 kj2 a0 a1 (x5_1 ++ [(wrap64 (48 + (Int.tmod (wrap64 ((wrap64 (t421 + t422)) + x6_1)) 10))) % 256]) (wrap64 (Int.tdiv (wrap64 ((wrap64 (t421 + t422)) + x6_1)) 10)) (wrap64 (x7_1 + 1))) else (none))) = some r := H
            have A7 := Aside0.mk A70
            clear A70
            replace H := Option.bind_eq_some_iff.mp H
            obtain ⟨t422, A80, H⟩ := H
            replace H : (if x5_1.length < 140737488355328 then (figureheadref01_Plus.l0 kj2 a0 a1 (x5_1 ++ [(wrap64 (48 + (Int.tmod (wrap64 ((wrap64 (t421 + t422)) + x6_1)) 10))) % 256]) (wrap64 (Int.tdiv (wrap64 ((wrap64 (t421 + t422)) + x6_1)) 10)) (wrap64 (x7_1 + 1))) else (none)) = some r := H
            have A8 := Aside0.mk A80
            clear A80
            by_cases c9 : x5_1.length < 140737488355328
            · rw [if_pos c9] at H
              have LMc9 := Aside0.mk c9
              clear c9
              obtain ⟨y423, hy423⟩ : ∃ y_ : List Int, y_ = (x5_1 ++ [(wrap64 (48 + (Int.tmod (wrap64 ((wrap64 (t421 + t422)) + x6_1)) 10))) % 256]) := ⟨_, rfl⟩
              replace H : (figureheadref01_Plus.l0 kj2 a0 a1 y423 (wrap64 (Int.tdiv (wrap64 ((wrap64 (t421 + t422)) + x6_1)) 10)) (wrap64 (x7_1 + 1))) = some r := by first | (rw [hy423]; with_reducible exact H) | (have H2_ := (Option.bind_some _ _).symm.trans H; rw [hy423]; with_reducible exact H2_) | (have H2_ := (Option.bind_some _ _).symm.trans H; with_reducible exact H2_) | with_reducible exact H | (rw [hy423]; exact H) | exact H
              have Ny423 := Aside0.mk hy423
              clear hy423
              have H' := Aside0.mk H
              clear H
              go_wp2_with (first | ((with_reducible refine gate_callee (f := 76) rfl ?_); refine goesL_ (some 27) rfl rfl Tryd.func76 (by kernel_rfl) rfl #[.string a0, .int .i64 x7_1] rfl (by (try simp only [List.map_toArray]); (try simp only [List.map_cons]); (try simp only [List.map_nil]); first | done | rfl | (simp only [List.length_drop, List.length_take]; rfl)) ?_; (with_reducible refine (figureheadref01_digit.calls a0 x7_1 t421 _ A7.out).mono ?_); rintro e w' ⟨rfl, ⟨nd, rfl⟩⟩; refine ⟨_, rfl, ?_⟩) | ((with_reducible refine gate_callee (f := 76) rfl ?_); refine goesL_ (some 30) rfl rfl Tryd.func76 (by kernel_rfl) rfl #[.string a1, .int .i64 x7_1] rfl (by (try simp only [List.map_toArray]); (try simp only [List.map_cons]); (try simp only [List.map_nil]); first | done | rfl | (simp only [List.length_drop, List.length_take]; rfl)) ?_; (with_reducible refine (figureheadref01_digit.calls a1 x7_1 t422 _ A8.out).mono ?_); rintro e w' ⟨rfl, ⟨nd, rfl⟩⟩; refine ⟨_, rfl, ?_⟩) | ((with_reducible refine gate_builtin (b := .append) (xs := #[.tmp 34, .tmp 39]) rfl ?_); (try (refine gate_guard (by rfl) ?_; dsimp only)); at_builtin; refine Kd.R_append (Kd.int .u8) (w0 := w) w.heap.size rfl (.tmp 34) (.tmp 39) 74 5 (.int .u8 0) 1 rfl Tryd.underlying74 info5 rfl (by decide) (by omega) u5 x5_1 ((wrap64 (48 + (Int.tmod (wrap64 ((wrap64 (t421 + t422)) + x6_1)) 10))) % 256) [.int .u8 ((wrap64 (48 + (Int.tmod (wrap64 ((wrap64 (t421 + t422)) + x6_1)) 10))) % 256)] (fun _ => True) (fun _ => False) rfl rfl ?aP (fun _ hk => hk.elim) ?aF ?aO ?aB ?aS ?aL ?_; (case aP => exact rfl); (case aB => exact (by repeat (first | (with_reducible first | exact HB.out | apply below_alloc | apply pw_below_drewN | apply below_drew1) | exact HB.out))); (case aF => exact (fun _ _ => trivial)); (case aO => exact (by (with_reducible repeat (first | apply Kd.R_alloc | apply Kd.R_drewN | apply Kd.R_drew)); exact HO_5.out)); (case aS => exact (below_size (by repeat (first | (with_reducible first | exact HB.out | apply below_alloc | apply pw_below_drewN | apply below_drew1) | exact HB.out)))); (case aL => have := LMc9.out; omega); intro v424 w10 ho hb hg hat; rw [← Ny423.out] at ho; have n0_ := Aside0.mk (hb); have n1_ := Aside0.mk (ho); clear HB; clear HO_5; have HB := n0_; have HO425 := n1_; clear n0_ n1_; clear ho hb hg hat))
              go_roundg kj2
              case measure => have := HK1.out; have := HJ2.out; omega
              case rel => exact ⟨(y423), (wrap64 (Int.tdiv (wrap64 ((wrap64 (t421 + t422)) + x6_1)) 10)), (wrap64 (x7_1 + 1)), (by first | rfl | (simp; done) | (simp [*]; done) | (simp [*, Fig.bne_nil]; done)), (by first | rfl | (simp; done) | (simp [*]; done) | (simp [*, Fig.bne_nil]; done)), H', ⟨by have := HK1.out; have := HJ2.out; omega⟩, ⟨by (with_reducible repeat (first | apply Kd.R_alloc | apply Kd.R_drewN | apply Kd.R_drew)); exact HO425.out⟩, ⟨by repeat (first | (with_reducible first | exact HB.out | apply below_alloc | apply pw_below_drewN | apply below_drew1) | exact HB.out)⟩⟩
            · rw [if_neg c9] at H
              exact absurd H (by simp)
          · replace c6 := Bool.eq_false_iff.mpr c6
            subst c6
            have H1 : ((figureheadref01_turned.f kj2 x5_1).bind fun t426 => ((figureheadref01_Strip.f kj2 t426).bind fun t427 => (some t427))) = some r := by rw [if_neg (show ¬ (false = true) by decide)] at H; exact H
            clear H
            have H := H1
            clear H1
            replace H := Option.bind_eq_some_iff.mp H
            obtain ⟨t426, A110, H⟩ := H
            replace H : ((figureheadref01_Strip.f kj2 t426).bind fun t427 => (some t427)) = some r := H
            have A11 := Aside0.mk A110
            clear A110
            replace H := Option.bind_eq_some_iff.mp H
            obtain ⟨t427, A120, H⟩ := H
            replace H : (some t427) = some r := H
            have A12 := Aside0.mk A120
            clear A120
            obtain rfl := Option.some.inj H
            obtain ⟨Ao13, co13, eo13⟩ := Kd.R_slice HO_5.out
            subst eo13
            go_wp2_with (first | ((with_reducible refine gate_callee (f := 77) rfl ?_); refine goesL_ (some 44) rfl rfl Tryd.func77 (by kernel_rfl) rfl #[.slice Ao13 x5_1.length co13] rfl (by (try simp only [List.map_toArray]); (try simp only [List.map_cons]); (try simp only [List.map_nil]); first | done | rfl | (simp only [List.length_drop, List.length_take]; rfl)) ?_; (with_reducible refine (figureheadref01_turned.calls kj2 _ _ x5_1 t426 _ ?side1 ?side2 A11.out).mono ?_); (case side1 => repeat (first | exact (Kd.R_reads' HO_5.out).2.2 | (with_reducible refine Kd.C_alloc ?_ _) | (with_reducible refine Kd.C_drewN ?_ _) | (with_reducible refine Kd.C_drew ?_))); (case side2 => exact (Kd.R_reads' HO_5.out).2.1); rintro e w14 ⟨rfl, hb⟩; refine ⟨_, rfl, ?_⟩; have n0_ := Aside0.mk (Kd.R_below (by (with_reducible repeat (first | apply Kd.R_alloc | apply Kd.R_drewN | apply Kd.R_drew)); exact HO_5.out) hb); have n1_ := Aside0.mk (below_step (by repeat (first | (with_reducible first | exact HB.out | apply below_alloc | apply pw_below_drewN | apply below_drew1) | exact HB.out)) hb); clear HO_5; clear HB; have HO_5 := n0_; have HB := n1_; clear n0_ n1_; (try clear hb); (try clear hb2); (try clear hk); (try clear hi)) | ((with_reducible refine gate_callee (f := 46) rfl ?_); refine goesL_ (some 45) rfl rfl Tryd.func46 (by kernel_rfl) rfl #[.string t426] rfl (by (try simp only [List.map_toArray]); (try simp only [List.map_cons]); (try simp only [List.map_nil]); first | done | rfl | (simp only [List.length_drop, List.length_take]; rfl)) ?_; (with_reducible refine (figureheadref01_Strip.calls kj2 t426 t427 _ A12.out).mono ?_); rintro e w' ⟨rfl, ⟨nd, rfl⟩⟩; refine ⟨_, rfl, ?_⟩))
            go_ret
            exact ⟨by first | rfl | (simp [errW_none, errW_some] <;> rfl) | (simp [*, errW_none, errW_some] <;> rfl), by repeat (first | (with_reducible first | exact HB.out | apply below_alloc | apply pw_below_drewN | apply below_drew1) | exact HB.out)⟩
end Go.Proofs.YtbjaiphfehnncaaDoor.Px
end
section
namespace Go.Proofs.YtbjaiphfehnncaaDoor.Px
open Fig Go.RowKit Go.Proofs.YtbjaiphfehnncaaDoorW.PrintWords Go.Proofs.YtbjaiphfehnncaaDoorW.PrintLast Go.Proofs.YtbjaiphfehnncaaDoorW.PrintMore
attribute [local go_sem] max2_int min2_int max_two min_two max_three min_three max_four min_four   -- for this text's walks alone
attribute [local go_sem] fieldA23_0 fieldA23_1 fieldA23_2
end Go.Proofs.YtbjaiphfehnncaaDoor.Px
end
section
namespace Go.Proofs.YtbjaiphfehnncaaDoor.Px
open Fig Go.RowKit Go.Proofs.YtbjaiphfehnncaaDoorW.PrintWords Go.Proofs.YtbjaiphfehnncaaDoorW.PrintLast Go.Proofs.YtbjaiphfehnncaaDoorW.PrintMore
attribute [local go_sem] max2_int min2_int max_two min_two max_three min_three max_four min_four   -- for this text's walks alone
attribute [local go_sem] fieldA23_0 fieldA23_1 fieldA23_2
mutual
def figureheadref01_Times.l0 : Nat → ByteArray → ByteArray → List Int → Int → Option (ByteArray)
  | 0, _, _, _, _ => none
  | k + 1, x0, x1, x5, x6 => if x6 < (x0.size : Int) then (figureheadref01_Times.l1 k x0 x1 x5 x6 0) else (figureheadref01_Times.l2 k x5 ([] : List Int) 0 0)
def figureheadref01_Times.l1 : Nat → ByteArray → ByteArray → List Int → Int → Int → Option (ByteArray)
  | 0, _, _, _, _, _ => none
  | k + 1, x0, x1, x5, x6, x7 => if x7 < (x1.size : Int) then (if 0 ≤ (wrap64 (x6 + x7)) then (if (wrap64 (x6 + x7)) < (x5.length : Int) then ((figureheadref01_digit.f x0 x6).bind fun t494 => ((figureheadref01_digit.f x1 x7).bind fun t495 => (figureheadref01_Times.l1 k x0 x1 (x5.set ((wrap64 (x6 + x7)) : Int).toNat (wrap64 ((rd x5 (wrap64 (x6 + x7))) + (wrap64 (t494 * t495))))) x6 (wrap64 (x7 + 1))))) else (none)) else (none)) else (figureheadref01_Times.l0 k x0 x1 x5 (wrap64 (x6 + 1)))
def figureheadref01_Times.l2 : Nat → List Int → List Int → Int → Int → Option (ByteArray)
  | 0, _, _, _, _ => none
  | k + 1, x5, x8, x9, x10 => if x10 < (x5.length : Int) then (if 0 ≤ x10 then (if x8.length < 140737488355328 then (figureheadref01_Times.l2 k x5 (x8 ++ [(wrap64 (48 + (Int.tmod (wrap64 ((rd x5 x10) + x9)) 10))) % 256]) (wrap64 (Int.tdiv (wrap64 ((rd x5 x10) + x9)) 10)) (wrap64 (x10 + 1))) else (none)) else (none)) else ((figureheadref01_turned.f k x8).bind fun t501 => ((figureheadref01_Strip.f k t501).bind fun t502 => (some t502)))
end
def figureheadref01_Times.f (k : Nat) (a0 : ByteArray) (a1 : ByteArray) : Option (ByteArray) := if 0 ≤ (wrap64 ((wrap64 ((a0.size : Int) + (a1.size : Int))) + 1)) then (if (wrap64 ((wrap64 ((a0.size : Int) + (a1.size : Int))) + 1) : Int).toNat ≤ 35184372088832 then (figureheadref01_Times.l0 k a0 a1 (List.replicate (wrap64 ((wrap64 ((a0.size : Int) + (a1.size : Int))) + 1) : Int).toNat 0) 0) else (none)) else (none)
theorem figureheadref01_Times.mono_l : ∀ k, (∀ y0 y1 y2 y3, LeO (figureheadref01_Times.l0 k y0 y1 y2 y3) (figureheadref01_Times.l0 (k + 1) y0 y1 y2 y3)) ∧ (∀ y0 y1 y2 y3 y4, LeO (figureheadref01_Times.l1 k y0 y1 y2 y3 y4) (figureheadref01_Times.l1 (k + 1) y0 y1 y2 y3 y4)) ∧ (∀ y0 y1 y2 y3, LeO (figureheadref01_Times.l2 k y0 y1 y2 y3) (figureheadref01_Times.l2 (k + 1) y0 y1 y2 y3))
  | 0 => ⟨fun _ _ _ _ r h => by simp [figureheadref01_Times.l0] at h, fun _ _ _ _ _ r h => by simp [figureheadref01_Times.l1] at h, fun _ _ _ _ r h => by simp [figureheadref01_Times.l2] at h⟩
  | k + 1 => by
    obtain ⟨ih0, ih1, ih2⟩ := figureheadref01_Times.mono_l k
    refine ⟨?_, ?_, ?_⟩
    · intro y0 y1 y2 y3
      unfold figureheadref01_Times.l0
      repeat' first
      | (with_reducible exact ih0 _ _ _ _)
      | (with_reducible exact ih1 _ _ _ _ _)
      | (with_reducible exact ih2 _ _ _ _)
      | (with_reducible exact figureheadref01_Strip.mono _ _)
      | (with_reducible exact figureheadref01_turned.mono _ _)
      | (with_reducible exact LeO.refl _)
      | (with_reducible exact LeO.none _)
      | (with_reducible refine LeO.ite ?_ ?_)
      | (with_reducible refine LeO.bind ?_ (fun _ => ?_))
      | exact ih0 _ _ _ _
      | exact ih1 _ _ _ _ _
      | exact ih2 _ _ _ _
      | exact figureheadref01_Strip.mono _ _
      | exact figureheadref01_turned.mono _ _
      | exact LeO.none _
      | refine LeO.ite ?_ ?_
      | refine LeO.bind ?_ (fun _ => ?_)
    · intro y0 y1 y2 y3 y4
      unfold figureheadref01_Times.l1
      repeat' first
      | (with_reducible exact ih0 _ _ _ _)
      | (with_reducible exact ih1 _ _ _ _ _)
      | (with_reducible exact ih2 _ _ _ _)
      | (with_reducible exact figureheadref01_Strip.mono _ _)
      | (with_reducible exact figureheadref01_turned.mono _ _)
      | (with_reducible exact LeO.refl _)
      | (with_reducible exact LeO.none _)
      | (with_reducible refine LeO.ite ?_ ?_)
      | (with_reducible refine LeO.bind ?_ (fun _ => ?_))
      | exact ih0 _ _ _ _
      | exact ih1 _ _ _ _ _
      | exact ih2 _ _ _ _
      | exact figureheadref01_Strip.mono _ _
      | exact figureheadref01_turned.mono _ _
      | exact LeO.none _
      | refine LeO.ite ?_ ?_
      | refine LeO.bind ?_ (fun _ => ?_)
    · intro y0 y1 y2 y3
      unfold figureheadref01_Times.l2
      repeat' first
      | (with_reducible exact ih0 _ _ _ _)
      | (with_reducible exact ih1 _ _ _ _ _)
      | (with_reducible exact ih2 _ _ _ _)
      | (with_reducible exact figureheadref01_Strip.mono _ _)
      | (with_reducible exact figureheadref01_turned.mono _ _)
      | (with_reducible exact LeO.refl _)
      | (with_reducible exact LeO.none _)
      | (with_reducible refine LeO.ite ?_ ?_)
      | (with_reducible refine LeO.bind ?_ (fun _ => ?_))
      | exact ih0 _ _ _ _
      | exact ih1 _ _ _ _ _
      | exact ih2 _ _ _ _
      | exact figureheadref01_Strip.mono _ _
      | exact figureheadref01_turned.mono _ _
      | exact LeO.none _
      | refine LeO.ite ?_ ?_
      | refine LeO.bind ?_ (fun _ => ?_)
theorem figureheadref01_Times.mono : ∀ a0 a1 k, LeO (figureheadref01_Times.f k a0 a1) (figureheadref01_Times.f (k + 1) a0 a1) := by
  intro a0 a1 k
  obtain ⟨ih0, ih1, ih2⟩ := figureheadref01_Times.mono_l k
  unfold figureheadref01_Times.f
  repeat' first
      | (with_reducible exact ih0 _ _ _ _)
      | (with_reducible exact ih1 _ _ _ _ _)
      | (with_reducible exact ih2 _ _ _ _)
      | (with_reducible exact figureheadref01_Strip.mono _ _)
      | (with_reducible exact figureheadref01_turned.mono _ _)
      | (with_reducible exact LeO.refl _)
      | (with_reducible exact LeO.none _)
      | (with_reducible refine LeO.ite ?_ ?_)
      | (with_reducible refine LeO.bind ?_ (fun _ => ?_))
      | exact ih0 _ _ _ _
      | exact ih1 _ _ _ _ _
      | exact ih2 _ _ _ _
      | exact figureheadref01_Strip.mono _ _
      | exact figureheadref01_turned.mono _ _
      | exact LeO.none _
      | refine LeO.ite ?_ ?_
      | refine LeO.bind ?_ (fun _ => ?_)
def figureheadref01_Times.T8 : Bool × List (List Nat × List Nat) := (true, [([], []), ([], []), ([], []), ([1, 2], [1, 2]), ([], []), ([], []), ([], []), ([5, 6], [5, 6]), ([4, 7], [4, 7]), ([8], [8]), ([], []), ([], []), ([10, 11], [10, 11]), ([], []), ([], []), ([13, 14, 12], [13, 14]), ([12, 15], [12, 15]), ([9, 16], [9, 16]), ([0, 3, 0, 1, 2, 3, 4, 5, 6, 7, 8, 9, 10, 11, 12, 13, 14, 15, 16, 17], [0, 3]), ([18, 17, 15, 0, 1, 2, 3, 4, 5, 6, 7, 8, 9, 10, 11, 12, 13, 14, 15, 16, 17], [17, 18])])
def figureheadref01_Times.B8 : List Nat := [0, 0, 0, 6, 0, 0, 0, 96, 240, 496, 0, 0, 3072, 0, 0, 31744, 64512, 131056, 262143, 524287]
theorem figureheadref01_Times.tab8 : rtab .any (opsOf Tryd.f61 8) = figureheadref01_Times.T8 := by kernel_rfl
theorem figureheadref01_Times.bits8 : waitsOk figureheadref01_Times.T8.2 figureheadref01_Times.B8 = true := by kernel_rfl
set_option maxHeartbeats 8000000 in
set_option maxRecDepth 100000 in
theorem figureheadref01_Times.calls (k : Nat) (a0 : ByteArray) (a1 : ByteArray) (r : ByteArray) (w : World) (h : figureheadref01_Times.f k a0 a1 = some r) :
    Calls Tryd.prog 61 #[.string a0, .string a1] w fun e w' => e = .returned (.string r) ∧ Below w.heap.size w w' := by
  have HB := Aside0.mk (Below.refl w.heap.size w)
  have H : (if 0 ≤ (wrap64 ((wrap64 ((a0.size : Int) + (a1.size : Int))) + 1)) then (if (wrap64 ((wrap64 ((a0.size : Int) + (a1.size : Int))) + 1) : Int).toNat ≤ 35184372088832 then (figureheadref01_Times.l0 k a0 a1 (List.replicate (wrap64 ((wrap64 ((a0.size : Int) + (a1.size : Int))) + 1) : Int).toNat 0) 0) else (none)) else (none)) = some r := h
  clear h
  obtain ⟨ji3, hji3⟩ : ∃ j_ : Int, (wrap64 ((wrap64 ((a0.size : Int) + (a1.size : Int))) + 1)) = j_ := ⟨_, rfl⟩
  replace H : (if 0 ≤ (ji3) then (if (ji3 : Int).toNat ≤ 35184372088832 then (figureheadref01_Times.l0 k a0 a1 (List.replicate (ji3 : Int).toNat 0) 0) else (none)) else (none)) = some r := by first | (rw [hji3] at H; exact H) | (simp only [hji3] at H ⊢; exact H)
  have hji3w : (IntKind.i64.wrap ((wrap64 ((a0.size : Int) + (a1.size : Int))) + 1)) = ji3 := (i64_w _).trans hji3
  by_cases c4 : 0 ≤ (ji3)
  · rw [if_pos c4] at H
    have c4b0 := eq_true c4
    have c4b1 : decide (0 ≤ (ji3)) = true := decide_eq_true c4
    clear c4
    by_cases c5 : (ji3 : Int).toNat ≤ 35184372088832
    · rw [if_pos c5] at H
      have c5b0 := eq_true c5
      have c5b1 : decide ((ji3 : Int).toNat ≤ 35184372088832) = true := decide_eq_true c5
      clear c5
      obtain ⟨y490, hy490⟩ : ∃ y_ : List Int, y_ = (List.replicate (ji3 : Int).toNat 0) := ⟨_, rfl⟩
      replace H : (figureheadref01_Times.l0 k a0 a1 y490 0) = some r := by first | (rw [hy490]; with_reducible exact H) | (have H2_ := (Option.bind_some _ _).symm.trans H; rw [hy490]; with_reducible exact H2_) | (have H2_ := (Option.bind_some _ _).symm.trans H; with_reducible exact H2_) | with_reducible exact H | (rw [hy490]; exact H) | exact H
      have Ny490 := Aside0.mk hy490
      clear hy490
      have H' := Aside0.mk H
      clear H
      go_enter Tryd.func61, Tryd.ntmps61
      go_wp2_with (first | ((with_reducible refine gate_dst (N := 18) rfl ?_); refine Kd.R_make (Kd.int .i64) _ 3 rfl (N := 18) rfl 78 _ _ rfl ji3 rfl rfl Tryd.underlying78 (.int .i64 0) 8 info3 rfl (by decide) (by omega) 0 (ok := fun _ => True) (okp := fun _ => True) rfl (fun _ hk => hk) trivial (of_decide_eq_true (by first | (with_reducible assumption) | assumption)) (Nat.le_trans (Nat.mul_le_mul_right _ (of_decide_eq_true (by first | (with_reducible assumption) | assumption) : ji3.toNat ≤ 35184372088832)) (by omega)) (Below.refl _ _) (Nat.le_refl _) ?_; intro v491 w6 ho7 hb hg_ hnew_; clear hg_ hnew_; (first | rw [← Ny490.out] at ho7 | (simp only [Int.reduceToNat] at ho7; rw [← Ny490.out] at ho7)); have n0_ := Aside0.mk (Kd.R_lower ho7 (below_size (by repeat (first | (with_reducible first | exact HB.out | apply below_alloc | apply pw_below_drewN | apply below_drew1) | exact HB.out)))); have n1_ := Aside0.mk (below_step (by repeat (first | (with_reducible first | exact HB.out | apply below_alloc | apply pw_below_drewN | apply below_drew1) | exact HB.out)) hb); clear HB; have HO492 := n0_; have HB := n1_; clear n0_ n1_; clear hb ho7))
      go_loopg [6] k (fun kq v6 w' => ∃ (x5_1 : List Int) (x6_1 : Int), v6 = .int .i64 x6_1 ∧ Aside0 (figureheadref01_Times.l0 kq a0 a1 x5_1 x6_1 = some r) ∧ Aside0 (kq ≤ k) ∧ Aside0 (Kd.R (Kd.int .i64) 3 w' w.heap.size (fun _ => True) v491 x5_1) ∧ Aside0 (Below w.heap.size w w'))
      case atStart => exact ⟨(y490), (0), (by first | rfl | (simp; done) | (simp [*]; done) | (simp [*, Fig.bne_nil]; done)), H', ⟨Nat.le_refl _⟩, ⟨by (with_reducible repeat (first | apply Kd.R_alloc | apply Kd.R_drewN | apply Kd.R_drew)); exact HO492.out⟩, ⟨by repeat (first | (with_reducible first | exact HB.out | apply below_alloc | apply pw_below_drewN | apply below_drew1) | exact HB.out)⟩⟩
      case round =>
        clear H'
        try clear p2
        try clear c4
        try clear c4b0
        try clear c4b1
        try clear c5
        try clear c5b0
        try clear c5b1
        try clear c6
        try clear p6
        obtain ⟨x5_1, x6_1, rfl, HA, HK1, HO_5, HB⟩ := hrel
        cases gk with
        | zero => exact absurd HA.out (by simp [figureheadref01_Times.l0])
        | succ k1 =>
          have H := HA.out
          clear HA
          simp only [figureheadref01_Times.l0] at H
          by_cases c8 : x6_1 < (a0.size : Int)
          · rw [if_pos c8] at H
            have c8b0 : decide (x6_1 < (a0.size : Int)) = true := decide_eq_true c8
            clear c8
            have H' := Aside0.mk H
            clear H
            go_wp2
            go_loopg [7] k1 (fun kq v7 w' => ∃ (x5_2 : List Int) (x7_2 : Int), v7 = .int .i64 x7_2 ∧ Aside0 (figureheadref01_Times.l1 kq a0 a1 x5_2 x6_1 x7_2 = some r) ∧ Aside0 (kq ≤ k1) ∧ Aside0 (Kd.R (Kd.int .i64) 3 w' w.heap.size (fun _ => True) v491 x5_2) ∧ Aside0 (Below w.heap.size w w'))
            case atStart => exact ⟨(x5_1), (0), (by first | rfl | (simp; done) | (simp [*]; done) | (simp [*, Fig.bne_nil]; done)), H', ⟨Nat.le_refl _⟩, ⟨by (with_reducible repeat (first | apply Kd.R_alloc | apply Kd.R_drewN | apply Kd.R_drew)); exact HO_5.out⟩, ⟨by repeat (first | (with_reducible first | exact HB.out | apply below_alloc | apply pw_below_drewN | apply below_drew1) | exact HB.out)⟩⟩
            case round =>
              clear H'
              try clear p2
              try clear c4
              try clear c4b0
              try clear c4b1
              try clear c5
              try clear c5b0
              try clear c5b1
              try clear c6
              try clear p6
              try clear c8
              try clear c8b0
              try clear p2
              try clear p6
              obtain ⟨x5_2, x7_2, rfl, HA, HK2, HO_5, HB⟩ := hrel
              cases gk with
              | zero => exact absurd HA.out (by simp [figureheadref01_Times.l1])
              | succ k2 =>
                have H := HA.out
                clear HA
                simp only [figureheadref01_Times.l1] at H
                by_cases c9 : x7_2 < (a1.size : Int)
                · rw [if_pos c9] at H
                  have c9b0 : decide (x7_2 < (a1.size : Int)) = true := decide_eq_true c9
                  clear c9
                  obtain ⟨ji10, hji10⟩ : ∃ j_ : Int, (wrap64 (x6_1 + x7_2)) = j_ := ⟨_, rfl⟩
                  replace H : (if 0 ≤ (ji10) then (if (ji10) < (x5_2.length : Int) then ((figureheadref01_digit.f a0 x6_1).bind fun t494 => ((figureheadref01_digit.f a1 x7_2).bind fun t495 => (figureheadref01_Times.l1 k2 a0 a1 (x5_2.set ((ji10) : Int).toNat (wrap64 ((rd x5_2 (ji10)) + (wrap64 (t494 * t495))))) x6_1 (wrap64 (x7_2 + 1))))) else (none)) else (none)) = some r := by first | (rw [hji10] at H; exact H) | (simp only [hji10] at H ⊢; exact H)
                  have hji10w : (IntKind.i64.wrap (x6_1 + x7_2)) = ji10 := (i64_w _).trans hji10
                  by_cases c11 : 0 ≤ (ji10)
                  · rw [if_pos c11] at H
                    have c11b0 : decide (0 ≤ (ji10)) = true := decide_eq_true c11
                    clear c11
                    by_cases c12 : (ji10) < (x5_2.length : Int)
                    · rw [if_pos c12] at H
                      have c12b0 : decide ((ji10) < (x5_2.length : Int)) = true := decide_eq_true c12
                      clear c12
                      replace H := Option.bind_eq_some_iff.mp H
                      obtain ⟨t494, A130, H⟩ := H
                      replace H : ((figureheadref01_digit.f a1 x7_2).bind fun t495 => (figureheadref01_Times.l1 k2 a0 a1 (x5_2.set ((ji10) : Int).toNat (wrap64 ((rd x5_2 (ji10)) + (wrap64 (t494 * t495))))) x6_1 (wrap64 (x7_2 + 1)))) = some r := H
                      have A13 := Aside0.mk A130
                      clear A130
                      replace H := Option.bind_eq_some_iff.mp H
                      obtain ⟨t495, A140, H⟩ := H
                      replace H : (figureheadref01_Times.l1 k2 a0 a1 (x5_2.set ((ji10) : Int).toNat (wrap64 ((rd x5_2 (ji10)) + (wrap64 (t494 * t495))))) x6_1 (wrap64 (x7_2 + 1))) = some r := H
                      have A14 := Aside0.mk A140
                      clear A140
                      obtain ⟨y496, hy496⟩ : ∃ y_ : List Int, y_ = (x5_2.set ((ji10) : Int).toNat (wrap64 ((rd x5_2 (ji10)) + (wrap64 (t494 * t495))))) := ⟨_, rfl⟩
                      replace H : (figureheadref01_Times.l1 k2 a0 a1 y496 x6_1 (wrap64 (x7_2 + 1))) = some r := by first | (rw [hy496]; with_reducible exact H) | (have H2_ := (Option.bind_some _ _).symm.trans H; rw [hy496]; with_reducible exact H2_) | (have H2_ := (Option.bind_some _ _).symm.trans H; with_reducible exact H2_) | with_reducible exact H | (rw [hy496]; exact H) | exact H
                      have Ny496 := Aside0.mk hy496
                      clear hy496
                      have H' := Aside0.mk H
                      clear H
                      try go_wp2
                      (try (rw [drewN_self wr]; generalize hq_ : World.drewN wr _ = wr; have n0_ : Aside0 (Kd.R (Kd.int .i64) 3 wr w.heap.size (fun _ => True) v491 x5_2) := ⟨by rw [← hq_]; exact (by (with_reducible repeat (first | apply Kd.R_alloc | apply Kd.R_drewN | apply Kd.R_drew)); exact HO_5.out)⟩; have n1_ : Aside0 (Below w.heap.size w wr) := ⟨by rw [← hq_]; exact (by repeat (first | (with_reducible first | exact HB.out | apply below_alloc | apply pw_below_drewN | apply below_drew1) | exact HB.out))⟩; clear HO_5 HB hq_; have HO_5 := n0_; have HB := n1_; clear n0_ n1_))
                      have n0_ := Aside0.mk (Kd.R_drew HO_5.out)
                      have n1_ := Aside0.mk (below_drew1 HB.out)
                      clear HO_5
                      clear HB
                      have HO_5 := n0_
                      have HB := n1_
                      clear n0_ n1_
                      obtain ⟨Ao17, co17, eo17⟩ := Kd.R_slice HO_5.out
                      (first | subst eo17 | (injection eo17 with f1_ f2_ f3_; have f4_ := f1_.symm; have f5_ := f3_.symm; clear f1_ f2_ f3_; subst f4_; subst f5_))
                      have p493 : 0 ≤ ((ji10) : Int) := of_decide_eq_true (by first | (with_reducible assumption) | assumption)
                      have q493 : (ji10) < (x5_2.length : Int) := of_decide_eq_true (by first | (with_reducible assumption) | assumption)
                      obtain ⟨ad493, e493, hx493_0⟩ := Kd.at_int (Kd.R_reads' HO_5.out).2.2 (ji10) p493 q493
                      cases e493
                      replace p493 := eq_true p493
                      replace q493 := eq_true q493
                      refine start_ (n := 20) (S := fun w' => w'.cell? (ad493.add ((ji10)).toNat) = some (.int .i64 (rd x5_2 (ji10)))) (ds := [19]) #[false, false, false, false, false, false, false, false, false, false, false, false, false, false, false, false, false, false, false, false] (by kernel_rfl) rfl rfl (hx493_0) (fun hHeld => ?_); refine with_tabW figureheadref01_Times.tab8 figureheadref01_Times.bits8 (fun HT_ HW_ => ?_)
                      generalize wr.drew = w16 at HO_5 HB hx493_0 hHeld ⊢
                      refine pure_ (i := 0) (N := some 31) (v := ?_) (a' := ?_) #[true, false, false, false, false, false, false, false, false, false, false, false, false, false, false, false, false, false, false, false] rfl rfl (any_of HT_.out (by kernel_rfl)) (fun _ _ _ h => h) (Or.inl ⟨by rfl, ?_⟩) ?_ ?_
                      rotate_left
                      · intro w'
                        go_simp
                        with_reducible rfl
                      rotate_left
                      · simp only [Act.put, List.setIfInBounds_toArray, List.set_cons_zero, List.set_cons_succ]; (try simp only [i64_w]); (try simp only [i32_w])
                        rfl
                      refine pure_ (i := 1) (N := some 32) (v := ?_) (a' := ?_) #[true, true, false, false, false, false, false, false, false, false, false, false, false, false, false, false, false, false, false, false] rfl rfl (any_of HT_.out (by kernel_rfl)) (fun _ _ _ h => h) (Or.inl ⟨by rfl, ?_⟩) ?_ ?_
                      rotate_left
                      · intro w'
                        go_simp
                        with_reducible rfl
                      rotate_left
                      · simp only [Act.put, List.setIfInBounds_toArray, List.set_cons_zero, List.set_cons_succ]; (try simp only [i64_w]); (try simp only [i32_w])
                        rfl
                      refine pure_ (i := 2) (N := some 33) (v := ?_) (a' := ?_) #[true, true, true, false, false, false, false, false, false, false, false, false, false, false, false, false, false, false, false, false] rfl rfl (any_of HT_.out (by kernel_rfl)) (fun _ _ _ h => h) (Or.inl ⟨by rfl, ?_⟩) ?_ ?_
                      rotate_left
                      · intro w'
                        go_simp
                        with_reducible rfl
                      rotate_left
                      · simp only [Act.put, List.setIfInBounds_toArray, List.set_cons_zero, List.set_cons_succ]; (try simp only [i64_w]); (try simp only [i32_w])
                        rfl
                      refine pure_ (i := 3) (N := some 34) (v := ?_) (a' := ?_) #[true, true, true, true, false, false, false, false, false, false, false, false, false, false, false, false, false, false, false, false] rfl rfl (any_of HT_.out (by kernel_rfl)) (fun _ _ _ h => h) (Or.inl ⟨by rfl, ?_⟩) ?_ ?_
                      rotate_left
                      · intro w'
                        go_simp
                        with_reducible rfl
                      rotate_left
                      · simp only [Act.put, List.setIfInBounds_toArray, List.set_cons_zero, List.set_cons_succ]; (try simp only [i64_w]); (try simp only [i32_w])
                        rfl
                      refine pure_ (i := 4) (N := some 35) (v := ?_) (a' := ?_) #[true, true, true, true, true, false, false, false, false, false, false, false, false, false, false, false, false, false, false, false] rfl rfl (any_of HT_.out (by kernel_rfl)) (fun _ _ _ h => h) (Or.inl ⟨by rfl, ?_⟩) ?_ ?_
                      rotate_left
                      · intro w'
                        go_simp
                        with_reducible rfl
                      rotate_left
                      · simp only [Act.put, List.setIfInBounds_toArray, List.set_cons_zero, List.set_cons_succ]; (try simp only [i64_w]); (try simp only [i32_w])
                        rfl
                      refine pure_ (i := 5) (N := some 36) (v := ?_) (a' := ?_) #[true, true, true, true, true, true, false, false, false, false, false, false, false, false, false, false, false, false, false, false] rfl rfl (any_of HT_.out (by kernel_rfl)) (fun _ _ _ h => h) (Or.inl ⟨by rfl, ?_⟩) ?_ ?_
                      rotate_left
                      · intro w'
                        go_simp
                        with_reducible rfl
                      rotate_left
                      · simp only [Act.put, List.setIfInBounds_toArray, List.set_cons_zero, List.set_cons_succ]; (try simp only [i64_w]); (try simp only [i32_w])
                        rfl
                      refine pure_ (i := 6) (N := some 37) (v := ?_) (a' := ?_) #[true, true, true, true, true, true, true, false, false, false, false, false, false, false, false, false, false, false, false, false] rfl rfl (any_of HT_.out (by kernel_rfl)) (fun _ _ _ h => h) (Or.inl ⟨by rfl, ?_⟩) ?_ ?_
                      rotate_left
                      · intro w'
                        go_simp
                        with_reducible rfl
                      rotate_left
                      · simp only [Act.put, List.setIfInBounds_toArray, List.set_cons_zero, List.set_cons_succ]; (try simp only [i64_w]); (try simp only [i32_w])
                        rfl
                      refine pure_ (i := 7) (N := some 38) (v := ?_) (a' := ?_) #[true, true, true, true, true, true, true, true, false, false, false, false, false, false, false, false, false, false, false, false] rfl rfl (any_of HT_.out (by kernel_rfl)) (fun _ _ _ h => h) (Or.inl ⟨by rfl, ?_⟩) ?_ ?_
                      rotate_left
                      · intro w'
                        go_simp
                        with_reducible rfl
                      rotate_left
                      · simp only [Act.put, List.setIfInBounds_toArray, List.set_cons_zero, List.set_cons_succ]; (try simp only [i64_w]); (try simp only [i32_w])
                        rfl
                      refine pure_ (i := 8) (N := some 39) (v := ?_) (a' := ?_) #[true, true, true, true, true, true, true, true, true, false, false, false, false, false, false, false, false, false, false, false] rfl rfl (any_of HT_.out (by kernel_rfl)) (fun _ _ _ h => h) (Or.inl ⟨by rfl, ?_⟩) ?_ ?_
                      rotate_left
                      · intro w'
                        go_simp
                        with_reducible rfl
                      rotate_left
                      · simp only [Act.put, List.setIfInBounds_toArray, List.set_cons_zero, List.set_cons_succ]; (try simp only [i64_w]); (try simp only [i32_w])
                        rfl
                      refine pure_ (i := 10) (N := some 41) (v := ?_) (a' := ?_) #[true, true, true, true, true, true, true, true, true, false, true, false, false, false, false, false, false, false, false, false] rfl rfl (any_of HT_.out (by kernel_rfl)) (fun _ _ _ h => h) (Or.inl ⟨by rfl, ?_⟩) ?_ ?_
                      rotate_left
                      · intro w'
                        go_simp
                        with_reducible rfl
                      rotate_left
                      · simp only [Act.put, List.setIfInBounds_toArray, List.set_cons_zero, List.set_cons_succ]; (try simp only [i64_w]); (try simp only [i32_w])
                        rfl
                      refine pure_ (i := 11) (N := some 42) (v := ?_) (a' := ?_) #[true, true, true, true, true, true, true, true, true, false, true, true, false, false, false, false, false, false, false, false] rfl rfl (any_of HT_.out (by kernel_rfl)) (fun _ _ _ h => h) (Or.inl ⟨by rfl, ?_⟩) ?_ ?_
                      rotate_left
                      · intro w'
                        go_simp
                        with_reducible rfl
                      rotate_left
                      · simp only [Act.put, List.setIfInBounds_toArray, List.set_cons_zero, List.set_cons_succ]; (try simp only [i64_w]); (try simp only [i32_w])
                        rfl
                      refine pure_ (i := 13) (N := some 44) (v := ?_) (a' := ?_) #[true, true, true, true, true, true, true, true, true, false, true, true, false, true, false, false, false, false, false, false] rfl rfl (any_of HT_.out (by kernel_rfl)) (fun _ _ _ h => h) (Or.inl ⟨by rfl, ?_⟩) ?_ ?_
                      rotate_left
                      · intro w'
                        go_simp
                        with_reducible rfl
                      rotate_left
                      · simp only [Act.put, List.setIfInBounds_toArray, List.set_cons_zero, List.set_cons_succ]; (try simp only [i64_w]); (try simp only [i32_w])
                        rfl
                      refine pure_ (i := 14) (N := some 45) (v := ?_) (a' := ?_) #[true, true, true, true, true, true, true, true, true, false, true, true, false, true, true, false, false, false, false, false] rfl rfl (any_of HT_.out (by kernel_rfl)) (fun _ _ _ h => h) (Or.inl ⟨by rfl, ?_⟩) ?_ ?_
                      rotate_left
                      · intro w'
                        go_simp
                        with_reducible rfl
                      rotate_left
                      · simp only [Act.put, List.setIfInBounds_toArray, List.set_cons_zero, List.set_cons_succ]; (try simp only [i64_w]); (try simp only [i32_w])
                        rfl
                      refine take_ (i := 9) (N := some 40) (v := ?_) (a' := ?_) #[true, true, true, true, true, true, true, true, true, true, true, true, false, true, true, false, false, false, false, false] rfl rfl (take_ofW HT_.out HW_.out (by kernel_rfl)) (fun _ _ _ h => h) (Or.inl ⟨by rfl, ?_⟩) hHeld ?_ ?_
                      rotate_left
                      · intro w' s0
                        go_simp
                        with_reducible rfl
                      rotate_left
                      · simp only [Act.put, List.setIfInBounds_toArray, List.set_cons_zero, List.set_cons_succ]; (try simp only [i64_w]); (try simp only [i32_w])
                        rfl
                      refine one_ (i := 12) (N := some 43) #[true, true, true, true, true, true, true, true, true, true, true, true, true, true, true, false, false, false, false, false] rfl rfl (one_of HT_.out (by kernel_rfl)) (by decide) (fun K hK => ?_)
                      refine goes_ Tryd.func76 (by kernel_rfl) rfl #[.string a0, .int .i64 x6_1] (by rfl) rfl rfl (by (try simp only [List.map_toArray]); (try simp only [List.map_cons]); (try simp only [List.map_nil]); first | done | rfl | (simp only [List.length_drop, List.length_take]; rfl)) ?_
                      with_reducible refine (figureheadref01_digit.calls a0 x6_1 t494 _ A13.out).mono ?_
                      rintro e w' ⟨rfl, ⟨nd, rfl⟩⟩
                      refine ⟨_, rfl, ?_⟩
                      refine hK.out _ _ (hHeld) (fun hHeld => ?_)
                      clear hK K
                      refine norm_ (a' := ?_) ?_ ?_
                      rotate_left
                      · show Act.put _ (some 43) _ = _
                        simp only [Act.put, List.setIfInBounds_toArray, List.set_cons_zero, List.set_cons_succ]; (try simp only [i64_w]); (try simp only [i32_w])
                        rfl
                      refine one_ (i := 15) (N := some 46) #[true, true, true, true, true, true, true, true, true, true, true, true, true, true, true, true, false, false, false, false] rfl rfl (one_of HT_.out (by kernel_rfl)) (by decide) (fun K hK => ?_)
                      refine goes_ Tryd.func76 (by kernel_rfl) rfl #[.string a1, .int .i64 x7_2] (by rfl) rfl rfl (by (try simp only [List.map_toArray]); (try simp only [List.map_cons]); (try simp only [List.map_nil]); first | done | rfl | (simp only [List.length_drop, List.length_take]; rfl)) ?_
                      with_reducible refine (figureheadref01_digit.calls a1 x7_2 t495 _ A14.out).mono ?_
                      rintro e w' ⟨rfl, ⟨nd, rfl⟩⟩
                      refine ⟨_, rfl, ?_⟩
                      have p15 : 0 ≤ ((ji10) : Int) := of_decide_eq_true (by first | (with_reducible assumption) | assumption)
                      have q15 : ((ji10) : Int) < ((x5_2.length : Int) : Int) := of_decide_eq_true (by first | (with_reducible assumption) | assumption)
                      obtain ⟨go15, co15, eo15, gb15, gl15, cl15, HG15⟩ := Kd.R_form HO_5.out (by omega)
                      (first | cases eo15 | (injection eo15 with ea_ en_ ec_; (first | subst ea_ | (injection ea_ with ea_; subst ea_)); subst ec_; clear en_))
                      have GB15 := Aside0.mk gb15
                      have GG15 := Aside0.mk HG15
                      clear gb15 gl15 HG15
                      (first | simp only [add_plain] at hx493_0 | skip)
                      obtain ⟨hx15_0, hf15_0⟩ := Kd.R_celln 0 HO_5.out ((ji10) : Int) p15 q15
                      replace p15 := eq_true p15
                      replace q15 := eq_true q15
                      have HP18 := Kd.R_putn HO_5.out ((ji10) : Int) (wrap64 ((rd x5_2 (ji10)) + (wrap64 (t494 * t495))))
                      rw [← Ny496.out] at HP18
                      have HQ18 := Aside0.mk HP18
                      clear HP18
                      refine hK.out _ _ (hHeld) (fun hHeld => ?_)
                      clear hK K
                      refine norm_ (a' := ?_) ?_ ?_
                      rotate_left
                      · show Act.put _ (some 46) _ = _
                        simp only [Act.put, List.setIfInBounds_toArray, List.set_cons_zero, List.set_cons_succ]; (try simp only [i64_w]); (try simp only [i32_w])
                        rfl
                      refine pure_ (i := 16) (N := some 47) (v := ?_) (a' := ?_) #[true, true, true, true, true, true, true, true, true, true, true, true, true, true, true, true, true, false, false, false] rfl rfl (any_of HT_.out (by kernel_rfl)) (fun _ _ _ h => h) (Or.inl ⟨by rfl, ?_⟩) ?_ ?_
                      rotate_left
                      · intro w'
                        go_simp
                        with_reducible rfl
                      rotate_left
                      · simp only [Act.put, List.setIfInBounds_toArray, List.set_cons_zero, List.set_cons_succ]; (try simp only [i64_w]); (try simp only [i32_w])
                        rfl
                      refine pure_ (i := 17) (N := some 48) (v := ?_) (a' := ?_) #[true, true, true, true, true, true, true, true, true, true, true, true, true, true, true, true, true, true, false, false] rfl rfl (any_of HT_.out (by kernel_rfl)) (fun _ _ _ h => h) (Or.inl ⟨by rfl, ?_⟩) ?_ ?_
                      rotate_left
                      · intro w'
                        go_simp
                        with_reducible rfl
                      rotate_left
                      · simp only [Act.put, List.setIfInBounds_toArray, List.set_cons_zero, List.set_cons_succ]; (try simp only [i64_w]); (try simp only [i32_w])
                        rfl
                      refine pure_ (i := 18) (N := some 49) (v := ?_) (a' := ?_) #[true, true, true, true, true, true, true, true, true, true, true, true, true, true, true, true, true, true, true, false] rfl rfl (any_of HT_.out (by kernel_rfl)) (fun _ _ _ h => h) (Or.inl ⟨by rfl, ?_⟩) ?_ ?_
                      rotate_left
                      · intro w'
                        go_simp
                        with_reducible rfl
                      rotate_left
                      · simp only [Act.put, List.setIfInBounds_toArray, List.set_cons_zero, List.set_cons_succ]; (try simp only [i64_w]); (try simp only [i32_w])
                        rfl
                      refine last_ (i := 19) (N := none) #[true, true, true, true, true, true, true, true, true, true, true, true, true, true, true, true, true, true, true, true] rfl rfl (one_of HT_.out (by kernel_rfl)) (by decide) (fun K hK => ?_)
                      refine skip_ (w1 := ?_) (by rfl) rfl ?_ ?_
                      rotate_left
                      · go_simp
                        rfl
                      refine hK.out _ _ ?_
                      clear hK K
                      refine done_ (done_of HT_.out (by kernel_rfl)) ?_
                      try go_wp2
                      go_roundg k2
                      case measure => have := HK1.out; have := HK2.out; omega
                      case rel => exact ⟨(y496), (wrap64 (x7_2 + 1)), (by first | rfl | (simp; done) | (simp [*]; done) | (simp [*, Fig.bne_nil]; done)), H', ⟨by have := HK1.out; have := HK2.out; omega⟩, ⟨by (with_reducible repeat (first | apply Kd.R_alloc | apply Kd.R_drewN | apply Kd.R_drew)); exact HQ18.out⟩, ⟨by repeat (first | (with_reducible first | exact HB.out | apply below_alloc | apply pw_below_drewN | apply below_drew1 | refine below_set ?_ GB15.out) | exact HB.out)⟩⟩
                    · rw [if_neg c12] at H
                      exact absurd H (by simp)
                  · rw [if_neg c11] at H
                    exact absurd H (by simp)
                · rw [if_neg c9] at H
                  have c9b0 : decide (x7_2 < (a1.size : Int)) = false := decide_eq_false c9
                  clear c9
                  have H' := Aside0.mk H
                  clear H
                  go_wp2
                  go_roundg k2
                  case measure => have := HK1.out; have := HK2.out; omega
                  case rel => exact ⟨(x5_2), (wrap64 (x6_1 + 1)), (by first | rfl | (simp; done) | (simp [*]; done) | (simp [*, Fig.bne_nil]; done)), H', ⟨by have := HK1.out; have := HK2.out; omega⟩, ⟨by (with_reducible repeat (first | apply Kd.R_alloc | apply Kd.R_drewN | apply Kd.R_drew)); exact HO_5.out⟩, ⟨by repeat (first | (with_reducible first | exact HB.out | apply below_alloc | apply pw_below_drewN | apply below_drew1) | exact HB.out)⟩⟩
          · rw [if_neg c8] at H
            have c8b0 : decide (x6_1 < (a0.size : Int)) = false := decide_eq_false c8
            clear c8
            have H' := Aside0.mk H
            clear H
            go_wp2
            go_loopg [8, 9, 10] k1 (fun kq v8 v9 v10 w' => ∃ (x8_2 : List Int) (x9_2 : Int) (x10_2 : Int), v9 = .int .i64 x9_2 ∧ v10 = .int .i64 x10_2 ∧ Aside0 (figureheadref01_Times.l2 kq x5_1 x8_2 x9_2 x10_2 = some r) ∧ Aside0 (kq ≤ k1) ∧ Aside0 (Kd.R (Kd.int .i64) 3 w' w.heap.size (fun _ => True) v491 x5_1) ∧ Aside0 (Kd.R (Kd.int .u8) 5 w' w.heap.size (fun _ => True) v8 x8_2) ∧ Aside0 (Below w.heap.size w w'))
            case atStart => exact ⟨(([] : List Int)), (0), (0), (by first | rfl | (simp; done) | (simp [*]; done) | (simp [*, Fig.bne_nil]; done)), (by first | rfl | (simp; done) | (simp [*]; done) | (simp [*, Fig.bne_nil]; done)), H', ⟨Nat.le_refl _⟩, ⟨by (with_reducible repeat (first | apply Kd.R_alloc | apply Kd.R_drewN | apply Kd.R_drew)); exact HO_5.out⟩, ⟨by first | exact Kd.R_nil _ _ _ _ _ | exact Kd.N_nil _ _ _ _ _ | exact Kd.V_nil _ _ _ _ _ | exact Kd.Q_nil _ _ _ _ _ | exact Kd.S_nil _ _ _ _ _⟩, ⟨by repeat (first | (with_reducible first | exact HB.out | apply below_alloc | apply pw_below_drewN | apply below_drew1) | exact HB.out)⟩⟩
            case round =>
              clear H'
              try clear c1
              try clear p1
              try clear q1
              try clear hx1
              try clear p2
              try clear c4
              try clear c4b0
              try clear c4b1
              try clear p4
              try clear q4
              try clear hx4
              try clear c5
              try clear c5b0
              try clear c5b1
              try clear c6
              try clear p6
              try clear c7
              try clear c8
              try clear c8b0
              try clear c9
              try clear c9b0
              try clear c11
              try clear c11b0
              try clear c12
              try clear c12b0
              try clear p15
              try clear q15
              try clear hx15
              try clear hf15
              try clear hx15_0
              try clear hx493_0
              try clear p15
              try clear p2
              try clear p493
              try clear p6
              try clear q15
              try clear q493
              obtain ⟨x8_2, x9_2, x10_2, rfl, rfl, HA, HK2, HO_5, HO_8, HB⟩ := hrel
              cases gk with
              | zero => exact absurd HA.out (by simp [figureheadref01_Times.l2])
              | succ k2 =>
                have H := HA.out
                clear HA
                simp only [figureheadref01_Times.l2] at H
                by_cases c19 : x10_2 < (x5_1.length : Int)
                · rw [if_pos c19] at H
                  have c19b0 : decide (x10_2 < (x5_1.length : Int)) = true := decide_eq_true c19
                  clear c19
                  by_cases c20 : 0 ≤ x10_2
                  · rw [if_pos c20] at H
                    have c20b0 : decide (0 ≤ x10_2) = true := decide_eq_true c20
                    clear c20
                    by_cases c21 : x8_2.length < 140737488355328
                    · rw [if_pos c21] at H
                      have LMc21 := Aside0.mk c21
                      clear c21
                      obtain ⟨y498, hy498⟩ : ∃ y_ : List Int, y_ = (x8_2 ++ [(wrap64 (48 + (Int.tmod (wrap64 ((rd x5_1 x10_2) + x9_2)) 10))) % 256]) := ⟨_, rfl⟩
                      replace H : (figureheadref01_Times.l2 k2 x5_1 y498 (wrap64 (Int.tdiv (wrap64 ((rd x5_1 x10_2) + x9_2)) 10)) (wrap64 (x10_2 + 1))) = some r := by first | (rw [hy498]; with_reducible exact H) | (have H2_ := (Option.bind_some _ _).symm.trans H; rw [hy498]; with_reducible exact H2_) | (have H2_ := (Option.bind_some _ _).symm.trans H; with_reducible exact H2_) | with_reducible exact H | (rw [hy498]; exact H) | exact H
                      have Ny498 := Aside0.mk hy498
                      clear hy498
                      have H' := Aside0.mk H
                      clear H
                      obtain ⟨Ao22, co22, eo22⟩ := Kd.R_slice HO_5.out
                      subst eo22
                      have p497 : 0 ≤ (x10_2 : Int) := of_decide_eq_true (by first | (with_reducible assumption) | assumption)
                      have q497 : x10_2 < (x5_1.length : Int) := of_decide_eq_true (by first | (with_reducible assumption) | assumption)
                      obtain ⟨ad497, e497, hx497_0⟩ := Kd.at_int (Kd.R_reads' HO_5.out).2.2 x10_2 p497 q497
                      cases e497
                      replace p497 := eq_true p497
                      replace q497 := eq_true q497
                      go_wp2_with (first | ((with_reducible refine gate_builtin (b := .append) (xs := #[.tmp 62, .tmp 67]) rfl ?_); at_builtin; refine Kd.R_append (Kd.int .u8) (w0 := w) w.heap.size rfl (.tmp 62) (.tmp 67) 74 5 (.int .u8 0) 1 rfl Tryd.underlying74 info5 rfl (by decide) (by omega) u8 x8_2 ((wrap64 (48 + (Int.tmod (wrap64 ((rd x5_1 x10_2) + x9_2)) 10))) % 256) [.int .u8 ((wrap64 (48 + (Int.tmod (wrap64 ((rd x5_1 x10_2) + x9_2)) 10))) % 256)] (fun _ => True) (fun _ => False) rfl rfl ?aP (fun _ hk => hk.elim) ?aF ?aO ?aB ?aS ?aL ?_; (case aP => exact rfl); (case aB => exact (by repeat (first | (with_reducible first | exact HB.out | apply below_alloc | apply pw_below_drewN | apply below_drew1) | exact HB.out))); (case aF => exact (fun _ _ => trivial)); (case aO => exact (by (with_reducible repeat (first | apply Kd.R_alloc | apply Kd.R_drewN | apply Kd.R_drew)); exact HO_8.out)); (case aS => exact (below_size (by repeat (first | (with_reducible first | exact HB.out | apply below_alloc | apply pw_below_drewN | apply below_drew1) | exact HB.out)))); (case aL => have := LMc21.out; omega); intro v499 w23 ho hb hg hat; rw [← Ny498.out] at ho; have n0_ := Aside0.mk (Kd.R_over' (by (with_reducible repeat (first | apply Kd.R_alloc | apply Kd.R_drewN | apply Kd.R_drew)); exact HO_5.out) (Kd.R_typed (by (with_reducible repeat (first | apply Kd.R_alloc | apply Kd.R_drewN | apply Kd.R_drew)); exact HO_8.out)) (by decide) hg); have n1_ := Aside0.mk (hb); have n2_ := Aside0.mk (ho); clear HO_5; clear HB; clear HO_8; have HO_5 := n0_; have HB := n1_; have HO500 := n2_; clear n0_ n1_ n2_; clear ho hb hg hat))
                      go_roundg k2
                      case measure => have := HK1.out; have := HK2.out; omega
                      case rel => exact ⟨(y498), (wrap64 (Int.tdiv (wrap64 ((rd x5_1 x10_2) + x9_2)) 10)), (wrap64 (x10_2 + 1)), (by first | rfl | (simp; done) | (simp [*]; done) | (simp [*, Fig.bne_nil]; done)), (by first | rfl | (simp; done) | (simp [*]; done) | (simp [*, Fig.bne_nil]; done)), H', ⟨by have := HK1.out; have := HK2.out; omega⟩, ⟨by (with_reducible repeat (first | apply Kd.R_alloc | apply Kd.R_drewN | apply Kd.R_drew)); exact HO_5.out⟩, ⟨by (with_reducible repeat (first | apply Kd.R_alloc | apply Kd.R_drewN | apply Kd.R_drew)); exact HO500.out⟩, ⟨by repeat (first | (with_reducible first | exact HB.out | apply below_alloc | apply pw_below_drewN | apply below_drew1) | exact HB.out)⟩⟩
                    · rw [if_neg c21] at H
                      exact absurd H (by simp)
                  · rw [if_neg c20] at H
                    exact absurd H (by simp)
                · rw [if_neg c19] at H
                  have c19b0 : decide (x10_2 < (x5_1.length : Int)) = false := decide_eq_false c19
                  clear c19
                  replace H := Option.bind_eq_some_iff.mp H
                  obtain ⟨t501, A240, H⟩ := H
                  replace H : ((figureheadref01_Strip.f k2 t501).bind fun t502 => (some t502)) = some r := H
                  have A24 := Aside0.mk A240
                  clear A240
                  replace H := Option.bind_eq_some_iff.mp H
                  obtain ⟨t502, A250, H⟩ := H
                  replace H : (some t502) = some r := H
                  have A25 := Aside0.mk A250
                  clear A250
                  obtain rfl := Option.some.inj H
                  obtain ⟨Ao26, co26, eo26⟩ := Kd.R_slice HO_5.out
                  subst eo26
                  obtain ⟨Ao27, co27, eo27⟩ := Kd.R_slice HO_8.out
                  subst eo27
                  go_wp2_with (first | ((with_reducible refine gate_callee (f := 77) rfl ?_); refine goesL_ (some 72) rfl rfl Tryd.func77 (by kernel_rfl) rfl #[.slice Ao27 x8_2.length co27] rfl (by (try simp only [List.map_toArray]); (try simp only [List.map_cons]); (try simp only [List.map_nil]); first | done | rfl | (simp only [List.length_drop, List.length_take]; rfl)) ?_; (with_reducible refine (figureheadref01_turned.calls k2 _ _ x8_2 t501 _ ?side1 ?side2 A24.out).mono ?_); (case side1 => repeat (first | exact (Kd.R_reads' HO_8.out).2.2 | (with_reducible refine Kd.C_alloc ?_ _) | (with_reducible refine Kd.C_drewN ?_ _) | (with_reducible refine Kd.C_drew ?_))); (case side2 => exact (Kd.R_reads' HO_8.out).2.1); rintro e w28 ⟨rfl, hb⟩; refine ⟨_, rfl, ?_⟩; have n0_ := Aside0.mk (Kd.R_below (by (with_reducible repeat (first | apply Kd.R_alloc | apply Kd.R_drewN | apply Kd.R_drew)); exact HO_5.out) hb); have n1_ := Aside0.mk (Kd.R_below (by (with_reducible repeat (first | apply Kd.R_alloc | apply Kd.R_drewN | apply Kd.R_drew)); exact HO_8.out) hb); have n2_ := Aside0.mk (below_step (by repeat (first | (with_reducible first | exact HB.out | apply below_alloc | apply pw_below_drewN | apply below_drew1) | exact HB.out)) hb); clear HO_5; clear HO_8; clear HB; have HO_5 := n0_; have HO_8 := n1_; have HB := n2_; clear n0_ n1_ n2_; (try clear hb); (try clear hb2); (try clear hk); (try clear hi)) | ((with_reducible refine gate_callee (f := 46) rfl ?_); refine goesL_ (some 73) rfl rfl Tryd.func46 (by kernel_rfl) rfl #[.string t501] rfl (by (try simp only [List.map_toArray]); (try simp only [List.map_cons]); (try simp only [List.map_nil]); first | done | rfl | (simp only [List.length_drop, List.length_take]; rfl)) ?_; (with_reducible refine (figureheadref01_Strip.calls k2 t501 t502 _ A25.out).mono ?_); rintro e w' ⟨rfl, ⟨nd, rfl⟩⟩; refine ⟨_, rfl, ?_⟩))
                  go_ret
                  exact ⟨by first | rfl | (simp [errW_none, errW_some] <;> rfl) | (simp only [← hji3]; first | rfl | (simp [errW_none, errW_some] <;> rfl)) | (simp [*, errW_none, errW_some] <;> rfl), by repeat (first | (with_reducible first | exact HB.out | apply below_alloc | apply pw_below_drewN | apply below_drew1) | exact HB.out)⟩
    · rw [if_neg c5] at H
      exact absurd H (by simp)
  · rw [if_neg c4] at H
    exact absurd H (by simp)
end Go.Proofs.YtbjaiphfehnncaaDoor.Px
end
section
namespace Go.Proofs.YtbjaiphfehnncaaDoor.Px
open Fig Go.RowKit Go.Proofs.YtbjaiphfehnncaaDoorW.PrintWords Go.Proofs.YtbjaiphfehnncaaDoorW.PrintLast Go.Proofs.YtbjaiphfehnncaaDoorW.PrintMore
attribute [local go_sem] max2_int min2_int max_two min_two max_three min_three max_four min_four   -- for this text's walks alone
attribute [local go_sem] fieldA23_0 fieldA23_1 fieldA23_2
def va : List Int → Nat
  | [] => 0
  | x :: l => x.toNat + 10 * va l
end Go.Proofs.YtbjaiphfehnncaaDoor.Px
end
section
namespace Go.Proofs.YtbjaiphfehnncaaDoor.Px
open Fig Go.RowKit Go.Proofs.YtbjaiphfehnncaaDoorW.PrintWords Go.Proofs.YtbjaiphfehnncaaDoorW.PrintLast Go.Proofs.YtbjaiphfehnncaaDoorW.PrintMore
attribute [local go_sem] max2_int min2_int max_two min_two max_three min_three max_four min_four   -- for this text's walks alone
attribute [local go_sem] fieldA23_0 fieldA23_1 fieldA23_2
theorem small_len (p : Nat) (hp : p ≤ 1000000) : wrap64 ((p : Int) + 2) = ((p + 2 : Nat) : Int) := by rw [w64 (by omega) (by omega)]; omega
theorem Small_ev {a : List Int} {y m : Nat} (ga : goodL a = true) (la : a.length ≤ 1000000) (hy : y < 1000000000) (hm : m < 1000000000) : Ev (fun k => mul_Small.f k a (y : Int) (m : Int)) (limbs (valL a * y + m)) := by
  unfold mul_Small.f
  rw [small_len _ la]
  have c1 : (0 : Int) ≤ ((a.length + 2 : Nat) : Int) := by omega
  have c2 : a.length + 2 ≤ 70368744177664 := by omega
  simp only [Int.toNat_natCast, c1, c2, if_true, Option.bind_some]
  have c3 : (0 : Int) < (((List.replicate (a.length + 2) (0 : Int)).length : Nat) : Int) := by simp; omega
  simp only [c3, if_true]
  have e1 : (List.replicate (a.length + 2) (0 : Int)).set (0 : Int).toNat (m : Int) = (m : Int) :: List.replicate (a.length + 1) 0 := by rw [List.replicate_succ]; rfl
  rw [e1]
  have g1 : goodL ((m : Int) :: List.replicate (a.length + 1) 0) = true := goodL_cons.2 ⟨by omega, goodL_replicate _⟩
  have v1 : valL ((m : Int) :: List.replicate (a.length + 1) 0) = m := by simp [valL, valL_replicate]
  have l1 : ((m : Int) :: List.replicate (a.length + 1) 0).length = a.length + 2 := by simp
  have hlt : valL ((m : Int) :: List.replicate (a.length + 1) 0) + 1000000000 ^ 0 * (valL a * y) < 1000000000 ^ ((m : Int) :: List.replicate (a.length + 1) 0).length := by
    rw [v1, l1, Nat.pow_zero, Nat.one_mul]
    have va := valL_lt ga
    have h3 : valL a * y ≤ 1000000000 ^ a.length * 999999999 := Nat.mul_le_mul (by omega) (by omega)
    have h4 : 1000000000 ^ (a.length + 2) = 1000000000 ^ a.length * 1000000000 * 1000000000 := by rw [Nat.pow_succ, Nat.pow_succ]
    have h5 : 1 ≤ 1000000000 ^ a.length := Nat.one_le_pow _ _ (by omega)
    omega
  obtain ⟨r, hr, g2, g3, g4⟩ := row_ev (p := 0) g1 ga hy (by rw [l1]; omega) (by rw [l1]; omega) hlt
  refine Ev.bind hr ?_
  simp only [nat_Trim.f]
  rw [trimF_eq g2 (by rw [g3, l1]; omega)]
  refine evIs (Ev.now _) ?_
  rw [g4, v1, Nat.pow_zero, Nat.one_mul, Nat.add_comm]
end Go.Proofs.YtbjaiphfehnncaaDoor.Px
end
section
namespace Go.Proofs.YtbjaiphfehnncaaDoor.Px
open Fig Go.RowKit Go.Proofs.YtbjaiphfehnncaaDoorW.PrintWords Go.Proofs.YtbjaiphfehnncaaDoorW.PrintLast Go.Proofs.YtbjaiphfehnncaaDoorW.PrintMore
attribute [local go_sem] max2_int min2_int max_two min_two max_three min_three max_four min_four   -- for this text's walks alone
attribute [local go_sem] fieldA23_0 fieldA23_1 fieldA23_2
set_option maxRecDepth 100000
def ten_Shift.f (l0 : List Int) (a1 : Int) : Option (List Int) := if goodL l0 = true ∧ l0.length ≤ 500000 ∧ a1 ≤ 1000000 then some (limbs (valL l0 * 10 ^ a1.toNat)) else none
theorem R_made (W : World) (base m : Nat) (e : TypeId) (hb : base ≤ W.heap.size) (hm : m ≤ 281474976710656) : Kd.R (Kd.int .u32) e (W.alloc (.cells (madeCells #[.int .u32 0] m) e)) base (fun _ => True) (.slice (some ⟨W.heap.size, 0, none⟩) m m) (List.replicate m 0) := by
  rw [← Nat.mul_one m, show #[Value.int .u32 0] = (Value.int .u32 0).cells from rfl, Nat.mul_one]
  refine ⟨fun _ _ => trivial, (madeCells (Value.int .u32 0).cells (m * 1)).toList, ⟨?_, .inr ⟨W.heap.size, m, _, ?_, hb, by simpa using heap_alloc_new W _, ?_, ?_, ?_, ?_⟩⟩, Kd.reps_made (z := .int .u32 0) (size := 1) (z0 := 0) rfl (by decide) rfl m⟩
  · simp [size_madeCells, show (Kd.int .u32).sz = 1 from rfl]
  · rw [List.length_replicate]
  · rw [List.length_replicate]; exact Nat.le_refl _
  · unfold maxLen; omega
  · simp [size_madeCells, show (Kd.int .u32).sz = 1 from rfl]
  · rw [List.length_replicate, List.take_of_length_le (by simp [size_madeCells, show (Kd.int .u32).sz = 1 from rfl]), Nat.mul_one]
set_option maxHeartbeats 4000000 in
theorem ten_Shift.calls (A0 : Option Addr) (c0 : Nat) (l0 : List Int) (a1 : Int) (r : List Int) (w : World) (hG : Fig.Glob w) (hr0 : Kd.C (Kd.int .u32) w A0 l0.length l0) (hc0 : l0.length ≤ c0) (h : ten_Shift.f l0 a1 = some r) :
    Calls Tryd.prog 52 #[.slice A0 l0.length c0, .int .i64 a1] w fun e w' => ∃ v0_ : Value, e = .returned (v0_) ∧ Kd.R (Kd.int .u32) 47 w' w.heap.size (fun _ => True) v0_ r ∧ Below w.heap.size w w' := by
  unfold ten_Shift.f at h
  by_cases hg : goodL l0 = true ∧ l0.length ≤ 500000 ∧ a1 ≤ 1000000
  · rw [if_pos hg] at h
    obtain rfl := Option.some.inj h
    obtain ⟨g0, z0, z1⟩ := hg
    obtain ⟨m, hm⟩ : ∃ m : Nat, m = a1.toNat := ⟨_, rfl⟩
    rw [← hm]
    by_cases ha : a1 < 0
    · obtain rfl : m = 0 := by omega
      have e0 : IntKind.i64.wrap 0 = 0 := by rw [IntKind.wrap_i64]; rfl
      have HR0 := Aside0.mk hr0
      have HC0 := Aside0.mk hc0
      have HG := Aside0.mk hG
      have G0 := Aside0.mk g0
      have hcell := hG.pows 0 (by omega)
      have HT := Aside0.mk (trimF_eq g0 (by omega))
      have hlt : (limbs (valL l0)).length ≤ l0.length := limbs_len_le (valL_lt g0)
      clear hr0 hc0 hG g0 h hm
      go_enter Tryd.func52, Tryd.ntmps52
      go_wp2_with (first
        | (go_at_call 62; (with_reducible refine (nat_Trim.calls A0 c0 l0 (limbs (valL l0)) _ ?side1 ?side2 ?side3).mono ?_); (case side3 => exact HT.out); (case side1 => exact HR0.out); (case side2 => exact HC0.out); rintro e w1 ⟨v0, rfl, ho, hb⟩; obtain ⟨A1, c1, rfl⟩ := Kd.R_slice ho; have HO := Aside0.mk ho; have HB := Aside0.mk hb; clear ho hb))
      · rename_i hz
        have hz0 : limbs (valL l0) = [] := List.eq_nil_of_length_eq_zero (by simpa using hz)
        have hv : valL l0 = 0 := by have := limbs_val (valL l0); rw [hz0] at this; exact this.symm
        go_ret
        refine ⟨_, rfl, ?_, HB.out⟩
        rw [hv, Nat.zero_mul, limbs_zero]
        exact Kd.R_nil _ _ _ _ _
      · skip
        have hc1 : w1.cell? ⟨0, 0, none⟩ = some (.int .u32 (([1, 10, 100, 1000, 10000, 100000, 1000000, 10000000, 100000000] : List Int).getD 0 0)) := (HB.out.cell (World.block_lt_of_cell? w _ hcell)).trans hcell
        obtain ⟨p, hp⟩ : ∃ p : Nat, p = 10 ^ 0 := ⟨_, rfl⟩
        have hpp : ([1, 10, 100, 1000, 10000, 100000, 1000000, 10000000, 100000000] : List Int).getD 0 0 = (p : Int) := by rw [hp]; rfl
        rw [hpp] at hc1
        rw [hpp] at hcell
        have HCW := Aside0.mk hcell
        have hc2 : ∀ o : Obj, (w1.alloc o).cell? ⟨0, 0, none⟩ = some (.int .u32 (p : Int)) := fun o => (World.cell?_alloc_lt _ _ _ (World.block_lt_of_cell? _ _ hc1)).trans hc1
        obtain ⟨i0, hi0, hi1⟩ := info_parts info47
        have hmk : ∀ W : World, (Instr.makeSlice 28 (.int .i64 0) (.int .i64 0)).run Tryd.prog W = .ok (.slice (some ⟨W.heap.size, 0, none⟩) 0 0) (W.alloc (.cells (madeCells (Value.int .u32 0).cells (0 * 1)) 47)) := fun W => by
          have := run_make (P := Tryd.prog) W 28 47 i0 (.int .u32 0) Tryd.underlying28 hi0 hi1.1 .i64 .i64 0 0 (by omega) (by omega) (by rw [hi1.2.2]; omega) (by omega)
          rw [hi1.2.1] at this; exact this
        have HPP := Aside0.mk hp
        clear hpp hp hcell
        obtain ⟨y, hy⟩ : ∃ y, y = List.replicate 0 0 ++ limbs (valL l0) := ⟨_, rfl⟩
        have HY := Aside0.mk hy
        have hyl : y.length ≤ 1000000 := by rw [hy, List.length_append, List.length_replicate]; omega
        have hyg : goodL y = true := by rw [hy]; exact goodL_append.2 ⟨goodL_replicate 0, limbs_good _⟩
        have hyv : valL y = 1000000000 ^ 0 * valL l0 := by rw [hy, valL_append, valL_replicate, List.length_replicate, limbs_val, Nat.zero_add]
        have hp9 : p < 1000000000 := by rw [HPP.out]; exact Nat.lt_of_lt_of_le (Nat.pow_lt_pow_right (by decide) (show 0 < 9 by decide)) (by decide)
        obtain ⟨k, hk⟩ := Ev.rounds (Small_ev (m := 0) hyg hyl hp9 (by decide))
        have HK := Aside0.mk hk
        have HL := Aside0.mk (show ((List.replicate 0 (0 : Int)).length + (limbs (valL l0)).length) * 4 ≤ 140737488355328 by rw [List.length_replicate]; omega)
        have HV := Aside0.mk hyv
        clear hy hyl hyg hyv hk hlt
        go_region_law (first
          | (refine Kd.R_append_rows_step (Kd.int .u32) (w0 := w) w.heap.size (by rfl) (.tmp 14) (.tmp 15) 28 47 (.int .u32 0) 4 rfl Tryd.underlying28 info47 rfl (by decide) (by omega) (.slice (some ⟨w1.heap.size, 0, none⟩) 0 0) (List.replicate 0 0) (limbs (valL l0)) A1 (limbs (valL l0)).length c1 (fun _ => True) (fun _ => False) (by simp [Act.eval]) (by simp [Act.eval]) ?aO ?aR (fun _ _ h => h) (fun _ h => h.elim) (fun _ _ => trivial) ?aB ?aS ?aL ?_
             (case aO => exact Kd.R_drew (R_made w1 w.heap.size 0 47 HB.out.size (by omega)))
             (case aR => exact Kd.C_drew (Kd.C_alloc (Kd.R_reads' HO.out).2.2 _))
             (case aB => exact (HB.out.alloc HB.out.size _).drew)
             (case aS => exact ((HB.out.alloc HB.out.size _).drew (B := w.heap.size)).size)
             (case aL => exact HL.out)
             intro v1 w2 ho2 hb2 hg2 hat2
             rw [← HY.out] at ho2
             obtain ⟨A2, c2, rfl⟩ := Kd.R_slice ho2
             have HO2 := Aside0.mk ho2
             have HB2 := Aside0.mk hb2
             have hc3 := (hb2.cell (World.block_lt_of_cell? w _ HCW.out)).trans HCW.out
             clear ho2 hb2 hg2 hat2)
          | (go_simp
             go_wp2_with (go_at_call 74; (with_reducible refine (mul_Small.calls k A2 c2 y (p : Int) 0 (limbs (valL y * p + 0)) _ ?side1 ?side2 ?side3).mono ?_); (case side1 => exact (Kd.R_reads' HO2.out).2.2); (case side2 => exact (Kd.R_reads' HO2.out).2.1); (case side3 => exact HK.out); rintro e w3 ⟨v3, rfl, ho3, hb3⟩; have HO3 := Aside0.mk ho3; have HB3 := Aside0.mk hb3; clear ho3 hb3)))
        all_goals
          go_wp2
          go_ret
          refine ⟨_, rfl, ?_, HB2.out.trans (HB3.out.mono HB2.out.size)⟩
          have e : limbs (valL l0 * 10 ^ 0) = limbs (valL y * p + 0) := by
            rw [HV.out, HPP.out, Nat.add_zero, pow9, Nat.mul_comm (10 ^ (9 * 0)), Nat.mul_assoc, ← Nat.pow_add]
          rw [e]
          exact Kd.R_lower HO3.out HB2.out.size
    obtain rfl : a1 = (m : Int) := by omega
    have hm6 : m ≤ 1000000 := by omega
    obtain ⟨n9, hn9⟩ : ∃ n9, n9 = m / 9 := ⟨_, rfl⟩
    obtain ⟨q9, hq9⟩ : ∃ q9, q9 = m % 9 := ⟨_, rfl⟩
    have e9 : IntKind.i64.wrap ((m : Int) / 9) = (n9 : Int) := by rw [IntKind.wrap_i64]; omega
    have r9 : (m : Int).tmod 9 = (q9 : Int) := by rw [Int.tmod_eq_emod_of_nonneg (by omega)]; omega
    have hq : q9 < 9 := by omega
    have hn : n9 ≤ 200000 := by omega
    have HN9 := Aside0.mk hn9
    have HQ9 := Aside0.mk hq9
    have HR0 := Aside0.mk hr0
    have HC0 := Aside0.mk hc0
    have HG := Aside0.mk hG
    have G0 := Aside0.mk g0
    have hcell := hG.pows q9 hq
    have HT := Aside0.mk (trimF_eq g0 (by omega))
    have hlt : (limbs (valL l0)).length ≤ l0.length := limbs_len_le (valL_lt g0)
    clear hr0 hc0 hG g0 h hm hn9 hq9
    go_enter Tryd.func52, Tryd.ntmps52
    go_wp2_with (first
      | (go_at_call 62; (with_reducible refine (nat_Trim.calls A0 c0 l0 (limbs (valL l0)) _ ?side1 ?side2 ?side3).mono ?_); (case side3 => exact HT.out); (case side1 => exact HR0.out); (case side2 => exact HC0.out); rintro e w1 ⟨v0, rfl, ho, hb⟩; obtain ⟨A1, c1, rfl⟩ := Kd.R_slice ho; have HO := Aside0.mk ho; have HB := Aside0.mk hb; clear ho hb))
    · rename_i hz
      have hz0 : limbs (valL l0) = [] := List.eq_nil_of_length_eq_zero (by simpa using hz)
      have hv : valL l0 = 0 := by have := limbs_val (valL l0); rw [hz0] at this; exact this.symm
      go_ret
      refine ⟨_, rfl, ?_, HB.out⟩
      rw [hv, Nat.zero_mul, limbs_zero]
      exact Kd.R_nil _ _ _ _ _
    · skip
      have hc1 : w1.cell? ⟨0, q9, none⟩ = some (.int .u32 (([1, 10, 100, 1000, 10000, 100000, 1000000, 10000000, 100000000] : List Int).getD q9 0)) := (HB.out.cell (World.block_lt_of_cell? w _ hcell)).trans hcell
      obtain ⟨p, hp⟩ : ∃ p : Nat, p = 10 ^ q9 := ⟨_, rfl⟩
      have hpp : ([1, 10, 100, 1000, 10000, 100000, 1000000, 10000000, 100000000] : List Int).getD q9 0 = (p : Int) := by
        rw [hp]
        match q9, hq with
        | 0, _ => rfl
        | 1, _ => rfl
        | 2, _ => rfl
        | 3, _ => rfl
        | 4, _ => rfl
        | 5, _ => rfl
        | 6, _ => rfl
        | 7, _ => rfl
        | 8, _ => rfl
        | q + 9, h => exact absurd h (by omega)
      rw [hpp] at hc1
      rw [hpp] at hcell
      have HCW := Aside0.mk hcell
      have hc2 : ∀ o : Obj, (w1.alloc o).cell? ⟨0, q9, none⟩ = some (.int .u32 (p : Int)) := fun o => (World.cell?_alloc_lt _ _ _ (World.block_lt_of_cell? _ _ hc1)).trans hc1
      obtain ⟨i0, hi0, hi1⟩ := info_parts info47
      have hmk : ∀ W : World, (Instr.makeSlice 28 (.int .i64 (n9 : Int)) (.int .i64 (n9 : Int))).run Tryd.prog W = .ok (.slice (some ⟨W.heap.size, 0, none⟩) n9 n9) (W.alloc (.cells (madeCells (Value.int .u32 0).cells (n9 * 1)) 47)) := fun W => by
        have := run_make (P := Tryd.prog) W 28 47 i0 (.int .u32 0) Tryd.underlying28 hi0 hi1.1 .i64 .i64 (n9 : Int) (n9 : Int) (by omega) (by omega) (by rw [hi1.2.2]; omega) (by omega)
        rw [hi1.2.1, Int.toNat_natCast] at this; exact this
      have hd1 : decide ((q9 : Int) < 9) = true := decide_eq_true (by omega)
      have hd2 : ((q9 : Int) < 9) = True := eq_true (by omega)
      have HPP := Aside0.mk hp
      clear hpp hp hcell
      obtain ⟨y, hy⟩ : ∃ y, y = List.replicate n9 0 ++ limbs (valL l0) := ⟨_, rfl⟩
      have HY := Aside0.mk hy
      have hyl : y.length ≤ 1000000 := by rw [hy, List.length_append, List.length_replicate]; omega
      have hyg : goodL y = true := by rw [hy]; exact goodL_append.2 ⟨goodL_replicate n9, limbs_good _⟩
      have hyv : valL y = 1000000000 ^ n9 * valL l0 := by rw [hy, valL_append, valL_replicate, List.length_replicate, limbs_val, Nat.zero_add]
      have hp9 : p < 1000000000 := by rw [HPP.out]; exact Nat.lt_of_lt_of_le (Nat.pow_lt_pow_right (by decide) hq) (by decide)
      obtain ⟨k, hk⟩ := Ev.rounds (Small_ev (m := 0) hyg hyl hp9 (by decide))
      have HK := Aside0.mk hk
      have HL := Aside0.mk (show ((List.replicate n9 (0 : Int)).length + (limbs (valL l0)).length) * 4 ≤ 140737488355328 by rw [List.length_replicate]; omega)
      have HV := Aside0.mk hyv
      clear hy hyl hyg hyv hk hlt
      go_region_law (first
        | (refine Kd.R_append_rows_step (Kd.int .u32) (w0 := w) w.heap.size (by rfl) (.tmp 14) (.tmp 15) 28 47 (.int .u32 0) 4 rfl Tryd.underlying28 info47 rfl (by decide) (by omega) (.slice (some ⟨w1.heap.size, 0, none⟩) n9 n9) (List.replicate n9 0) (limbs (valL l0)) A1 (limbs (valL l0)).length c1 (fun _ => True) (fun _ => False) (by simp [Act.eval]) (by simp [Act.eval]) ?aO ?aR (fun _ _ h => h) (fun _ h => h.elim) (fun _ _ => trivial) ?aB ?aS ?aL ?_
           (case aO => exact Kd.R_drew (R_made w1 w.heap.size n9 47 HB.out.size (by omega)))
           (case aR => exact Kd.C_drew (Kd.C_alloc (Kd.R_reads' HO.out).2.2 _))
           (case aB => exact (HB.out.alloc HB.out.size _).drew)
           (case aS => exact ((HB.out.alloc HB.out.size _).drew (B := w.heap.size)).size)
           (case aL => exact HL.out)
           intro v1 w2 ho2 hb2 hg2 hat2
           rw [← HY.out] at ho2
           obtain ⟨A2, c2, rfl⟩ := Kd.R_slice ho2
           have HO2 := Aside0.mk ho2
           have HB2 := Aside0.mk hb2
           have hc3 := (hb2.cell (World.block_lt_of_cell? w _ HCW.out)).trans HCW.out
           clear ho2 hb2 hg2 hat2)
        | (go_simp
           go_wp2_with (go_at_call 74; (with_reducible refine (mul_Small.calls k A2 c2 y (p : Int) 0 (limbs (valL y * p + 0)) _ ?side1 ?side2 ?side3).mono ?_); (case side1 => exact (Kd.R_reads' HO2.out).2.2); (case side2 => exact (Kd.R_reads' HO2.out).2.1); (case side3 => exact HK.out); rintro e w3 ⟨v3, rfl, ho3, hb3⟩; have HO3 := Aside0.mk ho3; have HB3 := Aside0.mk hb3; clear ho3 hb3)))
      all_goals
        go_wp2
        go_ret
        refine ⟨_, rfl, ?_, HB2.out.trans (HB3.out.mono HB2.out.size)⟩
        have e : limbs (valL l0 * 10 ^ m) = limbs (valL y * p + 0) := by
          rw [HV.out, HPP.out, Nat.add_zero, pow9, Nat.mul_comm (10 ^ (9 * n9)), Nat.mul_assoc, ← Nat.pow_add, HN9.out, HQ9.out, Nat.div_add_mod]
        rw [e]
        exact Kd.R_lower HO3.out HB2.out.size
  · rw [if_neg hg] at h; cases h
end Go.Proofs.YtbjaiphfehnncaaDoor.Px
end
section
namespace Go.Proofs.YtbjaiphfehnncaaDoor.Px
open Fig Go.RowKit Go.Proofs.YtbjaiphfehnncaaDoorW.PrintWords Go.Proofs.YtbjaiphfehnncaaDoorW.PrintLast Go.Proofs.YtbjaiphfehnncaaDoorW.PrintMore
attribute [local go_sem] max2_int min2_int max_two min_two max_three min_three max_four min_four   -- for this text's walks alone
attribute [local go_sem] fieldA23_0 fieldA23_1 fieldA23_2
def dec_size.f (a0_0 : Bool) (a0_1 : ByteArray) (a0_2 : Int) (a1 : Int) : Option (List Int) := (dec_Coef.f a0_0 a0_1 a0_2).bind fun t141 => ((ten_Shift.f t141 (wrap64 (a0_2 - a1))).bind fun t144 => (some t144))
def dec_size.T1 : Bool × List (List Nat × List Nat) := (true, [([], []), ([0], [0]), ([], []), ([2], [2]), ([], []), ([3, 4], [3, 4]), ([1, 5, 1], [1, 5]), ([6, 6, 0, 1, 2, 3, 4, 5, 6], [6])])
def dec_size.B1 : List Nat := [0, 1, 0, 4, 0, 28, 63, 127]
theorem dec_size.tab1 : rtab .any (opsOf Tryd.f47 1) = dec_size.T1 := by kernel_rfl
theorem dec_size.bits1 : waitsOk dec_size.T1.2 dec_size.B1 = true := by kernel_rfl
set_option maxHeartbeats 8000000 in
set_option maxRecDepth 100000 in
theorem dec_size.calls (a0_0 : Bool) (a0_1 : ByteArray) (a0_2 : Int) (a1 : Int) (r : List Int) (w : World) (hG : Fig.Glob w) (h : dec_size.f a0_0 a0_1 a0_2 a1 = some r) :
    Calls Tryd.prog 47 #[.agg #[.bool a0_0, .string a0_1, .int .i64 a0_2], .int .i64 a1] w fun e w' => ∃ v0_ : Value, e = .returned (v0_) ∧ Kd.R (Kd.int .u32) 47 w' w.heap.size (fun _ => True) v0_ r ∧ Below w.heap.size w w' := by
  have hu23 := Tryd.underlying23
  have HG := Aside0.mk hG
  clear hG
  have HB := Aside0.mk (Below.refl w.heap.size w)
  have H : ((dec_Coef.f a0_0 a0_1 a0_2).bind fun t141 => ((ten_Shift.f t141 (wrap64 (a0_2 - a1))).bind fun t144 => (some t144))) = some r := h
  clear h
  replace H := Option.bind_eq_some_iff.mp H
  obtain ⟨t141, A30, H⟩ := H
  replace H : ((ten_Shift.f t141 (wrap64 (a0_2 - a1))).bind fun t144 => (some t144)) = some r := H
  have A3 := Aside0.mk A30
  clear A30
  replace H := Option.bind_eq_some_iff.mp H
  obtain ⟨t144, A40, H⟩ := H
  replace H : (some t144) = some r := H
  have A4 := Aside0.mk A40
  clear A40
  obtain rfl := Option.some.inj H
  go_enter Tryd.func47, Tryd.ntmps47
  try go_wp2_with (first | ((with_reducible refine gate_dst (N := 2) rfl ?_); refine box_event ?hg (N := 2) ?hd (cs := #[.bool a0_0, .string a0_1, .int .i64 a0_2]) (t := 23) ?hr ?_; (case hd => rfl); (case hg => rfl); (case hr => first | (go_simp; done) | (go_simp; rfl)); intro gb140 hg w5 hbox hb; have n0_ := Aside0.mk (below_step (by repeat (first | (with_reducible first | exact HB.out | apply below_alloc | apply pw_below_drewN | apply below_drew1) | exact HB.out)) hb); have n1_ := Aside0.mk (hbox); have n2_ := Aside0.mk ((by rw [hg]; exact (below_size (by repeat (first | (with_reducible first | exact HB.out | apply below_alloc | apply pw_below_drewN | apply below_drew1) | exact HB.out))) : w.heap.size ≤ gb140)); have n3_ := Aside0.mk ((by rw [hg]; exact (below_size (by repeat (first | (with_reducible first | exact HB.out | apply below_alloc | apply pw_below_drewN | apply below_drew1) | exact HB.out))) : w.heap.size ≤ gb140)); clear HB; have HB := n0_; have BK140 := n1_; have GW140 := n2_; have GE140 := n3_; clear n0_ n1_ n2_ n3_; clear hb hbox hg))
  (try (rw [drewN_self w5]; generalize hq_ : World.drewN w5 _ = w5; have n0_ : Aside0 (w5.heap[gb140]? = some (.cells #[.bool a0_0, .string a0_1, .int .i64 a0_2] 23 (0, 0))) := ⟨by rw [← hq_]; exact (by (with_reducible repeat (first | refine blk_drewN ?_ _ | refine blk_drew ?_ | refine blk_alloc ?_ _)); exact BK140.out)⟩; have n1_ : Aside0 (Below w.heap.size w w5) := ⟨by rw [← hq_]; exact (by repeat (first | (with_reducible first | exact HB.out | apply below_alloc | apply pw_below_drewN | apply below_drew1 | refine below_set ?_ GE140.out) | exact HB.out))⟩; clear BK140 HB hq_; have BK140 := n0_; have HB := n1_; clear n0_ n1_))
  have n0_ := Aside0.mk (blk_drew BK140.out)
  have n1_ := Aside0.mk (below_drew1 HB.out)
  clear BK140
  clear HB
  have BK140 := n0_
  have HB := n1_
  clear n0_ n1_
  refine start_ (n := 8) (S := fun w' => w'.cell? ⟨gb140, 0, none⟩ = some (.bool a0_0) ∧ w'.cell? ⟨gb140, 1, none⟩ = some (.string a0_1) ∧ w'.cell? ⟨gb140, 2, none⟩ = some (.int .i64 a0_2)) (ds := []) #[false, false, false, false, false, false, false, false] (by kernel_rfl) rfl rfl ⟨(blk_cell BK140.out 0).trans rfl, (blk_cell BK140.out 1).trans rfl, (blk_cell BK140.out 2).trans rfl⟩ (fun hHeld => ?_); refine with_tabW dec_size.tab1 dec_size.bits1 (fun HT_ HW_ => ?_)
  generalize w5.drew = w6 at BK140 HB hHeld ⊢
  refine pure_ (i := 2) (N := some 7) (v := ?_) (a' := ?_) #[false, false, true, false, false, false, false, false] rfl rfl (any_of HT_.out (by kernel_rfl)) (fun _ _ _ h => h) (Or.inl ⟨by rfl, ?_⟩) ?_ ?_
  rotate_left
  · intro w'
    go_simp
    with_reducible rfl
  rotate_left
  · simp only [Act.put, List.setIfInBounds_toArray, List.set_cons_zero, List.set_cons_succ]; (try simp only [i64_w]); (try simp only [i32_w])
    rfl
  refine pure_ (i := 4) (N := some 9) (v := ?_) (a' := ?_) #[false, false, true, false, true, false, false, false] rfl rfl (any_of HT_.out (by kernel_rfl)) (fun _ _ _ h => h) (Or.inl ⟨by rfl, ?_⟩) ?_ ?_
  rotate_left
  · intro w'
    go_simp
    with_reducible rfl
  rotate_left
  · simp only [Act.put, List.setIfInBounds_toArray, List.set_cons_zero, List.set_cons_succ]; (try simp only [i64_w]); (try simp only [i32_w])
    rfl
  refine take_ (i := 0) (N := some 5) (v := ?_) (a' := ?_) #[true, false, true, false, true, false, false, false] rfl rfl (take_ofW HT_.out HW_.out (by kernel_rfl)) (fun _ _ _ h => h) (Or.inl ⟨by rfl, ?_⟩) hHeld ?_ ?_
  rotate_left
  · rintro w' ⟨s0, s1, s2⟩
    go_simp
    with_reducible rfl
  rotate_left
  · simp only [Act.put, List.setIfInBounds_toArray, List.set_cons_zero, List.set_cons_succ]; (try simp only [i64_w]); (try simp only [i32_w])
    rfl
  refine take_ (i := 3) (N := some 8) (v := ?_) (a' := ?_) #[true, false, true, true, true, false, false, false] rfl rfl (take_ofW HT_.out HW_.out (by kernel_rfl)) (fun _ _ _ h => h) (Or.inl ⟨by rfl, ?_⟩) hHeld ?_ ?_
  rotate_left
  · rintro w' ⟨s0, s1, s2⟩
    go_simp
    with_reducible rfl
  rotate_left
  · simp only [Act.put, List.setIfInBounds_toArray, List.set_cons_zero, List.set_cons_succ]; (try simp only [i64_w]); (try simp only [i32_w])
    rfl
  refine pure_ (i := 5) (N := some 10) (v := ?_) (a' := ?_) #[true, false, true, true, true, true, false, false] rfl rfl (any_of HT_.out (by kernel_rfl)) (fun _ _ _ h => h) (Or.inl ⟨by rfl, ?_⟩) ?_ ?_
  rotate_left
  · intro w'
    go_simp
    with_reducible rfl
  rotate_left
  · simp only [Act.put, List.setIfInBounds_toArray, List.set_cons_zero, List.set_cons_succ]; (try simp only [i64_w]); (try simp only [i32_w])
    rfl
  refine one_ (i := 1) (N := some 6) #[true, true, true, true, true, true, false, false] rfl rfl (one_of HT_.out (by kernel_rfl)) (by decide) (fun K hK => ?_)
  refine goes_ Tryd.func23 (by kernel_rfl) rfl #[.agg #[.bool a0_0, .string a0_1, .int .i64 a0_2]] (by rfl) rfl rfl (by (try simp only [List.map_toArray]); (try simp only [List.map_cons]); (try simp only [List.map_nil]); first | done | rfl | (simp only [List.length_drop, List.length_take]; rfl)) ?_
  with_reducible refine (dec_Coef.calls a0_0 a0_1 a0_2 t141 _ A3.out).mono ?_
  rintro e w7 ⟨v142, rfl, ho0, hb⟩
  refine ⟨_, rfl, ?_⟩
  have n0_ := Aside0.mk (Kd.R_lower ho0 (below_size (by repeat (first | (with_reducible first | exact HB.out | apply below_alloc | apply pw_below_drewN | apply below_drew1 | refine below_set ?_ GE140.out) | exact HB.out))))
  have n1_ := Aside0.mk (blk_below (g := gb140) (o := .cells #[.bool a0_0, .string a0_1, .int .i64 a0_2] 23 (0, 0)) (by (with_reducible repeat (first | refine blk_drewN ?_ _ | refine blk_drew ?_ | refine blk_alloc ?_ _)); exact BK140.out) hb)
  have n2_ := Aside0.mk (below_step (by repeat (first | (with_reducible first | exact HB.out | apply below_alloc | apply pw_below_drewN | apply below_drew1 | refine below_set ?_ GE140.out) | exact HB.out)) hb)
  clear BK140
  clear HB
  have HO143 := n0_
  have BK140 := n1_
  have HB := n2_
  clear n0_ n1_ n2_
  (try clear hb)
  (try clear hb2)
  (try clear hk)
  (try clear hi)
  (try clear ho0)
  obtain ⟨Ao8, co8, eo8⟩ := Kd.R_slice HO143.out
  (first | subst eo8 | (injection eo8 with f1_ f2_ f3_; have f4_ := f1_.symm; have f5_ := f3_.symm; clear f1_ f2_ f3_; subst f4_; subst f5_))
  refine hK.out _ _ ⟨(blk_cell BK140.out 0).trans rfl, (blk_cell BK140.out 1).trans rfl, (blk_cell BK140.out 2).trans rfl⟩ (fun hHeld => ?_)
  clear hK K
  refine norm_ (a' := ?_) ?_ ?_
  rotate_left
  · show Act.put _ (some 6) _ = _
    simp only [Act.put, List.setIfInBounds_toArray, List.set_cons_zero, List.set_cons_succ]; (try simp only [i64_w]); (try simp only [i32_w])
    rfl
  refine one_ (i := 6) (N := some 11) #[true, true, true, true, true, true, true, false] rfl rfl (one_of HT_.out (by kernel_rfl)) (by decide) (fun K hK => ?_)
  refine goes_ Tryd.func52 (by kernel_rfl) rfl #[.slice Ao8 t141.length co8, .int .i64 (wrap64 (a0_2 - a1))] (by rfl) rfl rfl (by (try simp only [List.map_toArray]); (try simp only [List.map_cons]); (try simp only [List.map_nil]); first | done | rfl | (simp only [List.length_drop, List.length_take]; rfl)) ?_
  with_reducible refine (ten_Shift.calls _ _ t141 (wrap64 (a0_2 - a1)) t144 _ ?side1 ?side2 ?side3 A4.out).mono ?_
  (case side1 => exact Fig.Glob.below HG.out (by repeat (first | (with_reducible first | exact HB.out | apply below_alloc | apply pw_below_drewN | apply below_drew1 | refine below_set ?_ GE140.out) | exact HB.out)))
  (case side2 => repeat (first | exact (Kd.R_reads' HO143.out).2.2 | (with_reducible refine Kd.C_alloc ?_ _) | (with_reducible refine Kd.C_drewN ?_ _) | (with_reducible refine Kd.C_drew ?_)))
  (case side3 => exact (Kd.R_reads' HO143.out).2.1)
  rintro e w9 ⟨v145, rfl, ho0, hb⟩
  refine ⟨_, rfl, ?_⟩
  have n0_ := Aside0.mk (Kd.R_elder' (by (with_reducible repeat (first | apply Kd.R_alloc | apply Kd.R_drewN | apply Kd.R_drew)); exact HO143.out) (Kd.R_base ho0) hb)
  have n1_ := Aside0.mk (Kd.R_lower (Kd.R_new' ho0 (Kd.R_lt (by (with_reducible repeat (first | apply Kd.R_alloc | apply Kd.R_drewN | apply Kd.R_drew)); exact HO143.out))) (below_size (by repeat (first | (with_reducible first | exact HB.out | apply below_alloc | apply pw_below_drewN | apply below_drew1 | refine below_set ?_ GE140.out) | exact HB.out))))
  have n2_ := Aside0.mk (blk_below (g := gb140) (o := .cells #[.bool a0_0, .string a0_1, .int .i64 a0_2] 23 (0, 0)) (by (with_reducible repeat (first | refine blk_drewN ?_ _ | refine blk_drew ?_ | refine blk_alloc ?_ _)); exact BK140.out) hb)
  have n3_ := Aside0.mk (below_step (by repeat (first | (with_reducible first | exact HB.out | apply below_alloc | apply pw_below_drewN | apply below_drew1 | refine below_set ?_ GE140.out) | exact HB.out)) hb)
  clear HO143
  clear BK140
  clear HB
  have HO143 := n0_
  have HO146 := n1_
  have BK140 := n2_
  have HB := n3_
  clear n0_ n1_ n2_ n3_
  (try clear hb)
  (try clear hb2)
  (try clear hk)
  (try clear hi)
  (try clear ho0)
  refine hK.out _ _ ⟨(blk_cell BK140.out 0).trans rfl, (blk_cell BK140.out 1).trans rfl, (blk_cell BK140.out 2).trans rfl⟩ (fun hHeld => ?_)
  clear hK K
  refine norm_ (a' := ?_) ?_ ?_
  rotate_left
  · show Act.put _ (some 11) _ = _
    simp only [Act.put, List.setIfInBounds_toArray, List.set_cons_zero, List.set_cons_succ]; (try simp only [i64_w]); (try simp only [i32_w])
    rfl
  refine pure_ (i := 7) (N := some 4) (v := ?_) (a' := ?_) #[true, true, true, true, true, true, true, true] rfl rfl (any_of HT_.out (by kernel_rfl)) (fun _ _ _ h => h) (Or.inl ⟨by rfl, ?_⟩) ?_ ?_
  rotate_left
  · intro w'
    go_simp
    with_reducible rfl
  rotate_left
  · simp only [Act.put, List.setIfInBounds_toArray, List.set_cons_zero, List.set_cons_succ]; (try simp only [i64_w]); (try simp only [i32_w])
    rfl
  refine done_ (done_of HT_.out (by kernel_rfl)) ?_
  try go_wp2
  go_ret
  exact ⟨_, by first | rfl | (simp [errW_none, errW_some] <;> rfl) | (simp [*, errW_none, errW_some] <;> rfl), by (with_reducible repeat (first | apply Kd.R_alloc | apply Kd.R_drewN | apply Kd.R_drew)); exact Kd.R_mono HO146.out (fun _ hk => trivial), by repeat (first | (with_reducible first | exact HB.out | apply below_alloc | apply pw_below_drewN | apply below_drew1 | refine below_set ?_ GE140.out) | exact HB.out)⟩
end Go.Proofs.YtbjaiphfehnncaaDoor.Px
end
section
namespace Go.Proofs.YtbjaiphfehnncaaDoor.Px
open Fig Go.RowKit Go.Proofs.YtbjaiphfehnncaaDoorW.PrintWords Go.Proofs.YtbjaiphfehnncaaDoorW.PrintLast Go.Proofs.YtbjaiphfehnncaaDoorW.PrintMore
attribute [local go_sem] max2_int min2_int max_two min_two max_three min_three max_four min_four   -- for this text's walks alone
attribute [local go_sem] fieldA23_0 fieldA23_1 fieldA23_2
def cmp_isNaN_int.f (a0 : Int) : Option (Bool) := some (a0 != a0)
set_option maxHeartbeats 8000000 in
set_option maxRecDepth 100000 in
theorem cmp_isNaN_int.calls (a0 : Int) (r : Bool) (w : World) (h : cmp_isNaN_int.f a0 = some r) :
    Calls Tryd.prog 83 #[.int .i64 a0] w fun e w' => e = .returned (.bool r) ∧ Drawn0 w w' := by
  have H : (some (a0 != a0)) = some r := h
  clear h
  obtain rfl := Option.some.inj H
  go_enter Tryd.func83, Tryd.ntmps83
  go_wp2
  go_ret
  exact ⟨by first | rfl | (simp; done) | (simp [*]; done) | (simp [*, Fig.bne_nil]; done), by repeat (first | exact Drawn0.refl _ | apply Drawn0.step)⟩
end Go.Proofs.YtbjaiphfehnncaaDoor.Px
end
section
namespace Go.Proofs.YtbjaiphfehnncaaDoor.Px
open Fig Go.RowKit Go.Proofs.YtbjaiphfehnncaaDoorW.PrintWords Go.Proofs.YtbjaiphfehnncaaDoorW.PrintLast Go.Proofs.YtbjaiphfehnncaaDoorW.PrintMore
attribute [local go_sem] max2_int min2_int max_two min_two max_three min_three max_four min_four   -- for this text's walks alone
attribute [local go_sem] fieldA23_0 fieldA23_1 fieldA23_2
def cmp_Compare_int.f (a0 : Int) (a1 : Int) : Option (Int) := (cmp_isNaN_int.f a0).bind fun t147 => ((cmp_isNaN_int.f a1).bind fun t148 => (if t147 = true then (if t148 = true then (some 0) else (some (-1))) else (if t148 = true then (some 1) else (if a0 < a1 then (some (-1)) else (if a0 > a1 then (some 1) else (some 0))))))
set_option maxHeartbeats 8000000 in
set_option maxRecDepth 100000 in
theorem cmp_Compare_int.calls (a0 : Int) (a1 : Int) (r : Int) (w : World) (h : cmp_Compare_int.f a0 a1 = some r) :
    Calls Tryd.prog 71 #[.int .i64 a0, .int .i64 a1] w fun e w' => e = .returned (.int .i64 r) ∧ Drawn0 w w' := by
  have H : ((cmp_isNaN_int.f a0).bind fun t147 => ((cmp_isNaN_int.f a1).bind fun t148 => (if t147 = true then (if t148 = true then (some 0) else (some (-1))) else (if t148 = true then (some 1) else (if a0 < a1 then (some (-1)) else (if a0 > a1 then (some 1) else (some 0))))))) = some r := h
  clear h
  replace H := Option.bind_eq_some_iff.mp H
  obtain ⟨t147, A30, H⟩ := H
  replace H : ((cmp_isNaN_int.f a1).bind fun t148 => (if t147 = true then (if t148 = true then (some 0) else (some (-1))) else (if t148 = true then (some 1) else (if a0 < a1 then (some (-1)) else (if a0 > a1 then (some 1) else (some 0)))))) = some r := H
  have A3 := Aside0.mk A30
  clear A30
  replace H := Option.bind_eq_some_iff.mp H
  obtain ⟨t148, A40, H⟩ := H
  replace H : (if t147 = true then (if t148 = true then (some 0) else (some (-1))) else (if t148 = true then (some 1) else (if a0 < a1 then (some (-1)) else (if a0 > a1 then (some 1) else (some 0))))) = some r := H
  have A4 := Aside0.mk A40
  clear A40
  by_cases c5 : t147 = true
  · subst c5
    have H1 : (if t148 = true then (some 0) else (some (-1))) = some r := by rw [if_pos rfl] at H; exact H
    clear H
    have H := H1
    clear H1
    by_cases c6 : t148 = true
    · subst c6
      have H1 : (some 0) = some r := by rw [if_pos rfl] at H; exact H
      clear H
      have H := H1
      clear H1
      obtain rfl := Option.some.inj H
      go_enter Tryd.func71, Tryd.ntmps71
      go_wp2_with (first | ((with_reducible refine gate_callee (f := 83) rfl ?_); refine goesL_ (some 8) rfl rfl Tryd.func83 (by kernel_rfl) rfl #[.int .i64 a0] rfl (by (try simp only [List.map_toArray]); (try simp only [List.map_cons]); (try simp only [List.map_nil]); first | done | rfl | (simp only [List.length_drop, List.length_take]; rfl)) ?_; (with_reducible refine (cmp_isNaN_int.calls a0 true _ A3.out).mono ?_); rintro e w' ⟨rfl, ⟨nd, rfl⟩⟩; refine ⟨_, rfl, ?_⟩) | ((with_reducible refine gate_callee (f := 83) rfl ?_); refine goesL_ (some 10) rfl rfl Tryd.func83 (by kernel_rfl) rfl #[.int .i64 a1] rfl (by (try simp only [List.map_toArray]); (try simp only [List.map_cons]); (try simp only [List.map_nil]); first | done | rfl | (simp only [List.length_drop, List.length_take]; rfl)) ?_; (with_reducible refine (cmp_isNaN_int.calls a1 true _ A4.out).mono ?_); rintro e w' ⟨rfl, ⟨nd, rfl⟩⟩; refine ⟨_, rfl, ?_⟩))
      go_ret
      exact ⟨by first | rfl | (simp; done) | (simp [*]; done) | (simp [*, Fig.bne_nil]; done), by repeat (first | exact Drawn0.refl _ | apply Drawn0.step)⟩
    · replace c6 := Bool.eq_false_iff.mpr c6
      subst c6
      have H1 : (some (-1)) = some r := by rw [if_neg (show ¬ (false = true) by decide)] at H; exact H
      clear H
      have H := H1
      clear H1
      obtain rfl := Option.some.inj H
      go_enter Tryd.func71, Tryd.ntmps71
      go_wp2_with (first | ((with_reducible refine gate_callee (f := 83) rfl ?_); refine goesL_ (some 8) rfl rfl Tryd.func83 (by kernel_rfl) rfl #[.int .i64 a0] rfl (by (try simp only [List.map_toArray]); (try simp only [List.map_cons]); (try simp only [List.map_nil]); first | done | rfl | (simp only [List.length_drop, List.length_take]; rfl)) ?_; (with_reducible refine (cmp_isNaN_int.calls a0 true _ A3.out).mono ?_); rintro e w' ⟨rfl, ⟨nd, rfl⟩⟩; refine ⟨_, rfl, ?_⟩) | ((with_reducible refine gate_callee (f := 83) rfl ?_); refine goesL_ (some 10) rfl rfl Tryd.func83 (by kernel_rfl) rfl #[.int .i64 a1] rfl (by (try simp only [List.map_toArray]); (try simp only [List.map_cons]); (try simp only [List.map_nil]); first | done | rfl | (simp only [List.length_drop, List.length_take]; rfl)) ?_; (with_reducible refine (cmp_isNaN_int.calls a1 false _ A4.out).mono ?_); rintro e w' ⟨rfl, ⟨nd, rfl⟩⟩; refine ⟨_, rfl, ?_⟩))
      go_ret
      exact ⟨by first | rfl | (simp; done) | (simp [*]; done) | (simp [*, Fig.bne_nil]; done), by repeat (first | exact Drawn0.refl _ | apply Drawn0.step)⟩
  · replace c5 := Bool.eq_false_iff.mpr c5
    subst c5
    have H1 : (if t148 = true then (some 1) else (if a0 < a1 then (some (-1)) else (if a0 > a1 then (some 1) else (some 0)))) = some r := by rw [if_neg (show ¬ (false = true) by decide)] at H; exact H
    clear H
    have H := H1
    clear H1
    by_cases c7 : t148 = true
    · subst c7
      have H1 : (some 1) = some r := by rw [if_pos rfl] at H; exact H
      clear H
      have H := H1
      clear H1
      obtain rfl := Option.some.inj H
      go_enter Tryd.func71, Tryd.ntmps71
      go_wp2_with (first | ((with_reducible refine gate_callee (f := 83) rfl ?_); refine goesL_ (some 8) rfl rfl Tryd.func83 (by kernel_rfl) rfl #[.int .i64 a0] rfl (by (try simp only [List.map_toArray]); (try simp only [List.map_cons]); (try simp only [List.map_nil]); first | done | rfl | (simp only [List.length_drop, List.length_take]; rfl)) ?_; (with_reducible refine (cmp_isNaN_int.calls a0 false _ A3.out).mono ?_); rintro e w' ⟨rfl, ⟨nd, rfl⟩⟩; refine ⟨_, rfl, ?_⟩) | ((with_reducible refine gate_callee (f := 83) rfl ?_); refine goesL_ (some 10) rfl rfl Tryd.func83 (by kernel_rfl) rfl #[.int .i64 a1] rfl (by (try simp only [List.map_toArray]); (try simp only [List.map_cons]); (try simp only [List.map_nil]); first | done | rfl | (simp only [List.length_drop, List.length_take]; rfl)) ?_; (with_reducible refine (cmp_isNaN_int.calls a1 true _ A4.out).mono ?_); rintro e w' ⟨rfl, ⟨nd, rfl⟩⟩; refine ⟨_, rfl, ?_⟩))
      go_ret
      exact ⟨by first | rfl | (simp; done) | (simp [*]; done) | (simp [*, Fig.bne_nil]; done), by repeat (first | exact Drawn0.refl _ | apply Drawn0.step)⟩
    · replace c7 := Bool.eq_false_iff.mpr c7
      subst c7
      have H1 : (if a0 < a1 then (some (-1)) else (if a0 > a1 then (some 1) else (some 0))) = some r := by rw [if_neg (show ¬ (false = true) by decide)] at H; exact H
      clear H
      have H := H1
      clear H1
      by_cases c8 : a0 < a1
      · rw [if_pos c8] at H
        have c8b0 : decide (a0 < a1) = true := decide_eq_true c8
        clear c8
        obtain rfl := Option.some.inj H
        go_enter Tryd.func71, Tryd.ntmps71
        go_wp2_with (first | ((with_reducible refine gate_callee (f := 83) rfl ?_); refine goesL_ (some 8) rfl rfl Tryd.func83 (by kernel_rfl) rfl #[.int .i64 a0] rfl (by (try simp only [List.map_toArray]); (try simp only [List.map_cons]); (try simp only [List.map_nil]); first | done | rfl | (simp only [List.length_drop, List.length_take]; rfl)) ?_; (with_reducible refine (cmp_isNaN_int.calls a0 false _ A3.out).mono ?_); rintro e w' ⟨rfl, ⟨nd, rfl⟩⟩; refine ⟨_, rfl, ?_⟩) | ((with_reducible refine gate_callee (f := 83) rfl ?_); refine goesL_ (some 10) rfl rfl Tryd.func83 (by kernel_rfl) rfl #[.int .i64 a1] rfl (by (try simp only [List.map_toArray]); (try simp only [List.map_cons]); (try simp only [List.map_nil]); first | done | rfl | (simp only [List.length_drop, List.length_take]; rfl)) ?_; (with_reducible refine (cmp_isNaN_int.calls a1 false _ A4.out).mono ?_); rintro e w' ⟨rfl, ⟨nd, rfl⟩⟩; refine ⟨_, rfl, ?_⟩))
        go_ret
        exact ⟨by first | rfl | (simp; done) | (simp [*]; done) | (simp [*, Fig.bne_nil]; done), by repeat (first | exact Drawn0.refl _ | apply Drawn0.step)⟩
      · rw [if_neg c8] at H
        have c8b0 : decide (a0 < a1) = false := decide_eq_false c8
        clear c8
        by_cases c9 : a0 > a1
        · rw [if_pos c9] at H
          have c9b0 : decide (a1 < a0) = true := decide_eq_true c9
          clear c9
          obtain rfl := Option.some.inj H
          go_enter Tryd.func71, Tryd.ntmps71
          go_wp2_with (first | ((with_reducible refine gate_callee (f := 83) rfl ?_); refine goesL_ (some 8) rfl rfl Tryd.func83 (by kernel_rfl) rfl #[.int .i64 a0] rfl (by (try simp only [List.map_toArray]); (try simp only [List.map_cons]); (try simp only [List.map_nil]); first | done | rfl | (simp only [List.length_drop, List.length_take]; rfl)) ?_; (with_reducible refine (cmp_isNaN_int.calls a0 false _ A3.out).mono ?_); rintro e w' ⟨rfl, ⟨nd, rfl⟩⟩; refine ⟨_, rfl, ?_⟩) | ((with_reducible refine gate_callee (f := 83) rfl ?_); refine goesL_ (some 10) rfl rfl Tryd.func83 (by kernel_rfl) rfl #[.int .i64 a1] rfl (by (try simp only [List.map_toArray]); (try simp only [List.map_cons]); (try simp only [List.map_nil]); first | done | rfl | (simp only [List.length_drop, List.length_take]; rfl)) ?_; (with_reducible refine (cmp_isNaN_int.calls a1 false _ A4.out).mono ?_); rintro e w' ⟨rfl, ⟨nd, rfl⟩⟩; refine ⟨_, rfl, ?_⟩))
          go_ret
          exact ⟨by first | rfl | (simp; done) | (simp [*]; done) | (simp [*, Fig.bne_nil]; done), by repeat (first | exact Drawn0.refl _ | apply Drawn0.step)⟩
        · rw [if_neg c9] at H
          have c9b0 : decide (a1 < a0) = false := decide_eq_false c9
          clear c9
          obtain rfl := Option.some.inj H
          go_enter Tryd.func71, Tryd.ntmps71
          go_wp2_with (first | ((with_reducible refine gate_callee (f := 83) rfl ?_); refine goesL_ (some 8) rfl rfl Tryd.func83 (by kernel_rfl) rfl #[.int .i64 a0] rfl (by (try simp only [List.map_toArray]); (try simp only [List.map_cons]); (try simp only [List.map_nil]); first | done | rfl | (simp only [List.length_drop, List.length_take]; rfl)) ?_; (with_reducible refine (cmp_isNaN_int.calls a0 false _ A3.out).mono ?_); rintro e w' ⟨rfl, ⟨nd, rfl⟩⟩; refine ⟨_, rfl, ?_⟩) | ((with_reducible refine gate_callee (f := 83) rfl ?_); refine goesL_ (some 10) rfl rfl Tryd.func83 (by kernel_rfl) rfl #[.int .i64 a1] rfl (by (try simp only [List.map_toArray]); (try simp only [List.map_cons]); (try simp only [List.map_nil]); first | done | rfl | (simp only [List.length_drop, List.length_take]; rfl)) ?_; (with_reducible refine (cmp_isNaN_int.calls a1 false _ A4.out).mono ?_); rintro e w' ⟨rfl, ⟨nd, rfl⟩⟩; refine ⟨_, rfl, ?_⟩))
          go_ret
          exact ⟨by first | rfl | (simp; done) | (simp [*]; done) | (simp [*, Fig.bne_nil]; done), by repeat (first | exact Drawn0.refl _ | apply Drawn0.step)⟩
end Go.Proofs.YtbjaiphfehnncaaDoor.Px
end
section
namespace Go.Proofs.YtbjaiphfehnncaaDoor.Px
open Fig Go.RowKit Go.Proofs.YtbjaiphfehnncaaDoorW.PrintWords Go.Proofs.YtbjaiphfehnncaaDoorW.PrintLast Go.Proofs.YtbjaiphfehnncaaDoorW.PrintMore
attribute [local go_sem] max2_int min2_int max_two min_two max_three min_three max_four min_four   -- for this text's walks alone
attribute [local go_sem] fieldA23_0 fieldA23_1 fieldA23_2
def cmp_isNaN_uint32.f (a0 : Int) : Option (Bool) := some (a0 != a0)
set_option maxHeartbeats 8000000 in
set_option maxRecDepth 100000 in
theorem cmp_isNaN_uint32.calls (a0 : Int) (r : Bool) (w : World) (h : cmp_isNaN_uint32.f a0 = some r) :
    Calls Tryd.prog 84 #[.int .u32 a0] w fun e w' => e = .returned (.bool r) ∧ Drawn0 w w' := by
  have H : (some (a0 != a0)) = some r := h
  clear h
  obtain rfl := Option.some.inj H
  go_enter Tryd.func84, Tryd.ntmps84
  go_wp2
  go_ret
  exact ⟨by first | rfl | (simp; done) | (simp [*]; done) | (simp [*, Fig.bne_nil]; done), by repeat (first | exact Drawn0.refl _ | apply Drawn0.step)⟩
end Go.Proofs.YtbjaiphfehnncaaDoor.Px
end
section
namespace Go.Proofs.YtbjaiphfehnncaaDoor.Px
open Fig Go.RowKit Go.Proofs.YtbjaiphfehnncaaDoorW.PrintWords Go.Proofs.YtbjaiphfehnncaaDoorW.PrintLast Go.Proofs.YtbjaiphfehnncaaDoorW.PrintMore
attribute [local go_sem] max2_int min2_int max_two min_two max_three min_three max_four min_four   -- for this text's walks alone
attribute [local go_sem] fieldA23_0 fieldA23_1 fieldA23_2
def cmp_Compare_uint32.f (a0 : Int) (a1 : Int) : Option (Int) := (cmp_isNaN_uint32.f a0).bind fun t149 => ((cmp_isNaN_uint32.f a1).bind fun t150 => (if t149 = true then (if t150 = true then (some 0) else (some (-1))) else (if t150 = true then (some 1) else (if a0 < a1 then (some (-1)) else (if a0 > a1 then (some 1) else (some 0))))))
set_option maxHeartbeats 8000000 in
set_option maxRecDepth 100000 in
theorem cmp_Compare_uint32.calls (a0 : Int) (a1 : Int) (r : Int) (w : World) (h : cmp_Compare_uint32.f a0 a1 = some r) :
    Calls Tryd.prog 72 #[.int .u32 a0, .int .u32 a1] w fun e w' => e = .returned (.int .i64 r) ∧ Drawn0 w w' := by
  have H : ((cmp_isNaN_uint32.f a0).bind fun t149 => ((cmp_isNaN_uint32.f a1).bind fun t150 => (if t149 = true then (if t150 = true then (some 0) else (some (-1))) else (if t150 = true then (some 1) else (if a0 < a1 then (some (-1)) else (if a0 > a1 then (some 1) else (some 0))))))) = some r := h
  clear h
  replace H := Option.bind_eq_some_iff.mp H
  obtain ⟨t149, A30, H⟩ := H
  replace H : ((cmp_isNaN_uint32.f a1).bind fun t150 => (if t149 = true then (if t150 = true then (some 0) else (some (-1))) else (if t150 = true then (some 1) else (if a0 < a1 then (some (-1)) else (if a0 > a1 then (some 1) else (some 0)))))) = some r := H
  have A3 := Aside0.mk A30
  clear A30
  replace H := Option.bind_eq_some_iff.mp H
  obtain ⟨t150, A40, H⟩ := H
  replace H : (if t149 = true then (if t150 = true then (some 0) else (some (-1))) else (if t150 = true then (some 1) else (if a0 < a1 then (some (-1)) else (if a0 > a1 then (some 1) else (some 0))))) = some r := H
  have A4 := Aside0.mk A40
  clear A40
  by_cases c5 : t149 = true
  · subst c5
    have H1 : (if t150 = true then (some 0) else (some (-1))) = some r := by rw [if_pos rfl] at H; exact H
    clear H
    have H := H1
    clear H1
    by_cases c6 : t150 = true
    · subst c6
      have H1 : (some 0) = some r := by rw [if_pos rfl] at H; exact H
      clear H
      have H := H1
      clear H1
      obtain rfl := Option.some.inj H
      go_enter Tryd.func72, Tryd.ntmps72
      go_wp2_with (first | ((with_reducible refine gate_callee (f := 84) rfl ?_); refine goesL_ (some 8) rfl rfl Tryd.func84 (by kernel_rfl) rfl #[.int .u32 a0] rfl (by (try simp only [List.map_toArray]); (try simp only [List.map_cons]); (try simp only [List.map_nil]); first | done | rfl | (simp only [List.length_drop, List.length_take]; rfl)) ?_; (with_reducible refine (cmp_isNaN_uint32.calls a0 true _ A3.out).mono ?_); rintro e w' ⟨rfl, ⟨nd, rfl⟩⟩; refine ⟨_, rfl, ?_⟩) | ((with_reducible refine gate_callee (f := 84) rfl ?_); refine goesL_ (some 10) rfl rfl Tryd.func84 (by kernel_rfl) rfl #[.int .u32 a1] rfl (by (try simp only [List.map_toArray]); (try simp only [List.map_cons]); (try simp only [List.map_nil]); first | done | rfl | (simp only [List.length_drop, List.length_take]; rfl)) ?_; (with_reducible refine (cmp_isNaN_uint32.calls a1 true _ A4.out).mono ?_); rintro e w' ⟨rfl, ⟨nd, rfl⟩⟩; refine ⟨_, rfl, ?_⟩))
      go_ret
      exact ⟨by first | rfl | (simp; done) | (simp [*]; done) | (simp [*, Fig.bne_nil]; done), by repeat (first | exact Drawn0.refl _ | apply Drawn0.step)⟩
    · replace c6 := Bool.eq_false_iff.mpr c6
      subst c6
      have H1 : (some (-1)) = some r := by rw [if_neg (show ¬ (false = true) by decide)] at H; exact H
      clear H
      have H := H1
      clear H1
      obtain rfl := Option.some.inj H
      go_enter Tryd.func72, Tryd.ntmps72
      go_wp2_with (first | ((with_reducible refine gate_callee (f := 84) rfl ?_); refine goesL_ (some 8) rfl rfl Tryd.func84 (by kernel_rfl) rfl #[.int .u32 a0] rfl (by (try simp only [List.map_toArray]); (try simp only [List.map_cons]); (try simp only [List.map_nil]); first | done | rfl | (simp only [List.length_drop, List.length_take]; rfl)) ?_; (with_reducible refine (cmp_isNaN_uint32.calls a0 true _ A3.out).mono ?_); rintro e w' ⟨rfl, ⟨nd, rfl⟩⟩; refine ⟨_, rfl, ?_⟩) | ((with_reducible refine gate_callee (f := 84) rfl ?_); refine goesL_ (some 10) rfl rfl Tryd.func84 (by kernel_rfl) rfl #[.int .u32 a1] rfl (by (try simp only [List.map_toArray]); (try simp only [List.map_cons]); (try simp only [List.map_nil]); first | done | rfl | (simp only [List.length_drop, List.length_take]; rfl)) ?_; (with_reducible refine (cmp_isNaN_uint32.calls a1 false _ A4.out).mono ?_); rintro e w' ⟨rfl, ⟨nd, rfl⟩⟩; refine ⟨_, rfl, ?_⟩))
      go_ret
      exact ⟨by first | rfl | (simp; done) | (simp [*]; done) | (simp [*, Fig.bne_nil]; done), by repeat (first | exact Drawn0.refl _ | apply Drawn0.step)⟩
  · replace c5 := Bool.eq_false_iff.mpr c5
    subst c5
    have H1 : (if t150 = true then (some 1) else (if a0 < a1 then (some (-1)) else (if a0 > a1 then (some 1) else (some 0)))) = some r := by rw [if_neg (show ¬ (false = true) by decide)] at H; exact H
    clear H
    have H := H1
    clear H1
    by_cases c7 : t150 = true
    · subst c7
      have H1 : (some 1) = some r := by rw [if_pos rfl] at H; exact H
      clear H
      have H := H1
      clear H1
      obtain rfl := Option.some.inj H
      go_enter Tryd.func72, Tryd.ntmps72
      go_wp2_with (first | ((with_reducible refine gate_callee (f := 84) rfl ?_); refine goesL_ (some 8) rfl rfl Tryd.func84 (by kernel_rfl) rfl #[.int .u32 a0] rfl (by (try simp only [List.map_toArray]); (try simp only [List.map_cons]); (try simp only [List.map_nil]); first | done | rfl | (simp only [List.length_drop, List.length_take]; rfl)) ?_; (with_reducible refine (cmp_isNaN_uint32.calls a0 false _ A3.out).mono ?_); rintro e w' ⟨rfl, ⟨nd, rfl⟩⟩; refine ⟨_, rfl, ?_⟩) | ((with_reducible refine gate_callee (f := 84) rfl ?_); refine goesL_ (some 10) rfl rfl Tryd.func84 (by kernel_rfl) rfl #[.int .u32 a1] rfl (by (try simp only [List.map_toArray]); (try simp only [List.map_cons]); (try simp only [List.map_nil]); first | done | rfl | (simp only [List.length_drop, List.length_take]; rfl)) ?_; (with_reducible refine (cmp_isNaN_uint32.calls a1 true _ A4.out).mono ?_); rintro e w' ⟨rfl, ⟨nd, rfl⟩⟩; refine ⟨_, rfl, ?_⟩))
      go_ret
      exact ⟨by first | rfl | (simp; done) | (simp [*]; done) | (simp [*, Fig.bne_nil]; done), by repeat (first | exact Drawn0.refl _ | apply Drawn0.step)⟩
    · replace c7 := Bool.eq_false_iff.mpr c7
      subst c7
      have H1 : (if a0 < a1 then (some (-1)) else (if a0 > a1 then (some 1) else (some 0))) = some r := by rw [if_neg (show ¬ (false = true) by decide)] at H; exact H
      clear H
      have H := H1
      clear H1
      by_cases c8 : a0 < a1
      · rw [if_pos c8] at H
        have c8b0 : decide (a0 < a1) = true := decide_eq_true c8
        clear c8
        obtain rfl := Option.some.inj H
        go_enter Tryd.func72, Tryd.ntmps72
        go_wp2_with (first | ((with_reducible refine gate_callee (f := 84) rfl ?_); refine goesL_ (some 8) rfl rfl Tryd.func84 (by kernel_rfl) rfl #[.int .u32 a0] rfl (by (try simp only [List.map_toArray]); (try simp only [List.map_cons]); (try simp only [List.map_nil]); first | done | rfl | (simp only [List.length_drop, List.length_take]; rfl)) ?_; (with_reducible refine (cmp_isNaN_uint32.calls a0 false _ A3.out).mono ?_); rintro e w' ⟨rfl, ⟨nd, rfl⟩⟩; refine ⟨_, rfl, ?_⟩) | ((with_reducible refine gate_callee (f := 84) rfl ?_); refine goesL_ (some 10) rfl rfl Tryd.func84 (by kernel_rfl) rfl #[.int .u32 a1] rfl (by (try simp only [List.map_toArray]); (try simp only [List.map_cons]); (try simp only [List.map_nil]); first | done | rfl | (simp only [List.length_drop, List.length_take]; rfl)) ?_; (with_reducible refine (cmp_isNaN_uint32.calls a1 false _ A4.out).mono ?_); rintro e w' ⟨rfl, ⟨nd, rfl⟩⟩; refine ⟨_, rfl, ?_⟩))
        go_ret
        exact ⟨by first | rfl | (simp; done) | (simp [*]; done) | (simp [*, Fig.bne_nil]; done), by repeat (first | exact Drawn0.refl _ | apply Drawn0.step)⟩
      · rw [if_neg c8] at H
        have c8b0 : decide (a0 < a1) = false := decide_eq_false c8
        clear c8
        by_cases c9 : a0 > a1
        · rw [if_pos c9] at H
          have c9b0 : decide (a1 < a0) = true := decide_eq_true c9
          clear c9
          obtain rfl := Option.some.inj H
          go_enter Tryd.func72, Tryd.ntmps72
          go_wp2_with (first | ((with_reducible refine gate_callee (f := 84) rfl ?_); refine goesL_ (some 8) rfl rfl Tryd.func84 (by kernel_rfl) rfl #[.int .u32 a0] rfl (by (try simp only [List.map_toArray]); (try simp only [List.map_cons]); (try simp only [List.map_nil]); first | done | rfl | (simp only [List.length_drop, List.length_take]; rfl)) ?_; (with_reducible refine (cmp_isNaN_uint32.calls a0 false _ A3.out).mono ?_); rintro e w' ⟨rfl, ⟨nd, rfl⟩⟩; refine ⟨_, rfl, ?_⟩) | ((with_reducible refine gate_callee (f := 84) rfl ?_); refine goesL_ (some 10) rfl rfl Tryd.func84 (by kernel_rfl) rfl #[.int .u32 a1] rfl (by (try simp only [List.map_toArray]); (try simp only [List.map_cons]); (try simp only [List.map_nil]); first | done | rfl | (simp only [List.length_drop, List.length_take]; rfl)) ?_; (with_reducible refine (cmp_isNaN_uint32.calls a1 false _ A4.out).mono ?_); rintro e w' ⟨rfl, ⟨nd, rfl⟩⟩; refine ⟨_, rfl, ?_⟩))
          go_ret
          exact ⟨by first | rfl | (simp; done) | (simp [*]; done) | (simp [*, Fig.bne_nil]; done), by repeat (first | exact Drawn0.refl _ | apply Drawn0.step)⟩
        · rw [if_neg c9] at H
          have c9b0 : decide (a1 < a0) = false := decide_eq_false c9
          clear c9
          obtain rfl := Option.some.inj H
          go_enter Tryd.func72, Tryd.ntmps72
          go_wp2_with (first | ((with_reducible refine gate_callee (f := 84) rfl ?_); refine goesL_ (some 8) rfl rfl Tryd.func84 (by kernel_rfl) rfl #[.int .u32 a0] rfl (by (try simp only [List.map_toArray]); (try simp only [List.map_cons]); (try simp only [List.map_nil]); first | done | rfl | (simp only [List.length_drop, List.length_take]; rfl)) ?_; (with_reducible refine (cmp_isNaN_uint32.calls a0 false _ A3.out).mono ?_); rintro e w' ⟨rfl, ⟨nd, rfl⟩⟩; refine ⟨_, rfl, ?_⟩) | ((with_reducible refine gate_callee (f := 84) rfl ?_); refine goesL_ (some 10) rfl rfl Tryd.func84 (by kernel_rfl) rfl #[.int .u32 a1] rfl (by (try simp only [List.map_toArray]); (try simp only [List.map_cons]); (try simp only [List.map_nil]); first | done | rfl | (simp only [List.length_drop, List.length_take]; rfl)) ?_; (with_reducible refine (cmp_isNaN_uint32.calls a1 false _ A4.out).mono ?_); rintro e w' ⟨rfl, ⟨nd, rfl⟩⟩; refine ⟨_, rfl, ?_⟩))
          go_ret
          exact ⟨by first | rfl | (simp; done) | (simp [*]; done) | (simp [*, Fig.bne_nil]; done), by repeat (first | exact Drawn0.refl _ | apply Drawn0.step)⟩
end Go.Proofs.YtbjaiphfehnncaaDoor.Px
end
section
namespace Go.Proofs.YtbjaiphfehnncaaDoor.Px
open Fig Go.RowKit Go.Proofs.YtbjaiphfehnncaaDoorW.PrintWords Go.Proofs.YtbjaiphfehnncaaDoorW.PrintLast Go.Proofs.YtbjaiphfehnncaaDoorW.PrintMore
attribute [local go_sem] max2_int min2_int max_two min_two max_three min_three max_four min_four   -- for this text's walks alone
attribute [local go_sem] fieldA23_0 fieldA23_1 fieldA23_2
set_option maxRecDepth 100000
theorem ret_num {k : IntKind} {a b : Int} (h : a = b) : Ending.returned (.int k a) = .returned (.int k b) := by rw [h]
theorem cmpi_eq (m n : Nat) : cmp_Compare_int.f (m : Int) (n : Int) = some (cmpN m n) := by
  unfold cmp_Compare_int.f cmp_isNaN_int.f cmpN
  simp only [Option.bind_some, bne_self_eq_false]
  repeat' split
  all_goals first | rfl | omega | simp_all
theorem cmpu_eq (m n : Nat) : cmp_Compare_uint32.f (m : Int) (n : Int) = some (cmpN m n) := by
  unfold cmp_Compare_uint32.f cmp_isNaN_uint32.f cmpN
  simp only [Option.bind_some, bne_self_eq_false]
  repeat' split
  all_goals first | rfl | omega | simp_all
def nat_Cmp.f (l0 : List Int) (l1 : List Int) : Option Int := cmpF l0 l1
set_option maxHeartbeats 1000000 in
theorem nat_Cmp.calls (A0 : Option Addr) (c0 : Nat) (l0 : List Int) (A1 : Option Addr) (c1 : Nat) (l1 : List Int) (r : Int) (w : World) (hr0 : Kd.C (Kd.int .u32) w A0 l0.length l0) (hc0 : l0.length ≤ c0) (hr1 : Kd.C (Kd.int .u32) w A1 l1.length l1) (hc1 : l1.length ≤ c1) (h : nat_Cmp.f l0 l1 = some r) :
    Calls Tryd.prog 48 #[.slice A0 l0.length c0, .slice A1 l1.length c1] w fun e w' => e = .returned (.int .i64 r) ∧ Drawn0 w w' := by
  unfold nat_Cmp.f cmpF at h
  by_cases hg : goodL l0 = true ∧ goodL l1 = true ∧ l0.length ≤ 1000000000000 ∧ l1.length ≤ 1000000000000
  · rw [if_pos hg] at h
    obtain rfl := Option.some.inj h
    obtain ⟨g0, g1, z0, z1⟩ := hg
    obtain ⟨k0, hk0⟩ := top_at (l := l0) (by omega)
    obtain ⟨k1, hk1⟩ := top_at (l := l1) (by omega)
    have ht0 := trimL_len l0
    have ht1 := trimL_len l1
    have hv0 := trimL_val l0
    have hv1 := trimL_val l1
    have hq0 := Fig.take_trim l0
    have hq1 := Fig.take_trim l1
    have hcl : (trimL l0).length ≠ (trimL l1).length → cmpN (valL l0) (valL l1) = cmpN (trimL l0).length (trimL l1).length := fun hne => by
      rw [← hv0, ← hv1]; exact cmp_len (trimL_good g0) (trimL_good g1) (trimL_canon l0) (trimL_canon l1) hne
    have hst : cmpN (valL l0) (valL l1) = cmpN (valL (l0.take (trimL l0).length)) (valL (l1.take (trimL l1).length)) := by rw [hq0, hq1, hv0, hv1]
    obtain ⟨n, hn⟩ : ∃ n, n = (trimL l0).length := ⟨_, rfl⟩
    obtain ⟨m, hm⟩ : ∃ m, m = (trimL l1).length := ⟨_, rfl⟩
    rw [← hn] at hk0 ht0 hcl hst
    rw [← hm] at hk1 ht1 hcl hst
    clear hn hm hq0 hq1 hv0 hv1 h
    obtain ⟨i0, hi0, _, hsz, _⟩ := info_parts info47
    obtain ⟨hcutA, _, hcA⟩ := print_take_of (P := Tryd.prog) (Value.int .u32) 0 28 47 .i64 Tryd.underlying28 hi0 hsz A0 c0 l0 (n : Int) (by omega) (by omega) hc0
    obtain ⟨hcutB, _, hcB⟩ := print_take_of (P := Tryd.prog) (Value.int .u32) 0 28 47 .i64 Tryd.underlying28 hi0 hsz A1 c1 l1 (m : Int) (by omega) (by omega) hc1
    rw [Int.toNat_natCast] at hcutA hcutB
    have Hk0 := Aside0.mk hk0
    have Hk1 := Aside0.mk hk1
    have HR0 := Aside0.mk hr0
    have HR1 := Aside0.mk hr1
    have HC0 := Aside0.mk hc0
    have HC1 := Aside0.mk hc1
    have Hcl := Aside0.mk hcl
    have Hst := Aside0.mk hst
    have G0 := Aside0.mk g0
    have G1 := Aside0.mk g1
    clear hk0 hk1 hr0 hr1 hc0 hc1 hcl hst g0 g1 hi0 hsz hcA hcB
    by_cases hnm : n = m
    · have e1 : ((n : Int) == (m : Int)) = true := by simp [hnm]
      have e2 : ((n : Int) != (m : Int)) = false := by simp [hnm]
      have e3 : (n == m) = true := by simp [hnm]
      have e4 : (n != m) = false := by simp [hnm]
      have Hnm := Aside0.mk hnm
      clear hnm
      go_enter Tryd.func48, Tryd.ntmps48
      go_wp2
      go_quiet (first | (go_at_call 70; (with_reducible refine (nat_top.calls k0 _ _ l0 (n : Int) _ ?side1 ?side2 Hk0.out).mono ?_); (case side1 => repeat (first | exact HR0.out | (with_reducible refine Kd.C_drewN ?_ _) | (with_reducible refine Kd.C_drew ?_))); (case side2 => exact HC0.out); rintro e w' ⟨rfl, ⟨nd, rfl⟩⟩; (first | exact ⟨rfl, _, World.drewN_drewN _ _ _⟩ | exact ⟨rfl, _, rfl⟩ | exact ⟨rfl, _, Eq.trans (World.drewN_drewN _ _ _) (congrArg (World.drewN _) (Nat.add_assoc _ _ _))⟩)) | (go_at_call 70; (with_reducible refine (nat_top.calls k1 _ _ l1 (m : Int) _ ?side1 ?side2 Hk1.out).mono ?_); (case side1 => repeat (first | exact HR1.out | (with_reducible refine Kd.C_drewN ?_ _) | (with_reducible refine Kd.C_drew ?_))); (case side2 => exact HC1.out); rintro e w' ⟨rfl, ⟨nd, rfl⟩⟩; (first | exact ⟨rfl, _, World.drewN_drewN _ _ _⟩ | exact ⟨rfl, _, rfl⟩ | exact ⟨rfl, _, Eq.trans (World.drewN_drewN _ _ _) (congrArg (World.drewN _) (Nat.add_assoc _ _ _))⟩)))
      go_wp2
      go_loopg [5] n (fun j v5 w' => ∃ x : Int, v5 = .int .i64 x ∧ Aside0 (x = (j : Int) - 1) ∧ Aside0 (j ≤ n) ∧ Aside0 (cmpN (valL l0) (valL l1) = cmpN (valL (l0.take j)) (valL (l1.take j))) ∧ Drawn0 w w')
      case atStart => exact ⟨(n : Int) - 1, rfl, ⟨rfl⟩, ⟨Nat.le_refl _⟩, ⟨by rw [Hst.out, ← Hnm.out]⟩, by repeat (first | exact Drawn0.refl _ | apply Drawn0.step)⟩
      case round =>
        obtain ⟨x, rfl, HX, HJ, HV, ⟨mm, rfl⟩⟩ := hrel
        cases gk with
        | zero =>
          have hx0 := HX.out
          have dx : decide (0 ≤ x) = false := decide_eq_false (by omega)
          clear hx0
          go_wp2
          go_ret
          exact ⟨ret_num (by rw [HV.out]; simp [valL, cmpN]), by repeat (first | exact Drawn0.refl _ | apply Drawn0.step)⟩
        | succ j =>
          have hx1 : 0 ≤ x := by have := HX.out; omega
          have hx2 : x < (n : Int) := by have := HX.out; have := HJ.out; omega
          have hx3 : x < (m : Int) := by have := Hnm.out; omega
          obtain ⟨ad0, ea0, hc0⟩ := Kd.at_int HR0.out x hx1 (by omega)
          obtain ⟨ad1, ea1, hc1⟩ := Kd.at_int HR1.out x hx1 (by omega)
          cases ea0
          cases ea1
          have dx : decide (0 ≤ x) = true := decide_eq_true hx1
          have xj : x = (j : Int) := by have := HX.out; omega
          have XJ := Aside0.mk xj
          have hj0 : j < l0.length := by omega
          have hj1 : j < l1.length := by omega
          have ht0 : rd l0 x = l0[j]'hj0 := by rw [xj]; exact rd_get hj0
          have ht1 : rd l1 x = l1[j]'hj1 := by rw [xj]; exact rd_get hj1
          have HT0 := Aside0.mk ht0
          have HT1 := Aside0.mk ht1
          have p0 := goodL_iff.1 G0.out _ (List.getElem_mem (l := l0) (n := j) hj0)
          have p1 := goodL_iff.1 G1.out _ (List.getElem_mem (l := l1) (n := j) hj1)
          have HP := Aside0.mk (And.intro p0 p1)
          have s0 := Fig.valL_take_succ (l := l0) (n := j) hj0
          have s1 := Fig.valL_take_succ (l := l1) (n := j) hj1
          have HS := Aside0.mk (And.intro s0 s1)
          clear xj ht0 ht1 p0 p1 s0 s1
          have px := eq_true hx1
          have q0 := eq_true hx2
          have q1 := eq_true hx3
          by_cases he : rd l0 x = rd l1 x
          · have b0 : (rd l0 x == rd l1 x) = true := by simpa using he
            have b1 : (rd l0 x != rd l1 x) = false := by simpa using he
            have HE := Aside0.mk he
            clear he
            go_wp2
            repeat (go_quiet (fail); go_wp2)
            go_roundg j
            case measure => omega
            case rel => exact ⟨x - 1, by first | rfl | simp | (simp [wrap64]; omega), ⟨by have := XJ.out; omega⟩, ⟨by have := HJ.out; omega⟩, ⟨by rw [HV.out, HS.out.1, HS.out.2]; have h1 := HT0.out; have h2 := HT1.out; have h3 := HE.out; rw [h1, h2] at h3; rw [h3]; exact (cmp_low _ _ _).symm⟩, by repeat (first | exact Drawn0.refl _ | apply Drawn0.step)⟩
          · have b0 : (rd l0 x == rd l1 x) = false := by simpa using he
            have b1 : (rd l0 x != rd l1 x) = true := by simpa using he
            have HV2 := Aside0.mk (show cmpN (rd l0 x).toNat (rd l1 x).toNat = cmpN (valL l0) (valL l1) by
              have h1 := HT0.out
              have h2 := HT1.out
              have h3 := HP.out
              rw [HV.out, HS.out.1, HS.out.2, h1, h2]
              rw [h1, h2] at he
              exact cmp_top _ _ _ _ _ (valL_take_lt G0.out j) (valL_take_lt G1.out j) (by omega))
            have HC2 := Aside0.mk (show cmp_Compare_uint32.f (rd l0 x) (rd l1 x) = some (cmpN (valL l0) (valL l1)) by
              have h1 := HT0.out
              have h2 := HT1.out
              have h3 := HP.out
              rw [← HV2.out]
              have := cmpu_eq (rd l0 x).toNat (rd l1 x).toNat
              rwa [Int.toNat_of_nonneg (by rw [h1]; exact h3.1.1), Int.toNat_of_nonneg (by rw [h2]; exact h3.2.1)] at this)
            clear he
            go_wp2
            repeat (go_quiet (first | (go_at_call 72; (with_reducible refine (cmp_Compare_uint32.calls (rd l0 x) (rd l1 x) _ _ HC2.out).mono ?_); rintro e w' ⟨rfl, ⟨nd, rfl⟩⟩; (first | exact ⟨rfl, _, World.drewN_drewN _ _ _⟩ | exact ⟨rfl, _, rfl⟩ | exact ⟨rfl, _, Eq.trans (World.drewN_drewN _ _ _) (congrArg (World.drewN _) (Nat.add_assoc _ _ _))⟩))); go_wp2)
            go_ret
            exact ⟨rfl, by repeat (first | exact Drawn0.refl _ | apply Drawn0.step)⟩
    · have e1 : ((n : Int) == (m : Int)) = false := by simp; omega
      have e2 : ((n : Int) != (m : Int)) = true := by simp; omega
      have e3 : (n == m) = false := by simpa using hnm
      have e4 : (n != m) = true := by simpa using hnm
      have HC2 := Aside0.mk (show cmp_Compare_int.f (n : Int) (m : Int) = some (cmpN (valL l0) (valL l1)) by rw [Hcl.out hnm]; exact cmpi_eq n m)
      clear hnm
      go_enter Tryd.func48, Tryd.ntmps48
      go_wp2
      go_quiet (first | (go_at_call 70; (with_reducible refine (nat_top.calls k0 _ _ l0 (n : Int) _ ?side1 ?side2 Hk0.out).mono ?_); (case side1 => repeat (first | exact HR0.out | (with_reducible refine Kd.C_drewN ?_ _) | (with_reducible refine Kd.C_drew ?_))); (case side2 => exact HC0.out); rintro e w' ⟨rfl, ⟨nd, rfl⟩⟩; (first | exact ⟨rfl, _, World.drewN_drewN _ _ _⟩ | exact ⟨rfl, _, rfl⟩ | exact ⟨rfl, _, Eq.trans (World.drewN_drewN _ _ _) (congrArg (World.drewN _) (Nat.add_assoc _ _ _))⟩)) | (go_at_call 70; (with_reducible refine (nat_top.calls k1 _ _ l1 (m : Int) _ ?side1 ?side2 Hk1.out).mono ?_); (case side1 => repeat (first | exact HR1.out | (with_reducible refine Kd.C_drewN ?_ _) | (with_reducible refine Kd.C_drew ?_))); (case side2 => exact HC1.out); rintro e w' ⟨rfl, ⟨nd, rfl⟩⟩; (first | exact ⟨rfl, _, World.drewN_drewN _ _ _⟩ | exact ⟨rfl, _, rfl⟩ | exact ⟨rfl, _, Eq.trans (World.drewN_drewN _ _ _) (congrArg (World.drewN _) (Nat.add_assoc _ _ _))⟩)))
      go_wp2_with (go_at_call 71; (with_reducible refine (cmp_Compare_int.calls (n : Int) (m : Int) _ _ HC2.out).mono ?_); rintro e w' ⟨rfl, ⟨nd, rfl⟩⟩)
      go_ret
      exact ⟨rfl, by repeat (first | exact Drawn0.refl _ | apply Drawn0.step)⟩
  · rw [if_neg hg] at h; cases h
end Go.Proofs.YtbjaiphfehnncaaDoor.Px
end
section
namespace Go.Proofs.YtbjaiphfehnncaaDoor.Px
open Fig Go.RowKit Go.Proofs.YtbjaiphfehnncaaDoorW.PrintWords Go.Proofs.YtbjaiphfehnncaaDoorW.PrintLast Go.Proofs.YtbjaiphfehnncaaDoorW.PrintMore
attribute [local go_sem] max2_int min2_int max_two min_two max_three min_three max_four min_four   -- for this text's walks alone
attribute [local go_sem] fieldA23_0 fieldA23_1 fieldA23_2
def dec_Cmp.j0 : Nat → List Int → List Int → Bool → Bool → ByteArray → Int → Bool → ByteArray → Int → Option (Int)
  | 0, _, _, _, _, _, _, _, _, _ => none
  | k + 1, x6, x7, x26, x152000, x152001, x152002, x153000, x153001, x153002 => if x26 = true then (some (-1)) else (if (x152000 != x153000) = true then (some 1) else (if x152000 = true then ((nat_Cmp.f x7 x6).bind fun t159 => (some t159)) else ((nat_Cmp.f x6 x7).bind fun t160 => (some t160))))
def dec_Cmp.f (k : Nat) (a0_0 : Bool) (a0_1 : ByteArray) (a0_2 : Int) (a1_0 : Bool) (a1_1 : ByteArray) (a1_2 : Int) : Option (Int) := (dec_size.f a0_0 a0_1 a0_2 (mn a0_2 a1_2)).bind fun t153 => ((dec_size.f a1_0 a1_1 a1_2 (mn a0_2 a1_2)).bind fun t156 => (if (wrap64 ((t153.length : Int) + (t156.length : Int))) = 0 then (some 0) else (if (a0_0 != a1_0) = true then (dec_Cmp.j0 k t153 t156 a0_0 a0_0 a0_1 a0_2 a1_0 a1_1 a1_2) else (dec_Cmp.j0 k t153 t156 false a0_0 a0_1 a0_2 a1_0 a1_1 a1_2))))
theorem dec_Cmp.mono_l : ∀ k, (∀ y0 y1 y2 y3 y4 y5 y6 y7 y8, LeO (dec_Cmp.j0 k y0 y1 y2 y3 y4 y5 y6 y7 y8) (dec_Cmp.j0 (k + 1) y0 y1 y2 y3 y4 y5 y6 y7 y8))
  | 0 => fun _ _ _ _ _ _ _ _ _ r h => by simp [dec_Cmp.j0] at h
  | k + 1 => by
    have ih0 := dec_Cmp.mono_l k
    · intro y0 y1 y2 y3 y4 y5 y6 y7 y8
      unfold dec_Cmp.j0
      repeat' first
      | (with_reducible exact ih0 _ _ _ _ _ _ _ _ _)
      | (with_reducible exact LeO.refl _)
      | (with_reducible exact LeO.none _)
      | (with_reducible refine LeO.ite ?_ ?_)
      | (with_reducible refine LeO.bind ?_ (fun _ => ?_))
      | exact ih0 _ _ _ _ _ _ _ _ _
      | exact LeO.none _
      | refine LeO.ite ?_ ?_
      | refine LeO.bind ?_ (fun _ => ?_)
theorem dec_Cmp.mono : ∀ a0 a1 a2 a3 a4 a5 k, LeO (dec_Cmp.f k a0 a1 a2 a3 a4 a5) (dec_Cmp.f (k + 1) a0 a1 a2 a3 a4 a5) := by
  intro a0 a1 a2 a3 a4 a5 k
  have ih0 := dec_Cmp.mono_l k
  unfold dec_Cmp.f
  repeat' first
      | (with_reducible exact ih0 _ _ _ _ _ _ _ _ _)
      | (with_reducible exact LeO.refl _)
      | (with_reducible exact LeO.none _)
      | (with_reducible refine LeO.ite ?_ ?_)
      | (with_reducible refine LeO.bind ?_ (fun _ => ?_))
      | exact ih0 _ _ _ _ _ _ _ _ _
      | exact LeO.none _
      | refine LeO.ite ?_ ?_
      | refine LeO.bind ?_ (fun _ => ?_)
def dec_Cmp.T2 : Bool × List (List Nat × List Nat) := (true, [([], []), ([], []), ([0, 1], [0, 1]), ([], []), ([], []), ([3, 4, 2], [3, 4]), ([2, 5, 0, 1, 2], [2]), ([5, 6, 0, 1, 2, 3, 4, 5, 6], [5])])
def dec_Cmp.B2 : List Nat := [0, 0, 3, 0, 0, 31, 63, 127]
theorem dec_Cmp.tab2 : rtab .any (opsOf Tryd.f28 2) = dec_Cmp.T2 := by kernel_rfl
theorem dec_Cmp.bits2 : waitsOk dec_Cmp.T2.2 dec_Cmp.B2 = true := by kernel_rfl
set_option maxHeartbeats 8000000 in
set_option maxRecDepth 100000 in
theorem dec_Cmp.calls (k : Nat) (a0_0 : Bool) (a0_1 : ByteArray) (a0_2 : Int) (a1_0 : Bool) (a1_1 : ByteArray) (a1_2 : Int) (r : Int) (w : World) (hG : Fig.Glob w) (h : dec_Cmp.f k a0_0 a0_1 a0_2 a1_0 a1_1 a1_2 = some r) :
    Calls Tryd.prog 28 #[.agg #[.bool a0_0, .string a0_1, .int .i64 a0_2], .agg #[.bool a1_0, .string a1_1, .int .i64 a1_2]] w fun e w' => e = .returned (.int .i64 r) ∧ Below w.heap.size w w' := by
  have hu23 := Tryd.underlying23
  have HG := Aside0.mk hG
  clear hG
  have HB := Aside0.mk (Below.refl w.heap.size w)
  have H : ((dec_size.f a0_0 a0_1 a0_2 (mn a0_2 a1_2)).bind fun t153 => ((dec_size.f a1_0 a1_1 a1_2 (mn a0_2 a1_2)).bind fun t156 => (if (wrap64 ((t153.length : Int) + (t156.length : Int))) = 0 then (some 0) else (if (a0_0 != a1_0) = true then (dec_Cmp.j0 k t153 t156 a0_0 a0_0 a0_1 a0_2 a1_0 a1_1 a1_2) else (dec_Cmp.j0 k t153 t156 false a0_0 a0_1 a0_2 a1_0 a1_1 a1_2))))) = some r := h
  clear h
  obtain ⟨ji3, hji3⟩ : ∃ j_ : Int, (mn a0_2 a1_2) = j_ := ⟨_, rfl⟩
  replace H : ((dec_size.f a0_0 a0_1 a0_2 (ji3)).bind fun t153 => ((dec_size.f a1_0 a1_1 a1_2 (ji3)).bind fun t156 => (if (wrap64 ((t153.length : Int) + (t156.length : Int))) = 0 then (some 0) else (if (a0_0 != a1_0) = true then (dec_Cmp.j0 k t153 t156 a0_0 a0_0 a0_1 a0_2 a1_0 a1_1 a1_2) else (dec_Cmp.j0 k t153 t156 false a0_0 a0_1 a0_2 a1_0 a1_1 a1_2))))) = some r := by first | (rw [hji3] at H; exact H) | (simp only [hji3] at H ⊢; exact H)
  have hji3_ : (if a1_2 < a0_2 then a1_2 else a0_2) = ji3 := hji3
  replace H := Option.bind_eq_some_iff.mp H
  obtain ⟨t153, A40, H⟩ := H
  replace H : ((dec_size.f a1_0 a1_1 a1_2 (ji3)).bind fun t156 => (if (wrap64 ((t153.length : Int) + (t156.length : Int))) = 0 then (some 0) else (if (a0_0 != a1_0) = true then (dec_Cmp.j0 k t153 t156 a0_0 a0_0 a0_1 a0_2 a1_0 a1_1 a1_2) else (dec_Cmp.j0 k t153 t156 false a0_0 a0_1 a0_2 a1_0 a1_1 a1_2)))) = some r := H
  have A4 := Aside0.mk A40
  clear A40
  replace H := Option.bind_eq_some_iff.mp H
  obtain ⟨t156, A50, H⟩ := H
  replace H : (if (wrap64 ((t153.length : Int) + (t156.length : Int))) = 0 then (some 0) else (if (a0_0 != a1_0) = true then (dec_Cmp.j0 k t153 t156 a0_0 a0_0 a0_1 a0_2 a1_0 a1_1 a1_2) else (dec_Cmp.j0 k t153 t156 false a0_0 a0_1 a0_2 a1_0 a1_1 a1_2))) = some r := H
  have A5 := Aside0.mk A50
  clear A50
  by_cases c6 : (wrap64 ((t153.length : Int) + (t156.length : Int))) = 0
  · rw [if_pos c6] at H
    have c6b0 : ((wrap64 ((t153.length : Int) + (t156.length : Int))) == 0) = true := beq_iff_eq.mpr c6
    have c6b1 : ((wrap64 ((t153.length : Int) + (t156.length : Int))) != 0) = false := bne_eq_false_iff_eq.mpr c6
    clear c6
    obtain rfl := Option.some.inj H
    go_enter Tryd.func28, Tryd.ntmps28
    try go_wp2_with (first | ((with_reducible refine gate_dst (N := 2) rfl ?_); refine box_event ?hg (N := 2) ?hd (cs := #[.bool a0_0, .string a0_1, .int .i64 a0_2]) (t := 23) ?hr ?_; (case hd => rfl); (case hg => rfl); (case hr => first | (go_simp; done) | (go_simp; rfl)); intro gb151 hg w7 hbox hb; have n0_ := Aside0.mk (below_step (by repeat (first | (with_reducible first | exact HB.out | apply below_alloc | apply pw_below_drewN | apply below_drew1) | exact HB.out)) hb); have n1_ := Aside0.mk (hbox); have n2_ := Aside0.mk ((by rw [hg]; exact (below_size (by repeat (first | (with_reducible first | exact HB.out | apply below_alloc | apply pw_below_drewN | apply below_drew1) | exact HB.out))) : w.heap.size ≤ gb151)); have n3_ := Aside0.mk ((by rw [hg]; exact (below_size (by repeat (first | (with_reducible first | exact HB.out | apply below_alloc | apply pw_below_drewN | apply below_drew1) | exact HB.out))) : w.heap.size ≤ gb151)); clear HB; have HB := n0_; have BK151 := n1_; have GW151 := n2_; have GE151 := n3_; clear n0_ n1_ n2_ n3_; clear hb hbox hg) | ((with_reducible refine gate_dst (N := 3) rfl ?_); refine box_event ?hg (N := 3) ?hd (cs := #[.bool a1_0, .string a1_1, .int .i64 a1_2]) (t := 23) ?hr ?_; (case hd => rfl); (case hg => rfl); (case hr => first | (go_simp; done) | (go_simp; rfl)); intro gb152 hg w8 hbox hb; have n0_ := Aside0.mk (blk_below (g := gb151) (o := .cells #[.bool a0_0, .string a0_1, .int .i64 a0_2] 23 (0, 0)) (by (with_reducible repeat (first | refine blk_drewN ?_ _ | refine blk_drew ?_ | refine blk_alloc ?_ _)); exact BK151.out) hb); have n1_ := Aside0.mk (below_step (by repeat (first | (with_reducible first | exact HB.out | apply below_alloc | apply pw_below_drewN | apply below_drew1 | refine below_set ?_ GE151.out) | exact HB.out)) hb); have n2_ := Aside0.mk (hbox); have n3_ := Aside0.mk ((by rw [hg]; exact (below_size (by repeat (first | (with_reducible first | exact HB.out | apply below_alloc | apply pw_below_drewN | apply below_drew1 | refine below_set ?_ GE151.out) | exact HB.out))) : w.heap.size ≤ gb152)); have n4_ := Aside0.mk ((by rw [hg]; exact (below_size (by repeat (first | (with_reducible first | exact HB.out | apply below_alloc | apply pw_below_drewN | apply below_drew1 | refine below_set ?_ GE151.out) | exact HB.out))) : w.heap.size ≤ gb152)); have n5_ := Aside0.mk ((by rw [hg]; exact Nat.ne_of_lt (blk_lt (g := gb151) (o := .cells #[.bool a0_0, .string a0_1, .int .i64 a0_2] 23 (0, 0)) (by (with_reducible repeat (first | refine blk_drewN ?_ _ | refine blk_drew ?_ | refine blk_alloc ?_ _)); exact BK151.out)) : gb151 ≠ gb152)); have n6_ := Aside0.mk ((by rw [hg]; exact Nat.ne_of_gt (blk_lt (g := gb151) (o := .cells #[.bool a0_0, .string a0_1, .int .i64 a0_2] 23 (0, 0)) (by (with_reducible repeat (first | refine blk_drewN ?_ _ | refine blk_drew ?_ | refine blk_alloc ?_ _)); exact BK151.out)) : gb152 ≠ gb151)); clear BK151; clear HB; have BK151 := n0_; have HB := n1_; have BK152 := n2_; have GW152 := n3_; have GE152 := n4_; have NB151_152 := n5_; have NB152_151 := n6_; clear n0_ n1_ n2_ n3_ n4_ n5_ n6_; clear hb hbox hg; have hnb9 := NB151_152.out; have hnc9 := NB152_151.out; have hcz10_0 : w8.cell? ⟨gb151, 0, none⟩ = some (.bool a0_0) := (blk_cell BK151.out 0).trans rfl; have hcz10_1 : w8.cell? ⟨gb151, 1, none⟩ = some (.string a0_1) := (blk_cell BK151.out 1).trans rfl; have hcz10_2 : w8.cell? ⟨gb151, 2, none⟩ = some (.int .i64 a0_2) := (blk_cell BK151.out 2).trans rfl; have hfz10_0 := blk_frozen BK151.out 0; have hfz10_1 := blk_frozen BK151.out 1; have hfz10_2 := blk_frozen BK151.out 2; have hcz11_0 : w8.cell? ⟨gb152, 0, none⟩ = some (.bool a1_0) := (blk_cell BK152.out 0).trans rfl; have hcz11_1 : w8.cell? ⟨gb152, 1, none⟩ = some (.string a1_1) := (blk_cell BK152.out 1).trans rfl; have hcz11_2 : w8.cell? ⟨gb152, 2, none⟩ = some (.int .i64 a1_2) := (blk_cell BK152.out 2).trans rfl; have hfz11_0 := blk_frozen BK152.out 0; have hfz11_1 := blk_frozen BK152.out 1; have hfz11_2 := blk_frozen BK152.out 2))
    (try (rw [drewN_self w8]; generalize hq_ : World.drewN w8 _ = w8; have n0_ : Aside0 (w8.heap[gb151]? = some (.cells #[.bool a0_0, .string a0_1, .int .i64 a0_2] 23 (0, 0))) := ⟨by rw [← hq_]; exact (by (with_reducible repeat (first | refine blk_drewN ?_ _ | refine blk_drew ?_ | refine blk_alloc ?_ _)); exact BK151.out)⟩; have n1_ : Aside0 (w8.heap[gb152]? = some (.cells #[.bool a1_0, .string a1_1, .int .i64 a1_2] 23 (0, 0))) := ⟨by rw [← hq_]; exact (by (with_reducible repeat (first | refine blk_drewN ?_ _ | refine blk_drew ?_ | refine blk_alloc ?_ _)); exact BK152.out)⟩; have n2_ : Aside0 (Below w.heap.size w w8) := ⟨by rw [← hq_]; exact (by repeat (first | (with_reducible first | exact HB.out | apply below_alloc | apply pw_below_drewN | apply below_drew1 | refine below_set ?_ GE151.out | refine below_set ?_ GE152.out) | exact HB.out))⟩; clear BK151 BK152 HB hq_; have BK151 := n0_; have BK152 := n1_; have HB := n2_; clear n0_ n1_ n2_))
    have n0_ := Aside0.mk (blk_drew BK151.out)
    have n1_ := Aside0.mk (blk_drew BK152.out)
    have n2_ := Aside0.mk (below_drew1 HB.out)
    clear BK151
    clear BK152
    clear HB
    have BK151 := n0_
    have BK152 := n1_
    have HB := n2_
    clear n0_ n1_ n2_
    refine start_ (n := 8) (S := fun w' => w'.cell? ⟨gb151, 0, none⟩ = some (.bool a0_0) ∧ w'.cell? ⟨gb151, 1, none⟩ = some (.string a0_1) ∧ w'.cell? ⟨gb151, 2, none⟩ = some (.int .i64 a0_2) ∧ w'.cell? ⟨gb152, 0, none⟩ = some (.bool a1_0) ∧ w'.cell? ⟨gb152, 1, none⟩ = some (.string a1_1) ∧ w'.cell? ⟨gb152, 2, none⟩ = some (.int .i64 a1_2)) (ds := []) #[false, false, false, false, false, false, false, false] (by kernel_rfl) rfl rfl ⟨(blk_cell BK151.out 0).trans rfl, (blk_cell BK151.out 1).trans rfl, (blk_cell BK151.out 2).trans rfl, (blk_cell BK152.out 0).trans rfl, (blk_cell BK152.out 1).trans rfl, (blk_cell BK152.out 2).trans rfl⟩ (fun hHeld => ?_); refine with_tabW dec_Cmp.tab2 dec_Cmp.bits2 (fun HT_ HW_ => ?_)
    generalize w8.drew = w12 at BK151 BK152 HB hHeld ⊢
    refine pure_ (i := 1) (N := some 14) (v := ?_) (a' := ?_) #[false, true, false, false, false, false, false, false] rfl rfl (any_of HT_.out (by kernel_rfl)) (fun _ _ _ h => h) (Or.inl ⟨by rfl, ?_⟩) ?_ ?_
    rotate_left
    · intro w'
      go_simp
      with_reducible rfl
    rotate_left
    · simp only [Act.put, List.setIfInBounds_toArray, List.set_cons_zero, List.set_cons_succ]; (try simp only [i64_w]); (try simp only [i32_w])
      rfl
    refine pure_ (i := 4) (N := some 17) (v := ?_) (a' := ?_) #[false, true, false, false, true, false, false, false] rfl rfl (any_of HT_.out (by kernel_rfl)) (fun _ _ _ h => h) (Or.inl ⟨by rfl, ?_⟩) ?_ ?_
    rotate_left
    · intro w'
      go_simp
      with_reducible rfl
    rotate_left
    · simp only [Act.put, List.setIfInBounds_toArray, List.set_cons_zero, List.set_cons_succ]; (try simp only [i64_w]); (try simp only [i32_w])
      rfl
    refine take_ (i := 0) (N := some 13) (v := ?_) (a' := ?_) #[true, true, false, false, true, false, false, false] rfl rfl (take_ofW HT_.out HW_.out (by kernel_rfl)) (fun _ _ _ h => h) (Or.inl ⟨by rfl, ?_⟩) hHeld ?_ ?_
    rotate_left
    · rintro w' ⟨s0, s1, s2, s3, s4, s5⟩
      go_simp
      with_reducible rfl
    rotate_left
    · simp only [Act.put, List.setIfInBounds_toArray, List.set_cons_zero, List.set_cons_succ]; (try simp only [i64_w]); (try simp only [i32_w])
      rfl
    refine take_ (i := 3) (N := some 16) (v := ?_) (a' := ?_) #[true, true, false, true, true, false, false, false] rfl rfl (take_ofW HT_.out HW_.out (by kernel_rfl)) (fun _ _ _ h => h) (Or.inl ⟨by rfl, ?_⟩) hHeld ?_ ?_
    rotate_left
    · rintro w' ⟨s0, s1, s2, s3, s4, s5⟩
      go_simp
      with_reducible rfl
    rotate_left
    · simp only [Act.put, List.setIfInBounds_toArray, List.set_cons_zero, List.set_cons_succ]; (try simp only [i64_w]); (try simp only [i32_w])
      rfl
    refine one_ (i := 2) (N := some 15) #[true, true, true, true, true, false, false, false] rfl rfl (one_of HT_.out (by kernel_rfl)) (by decide) (fun K hK => ?_)
    refine goes_ Tryd.func47 (by kernel_rfl) rfl #[.agg #[.bool a0_0, .string a0_1, .int .i64 a0_2], .int .i64 ji3] (by rfl) rfl rfl (by (try simp only [List.map_toArray]); (try simp only [List.map_cons]); (try simp only [List.map_nil]); first | done | (simp only [hji3]; rfl) | rfl | (simp only [List.length_drop, List.length_take]; rfl)) ?_
    with_reducible refine (dec_size.calls a0_0 a0_1 a0_2 ji3 t153 _ ?side1 A4.out).mono ?_
    (case side1 => exact Fig.Glob.below HG.out (by repeat (first | (with_reducible first | exact HB.out | apply below_alloc | apply pw_below_drewN | apply below_drew1 | refine below_set ?_ GE151.out | refine below_set ?_ GE152.out) | exact HB.out)))
    rintro e w13 ⟨v154, rfl, ho0, hb⟩
    refine ⟨_, rfl, ?_⟩
    have n0_ := Aside0.mk (Kd.R_lower ho0 (below_size (by repeat (first | (with_reducible first | exact HB.out | apply below_alloc | apply pw_below_drewN | apply below_drew1 | refine below_set ?_ GE151.out | refine below_set ?_ GE152.out) | exact HB.out))))
    have n1_ := Aside0.mk (blk_below (g := gb151) (o := .cells #[.bool a0_0, .string a0_1, .int .i64 a0_2] 23 (0, 0)) (by (with_reducible repeat (first | refine blk_drewN ?_ _ | refine blk_drew ?_ | refine blk_alloc ?_ _)); exact BK151.out) hb)
    have n2_ := Aside0.mk (blk_below (g := gb152) (o := .cells #[.bool a1_0, .string a1_1, .int .i64 a1_2] 23 (0, 0)) (by (with_reducible repeat (first | refine blk_drewN ?_ _ | refine blk_drew ?_ | refine blk_alloc ?_ _)); exact BK152.out) hb)
    have n3_ := Aside0.mk (below_step (by repeat (first | (with_reducible first | exact HB.out | apply below_alloc | apply pw_below_drewN | apply below_drew1 | refine below_set ?_ GE151.out | refine below_set ?_ GE152.out) | exact HB.out)) hb)
    clear BK151
    clear BK152
    clear HB
    have HO155 := n0_
    have BK151 := n1_
    have BK152 := n2_
    have HB := n3_
    clear n0_ n1_ n2_ n3_
    (try clear hb)
    (try clear hb2)
    (try clear hk)
    (try clear hi)
    (try clear ho0)
    refine hK.out _ _ ⟨(blk_cell BK151.out 0).trans rfl, (blk_cell BK151.out 1).trans rfl, (blk_cell BK151.out 2).trans rfl, (blk_cell BK152.out 0).trans rfl, (blk_cell BK152.out 1).trans rfl, (blk_cell BK152.out 2).trans rfl⟩ (fun hHeld => ?_)
    clear hK K
    refine norm_ (a' := ?_) ?_ ?_
    rotate_left
    · show Act.put _ (some 15) _ = _
      simp only [Act.put, List.setIfInBounds_toArray, List.set_cons_zero, List.set_cons_succ]; (try simp only [i64_w]); (try simp only [i32_w])
      rfl
    refine one_ (i := 5) (N := some 18) #[true, true, true, true, true, true, false, false] rfl rfl (one_of HT_.out (by kernel_rfl)) (by decide) (fun K hK => ?_)
    refine goes_ Tryd.func47 (by kernel_rfl) rfl #[.agg #[.bool a1_0, .string a1_1, .int .i64 a1_2], .int .i64 ji3] (by rfl) rfl rfl (by (try simp only [List.map_toArray]); (try simp only [List.map_cons]); (try simp only [List.map_nil]); first | done | (simp only [hji3]; rfl) | rfl | (simp only [List.length_drop, List.length_take]; rfl)) ?_
    with_reducible refine (dec_size.calls a1_0 a1_1 a1_2 ji3 t156 _ ?side1 A5.out).mono ?_
    (case side1 => exact Fig.Glob.below HG.out (by repeat (first | (with_reducible first | exact HB.out | apply below_alloc | apply pw_below_drewN | apply below_drew1 | refine below_set ?_ GE151.out | refine below_set ?_ GE152.out) | exact HB.out)))
    rintro e w14 ⟨v157, rfl, ho0, hb⟩
    refine ⟨_, rfl, ?_⟩
    have n0_ := Aside0.mk (Kd.R_elder' (by (with_reducible repeat (first | apply Kd.R_alloc | apply Kd.R_drewN | apply Kd.R_drew)); exact HO155.out) (Kd.R_base ho0) hb)
    have n1_ := Aside0.mk (Kd.R_lower (Kd.R_new' ho0 (Kd.R_lt (by (with_reducible repeat (first | apply Kd.R_alloc | apply Kd.R_drewN | apply Kd.R_drew)); exact HO155.out))) (below_size (by repeat (first | (with_reducible first | exact HB.out | apply below_alloc | apply pw_below_drewN | apply below_drew1 | refine below_set ?_ GE151.out | refine below_set ?_ GE152.out) | exact HB.out))))
    have n2_ := Aside0.mk (blk_below (g := gb151) (o := .cells #[.bool a0_0, .string a0_1, .int .i64 a0_2] 23 (0, 0)) (by (with_reducible repeat (first | refine blk_drewN ?_ _ | refine blk_drew ?_ | refine blk_alloc ?_ _)); exact BK151.out) hb)
    have n3_ := Aside0.mk (blk_below (g := gb152) (o := .cells #[.bool a1_0, .string a1_1, .int .i64 a1_2] 23 (0, 0)) (by (with_reducible repeat (first | refine blk_drewN ?_ _ | refine blk_drew ?_ | refine blk_alloc ?_ _)); exact BK152.out) hb)
    have n4_ := Aside0.mk (below_step (by repeat (first | (with_reducible first | exact HB.out | apply below_alloc | apply pw_below_drewN | apply below_drew1 | refine below_set ?_ GE151.out | refine below_set ?_ GE152.out) | exact HB.out)) hb)
    clear HO155
    clear BK151
    clear BK152
    clear HB
    have HO155 := n0_
    have HO158 := n1_
    have BK151 := n2_
    have BK152 := n3_
    have HB := n4_
    clear n0_ n1_ n2_ n3_ n4_
    (try clear hb)
    (try clear hb2)
    (try clear hk)
    (try clear hi)
    (try clear ho0)
    refine hK.out _ _ ⟨(blk_cell BK151.out 0).trans rfl, (blk_cell BK151.out 1).trans rfl, (blk_cell BK151.out 2).trans rfl, (blk_cell BK152.out 0).trans rfl, (blk_cell BK152.out 1).trans rfl, (blk_cell BK152.out 2).trans rfl⟩ (fun hHeld => ?_)
    clear hK K
    refine norm_ (a' := ?_) ?_ ?_
    rotate_left
    · show Act.put _ (some 18) _ = _
      simp only [Act.put, List.setIfInBounds_toArray, List.set_cons_zero, List.set_cons_succ]; (try simp only [i64_w]); (try simp only [i32_w])
      rfl
    refine pure_ (i := 6) (N := some 6) (v := ?_) (a' := ?_) #[true, true, true, true, true, true, true, false] rfl rfl (any_of HT_.out (by kernel_rfl)) (fun _ _ _ h => h) (Or.inl ⟨by rfl, ?_⟩) ?_ ?_
    rotate_left
    · intro w'
      go_simp
      with_reducible rfl
    rotate_left
    · simp only [Act.put, List.setIfInBounds_toArray, List.set_cons_zero, List.set_cons_succ]; (try simp only [i64_w]); (try simp only [i32_w])
      rfl
    refine pure_ (i := 7) (N := some 7) (v := ?_) (a' := ?_) #[true, true, true, true, true, true, true, true] rfl rfl (any_of HT_.out (by kernel_rfl)) (fun _ _ _ h => h) (Or.inl ⟨by rfl, ?_⟩) ?_ ?_
    rotate_left
    · intro w'
      go_simp
      with_reducible rfl
    rotate_left
    · simp only [Act.put, List.setIfInBounds_toArray, List.set_cons_zero, List.set_cons_succ]; (try simp only [i64_w]); (try simp only [i32_w])
      rfl
    refine done_ (done_of HT_.out (by kernel_rfl)) ?_
    obtain ⟨Ao15, co15, eo15⟩ := Kd.R_slice HO155.out
    subst eo15
    obtain ⟨Ao16, co16, eo16⟩ := Kd.R_slice HO158.out
    subst eo16
    try go_wp2
    go_ret
    exact ⟨by first | rfl | (simp [errW_none, errW_some] <;> rfl) | (simp only [← hji3]; first | rfl | (simp [errW_none, errW_some] <;> rfl)) | (simp [*, errW_none, errW_some] <;> rfl), by repeat (first | (with_reducible first | exact HB.out | apply below_alloc | apply pw_below_drewN | apply below_drew1 | refine below_set ?_ GE151.out | refine below_set ?_ GE152.out) | exact HB.out)⟩
  · rw [if_neg c6] at H
    have c6b0 : ((wrap64 ((t153.length : Int) + (t156.length : Int))) == 0) = false := beq_eq_false_iff_ne.mpr c6
    have c6b1 : ((wrap64 ((t153.length : Int) + (t156.length : Int))) != 0) = true := bne_iff_ne.mpr c6
    have HC17 := Aside0.mk H
    clear H
    go_enter Tryd.func28, Tryd.ntmps28
    try go_wp2_with (first | ((with_reducible refine gate_dst (N := 2) rfl ?_); refine box_event ?hg (N := 2) ?hd (cs := #[.bool a0_0, .string a0_1, .int .i64 a0_2]) (t := 23) ?hr ?_; (case hd => rfl); (case hg => rfl); (case hr => first | (go_simp; done) | (go_simp; rfl)); intro gb151 hg w18 hbox hb; have n0_ := Aside0.mk (below_step (by repeat (first | (with_reducible first | exact HB.out | apply below_alloc | apply pw_below_drewN | apply below_drew1) | exact HB.out)) hb); have n1_ := Aside0.mk (hbox); have n2_ := Aside0.mk ((by rw [hg]; exact (below_size (by repeat (first | (with_reducible first | exact HB.out | apply below_alloc | apply pw_below_drewN | apply below_drew1) | exact HB.out))) : w.heap.size ≤ gb151)); have n3_ := Aside0.mk ((by rw [hg]; exact (below_size (by repeat (first | (with_reducible first | exact HB.out | apply below_alloc | apply pw_below_drewN | apply below_drew1) | exact HB.out))) : w.heap.size ≤ gb151)); clear HB; have HB := n0_; have BK151 := n1_; have GW151 := n2_; have GE151 := n3_; clear n0_ n1_ n2_ n3_; clear hb hbox hg) | ((with_reducible refine gate_dst (N := 3) rfl ?_); refine box_event ?hg (N := 3) ?hd (cs := #[.bool a1_0, .string a1_1, .int .i64 a1_2]) (t := 23) ?hr ?_; (case hd => rfl); (case hg => rfl); (case hr => first | (go_simp; done) | (go_simp; rfl)); intro gb152 hg w19 hbox hb; have n0_ := Aside0.mk (blk_below (g := gb151) (o := .cells #[.bool a0_0, .string a0_1, .int .i64 a0_2] 23 (0, 0)) (by (with_reducible repeat (first | refine blk_drewN ?_ _ | refine blk_drew ?_ | refine blk_alloc ?_ _)); exact BK151.out) hb); have n1_ := Aside0.mk (below_step (by repeat (first | (with_reducible first | exact HB.out | apply below_alloc | apply pw_below_drewN | apply below_drew1 | refine below_set ?_ GE151.out) | exact HB.out)) hb); have n2_ := Aside0.mk (hbox); have n3_ := Aside0.mk ((by rw [hg]; exact (below_size (by repeat (first | (with_reducible first | exact HB.out | apply below_alloc | apply pw_below_drewN | apply below_drew1 | refine below_set ?_ GE151.out) | exact HB.out))) : w.heap.size ≤ gb152)); have n4_ := Aside0.mk ((by rw [hg]; exact (below_size (by repeat (first | (with_reducible first | exact HB.out | apply below_alloc | apply pw_below_drewN | apply below_drew1 | refine below_set ?_ GE151.out) | exact HB.out))) : w.heap.size ≤ gb152)); have n5_ := Aside0.mk ((by rw [hg]; exact Nat.ne_of_lt (blk_lt (g := gb151) (o := .cells #[.bool a0_0, .string a0_1, .int .i64 a0_2] 23 (0, 0)) (by (with_reducible repeat (first | refine blk_drewN ?_ _ | refine blk_drew ?_ | refine blk_alloc ?_ _)); exact BK151.out)) : gb151 ≠ gb152)); have n6_ := Aside0.mk ((by rw [hg]; exact Nat.ne_of_gt (blk_lt (g := gb151) (o := .cells #[.bool a0_0, .string a0_1, .int .i64 a0_2] 23 (0, 0)) (by (with_reducible repeat (first | refine blk_drewN ?_ _ | refine blk_drew ?_ | refine blk_alloc ?_ _)); exact BK151.out)) : gb152 ≠ gb151)); clear BK151; clear HB; have BK151 := n0_; have HB := n1_; have BK152 := n2_; have GW152 := n3_; have GE152 := n4_; have NB151_152 := n5_; have NB152_151 := n6_; clear n0_ n1_ n2_ n3_ n4_ n5_ n6_; clear hb hbox hg; have hnb20 := NB151_152.out; have hnc20 := NB152_151.out; have hcz21_0 : w19.cell? ⟨gb151, 0, none⟩ = some (.bool a0_0) := (blk_cell BK151.out 0).trans rfl; have hcz21_1 : w19.cell? ⟨gb151, 1, none⟩ = some (.string a0_1) := (blk_cell BK151.out 1).trans rfl; have hcz21_2 : w19.cell? ⟨gb151, 2, none⟩ = some (.int .i64 a0_2) := (blk_cell BK151.out 2).trans rfl; have hfz21_0 := blk_frozen BK151.out 0; have hfz21_1 := blk_frozen BK151.out 1; have hfz21_2 := blk_frozen BK151.out 2; have hcz22_0 : w19.cell? ⟨gb152, 0, none⟩ = some (.bool a1_0) := (blk_cell BK152.out 0).trans rfl; have hcz22_1 : w19.cell? ⟨gb152, 1, none⟩ = some (.string a1_1) := (blk_cell BK152.out 1).trans rfl; have hcz22_2 : w19.cell? ⟨gb152, 2, none⟩ = some (.int .i64 a1_2) := (blk_cell BK152.out 2).trans rfl; have hfz22_0 := blk_frozen BK152.out 0; have hfz22_1 := blk_frozen BK152.out 1; have hfz22_2 := blk_frozen BK152.out 2))
    (try (rw [drewN_self w19]; generalize hq_ : World.drewN w19 _ = w19; have n0_ : Aside0 (w19.heap[gb151]? = some (.cells #[.bool a0_0, .string a0_1, .int .i64 a0_2] 23 (0, 0))) := ⟨by rw [← hq_]; exact (by (with_reducible repeat (first | refine blk_drewN ?_ _ | refine blk_drew ?_ | refine blk_alloc ?_ _)); exact BK151.out)⟩; have n1_ : Aside0 (w19.heap[gb152]? = some (.cells #[.bool a1_0, .string a1_1, .int .i64 a1_2] 23 (0, 0))) := ⟨by rw [← hq_]; exact (by (with_reducible repeat (first | refine blk_drewN ?_ _ | refine blk_drew ?_ | refine blk_alloc ?_ _)); exact BK152.out)⟩; have n2_ : Aside0 (Below w.heap.size w w19) := ⟨by rw [← hq_]; exact (by repeat (first | (with_reducible first | exact HB.out | apply below_alloc | apply pw_below_drewN | apply below_drew1 | refine below_set ?_ GE151.out | refine below_set ?_ GE152.out) | exact HB.out))⟩; clear BK151 BK152 HB hq_; have BK151 := n0_; have BK152 := n1_; have HB := n2_; clear n0_ n1_ n2_))
    have n0_ := Aside0.mk (blk_drew BK151.out)
    have n1_ := Aside0.mk (blk_drew BK152.out)
    have n2_ := Aside0.mk (below_drew1 HB.out)
    clear BK151
    clear BK152
    clear HB
    have BK151 := n0_
    have BK152 := n1_
    have HB := n2_
    clear n0_ n1_ n2_
    refine start_ (n := 8) (S := fun w' => w'.cell? ⟨gb151, 0, none⟩ = some (.bool a0_0) ∧ w'.cell? ⟨gb151, 1, none⟩ = some (.string a0_1) ∧ w'.cell? ⟨gb151, 2, none⟩ = some (.int .i64 a0_2) ∧ w'.cell? ⟨gb152, 0, none⟩ = some (.bool a1_0) ∧ w'.cell? ⟨gb152, 1, none⟩ = some (.string a1_1) ∧ w'.cell? ⟨gb152, 2, none⟩ = some (.int .i64 a1_2)) (ds := []) #[false, false, false, false, false, false, false, false] (by kernel_rfl) rfl rfl ⟨(blk_cell BK151.out 0).trans rfl, (blk_cell BK151.out 1).trans rfl, (blk_cell BK151.out 2).trans rfl, (blk_cell BK152.out 0).trans rfl, (blk_cell BK152.out 1).trans rfl, (blk_cell BK152.out 2).trans rfl⟩ (fun hHeld => ?_); refine with_tabW dec_Cmp.tab2 dec_Cmp.bits2 (fun HT_ HW_ => ?_)
    generalize w19.drew = w23 at BK151 BK152 HB hHeld ⊢
    refine pure_ (i := 1) (N := some 14) (v := ?_) (a' := ?_) #[false, true, false, false, false, false, false, false] rfl rfl (any_of HT_.out (by kernel_rfl)) (fun _ _ _ h => h) (Or.inl ⟨by rfl, ?_⟩) ?_ ?_
    rotate_left
    · intro w'
      go_simp
      with_reducible rfl
    rotate_left
    · simp only [Act.put, List.setIfInBounds_toArray, List.set_cons_zero, List.set_cons_succ]; (try simp only [i64_w]); (try simp only [i32_w])
      rfl
    refine pure_ (i := 4) (N := some 17) (v := ?_) (a' := ?_) #[false, true, false, false, true, false, false, false] rfl rfl (any_of HT_.out (by kernel_rfl)) (fun _ _ _ h => h) (Or.inl ⟨by rfl, ?_⟩) ?_ ?_
    rotate_left
    · intro w'
      go_simp
      with_reducible rfl
    rotate_left
    · simp only [Act.put, List.setIfInBounds_toArray, List.set_cons_zero, List.set_cons_succ]; (try simp only [i64_w]); (try simp only [i32_w])
      rfl
    refine take_ (i := 0) (N := some 13) (v := ?_) (a' := ?_) #[true, true, false, false, true, false, false, false] rfl rfl (take_ofW HT_.out HW_.out (by kernel_rfl)) (fun _ _ _ h => h) (Or.inl ⟨by rfl, ?_⟩) hHeld ?_ ?_
    rotate_left
    · rintro w' ⟨s0, s1, s2, s3, s4, s5⟩
      go_simp
      with_reducible rfl
    rotate_left
    · simp only [Act.put, List.setIfInBounds_toArray, List.set_cons_zero, List.set_cons_succ]; (try simp only [i64_w]); (try simp only [i32_w])
      rfl
    refine take_ (i := 3) (N := some 16) (v := ?_) (a' := ?_) #[true, true, false, true, true, false, false, false] rfl rfl (take_ofW HT_.out HW_.out (by kernel_rfl)) (fun _ _ _ h => h) (Or.inl ⟨by rfl, ?_⟩) hHeld ?_ ?_
    rotate_left
    · rintro w' ⟨s0, s1, s2, s3, s4, s5⟩
      go_simp
      with_reducible rfl
    rotate_left
    · simp only [Act.put, List.setIfInBounds_toArray, List.set_cons_zero, List.set_cons_succ]; (try simp only [i64_w]); (try simp only [i32_w])
      rfl
    refine one_ (i := 2) (N := some 15) #[true, true, true, true, true, false, false, false] rfl rfl (one_of HT_.out (by kernel_rfl)) (by decide) (fun K hK => ?_)
    refine goes_ Tryd.func47 (by kernel_rfl) rfl #[.agg #[.bool a0_0, .string a0_1, .int .i64 a0_2], .int .i64 ji3] (by rfl) rfl rfl (by (try simp only [List.map_toArray]); (try simp only [List.map_cons]); (try simp only [List.map_nil]); first | done | (simp only [hji3]; rfl) | rfl | (simp only [List.length_drop, List.length_take]; rfl)) ?_
    with_reducible refine (dec_size.calls a0_0 a0_1 a0_2 ji3 t153 _ ?side1 A4.out).mono ?_
    (case side1 => exact Fig.Glob.below HG.out (by repeat (first | (with_reducible first | exact HB.out | apply below_alloc | apply pw_below_drewN | apply below_drew1 | refine below_set ?_ GE151.out | refine below_set ?_ GE152.out) | exact HB.out)))
    rintro e w24 ⟨v154, rfl, ho0, hb⟩
    refine ⟨_, rfl, ?_⟩
    have n0_ := Aside0.mk (Kd.R_lower ho0 (below_size (by repeat (first | (with_reducible first | exact HB.out | apply below_alloc | apply pw_below_drewN | apply below_drew1 | refine below_set ?_ GE151.out | refine below_set ?_ GE152.out) | exact HB.out))))
    have n1_ := Aside0.mk (blk_below (g := gb151) (o := .cells #[.bool a0_0, .string a0_1, .int .i64 a0_2] 23 (0, 0)) (by (with_reducible repeat (first | refine blk_drewN ?_ _ | refine blk_drew ?_ | refine blk_alloc ?_ _)); exact BK151.out) hb)
    have n2_ := Aside0.mk (blk_below (g := gb152) (o := .cells #[.bool a1_0, .string a1_1, .int .i64 a1_2] 23 (0, 0)) (by (with_reducible repeat (first | refine blk_drewN ?_ _ | refine blk_drew ?_ | refine blk_alloc ?_ _)); exact BK152.out) hb)
    have n3_ := Aside0.mk (below_step (by repeat (first | (with_reducible first | exact HB.out | apply below_alloc | apply pw_below_drewN | apply below_drew1 | refine below_set ?_ GE151.out | refine below_set ?_ GE152.out) | exact HB.out)) hb)
    clear BK151
    clear BK152
    clear HB
    have HO155 := n0_
    have BK151 := n1_
    have BK152 := n2_
    have HB := n3_
    clear n0_ n1_ n2_ n3_
    (try clear hb)
    (try clear hb2)
    (try clear hk)
    (try clear hi)
    (try clear ho0)
    refine hK.out _ _ ⟨(blk_cell BK151.out 0).trans rfl, (blk_cell BK151.out 1).trans rfl, (blk_cell BK151.out 2).trans rfl, (blk_cell BK152.out 0).trans rfl, (blk_cell BK152.out 1).trans rfl, (blk_cell BK152.out 2).trans rfl⟩ (fun hHeld => ?_)
    clear hK K
    refine norm_ (a' := ?_) ?_ ?_
    rotate_left
    · show Act.put _ (some 15) _ = _
      simp only [Act.put, List.setIfInBounds_toArray, List.set_cons_zero, List.set_cons_succ]; (try simp only [i64_w]); (try simp only [i32_w])
      rfl
    refine one_ (i := 5) (N := some 18) #[true, true, true, true, true, true, false, false] rfl rfl (one_of HT_.out (by kernel_rfl)) (by decide) (fun K hK => ?_)
    refine goes_ Tryd.func47 (by kernel_rfl) rfl #[.agg #[.bool a1_0, .string a1_1, .int .i64 a1_2], .int .i64 ji3] (by rfl) rfl rfl (by (try simp only [List.map_toArray]); (try simp only [List.map_cons]); (try simp only [List.map_nil]); first | done | (simp only [hji3]; rfl) | rfl | (simp only [List.length_drop, List.length_take]; rfl)) ?_
    with_reducible refine (dec_size.calls a1_0 a1_1 a1_2 ji3 t156 _ ?side1 A5.out).mono ?_
    (case side1 => exact Fig.Glob.below HG.out (by repeat (first | (with_reducible first | exact HB.out | apply below_alloc | apply pw_below_drewN | apply below_drew1 | refine below_set ?_ GE151.out | refine below_set ?_ GE152.out) | exact HB.out)))
    rintro e w25 ⟨v157, rfl, ho0, hb⟩
    refine ⟨_, rfl, ?_⟩
    have n0_ := Aside0.mk (Kd.R_elder' (by (with_reducible repeat (first | apply Kd.R_alloc | apply Kd.R_drewN | apply Kd.R_drew)); exact HO155.out) (Kd.R_base ho0) hb)
    have n1_ := Aside0.mk (Kd.R_lower (Kd.R_new' ho0 (Kd.R_lt (by (with_reducible repeat (first | apply Kd.R_alloc | apply Kd.R_drewN | apply Kd.R_drew)); exact HO155.out))) (below_size (by repeat (first | (with_reducible first | exact HB.out | apply below_alloc | apply pw_below_drewN | apply below_drew1 | refine below_set ?_ GE151.out | refine below_set ?_ GE152.out) | exact HB.out))))
    have n2_ := Aside0.mk (blk_below (g := gb151) (o := .cells #[.bool a0_0, .string a0_1, .int .i64 a0_2] 23 (0, 0)) (by (with_reducible repeat (first | refine blk_drewN ?_ _ | refine blk_drew ?_ | refine blk_alloc ?_ _)); exact BK151.out) hb)
    have n3_ := Aside0.mk (blk_below (g := gb152) (o := .cells #[.bool a1_0, .string a1_1, .int .i64 a1_2] 23 (0, 0)) (by (with_reducible repeat (first | refine blk_drewN ?_ _ | refine blk_drew ?_ | refine blk_alloc ?_ _)); exact BK152.out) hb)
    have n4_ := Aside0.mk (below_step (by repeat (first | (with_reducible first | exact HB.out | apply below_alloc | apply pw_below_drewN | apply below_drew1 | refine below_set ?_ GE151.out | refine below_set ?_ GE152.out) | exact HB.out)) hb)
    clear HO155
    clear BK151
    clear BK152
    clear HB
    have HO155 := n0_
    have HO158 := n1_
    have BK151 := n2_
    have BK152 := n3_
    have HB := n4_
    clear n0_ n1_ n2_ n3_ n4_
    (try clear hb)
    (try clear hb2)
    (try clear hk)
    (try clear hi)
    (try clear ho0)
    refine hK.out _ _ ⟨(blk_cell BK151.out 0).trans rfl, (blk_cell BK151.out 1).trans rfl, (blk_cell BK151.out 2).trans rfl, (blk_cell BK152.out 0).trans rfl, (blk_cell BK152.out 1).trans rfl, (blk_cell BK152.out 2).trans rfl⟩ (fun hHeld => ?_)
    clear hK K
    refine norm_ (a' := ?_) ?_ ?_
    rotate_left
    · show Act.put _ (some 18) _ = _
      simp only [Act.put, List.setIfInBounds_toArray, List.set_cons_zero, List.set_cons_succ]; (try simp only [i64_w]); (try simp only [i32_w])
      rfl
    refine pure_ (i := 6) (N := some 6) (v := ?_) (a' := ?_) #[true, true, true, true, true, true, true, false] rfl rfl (any_of HT_.out (by kernel_rfl)) (fun _ _ _ h => h) (Or.inl ⟨by rfl, ?_⟩) ?_ ?_
    rotate_left
    · intro w'
      go_simp
      with_reducible rfl
    rotate_left
    · simp only [Act.put, List.setIfInBounds_toArray, List.set_cons_zero, List.set_cons_succ]; (try simp only [i64_w]); (try simp only [i32_w])
      rfl
    refine pure_ (i := 7) (N := some 7) (v := ?_) (a' := ?_) #[true, true, true, true, true, true, true, true] rfl rfl (any_of HT_.out (by kernel_rfl)) (fun _ _ _ h => h) (Or.inl ⟨by rfl, ?_⟩) ?_ ?_
    rotate_left
    · intro w'
      go_simp
      with_reducible rfl
    rotate_left
    · simp only [Act.put, List.setIfInBounds_toArray, List.set_cons_zero, List.set_cons_succ]; (try simp only [i64_w]); (try simp only [i32_w])
      rfl
    refine done_ (done_of HT_.out (by kernel_rfl)) ?_
    obtain ⟨Ao26, co26, eo26⟩ := Kd.R_slice HO155.out
    subst eo26
    obtain ⟨Ao27, co27, eo27⟩ := Kd.R_slice HO158.out
    subst eo27
    go_upto_region 5 with (fail)
    go_cut [26] (fun v26 wc => ∃ (kq : Nat) (x26_16 : Bool), v26 = .bool x26_16 ∧ Aside0 (dec_Cmp.j0 kq t153 t156 x26_16 a0_0 a0_1 a0_2 a1_0 a1_1 a1_2 = some r) ∧ Aside0 (kq ≤ k) ∧ Aside0 (Kd.R (Kd.int .u32) 47 wc w.heap.size (fun k_ => some k_ ≠ ((.slice Ao27 t156.length co27) : Value).ownBlock) (.slice Ao26 t153.length co26) t153) ∧ Aside0 (Kd.R (Kd.int .u32) 47 wc w.heap.size (fun k_ => some k_ ≠ ((.slice Ao26 t153.length co26) : Value).ownBlock) (.slice Ao27 t156.length co27) t156) ∧ Aside0 (wc.heap[gb151]? = some (.cells #[.bool a0_0, .string a0_1, .int .i64 a0_2] 23 (0, 0))) ∧ Aside0 (wc.heap[gb152]? = some (.cells #[.bool a1_0, .string a1_1, .int .i64 a1_2] 23 (0, 0))) ∧ Aside0 (Below w.heap.size w wc))
    case first =>
      have H := HC17.out
      clear HC17
      by_cases c28 : (a0_0 != a1_0) = true
      · rw [if_pos c28] at H
        have c28b0 : (a0_0 != a1_0) = true := c28
        (try (have c28b1 : decide (a0_0 = a1_0) = false := by simpa using c28))
        (try (have c28b2 : (a0_0 == a1_0) = false := by simpa using c28))
        (try (have c28b3 : ¬ (a0_0 = a1_0) := by simpa using c28))
        clear c28
        (first | rw [c28b0] | (simp only [i64_w, i32_w]; rw [c28b0]) | skip)
        have H' := Aside0.mk H
        clear H
        have hnb29 := NB151_152.out
        have hnc29 := NB152_151.out
        have hcz30_0 : w25.cell? ⟨gb151, 0, none⟩ = some (.bool a0_0) := (blk_cell BK151.out 0).trans rfl
        have hcz30_1 : w25.cell? ⟨gb151, 1, none⟩ = some (.string a0_1) := (blk_cell BK151.out 1).trans rfl
        have hcz30_2 : w25.cell? ⟨gb151, 2, none⟩ = some (.int .i64 a0_2) := (blk_cell BK151.out 2).trans rfl
        have hfz30_0 := blk_frozen BK151.out 0
        have hfz30_1 := blk_frozen BK151.out 1
        have hfz30_2 := blk_frozen BK151.out 2
        have hcz31_0 : w25.cell? ⟨gb152, 0, none⟩ = some (.bool a1_0) := (blk_cell BK152.out 0).trans rfl
        have hcz31_1 : w25.cell? ⟨gb152, 1, none⟩ = some (.string a1_1) := (blk_cell BK152.out 1).trans rfl
        have hcz31_2 : w25.cell? ⟨gb152, 2, none⟩ = some (.int .i64 a1_2) := (blk_cell BK152.out 2).trans rfl
        have hfz31_0 := blk_frozen BK152.out 0
        have hfz31_1 := blk_frozen BK152.out 1
        have hfz31_2 := blk_frozen BK152.out 2
        go_wp2
        go_meet
        case rel => exact ⟨_, (a0_0), (by first | rfl | (simp; done) | (simp [*]; done) | (simp [*, Fig.bne_nil]; done)), H', ⟨by first | omega | exact Nat.le_refl _⟩, ⟨by (with_reducible repeat (first | apply Kd.R_alloc | apply Kd.R_drewN | apply Kd.R_drew)); exact Kd.R_mono HO155.out (fun _ hk => hk.2)⟩, ⟨by (with_reducible repeat (first | apply Kd.R_alloc | apply Kd.R_drewN | apply Kd.R_drew)); exact Kd.R_mono HO158.out (fun _ hk => hk.2)⟩, ⟨by (with_reducible repeat (first | refine blk_drewN ?_ _ | refine blk_drew ?_ | refine blk_alloc ?_ _)); exact BK151.out⟩, ⟨by (with_reducible repeat (first | refine blk_drewN ?_ _ | refine blk_drew ?_ | refine blk_alloc ?_ _)); exact BK152.out⟩, ⟨by repeat (first | (with_reducible first | exact HB.out | apply below_alloc | apply pw_below_drewN | apply below_drew1 | refine below_set ?_ GE151.out | refine below_set ?_ GE152.out) | exact HB.out)⟩⟩
      · rw [if_neg c28] at H
        have c28b0 : (a0_0 != a1_0) = false := by simpa using c28
        (try (have c28b1 : decide (a0_0 = a1_0) = true := by simpa using c28))
        (try (have c28b2 : (a0_0 == a1_0) = true := by simpa using c28))
        clear c28
        (first | rw [c28b0] | (simp only [i64_w, i32_w]; rw [c28b0]) | skip)
        have H' := Aside0.mk H
        clear H
        have hnb32 := NB151_152.out
        have hnc32 := NB152_151.out
        have hcz33_0 : w25.cell? ⟨gb151, 0, none⟩ = some (.bool a0_0) := (blk_cell BK151.out 0).trans rfl
        have hcz33_1 : w25.cell? ⟨gb151, 1, none⟩ = some (.string a0_1) := (blk_cell BK151.out 1).trans rfl
        have hcz33_2 : w25.cell? ⟨gb151, 2, none⟩ = some (.int .i64 a0_2) := (blk_cell BK151.out 2).trans rfl
        have hfz33_0 := blk_frozen BK151.out 0
        have hfz33_1 := blk_frozen BK151.out 1
        have hfz33_2 := blk_frozen BK151.out 2
        have hcz34_0 : w25.cell? ⟨gb152, 0, none⟩ = some (.bool a1_0) := (blk_cell BK152.out 0).trans rfl
        have hcz34_1 : w25.cell? ⟨gb152, 1, none⟩ = some (.string a1_1) := (blk_cell BK152.out 1).trans rfl
        have hcz34_2 : w25.cell? ⟨gb152, 2, none⟩ = some (.int .i64 a1_2) := (blk_cell BK152.out 2).trans rfl
        have hfz34_0 := blk_frozen BK152.out 0
        have hfz34_1 := blk_frozen BK152.out 1
        have hfz34_2 := blk_frozen BK152.out 2
        go_wp2
        go_meet
        case rel => exact ⟨_, (false), (by first | rfl | (simp; done) | (simp [*]; done) | (simp [*, Fig.bne_nil]; done)), H', ⟨by first | omega | exact Nat.le_refl _⟩, ⟨by (with_reducible repeat (first | apply Kd.R_alloc | apply Kd.R_drewN | apply Kd.R_drew)); exact Kd.R_mono HO155.out (fun _ hk => hk.2)⟩, ⟨by (with_reducible repeat (first | apply Kd.R_alloc | apply Kd.R_drewN | apply Kd.R_drew)); exact Kd.R_mono HO158.out (fun _ hk => hk.2)⟩, ⟨by (with_reducible repeat (first | refine blk_drewN ?_ _ | refine blk_drew ?_ | refine blk_alloc ?_ _)); exact BK151.out⟩, ⟨by (with_reducible repeat (first | refine blk_drewN ?_ _ | refine blk_drew ?_ | refine blk_alloc ?_ _)); exact BK152.out⟩, ⟨by repeat (first | (with_reducible first | exact HB.out | apply below_alloc | apply pw_below_drewN | apply below_drew1 | refine below_set ?_ GE151.out | refine below_set ?_ GE152.out) | exact HB.out)⟩⟩
    case rest =>
      clear HC17
      try clear c2
      try clear p2
      try clear c3
      try clear c4
      try clear c6
      try clear c6b0
      try clear c6b1
      try clear p6
      try clear c9
      try clear c20
      try clear c28
      try clear c28b0
      try clear c28b1
      try clear c28b2
      try clear c29
      try clear c32
      try clear hcz10_0
      try clear hcz10_1
      try clear hcz10_2
      try clear hcz11_0
      try clear hcz11_1
      try clear hcz11_2
      try clear hcz21_0
      try clear hcz21_1
      try clear hcz21_2
      try clear hcz22_0
      try clear hcz22_1
      try clear hcz22_2
      try clear hcz30_0
      try clear hcz30_1
      try clear hcz30_2
      try clear hcz31_0
      try clear hcz31_1
      try clear hcz31_2
      try clear hcz33_0
      try clear hcz33_1
      try clear hcz33_2
      try clear hcz34_0
      try clear hcz34_1
      try clear hcz34_2
      try clear hfz10_0
      try clear hfz10_1
      try clear hfz10_2
      try clear hfz11_0
      try clear hfz11_1
      try clear hfz11_2
      try clear hfz21_0
      try clear hfz21_1
      try clear hfz21_2
      try clear hfz22_0
      try clear hfz22_1
      try clear hfz22_2
      try clear hfz30_0
      try clear hfz30_1
      try clear hfz30_2
      try clear hfz31_0
      try clear hfz31_1
      try clear hfz31_2
      try clear hfz33_0
      try clear hfz33_1
      try clear hfz33_2
      try clear hfz34_0
      try clear hfz34_1
      try clear hfz34_2
      obtain ⟨kq, x26_16, rfl, HA, HJ16, HO_6, HO_7, BK151, BK152, HB⟩ := hcut
      cases kq with
      | zero => exact absurd HA.out (by simp [dec_Cmp.j0])
      | succ kj16 =>
        have H := HA.out
        clear HA
        simp only [dec_Cmp.j0] at H
        by_cases c35 : x26_16 = true
        · subst c35
          have H1 : (some (-1)) = some r := by rw [if_pos rfl] at H; exact H
          clear H
          have H := H1
          clear H1
          obtain rfl := Option.some.inj H
          go_wp2
          go_ret
          exact ⟨by first | rfl | (simp [errW_none, errW_some] <;> rfl) | (simp only [← hji3]; first | rfl | (simp [errW_none, errW_some] <;> rfl)) | (simp [*, errW_none, errW_some] <;> rfl), by repeat (first | (with_reducible first | exact HB.out | apply below_alloc | apply pw_below_drewN | apply below_drew1 | refine below_set ?_ GE151.out | refine below_set ?_ GE152.out) | exact HB.out)⟩
        · replace c35 := Bool.eq_false_iff.mpr c35
          subst c35
          have H1 : (if (a0_0 != a1_0) = true then (some 1) else (if a0_0 = true then ((nat_Cmp.f t156 t153).bind fun t159 => (some t159)) else ((nat_Cmp.f t153 t156).bind fun t160 => (some t160)))) = some r := by rw [if_neg (show ¬ (false = true) by decide)] at H; exact H
          clear H
          have H := H1
          clear H1
          by_cases c36 : (a0_0 != a1_0) = true
          · rw [if_pos c36] at H
            have c36b0 : (a0_0 != a1_0) = true := c36
            (try (have c36b1 : decide (a0_0 = a1_0) = false := by simpa using c36))
            (try (have c36b2 : (a0_0 == a1_0) = false := by simpa using c36))
            (try (have c36b3 : ¬ (a0_0 = a1_0) := by simpa using c36))
            clear c36
            obtain rfl := Option.some.inj H
            have hnb37 := NB151_152.out
            have hnc37 := NB152_151.out
            have hcz38_0 : wc.cell? ⟨gb151, 0, none⟩ = some (.bool a0_0) := (blk_cell BK151.out 0).trans rfl
            have hcz38_1 : wc.cell? ⟨gb151, 1, none⟩ = some (.string a0_1) := (blk_cell BK151.out 1).trans rfl
            have hcz38_2 : wc.cell? ⟨gb151, 2, none⟩ = some (.int .i64 a0_2) := (blk_cell BK151.out 2).trans rfl
            have hfz38_0 := blk_frozen BK151.out 0
            have hfz38_1 := blk_frozen BK151.out 1
            have hfz38_2 := blk_frozen BK151.out 2
            have hcz39_0 : wc.cell? ⟨gb152, 0, none⟩ = some (.bool a1_0) := (blk_cell BK152.out 0).trans rfl
            have hcz39_1 : wc.cell? ⟨gb152, 1, none⟩ = some (.string a1_1) := (blk_cell BK152.out 1).trans rfl
            have hcz39_2 : wc.cell? ⟨gb152, 2, none⟩ = some (.int .i64 a1_2) := (blk_cell BK152.out 2).trans rfl
            have hfz39_0 := blk_frozen BK152.out 0
            have hfz39_1 := blk_frozen BK152.out 1
            have hfz39_2 := blk_frozen BK152.out 2
            go_wp2
            go_ret
            exact ⟨by first | rfl | (simp [errW_none, errW_some] <;> rfl) | (simp only [← hji3]; first | rfl | (simp [errW_none, errW_some] <;> rfl)) | (simp [*, errW_none, errW_some] <;> rfl), by repeat (first | (with_reducible first | exact HB.out | apply below_alloc | apply pw_below_drewN | apply below_drew1 | refine below_set ?_ GE151.out | refine below_set ?_ GE152.out) | exact HB.out)⟩
          · rw [if_neg c36] at H
            have c36b0 : (a0_0 != a1_0) = false := by simpa using c36
            (try (have c36b1 : decide (a0_0 = a1_0) = true := by simpa using c36))
            (try (have c36b2 : (a0_0 == a1_0) = true := by simpa using c36))
            clear c36
            by_cases c40 : a0_0 = true
            · subst c40
              have H1 : ((nat_Cmp.f t156 t153).bind fun t159 => (some t159)) = some r := by rw [if_pos rfl] at H; exact H
              clear H
              have H := H1
              clear H1
              replace H := Option.bind_eq_some_iff.mp H
              obtain ⟨t159, A410, H⟩ := H
              replace H : (some t159) = some r := H
              have A41 := Aside0.mk A410
              clear A410
              obtain rfl := Option.some.inj H
              have hnb42 := NB151_152.out
              have hnc42 := NB152_151.out
              have hcz43_0 : wc.cell? ⟨gb151, 0, none⟩ = some (.bool true) := (blk_cell BK151.out 0).trans rfl
              have hcz43_1 : wc.cell? ⟨gb151, 1, none⟩ = some (.string a0_1) := (blk_cell BK151.out 1).trans rfl
              have hcz43_2 : wc.cell? ⟨gb151, 2, none⟩ = some (.int .i64 a0_2) := (blk_cell BK151.out 2).trans rfl
              have hfz43_0 := blk_frozen BK151.out 0
              have hfz43_1 := blk_frozen BK151.out 1
              have hfz43_2 := blk_frozen BK151.out 2
              have hcz44_0 : wc.cell? ⟨gb152, 0, none⟩ = some (.bool a1_0) := (blk_cell BK152.out 0).trans rfl
              have hcz44_1 : wc.cell? ⟨gb152, 1, none⟩ = some (.string a1_1) := (blk_cell BK152.out 1).trans rfl
              have hcz44_2 : wc.cell? ⟨gb152, 2, none⟩ = some (.int .i64 a1_2) := (blk_cell BK152.out 2).trans rfl
              have hfz44_0 := blk_frozen BK152.out 0
              have hfz44_1 := blk_frozen BK152.out 1
              have hfz44_2 := blk_frozen BK152.out 2
              go_wp2_with (first | ((with_reducible refine gate_callee (f := 48) rfl ?_); refine goesL_ (some 47) rfl rfl Tryd.func48 (by kernel_rfl) rfl #[.slice Ao27 t156.length co27, .slice Ao26 t153.length co26] rfl (by (try simp only [List.map_toArray]); (try simp only [List.map_cons]); (try simp only [List.map_nil]); first | done | rfl | (simp only [List.length_drop, List.length_take]; rfl)) ?_; (with_reducible refine (nat_Cmp.calls _ _ t156 _ _ t153 t159 _ ?side1 ?side2 ?side3 ?side4 A41.out).mono ?_); (case side1 => repeat (first | exact (Kd.R_reads' HO_7.out).2.2 | (with_reducible refine Kd.C_alloc ?_ _) | (with_reducible refine Kd.C_drewN ?_ _) | (with_reducible refine Kd.C_drew ?_))); (case side2 => exact (Kd.R_reads' HO_7.out).2.1); (case side3 => repeat (first | exact (Kd.R_reads' HO_6.out).2.2 | (with_reducible refine Kd.C_alloc ?_ _) | (with_reducible refine Kd.C_drewN ?_ _) | (with_reducible refine Kd.C_drew ?_))); (case side4 => exact (Kd.R_reads' HO_6.out).2.1); rintro e w' ⟨rfl, ⟨nd, rfl⟩⟩; refine ⟨_, rfl, ?_⟩))
              go_ret
              exact ⟨by first | rfl | (simp [errW_none, errW_some] <;> rfl) | (simp only [← hji3]; first | rfl | (simp [errW_none, errW_some] <;> rfl)) | (simp [*, errW_none, errW_some] <;> rfl), by repeat (first | (with_reducible first | exact HB.out | apply below_alloc | apply pw_below_drewN | apply below_drew1 | refine below_set ?_ GE151.out | refine below_set ?_ GE152.out) | exact HB.out)⟩
            · replace c40 := Bool.eq_false_iff.mpr c40
              subst c40
              have H1 : ((nat_Cmp.f t153 t156).bind fun t160 => (some t160)) = some r := by rw [if_neg (show ¬ (false = true) by decide)] at H; exact H
              clear H
              have H := H1
              clear H1
              replace H := Option.bind_eq_some_iff.mp H
              obtain ⟨t160, A450, H⟩ := H
              replace H : (some t160) = some r := H
              have A45 := Aside0.mk A450
              clear A450
              obtain rfl := Option.some.inj H
              have hnb46 := NB151_152.out
              have hnc46 := NB152_151.out
              have hcz47_0 : wc.cell? ⟨gb151, 0, none⟩ = some (.bool false) := (blk_cell BK151.out 0).trans rfl
              have hcz47_1 : wc.cell? ⟨gb151, 1, none⟩ = some (.string a0_1) := (blk_cell BK151.out 1).trans rfl
              have hcz47_2 : wc.cell? ⟨gb151, 2, none⟩ = some (.int .i64 a0_2) := (blk_cell BK151.out 2).trans rfl
              have hfz47_0 := blk_frozen BK151.out 0
              have hfz47_1 := blk_frozen BK151.out 1
              have hfz47_2 := blk_frozen BK151.out 2
              have hcz48_0 : wc.cell? ⟨gb152, 0, none⟩ = some (.bool a1_0) := (blk_cell BK152.out 0).trans rfl
              have hcz48_1 : wc.cell? ⟨gb152, 1, none⟩ = some (.string a1_1) := (blk_cell BK152.out 1).trans rfl
              have hcz48_2 : wc.cell? ⟨gb152, 2, none⟩ = some (.int .i64 a1_2) := (blk_cell BK152.out 2).trans rfl
              have hfz48_0 := blk_frozen BK152.out 0
              have hfz48_1 := blk_frozen BK152.out 1
              have hfz48_2 := blk_frozen BK152.out 2
              go_wp2_with (first | ((with_reducible refine gate_callee (f := 48) rfl ?_); refine goesL_ (some 50) rfl rfl Tryd.func48 (by kernel_rfl) rfl #[.slice Ao26 t153.length co26, .slice Ao27 t156.length co27] rfl (by (try simp only [List.map_toArray]); (try simp only [List.map_cons]); (try simp only [List.map_nil]); first | done | rfl | (simp only [List.length_drop, List.length_take]; rfl)) ?_; (with_reducible refine (nat_Cmp.calls _ _ t153 _ _ t156 t160 _ ?side1 ?side2 ?side3 ?side4 A45.out).mono ?_); (case side1 => repeat (first | exact (Kd.R_reads' HO_6.out).2.2 | (with_reducible refine Kd.C_alloc ?_ _) | (with_reducible refine Kd.C_drewN ?_ _) | (with_reducible refine Kd.C_drew ?_))); (case side2 => exact (Kd.R_reads' HO_6.out).2.1); (case side3 => repeat (first | exact (Kd.R_reads' HO_7.out).2.2 | (with_reducible refine Kd.C_alloc ?_ _) | (with_reducible refine Kd.C_drewN ?_ _) | (with_reducible refine Kd.C_drew ?_))); (case side4 => exact (Kd.R_reads' HO_7.out).2.1); rintro e w' ⟨rfl, ⟨nd, rfl⟩⟩; refine ⟨_, rfl, ?_⟩))
              go_ret
              exact ⟨by first | rfl | (simp [errW_none, errW_some] <;> rfl) | (simp only [← hji3]; first | rfl | (simp [errW_none, errW_some] <;> rfl)) | (simp [*, errW_none, errW_some] <;> rfl), by repeat (first | (with_reducible first | exact HB.out | apply below_alloc | apply pw_below_drewN | apply below_drew1 | refine below_set ?_ GE151.out | refine below_set ?_ GE152.out) | exact HB.out)⟩
end Go.Proofs.YtbjaiphfehnncaaDoor.Px
end
