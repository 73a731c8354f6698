/- The functions that the law ArithSigns reaches, told as plain functions, with what is proved of them, and the words they need (part 1). -/
import Derived.Test.YtbjaiphfehnncaaDoorCArithSigns0
import Derived.Lib.OthersKept
import Derived.Laws.RangeAny
import Derived.Laws.RangeString
import Derived.Deep.RegionLaw
import Derived.Shelf.Strings.BuilderK
import Derived.Shelf.Strings.Trim
import Derived.Test.YtbjaiphfehnncaaDoorProg
import Derived.RangeFuncFrom
import Derived.RangeFuncBox
import Derived.RangeFuncLeaves
import Derived.RangeFuncCalls
import Derived.Shelf.Abstract
import Derived.OwnWalkIn
import Derived.TacticsInMore
import Derived.LoopNIn
import Derived.LoopIn
set_option linter.unusedVariables false
set_option linter.unusedSimpArgs false
section
namespace Go.Proofs.YtbjaiphfehnncaaDoor.Px
open Fig Go.RowKit Go.Proofs.YtbjaiphfehnncaaDoorW.PrintWords Go.Proofs.YtbjaiphfehnncaaDoorW.PrintLast Go.Proofs.YtbjaiphfehnncaaDoorW.PrintMore
attribute [local go_sem] max2_int min2_int max_two min_two max_three min_three max_four min_four   -- for this text's walks alone
attribute [local go_sem] fieldA23_0 fieldA23_1 fieldA23_2
set_option maxRecDepth 100000
theorem digL_take {l : List UInt8} (h : digL l = true) (n : Nat) : digL (l.take n) = true := by
  unfold digL at h ⊢; rw [List.all_eq_true] at h ⊢; exact fun x hx => h x (List.mem_of_mem_take hx)
theorem num_step (n c : Nat) (h1 : 48 ≤ c) (h2 : c ≤ 57) (hn : n < 100000000) : (((n : Int) * 10 % 4294967296 + wrap32 ((c : Int) - 48) % 4294967296) % 4294967296) = ((10 * n + (c - 48) : Nat) : Int) := by
  have e : wrap32 ((c : Int) - 48) = ((c - 48 : Nat) : Int) := by unfold wrap32; omega
  rw [e]; omega
def ten_Number.f (s : ByteArray) : Option (List Int × Bool) := if s.size ≤ 140737488351232 then some (if dB s = true ∧ s.size ≠ 0 then (limbs (vB s), true) else ([], false)) else none
theorem byte_at (s : ByteArray) (i : Nat) (h : i < s.size) : s.data.toList[i]'(by rw [← size_eq]; exact h) = s[i]'h := rfl
theorem take_digits (s : ByteArray) (i : Nat) (h : i < s.size) : digL (s.data.toList.take (i + 1)) = (digL (s.data.toList.take i) && isD (s[i]'h)) := by
  rw [List.take_succ_eq_append_getElem (by rw [← size_eq]; exact h)]
  unfold digL
  rw [List.all_append]; simp; rfl
theorem not_digits (s : ByteArray) (i : Nat) (h : i < s.size) (hc : isD (s[i]'h) = false) : dB s = false := by
  unfold dB digL
  rw [Bool.eq_false_iff]; intro hall
  have := List.all_eq_true.1 hall _ (List.getElem_mem (n := i) (by rw [← size_eq]; exact h))
  rw [byte_at s i h, hc] at this; cases this
theorem suffix_step (L : List UInt8) (a e : Nat) (ha : a ≤ e) (he : e ≤ L.length) : rv (L.drop a).reverse = rv (L.drop e).reverse + 10 ^ (L.length - e) * rv ((L.drop a).take (e - a)).reverse := by
  have h1 : L.drop a = (L.drop a).take (e - a) ++ L.drop e := by
    have := (List.take_append_drop (e - a) (L.drop a)).symm
    rwa [List.drop_drop, show a + (e - a) = e by omega] at this
  conv => lhs; rw [h1]
  rw [List.reverse_append, rv_append, List.length_reverse, List.length_drop]
theorem take_rv (L : List UInt8) (p : Nat) (h : p < L.length) : rv (L.take (p + 1)).reverse = ((L[p]'h).toNat - 48) + 10 * rv (L.take p).reverse := by
  rw [List.take_succ_eq_append_getElem h, List.reverse_append]; rfl
set_option maxHeartbeats 8000000 in
theorem ten_Number.calls (s : ByteArray) (r1 : List Int) (r2 : Bool) (w : World) (h : ten_Number.f s = some (r1, r2)) :
    Calls Tryd.prog 43 #[.string s] w fun e w' => ∃ v0_ : Value, e = .returned (.tuple #[v0_, .bool r2]) ∧ Kd.R (Kd.int .u32) 47 w' w.heap.size (fun _ => True) v0_ r1 ∧ Below w.heap.size w w' := by
  unfold ten_Number.f at h
  by_cases hs : s.size ≤ 140737488351232
  · rw [if_pos hs] at h
    have h2 := Option.some.inj h
    clear h
    by_cases hz : s.size = 0
    · rw [if_neg (fun hh => hh.2 hz)] at h2
      obtain ⟨rfl, rfl⟩ := Prod.mk.inj h2
      obtain rfl : s = ⟨#[]⟩ := by apply B_ext; exact List.eq_nil_of_length_eq_zero (by rw [← size_eq]; exact hz)
      clear hz h2 hs
      go_enter Tryd.func43, Tryd.ntmps43
      go_wp2
      go_ret2
      exact ⟨_, rfl, Kd.R_nil _ _ _ _ _, Below.refl _ _⟩
    have hne : (s.toList == ([] : List UInt8)) = false := by
      rw [beq_eq_false_iff_ne, ByteArray.toList_eq]; intro hh; apply hz; rw [size_eq, hh]; rfl
    have HZ := Aside0.mk hz
    have H2 := Aside0.mk h2
    clear hz h2
    go_enter Tryd.func43, Tryd.ntmps43
    go_wp2
    go_loopg [5] s.size (fun j v5 w' => ∃ pos : Nat, Aside0 (pos + j = s.size) ∧ Aside0 (digL (s.data.toList.take pos) = true) ∧ Aside0 (w'.heap[w.heap.size]? = some (.stringIter s pos)) ∧ Aside0 (Below w.heap.size w w'))
    case atStart => exact ⟨0, ⟨by omega⟩, ⟨rfl⟩, ⟨by unfold World.iter; exact heap_alloc_new w _⟩, ⟨(Below.refl _ w).alloc (Nat.le_refl _) _⟩⟩
    case round =>
      obtain ⟨pos, HP, HD, HI, HB⟩ := hrel
      cases gk with
      | zero =>
        have hp := HP.out
        have hnx := Lib.run_next_end_at (P := Tryd.prog) wr w.heap.size s pos 0 HI.out (by omega)
        clear hp
        obtain rfl : pos = s.size := by have := HP.out; omega
        have hdb : dB s = true := by have := HD.out; rw [List.take_of_length_le (by rw [← size_eq]; exact Nat.le_refl _)] at this; exact this
        have h2 := H2.out
        rw [if_pos ⟨hdb, HZ.out⟩] at h2
        obtain ⟨rfl, rfl⟩ := Prod.mk.inj h2
        have HDB := Aside0.mk hdb
        clear h2 hdb HD
        go_wp2
        go_loopg [6, 7, 8, 10] (s.size / 9 + 1) (fun j v6 v7 v8 v10 w' => ∃ (i : Nat) (o : List Int), v7 = .int .i64 ((s.size : Int) - 9 * (i : Int)) ∧ Aside0 (i + j = s.size / 9 + 1) ∧ Aside0 (o.length = i ∧ goodL o = true ∧ valL o = rv (s.data.toList.drop (s.size - 9 * i)).reverse) ∧ Aside0 (Kd.R (Kd.int .u32) 47 w' w.heap.size (fun _ => True) v6 o) ∧ Aside0 (Below w.heap.size w w'))
        case atStart => exact ⟨0, [], by simp, ⟨by omega⟩, ⟨rfl, rfl, by rw [Nat.mul_zero, Nat.sub_zero, size_eq, List.drop_length]; rfl⟩, ⟨Kd.R_nil _ _ _ _ _⟩, HB⟩
        case round =>
          clear HB HI hnx
          obtain ⟨i, o, rfl, HJ, HV, HO, HB⟩ := hrel
          by_cases he : 9 * i < s.size
          · obtain _ | j := gk
            · exact absurd HJ.out (by omega)
            obtain ⟨E, hE⟩ : ∃ E : Nat, (s.size : Int) - 9 * (i : Int) = (E : Int) := ⟨s.size - 9 * i, by omega⟩
            rw [hE]
            have d1 : decide (0 < E) = true := decide_eq_true (by omega)
            have HE := Aside0.mk hE
            rcases Int.lt_trichotomy ((E : Int) - 9) 0 with hx | hx | hx
            · obtain ⟨x, hxx⟩ : ∃ x : Int, (E : Int) - 9 = x := ⟨_, rfl⟩
              have w9 : wrap64 ((E : Int) - 9) = x := by rw [w64 (by omega) (by omega)]; exact hxx
              have q1 : x < 0 := by omega
              have q3 : decide (x < 0) = true := decide_eq_true q1
              have q2 : E ≤ s.size := by omega
              have HLO := Aside0.mk (show 0 = s.size - 9 * (i + 1) ∧ 0 ≤ E ∧ E - 0 ≤ 9 ∧ E = s.size - 9 * i by omega)
              obtain ⟨sub, hsub⟩ : ∃ sub, sub = s.extract 0 E := ⟨_, rfl⟩
              have HSUB := Aside0.mk hsub
              go_wp2
              rw [← HSUB.out]
              have HDS := Aside0.mk (show digL sub.data.toList = true by
                have hd := HDB.out
                rw [HSUB.out, B_extract]
                unfold dB digL at hd; unfold digL
                rw [List.all_eq_true] at hd ⊢
                exact fun x hx => hd x (List.mem_of_mem_drop (List.mem_of_mem_take hx)))
              have HSS := Aside0.mk (show sub.size = E - 0 by rw [HSUB.out, size_eq, B_extract, List.length_take, List.length_drop, ← size_eq]; have := HLO.out; omega)
              have HIT := Aside0.mk (show (wr.iter sub 0).heap[wr.heap.size]? = some (.stringIter sub 0) by unfold World.iter; exact heap_alloc_new wr _)
              have HBI := Aside0.mk (show Below wr.heap.size wr (wr.iter sub 0) from (Below.refl _ wr).alloc (Nat.le_refl _) _)
              clear hsub hE
              go_loopg [8, 10] sub.size (fun j v8 v10 w' => ∃ p n : Nat, v8 = .int .u32 (n : Int) ∧ Aside0 (n = rv (sub.data.toList.take p).reverse) ∧ Aside0 (p + j = sub.size) ∧ Aside0 (w'.heap[wr.heap.size]? = some (.stringIter sub p)) ∧ Aside0 (Below wr.heap.size wr w'))
              case atStart => exact ⟨0, 0, rfl, ⟨rfl⟩, ⟨by omega⟩, HIT, HBI⟩
              case round =>
                clear HIT HBI
                obtain ⟨p, n, rfl, HN, HPP, HIT, HBI⟩ := hrel
                have hn9 : n < 10 ^ p := by
                  rw [HN.out]
                  refine Nat.lt_of_lt_of_le (rv_lt (by rw [digL_reverse]; exact digL_take HDS.out p)) ?_
                  rw [List.length_reverse, List.length_take]; exact Nat.pow_le_pow_right (by omega) (Nat.min_le_left _ _)
                cases gk with
                | zero =>
                  have hnx := Lib.run_next_end_at (P := Tryd.prog) wr _ sub p 0 HIT.out (by have := HPP.out; omega)
                  obtain rfl : p = sub.size := by have := HPP.out; omega
                  have HNV := Aside0.mk (show n = rv sub.data.toList.reverse ∧ n < 1000000000 by
                    have h1 := HN.out
                    rw [List.take_of_length_le (by rw [← size_eq]; exact Nat.le_refl _)] at h1
                    exact ⟨h1, Nat.lt_of_lt_of_le hn9 (Nat.le_trans (Nat.pow_le_pow_right (by omega) (show sub.size ≤ 9 by rw [HSS.out]; exact HLO.out.2.2.1)) (by decide))⟩)
                  have HOW := Aside0.mk (Kd.R_below HO.out HBI.out)
                  have HBW := Aside0.mk (HB.out.trans (HBI.out.mono HB.out.size))
                  have HL := Aside0.mk (show (o.length + 1) * 4 ≤ 140737488355328 by have := HV.out; have := HJ.out; omega)
                  clear hn9
                  go_wp2_with (first
                    | ((with_reducible refine gate_builtin (b := .append) (xs := #[.tmp 46, .tmp 48]) rfl ?_); at_builtin; refine Kd.R_append (Kd.int .u32) (w0 := w) w.heap.size rfl (.tmp 46) (.tmp 48) 28 47 (.int .u32 0) 4 rfl Tryd.underlying28 info47 rfl (by decide) (by omega) _ o (n : Int) [.int .u32 (n : Int)] (fun _ => True) (fun _ => False) rfl rfl rfl (fun _ hk => hk.elim) (fun _ _ => trivial) HOW.out HBW.out HBW.out.size HL.out ?_; intro v49 w11 ho hb hg hat; have HO2 := Aside0.mk ho; have HB2 := Aside0.mk hb; clear ho hb hg hat))
                  go_roundg j
                  case measure => omega
                  case rel =>
                    refine ⟨i + 1, _, ?_, ⟨by have := HJ.out; omega⟩, ⟨?_⟩, HO2, HB2⟩
                    · have h1 := HE.out
                      congr 1; omega
                    obtain ⟨h1, h2, h3⟩ := HV.out
                    obtain ⟨l1, l2, l3, l4⟩ := HLO.out
                    obtain ⟨n1, n2⟩ := HNV.out
                    refine ⟨by rw [List.length_append, h1]; rfl, goodL_append.2 ⟨h2, goodL_cons.2 ⟨by omega, rfl⟩⟩, ?_⟩
                    rw [valL_snoc, h3, h1, Int.toNat_natCast, n1, HSUB.out, B_extract, pow9, ← l1, suffix_step s.data.toList _ E l2 (by rw [← size_eq]; omega), l4, ← size_eq, show s.size - (s.size - 9 * i) = 9 * i by omega]
                | succ jj =>
                  have hp : p < sub.size := by have := HPP.out; omega
                  have hcd : isD (sub[p]'hp) = true := by
                    have := HDS.out
                    unfold digL at this
                    exact List.all_eq_true.1 this _ (List.getElem_mem (n := p) (by rw [← size_eq]; exact hp))
                  have hc2 := isD_iff.1 hcd
                  obtain ⟨c, hcn⟩ : ∃ c, c = (sub[p]'hp).toNat := ⟨_, rfl⟩
                  have hnx := Lib.run_next_ascii_at (P := Tryd.prog) wr _ sub p 0 HIT.out hp (by omega)
                  rw [← hcn] at hnx hc2
                  have HN2 := Aside0.mk (show rv (sub.data.toList.take (p + 1)).reverse = (c - 48) + 10 * n by
                    rw [take_rv _ p (by rw [← size_eq]; exact hp), HN.out, hcn]; rfl)
                  have HBJ := Aside0.mk (Lib.below_iterAt HBI.out (Nat.le_refl _) sub (p + 1))
                  have HIJ := Aside0.mk (Lib.iterAt_heap wr _ sub p (p + 1) HIT.out)
                  have hn8 : n < 100000000 := Nat.lt_of_lt_of_le hn9 (Nat.le_trans (Nat.pow_le_pow_right (by omega) (show p ≤ 8 by have := HSS.out; have := HLO.out; omega)) (by decide))
                  have HCC := Aside0.mk (show 48 ≤ c ∧ c ≤ 57 ∧ n < 100000000 from ⟨hc2.1, hc2.2, hn8⟩)
                  clear hcn hc2 hcd hn9 hn8 hp
                  go_wp2
                  go_roundg jj
                  case measure => omega
                  case rel =>
                    refine ⟨p + 1, 10 * n + (c - 48), ?_, ⟨by rw [HN2.out]; exact Nat.add_comm _ _⟩, ⟨by have := HPP.out; omega⟩, HIJ, HBJ⟩
                    rw [num_step n c HCC.out.1 HCC.out.2.1 HCC.out.2.2]
            · have w9 : wrap64 ((E : Int) - 9) = 0 := by rw [w64 (by omega) (by omega)]; exact hx
              have q2 : E ≤ s.size := by omega
              have HLO := Aside0.mk (show 0 = s.size - 9 * (i + 1) ∧ 0 ≤ E ∧ E - 0 ≤ 9 ∧ E = s.size - 9 * i by omega)
              obtain ⟨sub, hsub⟩ : ∃ sub, sub = s.extract 0 E := ⟨_, rfl⟩
              have HSUB := Aside0.mk hsub
              go_wp2
              rw [← HSUB.out]
              have HDS := Aside0.mk (show digL sub.data.toList = true by
                have hd := HDB.out
                rw [HSUB.out, B_extract]
                unfold dB digL at hd; unfold digL
                rw [List.all_eq_true] at hd ⊢
                exact fun x hx => hd x (List.mem_of_mem_drop (List.mem_of_mem_take hx)))
              have HSS := Aside0.mk (show sub.size = E - 0 by rw [HSUB.out, size_eq, B_extract, List.length_take, List.length_drop, ← size_eq]; have := HLO.out; omega)
              have HIT := Aside0.mk (show (wr.iter sub 0).heap[wr.heap.size]? = some (.stringIter sub 0) by unfold World.iter; exact heap_alloc_new wr _)
              have HBI := Aside0.mk (show Below wr.heap.size wr (wr.iter sub 0) from (Below.refl _ wr).alloc (Nat.le_refl _) _)
              clear hsub hE
              go_loopg [8, 10] sub.size (fun j v8 v10 w' => ∃ p n : Nat, v8 = .int .u32 (n : Int) ∧ Aside0 (n = rv (sub.data.toList.take p).reverse) ∧ Aside0 (p + j = sub.size) ∧ Aside0 (w'.heap[wr.heap.size]? = some (.stringIter sub p)) ∧ Aside0 (Below wr.heap.size wr w'))
              case atStart => exact ⟨0, 0, rfl, ⟨rfl⟩, ⟨by omega⟩, HIT, HBI⟩
              case round =>
                clear HIT HBI
                obtain ⟨p, n, rfl, HN, HPP, HIT, HBI⟩ := hrel
                have hn9 : n < 10 ^ p := by
                  rw [HN.out]
                  refine Nat.lt_of_lt_of_le (rv_lt (by rw [digL_reverse]; exact digL_take HDS.out p)) ?_
                  rw [List.length_reverse, List.length_take]; exact Nat.pow_le_pow_right (by omega) (Nat.min_le_left _ _)
                cases gk with
                | zero =>
                  have hnx := Lib.run_next_end_at (P := Tryd.prog) wr _ sub p 0 HIT.out (by have := HPP.out; omega)
                  obtain rfl : p = sub.size := by have := HPP.out; omega
                  have HNV := Aside0.mk (show n = rv sub.data.toList.reverse ∧ n < 1000000000 by
                    have h1 := HN.out
                    rw [List.take_of_length_le (by rw [← size_eq]; exact Nat.le_refl _)] at h1
                    exact ⟨h1, Nat.lt_of_lt_of_le hn9 (Nat.le_trans (Nat.pow_le_pow_right (by omega) (show sub.size ≤ 9 by rw [HSS.out]; exact HLO.out.2.2.1)) (by decide))⟩)
                  have HOW := Aside0.mk (Kd.R_below HO.out HBI.out)
                  have HBW := Aside0.mk (HB.out.trans (HBI.out.mono HB.out.size))
                  have HL := Aside0.mk (show (o.length + 1) * 4 ≤ 140737488355328 by have := HV.out; have := HJ.out; omega)
                  clear hn9
                  go_wp2_with (first
                    | ((with_reducible refine gate_builtin (b := .append) (xs := #[.tmp 46, .tmp 48]) rfl ?_); at_builtin; refine Kd.R_append (Kd.int .u32) (w0 := w) w.heap.size rfl (.tmp 46) (.tmp 48) 28 47 (.int .u32 0) 4 rfl Tryd.underlying28 info47 rfl (by decide) (by omega) _ o (n : Int) [.int .u32 (n : Int)] (fun _ => True) (fun _ => False) rfl rfl rfl (fun _ hk => hk.elim) (fun _ _ => trivial) HOW.out HBW.out HBW.out.size HL.out ?_; intro v49 w11 ho hb hg hat; have HO2 := Aside0.mk ho; have HB2 := Aside0.mk hb; clear ho hb hg hat))
                  go_roundg j
                  case measure => omega
                  case rel =>
                    refine ⟨i + 1, _, ?_, ⟨by have := HJ.out; omega⟩, ⟨?_⟩, HO2, HB2⟩
                    · have h1 := HE.out
                      congr 1; omega
                    obtain ⟨h1, h2, h3⟩ := HV.out
                    obtain ⟨l1, l2, l3, l4⟩ := HLO.out
                    obtain ⟨n1, n2⟩ := HNV.out
                    refine ⟨by rw [List.length_append, h1]; rfl, goodL_append.2 ⟨h2, goodL_cons.2 ⟨by omega, rfl⟩⟩, ?_⟩
                    rw [valL_snoc, h3, h1, Int.toNat_natCast, n1, HSUB.out, B_extract, pow9, ← l1, suffix_step s.data.toList _ E l2 (by rw [← size_eq]; omega), l4, ← size_eq, show s.size - (s.size - 9 * i) = 9 * i by omega]
                | succ jj =>
                  have hp : p < sub.size := by have := HPP.out; omega
                  have hcd : isD (sub[p]'hp) = true := by
                    have := HDS.out
                    unfold digL at this
                    exact List.all_eq_true.1 this _ (List.getElem_mem (n := p) (by rw [← size_eq]; exact hp))
                  have hc2 := isD_iff.1 hcd
                  obtain ⟨c, hcn⟩ : ∃ c, c = (sub[p]'hp).toNat := ⟨_, rfl⟩
                  have hnx := Lib.run_next_ascii_at (P := Tryd.prog) wr _ sub p 0 HIT.out hp (by omega)
                  rw [← hcn] at hnx hc2
                  have HN2 := Aside0.mk (show rv (sub.data.toList.take (p + 1)).reverse = (c - 48) + 10 * n by
                    rw [take_rv _ p (by rw [← size_eq]; exact hp), HN.out, hcn]; rfl)
                  have HBJ := Aside0.mk (Lib.below_iterAt HBI.out (Nat.le_refl _) sub (p + 1))
                  have HIJ := Aside0.mk (Lib.iterAt_heap wr _ sub p (p + 1) HIT.out)
                  have hn8 : n < 100000000 := Nat.lt_of_lt_of_le hn9 (Nat.le_trans (Nat.pow_le_pow_right (by omega) (show p ≤ 8 by have := HSS.out; have := HLO.out; omega)) (by decide))
                  have HCC := Aside0.mk (show 48 ≤ c ∧ c ≤ 57 ∧ n < 100000000 from ⟨hc2.1, hc2.2, hn8⟩)
                  clear hcn hc2 hcd hn9 hn8 hp
                  go_wp2
                  go_roundg jj
                  case measure => omega
                  case rel =>
                    refine ⟨p + 1, 10 * n + (c - 48), ?_, ⟨by rw [HN2.out]; exact Nat.add_comm _ _⟩, ⟨by have := HPP.out; omega⟩, HIJ, HBJ⟩
                    rw [num_step n c HCC.out.1 HCC.out.2.1 HCC.out.2.2]
            obtain ⟨e, hee⟩ : ∃ e : Nat, (E : Int) - 9 = (e : Int) := ⟨E - 9, by omega⟩
            have w9 : wrap64 ((E : Int) - 9) = (e : Int) := by rw [w64 (by omega) (by omega)]; exact hee
            have q1 : 0 < e := by omega
            have q3 : e ≤ E := by omega
            have q2 : E ≤ s.size := by omega
            have HLO := Aside0.mk (show e = s.size - 9 * (i + 1) ∧ e ≤ E ∧ E - e ≤ 9 ∧ E = s.size - 9 * i by omega)
            obtain ⟨sub, hsub⟩ : ∃ sub, sub = s.extract e E := ⟨_, rfl⟩
            have HSUB := Aside0.mk hsub
            go_wp2
            rw [← HSUB.out]
            have HDS := Aside0.mk (show digL sub.data.toList = true by
              have hd := HDB.out
              rw [HSUB.out, B_extract]
              unfold dB digL at hd; unfold digL
              rw [List.all_eq_true] at hd ⊢
              exact fun x hx => hd x (List.mem_of_mem_drop (List.mem_of_mem_take hx)))
            have HSS := Aside0.mk (show sub.size = E - e by rw [HSUB.out, size_eq, B_extract, List.length_take, List.length_drop, ← size_eq]; have := HLO.out; omega)
            have HIT := Aside0.mk (show (wr.iter sub 0).heap[wr.heap.size]? = some (.stringIter sub 0) by unfold World.iter; exact heap_alloc_new wr _)
            have HBI := Aside0.mk (show Below wr.heap.size wr (wr.iter sub 0) from (Below.refl _ wr).alloc (Nat.le_refl _) _)
            clear hsub hE
            go_loopg [8, 10] sub.size (fun j v8 v10 w' => ∃ p n : Nat, v8 = .int .u32 (n : Int) ∧ Aside0 (n = rv (sub.data.toList.take p).reverse) ∧ Aside0 (p + j = sub.size) ∧ Aside0 (w'.heap[wr.heap.size]? = some (.stringIter sub p)) ∧ Aside0 (Below wr.heap.size wr w'))
            case atStart => exact ⟨0, 0, rfl, ⟨rfl⟩, ⟨by omega⟩, HIT, HBI⟩
            case round =>
              clear HIT HBI
              obtain ⟨p, n, rfl, HN, HPP, HIT, HBI⟩ := hrel
              have hn9 : n < 10 ^ p := by
                rw [HN.out]
                refine Nat.lt_of_lt_of_le (rv_lt (by rw [digL_reverse]; exact digL_take HDS.out p)) ?_
                rw [List.length_reverse, List.length_take]; exact Nat.pow_le_pow_right (by omega) (Nat.min_le_left _ _)
              cases gk with
              | zero =>
                have hnx := Lib.run_next_end_at (P := Tryd.prog) wr _ sub p 0 HIT.out (by have := HPP.out; omega)
                obtain rfl : p = sub.size := by have := HPP.out; omega
                have HNV := Aside0.mk (show n = rv sub.data.toList.reverse ∧ n < 1000000000 by
                  have h1 := HN.out
                  rw [List.take_of_length_le (by rw [← size_eq]; exact Nat.le_refl _)] at h1
                  exact ⟨h1, Nat.lt_of_lt_of_le hn9 (Nat.le_trans (Nat.pow_le_pow_right (by omega) (show sub.size ≤ 9 by rw [HSS.out]; exact HLO.out.2.2.1)) (by decide))⟩)
                have HOW := Aside0.mk (Kd.R_below HO.out HBI.out)
                have HBW := Aside0.mk (HB.out.trans (HBI.out.mono HB.out.size))
                have HL := Aside0.mk (show (o.length + 1) * 4 ≤ 140737488355328 by have := HV.out; have := HJ.out; omega)
                clear hn9
                go_wp2_with (first
                  | ((with_reducible refine gate_builtin (b := .append) (xs := #[.tmp 46, .tmp 48]) rfl ?_); at_builtin; refine Kd.R_append (Kd.int .u32) (w0 := w) w.heap.size rfl (.tmp 46) (.tmp 48) 28 47 (.int .u32 0) 4 rfl Tryd.underlying28 info47 rfl (by decide) (by omega) _ o (n : Int) [.int .u32 (n : Int)] (fun _ => True) (fun _ => False) rfl rfl rfl (fun _ hk => hk.elim) (fun _ _ => trivial) HOW.out HBW.out HBW.out.size HL.out ?_; intro v49 w11 ho hb hg hat; have HO2 := Aside0.mk ho; have HB2 := Aside0.mk hb; clear ho hb hg hat))
                go_roundg j
                case measure => omega
                case rel =>
                  refine ⟨i + 1, _, ?_, ⟨by have := HJ.out; omega⟩, ⟨?_⟩, HO2, HB2⟩
                  · have h1 := HE.out
                    congr 1; omega
                  obtain ⟨h1, h2, h3⟩ := HV.out
                  obtain ⟨l1, l2, l3, l4⟩ := HLO.out
                  obtain ⟨n1, n2⟩ := HNV.out
                  refine ⟨by rw [List.length_append, h1]; rfl, goodL_append.2 ⟨h2, goodL_cons.2 ⟨by omega, rfl⟩⟩, ?_⟩
                  rw [valL_snoc, h3, h1, Int.toNat_natCast, n1, HSUB.out, B_extract, pow9, ← l1, suffix_step s.data.toList _ E l2 (by rw [← size_eq]; omega), l4, ← size_eq, show s.size - (s.size - 9 * i) = 9 * i by omega]
              | succ jj =>
                have hp : p < sub.size := by have := HPP.out; omega
                have hcd : isD (sub[p]'hp) = true := by
                  have := HDS.out
                  unfold digL at this
                  exact List.all_eq_true.1 this _ (List.getElem_mem (n := p) (by rw [← size_eq]; exact hp))
                have hc2 := isD_iff.1 hcd
                obtain ⟨c, hcn⟩ : ∃ c, c = (sub[p]'hp).toNat := ⟨_, rfl⟩
                have hnx := Lib.run_next_ascii_at (P := Tryd.prog) wr _ sub p 0 HIT.out hp (by omega)
                rw [← hcn] at hnx hc2
                have HN2 := Aside0.mk (show rv (sub.data.toList.take (p + 1)).reverse = (c - 48) + 10 * n by
                  rw [take_rv _ p (by rw [← size_eq]; exact hp), HN.out, hcn]; rfl)
                have HBJ := Aside0.mk (Lib.below_iterAt HBI.out (Nat.le_refl _) sub (p + 1))
                have HIJ := Aside0.mk (Lib.iterAt_heap wr _ sub p (p + 1) HIT.out)
                have hn8 : n < 100000000 := Nat.lt_of_lt_of_le hn9 (Nat.le_trans (Nat.pow_le_pow_right (by omega) (show p ≤ 8 by have := HSS.out; have := HLO.out; omega)) (by decide))
                have HCC := Aside0.mk (show 48 ≤ c ∧ c ≤ 57 ∧ n < 100000000 from ⟨hc2.1, hc2.2, hn8⟩)
                clear hcn hc2 hcd hn9 hn8 hp
                go_wp2
                go_roundg jj
                case measure => omega
                case rel =>
                  refine ⟨p + 1, 10 * n + (c - 48), ?_, ⟨by rw [HN2.out]; exact Nat.add_comm _ _⟩, ⟨by have := HPP.out; omega⟩, HIJ, HBJ⟩
                  rw [num_step n c HCC.out.1 HCC.out.2.1 HCC.out.2.2]
          have d1 : decide (0 < (s.size : Int) - 9 * (i : Int)) = false := decide_eq_false (by omega)
          obtain ⟨A6, c6, rfl⟩ := Kd.R_slice HO.out
          have HF := Aside0.mk (show trimF o = some (limbs (vB s)) by
            obtain ⟨h1, h2, h3⟩ := HV.out
            rw [show s.size - 9 * i = 0 by omega, List.drop_zero] at h3
            rw [show vB s = valL o from h3.symm]
            have hj := HJ.out
            exact trimF_eq h2 (by omega))
          go_wp2_with (go_at_call 62; (with_reducible refine (nat_Trim.calls A6 c6 o (limbs (vB s)) _ ?side1 ?side2 ?side3).mono ?_); (case side1 => exact (Kd.R_reads' HO.out).2.2); (case side2 => exact (Kd.R_reads' HO.out).2.1); (case side3 => exact HF.out); rintro e w3 ⟨v3, rfl, ho3, hb3⟩; have HO3 := Aside0.mk ho3; have HB3 := Aside0.mk hb3; clear ho3 hb3)
          go_ret2
          exact ⟨_, rfl, Kd.R_lower HO3.out HB.out.size, HB.out.trans (HB3.out.mono HB.out.size)⟩
      | succ j =>
        have hp : pos < s.size := by have := HP.out; omega
        have HPS := Aside0.mk hp
        have hB2 : ∀ q, Below w.heap.size w (wr.iterAt w.heap.size s q) := fun q => Lib.below_iterAt HB.out (Nat.le_refl _) s q
        have hI2 : ∀ q, (wr.iterAt w.heap.size s q).heap[w.heap.size]? = some (.stringIter s q) := fun q => Lib.iterAt_heap wr w.heap.size s pos q HI.out
        have HB2 := Aside0.mk hB2
        have HI2 := Aside0.mk hI2
        clear hB2 hI2
        by_cases hc : isD (s[pos]'HPS.out) = true
        · have hc2 := isD_iff.1 hc
          obtain ⟨c, hcn⟩ : ∃ c, c = (s[pos]'HPS.out).toNat := ⟨_, rfl⟩
          have hnx := Lib.run_next_ascii_at (P := Tryd.prog) wr w.heap.size s pos 0 HI.out HPS.out (by omega)
          rw [← hcn] at hnx hc2
          have d1 : decide ((c : Int) < 48) = false := decide_eq_false (by omega)
          have d2 : decide (57 < (c : Int)) = false := decide_eq_false (by omega)
          have HC := Aside0.mk hc
          clear hc hcn hc2 hp
          go_wp2
          go_roundg j
          case measure => omega
          case rel =>
            exact ⟨pos + 1, ⟨by have := HP.out; omega⟩, ⟨by rw [take_digits s pos HPS.out, HD.out, HC.out]; rfl⟩, ⟨HI2.out _⟩, ⟨HB2.out _⟩⟩
        have HND := Aside0.mk (not_digits s pos HPS.out (by simpa using hc))
        obtain ⟨c, q, hcn, hc2⟩ : ∃ c q : Nat, (Utf8.decode s pos = (c, q)) ∧ (c < 48 ∨ 57 < c) := by
          by_cases ha : (s[pos]'HPS.out).toNat < 128
          · refine ⟨_, _, decode_ascii s pos HPS.out ha, ?_⟩
            have : ¬ (48 ≤ (s[pos]'HPS.out).toNat ∧ (s[pos]'HPS.out).toNat ≤ 57) := fun h => hc (isD_iff.2 h)
            omega
          · exact ⟨(Utf8.decode s pos).1, (Utf8.decode s pos).2, rfl, .inr (by have := (decode_high s pos HPS.out (by omega)).1; omega)⟩
        have hnx := Lib.run_next_any_at (P := Tryd.prog) wr w.heap.size s pos 0 HI.out HPS.out
        rw [hcn] at hnx
        have h2 := H2.out
        rw [if_neg (fun hh => by rw [HND.out] at hh; cases hh.1)] at h2
        obtain ⟨rfl, rfl⟩ := Prod.mk.inj h2
        clear hc hcn hp h2
        rcases hc2 with hc2 | hc2
        · have d1 : decide ((c : Int) < 48) = true := decide_eq_true (by omega)
          clear hc2
          go_wp2
          go_ret2
          exact ⟨_, rfl, Kd.R_nil _ _ _ _ _, HB2.out _⟩
        have d1 : decide ((c : Int) < 48) = false := decide_eq_false (by omega)
        have d2 : decide (57 < (c : Int)) = true := decide_eq_true (by omega)
        clear hc2
        go_wp2
        go_ret2
        exact ⟨_, rfl, Kd.R_nil _ _ _ _ _, HB2.out _⟩
  rw [if_neg hs] at h; cases h
end Go.Proofs.YtbjaiphfehnncaaDoor.Px
end
section
namespace Go.Proofs.YtbjaiphfehnncaaDoor.Px
open Fig Go.RowKit Go.Proofs.YtbjaiphfehnncaaDoorW.PrintWords Go.Proofs.YtbjaiphfehnncaaDoorW.PrintLast Go.Proofs.YtbjaiphfehnncaaDoorW.PrintMore
attribute [local go_sem] max2_int min2_int max_two min_two max_three min_three max_four min_four   -- for this text's walks alone
attribute [local go_sem] fieldA23_0 fieldA23_1 fieldA23_2
def dec_Coef.f (a0_0 : Bool) (a0_1 : ByteArray) (a0_2 : Int) : Option (List Int) := (ten_Number.f a0_1).bind fun bt123 => (some bt123.1)
set_option maxHeartbeats 8000000 in
set_option maxRecDepth 100000 in
theorem dec_Coef.calls (a0_0 : Bool) (a0_1 : ByteArray) (a0_2 : Int) (r : List Int) (w : World) (h : dec_Coef.f a0_0 a0_1 a0_2 = some r) :
    Calls Tryd.prog 23 #[.agg #[.bool a0_0, .string a0_1, .int .i64 a0_2]] w fun e w' => ∃ v0_ : Value, e = .returned (v0_) ∧ Kd.R (Kd.int .u32) 47 w' w.heap.size (fun _ => True) v0_ r ∧ Below w.heap.size w w' := by
  have hu23 := Tryd.underlying23
  have HB := Aside0.mk (Below.refl w.heap.size w)
  have H : ((ten_Number.f a0_1).bind fun bt123 => (some bt123.1)) = some r := h
  clear h
  replace H := Option.bind_eq_some_iff.mp H
  obtain ⟨⟨t123, t124⟩, A20, H⟩ := H
  replace H : (some t123) = some r := H
  have A2 := Aside0.mk A20
  clear A20
  obtain rfl := Option.some.inj H
  go_enter Tryd.func23, Tryd.ntmps23
  go_wp2_with (first | (refine be_ 1 #[.bool a0_0, .string a0_1, .int .i64 a0_2] 23 ?_; intro gb122 hg w3 hbox hb; have n0_ := hbs_ HB hb; have n1_ := Aside0.mk (hbox); have n2_ := ge_ hg HB; have n3_ := ge_ hg HB; clear HB; have HB := n0_; have BK122 := n1_; have GW122 := n2_; have GE122 := n3_; clear n0_ n1_ n2_ n3_; clear hb hbox hg; have hcz4_0 : w3.cell? ⟨gb122, 0, none⟩ = some (.bool a0_0) := (blk_cell BK122.out 0).trans rfl; have hcz4_1 : w3.cell? ⟨gb122, 1, none⟩ = some (.string a0_1) := (blk_cell BK122.out 1).trans rfl; have hcz4_2 : w3.cell? ⟨gb122, 2, none⟩ = some (.int .i64 a0_2) := (blk_cell BK122.out 2).trans rfl; have hfz4_0 := blk_frozen BK122.out 0; have hfz4_1 := blk_frozen BK122.out 1; have hfz4_2 := blk_frozen BK122.out 2) | ((with_reducible refine gate_callee (f := 43) rfl ?_); refine goesL_ (some 8) rfl rfl Tryd.func43 (by kernel_rfl) rfl #[.string a0_1] rfl MP ?_; (with_reducible refine (ten_Number.calls a0_1 t123 t124 _ A2.out).mono ?_); rintro e w5 ⟨v125, rfl, ho0, hb⟩; refine ⟨_, rfl, ?_⟩; have n0_ := Aside0.mk (Kd.R_lower ho0 (below_size (BL HB))); have n1_ := bkb_ BK122 hb; have n2_ := hbs_ HB hb; clear BK122; clear HB; have HO126 := n0_; have BK122 := n1_; have HB := n2_; clear n0_ n1_ n2_; (try clear hb); (try clear hb2); (try clear hk); (try clear hi); (try clear ho0)))
  go_ret
  exact ⟨_, ER, by (with_reducible repeat (first | apply Kd.R_alloc | apply Kd.R_drewN | apply Kd.R_drew)); exact HO126.out, BL HB⟩
end Go.Proofs.YtbjaiphfehnncaaDoor.Px
end
section
namespace Go.Proofs.YtbjaiphfehnncaaDoor.Px
open Fig Go.RowKit Go.Proofs.YtbjaiphfehnncaaDoorW.PrintWords Go.Proofs.YtbjaiphfehnncaaDoorW.PrintLast Go.Proofs.YtbjaiphfehnncaaDoorW.PrintMore
attribute [local go_sem] max2_int min2_int max_two min_two max_three min_three max_four min_four   -- for this text's walks alone
attribute [local go_sem] fieldA23_0 fieldA23_1 fieldA23_2
mutual
def mul_row.l0 : Nat → List Int → List Int → Int → Int → Int → List Int → Int → Int → Option (List Int)
  | 0, _, _, _, _, _, _, _, _ => none
  | k + 1, x0, x1, x2, x3, x8, x14, x15, x16 => if x16 < x15 then (if 0 ≤ x16 then (if x16 < (x14.length : Int) then (if 0 ≤ (wrap64 (x3 + x16)) then (if (wrap64 (x3 + x16)) < (x0.length : Int) then (mul_row.l0 k (x0.set ((wrap64 (x3 + x16)) : Int).toNat ((Int.tmod (IntKind.u64.wrap ((IntKind.u64.wrap ((IntKind.u64.wrap (rd x0 (wrap64 (x3 + x16)))) + (IntKind.u64.wrap ((IntKind.u64.wrap (rd x14 x16)) * (IntKind.u64.wrap (x2)))))) + x8)) 1000000000) % 4294967296)) x1 x2 x3 (IntKind.u64.wrap (Int.tdiv (IntKind.u64.wrap ((IntKind.u64.wrap ((IntKind.u64.wrap (rd x0 (wrap64 (x3 + x16)))) + (IntKind.u64.wrap ((IntKind.u64.wrap (rd x14 x16)) * (IntKind.u64.wrap (x2)))))) + x8)) 1000000000)) x14 x15 (wrap64 (x16 + 1))) else (none)) else (none)) else (none)) else (none)) else (mul_row.l1 k x0 x8 (wrap64 (x3 + (x1.length : Int))))
def mul_row.l1 : Nat → List Int → Int → Int → Option (List Int)
  | 0, _, _, _ => none
  | k + 1, x0, x8, x12 => if x8 > 0 then (if 0 ≤ x12 then (if x12 < (x0.length : Int) then (mul_row.l1 k (x0.set (x12 : Int).toNat ((Int.tmod (IntKind.u64.wrap ((IntKind.u64.wrap (rd x0 x12)) + x8)) 1000000000) % 4294967296)) (IntKind.u64.wrap (Int.tdiv (IntKind.u64.wrap ((IntKind.u64.wrap (rd x0 x12)) + x8)) 1000000000)) (wrap64 (x12 + 1))) else (none)) else (none)) else (some x0)
end
def mul_row.f (k : Nat) (l0 : List Int) (l1 : List Int) (a2 : Int) (a3 : Int) : Option (List Int) := mul_row.l0 k l0 l1 a2 a3 0 l1 (l1.length : Int) 0
theorem mul_row.mono_l : ∀ k, (∀ y0 y1 y2 y3 y4 y5 y6 y7, LeO (mul_row.l0 k y0 y1 y2 y3 y4 y5 y6 y7) (mul_row.l0 (k + 1) y0 y1 y2 y3 y4 y5 y6 y7)) ∧ (∀ y0 y1 y2, LeO (mul_row.l1 k y0 y1 y2) (mul_row.l1 (k + 1) y0 y1 y2))
  | 0 => ⟨fun _ _ _ _ _ _ _ _ r h => by simp [mul_row.l0] at h, fun _ _ _ r h => by simp [mul_row.l1] at h⟩
  | k + 1 => by
    obtain ⟨ih0, ih1⟩ := mul_row.mono_l k
    refine ⟨?_, ?_⟩
    · intro y0 y1 y2 y3 y4 y5 y6 y7
      unfold mul_row.l0
      repeat' first
      | (with_reducible exact ih0 _ _ _ _ _ _ _ _)
      | (with_reducible exact ih1 _ _ _)
      | (with_reducible exact LeO.refl _)
      | (with_reducible exact LeO.none _)
      | (with_reducible refine LeO.ite ?_ ?_)
      | (with_reducible refine LeO.bind ?_ (fun _ => ?_))
      | exact ih0 _ _ _ _ _ _ _ _
      | exact ih1 _ _ _
      | exact LeO.none _
      | refine LeO.ite ?_ ?_
      | refine LeO.bind ?_ (fun _ => ?_)
    · intro y0 y1 y2
      unfold mul_row.l1
      repeat' first
      | (with_reducible exact ih0 _ _ _ _ _ _ _ _)
      | (with_reducible exact ih1 _ _ _)
      | (with_reducible exact LeO.refl _)
      | (with_reducible exact LeO.none _)
      | (with_reducible refine LeO.ite ?_ ?_)
      | (with_reducible refine LeO.bind ?_ (fun _ => ?_))
      | exact ih0 _ _ _ _ _ _ _ _
      | exact ih1 _ _ _
      | exact LeO.none _
      | refine LeO.ite ?_ ?_
      | refine LeO.bind ?_ (fun _ => ?_)
theorem mul_row.mono : ∀ a0 a1 a2 a3 k, LeO (mul_row.f k a0 a1 a2 a3) (mul_row.f (k + 1) a0 a1 a2 a3) := by
  intro a0 a1 a2 a3 k
  obtain ⟨ih0, ih1⟩ := mul_row.mono_l k
  unfold mul_row.f
  repeat' first
      | (with_reducible exact ih0 _ _ _ _ _ _ _ _)
      | (with_reducible exact ih1 _ _ _)
      | (with_reducible exact LeO.refl _)
      | (with_reducible exact LeO.none _)
      | (with_reducible refine LeO.ite ?_ ?_)
      | (with_reducible refine LeO.bind ?_ (fun _ => ?_))
      | exact ih0 _ _ _ _ _ _ _ _
      | exact ih1 _ _ _
      | exact LeO.none _
      | refine LeO.ite ?_ ?_
      | refine LeO.bind ?_ (fun _ => ?_)
set_option maxHeartbeats 8000000 in
set_option maxRecDepth 100000 in
theorem mul_row.calls (k : Nat) (P0_ : Nat → Prop) (u9000_ : Value) (l0 : List Int) (A1 : Option Addr) (c1 : Nat) (l1 : List Int) (a2 : Int) (a3 : Int) (r : List Int) (w0 w : World) (hB : Below w0.heap.size w0 w) (ho0 : Kd.R (Kd.int .u32) 47 w w0.heap.size P0_ u9000_ l0) (hr1 : ∀ W_, Kept w W_ (fun k_ => P0_ k_) → Kd.C (Kd.int .u32) W_ A1 l1.length l1) (hc1 : l1.length ≤ c1) (h : mul_row.f k l0 l1 a2 a3 = some r) :
    Calls Tryd.prog 78 #[u9000_, .slice A1 l1.length c1, .int .u32 a2, .int .i64 a3] w fun e w' => e = .returned (.tuple #[]) ∧ Kd.R (Kd.int .u32) 47 w' w0.heap.size (fun k_ => (P0_ k_ ∨ w.heap.size ≤ k_)) u9000_ r ∧ Below w0.heap.size w0 w' ∧ Kept w w' (fun k_ => P0_ k_) := by
  have HO0 := Aside0.mk (show Kd.R (Kd.int .u32) 47 w w0.heap.size (fun k_ => (P0_ k_ ∨ w.heap.size ≤ k_)) u9000_ l0 from Kd.R_mono ho0 (fun k_ hk => (.inl hk)))
  have HR1 := Aside0.mk hr1
  have HC1 := Aside0.mk hc1
  clear hr1 hc1
  have HK := Aside0.mk (Kept.refl w (fun k_ => P0_ k_))
  have HW0 := Aside0.mk hB.size
  have HB := Aside0.mk hB
  clear hB
  have H : (mul_row.l0 k l0 l1 a2 a3 0 l1 (l1.length : Int) 0) = some r := h
  clear h
  have H' := Aside0.mk H
  clear H
  go_enter Tryd.func78, Tryd.ntmps78
  go_wp2
  go_loopg [8, 16] k (fun kq v8 v16 w' => ∃ (x0_1 : List Int) (x8_1 : Int) (x16_1 : Int), v8 = .int .u64 x8_1 ∧ v16 = .int .i64 x16_1 ∧ Aside0 (mul_row.l0 kq x0_1 l1 a2 a3 x8_1 l1 (l1.length : Int) x16_1 = some r) ∧ Aside0 (kq ≤ k) ∧ Aside0 (Kd.R (Kd.int .u32) 47 w' w0.heap.size (fun k_ => (P0_ k_ ∨ w.heap.size ≤ k_)) u9000_ x0_1) ∧ Aside0 (Kept w w' (fun k_ => P0_ k_)) ∧ Aside0 (Below w0.heap.size w0 w'))
  case atStart => exact ⟨(l0), (0), (0), SR, SR, H', ⟨Nat.le_refl _⟩, ⟨RB HO0.out⟩, ⟨by repeat (first | (with_reducible first | exact HK.out | apply Kept.alloc | apply Kept.drewN | apply Kept.drew) | exact HK.out)⟩, ⟨BL HB⟩⟩
  case round =>
    clear H'
    try clear c1
    obtain ⟨x0_1, x8_1, x16_1, rfl, rfl, HA, HK1, HO_0, HK, HB⟩ := hrel
    obtain _ | k1 := gk
    · exact absurd HA.out (by simp [mul_row.l0])
    have H := HA.out
    clear HA
    simp only [mul_row.l0] at H
    by_cases c5 : x16_1 < (l1.length : Int)
    · rw [if_pos c5] at H
      have c5b0 : decide (x16_1 < (l1.length : Int)) = true := decide_eq_true c5
      clear c5
      by_cases c6 : 0 ≤ x16_1
      · rw [if_pos c6] at H
        have c6b0 : decide (0 ≤ x16_1) = true := decide_eq_true c6
        clear c6
        by_cases c7 : x16_1 < (l1.length : Int)
        · rw [if_pos c7] at H
          have c7b0 : decide (x16_1 < (l1.length : Int)) = true := decide_eq_true c7
          clear c7
          obtain ⟨ji8, hji8⟩ : ∃ j_ : Int, (wrap64 (a3 + x16_1)) = j_ := ⟨_, rfl⟩
          replace H : (if 0 ≤ (ji8) then (if (ji8) < (x0_1.length : Int) then (mul_row.l0 k1 (x0_1.set ((ji8) : Int).toNat ((Int.tmod (IntKind.u64.wrap ((IntKind.u64.wrap ((IntKind.u64.wrap (rd x0_1 (ji8))) + (IntKind.u64.wrap ((IntKind.u64.wrap (rd l1 x16_1)) * (IntKind.u64.wrap (a2)))))) + x8_1)) 1000000000) % 4294967296)) l1 a2 a3 (IntKind.u64.wrap (Int.tdiv (IntKind.u64.wrap ((IntKind.u64.wrap ((IntKind.u64.wrap (rd x0_1 (ji8))) + (IntKind.u64.wrap ((IntKind.u64.wrap (rd l1 x16_1)) * (IntKind.u64.wrap (a2)))))) + x8_1)) 1000000000)) l1 (l1.length : Int) (wrap64 (x16_1 + 1))) else (none)) else (none)) = some r := by first | (rw [hji8] at H; exact H) | (simp only [hji8] at H ⊢; exact H)
          have hji8w : (IntKind.i64.wrap (a3 + x16_1)) = ji8 := (i64_w _).trans hji8
          by_cases c9 : 0 ≤ (ji8)
          · rw [if_pos c9] at H
            have c9b0 : decide (0 ≤ (ji8)) = true := decide_eq_true c9
            clear c9
            by_cases c10 : (ji8) < (x0_1.length : Int)
            · rw [if_pos c10] at H
              have c10b0 : decide ((ji8) < (x0_1.length : Int)) = true := decide_eq_true c10
              clear c10
              obtain ⟨y129, hy129⟩ : ∃ y_ : List Int, y_ = (x0_1.set ((ji8) : Int).toNat ((Int.tmod (IntKind.u64.wrap ((IntKind.u64.wrap ((IntKind.u64.wrap (rd x0_1 (ji8))) + (IntKind.u64.wrap ((IntKind.u64.wrap (rd l1 x16_1)) * (IntKind.u64.wrap (a2)))))) + x8_1)) 1000000000) % 4294967296)) := ⟨_, rfl⟩
              replace H : (mul_row.l0 k1 y129 l1 a2 a3 (IntKind.u64.wrap (Int.tdiv (IntKind.u64.wrap ((IntKind.u64.wrap ((IntKind.u64.wrap (rd x0_1 (ji8))) + (IntKind.u64.wrap ((IntKind.u64.wrap (rd l1 x16_1)) * (IntKind.u64.wrap (a2)))))) + x8_1)) 1000000000)) l1 (l1.length : Int) (wrap64 (x16_1 + 1))) = some r := by first | (rw [hy129]; with_reducible exact H) | (have H2_ := (Option.bind_some _ _).symm.trans H; rw [hy129]; with_reducible exact H2_) | (have H2_ := (Option.bind_some _ _).symm.trans H; with_reducible exact H2_) | with_reducible exact H | (rw [hy129]; exact H) | exact H
              have Ny129 := Aside0.mk hy129
              clear hy129
              have H' := Aside0.mk H
              clear H
              have p127 : 0 ≤ (x16_1 : Int) := of_decide_eq_true (by first | (with_reducible assumption) | assumption)
              have q127 : x16_1 < (l1.length : Int) := of_decide_eq_true (by first | (with_reducible assumption) | assumption)
              obtain ⟨ad127, e127, hx127_0⟩ := Kd.at_int (Kd.C_kept_now HR1.out HK.out) x16_1 p127 q127
              cases e127
              replace p127 := eq_true p127
              replace q127 := eq_true q127
              obtain ⟨Ao12, co12, eo12⟩ := Kd.R_slice HO_0.out
              subst eo12
              have p128 : 0 ≤ ((ji8) : Int) := of_decide_eq_true (by first | (with_reducible assumption) | assumption)
              have q128 : (ji8) < (x0_1.length : Int) := of_decide_eq_true (by first | (with_reducible assumption) | assumption)
              obtain ⟨ad128, e128, hx128_0⟩ := Kd.at_int (Kd.R_reads' HO_0.out).2.2 (ji8) p128 q128
              cases e128
              replace p128 := eq_true p128
              replace q128 := eq_true q128
              have p11 : 0 ≤ ((ji8) : Int) := of_decide_eq_true (by first | (with_reducible assumption) | assumption)
              have q11 : ((ji8) : Int) < ((x0_1.length : Int) : Int) := of_decide_eq_true (by first | (with_reducible assumption) | assumption)
              obtain ⟨go11, co11, eo11, gb11, gl11, cl11, HG11⟩ := Kd.R_form HO_0.out (by omega)
              (first | cases eo11 | (injection eo11 with ea_ en_ ec_; (first | subst ea_ | (injection ea_ with ea_; subst ea_)); subst ec_; clear en_))
              have GB11 := Aside0.mk gb11
              have GG11 := Aside0.mk HG11
              clear gb11 gl11 HG11
              have HMgo11 := Aside0.mk (show (P0_ go11 ∨ w.heap.size ≤ go11) from (HO_0.out.1 _ rfl))
              (first | simp only [add_plain] at hx128_0 | skip)
              obtain ⟨hx11_0, hf11_0⟩ := Kd.R_celln 0 HO_0.out ((ji8) : Int) p11 q11
              replace p11 := eq_true p11
              replace q11 := eq_true q11
              have HP13 := Kd.R_putg HO_0.out ((ji8) : Int) ((Int.tmod (IntKind.u64.wrap ((IntKind.u64.wrap ((IntKind.u64.wrap (rd x0_1 (ji8))) + (IntKind.u64.wrap ((IntKind.u64.wrap (rd l1 x16_1)) * (IntKind.u64.wrap (a2)))))) + x8_1)) 1000000000) % 4294967296)
              go_wp2_with (first | ((with_reducible refine gate_store (t := 47) (p := 43) rfl ?_); refine store_event (t := 47) (p := 43) (v := ?vo_w14) (w1 := (wr.setCell ⟨go11, ((ji8) : Int).toNat, none⟩ (.int .u32 ((Int.tmod (IntKind.u64.wrap ((IntKind.u64.wrap ((IntKind.u64.wrap (rd x0_1 (ji8))) + (IntKind.u64.wrap ((IntKind.u64.wrap (rd l1 x16_1)) * (IntKind.u64.wrap (a2)))))) + x8_1)) 1000000000) % 4294967296)))) ?hg ?ho ?hn ?hr ?_; (case ho => rfl); (case hg => rfl); (case hn => rfl); (case hr => first | (go_simp; done) | (go_simp; rfl)); intro w14 hw; have hg : wr.grownBy w14 (some go11) := (by rw [hw]; exact HP13.2); have hp_ : Kd.R (Kd.int .u32) 47 w14 w0.heap.size (fun k_ => (P0_ k_ ∨ w.heap.size ≤ k_)) (.slice (some ⟨go11, 0, none⟩) x0_1.length co12) y129 := (by rw [hw, Ny129.out]; exact HP13.1); clear HP13; replace HB := Aside0.mk ((by rw [hw]; exact below_set (HB.out) GB11.out : Below w0.heap.size w0 w14)); replace HK := Aside0.mk (Kept.of_grown (S := (fun k_ => P0_ k_)) hg (by repeat (first | (with_reducible first | exact HK.out | apply Kept.alloc | apply Kept.drewN | apply Kept.drew) | exact HK.out)) (fun k_ e_ => (HO_0.out.1 k_ e_))); replace HO_0 := Aside0.mk (hp_); clear hg hw hp_))
              go_roundg k1
              case measure => have := HK1.out; omega
              case rel => exact ⟨(y129), (IntKind.u64.wrap (Int.tdiv (IntKind.u64.wrap ((IntKind.u64.wrap ((IntKind.u64.wrap (rd x0_1 (ji8))) + (IntKind.u64.wrap ((IntKind.u64.wrap (rd l1 x16_1)) * (IntKind.u64.wrap (a2)))))) + x8_1)) 1000000000)), (wrap64 (x16_1 + 1)), (by first | rfl | (simp; done) | (simp only [← hji8] <;> (first | rfl | simp)) | (simp [*]; done) | (simp [*, Fig.bne_nil]; done)), SR, H', ⟨by have := HK1.out; omega⟩, ⟨RB HO_0.out⟩, ⟨by repeat (first | (with_reducible first | exact HK.out | apply Kept.alloc | apply Kept.drewN | apply Kept.drew) | exact HK.out)⟩, ⟨BL HB⟩⟩
            rw [if_neg c10] at H
            exact absurd H (by simp)
          rw [if_neg c9] at H
          exact absurd H (by simp)
        rw [if_neg c7] at H
        exact absurd H (by simp)
      rw [if_neg c6] at H
      exact absurd H (by simp)
    rw [if_neg c5] at H
    have c5b0 : decide (x16_1 < (l1.length : Int)) = false := decide_eq_false c5
    clear c5
    have H' := Aside0.mk H
    clear H
    go_wp2
    go_loopg [8, 12] k1 (fun kq v8 v12 w' => ∃ (x0_2 : List Int) (x8_2 : Int) (x12_2 : Int), v8 = .int .u64 x8_2 ∧ v12 = .int .i64 x12_2 ∧ Aside0 (mul_row.l1 kq x0_2 x8_2 x12_2 = some r) ∧ Aside0 (kq ≤ k1) ∧ Aside0 (Kd.R (Kd.int .u32) 47 w' w0.heap.size (fun k_ => (P0_ k_ ∨ w.heap.size ≤ k_)) u9000_ x0_2) ∧ Aside0 (Kept w w' (fun k_ => P0_ k_)) ∧ Aside0 (Below w0.heap.size w0 w'))
    case atStart => exact ⟨(x0_1), (x8_1), (wrap64 (a3 + (l1.length : Int))), SR, SR, H', ⟨Nat.le_refl _⟩, ⟨RB HO_0.out⟩, ⟨by repeat (first | (with_reducible first | exact HK.out | apply Kept.alloc | apply Kept.drewN | apply Kept.drew) | exact HK.out)⟩, ⟨BL HB⟩⟩
    case round =>
      clear H'
      try clear c5
      try clear c5b0
      obtain ⟨x0_2, x8_2, x12_2, rfl, rfl, HA, HK2, HO_0, HK, HB⟩ := hrel
      obtain _ | k2 := gk
      · exact absurd HA.out (by simp [mul_row.l1])
      have H := HA.out
      clear HA
      simp only [mul_row.l1] at H
      by_cases c15 : x8_2 > 0
      · rw [if_pos c15] at H
        have c15b0 : decide (0 < x8_2) = true := decide_eq_true c15
        clear c15
        by_cases c16 : 0 ≤ x12_2
        · rw [if_pos c16] at H
          have c16b0 : decide (0 ≤ x12_2) = true := decide_eq_true c16
          clear c16
          by_cases c17 : x12_2 < (x0_2.length : Int)
          · rw [if_pos c17] at H
            have c17b0 : decide (x12_2 < (x0_2.length : Int)) = true := decide_eq_true c17
            clear c17
            obtain ⟨y131, hy131⟩ : ∃ y_ : List Int, y_ = (x0_2.set (x12_2 : Int).toNat ((Int.tmod (IntKind.u64.wrap ((IntKind.u64.wrap (rd x0_2 x12_2)) + x8_2)) 1000000000) % 4294967296)) := ⟨_, rfl⟩
            replace H : (mul_row.l1 k2 y131 (IntKind.u64.wrap (Int.tdiv (IntKind.u64.wrap ((IntKind.u64.wrap (rd x0_2 x12_2)) + x8_2)) 1000000000)) (wrap64 (x12_2 + 1))) = some r := by first | (rw [hy131]; with_reducible exact H) | (have H2_ := (Option.bind_some _ _).symm.trans H; rw [hy131]; with_reducible exact H2_) | (have H2_ := (Option.bind_some _ _).symm.trans H; with_reducible exact H2_) | with_reducible exact H | (rw [hy131]; exact H) | exact H
            have Ny131 := Aside0.mk hy131
            clear hy131
            have H' := Aside0.mk H
            clear H
            obtain ⟨Ao19, co19, eo19⟩ := Kd.R_slice HO_0.out
            subst eo19
            have p130 : 0 ≤ (x12_2 : Int) := of_decide_eq_true (by first | (with_reducible assumption) | assumption)
            have q130 : x12_2 < (x0_2.length : Int) := of_decide_eq_true (by first | (with_reducible assumption) | assumption)
            obtain ⟨ad130, e130, hx130_0⟩ := Kd.at_int (Kd.R_reads' HO_0.out).2.2 x12_2 p130 q130
            cases e130
            replace p130 := eq_true p130
            replace q130 := eq_true q130
            have p18 : 0 ≤ (x12_2 : Int) := of_decide_eq_true (by first | (with_reducible assumption) | assumption)
            have q18 : (x12_2 : Int) < ((x0_2.length : Int) : Int) := of_decide_eq_true (by first | (with_reducible assumption) | assumption)
            obtain ⟨go18, co18, eo18, gb18, gl18, cl18, HG18⟩ := Kd.R_form HO_0.out (by omega)
            (first | cases eo18 | (injection eo18 with ea_ en_ ec_; (first | subst ea_ | (injection ea_ with ea_; subst ea_)); subst ec_; clear en_))
            have GB18 := Aside0.mk gb18
            have GG18 := Aside0.mk HG18
            clear gb18 gl18 HG18
            have HMgo18 := Aside0.mk (show (P0_ go18 ∨ w.heap.size ≤ go18) from (HO_0.out.1 _ rfl))
            (first | simp only [add_plain] at hx130_0 | skip)
            obtain ⟨hx18_0, hf18_0⟩ := Kd.R_celln 0 HO_0.out (x12_2 : Int) p18 q18
            replace p18 := eq_true p18
            replace q18 := eq_true q18
            have HP20 := Kd.R_putg HO_0.out (x12_2 : Int) ((Int.tmod (IntKind.u64.wrap ((IntKind.u64.wrap (rd x0_2 x12_2)) + x8_2)) 1000000000) % 4294967296)
            go_wp2_with (first | ((with_reducible refine gate_store (t := 47) (p := 67) rfl ?_); refine store_event (t := 47) (p := 67) (v := ?vo_w21) (w1 := (wr.setCell ⟨go18, (x12_2 : Int).toNat, none⟩ (.int .u32 ((Int.tmod (IntKind.u64.wrap ((IntKind.u64.wrap (rd x0_2 x12_2)) + x8_2)) 1000000000) % 4294967296)))) ?hg ?ho ?hn ?hr ?_; (case ho => rfl); (case hg => rfl); (case hn => rfl); (case hr => first | (go_simp; done) | (go_simp; rfl)); intro w21 hw; have hg : wr.grownBy w21 (some go18) := (by rw [hw]; exact HP20.2); have hp_ : Kd.R (Kd.int .u32) 47 w21 w0.heap.size (fun k_ => (P0_ k_ ∨ w.heap.size ≤ k_)) (.slice (some ⟨go18, 0, none⟩) x0_2.length co19) y131 := (by rw [hw, Ny131.out]; exact HP20.1); clear HP20; replace HB := Aside0.mk ((by rw [hw]; exact below_set (HB.out) GB18.out : Below w0.heap.size w0 w21)); replace HK := Aside0.mk (Kept.of_grown (S := (fun k_ => P0_ k_)) hg (by repeat (first | (with_reducible first | exact HK.out | apply Kept.alloc | apply Kept.drewN | apply Kept.drew) | exact HK.out)) (fun k_ e_ => (HO_0.out.1 k_ e_))); replace HO_0 := Aside0.mk (hp_); clear hg hw hp_))
            go_roundg k2
            case measure => have := HK1.out; have := HK2.out; omega
            case rel => exact ⟨(y131), (IntKind.u64.wrap (Int.tdiv (IntKind.u64.wrap ((IntKind.u64.wrap (rd x0_2 x12_2)) + x8_2)) 1000000000)), (wrap64 (x12_2 + 1)), SR, SR, H', ⟨by have := HK1.out; have := HK2.out; omega⟩, ⟨RB HO_0.out⟩, ⟨by repeat (first | (with_reducible first | exact HK.out | apply Kept.alloc | apply Kept.drewN | apply Kept.drew) | exact HK.out)⟩, ⟨BL HB⟩⟩
          rw [if_neg c17] at H
          exact absurd H (by simp)
        rw [if_neg c16] at H
        exact absurd H (by simp)
      rw [if_neg c15] at H
      have c15b0 : decide (0 < x8_2) = false := decide_eq_false c15
      clear c15
      obtain rfl := Option.some.inj H
      go_wp2
      first | go_end0 | ((try simp only [Exit.inBlock, Exit.then]); refine bodyPost_ret (results_none rfl _ _ _) rfl ?_)
      exact ⟨ER, by (with_reducible repeat (first | apply Kd.R_alloc | apply Kd.R_drewN | apply Kd.R_drew)); exact HO_0.out, BL HB, by repeat (first | (with_reducible first | exact HK.out | apply Kept.alloc | apply Kept.drewN | apply Kept.drew) | exact HK.out)⟩
end Go.Proofs.YtbjaiphfehnncaaDoor.Px
end
section
namespace Go.Proofs.YtbjaiphfehnncaaDoor.Px
open Fig Go.RowKit Go.Proofs.YtbjaiphfehnncaaDoorW.PrintWords Go.Proofs.YtbjaiphfehnncaaDoorW.PrintLast Go.Proofs.YtbjaiphfehnncaaDoorW.PrintMore
attribute [local go_sem] max2_int min2_int max_two min_two max_three min_three max_four min_four   -- for this text's walks alone
attribute [local go_sem] fieldA23_0 fieldA23_1 fieldA23_2
def mul_Small.f (k : Nat) (l0 : List Int) (a1 : Int) (a2 : Int) : Option (List Int) := if 0 ≤ (wrap64 ((l0.length : Int) + 2)) then (if (wrap64 ((l0.length : Int) + 2) : Int).toNat ≤ 70368744177664 then ((some (List.replicate (wrap64 ((l0.length : Int) + 2) : Int).toNat 0 : List Int)).bind fun y132 => (if 0 < (y132.length : Int) then ((mul_row.f k (y132.set (0 : Int).toNat a2) l0 a1 0).bind fun t136 => ((nat_Trim.f t136).bind fun t137 => (some t137))) else (none))) else (none)) else (none)
theorem mul_Small.mono : ∀ a0 a1 a2 k, LeO (mul_Small.f k a0 a1 a2) (mul_Small.f (k + 1) a0 a1 a2) := by
  intro a0 a1 a2 k
  unfold mul_Small.f
  repeat' first
      | (with_reducible exact mul_row.mono _ _ _ _ _)
      | (with_reducible exact LeO.refl _)
      | (with_reducible exact LeO.none _)
      | (with_reducible refine LeO.ite ?_ ?_)
      | (with_reducible refine LeO.bind ?_ (fun _ => ?_))
      | exact mul_row.mono _ _ _ _ _
      | exact LeO.none _
      | refine LeO.ite ?_ ?_
      | refine LeO.bind ?_ (fun _ => ?_)
set_option maxHeartbeats 8000000 in
set_option maxRecDepth 100000 in
theorem mul_Small.calls (k : Nat) (A0 : Option Addr) (c0 : Nat) (l0 : List Int) (a1 : Int) (a2 : Int) (r : List Int) (w : World) (hr0 : Kd.C (Kd.int .u32) w A0 l0.length l0) (hc0 : l0.length ≤ c0) (h : mul_Small.f k l0 a1 a2 = some r) :
    Calls Tryd.prog 74 #[.slice A0 l0.length c0, .int .u32 a1, .int .u32 a2] w fun e w' => ∃ v0_ : Value, e = .returned (v0_) ∧ Kd.R (Kd.int .u32) 47 w' w.heap.size (fun _ => True) v0_ r ∧ Below w.heap.size w w' := by
  have HR0 := Aside0.mk hr0
  have HC0 := Aside0.mk hc0
  clear hr0 hc0
  have HB := Aside0.mk (Below.refl w.heap.size w)
  have H : (if 0 ≤ (wrap64 ((l0.length : Int) + 2)) then (if (wrap64 ((l0.length : Int) + 2) : Int).toNat ≤ 70368744177664 then ((some (List.replicate (wrap64 ((l0.length : Int) + 2) : Int).toNat 0 : List Int)).bind fun y132 => (if 0 < (y132.length : Int) then ((mul_row.f k (y132.set (0 : Int).toNat a2) l0 a1 0).bind fun t136 => ((nat_Trim.f t136).bind fun t137 => (some t137))) else (none))) else (none)) else (none)) = some r := h
  clear h
  obtain ⟨ji4, hji4⟩ : ∃ j_ : Int, (wrap64 ((l0.length : Int) + 2)) = j_ := ⟨_, rfl⟩
  replace H : (if 0 ≤ (ji4) then (if (ji4 : Int).toNat ≤ 70368744177664 then ((some (List.replicate (ji4 : Int).toNat 0 : List Int)).bind fun y132 => (if 0 < (y132.length : Int) then ((mul_row.f k (y132.set (0 : Int).toNat a2) l0 a1 0).bind fun t136 => ((nat_Trim.f t136).bind fun t137 => (some t137))) else (none))) else (none)) else (none)) = some r := by first | (rw [hji4] at H; exact H) | (simp only [hji4] at H ⊢; exact H)
  have hji4w : (IntKind.i64.wrap ((l0.length : Int) + 2)) = ji4 := (i64_w _).trans hji4
  by_cases c5 : 0 ≤ (ji4)
  · rw [if_pos c5] at H
    have c5b0 := eq_true c5
    have c5b1 : decide (0 ≤ (ji4)) = true := decide_eq_true c5
    clear c5
    by_cases c6 : (ji4 : Int).toNat ≤ 70368744177664
    · rw [if_pos c6] at H
      have c6b0 := eq_true c6
      have c6b1 : decide ((ji4 : Int).toNat ≤ 70368744177664) = true := decide_eq_true c6
      clear c6
      obtain ⟨y132, hy132⟩ : ∃ y_ : List Int, y_ = (List.replicate (ji4 : Int).toNat 0) := ⟨_, rfl⟩
      replace H : (if 0 < (y132.length : Int) then ((mul_row.f k (y132.set (0 : Int).toNat a2) l0 a1 0).bind fun t136 => ((nat_Trim.f t136).bind fun t137 => (some t137))) else (none)) = some r := by first | (rw [hy132]; with_reducible exact H) | (have H2_ := (Option.bind_some _ _).symm.trans H; rw [hy132]; with_reducible exact H2_) | (have H2_ := (Option.bind_some _ _).symm.trans H; with_reducible exact H2_) | with_reducible exact H | (rw [hy132]; exact H) | exact H
      have Ny132 := Aside0.mk hy132
      clear hy132
      by_cases c7 : 0 < (y132.length : Int)
      · rw [if_pos c7] at H
        have c7b0 : decide (0 < (y132.length : Int)) = true := decide_eq_true c7
        have c7b1 : decide (0 < y132.length) = true := decide_eq_true (by omega)
        clear c7
        obtain ⟨y135, hy135⟩ : ∃ y_ : List Int, y_ = (y132.set (0 : Int).toNat a2) := ⟨_, rfl⟩
        replace H : ((mul_row.f k y135 l0 a1 0).bind fun t136 => ((nat_Trim.f t136).bind fun t137 => (some t137))) = some r := by first | (rw [hy135]; with_reducible exact H) | (have H2_ := (Option.bind_some _ _).symm.trans H; rw [hy135]; with_reducible exact H2_) | (have H2_ := (Option.bind_some _ _).symm.trans H; with_reducible exact H2_) | with_reducible exact H | (rw [hy135]; exact H) | exact H
        have Ny135 := Aside0.mk hy135
        clear hy135
        obtain ⟨t136, A90, H⟩ := Option.bind_eq_some_iff.mp H
        (try dsimp -simprocs only at H)
        have A9 := Aside0.mk A90
        clear A90
        obtain ⟨t137, A100, H⟩ := Option.bind_eq_some_iff.mp H
        (try dsimp -simprocs only at H)
        have A10 := Aside0.mk A100
        clear A100
        obtain rfl := Option.some.inj H
        go_enter Tryd.func74, Tryd.ntmps74
        go_wp2_with (first | ((with_reducible refine gate_dst (N := 11) rfl ?_); refine Kd.R_make (Kd.int .u32) _ 47 rfl (N := 11) rfl 28 _ _ rfl ji4 rfl rfl Tryd.underlying28 (.int .u32 0) 4 info47 rfl (by decide) (by omega) 0 (ok := fun _ => True) (okp := fun _ => True) rfl (fun _ hk => hk) trivial (of_decide_eq_true (by first | (with_reducible assumption) | assumption)) (Nat.le_trans (Nat.mul_le_mul_right _ (of_decide_eq_true (by first | (with_reducible assumption) | assumption) : ji4.toNat ≤ 70368744177664)) (by omega)) (Below.refl _ _) (Nat.le_refl _) ?_; intro v133 w11 ho12 hb hg_ hnew_; clear hg_ hnew_; (first | rw [← Ny132.out] at ho12 | (simp only [Int.reduceToNat] at ho12; rw [← Ny132.out] at ho12)); have HO134 := Aside0.mk (Kd.R_lower ho12 (below_size (BL HB))); replace HB := hbs_ HB hb; clear hb ho12; have p8 : 0 ≤ (0 : Int) := (by omega); have q8 : (0 : Int) < ((y132.length : Int) : Int) := of_decide_eq_true (by first | (with_reducible assumption) | assumption); have qi8 : (0 < y132.length) = True := eq_true (by omega); obtain ⟨go8, co8, eo8, gb8, gl8, cl8, HG8⟩ := Kd.R_form HO134.out (by omega); (first | cases eo8 | (injection eo8 with ea_ en_ ec_; (first | subst ea_ | (injection ea_ with ea_; subst ea_)); subst ec_; clear en_)); have GB8 := Aside0.mk gb8; have GG8 := Aside0.mk HG8; clear gb8 gl8 HG8; obtain ⟨hx8_0, hf8_0⟩ := Kd.R_celln 0 HO134.out (0 : Int) p8 q8; (try rw [show ((0 : Int)).toNat = 0 from rfl] at hx8_0); (try simp only [Nat.reduceMul, Nat.zero_mul, Nat.zero_add, Nat.reduceAdd] at hx8_0); (try rw [show ((0 : Int)).toNat = 0 from rfl] at hf8_0); (try simp only [Nat.reduceMul, Nat.zero_mul, Nat.zero_add, Nat.reduceAdd] at hf8_0); replace p8 := eq_true p8; replace q8 := eq_true q8; obtain ⟨hy13_, hz13_⟩ := Kd.R_celln 0 HO134.out (0 : Int) (by omega) (of_decide_eq_true (by first | (with_reducible assumption) | assumption)); (try simp only [Int.reduceToNat, Int.toNat_zero, Int.toNat_ofNat, Nat.reduceMul, Nat.zero_mul, Nat.zero_add] at hy13_ hz13_); (try rw [show ((0 : Int)).toNat = 0 from rfl] at hy13_); (try rw [show ((0 : Int)).toNat = 0 from rfl] at hz13_); have HP13 := Kd.R_putg HO134.out (0 : Int) a2) | ((with_reducible refine gate_store (t := 47) (p := 14) rfl ?_); refine store_event (t := 47) (p := 14) (v := ?vo_w14) (w1 := (w11.setCell ⟨go8, (0 : Int).toNat, none⟩ (.int .u32 a2))) ?hg ?ho ?hn ?hr ?_; (case ho => rfl); (case hg => rfl); (case hn => rfl); (case hr => first | (go_simp; done) | (go_simp; rfl)); intro w14 hw; have hg : w11.grownBy w14 (some go8) := (by rw [hw]; exact HP13.2); have hp_ : Kd.R (Kd.int .u32) 47 w14 w.heap.size (fun _ => True) (.slice (some ⟨go8, 0, none⟩) y132.length co8) y135 := (by rw [hw, Ny135.out]; exact HP13.1); clear HP13; replace HO134 := Aside0.mk (hp_); replace HB := Aside0.mk ((by rw [hw]; exact below_set (HB.out) GB8.out : Below w.heap.size w w14)); clear hg hw hp_) | ((with_reducible refine gate_callee (f := 78) rfl ?_); refine goesL_ (some 18) rfl rfl Tryd.func78 (by kernel_rfl) rfl #[.slice (some ⟨go8, 0, none⟩) y132.length co8, .slice A0 l0.length c0, .int .u32 a1, .int .i64 0] rfl MP ?_; (with_reducible refine (mul_row.calls k (fun k_ => some k_ = (.slice (some ⟨go8, 0, none⟩) y132.length co8 : Value).ownBlock) (.slice (some ⟨go8, 0, none⟩) y132.length co8) y135 _ _ l0 a1 0 t136 w _ ?side1 ?side2 ?side3 ?side4 A9.out).mono ?_); (case side1 => repeat (first | (with_reducible first | exact HB.out | apply below_alloc | apply pw_below_drewN | apply below_drew1) | exact HB.out)); (case side2 => exact Kd.R_tight rfl HO134.out); (case side3 => exact Kd.C_kept_came (Kd.heap_int .u32) HR0.out (BL HB) (fun k_ hs_ => (fun e_ => Kd.R_base HO134.out k_ e_.symm) hs_)); (case side4 => exact HC0.out); rintro e w15 ⟨rfl, hy0, hb, hkp⟩; refine ⟨_, rfl, ?_⟩; replace HO134 := Aside0.mk (Kd.R_reok rfl hy0 (fun k_ e_ => HO134.out.1 k_ e_)); replace HB := Aside0.mk (hb); (try clear hb); (try clear hkp); (try clear hy0)) | ((with_reducible refine gate_callee (f := 62) rfl ?_); refine goesL_ (some 20) rfl rfl Tryd.func62 (by kernel_rfl) rfl #[.slice (some ⟨go8, 0, none⟩) t136.length co8] rfl (by (try simp only [List.map_toArray]); (try simp only [List.map_cons]); (try simp only [List.map_nil]); first | done | (rw [show t136.length = y132.length from (Kd.R_reads' HO134.out).1.symm] <;> rfl) | rfl | (simp only [List.length_drop, List.length_take]; rfl)) ?_; (with_reducible refine (nat_Trim.calls _ _ t136 t137 _ ?side1 ?side2 A10.out).mono ?_); (case side1 => exact CB ((Kd.R_reads' HO134.out).2.2)); (case side2 => rw [show t136.length = y132.length from (Kd.R_reads' HO134.out).1.symm]; exact (Kd.R_reads' HO134.out).2.1); rintro e w16 ⟨v138, rfl, ho0, hb⟩; refine ⟨_, rfl, ?_⟩; have HO139 := Aside0.mk (Kd.R_lower (Kd.R_new' ho0 (Kd.R_lt (RB HO134.out))) (below_size (BL HB))); replace HO134 := Aside0.mk (Kd.R_elder' (RB HO134.out) (Kd.R_base ho0) hb); replace HB := hbs_ HB hb; (try clear hb); (try clear hb2); (try clear hk); (try clear hi); (try clear ho0)))
        go_ret
        exact ⟨_, by first | rfl | (simp [errW_none, errW_some] <;> rfl) | (simp only [← hji4]; first | rfl | (simp [errW_none, errW_some] <;> rfl)) | (simp [*, errW_none, errW_some] <;> rfl), by (with_reducible repeat (first | apply Kd.R_alloc | apply Kd.R_drewN | apply Kd.R_drew)); exact Kd.R_mono HO139.out (fun _ hk => trivial), BL HB⟩
      rw [if_neg c7] at H
      exact absurd H (by simp)
    rw [if_neg c6] at H
    exact absurd H (by simp)
  rw [if_neg c5] at H
  exact absurd H (by simp)
end Go.Proofs.YtbjaiphfehnncaaDoor.Px
end
section
namespace Go.Proofs.YtbjaiphfehnncaaDoor.Px
open Fig Go.RowKit Go.Proofs.YtbjaiphfehnncaaDoorW.PrintWords Go.Proofs.YtbjaiphfehnncaaDoorW.PrintLast Go.Proofs.YtbjaiphfehnncaaDoorW.PrintMore
attribute [local go_sem] max2_int min2_int max_two min_two max_three min_three max_four min_four   -- for this text's walks alone
attribute [local go_sem] fieldA23_0 fieldA23_1 fieldA23_2
theorem row_step (s v y c : Nat) (hs : s < 1000000000) (hv : v < 1000000000) (hy : y < 1000000000) (hc : c < 1000000000) :
    IntKind.u64.wrap ((IntKind.u64.wrap ((IntKind.u64.wrap (s : Int)) + (IntKind.u64.wrap ((IntKind.u64.wrap (v : Int)) * (IntKind.u64.wrap (y : Int)))))) + (c : Int)) = ((s + v * y + c : Nat) : Int) := by
  have h1 : v * y ≤ 999999999 * 999999999 := Nat.mul_le_mul (by omega) (by omega)
  rw [u64w (x := (s : Int)) (by omega) (by omega), u64w (x := (v : Int)) (by omega) (by omega), u64w (x := (y : Int)) (by omega) (by omega)]
  have e2 : (v : Int) * (y : Int) = ((v * y : Nat) : Int) := by simp
  rw [e2]
  generalize v * y = t at *
  rw [u64w (x := (t : Int)) (by omega) (by omega), u64w (x := (s : Int) + (t : Int)) (by omega) (by omega), u64w (by omega) (by omega)]; omega
theorem row_low (n : Nat) (h : n ≤ 18446744073709551615) : Int.tmod (n : Int) 1000000000 % 4294967296 = ((n % 1000000000 : Nat) : Int) := by
  rw [Int.tmod_eq_emod_of_nonneg (by omega)]; omega
theorem row_high (n : Nat) (h : n ≤ 18446744073709551615) : IntKind.u64.wrap (Int.tdiv (n : Int) 1000000000) = ((n / 1000000000 : Nat) : Int) := by
  rw [Int.tdiv_eq_ediv_of_nonneg (by omega), u64w (by omega) (by omega)]; omega
theorem row_step1 (s c : Nat) (hs : s < 1000000000) (hc : c < 1000000000) : IntKind.u64.wrap ((IntKind.u64.wrap (s : Int)) + (c : Int)) = ((s + c : Nat) : Int) := by
  rw [u64w (x := (s : Int)) (by omega) (by omega), u64w (by omega) (by omega)]; omega
theorem valL_set : ∀ (l : List Int) (m : Nat) (h : m < l.length) (v s : Nat), l[m] = (s : Int) → valL (l.set m (v : Int)) + 1000000000 ^ m * s = valL l + 1000000000 ^ m * v
  | x :: l, 0, h, v, s, h0 => by
    simp only [List.set_cons_zero, valL, List.getElem_cons_zero] at h0 ⊢
    rw [Nat.pow_zero]; omega
  | x :: l, m + 1, h, v, s, h0 => by
    simp only [List.set_cons_succ, valL, List.getElem_cons_succ] at h0 ⊢
    have := valL_set l m (by simpa using h) v s h0
    rw [Nat.pow_succ, Nat.mul_comm (1000000000 ^ m) 1000000000, Nat.mul_assoc, Nat.mul_assoc]; omega
theorem goodL_set {l : List Int} (h : goodL l = true) (m : Nat) {v : Int} (hv : 0 ≤ v ∧ v < 1000000000) : goodL (l.set m v) = true := by
  rw [goodL_iff]; intro e he
  rcases List.mem_or_eq_of_mem_set he with h1 | h1
  · exact goodL_iff.1 h e h1
  · subst h1; exact hv
def RowPost (x : List Int) (V : Nat) (r : List Int) : Prop := goodL r = true ∧ r.length = x.length ∧ valL r = V
theorem row_end (V : Nat) : ∀ (d n : Nat) (x : List Int) (c : Nat), x.length - n = d → goodL x = true → x.length ≤ 1000000000000 → n ≤ x.length → c < 1000000000 → valL x + 1000000000 ^ n * c = V → V < 1000000000 ^ x.length →
    ∃ r, Ev (fun k => mul_row.l1 k x (c : Int) (n : Int)) r ∧ RowPost x V r
  | d, n, x, c, h1, hg, hl, hn, hc, hV, hlt => by
    by_cases h0 : c = 0
    · subst h0
      refine ⟨x, evDone (r' := x) (fun k => ?_) rfl, hg, rfl, by omega⟩
      simp only [mul_row.l1]; rw [if_neg (by omega)]
    · have hnx : n < x.length := by
        rcases Nat.lt_or_ge n x.length with h | h
        · exact h
        · obtain rfl : n = x.length := by omega
          have := Nat.mul_le_mul_left (1000000000 ^ x.length) (show 1 ≤ c by omega)
          omega
      obtain ⟨d, rfl⟩ : ∃ e, d = e + 1 := ⟨d - 1, by omega⟩
      have hp := goodL_iff.1 hg _ (List.getElem_mem hnx)
      obtain ⟨s, hs⟩ : ∃ s : Nat, x[n] = (s : Int) := ⟨x[n].toNat, by omega⟩
      have hset := valL_set x n hnx ((s + c) % 1000000000) s hs
      have hdm := Nat.div_add_mod (s + c) 1000000000
      have key : valL (x.set n (((s + c) % 1000000000 : Nat) : Int)) + 1000000000 ^ (n + 1) * ((s + c) / 1000000000) = V := by
        have e := congrArg (fun z => 1000000000 ^ n * z) hdm
        simp only [Nat.mul_add] at e
        rw [Nat.pow_succ, Nat.mul_assoc]
        omega
      have hc' : (s + c) / 1000000000 < 1000000000 := by omega
      obtain ⟨r, hr, p1, p2, p3⟩ := row_end V d (n + 1) (x.set n (((s + c) % 1000000000 : Nat) : Int)) ((s + c) / 1000000000) (by simp; omega) (goodL_set hg n (by omega)) (by simpa using hl) (by simp; omega) hc' key (by simpa using hlt)
      refine ⟨r, Ev.step (fun k => ?_) hr, p1, by simpa using p2, p3⟩
      simp only [mul_row.l1]; rw [if_pos (by omega), if_pos (by omega), if_pos (by omega), rd_get hnx, hs, row_step1 _ _ (by omega) hc, row_low _ (by omega), row_high _ (by omega), w64 (by omega) (by omega), Int.toNat_natCast]; rfl
theorem row_idx (p q : Nat) (hp : p ≤ 1000000000000) (hq : q ≤ 1000000000000) : wrap64 ((p : Int) + (q : Int)) = ((p + q : Nat) : Int) := by rw [w64 (by omega) (by omega)]; omega
theorem row_loop (a : List Int) (ga : goodL a = true) (y p V : Nat) (hy : y < 1000000000) : ∀ (d n : Nat) (x : List Int) (c : Nat), a.length - n = d → goodL x = true → x.length ≤ 1000000000000 → n ≤ a.length → p + a.length ≤ x.length → c < 1000000000 → valL x + 1000000000 ^ (p + n) * (c + valL (a.drop n) * y) = V → V < 1000000000 ^ x.length →
    ∃ r, Ev (fun k => mul_row.l0 k x a (y : Int) (p : Int) (c : Int) a (a.length : Int) (n : Int)) r ∧ RowPost x V r
  | 0, n, x, c, h1, hg, hl, hn, hpa, hc, hV, hlt => by
    have e : a.drop n = [] := List.drop_of_length_le (by omega)
    rw [e] at hV
    obtain ⟨r, hr, p1⟩ := row_end V _ (p + n) x c rfl hg hl (by omega) hc (by simpa [valL] using hV) hlt
    refine ⟨r, Ev.step (fun k => ?_) hr, p1⟩
    simp only [mul_row.l0]; rw [if_neg (by omega), row_idx p a.length (by omega) (by omega), show a.length = n by omega]
  | d + 1, n, x, c, h1, hg, hl, hn, hpa, hc, hV, hlt => by
    have hna : n < a.length := by omega
    have hnx : p + n < x.length := by omega
    have pa := goodL_iff.1 ga _ (List.getElem_mem hna)
    have px := goodL_iff.1 hg _ (List.getElem_mem hnx)
    obtain ⟨v, hv⟩ : ∃ v : Nat, a[n] = (v : Int) := ⟨a[n].toNat, by omega⟩
    obtain ⟨s, hs⟩ : ∃ s : Nat, x[p + n] = (s : Int) := ⟨x[p + n].toNat, by omega⟩
    have hvy : v * y ≤ 999999999 * 999999999 := Nat.mul_le_mul (by omega) (by omega)
    have e : valL (a.drop n) = v + 1000000000 * valL (a.drop (n + 1)) := by rw [List.drop_eq_getElem_cons hna, hv]; rfl
    have hset := valL_set x (p + n) hnx ((s + v * y + c) % 1000000000) s hs
    have hdm := Nat.div_add_mod (s + v * y + c) 1000000000
    have key : valL (x.set (p + n) (((s + v * y + c) % 1000000000 : Nat) : Int)) + 1000000000 ^ (p + (n + 1)) * ((s + v * y + c) / 1000000000 + valL (a.drop (n + 1)) * y) = V := by
      have e1 := congrArg (fun z => 1000000000 ^ (p + n) * z) hdm
      simp only [Nat.mul_add] at e1
      rw [e, Nat.add_mul, Nat.mul_add, Nat.mul_add, Nat.mul_assoc 1000000000, ← Nat.mul_assoc _ 1000000000] at hV
      rw [← Nat.add_assoc, Nat.pow_succ, Nat.mul_add, Nat.mul_assoc _ 1000000000 (_ / _)]
      omega
    have hc' : (s + v * y + c) / 1000000000 < 1000000000 := by omega
    obtain ⟨r, hr, p1, p2, p3⟩ := row_loop a ga y p V hy d (n + 1) (x.set (p + n) (((s + v * y + c) % 1000000000 : Nat) : Int)) ((s + v * y + c) / 1000000000) (by omega) (goodL_set hg _ (by omega)) (by simpa using hl) (by omega) (by simpa using hpa) hc' key (by simpa using hlt)
    refine ⟨r, Ev.step (fun k => ?_) hr, p1, by simpa using p2, p3⟩
    simp only [mul_row.l0]
    rw [if_pos (by omega), if_pos (by omega), if_pos (by omega), row_idx p n (by omega) (by omega), if_pos (by omega), if_pos (by omega), rd_get hnx, rd_get hna, hs, hv, row_step _ _ _ _ (by omega) (by omega) hy hc, row_low _ (by omega), row_high _ (by omega), succ64 _ (by omega), Int.toNat_natCast]
theorem row_ev {x a : List Int} {y p : Nat} (gx : goodL x = true) (ga : goodL a = true) (hy : y < 1000000000) (hl : x.length ≤ 1000000000000) (hpa : p + a.length ≤ x.length) (hlt : valL x + 1000000000 ^ p * (valL a * y) < 1000000000 ^ x.length) :
    ∃ r, Ev (fun k => mul_row.f k x a (y : Int) (p : Int)) r ∧ goodL r = true ∧ r.length = x.length ∧ valL r = valL x + 1000000000 ^ p * (valL a * y) := by
  obtain ⟨r, hr, h⟩ := row_loop a ga y p _ hy a.length 0 x 0 rfl gx hl (by omega) hpa (by omega) rfl (by simpa using hlt)
  exact ⟨r, hr, h.1, h.2.1, by rw [h.2.2]; simp⟩
end Go.Proofs.YtbjaiphfehnncaaDoor.Px
end
section
namespace Go.Proofs.YtbjaiphfehnncaaDoor.Px
open Fig Go.RowKit Go.Proofs.YtbjaiphfehnncaaDoorW.PrintWords Go.Proofs.YtbjaiphfehnncaaDoorW.PrintLast Go.Proofs.YtbjaiphfehnncaaDoorW.PrintMore
attribute [local go_sem] max2_int min2_int max_two min_two max_three min_three max_four min_four   -- for this text's walks alone
attribute [local go_sem] fieldA23_0 fieldA23_1 fieldA23_2
def figureheadref01_digit.f (a0 : ByteArray) (a1 : Int) : Option (Int) := if a1 ≥ (a0.size : Int) then (some 0) else (if 0 ≤ (wrap64 ((wrap64 ((a0.size : Int) - 1)) - a1)) then (if (wrap64 ((wrap64 ((a0.size : Int) - 1)) - a1)) < (a0.size : Int) then (some (((bt a0 (wrap64 ((wrap64 ((a0.size : Int) - 1)) - a1))) - 48) % 256)) else (none)) else (none))
set_option maxHeartbeats 8000000 in
set_option maxRecDepth 100000 in
theorem figureheadref01_digit.calls (a0 : ByteArray) (a1 : Int) (r : Int) (w : World) (h : figureheadref01_digit.f a0 a1 = some r) :
    Calls Tryd.prog 76 #[.string a0, .int .i64 a1] w fun e w' => e = .returned (.int .i64 r) ∧ Drawn0 w w' := by
  have H : (if a1 ≥ (a0.size : Int) then (some 0) else (if 0 ≤ (wrap64 ((wrap64 ((a0.size : Int) - 1)) - a1)) then (if (wrap64 ((wrap64 ((a0.size : Int) - 1)) - a1)) < (a0.size : Int) then (some (((bt a0 (wrap64 ((wrap64 ((a0.size : Int) - 1)) - a1))) - 48) % 256)) else (none)) else (none))) = some r := h
  clear h
  by_cases c3 : a1 ≥ (a0.size : Int)
  · rw [if_pos c3] at H
    have c3b0 : decide ((a0.size : Int) ≤ a1) = true := decide_eq_true c3
    clear c3
    obtain rfl := Option.some.inj H
    go_enter Tryd.func76, Tryd.ntmps76
    go_wp2
    go_ret
    exact ⟨by first | rfl | (simp; done) | (simp [*]; done) | (simp [*, Fig.bne_nil]; done), by repeat (first | exact Drawn0.refl _ | apply Drawn0.step)⟩
  · rw [if_neg c3] at H
    have c3b0 : decide ((a0.size : Int) ≤ a1) = false := decide_eq_false c3
    clear c3
    obtain ⟨ji4, hji4⟩ : ∃ j_ : Int, (wrap64 ((wrap64 ((a0.size : Int) - 1)) - a1)) = j_ := ⟨_, rfl⟩
    replace H : (if 0 ≤ (ji4) then (if (ji4) < (a0.size : Int) then (some (((bt a0 (ji4)) - 48) % 256)) else (none)) else (none)) = some r := by first | (rw [hji4] at H; exact H) | (simp only [hji4] at H ⊢; exact H)
    have hji4w : (IntKind.i64.wrap ((wrap64 ((a0.size : Int) - 1)) - a1)) = ji4 := (i64_w _).trans hji4
    by_cases c5 : 0 ≤ (ji4)
    · rw [if_pos c5] at H
      have c5b0 : decide (0 ≤ (ji4)) = true := decide_eq_true c5
      clear c5
      by_cases c6 : (ji4) < (a0.size : Int)
      · rw [if_pos c6] at H
        have c6b0 : decide ((ji4) < (a0.size : Int)) = true := decide_eq_true c6
        clear c6
        obtain rfl := Option.some.inj H
        have p7 : 0 ≤ ((ji4) : Int) := of_decide_eq_true (by first | (with_reducible assumption) | assumption)
        have q7 : (ji4) < (a0.size : Int) := of_decide_eq_true (by first | (with_reducible assumption) | assumption)
        have hx7 := bt_at a0 (ji4)
        replace p7 := eq_true p7
        replace q7 := eq_true q7
        go_enter Tryd.func76, Tryd.ntmps76
        go_wp2
        go_ret
        exact ⟨by first | rfl | (simp; done) | (simp only [← hji4] <;> (first | rfl | simp)) | (simp [*]; done) | (simp [*, Fig.bne_nil]; done), by repeat (first | exact Drawn0.refl _ | apply Drawn0.step)⟩
      · rw [if_neg c6] at H
        exact absurd H (by simp)
    · rw [if_neg c5] at H
      exact absurd H (by simp)
end Go.Proofs.YtbjaiphfehnncaaDoor.Px
end
section
namespace Go.Proofs.YtbjaiphfehnncaaDoor.Px
open Fig Go.RowKit Go.Proofs.YtbjaiphfehnncaaDoorW.PrintWords Go.Proofs.YtbjaiphfehnncaaDoorW.PrintLast Go.Proofs.YtbjaiphfehnncaaDoorW.PrintMore
attribute [local go_sem] max2_int min2_int max_two min_two max_three min_three max_four min_four   -- for this text's walks alone
attribute [local go_sem] fieldA23_0 fieldA23_1 fieldA23_2
def rs (s : ByteArray) : List UInt8 := s.data.toList.reverse
end Go.Proofs.YtbjaiphfehnncaaDoor.Px
end
section
namespace Go.Proofs.YtbjaiphfehnncaaDoor.Px
open Fig Go.RowKit Go.Proofs.YtbjaiphfehnncaaDoorW.PrintWords Go.Proofs.YtbjaiphfehnncaaDoorW.PrintLast Go.Proofs.YtbjaiphfehnncaaDoorW.PrintMore
attribute [local go_sem] max2_int min2_int max_two min_two max_three min_three max_four min_four   -- for this text's walks alone
attribute [local go_sem] fieldA23_0 fieldA23_1 fieldA23_2
theorem Strip_loop (s : ByteArray) (hs : s.size ≤ 4611686018427387904) : ∀ (d n : Nat), s.size - n = d → n ≤ s.size → Ev (fun k => figureheadref01_Strip.l0 k s (n : Int)) (⟨(stripL (s.data.toList.drop n)).toArray⟩ : ByteArray)
  | 0, n, hd, hn => by
    refine evDone (r' := s.extract n s.size) (fun k => ?_) ?_
    · simp only [figureheadref01_Strip.l0]; rw [if_neg (by omega), if_pos (by omega), if_pos (by omega)]; simp
    · apply B_ext; rw [B_from]
      have : s.data.toList.drop n = [] := List.drop_of_length_le (by rw [← size_eq]; omega)
      rw [this]; rfl
  | d + 1, n, hd, hn => by
    have hlt : n < s.size := by omega
    have hb := bt_get hlt
    have hc := List.drop_eq_getElem_cons (l := s.data.toList) (i := n) (by rw [← size_eq]; exact hlt)
    by_cases h48 : bt s (n : Int) = 48
    · refine Ev.step (f := fun k => figureheadref01_Strip.l0 k s ((n + 1 : Nat) : Int)) (fun k => ?_) ?_
      · simp only [figureheadref01_Strip.l0]; rw [if_pos (by omega), if_pos (by omega), if_pos h48, w64 (by omega) (by omega)]; rfl
      · have := Strip_loop s hs d (n + 1) (by omega) (by omega)
        rw [hc]
        have h2 : s.data.toList[n]'(by rw [← size_eq]; exact hlt) = 48 := UInt8.toNat.inj (by rw [hb] at h48; show _ = 48; omega)
        rw [h2]
        simpa [stripL] using this
    · refine evDone (r' := s.extract n s.size) (fun k => ?_) ?_
      · simp only [figureheadref01_Strip.l0]; rw [if_pos (by omega), if_pos (by omega), if_neg h48, if_pos (by omega)]; simp
      · apply B_ext; rw [B_from]
        refine (stripL_of_head ?_).symm
        rw [hc, List.head?_cons]
        intro e
        injection e with e
        rw [hb, e] at h48; exact h48 rfl
theorem Strip_ev {s : ByteArray} (hs : s.size ≤ 4611686018427387904) : Ev (fun k => figureheadref01_Strip.f k s) (stripB s) := by
  have := Strip_loop s hs s.size 0 (by omega) (by omega)
  simpa [figureheadref01_Strip.f, stripB] using this
theorem StripD_ev {s : ByteArray} (hs : s.size ≤ 4611686018427387904) (h : dB s = true) : Ev (fun k => figureheadref01_Strip.f k s) (digB (vB s)) := by
  rw [← stripB_eq h]; exact Strip_ev hs
end Go.Proofs.YtbjaiphfehnncaaDoor.Px
end
section
namespace Go.Proofs.YtbjaiphfehnncaaDoor.Px
open Fig Go.RowKit Go.Proofs.YtbjaiphfehnncaaDoorW.PrintWords Go.Proofs.YtbjaiphfehnncaaDoorW.PrintLast Go.Proofs.YtbjaiphfehnncaaDoorW.PrintMore
attribute [local go_sem] max2_int min2_int max_two min_two max_three min_three max_four min_four   -- for this text's walks alone
attribute [local go_sem] fieldA23_0 fieldA23_1 fieldA23_2
def figureheadref01_turned.l0 : Nat → List Int → List Int → Int → Option (ByteArray)
  | 0, _, _, _ => none
  | k + 1, x0, x3, x4 => if x4 ≥ 0 then (if 0 ≤ x4 then (if x4 < (x0.length : Int) then (if x3.length < 140737488355328 then (figureheadref01_turned.l0 k x0 (x3 ++ [rd x0 x4]) (wrap64 (x4 - 1))) else (none)) else (none)) else (none)) else (some (strOfNums x3))
def figureheadref01_turned.f (k : Nat) (l0 : List Int) : Option (ByteArray) := figureheadref01_turned.l0 k l0 ([] : List Int) (wrap64 ((l0.length : Int) - 1))
theorem figureheadref01_turned.mono_l : ∀ k, (∀ y0 y1 y2, LeO (figureheadref01_turned.l0 k y0 y1 y2) (figureheadref01_turned.l0 (k + 1) y0 y1 y2))
  | 0 => fun _ _ _ r h => by simp [figureheadref01_turned.l0] at h
  | k + 1 => by
    have ih0 := figureheadref01_turned.mono_l k
    · intro y0 y1 y2
      unfold figureheadref01_turned.l0
      repeat' first
      | (with_reducible exact ih0 _ _ _)
      | (with_reducible exact LeO.refl _)
      | (with_reducible exact LeO.none _)
      | (with_reducible refine LeO.ite ?_ ?_)
      | (with_reducible refine LeO.bind ?_ (fun _ => ?_))
      | exact ih0 _ _ _
      | exact LeO.none _
      | refine LeO.ite ?_ ?_
      | refine LeO.bind ?_ (fun _ => ?_)
theorem figureheadref01_turned.mono : ∀ a0 k, LeO (figureheadref01_turned.f k a0) (figureheadref01_turned.f (k + 1) a0) := by
  intro a0 k
  have ih0 := figureheadref01_turned.mono_l k
  unfold figureheadref01_turned.f
  repeat' first
      | (with_reducible exact ih0 _ _ _)
      | (with_reducible exact LeO.refl _)
      | (with_reducible exact LeO.none _)
      | (with_reducible refine LeO.ite ?_ ?_)
      | (with_reducible refine LeO.bind ?_ (fun _ => ?_))
      | exact ih0 _ _ _
      | exact LeO.none _
      | refine LeO.ite ?_ ?_
      | refine LeO.bind ?_ (fun _ => ?_)
set_option maxHeartbeats 8000000 in
set_option maxRecDepth 100000 in
theorem figureheadref01_turned.calls (k : Nat) (A0 : Option Addr) (c0 : Nat) (l0 : List Int) (r : ByteArray) (w : World) (hr0 : Kd.C (Kd.int .u8) w A0 l0.length l0) (hc0 : l0.length ≤ c0) (h : figureheadref01_turned.f k l0 = some r) :
    Calls Tryd.prog 77 #[.slice A0 l0.length c0] w fun e w' => e = .returned (.string r) ∧ Below w.heap.size w w' := by
  have HR0 := Aside0.mk hr0
  have HC0 := Aside0.mk hc0
  clear hr0 hc0
  have HB := Aside0.mk (Below.refl w.heap.size w)
  have H : (figureheadref01_turned.l0 k l0 ([] : List Int) (wrap64 ((l0.length : Int) - 1))) = some r := h
  clear h
  have H' := Aside0.mk H
  clear H
  go_enter Tryd.func77, Tryd.ntmps77
  go_wp2
  go_loopg [3, 4] k (fun kq v3 v4 w' => ∃ (x3_1 : List Int) (x4_1 : Int), v4 = .int .i64 x4_1 ∧ Aside0 (figureheadref01_turned.l0 kq l0 x3_1 x4_1 = some r) ∧ Aside0 (kq ≤ k) ∧ Aside0 (Kd.R (Kd.int .u8) 5 w' w.heap.size (fun _ => True) v3 x3_1) ∧ Aside0 (Below w.heap.size w w'))
  case atStart => exact ⟨(([] : List Int)), (wrap64 ((l0.length : Int) - 1)), SR, H', ⟨Nat.le_refl _⟩, ⟨by first | exact Kd.R_nil _ _ _ _ _ | exact Kd.N_nil _ _ _ _ _ | exact Kd.V_nil _ _ _ _ _ | exact Kd.Q_nil _ _ _ _ _ | exact Kd.S_nil _ _ _ _ _⟩, ⟨BL HB⟩⟩
  case round =>
    clear H'
    obtain ⟨x3_1, x4_1, rfl, HA, HK1, HO_3, HB⟩ := hrel
    obtain _ | k1 := gk
    · exact absurd HA.out (by simp [figureheadref01_turned.l0])
    have H := HA.out
    clear HA
    simp only [figureheadref01_turned.l0] at H
    by_cases c2 : x4_1 ≥ 0
    · rw [if_pos c2] at H
      have c2b0 : decide (0 ≤ x4_1) = true := decide_eq_true c2
      clear c2
      by_cases c3 : 0 ≤ x4_1
      · rw [if_pos c3] at H
        have c3b0 : decide (0 ≤ x4_1) = true := decide_eq_true c3
        clear c3
        by_cases c4 : x4_1 < (l0.length : Int)
        · rw [if_pos c4] at H
          have c4b0 : decide (x4_1 < (l0.length : Int)) = true := decide_eq_true c4
          clear c4
          by_cases c5 : x3_1.length < 140737488355328
          · rw [if_pos c5] at H
            have LMc5 := Aside0.mk c5
            clear c5
            obtain ⟨y401, hy401⟩ : ∃ y_ : List Int, y_ = (x3_1 ++ [rd l0 x4_1]) := ⟨_, rfl⟩
            replace H : (figureheadref01_turned.l0 k1 l0 y401 (wrap64 (x4_1 - 1))) = some r := by first | (rw [hy401]; with_reducible exact H) | (have H2_ := (Option.bind_some _ _).symm.trans H; rw [hy401]; with_reducible exact H2_) | (have H2_ := (Option.bind_some _ _).symm.trans H; with_reducible exact H2_) | with_reducible exact H | (rw [hy401]; exact H) | exact H
            have Ny401 := Aside0.mk hy401
            clear hy401
            have H' := Aside0.mk H
            clear H
            have p400 : 0 ≤ (x4_1 : Int) := of_decide_eq_true (by first | (with_reducible assumption) | assumption)
            have q400 : x4_1 < (l0.length : Int) := of_decide_eq_true (by first | (with_reducible assumption) | assumption)
            obtain ⟨ad400, e400, hx400_0⟩ := Kd.at_int HR0.out x4_1 p400 q400
            cases e400
            replace hx400_0 := (HB.out.cell (World.block_lt_of_cell? w _ hx400_0)).trans hx400_0
            replace p400 := eq_true p400
            replace q400 := eq_true q400
            go_wp2_with (first | ((with_reducible refine gate_builtin (b := .append) (xs := #[.tmp 12, .tmp 17]) rfl ?_); at_builtin; refine Kd.R_append (Kd.int .u8) (w0 := w) w.heap.size rfl (.tmp 12) (.tmp 17) 74 5 (.int .u8 0) 1 rfl Tryd.underlying74 info5 rfl (by decide) (by omega) u3 x3_1 (rd l0 x4_1) [.int .u8 (rd l0 x4_1)] (fun _ => True) (fun _ => False) rfl rfl ?aP (fun _ hk => hk.elim) ?aF ?aO ?aB ?aS ?aL ?_; (case aP => exact rfl); (case aB => exact (BL HB)); (case aF => exact (fun _ _ => trivial)); (case aO => exact (RB HO_3.out)); (case aS => exact (below_size (BL HB))); (case aL => have := LMc5.out; omega); intro v402 w6 ho hb hg hat; rw [← Ny401.out] at ho; replace HB := Aside0.mk (hb); have HO403 := Aside0.mk (ho); clear HO_3; clear ho hb hg hat))
            go_roundg k1
            case measure => have := HK1.out; omega
            case rel => exact ⟨(y401), (wrap64 (x4_1 - 1)), SR, H', ⟨by have := HK1.out; omega⟩, ⟨RB HO403.out⟩, ⟨BL HB⟩⟩
          rw [if_neg c5] at H
          exact absurd H (by simp)
        rw [if_neg c4] at H
        exact absurd H (by simp)
      rw [if_neg c3] at H
      exact absurd H (by simp)
    rw [if_neg c2] at H
    have c2b0 : decide (0 ≤ x4_1) = false := decide_eq_false c2
    clear c2
    obtain rfl := Option.some.inj H
    have hcv7 := own_string (P := Tryd.prog) Tryd.underlying74 Tryd.underlying5 Tryd.underlying9 (Kd.own_of_R HO_3.out)
    go_wp2
    go_ret
    exact ⟨ER, BL HB⟩
end Go.Proofs.YtbjaiphfehnncaaDoor.Px
end
section
namespace Go.Proofs.YtbjaiphfehnncaaDoor.Px
open Fig Go.RowKit Go.Proofs.YtbjaiphfehnncaaDoorW.PrintWords Go.Proofs.YtbjaiphfehnncaaDoorW.PrintLast Go.Proofs.YtbjaiphfehnncaaDoorW.PrintMore
attribute [local go_sem] max2_int min2_int max_two min_two max_three min_three max_four min_four   -- for this text's walks alone
attribute [local go_sem] fieldA23_0 fieldA23_1 fieldA23_2
end Go.Proofs.YtbjaiphfehnncaaDoor.Px
end
section
namespace Go.Proofs.YtbjaiphfehnncaaDoor.Px
open Fig Go.RowKit Go.Proofs.YtbjaiphfehnncaaDoorW.PrintWords Go.Proofs.YtbjaiphfehnncaaDoorW.PrintLast Go.Proofs.YtbjaiphfehnncaaDoorW.PrintMore
attribute [local go_sem] max2_int min2_int max_two min_two max_three min_three max_four min_four   -- for this text's walks alone
attribute [local go_sem] fieldA23_0 fieldA23_1 fieldA23_2
mutual
def figureheadref01_Plus.l0 : Nat → ByteArray → ByteArray → List Int → Int → Int → Option (ByteArray)
  | 0, _, _, _, _, _ => none
  | k + 1, x0, x1, x5, x6, x7 => if x7 < (x0.size : Int) then (figureheadref01_Plus.j1 k x0 x1 x5 x6 x7 true) else (if x7 < (x1.size : Int) then (figureheadref01_Plus.j1 k x0 x1 x5 x6 x7 true) else (figureheadref01_Plus.j1 k x0 x1 x5 x6 x7 (decide (x6 > 0))))
def figureheadref01_Plus.j1 : Nat → ByteArray → ByteArray → List Int → Int → Int → Bool → Option (ByteArray)
  | 0, _, _, _, _, _, _ => none
  | k + 1, x0, x1, x5, x6, x7, x22 => if x22 = true then ((figureheadref01_digit.f x0 x7).bind fun t404 => ((figureheadref01_digit.f x1 x7).bind fun t405 => (if x5.length < 140737488355328 then (figureheadref01_Plus.l0 k x0 x1 (x5 ++ [(wrap64 (48 + (Int.tmod (wrap64 ((wrap64 (t404 + t405)) + x6)) 10))) % 256]) (wrap64 (Int.tdiv (wrap64 ((wrap64 (t404 + t405)) + x6)) 10)) (wrap64 (x7 + 1))) else (none)))) else ((figureheadref01_turned.f k x5).bind fun t409 => ((figureheadref01_Strip.f k t409).bind fun t410 => (some t410)))
end
def figureheadref01_Plus.f (k : Nat) (a0 : ByteArray) (a1 : ByteArray) : Option (ByteArray) := figureheadref01_Plus.l0 k a0 a1 ([] : List Int) 0 0
theorem figureheadref01_Plus.mono_l : ∀ k, (∀ y0 y1 y2 y3 y4, LeO (figureheadref01_Plus.l0 k y0 y1 y2 y3 y4) (figureheadref01_Plus.l0 (k + 1) y0 y1 y2 y3 y4)) ∧ (∀ y0 y1 y2 y3 y4 y5, LeO (figureheadref01_Plus.j1 k y0 y1 y2 y3 y4 y5) (figureheadref01_Plus.j1 (k + 1) y0 y1 y2 y3 y4 y5))
  | 0 => ⟨fun _ _ _ _ _ r h => by simp [figureheadref01_Plus.l0] at h, fun _ _ _ _ _ _ r h => by simp [figureheadref01_Plus.j1] at h⟩
  | k + 1 => by
    obtain ⟨ih0, ih1⟩ := figureheadref01_Plus.mono_l k
    refine ⟨?_, ?_⟩
    · intro y0 y1 y2 y3 y4
      unfold figureheadref01_Plus.l0
      repeat' first
      | (with_reducible exact ih0 _ _ _ _ _)
      | (with_reducible exact ih1 _ _ _ _ _ _)
      | (with_reducible exact figureheadref01_Strip.mono _ _)
      | (with_reducible exact figureheadref01_turned.mono _ _)
      | (with_reducible exact LeO.refl _)
      | (with_reducible exact LeO.none _)
      | (with_reducible refine LeO.ite ?_ ?_)
      | (with_reducible refine LeO.bind ?_ (fun _ => ?_))
      | exact ih0 _ _ _ _ _
      | exact ih1 _ _ _ _ _ _
      | exact figureheadref01_Strip.mono _ _
      | exact figureheadref01_turned.mono _ _
      | exact LeO.none _
      | refine LeO.ite ?_ ?_
      | refine LeO.bind ?_ (fun _ => ?_)
    · intro y0 y1 y2 y3 y4 y5
      unfold figureheadref01_Plus.j1
      repeat' first
      | (with_reducible exact ih0 _ _ _ _ _)
      | (with_reducible exact ih1 _ _ _ _ _ _)
      | (with_reducible exact figureheadref01_Strip.mono _ _)
      | (with_reducible exact figureheadref01_turned.mono _ _)
      | (with_reducible exact LeO.refl _)
      | (with_reducible exact LeO.none _)
      | (with_reducible refine LeO.ite ?_ ?_)
      | (with_reducible refine LeO.bind ?_ (fun _ => ?_))
      | exact ih0 _ _ _ _ _
      | exact ih1 _ _ _ _ _ _
      | exact figureheadref01_Strip.mono _ _
      | exact figureheadref01_turned.mono _ _
      | exact LeO.none _
      | refine LeO.ite ?_ ?_
      | refine LeO.bind ?_ (fun _ => ?_)
theorem figureheadref01_Plus.mono : ∀ a0 a1 k, LeO (figureheadref01_Plus.f k a0 a1) (figureheadref01_Plus.f (k + 1) a0 a1) := by
  intro a0 a1 k
  obtain ⟨ih0, ih1⟩ := figureheadref01_Plus.mono_l k
  unfold figureheadref01_Plus.f
  repeat' first
      | (with_reducible exact ih0 _ _ _ _ _)
      | (with_reducible exact ih1 _ _ _ _ _ _)
      | (with_reducible exact figureheadref01_Strip.mono _ _)
      | (with_reducible exact figureheadref01_turned.mono _ _)
      | (with_reducible exact LeO.refl _)
      | (with_reducible exact LeO.none _)
      | (with_reducible refine LeO.ite ?_ ?_)
      | (with_reducible refine LeO.bind ?_ (fun _ => ?_))
      | exact ih0 _ _ _ _ _
      | exact ih1 _ _ _ _ _ _
      | exact figureheadref01_Strip.mono _ _
      | exact figureheadref01_turned.mono _ _
      | exact LeO.none _
      | refine LeO.ite ?_ ?_
      | refine LeO.bind ?_ (fun _ => ?_)
set_option maxHeartbeats 8000000 in
set_option maxRecDepth 100000 in
theorem figureheadref01_Plus.calls (k : Nat) (a0 : ByteArray) (a1 : ByteArray) (r : ByteArray) (w : World) (h : figureheadref01_Plus.f k a0 a1 = some r) :
    Calls Tryd.prog 58 #[.string a0, .string a1] w fun e w' => e = .returned (.string r) ∧ Below w.heap.size w w' := by
  have HB := Aside0.mk (Below.refl w.heap.size w)
  have H : (figureheadref01_Plus.l0 k a0 a1 ([] : List Int) 0 0) = some r := h
  clear h
  have H' := Aside0.mk H
  clear H
  go_enter Tryd.func58, Tryd.ntmps58
  go_wp2
  go_loopg [5, 6, 7] k (fun kq v5 v6 v7 w' => ∃ (x5_1 : List Int) (x6_1 : Int) (x7_1 : Int), v6 = .int .i64 x6_1 ∧ v7 = .int .i64 x7_1 ∧ Aside0 (figureheadref01_Plus.l0 kq a0 a1 x5_1 x6_1 x7_1 = some r) ∧ Aside0 (kq ≤ k) ∧ Aside0 (Kd.R (Kd.int .u8) 5 w' w.heap.size (fun _ => True) v5 x5_1) ∧ Aside0 (Below w.heap.size w w'))
  case atStart => exact ⟨(([] : List Int)), (0), (0), SR, SR, H', ⟨Nat.le_refl _⟩, ⟨by first | exact Kd.R_nil _ _ _ _ _ | exact Kd.N_nil _ _ _ _ _ | exact Kd.V_nil _ _ _ _ _ | exact Kd.Q_nil _ _ _ _ _ | exact Kd.S_nil _ _ _ _ _⟩, ⟨BL HB⟩⟩
  case round =>
    clear H'
    obtain ⟨x5_1, x6_1, x7_1, rfl, rfl, HA, HK1, HO_5, HB⟩ := hrel
    obtain _ | k1 := gk
    · exact absurd HA.out (by simp [figureheadref01_Plus.l0])
    have H := HA.out
    clear HA
    simp only [figureheadref01_Plus.l0] at H
    have HC3 := Aside0.mk H
    clear H
    go_upto_region 4 with (fail)
    go_cut [22] (fun v22 wc => ∃ (kq : Nat) (x22_2 : Bool), v22 = .bool x22_2 ∧ Aside0 (figureheadref01_Plus.j1 kq a0 a1 x5_1 x6_1 x7_1 x22_2 = some r) ∧ Aside0 (kq ≤ k1) ∧ Aside0 (Kd.R (Kd.int .u8) 5 wc w.heap.size (fun _ => True) u5 x5_1) ∧ Aside0 (Below w.heap.size w wc))
    case first =>
      have H := HC3.out
      clear HC3
      by_cases c4 : x7_1 < (a0.size : Int)
      · rw [if_pos c4] at H
        have c4b0 : decide (x7_1 < (a0.size : Int)) = true := decide_eq_true c4
        clear c4
        (first | rw [c4b0] | (simp only [i64_w, i32_w]; rw [c4b0]) | skip)
        have H' := Aside0.mk H
        clear H
        go_wp2
        go_meet
        case rel => exact ⟨_, (true), SR, H', ⟨by have := HK1.out; first | omega | exact Nat.le_refl _⟩, ⟨RB HO_5.out⟩, ⟨BL HB⟩⟩
      rw [if_neg c4] at H
      have c4b0 : decide (x7_1 < (a0.size : Int)) = false := decide_eq_false c4
      clear c4
      (first | rw [c4b0] | (simp only [i64_w, i32_w]; rw [c4b0]) | skip)
      by_cases c5 : x7_1 < (a1.size : Int)
      · rw [if_pos c5] at H
        have c5b0 : decide (x7_1 < (a1.size : Int)) = true := decide_eq_true c5
        clear c5
        have H' := Aside0.mk H
        clear H
        go_wp2
        go_meet
        case rel => exact ⟨_, (true), SR, H', ⟨by have := HK1.out; first | omega | exact Nat.le_refl _⟩, ⟨RB HO_5.out⟩, ⟨BL HB⟩⟩
      rw [if_neg c5] at H
      have c5b0 : decide (x7_1 < (a1.size : Int)) = false := decide_eq_false c5
      clear c5
      have H' := Aside0.mk H
      clear H
      go_wp2
      go_meet
      case rel => exact ⟨_, (decide (x6_1 > 0)), SR, H', ⟨by have := HK1.out; first | omega | exact Nat.le_refl _⟩, ⟨RB HO_5.out⟩, ⟨BL HB⟩⟩
    clear HC3
    obtain ⟨kq, x22_2, rfl, HA, HJ2, HO_5, HB⟩ := hcut
    obtain _ | kj2 := kq
    · exact absurd HA.out (by simp [figureheadref01_Plus.j1])
    have H := HA.out
    clear HA
    simp only [figureheadref01_Plus.j1] at H
    by_cases c6 : x22_2 = true
    · subst c6
      rw [if_pos rfl] at H
      obtain ⟨t404, A70, H⟩ := Option.bind_eq_some_iff.mp H
      (try dsimp -simprocs only at H)
      have A7 := Aside0.mk A70
      clear A70
      obtain ⟨t405, A80, H⟩ := Option.bind_eq_some_iff.mp H
      (try dsimp -simprocs only at H)
      have A8 := Aside0.mk A80
      clear A80
      by_cases c9 : x5_1.length < 140737488355328
      · rw [if_pos c9] at H
        have LMc9 := Aside0.mk c9
        clear c9
        obtain ⟨y406, hy406⟩ : ∃ y_ : List Int, y_ = (x5_1 ++ [(wrap64 (48 + (Int.tmod (wrap64 ((wrap64 (t404 + t405)) + x6_1)) 10))) % 256]) := ⟨_, rfl⟩
        replace H : (figureheadref01_Plus.l0 kj2 a0 a1 y406 (wrap64 (Int.tdiv (wrap64 ((wrap64 (t404 + t405)) + x6_1)) 10)) (wrap64 (x7_1 + 1))) = some r := by first | (rw [hy406]; with_reducible exact H) | (have H2_ := (Option.bind_some _ _).symm.trans H; rw [hy406]; with_reducible exact H2_) | (have H2_ := (Option.bind_some _ _).symm.trans H; with_reducible exact H2_) | with_reducible exact H | (rw [hy406]; exact H) | exact H
        have Ny406 := Aside0.mk hy406
        clear hy406
        have H' := Aside0.mk H
        clear H
        go_wp2_with (first | ((with_reducible refine gate_callee (f := 76) rfl ?_); refine goesL_ (some 27) rfl rfl Tryd.func76 (by kernel_rfl) rfl #[.string a0, .int .i64 x7_1] rfl MP ?_; (with_reducible refine (figureheadref01_digit.calls a0 x7_1 t404 _ A7.out).mono ?_); rintro e w' ⟨rfl, ⟨nd, rfl⟩⟩; refine ⟨_, rfl, ?_⟩) | ((with_reducible refine gate_callee (f := 76) rfl ?_); refine goesL_ (some 30) rfl rfl Tryd.func76 (by kernel_rfl) rfl #[.string a1, .int .i64 x7_1] rfl MP ?_; (with_reducible refine (figureheadref01_digit.calls a1 x7_1 t405 _ A8.out).mono ?_); rintro e w' ⟨rfl, ⟨nd, rfl⟩⟩; refine ⟨_, rfl, ?_⟩) | ((with_reducible refine gate_builtin (b := .append) (xs := #[.tmp 34, .tmp 39]) rfl ?_); (try (refine gate_guard (by rfl) ?_; dsimp only)); at_builtin; refine Kd.R_append (Kd.int .u8) (w0 := w) w.heap.size rfl (.tmp 34) (.tmp 39) 74 5 (.int .u8 0) 1 rfl Tryd.underlying74 info5 rfl (by decide) (by omega) u5 x5_1 ((wrap64 (48 + (Int.tmod (wrap64 ((wrap64 (t404 + t405)) + x6_1)) 10))) % 256) [.int .u8 ((wrap64 (48 + (Int.tmod (wrap64 ((wrap64 (t404 + t405)) + x6_1)) 10))) % 256)] (fun _ => True) (fun _ => False) rfl rfl ?aP (fun _ hk => hk.elim) ?aF ?aO ?aB ?aS ?aL ?_; (case aP => exact rfl); (case aB => exact (BL HB)); (case aF => exact (fun _ _ => trivial)); (case aO => exact (RB HO_5.out)); (case aS => exact (below_size (BL HB))); (case aL => have := LMc9.out; omega); intro v407 w10 ho hb hg hat; rw [← Ny406.out] at ho; replace HB := Aside0.mk (hb); have HO408 := Aside0.mk (ho); clear HO_5; clear ho hb hg hat))
        go_roundg kj2
        case measure => have := HK1.out; have := HJ2.out; omega
        case rel => exact ⟨(y406), (wrap64 (Int.tdiv (wrap64 ((wrap64 (t404 + t405)) + x6_1)) 10)), (wrap64 (x7_1 + 1)), SR, SR, H', ⟨by have := HK1.out; have := HJ2.out; omega⟩, ⟨RB HO408.out⟩, ⟨BL HB⟩⟩
      rw [if_neg c9] at H
      exact absurd H (by simp)
    replace c6 := Bool.eq_false_iff.mpr c6
    subst c6
    rw [if_neg (show ¬ (false = true) by decide)] at H
    obtain ⟨t409, A110, H⟩ := Option.bind_eq_some_iff.mp H
    (try dsimp -simprocs only at H)
    have A11 := Aside0.mk A110
    clear A110
    obtain ⟨t410, A120, H⟩ := Option.bind_eq_some_iff.mp H
    (try dsimp -simprocs only at H)
    have A12 := Aside0.mk A120
    clear A120
    obtain rfl := Option.some.inj H
    obtain ⟨Ao13, co13, eo13⟩ := Kd.R_slice HO_5.out
    subst eo13
    go_wp2_with (first | ((with_reducible refine gate_callee (f := 77) rfl ?_); refine goesL_ (some 44) rfl rfl Tryd.func77 (by kernel_rfl) rfl #[.slice Ao13 x5_1.length co13] rfl MP ?_; (with_reducible refine (figureheadref01_turned.calls kj2 _ _ x5_1 t409 _ ?side1 ?side2 A11.out).mono ?_); (case side1 => exact CB ((Kd.R_reads' HO_5.out).2.2)); (case side2 => exact (Kd.R_reads' HO_5.out).2.1); rintro e w14 ⟨rfl, hb⟩; refine ⟨_, rfl, ?_⟩; replace HO_5 := Aside0.mk (Kd.R_below (RB HO_5.out) hb); replace HB := hbs_ HB hb; (try clear hb); (try clear hb2); (try clear hk); (try clear hi)) | ((with_reducible refine gate_callee (f := 46) rfl ?_); refine goesL_ (some 45) rfl rfl Tryd.func46 (by kernel_rfl) rfl #[.string t409] rfl MP ?_; (with_reducible refine (figureheadref01_Strip.calls kj2 t409 t410 _ A12.out).mono ?_); rintro e w' ⟨rfl, ⟨nd, rfl⟩⟩; refine ⟨_, rfl, ?_⟩))
    go_ret
    exact ⟨ER, BL HB⟩
end Go.Proofs.YtbjaiphfehnncaaDoor.Px
end
section
namespace Go.Proofs.YtbjaiphfehnncaaDoor.Px
open Fig Go.RowKit Go.Proofs.YtbjaiphfehnncaaDoorW.PrintWords Go.Proofs.YtbjaiphfehnncaaDoorW.PrintLast Go.Proofs.YtbjaiphfehnncaaDoorW.PrintMore
attribute [local go_sem] max2_int min2_int max_two min_two max_three min_three max_four min_four   -- for this text's walks alone
attribute [local go_sem] fieldA23_0 fieldA23_1 fieldA23_2
end Go.Proofs.YtbjaiphfehnncaaDoor.Px
end
section
namespace Go.Proofs.YtbjaiphfehnncaaDoor.Px
open Fig Go.RowKit Go.Proofs.YtbjaiphfehnncaaDoorW.PrintWords Go.Proofs.YtbjaiphfehnncaaDoorW.PrintLast Go.Proofs.YtbjaiphfehnncaaDoorW.PrintMore
attribute [local go_sem] max2_int min2_int max_two min_two max_three min_three max_four min_four   -- for this text's walks alone
attribute [local go_sem] fieldA23_0 fieldA23_1 fieldA23_2
mutual
def figureheadref01_Times.l0 : Nat → ByteArray → ByteArray → List Int → Int → Option (ByteArray)
  | 0, _, _, _, _ => none
  | k + 1, x0, x1, x5, x6 => if x6 < (x0.size : Int) then (figureheadref01_Times.l1 k x0 x1 x5 x6 0) else (figureheadref01_Times.l2 k x5 ([] : List Int) 0 0)
def figureheadref01_Times.l1 : Nat → ByteArray → ByteArray → List Int → Int → Int → Option (ByteArray)
  | 0, _, _, _, _, _ => none
  | k + 1, x0, x1, x5, x6, x7 => if x7 < (x1.size : Int) then (if 0 ≤ (wrap64 (x6 + x7)) then (if (wrap64 (x6 + x7)) < (x5.length : Int) then ((figureheadref01_digit.f x0 x6).bind fun t477 => ((figureheadref01_digit.f x1 x7).bind fun t478 => (figureheadref01_Times.l1 k x0 x1 (x5.set ((wrap64 (x6 + x7)) : Int).toNat (wrap64 ((rd x5 (wrap64 (x6 + x7))) + (wrap64 (t477 * t478))))) x6 (wrap64 (x7 + 1))))) else (none)) else (none)) else (figureheadref01_Times.l0 k x0 x1 x5 (wrap64 (x6 + 1)))
def figureheadref01_Times.l2 : Nat → List Int → List Int → Int → Int → Option (ByteArray)
  | 0, _, _, _, _ => none
  | k + 1, x5, x8, x9, x10 => if x10 < (x5.length : Int) then (if 0 ≤ x10 then (if x8.length < 140737488355328 then (figureheadref01_Times.l2 k x5 (x8 ++ [(wrap64 (48 + (Int.tmod (wrap64 ((rd x5 x10) + x9)) 10))) % 256]) (wrap64 (Int.tdiv (wrap64 ((rd x5 x10) + x9)) 10)) (wrap64 (x10 + 1))) else (none)) else (none)) else ((figureheadref01_turned.f k x8).bind fun t484 => ((figureheadref01_Strip.f k t484).bind fun t485 => (some t485)))
end
def figureheadref01_Times.f (k : Nat) (a0 : ByteArray) (a1 : ByteArray) : Option (ByteArray) := if 0 ≤ (wrap64 ((wrap64 ((a0.size : Int) + (a1.size : Int))) + 1)) then (if (wrap64 ((wrap64 ((a0.size : Int) + (a1.size : Int))) + 1) : Int).toNat ≤ 35184372088832 then (figureheadref01_Times.l0 k a0 a1 (List.replicate (wrap64 ((wrap64 ((a0.size : Int) + (a1.size : Int))) + 1) : Int).toNat 0) 0) else (none)) else (none)
theorem figureheadref01_Times.mono_l : ∀ k, (∀ y0 y1 y2 y3, LeO (figureheadref01_Times.l0 k y0 y1 y2 y3) (figureheadref01_Times.l0 (k + 1) y0 y1 y2 y3)) ∧ (∀ y0 y1 y2 y3 y4, LeO (figureheadref01_Times.l1 k y0 y1 y2 y3 y4) (figureheadref01_Times.l1 (k + 1) y0 y1 y2 y3 y4)) ∧ (∀ y0 y1 y2 y3, LeO (figureheadref01_Times.l2 k y0 y1 y2 y3) (figureheadref01_Times.l2 (k + 1) y0 y1 y2 y3))
  | 0 => ⟨fun _ _ _ _ r h => by simp [figureheadref01_Times.l0] at h, fun _ _ _ _ _ r h => by simp [figureheadref01_Times.l1] at h, fun _ _ _ _ r h => by simp [figureheadref01_Times.l2] at h⟩
  | k + 1 => by
    obtain ⟨ih0, ih1, ih2⟩ := figureheadref01_Times.mono_l k
    refine ⟨?_, ?_, ?_⟩
    · intro y0 y1 y2 y3
      unfold figureheadref01_Times.l0
      repeat' first
      | (with_reducible exact ih0 _ _ _ _)
      | (with_reducible exact ih1 _ _ _ _ _)
      | (with_reducible exact ih2 _ _ _ _)
      | (with_reducible exact figureheadref01_Strip.mono _ _)
      | (with_reducible exact figureheadref01_turned.mono _ _)
      | (with_reducible exact LeO.refl _)
      | (with_reducible exact LeO.none _)
      | (with_reducible refine LeO.ite ?_ ?_)
      | (with_reducible refine LeO.bind ?_ (fun _ => ?_))
      | exact ih0 _ _ _ _
      | exact ih1 _ _ _ _ _
      | exact ih2 _ _ _ _
      | exact figureheadref01_Strip.mono _ _
      | exact figureheadref01_turned.mono _ _
      | exact LeO.none _
      | refine LeO.ite ?_ ?_
      | refine LeO.bind ?_ (fun _ => ?_)
    · intro y0 y1 y2 y3 y4
      unfold figureheadref01_Times.l1
      repeat' first
      | (with_reducible exact ih0 _ _ _ _)
      | (with_reducible exact ih1 _ _ _ _ _)
      | (with_reducible exact ih2 _ _ _ _)
      | (with_reducible exact figureheadref01_Strip.mono _ _)
      | (with_reducible exact figureheadref01_turned.mono _ _)
      | (with_reducible exact LeO.refl _)
      | (with_reducible exact LeO.none _)
      | (with_reducible refine LeO.ite ?_ ?_)
      | (with_reducible refine LeO.bind ?_ (fun _ => ?_))
      | exact ih0 _ _ _ _
      | exact ih1 _ _ _ _ _
      | exact ih2 _ _ _ _
      | exact figureheadref01_Strip.mono _ _
      | exact figureheadref01_turned.mono _ _
      | exact LeO.none _
      | refine LeO.ite ?_ ?_
      | refine LeO.bind ?_ (fun _ => ?_)
    · intro y0 y1 y2 y3
      unfold figureheadref01_Times.l2
      repeat' first
      | (with_reducible exact ih0 _ _ _ _)
      | (with_reducible exact ih1 _ _ _ _ _)
      | (with_reducible exact ih2 _ _ _ _)
      | (with_reducible exact figureheadref01_Strip.mono _ _)
      | (with_reducible exact figureheadref01_turned.mono _ _)
      | (with_reducible exact LeO.refl _)
      | (with_reducible exact LeO.none _)
      | (with_reducible refine LeO.ite ?_ ?_)
      | (with_reducible refine LeO.bind ?_ (fun _ => ?_))
      | exact ih0 _ _ _ _
      | exact ih1 _ _ _ _ _
      | exact ih2 _ _ _ _
      | exact figureheadref01_Strip.mono _ _
      | exact figureheadref01_turned.mono _ _
      | exact LeO.none _
      | refine LeO.ite ?_ ?_
      | refine LeO.bind ?_ (fun _ => ?_)
theorem figureheadref01_Times.mono : ∀ a0 a1 k, LeO (figureheadref01_Times.f k a0 a1) (figureheadref01_Times.f (k + 1) a0 a1) := by
  intro a0 a1 k
  obtain ⟨ih0, ih1, ih2⟩ := figureheadref01_Times.mono_l k
  unfold figureheadref01_Times.f
  repeat' first
      | (with_reducible exact ih0 _ _ _ _)
      | (with_reducible exact ih1 _ _ _ _ _)
      | (with_reducible exact ih2 _ _ _ _)
      | (with_reducible exact figureheadref01_Strip.mono _ _)
      | (with_reducible exact figureheadref01_turned.mono _ _)
      | (with_reducible exact LeO.refl _)
      | (with_reducible exact LeO.none _)
      | (with_reducible refine LeO.ite ?_ ?_)
      | (with_reducible refine LeO.bind ?_ (fun _ => ?_))
      | exact ih0 _ _ _ _
      | exact ih1 _ _ _ _ _
      | exact ih2 _ _ _ _
      | exact figureheadref01_Strip.mono _ _
      | exact figureheadref01_turned.mono _ _
      | exact LeO.none _
      | refine LeO.ite ?_ ?_
      | refine LeO.bind ?_ (fun _ => ?_)
def figureheadref01_Times.T8 : Bool × List (List Nat × List Nat) := (true, [([], []), ([], []), ([], []), ([1, 2], [1, 2]), ([], []), ([], []), ([], []), ([5, 6], [5, 6]), ([4, 7], [4, 7]), ([8], [8]), ([], []), ([], []), ([10, 11], [10, 11]), ([], []), ([], []), ([13, 14, 12], [13, 14]), ([12, 15], [12, 15]), ([9, 16], [9, 16]), ([0, 3, 0, 1, 2, 3, 4, 5, 6, 7, 8, 9, 10, 11, 12, 13, 14, 15, 16, 17], [0, 3]), ([18, 17, 15, 0, 1, 2, 3, 4, 5, 6, 7, 8, 9, 10, 11, 12, 13, 14, 15, 16, 17], [17, 18])])
def figureheadref01_Times.B8 : List Nat := [0, 0, 0, 6, 0, 0, 0, 96, 240, 496, 0, 0, 3072, 0, 0, 31744, 64512, 131056, 262143, 524287]
theorem figureheadref01_Times.tab8 : rtab .any (opsOf Tryd.f61 8) = figureheadref01_Times.T8 := by kernel_rfl
theorem figureheadref01_Times.bits8 : waitsOk figureheadref01_Times.T8.2 figureheadref01_Times.B8 = true := by kernel_rfl
set_option maxHeartbeats 8000000 in
set_option maxRecDepth 100000 in
theorem figureheadref01_Times.calls (k : Nat) (a0 : ByteArray) (a1 : ByteArray) (r : ByteArray) (w : World) (h : figureheadref01_Times.f k a0 a1 = some r) :
    Calls Tryd.prog 61 #[.string a0, .string a1] w fun e w' => e = .returned (.string r) ∧ Below w.heap.size w w' := by
  have HB := Aside0.mk (Below.refl w.heap.size w)
  have H : (if 0 ≤ (wrap64 ((wrap64 ((a0.size : Int) + (a1.size : Int))) + 1)) then (if (wrap64 ((wrap64 ((a0.size : Int) + (a1.size : Int))) + 1) : Int).toNat ≤ 35184372088832 then (figureheadref01_Times.l0 k a0 a1 (List.replicate (wrap64 ((wrap64 ((a0.size : Int) + (a1.size : Int))) + 1) : Int).toNat 0) 0) else (none)) else (none)) = some r := h
  clear h
  obtain ⟨ji3, hji3⟩ : ∃ j_ : Int, (wrap64 ((wrap64 ((a0.size : Int) + (a1.size : Int))) + 1)) = j_ := ⟨_, rfl⟩
  replace H : (if 0 ≤ (ji3) then (if (ji3 : Int).toNat ≤ 35184372088832 then (figureheadref01_Times.l0 k a0 a1 (List.replicate (ji3 : Int).toNat 0) 0) else (none)) else (none)) = some r := by first | (rw [hji3] at H; exact H) | (simp only [hji3] at H ⊢; exact H)
  have hji3w : (IntKind.i64.wrap ((wrap64 ((a0.size : Int) + (a1.size : Int))) + 1)) = ji3 := (i64_w _).trans hji3
  by_cases c4 : 0 ≤ (ji3)
  · rw [if_pos c4] at H
    have c4b0 := eq_true c4
    have c4b1 : decide (0 ≤ (ji3)) = true := decide_eq_true c4
    clear c4
    by_cases c5 : (ji3 : Int).toNat ≤ 35184372088832
    · rw [if_pos c5] at H
      have c5b0 := eq_true c5
      have c5b1 : decide ((ji3 : Int).toNat ≤ 35184372088832) = true := decide_eq_true c5
      clear c5
      obtain ⟨y473, hy473⟩ : ∃ y_ : List Int, y_ = (List.replicate (ji3 : Int).toNat 0) := ⟨_, rfl⟩
      replace H : (figureheadref01_Times.l0 k a0 a1 y473 0) = some r := by first | (rw [hy473]; with_reducible exact H) | (have H2_ := (Option.bind_some _ _).symm.trans H; rw [hy473]; with_reducible exact H2_) | (have H2_ := (Option.bind_some _ _).symm.trans H; with_reducible exact H2_) | with_reducible exact H | (rw [hy473]; exact H) | exact H
      have Ny473 := Aside0.mk hy473
      clear hy473
      have H' := Aside0.mk H
      clear H
      go_enter Tryd.func61, Tryd.ntmps61
      go_wp2_with (first | ((with_reducible refine gate_dst (N := 18) rfl ?_); refine Kd.R_make (Kd.int .i64) _ 3 rfl (N := 18) rfl 78 _ _ rfl ji3 rfl rfl Tryd.underlying78 (.int .i64 0) 8 info3 rfl (by decide) (by omega) 0 (ok := fun _ => True) (okp := fun _ => True) rfl (fun _ hk => hk) trivial (of_decide_eq_true (by first | (with_reducible assumption) | assumption)) (Nat.le_trans (Nat.mul_le_mul_right _ (of_decide_eq_true (by first | (with_reducible assumption) | assumption) : ji3.toNat ≤ 35184372088832)) (by omega)) (Below.refl _ _) (Nat.le_refl _) ?_; intro v474 w6 ho7 hb hg_ hnew_; clear hg_ hnew_; (first | rw [← Ny473.out] at ho7 | (simp only [Int.reduceToNat] at ho7; rw [← Ny473.out] at ho7)); have HO475 := Aside0.mk (Kd.R_lower ho7 (below_size (BL HB))); replace HB := hbs_ HB hb; clear hb ho7))
      go_loopg [6] k (fun kq v6 w' => ∃ (x5_1 : List Int) (x6_1 : Int), v6 = .int .i64 x6_1 ∧ Aside0 (figureheadref01_Times.l0 kq a0 a1 x5_1 x6_1 = some r) ∧ Aside0 (kq ≤ k) ∧ Aside0 (Kd.R (Kd.int .i64) 3 w' w.heap.size (fun _ => True) v474 x5_1) ∧ Aside0 (Below w.heap.size w w'))
      case atStart => exact ⟨(y473), (0), SR, H', ⟨Nat.le_refl _⟩, ⟨RB HO475.out⟩, ⟨BL HB⟩⟩
      case round =>
        clear H'
        try clear c4
        try clear c4b0
        try clear c4b1
        try clear c5
        try clear c5b0
        try clear c5b1
        obtain ⟨x5_1, x6_1, rfl, HA, HK1, HO_5, HB⟩ := hrel
        obtain _ | k1 := gk
        · exact absurd HA.out (by simp [figureheadref01_Times.l0])
        have H := HA.out
        clear HA
        simp only [figureheadref01_Times.l0] at H
        by_cases c8 : x6_1 < (a0.size : Int)
        · rw [if_pos c8] at H
          have c8b0 : decide (x6_1 < (a0.size : Int)) = true := decide_eq_true c8
          clear c8
          have H' := Aside0.mk H
          clear H
          go_wp2
          go_loopg [7] k1 (fun kq v7 w' => ∃ (x5_2 : List Int) (x7_2 : Int), v7 = .int .i64 x7_2 ∧ Aside0 (figureheadref01_Times.l1 kq a0 a1 x5_2 x6_1 x7_2 = some r) ∧ Aside0 (kq ≤ k1) ∧ Aside0 (Kd.R (Kd.int .i64) 3 w' w.heap.size (fun _ => True) v474 x5_2) ∧ Aside0 (Below w.heap.size w w'))
          case atStart => exact ⟨(x5_1), (0), SR, H', ⟨Nat.le_refl _⟩, ⟨RB HO_5.out⟩, ⟨BL HB⟩⟩
          case round =>
            clear H'
            try clear c8
            try clear c8b0
            obtain ⟨x5_2, x7_2, rfl, HA, HK2, HO_5, HB⟩ := hrel
            obtain _ | k2 := gk
            · exact absurd HA.out (by simp [figureheadref01_Times.l1])
            have H := HA.out
            clear HA
            simp only [figureheadref01_Times.l1] at H
            by_cases c9 : x7_2 < (a1.size : Int)
            · rw [if_pos c9] at H
              have c9b0 : decide (x7_2 < (a1.size : Int)) = true := decide_eq_true c9
              clear c9
              obtain ⟨ji10, hji10⟩ : ∃ j_ : Int, (wrap64 (x6_1 + x7_2)) = j_ := ⟨_, rfl⟩
              replace H : (if 0 ≤ (ji10) then (if (ji10) < (x5_2.length : Int) then ((figureheadref01_digit.f a0 x6_1).bind fun t477 => ((figureheadref01_digit.f a1 x7_2).bind fun t478 => (figureheadref01_Times.l1 k2 a0 a1 (x5_2.set ((ji10) : Int).toNat (wrap64 ((rd x5_2 (ji10)) + (wrap64 (t477 * t478))))) x6_1 (wrap64 (x7_2 + 1))))) else (none)) else (none)) = some r := by first | (rw [hji10] at H; exact H) | (simp only [hji10] at H ⊢; exact H)
              have hji10w : (IntKind.i64.wrap (x6_1 + x7_2)) = ji10 := (i64_w _).trans hji10
              by_cases c11 : 0 ≤ (ji10)
              · rw [if_pos c11] at H
                have c11b0 : decide (0 ≤ (ji10)) = true := decide_eq_true c11
                clear c11
                by_cases c12 : (ji10) < (x5_2.length : Int)
                · rw [if_pos c12] at H
                  have c12b0 : decide ((ji10) < (x5_2.length : Int)) = true := decide_eq_true c12
                  clear c12
                  obtain ⟨t477, A130, H⟩ := Option.bind_eq_some_iff.mp H
                  (try dsimp -simprocs only at H)
                  have A13 := Aside0.mk A130
                  clear A130
                  obtain ⟨t478, A140, H⟩ := Option.bind_eq_some_iff.mp H
                  (try dsimp -simprocs only at H)
                  have A14 := Aside0.mk A140
                  clear A140
                  obtain ⟨y479, hy479⟩ : ∃ y_ : List Int, y_ = (x5_2.set ((ji10) : Int).toNat (wrap64 ((rd x5_2 (ji10)) + (wrap64 (t477 * t478))))) := ⟨_, rfl⟩
                  replace H : (figureheadref01_Times.l1 k2 a0 a1 y479 x6_1 (wrap64 (x7_2 + 1))) = some r := by first | (rw [hy479]; with_reducible exact H) | (have H2_ := (Option.bind_some _ _).symm.trans H; rw [hy479]; with_reducible exact H2_) | (have H2_ := (Option.bind_some _ _).symm.trans H; with_reducible exact H2_) | with_reducible exact H | (rw [hy479]; exact H) | exact H
                  have Ny479 := Aside0.mk hy479
                  clear hy479
                  have H' := Aside0.mk H
                  clear H
                  try go_wp2
                  (try (rw [drewN_self wr]; generalize hq_ : World.drewN wr _ = wr; replace HO_5 := rbq_ HO_5 hq_; replace HB := hbq_ HB hq_; clear hq_))
                  replace HO_5 := Aside0.mk (Kd.R_drew HO_5.out)
                  replace HB := Aside0.mk (below_drew1 HB.out)
                  obtain ⟨Ao17, co17, eo17⟩ := Kd.R_slice HO_5.out
                  (first | subst eo17 | (injection eo17 with f1_ f2_ f3_; have f4_ := f1_.symm; have f5_ := f3_.symm; clear f1_ f2_ f3_; subst f4_; subst f5_))
                  have p476 : 0 ≤ ((ji10) : Int) := of_decide_eq_true (by first | (with_reducible assumption) | assumption)
                  have q476 : (ji10) < (x5_2.length : Int) := of_decide_eq_true (by first | (with_reducible assumption) | assumption)
                  obtain ⟨ad476, e476, hx476_0⟩ := Kd.at_int (Kd.R_reads' HO_5.out).2.2 (ji10) p476 q476
                  cases e476
                  replace p476 := eq_true p476
                  replace q476 := eq_true q476
                  refine start_ (n := 20) (S := fun w' => w'.cell? (ad476.add ((ji10)).toNat) = some (.int .i64 (rd x5_2 (ji10)))) (ds := [19]) #[false, false, false, false, false, false, false, false, false, false, false, false, false, false, false, false, false, false, false, false] (by kernel_rfl) rfl rfl (hx476_0) (fun hHeld => ?_); refine with_tabW figureheadref01_Times.tab8 figureheadref01_Times.bits8 (fun HT_ HW_ => ?_)
                  generalize wr.drew = w16 at HO_5 HB hx476_0 hHeld ⊢
                  refine pu_ 0 (some 31) (bb 20 1) (any_of HT_.out (by kernel_rfl)) ?_
                  refine pu_ 1 (some 32) (bb 20 3) (any_of HT_.out (by kernel_rfl)) ?_
                  refine pu_ 2 (some 33) (bb 20 7) (any_of HT_.out (by kernel_rfl)) ?_
                  refine pu_ 3 (some 34) (bb 20 15) (any_of HT_.out (by kernel_rfl)) ?_
                  refine pu_ 4 (some 35) (bb 20 31) (any_of HT_.out (by kernel_rfl)) ?_
                  refine pu_ 5 (some 36) (bb 20 63) (any_of HT_.out (by kernel_rfl)) ?_
                  refine pu_ 6 (some 37) (bb 20 127) (any_of HT_.out (by kernel_rfl)) ?_
                  refine pu_ 7 (some 38) (bb 20 255) (any_of HT_.out (by kernel_rfl)) ?_
                  refine pu_ 8 (some 39) (bb 20 511) (any_of HT_.out (by kernel_rfl)) ?_
                  refine pu_ 10 (some 41) (bb 20 1535) (any_of HT_.out (by kernel_rfl)) ?_
                  refine pu_ 11 (some 42) (bb 20 3583) (any_of HT_.out (by kernel_rfl)) ?_
                  refine pu_ 13 (some 44) (bb 20 11775) (any_of HT_.out (by kernel_rfl)) ?_
                  refine pu_ 14 (some 45) (bb 20 28159) (any_of HT_.out (by kernel_rfl)) ?_
                  refine take_ (i := 9) (N := some 40) (v := ?_) (a' := ?_) (bb 20 28671) rfl rfl (take_ofW HT_.out HW_.out (by kernel_rfl)) (fun _ _ _ h => h) (Or.inl ⟨by rfl, ?_⟩) hHeld ?_ ?_
                  rotate_left
                  · intro w' s0
                    go_simp
                    with_reducible rfl
                  rotate_left
                  · simp only [Act.put, List.setIfInBounds_toArray, List.set_cons_zero, List.set_cons_succ]; (try simp only [i64_w]); (try simp only [i32_w])
                    rfl
                  refine one_ (i := 12) (N := some 43) (bb 20 32767) rfl rfl (one_of HT_.out (by kernel_rfl)) (by decide) (fun K hK => ?_)
                  refine goes_ Tryd.func76 (by kernel_rfl) rfl #[.string a0, .int .i64 x6_1] (by rfl) rfl rfl MP ?_
                  with_reducible refine (figureheadref01_digit.calls a0 x6_1 t477 _ A13.out).mono ?_
                  rintro e w' ⟨rfl, ⟨nd, rfl⟩⟩
                  refine ⟨_, rfl, ?_⟩
                  refine hK.out _ _ (hHeld) (fun hHeld => ?_)
                  clear hK K
                  refine no_ (some 43) ?_
                  refine one_ (i := 15) (N := some 46) (bb 20 65535) rfl rfl (one_of HT_.out (by kernel_rfl)) (by decide) (fun K hK => ?_)
                  refine goes_ Tryd.func76 (by kernel_rfl) rfl #[.string a1, .int .i64 x7_2] (by rfl) rfl rfl MP ?_
                  with_reducible refine (figureheadref01_digit.calls a1 x7_2 t478 _ A14.out).mono ?_
                  rintro e w' ⟨rfl, ⟨nd, rfl⟩⟩
                  refine ⟨_, rfl, ?_⟩
                  have p15 : 0 ≤ ((ji10) : Int) := of_decide_eq_true (by first | (with_reducible assumption) | assumption)
                  have q15 : ((ji10) : Int) < ((x5_2.length : Int) : Int) := of_decide_eq_true (by first | (with_reducible assumption) | assumption)
                  obtain ⟨go15, co15, eo15, gb15, gl15, cl15, HG15⟩ := Kd.R_form HO_5.out (by omega)
                  (first | cases eo15 | (injection eo15 with ea_ en_ ec_; (first | subst ea_ | (injection ea_ with ea_; subst ea_)); subst ec_; clear en_))
                  have GB15 := Aside0.mk gb15
                  have GG15 := Aside0.mk HG15
                  clear gb15 gl15 HG15
                  (first | simp only [add_plain] at hx476_0 | skip)
                  obtain ⟨hx15_0, hf15_0⟩ := Kd.R_celln 0 HO_5.out ((ji10) : Int) p15 q15
                  replace p15 := eq_true p15
                  replace q15 := eq_true q15
                  have HP18 := Kd.R_putn HO_5.out ((ji10) : Int) (wrap64 ((rd x5_2 (ji10)) + (wrap64 (t477 * t478))))
                  rw [← Ny479.out] at HP18
                  have HQ18 := Aside0.mk HP18
                  clear HP18
                  refine hK.out _ _ (hHeld) (fun hHeld => ?_)
                  clear hK K
                  refine no_ (some 46) ?_
                  refine pu_ 16 (some 47) (bb 20 131071) (any_of HT_.out (by kernel_rfl)) ?_
                  refine pu_ 17 (some 48) (bb 20 262143) (any_of HT_.out (by kernel_rfl)) ?_
                  refine pu_ 18 (some 49) (bb 20 524287) (any_of HT_.out (by kernel_rfl)) ?_
                  refine last_ (i := 19) (N := none) (bb 20 1048575) rfl rfl (one_of HT_.out (by kernel_rfl)) (by decide) (fun K hK => ?_)
                  refine skip_ (w1 := ?_) (by rfl) rfl ?_ ?_
                  rotate_left
                  · go_simp
                    rfl
                  refine hK.out _ _ ?_
                  clear hK K
                  refine done_ (done_of HT_.out (by kernel_rfl)) ?_
                  try go_wp2
                  go_roundg k2
                  case measure => have := HK1.out; have := HK2.out; omega
                  case rel => exact ⟨(y479), (wrap64 (x7_2 + 1)), SR, H', ⟨by have := HK1.out; have := HK2.out; omega⟩, ⟨RB HQ18.out⟩, ⟨by repeat (first | (with_reducible first | exact HB.out | apply below_alloc | apply pw_below_drewN | apply below_drew1 | refine below_set ?_ GB15.out) | exact HB.out)⟩⟩
                rw [if_neg c12] at H
                exact absurd H (by simp)
              rw [if_neg c11] at H
              exact absurd H (by simp)
            rw [if_neg c9] at H
            have c9b0 : decide (x7_2 < (a1.size : Int)) = false := decide_eq_false c9
            clear c9
            have H' := Aside0.mk H
            clear H
            go_wp2
            go_roundg k2
            case measure => have := HK1.out; have := HK2.out; omega
            case rel => exact ⟨(x5_2), (wrap64 (x6_1 + 1)), SR, H', ⟨by have := HK1.out; have := HK2.out; omega⟩, ⟨RB HO_5.out⟩, ⟨BL HB⟩⟩
        rw [if_neg c8] at H
        have c8b0 : decide (x6_1 < (a0.size : Int)) = false := decide_eq_false c8
        clear c8
        have H' := Aside0.mk H
        clear H
        go_wp2
        go_loopg [8, 9, 10] k1 (fun kq v8 v9 v10 w' => ∃ (x8_2 : List Int) (x9_2 : Int) (x10_2 : Int), v9 = .int .i64 x9_2 ∧ v10 = .int .i64 x10_2 ∧ Aside0 (figureheadref01_Times.l2 kq x5_1 x8_2 x9_2 x10_2 = some r) ∧ Aside0 (kq ≤ k1) ∧ Aside0 (Kd.R (Kd.int .i64) 3 w' w.heap.size (fun _ => True) v474 x5_1) ∧ Aside0 (Kd.R (Kd.int .u8) 5 w' w.heap.size (fun _ => True) v8 x8_2) ∧ Aside0 (Below w.heap.size w w'))
        case atStart => exact ⟨(([] : List Int)), (0), (0), SR, SR, H', ⟨Nat.le_refl _⟩, ⟨RB HO_5.out⟩, ⟨by first | exact Kd.R_nil _ _ _ _ _ | exact Kd.N_nil _ _ _ _ _ | exact Kd.V_nil _ _ _ _ _ | exact Kd.Q_nil _ _ _ _ _ | exact Kd.S_nil _ _ _ _ _⟩, ⟨BL HB⟩⟩
        case round =>
          clear H'
          try clear c8
          try clear c8b0
          obtain ⟨x8_2, x9_2, x10_2, rfl, rfl, HA, HK2, HO_5, HO_8, HB⟩ := hrel
          obtain _ | k2 := gk
          · exact absurd HA.out (by simp [figureheadref01_Times.l2])
          have H := HA.out
          clear HA
          simp only [figureheadref01_Times.l2] at H
          by_cases c19 : x10_2 < (x5_1.length : Int)
          · rw [if_pos c19] at H
            have c19b0 : decide (x10_2 < (x5_1.length : Int)) = true := decide_eq_true c19
            clear c19
            by_cases c20 : 0 ≤ x10_2
            · rw [if_pos c20] at H
              have c20b0 : decide (0 ≤ x10_2) = true := decide_eq_true c20
              clear c20
              by_cases c21 : x8_2.length < 140737488355328
              · rw [if_pos c21] at H
                have LMc21 := Aside0.mk c21
                clear c21
                obtain ⟨y481, hy481⟩ : ∃ y_ : List Int, y_ = (x8_2 ++ [(wrap64 (48 + (Int.tmod (wrap64 ((rd x5_1 x10_2) + x9_2)) 10))) % 256]) := ⟨_, rfl⟩
                replace H : (figureheadref01_Times.l2 k2 x5_1 y481 (wrap64 (Int.tdiv (wrap64 ((rd x5_1 x10_2) + x9_2)) 10)) (wrap64 (x10_2 + 1))) = some r := by first | (rw [hy481]; with_reducible exact H) | (have H2_ := (Option.bind_some _ _).symm.trans H; rw [hy481]; with_reducible exact H2_) | (have H2_ := (Option.bind_some _ _).symm.trans H; with_reducible exact H2_) | with_reducible exact H | (rw [hy481]; exact H) | exact H
                have Ny481 := Aside0.mk hy481
                clear hy481
                have H' := Aside0.mk H
                clear H
                obtain ⟨Ao22, co22, eo22⟩ := Kd.R_slice HO_5.out
                subst eo22
                have p480 : 0 ≤ (x10_2 : Int) := of_decide_eq_true (by first | (with_reducible assumption) | assumption)
                have q480 : x10_2 < (x5_1.length : Int) := of_decide_eq_true (by first | (with_reducible assumption) | assumption)
                obtain ⟨ad480, e480, hx480_0⟩ := Kd.at_int (Kd.R_reads' HO_5.out).2.2 x10_2 p480 q480
                cases e480
                replace p480 := eq_true p480
                replace q480 := eq_true q480
                go_wp2_with (first | ((with_reducible refine gate_builtin (b := .append) (xs := #[.tmp 62, .tmp 67]) rfl ?_); at_builtin; refine Kd.R_append (Kd.int .u8) (w0 := w) w.heap.size rfl (.tmp 62) (.tmp 67) 74 5 (.int .u8 0) 1 rfl Tryd.underlying74 info5 rfl (by decide) (by omega) u8 x8_2 ((wrap64 (48 + (Int.tmod (wrap64 ((rd x5_1 x10_2) + x9_2)) 10))) % 256) [.int .u8 ((wrap64 (48 + (Int.tmod (wrap64 ((rd x5_1 x10_2) + x9_2)) 10))) % 256)] (fun _ => True) (fun _ => False) rfl rfl ?aP (fun _ hk => hk.elim) ?aF ?aO ?aB ?aS ?aL ?_; (case aP => exact rfl); (case aB => exact (BL HB)); (case aF => exact (fun _ _ => trivial)); (case aO => exact (RB HO_8.out)); (case aS => exact (below_size (BL HB))); (case aL => have := LMc21.out; omega); intro v482 w23 ho hb hg hat; rw [← Ny481.out] at ho; replace HO_5 := Aside0.mk (Kd.R_over' (RB HO_5.out) (Kd.R_typed (RB HO_8.out)) (by decide) hg); replace HB := Aside0.mk (hb); have HO483 := Aside0.mk (ho); clear HO_8; clear ho hb hg hat))
                go_roundg k2
                case measure => have := HK1.out; have := HK2.out; omega
                case rel => exact ⟨(y481), (wrap64 (Int.tdiv (wrap64 ((rd x5_1 x10_2) + x9_2)) 10)), (wrap64 (x10_2 + 1)), SR, SR, H', ⟨by have := HK1.out; have := HK2.out; omega⟩, ⟨RB HO_5.out⟩, ⟨RB HO483.out⟩, ⟨BL HB⟩⟩
              rw [if_neg c21] at H
              exact absurd H (by simp)
            rw [if_neg c20] at H
            exact absurd H (by simp)
          rw [if_neg c19] at H
          have c19b0 : decide (x10_2 < (x5_1.length : Int)) = false := decide_eq_false c19
          clear c19
          obtain ⟨t484, A240, H⟩ := Option.bind_eq_some_iff.mp H
          (try dsimp -simprocs only at H)
          have A24 := Aside0.mk A240
          clear A240
          obtain ⟨t485, A250, H⟩ := Option.bind_eq_some_iff.mp H
          (try dsimp -simprocs only at H)
          have A25 := Aside0.mk A250
          clear A250
          obtain rfl := Option.some.inj H
          obtain ⟨Ao26, co26, eo26⟩ := Kd.R_slice HO_5.out
          subst eo26
          obtain ⟨Ao27, co27, eo27⟩ := Kd.R_slice HO_8.out
          subst eo27
          go_wp2_with (first | ((with_reducible refine gate_callee (f := 77) rfl ?_); refine goesL_ (some 72) rfl rfl Tryd.func77 (by kernel_rfl) rfl #[.slice Ao27 x8_2.length co27] rfl MP ?_; (with_reducible refine (figureheadref01_turned.calls k2 _ _ x8_2 t484 _ ?side1 ?side2 A24.out).mono ?_); (case side1 => exact CB ((Kd.R_reads' HO_8.out).2.2)); (case side2 => exact (Kd.R_reads' HO_8.out).2.1); rintro e w28 ⟨rfl, hb⟩; refine ⟨_, rfl, ?_⟩; replace HO_5 := Aside0.mk (Kd.R_below (RB HO_5.out) hb); replace HO_8 := Aside0.mk (Kd.R_below (RB HO_8.out) hb); replace HB := hbs_ HB hb; (try clear hb); (try clear hb2); (try clear hk); (try clear hi)) | ((with_reducible refine gate_callee (f := 46) rfl ?_); refine goesL_ (some 73) rfl rfl Tryd.func46 (by kernel_rfl) rfl #[.string t484] rfl MP ?_; (with_reducible refine (figureheadref01_Strip.calls k2 t484 t485 _ A25.out).mono ?_); rintro e w' ⟨rfl, ⟨nd, rfl⟩⟩; refine ⟨_, rfl, ?_⟩))
          go_ret
          exact ⟨by first | rfl | (simp [errW_none, errW_some] <;> rfl) | (simp only [← hji3]; first | rfl | (simp [errW_none, errW_some] <;> rfl)) | (simp [*, errW_none, errW_some] <;> rfl), BL HB⟩
    rw [if_neg c5] at H
    exact absurd H (by simp)
  rw [if_neg c4] at H
  exact absurd H (by simp)
end Go.Proofs.YtbjaiphfehnncaaDoor.Px
end
section
namespace Go.Proofs.YtbjaiphfehnncaaDoor.Px
open Fig Go.RowKit Go.Proofs.YtbjaiphfehnncaaDoorW.PrintWords Go.Proofs.YtbjaiphfehnncaaDoorW.PrintLast Go.Proofs.YtbjaiphfehnncaaDoorW.PrintMore
attribute [local go_sem] max2_int min2_int max_two min_two max_three min_three max_four min_four   -- for this text's walks alone
attribute [local go_sem] fieldA23_0 fieldA23_1 fieldA23_2
def va : List Int → Nat
  | [] => 0
  | x :: l => x.toNat + 10 * va l
end Go.Proofs.YtbjaiphfehnncaaDoor.Px
end
section
namespace Go.Proofs.YtbjaiphfehnncaaDoor.Px
open Fig Go.RowKit Go.Proofs.YtbjaiphfehnncaaDoorW.PrintWords Go.Proofs.YtbjaiphfehnncaaDoorW.PrintLast Go.Proofs.YtbjaiphfehnncaaDoorW.PrintMore
attribute [local go_sem] max2_int min2_int max_two min_two max_three min_three max_four min_four   -- for this text's walks alone
attribute [local go_sem] fieldA23_0 fieldA23_1 fieldA23_2
theorem small_len (p : Nat) (hp : p ≤ 1000000) : wrap64 ((p : Int) + 2) = ((p + 2 : Nat) : Int) := by rw [w64 (by omega) (by omega)]; omega
theorem Small_ev {a : List Int} {y m : Nat} (ga : goodL a = true) (la : a.length ≤ 1000000) (hy : y < 1000000000) (hm : m < 1000000000) : Ev (fun k => mul_Small.f k a (y : Int) (m : Int)) (limbs (valL a * y + m)) := by
  unfold mul_Small.f
  rw [small_len _ la]
  have c1 : (0 : Int) ≤ ((a.length + 2 : Nat) : Int) := by omega
  have c2 : a.length + 2 ≤ 70368744177664 := by omega
  simp only [Int.toNat_natCast, c1, c2, if_true, Option.bind_some]
  have c3 : (0 : Int) < (((List.replicate (a.length + 2) (0 : Int)).length : Nat) : Int) := by simp; omega
  simp only [c3, if_true]
  have e1 : (List.replicate (a.length + 2) (0 : Int)).set (0 : Int).toNat (m : Int) = (m : Int) :: List.replicate (a.length + 1) 0 := by rw [List.replicate_succ]; rfl
  rw [e1]
  have g1 : goodL ((m : Int) :: List.replicate (a.length + 1) 0) = true := goodL_cons.2 ⟨by omega, goodL_replicate _⟩
  have v1 : valL ((m : Int) :: List.replicate (a.length + 1) 0) = m := by simp [valL, valL_replicate]
  have l1 : ((m : Int) :: List.replicate (a.length + 1) 0).length = a.length + 2 := by simp
  have hlt : valL ((m : Int) :: List.replicate (a.length + 1) 0) + 1000000000 ^ 0 * (valL a * y) < 1000000000 ^ ((m : Int) :: List.replicate (a.length + 1) 0).length := by
    rw [v1, l1, Nat.pow_zero, Nat.one_mul]
    have va := valL_lt ga
    have h3 : valL a * y ≤ 1000000000 ^ a.length * 999999999 := Nat.mul_le_mul (by omega) (by omega)
    have h4 : 1000000000 ^ (a.length + 2) = 1000000000 ^ a.length * 1000000000 * 1000000000 := by rw [Nat.pow_succ, Nat.pow_succ]
    have h5 : 1 ≤ 1000000000 ^ a.length := Nat.one_le_pow _ _ (by omega)
    omega
  obtain ⟨r, hr, g2, g3, g4⟩ := row_ev (p := 0) g1 ga hy (by rw [l1]; omega) (by rw [l1]; omega) hlt
  refine Ev.bind hr ?_
  simp only [nat_Trim.f]
  rw [trimF_eq g2 (by rw [g3, l1]; omega)]
  refine evIs (Ev.now _) ?_
  rw [g4, v1, Nat.pow_zero, Nat.one_mul, Nat.add_comm]
end Go.Proofs.YtbjaiphfehnncaaDoor.Px
end
section
namespace Go.Proofs.YtbjaiphfehnncaaDoor.Px
open Fig Go.RowKit Go.Proofs.YtbjaiphfehnncaaDoorW.PrintWords Go.Proofs.YtbjaiphfehnncaaDoorW.PrintLast Go.Proofs.YtbjaiphfehnncaaDoorW.PrintMore
attribute [local go_sem] max2_int min2_int max_two min_two max_three min_three max_four min_four   -- for this text's walks alone
attribute [local go_sem] fieldA23_0 fieldA23_1 fieldA23_2
set_option maxRecDepth 100000
def ten_Shift.f (l0 : List Int) (a1 : Int) : Option (List Int) := if goodL l0 = true ∧ l0.length ≤ 500000 ∧ a1 ≤ 1000000 then some (limbs (valL l0 * 10 ^ a1.toNat)) else none
theorem R_made (W : World) (base m : Nat) (e : TypeId) (hb : base ≤ W.heap.size) (hm : m ≤ 281474976710656) : Kd.R (Kd.int .u32) e (W.alloc (.cells (madeCells #[.int .u32 0] m) e)) base (fun _ => True) (.slice (some ⟨W.heap.size, 0, none⟩) m m) (List.replicate m 0) := by
  rw [← Nat.mul_one m, show #[Value.int .u32 0] = (Value.int .u32 0).cells from rfl, Nat.mul_one]
  refine ⟨fun _ _ => trivial, (madeCells (Value.int .u32 0).cells (m * 1)).toList, ⟨?_, .inr ⟨W.heap.size, m, _, ?_, hb, by simpa using heap_alloc_new W _, ?_, ?_, ?_, ?_⟩⟩, Kd.reps_made (z := .int .u32 0) (size := 1) (z0 := 0) rfl (by decide) rfl m⟩
  · simp [size_madeCells, show (Kd.int .u32).sz = 1 from rfl]
  · rw [List.length_replicate]
  · rw [List.length_replicate]; exact Nat.le_refl _
  · unfold maxLen; omega
  · simp [size_madeCells, show (Kd.int .u32).sz = 1 from rfl]
  · rw [List.length_replicate, List.take_of_length_le (by simp [size_madeCells, show (Kd.int .u32).sz = 1 from rfl]), Nat.mul_one]
set_option maxHeartbeats 4000000 in
theorem ten_Shift.calls (A0 : Option Addr) (c0 : Nat) (l0 : List Int) (a1 : Int) (r : List Int) (w : World) (hG : Fig.Glob w) (hr0 : Kd.C (Kd.int .u32) w A0 l0.length l0) (hc0 : l0.length ≤ c0) (h : ten_Shift.f l0 a1 = some r) :
    Calls Tryd.prog 52 #[.slice A0 l0.length c0, .int .i64 a1] w fun e w' => ∃ v0_ : Value, e = .returned (v0_) ∧ Kd.R (Kd.int .u32) 47 w' w.heap.size (fun _ => True) v0_ r ∧ Below w.heap.size w w' := by
  unfold ten_Shift.f at h
  by_cases hg : goodL l0 = true ∧ l0.length ≤ 500000 ∧ a1 ≤ 1000000
  · rw [if_pos hg] at h
    obtain rfl := Option.some.inj h
    obtain ⟨g0, z0, z1⟩ := hg
    obtain ⟨m, hm⟩ : ∃ m : Nat, m = a1.toNat := ⟨_, rfl⟩
    rw [← hm]
    by_cases ha : a1 < 0
    · obtain rfl : m = 0 := by omega
      have e0 : IntKind.i64.wrap 0 = 0 := by rw [IntKind.wrap_i64]; rfl
      have HR0 := Aside0.mk hr0
      have HC0 := Aside0.mk hc0
      have HG := Aside0.mk hG
      have G0 := Aside0.mk g0
      have hcell := hG.pows 0 (by omega)
      have HT := Aside0.mk (trimF_eq g0 (by omega))
      have hlt : (limbs (valL l0)).length ≤ l0.length := limbs_len_le (valL_lt g0)
      clear hr0 hc0 hG g0 h hm
      go_enter Tryd.func52, Tryd.ntmps52
      go_wp2_with (first
        | (go_at_call 62; (with_reducible refine (nat_Trim.calls A0 c0 l0 (limbs (valL l0)) _ ?side1 ?side2 ?side3).mono ?_); (case side3 => exact HT.out); (case side1 => exact HR0.out); (case side2 => exact HC0.out); rintro e w1 ⟨v0, rfl, ho, hb⟩; obtain ⟨A1, c1, rfl⟩ := Kd.R_slice ho; have HO := Aside0.mk ho; have HB := Aside0.mk hb; clear ho hb))
      · rename_i hz
        have hz0 : limbs (valL l0) = [] := List.eq_nil_of_length_eq_zero (by simpa using hz)
        have hv : valL l0 = 0 := by have := limbs_val (valL l0); rw [hz0] at this; exact this.symm
        go_ret
        refine ⟨_, rfl, ?_, HB.out⟩
        rw [hv, Nat.zero_mul, limbs_zero]
        exact Kd.R_nil _ _ _ _ _
      skip
      have hc1 : w1.cell? ⟨0, 0, none⟩ = some (.int .u32 (([1, 10, 100, 1000, 10000, 100000, 1000000, 10000000, 100000000] : List Int).getD 0 0)) := (HB.out.cell (World.block_lt_of_cell? w _ hcell)).trans hcell
      obtain ⟨p, hp⟩ : ∃ p : Nat, p = 10 ^ 0 := ⟨_, rfl⟩
      have hpp : ([1, 10, 100, 1000, 10000, 100000, 1000000, 10000000, 100000000] : List Int).getD 0 0 = (p : Int) := by rw [hp]; rfl
      rw [hpp] at hc1
      rw [hpp] at hcell
      have HCW := Aside0.mk hcell
      have hc2 : ∀ o : Obj, (w1.alloc o).cell? ⟨0, 0, none⟩ = some (.int .u32 (p : Int)) := fun o => (World.cell?_alloc_lt _ _ _ (World.block_lt_of_cell? _ _ hc1)).trans hc1
      obtain ⟨i0, hi0, hi1⟩ := info_parts info47
      have hmk : ∀ W : World, (Instr.makeSlice 28 (.int .i64 0) (.int .i64 0)).run Tryd.prog W = .ok (.slice (some ⟨W.heap.size, 0, none⟩) 0 0) (W.alloc (.cells (madeCells (Value.int .u32 0).cells (0 * 1)) 47)) := fun W => by
        have := run_make (P := Tryd.prog) W 28 47 i0 (.int .u32 0) Tryd.underlying28 hi0 hi1.1 .i64 .i64 0 0 (by omega) (by omega) (by rw [hi1.2.2]; omega) (by omega)
        rw [hi1.2.1] at this; exact this
      have HPP := Aside0.mk hp
      clear hpp hp hcell
      obtain ⟨y, hy⟩ : ∃ y, y = List.replicate 0 0 ++ limbs (valL l0) := ⟨_, rfl⟩
      have HY := Aside0.mk hy
      have hyl : y.length ≤ 1000000 := by rw [hy, List.length_append, List.length_replicate]; omega
      have hyg : goodL y = true := by rw [hy]; exact goodL_append.2 ⟨goodL_replicate 0, limbs_good _⟩
      have hyv : valL y = 1000000000 ^ 0 * valL l0 := by rw [hy, valL_append, valL_replicate, List.length_replicate, limbs_val, Nat.zero_add]
      have hp9 : p < 1000000000 := by rw [HPP.out]; exact Nat.lt_of_lt_of_le (Nat.pow_lt_pow_right (by decide) (show 0 < 9 by decide)) (by decide)
      obtain ⟨k, hk⟩ := Ev.rounds (Small_ev (m := 0) hyg hyl hp9 (by decide))
      have HK := Aside0.mk hk
      have HL := Aside0.mk (show ((List.replicate 0 (0 : Int)).length + (limbs (valL l0)).length) * 4 ≤ 140737488355328 by rw [List.length_replicate]; omega)
      have HV := Aside0.mk hyv
      clear hy hyl hyg hyv hk hlt
      go_region_law (first
        | (refine Kd.R_append_rows_step (Kd.int .u32) (w0 := w) w.heap.size (by rfl) (.tmp 14) (.tmp 15) 28 47 (.int .u32 0) 4 rfl Tryd.underlying28 info47 rfl (by decide) (by omega) (.slice (some ⟨w1.heap.size, 0, none⟩) 0 0) (List.replicate 0 0) (limbs (valL l0)) A1 (limbs (valL l0)).length c1 (fun _ => True) (fun _ => False) (by simp [Act.eval]) (by simp [Act.eval]) ?aO ?aR (fun _ _ h => h) (fun _ h => h.elim) (fun _ _ => trivial) ?aB ?aS ?aL ?_
           (case aO => exact Kd.R_drew (R_made w1 w.heap.size 0 47 HB.out.size (by omega)))
           (case aR => exact Kd.C_drew (Kd.C_alloc (Kd.R_reads' HO.out).2.2 _))
           (case aB => exact (HB.out.alloc HB.out.size _).drew)
           (case aS => exact ((HB.out.alloc HB.out.size _).drew (B := w.heap.size)).size)
           (case aL => exact HL.out)
           intro v1 w2 ho2 hb2 hg2 hat2
           rw [← HY.out] at ho2
           obtain ⟨A2, c2, rfl⟩ := Kd.R_slice ho2
           have HO2 := Aside0.mk ho2
           have HB2 := Aside0.mk hb2
           have hc3 := (hb2.cell (World.block_lt_of_cell? w _ HCW.out)).trans HCW.out
           clear ho2 hb2 hg2 hat2)
        | (go_simp
           go_wp2_with (go_at_call 74; (with_reducible refine (mul_Small.calls k A2 c2 y (p : Int) 0 (limbs (valL y * p + 0)) _ ?side1 ?side2 ?side3).mono ?_); (case side1 => exact (Kd.R_reads' HO2.out).2.2); (case side2 => exact (Kd.R_reads' HO2.out).2.1); (case side3 => exact HK.out); rintro e w3 ⟨v3, rfl, ho3, hb3⟩; have HO3 := Aside0.mk ho3; have HB3 := Aside0.mk hb3; clear ho3 hb3)))
      all_goals
        go_wp2
        go_ret
        refine ⟨_, rfl, ?_, HB2.out.trans (HB3.out.mono HB2.out.size)⟩
        have e : limbs (valL l0 * 10 ^ 0) = limbs (valL y * p + 0) := by
          rw [HV.out, HPP.out, Nat.add_zero, pow9, Nat.mul_comm (10 ^ (9 * 0)), Nat.mul_assoc, ← Nat.pow_add]
        rw [e]
        exact Kd.R_lower HO3.out HB2.out.size
    obtain rfl : a1 = (m : Int) := by omega
    have hm6 : m ≤ 1000000 := by omega
    obtain ⟨n9, hn9⟩ : ∃ n9, n9 = m / 9 := ⟨_, rfl⟩
    obtain ⟨q9, hq9⟩ : ∃ q9, q9 = m % 9 := ⟨_, rfl⟩
    have e9 : IntKind.i64.wrap ((m : Int) / 9) = (n9 : Int) := by rw [IntKind.wrap_i64]; omega
    have r9 : (m : Int).tmod 9 = (q9 : Int) := by rw [Int.tmod_eq_emod_of_nonneg (by omega)]; omega
    have hq : q9 < 9 := by omega
    have hn : n9 ≤ 200000 := by omega
    have HN9 := Aside0.mk hn9
    have HQ9 := Aside0.mk hq9
    have HR0 := Aside0.mk hr0
    have HC0 := Aside0.mk hc0
    have HG := Aside0.mk hG
    have G0 := Aside0.mk g0
    have hcell := hG.pows q9 hq
    have HT := Aside0.mk (trimF_eq g0 (by omega))
    have hlt : (limbs (valL l0)).length ≤ l0.length := limbs_len_le (valL_lt g0)
    clear hr0 hc0 hG g0 h hm hn9 hq9
    go_enter Tryd.func52, Tryd.ntmps52
    go_wp2_with (first
      | (go_at_call 62; (with_reducible refine (nat_Trim.calls A0 c0 l0 (limbs (valL l0)) _ ?side1 ?side2 ?side3).mono ?_); (case side3 => exact HT.out); (case side1 => exact HR0.out); (case side2 => exact HC0.out); rintro e w1 ⟨v0, rfl, ho, hb⟩; obtain ⟨A1, c1, rfl⟩ := Kd.R_slice ho; have HO := Aside0.mk ho; have HB := Aside0.mk hb; clear ho hb))
    · rename_i hz
      have hz0 : limbs (valL l0) = [] := List.eq_nil_of_length_eq_zero (by simpa using hz)
      have hv : valL l0 = 0 := by have := limbs_val (valL l0); rw [hz0] at this; exact this.symm
      go_ret
      refine ⟨_, rfl, ?_, HB.out⟩
      rw [hv, Nat.zero_mul, limbs_zero]
      exact Kd.R_nil _ _ _ _ _
    skip
    have hc1 : w1.cell? ⟨0, q9, none⟩ = some (.int .u32 (([1, 10, 100, 1000, 10000, 100000, 1000000, 10000000, 100000000] : List Int).getD q9 0)) := (HB.out.cell (World.block_lt_of_cell? w _ hcell)).trans hcell
    obtain ⟨p, hp⟩ : ∃ p : Nat, p = 10 ^ q9 := ⟨_, rfl⟩
    have hpp : ([1, 10, 100, 1000, 10000, 100000, 1000000, 10000000, 100000000] : List Int).getD q9 0 = (p : Int) := by
      rw [hp]
      match q9, hq with
      | 0, _ => rfl
      | 1, _ => rfl
      | 2, _ => rfl
      | 3, _ => rfl
      | 4, _ => rfl
      | 5, _ => rfl
      | 6, _ => rfl
      | 7, _ => rfl
      | 8, _ => rfl
      | q + 9, h => exact absurd h (by omega)
    rw [hpp] at hc1
    rw [hpp] at hcell
    have HCW := Aside0.mk hcell
    have hc2 : ∀ o : Obj, (w1.alloc o).cell? ⟨0, q9, none⟩ = some (.int .u32 (p : Int)) := fun o => (World.cell?_alloc_lt _ _ _ (World.block_lt_of_cell? _ _ hc1)).trans hc1
    obtain ⟨i0, hi0, hi1⟩ := info_parts info47
    have hmk : ∀ W : World, (Instr.makeSlice 28 (.int .i64 (n9 : Int)) (.int .i64 (n9 : Int))).run Tryd.prog W = .ok (.slice (some ⟨W.heap.size, 0, none⟩) n9 n9) (W.alloc (.cells (madeCells (Value.int .u32 0).cells (n9 * 1)) 47)) := fun W => by
      have := run_make (P := Tryd.prog) W 28 47 i0 (.int .u32 0) Tryd.underlying28 hi0 hi1.1 .i64 .i64 (n9 : Int) (n9 : Int) (by omega) (by omega) (by rw [hi1.2.2]; omega) (by omega)
      rw [hi1.2.1, Int.toNat_natCast] at this; exact this
    have hd1 : decide ((q9 : Int) < 9) = true := decide_eq_true (by omega)
    have hd2 : ((q9 : Int) < 9) = True := eq_true (by omega)
    have HPP := Aside0.mk hp
    clear hpp hp hcell
    obtain ⟨y, hy⟩ : ∃ y, y = List.replicate n9 0 ++ limbs (valL l0) := ⟨_, rfl⟩
    have HY := Aside0.mk hy
    have hyl : y.length ≤ 1000000 := by rw [hy, List.length_append, List.length_replicate]; omega
    have hyg : goodL y = true := by rw [hy]; exact goodL_append.2 ⟨goodL_replicate n9, limbs_good _⟩
    have hyv : valL y = 1000000000 ^ n9 * valL l0 := by rw [hy, valL_append, valL_replicate, List.length_replicate, limbs_val, Nat.zero_add]
    have hp9 : p < 1000000000 := by rw [HPP.out]; exact Nat.lt_of_lt_of_le (Nat.pow_lt_pow_right (by decide) hq) (by decide)
    obtain ⟨k, hk⟩ := Ev.rounds (Small_ev (m := 0) hyg hyl hp9 (by decide))
    have HK := Aside0.mk hk
    have HL := Aside0.mk (show ((List.replicate n9 (0 : Int)).length + (limbs (valL l0)).length) * 4 ≤ 140737488355328 by rw [List.length_replicate]; omega)
    have HV := Aside0.mk hyv
    clear hy hyl hyg hyv hk hlt
    go_region_law (first
      | (refine Kd.R_append_rows_step (Kd.int .u32) (w0 := w) w.heap.size (by rfl) (.tmp 14) (.tmp 15) 28 47 (.int .u32 0) 4 rfl Tryd.underlying28 info47 rfl (by decide) (by omega) (.slice (some ⟨w1.heap.size, 0, none⟩) n9 n9) (List.replicate n9 0) (limbs (valL l0)) A1 (limbs (valL l0)).length c1 (fun _ => True) (fun _ => False) (by simp [Act.eval]) (by simp [Act.eval]) ?aO ?aR (fun _ _ h => h) (fun _ h => h.elim) (fun _ _ => trivial) ?aB ?aS ?aL ?_
         (case aO => exact Kd.R_drew (R_made w1 w.heap.size n9 47 HB.out.size (by omega)))
         (case aR => exact Kd.C_drew (Kd.C_alloc (Kd.R_reads' HO.out).2.2 _))
         (case aB => exact (HB.out.alloc HB.out.size _).drew)
         (case aS => exact ((HB.out.alloc HB.out.size _).drew (B := w.heap.size)).size)
         (case aL => exact HL.out)
         intro v1 w2 ho2 hb2 hg2 hat2
         rw [← HY.out] at ho2
         obtain ⟨A2, c2, rfl⟩ := Kd.R_slice ho2
         have HO2 := Aside0.mk ho2
         have HB2 := Aside0.mk hb2
         have hc3 := (hb2.cell (World.block_lt_of_cell? w _ HCW.out)).trans HCW.out
         clear ho2 hb2 hg2 hat2)
      | (go_simp
         go_wp2_with (go_at_call 74; (with_reducible refine (mul_Small.calls k A2 c2 y (p : Int) 0 (limbs (valL y * p + 0)) _ ?side1 ?side2 ?side3).mono ?_); (case side1 => exact (Kd.R_reads' HO2.out).2.2); (case side2 => exact (Kd.R_reads' HO2.out).2.1); (case side3 => exact HK.out); rintro e w3 ⟨v3, rfl, ho3, hb3⟩; have HO3 := Aside0.mk ho3; have HB3 := Aside0.mk hb3; clear ho3 hb3)))
    all_goals
      go_wp2
      go_ret
      refine ⟨_, rfl, ?_, HB2.out.trans (HB3.out.mono HB2.out.size)⟩
      have e : limbs (valL l0 * 10 ^ m) = limbs (valL y * p + 0) := by
        rw [HV.out, HPP.out, Nat.add_zero, pow9, Nat.mul_comm (10 ^ (9 * n9)), Nat.mul_assoc, ← Nat.pow_add, HN9.out, HQ9.out, Nat.div_add_mod]
      rw [e]
      exact Kd.R_lower HO3.out HB2.out.size
  rw [if_neg hg] at h; cases h
end Go.Proofs.YtbjaiphfehnncaaDoor.Px
end
section
namespace Go.Proofs
open Go.Shelf
def Tryd.lays169_ren : Go.Shelf.Ren := ⟨fun | 169 => 88 | n => n, fun | 70 => 85 | 9 => 9 | 0 => 0 | 72 => 87 | 37 => 74 | 127 => 101 | 3 => 3 | 5 => 5 | n => n, fun | n => n⟩
theorem Tryd.lays169 : Go.Proofs.Lays.n169 Tryd.prog Tryd.lays169_ren := {
  mixed := by kernel_rfl
  f169 := Tryd.func88.trans (congrArg some (by kernel_rfl))
  t0 := Tryd.underlying0
  a0 := Tryd.isAgg0
  z0 := Tryd.sizeOf0
  v0 := Tryd.zeroValue0
  t3 := Tryd.underlying3
  a3 := Tryd.isAgg3
  z3 := Tryd.sizeOf3
  v3 := Tryd.zeroValue3
  t9 := Tryd.underlying9
  a9 := Tryd.isAgg9
  z9 := Tryd.sizeOf9
  v9 := Tryd.zeroValue9
  t37 := Tryd.underlying74
  a37 := Tryd.isAgg74
  z37 := Tryd.sizeOf74
  v37 := Tryd.zeroValue74
  t70 := Tryd.underlying85
  a70 := Tryd.isAgg85
  z70 := Tryd.sizeOf85
  v70 := Tryd.zeroValue85
  t72 := Tryd.underlying87
  a72 := Tryd.isAgg87
  z72 := Tryd.sizeOf87
  v72 := Tryd.zeroValue87
  t127 := Tryd.underlying101
  a127 := Tryd.isAgg101
  z127 := Tryd.sizeOf101
  v127 := Tryd.zeroValue101 }
theorem Tryd.Builder_Extra_169 : Builder.Extra Tryd.prog Tryd.lays169_ren := {
  sizeBuilder := by kernel_rfl
  liesBuilder := by kernel_rfl
  t5 := Tryd.underlying5
  a5 := Tryd.isAgg5
  z5 := Tryd.sizeOf5
  v5 := Tryd.zeroValue5
  infoByte := by kernel_rfl
  cellsByte := by kernel_rfl
  sizeByte := by kernel_rfl
  neB5 := by decide }
def Tryd.lays161_ren : Go.Shelf.Ren := ⟨fun | 161 => 44 | 231 => 63 | 227 => 64 | 233 => 65 | 235 => 66 | 228 => 79 | 197 => 80 | 151 => 81 | 260 => 89 | 152 => 90 | 137 => 94 | 119 => 95 | 224 => 96 | 225 => 97 | 217 => 99 | 266 => 100 | n => n, fun | 9 => 9 | 4 => 4 | 3 => 3 | 5 => 5 | 117 => 63 | 116 => 62 | 0 => 0 | 124 => 66 | 105 => 80 | 21 => 21 | 119 => 102 | 46 => 103 | 139 => 106 | 138 => 105 | n => n, fun | 3 => 1 | 4 => 2 | n => n⟩
theorem Tryd.lays161 : Go.Proofs.Lays.n161 Tryd.prog Tryd.lays161_ren := {
  mixed := by kernel_rfl
  f119 := Tryd.func95.trans (congrArg some (by kernel_rfl))
  f137 := Tryd.func94.trans (congrArg some (by kernel_rfl))
  f151 := Tryd.func81.trans (congrArg some (by kernel_rfl))
  f152 := Tryd.func90.trans (congrArg some (by kernel_rfl))
  f161 := Tryd.func44.trans (congrArg some (by kernel_rfl))
  f197 := Tryd.func80.trans (congrArg some (by kernel_rfl))
  f217 := Tryd.func99.trans (congrArg some (by kernel_rfl))
  f224 := Tryd.func96.trans (congrArg some (by kernel_rfl))
  f225 := Tryd.func97.trans (congrArg some (by kernel_rfl))
  f227 := Tryd.func64.trans (congrArg some (by kernel_rfl))
  f228 := Tryd.func79.trans (congrArg some (by kernel_rfl))
  f231 := Tryd.func63.trans (congrArg some (by kernel_rfl))
  f233 := Tryd.func65.trans (congrArg some (by kernel_rfl))
  f235 := Tryd.func66.trans (congrArg some (by kernel_rfl))
  f260 := Tryd.func89.trans (congrArg some (by kernel_rfl))
  f266 := Tryd.func100.trans (congrArg some (by kernel_rfl))
  t0 := Tryd.underlying0
  a0 := Tryd.isAgg0
  z0 := Tryd.sizeOf0
  v0 := Tryd.zeroValue0
  t3 := Tryd.underlying3
  a3 := Tryd.isAgg3
  z3 := Tryd.sizeOf3
  v3 := Tryd.zeroValue3
  t4 := Tryd.underlying4
  a4 := Tryd.isAgg4
  z4 := Tryd.sizeOf4
  v4 := Tryd.zeroValue4
  t5 := Tryd.underlying5
  a5 := Tryd.isAgg5
  z5 := Tryd.sizeOf5
  v5 := Tryd.zeroValue5
  t9 := Tryd.underlying9
  a9 := Tryd.isAgg9
  z9 := Tryd.sizeOf9
  v9 := Tryd.zeroValue9
  t21 := Tryd.underlying21
  a21 := Tryd.isAgg21
  z21 := Tryd.sizeOf21
  v21 := Tryd.zeroValue21
  t46 := Tryd.underlying103
  a46 := Tryd.isAgg103
  z46 := Tryd.sizeOf103
  v46 := Tryd.zeroValue103
  t105 := Tryd.underlying80
  a105 := Tryd.isAgg80
  z105 := Tryd.sizeOf80
  v105 := Tryd.zeroValue80
  t116 := Tryd.underlying62
  a116 := Tryd.isAgg62
  z116 := Tryd.sizeOf62
  t117 := Tryd.underlying63
  a117 := Tryd.isAgg63
  z117 := Tryd.sizeOf63
  v117 := Tryd.zeroValue63
  t119 := Tryd.underlying102
  a119 := Tryd.isAgg102
  z119 := Tryd.sizeOf102
  t124 := Tryd.underlying66
  a124 := Tryd.isAgg66
  z124 := Tryd.sizeOf66
  v124 := Tryd.zeroValue66
  t138 := Tryd.underlying105
  a138 := Tryd.isAgg105
  z138 := Tryd.sizeOf105
  v138 := Tryd.zeroValue105
  t139 := Tryd.underlying106
  a139 := Tryd.isAgg106
  z139 := Tryd.sizeOf106
  v139 := Tryd.zeroValue106
  g3 := by kernel_rfl
  g4 := by kernel_rfl }
open Go.RowKit in
theorem Tryd.strings_TrimLeft_one (s : ByteArray) (c : UInt8) (hc : c.toNat < 128) (w : World) :
    Calls Tryd.prog 44 #[.string s, .string ⟨#[c]⟩] w fun e w' => e = .returned (.string ⟨(Lib.trimLeftB s.data.toList c).toArray⟩) ∧ w' = w := Any.strings_TrimLeft_one Tryd.lays161 s c hc w
def Tryd.lays162_ren : Go.Shelf.Ren := ⟨fun | 162 => 45 | 232 => 67 | 227 => 64 | 234 => 68 | 236 => 69 | 228 => 79 | 271 => 82 | 151 => 81 | 120 => 91 | 197 => 80 | 152 => 90 | 260 => 89 | 137 => 94 | 119 => 95 | 224 => 96 | 225 => 97 | 217 => 99 | 266 => 100 | n => n, fun | 9 => 9 | 4 => 4 | 3 => 3 | 5 => 5 | 117 => 63 | 116 => 62 | 0 => 0 | 124 => 66 | 21 => 21 | 105 => 80 | 46 => 103 | 119 => 102 | 139 => 106 | 138 => 105 | n => n, fun | 3 => 1 | 4 => 2 | n => n⟩
theorem Tryd.lays162 : Go.Proofs.Lays.n162 Tryd.prog Tryd.lays162_ren := {
  mixed := by kernel_rfl
  f119 := Tryd.func95.trans (congrArg some (by kernel_rfl))
  f120 := Tryd.func91.trans (congrArg some (by kernel_rfl))
  f137 := Tryd.func94.trans (congrArg some (by kernel_rfl))
  f151 := Tryd.func81.trans (congrArg some (by kernel_rfl))
  f152 := Tryd.func90.trans (congrArg some (by kernel_rfl))
  f162 := Tryd.func45.trans (congrArg some (by kernel_rfl))
  f197 := Tryd.func80.trans (congrArg some (by kernel_rfl))
  f217 := Tryd.func99.trans (congrArg some (by kernel_rfl))
  f224 := Tryd.func96.trans (congrArg some (by kernel_rfl))
  f225 := Tryd.func97.trans (congrArg some (by kernel_rfl))
  f227 := Tryd.func64.trans (congrArg some (by kernel_rfl))
  f228 := Tryd.func79.trans (congrArg some (by kernel_rfl))
  f232 := Tryd.func67.trans (congrArg some (by kernel_rfl))
  f234 := Tryd.func68.trans (congrArg some (by kernel_rfl))
  f236 := Tryd.func69.trans (congrArg some (by kernel_rfl))
  f260 := Tryd.func89.trans (congrArg some (by kernel_rfl))
  f266 := Tryd.func100.trans (congrArg some (by kernel_rfl))
  f271 := Tryd.func82.trans (congrArg some (by kernel_rfl))
  t0 := Tryd.underlying0
  a0 := Tryd.isAgg0
  z0 := Tryd.sizeOf0
  v0 := Tryd.zeroValue0
  t3 := Tryd.underlying3
  a3 := Tryd.isAgg3
  z3 := Tryd.sizeOf3
  v3 := Tryd.zeroValue3
  t4 := Tryd.underlying4
  a4 := Tryd.isAgg4
  z4 := Tryd.sizeOf4
  v4 := Tryd.zeroValue4
  t5 := Tryd.underlying5
  a5 := Tryd.isAgg5
  z5 := Tryd.sizeOf5
  v5 := Tryd.zeroValue5
  t9 := Tryd.underlying9
  a9 := Tryd.isAgg9
  z9 := Tryd.sizeOf9
  v9 := Tryd.zeroValue9
  t21 := Tryd.underlying21
  a21 := Tryd.isAgg21
  z21 := Tryd.sizeOf21
  v21 := Tryd.zeroValue21
  t46 := Tryd.underlying103
  a46 := Tryd.isAgg103
  z46 := Tryd.sizeOf103
  v46 := Tryd.zeroValue103
  t105 := Tryd.underlying80
  a105 := Tryd.isAgg80
  z105 := Tryd.sizeOf80
  v105 := Tryd.zeroValue80
  t116 := Tryd.underlying62
  a116 := Tryd.isAgg62
  z116 := Tryd.sizeOf62
  t117 := Tryd.underlying63
  a117 := Tryd.isAgg63
  z117 := Tryd.sizeOf63
  v117 := Tryd.zeroValue63
  t119 := Tryd.underlying102
  a119 := Tryd.isAgg102
  z119 := Tryd.sizeOf102
  t124 := Tryd.underlying66
  a124 := Tryd.isAgg66
  z124 := Tryd.sizeOf66
  v124 := Tryd.zeroValue66
  t138 := Tryd.underlying105
  a138 := Tryd.isAgg105
  z138 := Tryd.sizeOf105
  v138 := Tryd.zeroValue105
  t139 := Tryd.underlying106
  a139 := Tryd.isAgg106
  z139 := Tryd.sizeOf106
  v139 := Tryd.zeroValue106
  g3 := by kernel_rfl
  g4 := by kernel_rfl }
open Go.RowKit in
theorem Tryd.strings_TrimRight_one (s : ByteArray) (c : UInt8) (hc : c.toNat < 128) (w : World) (hs : s.size ≤ 9223372036854775807) :
    Calls Tryd.prog 45 #[.string s, .string ⟨#[c]⟩] w fun e w' => e = .returned (.string ⟨(Lib.trimRightB s.data.toList c).toArray⟩) ∧ w' = w := Any.strings_TrimRight_one Tryd.lays162 s c hc w hs
open Go.RowKit in
theorem Tryd.Builder_String_any_k (B b : Nat) (l : List UInt8) (w : World) (h : Lib.IsBuilderF 87 5 B b (Lib.byteCells l) w) (hBw : B ≤ w.heap.size) :
    Calls Tryd.prog 88 #[.pointer (some ⟨b, 0, none⟩)] w fun e w' => e = .returned (.string ⟨l.toArray⟩) ∧ (Lib.IsBuilderF 87 5 B b (Lib.byteCells l) w' ∧ Below B w w' ∧ Lib.OthersKept 5 (some b) w w') := Any.Builder_String_any_k Tryd.lays169 Tryd.Builder_Extra_169 B b l w h hBw
end Go.Proofs
end
section
namespace Go.Proofs.YtbjaiphfehnncaaDoor.Px
open Fig Go.RowKit Go.Proofs.YtbjaiphfehnncaaDoorW.PrintWords Go.Proofs.YtbjaiphfehnncaaDoorW.PrintLast Go.Proofs.YtbjaiphfehnncaaDoorW.PrintMore
attribute [local go_sem] max2_int min2_int max_two min_two max_three min_three max_four min_four   -- for this text's walks alone
attribute [local go_sem] fieldA23_0 fieldA23_1 fieldA23_2
set_option maxRecDepth 100000
def strings_TrimLeft.f (a0 a1 : ByteArray) : Option ByteArray := if a1.data.toList = [48] then some (stripB a0) else none
theorem one_nought {a1 : ByteArray} (h : a1.data.toList = [48]) : a1 = ⟨#[48]⟩ := B_ext h
theorem strings_TrimLeft.calls (a0 a1 r : ByteArray) (w : World) (h : strings_TrimLeft.f a0 a1 = some r) :
    Calls Tryd.prog 44 #[.string a0, .string a1] w fun e w' => e = .returned (.string r) ∧ Below w.heap.size w w' := by
  unfold strings_TrimLeft.f at h
  by_cases hc : a1.data.toList = [48]
  · rw [if_pos hc] at h
    obtain rfl := Option.some.inj h
    obtain rfl := one_nought hc
    exact (Tryd.strings_TrimLeft_one a0 48 (by decide) w).mono fun e w' ⟨h1, h2⟩ => ⟨h1, h2 ▸ Below.refl _ _⟩
  · rw [if_neg hc] at h; cases h
end Go.Proofs.YtbjaiphfehnncaaDoor.Px
end
section
namespace Go.Proofs.YtbjaiphfehnncaaDoor.Px
open Fig Go.RowKit Go.Proofs.YtbjaiphfehnncaaDoorW.PrintWords Go.Proofs.YtbjaiphfehnncaaDoorW.PrintLast Go.Proofs.YtbjaiphfehnncaaDoorW.PrintMore
attribute [local go_sem] max2_int min2_int max_two min_two max_three min_three max_four min_four   -- for this text's walks alone
attribute [local go_sem] fieldA23_0 fieldA23_1 fieldA23_2
set_option maxRecDepth 100000
def strings_TrimRight.f (a0 a1 : ByteArray) : Option ByteArray := if a1.data.toList = [48] ∧ a0.size ≤ 9223372036854775807 then some ⟨(Lib.trimRightB a0.data.toList 48).toArray⟩ else none
theorem one_nought' {a1 : ByteArray} (h : a1.data.toList = [48]) : a1 = ⟨#[48]⟩ := B_ext h
theorem strings_TrimRight.calls (a0 a1 r : ByteArray) (w : World) (h : strings_TrimRight.f a0 a1 = some r) :
    Calls Tryd.prog 45 #[.string a0, .string a1] w fun e w' => e = .returned (.string r) ∧ Below w.heap.size w w' := by
  unfold strings_TrimRight.f at h
  by_cases hc : a1.data.toList = [48] ∧ a0.size ≤ 9223372036854775807
  · rw [if_pos hc] at h
    obtain rfl := Option.some.inj h
    obtain rfl := one_nought' hc.1
    exact (Tryd.strings_TrimRight_one a0 48 (by decide) w hc.2).mono fun e w' ⟨h1, h2⟩ => ⟨h1, h2 ▸ Below.refl _ _⟩
  · rw [if_neg hc] at h; cases h
end Go.Proofs.YtbjaiphfehnncaaDoor.Px
end
section
namespace Go.Proofs.YtbjaiphfehnncaaDoor.Px
open Fig Go.RowKit Go.Proofs.YtbjaiphfehnncaaDoorW.PrintWords Go.Proofs.YtbjaiphfehnncaaDoorW.PrintLast Go.Proofs.YtbjaiphfehnncaaDoorW.PrintMore
attribute [local go_sem] max2_int min2_int max_two min_two max_three min_three max_four min_four   -- for this text's walks alone
attribute [local go_sem] fieldA23_0 fieldA23_1 fieldA23_2
def dec_Norm.f (a0_0 : Bool) (a0_1 : ByteArray) (a0_2 : Int) : Option (Bool × ByteArray × Int) := (strings_TrimLeft.f a0_1 (⟨#[48]⟩ : ByteArray)).bind fun t111 => (if t111.toList = ([] : List UInt8) then (some (a0_0, (⟨#[48]⟩ : ByteArray), 0)) else ((strings_TrimRight.f t111 (⟨#[48]⟩ : ByteArray)).bind fun t112 => (some (a0_0, t112, wrap64 ((wrap64 (a0_2 + (t111.size : Int))) - (t112.size : Int))))))
set_option maxHeartbeats 8000000 in
set_option maxRecDepth 100000 in
theorem dec_Norm.calls (a0_0 : Bool) (a0_1 : ByteArray) (a0_2 : Int) (r1 : Bool) (r2 : ByteArray) (r3 : Int) (w : World) (h : dec_Norm.f a0_0 a0_1 a0_2 = some (r1, r2, r3)) :
    Calls Tryd.prog 18 #[.agg #[.bool a0_0, .string a0_1, .int .i64 a0_2]] w fun e w' => e = .returned (.agg #[.bool r1, .string r2, .int .i64 r3]) ∧ Below w.heap.size w w' := by
  have hu23 := Tryd.underlying23
  have HB := Aside0.mk (Below.refl w.heap.size w)
  have H : ((strings_TrimLeft.f a0_1 (⟨#[48]⟩ : ByteArray)).bind fun t111 => (if t111.toList = ([] : List UInt8) then (some (a0_0, (⟨#[48]⟩ : ByteArray), 0)) else ((strings_TrimRight.f t111 (⟨#[48]⟩ : ByteArray)).bind fun t112 => (some (a0_0, t112, wrap64 ((wrap64 (a0_2 + (t111.size : Int))) - (t112.size : Int))))))) = some (r1, r2, r3) := h
  clear h
  obtain ⟨t111, A20, H⟩ := Option.bind_eq_some_iff.mp H
  (try dsimp -simprocs only at H)
  have A2 := Aside0.mk A20
  clear A20
  by_cases c3 : t111.toList = ([] : List UInt8)
  · rw [if_pos c3] at H
    have c3b0 : (t111.toList == ([] : List UInt8)) = true := beq_iff_eq.mpr c3
    have c3b1 : (t111.toList != ([] : List UInt8)) = false := bne_eq_false_iff_eq.mpr c3
    clear c3
    simp only [Option.some.injEq, Prod.mk.injEq] at H
    obtain ⟨rfl, rfl, rfl⟩ := H
    go_enter Tryd.func18, Tryd.ntmps18
    go_wp2_with (first | (refine be_ 1 #[.bool a0_0, .string a0_1, .int .i64 a0_2] 23 ?_; intro gb109 hg w4 hbox hb; have BK109 := Aside0.mk (hbox); have GW109 := ge_ hg HB; have GE109 := ge_ hg HB; replace HB := hbs_ HB hb; clear hb hbox hg) | (refine be_ 2 #[.bool false, .string (⟨#[]⟩ : ByteArray), .int .i64 0] 23 ?_; intro gb110 hg w5 hbox hb; have BK110 := Aside0.mk (hbox); have GW110 := ge_ hg HB; have GE110 := ge_ hg HB; replace HB := hbs_ HB hb; have NB109_110 := nb_ hg BK109; have NB110_109 := nc_ hg BK109; replace BK109 := bkb_ BK109 hb; clear hb hbox hg; have hnb6 := NB109_110.out; have hnc6 := NB110_109.out; obtain ⟨⟨hcz7_0, hcz7_1, hcz7_2⟩, hfz7_0, hfz7_1, hfz7_2⟩ := ce3 BK109) | ((with_reducible refine gate_callee (f := 44) rfl ?_); refine goesL_ (some 7) rfl rfl Tryd.func44 (by kernel_rfl) rfl #[.string a0_1, .string (⟨#[48]⟩ : ByteArray)] rfl MP ?_; (with_reducible refine (strings_TrimLeft.calls a0_1 (⟨#[48]⟩ : ByteArray) t111 _ A2.out).mono ?_); rintro e w8 ⟨rfl, hb⟩; refine ⟨_, rfl, ?_⟩; replace BK109 := bkb_ BK109 hb; replace BK110 := bkb_ BK110 hb; replace HB := hbs_ HB hb; (try clear hb); (try clear hb2); (try clear hk); (try clear hi); obtain ⟨⟨hcz9_0, hcz9_1, hcz9_2⟩, hfz9_0, hfz9_1, hfz9_2⟩ := ce3 BK109; obtain ⟨⟨hcz10_0, hcz10_1, hcz10_2⟩, hfz10_0, hfz10_1, hfz10_2⟩ := ce3 BK110))
    refine bodyPost_ret (results_cell_row rfl _ _ gb110 23 #[.bool a0_0, .string (⟨#[48]⟩ : ByteArray), .int .i64 0] (0, 0) _ rfl (BP BK110) Tryd.underlying23 rfl (by kernel_rfl)) rfl ?_
    exact ⟨ER, BL HB⟩
  rw [if_neg c3] at H
  have c3b0 : (t111.toList == ([] : List UInt8)) = false := beq_eq_false_iff_ne.mpr c3
  have c3b1 : (t111.toList != ([] : List UInt8)) = true := bne_iff_ne.mpr c3
  obtain ⟨t112, A110, H⟩ := Option.bind_eq_some_iff.mp H
  (try dsimp -simprocs only at H)
  have A11 := Aside0.mk A110
  clear A110
  simp only [Option.some.injEq, Prod.mk.injEq] at H
  obtain ⟨rfl, rfl, rfl⟩ := H
  go_enter Tryd.func18, Tryd.ntmps18
  go_wp2_with (first | (refine be_ 1 #[.bool a0_0, .string a0_1, .int .i64 a0_2] 23 ?_; intro gb109 hg w12 hbox hb; have BK109 := Aside0.mk (hbox); have GW109 := ge_ hg HB; have GE109 := ge_ hg HB; replace HB := hbs_ HB hb; clear hb hbox hg) | (refine be_ 2 #[.bool false, .string (⟨#[]⟩ : ByteArray), .int .i64 0] 23 ?_; intro gb110 hg w13 hbox hb; have BK110 := Aside0.mk (hbox); have GW110 := ge_ hg HB; have GE110 := ge_ hg HB; replace HB := hbs_ HB hb; have NB109_110 := nb_ hg BK109; have NB110_109 := nc_ hg BK109; replace BK109 := bkb_ BK109 hb; clear hb hbox hg; have hnb14 := NB109_110.out; have hnc14 := NB110_109.out; obtain ⟨⟨hcz15_0, hcz15_1, hcz15_2⟩, hfz15_0, hfz15_1, hfz15_2⟩ := ce3 BK109) | ((with_reducible refine gate_callee (f := 44) rfl ?_); refine goesL_ (some 7) rfl rfl Tryd.func44 (by kernel_rfl) rfl #[.string a0_1, .string (⟨#[48]⟩ : ByteArray)] rfl MP ?_; (with_reducible refine (strings_TrimLeft.calls a0_1 (⟨#[48]⟩ : ByteArray) t111 _ A2.out).mono ?_); rintro e w16 ⟨rfl, hb⟩; refine ⟨_, rfl, ?_⟩; replace BK109 := bkb_ BK109 hb; replace BK110 := bkb_ BK110 hb; replace HB := hbs_ HB hb; (try clear hb); (try clear hb2); (try clear hk); (try clear hi)) | ((with_reducible refine gate_callee (f := 45) rfl ?_); refine goesL_ (some 14) rfl rfl Tryd.func45 (by kernel_rfl) rfl #[.string t111, .string (⟨#[48]⟩ : ByteArray)] rfl MP ?_; (with_reducible refine (strings_TrimRight.calls t111 (⟨#[48]⟩ : ByteArray) t112 _ A11.out).mono ?_); rintro e w17 ⟨rfl, hb⟩; refine ⟨_, rfl, ?_⟩; replace BK109 := bkb_ BK109 hb; replace BK110 := bkb_ BK110 hb; replace HB := hbs_ HB hb; (try clear hb); (try clear hb2); (try clear hk); (try clear hi); obtain ⟨⟨hcz18_0, hcz18_1, hcz18_2⟩, hfz18_0, hfz18_1, hfz18_2⟩ := ce3 BK109; obtain ⟨⟨hcz19_0, hcz19_1, hcz19_2⟩, hfz19_0, hfz19_1, hfz19_2⟩ := ce3 BK110))
  refine bodyPost_ret (results_cell_row rfl _ _ gb110 23 #[.bool a0_0, .string t112, .int .i64 (wrap64 ((wrap64 (a0_2 + (t111.size : Int))) - (t112.size : Int)))] (0, 0) _ rfl (BP BK110) Tryd.underlying23 rfl (by kernel_rfl)) rfl ?_
  exact ⟨ER, BL HB⟩
end Go.Proofs.YtbjaiphfehnncaaDoor.Px
end
section
namespace Go.Proofs.YtbjaiphfehnncaaDoor.Px
open Fig Go.RowKit Go.Proofs.YtbjaiphfehnncaaDoorW.PrintWords Go.Proofs.YtbjaiphfehnncaaDoorW.PrintLast Go.Proofs.YtbjaiphfehnncaaDoorW.PrintMore
attribute [local go_sem] max2_int min2_int max_two min_two max_three min_three max_four min_four   -- for this text's walks alone
attribute [local go_sem] fieldA23_0 fieldA23_1 fieldA23_2
set_option maxRecDepth 100000
def lowL (n : Nat) : Nat → List Int
  | 0 => []
  | k + 1 => ((48 + n / 10 ^ k % 10 : Nat) : Int) :: lowL n k
theorem lowL_len (n : Nat) : ∀ k, (lowL n k).length = k
  | 0 => rfl
  | k + 1 => by rw [lowL, List.length_cons, lowL_len n k]
def rowL (n k : Nat) : List Int := List.replicate (9 - k) 0 ++ lowL n k
theorem rowL_len (n k : Nat) (hk : k ≤ 9) : (rowL n k).length = 9 := by rw [rowL, List.length_append, List.length_replicate, lowL_len]; omega
theorem rowL_set (n k : Nat) (hk : k < 9) : (rowL n k).set (8 - k) ((48 + n / 10 ^ k % 10 : Nat) : Int) = rowL n (k + 1) := by
  unfold rowL
  rw [show 9 - k = (8 - k) + 1 by omega, show 9 - (k + 1) = 8 - k by omega, List.replicate_succ', List.append_assoc, List.set_append_right _ _ (by simp), List.length_replicate, Nat.sub_self]
  rfl
set_option maxHeartbeats 4000000 in
theorem ten_limb.calls (n : Nat) (hn : n < 4294967296) (w : World) :
    Calls Tryd.prog 87 #[.int .u32 (n : Int)] w fun e w' => e = .returned (.string (strOfNums (lowL n 9))) ∧ Below w.heap.size w w' := by
  go_enter Tryd.func87, Tryd.ntmps87
  go_wp2
  go_loopg [0, 5] 9 (fun j v0 v5 w' => ∃ k : Nat, v5 = .int .i64 (k : Int) ∧ Aside0 (k + j = 9) ∧ (∃ p : Nat, v0 = .int .u32 (p : Int) ∧ Aside0 (p = n / 10 ^ k)) ∧ Aside0 (w' = w.alloc (.cells ((rowL n k).map (Value.int .u8)).toArray 100)))
  case atStart => exact ⟨0, rfl, ⟨rfl⟩, ⟨n, rfl, ⟨by simp⟩⟩, ⟨rfl⟩⟩
  case round =>
    obtain ⟨k, rfl, HN, ⟨p, rfl, HP⟩, HW⟩ := hrel
    have hw := HW.out
    subst hw
    cases gk with
    | zero =>
      obtain rfl : k = 9 := by have := HN.out; omega
      have hcv := run_convert_bytes_arg (P := Tryd.prog) (w.alloc (.cells ((rowL n 9).map (Value.int .u8)).toArray 100)) 74 5 Tryd.underlying74 Tryd.underlying5 w.heap.size 0 9 9 (rowL n 9) (rowL_len n 9 (by omega)) (fun i hi => by
        have hl := rowL_len n 9 (Nat.le_refl _)
        generalize rowL n 9 = o at hl
        rw [Nat.zero_add]
        unfold World.cell? World.alloc
        simp [List.getD, List.getElem?_eq_getElem (show i < o.length by omega)]) 9 Tryd.underlying9
      have HR := Aside0.mk (show rowL n 9 = lowL n 9 by simp [rowL])
      rw [HR.out] at hcv ⊢
      go_wp2
      go_ret
      exact ⟨rfl, (Below.refl _ w).alloc (Nat.le_refl _) _⟩
    | succ j =>
      have hk : k < 9 := by have := HN.out; omega
      have hg : (rowL n k)[8 - k]? = some 0 := by
        unfold rowL; rw [List.getElem?_append_left (by rw [List.length_replicate]; omega), List.getElem?_replicate, if_pos (by omega)]
      have HS := Aside0.mk (rowL_set n k hk)
      have e1 : wrap64 (8 - (k : Int)) = ((8 - k : Nat) : Int) := by rw [w64 (by omega) (by omega)]; omega
      have e2 : decide ((k : Int) < 9) = true := decide_eq_true (by omega)
      have HPN := Aside0.mk (show p < 4294967296 by have := HP.out; have := Nat.div_le_self n (10 ^ k); omega)
      have HK := Aside0.mk hk
      go_wp2
      go_roundg j
      case measure => omega
      case rel =>
        have hp := HP.out
        have hpn := HPN.out
        have hk := HK.out
        refine ⟨k + 1, ?_, ⟨by have := HN.out; omega⟩, ⟨p / 10, ?_, ⟨by rw [hp, Nat.pow_succ, Nat.div_div_eq_div_mul]⟩⟩, ⟨?_⟩⟩
        · rfl
        · rw [Int.emod_eq_of_lt (by omega) (by omega)]; rfl
        · rw [← HS.out, ← hp, List.map_set]; rfl
end Go.Proofs.YtbjaiphfehnncaaDoor.Px
end
section
namespace Go.Proofs.YtbjaiphfehnncaaDoor.Px
open Fig Go.RowKit Go.Proofs.YtbjaiphfehnncaaDoorW.PrintWords Go.Proofs.YtbjaiphfehnncaaDoorW.PrintLast Go.Proofs.YtbjaiphfehnncaaDoorW.PrintMore
attribute [local go_sem] max2_int min2_int max_two min_two max_three min_three max_four min_four   -- for this text's walks alone
attribute [local go_sem] fieldA23_0 fieldA23_1 fieldA23_2
set_option maxRecDepth 100000
theorem cc_used (b : Nat) (w : World) (h0 : w.cell? ⟨b, 0, none⟩ = some (.pointer (some ⟨b, 0, none⟩))) :
    Calls Tryd.prog 93 #[.pointer (some ⟨b, 0, none⟩)] w fun e w' => e = .returned (.tuple #[]) ∧ w' = w := by
  obtain ⟨j, hj, _⟩ := Option.map_eq_some_iff.1 (show (Tryd.prog.info? 87).map (·.size) = some 2 by kernel_rfl)
  go_enter Tryd.func93, Tryd.ntmps93
  go_wp2
  rw [Lib.run_neq_ptr_same w _ Tryd.underlying85 hj]
  go_wp2
  go_end0
  exact ⟨rfl, rfl⟩
theorem cc_fresh (b : Nat) (w : World) (h0 : w.cell? ⟨b, 0, none⟩ = some (.pointer none)) (hsh : w.shape? b = some (87, 2)) (hfz : w.frozen? ⟨b, 0, none⟩ = false) :
    Calls Tryd.prog 93 #[.pointer (some ⟨b, 0, none⟩)] w fun e w' => e = .returned (.tuple #[]) ∧ w' = w.setCell ⟨b, 0, none⟩ (.pointer (some ⟨b, 0, none⟩)) := by
  obtain ⟨j, hj, hjs⟩ := Option.map_eq_some_iff.1 (show (Tryd.prog.info? 87).map (·.size) = some 2 by kernel_rfl)
  go_enter Tryd.func93, Tryd.ntmps93
  go_wp2
  rw [Lib.run_to_unsafe w ⟨b, 0, none⟩ Tryd.underlying85 Tryd.underlying111 hj (by rw [hjs]; decide) hsh (Nat.zero_lt_succ 1)]
  simp only [Result.andThen]
  rw [Oper.upon_value]
  go_wp2
  rw [run_callFunc_extern Tryd.func98 (by kernel_rfl) (by kernel_rfl) (by kernel_rfl) (e := Extern.AbiNoEscape.same) (by kernel_rfl)]
  rw [Lib.run_noEscape]
  simp only [Result.andThen]
  rw [Oper.upon_value]
  go_wp2
  rw [Lib.run_from_unsafe w ⟨b, 0, none⟩ Tryd.underlying111 Tryd.underlying85 hj hsh (by kernel_rfl)]
  simp only [Result.andThen]
  rw [Oper.upon_value]
  go_wp2
  go_end0
  exact ⟨rfl, rfl⟩
theorem cc (B b : Nat) (bs : List Value) (w : World) (h : Lib.IsBuilderF 87 5 B b bs w) :
    Calls Tryd.prog 93 #[.pointer (some ⟨b, 0, none⟩)] w fun e w' => e = .returned (.tuple #[]) ∧ Lib.BuilderAtF 87 5 B b (.pointer (some ⟨b, 0, none⟩)) bs w' ∧ Below B w w' ∧ Lib.OthersKept 5 (some b) w w' := by
  rcases h with h | h
  · refine (cc_fresh b w h.cell0 h.shape h.frozen0).mono ?_
    rintro e w' ⟨rfl, rfl⟩
    exact ⟨rfl, h.used _, (Below.refl B w).setCell (p := ⟨b, 0, none⟩) h.1 _, (Lib.OthersKept.refl _ _ w).setCell ⟨b, 0, none⟩ rfl _⟩
  · refine (cc_used b w h.cell0).mono ?_
    rintro e w' ⟨rfl, rfl⟩
    exact ⟨rfl, h, Below.refl B _, Lib.OthersKept.refl _ _ _⟩
set_option maxHeartbeats 2000000 in
theorem strings_WriteString.calls (B b : Nat) (bs : List Value) (s : ByteArray) (w : World) (h : Lib.IsBuilderF 87 5 B b bs w) (hlen : bs.length + s.size ≤ 140737488355328) (hBw : B ≤ w.heap.size) :
    Calls Tryd.prog 86 #[.pointer (some ⟨b, 0, none⟩), .string s] w fun e w' => e = .returned (.tuple #[.int .i64 s.size, .nilIface]) ∧ Lib.BuilderAtF 87 5 B b (.pointer (some ⟨b, 0, none⟩)) (bs ++ Lib.strCells s) w' ∧ Below B w w' ∧ Lib.OthersKept 5 (some b) w w' := by
  obtain ⟨i0, hi, hz0, hz1, hz2⟩ := info_parts (show (Tryd.prog.info? 5).map (fun i => (i.zero, i.size, i.bytes)) = some (some (.int .u8 0), 1, 1) by kernel_rfl)
  go_enter Tryd.func86, Tryd.ntmps86
  go_wp2_with (go_at_call 93; refine (cc B b bs _ h).mono ?_)
  rintro e w1 ⟨rfl, h1, hb1, hk1⟩
  obtain ⟨hB, v, hbk, hown, hne⟩ := h1
  have c0 : w1.cell? ⟨b, 0, none⟩ = some (.pointer (some ⟨b, 0, none⟩)) := by rw [Lib.cell_of_heap hbk]; rfl
  have c1 : w1.cell? ⟨b, 1, none⟩ = some v := by rw [Lib.cell_of_heap hbk]; rfl
  go_wp2_with (at_builtin; refine Lib.wpList_append_own_stringF _ rfl _ _ 74 9 rfl B 5 i0 Tryd.underlying74 Tryd.underlying9 hi hz0 hz1 hz2 _ _ _ rfl hown s rfl ?c3 ?c4 ?c5 ?_)
  case c3 => unfold maxLen; omega
  case c4 => omega
  case c5 => have := hb1.size; omega
  intro v' w2 hown' hgrow _
  have hlt : b < w1.heap.size := by
    rcases Nat.lt_or_ge b w1.heap.size with h' | h'
    · exact h'
    · simp [Array.getElem?_eq_none h'] at hbk
  have hb2 : w2.heap[b]? = some (.cells #[.pointer (some ⟨b, 0, none⟩), v] 87 (0, 0)) := by
    rw [hgrow.block b hlt (fun e => hne e.symm)]
    exact hbk
  have d0 : w2.cell? ⟨b, 0, none⟩ = some (.pointer (some ⟨b, 0, none⟩)) := by rw [Lib.cell_of_heap hb2]; rfl
  have d1 : w2.cell? ⟨b, 1, none⟩ = some v := by rw [Lib.cell_of_heap hb2]; rfl
  have f1 : w2.frozen? ⟨b, 1, none⟩ = false := Lib.frozen_of_heap hb2 1
  obtain ⟨ao, n', cap, rfl⟩ : ∃ ao n' cap, v' = .slice ao n' cap := by
    rcases hown'.2 with ⟨hv, _⟩ | ⟨g, cap, cur, fz, hv, _⟩
    · exact ⟨_, _, _, hv⟩
    · exact ⟨_, _, _, hv⟩
  go_wp2
  go_ret2
  refine ⟨rfl, ?_, ?_, (hk1.grown hgrow (Lib.ownsRowF_kind hown)).setCell ⟨b, 1, none⟩ rfl _⟩
  · exact Lib.BuilderAtF.put (T := 87) (e := 5) hB hb2 (bs' := bs ++ Lib.strCells s) (by simpa [Lib.strCells_length] using hown') (by decide)
  · exact (hb1.grown hgrow (by have := hb1.size; omega) (fun k hk => (hown.lt k hk).1)).setCell (p := ⟨b, 1, none⟩) hB _
abbrev U32 := { n : Nat // n < 4294967296 }
def toU (x : Int) : U32 := ⟨x.toNat % 4294967296, Nat.mod_lt _ (by decide)⟩
theorem toU_val {x : Int} (h : 0 ≤ x ∧ x < 4294967296) : ((toU x).1 : Int) = x := by
  unfold toU; show ((x.toNat % 4294967296 : Nat) : Int) = x; omega
def bk (zs : List Int) (m : Nat) : List (Nat × U32) := (List.range m).map fun j => (zs.length - 1 - j, toU (rd zs ((zs.length - 1 - j : Nat) : Int)))
theorem bk_succ (zs : List Int) (m : Nat) : bk zs (m + 1) = bk zs m ++ [(zs.length - 1 - m, toU (rd zs ((zs.length - 1 - m : Nat) : Int)))] := by simp [bk, List.range_succ]
theorem bk_len (zs : List Int) (m : Nat) : (bk zs m).length = m := by simp [bk]
def KpD (n₀ Bs : Nat) (W W' : World) : Prop := Below n₀ W W' ∧ (∀ cs fz, W.heap[Bs]? = some (.cells cs 28 fz) → W'.heap[Bs]? = some (.cells cs 28 fz))
theorem KpD.trans {n₀ Bs : Nat} {A B C : World} (h : KpD n₀ Bs A B) (k : KpD n₀ Bs B C) : KpD n₀ Bs A C := ⟨h.1.trans k.1, fun cs fz e => k.2 cs fz (h.2 cs fz e)⟩
section
attribute [local go_sem] Oper.semAt_some
set_option maxRecDepth 100000 in
set_option maxHeartbeats 2000000 in
theorem back1_in (F : Fence) (n : Nat) (h32 : F.fn 92) (hro : F.round = none) (hn : 1 ≤ n) (l Bs : Nat) (A : Option Addr) (c : Nat) (zs : List Int) (hz : ∀ x ∈ zs, 0 ≤ x ∧ x < 4294967296) (hlen : zs.length ≤ 1000000) (w : World) (hr : Kd.C (Kd.int .u32) w A zs.length zs)
    (J Jx : List (Nat × U32) → World → Prop)
    (hY : ∀ pre x W, J pre W → pre.length < zs.length → YieldAt F (n - 1) Tryd.prog l #[.int .i64 (x.1 : Int), .int .u32 (x.2.1 : Int)] W fun e W' =>
      (e = .returned (.bool true) ∧ J (pre ++ [x]) W' ∧ KpD w.heap.size Bs W W') ∨ (e = .returned (.bool false) ∧ Jx (pre ++ [x]) W'))
    (W : World) (hW : Below w.heap.size w W) (hBs : W.heap[Bs]? = some (.cells #[.slice A zs.length c] 28 (0, 0))) (h0 : J [] W) :
    CallsIn F n Tryd.prog 92 #[.func (.yield l) #[] #[], .pointer (some ⟨Bs, 0, none⟩)] W fun e W' => (∃ v, e = .returned v) ∧
      ((∃ ys, ys = bk zs zs.length ∧ J ys W') ∨ (∃ pre, (∃ k, k ≤ zs.length ∧ pre = bk zs k) ∧ Jx pre W')) := by
  have hb0 : W.cell? ⟨Bs, 0, none⟩ = some (.slice A zs.length c) := Lib.cell_of_heap hBs 0
  have HB := Aside0.mk hBs
  have HW := Aside0.mk hW
  clear hBs hW
  have HR := Aside0.mk hr
  have HZ := Aside0.mk hz
  clear hr hz
  refine callsIn_of_wp Tryd.func92 rfl h32 ?_ hro
  simp only [Tryd.ntmps92, List.size_toArray, List.length_cons, List.length_nil, Nat.reduceAdd, Nat.reduceSub, Array.replicate_succ, Array.replicate_zero, List.push_toArray, List.append_toArray, List.nil_append, List.cons_append]
  have e0 : wrap64 ((zs.length : Int) - 1) = (zs.length : Int) - 1 := by rw [w64 (by omega) (by omega)]
  gi_wp2
  gi_loopw [3] (fun i wr => ∃ q m : Nat, i = .int .i64 ((q : Int) - 1) ∧ Aside0 (q + m = zs.length) ∧ Aside0 (J (bk zs m) wr) ∧ Aside0 (KpD w.heap.size Bs W wr))
    (fun i _ => (intOf i + 1).toNat)
  case atStart => exact ⟨zs.length, 0, rfl, ⟨rfl⟩, ⟨h0⟩, ⟨Below.refl _ _, fun _ _ e => e⟩⟩
  case round =>
    obtain ⟨q, m, rfl, HQ, HJ, HK⟩ := hrel
    have hcb : wr.cell? ⟨Bs, 0, none⟩ = some (.slice A zs.length c) := Lib.cell_of_heap (HK.out.2 _ _ HB.out) 0
    clear hb0 h0
    cases q with
    | zero =>
      have e1 : (((0 : Nat) : Int) - 1) = -1 := rfl
      rw [e1]
      obtain rfl : m = zs.length := by have := HQ.out; omega
      gi_wp2
      go_end0
      exact ⟨⟨_, rfl⟩, .inl ⟨_, rfl, HJ.out⟩⟩
    | succ p =>
      have e1 : (((p + 1 : Nat) : Int) - 1) = (p : Int) := by omega
      rw [e1]
      have hp : p < zs.length := by have := HQ.out; omega
      obtain ⟨ad, ea, hc⟩ := Kd.at_int HR.out (p : Int) (by omega) (by omega)
      subst ea
      rw [Int.toNat_natCast] at hc
      have hc2 := (HW.out.trans HK.out.1).cell (World.block_lt_of_cell? w _ hc) |>.trans hc
      have hx : zs.length - 1 - m = p := by have := HQ.out; omega
      have hv : ((toU (rd zs (p : Int))).1 : Int) = rd zs (p : Int) := toU_val (by rw [rd_get hp]; exact HZ.out _ (List.getElem_mem hp))
      obtain ⟨fn, tmps, assign, body, hy, hR⟩ := hY _ (p, toU (rd zs (p : Int))) wr HJ.out (by rw [bk_len]; have := HQ.out; omega)
      dsimp only at hy
      rw [hv] at hy
      have hd : decide (p < zs.length) = true := decide_eq_true hp
      have qn := eq_true hp
      clear hc hv hp
      gi_wp2
      refine hR.mono ?_
      rintro e W3 (⟨rfl, hJ3, hk3⟩ | ⟨rfl, hJx3⟩)
      · have HJ3 := Aside0.mk hJ3
        have HK3 := Aside0.mk hk3
        clear hJ3 hk3 hR hy
        gi_wp2
        go_roundw
        case rel =>
          refine ⟨p, m + 1, rfl, ⟨by have := HQ.out; omega⟩, ⟨?_⟩, ⟨HK.out.trans HK3.out⟩⟩
          rw [bk_succ, hx]; exact HJ3.out
        case measure => simp only [intOf]; omega
      · have HJ3 := Aside0.mk hJx3
        clear hJx3 hR hy
        gi_wp2
        refine bodyPost_ret (results_none rfl _ _ _) rfl ?_
        exact ⟨⟨_, rfl⟩, .inr ⟨_, ⟨m + 1, by have := HQ.out; omega, rfl⟩, by rw [bk_succ, hx]; exact HJ3.out⟩⟩
set_option maxHeartbeats 1000000 in
theorem back_in (F : Fence) (n : Nat) (h23 : F.fn 85) (hro : F.round = none) (a : Option Addr) (len cap : Nat) (w : World) :
    CallsIn F n Tryd.prog 85 #[.slice a len cap] w fun e w' => e = .returned (.func (.func 92) #[] #[.pointer (some ⟨w.heap.size, 0, none⟩)]) ∧ w' = w.alloc (.cells #[.slice a len cap] 28) := by
  refine callsIn_of_wp Tryd.func85 rfl h23 ?_ hro
  simp only [Tryd.ntmps85, List.size_toArray, List.length_cons, List.length_nil, Nat.reduceAdd, Nat.reduceSub, Array.replicate_succ, Array.replicate_zero, List.push_toArray, List.append_toArray, List.nil_append, List.cons_append]
  gi_wp2
  go_ret
  exact ⟨rfl, rfl⟩
theorem back_stops (F : Fence) (n : Nat) (h32 : F.fn 92) (hro : F.round = none) (hn : 1 ≤ n) (Bs : Nat) (A : Option Addr) (c : Nat) (zs : List Int) (hz : ∀ x ∈ zs, 0 ≤ x ∧ x < 4294967296) (hlen : zs.length ≤ 1000000) (w : World) (hr : Kd.C (Kd.int .u32) w A zs.length zs)
    (W0 : World) (hW0 : Below w.heap.size w W0) (hBl : Bs < W0.heap.size) (hBs : W0.heap[Bs]? = some (.cells #[.slice A zs.length c] 28 (0, 0))) :
    SeqStopsK F n Tryd.prog 92 #[.pointer (some ⟨Bs, 0, none⟩)] (fun x : Nat × U32 => #[Value.int .i64 (x.1 : Int), Value.int .u32 (x.2.1 : Int)]) (KpD w.heap.size Bs) (fun ys => ys = bk zs zs.length)
      (fun pre => ∃ k, k ≤ zs.length ∧ pre = bk zs k) zs.length W0 := fun l J Jx W hW _ _ hY h0 =>
  back1_in F n h32 hro hn l Bs A c zs hz hlen w hr J Jx hY W (hW0.trans (hW.mono hW0.size)) ((hW.block Bs hBl).trans hBs) h0
end
def limbB (n : Nat) : List UInt8 := (strOfNums (lowL n 9)).data.toList
theorem low_dig (n : Nat) : ∀ k, digL ((lowL n k).map fun x => UInt8.ofNat x.toNat) = true ∧ rv ((lowL n k).map fun x => UInt8.ofNat x.toNat).reverse = n % 10 ^ k
  | 0 => ⟨rfl, by simp [lowL, rv, Nat.mod_one]⟩
  | k + 1 => by
    obtain ⟨h1, h2⟩ := low_dig n k
    have e : (UInt8.ofNat (48 + n / 10 ^ k % 10)).toNat = 48 + n / 10 ^ k % 10 := by rw [UInt8.toNat_ofNat']; omega
    rw [lowL, List.map_cons, Int.toNat_natCast]
    refine ⟨?_, ?_⟩
    · rw [digL_cons, isD_iff, e]; exact ⟨by omega, h1⟩
    · rw [List.reverse_cons, rv_append, h2, List.length_reverse, List.length_map, lowL_len]
      simp only [rv, e]
      rw [Nat.mul_zero, Nat.add_zero, Nat.add_sub_cancel_left, Nat.pow_succ, Nat.mod_mul]
theorem limbB_dig (n : Nat) : digL (limbB n) = true := by unfold limbB; rw [B_nums]; exact (low_dig n 9).1
theorem limbB_val {n : Nat} (h : n < 1000000000) : rv (limbB n).reverse = n := by unfold limbB; rw [B_nums, (low_dig n 9).2]; exact Nat.mod_eq_of_lt h
theorem limbB_len (n : Nat) : (limbB n).length = 9 := by unfold limbB; rw [B_nums, List.length_map, lowL_len]
def accL (pre : List (Nat × U32)) : List UInt8 := pre.flatMap fun x => limbB x.2.1
theorem accL_snoc (pre : List (Nat × U32)) (x : Nat × U32) : accL (pre ++ [x]) = accL pre ++ limbB x.2.1 := by simp [accL]
theorem accL_len (pre : List (Nat × U32)) : (accL pre).length = 9 * pre.length := by
  induction pre with
  | nil => rfl
  | cons x pre ih => rw [show accL (x :: pre) = limbB x.2.1 ++ accL pre from rfl, List.length_append, limbB_len, ih, List.length_cons]; omega
theorem acc_val (zs : List Int) (g : goodL zs = true) : ∀ m, m ≤ zs.length → digL (accL (bk zs m)) = true ∧ rv (accL (bk zs m)).reverse = valL (zs.drop (zs.length - m))
  | 0, _ => ⟨rfl, by simp [accL, bk, rv, valL]⟩
  | m + 1, hm => by
    obtain ⟨h1, h2⟩ := acc_val zs g m (by omega)
    have hp : zs.length - 1 - m < zs.length := by omega
    have hx := goodL_iff.1 g _ (List.getElem_mem hp)
    rw [bk_succ, accL_snoc, digL_append, h1, limbB_dig, List.reverse_append, rv_append, h2, List.length_reverse, limbB_len, rd_get hp]
    refine ⟨⟨rfl, rfl⟩, ?_⟩
    have e : (toU (zs[zs.length - 1 - m]'hp)).1 = (zs[zs.length - 1 - m]'hp).toNat := by unfold toU; show _ % _ = _; omega
    rw [e, limbB_val (by omega), show zs.length - (m + 1) = zs.length - 1 - m by omega, List.drop_eq_getElem_cons hp, valL, show zs.length - 1 - m + 1 = zs.length - m by omega]
def zeroB (n : Nat) : ByteArray := if n = 0 then ⟨#[48]⟩ else digB n
theorem isBuilderF_kept {T e : TypeId} {B b : Nat} {bs : List Value} {w w' : World} {row : Option Nat} (h : Lib.IsBuilderF T e B b bs w) (hg : w.grownBy w' row) (hr : ∀ r, row = some r → ∃ o : Obj, w.heap[r]? = some o ∧ o.isCells = false) : Lib.IsBuilderF T e B b bs w' := by
  have key : ∀ (k : Nat) (cs : Array Value) (t : TypeId) (fz : Nat × Nat), w.heap[k]? = some (.cells cs t fz) → w'.heap[k]? = some (.cells cs t fz) := fun k cs t fz hk => by
    rw [hg.block k (Array.getElem?_eq_some_iff.1 hk).1 (fun he => by
      obtain ⟨o, ho, hc⟩ := hr k he.symm
      rw [hk] at ho; cases ho; cases hc)]
    exact hk
  have one : ∀ p, Lib.BuilderAtF T e B b p bs w → Lib.BuilderAtF T e B b p bs w' := fun p ⟨hB, v, hb, ⟨hl, ho⟩, hne⟩ =>
    ⟨hB, v, key _ _ _ _ hb, ⟨hl, ho.imp id fun ⟨g, cap, cur, fz, h1, h2, h3, h4⟩ => ⟨g, cap, cur, fz, h1, h2, key _ _ _ _ h3, h4⟩⟩, hne⟩
  exact h.imp (one _) (one _)
theorem isBuilderF_below {T e : TypeId} {B b : Nat} {bs : List Value} {w w' : World} (h : Lib.IsBuilderF T e B b bs w) (hg : Below w.heap.size w w') : Lib.IsBuilderF T e B b bs w' := by
  have key : ∀ (k : Nat) (cs : Array Value) (t : TypeId) (fz : Nat × Nat), w.heap[k]? = some (.cells cs t fz) → w'.heap[k]? = some (.cells cs t fz) := fun k cs t fz hk => by
    rw [hg.block k (Array.getElem?_eq_some_iff.1 hk).1]; exact hk
  have one : ∀ p, Lib.BuilderAtF T e B b p bs w → Lib.BuilderAtF T e B b p bs w' := fun p ⟨hB, v, hb, ⟨hl, ho⟩, hne⟩ =>
    ⟨hB, v, key _ _ _ _ hb, ⟨hl, ho.imp id fun ⟨g, cap, cur, fz, h1, h2, h3, h4⟩ => ⟨g, cap, cur, fz, h1, h2, key _ _ _ _ h3, h4⟩⟩, hne⟩
  exact h.imp (one _) (one _)
theorem strCells_eq (s : ByteArray) : Lib.strCells s = Lib.byteCells s.data.toList := rfl
theorem byteCells_append (a b : List UInt8) : Lib.byteCells a ++ Lib.byteCells b = Lib.byteCells (a ++ b) := by simp [Lib.byteCells]
section
attribute [local go_sem] Oper.semAt_some
set_option maxRecDepth 100000 in
set_option maxHeartbeats 4000000 in
theorem digits_calls (A : Option Addr) (c : Nat) (zs : List Int) (g : goodL zs = true) (hlen : zs.length ≤ 1000000) (w : World) (hr : Kd.C (Kd.int .u32) w A zs.length zs) :
    Calls Tryd.prog 75 #[.slice A zs.length c] w fun e W' => e = .returned (.string (zeroB (valL zs))) ∧ Below w.heap.size w W' := by
  have hz : ∀ x ∈ zs, 0 ≤ x ∧ x < 4294967296 := fun x hx => by have := goodL_iff.1 g x hx; omega
  refine (callsIn_wide (n := 5)).1 ?_
  obtain ⟨F, hF⟩ : ∃ F, F = Fence.wide := ⟨_, rfl⟩
  have hfn : ∀ k, Fence.wide.fn k := fun _ => trivial
  have hro : Fence.wide.round = none := rfl
  refine callsIn_of_wp_marks Tryd.func75 rfl (hfn 75) ?_ hro
  simp only [Tryd.ntmps75, List.size_toArray, List.length_cons, List.length_nil, Nat.reduceAdd, Nat.reduceSub, Array.replicate_succ, Array.replicate_zero, List.push_toArray, List.append_toArray, List.nil_append, List.cons_append]
  have HR := Aside0.mk hr
  have HZ := Aside0.mk hz
  have HG := Aside0.mk g
  clear hr hz g hF F
  gi_wp2_with (gi_at_call 85; refine (back_in Fence.wide _ (hfn 85) hro _ _ _ _).mono ?_; rintro e w' ⟨rfl, rfl⟩)
  have hB0 : Below w.heap.size w ((w.alloc (.cells #[.pointer none, .slice none 0 0] 87)).alloc (.cells #[.slice A zs.length c] 28)) := ((Below.refl _ w).alloc (Nat.le_refl _) _).alloc (by simp) _
  have hbx : ((w.alloc (.cells #[.pointer none, .slice none 0 0] 87)).alloc (.cells #[.slice A zs.length c] 28)).heap[w.heap.size + 1]? = some (.cells #[.slice A zs.length c] 28 (0, 0)) := by
    have := World.alloc_heap_new (w.alloc (.cells #[.pointer none, .slice none 0 0] 87)) (.cells #[.slice A zs.length c] 28)
    simpa using this
  have hbd : Lib.IsBuilderF 87 5 w.heap.size w.heap.size (Lib.byteCells (accL [])) ((w.alloc (.cells #[.pointer none, .slice none 0 0] 87)).alloc (.cells #[.slice A zs.length c] 28)) := (Lib.IsBuilderF.of (Lib.fresh_isBuilder 87 5 w)).alloc _
  refine wpIn_rangeFunc_ownF hro (by omega) (gf := 92) (lb := #[.pointer (some ⟨w.heap.size + 1, 0, none⟩)]) rfl (hfn 92) (enters_of Tryd.func92 (by kernel_rfl) rfl)
    (back_stops Fence.wide _ (hfn 92) hro (by omega) (w.heap.size + 1) A c zs HZ.out hlen w HR.out _ hB0 (by simp) hbx) KpD.trans ?kb (Below.refl _ _) (fun _ => rfl)
    (fun pre W => Lib.IsBuilderF 87 5 w.heap.size w.heap.size (Lib.byteCells (accL pre)) W ∧ Below w.heap.size w W)
    (fun _ _ _ => False)
    (OwnFrom.and (Own.from (I := fun pre W => Lib.IsBuilderF 87 5 w.heap.size w.heap.size (Lib.byteCells (accL pre)) W) (fun s A B row hs hg hr => isBuilderF_kept hs hg hr) _) (ownFrom_below (Nat.le_refl _) (by simp; omega)))
    (fun _ _ _ _ _ hs _ _ => hs)
    ⟨hbd, hB0⟩
    (fun x => { tmps := #[.slice A zs.length c, undef, .string { data := #[] }, .pointer (some ⟨w.heap.size, 0, none⟩), undef, .int .u32 (x.2.1 : Int), undef, .slice A zs.length c, .func (.func 92) #[] #[.pointer (some ⟨w.heap.size + 1, 0, none⟩)], .int .i64 (x.1 : Int), .int .u32 (x.2.1 : Int), undef, undef, undef, undef, undef, undef, undef, undef], defers := [] }) ?assign ?body ?done ?stop
  case kb =>
    intro W l o o' hl hlo ho hk
    refine ⟨belowK_b (w := w) (Nat.le_refl _) W l o o' (by simp at hl; omega) hlo ho hk, fun cs fz e => ?_⟩
    rw [World.putObj_heap_other (fun he => by subst he; rw [hlo] at e; cases e; cases ho)]
    exact e
  case assign =>
    intro l x W K hK
    gi_wp2
    exact hK
  case body =>
    rintro l pre x W ⟨hBd, hB⟩ hpre
    have HBd := Aside0.mk hBd
    have HB := Aside0.mk hB
    have HL := Aside0.mk (show (Lib.byteCells (accL pre)).length + (strOfNums (lowL x.2.1 9)).size ≤ 140737488355328 by
      rw [show (Lib.byteCells (accL pre)).length = (accL pre).length by simp [Lib.byteCells], accL_len, strOfNums_size, lowL_len]; omega)
    clear hBd hB hbd hbx hB0
    gi_wp2_with (first
      | (gi_at_call 87; refine (CallsIn.inRound l (callsIn_wide.2 (ten_limb.calls x.2.1 x.2.2 _))).mono ?_; rintro e W1 ⟨rfl, hb1⟩; have HB1 := Aside0.mk hb1; clear hb1)
      | (gi_at_call 86; refine (CallsIn.inRound l (callsIn_wide.2 (strings_WriteString.calls w.heap.size w.heap.size _ _ _ (isBuilderF_below HBd.out HB1.out) HL.out (Nat.le_trans HB.out.size HB1.out.size)))).mono ?_; rintro e W2 ⟨rfl, h2, hb2, hk2⟩; have H2 := Aside0.mk h2; have HB2 := Aside0.mk hb2; have HK2 := Aside0.mk hk2; have HB1' := HB1; clear h2 hb2 hk2))
    have hkeep : ∀ (k : Nat) (o : Obj), W.heap[k]? = some o → k ≠ w.heap.size → (∀ cs fz, o ≠ .cells cs 5 fz) → W2.heap[k]? = some o := fun k o hk hne ho => by
      refine HK2.out k o ?_ (fun e => hne (by cases e; rfl)) ho
      rw [HB1.out.block k (Array.getElem?_eq_some_iff.1 hk).1]; exact hk
    have hlt : w.heap.size < W.heap.size := by
      rcases HBd.out with h | h
      · exact (Array.getElem?_eq_some_iff.1 h.2.choose_spec.1).1
      · exact (Array.getElem?_eq_some_iff.1 h.2.choose_spec.1).1
    have hcell : ∃ cs t fz, W.heap[w.heap.size]? = some (.cells cs t fz) := by
      rcases HBd.out with h | h
      · exact ⟨_, _, _, h.2.choose_spec.1⟩
      · exact ⟨_, _, _, h.2.choose_spec.1⟩
    have hB12 : Below w.heap.size W W2 := (HB1.out.mono (Nat.le_of_lt hlt)).trans HB2.out
    refine ⟨⟨hB12.size, fun k o hk ho => hkeep k o hk (fun e => by subst e; obtain ⟨cs, t, fz, hc⟩ := hcell; rw [hc] at hk; cases hk; cases ho) (fun cs fz e => by subst e; cases ho)⟩,
      ⟨hB12, fun cs fz e => hkeep _ _ e (by omega) (fun cs' fz' e' => by cases e')⟩, .inr ?_, HB.out.trans hB12⟩
    have h2 := H2.out
    rw [strCells_eq, byteCells_append] at h2
    rw [accL_snoc]; exact h2
  case done =>
    rintro D ys W hD rfl ⟨hBd, hB⟩ hK
    have HBd := Aside0.mk hBd
    have HB := Aside0.mk hB
    have HK := Aside0.mk hK
    clear hBd hB hbd hbx hB0 hK
    have HV := Aside0.mk (show Lib.trimLeftB (accL (bk zs zs.length)) 48 = digs (valL zs) by
      obtain ⟨h1, h2⟩ := acc_val zs HG.out zs.length (Nat.le_refl _)
      rw [Nat.sub_self, List.drop_zero] at h2
      rw [← h2]; exact stripL_eq h1)
    gi_wp2_with (first
      | (gi_at_call 88; refine (callsIn_wide.2 (Tryd.Builder_String_any_k w.heap.size w.heap.size (accL (bk zs zs.length)) _ HBd.out HB.out.size)).mono ?_; rintro e W1 ⟨rfl, h1, hb1, hk1⟩; have HB1 := Aside0.mk hb1; have HK1 := Aside0.mk (hk1 D _ HK.out (fun e => by cases e; simp at hD; omega) (fun _ _ e => by cases e)); clear h1 hb1 hk1)
      | (gi_at_call 44; refine (callsIn_wide.2 (Tryd.strings_TrimLeft_one _ 48 (by decide) _)).mono ?_; rintro e W2 ⟨rfl, rfl⟩))
    · have hne : (!(Lib.trimLeftB (accL (bk zs zs.length)) 48).isEmpty) = true := by assumption
      rw [HV.out] at hne ⊢
      have hz0 : valL zs ≠ 0 := fun e => by rw [e, digs_zero] at hne; cases hne
      refine ⟨by simp, .inl ⟨_, _, rfl, run_takeDeferred HK1.out, ?_⟩⟩
      exact ⟨_, results_tmp rfl _ _ _, by rw [zeroB, if_neg hz0]; rfl, (HB.out.trans HB1.out).trans (belowK_b (w := w) (Nat.le_refl _) _ D _ _ (by simp at hD; omega) HK1.out rfl rfl)⟩
    · have hne : (!(Lib.trimLeftB (accL (bk zs zs.length)) 48).isEmpty) = false := by assumption
      rw [HV.out] at hne ⊢
      have hz0 : valL zs = 0 := digs_nil_iff.1 (by simpa using hne)
      refine ⟨by simp, .inl ⟨_, _, rfl, run_takeDeferred HK1.out, ?_⟩⟩
      exact ⟨_, results_tmp rfl _ _ _, by rw [zeroB, if_pos hz0]; rfl, (HB.out.trans HB1.out).trans (belowK_b (w := w) (Nat.le_refl _) _ D _ _ (by simp at hD; omega) HK1.out rfl rfl)⟩
  case stop =>
    rintro D c pre W _ _ h _
    exact h.elim
end
def ten_Digits.f (l0 : List Int) : Option ByteArray := if goodL l0 = true ∧ l0.length ≤ 1000000 then some (zeroB (valL l0)) else none
theorem ten_Digits.calls (A0 : Option Addr) (c0 : Nat) (l0 : List Int) (r : ByteArray) (w : World) (hr0 : Kd.C (Kd.int .u32) w A0 l0.length l0) (hc0 : l0.length ≤ c0) (h : ten_Digits.f l0 = some r) :
    Calls Tryd.prog 75 #[.slice A0 l0.length c0] w fun e w' => e = .returned (.string r) ∧ Below w.heap.size w w' := by
  unfold ten_Digits.f at h
  by_cases hg : goodL l0 = true ∧ l0.length ≤ 1000000
  · rw [if_pos hg] at h
    obtain rfl := Option.some.inj h
    exact digits_calls A0 c0 l0 hg.1 hg.2 w hr0
  · rw [if_neg hg] at h; cases h
end Go.Proofs.YtbjaiphfehnncaaDoor.Px
end
section
namespace Go.Proofs.YtbjaiphfehnncaaDoor.Px
open Fig Go.RowKit Go.Proofs.YtbjaiphfehnncaaDoorW.PrintWords Go.Proofs.YtbjaiphfehnncaaDoorW.PrintLast Go.Proofs.YtbjaiphfehnncaaDoorW.PrintMore
attribute [local go_sem] max2_int min2_int max_two min_two max_three min_three max_four min_four   -- for this text's walks alone
attribute [local go_sem] fieldA23_0 fieldA23_1 fieldA23_2
def arith_made.f (a0 : Bool) (l1 : List Int) (a2 : Int) : Option (Bool × ByteArray × Int) := (ten_Digits.f l1).bind fun t301 => ((dec_Norm.f a0 t301 a2).bind fun bt302 => (if bt302.1 = true then (some (decide ((l1.length : Int) > 0), bt302.2.1, bt302.2.2)) else (some (false, bt302.2.1, bt302.2.2))))
set_option maxHeartbeats 8000000 in
set_option maxRecDepth 100000 in
theorem arith_made.calls (a0 : Bool) (A1 : Option Addr) (c1 : Nat) (l1 : List Int) (a2 : Int) (r1 : Bool) (r2 : ByteArray) (r3 : Int) (w : World) (hr1 : Kd.C (Kd.int .u32) w A1 l1.length l1) (hc1 : l1.length ≤ c1) (h : arith_made.f a0 l1 a2 = some (r1, r2, r3)) :
    Calls Tryd.prog 53 #[.bool a0, .slice A1 l1.length c1, .int .i64 a2] w fun e w' => e = .returned (.agg #[.bool r1, .string r2, .int .i64 r3]) ∧ Below w.heap.size w w' := by
  have hu23 := Tryd.underlying23
  have HR1 := Aside0.mk hr1
  have HC1 := Aside0.mk hc1
  clear hr1 hc1
  have HB := Aside0.mk (Below.refl w.heap.size w)
  have H : ((ten_Digits.f l1).bind fun t301 => ((dec_Norm.f a0 t301 a2).bind fun bt302 => (if bt302.1 = true then (some (decide ((l1.length : Int) > 0), bt302.2.1, bt302.2.2)) else (some (false, bt302.2.1, bt302.2.2))))) = some (r1, r2, r3) := h
  clear h
  obtain ⟨t301, A40, H⟩ := Option.bind_eq_some_iff.mp H
  (try dsimp -simprocs only at H)
  have A4 := Aside0.mk A40
  clear A40
  obtain ⟨⟨t302, t303, t304⟩, A50, H⟩ := Option.bind_eq_some_iff.mp H
  (try dsimp -simprocs only at H)
  have A5 := Aside0.mk A50
  clear A50
  by_cases c6 : t302 = true
  · subst c6
    rw [if_pos rfl] at H
    simp only [Option.some.injEq, Prod.mk.injEq] at H
    obtain ⟨rfl, rfl, rfl⟩ := H
    rw [show decide ((l1.length : Int) > 0) = decide (0 < l1.length) from by rw [decide_eq_decide]; omega]
    go_enter Tryd.func53, Tryd.ntmps53
    go_wp2_with (first | ((with_reducible refine gate_dst (N := 6) rfl ?_); (try (refine gate_guard (by rfl) ?_; dsimp only)); refine be_ 6 #[.bool false, .string (⟨#[]⟩ : ByteArray), .int .i64 0] 23 ?_; intro gb300 hg w7 hbox hb; have BK300 := Aside0.mk (hbox); have GW300 := ge_ hg HB; have GE300 := ge_ hg HB; replace HB := hbs_ HB hb; clear hb hbox hg) | ((with_reducible refine gate_callee (f := 75) rfl ?_); refine goesL_ (some 10) rfl rfl Tryd.func75 (by kernel_rfl) rfl #[.slice A1 l1.length c1] rfl MP ?_; (with_reducible refine (ten_Digits.calls _ _ l1 t301 _ ?side1 ?side2 A4.out).mono ?_); (case side1 => exact CB (Kd.C_below HR1.out HB.out)); (case side2 => exact HC1.out); rintro e w8 ⟨rfl, hb⟩; refine ⟨_, rfl, ?_⟩; replace BK300 := bkb_ BK300 hb; replace HB := hbs_ HB hb; (try clear hb); (try clear hb2); (try clear hk); (try clear hi)) | ((with_reducible refine gate_callee (f := 18) rfl ?_); refine goesL_ (some 13) rfl rfl Tryd.func18 (by kernel_rfl) rfl #[.agg #[.bool a0, .string t301, .int .i64 a2]] rfl MP ?_; (with_reducible refine (dec_Norm.calls a0 t301 a2 true t303 t304 _ A5.out).mono ?_); rintro e w9 ⟨rfl, hb⟩; refine ⟨_, rfl, ?_⟩; replace BK300 := bkb_ BK300 hb; replace HB := hbs_ HB hb; (try clear hb); (try clear hb2); (try clear hk); (try clear hi)) | ((with_reducible refine gate_dst (N := 7) rfl ?_); (try (refine gate_guard (by rfl) ?_; dsimp only)); refine be_ 7 #[.bool false, .string (⟨#[]⟩ : ByteArray), .int .i64 0] 23 ?_; intro gb305 hg w10 hbox hb; have BK305 := Aside0.mk (hbox); have GW305 := ge_ hg HB; have GE305 := ge_ hg HB; replace HB := hbs_ HB hb; have NB300_305 := nb_ hg BK300; have NB305_300 := nc_ hg BK300; replace BK300 := bkb_ BK300 hb; clear hb hbox hg; have hnb11 := NB305_300.out; have hnc11 := NB300_305.out; obtain ⟨⟨hcz12_0, hcz12_1, hcz12_2⟩, hfz12_0, hfz12_1, hfz12_2⟩ := ce3 BK305; obtain ⟨⟨hcz13_0, hcz13_1, hcz13_2⟩, hfz13_0, hfz13_1, hfz13_2⟩ := ce3 BK300))
    refine bodyPost_ret (results_cell_row rfl _ _ gb300 23 #[.bool (decide (0 < l1.length)), .string t303, .int .i64 t304] (0, 0) _ rfl (by (with_reducible repeat (first | refine blk_drewN ?_ _ | refine blk_drew ?_ | refine blk_alloc ?_ _)); refine blk_put (cs := #[.bool (decide (0 < l1.length)), .string t303, .int .i64 0]) ?_ 2 _ rfl; (with_reducible repeat (first | refine blk_drewN ?_ _ | refine blk_drew ?_ | refine blk_alloc ?_ _)); refine blk_put (cs := #[.bool (decide (0 < l1.length)), .string (⟨#[]⟩ : ByteArray), .int .i64 0]) ?_ 1 _ rfl; (with_reducible repeat (first | refine blk_drewN ?_ _ | refine blk_drew ?_ | refine blk_alloc ?_ _)); refine blk_put (cs := #[.bool false, .string (⟨#[]⟩ : ByteArray), .int .i64 0]) ?_ 0 _ rfl; (with_reducible repeat (first | refine blk_drewN ?_ _ | refine blk_drew ?_ | refine blk_alloc ?_ _)); refine blk_far ?_ NB300_305.out _; (with_reducible repeat (first | refine blk_drewN ?_ _ | refine blk_drew ?_ | refine blk_alloc ?_ _)); refine blk_far ?_ NB300_305.out _; (with_reducible repeat (first | refine blk_drewN ?_ _ | refine blk_drew ?_ | refine blk_alloc ?_ _)); refine blk_far ?_ NB300_305.out _; (with_reducible repeat (first | refine blk_drewN ?_ _ | refine blk_drew ?_ | refine blk_alloc ?_ _)); refine blk_far ?_ NB300_305.out _; (with_reducible repeat (first | refine blk_drewN ?_ _ | refine blk_drew ?_ | refine blk_alloc ?_ _)); exact BK300.out) Tryd.underlying23 rfl (by kernel_rfl)) rfl ?_
    exact ⟨ER, BL HB⟩
  replace c6 := Bool.eq_false_iff.mpr c6
  subst c6
  rw [if_neg (show ¬ (false = true) by decide)] at H
  simp only [Option.some.injEq, Prod.mk.injEq] at H
  obtain ⟨rfl, rfl, rfl⟩ := H
  go_enter Tryd.func53, Tryd.ntmps53
  go_wp2_with (first | ((with_reducible refine gate_dst (N := 6) rfl ?_); (try (refine gate_guard (by rfl) ?_; dsimp only)); refine be_ 6 #[.bool false, .string (⟨#[]⟩ : ByteArray), .int .i64 0] 23 ?_; intro gb300 hg w14 hbox hb; have BK300 := Aside0.mk (hbox); have GW300 := ge_ hg HB; have GE300 := ge_ hg HB; replace HB := hbs_ HB hb; clear hb hbox hg) | ((with_reducible refine gate_callee (f := 75) rfl ?_); refine goesL_ (some 10) rfl rfl Tryd.func75 (by kernel_rfl) rfl #[.slice A1 l1.length c1] rfl MP ?_; (with_reducible refine (ten_Digits.calls _ _ l1 t301 _ ?side1 ?side2 A4.out).mono ?_); (case side1 => exact CB (Kd.C_below HR1.out HB.out)); (case side2 => exact HC1.out); rintro e w15 ⟨rfl, hb⟩; refine ⟨_, rfl, ?_⟩; replace BK300 := bkb_ BK300 hb; replace HB := hbs_ HB hb; (try clear hb); (try clear hb2); (try clear hk); (try clear hi)) | ((with_reducible refine gate_callee (f := 18) rfl ?_); refine goesL_ (some 13) rfl rfl Tryd.func18 (by kernel_rfl) rfl #[.agg #[.bool a0, .string t301, .int .i64 a2]] rfl MP ?_; (with_reducible refine (dec_Norm.calls a0 t301 a2 false t303 t304 _ A5.out).mono ?_); rintro e w16 ⟨rfl, hb⟩; refine ⟨_, rfl, ?_⟩; replace BK300 := bkb_ BK300 hb; replace HB := hbs_ HB hb; (try clear hb); (try clear hb2); (try clear hk); (try clear hi)) | ((with_reducible refine gate_dst (N := 7) rfl ?_); (try (refine gate_guard (by rfl) ?_; dsimp only)); refine be_ 7 #[.bool false, .string (⟨#[]⟩ : ByteArray), .int .i64 0] 23 ?_; intro gb305 hg w17 hbox hb; have BK305 := Aside0.mk (hbox); have GW305 := ge_ hg HB; have GE305 := ge_ hg HB; replace HB := hbs_ HB hb; have NB300_305 := nb_ hg BK300; have NB305_300 := nc_ hg BK300; replace BK300 := bkb_ BK300 hb; clear hb hbox hg; have hnb18 := NB305_300.out; have hnc18 := NB300_305.out; obtain ⟨⟨hcz19_0, hcz19_1, hcz19_2⟩, hfz19_0, hfz19_1, hfz19_2⟩ := ce3 BK305; obtain ⟨⟨hcz20_0, hcz20_1, hcz20_2⟩, hfz20_0, hfz20_1, hfz20_2⟩ := ce3 BK300))
  refine bodyPost_ret (results_cell_row rfl _ _ gb300 23 #[.bool false, .string t303, .int .i64 t304] (0, 0) _ rfl (by (with_reducible repeat (first | refine blk_drewN ?_ _ | refine blk_drew ?_ | refine blk_alloc ?_ _)); refine blk_put (cs := #[.bool false, .string t303, .int .i64 0]) ?_ 2 _ rfl; (with_reducible repeat (first | refine blk_drewN ?_ _ | refine blk_drew ?_ | refine blk_alloc ?_ _)); refine blk_put (cs := #[.bool false, .string (⟨#[]⟩ : ByteArray), .int .i64 0]) ?_ 1 _ rfl; (with_reducible repeat (first | refine blk_drewN ?_ _ | refine blk_drew ?_ | refine blk_alloc ?_ _)); refine blk_put (cs := #[.bool false, .string (⟨#[]⟩ : ByteArray), .int .i64 0]) ?_ 0 _ rfl; (with_reducible repeat (first | refine blk_drewN ?_ _ | refine blk_drew ?_ | refine blk_alloc ?_ _)); refine blk_far ?_ NB300_305.out _; (with_reducible repeat (first | refine blk_drewN ?_ _ | refine blk_drew ?_ | refine blk_alloc ?_ _)); refine blk_far ?_ NB300_305.out _; (with_reducible repeat (first | refine blk_drewN ?_ _ | refine blk_drew ?_ | refine blk_alloc ?_ _)); refine blk_far ?_ NB300_305.out _; (with_reducible repeat (first | refine blk_drewN ?_ _ | refine blk_drew ?_ | refine blk_alloc ?_ _)); refine blk_far ?_ NB300_305.out _; (with_reducible repeat (first | refine blk_drewN ?_ _ | refine blk_drew ?_ | refine blk_alloc ?_ _)); exact BK300.out) Tryd.underlying23 rfl (by kernel_rfl)) rfl ?_
  exact ⟨ER, BL HB⟩
end Go.Proofs.YtbjaiphfehnncaaDoor.Px
end
section
namespace Go.Proofs.YtbjaiphfehnncaaDoor.Px
open Fig Go.RowKit Go.Proofs.YtbjaiphfehnncaaDoorW.PrintWords Go.Proofs.YtbjaiphfehnncaaDoorW.PrintLast Go.Proofs.YtbjaiphfehnncaaDoorW.PrintMore
attribute [local go_sem] max2_int min2_int max_two min_two max_three min_three max_four min_four   -- for this text's walks alone
attribute [local go_sem] fieldA23_0 fieldA23_1 fieldA23_2
set_option maxRecDepth 100000
theorem add_digit (v a b P p cy q : Nat) (h : v + P * cy = a + b) : v + P * ((p + cy + q) % 1000000000) + P * 1000000000 * ((p + cy + q) / 1000000000) = a + P * p + (b + P * q) := by
  have e := congrArg (P * ·) (Nat.div_add_mod (p + cy + q) 1000000000)
  simp only [Nat.mul_add] at e
  rw [Nat.mul_assoc]; omega
theorem add_digit0 (v a b P p cy : Nat) (h : v + P * cy = a + b) : v + P * ((p + cy) % 1000000000) + P * 1000000000 * ((p + cy) / 1000000000) = a + P * p + b := by
  have := add_digit v a b P p cy 0 h
  simpa using this
def nat_Add.f (l0 : List Int) (l1 : List Int) : Option (List Int) := addF l0 l1
set_option maxHeartbeats 1000000 in
theorem nat_Add.calls (A0 : Option Addr) (c0 : Nat) (l0 : List Int) (A1 : Option Addr) (c1 : Nat) (l1 : List Int) (r : List Int) (w : World) (hr0 : Kd.C (Kd.int .u32) w A0 l0.length l0) (hc0 : l0.length ≤ c0) (hr1 : Kd.C (Kd.int .u32) w A1 l1.length l1) (hc1 : l1.length ≤ c1) (h : nat_Add.f l0 l1 = some r) :
    Calls Tryd.prog 54 #[.slice A0 l0.length c0, .slice A1 l1.length c1] w fun e w' => ∃ v0_ : Value, e = .returned (v0_) ∧ Kd.R (Kd.int .u32) 47 w' w.heap.size (fun _ => True) v0_ r ∧ Below w.heap.size w w' := by
  unfold nat_Add.f addF at h
  by_cases hg : goodL l0 = true ∧ goodL l1 = true ∧ l0.length ≤ 1000000000000 ∧ l1.length ≤ 1000000000000
  · rw [if_pos hg] at h
    obtain rfl := Option.some.inj h
    obtain ⟨g0, g1, z0, z1⟩ := hg
    have G0 := Aside0.mk g0
    have G1 := Aside0.mk g1
    have HR0 := Aside0.mk hr0
    have HR1 := Aside0.mk hr1
    have HC0 := Aside0.mk hc0
    have HC1 := Aside0.mk hc1
    clear g0 g1 hr0 hr1 hc0 hc1 h
    by_cases hsw : l0.length < l1.length
    · have ds : decide (l0.length < l1.length) = true := decide_eq_true hsw
      have HZ := Aside0.mk (show l0.length ≤ 1000000000000 ∧ l1.length ≤ 1000000000000 ∧ l0.length ≤ l1.length by omega)
      clear hsw
      go_enter Tryd.func54, Tryd.ntmps54
      go_wp2_with (first | ((with_reducible refine gate_dst (N := 20) rfl ?_); refine R_make_cap (k := .u32) w.heap.size 47 rfl 28 _ _ rfl (l1.length + 1) rfl (by first | rfl | simp) Tryd.underlying28 (.int .u32 0) 4 info47 (fun _ => True) trivial (by omega) (by omega) (w0 := w) (by first | exact Below.refl _ _ | exact pw_below_drewN (Below.refl _ _) _) (by first | exact Nat.le_refl _ | simp) ?_; intro v20 w20 ho20 hb20; have HO := Aside0.mk ho20; have HB := Aside0.mk hb20; clear ho20 hb20))
      go_loopg [5, 6, 23] l1.length (fun j v5 v6 v23 w' => ∃ (n cy : Nat) (o : List Int), v23 = .int .i64 (n : Int) ∧ v6 = .int .u32 (cy : Int) ∧ Aside0 (n + j = l1.length) ∧ Aside0 (cy ≤ 1 ∧ goodL o = true ∧ o.length = n ∧ valL o + 1000000000 ^ n * cy = valL (l1.take n) + valL (l0.take n)) ∧ Aside0 (Kd.R (Kd.int .u32) 47 w' w.heap.size (fun _ => True) v5 o) ∧ Aside0 (Below w.heap.size w w'))
      case atStart => exact ⟨0, 0, [], rfl, rfl, ⟨by omega⟩, ⟨by omega, rfl, rfl, by simp [valL]⟩, HO, HB⟩
      case round =>
        clear HO HB
        obtain ⟨n, cy, o, rfl, rfl, HN, HI, HO, HB⟩ := hrel
        cases gk with
        | zero =>
          have hn := HN.out
          have hd : decide (n < l1.length) = false := decide_eq_false (by omega)
          have HV := Aside0.mk (show goodL (o ++ [(cy : Int)]) = true ∧ (o ++ [(cy : Int)]).length ≤ 20000000000000 ∧ valL (o ++ [(cy : Int)]) = valL l0 + valL l1 by
            obtain ⟨i1, i2, i3, i4⟩ := HI.out
            have hz := HZ.out
            refine ⟨goodL_append.2 ⟨i2, goodL_cons.2 ⟨by omega, rfl⟩⟩, by simp; omega, ?_⟩
            rw [valL_snoc, Int.toNat_natCast, i3, i4, List.take_of_length_le (by omega), List.take_of_length_le (by omega)]; exact Nat.add_comm _ _)
          have HL := Aside0.mk (show (o.length + 1) * 4 ≤ 140737488355328 by
            have := HI.out
            have hz := HZ.out
            omega)
          obtain ⟨y, hy⟩ : ∃ y, y = o ++ [(cy : Int)] := ⟨_, rfl⟩
          rw [← hy] at HV
          have NY := Aside0.mk hy
          clear hn hy
          go_wp2_with (first
            | ((with_reducible refine gate_builtin (b := .append) (xs := #[.tmp 49, .tmp 51]) rfl ?_); at_builtin; refine Kd.R_append (Kd.int .u32) (w0 := w) w.heap.size rfl (.tmp 49) (.tmp 51) 28 47 (.int .u32 0) 4 rfl Tryd.underlying28 info47 rfl (by decide) (by omega) _ o (cy : Int) [.int .u32 (cy : Int)] (fun _ => True) (fun _ => False) rfl rfl ?aP (fun _ hk => hk.elim) ?aF ?aO ?aB ?aS ?aL ?_; (case aP => exact rfl); (case aB => exact (BL HB)); (case aF => exact (fun _ _ => trivial)); (case aO => exact (RB HO.out)); (case aS => exact (below_size (BL HB))); (case aL => exact HL.out); intro v49 w11 ho hb hg hat; rw [← NY.out] at ho; have n0_ := Aside0.mk hb; have n1_ := Aside0.mk ho; clear HB; clear HO; have HB := n0_; have HO := n1_; clear n0_ n1_; clear ho hb hg hat; obtain ⟨A9, c9, rfl⟩ := Kd.R_slice HO.out)
            | (go_at_call 62; (with_reducible refine (nat_Trim.calls A9 c9 y (limbs (valL l0 + valL l1)) _ ?side1 ?side2 ?side3).mono ?_); (case side1 => exact (Kd.R_reads' HO.out).2.2); (case side2 => exact (Kd.R_reads' HO.out).2.1); (case side3 => rw [← HV.out.2.2]; exact trimF_eq HV.out.1 HV.out.2.1); rintro e w12 ⟨v0, rfl, ho, hb⟩; have n0_ := Aside0.mk (Kd.R_lower ho (below_size (BL HB))); have n1_ := hbs_ HB hb; clear ho hb HB HO; have HB := n1_; have HO := n0_; clear n0_ n1_))
          go_ret
          exact ⟨_, rfl, HO.out, HB.out⟩
        | succ j =>
          have hn := HN.out
          have hnl : n < l1.length := by omega
          have hd : decide (n < l1.length) = true := decide_eq_true hnl
          obtain ⟨ad, ea, hc⟩ := Kd.at_int HR1.out (n : Int) (by omega) (by omega)
          cases ea
          rw [Int.toNat_natCast] at hc
          replace hc := (HB.out.cell (World.block_lt_of_cell? w _ hc)).trans hc
          obtain ⟨p, hp⟩ : ∃ p : Nat, rd l1 (n : Int) = (p : Int) := ⟨(rd l1 (n : Int)).toNat, by have := goodL_iff.1 G1.out _ (List.getElem_mem hnl); rw [rd_get hnl]; omega⟩
          have hp9 : p < 1000000000 := by have := goodL_iff.1 G1.out _ (List.getElem_mem hnl); rw [rd_get hnl] at hp; omega
          rw [hp] at hc
          have HNL := Aside0.mk hnl
          have HP := Aside0.mk (show (l1[n]'HNL.out).toNat = p by rw [rd_get hnl] at hp; rw [hp]; rfl)
          have HS := Aside0.mk (Fig.valL_take_succ HNL.out)
          have hcy : cy ≤ 1 := HI.out.1
          have HL := Aside0.mk (show (o.length + 1) * 4 ≤ 140737488355328 by
            have := HI.out
            have hz := HZ.out
            omega)
          have qn := eq_true hnl
          clear hp hn hnl
          by_cases hm : n < l0.length
          · have hdm : decide (n < l0.length) = true := decide_eq_true hm
            obtain ⟨ad2, ea2, hc2⟩ := Kd.at_int HR0.out (n : Int) (by omega) (by omega)
            cases ea2
            rw [Int.toNat_natCast] at hc2
            replace hc2 := (HB.out.cell (World.block_lt_of_cell? w _ hc2)).trans hc2
            obtain ⟨q, hq⟩ : ∃ q : Nat, rd l0 (n : Int) = (q : Int) := ⟨(rd l0 (n : Int)).toNat, by have := goodL_iff.1 G0.out _ (List.getElem_mem hm); rw [rd_get hm]; omega⟩
            have hq9 : q < 1000000000 := by have := goodL_iff.1 G0.out _ (List.getElem_mem hm); rw [rd_get hm] at hq; omega
            rw [hq] at hc2
            have HM := Aside0.mk hm
            have HQ := Aside0.mk (show (l0[n]'HM.out).toNat = q by rw [rd_get hm] at hq; rw [hq]; rfl)
            have HS2 := Aside0.mk (Fig.valL_take_succ HM.out)
            have qm := eq_true hm
            clear hq hm
            go_wp2_with (first
              | ((with_reducible refine gate_builtin (b := .append) (xs := #[.tmp 43, .tmp 46]) rfl ?_); at_builtin; refine Kd.R_append (Kd.int .u32) (w0 := w) w.heap.size rfl (.tmp 43) (.tmp 46) 28 47 (.int .u32 0) 4 rfl Tryd.underlying28 info47 rfl (by decide) (by omega) _ o (((p + cy + q) % 1000000000 : Nat) : Int) [.int .u32 (((p + cy + q) % 1000000000 : Nat) : Int)] (fun _ => True) (fun _ => False) rfl rfl ?aP (fun _ hk => hk.elim) ?aF ?aO ?aB ?aS ?aL ?_; (case aP => exact rfl); (case aB => exact (BL HB)); (case aF => exact (fun _ _ => trivial)); (case aO => exact (RB HO.out)); (case aS => exact (below_size (BL HB))); (case aL => exact HL.out); intro v49 w11 ho hb hg hat; have n0_ := Aside0.mk hb; have n1_ := Aside0.mk ho; clear HB; clear HO; have HB := n0_; have HO := n1_; clear n0_ n1_; clear ho hb hg hat))
            go_roundg j
            case measure => omega
            case rel =>
              exact ⟨n + 1, (p + cy + q) / 1000000000, _, by rw [succ64 n (by have := HN.out; have := HZ.out; omega)], by first | rfl | go_num, ⟨by have := HN.out; omega⟩, ⟨by
                obtain ⟨i1, i2, i3, i4⟩ := HI.out
                refine ⟨by omega, goodL_append.2 ⟨i2, goodL_cons.2 ⟨by omega, rfl⟩⟩, by simp [i3], ?_⟩
                rw [valL_snoc, Int.toNat_natCast, i3, Nat.pow_succ, HS.out, HS2.out, HP.out, HQ.out]
                exact add_digit _ _ _ _ _ _ _ i4⟩, HO, HB⟩
          have hdm : decide (n < l0.length) = false := decide_eq_false hm
          have HM := Aside0.mk hm
          clear hm
          go_wp2_with (first
            | ((with_reducible refine gate_builtin (b := .append) (xs := #[.tmp 43, .tmp 46]) rfl ?_); at_builtin; refine Kd.R_append (Kd.int .u32) (w0 := w) w.heap.size rfl (.tmp 43) (.tmp 46) 28 47 (.int .u32 0) 4 rfl Tryd.underlying28 info47 rfl (by decide) (by omega) _ o (((p + cy) % 1000000000 : Nat) : Int) [.int .u32 (((p + cy) % 1000000000 : Nat) : Int)] (fun _ => True) (fun _ => False) rfl rfl ?aP (fun _ hk => hk.elim) ?aF ?aO ?aB ?aS ?aL ?_; (case aP => exact rfl); (case aB => exact (BL HB)); (case aF => exact (fun _ _ => trivial)); (case aO => exact (RB HO.out)); (case aS => exact (below_size (BL HB))); (case aL => exact HL.out); intro v49 w11 ho hb hg hat; have n0_ := Aside0.mk hb; have n1_ := Aside0.mk ho; clear HB; clear HO; have HB := n0_; have HO := n1_; clear n0_ n1_; clear ho hb hg hat))
          go_roundg j
          case measure => omega
          case rel =>
            exact ⟨n + 1, (p + cy) / 1000000000, _, by rw [succ64 n (by have := HN.out; have := HZ.out; omega)], by first | rfl | go_num, ⟨by have := HN.out; omega⟩, ⟨by
              obtain ⟨i1, i2, i3, i4⟩ := HI.out
              refine ⟨by omega, goodL_append.2 ⟨i2, goodL_cons.2 ⟨by omega, rfl⟩⟩, by simp [i3], ?_⟩
              have hm := HM.out
              have e1 : l0.take (n + 1) = l0.take n := by rw [List.take_of_length_le (by omega), List.take_of_length_le (by omega)]
              rw [valL_snoc, Int.toNat_natCast, i3, Nat.pow_succ, HS.out, HP.out, e1]
              exact add_digit0 _ _ _ _ _ _ i4⟩, HO, HB⟩
            
    have ds : decide (l0.length < l1.length) = false := decide_eq_false hsw
    have HZ := Aside0.mk (show l0.length ≤ 1000000000000 ∧ l1.length ≤ 1000000000000 ∧ l1.length ≤ l0.length by omega)
    clear hsw
    go_enter Tryd.func54, Tryd.ntmps54
    go_wp2_with (first | ((with_reducible refine gate_dst (N := 20) rfl ?_); refine R_make_cap (k := .u32) w.heap.size 47 rfl 28 _ _ rfl (l0.length + 1) rfl (by first | rfl | simp) Tryd.underlying28 (.int .u32 0) 4 info47 (fun _ => True) trivial (by omega) (by omega) (w0 := w) (by first | exact Below.refl _ _ | exact pw_below_drewN (Below.refl _ _) _) (by first | exact Nat.le_refl _ | simp) ?_; intro v20 w20 ho20 hb20; have HO := Aside0.mk ho20; have HB := Aside0.mk hb20; clear ho20 hb20))
    go_loopg [5, 6, 23] l0.length (fun j v5 v6 v23 w' => ∃ (n cy : Nat) (o : List Int), v23 = .int .i64 (n : Int) ∧ v6 = .int .u32 (cy : Int) ∧ Aside0 (n + j = l0.length) ∧ Aside0 (cy ≤ 1 ∧ goodL o = true ∧ o.length = n ∧ valL o + 1000000000 ^ n * cy = valL (l0.take n) + valL (l1.take n)) ∧ Aside0 (Kd.R (Kd.int .u32) 47 w' w.heap.size (fun _ => True) v5 o) ∧ Aside0 (Below w.heap.size w w'))
    case atStart => exact ⟨0, 0, [], rfl, rfl, ⟨by omega⟩, ⟨by omega, rfl, rfl, by simp [valL]⟩, HO, HB⟩
    case round =>
      clear HO HB
      obtain ⟨n, cy, o, rfl, rfl, HN, HI, HO, HB⟩ := hrel
      cases gk with
      | zero =>
        have hn := HN.out
        have hd : decide (n < l0.length) = false := decide_eq_false (by omega)
        have HV := Aside0.mk (show goodL (o ++ [(cy : Int)]) = true ∧ (o ++ [(cy : Int)]).length ≤ 20000000000000 ∧ valL (o ++ [(cy : Int)]) = valL l0 + valL l1 by
          obtain ⟨i1, i2, i3, i4⟩ := HI.out
          have hz := HZ.out
          refine ⟨goodL_append.2 ⟨i2, goodL_cons.2 ⟨by omega, rfl⟩⟩, by simp; omega, ?_⟩
          rw [valL_snoc, Int.toNat_natCast, i3, i4, List.take_of_length_le (by omega), List.take_of_length_le (by omega)])
        have HL := Aside0.mk (show (o.length + 1) * 4 ≤ 140737488355328 by
          have := HI.out
          have hz := HZ.out
          omega)
        obtain ⟨y, hy⟩ : ∃ y, y = o ++ [(cy : Int)] := ⟨_, rfl⟩
        rw [← hy] at HV
        have NY := Aside0.mk hy
        clear hn hy
        go_wp2_with (first
          | ((with_reducible refine gate_builtin (b := .append) (xs := #[.tmp 49, .tmp 51]) rfl ?_); at_builtin; refine Kd.R_append (Kd.int .u32) (w0 := w) w.heap.size rfl (.tmp 49) (.tmp 51) 28 47 (.int .u32 0) 4 rfl Tryd.underlying28 info47 rfl (by decide) (by omega) _ o (cy : Int) [.int .u32 (cy : Int)] (fun _ => True) (fun _ => False) rfl rfl ?aP (fun _ hk => hk.elim) ?aF ?aO ?aB ?aS ?aL ?_; (case aP => exact rfl); (case aB => exact (BL HB)); (case aF => exact (fun _ _ => trivial)); (case aO => exact (RB HO.out)); (case aS => exact (below_size (BL HB))); (case aL => exact HL.out); intro v49 w11 ho hb hg hat; rw [← NY.out] at ho; have n0_ := Aside0.mk hb; have n1_ := Aside0.mk ho; clear HB; clear HO; have HB := n0_; have HO := n1_; clear n0_ n1_; clear ho hb hg hat; obtain ⟨A9, c9, rfl⟩ := Kd.R_slice HO.out)
          | (go_at_call 62; (with_reducible refine (nat_Trim.calls A9 c9 y (limbs (valL l0 + valL l1)) _ ?side1 ?side2 ?side3).mono ?_); (case side1 => exact (Kd.R_reads' HO.out).2.2); (case side2 => exact (Kd.R_reads' HO.out).2.1); (case side3 => rw [← HV.out.2.2]; exact trimF_eq HV.out.1 HV.out.2.1); rintro e w12 ⟨v0, rfl, ho, hb⟩; have n0_ := Aside0.mk (Kd.R_lower ho (below_size (BL HB))); have n1_ := hbs_ HB hb; clear ho hb HB HO; have HB := n1_; have HO := n0_; clear n0_ n1_))
        go_ret
        exact ⟨_, rfl, HO.out, HB.out⟩
      | succ j =>
        have hn := HN.out
        have hnl : n < l0.length := by omega
        have hd : decide (n < l0.length) = true := decide_eq_true hnl
        obtain ⟨ad, ea, hc⟩ := Kd.at_int HR0.out (n : Int) (by omega) (by omega)
        cases ea
        rw [Int.toNat_natCast] at hc
        replace hc := (HB.out.cell (World.block_lt_of_cell? w _ hc)).trans hc
        obtain ⟨p, hp⟩ : ∃ p : Nat, rd l0 (n : Int) = (p : Int) := ⟨(rd l0 (n : Int)).toNat, by have := goodL_iff.1 G0.out _ (List.getElem_mem hnl); rw [rd_get hnl]; omega⟩
        have hp9 : p < 1000000000 := by have := goodL_iff.1 G0.out _ (List.getElem_mem hnl); rw [rd_get hnl] at hp; omega
        rw [hp] at hc
        have HNL := Aside0.mk hnl
        have HP := Aside0.mk (show (l0[n]'HNL.out).toNat = p by rw [rd_get hnl] at hp; rw [hp]; rfl)
        have HS := Aside0.mk (Fig.valL_take_succ HNL.out)
        have hcy : cy ≤ 1 := HI.out.1
        have HL := Aside0.mk (show (o.length + 1) * 4 ≤ 140737488355328 by
          have := HI.out
          have hz := HZ.out
          omega)
        have qn := eq_true hnl
        clear hp hn hnl
        by_cases hm : n < l1.length
        · have hdm : decide (n < l1.length) = true := decide_eq_true hm
          obtain ⟨ad2, ea2, hc2⟩ := Kd.at_int HR1.out (n : Int) (by omega) (by omega)
          cases ea2
          rw [Int.toNat_natCast] at hc2
          replace hc2 := (HB.out.cell (World.block_lt_of_cell? w _ hc2)).trans hc2
          obtain ⟨q, hq⟩ : ∃ q : Nat, rd l1 (n : Int) = (q : Int) := ⟨(rd l1 (n : Int)).toNat, by have := goodL_iff.1 G1.out _ (List.getElem_mem hm); rw [rd_get hm]; omega⟩
          have hq9 : q < 1000000000 := by have := goodL_iff.1 G1.out _ (List.getElem_mem hm); rw [rd_get hm] at hq; omega
          rw [hq] at hc2
          have HM := Aside0.mk hm
          have HQ := Aside0.mk (show (l1[n]'HM.out).toNat = q by rw [rd_get hm] at hq; rw [hq]; rfl)
          have HS2 := Aside0.mk (Fig.valL_take_succ HM.out)
          have qm := eq_true hm
          clear hq hm
          go_wp2_with (first
            | ((with_reducible refine gate_builtin (b := .append) (xs := #[.tmp 43, .tmp 46]) rfl ?_); at_builtin; refine Kd.R_append (Kd.int .u32) (w0 := w) w.heap.size rfl (.tmp 43) (.tmp 46) 28 47 (.int .u32 0) 4 rfl Tryd.underlying28 info47 rfl (by decide) (by omega) _ o (((p + cy + q) % 1000000000 : Nat) : Int) [.int .u32 (((p + cy + q) % 1000000000 : Nat) : Int)] (fun _ => True) (fun _ => False) rfl rfl ?aP (fun _ hk => hk.elim) ?aF ?aO ?aB ?aS ?aL ?_; (case aP => exact rfl); (case aB => exact (BL HB)); (case aF => exact (fun _ _ => trivial)); (case aO => exact (RB HO.out)); (case aS => exact (below_size (BL HB))); (case aL => exact HL.out); intro v49 w11 ho hb hg hat; have n0_ := Aside0.mk hb; have n1_ := Aside0.mk ho; clear HB; clear HO; have HB := n0_; have HO := n1_; clear n0_ n1_; clear ho hb hg hat))
          go_roundg j
          case measure => omega
          case rel =>
            exact ⟨n + 1, (p + cy + q) / 1000000000, _, by rw [succ64 n (by have := HN.out; have := HZ.out; omega)], by first | rfl | go_num, ⟨by have := HN.out; omega⟩, ⟨by
              obtain ⟨i1, i2, i3, i4⟩ := HI.out
              refine ⟨by omega, goodL_append.2 ⟨i2, goodL_cons.2 ⟨by omega, rfl⟩⟩, by simp [i3], ?_⟩
              rw [valL_snoc, Int.toNat_natCast, i3, Nat.pow_succ, HS.out, HS2.out, HP.out, HQ.out]
              exact add_digit _ _ _ _ _ _ _ i4⟩, HO, HB⟩
        have hdm : decide (n < l1.length) = false := decide_eq_false hm
        have HM := Aside0.mk hm
        clear hm
        go_wp2_with (first
          | ((with_reducible refine gate_builtin (b := .append) (xs := #[.tmp 43, .tmp 46]) rfl ?_); at_builtin; refine Kd.R_append (Kd.int .u32) (w0 := w) w.heap.size rfl (.tmp 43) (.tmp 46) 28 47 (.int .u32 0) 4 rfl Tryd.underlying28 info47 rfl (by decide) (by omega) _ o (((p + cy) % 1000000000 : Nat) : Int) [.int .u32 (((p + cy) % 1000000000 : Nat) : Int)] (fun _ => True) (fun _ => False) rfl rfl ?aP (fun _ hk => hk.elim) ?aF ?aO ?aB ?aS ?aL ?_; (case aP => exact rfl); (case aB => exact (BL HB)); (case aF => exact (fun _ _ => trivial)); (case aO => exact (RB HO.out)); (case aS => exact (below_size (BL HB))); (case aL => exact HL.out); intro v49 w11 ho hb hg hat; have n0_ := Aside0.mk hb; have n1_ := Aside0.mk ho; clear HB; clear HO; have HB := n0_; have HO := n1_; clear n0_ n1_; clear ho hb hg hat))
        go_roundg j
        case measure => omega
        case rel =>
          exact ⟨n + 1, (p + cy) / 1000000000, _, by rw [succ64 n (by have := HN.out; have := HZ.out; omega)], by first | rfl | go_num, ⟨by have := HN.out; omega⟩, ⟨by
            obtain ⟨i1, i2, i3, i4⟩ := HI.out
            refine ⟨by omega, goodL_append.2 ⟨i2, goodL_cons.2 ⟨by omega, rfl⟩⟩, by simp [i3], ?_⟩
            have hm := HM.out
            have e1 : l1.take (n + 1) = l1.take n := by rw [List.take_of_length_le (by omega), List.take_of_length_le (by omega)]
            rw [valL_snoc, Int.toNat_natCast, i3, Nat.pow_succ, HS.out, HP.out, e1]
            exact add_digit0 _ _ _ _ _ _ i4⟩, HO, HB⟩
          
  rw [if_neg hg] at h; cases h
end Go.Proofs.YtbjaiphfehnncaaDoor.Px
end
section
namespace Go.Proofs.YtbjaiphfehnncaaDoor.Px
open Fig Go.RowKit Go.Proofs.YtbjaiphfehnncaaDoorW.PrintWords Go.Proofs.YtbjaiphfehnncaaDoorW.PrintLast Go.Proofs.YtbjaiphfehnncaaDoorW.PrintMore
attribute [local go_sem] max2_int min2_int max_two min_two max_three min_three max_four min_four   -- for this text's walks alone
attribute [local go_sem] fieldA23_0 fieldA23_1 fieldA23_2
def cmp_isNaN_int.f (a0 : Int) : Option (Bool) := some (a0 != a0)
set_option maxHeartbeats 8000000 in
set_option maxRecDepth 100000 in
theorem cmp_isNaN_int.calls (a0 : Int) (r : Bool) (w : World) (h : cmp_isNaN_int.f a0 = some r) :
    Calls Tryd.prog 83 #[.int .i64 a0] w fun e w' => e = .returned (.bool r) ∧ Drawn0 w w' := by
  have H : (some (a0 != a0)) = some r := h
  clear h
  obtain rfl := Option.some.inj H
  go_enter Tryd.func83, Tryd.ntmps83
  go_wp2
  go_ret
  exact ⟨by first | rfl | (simp; done) | (simp [*]; done) | (simp [*, Fig.bne_nil]; done), by repeat (first | exact Drawn0.refl _ | apply Drawn0.step)⟩
end Go.Proofs.YtbjaiphfehnncaaDoor.Px
end
section
namespace Go.Proofs.YtbjaiphfehnncaaDoor.Px
open Fig Go.RowKit Go.Proofs.YtbjaiphfehnncaaDoorW.PrintWords Go.Proofs.YtbjaiphfehnncaaDoorW.PrintLast Go.Proofs.YtbjaiphfehnncaaDoorW.PrintMore
attribute [local go_sem] max2_int min2_int max_two min_two max_three min_three max_four min_four   -- for this text's walks alone
attribute [local go_sem] fieldA23_0 fieldA23_1 fieldA23_2
def cmp_Compare_int.f (a0 : Int) (a1 : Int) : Option (Int) := (cmp_isNaN_int.f a0).bind fun t147 => ((cmp_isNaN_int.f a1).bind fun t148 => (if t147 = true then (if t148 = true then (some 0) else (some (-1))) else (if t148 = true then (some 1) else (if a0 < a1 then (some (-1)) else (if a0 > a1 then (some 1) else (some 0))))))
set_option maxHeartbeats 8000000 in
set_option maxRecDepth 100000 in
theorem cmp_Compare_int.calls (a0 : Int) (a1 : Int) (r : Int) (w : World) (h : cmp_Compare_int.f a0 a1 = some r) :
    Calls Tryd.prog 71 #[.int .i64 a0, .int .i64 a1] w fun e w' => e = .returned (.int .i64 r) ∧ Drawn0 w w' := by
  have H : ((cmp_isNaN_int.f a0).bind fun t147 => ((cmp_isNaN_int.f a1).bind fun t148 => (if t147 = true then (if t148 = true then (some 0) else (some (-1))) else (if t148 = true then (some 1) else (if a0 < a1 then (some (-1)) else (if a0 > a1 then (some 1) else (some 0))))))) = some r := h
  clear h
  obtain ⟨t147, A30, H⟩ := Option.bind_eq_some_iff.mp H
  (try dsimp -simprocs only at H)
  have A3 := Aside0.mk A30
  clear A30
  obtain ⟨t148, A40, H⟩ := Option.bind_eq_some_iff.mp H
  (try dsimp -simprocs only at H)
  have A4 := Aside0.mk A40
  clear A40
  by_cases c5 : t147 = true
  · subst c5
    rw [if_pos rfl] at H
    by_cases c6 : t148 = true
    · subst c6
      rw [if_pos rfl] at H
      obtain rfl := Option.some.inj H
      go_enter Tryd.func71, Tryd.ntmps71
      go_wp2_with (first | ((with_reducible refine gate_callee (f := 83) rfl ?_); refine goesL_ (some 8) rfl rfl Tryd.func83 (by kernel_rfl) rfl #[.int .i64 a0] rfl MP ?_; (with_reducible refine (cmp_isNaN_int.calls a0 true _ A3.out).mono ?_); rintro e w' ⟨rfl, ⟨nd, rfl⟩⟩; refine ⟨_, rfl, ?_⟩) | ((with_reducible refine gate_callee (f := 83) rfl ?_); refine goesL_ (some 10) rfl rfl Tryd.func83 (by kernel_rfl) rfl #[.int .i64 a1] rfl MP ?_; (with_reducible refine (cmp_isNaN_int.calls a1 true _ A4.out).mono ?_); rintro e w' ⟨rfl, ⟨nd, rfl⟩⟩; refine ⟨_, rfl, ?_⟩))
      go_ret
      exact ⟨by first | rfl | (simp; done) | (simp [*]; done) | (simp [*, Fig.bne_nil]; done), by repeat (first | exact Drawn0.refl _ | apply Drawn0.step)⟩
    replace c6 := Bool.eq_false_iff.mpr c6
    subst c6
    rw [if_neg (show ¬ (false = true) by decide)] at H
    obtain rfl := Option.some.inj H
    go_enter Tryd.func71, Tryd.ntmps71
    go_wp2_with (first | ((with_reducible refine gate_callee (f := 83) rfl ?_); refine goesL_ (some 8) rfl rfl Tryd.func83 (by kernel_rfl) rfl #[.int .i64 a0] rfl MP ?_; (with_reducible refine (cmp_isNaN_int.calls a0 true _ A3.out).mono ?_); rintro e w' ⟨rfl, ⟨nd, rfl⟩⟩; refine ⟨_, rfl, ?_⟩) | ((with_reducible refine gate_callee (f := 83) rfl ?_); refine goesL_ (some 10) rfl rfl Tryd.func83 (by kernel_rfl) rfl #[.int .i64 a1] rfl MP ?_; (with_reducible refine (cmp_isNaN_int.calls a1 false _ A4.out).mono ?_); rintro e w' ⟨rfl, ⟨nd, rfl⟩⟩; refine ⟨_, rfl, ?_⟩))
    go_ret
    exact ⟨by first | rfl | (simp; done) | (simp [*]; done) | (simp [*, Fig.bne_nil]; done), by repeat (first | exact Drawn0.refl _ | apply Drawn0.step)⟩
  replace c5 := Bool.eq_false_iff.mpr c5
  subst c5
  rw [if_neg (show ¬ (false = true) by decide)] at H
  by_cases c7 : t148 = true
  · subst c7
    rw [if_pos rfl] at H
    obtain rfl := Option.some.inj H
    go_enter Tryd.func71, Tryd.ntmps71
    go_wp2_with (first | ((with_reducible refine gate_callee (f := 83) rfl ?_); refine goesL_ (some 8) rfl rfl Tryd.func83 (by kernel_rfl) rfl #[.int .i64 a0] rfl MP ?_; (with_reducible refine (cmp_isNaN_int.calls a0 false _ A3.out).mono ?_); rintro e w' ⟨rfl, ⟨nd, rfl⟩⟩; refine ⟨_, rfl, ?_⟩) | ((with_reducible refine gate_callee (f := 83) rfl ?_); refine goesL_ (some 10) rfl rfl Tryd.func83 (by kernel_rfl) rfl #[.int .i64 a1] rfl MP ?_; (with_reducible refine (cmp_isNaN_int.calls a1 true _ A4.out).mono ?_); rintro e w' ⟨rfl, ⟨nd, rfl⟩⟩; refine ⟨_, rfl, ?_⟩))
    go_ret
    exact ⟨by first | rfl | (simp; done) | (simp [*]; done) | (simp [*, Fig.bne_nil]; done), by repeat (first | exact Drawn0.refl _ | apply Drawn0.step)⟩
  replace c7 := Bool.eq_false_iff.mpr c7
  subst c7
  rw [if_neg (show ¬ (false = true) by decide)] at H
  by_cases c8 : a0 < a1
  · rw [if_pos c8] at H
    have c8b0 : decide (a0 < a1) = true := decide_eq_true c8
    clear c8
    obtain rfl := Option.some.inj H
    go_enter Tryd.func71, Tryd.ntmps71
    go_wp2_with (first | ((with_reducible refine gate_callee (f := 83) rfl ?_); refine goesL_ (some 8) rfl rfl Tryd.func83 (by kernel_rfl) rfl #[.int .i64 a0] rfl MP ?_; (with_reducible refine (cmp_isNaN_int.calls a0 false _ A3.out).mono ?_); rintro e w' ⟨rfl, ⟨nd, rfl⟩⟩; refine ⟨_, rfl, ?_⟩) | ((with_reducible refine gate_callee (f := 83) rfl ?_); refine goesL_ (some 10) rfl rfl Tryd.func83 (by kernel_rfl) rfl #[.int .i64 a1] rfl MP ?_; (with_reducible refine (cmp_isNaN_int.calls a1 false _ A4.out).mono ?_); rintro e w' ⟨rfl, ⟨nd, rfl⟩⟩; refine ⟨_, rfl, ?_⟩))
    go_ret
    exact ⟨by first | rfl | (simp; done) | (simp [*]; done) | (simp [*, Fig.bne_nil]; done), by repeat (first | exact Drawn0.refl _ | apply Drawn0.step)⟩
  rw [if_neg c8] at H
  have c8b0 : decide (a0 < a1) = false := decide_eq_false c8
  clear c8
  by_cases c9 : a0 > a1
  · rw [if_pos c9] at H
    have c9b0 : decide (a1 < a0) = true := decide_eq_true c9
    clear c9
    obtain rfl := Option.some.inj H
    go_enter Tryd.func71, Tryd.ntmps71
    go_wp2_with (first | ((with_reducible refine gate_callee (f := 83) rfl ?_); refine goesL_ (some 8) rfl rfl Tryd.func83 (by kernel_rfl) rfl #[.int .i64 a0] rfl MP ?_; (with_reducible refine (cmp_isNaN_int.calls a0 false _ A3.out).mono ?_); rintro e w' ⟨rfl, ⟨nd, rfl⟩⟩; refine ⟨_, rfl, ?_⟩) | ((with_reducible refine gate_callee (f := 83) rfl ?_); refine goesL_ (some 10) rfl rfl Tryd.func83 (by kernel_rfl) rfl #[.int .i64 a1] rfl MP ?_; (with_reducible refine (cmp_isNaN_int.calls a1 false _ A4.out).mono ?_); rintro e w' ⟨rfl, ⟨nd, rfl⟩⟩; refine ⟨_, rfl, ?_⟩))
    go_ret
    exact ⟨by first | rfl | (simp; done) | (simp [*]; done) | (simp [*, Fig.bne_nil]; done), by repeat (first | exact Drawn0.refl _ | apply Drawn0.step)⟩
  rw [if_neg c9] at H
  have c9b0 : decide (a1 < a0) = false := decide_eq_false c9
  clear c9
  obtain rfl := Option.some.inj H
  go_enter Tryd.func71, Tryd.ntmps71
  go_wp2_with (first | ((with_reducible refine gate_callee (f := 83) rfl ?_); refine goesL_ (some 8) rfl rfl Tryd.func83 (by kernel_rfl) rfl #[.int .i64 a0] rfl MP ?_; (with_reducible refine (cmp_isNaN_int.calls a0 false _ A3.out).mono ?_); rintro e w' ⟨rfl, ⟨nd, rfl⟩⟩; refine ⟨_, rfl, ?_⟩) | ((with_reducible refine gate_callee (f := 83) rfl ?_); refine goesL_ (some 10) rfl rfl Tryd.func83 (by kernel_rfl) rfl #[.int .i64 a1] rfl MP ?_; (with_reducible refine (cmp_isNaN_int.calls a1 false _ A4.out).mono ?_); rintro e w' ⟨rfl, ⟨nd, rfl⟩⟩; refine ⟨_, rfl, ?_⟩))
  go_ret
  exact ⟨by first | rfl | (simp; done) | (simp [*]; done) | (simp [*, Fig.bne_nil]; done), by repeat (first | exact Drawn0.refl _ | apply Drawn0.step)⟩
end Go.Proofs.YtbjaiphfehnncaaDoor.Px
end
section
namespace Go.Proofs.YtbjaiphfehnncaaDoor.Px
open Fig Go.RowKit Go.Proofs.YtbjaiphfehnncaaDoorW.PrintWords Go.Proofs.YtbjaiphfehnncaaDoorW.PrintLast Go.Proofs.YtbjaiphfehnncaaDoorW.PrintMore
attribute [local go_sem] max2_int min2_int max_two min_two max_three min_three max_four min_four   -- for this text's walks alone
attribute [local go_sem] fieldA23_0 fieldA23_1 fieldA23_2
def cmp_isNaN_uint32.f (a0 : Int) : Option (Bool) := some (a0 != a0)
set_option maxHeartbeats 8000000 in
set_option maxRecDepth 100000 in
theorem cmp_isNaN_uint32.calls (a0 : Int) (r : Bool) (w : World) (h : cmp_isNaN_uint32.f a0 = some r) :
    Calls Tryd.prog 84 #[.int .u32 a0] w fun e w' => e = .returned (.bool r) ∧ Drawn0 w w' := by
  have H : (some (a0 != a0)) = some r := h
  clear h
  obtain rfl := Option.some.inj H
  go_enter Tryd.func84, Tryd.ntmps84
  go_wp2
  go_ret
  exact ⟨by first | rfl | (simp; done) | (simp [*]; done) | (simp [*, Fig.bne_nil]; done), by repeat (first | exact Drawn0.refl _ | apply Drawn0.step)⟩
end Go.Proofs.YtbjaiphfehnncaaDoor.Px
end
section
namespace Go.Proofs.YtbjaiphfehnncaaDoor.Px
open Fig Go.RowKit Go.Proofs.YtbjaiphfehnncaaDoorW.PrintWords Go.Proofs.YtbjaiphfehnncaaDoorW.PrintLast Go.Proofs.YtbjaiphfehnncaaDoorW.PrintMore
attribute [local go_sem] max2_int min2_int max_two min_two max_three min_three max_four min_four   -- for this text's walks alone
attribute [local go_sem] fieldA23_0 fieldA23_1 fieldA23_2
def cmp_Compare_uint32.f (a0 : Int) (a1 : Int) : Option (Int) := (cmp_isNaN_uint32.f a0).bind fun t149 => ((cmp_isNaN_uint32.f a1).bind fun t150 => (if t149 = true then (if t150 = true then (some 0) else (some (-1))) else (if t150 = true then (some 1) else (if a0 < a1 then (some (-1)) else (if a0 > a1 then (some 1) else (some 0))))))
set_option maxHeartbeats 8000000 in
set_option maxRecDepth 100000 in
theorem cmp_Compare_uint32.calls (a0 : Int) (a1 : Int) (r : Int) (w : World) (h : cmp_Compare_uint32.f a0 a1 = some r) :
    Calls Tryd.prog 72 #[.int .u32 a0, .int .u32 a1] w fun e w' => e = .returned (.int .i64 r) ∧ Drawn0 w w' := by
  have H : ((cmp_isNaN_uint32.f a0).bind fun t149 => ((cmp_isNaN_uint32.f a1).bind fun t150 => (if t149 = true then (if t150 = true then (some 0) else (some (-1))) else (if t150 = true then (some 1) else (if a0 < a1 then (some (-1)) else (if a0 > a1 then (some 1) else (some 0))))))) = some r := h
  clear h
  obtain ⟨t149, A30, H⟩ := Option.bind_eq_some_iff.mp H
  (try dsimp -simprocs only at H)
  have A3 := Aside0.mk A30
  clear A30
  obtain ⟨t150, A40, H⟩ := Option.bind_eq_some_iff.mp H
  (try dsimp -simprocs only at H)
  have A4 := Aside0.mk A40
  clear A40
  by_cases c5 : t149 = true
  · subst c5
    rw [if_pos rfl] at H
    by_cases c6 : t150 = true
    · subst c6
      rw [if_pos rfl] at H
      obtain rfl := Option.some.inj H
      go_enter Tryd.func72, Tryd.ntmps72
      go_wp2_with (first | ((with_reducible refine gate_callee (f := 84) rfl ?_); refine goesL_ (some 8) rfl rfl Tryd.func84 (by kernel_rfl) rfl #[.int .u32 a0] rfl MP ?_; (with_reducible refine (cmp_isNaN_uint32.calls a0 true _ A3.out).mono ?_); rintro e w' ⟨rfl, ⟨nd, rfl⟩⟩; refine ⟨_, rfl, ?_⟩) | ((with_reducible refine gate_callee (f := 84) rfl ?_); refine goesL_ (some 10) rfl rfl Tryd.func84 (by kernel_rfl) rfl #[.int .u32 a1] rfl MP ?_; (with_reducible refine (cmp_isNaN_uint32.calls a1 true _ A4.out).mono ?_); rintro e w' ⟨rfl, ⟨nd, rfl⟩⟩; refine ⟨_, rfl, ?_⟩))
      go_ret
      exact ⟨by first | rfl | (simp; done) | (simp [*]; done) | (simp [*, Fig.bne_nil]; done), by repeat (first | exact Drawn0.refl _ | apply Drawn0.step)⟩
    replace c6 := Bool.eq_false_iff.mpr c6
    subst c6
    rw [if_neg (show ¬ (false = true) by decide)] at H
    obtain rfl := Option.some.inj H
    go_enter Tryd.func72, Tryd.ntmps72
    go_wp2_with (first | ((with_reducible refine gate_callee (f := 84) rfl ?_); refine goesL_ (some 8) rfl rfl Tryd.func84 (by kernel_rfl) rfl #[.int .u32 a0] rfl MP ?_; (with_reducible refine (cmp_isNaN_uint32.calls a0 true _ A3.out).mono ?_); rintro e w' ⟨rfl, ⟨nd, rfl⟩⟩; refine ⟨_, rfl, ?_⟩) | ((with_reducible refine gate_callee (f := 84) rfl ?_); refine goesL_ (some 10) rfl rfl Tryd.func84 (by kernel_rfl) rfl #[.int .u32 a1] rfl MP ?_; (with_reducible refine (cmp_isNaN_uint32.calls a1 false _ A4.out).mono ?_); rintro e w' ⟨rfl, ⟨nd, rfl⟩⟩; refine ⟨_, rfl, ?_⟩))
    go_ret
    exact ⟨by first | rfl | (simp; done) | (simp [*]; done) | (simp [*, Fig.bne_nil]; done), by repeat (first | exact Drawn0.refl _ | apply Drawn0.step)⟩
  replace c5 := Bool.eq_false_iff.mpr c5
  subst c5
  rw [if_neg (show ¬ (false = true) by decide)] at H
  by_cases c7 : t150 = true
  · subst c7
    rw [if_pos rfl] at H
    obtain rfl := Option.some.inj H
    go_enter Tryd.func72, Tryd.ntmps72
    go_wp2_with (first | ((with_reducible refine gate_callee (f := 84) rfl ?_); refine goesL_ (some 8) rfl rfl Tryd.func84 (by kernel_rfl) rfl #[.int .u32 a0] rfl MP ?_; (with_reducible refine (cmp_isNaN_uint32.calls a0 false _ A3.out).mono ?_); rintro e w' ⟨rfl, ⟨nd, rfl⟩⟩; refine ⟨_, rfl, ?_⟩) | ((with_reducible refine gate_callee (f := 84) rfl ?_); refine goesL_ (some 10) rfl rfl Tryd.func84 (by kernel_rfl) rfl #[.int .u32 a1] rfl MP ?_; (with_reducible refine (cmp_isNaN_uint32.calls a1 true _ A4.out).mono ?_); rintro e w' ⟨rfl, ⟨nd, rfl⟩⟩; refine ⟨_, rfl, ?_⟩))
    go_ret
    exact ⟨by first | rfl | (simp; done) | (simp [*]; done) | (simp [*, Fig.bne_nil]; done), by repeat (first | exact Drawn0.refl _ | apply Drawn0.step)⟩
  replace c7 := Bool.eq_false_iff.mpr c7
  subst c7
  rw [if_neg (show ¬ (false = true) by decide)] at H
  by_cases c8 : a0 < a1
  · rw [if_pos c8] at H
    have c8b0 : decide (a0 < a1) = true := decide_eq_true c8
    clear c8
    obtain rfl := Option.some.inj H
    go_enter Tryd.func72, Tryd.ntmps72
    go_wp2_with (first | ((with_reducible refine gate_callee (f := 84) rfl ?_); refine goesL_ (some 8) rfl rfl Tryd.func84 (by kernel_rfl) rfl #[.int .u32 a0] rfl MP ?_; (with_reducible refine (cmp_isNaN_uint32.calls a0 false _ A3.out).mono ?_); rintro e w' ⟨rfl, ⟨nd, rfl⟩⟩; refine ⟨_, rfl, ?_⟩) | ((with_reducible refine gate_callee (f := 84) rfl ?_); refine goesL_ (some 10) rfl rfl Tryd.func84 (by kernel_rfl) rfl #[.int .u32 a1] rfl MP ?_; (with_reducible refine (cmp_isNaN_uint32.calls a1 false _ A4.out).mono ?_); rintro e w' ⟨rfl, ⟨nd, rfl⟩⟩; refine ⟨_, rfl, ?_⟩))
    go_ret
    exact ⟨by first | rfl | (simp; done) | (simp [*]; done) | (simp [*, Fig.bne_nil]; done), by repeat (first | exact Drawn0.refl _ | apply Drawn0.step)⟩
  rw [if_neg c8] at H
  have c8b0 : decide (a0 < a1) = false := decide_eq_false c8
  clear c8
  by_cases c9 : a0 > a1
  · rw [if_pos c9] at H
    have c9b0 : decide (a1 < a0) = true := decide_eq_true c9
    clear c9
    obtain rfl := Option.some.inj H
    go_enter Tryd.func72, Tryd.ntmps72
    go_wp2_with (first | ((with_reducible refine gate_callee (f := 84) rfl ?_); refine goesL_ (some 8) rfl rfl Tryd.func84 (by kernel_rfl) rfl #[.int .u32 a0] rfl MP ?_; (with_reducible refine (cmp_isNaN_uint32.calls a0 false _ A3.out).mono ?_); rintro e w' ⟨rfl, ⟨nd, rfl⟩⟩; refine ⟨_, rfl, ?_⟩) | ((with_reducible refine gate_callee (f := 84) rfl ?_); refine goesL_ (some 10) rfl rfl Tryd.func84 (by kernel_rfl) rfl #[.int .u32 a1] rfl MP ?_; (with_reducible refine (cmp_isNaN_uint32.calls a1 false _ A4.out).mono ?_); rintro e w' ⟨rfl, ⟨nd, rfl⟩⟩; refine ⟨_, rfl, ?_⟩))
    go_ret
    exact ⟨by first | rfl | (simp; done) | (simp [*]; done) | (simp [*, Fig.bne_nil]; done), by repeat (first | exact Drawn0.refl _ | apply Drawn0.step)⟩
  rw [if_neg c9] at H
  have c9b0 : decide (a1 < a0) = false := decide_eq_false c9
  clear c9
  obtain rfl := Option.some.inj H
  go_enter Tryd.func72, Tryd.ntmps72
  go_wp2_with (first | ((with_reducible refine gate_callee (f := 84) rfl ?_); refine goesL_ (some 8) rfl rfl Tryd.func84 (by kernel_rfl) rfl #[.int .u32 a0] rfl MP ?_; (with_reducible refine (cmp_isNaN_uint32.calls a0 false _ A3.out).mono ?_); rintro e w' ⟨rfl, ⟨nd, rfl⟩⟩; refine ⟨_, rfl, ?_⟩) | ((with_reducible refine gate_callee (f := 84) rfl ?_); refine goesL_ (some 10) rfl rfl Tryd.func84 (by kernel_rfl) rfl #[.int .u32 a1] rfl MP ?_; (with_reducible refine (cmp_isNaN_uint32.calls a1 false _ A4.out).mono ?_); rintro e w' ⟨rfl, ⟨nd, rfl⟩⟩; refine ⟨_, rfl, ?_⟩))
  go_ret
  exact ⟨by first | rfl | (simp; done) | (simp [*]; done) | (simp [*, Fig.bne_nil]; done), by repeat (first | exact Drawn0.refl _ | apply Drawn0.step)⟩
end Go.Proofs.YtbjaiphfehnncaaDoor.Px
end
section
namespace Go.Proofs.YtbjaiphfehnncaaDoor.Px
open Fig Go.RowKit Go.Proofs.YtbjaiphfehnncaaDoorW.PrintWords Go.Proofs.YtbjaiphfehnncaaDoorW.PrintLast Go.Proofs.YtbjaiphfehnncaaDoorW.PrintMore
attribute [local go_sem] max2_int min2_int max_two min_two max_three min_three max_four min_four   -- for this text's walks alone
attribute [local go_sem] fieldA23_0 fieldA23_1 fieldA23_2
set_option maxRecDepth 100000
theorem ret_num {k : IntKind} {a b : Int} (h : a = b) : Ending.returned (.int k a) = .returned (.int k b) := by rw [h]
theorem cmpi_eq (m n : Nat) : cmp_Compare_int.f (m : Int) (n : Int) = some (cmpN m n) := by
  unfold cmp_Compare_int.f cmp_isNaN_int.f cmpN
  simp only [Option.bind_some, bne_self_eq_false]
  repeat' split
  all_goals first | rfl | omega | simp_all
theorem cmpu_eq (m n : Nat) : cmp_Compare_uint32.f (m : Int) (n : Int) = some (cmpN m n) := by
  unfold cmp_Compare_uint32.f cmp_isNaN_uint32.f cmpN
  simp only [Option.bind_some, bne_self_eq_false]
  repeat' split
  all_goals first | rfl | omega | simp_all
def nat_Cmp.f (l0 : List Int) (l1 : List Int) : Option Int := cmpF l0 l1
set_option maxHeartbeats 1000000 in
theorem nat_Cmp.calls (A0 : Option Addr) (c0 : Nat) (l0 : List Int) (A1 : Option Addr) (c1 : Nat) (l1 : List Int) (r : Int) (w : World) (hr0 : Kd.C (Kd.int .u32) w A0 l0.length l0) (hc0 : l0.length ≤ c0) (hr1 : Kd.C (Kd.int .u32) w A1 l1.length l1) (hc1 : l1.length ≤ c1) (h : nat_Cmp.f l0 l1 = some r) :
    Calls Tryd.prog 48 #[.slice A0 l0.length c0, .slice A1 l1.length c1] w fun e w' => e = .returned (.int .i64 r) ∧ Drawn0 w w' := by
  unfold nat_Cmp.f cmpF at h
  by_cases hg : goodL l0 = true ∧ goodL l1 = true ∧ l0.length ≤ 1000000000000 ∧ l1.length ≤ 1000000000000
  · rw [if_pos hg] at h
    obtain rfl := Option.some.inj h
    obtain ⟨g0, g1, z0, z1⟩ := hg
    obtain ⟨k0, hk0⟩ := top_at (l := l0) (by omega)
    obtain ⟨k1, hk1⟩ := top_at (l := l1) (by omega)
    have ht0 := trimL_len l0
    have ht1 := trimL_len l1
    have hv0 := trimL_val l0
    have hv1 := trimL_val l1
    have hq0 := Fig.take_trim l0
    have hq1 := Fig.take_trim l1
    have hcl : (trimL l0).length ≠ (trimL l1).length → cmpN (valL l0) (valL l1) = cmpN (trimL l0).length (trimL l1).length := fun hne => by
      rw [← hv0, ← hv1]; exact cmp_len (trimL_good g0) (trimL_good g1) (trimL_canon l0) (trimL_canon l1) hne
    have hst : cmpN (valL l0) (valL l1) = cmpN (valL (l0.take (trimL l0).length)) (valL (l1.take (trimL l1).length)) := by rw [hq0, hq1, hv0, hv1]
    obtain ⟨n, hn⟩ : ∃ n, n = (trimL l0).length := ⟨_, rfl⟩
    obtain ⟨m, hm⟩ : ∃ m, m = (trimL l1).length := ⟨_, rfl⟩
    rw [← hn] at hk0 ht0 hcl hst
    rw [← hm] at hk1 ht1 hcl hst
    clear hn hm hq0 hq1 hv0 hv1 h
    obtain ⟨i0, hi0, _, hsz, _⟩ := info_parts info47
    obtain ⟨hcutA, _, hcA⟩ := print_take_of (P := Tryd.prog) (Value.int .u32) 0 28 47 .i64 Tryd.underlying28 hi0 hsz A0 c0 l0 (n : Int) (by omega) (by omega) hc0
    obtain ⟨hcutB, _, hcB⟩ := print_take_of (P := Tryd.prog) (Value.int .u32) 0 28 47 .i64 Tryd.underlying28 hi0 hsz A1 c1 l1 (m : Int) (by omega) (by omega) hc1
    rw [Int.toNat_natCast] at hcutA hcutB
    have Hk0 := Aside0.mk hk0
    have Hk1 := Aside0.mk hk1
    have HR0 := Aside0.mk hr0
    have HR1 := Aside0.mk hr1
    have HC0 := Aside0.mk hc0
    have HC1 := Aside0.mk hc1
    have Hcl := Aside0.mk hcl
    have Hst := Aside0.mk hst
    have G0 := Aside0.mk g0
    have G1 := Aside0.mk g1
    clear hk0 hk1 hr0 hr1 hc0 hc1 hcl hst g0 g1 hi0 hsz hcA hcB
    by_cases hnm : n = m
    · have e1 : ((n : Int) == (m : Int)) = true := by simp [hnm]
      have e2 : ((n : Int) != (m : Int)) = false := by simp [hnm]
      have e3 : (n == m) = true := by simp [hnm]
      have e4 : (n != m) = false := by simp [hnm]
      have Hnm := Aside0.mk hnm
      clear hnm
      go_enter Tryd.func48, Tryd.ntmps48
      go_wp2
      go_quiet (first | (go_at_call 70; (with_reducible refine (nat_top.calls k0 _ _ l0 (n : Int) _ ?side1 ?side2 Hk0.out).mono ?_); (case side1 => repeat (first | exact HR0.out | (with_reducible refine Kd.C_drewN ?_ _) | (with_reducible refine Kd.C_drew ?_))); (case side2 => exact HC0.out); rintro e w' ⟨rfl, ⟨nd, rfl⟩⟩; (first | exact ⟨rfl, _, World.drewN_drewN _ _ _⟩ | exact ⟨rfl, _, rfl⟩ | exact ⟨rfl, _, Eq.trans (World.drewN_drewN _ _ _) (congrArg (World.drewN _) (Nat.add_assoc _ _ _))⟩)) | (go_at_call 70; (with_reducible refine (nat_top.calls k1 _ _ l1 (m : Int) _ ?side1 ?side2 Hk1.out).mono ?_); (case side1 => repeat (first | exact HR1.out | (with_reducible refine Kd.C_drewN ?_ _) | (with_reducible refine Kd.C_drew ?_))); (case side2 => exact HC1.out); rintro e w' ⟨rfl, ⟨nd, rfl⟩⟩; (first | exact ⟨rfl, _, World.drewN_drewN _ _ _⟩ | exact ⟨rfl, _, rfl⟩ | exact ⟨rfl, _, Eq.trans (World.drewN_drewN _ _ _) (congrArg (World.drewN _) (Nat.add_assoc _ _ _))⟩)))
      go_wp2
      go_loopg [5] n (fun j v5 w' => ∃ x : Int, v5 = .int .i64 x ∧ Aside0 (x = (j : Int) - 1) ∧ Aside0 (j ≤ n) ∧ Aside0 (cmpN (valL l0) (valL l1) = cmpN (valL (l0.take j)) (valL (l1.take j))) ∧ Drawn0 w w')
      case atStart => exact ⟨(n : Int) - 1, rfl, ⟨rfl⟩, ⟨Nat.le_refl _⟩, ⟨by rw [Hst.out, ← Hnm.out]⟩, by repeat (first | exact Drawn0.refl _ | apply Drawn0.step)⟩
      case round =>
        obtain ⟨x, rfl, HX, HJ, HV, ⟨mm, rfl⟩⟩ := hrel
        cases gk with
        | zero =>
          have hx0 := HX.out
          have dx : decide (0 ≤ x) = false := decide_eq_false (by omega)
          clear hx0
          go_wp2
          go_ret
          exact ⟨ret_num (by rw [HV.out]; simp [valL, cmpN]), by repeat (first | exact Drawn0.refl _ | apply Drawn0.step)⟩
        | succ j =>
          have hx1 : 0 ≤ x := by have := HX.out; omega
          have hx2 : x < (n : Int) := by have := HX.out; have := HJ.out; omega
          have hx3 : x < (m : Int) := by have := Hnm.out; omega
          obtain ⟨ad0, ea0, hc0⟩ := Kd.at_int HR0.out x hx1 (by omega)
          obtain ⟨ad1, ea1, hc1⟩ := Kd.at_int HR1.out x hx1 (by omega)
          cases ea0
          cases ea1
          have dx : decide (0 ≤ x) = true := decide_eq_true hx1
          have xj : x = (j : Int) := by have := HX.out; omega
          have XJ := Aside0.mk xj
          have hj0 : j < l0.length := by omega
          have hj1 : j < l1.length := by omega
          have ht0 : rd l0 x = l0[j]'hj0 := by rw [xj]; exact rd_get hj0
          have ht1 : rd l1 x = l1[j]'hj1 := by rw [xj]; exact rd_get hj1
          have HT0 := Aside0.mk ht0
          have HT1 := Aside0.mk ht1
          have p0 := goodL_iff.1 G0.out _ (List.getElem_mem (l := l0) (n := j) hj0)
          have p1 := goodL_iff.1 G1.out _ (List.getElem_mem (l := l1) (n := j) hj1)
          have HP := Aside0.mk (And.intro p0 p1)
          have s0 := Fig.valL_take_succ (l := l0) (n := j) hj0
          have s1 := Fig.valL_take_succ (l := l1) (n := j) hj1
          have HS := Aside0.mk (And.intro s0 s1)
          clear xj ht0 ht1 p0 p1 s0 s1
          have px := eq_true hx1
          have q0 := eq_true hx2
          have q1 := eq_true hx3
          by_cases he : rd l0 x = rd l1 x
          · have b0 : (rd l0 x == rd l1 x) = true := by simpa using he
            have b1 : (rd l0 x != rd l1 x) = false := by simpa using he
            have HE := Aside0.mk he
            clear he
            go_wp2
            repeat (go_quiet (fail); go_wp2)
            go_roundg j
            case measure => omega
            case rel => exact ⟨x - 1, by first | rfl | simp | (simp [wrap64]; omega), ⟨by have := XJ.out; omega⟩, ⟨by have := HJ.out; omega⟩, ⟨by rw [HV.out, HS.out.1, HS.out.2]; have h1 := HT0.out; have h2 := HT1.out; have h3 := HE.out; rw [h1, h2] at h3; rw [h3]; exact (cmp_low _ _ _).symm⟩, by repeat (first | exact Drawn0.refl _ | apply Drawn0.step)⟩
          have b0 : (rd l0 x == rd l1 x) = false := by simpa using he
          have b1 : (rd l0 x != rd l1 x) = true := by simpa using he
          have HV2 := Aside0.mk (show cmpN (rd l0 x).toNat (rd l1 x).toNat = cmpN (valL l0) (valL l1) by
            have h1 := HT0.out
            have h2 := HT1.out
            have h3 := HP.out
            rw [HV.out, HS.out.1, HS.out.2, h1, h2]
            rw [h1, h2] at he
            exact cmp_top _ _ _ _ _ (valL_take_lt G0.out j) (valL_take_lt G1.out j) (by omega))
          have HC2 := Aside0.mk (show cmp_Compare_uint32.f (rd l0 x) (rd l1 x) = some (cmpN (valL l0) (valL l1)) by
            have h1 := HT0.out
            have h2 := HT1.out
            have h3 := HP.out
            rw [← HV2.out]
            have := cmpu_eq (rd l0 x).toNat (rd l1 x).toNat
            rwa [Int.toNat_of_nonneg (by rw [h1]; exact h3.1.1), Int.toNat_of_nonneg (by rw [h2]; exact h3.2.1)] at this)
          clear he
          go_wp2
          repeat (go_quiet (first | (go_at_call 72; (with_reducible refine (cmp_Compare_uint32.calls (rd l0 x) (rd l1 x) _ _ HC2.out).mono ?_); rintro e w' ⟨rfl, ⟨nd, rfl⟩⟩; (first | exact ⟨rfl, _, World.drewN_drewN _ _ _⟩ | exact ⟨rfl, _, rfl⟩ | exact ⟨rfl, _, Eq.trans (World.drewN_drewN _ _ _) (congrArg (World.drewN _) (Nat.add_assoc _ _ _))⟩))); go_wp2)
          go_ret
          exact ⟨rfl, by repeat (first | exact Drawn0.refl _ | apply Drawn0.step)⟩
    have e1 : ((n : Int) == (m : Int)) = false := by simp; omega
    have e2 : ((n : Int) != (m : Int)) = true := by simp; omega
    have e3 : (n == m) = false := by simpa using hnm
    have e4 : (n != m) = true := by simpa using hnm
    have HC2 := Aside0.mk (show cmp_Compare_int.f (n : Int) (m : Int) = some (cmpN (valL l0) (valL l1)) by rw [Hcl.out hnm]; exact cmpi_eq n m)
    clear hnm
    go_enter Tryd.func48, Tryd.ntmps48
    go_wp2
    go_quiet (first | (go_at_call 70; (with_reducible refine (nat_top.calls k0 _ _ l0 (n : Int) _ ?side1 ?side2 Hk0.out).mono ?_); (case side1 => repeat (first | exact HR0.out | (with_reducible refine Kd.C_drewN ?_ _) | (with_reducible refine Kd.C_drew ?_))); (case side2 => exact HC0.out); rintro e w' ⟨rfl, ⟨nd, rfl⟩⟩; (first | exact ⟨rfl, _, World.drewN_drewN _ _ _⟩ | exact ⟨rfl, _, rfl⟩ | exact ⟨rfl, _, Eq.trans (World.drewN_drewN _ _ _) (congrArg (World.drewN _) (Nat.add_assoc _ _ _))⟩)) | (go_at_call 70; (with_reducible refine (nat_top.calls k1 _ _ l1 (m : Int) _ ?side1 ?side2 Hk1.out).mono ?_); (case side1 => repeat (first | exact HR1.out | (with_reducible refine Kd.C_drewN ?_ _) | (with_reducible refine Kd.C_drew ?_))); (case side2 => exact HC1.out); rintro e w' ⟨rfl, ⟨nd, rfl⟩⟩; (first | exact ⟨rfl, _, World.drewN_drewN _ _ _⟩ | exact ⟨rfl, _, rfl⟩ | exact ⟨rfl, _, Eq.trans (World.drewN_drewN _ _ _) (congrArg (World.drewN _) (Nat.add_assoc _ _ _))⟩)))
    go_wp2_with (go_at_call 71; (with_reducible refine (cmp_Compare_int.calls (n : Int) (m : Int) _ _ HC2.out).mono ?_); rintro e w' ⟨rfl, ⟨nd, rfl⟩⟩)
    go_ret
    exact ⟨rfl, by repeat (first | exact Drawn0.refl _ | apply Drawn0.step)⟩
  rw [if_neg hg] at h; cases h
end Go.Proofs.YtbjaiphfehnncaaDoor.Px
end
section
namespace Go.Proofs.YtbjaiphfehnncaaDoor.Px
open Fig Go.RowKit Go.Proofs.YtbjaiphfehnncaaDoorW.PrintWords Go.Proofs.YtbjaiphfehnncaaDoorW.PrintLast Go.Proofs.YtbjaiphfehnncaaDoorW.PrintMore
attribute [local go_sem] max2_int min2_int max_two min_two max_three min_three max_four min_four   -- for this text's walks alone
attribute [local go_sem] fieldA23_0 fieldA23_1 fieldA23_2
set_option maxRecDepth 100000
theorem sub_digit1 (v a b P p bw q : Nat) (hp : p < bw + q) (hb : bw ≤ 1) (hq : q < 1000000000) (h : a + P * bw = v + b) : a + P * p + P * 1000000000 * 1 = v + P * (p + 1000000000 - (bw + q)) + (b + P * q) := by
  have e : P * p + P * 1000000000 + P * bw = P * (p + 1000000000 - (bw + q)) + P * bw + (P * q + P * bw) := by
    rw [← Nat.mul_add, ← Nat.mul_add, ← Nat.mul_add, ← Nat.mul_add, ← Nat.mul_add]; congr 1; omega
  rw [Nat.mul_one]; omega
theorem sub_digit0 (v a b P p bw q : Nat) (hp : ¬ p < bw + q) (h : a + P * bw = v + b) : a + P * p + P * 1000000000 * 0 = v + P * (p - (bw + q)) + (b + P * q) := by
  have e : P * p = P * (p - (bw + q)) + P * bw + P * q := by
    rw [← Nat.mul_add, ← Nat.mul_add]; congr 1; omega
  rw [Nat.mul_zero]; omega
def nat_Sub.f (l0 : List Int) (l1 : List Int) : Option (List Int × Bool) := subF l0 l1
set_option maxHeartbeats 1000000 in
theorem nat_Sub.calls (A0 : Option Addr) (c0 : Nat) (l0 : List Int) (A1 : Option Addr) (c1 : Nat) (l1 : List Int) (r1 : List Int) (r2 : Bool) (w : World) (hr0 : Kd.C (Kd.int .u32) w A0 l0.length l0) (hc0 : l0.length ≤ c0) (hr1 : Kd.C (Kd.int .u32) w A1 l1.length l1) (hc1 : l1.length ≤ c1) (h : nat_Sub.f l0 l1 = some (r1, r2)) :
    Calls Tryd.prog 55 #[.slice A0 l0.length c0, .slice A1 l1.length c1] w fun e w' => ∃ v0_ : Value, e = .returned (.tuple #[v0_, .bool r2]) ∧ Kd.R (Kd.int .u32) 47 w' w.heap.size (fun _ => True) v0_ r1 ∧ Below w.heap.size w w' := by
  unfold nat_Sub.f subF at h
  by_cases hg : goodL l0 = true ∧ goodL l1 = true ∧ l0.length ≤ 1000000000000 ∧ l1.length ≤ 1000000000000
  · rw [if_pos hg] at h
    obtain ⟨g0, g1, z0, z1⟩ := hg
    obtain ⟨cc, hcc⟩ : ∃ c, c = cmpN (valL l0) (valL l1) := ⟨_, rfl⟩
    have HCM := Aside0.mk (show nat_Cmp.f l0 l1 = some cc by rw [hcc]; exact cmpF_eq g0 g1 z0 z1)
    have G0 := Aside0.mk g0
    have G1 := Aside0.mk g1
    have HR0 := Aside0.mk hr0
    have HR1 := Aside0.mk hr1
    have HC0 := Aside0.mk hc0
    have HC1 := Aside0.mk hc1
    clear g0 g1 hr0 hr1 hc0 hc1
    by_cases hlt : valL l0 < valL l1
    · rw [if_pos hlt] at h
      simp only [Option.some.injEq, Prod.mk.injEq] at h
      obtain ⟨rfl, rfl⟩ := h
      have hneg : cc < 0 := by rw [hcc]; unfold cmpN; rw [if_pos hlt]; omega
      have dc : decide (cc < 0) = true := decide_eq_true hneg
      clear hcc hneg hlt
      go_enter Tryd.func55, Tryd.ntmps55
      go_wp2_with (go_at_call 48; (with_reducible refine (nat_Cmp.calls _ _ l0 _ _ l1 cc _ ?side1 ?side2 ?side3 ?side4 HCM.out).mono ?_); (case side1 => exact HR0.out); (case side2 => exact HC0.out); (case side3 => exact HR1.out); (case side4 => exact HC1.out); rintro e w' ⟨rfl, ⟨nd, rfl⟩⟩)
      go_ret2
      exact ⟨_, rfl, Kd.R_nil _ _ _ _ _, pw_below_drewN (Below.refl _ _) _⟩
    rw [if_neg hlt] at h
    simp only [Option.some.injEq, Prod.mk.injEq] at h
    obtain ⟨rfl, rfl⟩ := h
    have hneg : ¬ cc < 0 := by rw [hcc]; unfold cmpN; rw [if_neg hlt]; split <;> omega
    have dc : decide (cc < 0) = false := decide_eq_false hneg
    have hle : valL l1 ≤ valL l0 := by omega
    obtain ⟨k1, hk1⟩ := top_at (l := l1) (by omega)
    have ht1 := trimL_len l1
    have hm1 : (trimL l1).length ≤ l0.length := by
      rcases Nat.lt_or_ge l0.length (trimL l1).length with h1 | h1
      · have := len_lt G0.out (trimL_good G1.out) (trimL_canon l1) h1
        rw [trimL_val] at this; omega
      · exact h1
    have hq1 := Fig.take_trim l1
    have hv1 := trimL_val l1
    obtain ⟨m, hm⟩ : ∃ m, m = (trimL l1).length := ⟨_, rfl⟩
    rw [← hm] at hk1 ht1 hm1 hq1
    obtain ⟨i0, hi0, _, hsz, _⟩ := info_parts info47
    obtain ⟨hcutB, _, hcB⟩ := print_take_of (P := Tryd.prog) (Value.int .u32) 0 28 47 .i64 Tryd.underlying28 hi0 hsz A1 c1 l1 (m : Int) (by omega) (by omega) HC1.out
    rw [Int.toNat_natCast] at hcutB
    have Hk1 := Aside0.mk hk1
    have HT := Aside0.mk (And.intro hq1 hv1)
    have HLE := Aside0.mk hle
    clear hcc hneg hlt hk1 hm hq1 hv1 hle hi0 hsz hcB
    go_enter Tryd.func55, Tryd.ntmps55
    go_wp2_with (first
      | (go_at_call 48; (with_reducible refine (nat_Cmp.calls _ _ l0 _ _ l1 cc _ ?side1 ?side2 ?side3 ?side4 HCM.out).mono ?_); (case side1 => exact HR0.out); (case side2 => exact HC0.out); (case side3 => exact HR1.out); (case side4 => exact HC1.out); rintro e w' ⟨rfl, ⟨nd, rfl⟩⟩)
      | (go_at_call 70; (with_reducible refine (nat_top.calls k1 _ _ l1 (m : Int) _ ?side1 ?side2 Hk1.out).mono ?_); (case side1 => repeat (first | exact HR1.out | (with_reducible refine Kd.C_drewN ?_ _) | (with_reducible refine Kd.C_drew ?_))); (case side2 => exact HC1.out); rintro e w' ⟨rfl, ⟨nd2, rfl⟩⟩)
      | ((with_reducible refine gate_dst (N := 21) rfl ?_); refine R_make_cap (k := .u32) w.heap.size 47 rfl 28 _ _ rfl l0.length rfl (by first | rfl | simp) Tryd.underlying28 (.int .u32 0) 4 info47 (fun _ => True) trivial (by omega) (by omega) (w0 := w) (by repeat (first | exact Below.refl _ _ | apply pw_below_drewN | apply below_drew1)) (by first | exact Nat.le_refl _ | simp) ?_; intro v20 w20 ho20 hb20; have HO := Aside0.mk ho20; have HB := Aside0.mk hb20; clear ho20 hb20))
    go_loopg [6, 7, 24] l0.length (fun j v6 v7 v24 w' => ∃ (n bw : Nat) (o : List Int), v24 = .int .i64 (n : Int) ∧ v7 = .int .u32 (bw : Int) ∧ Aside0 (n + j = l0.length) ∧ Aside0 (bw ≤ 1 ∧ goodL o = true ∧ o.length = n ∧ valL (l0.take n) + 1000000000 ^ n * bw = valL o + valL ((l1.take m).take n)) ∧ Aside0 (Kd.R (Kd.int .u32) 47 w' w.heap.size (fun _ => True) v6 o) ∧ Aside0 (Below w.heap.size w w'))
    case atStart => exact ⟨0, 0, [], rfl, rfl, ⟨by omega⟩, ⟨by omega, rfl, rfl, by simp [valL]⟩, HO, HB⟩
    case round =>
      clear HO HB
      obtain ⟨n, bw, o, rfl, rfl, HN, HI, HO, HB⟩ := hrel
      cases gk with
      | zero =>
        have hn := HN.out
        have hd : decide (n < l0.length) = false := decide_eq_false (by omega)
        have HV := Aside0.mk (show goodL o = true ∧ o.length ≤ 1000000000000 ∧ valL o = valL l0 - valL l1 by
          obtain ⟨i1, i2, i3, i4⟩ := HI.out
          refine ⟨i2, by omega, ?_⟩
          have ho := valL_lt i2
          have hle := HLE.out
          rw [List.take_of_length_le (by omega), List.take_of_length_le (by simp; omega), HT.out.1, HT.out.2] at i4
          rw [i3] at ho
          rcases Nat.eq_zero_or_pos bw with h0 | h0
          · subst h0; omega
          · have := Nat.mul_le_mul_left (1000000000 ^ n) h0
            omega)
        clear hn
        obtain ⟨A9, c9, rfl⟩ := Kd.R_slice HO.out
        go_wp2_with (first
          | (go_at_call 62; (with_reducible refine (nat_Trim.calls A9 c9 o (limbs (valL l0 - valL l1)) _ ?side1 ?side2 ?side3).mono ?_); (case side1 => exact (Kd.R_reads' HO.out).2.2); (case side2 => exact (Kd.R_reads' HO.out).2.1); (case side3 => rw [← HV.out.2.2]; exact trimF_eq HV.out.1 (by have := HV.out.2.1; omega)); rintro e w12 ⟨v0, rfl, ho, hb⟩; have n0_ := Aside0.mk (Kd.R_lower ho (below_size (BL HB))); have n1_ := hbs_ HB hb; clear ho hb HB HO; have HB := n1_; have HO := n0_; clear n0_ n1_))
        go_ret2
        exact ⟨_, rfl, HO.out, HB.out⟩
      | succ j =>
        have hn := HN.out
        have hnl : n < l0.length := by omega
        have hd : decide (n < l0.length) = true := decide_eq_true hnl
        obtain ⟨ad, ea, hc⟩ := Kd.at_int HR0.out (n : Int) (by omega) (by omega)
        cases ea
        rw [Int.toNat_natCast] at hc
        replace hc := (HB.out.cell (World.block_lt_of_cell? w _ hc)).trans hc
        obtain ⟨p, hp⟩ : ∃ p : Nat, rd l0 (n : Int) = (p : Int) := ⟨(rd l0 (n : Int)).toNat, by have := goodL_iff.1 G0.out _ (List.getElem_mem hnl); rw [rd_get hnl]; omega⟩
        have hp9 : p < 1000000000 := by have := goodL_iff.1 G0.out _ (List.getElem_mem hnl); rw [rd_get hnl] at hp; omega
        rw [hp] at hc
        have HNL := Aside0.mk hnl
        have HP := Aside0.mk (show (l0[n]'HNL.out).toNat = p by rw [rd_get hnl] at hp; rw [hp]; rfl)
        have HS := Aside0.mk (Fig.valL_take_succ HNL.out)
        have hbw : bw ≤ 1 := HI.out.1
        have HL := Aside0.mk (show (o.length + 1) * 4 ≤ 140737488355328 by
          have := HI.out
          omega)
        have qn := eq_true hnl
        clear hp hn hnl
        by_cases hm : n < m
        · have hdm : decide (n < m) = true := decide_eq_true hm
          have hm' : n < l1.length := by omega
          obtain ⟨ad2, ea2, hc2⟩ := Kd.at_int HR1.out (n : Int) (by omega) (by omega)
          cases ea2
          rw [Int.toNat_natCast] at hc2
          replace hc2 := (HB.out.cell (World.block_lt_of_cell? w _ hc2)).trans hc2
          obtain ⟨q, hq⟩ : ∃ q : Nat, rd l1 (n : Int) = (q : Int) := ⟨(rd l1 (n : Int)).toNat, by have := goodL_iff.1 G1.out _ (List.getElem_mem hm'); rw [rd_get hm']; omega⟩
          have hq9 : q < 1000000000 := by have := goodL_iff.1 G1.out _ (List.getElem_mem hm'); rw [rd_get hm'] at hq; omega
          rw [hq] at hc2
          have HM := Aside0.mk hm'
          have HQ := Aside0.mk (show (l1[n]'HM.out).toNat = q by rw [rd_get hm'] at hq; rw [hq]; rfl)
          have HS2 := Aside0.mk (Fig.valL_take_succ HM.out)
          have HM2 := Aside0.mk hm
          have qm := eq_true hm
          clear hq hm hm'
          by_cases hv : p < bw + q
          · have dv : decide (p < bw + q) = true := decide_eq_true hv
            have dv2 : decide ((p : Int) < (bw : Int) + (q : Int)) = true := decide_eq_true (by omega)
            go_wp2_with (first | ((with_reducible refine gate_builtin (b := .append) (xs := #[.tmp 45, .tmp 49]) rfl ?_); at_builtin; refine Kd.R_append (Kd.int .u32) (w0 := w) w.heap.size rfl (.tmp 45) (.tmp 49) 28 47 (.int .u32 0) 4 rfl Tryd.underlying28 info47 rfl (by decide) (by omega) _ o ((p : Int) + 1000000000 - ((bw : Int) + (q : Int))) [.int .u32 ((p : Int) + 1000000000 - ((bw : Int) + (q : Int)))] (fun _ => True) (fun _ => False) rfl rfl ?aP (fun _ hk => hk.elim) ?aF ?aO ?aB ?aS ?aL ?_; (case aP => exact rfl); (case aB => exact (BL HB)); (case aF => exact (fun _ _ => trivial)); (case aO => exact (RB HO.out)); (case aS => exact (below_size (BL HB))); (case aL => exact HL.out); intro v49 w11 ho hb hg hat; replace HB := Aside0.mk hb; replace HO := Aside0.mk ho; clear ho hb hg hat))
            go_roundg j
            case measure => omega
            case rel =>
              exact ⟨n + 1, 1, _, by rw [succ64 n (by have := HN.out; omega)], by first | rfl | go_num, ⟨by have := HN.out; omega⟩, ⟨by
                obtain ⟨i1, i2, i3, i4⟩ := HI.out
                rw [show ((p : Int) + 1000000000 - ((bw : Int) + (q : Int))) = ((p + 1000000000 - (bw + q) : Nat) : Int) by omega]
                refine ⟨by omega, goodL_append.2 ⟨i2, goodL_cons.2 ⟨by omega, rfl⟩⟩, by simp [i3], ?_⟩
                have hm := HM2.out
                have e1 : (l1.take m).take (n + 1) = l1.take (n + 1) := by rw [List.take_take, Nat.min_eq_left (by omega)]
                have e2 : (l1.take m).take n = l1.take n := by rw [List.take_take, Nat.min_eq_left (by omega)]
                rw [e2] at i4
                rw [valL_snoc, Int.toNat_natCast, i3, Nat.pow_succ, HS.out, HP.out, e1, HS2.out, HQ.out]
                exact sub_digit1 _ _ _ _ _ _ q (by omega) (by omega) (by omega) i4⟩, HO, HB⟩
          have dv : decide (p < bw + q) = false := decide_eq_false hv
          have dv2 : decide ((p : Int) < (bw : Int) + (q : Int)) = false := decide_eq_false (by omega)
          go_wp2_with (first | ((with_reducible refine gate_builtin (b := .append) (xs := #[.tmp 45, .tmp 49]) rfl ?_); at_builtin; refine Kd.R_append (Kd.int .u32) (w0 := w) w.heap.size rfl (.tmp 45) (.tmp 49) 28 47 (.int .u32 0) 4 rfl Tryd.underlying28 info47 rfl (by decide) (by omega) _ o ((p : Int) - ((bw : Int) + (q : Int))) [.int .u32 ((p : Int) - ((bw : Int) + (q : Int)))] (fun _ => True) (fun _ => False) rfl rfl ?aP (fun _ hk => hk.elim) ?aF ?aO ?aB ?aS ?aL ?_; (case aP => exact rfl); (case aB => exact (BL HB)); (case aF => exact (fun _ _ => trivial)); (case aO => exact (RB HO.out)); (case aS => exact (below_size (BL HB))); (case aL => exact HL.out); intro v49 w11 ho hb hg hat; replace HB := Aside0.mk hb; replace HO := Aside0.mk ho; clear ho hb hg hat))
          go_roundg j
          case measure => omega
          case rel =>
            exact ⟨n + 1, 0, _, by rw [succ64 n (by have := HN.out; omega)], by first | rfl | go_num, ⟨by have := HN.out; omega⟩, ⟨by
              obtain ⟨i1, i2, i3, i4⟩ := HI.out
              rw [show ((p : Int) - ((bw : Int) + (q : Int))) = ((p - (bw + q) : Nat) : Int) by omega]
              refine ⟨by omega, goodL_append.2 ⟨i2, goodL_cons.2 ⟨by omega, rfl⟩⟩, by simp [i3], ?_⟩
              have hm := HM2.out
              have e1 : (l1.take m).take (n + 1) = l1.take (n + 1) := by rw [List.take_take, Nat.min_eq_left (by omega)]
              have e2 : (l1.take m).take n = l1.take n := by rw [List.take_take, Nat.min_eq_left (by omega)]
              rw [e2] at i4
              rw [valL_snoc, Int.toNat_natCast, i3, Nat.pow_succ, HS.out, HP.out, e1, HS2.out, HQ.out]
              exact sub_digit0 _ _ _ _ _ _ q (by omega) i4⟩, HO, HB⟩
            
        have hdm : decide (n < m) = false := decide_eq_false hm
        have HM := Aside0.mk hm
        clear hm
        by_cases hv : p < bw
        · have dv : decide (p < bw) = true := decide_eq_true hv
          have dv2 : decide ((p : Int) < (bw : Int)) = true := decide_eq_true (by omega)
          go_wp2_with (first | ((with_reducible refine gate_builtin (b := .append) (xs := #[.tmp 45, .tmp 49]) rfl ?_); at_builtin; refine Kd.R_append (Kd.int .u32) (w0 := w) w.heap.size rfl (.tmp 45) (.tmp 49) 28 47 (.int .u32 0) 4 rfl Tryd.underlying28 info47 rfl (by decide) (by omega) _ o ((p : Int) + 1000000000 - (bw : Int)) [.int .u32 ((p : Int) + 1000000000 - (bw : Int))] (fun _ => True) (fun _ => False) rfl rfl ?aP (fun _ hk => hk.elim) ?aF ?aO ?aB ?aS ?aL ?_; (case aP => exact rfl); (case aB => exact (BL HB)); (case aF => exact (fun _ _ => trivial)); (case aO => exact (RB HO.out)); (case aS => exact (below_size (BL HB))); (case aL => exact HL.out); intro v49 w11 ho hb hg hat; replace HB := Aside0.mk hb; replace HO := Aside0.mk ho; clear ho hb hg hat))
          go_roundg j
          case measure => omega
          case rel =>
            exact ⟨n + 1, 1, _, by rw [succ64 n (by have := HN.out; omega)], by first | rfl | go_num, ⟨by have := HN.out; omega⟩, ⟨by
              obtain ⟨i1, i2, i3, i4⟩ := HI.out
              rw [show ((p : Int) + 1000000000 - (bw : Int)) = ((p + 1000000000 - (bw) : Nat) : Int) by omega]
              refine ⟨by omega, goodL_append.2 ⟨i2, goodL_cons.2 ⟨by omega, rfl⟩⟩, by simp [i3], ?_⟩
              have hm := HM.out
              have e1 : (l1.take m).take (n + 1) = (l1.take m).take n := by rw [List.take_take, List.take_take, Nat.min_eq_right (by omega), Nat.min_eq_right (by omega)]
              rw [valL_snoc, Int.toNat_natCast, i3, Nat.pow_succ, HS.out, HP.out, e1]
              exact sub_digit1 _ _ _ _ _ _ 0 (by omega) (by omega) (by omega) i4⟩, HO, HB⟩
        have dv : decide (p < bw) = false := decide_eq_false hv
        have dv2 : decide ((p : Int) < (bw : Int)) = false := decide_eq_false (by omega)
        go_wp2_with (first | ((with_reducible refine gate_builtin (b := .append) (xs := #[.tmp 45, .tmp 49]) rfl ?_); at_builtin; refine Kd.R_append (Kd.int .u32) (w0 := w) w.heap.size rfl (.tmp 45) (.tmp 49) 28 47 (.int .u32 0) 4 rfl Tryd.underlying28 info47 rfl (by decide) (by omega) _ o ((p : Int) - (bw : Int)) [.int .u32 ((p : Int) - (bw : Int))] (fun _ => True) (fun _ => False) rfl rfl ?aP (fun _ hk => hk.elim) ?aF ?aO ?aB ?aS ?aL ?_; (case aP => exact rfl); (case aB => exact (BL HB)); (case aF => exact (fun _ _ => trivial)); (case aO => exact (RB HO.out)); (case aS => exact (below_size (BL HB))); (case aL => exact HL.out); intro v49 w11 ho hb hg hat; replace HB := Aside0.mk hb; replace HO := Aside0.mk ho; clear ho hb hg hat))
        go_roundg j
        case measure => omega
        case rel =>
          exact ⟨n + 1, 0, _, by rw [succ64 n (by have := HN.out; omega)], by first | rfl | go_num, ⟨by have := HN.out; omega⟩, ⟨by
            obtain ⟨i1, i2, i3, i4⟩ := HI.out
            rw [show ((p : Int) - (bw : Int)) = ((p - (bw) : Nat) : Int) by omega]
            refine ⟨by omega, goodL_append.2 ⟨i2, goodL_cons.2 ⟨by omega, rfl⟩⟩, by simp [i3], ?_⟩
            have hm := HM.out
            have e1 : (l1.take m).take (n + 1) = (l1.take m).take n := by rw [List.take_take, List.take_take, Nat.min_eq_right (by omega), Nat.min_eq_right (by omega)]
            rw [valL_snoc, Int.toNat_natCast, i3, Nat.pow_succ, HS.out, HP.out, e1]
            exact sub_digit0 _ _ _ _ _ _ 0 (by omega) i4⟩, HO, HB⟩
          
  rw [if_neg hg] at h; cases h
end Go.Proofs.YtbjaiphfehnncaaDoor.Px
end
