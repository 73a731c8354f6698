-- written by fprint.py (this project's own driver over the printer); Lean checks it
import Derived.Test.YtbjaiphfehnncaaDoorProg
import Derived.Below
import Derived.Deep.Draws
import Derived.Deep.AppendLies
import Derived.Maps.AppendAt
import Derived.OwnWalk
import Derived.Laws.BytesArg
import Derived.Laws.MakeOwn
import Derived.Laws.OwnMore
import Derived.Deep.OwnRows
import Derived.Tactics
import Derived.Lib.ConvBytes
import Derived.Laws.Slices
import Derived.WalkKit
import Derived.KernelRfl
import Derived.RowKit3
import Derived.Deep.LoopGhost
import Derived.Deep.QuietTactic
import Derived.BigQuiet
import Derived.WideLaws
import Derived.Deep.DeepCutAuto
import Derived.Deep.CutBlock
import Derived.Deep.RegionHeld3
import Derived.Laws.Rows
import Derived.Lib.AppendStr
import Derived.ArgAppend
import Derived.Laws.IdiomCopy
import Derived.OrdersHeld
import Derived.Laws.BitsLemmas
import Derived.RowKit
import Derived.Test.YtbjaiphfehnncaaDoorFBase
import Derived.Test.YtbjaiphfehnncaaDoorFDig
import Derived.Test.YtbjaiphfehnncaaDoorFNum
import Derived.Test.YtbjaiphfehnncaaDoorFDec
import Derived.Test.YtbjaiphfehnncaaDoorFRound
import Derived.Test.YtbjaiphfehnncaaDoorFZ
import Derived.Test.YtbjaiphfehnncaaDoorFRd
import Derived.Test.YtbjaiphfehnncaaDoorFEv
import Derived.Test.YtbjaiphfehnncaaDoorFCopy
import Derived.Test.YtbjaiphfehnncaaDoorFMake
import Derived.Test.YtbjaiphfehnncaaDoorFGlob
import Derived.Test.YtbjaiphfehnncaaDoorWWords
import Derived.Test.YtbjaiphfehnncaaDoorWLast
import Derived.Test.YtbjaiphfehnncaaDoorWTab
import Derived.Test.YtbjaiphfehnncaaDoorWFour
import Derived.Test.YtbjaiphfehnncaaDoorWQPut
import Derived.Test.YtbjaiphfehnncaaDoorWApart
import Derived.Test.YtbjaiphfehnncaaDoorWArr
import Derived.Test.YtbjaiphfehnncaaDoorWZeros
import Derived.Test.YtbjaiphfehnncaaDoorWFoot
import Derived.Test.YtbjaiphfehnncaaDoorWKept
import Derived.Test.YtbjaiphfehnncaaDoorWShare
import Derived.Test.YtbjaiphfehnncaaDoorWN
import Derived.Test.YtbjaiphfehnncaaDoorWFootNe
import Derived.Test.YtbjaiphfehnncaaDoorWAt
import Derived.Test.YtbjaiphfehnncaaDoorWEqStruct
import Derived.Test.YtbjaiphfehnncaaDoorWRepsOne
import Derived.Test.YtbjaiphfehnncaaDoorWInv
import Derived.Test.YtbjaiphfehnncaaDoorWInvWords
import Derived.Test.YtbjaiphfehnncaaDoorWGuard
import Derived.Test.YtbjaiphfehnncaaDoorWNEv
import Derived.Test.YtbjaiphfehnncaaDoorWMore
namespace Go.Proofs.YtbjaiphfehnncaaDoor.Px
open Fig Go.RowKit Go.Proofs.YtbjaiphfehnncaaDoorW.PrintWords Go.Proofs.YtbjaiphfehnncaaDoorW.PrintLast Go.Proofs.YtbjaiphfehnncaaDoorW.PrintMore
attribute [local go_sem] max2_int min2_int max_two min_two max_three min_three max_four min_four   -- for this text's walks alone



def errW : Option Int → Value
  | none => .nilIface
  | some c => .iface 0 (.int .i64 c)
theorem errW_none : errW none = .nilIface := rfl
theorem errW_some (c : Int) : errW (some c) = .iface 0 (.int .i64 c) := rfl

theorem info3 : (Tryd.prog.info? 3).map (fun i => (i.zero, i.size, i.bytes)) = some (some (.int .i64 0), 1, 8) := by kernel_rfl
theorem info5 : (Tryd.prog.info? 5).map (fun i => (i.zero, i.size, i.bytes)) = some (some (.int .u8 0), 1, 1) := by kernel_rfl
theorem info23 : (Tryd.prog.info? 23).map (fun i => (i.zero, i.size, i.bytes)) = some (some (.agg #[(.bool false), (.string ⟨#[]⟩), (.int .i64 0)]), 3, 32) := by kernel_rfl
theorem info47 : (Tryd.prog.info? 47).map (fun i => (i.zero, i.size, i.bytes)) = some (some (.int .u32 0), 1, 4) := by kernel_rfl
-- the values' own types
def rd_L1 (xs : List (List Int)) (i : Int) : (List Int) := xs.getD i.toNat ([] : List Int)
theorem at_L1 {w : World} {A : Option Addr} {n : Nat} {xs : List (List Int)} (h : Kd.C (Kd.slice 47 (Kd.int .u32)) w A n xs) (i : Int) (h0 : 0 ≤ i) (h1 : i < n) : ∃ ad A0 c0, A = some ad ∧ w.cell? (ad.add i.toNat) = some (.slice A0 (rd_L1 xs i).length c0) ∧ (rd_L1 xs i).length ≤ c0 ∧ (Kd.int .u32).C w A0 (rd_L1 xs i).length (rd_L1 xs i) := by
  obtain ⟨ad, c, e, _, hK, hc0⟩ := Kd.C_get h ([] : List Int) i h0 h1
  have hc : ∀ j u, c[j]? = some u → w.cell? (ad.add (i.toNat * 1 + j)) = some u := hc0
  obtain ⟨A0, c0, rfl, l0, g0⟩ := hK
  exact ⟨ad, A0, c0, e, by have hq := hc 0 _ rfl; rwa [Nat.mul_one, Nat.add_zero] at hq, l0, g0⟩

/-! #### struct type 23 -/
structure S23 where
  f0 : Bool
  f1 : ByteArray
  f2 : Int
def z23 : S23 := ⟨false, (⟨#[]⟩ : ByteArray), (0 : Int)⟩
def k23 : Kd S23 := Kd.iso (Kd.pair Kd.bool (Kd.pair Kd.string (Kd.int .i64))) (fun x : S23 => (x.f0, x.f1, x.f2))
theorem k23_heap : Kd.Heap k23 := Kd.heap_iso _ (Kd.heap_pair Kd.heap_bool (Kd.heap_pair Kd.heap_string (Kd.heap_int .i64)))
theorem k23_open {w : World} {x : S23} {cs : List Value} (h : k23.K w x cs) : cs = [.bool x.f0, .string x.f1, .int .i64 x.f2] := by
  obtain ⟨_, _, rfl, rfl, ⟨_, _, rfl, rfl, rfl⟩⟩ := h
  exact rfl
theorem k23_openM {w : World} {base : Nat} {ok : Nat → Prop} {x : S23} {cs : List Value} (h : k23.M w base ok x cs) : cs = [.bool x.f0, .string x.f1, .int .i64 x.f2] := by
  obtain ⟨_, _, rfl, rfl, ⟨_, _, rfl, rfl, rfl⟩⟩ := h
  exact rfl
theorem k23_mk (w : World) (x : S23)  : k23.K w x [.bool x.f0, .string x.f1, .int .i64 x.f2] := ⟨[.bool x.f0], [.string x.f1, .int .i64 x.f2], rfl, rfl, ⟨[.string x.f1], [.int .i64 x.f2], rfl, rfl, rfl⟩⟩
theorem k23_mkM (w : World) (base : Nat) (ok : Nat → Prop) (x : S23)  : k23.M w base ok x [.bool x.f0, .string x.f1, .int .i64 x.f2] := ⟨[.bool x.f0], [.string x.f1, .int .i64 x.f2], rfl, rfl, ⟨[.string x.f1], [.int .i64 x.f2], rfl, rfl, rfl⟩⟩
def rd_T23 (xs : List S23) (i : Int) : S23 := xs.getD i.toNat z23
theorem at_T23 {w : World} {A : Option Addr} {n : Nat} {xs : List S23} (h : Kd.C k23 w A n xs) (i : Int) (h0 : 0 ≤ i) (h1 : i < n) : ∃ ad , A = some ad ∧ w.cell? (ad.add (i.toNat * 3)) = some (.bool (rd_T23 xs i).f0) ∧ w.cell? ⟨(ad.add (i.toNat * 3)).block, (ad.add (i.toNat * 3)).off + 1, none⟩ = some (.string (rd_T23 xs i).f1) ∧ w.cell? ⟨(ad.add (i.toNat * 3)).block, (ad.add (i.toNat * 3)).off + 2, none⟩ = some (.int .i64 (rd_T23 xs i).f2) := by
  obtain ⟨ad, c, e, _, hK, hc0⟩ := Kd.C_get h z23 i h0 h1
  have hc : ∀ j u, c[j]? = some u → w.cell? (ad.add (i.toNat * 3 + j)) = some u := hc0
  obtain rfl := k23_open hK
  exact ⟨ad, e, hc 0 _ rfl, by rw [← add_field _ _ 1 (by omega)]; exact hc 1 _ rfl, by rw [← add_field _ _ 2 (by omega)]; exact hc 2 _ rfl⟩

theorem fieldA23_0 (v0_ v1_ v2_ : Value) (w : World) : (Instr.field 23 (.agg #[v0_, v1_, v2_]) 0).run Tryd.prog w = .ok v0_ w := by kernel_rfl
theorem fieldA23_1 (v0_ v1_ v2_ : Value) (w : World) : (Instr.field 23 (.agg #[v0_, v1_, v2_]) 1).run Tryd.prog w = .ok v1_ w := by kernel_rfl
theorem fieldA23_2 (v0_ v1_ v2_ : Value) (w : World) : (Instr.field 23 (.agg #[v0_, v1_, v2_]) 2).run Tryd.prog w = .ok v2_ w := by kernel_rfl
end Go.Proofs.YtbjaiphfehnncaaDoor.Px
