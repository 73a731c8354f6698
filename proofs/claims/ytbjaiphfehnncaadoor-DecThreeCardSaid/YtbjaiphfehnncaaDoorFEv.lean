/- Small words for plain proofs over printed functions. -/
import Derived.Test.YtbjaiphfehnncaaDoorWMore
import Derived.Test.YtbjaiphfehnncaaDoorFDig
namespace Go.Proofs.YtbjaiphfehnncaaDoorW.PrintWords
open Go.RowKit Fig
theorem evDone {α : Type} {g : Nat → Option α} {r r' : α} (h : ∀ k, g (k + 1) = some r') (e : r' = r) : Ev g r := by
  subst e
  exact Ev.step h (Ev.now _)
theorem evIs {α : Type} {g : Nat → Option α} {r r' : α} (h : Ev g r') (e : r' = r) : Ev g r := e ▸ h
theorem evSome {α : Type} {g : Nat → Option α} {r : α} (h : ∀ k, g k = some r) : Ev g r := ⟨0, fun k _ => h k⟩
theorem evT {α : Type} {c : Prop} [Decidable c] {f g : Nat → Option α} {r : α} (hc : c) (h : Ev f r) : Ev (fun k => if c then f k else g k) r := by simpa only [hc, if_true] using h
theorem evF {α : Type} {c : Prop} [Decidable c] {f g : Nat → Option α} {r : α} (hc : ¬ c) (h : Ev g r) : Ev (fun k => if c then f k else g k) r := by simpa only [hc, if_false] using h
theorem evE {α β : Type} {x : Option α} {f : α → Nat → Option β} {a : α} {r : β} (hx : x = some a) (h : Ev (f a) r) : Ev (fun k => x.bind fun y => f y k) r := by subst hx; exact h
theorem w64 {x : Int} (h0 : -9223372036854775808 ≤ x) (h1 : x ≤ 9223372036854775807) : wrap64 x = x := by unfold wrap64; omega
theorem u64w {x : Int} (h0 : 0 ≤ x) (h1 : x ≤ 18446744073709551615) : IntKind.u64.wrap x = x := by
  simp [IntKind.wrap, IntKind.signed, IntKind.bits]; omega
theorem bt_get {s : ByteArray} {n : Nat} (h : n < s.size) : bt s (n : Int) = ((s.data.toList[n]'(by rw [← size_eq]; exact h)).toNat : Int) := by
  unfold bt
  rw [dif_pos (by simpa using h)]
  simp [ByteArray.getElem_eq_getElem_data]
theorem rd_get {l : List Int} {n : Nat} (h : n < l.length) : rd l (n : Int) = l[n] := by
  unfold rd
  rw [Int.toNat_natCast, List.getD_eq_getElem?_getD, List.getElem?_eq_getElem h]; rfl
theorem succ64 (k : Nat) (h : k ≤ 4611686018427387904) : wrap64 ((k : Int) + 1) = ((k + 1 : Nat) : Int) := by rw [w64 (by omega) (by omega)]; rfl
theorem pred64 (k : Nat) (h : k ≤ 4611686018427387904) : wrap64 (((k + 1 : Nat) : Int) - 1) = (k : Int) := by rw [w64 (by omega) (by omega)]; omega
theorem sum64 (p q : Nat) (hp : p ≤ 1000000000000) (hq : q ≤ 1000000000000) : wrap64 ((p : Int) + (q : Int)) = ((p + q : Nat) : Int) := by rw [w64 (by omega) (by omega)]; omega
theorem times_len (p q : Nat) (hp : p ≤ 1000000) (hq : q ≤ 1000000) : wrap64 (wrap64 ((p : Int) + (q : Int)) + 1) = ((p + q + 1 : Nat) : Int) := by
  rw [w64 (x := (p : Int) + (q : Int)) (by omega) (by omega), w64 (by omega) (by omega)]; omega
end Go.Proofs.YtbjaiphfehnncaaDoorW.PrintWords
namespace Fig
theorem bne_nil (l : List UInt8) : (l != []) = !l.isEmpty := by cases l <;> rfl
end Fig
