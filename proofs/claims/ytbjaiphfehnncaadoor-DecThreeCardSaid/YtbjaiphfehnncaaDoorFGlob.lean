/- What the listed package variables hold. -/
import Derived.Test.YtbjaiphfehnncaaDoorProg
import Derived.Test.YtbjaiphfehnncaaDoorWWords
import Derived.Below
namespace Fig
open Go Go.RowKit
theorem cell_lt {w : World} {a : Addr} {v : Value} (h : w.cell? a = some v) : a.block < w.heap.size := by
  apply Classical.byContradiction; intro hn
  have e : w.heap[a.block]? = none := Array.getElem?_eq_none (by omega)
  unfold World.cell? at h; rw [e] at h; simp at h
structure Glob (w : World) : Prop where
  pows : ∀ i, i < 9 → w.cell? ⟨0, i, none⟩ = some (.int .u32 (([1, 10, 100, 1000, 10000, 100000, 1000000, 10000000, 100000000] : List Int).getD i 0))
theorem Glob.below {w w' : World} (h : Glob w) (b : Below w.heap.size w w') : Glob w' := ⟨fun i hi => (b.cell (p := ⟨0, i, none⟩) (cell_lt (h.pows i hi))).trans (h.pows i hi)⟩
theorem Glob.drew {w : World} (h : Glob w) : Glob w.drew := ⟨h.pows⟩
theorem Glob.drewN {w : World} (h : Glob w) {m : Nat} : Glob (w.drewN m) := ⟨h.pows⟩
end Fig
