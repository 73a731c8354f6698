/- What the listed package variables hold. -/
import Derived.Test.YtbebhakffjpafaaDoorProg
import Derived.Test.YtbebhakffjpafaaDoorWWords
import Derived.Below
namespace Fig
open Go Go.RowKit
theorem cell_lt {w : World} {a : Addr} {v : Value} (h : w.cell? a = some v) : a.block < w.heap.size := by
  apply Classical.byContradiction; intro hn
  have e : w.heap[a.block]? = none := Array.getElem?_eq_none (by omega)
  unfold World.cell? at h; rw [e] at h; simp at h
structure Glob (w : World) : Prop where
  ways : ∀ i f, ([27, 28, 29, 30, 31, 32, 33, 34] : List Nat)[i]? = some f → w.cell? ⟨0, i, none⟩ = some (.func (.func f) #[] #[])
theorem Glob.below {w w' : World} (h : Glob w) (b : Below w.heap.size w w') : Glob w' := ⟨fun i f hi => (b.cell (p := ⟨0, i, none⟩) (cell_lt (h.ways i f hi))).trans (h.ways i f hi)⟩
theorem Glob.drew {w : World} (h : Glob w) : Glob w.drew := ⟨h.ways⟩
theorem Glob.drewN {w : World} (h : Glob w) {m : Nat} : Glob (w.drewN m) := ⟨h.ways⟩
end Fig
