/- The listed package variables: a start that meets the condition, and what the condition gives. -/
import Derived.Test.YtbebhakffjpafaaDoorRows
import Derived.Test.YtbebhakffjpafaaDoorFGlob
import Derived.Test.YtbebhakffjpafaaDoorFLaidW
namespace Fig
open Go Go.Proofs Go.Proofs.YtbebhakffjpafaaDoor
set_option maxRecDepth 100000
def plainL : List (String × DataW Unit) := []
def laidL : List (String × DataW Unit) := [("figurehead/mode.ways", Rows.laid_figurehead_mode_ways)]
def wayCells : List Value := [.func (.func 27) #[] #[], .func (.func 28) #[] #[], .func (.func 29) #[] #[], .func (.func 30) #[] #[], .func (.func 31) #[] #[], .func (.func 32) #[] #[], .func (.func 33) #[] #[], .func (.func 34) #[] #[]]
noncomputable def startW (os : Os) : World := (wayCells.zipIdx 0).foldl (fun w x => w.setCell ⟨0, x.2, none⟩ x.1) (World.laidAll Tryd.prog os plainL)
theorem startW_os (os : Os) : (startW os).os = os := (setCells_os _ _ _ _).trans (World.laidAll_os _ _ _)
theorem met (os : Os) (args : Array Value) : laidMetH Tryd.prog laidL ((startW os).forCall (fun _ _ => 0) ⟨#[], args, []⟩).memory :=
  laidMetH_of_parts3 (fuel := 8) (laidMet_of_run' 8 (by kernel_rfl) (by kernel_rfl)) (by kernel_rfl) (by kernel_rfl)
theorem ways_of {W : World} (h : laidMetH Tryd.prog laidL W) : ∀ i f, ([27, 28, 29, 30, 31, 32, 33, 34] : List Nat)[i]? = some f → W.cell? ⟨0, i, none⟩ = some (.func (.func f) #[] #[]) := by
  have hF := h.funcs (n := "figurehead/mode.ways") (List.mem_cons_self)
  have gN : Tryd.prog.globalNamed "figurehead/mode.ways" = some 0 := by kernel_rfl
  have gT : (Tryd.prog.globals[0]?).map (·.type) = some 29 := by kernel_rfl
  have c1 : Tryd.prog.cellsOf 28 = 1 := by kernel_rfl
  have c2 : Tryd.prog.cellsOf 26 = 1 := by kernel_rfl
  have c3 : Tryd.prog.cellsOf 29 = 8 := by kernel_rfl
  intro i f hf
  have key : ∀ {b : UInt8} {r : List UInt8} {j : Nat} {f0 : FuncId}, j < 8 → _ → _ → W.cell? ⟨0, j, none⟩ = some (.func (.func f0) #[] #[]) := fun {b} {r} {j} {f0} hj hdi hone => func_cell (b := b) (r := r) hF gN gT Tryd.underlying29 Tryd.underlying28 Tryd.underlying26 c1 c2 rfl c3 rfl hj hdi hone
  match i, hf with
  | 0, hf => obtain rfl := Option.some.inj hf; exact key (b := 102) (r := [105, 103, 117, 114, 101, 104, 101, 97, 100, 47, 109, 111, 100, 101, 46, 119, 97, 121, 115, 36, 49]) (by decide) rfl (by kernel_rfl)
  | 1, hf => obtain rfl := Option.some.inj hf; exact key (b := 102) (r := [105, 103, 117, 114, 101, 104, 101, 97, 100, 47, 109, 111, 100, 101, 46, 119, 97, 121, 115, 36, 50]) (by decide) rfl (by kernel_rfl)
  | 2, hf => obtain rfl := Option.some.inj hf; exact key (b := 102) (r := [105, 103, 117, 114, 101, 104, 101, 97, 100, 47, 109, 111, 100, 101, 46, 119, 97, 121, 115, 36, 51]) (by decide) rfl (by kernel_rfl)
  | 3, hf => obtain rfl := Option.some.inj hf; exact key (b := 102) (r := [105, 103, 117, 114, 101, 104, 101, 97, 100, 47, 109, 111, 100, 101, 46, 119, 97, 121, 115, 36, 52]) (by decide) rfl (by kernel_rfl)
  | 4, hf => obtain rfl := Option.some.inj hf; exact key (b := 102) (r := [105, 103, 117, 114, 101, 104, 101, 97, 100, 47, 109, 111, 100, 101, 46, 119, 97, 121, 115, 36, 53]) (by decide) rfl (by kernel_rfl)
  | 5, hf => obtain rfl := Option.some.inj hf; exact key (b := 102) (r := [105, 103, 117, 114, 101, 104, 101, 97, 100, 47, 109, 111, 100, 101, 46, 119, 97, 121, 115, 36, 54]) (by decide) rfl (by kernel_rfl)
  | 6, hf => obtain rfl := Option.some.inj hf; exact key (b := 102) (r := [105, 103, 117, 114, 101, 104, 101, 97, 100, 47, 109, 111, 100, 101, 46, 119, 97, 121, 115, 36, 55]) (by decide) rfl (by kernel_rfl)
  | 7, hf => obtain rfl := Option.some.inj hf; exact key (b := 102) (r := [105, 103, 117, 114, 101, 104, 101, 97, 100, 47, 109, 111, 100, 101, 46, 119, 97, 121, 115, 36, 56]) (by decide) rfl (by kernel_rfl)
  | k + 8, hf => simp at hf
theorem of_laid {W : World} (h : laidMetH Tryd.prog laidL W) : Glob W := ⟨ways_of h⟩
end Fig
