/-
  No cell of these rows narrows 'for every input' (looked for: loops, veiled, ifaces, maps, wideKeys, modest, calm, conditions, laid).
  DERIVED. THE GIVEN ROWS OF THIS SEAT. 5 by the template 'for every input the law returns true; each argument reads behind the call as it read before'; 0 by the template 'total and deterministic' (their statements: YtnpibnjncjieaaaTotals.lean).
  GIVEN WITH THE SEED: the statements are not yours to turn. If you find one false, say at which input.
  Laid BY PROGRAM, IN A SANDBOX (cutbox-rows.mjs): the forced cells as the released guide's own fill.sh prints them over the translation 2563e289c2585ad0… (all of the seat's roots in one cut). By AI agents, Wed Nov 11 2026. No macro, syntax, notation, axiom, sorry.
-/
import Derived.Test.YtnpibnjncjieaaaChecked
import GoSem.Claim
import GoSem.ClaimJoined
import GoSem.ClaimMapViews
import Derived.JoinedTies
import Derived.KernelRfl
namespace Go.Proofs.Ytnpibnjncjieaaa
/- THE CELL 'sum', in the pinned program and in every row, IS THE sha256 OF THE DUMP (.gsa) THAT YtnpibnjncjieaaaProg.lean LOADS. Nothing in Lean hashes anything: it is a label: what it is worth is what the hold of that sum in a sandbox is worth. -/
noncomputable def Try.pinned : Pinned := { name := "ytnpibnjncjieaaa", sum := "2563e289c2585ad01ddb75489c5fcf9c291b6d9e354ad35a26c544d5bfbd3d78", checked := Try.checked }
namespace Rows
def none {H : Type} : Left H := { results := [], args := [] }

/-- 'figureheadlaw03.DivDivs': WHATEVER THE INPUT: true; the input reads as it did. -/
def divDivsSpec : ChangeSpec := { name := "divDivs", fn := fun _ => fun
  | [d1, d2] => { results := [.lit (.bool true)], args := [d1, d2] }
  | _ => none }
def divDivsRow : OpenClaim := { program := "ytnpibnjncjieaaa", sum := "2563e289c2585ad01ddb75489c5fcf9c291b6d9e354ad35a26c544d5bfbd3d78", func := "figurehead/figureheadlaw03.DivDivs", spec := "divDivs", apart := false }
def DivDivsSaid : Prop := divDivsRow.holds Try.pinned (OpenSpec.ofChange divDivsSpec)

/-- ITS FALSE NEIGHBOUR: 'it returns false'. Refute it at one input. -/
def divDivsWrong : ChangeSpec := { name := "divDivs", fn := fun _ => fun
  | [d1, d2] => { results := [.lit (.bool false)], args := [d1, d2] }
  | _ => none }
def DivDivsWrongFalsely : Prop := divDivsRow.holds Try.pinned (OpenSpec.ofChange divDivsWrong)

/-- 'figureheadlaw03.DivSmalls': WHATEVER THE INPUT: true; the input reads as it did. -/
def divSmallsSpec : ChangeSpec := { name := "divSmalls", fn := fun _ => fun
  | [d1, d2] => { results := [.lit (.bool true)], args := [d1, d2] }
  | _ => none }
def divSmallsRow : OpenClaim := { program := "ytnpibnjncjieaaa", sum := "2563e289c2585ad01ddb75489c5fcf9c291b6d9e354ad35a26c544d5bfbd3d78", func := "figurehead/figureheadlaw03.DivSmalls", spec := "divSmalls", apart := false }
def DivSmallsSaid : Prop := divSmallsRow.holds Try.pinned (OpenSpec.ofChange divSmallsSpec)

/-- ITS FALSE NEIGHBOUR: 'it returns false'. Refute it at one input. -/
def divSmallsWrong : ChangeSpec := { name := "divSmalls", fn := fun _ => fun
  | [d1, d2] => { results := [.lit (.bool false)], args := [d1, d2] }
  | _ => none }
def DivSmallsWrongFalsely : Prop := divSmallsRow.holds Try.pinned (OpenSpec.ofChange divSmallsWrong)

/-- 'figureheadlaw03.DivBack': WHATEVER THE INPUT: true; the input reads as it did. -/
def divBackSpec : ChangeSpec := { name := "divBack", fn := fun _ => fun
  | [d1, d2, d3] => { results := [.lit (.bool true)], args := [d1, d2, d3] }
  | _ => none }
def divBackRow : OpenClaim := { program := "ytnpibnjncjieaaa", sum := "2563e289c2585ad01ddb75489c5fcf9c291b6d9e354ad35a26c544d5bfbd3d78", func := "figurehead/figureheadlaw03.DivBack", spec := "divBack", apart := false }
def DivBackSaid : Prop := divBackRow.holds Try.pinned (OpenSpec.ofChange divBackSpec)

/-- ITS FALSE NEIGHBOUR: 'it returns false'. Refute it at one input. -/
def divBackWrong : ChangeSpec := { name := "divBack", fn := fun _ => fun
  | [d1, d2, d3] => { results := [.lit (.bool false)], args := [d1, d2, d3] }
  | _ => none }
def DivBackWrongFalsely : Prop := divBackRow.holds Try.pinned (OpenSpec.ofChange divBackWrong)

/-- 'figureheadlaw03.DivOwn': WHATEVER THE INPUT: true; the input reads as it did. -/
def divOwnSpec : ChangeSpec := { name := "divOwn", fn := fun _ => fun
  | [d1, d2] => { results := [.lit (.bool true)], args := [d1, d2] }
  | _ => none }
def divOwnRow : OpenClaim := { program := "ytnpibnjncjieaaa", sum := "2563e289c2585ad01ddb75489c5fcf9c291b6d9e354ad35a26c544d5bfbd3d78", func := "figurehead/figureheadlaw03.DivOwn", spec := "divOwn", apart := false }
def DivOwnSaid : Prop := divOwnRow.holds Try.pinned (OpenSpec.ofChange divOwnSpec)

/-- ITS FALSE NEIGHBOUR: 'it returns false'. Refute it at one input. -/
def divOwnWrong : ChangeSpec := { name := "divOwn", fn := fun _ => fun
  | [d1, d2] => { results := [.lit (.bool false)], args := [d1, d2] }
  | _ => none }
def DivOwnWrongFalsely : Prop := divOwnRow.holds Try.pinned (OpenSpec.ofChange divOwnWrong)

/-- 'figureheadlaw03.DivTwice': WHATEVER THE INPUT: true; the input reads as it did. -/
def divTwiceSpec : ChangeSpec := { name := "divTwice", fn := fun _ => fun
  | [d1, d2, d3] => { results := [.lit (.bool true)], args := [d1, d2, d3] }
  | _ => none }
def divTwiceRow : OpenClaim := { program := "ytnpibnjncjieaaa", sum := "2563e289c2585ad01ddb75489c5fcf9c291b6d9e354ad35a26c544d5bfbd3d78", func := "figurehead/figureheadlaw03.DivTwice", spec := "divTwice", apart := false }
def DivTwiceSaid : Prop := divTwiceRow.holds Try.pinned (OpenSpec.ofChange divTwiceSpec)

/-- ITS FALSE NEIGHBOUR: 'it returns false'. Refute it at one input. -/
def divTwiceWrong : ChangeSpec := { name := "divTwice", fn := fun _ => fun
  | [d1, d2, d3] => { results := [.lit (.bool false)], args := [d1, d2, d3] }
  | _ => none }
def DivTwiceWrongFalsely : Prop := divTwiceRow.holds Try.pinned (OpenSpec.ofChange divTwiceWrong)

/- THE SECOND FORM. 'bulk': how many values and letters a reading holds, each counted each time it is reached (what is shared counts as often as it is met; a slice's spare places count too). A statement '..UptoSaid' is the law's where the arguments, and the package variables that the reading takes, are together of bulk at most 1048576: NARROWER than '..Said'. Prove '..Said' where nothing that the law and all that it calls make is longer than what came in: it says more and counts as full. Else prove '..UptoSaid'. A law counts once. -/
mutual
def uptoBulk {H : Type} : DataW H → Nat
  | .lit (.string bytes) => bytes.length + 1
  | .lit _ => 1
  | .nil => 1
  | .ptr d => uptoBulk d + 1
  | .slice elems spare => uptoBulkAll elems + uptoBulkAll spare + 1
  | .agg parts => uptoBulkAll parts + 1
  | .iface _ d => uptoBulk d + 1
  | .map entries => uptoBulkEntries entries + 1
  | .held _ => 1
def uptoBulkAll {H : Type} : List (DataW H) → Nat
  | [] => 0
  | d :: r => uptoBulk d + uptoBulkAll r
def uptoBulkEntries {H : Type} : List (Lit × DataW H) → Nat
  | [] => 0
  | x :: r => uptoBulkEntry x + uptoBulkEntries r
def uptoBulkEntry {H : Type} : Lit × DataW H → Nat
  | (.string bytes, d) => bytes.length + uptoBulk d + 1
  | (_, d) => uptoBulk d + 1
 end
def uptoSmall : (H : Type) → List (DataW H) → Bool := fun _ ds => decide (uptoBulkAll ds ≤ 1048576)
def OpenSpec.upto (s : _root_.Go.ChangeSpec) : _root_.Go.OpenSpec := { _root_.Go.OpenSpec.ofChange s with cond := some uptoSmall }

/-- 'figureheadlaw03.DivDivs', WHERE WHAT IT READS IS OF BULK AT MOST 1048576: true; the input reads as it did. -/
def divDivsUptoRow : OpenClaim := { program := "ytnpibnjncjieaaa", sum := "2563e289c2585ad01ddb75489c5fcf9c291b6d9e354ad35a26c544d5bfbd3d78", func := "figurehead/figureheadlaw03.DivDivs", spec := "divDivs", apart := false, narrowed := true }
def DivDivsUptoSaid : Prop := divDivsUptoRow.holds Try.pinned (OpenSpec.upto divDivsSpec)

/-- 'figureheadlaw03.DivSmalls', WHERE WHAT IT READS IS OF BULK AT MOST 1048576: true; the input reads as it did. -/
def divSmallsUptoRow : OpenClaim := { program := "ytnpibnjncjieaaa", sum := "2563e289c2585ad01ddb75489c5fcf9c291b6d9e354ad35a26c544d5bfbd3d78", func := "figurehead/figureheadlaw03.DivSmalls", spec := "divSmalls", apart := false, narrowed := true }
def DivSmallsUptoSaid : Prop := divSmallsUptoRow.holds Try.pinned (OpenSpec.upto divSmallsSpec)

/-- 'figureheadlaw03.DivBack', WHERE WHAT IT READS IS OF BULK AT MOST 1048576: true; the input reads as it did. -/
def divBackUptoRow : OpenClaim := { program := "ytnpibnjncjieaaa", sum := "2563e289c2585ad01ddb75489c5fcf9c291b6d9e354ad35a26c544d5bfbd3d78", func := "figurehead/figureheadlaw03.DivBack", spec := "divBack", apart := false, narrowed := true }
def DivBackUptoSaid : Prop := divBackUptoRow.holds Try.pinned (OpenSpec.upto divBackSpec)

/-- 'figureheadlaw03.DivOwn', WHERE WHAT IT READS IS OF BULK AT MOST 1048576: true; the input reads as it did. -/
def divOwnUptoRow : OpenClaim := { program := "ytnpibnjncjieaaa", sum := "2563e289c2585ad01ddb75489c5fcf9c291b6d9e354ad35a26c544d5bfbd3d78", func := "figurehead/figureheadlaw03.DivOwn", spec := "divOwn", apart := false, narrowed := true }
def DivOwnUptoSaid : Prop := divOwnUptoRow.holds Try.pinned (OpenSpec.upto divOwnSpec)

/-- 'figureheadlaw03.DivTwice', WHERE WHAT IT READS IS OF BULK AT MOST 1048576: true; the input reads as it did. -/
def divTwiceUptoRow : OpenClaim := { program := "ytnpibnjncjieaaa", sum := "2563e289c2585ad01ddb75489c5fcf9c291b6d9e354ad35a26c544d5bfbd3d78", func := "figurehead/figureheadlaw03.DivTwice", spec := "divTwice", apart := false, narrowed := true }
def DivTwiceUptoSaid : Prop := divTwiceUptoRow.holds Try.pinned (OpenSpec.upto divTwiceSpec)

end Rows
end Go.Proofs.Ytnpibnjncjieaaa
