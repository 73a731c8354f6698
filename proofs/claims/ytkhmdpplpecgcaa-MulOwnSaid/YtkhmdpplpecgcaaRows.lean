/-
  No cell of these rows narrows 'for every input' (looked for: loops, veiled, ifaces, maps, wideKeys, modest, calm, conditions, laid).
  DERIVED. THE GIVEN ROWS OF THIS SEAT. 12 by the template 'for every input the law returns true; each argument reads behind the call as it read before'; 0 by the template 'total and deterministic' (their statements: YtkhmdpplpecgcaaTotals.lean).
  GIVEN WITH THE SEED: the statements are not yours to turn. If you find one false, say at which input.
  Laid BY PROGRAM, IN A SANDBOX (cutbox-rows.mjs): the forced cells as the released guide's own fill.sh prints them over the translation 69dea06f9552020c… (all of the seat's roots in one cut). By AI agents, Wed Nov 11 2026. No macro, syntax, notation, axiom, sorry.
-/
import Derived.Test.YtkhmdpplpecgcaaChecked
import GoSem.Claim
import GoSem.ClaimJoined
import GoSem.ClaimMapViews
import Derived.JoinedTies
import Derived.KernelRfl
namespace Go.Proofs.Ytkhmdpplpecgcaa
/- THE CELL 'sum', in the pinned program and in every row, IS THE sha256 OF THE DUMP (.gsa) THAT YtkhmdpplpecgcaaProg.lean LOADS. Nothing in Lean hashes anything: it is a label: what it is worth is what the hold of that sum in a sandbox is worth. -/
noncomputable def Try.pinned : Pinned := { name := "ytkhmdpplpecgcaa", sum := "69dea06f9552020c35a4a847c681600f566e228fca2c9e32d9a0b86bb186df32", checked := Try.checked }
namespace Rows
def none {H : Type} : Left H := { results := [], args := [] }

/-- 'figureheadlaw02.MulMuls': WHATEVER THE INPUT: true; the input reads as it did. -/
def mulMulsSpec : ChangeSpec := { name := "mulMuls", fn := fun _ => fun
  | [d1, d2] => { results := [.lit (.bool true)], args := [d1, d2] }
  | _ => none }
def mulMulsRow : OpenClaim := { program := "ytkhmdpplpecgcaa", sum := "69dea06f9552020c35a4a847c681600f566e228fca2c9e32d9a0b86bb186df32", func := "figurehead/figureheadlaw02.MulMuls", spec := "mulMuls", apart := false }
def MulMulsSaid : Prop := mulMulsRow.holds Try.pinned (OpenSpec.ofChange mulMulsSpec)

/-- ITS FALSE NEIGHBOUR: 'it returns false'. Refute it at one input. -/
def mulMulsWrong : ChangeSpec := { name := "mulMuls", fn := fun _ => fun
  | [d1, d2] => { results := [.lit (.bool false)], args := [d1, d2] }
  | _ => none }
def MulMulsWrongFalsely : Prop := mulMulsRow.holds Try.pinned (OpenSpec.ofChange mulMulsWrong)

/-- 'figureheadlaw02.MulSmalls': WHATEVER THE INPUT: true; the input reads as it did. -/
def mulSmallsSpec : ChangeSpec := { name := "mulSmalls", fn := fun _ => fun
  | [d1, d2, d3] => { results := [.lit (.bool true)], args := [d1, d2, d3] }
  | _ => none }
def mulSmallsRow : OpenClaim := { program := "ytkhmdpplpecgcaa", sum := "69dea06f9552020c35a4a847c681600f566e228fca2c9e32d9a0b86bb186df32", func := "figurehead/figureheadlaw02.MulSmalls", spec := "mulSmalls", apart := false }
def MulSmallsSaid : Prop := mulSmallsRow.holds Try.pinned (OpenSpec.ofChange mulSmallsSpec)

/-- ITS FALSE NEIGHBOUR: 'it returns false'. Refute it at one input. -/
def mulSmallsWrong : ChangeSpec := { name := "mulSmalls", fn := fun _ => fun
  | [d1, d2, d3] => { results := [.lit (.bool false)], args := [d1, d2, d3] }
  | _ => none }
def MulSmallsWrongFalsely : Prop := mulSmallsRow.holds Try.pinned (OpenSpec.ofChange mulSmallsWrong)

/-- 'figureheadlaw02.MulLaws': WHATEVER THE INPUT: true; the input reads as it did. -/
def mulLawsSpec : ChangeSpec := { name := "mulLaws", fn := fun _ => fun
  | [d1, d2, d3] => { results := [.lit (.bool true)], args := [d1, d2, d3] }
  | _ => none }
def mulLawsRow : OpenClaim := { program := "ytkhmdpplpecgcaa", sum := "69dea06f9552020c35a4a847c681600f566e228fca2c9e32d9a0b86bb186df32", func := "figurehead/figureheadlaw02.MulLaws", spec := "mulLaws", apart := false }
def MulLawsSaid : Prop := mulLawsRow.holds Try.pinned (OpenSpec.ofChange mulLawsSpec)

/-- ITS FALSE NEIGHBOUR: 'it returns false'. Refute it at one input. -/
def mulLawsWrong : ChangeSpec := { name := "mulLaws", fn := fun _ => fun
  | [d1, d2, d3] => { results := [.lit (.bool false)], args := [d1, d2, d3] }
  | _ => none }
def MulLawsWrongFalsely : Prop := mulLawsRow.holds Try.pinned (OpenSpec.ofChange mulLawsWrong)

/-- 'figureheadlaw02.MulOwn': WHATEVER THE INPUT: true; the input reads as it did. -/
def mulOwnSpec : ChangeSpec := { name := "mulOwn", fn := fun _ => fun
  | [d1, d2] => { results := [.lit (.bool true)], args := [d1, d2] }
  | _ => none }
def mulOwnRow : OpenClaim := { program := "ytkhmdpplpecgcaa", sum := "69dea06f9552020c35a4a847c681600f566e228fca2c9e32d9a0b86bb186df32", func := "figurehead/figureheadlaw02.MulOwn", spec := "mulOwn", apart := false }
def MulOwnSaid : Prop := mulOwnRow.holds Try.pinned (OpenSpec.ofChange mulOwnSpec)

/-- ITS FALSE NEIGHBOUR: 'it returns false'. Refute it at one input. -/
def mulOwnWrong : ChangeSpec := { name := "mulOwn", fn := fun _ => fun
  | [d1, d2] => { results := [.lit (.bool false)], args := [d1, d2] }
  | _ => none }
def MulOwnWrongFalsely : Prop := mulOwnRow.holds Try.pinned (OpenSpec.ofChange mulOwnWrong)

/-- 'figureheadlaw02.MulOnes': WHATEVER THE INPUT: true; the input reads as it did. -/
def mulOnesSpec : ChangeSpec := { name := "mulOnes", fn := fun _ => fun
  | [d1, d2] => { results := [.lit (.bool true)], args := [d1, d2] }
  | _ => none }
def mulOnesRow : OpenClaim := { program := "ytkhmdpplpecgcaa", sum := "69dea06f9552020c35a4a847c681600f566e228fca2c9e32d9a0b86bb186df32", func := "figurehead/figureheadlaw02.MulOnes", spec := "mulOnes", apart := false }
def MulOnesSaid : Prop := mulOnesRow.holds Try.pinned (OpenSpec.ofChange mulOnesSpec)

/-- ITS FALSE NEIGHBOUR: 'it returns false'. Refute it at one input. -/
def mulOnesWrong : ChangeSpec := { name := "mulOnes", fn := fun _ => fun
  | [d1, d2] => { results := [.lit (.bool false)], args := [d1, d2] }
  | _ => none }
def MulOnesWrongFalsely : Prop := mulOnesRow.holds Try.pinned (OpenSpec.ofChange mulOnesWrong)

/-- 'figureheadlaw01.NatOrders': WHATEVER THE INPUT: true; the input reads as it did. -/
def natOrdersSpec : ChangeSpec := { name := "natOrders", fn := fun _ => fun
  | [d1, d2] => { results := [.lit (.bool true)], args := [d1, d2] }
  | _ => none }
def natOrdersRow : OpenClaim := { program := "ytkhmdpplpecgcaa", sum := "69dea06f9552020c35a4a847c681600f566e228fca2c9e32d9a0b86bb186df32", func := "figurehead/figureheadlaw01.NatOrders", spec := "natOrders", apart := false }
def NatOrdersSaid : Prop := natOrdersRow.holds Try.pinned (OpenSpec.ofChange natOrdersSpec)

/-- ITS FALSE NEIGHBOUR: 'it returns false'. Refute it at one input. -/
def natOrdersWrong : ChangeSpec := { name := "natOrders", fn := fun _ => fun
  | [d1, d2] => { results := [.lit (.bool false)], args := [d1, d2] }
  | _ => none }
def NatOrdersWrongFalsely : Prop := natOrdersRow.holds Try.pinned (OpenSpec.ofChange natOrdersWrong)

/-- 'figureheadlaw01.NatAdds': WHATEVER THE INPUT: true; the input reads as it did. -/
def natAddsSpec : ChangeSpec := { name := "natAdds", fn := fun _ => fun
  | [d1, d2] => { results := [.lit (.bool true)], args := [d1, d2] }
  | _ => none }
def natAddsRow : OpenClaim := { program := "ytkhmdpplpecgcaa", sum := "69dea06f9552020c35a4a847c681600f566e228fca2c9e32d9a0b86bb186df32", func := "figurehead/figureheadlaw01.NatAdds", spec := "natAdds", apart := false }
def NatAddsSaid : Prop := natAddsRow.holds Try.pinned (OpenSpec.ofChange natAddsSpec)

/-- ITS FALSE NEIGHBOUR: 'it returns false'. Refute it at one input. -/
def natAddsWrong : ChangeSpec := { name := "natAdds", fn := fun _ => fun
  | [d1, d2] => { results := [.lit (.bool false)], args := [d1, d2] }
  | _ => none }
def NatAddsWrongFalsely : Prop := natAddsRow.holds Try.pinned (OpenSpec.ofChange natAddsWrong)

/-- 'figureheadlaw01.NatSubs': WHATEVER THE INPUT: true; the input reads as it did. -/
def natSubsSpec : ChangeSpec := { name := "natSubs", fn := fun _ => fun
  | [d1, d2] => { results := [.lit (.bool true)], args := [d1, d2] }
  | _ => none }
def natSubsRow : OpenClaim := { program := "ytkhmdpplpecgcaa", sum := "69dea06f9552020c35a4a847c681600f566e228fca2c9e32d9a0b86bb186df32", func := "figurehead/figureheadlaw01.NatSubs", spec := "natSubs", apart := false }
def NatSubsSaid : Prop := natSubsRow.holds Try.pinned (OpenSpec.ofChange natSubsSpec)

/-- ITS FALSE NEIGHBOUR: 'it returns false'. Refute it at one input. -/
def natSubsWrong : ChangeSpec := { name := "natSubs", fn := fun _ => fun
  | [d1, d2] => { results := [.lit (.bool false)], args := [d1, d2] }
  | _ => none }
def NatSubsWrongFalsely : Prop := natSubsRow.holds Try.pinned (OpenSpec.ofChange natSubsWrong)

/-- 'figureheadlaw01.NatThree': WHATEVER THE INPUT: true; the input reads as it did. -/
def natThreeSpec : ChangeSpec := { name := "natThree", fn := fun _ => fun
  | [d1, d2, d3] => { results := [.lit (.bool true)], args := [d1, d2, d3] }
  | _ => none }
def natThreeRow : OpenClaim := { program := "ytkhmdpplpecgcaa", sum := "69dea06f9552020c35a4a847c681600f566e228fca2c9e32d9a0b86bb186df32", func := "figurehead/figureheadlaw01.NatThree", spec := "natThree", apart := false }
def NatThreeSaid : Prop := natThreeRow.holds Try.pinned (OpenSpec.ofChange natThreeSpec)

/-- ITS FALSE NEIGHBOUR: 'it returns false'. Refute it at one input. -/
def natThreeWrong : ChangeSpec := { name := "natThree", fn := fun _ => fun
  | [d1, d2, d3] => { results := [.lit (.bool false)], args := [d1, d2, d3] }
  | _ => none }
def NatThreeWrongFalsely : Prop := natThreeRow.holds Try.pinned (OpenSpec.ofChange natThreeWrong)

/-- 'figureheadlaw01.NatOwn': WHATEVER THE INPUT: true; the input reads as it did. -/
def natOwnSpec : ChangeSpec := { name := "natOwn", fn := fun _ => fun
  | [d1, d2] => { results := [.lit (.bool true)], args := [d1, d2] }
  | _ => none }
def natOwnRow : OpenClaim := { program := "ytkhmdpplpecgcaa", sum := "69dea06f9552020c35a4a847c681600f566e228fca2c9e32d9a0b86bb186df32", func := "figurehead/figureheadlaw01.NatOwn", spec := "natOwn", apart := false }
def NatOwnSaid : Prop := natOwnRow.holds Try.pinned (OpenSpec.ofChange natOwnSpec)

/-- ITS FALSE NEIGHBOUR: 'it returns false'. Refute it at one input. -/
def natOwnWrong : ChangeSpec := { name := "natOwn", fn := fun _ => fun
  | [d1, d2] => { results := [.lit (.bool false)], args := [d1, d2] }
  | _ => none }
def NatOwnWrongFalsely : Prop := natOwnRow.holds Try.pinned (OpenSpec.ofChange natOwnWrong)

/-- 'figureheadlaw01.NatGrows': WHATEVER THE INPUT: true; the input reads as it did. -/
def natGrowsSpec : ChangeSpec := { name := "natGrows", fn := fun _ => fun
  | [d1, d2] => { results := [.lit (.bool true)], args := [d1, d2] }
  | _ => none }
def natGrowsRow : OpenClaim := { program := "ytkhmdpplpecgcaa", sum := "69dea06f9552020c35a4a847c681600f566e228fca2c9e32d9a0b86bb186df32", func := "figurehead/figureheadlaw01.NatGrows", spec := "natGrows", apart := false }
def NatGrowsSaid : Prop := natGrowsRow.holds Try.pinned (OpenSpec.ofChange natGrowsSpec)

/-- ITS FALSE NEIGHBOUR: 'it returns false'. Refute it at one input. -/
def natGrowsWrong : ChangeSpec := { name := "natGrows", fn := fun _ => fun
  | [d1, d2] => { results := [.lit (.bool false)], args := [d1, d2] }
  | _ => none }
def NatGrowsWrongFalsely : Prop := natGrowsRow.holds Try.pinned (OpenSpec.ofChange natGrowsWrong)

/-- 'figureheadlaw01.NatGood': WHATEVER THE INPUT: true; the input reads as it did. -/
def natGoodSpec : ChangeSpec := { name := "natGood", fn := fun _ => fun
  | [d] => { results := [.lit (.bool true)], args := [d] }
  | _ => none }
def natGoodRow : OpenClaim := { program := "ytkhmdpplpecgcaa", sum := "69dea06f9552020c35a4a847c681600f566e228fca2c9e32d9a0b86bb186df32", func := "figurehead/figureheadlaw01.NatGood", spec := "natGood", unfollowed := true, recurses := true, apart := false }
def NatGoodSaid : Prop := natGoodRow.holds Try.pinned (OpenSpec.ofChange natGoodSpec)

/-- ITS FALSE NEIGHBOUR: 'it returns false'. Refute it at one input. -/
def natGoodWrong : ChangeSpec := { name := "natGood", fn := fun _ => fun
  | [d] => { results := [.lit (.bool false)], args := [d] }
  | _ => none }
def NatGoodWrongFalsely : Prop := natGoodRow.holds Try.pinned (OpenSpec.ofChange natGoodWrong)

/- THE SECOND FORM. 'bulk': how many values and letters a reading holds, each counted each time it is reached (what is shared counts as often as it is met; a slice's spare places count too). A statement '..UptoSaid' is the law's where the arguments, and the package variables that the reading takes, are together of bulk at most 1048576: NARROWER than '..Said'. Prove '..Said' where nothing that the law and all that it calls make is longer than what came in: it says more and counts as full. Else prove '..UptoSaid'. A law counts once. -/
mutual
def uptoBulk {H : Type} : DataW H → Nat
  | .lit (.string bytes) => bytes.length + 1
  | .lit _ => 1
  | .nil => 1
  | .ptr d => uptoBulk d + 1
  | .slice elems spare => uptoBulkAll elems + uptoBulkAll spare + 1
  | .agg parts => uptoBulkAll parts + 1
  | .iface _ d => uptoBulk d + 1
  | .map entries => uptoBulkEntries entries + 1
  | .held _ => 1
def uptoBulkAll {H : Type} : List (DataW H) → Nat
  | [] => 0
  | d :: r => uptoBulk d + uptoBulkAll r
def uptoBulkEntries {H : Type} : List (Lit × DataW H) → Nat
  | [] => 0
  | x :: r => uptoBulkEntry x + uptoBulkEntries r
def uptoBulkEntry {H : Type} : Lit × DataW H → Nat
  | (.string bytes, d) => bytes.length + uptoBulk d + 1
  | (_, d) => uptoBulk d + 1
 end
def uptoSmall : (H : Type) → List (DataW H) → Bool := fun _ ds => decide (uptoBulkAll ds ≤ 1048576)
def OpenSpec.upto (s : _root_.Go.ChangeSpec) : _root_.Go.OpenSpec := { _root_.Go.OpenSpec.ofChange s with cond := some uptoSmall }

/-- 'figureheadlaw02.MulMuls', WHERE WHAT IT READS IS OF BULK AT MOST 1048576: true; the input reads as it did. -/
def mulMulsUptoRow : OpenClaim := { program := "ytkhmdpplpecgcaa", sum := "69dea06f9552020c35a4a847c681600f566e228fca2c9e32d9a0b86bb186df32", func := "figurehead/figureheadlaw02.MulMuls", spec := "mulMuls", apart := false, narrowed := true }
def MulMulsUptoSaid : Prop := mulMulsUptoRow.holds Try.pinned (OpenSpec.upto mulMulsSpec)

/-- 'figureheadlaw02.MulSmalls', WHERE WHAT IT READS IS OF BULK AT MOST 1048576: true; the input reads as it did. -/
def mulSmallsUptoRow : OpenClaim := { program := "ytkhmdpplpecgcaa", sum := "69dea06f9552020c35a4a847c681600f566e228fca2c9e32d9a0b86bb186df32", func := "figurehead/figureheadlaw02.MulSmalls", spec := "mulSmalls", apart := false, narrowed := true }
def MulSmallsUptoSaid : Prop := mulSmallsUptoRow.holds Try.pinned (OpenSpec.upto mulSmallsSpec)

/-- 'figureheadlaw02.MulLaws', WHERE WHAT IT READS IS OF BULK AT MOST 1048576: true; the input reads as it did. -/
def mulLawsUptoRow : OpenClaim := { program := "ytkhmdpplpecgcaa", sum := "69dea06f9552020c35a4a847c681600f566e228fca2c9e32d9a0b86bb186df32", func := "figurehead/figureheadlaw02.MulLaws", spec := "mulLaws", apart := false, narrowed := true }
def MulLawsUptoSaid : Prop := mulLawsUptoRow.holds Try.pinned (OpenSpec.upto mulLawsSpec)

/-- 'figureheadlaw02.MulOwn', WHERE WHAT IT READS IS OF BULK AT MOST 1048576: true; the input reads as it did. -/
def mulOwnUptoRow : OpenClaim := { program := "ytkhmdpplpecgcaa", sum := "69dea06f9552020c35a4a847c681600f566e228fca2c9e32d9a0b86bb186df32", func := "figurehead/figureheadlaw02.MulOwn", spec := "mulOwn", apart := false, narrowed := true }
def MulOwnUptoSaid : Prop := mulOwnUptoRow.holds Try.pinned (OpenSpec.upto mulOwnSpec)

/-- 'figureheadlaw02.MulOnes', WHERE WHAT IT READS IS OF BULK AT MOST 1048576: true; the input reads as it did. -/
def mulOnesUptoRow : OpenClaim := { program := "ytkhmdpplpecgcaa", sum := "69dea06f9552020c35a4a847c681600f566e228fca2c9e32d9a0b86bb186df32", func := "figurehead/figureheadlaw02.MulOnes", spec := "mulOnes", apart := false, narrowed := true }
def MulOnesUptoSaid : Prop := mulOnesUptoRow.holds Try.pinned (OpenSpec.upto mulOnesSpec)

/-- 'figureheadlaw01.NatOrders', WHERE WHAT IT READS IS OF BULK AT MOST 1048576: true; the input reads as it did. -/
def natOrdersUptoRow : OpenClaim := { program := "ytkhmdpplpecgcaa", sum := "69dea06f9552020c35a4a847c681600f566e228fca2c9e32d9a0b86bb186df32", func := "figurehead/figureheadlaw01.NatOrders", spec := "natOrders", apart := false, narrowed := true }
def NatOrdersUptoSaid : Prop := natOrdersUptoRow.holds Try.pinned (OpenSpec.upto natOrdersSpec)

/-- 'figureheadlaw01.NatAdds', WHERE WHAT IT READS IS OF BULK AT MOST 1048576: true; the input reads as it did. -/
def natAddsUptoRow : OpenClaim := { program := "ytkhmdpplpecgcaa", sum := "69dea06f9552020c35a4a847c681600f566e228fca2c9e32d9a0b86bb186df32", func := "figurehead/figureheadlaw01.NatAdds", spec := "natAdds", apart := false, narrowed := true }
def NatAddsUptoSaid : Prop := natAddsUptoRow.holds Try.pinned (OpenSpec.upto natAddsSpec)

/-- 'figureheadlaw01.NatSubs', WHERE WHAT IT READS IS OF BULK AT MOST 1048576: true; the input reads as it did. -/
def natSubsUptoRow : OpenClaim := { program := "ytkhmdpplpecgcaa", sum := "69dea06f9552020c35a4a847c681600f566e228fca2c9e32d9a0b86bb186df32", func := "figurehead/figureheadlaw01.NatSubs", spec := "natSubs", apart := false, narrowed := true }
def NatSubsUptoSaid : Prop := natSubsUptoRow.holds Try.pinned (OpenSpec.upto natSubsSpec)

/-- 'figureheadlaw01.NatThree', WHERE WHAT IT READS IS OF BULK AT MOST 1048576: true; the input reads as it did. -/
def natThreeUptoRow : OpenClaim := { program := "ytkhmdpplpecgcaa", sum := "69dea06f9552020c35a4a847c681600f566e228fca2c9e32d9a0b86bb186df32", func := "figurehead/figureheadlaw01.NatThree", spec := "natThree", apart := false, narrowed := true }
def NatThreeUptoSaid : Prop := natThreeUptoRow.holds Try.pinned (OpenSpec.upto natThreeSpec)

/-- 'figureheadlaw01.NatOwn', WHERE WHAT IT READS IS OF BULK AT MOST 1048576: true; the input reads as it did. -/
def natOwnUptoRow : OpenClaim := { program := "ytkhmdpplpecgcaa", sum := "69dea06f9552020c35a4a847c681600f566e228fca2c9e32d9a0b86bb186df32", func := "figurehead/figureheadlaw01.NatOwn", spec := "natOwn", apart := false, narrowed := true }
def NatOwnUptoSaid : Prop := natOwnUptoRow.holds Try.pinned (OpenSpec.upto natOwnSpec)

/-- 'figureheadlaw01.NatGrows', WHERE WHAT IT READS IS OF BULK AT MOST 1048576: true; the input reads as it did. -/
def natGrowsUptoRow : OpenClaim := { program := "ytkhmdpplpecgcaa", sum := "69dea06f9552020c35a4a847c681600f566e228fca2c9e32d9a0b86bb186df32", func := "figurehead/figureheadlaw01.NatGrows", spec := "natGrows", apart := false, narrowed := true }
def NatGrowsUptoSaid : Prop := natGrowsUptoRow.holds Try.pinned (OpenSpec.upto natGrowsSpec)

/-- 'figureheadlaw01.NatGood', WHERE WHAT IT READS IS OF BULK AT MOST 1048576: true; the input reads as it did. -/
def natGoodUptoRow : OpenClaim := { program := "ytkhmdpplpecgcaa", sum := "69dea06f9552020c35a4a847c681600f566e228fca2c9e32d9a0b86bb186df32", func := "figurehead/figureheadlaw01.NatGood", spec := "natGood", unfollowed := true, recurses := true, apart := false, narrowed := true }
def NatGoodUptoSaid : Prop := natGoodUptoRow.holds Try.pinned (OpenSpec.upto natGoodSpec)

end Rows
end Go.Proofs.Ytkhmdpplpecgcaa
