/-
  NARROWER THAN 'FOR EVERY INPUT', by the rows' own cells (each row's printed sentence says how): ModeAways: laid · ModeTurned: laid · ModeNear: laid · ModeEnds: laid.
  DERIVED. THE GIVEN ROWS OF THIS SEAT. 4 by the template 'for every input the law returns true; each argument reads behind the call as it read before'; 0 by the template 'total and deterministic' (their statements: YtbebhakffjpafaaDoorTotals.lean).
  GIVEN WITH THE SEED: the statements are not yours to turn. If you find one false, say at which input.
  Laid BY PROGRAM, IN A SANDBOX (cutbox-rows.mjs): the forced cells as the released guide's own fill.sh prints them over the translation 4db55533d917fb05… (all of the seat's roots in one cut). By AI agents, Wed Nov 11 2026. No macro, syntax, notation, axiom, sorry.
-/
import Derived.Test.YtbebhakffjpafaaDoorChecked
import GoSem.Claim
import GoSem.ClaimJoined
import GoSem.ClaimMapViews
import Derived.JoinedTies
import Derived.KernelRfl
namespace Go.Proofs.YtbebhakffjpafaaDoor
/- THE CELL 'sum', in the pinned program and in every row, IS THE sha256 OF THE DUMP (.gsa) THAT YtbebhakffjpafaaDoorProg.lean LOADS. Nothing in Lean hashes anything: it is a label: what it is worth is what the hold of that sum in a sandbox is worth. -/
noncomputable def Tryd.pinned : Pinned := { name := "ytbebhakffjpafaadoor", sum := "4db55533d917fb05a3d043726bda0cd7309a9869bfb3fd2a33663fc80bfb35e1", checked := Tryd.checked }
namespace Rows
def none {H : Type} : Left H := { results := [], args := [] }

/- WHAT THE LISTED PACKAGE-LEVEL VARIABLES READ AS WHEN THE CALL BEGINS. Each datum BY PROGRAM (the guide's laid-datum.mjs) off the statement by which the dump's own 'gosem.cut.vars' lays the variable. In a bare row this is a premise. The card (YtbebhakffjpafaaDoorCards.lean) ties it to the program's text. -/
def laid_figurehead_mode_ways {H : Type} : DataW H := .iface "func table" (.agg [.agg [.iface "func" (.lit (.string [102, 105, 103, 117, 114, 101, 104, 101, 97, 100, 47, 109, 111, 100, 101, 46, 119, 97, 121, 115, 36, 49]))], .agg [.iface "func" (.lit (.string [102, 105, 103, 117, 114, 101, 104, 101, 97, 100, 47, 109, 111, 100, 101, 46, 119, 97, 121, 115, 36, 50]))], .agg [.iface "func" (.lit (.string [102, 105, 103, 117, 114, 101, 104, 101, 97, 100, 47, 109, 111, 100, 101, 46, 119, 97, 121, 115, 36, 51]))], .agg [.iface "func" (.lit (.string [102, 105, 103, 117, 114, 101, 104, 101, 97, 100, 47, 109, 111, 100, 101, 46, 119, 97, 121, 115, 36, 52]))], .agg [.iface "func" (.lit (.string [102, 105, 103, 117, 114, 101, 104, 101, 97, 100, 47, 109, 111, 100, 101, 46, 119, 97, 121, 115, 36, 53]))], .agg [.iface "func" (.lit (.string [102, 105, 103, 117, 114, 101, 104, 101, 97, 100, 47, 109, 111, 100, 101, 46, 119, 97, 121, 115, 36, 54]))], .agg [.iface "func" (.lit (.string [102, 105, 103, 117, 114, 101, 104, 101, 97, 100, 47, 109, 111, 100, 101, 46, 119, 97, 121, 115, 36, 55]))], .agg [.iface "func" (.lit (.string [102, 105, 103, 117, 114, 101, 104, 101, 97, 100, 47, 109, 111, 100, 101, 46, 119, 97, 121, 115, 36, 56]))]])

/-- 'figureheadlaw07.ModeAways': WHATEVER THE INPUT: true; the input reads as it did. -/
def modeAwaysSpec : ChangeSpec := { name := "modeAways", fn := fun _ => fun
  | [d1, d2, d3, d4] => { results := [.lit (.bool true)], args := [d1, d2, d3, d4] }
  | _ => none }
def modeAwaysRow : OpenClaim := { program := "ytbebhakffjpafaadoor", sum := "4db55533d917fb05a3d043726bda0cd7309a9869bfb3fd2a33663fc80bfb35e1", func := "figurehead/figureheadlaw07.ModeAways", spec := "modeAways", unfollowed := true, recurses := true, named := ["figurehead/mode.ways"], apart := false, laid := [("figurehead/mode.ways", laid_figurehead_mode_ways)] }
def ModeAwaysSaid : Prop := modeAwaysRow.holds Tryd.pinned (OpenSpec.ofChange modeAwaysSpec)

/-- ITS FALSE NEIGHBOUR: 'it returns false'. Refute it at one input. -/
def modeAwaysWrong : ChangeSpec := { name := "modeAways", fn := fun _ => fun
  | [d1, d2, d3, d4] => { results := [.lit (.bool false)], args := [d1, d2, d3, d4] }
  | _ => none }
def ModeAwaysWrongFalsely : Prop := modeAwaysRow.holds Tryd.pinned (OpenSpec.ofChange modeAwaysWrong)

/-- 'figureheadlaw07.ModeTurned': WHATEVER THE INPUT: true; the input reads as it did. -/
def modeTurnedSpec : ChangeSpec := { name := "modeTurned", fn := fun _ => fun
  | [d1, d2, d3, d4] => { results := [.lit (.bool true)], args := [d1, d2, d3, d4] }
  | _ => none }
def modeTurnedRow : OpenClaim := { program := "ytbebhakffjpafaadoor", sum := "4db55533d917fb05a3d043726bda0cd7309a9869bfb3fd2a33663fc80bfb35e1", func := "figurehead/figureheadlaw07.ModeTurned", spec := "modeTurned", unfollowed := true, recurses := true, named := ["figurehead/mode.ways"], apart := false, laid := [("figurehead/mode.ways", laid_figurehead_mode_ways)] }
def ModeTurnedSaid : Prop := modeTurnedRow.holds Tryd.pinned (OpenSpec.ofChange modeTurnedSpec)

/-- ITS FALSE NEIGHBOUR: 'it returns false'. Refute it at one input. -/
def modeTurnedWrong : ChangeSpec := { name := "modeTurned", fn := fun _ => fun
  | [d1, d2, d3, d4] => { results := [.lit (.bool false)], args := [d1, d2, d3, d4] }
  | _ => none }
def ModeTurnedWrongFalsely : Prop := modeTurnedRow.holds Tryd.pinned (OpenSpec.ofChange modeTurnedWrong)

/-- 'figureheadlaw07.ModeNear': WHATEVER THE INPUT: true; the input reads as it did. -/
def modeNearSpec : ChangeSpec := { name := "modeNear", fn := fun _ => fun
  | [d1, d2, d3, d4, d5] => { results := [.lit (.bool true)], args := [d1, d2, d3, d4, d5] }
  | _ => none }
def modeNearRow : OpenClaim := { program := "ytbebhakffjpafaadoor", sum := "4db55533d917fb05a3d043726bda0cd7309a9869bfb3fd2a33663fc80bfb35e1", func := "figurehead/figureheadlaw07.ModeNear", spec := "modeNear", unfollowed := true, recurses := true, named := ["figurehead/mode.ways"], apart := false, laid := [("figurehead/mode.ways", laid_figurehead_mode_ways)] }
def ModeNearSaid : Prop := modeNearRow.holds Tryd.pinned (OpenSpec.ofChange modeNearSpec)

/-- ITS FALSE NEIGHBOUR: 'it returns false'. Refute it at one input. -/
def modeNearWrong : ChangeSpec := { name := "modeNear", fn := fun _ => fun
  | [d1, d2, d3, d4, d5] => { results := [.lit (.bool false)], args := [d1, d2, d3, d4, d5] }
  | _ => none }
def ModeNearWrongFalsely : Prop := modeNearRow.holds Tryd.pinned (OpenSpec.ofChange modeNearWrong)

/-- 'figureheadlaw07.ModeEnds': WHATEVER THE INPUT: true; the input reads as it did. -/
def modeEndsSpec : ChangeSpec := { name := "modeEnds", fn := fun _ => fun
  | [d1, d2, d3] => { results := [.lit (.bool true)], args := [d1, d2, d3] }
  | _ => none }
def modeEndsRow : OpenClaim := { program := "ytbebhakffjpafaadoor", sum := "4db55533d917fb05a3d043726bda0cd7309a9869bfb3fd2a33663fc80bfb35e1", func := "figurehead/figureheadlaw07.ModeEnds", spec := "modeEnds", unfollowed := true, recurses := true, named := ["figurehead/mode.ways"], apart := false, laid := [("figurehead/mode.ways", laid_figurehead_mode_ways)] }
def ModeEndsSaid : Prop := modeEndsRow.holds Tryd.pinned (OpenSpec.ofChange modeEndsSpec)

/-- ITS FALSE NEIGHBOUR: 'it returns false'. Refute it at one input. -/
def modeEndsWrong : ChangeSpec := { name := "modeEnds", fn := fun _ => fun
  | [d1, d2, d3] => { results := [.lit (.bool false)], args := [d1, d2, d3] }
  | _ => none }
def ModeEndsWrongFalsely : Prop := modeEndsRow.holds Tryd.pinned (OpenSpec.ofChange modeEndsWrong)

/- THE SECOND FORM. 'bulk': how many values and letters a reading holds, each counted each time it is reached (what is shared counts as often as it is met; a slice's spare places count too). A statement '..UptoSaid' is the law's where the arguments, and the package variables that the reading takes, are together of bulk at most 1048576: NARROWER than '..Said'. Prove '..Said' where nothing that the law and all that it calls make is longer than what came in: it says more and counts as full. Else prove '..UptoSaid'. A law counts once. -/
mutual
def uptoBulk {H : Type} : DataW H → Nat
  | .lit (.string bytes) => bytes.length + 1
  | .lit _ => 1
  | .nil => 1
  | .ptr d => uptoBulk d + 1
  | .slice elems spare => uptoBulkAll elems + uptoBulkAll spare + 1
  | .agg parts => uptoBulkAll parts + 1
  | .iface _ d => uptoBulk d + 1
  | .map entries => uptoBulkEntries entries + 1
  | .held _ => 1
def uptoBulkAll {H : Type} : List (DataW H) → Nat
  | [] => 0
  | d :: r => uptoBulk d + uptoBulkAll r
def uptoBulkEntries {H : Type} : List (Lit × DataW H) → Nat
  | [] => 0
  | x :: r => uptoBulkEntry x + uptoBulkEntries r
def uptoBulkEntry {H : Type} : Lit × DataW H → Nat
  | (.string bytes, d) => bytes.length + uptoBulk d + 1
  | (_, d) => uptoBulk d + 1
 end
def uptoSmall : (H : Type) → List (DataW H) → Bool := fun _ ds => decide (uptoBulkAll ds ≤ 1048576)
def OpenSpec.upto (s : _root_.Go.ChangeSpec) : _root_.Go.OpenSpec := { _root_.Go.OpenSpec.ofChange s with cond := some uptoSmall }

/-- 'figureheadlaw07.ModeAways', WHERE WHAT IT READS IS OF BULK AT MOST 1048576: true; the input reads as it did. -/
def modeAwaysUptoRow : OpenClaim := { program := "ytbebhakffjpafaadoor", sum := "4db55533d917fb05a3d043726bda0cd7309a9869bfb3fd2a33663fc80bfb35e1", func := "figurehead/figureheadlaw07.ModeAways", spec := "modeAways", unfollowed := true, recurses := true, named := ["figurehead/mode.ways"], apart := false, laid := [("figurehead/mode.ways", laid_figurehead_mode_ways)], narrowed := true }
def ModeAwaysUptoSaid : Prop := modeAwaysUptoRow.holds Tryd.pinned (OpenSpec.upto modeAwaysSpec)

/-- 'figureheadlaw07.ModeTurned', WHERE WHAT IT READS IS OF BULK AT MOST 1048576: true; the input reads as it did. -/
def modeTurnedUptoRow : OpenClaim := { program := "ytbebhakffjpafaadoor", sum := "4db55533d917fb05a3d043726bda0cd7309a9869bfb3fd2a33663fc80bfb35e1", func := "figurehead/figureheadlaw07.ModeTurned", spec := "modeTurned", unfollowed := true, recurses := true, named := ["figurehead/mode.ways"], apart := false, laid := [("figurehead/mode.ways", laid_figurehead_mode_ways)], narrowed := true }
def ModeTurnedUptoSaid : Prop := modeTurnedUptoRow.holds Tryd.pinned (OpenSpec.upto modeTurnedSpec)

/-- 'figureheadlaw07.ModeNear', WHERE WHAT IT READS IS OF BULK AT MOST 1048576: true; the input reads as it did. -/
def modeNearUptoRow : OpenClaim := { program := "ytbebhakffjpafaadoor", sum := "4db55533d917fb05a3d043726bda0cd7309a9869bfb3fd2a33663fc80bfb35e1", func := "figurehead/figureheadlaw07.ModeNear", spec := "modeNear", unfollowed := true, recurses := true, named := ["figurehead/mode.ways"], apart := false, laid := [("figurehead/mode.ways", laid_figurehead_mode_ways)], narrowed := true }
def ModeNearUptoSaid : Prop := modeNearUptoRow.holds Tryd.pinned (OpenSpec.upto modeNearSpec)

/-- 'figureheadlaw07.ModeEnds', WHERE WHAT IT READS IS OF BULK AT MOST 1048576: true; the input reads as it did. -/
def modeEndsUptoRow : OpenClaim := { program := "ytbebhakffjpafaadoor", sum := "4db55533d917fb05a3d043726bda0cd7309a9869bfb3fd2a33663fc80bfb35e1", func := "figurehead/figureheadlaw07.ModeEnds", spec := "modeEnds", unfollowed := true, recurses := true, named := ["figurehead/mode.ways"], apart := false, laid := [("figurehead/mode.ways", laid_figurehead_mode_ways)], narrowed := true }
def ModeEndsUptoSaid : Prop := modeEndsUptoRow.holds Tryd.pinned (OpenSpec.upto modeEndsSpec)

end Rows
end Go.Proofs.YtbebhakffjpafaaDoor
