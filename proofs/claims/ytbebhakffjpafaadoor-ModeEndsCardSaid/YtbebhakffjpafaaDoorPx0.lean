-- written by fprint.py (this project's own driver over the printer); Lean checks it
import Derived.Test.YtbebhakffjpafaaDoorProg
import Derived.Below
import Derived.Deep.Draws
import Derived.Deep.AppendLies
import Derived.Maps.AppendAt
import Derived.OwnWalk
import Derived.Laws.BytesArg
import Derived.Laws.MakeOwn
import Derived.Laws.OwnMore
import Derived.Deep.OwnRows
import Derived.Tactics
import Derived.Lib.ConvBytes
import Derived.Laws.Slices
import Derived.WalkKit
import Derived.KernelRfl
import Derived.RowKit3
import Derived.Deep.LoopGhost
import Derived.Deep.QuietTactic
import Derived.BigQuiet
import Derived.WideLaws
import Derived.Deep.DeepCutAuto
import Derived.Deep.CutBlock
import Derived.Deep.RegionHeld3
import Derived.Laws.Rows
import Derived.Lib.AppendStr
import Derived.ArgAppend
import Derived.Laws.IdiomCopy
import Derived.OrdersHeld
import Derived.Laws.BitsLemmas
import Derived.RowKit
import Derived.Test.YtbebhakffjpafaaDoorFBase
import Derived.Test.YtbebhakffjpafaaDoorFDig
import Derived.Test.YtbebhakffjpafaaDoorFNum
import Derived.Test.YtbebhakffjpafaaDoorFEv
import Derived.Test.YtbebhakffjpafaaDoorFCopy
import Derived.Test.YtbebhakffjpafaaDoorFMake
import Derived.Test.YtbebhakffjpafaaDoorFGlob
import Derived.Test.YtbebhakffjpafaaDoorWWords
import Derived.Test.YtbebhakffjpafaaDoorWLast
import Derived.Test.YtbebhakffjpafaaDoorWTab
import Derived.Test.YtbebhakffjpafaaDoorWFour
import Derived.Test.YtbebhakffjpafaaDoorWQPut
import Derived.Test.YtbebhakffjpafaaDoorWApart
import Derived.Test.YtbebhakffjpafaaDoorWArr
import Derived.Test.YtbebhakffjpafaaDoorWZeros
import Derived.Test.YtbebhakffjpafaaDoorWFoot
import Derived.Test.YtbebhakffjpafaaDoorWKept
import Derived.Test.YtbebhakffjpafaaDoorWShare
import Derived.Test.YtbebhakffjpafaaDoorWN
import Derived.Test.YtbebhakffjpafaaDoorWFootNe
import Derived.Test.YtbebhakffjpafaaDoorWAt
import Derived.Test.YtbebhakffjpafaaDoorWEqStruct
import Derived.Test.YtbebhakffjpafaaDoorWRepsOne
import Derived.Test.YtbebhakffjpafaaDoorWInv
import Derived.Test.YtbebhakffjpafaaDoorWInvWords
import Derived.Test.YtbebhakffjpafaaDoorWGuard
import Derived.Test.YtbebhakffjpafaaDoorWNEv
import Derived.Test.YtbebhakffjpafaaDoorWMore
namespace Go.Proofs.YtbebhakffjpafaaDoor.Px
open Fig Go.RowKit Go.Proofs.YtbebhakffjpafaaDoorW.PrintWords Go.Proofs.YtbebhakffjpafaaDoorW.PrintLast Go.Proofs.YtbebhakffjpafaaDoorW.PrintMore
attribute [local go_sem] max2_int min2_int max_two min_two max_three min_three max_four min_four   -- for this text's walks alone



def errW : Option Int → Value
  | none => .nilIface
  | some c => .iface 0 (.int .i64 c)
theorem errW_none : errW none = .nilIface := rfl
theorem errW_some (c : Int) : errW (some c) = .iface 0 (.int .i64 c) := rfl

-- the values' own types

end Go.Proofs.YtbebhakffjpafaaDoor.Px
