-- Written by a program of this session (wip/tools/pr.py, over the kit's print programs): functions and their contracts. Lean checks it.
import Derived.Test.YtjkhmjnigjfnmaaDoorProg
import Derived.Below
import Derived.Deep.Draws
import Derived.Deep.AppendLies
import Derived.Maps.AppendAt
import Derived.OwnWalk
import Derived.Laws.BytesArg
import Derived.Laws.MakeOwn
import Derived.Laws.OwnMore
import Derived.Deep.OwnRows
import Derived.Tactics
import Derived.Lib.ConvBytes
import Derived.Laws.Slices
import Derived.WalkKit
import Derived.KernelRfl
import Derived.RowKit3
import Derived.Deep.LoopGhost
import Derived.Deep.QuietTactic
import Derived.BigQuiet
import Derived.WideLaws
import Derived.Deep.DeepCutAuto
import Derived.Deep.CutBlock
import Derived.Deep.RegionHeld3
import Derived.Laws.Rows
import Derived.Lib.AppendStr
import Derived.ArgAppend
import Derived.Laws.IdiomCopy
import Derived.OrdersHeld
import Derived.Laws.BitsLemmas
import Derived.RowKit
import Derived.Test.YtjkhmjnigjfnmaaDoorWWords
import Derived.Test.YtjkhmjnigjfnmaaDoorWLast
import Derived.Test.YtjkhmjnigjfnmaaDoorWTab
import Derived.Test.YtjkhmjnigjfnmaaDoorWFour
import Derived.Test.YtjkhmjnigjfnmaaDoorWQPut
import Derived.Test.YtjkhmjnigjfnmaaDoorWApart
import Derived.Test.YtjkhmjnigjfnmaaDoorWArr
import Derived.Test.YtjkhmjnigjfnmaaDoorWZeros
import Derived.Test.YtjkhmjnigjfnmaaDoorWFoot
import Derived.Test.YtjkhmjnigjfnmaaDoorWKept
import Derived.Test.YtjkhmjnigjfnmaaDoorWShare
import Derived.Test.YtjkhmjnigjfnmaaDoorWN
import Derived.Test.YtjkhmjnigjfnmaaDoorWFootNe
import Derived.Test.YtjkhmjnigjfnmaaDoorWAt
import Derived.Test.YtjkhmjnigjfnmaaDoorWEqStruct
import Derived.Test.YtjkhmjnigjfnmaaDoorWRepsOne
import Derived.Test.YtjkhmjnigjfnmaaDoorWInv
import Derived.Test.YtjkhmjnigjfnmaaDoorWInvWords
import Derived.Test.YtjkhmjnigjfnmaaDoorWGuard
import Derived.Test.YtjkhmjnigjfnmaaDoorWNEv
import Derived.Test.YtjkhmjnigjfnmaaDoorWMore
namespace Go.Proofs.YtjkhmjnigjfnmaaDoor.F
open Go.RowKit Go.Proofs.YtjkhmjnigjfnmaaDoorW.PrintWords Go.Proofs.YtjkhmjnigjfnmaaDoorW.PrintLast Go.Proofs.YtjkhmjnigjfnmaaDoorW.PrintMore
attribute [local go_sem] max2_int min2_int max_two min_two max_three min_three max_four min_four   -- for this text's walks alone
set_option linter.unusedVariables false
set_option linter.unusedSimpArgs false



def errW : Option Int → Value
  | none => .nilIface
  | some c => .iface 0 (.int .i64 c)
theorem errW_none : errW none = .nilIface := rfl
theorem errW_some (c : Int) : errW (some c) = .iface 0 (.int .i64 c) := rfl

theorem info2 : (Tryd.prog.info? 2).map (fun i => (i.zero, i.size, i.bytes)) = some (some (.int .i64 0), 1, 8) := by kernel_rfl
-- the values' own types

end Go.Proofs.YtjkhmjnigjfnmaaDoor.F
