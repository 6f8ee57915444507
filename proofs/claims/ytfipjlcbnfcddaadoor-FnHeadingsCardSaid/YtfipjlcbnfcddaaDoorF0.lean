-- Written by a program of this session (wip/tools/pr.py, over the kit's print programs): functions and their contracts. Lean checks it.
import Derived.Test.YtfipjlcbnfcddaaDoorProg
import Derived.Below
import Derived.Deep.Draws
import Derived.Deep.AppendLies
import Derived.Maps.AppendAt
import Derived.OwnWalk
import Derived.Laws.BytesArg
import Derived.Laws.MakeOwn
import Derived.Laws.OwnMore
import Derived.Deep.OwnRows
import Derived.Tactics
import Derived.Lib.ConvBytes
import Derived.Laws.Slices
import Derived.WalkKit
import Derived.KernelRfl
import Derived.RowKit3
import Derived.Deep.LoopGhost
import Derived.Deep.QuietTactic
import Derived.BigQuiet
import Derived.WideLaws
import Derived.Deep.DeepCutAuto
import Derived.Deep.CutBlock
import Derived.Deep.RegionHeld3
import Derived.Laws.Rows
import Derived.Lib.AppendStr
import Derived.ArgAppend
import Derived.Laws.IdiomCopy
import Derived.OrdersHeld
import Derived.Laws.BitsLemmas
import Derived.RowKit
import Derived.Test.YtfipjlcbnfcddaaDoorWWords
import Derived.Test.YtfipjlcbnfcddaaDoorWLast
import Derived.Test.YtfipjlcbnfcddaaDoorWTab
import Derived.Test.YtfipjlcbnfcddaaDoorWFour
import Derived.Test.YtfipjlcbnfcddaaDoorWQPut
import Derived.Test.YtfipjlcbnfcddaaDoorWApart
import Derived.Test.YtfipjlcbnfcddaaDoorWArr
import Derived.Test.YtfipjlcbnfcddaaDoorWZeros
import Derived.Test.YtfipjlcbnfcddaaDoorWFoot
import Derived.Test.YtfipjlcbnfcddaaDoorWKept
import Derived.Test.YtfipjlcbnfcddaaDoorWShare
import Derived.Test.YtfipjlcbnfcddaaDoorWN
import Derived.Test.YtfipjlcbnfcddaaDoorWFootNe
import Derived.Test.YtfipjlcbnfcddaaDoorWAt
import Derived.Test.YtfipjlcbnfcddaaDoorWEqStruct
import Derived.Test.YtfipjlcbnfcddaaDoorWRepsOne
import Derived.Test.YtfipjlcbnfcddaaDoorWInv
import Derived.Test.YtfipjlcbnfcddaaDoorWInvWords
import Derived.Test.YtfipjlcbnfcddaaDoorWGuard
import Derived.Test.YtfipjlcbnfcddaaDoorWNEv
import Derived.Test.YtfipjlcbnfcddaaDoorWMore
namespace Go.Proofs.YtfipjlcbnfcddaaDoor.F
open Go.RowKit Go.Proofs.YtfipjlcbnfcddaaDoorW.PrintWords Go.Proofs.YtfipjlcbnfcddaaDoorW.PrintLast Go.Proofs.YtfipjlcbnfcddaaDoorW.PrintMore
attribute [local go_sem] max2_int min2_int max_two min_two max_three min_three max_four min_four   -- for this text's walks alone
set_option linter.unusedVariables false
set_option linter.unusedSimpArgs false



def errW : Option Int → Value
  | none => .nilIface
  | some c => .iface 0 (.int .i64 c)
theorem errW_none : errW none = .nilIface := rfl
theorem errW_some (c : Int) : errW (some c) = .iface 0 (.int .i64 c) := rfl

theorem info5 : (Tryd.prog.info? 5).map (fun i => (i.zero, i.size, i.bytes)) = some (some (.int .u8 0), 1, 1) := by kernel_rfl
theorem info9 : (Tryd.prog.info? 9).map (fun i => (i.zero, i.size, i.bytes)) = some (some (.string ⟨#[]⟩), 1, 16) := by kernel_rfl
-- the values' own types

end Go.Proofs.YtfipjlcbnfcddaaDoor.F
