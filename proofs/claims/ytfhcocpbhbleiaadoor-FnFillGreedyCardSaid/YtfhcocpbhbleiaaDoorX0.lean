-- written by a program of this session (wip/xprint.py) out of the translation
import Derived.Test.YtfhcocpbhbleiaaDoorProg
import Derived.Below
import Derived.Deep.Draws
import Derived.Deep.AppendLies
import Derived.Maps.AppendAt
import Derived.OwnWalk
import Derived.Laws.BytesArg
import Derived.Laws.MakeOwn
import Derived.Laws.OwnMore
import Derived.Deep.OwnRows
import Derived.Tactics
import Derived.Lib.ConvBytes
import Derived.Laws.Slices
import Derived.WalkKit
import Derived.KernelRfl
import Derived.RowKit3
import Derived.Deep.LoopGhost
import Derived.Deep.QuietTactic
import Derived.BigQuiet
import Derived.WideLaws
import Derived.Deep.DeepCutAuto
import Derived.Deep.CutBlock
import Derived.Deep.RegionHeld3
import Derived.Laws.Rows
import Derived.Lib.AppendStr
import Derived.ArgAppend
import Derived.Laws.IdiomCopy
import Derived.OrdersHeld
import Derived.Laws.BitsLemmas
import Derived.RowKit
import Derived.Test.YtfhcocpbhbleiaaDoorLib1
import Derived.Test.YtfhcocpbhbleiaaDoorWWords
import Derived.Test.YtfhcocpbhbleiaaDoorWLast
import Derived.Test.YtfhcocpbhbleiaaDoorWTab
import Derived.Test.YtfhcocpbhbleiaaDoorWFour
import Derived.Test.YtfhcocpbhbleiaaDoorWQPut
import Derived.Test.YtfhcocpbhbleiaaDoorWApart
import Derived.Test.YtfhcocpbhbleiaaDoorWArr
import Derived.Test.YtfhcocpbhbleiaaDoorWZeros
import Derived.Test.YtfhcocpbhbleiaaDoorWFoot
import Derived.Test.YtfhcocpbhbleiaaDoorWKept
import Derived.Test.YtfhcocpbhbleiaaDoorWShare
import Derived.Test.YtfhcocpbhbleiaaDoorWN
import Derived.Test.YtfhcocpbhbleiaaDoorWFootNe
import Derived.Test.YtfhcocpbhbleiaaDoorWAt
import Derived.Test.YtfhcocpbhbleiaaDoorWEqStruct
import Derived.Test.YtfhcocpbhbleiaaDoorWRepsOne
import Derived.Test.YtfhcocpbhbleiaaDoorWInv
import Derived.Test.YtfhcocpbhbleiaaDoorWInvWords
import Derived.Test.YtfhcocpbhbleiaaDoorWGuard
import Derived.Test.YtfhcocpbhbleiaaDoorWNEv
import Derived.Test.YtfhcocpbhbleiaaDoorWMore
namespace Go.Proofs.YtfhcocpbhbleiaaDoor.X
open Go.RowKit Go.Proofs.YtfhcocpbhbleiaaDoorW.PrintWords Go.Proofs.YtfhcocpbhbleiaaDoorW.PrintLast Go.Proofs.YtfhcocpbhbleiaaDoorW.PrintMore
attribute [local go_sem] max2_int min2_int max_two min_two max_three min_three max_four min_four   -- for this text's walks alone
set_option linter.unusedVariables false
set_option linter.unusedSimpArgs false



def errW : Option Int → Value
  | none => .nilIface
  | some c => .iface 0 (.int .i64 c)
theorem errW_none : errW none = .nilIface := rfl
theorem errW_some (c : Int) : errW (some c) = .iface 0 (.int .i64 c) := rfl

theorem info3 : (Tryd.prog.info? 3).map (fun i => (i.zero, i.size, i.bytes)) = some (some (.int .i64 0), 1, 8) := by kernel_rfl
theorem info5 : (Tryd.prog.info? 5).map (fun i => (i.zero, i.size, i.bytes)) = some (some (.int .u8 0), 1, 1) := by kernel_rfl
theorem info9 : (Tryd.prog.info? 9).map (fun i => (i.zero, i.size, i.bytes)) = some (some (.string ⟨#[]⟩), 1, 16) := by kernel_rfl
-- the values' own types

end Go.Proofs.YtfhcocpbhbleiaaDoor.X
