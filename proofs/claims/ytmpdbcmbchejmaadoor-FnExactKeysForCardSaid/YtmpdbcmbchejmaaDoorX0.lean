-- written by a program of this session (wip/xprint.py) out of the translation
import Derived.Test.YtmpdbcmbchejmaaDoorProg
import Derived.Below
import Derived.Deep.Draws
import Derived.Deep.AppendLies
import Derived.Maps.AppendAt
import Derived.OwnWalk
import Derived.Laws.BytesArg
import Derived.Laws.MakeOwn
import Derived.Laws.OwnMore
import Derived.Deep.OwnRows
import Derived.Tactics
import Derived.Lib.ConvBytes
import Derived.Laws.Slices
import Derived.WalkKit
import Derived.KernelRfl
import Derived.RowKit3
import Derived.Deep.LoopGhost
import Derived.Deep.QuietTactic
import Derived.BigQuiet
import Derived.WideLaws
import Derived.Deep.DeepCutAuto
import Derived.Deep.CutBlock
import Derived.Deep.RegionHeld3
import Derived.Laws.Rows
import Derived.Lib.AppendStr
import Derived.ArgAppend
import Derived.Laws.IdiomCopy
import Derived.OrdersHeld
import Derived.Laws.BitsLemmas
import Derived.RowKit
import Derived.Test.YtmpdbcmbchejmaaDoorLib1
import Derived.Test.YtmpdbcmbchejmaaDoorWWords
import Derived.Test.YtmpdbcmbchejmaaDoorWLast
import Derived.Test.YtmpdbcmbchejmaaDoorWTab
import Derived.Test.YtmpdbcmbchejmaaDoorWFour
import Derived.Test.YtmpdbcmbchejmaaDoorWQPut
import Derived.Test.YtmpdbcmbchejmaaDoorWApart
import Derived.Test.YtmpdbcmbchejmaaDoorWArr
import Derived.Test.YtmpdbcmbchejmaaDoorWZeros
import Derived.Test.YtmpdbcmbchejmaaDoorWFoot
import Derived.Test.YtmpdbcmbchejmaaDoorWKept
import Derived.Test.YtmpdbcmbchejmaaDoorWShare
import Derived.Test.YtmpdbcmbchejmaaDoorWN
import Derived.Test.YtmpdbcmbchejmaaDoorWFootNe
import Derived.Test.YtmpdbcmbchejmaaDoorWAt
import Derived.Test.YtmpdbcmbchejmaaDoorWEqStruct
import Derived.Test.YtmpdbcmbchejmaaDoorWRepsOne
import Derived.Test.YtmpdbcmbchejmaaDoorWInv
import Derived.Test.YtmpdbcmbchejmaaDoorWInvWords
import Derived.Test.YtmpdbcmbchejmaaDoorWGuard
import Derived.Test.YtmpdbcmbchejmaaDoorWNEv
import Derived.Test.YtmpdbcmbchejmaaDoorWMore
namespace Go.Proofs.YtmpdbcmbchejmaaDoor.X
open Go.RowKit Go.Proofs.YtmpdbcmbchejmaaDoorW.PrintWords Go.Proofs.YtmpdbcmbchejmaaDoorW.PrintLast Go.Proofs.YtmpdbcmbchejmaaDoorW.PrintMore
attribute [local go_sem] max2_int min2_int max_two min_two max_three min_three max_four min_four   -- for this text's walks alone
set_option linter.unusedVariables false
set_option linter.unusedSimpArgs false



def errW : Option Int → Value
  | none => .nilIface
  | some c => .iface 0 (.int .i64 c)
theorem errW_none : errW none = .nilIface := rfl
theorem errW_some (c : Int) : errW (some c) = .iface 0 (.int .i64 c) := rfl

-- the values' own types

end Go.Proofs.YtmpdbcmbchejmaaDoor.X
