-- written by a program of this session (wip/xprint.py) out of the translation
import Derived.Test.YtdpnfdoplahfgaaDoorProg
import Derived.Below
import Derived.Deep.Draws
import Derived.Deep.AppendLies
import Derived.Maps.AppendAt
import Derived.OwnWalk
import Derived.Laws.BytesArg
import Derived.Laws.MakeOwn
import Derived.Laws.OwnMore
import Derived.Deep.OwnRows
import Derived.Tactics
import Derived.Lib.ConvBytes
import Derived.Laws.Slices
import Derived.WalkKit
import Derived.KernelRfl
import Derived.RowKit3
import Derived.Deep.LoopGhost
import Derived.Deep.QuietTactic
import Derived.BigQuiet
import Derived.WideLaws
import Derived.Deep.DeepCutAuto
import Derived.Deep.CutBlock
import Derived.Deep.RegionHeld3
import Derived.Laws.Rows
import Derived.Lib.AppendStr
import Derived.ArgAppend
import Derived.Laws.IdiomCopy
import Derived.OrdersHeld
import Derived.Laws.BitsLemmas
import Derived.RowKit
import Derived.Test.YtdpnfdoplahfgaaDoorLib1
import Derived.Test.YtdpnfdoplahfgaaDoorWWords
import Derived.Test.YtdpnfdoplahfgaaDoorWLast
import Derived.Test.YtdpnfdoplahfgaaDoorWTab
import Derived.Test.YtdpnfdoplahfgaaDoorWFour
import Derived.Test.YtdpnfdoplahfgaaDoorWQPut
import Derived.Test.YtdpnfdoplahfgaaDoorWApart
import Derived.Test.YtdpnfdoplahfgaaDoorWArr
import Derived.Test.YtdpnfdoplahfgaaDoorWZeros
import Derived.Test.YtdpnfdoplahfgaaDoorWFoot
import Derived.Test.YtdpnfdoplahfgaaDoorWKept
import Derived.Test.YtdpnfdoplahfgaaDoorWShare
import Derived.Test.YtdpnfdoplahfgaaDoorWN
import Derived.Test.YtdpnfdoplahfgaaDoorWFootNe
import Derived.Test.YtdpnfdoplahfgaaDoorWAt
import Derived.Test.YtdpnfdoplahfgaaDoorWEqStruct
import Derived.Test.YtdpnfdoplahfgaaDoorWRepsOne
import Derived.Test.YtdpnfdoplahfgaaDoorWInv
import Derived.Test.YtdpnfdoplahfgaaDoorWInvWords
import Derived.Test.YtdpnfdoplahfgaaDoorWGuard
import Derived.Test.YtdpnfdoplahfgaaDoorWNEv
import Derived.Test.YtdpnfdoplahfgaaDoorWMore
namespace Go.Proofs.YtdpnfdoplahfgaaDoor.X
open Go.RowKit Go.Proofs.YtdpnfdoplahfgaaDoorW.PrintWords Go.Proofs.YtdpnfdoplahfgaaDoorW.PrintLast Go.Proofs.YtdpnfdoplahfgaaDoorW.PrintMore
attribute [local go_sem] max2_int min2_int max_two min_two max_three min_three max_four min_four   -- for this text's walks alone
set_option linter.unusedVariables false
set_option linter.unusedSimpArgs false



def errW : Option Int → Value
  | none => .nilIface
  | some c => .iface 0 (.int .i64 c)
theorem errW_none : errW none = .nilIface := rfl
theorem errW_some (c : Int) : errW (some c) = .iface 0 (.int .i64 c) := rfl

theorem info3 : (Tryd.prog.info? 3).map (fun i => (i.zero, i.size, i.bytes)) = some (some (.int .i64 0), 1, 8) := by kernel_rfl
theorem info4 : (Tryd.prog.info? 4).map (fun i => (i.zero, i.size, i.bytes)) = some (some (.bool false), 1, 1) := by kernel_rfl
theorem info5 : (Tryd.prog.info? 5).map (fun i => (i.zero, i.size, i.bytes)) = some (some (.int .u8 0), 1, 1) := by kernel_rfl
theorem info9 : (Tryd.prog.info? 9).map (fun i => (i.zero, i.size, i.bytes)) = some (some (.string ⟨#[]⟩), 1, 16) := by kernel_rfl
-- the values' own types

end Go.Proofs.YtdpnfdoplahfgaaDoor.X
