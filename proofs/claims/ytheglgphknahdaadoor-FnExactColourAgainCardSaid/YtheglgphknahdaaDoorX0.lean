-- written by a program of this session (wip/xprint.py) out of the translation
import Derived.Test.YtheglgphknahdaaDoorProg
import Derived.Below
import Derived.Deep.Draws
import Derived.Deep.AppendLies
import Derived.Maps.AppendAt
import Derived.OwnWalk
import Derived.Laws.BytesArg
import Derived.Laws.MakeOwn
import Derived.Laws.OwnMore
import Derived.Deep.OwnRows
import Derived.Tactics
import Derived.Lib.ConvBytes
import Derived.Laws.Slices
import Derived.WalkKit
import Derived.KernelRfl
import Derived.RowKit3
import Derived.Deep.LoopGhost
import Derived.Deep.QuietTactic
import Derived.BigQuiet
import Derived.WideLaws
import Derived.Deep.DeepCutAuto
import Derived.Deep.CutBlock
import Derived.Deep.RegionHeld3
import Derived.Laws.Rows
import Derived.Lib.AppendStr
import Derived.ArgAppend
import Derived.Laws.IdiomCopy
import Derived.OrdersHeld
import Derived.Laws.BitsLemmas
import Derived.RowKit
import Derived.Test.YtheglgphknahdaaDoorLib1
import Derived.Test.YtheglgphknahdaaDoorWWords
import Derived.Test.YtheglgphknahdaaDoorWLast
import Derived.Test.YtheglgphknahdaaDoorWTab
import Derived.Test.YtheglgphknahdaaDoorWFour
import Derived.Test.YtheglgphknahdaaDoorWQPut
import Derived.Test.YtheglgphknahdaaDoorWApart
import Derived.Test.YtheglgphknahdaaDoorWArr
import Derived.Test.YtheglgphknahdaaDoorWZeros
import Derived.Test.YtheglgphknahdaaDoorWFoot
import Derived.Test.YtheglgphknahdaaDoorWKept
import Derived.Test.YtheglgphknahdaaDoorWShare
import Derived.Test.YtheglgphknahdaaDoorWN
import Derived.Test.YtheglgphknahdaaDoorWFootNe
import Derived.Test.YtheglgphknahdaaDoorWAt
import Derived.Test.YtheglgphknahdaaDoorWEqStruct
import Derived.Test.YtheglgphknahdaaDoorWRepsOne
import Derived.Test.YtheglgphknahdaaDoorWInv
import Derived.Test.YtheglgphknahdaaDoorWInvWords
import Derived.Test.YtheglgphknahdaaDoorWGuard
import Derived.Test.YtheglgphknahdaaDoorWNEv
import Derived.Test.YtheglgphknahdaaDoorWMore
namespace Go.Proofs.YtheglgphknahdaaDoor.X
open Go.RowKit Go.Proofs.YtheglgphknahdaaDoorW.PrintWords Go.Proofs.YtheglgphknahdaaDoorW.PrintLast Go.Proofs.YtheglgphknahdaaDoorW.PrintMore
attribute [local go_sem] max2_int min2_int max_two min_two max_three min_three max_four min_four   -- for this text's walks alone
set_option linter.unusedVariables false
set_option linter.unusedSimpArgs false



def errW : Option Int → Value
 | none => .nilIface
 | some c => .iface 0 (.int .i64 c)
theorem errW_none : errW none = .nilIface := rfl
theorem errW_some (c : Int) : errW (some c) = .iface 0 (.int .i64 c) := rfl

theorem info3 : (Tryd.prog.info? 3).map (fun i => (i.zero, i.size, i.bytes)) = some (some (.int .i64 0), 1, 8) := by kernel_rfl
theorem info5 : (Tryd.prog.info? 5).map (fun i => (i.zero, i.size, i.bytes)) = some (some (.int .u8 0), 1, 1) := by kernel_rfl
theorem info9 : (Tryd.prog.info? 9).map (fun i => (i.zero, i.size, i.bytes)) = some (some (.string ⟨#[]⟩), 1, 16) := by kernel_rfl
-- the values' own types

end Go.Proofs.YtheglgphknahdaaDoor.X
