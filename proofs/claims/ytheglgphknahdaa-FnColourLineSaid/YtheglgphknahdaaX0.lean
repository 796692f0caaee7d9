-- written by a program of this session (wip/xprint.py) out of the translation
import Derived.Test.YtheglgphknahdaaProg
import Derived.Below
import Derived.Deep.Draws
import Derived.Deep.AppendLies
import Derived.Maps.AppendAt
import Derived.OwnWalk
import Derived.Laws.BytesArg
import Derived.Laws.MakeOwn
import Derived.Laws.OwnMore
import Derived.Deep.OwnRows
import Derived.Tactics
import Derived.Lib.ConvBytes
import Derived.Laws.Slices
import Derived.WalkKit
import Derived.KernelRfl
import Derived.RowKit3
import Derived.Deep.LoopGhost
import Derived.Deep.QuietTactic
import Derived.BigQuiet
import Derived.WideLaws
import Derived.Deep.DeepCutAuto
import Derived.Deep.CutBlock
import Derived.Deep.RegionHeld3
import Derived.Laws.Rows
import Derived.Lib.AppendStr
import Derived.ArgAppend
import Derived.Laws.IdiomCopy
import Derived.OrdersHeld
import Derived.Laws.BitsLemmas
import Derived.RowKit
import Derived.Test.YtheglgphknahdaaLib1
import Derived.Test.YtheglgphknahdaaWWords
import Derived.Test.YtheglgphknahdaaWLast
import Derived.Test.YtheglgphknahdaaWTab
import Derived.Test.YtheglgphknahdaaWFour
import Derived.Test.YtheglgphknahdaaWQPut
import Derived.Test.YtheglgphknahdaaWApart
import Derived.Test.YtheglgphknahdaaWArr
import Derived.Test.YtheglgphknahdaaWZeros
import Derived.Test.YtheglgphknahdaaWFoot
import Derived.Test.YtheglgphknahdaaWKept
import Derived.Test.YtheglgphknahdaaWShare
import Derived.Test.YtheglgphknahdaaWN
import Derived.Test.YtheglgphknahdaaWFootNe
import Derived.Test.YtheglgphknahdaaWAt
import Derived.Test.YtheglgphknahdaaWEqStruct
import Derived.Test.YtheglgphknahdaaWRepsOne
import Derived.Test.YtheglgphknahdaaWInv
import Derived.Test.YtheglgphknahdaaWInvWords
import Derived.Test.YtheglgphknahdaaWGuard
import Derived.Test.YtheglgphknahdaaWNEv
import Derived.Test.YtheglgphknahdaaWMore
namespace Go.Proofs.Ytheglgphknahdaa.X
open Go.RowKit Go.Proofs.YtheglgphknahdaaW.PrintWords Go.Proofs.YtheglgphknahdaaW.PrintLast Go.Proofs.YtheglgphknahdaaW.PrintMore
attribute [local go_sem] max2_int min2_int max_two min_two max_three min_three max_four min_four   -- for this text's walks alone
set_option linter.unusedVariables false
set_option linter.unusedSimpArgs false



def errW : Option Int → Value
  | none => .nilIface
  | some c => .iface 0 (.int .i64 c)
theorem errW_none : errW none = .nilIface := rfl
theorem errW_some (c : Int) : errW (some c) = .iface 0 (.int .i64 c) := rfl

theorem info3 : (Try.prog.info? 3).map (fun i => (i.zero, i.size, i.bytes)) = some (some (.int .i64 0), 1, 8) := by kernel_rfl
theorem info5 : (Try.prog.info? 5).map (fun i => (i.zero, i.size, i.bytes)) = some (some (.int .u8 0), 1, 1) := by kernel_rfl
theorem info9 : (Try.prog.info? 9).map (fun i => (i.zero, i.size, i.bytes)) = some (some (.string ⟨#[]⟩), 1, 16) := by kernel_rfl
-- the values' own types

end Go.Proofs.Ytheglgphknahdaa.X
