/-
  NARROWER THAN 'FOR EVERY INPUT', by the rows' own cells (each row's printed sentence says how): FnExactColourStates: laid · FnExactColourText: laid · FnColourJoin: laid · FnColourStates: laid · FnColourText: laid · FnExactColourAgain: laid · FnColourAgain: laid.
  DERIVED. THE GIVEN ROWS OF THIS SEAT. 7 by the template 'for every input the law returns true; each argument reads behind the call as it read before'; 0 by the template 'total and deterministic' (their statements: YtheglgphknahdaaDoorTotals.lean).
  GIVEN WITH THE SEED: the statements are not yours to turn. If you find one false, say at which input.
  Laid BY PROGRAM, IN A SANDBOX (cutbox-rows.mjs): the forced cells as the released guide's own fill.sh prints them over the translation a77a510fa47e3ff2… (all of the seat's roots in one cut). By AI agents, Wed Nov 11 2026. No macro, syntax, notation, axiom, sorry.
-/
import Derived.Test.YtheglgphknahdaaDoorChecked
import GoSem.PinnedTables
import GoSem.Claim
import GoSem.ClaimJoined
import GoSem.ClaimMapViews
import Derived.JoinedTies
import Derived.KernelRfl
namespace Go.Proofs.YtheglgphknahdaaDoor
/- THE CELL 'sum', in the pinned program and in every row, IS THE sha256 OF THE DUMP (.gsa) THAT YtheglgphknahdaaDoorProg.lean LOADS. Nothing in Lean hashes anything: it is a label: what it is worth is what the hold of that sum in a sandbox is worth. -/
noncomputable def Tryd.pinned : Pinned := { name := "ytheglgphknahdaadoor", sum := "a77a510fa47e3ff2696ac13302766c2bf0b8f402166bd2d25b65e884e213c781", checked := Tryd.checked }
namespace Rows
def none {H : Type} : Left H := { results := [], args := [] }

/- WHAT THE LISTED PACKAGE-LEVEL VARIABLES READ AS WHEN THE CALL BEGINS. Each datum BY PROGRAM (the guide's laid-datum.mjs) off the statement by which the dump's own 'gosem.cut.vars' lays the variable. In a bare row this is a premise. The card (YtheglgphknahdaaDoorCards.lean) ties it to the program's text. -/
def laid_unicode_utf8_acceptRanges {H : Type} : DataW H := .agg [.agg [.lit (.int .u8 128), .lit (.int .u8 191)], .agg [.lit (.int .u8 160), .lit (.int .u8 191)], .agg [.lit (.int .u8 128), .lit (.int .u8 159)], .agg [.lit (.int .u8 144), .lit (.int .u8 191)], .agg [.lit (.int .u8 128), .lit (.int .u8 143)], .agg [.lit (.int .u8 0), .lit (.int .u8 0)], .agg [.lit (.int .u8 0), .lit (.int .u8 0)], .agg [.lit (.int .u8 0), .lit (.int .u8 0)], .agg [.lit (.int .u8 0), .lit (.int .u8 0)], .agg [.lit (.int .u8 0), .lit (.int .u8 0)], .agg [.lit (.int .u8 0), .lit (.int .u8 0)], .agg [.lit (.int .u8 0), .lit (.int .u8 0)], .agg [.lit (.int .u8 0), .lit (.int .u8 0)], .agg [.lit (.int .u8 0), .lit (.int .u8 0)], .agg [.lit (.int .u8 0), .lit (.int .u8 0)], .agg [.lit (.int .u8 0), .lit (.int .u8 0)]]
/-- One of Go's own tables, pinned by name: the form's constant. -/
def laid_unicode_utf8_first : DataW Unit := Go.Pinned.utf8First

/-- 'laws.FnExactColourStates': WHATEVER THE INPUT: true; the input reads as it did. -/
def fnExactColourStatesSpec : ChangeSpec := { name := "fnExactColourStates", fn := fun _ => fun
  | [d] => { results := [.lit (.bool true)], args := [d] }
  | _ => none }
def fnExactColourStatesRow : OpenClaim := { program := "ytheglgphknahdaadoor", sum := "a77a510fa47e3ff2696ac13302766c2bf0b8f402166bd2d25b65e884e213c781", func := "loop.example/texteditor/laws.FnExactColourStates", spec := "fnExactColourStates", inPlace := ["internal/bytealg.CountString", "internal/bytealg.IndexByteString", "internal/bytealg.IndexString", "internal/abi.NoEscape"], named := ["unicode/utf8.first", "unicode/utf8.acceptRanges", "internal/bytealg.MaxLen"], apart := false, laid := [("unicode/utf8.acceptRanges", laid_unicode_utf8_acceptRanges), ("unicode/utf8.first", laid_unicode_utf8_first)] }
def FnExactColourStatesSaid : Prop := fnExactColourStatesRow.holds Tryd.pinned (OpenSpec.ofChange fnExactColourStatesSpec)

/-- ITS FALSE NEIGHBOUR: 'it returns false'. Refute it at one input. -/
def fnExactColourStatesWrong : ChangeSpec := { name := "fnExactColourStates", fn := fun _ => fun
  | [d] => { results := [.lit (.bool false)], args := [d] }
  | _ => none }
def FnExactColourStatesWrongFalsely : Prop := fnExactColourStatesRow.holds Tryd.pinned (OpenSpec.ofChange fnExactColourStatesWrong)

/-- 'laws.FnExactColourText': WHATEVER THE INPUT: true; the input reads as it did. -/
def fnExactColourTextSpec : ChangeSpec := { name := "fnExactColourText", fn := fun _ => fun
  | [d] => { results := [.lit (.bool true)], args := [d] }
  | _ => none }
def fnExactColourTextRow : OpenClaim := { program := "ytheglgphknahdaadoor", sum := "a77a510fa47e3ff2696ac13302766c2bf0b8f402166bd2d25b65e884e213c781", func := "loop.example/texteditor/laws.FnExactColourText", spec := "fnExactColourText", inPlace := ["internal/bytealg.CountString", "internal/bytealg.IndexByteString", "internal/bytealg.IndexString", "internal/abi.NoEscape"], named := ["unicode/utf8.first", "unicode/utf8.acceptRanges", "internal/bytealg.MaxLen"], apart := false, laid := [("unicode/utf8.acceptRanges", laid_unicode_utf8_acceptRanges), ("unicode/utf8.first", laid_unicode_utf8_first)] }
def FnExactColourTextSaid : Prop := fnExactColourTextRow.holds Tryd.pinned (OpenSpec.ofChange fnExactColourTextSpec)

/-- ITS FALSE NEIGHBOUR: 'it returns false'. Refute it at one input. -/
def fnExactColourTextWrong : ChangeSpec := { name := "fnExactColourText", fn := fun _ => fun
  | [d] => { results := [.lit (.bool false)], args := [d] }
  | _ => none }
def FnExactColourTextWrongFalsely : Prop := fnExactColourTextRow.holds Tryd.pinned (OpenSpec.ofChange fnExactColourTextWrong)

/-- 'laws.FnColourJoin': WHATEVER THE INPUT: true; the input reads as it did. -/
def fnColourJoinSpec : ChangeSpec := { name := "fnColourJoin", fn := fun _ => fun
  | [d1, d2] => { results := [.lit (.bool true)], args := [d1, d2] }
  | _ => none }
def fnColourJoinRow : OpenClaim := { program := "ytheglgphknahdaadoor", sum := "a77a510fa47e3ff2696ac13302766c2bf0b8f402166bd2d25b65e884e213c781", func := "loop.example/texteditor/laws.FnColourJoin", spec := "fnColourJoin", inPlace := ["internal/bytealg.CountString", "internal/bytealg.IndexByteString", "internal/bytealg.IndexString", "internal/abi.NoEscape"], named := ["unicode/utf8.first", "unicode/utf8.acceptRanges", "internal/bytealg.MaxLen"], apart := false, laid := [("unicode/utf8.acceptRanges", laid_unicode_utf8_acceptRanges), ("unicode/utf8.first", laid_unicode_utf8_first)] }
def FnColourJoinSaid : Prop := fnColourJoinRow.holds Tryd.pinned (OpenSpec.ofChange fnColourJoinSpec)

/-- ITS FALSE NEIGHBOUR: 'it returns false'. Refute it at one input. -/
def fnColourJoinWrong : ChangeSpec := { name := "fnColourJoin", fn := fun _ => fun
  | [d1, d2] => { results := [.lit (.bool false)], args := [d1, d2] }
  | _ => none }
def FnColourJoinWrongFalsely : Prop := fnColourJoinRow.holds Tryd.pinned (OpenSpec.ofChange fnColourJoinWrong)

/-- 'laws.FnColourStates': WHATEVER THE INPUT: true; the input reads as it did. -/
def fnColourStatesSpec : ChangeSpec := { name := "fnColourStates", fn := fun _ => fun
  | [d] => { results := [.lit (.bool true)], args := [d] }
  | _ => none }
def fnColourStatesRow : OpenClaim := { program := "ytheglgphknahdaadoor", sum := "a77a510fa47e3ff2696ac13302766c2bf0b8f402166bd2d25b65e884e213c781", func := "loop.example/texteditor/laws.FnColourStates", spec := "fnColourStates", inPlace := ["internal/bytealg.CountString", "internal/bytealg.IndexByteString", "internal/bytealg.IndexString", "internal/abi.NoEscape"], named := ["unicode/utf8.first", "unicode/utf8.acceptRanges", "internal/bytealg.MaxLen"], apart := false, laid := [("unicode/utf8.acceptRanges", laid_unicode_utf8_acceptRanges), ("unicode/utf8.first", laid_unicode_utf8_first)] }
def FnColourStatesSaid : Prop := fnColourStatesRow.holds Tryd.pinned (OpenSpec.ofChange fnColourStatesSpec)

/-- ITS FALSE NEIGHBOUR: 'it returns false'. Refute it at one input. -/
def fnColourStatesWrong : ChangeSpec := { name := "fnColourStates", fn := fun _ => fun
  | [d] => { results := [.lit (.bool false)], args := [d] }
  | _ => none }
def FnColourStatesWrongFalsely : Prop := fnColourStatesRow.holds Tryd.pinned (OpenSpec.ofChange fnColourStatesWrong)

/-- 'laws.FnColourText': WHATEVER THE INPUT: true; the input reads as it did. -/
def fnColourTextSpec : ChangeSpec := { name := "fnColourText", fn := fun _ => fun
  | [d] => { results := [.lit (.bool true)], args := [d] }
  | _ => none }
def fnColourTextRow : OpenClaim := { program := "ytheglgphknahdaadoor", sum := "a77a510fa47e3ff2696ac13302766c2bf0b8f402166bd2d25b65e884e213c781", func := "loop.example/texteditor/laws.FnColourText", spec := "fnColourText", inPlace := ["internal/bytealg.CountString", "internal/bytealg.IndexByteString", "internal/bytealg.IndexString", "internal/abi.NoEscape"], named := ["unicode/utf8.first", "unicode/utf8.acceptRanges", "internal/bytealg.MaxLen"], apart := false, laid := [("unicode/utf8.acceptRanges", laid_unicode_utf8_acceptRanges), ("unicode/utf8.first", laid_unicode_utf8_first)] }
def FnColourTextSaid : Prop := fnColourTextRow.holds Tryd.pinned (OpenSpec.ofChange fnColourTextSpec)

/-- ITS FALSE NEIGHBOUR: 'it returns false'. Refute it at one input. -/
def fnColourTextWrong : ChangeSpec := { name := "fnColourText", fn := fun _ => fun
  | [d] => { results := [.lit (.bool false)], args := [d] }
  | _ => none }
def FnColourTextWrongFalsely : Prop := fnColourTextRow.holds Tryd.pinned (OpenSpec.ofChange fnColourTextWrong)

/-- 'laws.FnExactColourAgain': WHATEVER THE INPUT: true; the input reads as it did. -/
def fnExactColourAgainSpec : ChangeSpec := { name := "fnExactColourAgain", fn := fun _ => fun
  | [d1, d2] => { results := [.lit (.bool true)], args := [d1, d2] }
  | _ => none }
def fnExactColourAgainRow : OpenClaim := { program := "ytheglgphknahdaadoor", sum := "a77a510fa47e3ff2696ac13302766c2bf0b8f402166bd2d25b65e884e213c781", func := "loop.example/texteditor/laws.FnExactColourAgain", spec := "fnExactColourAgain", inPlace := ["internal/bytealg.CountString", "internal/bytealg.IndexByteString", "internal/bytealg.IndexString", "internal/abi.NoEscape"], named := ["unicode/utf8.first", "unicode/utf8.acceptRanges", "internal/bytealg.MaxLen"], apart := false, laid := [("unicode/utf8.acceptRanges", laid_unicode_utf8_acceptRanges), ("unicode/utf8.first", laid_unicode_utf8_first)] }
def FnExactColourAgainSaid : Prop := fnExactColourAgainRow.holds Tryd.pinned (OpenSpec.ofChange fnExactColourAgainSpec)

/-- ITS FALSE NEIGHBOUR: 'it returns false'. Refute it at one input. -/
def fnExactColourAgainWrong : ChangeSpec := { name := "fnExactColourAgain", fn := fun _ => fun
  | [d1, d2] => { results := [.lit (.bool false)], args := [d1, d2] }
  | _ => none }
def FnExactColourAgainWrongFalsely : Prop := fnExactColourAgainRow.holds Tryd.pinned (OpenSpec.ofChange fnExactColourAgainWrong)

/-- 'laws.FnColourAgain': WHATEVER THE INPUT: true; the input reads as it did. -/
def fnColourAgainSpec : ChangeSpec := { name := "fnColourAgain", fn := fun _ => fun
  | [d] => { results := [.lit (.bool true)], args := [d] }
  | _ => none }
def fnColourAgainRow : OpenClaim := { program := "ytheglgphknahdaadoor", sum := "a77a510fa47e3ff2696ac13302766c2bf0b8f402166bd2d25b65e884e213c781", func := "loop.example/texteditor/laws.FnColourAgain", spec := "fnColourAgain", inPlace := ["internal/bytealg.CountString", "internal/bytealg.IndexByteString", "internal/bytealg.IndexString", "internal/abi.NoEscape"], named := ["unicode/utf8.first", "unicode/utf8.acceptRanges", "internal/bytealg.MaxLen"], apart := false, laid := [("unicode/utf8.acceptRanges", laid_unicode_utf8_acceptRanges), ("unicode/utf8.first", laid_unicode_utf8_first)] }
def FnColourAgainSaid : Prop := fnColourAgainRow.holds Tryd.pinned (OpenSpec.ofChange fnColourAgainSpec)

/-- ITS FALSE NEIGHBOUR: 'it returns false'. Refute it at one input. -/
def fnColourAgainWrong : ChangeSpec := { name := "fnColourAgain", fn := fun _ => fun
  | [d] => { results := [.lit (.bool false)], args := [d] }
  | _ => none }
def FnColourAgainWrongFalsely : Prop := fnColourAgainRow.holds Tryd.pinned (OpenSpec.ofChange fnColourAgainWrong)

/- THE SECOND FORM. 'bulk': how many values and letters a reading holds, each counted each time it is reached (what is shared counts as often as it is met; a slice's spare places count too). A statement '..UptoSaid' is the law's where the arguments, and the package variables that the reading takes, are together of bulk at most 1048576: NARROWER than '..Said'. Prove '..Said' where nothing that the law and all that it calls make is longer than what came in: it says more and counts as full. Else prove '..UptoSaid'. A law counts once. -/
mutual
def uptoBulk {H : Type} : DataW H → Nat
  | .lit (.string bytes) => bytes.length + 1
  | .lit _ => 1
  | .nil => 1
  | .ptr d => uptoBulk d + 1
  | .slice elems spare => uptoBulkAll elems + uptoBulkAll spare + 1
  | .agg parts => uptoBulkAll parts + 1
  | .iface _ d => uptoBulk d + 1
  | .map entries => uptoBulkEntries entries + 1
  | .held _ => 1
def uptoBulkAll {H : Type} : List (DataW H) → Nat
  | [] => 0
  | d :: r => uptoBulk d + uptoBulkAll r
def uptoBulkEntries {H : Type} : List (Lit × DataW H) → Nat
  | [] => 0
  | x :: r => uptoBulkEntry x + uptoBulkEntries r
def uptoBulkEntry {H : Type} : Lit × DataW H → Nat
  | (.string bytes, d) => bytes.length + uptoBulk d + 1
  | (_, d) => uptoBulk d + 1
 end
def uptoSmall : (H : Type) → List (DataW H) → Bool := fun _ ds => decide (uptoBulkAll ds ≤ 1048576)
def OpenSpec.upto (s : _root_.Go.ChangeSpec) : _root_.Go.OpenSpec := { _root_.Go.OpenSpec.ofChange s with cond := some uptoSmall }

/-- 'laws.FnExactColourStates', WHERE WHAT IT READS IS OF BULK AT MOST 1048576: true; the input reads as it did. -/
def fnExactColourStatesUptoRow : OpenClaim := { program := "ytheglgphknahdaadoor", sum := "a77a510fa47e3ff2696ac13302766c2bf0b8f402166bd2d25b65e884e213c781", func := "loop.example/texteditor/laws.FnExactColourStates", spec := "fnExactColourStates", inPlace := ["internal/bytealg.CountString", "internal/bytealg.IndexByteString", "internal/bytealg.IndexString", "internal/abi.NoEscape"], named := ["unicode/utf8.first", "unicode/utf8.acceptRanges", "internal/bytealg.MaxLen"], apart := false, laid := [("unicode/utf8.acceptRanges", laid_unicode_utf8_acceptRanges), ("unicode/utf8.first", laid_unicode_utf8_first)], narrowed := true }
def FnExactColourStatesUptoSaid : Prop := fnExactColourStatesUptoRow.holds Tryd.pinned (OpenSpec.upto fnExactColourStatesSpec)

/-- 'laws.FnExactColourText', WHERE WHAT IT READS IS OF BULK AT MOST 1048576: true; the input reads as it did. -/
def fnExactColourTextUptoRow : OpenClaim := { program := "ytheglgphknahdaadoor", sum := "a77a510fa47e3ff2696ac13302766c2bf0b8f402166bd2d25b65e884e213c781", func := "loop.example/texteditor/laws.FnExactColourText", spec := "fnExactColourText", inPlace := ["internal/bytealg.CountString", "internal/bytealg.IndexByteString", "internal/bytealg.IndexString", "internal/abi.NoEscape"], named := ["unicode/utf8.first", "unicode/utf8.acceptRanges", "internal/bytealg.MaxLen"], apart := false, laid := [("unicode/utf8.acceptRanges", laid_unicode_utf8_acceptRanges), ("unicode/utf8.first", laid_unicode_utf8_first)], narrowed := true }
def FnExactColourTextUptoSaid : Prop := fnExactColourTextUptoRow.holds Tryd.pinned (OpenSpec.upto fnExactColourTextSpec)

/-- 'laws.FnColourJoin', WHERE WHAT IT READS IS OF BULK AT MOST 1048576: true; the input reads as it did. -/
def fnColourJoinUptoRow : OpenClaim := { program := "ytheglgphknahdaadoor", sum := "a77a510fa47e3ff2696ac13302766c2bf0b8f402166bd2d25b65e884e213c781", func := "loop.example/texteditor/laws.FnColourJoin", spec := "fnColourJoin", inPlace := ["internal/bytealg.CountString", "internal/bytealg.IndexByteString", "internal/bytealg.IndexString", "internal/abi.NoEscape"], named := ["unicode/utf8.first", "unicode/utf8.acceptRanges", "internal/bytealg.MaxLen"], apart := false, laid := [("unicode/utf8.acceptRanges", laid_unicode_utf8_acceptRanges), ("unicode/utf8.first", laid_unicode_utf8_first)], narrowed := true }
def FnColourJoinUptoSaid : Prop := fnColourJoinUptoRow.holds Tryd.pinned (OpenSpec.upto fnColourJoinSpec)

/-- 'laws.FnColourStates', WHERE WHAT IT READS IS OF BULK AT MOST 1048576: true; the input reads as it did. -/
def fnColourStatesUptoRow : OpenClaim := { program := "ytheglgphknahdaadoor", sum := "a77a510fa47e3ff2696ac13302766c2bf0b8f402166bd2d25b65e884e213c781", func := "loop.example/texteditor/laws.FnColourStates", spec := "fnColourStates", inPlace := ["internal/bytealg.CountString", "internal/bytealg.IndexByteString", "internal/bytealg.IndexString", "internal/abi.NoEscape"], named := ["unicode/utf8.first", "unicode/utf8.acceptRanges", "internal/bytealg.MaxLen"], apart := false, laid := [("unicode/utf8.acceptRanges", laid_unicode_utf8_acceptRanges), ("unicode/utf8.first", laid_unicode_utf8_first)], narrowed := true }
def FnColourStatesUptoSaid : Prop := fnColourStatesUptoRow.holds Tryd.pinned (OpenSpec.upto fnColourStatesSpec)

/-- 'laws.FnColourText', WHERE WHAT IT READS IS OF BULK AT MOST 1048576: true; the input reads as it did. -/
def fnColourTextUptoRow : OpenClaim := { program := "ytheglgphknahdaadoor", sum := "a77a510fa47e3ff2696ac13302766c2bf0b8f402166bd2d25b65e884e213c781", func := "loop.example/texteditor/laws.FnColourText", spec := "fnColourText", inPlace := ["internal/bytealg.CountString", "internal/bytealg.IndexByteString", "internal/bytealg.IndexString", "internal/abi.NoEscape"], named := ["unicode/utf8.first", "unicode/utf8.acceptRanges", "internal/bytealg.MaxLen"], apart := false, laid := [("unicode/utf8.acceptRanges", laid_unicode_utf8_acceptRanges), ("unicode/utf8.first", laid_unicode_utf8_first)], narrowed := true }
def FnColourTextUptoSaid : Prop := fnColourTextUptoRow.holds Tryd.pinned (OpenSpec.upto fnColourTextSpec)

/-- 'laws.FnExactColourAgain', WHERE WHAT IT READS IS OF BULK AT MOST 1048576: true; the input reads as it did. -/
def fnExactColourAgainUptoRow : OpenClaim := { program := "ytheglgphknahdaadoor", sum := "a77a510fa47e3ff2696ac13302766c2bf0b8f402166bd2d25b65e884e213c781", func := "loop.example/texteditor/laws.FnExactColourAgain", spec := "fnExactColourAgain", inPlace := ["internal/bytealg.CountString", "internal/bytealg.IndexByteString", "internal/bytealg.IndexString", "internal/abi.NoEscape"], named := ["unicode/utf8.first", "unicode/utf8.acceptRanges", "internal/bytealg.MaxLen"], apart := false, laid := [("unicode/utf8.acceptRanges", laid_unicode_utf8_acceptRanges), ("unicode/utf8.first", laid_unicode_utf8_first)], narrowed := true }
def FnExactColourAgainUptoSaid : Prop := fnExactColourAgainUptoRow.holds Tryd.pinned (OpenSpec.upto fnExactColourAgainSpec)

/-- 'laws.FnColourAgain', WHERE WHAT IT READS IS OF BULK AT MOST 1048576: true; the input reads as it did. -/
def fnColourAgainUptoRow : OpenClaim := { program := "ytheglgphknahdaadoor", sum := "a77a510fa47e3ff2696ac13302766c2bf0b8f402166bd2d25b65e884e213c781", func := "loop.example/texteditor/laws.FnColourAgain", spec := "fnColourAgain", inPlace := ["internal/bytealg.CountString", "internal/bytealg.IndexByteString", "internal/bytealg.IndexString", "internal/abi.NoEscape"], named := ["unicode/utf8.first", "unicode/utf8.acceptRanges", "internal/bytealg.MaxLen"], apart := false, laid := [("unicode/utf8.acceptRanges", laid_unicode_utf8_acceptRanges), ("unicode/utf8.first", laid_unicode_utf8_first)], narrowed := true }
def FnColourAgainUptoSaid : Prop := fnColourAgainUptoRow.holds Tryd.pinned (OpenSpec.upto fnColourAgainSpec)

end Rows
end Go.Proofs.YtheglgphknahdaaDoor
