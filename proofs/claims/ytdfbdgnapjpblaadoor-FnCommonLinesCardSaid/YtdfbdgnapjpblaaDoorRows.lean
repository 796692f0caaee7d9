/-
  NARROWER THAN 'FOR EVERY INPUT', by the rows' own cells (each row's printed sentence says how): FnExactCommonLines: laid · FnCommonLines: laid · FnExactDiffLines: laid · FnExactApplyHunks: laid · FnDiffLines: laid · FnExactReverseHunks: laid · FnApplyHunks: laid · FnDiffBack: laid · FnReverseHunks: laid.
  DERIVED. THE GIVEN ROWS OF THIS SEAT. 9 by the template 'for every input the law returns true; each argument reads behind the call as it read before'; 0 by the template 'total and deterministic' (their statements: YtdfbdgnapjpblaaDoorTotals.lean).
  GIVEN WITH THE SEED: the statements are not yours to turn. If you find one false, say at which input.
  Laid BY PROGRAM, IN A SANDBOX (cutbox-rows.mjs): the forced cells as the released guide's own fill.sh prints them over the translation 21ae2546ece9d22a… (all of the seat's roots in one cut). By AI agents, Wed Nov 11 2026. No macro, syntax, notation, axiom, sorry.
-/
import Derived.Test.YtdfbdgnapjpblaaDoorChecked
import GoSem.PinnedTables
import GoSem.Claim
import GoSem.ClaimJoined
import GoSem.ClaimMapViews
import Derived.JoinedTies
import Derived.KernelRfl
namespace Go.Proofs.YtdfbdgnapjpblaaDoor
/- THE CELL 'sum', in the pinned program and in every row, IS THE sha256 OF THE DUMP (.gsa) THAT YtdfbdgnapjpblaaDoorProg.lean LOADS. Nothing in Lean hashes anything: it is a label: what it is worth is what the hold of that sum in a sandbox is worth. -/
noncomputable def Tryd.pinned : Pinned := { name := "ytdfbdgnapjpblaadoor", sum := "21ae2546ece9d22a4d988515665d83d2157b2034b4b52777a931e035f832aaab", checked := Tryd.checked }
namespace Rows
def none {H : Type} : Left H := { results := [], args := [] }

/- WHAT THE LISTED PACKAGE-LEVEL VARIABLES READ AS WHEN THE CALL BEGINS. Each datum BY PROGRAM (the guide's laid-datum.mjs) off the statement by which the dump's own 'gosem.cut.vars' lays the variable. In a bare row this is a premise. The card (YtdfbdgnapjpblaaDoorCards.lean) ties it to the program's text. -/
def laid_unicode_utf8_acceptRanges {H : Type} : DataW H := .agg [.agg [.lit (.int .u8 128), .lit (.int .u8 191)], .agg [.lit (.int .u8 160), .lit (.int .u8 191)], .agg [.lit (.int .u8 128), .lit (.int .u8 159)], .agg [.lit (.int .u8 144), .lit (.int .u8 191)], .agg [.lit (.int .u8 128), .lit (.int .u8 143)], .agg [.lit (.int .u8 0), .lit (.int .u8 0)], .agg [.lit (.int .u8 0), .lit (.int .u8 0)], .agg [.lit (.int .u8 0), .lit (.int .u8 0)], .agg [.lit (.int .u8 0), .lit (.int .u8 0)], .agg [.lit (.int .u8 0), .lit (.int .u8 0)], .agg [.lit (.int .u8 0), .lit (.int .u8 0)], .agg [.lit (.int .u8 0), .lit (.int .u8 0)], .agg [.lit (.int .u8 0), .lit (.int .u8 0)], .agg [.lit (.int .u8 0), .lit (.int .u8 0)], .agg [.lit (.int .u8 0), .lit (.int .u8 0)], .agg [.lit (.int .u8 0), .lit (.int .u8 0)]]
/-- One of Go's own tables, pinned by name: the form's constant. -/
def laid_unicode_utf8_first : DataW Unit := Go.Pinned.utf8First

/-- 'laws.FnExactCommonLines': WHATEVER THE INPUT: true; the input reads as it did. -/
def fnExactCommonLinesSpec : ChangeSpec := { name := "fnExactCommonLines", fn := fun _ => fun
  | [d1, d2] => { results := [.lit (.bool true)], args := [d1, d2] }
  | _ => none }
def fnExactCommonLinesRow : OpenClaim := { program := "ytdfbdgnapjpblaadoor", sum := "21ae2546ece9d22a4d988515665d83d2157b2034b4b52777a931e035f832aaab", func := "loop.example/texteditor/laws.FnExactCommonLines", spec := "fnExactCommonLines", inPlace := ["internal/bytealg.CountString", "internal/bytealg.IndexByteString", "internal/bytealg.IndexString"], named := ["unicode/utf8.first", "unicode/utf8.acceptRanges", "internal/bytealg.MaxLen"], apart := false, laid := [("unicode/utf8.acceptRanges", laid_unicode_utf8_acceptRanges), ("unicode/utf8.first", laid_unicode_utf8_first)] }
def FnExactCommonLinesSaid : Prop := fnExactCommonLinesRow.holds Tryd.pinned (OpenSpec.ofChange fnExactCommonLinesSpec)

/-- ITS FALSE NEIGHBOUR: 'it returns false'. Refute it at one input. -/
def fnExactCommonLinesWrong : ChangeSpec := { name := "fnExactCommonLines", fn := fun _ => fun
  | [d1, d2] => { results := [.lit (.bool false)], args := [d1, d2] }
  | _ => none }
def FnExactCommonLinesWrongFalsely : Prop := fnExactCommonLinesRow.holds Tryd.pinned (OpenSpec.ofChange fnExactCommonLinesWrong)

/-- 'laws.FnCommonLines': WHATEVER THE INPUT: true; the input reads as it did. -/
def fnCommonLinesSpec : ChangeSpec := { name := "fnCommonLines", fn := fun _ => fun
  | [d] => { results := [.lit (.bool true)], args := [d] }
  | _ => none }
def fnCommonLinesRow : OpenClaim := { program := "ytdfbdgnapjpblaadoor", sum := "21ae2546ece9d22a4d988515665d83d2157b2034b4b52777a931e035f832aaab", func := "loop.example/texteditor/laws.FnCommonLines", spec := "fnCommonLines", inPlace := ["internal/bytealg.CountString", "internal/bytealg.IndexByteString", "internal/bytealg.IndexString"], named := ["unicode/utf8.first", "unicode/utf8.acceptRanges", "internal/bytealg.MaxLen"], apart := false, laid := [("unicode/utf8.acceptRanges", laid_unicode_utf8_acceptRanges), ("unicode/utf8.first", laid_unicode_utf8_first)] }
def FnCommonLinesSaid : Prop := fnCommonLinesRow.holds Tryd.pinned (OpenSpec.ofChange fnCommonLinesSpec)

/-- ITS FALSE NEIGHBOUR: 'it returns false'. Refute it at one input. -/
def fnCommonLinesWrong : ChangeSpec := { name := "fnCommonLines", fn := fun _ => fun
  | [d] => { results := [.lit (.bool false)], args := [d] }
  | _ => none }
def FnCommonLinesWrongFalsely : Prop := fnCommonLinesRow.holds Tryd.pinned (OpenSpec.ofChange fnCommonLinesWrong)

/-- 'laws.FnExactDiffLines': WHATEVER THE INPUT: true; the input reads as it did. -/
def fnExactDiffLinesSpec : ChangeSpec := { name := "fnExactDiffLines", fn := fun _ => fun
  | [d1, d2] => { results := [.lit (.bool true)], args := [d1, d2] }
  | _ => none }
def fnExactDiffLinesRow : OpenClaim := { program := "ytdfbdgnapjpblaadoor", sum := "21ae2546ece9d22a4d988515665d83d2157b2034b4b52777a931e035f832aaab", func := "loop.example/texteditor/laws.FnExactDiffLines", spec := "fnExactDiffLines", inPlace := ["internal/bytealg.CountString", "internal/bytealg.IndexByteString", "internal/bytealg.IndexString"], unfollowed := true, recurses := true, named := ["unicode/utf8.first", "unicode/utf8.acceptRanges", "internal/bytealg.MaxLen"], apart := false, laid := [("unicode/utf8.acceptRanges", laid_unicode_utf8_acceptRanges), ("unicode/utf8.first", laid_unicode_utf8_first)] }
def FnExactDiffLinesSaid : Prop := fnExactDiffLinesRow.holds Tryd.pinned (OpenSpec.ofChange fnExactDiffLinesSpec)

/-- ITS FALSE NEIGHBOUR: 'it returns false'. Refute it at one input. -/
def fnExactDiffLinesWrong : ChangeSpec := { name := "fnExactDiffLines", fn := fun _ => fun
  | [d1, d2] => { results := [.lit (.bool false)], args := [d1, d2] }
  | _ => none }
def FnExactDiffLinesWrongFalsely : Prop := fnExactDiffLinesRow.holds Tryd.pinned (OpenSpec.ofChange fnExactDiffLinesWrong)

/-- 'laws.FnExactApplyHunks': WHATEVER THE INPUT: true; the input reads as it did. -/
def fnExactApplyHunksSpec : ChangeSpec := { name := "fnExactApplyHunks", fn := fun _ => fun
  | [d1, d2] => { results := [.lit (.bool true)], args := [d1, d2] }
  | _ => none }
def fnExactApplyHunksRow : OpenClaim := { program := "ytdfbdgnapjpblaadoor", sum := "21ae2546ece9d22a4d988515665d83d2157b2034b4b52777a931e035f832aaab", func := "loop.example/texteditor/laws.FnExactApplyHunks", spec := "fnExactApplyHunks", inPlace := ["internal/bytealg.CountString", "internal/bytealg.IndexByteString", "internal/bytealg.IndexString", "internal/abi.NoEscape", "internal/bytealg.MakeNoZero"], named := ["internal/bytealg.MaxLen", "unicode/utf8.first", "unicode/utf8.acceptRanges"], apart := false, laid := [("unicode/utf8.acceptRanges", laid_unicode_utf8_acceptRanges), ("unicode/utf8.first", laid_unicode_utf8_first)] }
def FnExactApplyHunksSaid : Prop := fnExactApplyHunksRow.holds Tryd.pinned (OpenSpec.ofChange fnExactApplyHunksSpec)

/-- ITS FALSE NEIGHBOUR: 'it returns false'. Refute it at one input. -/
def fnExactApplyHunksWrong : ChangeSpec := { name := "fnExactApplyHunks", fn := fun _ => fun
  | [d1, d2] => { results := [.lit (.bool false)], args := [d1, d2] }
  | _ => none }
def FnExactApplyHunksWrongFalsely : Prop := fnExactApplyHunksRow.holds Tryd.pinned (OpenSpec.ofChange fnExactApplyHunksWrong)

/-- 'laws.FnDiffLines': WHATEVER THE INPUT: true; the input reads as it did. -/
def fnDiffLinesSpec : ChangeSpec := { name := "fnDiffLines", fn := fun _ => fun
  | [d] => { results := [.lit (.bool true)], args := [d] }
  | _ => none }
def fnDiffLinesRow : OpenClaim := { program := "ytdfbdgnapjpblaadoor", sum := "21ae2546ece9d22a4d988515665d83d2157b2034b4b52777a931e035f832aaab", func := "loop.example/texteditor/laws.FnDiffLines", spec := "fnDiffLines", inPlace := ["internal/bytealg.CountString", "internal/bytealg.IndexByteString", "internal/bytealg.IndexString", "internal/abi.NoEscape", "internal/bytealg.MakeNoZero"], unfollowed := true, recurses := true, named := ["unicode/utf8.first", "unicode/utf8.acceptRanges", "internal/bytealg.MaxLen"], apart := false, laid := [("unicode/utf8.acceptRanges", laid_unicode_utf8_acceptRanges), ("unicode/utf8.first", laid_unicode_utf8_first)] }
def FnDiffLinesSaid : Prop := fnDiffLinesRow.holds Tryd.pinned (OpenSpec.ofChange fnDiffLinesSpec)

/-- ITS FALSE NEIGHBOUR: 'it returns false'. Refute it at one input. -/
def fnDiffLinesWrong : ChangeSpec := { name := "fnDiffLines", fn := fun _ => fun
  | [d] => { results := [.lit (.bool false)], args := [d] }
  | _ => none }
def FnDiffLinesWrongFalsely : Prop := fnDiffLinesRow.holds Tryd.pinned (OpenSpec.ofChange fnDiffLinesWrong)

/-- 'laws.FnExactReverseHunks': WHATEVER THE INPUT: true; the input reads as it did. -/
def fnExactReverseHunksSpec : ChangeSpec := { name := "fnExactReverseHunks", fn := fun _ => fun
  | [d1, d2] => { results := [.lit (.bool true)], args := [d1, d2] }
  | _ => none }
def fnExactReverseHunksRow : OpenClaim := { program := "ytdfbdgnapjpblaadoor", sum := "21ae2546ece9d22a4d988515665d83d2157b2034b4b52777a931e035f832aaab", func := "loop.example/texteditor/laws.FnExactReverseHunks", spec := "fnExactReverseHunks", inPlace := ["internal/bytealg.CountString", "internal/bytealg.IndexByteString", "internal/bytealg.IndexString", "internal/abi.NoEscape", "internal/bytealg.MakeNoZero"], named := ["internal/bytealg.MaxLen", "unicode/utf8.first", "unicode/utf8.acceptRanges"], apart := false, laid := [("unicode/utf8.acceptRanges", laid_unicode_utf8_acceptRanges), ("unicode/utf8.first", laid_unicode_utf8_first)] }
def FnExactReverseHunksSaid : Prop := fnExactReverseHunksRow.holds Tryd.pinned (OpenSpec.ofChange fnExactReverseHunksSpec)

/-- ITS FALSE NEIGHBOUR: 'it returns false'. Refute it at one input. -/
def fnExactReverseHunksWrong : ChangeSpec := { name := "fnExactReverseHunks", fn := fun _ => fun
  | [d1, d2] => { results := [.lit (.bool false)], args := [d1, d2] }
  | _ => none }
def FnExactReverseHunksWrongFalsely : Prop := fnExactReverseHunksRow.holds Tryd.pinned (OpenSpec.ofChange fnExactReverseHunksWrong)

/-- 'laws.FnApplyHunks': WHATEVER THE INPUT: true; the input reads as it did. -/
def fnApplyHunksSpec : ChangeSpec := { name := "fnApplyHunks", fn := fun _ => fun
  | [d] => { results := [.lit (.bool true)], args := [d] }
  | _ => none }
def fnApplyHunksRow : OpenClaim := { program := "ytdfbdgnapjpblaadoor", sum := "21ae2546ece9d22a4d988515665d83d2157b2034b4b52777a931e035f832aaab", func := "loop.example/texteditor/laws.FnApplyHunks", spec := "fnApplyHunks", inPlace := ["internal/bytealg.CountString", "internal/bytealg.IndexByteString", "internal/bytealg.IndexString", "internal/abi.NoEscape", "internal/bytealg.MakeNoZero"], named := ["internal/bytealg.MaxLen", "unicode/utf8.first", "unicode/utf8.acceptRanges"], apart := false, laid := [("unicode/utf8.acceptRanges", laid_unicode_utf8_acceptRanges), ("unicode/utf8.first", laid_unicode_utf8_first)] }
def FnApplyHunksSaid : Prop := fnApplyHunksRow.holds Tryd.pinned (OpenSpec.ofChange fnApplyHunksSpec)

/-- ITS FALSE NEIGHBOUR: 'it returns false'. Refute it at one input. -/
def fnApplyHunksWrong : ChangeSpec := { name := "fnApplyHunks", fn := fun _ => fun
  | [d] => { results := [.lit (.bool false)], args := [d] }
  | _ => none }
def FnApplyHunksWrongFalsely : Prop := fnApplyHunksRow.holds Tryd.pinned (OpenSpec.ofChange fnApplyHunksWrong)

/-- 'laws.FnDiffBack': WHATEVER THE INPUT: true; the input reads as it did. -/
def fnDiffBackSpec : ChangeSpec := { name := "fnDiffBack", fn := fun _ => fun
  | [d] => { results := [.lit (.bool true)], args := [d] }
  | _ => none }
def fnDiffBackRow : OpenClaim := { program := "ytdfbdgnapjpblaadoor", sum := "21ae2546ece9d22a4d988515665d83d2157b2034b4b52777a931e035f832aaab", func := "loop.example/texteditor/laws.FnDiffBack", spec := "fnDiffBack", inPlace := ["internal/bytealg.CountString", "internal/bytealg.IndexByteString", "internal/bytealg.IndexString", "internal/abi.NoEscape", "internal/bytealg.MakeNoZero"], unfollowed := true, recurses := true, named := ["unicode/utf8.first", "unicode/utf8.acceptRanges", "internal/bytealg.MaxLen"], apart := false, laid := [("unicode/utf8.acceptRanges", laid_unicode_utf8_acceptRanges), ("unicode/utf8.first", laid_unicode_utf8_first)] }
def FnDiffBackSaid : Prop := fnDiffBackRow.holds Tryd.pinned (OpenSpec.ofChange fnDiffBackSpec)

/-- ITS FALSE NEIGHBOUR: 'it returns false'. Refute it at one input. -/
def fnDiffBackWrong : ChangeSpec := { name := "fnDiffBack", fn := fun _ => fun
  | [d] => { results := [.lit (.bool false)], args := [d] }
  | _ => none }
def FnDiffBackWrongFalsely : Prop := fnDiffBackRow.holds Tryd.pinned (OpenSpec.ofChange fnDiffBackWrong)

/-- 'laws.FnReverseHunks': WHATEVER THE INPUT: true; the input reads as it did. -/
def fnReverseHunksSpec : ChangeSpec := { name := "fnReverseHunks", fn := fun _ => fun
  | [d] => { results := [.lit (.bool true)], args := [d] }
  | _ => none }
def fnReverseHunksRow : OpenClaim := { program := "ytdfbdgnapjpblaadoor", sum := "21ae2546ece9d22a4d988515665d83d2157b2034b4b52777a931e035f832aaab", func := "loop.example/texteditor/laws.FnReverseHunks", spec := "fnReverseHunks", inPlace := ["internal/bytealg.CountString", "internal/bytealg.IndexByteString", "internal/bytealg.IndexString", "internal/abi.NoEscape", "internal/bytealg.MakeNoZero"], named := ["internal/bytealg.MaxLen", "unicode/utf8.first", "unicode/utf8.acceptRanges"], apart := false, laid := [("unicode/utf8.acceptRanges", laid_unicode_utf8_acceptRanges), ("unicode/utf8.first", laid_unicode_utf8_first)] }
def FnReverseHunksSaid : Prop := fnReverseHunksRow.holds Tryd.pinned (OpenSpec.ofChange fnReverseHunksSpec)

/-- ITS FALSE NEIGHBOUR: 'it returns false'. Refute it at one input. -/
def fnReverseHunksWrong : ChangeSpec := { name := "fnReverseHunks", fn := fun _ => fun
  | [d] => { results := [.lit (.bool false)], args := [d] }
  | _ => none }
def FnReverseHunksWrongFalsely : Prop := fnReverseHunksRow.holds Tryd.pinned (OpenSpec.ofChange fnReverseHunksWrong)

/- THE SECOND FORM. 'bulk': how many values and letters a reading holds, each counted each time it is reached (what is shared counts as often as it is met; a slice's spare places count too). A statement '..UptoSaid' is the law's where the arguments, and the package variables that the reading takes, are together of bulk at most 1048576: NARROWER than '..Said'. Prove '..Said' where nothing that the law and all that it calls make is longer than what came in: it says more and counts as full. Else prove '..UptoSaid'. A law counts once. -/
mutual
def uptoBulk {H : Type} : DataW H → Nat
  | .lit (.string bytes) => bytes.length + 1
  | .lit _ => 1
  | .nil => 1
  | .ptr d => uptoBulk d + 1
  | .slice elems spare => uptoBulkAll elems + uptoBulkAll spare + 1
  | .agg parts => uptoBulkAll parts + 1
  | .iface _ d => uptoBulk d + 1
  | .map entries => uptoBulkEntries entries + 1
  | .held _ => 1
def uptoBulkAll {H : Type} : List (DataW H) → Nat
  | [] => 0
  | d :: r => uptoBulk d + uptoBulkAll r
def uptoBulkEntries {H : Type} : List (Lit × DataW H) → Nat
  | [] => 0
  | x :: r => uptoBulkEntry x + uptoBulkEntries r
def uptoBulkEntry {H : Type} : Lit × DataW H → Nat
  | (.string bytes, d) => bytes.length + uptoBulk d + 1
  | (_, d) => uptoBulk d + 1
 end
def uptoSmall : (H : Type) → List (DataW H) → Bool := fun _ ds => decide (uptoBulkAll ds ≤ 1048576)
def OpenSpec.upto (s : _root_.Go.ChangeSpec) : _root_.Go.OpenSpec := { _root_.Go.OpenSpec.ofChange s with cond := some uptoSmall }

/-- 'laws.FnExactCommonLines', WHERE WHAT IT READS IS OF BULK AT MOST 1048576: true; the input reads as it did. -/
def fnExactCommonLinesUptoRow : OpenClaim := { program := "ytdfbdgnapjpblaadoor", sum := "21ae2546ece9d22a4d988515665d83d2157b2034b4b52777a931e035f832aaab", func := "loop.example/texteditor/laws.FnExactCommonLines", spec := "fnExactCommonLines", inPlace := ["internal/bytealg.CountString", "internal/bytealg.IndexByteString", "internal/bytealg.IndexString"], named := ["unicode/utf8.first", "unicode/utf8.acceptRanges", "internal/bytealg.MaxLen"], apart := false, laid := [("unicode/utf8.acceptRanges", laid_unicode_utf8_acceptRanges), ("unicode/utf8.first", laid_unicode_utf8_first)], narrowed := true }
def FnExactCommonLinesUptoSaid : Prop := fnExactCommonLinesUptoRow.holds Tryd.pinned (OpenSpec.upto fnExactCommonLinesSpec)

/-- 'laws.FnCommonLines', WHERE WHAT IT READS IS OF BULK AT MOST 1048576: true; the input reads as it did. -/
def fnCommonLinesUptoRow : OpenClaim := { program := "ytdfbdgnapjpblaadoor", sum := "21ae2546ece9d22a4d988515665d83d2157b2034b4b52777a931e035f832aaab", func := "loop.example/texteditor/laws.FnCommonLines", spec := "fnCommonLines", inPlace := ["internal/bytealg.CountString", "internal/bytealg.IndexByteString", "internal/bytealg.IndexString"], named := ["unicode/utf8.first", "unicode/utf8.acceptRanges", "internal/bytealg.MaxLen"], apart := false, laid := [("unicode/utf8.acceptRanges", laid_unicode_utf8_acceptRanges), ("unicode/utf8.first", laid_unicode_utf8_first)], narrowed := true }
def FnCommonLinesUptoSaid : Prop := fnCommonLinesUptoRow.holds Tryd.pinned (OpenSpec.upto fnCommonLinesSpec)

/-- 'laws.FnExactDiffLines', WHERE WHAT IT READS IS OF BULK AT MOST 1048576: true; the input reads as it did. -/
def fnExactDiffLinesUptoRow : OpenClaim := { program := "ytdfbdgnapjpblaadoor", sum := "21ae2546ece9d22a4d988515665d83d2157b2034b4b52777a931e035f832aaab", func := "loop.example/texteditor/laws.FnExactDiffLines", spec := "fnExactDiffLines", inPlace := ["internal/bytealg.CountString", "internal/bytealg.IndexByteString", "internal/bytealg.IndexString"], unfollowed := true, recurses := true, named := ["unicode/utf8.first", "unicode/utf8.acceptRanges", "internal/bytealg.MaxLen"], apart := false, laid := [("unicode/utf8.acceptRanges", laid_unicode_utf8_acceptRanges), ("unicode/utf8.first", laid_unicode_utf8_first)], narrowed := true }
def FnExactDiffLinesUptoSaid : Prop := fnExactDiffLinesUptoRow.holds Tryd.pinned (OpenSpec.upto fnExactDiffLinesSpec)

/-- 'laws.FnExactApplyHunks', WHERE WHAT IT READS IS OF BULK AT MOST 1048576: true; the input reads as it did. -/
def fnExactApplyHunksUptoRow : OpenClaim := { program := "ytdfbdgnapjpblaadoor", sum := "21ae2546ece9d22a4d988515665d83d2157b2034b4b52777a931e035f832aaab", func := "loop.example/texteditor/laws.FnExactApplyHunks", spec := "fnExactApplyHunks", inPlace := ["internal/bytealg.CountString", "internal/bytealg.IndexByteString", "internal/bytealg.IndexString", "internal/abi.NoEscape", "internal/bytealg.MakeNoZero"], named := ["internal/bytealg.MaxLen", "unicode/utf8.first", "unicode/utf8.acceptRanges"], apart := false, laid := [("unicode/utf8.acceptRanges", laid_unicode_utf8_acceptRanges), ("unicode/utf8.first", laid_unicode_utf8_first)], narrowed := true }
def FnExactApplyHunksUptoSaid : Prop := fnExactApplyHunksUptoRow.holds Tryd.pinned (OpenSpec.upto fnExactApplyHunksSpec)

/-- 'laws.FnDiffLines', WHERE WHAT IT READS IS OF BULK AT MOST 1048576: true; the input reads as it did. -/
def fnDiffLinesUptoRow : OpenClaim := { program := "ytdfbdgnapjpblaadoor", sum := "21ae2546ece9d22a4d988515665d83d2157b2034b4b52777a931e035f832aaab", func := "loop.example/texteditor/laws.FnDiffLines", spec := "fnDiffLines", inPlace := ["internal/bytealg.CountString", "internal/bytealg.IndexByteString", "internal/bytealg.IndexString", "internal/abi.NoEscape", "internal/bytealg.MakeNoZero"], unfollowed := true, recurses := true, named := ["unicode/utf8.first", "unicode/utf8.acceptRanges", "internal/bytealg.MaxLen"], apart := false, laid := [("unicode/utf8.acceptRanges", laid_unicode_utf8_acceptRanges), ("unicode/utf8.first", laid_unicode_utf8_first)], narrowed := true }
def FnDiffLinesUptoSaid : Prop := fnDiffLinesUptoRow.holds Tryd.pinned (OpenSpec.upto fnDiffLinesSpec)

/-- 'laws.FnExactReverseHunks', WHERE WHAT IT READS IS OF BULK AT MOST 1048576: true; the input reads as it did. -/
def fnExactReverseHunksUptoRow : OpenClaim := { program := "ytdfbdgnapjpblaadoor", sum := "21ae2546ece9d22a4d988515665d83d2157b2034b4b52777a931e035f832aaab", func := "loop.example/texteditor/laws.FnExactReverseHunks", spec := "fnExactReverseHunks", inPlace := ["internal/bytealg.CountString", "internal/bytealg.IndexByteString", "internal/bytealg.IndexString", "internal/abi.NoEscape", "internal/bytealg.MakeNoZero"], named := ["internal/bytealg.MaxLen", "unicode/utf8.first", "unicode/utf8.acceptRanges"], apart := false, laid := [("unicode/utf8.acceptRanges", laid_unicode_utf8_acceptRanges), ("unicode/utf8.first", laid_unicode_utf8_first)], narrowed := true }
def FnExactReverseHunksUptoSaid : Prop := fnExactReverseHunksUptoRow.holds Tryd.pinned (OpenSpec.upto fnExactReverseHunksSpec)

/-- 'laws.FnApplyHunks', WHERE WHAT IT READS IS OF BULK AT MOST 1048576: true; the input reads as it did. -/
def fnApplyHunksUptoRow : OpenClaim := { program := "ytdfbdgnapjpblaadoor", sum := "21ae2546ece9d22a4d988515665d83d2157b2034b4b52777a931e035f832aaab", func := "loop.example/texteditor/laws.FnApplyHunks", spec := "fnApplyHunks", inPlace := ["internal/bytealg.CountString", "internal/bytealg.IndexByteString", "internal/bytealg.IndexString", "internal/abi.NoEscape", "internal/bytealg.MakeNoZero"], named := ["internal/bytealg.MaxLen", "unicode/utf8.first", "unicode/utf8.acceptRanges"], apart := false, laid := [("unicode/utf8.acceptRanges", laid_unicode_utf8_acceptRanges), ("unicode/utf8.first", laid_unicode_utf8_first)], narrowed := true }
def FnApplyHunksUptoSaid : Prop := fnApplyHunksUptoRow.holds Tryd.pinned (OpenSpec.upto fnApplyHunksSpec)

/-- 'laws.FnDiffBack', WHERE WHAT IT READS IS OF BULK AT MOST 1048576: true; the input reads as it did. -/
def fnDiffBackUptoRow : OpenClaim := { program := "ytdfbdgnapjpblaadoor", sum := "21ae2546ece9d22a4d988515665d83d2157b2034b4b52777a931e035f832aaab", func := "loop.example/texteditor/laws.FnDiffBack", spec := "fnDiffBack", inPlace := ["internal/bytealg.CountString", "internal/bytealg.IndexByteString", "internal/bytealg.IndexString", "internal/abi.NoEscape", "internal/bytealg.MakeNoZero"], unfollowed := true, recurses := true, named := ["unicode/utf8.first", "unicode/utf8.acceptRanges", "internal/bytealg.MaxLen"], apart := false, laid := [("unicode/utf8.acceptRanges", laid_unicode_utf8_acceptRanges), ("unicode/utf8.first", laid_unicode_utf8_first)], narrowed := true }
def FnDiffBackUptoSaid : Prop := fnDiffBackUptoRow.holds Tryd.pinned (OpenSpec.upto fnDiffBackSpec)

/-- 'laws.FnReverseHunks', WHERE WHAT IT READS IS OF BULK AT MOST 1048576: true; the input reads as it did. -/
def fnReverseHunksUptoRow : OpenClaim := { program := "ytdfbdgnapjpblaadoor", sum := "21ae2546ece9d22a4d988515665d83d2157b2034b4b52777a931e035f832aaab", func := "loop.example/texteditor/laws.FnReverseHunks", spec := "fnReverseHunks", inPlace := ["internal/bytealg.CountString", "internal/bytealg.IndexByteString", "internal/bytealg.IndexString", "internal/abi.NoEscape", "internal/bytealg.MakeNoZero"], named := ["internal/bytealg.MaxLen", "unicode/utf8.first", "unicode/utf8.acceptRanges"], apart := false, laid := [("unicode/utf8.acceptRanges", laid_unicode_utf8_acceptRanges), ("unicode/utf8.first", laid_unicode_utf8_first)], narrowed := true }
def FnReverseHunksUptoSaid : Prop := fnReverseHunksUptoRow.holds Tryd.pinned (OpenSpec.upto fnReverseHunksSpec)

end Rows
end Go.Proofs.YtdfbdgnapjpblaaDoor
