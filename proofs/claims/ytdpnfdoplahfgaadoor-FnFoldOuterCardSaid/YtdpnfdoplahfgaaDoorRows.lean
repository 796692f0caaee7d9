/-
  NARROWER THAN 'FOR EVERY INPUT', by the rows' own cells (each row's printed sentence says how): FnExactIndentOf: laid · FnExactFoldEnd: laid · FnExactFoldAround: laid · FnIndentOf: laid · FnExactVisibleLines: laid · FnFoldEnd: laid · FnFoldOuter: laid · FnFoldAround: laid · FnVisibleLines: laid.
  DERIVED. THE GIVEN ROWS OF THIS SEAT. 9 by the template 'for every input the law returns true; each argument reads behind the call as it read before'; 0 by the template 'total and deterministic' (their statements: YtdpnfdoplahfgaaDoorTotals.lean).
  GIVEN WITH THE SEED: the statements are not yours to turn. If you find one false, say at which input.
  Laid BY PROGRAM, IN A SANDBOX (cutbox-rows.mjs): the forced cells as the released guide's own fill.sh prints them over the translation e1b978f630720e7c… (all of the seat's roots in one cut). By AI agents, Wed Nov 11 2026. No macro, syntax, notation, axiom, sorry.
-/
import Derived.Test.YtdpnfdoplahfgaaDoorChecked
import GoSem.PinnedTables
import GoSem.Claim
import GoSem.ClaimJoined
import GoSem.ClaimMapViews
import Derived.JoinedTies
import Derived.KernelRfl
namespace Go.Proofs.YtdpnfdoplahfgaaDoor
/- THE CELL 'sum', in the pinned program and in every row, IS THE sha256 OF THE DUMP (.gsa) THAT YtdpnfdoplahfgaaDoorProg.lean LOADS. Nothing in Lean hashes anything: it is a label: what it is worth is what the hold of that sum in a sandbox is worth. -/
noncomputable def Tryd.pinned : Pinned := { name := "ytdpnfdoplahfgaadoor", sum := "e1b978f630720e7cc43c0df3d3835080ff7c34be2ad3eaab02937b090873a4a1", checked := Tryd.checked }
namespace Rows
def none {H : Type} : Left H := { results := [], args := [] }

/- WHAT THE LISTED PACKAGE-LEVEL VARIABLES READ AS WHEN THE CALL BEGINS. Each datum BY PROGRAM (the guide's laid-datum.mjs) off the statement by which the dump's own 'gosem.cut.vars' lays the variable. In a bare row this is a premise. The card (YtdpnfdoplahfgaaDoorCards.lean) ties it to the program's text. -/
def laid_unicode_utf8_acceptRanges {H : Type} : DataW H := .agg [.agg [.lit (.int .u8 128), .lit (.int .u8 191)], .agg [.lit (.int .u8 160), .lit (.int .u8 191)], .agg [.lit (.int .u8 128), .lit (.int .u8 159)], .agg [.lit (.int .u8 144), .lit (.int .u8 191)], .agg [.lit (.int .u8 128), .lit (.int .u8 143)], .agg [.lit (.int .u8 0), .lit (.int .u8 0)], .agg [.lit (.int .u8 0), .lit (.int .u8 0)], .agg [.lit (.int .u8 0), .lit (.int .u8 0)], .agg [.lit (.int .u8 0), .lit (.int .u8 0)], .agg [.lit (.int .u8 0), .lit (.int .u8 0)], .agg [.lit (.int .u8 0), .lit (.int .u8 0)], .agg [.lit (.int .u8 0), .lit (.int .u8 0)], .agg [.lit (.int .u8 0), .lit (.int .u8 0)], .agg [.lit (.int .u8 0), .lit (.int .u8 0)], .agg [.lit (.int .u8 0), .lit (.int .u8 0)], .agg [.lit (.int .u8 0), .lit (.int .u8 0)]]
/-- One of Go's own tables, pinned by name: the form's constant. -/
def laid_unicode_utf8_first : DataW Unit := Go.Pinned.utf8First

/-- 'laws.FnExactIndentOf': WHATEVER THE INPUT: true; the input reads as it did. -/
def fnExactIndentOfSpec : ChangeSpec := { name := "fnExactIndentOf", fn := fun _ => fun
  | [d1, d2] => { results := [.lit (.bool true)], args := [d1, d2] }
  | _ => none }
def fnExactIndentOfRow : OpenClaim := { program := "ytdpnfdoplahfgaadoor", sum := "e1b978f630720e7cc43c0df3d3835080ff7c34be2ad3eaab02937b090873a4a1", func := "loop.example/texteditor/laws.FnExactIndentOf", spec := "fnExactIndentOf", inPlace := ["internal/bytealg.CountString", "internal/bytealg.IndexByteString", "internal/bytealg.IndexString"], named := ["internal/bytealg.MaxLen", "unicode/utf8.first", "unicode/utf8.acceptRanges"], apart := false, laid := [("unicode/utf8.acceptRanges", laid_unicode_utf8_acceptRanges), ("unicode/utf8.first", laid_unicode_utf8_first)] }
def FnExactIndentOfSaid : Prop := fnExactIndentOfRow.holds Tryd.pinned (OpenSpec.ofChange fnExactIndentOfSpec)

/-- ITS FALSE NEIGHBOUR: 'it returns false'. Refute it at one input. -/
def fnExactIndentOfWrong : ChangeSpec := { name := "fnExactIndentOf", fn := fun _ => fun
  | [d1, d2] => { results := [.lit (.bool false)], args := [d1, d2] }
  | _ => none }
def FnExactIndentOfWrongFalsely : Prop := fnExactIndentOfRow.holds Tryd.pinned (OpenSpec.ofChange fnExactIndentOfWrong)

/-- 'laws.FnExactFoldEnd': WHATEVER THE INPUT: true; the input reads as it did. -/
def fnExactFoldEndSpec : ChangeSpec := { name := "fnExactFoldEnd", fn := fun _ => fun
  | [d1, d2] => { results := [.lit (.bool true)], args := [d1, d2] }
  | _ => none }
def fnExactFoldEndRow : OpenClaim := { program := "ytdpnfdoplahfgaadoor", sum := "e1b978f630720e7cc43c0df3d3835080ff7c34be2ad3eaab02937b090873a4a1", func := "loop.example/texteditor/laws.FnExactFoldEnd", spec := "fnExactFoldEnd", inPlace := ["internal/bytealg.CountString", "internal/bytealg.IndexByteString", "internal/bytealg.IndexString"], named := ["internal/bytealg.MaxLen", "unicode/utf8.first", "unicode/utf8.acceptRanges"], apart := false, laid := [("unicode/utf8.acceptRanges", laid_unicode_utf8_acceptRanges), ("unicode/utf8.first", laid_unicode_utf8_first)] }
def FnExactFoldEndSaid : Prop := fnExactFoldEndRow.holds Tryd.pinned (OpenSpec.ofChange fnExactFoldEndSpec)

/-- ITS FALSE NEIGHBOUR: 'it returns false'. Refute it at one input. -/
def fnExactFoldEndWrong : ChangeSpec := { name := "fnExactFoldEnd", fn := fun _ => fun
  | [d1, d2] => { results := [.lit (.bool false)], args := [d1, d2] }
  | _ => none }
def FnExactFoldEndWrongFalsely : Prop := fnExactFoldEndRow.holds Tryd.pinned (OpenSpec.ofChange fnExactFoldEndWrong)

/-- 'laws.FnExactFoldAround': WHATEVER THE INPUT: true; the input reads as it did. -/
def fnExactFoldAroundSpec : ChangeSpec := { name := "fnExactFoldAround", fn := fun _ => fun
  | [d1, d2] => { results := [.lit (.bool true)], args := [d1, d2] }
  | _ => none }
def fnExactFoldAroundRow : OpenClaim := { program := "ytdpnfdoplahfgaadoor", sum := "e1b978f630720e7cc43c0df3d3835080ff7c34be2ad3eaab02937b090873a4a1", func := "loop.example/texteditor/laws.FnExactFoldAround", spec := "fnExactFoldAround", inPlace := ["internal/bytealg.CountString", "internal/bytealg.IndexByteString", "internal/bytealg.IndexString"], named := ["internal/bytealg.MaxLen", "unicode/utf8.first", "unicode/utf8.acceptRanges"], apart := false, laid := [("unicode/utf8.acceptRanges", laid_unicode_utf8_acceptRanges), ("unicode/utf8.first", laid_unicode_utf8_first)] }
def FnExactFoldAroundSaid : Prop := fnExactFoldAroundRow.holds Tryd.pinned (OpenSpec.ofChange fnExactFoldAroundSpec)

/-- ITS FALSE NEIGHBOUR: 'it returns false'. Refute it at one input. -/
def fnExactFoldAroundWrong : ChangeSpec := { name := "fnExactFoldAround", fn := fun _ => fun
  | [d1, d2] => { results := [.lit (.bool false)], args := [d1, d2] }
  | _ => none }
def FnExactFoldAroundWrongFalsely : Prop := fnExactFoldAroundRow.holds Tryd.pinned (OpenSpec.ofChange fnExactFoldAroundWrong)

/-- 'laws.FnIndentOf': WHATEVER THE INPUT: true; the input reads as it did. -/
def fnIndentOfSpec : ChangeSpec := { name := "fnIndentOf", fn := fun _ => fun
  | [d] => { results := [.lit (.bool true)], args := [d] }
  | _ => none }
def fnIndentOfRow : OpenClaim := { program := "ytdpnfdoplahfgaadoor", sum := "e1b978f630720e7cc43c0df3d3835080ff7c34be2ad3eaab02937b090873a4a1", func := "loop.example/texteditor/laws.FnIndentOf", spec := "fnIndentOf", inPlace := ["internal/bytealg.CountString", "internal/bytealg.IndexByteString", "internal/bytealg.IndexString"], named := ["internal/bytealg.MaxLen", "unicode/utf8.first", "unicode/utf8.acceptRanges"], apart := false, laid := [("unicode/utf8.acceptRanges", laid_unicode_utf8_acceptRanges), ("unicode/utf8.first", laid_unicode_utf8_first)] }
def FnIndentOfSaid : Prop := fnIndentOfRow.holds Tryd.pinned (OpenSpec.ofChange fnIndentOfSpec)

/-- ITS FALSE NEIGHBOUR: 'it returns false'. Refute it at one input. -/
def fnIndentOfWrong : ChangeSpec := { name := "fnIndentOf", fn := fun _ => fun
  | [d] => { results := [.lit (.bool false)], args := [d] }
  | _ => none }
def FnIndentOfWrongFalsely : Prop := fnIndentOfRow.holds Tryd.pinned (OpenSpec.ofChange fnIndentOfWrong)

/-- 'laws.FnExactVisibleLines': WHATEVER THE INPUT: true; the input reads as it did. -/
def fnExactVisibleLinesSpec : ChangeSpec := { name := "fnExactVisibleLines", fn := fun _ => fun
  | [d1, d2] => { results := [.lit (.bool true)], args := [d1, d2] }
  | _ => none }
def fnExactVisibleLinesRow : OpenClaim := { program := "ytdpnfdoplahfgaadoor", sum := "e1b978f630720e7cc43c0df3d3835080ff7c34be2ad3eaab02937b090873a4a1", func := "loop.example/texteditor/laws.FnExactVisibleLines", spec := "fnExactVisibleLines", inPlace := ["internal/bytealg.CountString", "internal/bytealg.IndexByteString", "internal/bytealg.IndexString"], named := ["unicode/utf8.first", "unicode/utf8.acceptRanges", "internal/bytealg.MaxLen"], apart := false, laid := [("unicode/utf8.acceptRanges", laid_unicode_utf8_acceptRanges), ("unicode/utf8.first", laid_unicode_utf8_first)] }
def FnExactVisibleLinesSaid : Prop := fnExactVisibleLinesRow.holds Tryd.pinned (OpenSpec.ofChange fnExactVisibleLinesSpec)

/-- ITS FALSE NEIGHBOUR: 'it returns false'. Refute it at one input. -/
def fnExactVisibleLinesWrong : ChangeSpec := { name := "fnExactVisibleLines", fn := fun _ => fun
  | [d1, d2] => { results := [.lit (.bool false)], args := [d1, d2] }
  | _ => none }
def FnExactVisibleLinesWrongFalsely : Prop := fnExactVisibleLinesRow.holds Tryd.pinned (OpenSpec.ofChange fnExactVisibleLinesWrong)

/-- 'laws.FnFoldEnd': WHATEVER THE INPUT: true; the input reads as it did. -/
def fnFoldEndSpec : ChangeSpec := { name := "fnFoldEnd", fn := fun _ => fun
  | [d] => { results := [.lit (.bool true)], args := [d] }
  | _ => none }
def fnFoldEndRow : OpenClaim := { program := "ytdpnfdoplahfgaadoor", sum := "e1b978f630720e7cc43c0df3d3835080ff7c34be2ad3eaab02937b090873a4a1", func := "loop.example/texteditor/laws.FnFoldEnd", spec := "fnFoldEnd", inPlace := ["internal/bytealg.CountString", "internal/bytealg.IndexByteString", "internal/bytealg.IndexString"], named := ["internal/bytealg.MaxLen", "unicode/utf8.first", "unicode/utf8.acceptRanges"], apart := false, laid := [("unicode/utf8.acceptRanges", laid_unicode_utf8_acceptRanges), ("unicode/utf8.first", laid_unicode_utf8_first)] }
def FnFoldEndSaid : Prop := fnFoldEndRow.holds Tryd.pinned (OpenSpec.ofChange fnFoldEndSpec)

/-- ITS FALSE NEIGHBOUR: 'it returns false'. Refute it at one input. -/
def fnFoldEndWrong : ChangeSpec := { name := "fnFoldEnd", fn := fun _ => fun
  | [d] => { results := [.lit (.bool false)], args := [d] }
  | _ => none }
def FnFoldEndWrongFalsely : Prop := fnFoldEndRow.holds Tryd.pinned (OpenSpec.ofChange fnFoldEndWrong)

/-- 'laws.FnFoldOuter': WHATEVER THE INPUT: true; the input reads as it did. -/
def fnFoldOuterSpec : ChangeSpec := { name := "fnFoldOuter", fn := fun _ => fun
  | [d] => { results := [.lit (.bool true)], args := [d] }
  | _ => none }
def fnFoldOuterRow : OpenClaim := { program := "ytdpnfdoplahfgaadoor", sum := "e1b978f630720e7cc43c0df3d3835080ff7c34be2ad3eaab02937b090873a4a1", func := "loop.example/texteditor/laws.FnFoldOuter", spec := "fnFoldOuter", inPlace := ["internal/bytealg.CountString", "internal/bytealg.IndexByteString", "internal/bytealg.IndexString"], named := ["internal/bytealg.MaxLen", "unicode/utf8.first", "unicode/utf8.acceptRanges"], apart := false, laid := [("unicode/utf8.acceptRanges", laid_unicode_utf8_acceptRanges), ("unicode/utf8.first", laid_unicode_utf8_first)] }
def FnFoldOuterSaid : Prop := fnFoldOuterRow.holds Tryd.pinned (OpenSpec.ofChange fnFoldOuterSpec)

/-- ITS FALSE NEIGHBOUR: 'it returns false'. Refute it at one input. -/
def fnFoldOuterWrong : ChangeSpec := { name := "fnFoldOuter", fn := fun _ => fun
  | [d] => { results := [.lit (.bool false)], args := [d] }
  | _ => none }
def FnFoldOuterWrongFalsely : Prop := fnFoldOuterRow.holds Tryd.pinned (OpenSpec.ofChange fnFoldOuterWrong)

/-- 'laws.FnFoldAround': WHATEVER THE INPUT: true; the input reads as it did. -/
def fnFoldAroundSpec : ChangeSpec := { name := "fnFoldAround", fn := fun _ => fun
  | [d] => { results := [.lit (.bool true)], args := [d] }
  | _ => none }
def fnFoldAroundRow : OpenClaim := { program := "ytdpnfdoplahfgaadoor", sum := "e1b978f630720e7cc43c0df3d3835080ff7c34be2ad3eaab02937b090873a4a1", func := "loop.example/texteditor/laws.FnFoldAround", spec := "fnFoldAround", inPlace := ["internal/bytealg.CountString", "internal/bytealg.IndexByteString", "internal/bytealg.IndexString"], named := ["internal/bytealg.MaxLen", "unicode/utf8.first", "unicode/utf8.acceptRanges"], apart := false, laid := [("unicode/utf8.acceptRanges", laid_unicode_utf8_acceptRanges), ("unicode/utf8.first", laid_unicode_utf8_first)] }
def FnFoldAroundSaid : Prop := fnFoldAroundRow.holds Tryd.pinned (OpenSpec.ofChange fnFoldAroundSpec)

/-- ITS FALSE NEIGHBOUR: 'it returns false'. Refute it at one input. -/
def fnFoldAroundWrong : ChangeSpec := { name := "fnFoldAround", fn := fun _ => fun
  | [d] => { results := [.lit (.bool false)], args := [d] }
  | _ => none }
def FnFoldAroundWrongFalsely : Prop := fnFoldAroundRow.holds Tryd.pinned (OpenSpec.ofChange fnFoldAroundWrong)

/-- 'laws.FnVisibleLines': WHATEVER THE INPUT: true; the input reads as it did. -/
def fnVisibleLinesSpec : ChangeSpec := { name := "fnVisibleLines", fn := fun _ => fun
  | [d1, d2] => { results := [.lit (.bool true)], args := [d1, d2] }
  | _ => none }
def fnVisibleLinesRow : OpenClaim := { program := "ytdpnfdoplahfgaadoor", sum := "e1b978f630720e7cc43c0df3d3835080ff7c34be2ad3eaab02937b090873a4a1", func := "loop.example/texteditor/laws.FnVisibleLines", spec := "fnVisibleLines", inPlace := ["internal/bytealg.CountString", "internal/bytealg.IndexByteString", "internal/bytealg.IndexString"], named := ["unicode/utf8.first", "unicode/utf8.acceptRanges", "internal/bytealg.MaxLen"], apart := false, laid := [("unicode/utf8.acceptRanges", laid_unicode_utf8_acceptRanges), ("unicode/utf8.first", laid_unicode_utf8_first)] }
def FnVisibleLinesSaid : Prop := fnVisibleLinesRow.holds Tryd.pinned (OpenSpec.ofChange fnVisibleLinesSpec)

/-- ITS FALSE NEIGHBOUR: 'it returns false'. Refute it at one input. -/
def fnVisibleLinesWrong : ChangeSpec := { name := "fnVisibleLines", fn := fun _ => fun
  | [d1, d2] => { results := [.lit (.bool false)], args := [d1, d2] }
  | _ => none }
def FnVisibleLinesWrongFalsely : Prop := fnVisibleLinesRow.holds Tryd.pinned (OpenSpec.ofChange fnVisibleLinesWrong)

/- THE SECOND FORM. 'bulk': how many values and letters a reading holds, each counted each time it is reached (what is shared counts as often as it is met; a slice's spare places count too). A statement '..UptoSaid' is the law's where the arguments, and the package variables that the reading takes, are together of bulk at most 1048576: NARROWER than '..Said'. Prove '..Said' where nothing that the law and all that it calls make is longer than what came in: it says more and counts as full. Else prove '..UptoSaid'. A law counts once. -/
mutual
def uptoBulk {H : Type} : DataW H → Nat
  | .lit (.string bytes) => bytes.length + 1
  | .lit _ => 1
  | .nil => 1
  | .ptr d => uptoBulk d + 1
  | .slice elems spare => uptoBulkAll elems + uptoBulkAll spare + 1
  | .agg parts => uptoBulkAll parts + 1
  | .iface _ d => uptoBulk d + 1
  | .map entries => uptoBulkEntries entries + 1
  | .held _ => 1
def uptoBulkAll {H : Type} : List (DataW H) → Nat
  | [] => 0
  | d :: r => uptoBulk d + uptoBulkAll r
def uptoBulkEntries {H : Type} : List (Lit × DataW H) → Nat
  | [] => 0
  | x :: r => uptoBulkEntry x + uptoBulkEntries r
def uptoBulkEntry {H : Type} : Lit × DataW H → Nat
  | (.string bytes, d) => bytes.length + uptoBulk d + 1
  | (_, d) => uptoBulk d + 1
 end
def uptoSmall : (H : Type) → List (DataW H) → Bool := fun _ ds => decide (uptoBulkAll ds ≤ 1048576)
def OpenSpec.upto (s : _root_.Go.ChangeSpec) : _root_.Go.OpenSpec := { _root_.Go.OpenSpec.ofChange s with cond := some uptoSmall }

/-- 'laws.FnExactIndentOf', WHERE WHAT IT READS IS OF BULK AT MOST 1048576: true; the input reads as it did. -/
def fnExactIndentOfUptoRow : OpenClaim := { program := "ytdpnfdoplahfgaadoor", sum := "e1b978f630720e7cc43c0df3d3835080ff7c34be2ad3eaab02937b090873a4a1", func := "loop.example/texteditor/laws.FnExactIndentOf", spec := "fnExactIndentOf", inPlace := ["internal/bytealg.CountString", "internal/bytealg.IndexByteString", "internal/bytealg.IndexString"], named := ["internal/bytealg.MaxLen", "unicode/utf8.first", "unicode/utf8.acceptRanges"], apart := false, laid := [("unicode/utf8.acceptRanges", laid_unicode_utf8_acceptRanges), ("unicode/utf8.first", laid_unicode_utf8_first)], narrowed := true }
def FnExactIndentOfUptoSaid : Prop := fnExactIndentOfUptoRow.holds Tryd.pinned (OpenSpec.upto fnExactIndentOfSpec)

/-- 'laws.FnExactFoldEnd', WHERE WHAT IT READS IS OF BULK AT MOST 1048576: true; the input reads as it did. -/
def fnExactFoldEndUptoRow : OpenClaim := { program := "ytdpnfdoplahfgaadoor", sum := "e1b978f630720e7cc43c0df3d3835080ff7c34be2ad3eaab02937b090873a4a1", func := "loop.example/texteditor/laws.FnExactFoldEnd", spec := "fnExactFoldEnd", inPlace := ["internal/bytealg.CountString", "internal/bytealg.IndexByteString", "internal/bytealg.IndexString"], named := ["internal/bytealg.MaxLen", "unicode/utf8.first", "unicode/utf8.acceptRanges"], apart := false, laid := [("unicode/utf8.acceptRanges", laid_unicode_utf8_acceptRanges), ("unicode/utf8.first", laid_unicode_utf8_first)], narrowed := true }
def FnExactFoldEndUptoSaid : Prop := fnExactFoldEndUptoRow.holds Tryd.pinned (OpenSpec.upto fnExactFoldEndSpec)

/-- 'laws.FnExactFoldAround', WHERE WHAT IT READS IS OF BULK AT MOST 1048576: true; the input reads as it did. -/
def fnExactFoldAroundUptoRow : OpenClaim := { program := "ytdpnfdoplahfgaadoor", sum := "e1b978f630720e7cc43c0df3d3835080ff7c34be2ad3eaab02937b090873a4a1", func := "loop.example/texteditor/laws.FnExactFoldAround", spec := "fnExactFoldAround", inPlace := ["internal/bytealg.CountString", "internal/bytealg.IndexByteString", "internal/bytealg.IndexString"], named := ["internal/bytealg.MaxLen", "unicode/utf8.first", "unicode/utf8.acceptRanges"], apart := false, laid := [("unicode/utf8.acceptRanges", laid_unicode_utf8_acceptRanges), ("unicode/utf8.first", laid_unicode_utf8_first)], narrowed := true }
def FnExactFoldAroundUptoSaid : Prop := fnExactFoldAroundUptoRow.holds Tryd.pinned (OpenSpec.upto fnExactFoldAroundSpec)

/-- 'laws.FnIndentOf', WHERE WHAT IT READS IS OF BULK AT MOST 1048576: true; the input reads as it did. -/
def fnIndentOfUptoRow : OpenClaim := { program := "ytdpnfdoplahfgaadoor", sum := "e1b978f630720e7cc43c0df3d3835080ff7c34be2ad3eaab02937b090873a4a1", func := "loop.example/texteditor/laws.FnIndentOf", spec := "fnIndentOf", inPlace := ["internal/bytealg.CountString", "internal/bytealg.IndexByteString", "internal/bytealg.IndexString"], named := ["internal/bytealg.MaxLen", "unicode/utf8.first", "unicode/utf8.acceptRanges"], apart := false, laid := [("unicode/utf8.acceptRanges", laid_unicode_utf8_acceptRanges), ("unicode/utf8.first", laid_unicode_utf8_first)], narrowed := true }
def FnIndentOfUptoSaid : Prop := fnIndentOfUptoRow.holds Tryd.pinned (OpenSpec.upto fnIndentOfSpec)

/-- 'laws.FnExactVisibleLines', WHERE WHAT IT READS IS OF BULK AT MOST 1048576: true; the input reads as it did. -/
def fnExactVisibleLinesUptoRow : OpenClaim := { program := "ytdpnfdoplahfgaadoor", sum := "e1b978f630720e7cc43c0df3d3835080ff7c34be2ad3eaab02937b090873a4a1", func := "loop.example/texteditor/laws.FnExactVisibleLines", spec := "fnExactVisibleLines", inPlace := ["internal/bytealg.CountString", "internal/bytealg.IndexByteString", "internal/bytealg.IndexString"], named := ["unicode/utf8.first", "unicode/utf8.acceptRanges", "internal/bytealg.MaxLen"], apart := false, laid := [("unicode/utf8.acceptRanges", laid_unicode_utf8_acceptRanges), ("unicode/utf8.first", laid_unicode_utf8_first)], narrowed := true }
def FnExactVisibleLinesUptoSaid : Prop := fnExactVisibleLinesUptoRow.holds Tryd.pinned (OpenSpec.upto fnExactVisibleLinesSpec)

/-- 'laws.FnFoldEnd', WHERE WHAT IT READS IS OF BULK AT MOST 1048576: true; the input reads as it did. -/
def fnFoldEndUptoRow : OpenClaim := { program := "ytdpnfdoplahfgaadoor", sum := "e1b978f630720e7cc43c0df3d3835080ff7c34be2ad3eaab02937b090873a4a1", func := "loop.example/texteditor/laws.FnFoldEnd", spec := "fnFoldEnd", inPlace := ["internal/bytealg.CountString", "internal/bytealg.IndexByteString", "internal/bytealg.IndexString"], named := ["internal/bytealg.MaxLen", "unicode/utf8.first", "unicode/utf8.acceptRanges"], apart := false, laid := [("unicode/utf8.acceptRanges", laid_unicode_utf8_acceptRanges), ("unicode/utf8.first", laid_unicode_utf8_first)], narrowed := true }
def FnFoldEndUptoSaid : Prop := fnFoldEndUptoRow.holds Tryd.pinned (OpenSpec.upto fnFoldEndSpec)

/-- 'laws.FnFoldOuter', WHERE WHAT IT READS IS OF BULK AT MOST 1048576: true; the input reads as it did. -/
def fnFoldOuterUptoRow : OpenClaim := { program := "ytdpnfdoplahfgaadoor", sum := "e1b978f630720e7cc43c0df3d3835080ff7c34be2ad3eaab02937b090873a4a1", func := "loop.example/texteditor/laws.FnFoldOuter", spec := "fnFoldOuter", inPlace := ["internal/bytealg.CountString", "internal/bytealg.IndexByteString", "internal/bytealg.IndexString"], named := ["internal/bytealg.MaxLen", "unicode/utf8.first", "unicode/utf8.acceptRanges"], apart := false, laid := [("unicode/utf8.acceptRanges", laid_unicode_utf8_acceptRanges), ("unicode/utf8.first", laid_unicode_utf8_first)], narrowed := true }
def FnFoldOuterUptoSaid : Prop := fnFoldOuterUptoRow.holds Tryd.pinned (OpenSpec.upto fnFoldOuterSpec)

/-- 'laws.FnFoldAround', WHERE WHAT IT READS IS OF BULK AT MOST 1048576: true; the input reads as it did. -/
def fnFoldAroundUptoRow : OpenClaim := { program := "ytdpnfdoplahfgaadoor", sum := "e1b978f630720e7cc43c0df3d3835080ff7c34be2ad3eaab02937b090873a4a1", func := "loop.example/texteditor/laws.FnFoldAround", spec := "fnFoldAround", inPlace := ["internal/bytealg.CountString", "internal/bytealg.IndexByteString", "internal/bytealg.IndexString"], named := ["internal/bytealg.MaxLen", "unicode/utf8.first", "unicode/utf8.acceptRanges"], apart := false, laid := [("unicode/utf8.acceptRanges", laid_unicode_utf8_acceptRanges), ("unicode/utf8.first", laid_unicode_utf8_first)], narrowed := true }
def FnFoldAroundUptoSaid : Prop := fnFoldAroundUptoRow.holds Tryd.pinned (OpenSpec.upto fnFoldAroundSpec)

/-- 'laws.FnVisibleLines', WHERE WHAT IT READS IS OF BULK AT MOST 1048576: true; the input reads as it did. -/
def fnVisibleLinesUptoRow : OpenClaim := { program := "ytdpnfdoplahfgaadoor", sum := "e1b978f630720e7cc43c0df3d3835080ff7c34be2ad3eaab02937b090873a4a1", func := "loop.example/texteditor/laws.FnVisibleLines", spec := "fnVisibleLines", inPlace := ["internal/bytealg.CountString", "internal/bytealg.IndexByteString", "internal/bytealg.IndexString"], named := ["unicode/utf8.first", "unicode/utf8.acceptRanges", "internal/bytealg.MaxLen"], apart := false, laid := [("unicode/utf8.acceptRanges", laid_unicode_utf8_acceptRanges), ("unicode/utf8.first", laid_unicode_utf8_first)], narrowed := true }
def FnVisibleLinesUptoSaid : Prop := fnVisibleLinesUptoRow.holds Tryd.pinned (OpenSpec.upto fnVisibleLinesSpec)

end Rows
end Go.Proofs.YtdpnfdoplahfgaaDoor
