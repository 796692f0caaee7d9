/-
  No cell of these rows narrows 'for every input' (looked for: loops, veiled, ifaces, maps, wideKeys, modest, calm, conditions, laid).
  DERIVED. THE GIVEN ROWS OF THIS SEAT. 8 by the template 'for every input the law returns true; each argument reads behind the call as it read before'; 0 by the template 'total and deterministic' (their statements: YtpaijbpenjjmkaaTotals.lean).
  GIVEN WITH THE SEED: the statements are not yours to turn. If you find one false, say at which input.
  Laid BY PROGRAM, IN A SANDBOX (cutbox-rows.mjs): the forced cells as the released guide's own fill.sh prints them over the translation 2fefedb7f9843c1a… (all of the seat's roots in one cut). By AI agents, Wed Nov 11 2026. No macro, syntax, notation, axiom, sorry.
-/
import Derived.Test.YtpaijbpenjjmkaaChecked
import GoSem.Claim
import GoSem.ClaimJoined
import GoSem.ClaimMapViews
import Derived.JoinedTies
import Derived.KernelRfl
namespace Go.Proofs.Ytpaijbpenjjmkaa
/- THE CELL 'sum', in the pinned program and in every row, IS THE sha256 OF THE DUMP (.gsa) THAT YtpaijbpenjjmkaaProg.lean LOADS. Nothing in Lean hashes anything: it is a label: what it is worth is what the hold of that sum in a sandbox is worth. -/
noncomputable def Try.pinned : Pinned := { name := "ytpaijbpenjjmkaa", sum := "2fefedb7f9843c1a49ec51a7a43369f6d42c242598bdefa0c0b325574e4b3277", checked := Try.checked }
namespace Rows
def none {H : Type} : Left H := { results := [], args := [] }

/-- 'laws.FnNameBefore': WHATEVER THE INPUT: true; the input reads as it did. -/
def fnNameBeforeSpec : ChangeSpec := { name := "fnNameBefore", fn := fun _ => fun
  | [d] => { results := [.lit (.bool true)], args := [d] }
  | _ => none }
def fnNameBeforeRow : OpenClaim := { program := "ytpaijbpenjjmkaa", sum := "2fefedb7f9843c1a49ec51a7a43369f6d42c242598bdefa0c0b325574e4b3277", func := "loop.example/texteditor/laws.FnNameBefore", spec := "fnNameBefore", inPlace := ["internal/bytealg.CountString", "internal/bytealg.IndexByteString", "internal/bytealg.IndexString"], named := ["internal/bytealg.MaxLen"], apart := false }
def FnNameBeforeSaid : Prop := fnNameBeforeRow.holds Try.pinned (OpenSpec.ofChange fnNameBeforeSpec)

/-- ITS FALSE NEIGHBOUR: 'it returns false'. Refute it at one input. -/
def fnNameBeforeWrong : ChangeSpec := { name := "fnNameBefore", fn := fun _ => fun
  | [d] => { results := [.lit (.bool false)], args := [d] }
  | _ => none }
def FnNameBeforeWrongFalsely : Prop := fnNameBeforeRow.holds Try.pinned (OpenSpec.ofChange fnNameBeforeWrong)

/-- 'laws.FnExactNamesOf': WHATEVER THE INPUT: true; the input reads as it did. -/
def fnExactNamesOfSpec : ChangeSpec := { name := "fnExactNamesOf", fn := fun _ => fun
  | [d] => { results := [.lit (.bool true)], args := [d] }
  | _ => none }
def fnExactNamesOfRow : OpenClaim := { program := "ytpaijbpenjjmkaa", sum := "2fefedb7f9843c1a49ec51a7a43369f6d42c242598bdefa0c0b325574e4b3277", func := "loop.example/texteditor/laws.FnExactNamesOf", spec := "fnExactNamesOf", unfollowed := true, recurses := true, apart := false }
def FnExactNamesOfSaid : Prop := fnExactNamesOfRow.holds Try.pinned (OpenSpec.ofChange fnExactNamesOfSpec)

/-- ITS FALSE NEIGHBOUR: 'it returns false'. Refute it at one input. -/
def fnExactNamesOfWrong : ChangeSpec := { name := "fnExactNamesOf", fn := fun _ => fun
  | [d] => { results := [.lit (.bool false)], args := [d] }
  | _ => none }
def FnExactNamesOfWrongFalsely : Prop := fnExactNamesOfRow.holds Try.pinned (OpenSpec.ofChange fnExactNamesOfWrong)

/-- 'laws.FnExactCompletions': WHATEVER THE INPUT: true; the input reads as it did. -/
def fnExactCompletionsSpec : ChangeSpec := { name := "fnExactCompletions", fn := fun _ => fun
  | [d1, d2] => { results := [.lit (.bool true)], args := [d1, d2] }
  | _ => none }
def fnExactCompletionsRow : OpenClaim := { program := "ytpaijbpenjjmkaa", sum := "2fefedb7f9843c1a49ec51a7a43369f6d42c242598bdefa0c0b325574e4b3277", func := "loop.example/texteditor/laws.FnExactCompletions", spec := "fnExactCompletions", unfollowed := true, recurses := true, apart := false }
def FnExactCompletionsSaid : Prop := fnExactCompletionsRow.holds Try.pinned (OpenSpec.ofChange fnExactCompletionsSpec)

/-- ITS FALSE NEIGHBOUR: 'it returns false'. Refute it at one input. -/
def fnExactCompletionsWrong : ChangeSpec := { name := "fnExactCompletions", fn := fun _ => fun
  | [d1, d2] => { results := [.lit (.bool false)], args := [d1, d2] }
  | _ => none }
def FnExactCompletionsWrongFalsely : Prop := fnExactCompletionsRow.holds Try.pinned (OpenSpec.ofChange fnExactCompletionsWrong)

/-- 'laws.FnExactCompleteAt': WHATEVER THE INPUT: true; the input reads as it did. -/
def fnExactCompleteAtSpec : ChangeSpec := { name := "fnExactCompleteAt", fn := fun _ => fun
  | [d1, d2, d3] => { results := [.lit (.bool true)], args := [d1, d2, d3] }
  | _ => none }
def fnExactCompleteAtRow : OpenClaim := { program := "ytpaijbpenjjmkaa", sum := "2fefedb7f9843c1a49ec51a7a43369f6d42c242598bdefa0c0b325574e4b3277", func := "loop.example/texteditor/laws.FnExactCompleteAt", spec := "fnExactCompleteAt", unfollowed := true, recurses := true, apart := false }
def FnExactCompleteAtSaid : Prop := fnExactCompleteAtRow.holds Try.pinned (OpenSpec.ofChange fnExactCompleteAtSpec)

/-- ITS FALSE NEIGHBOUR: 'it returns false'. Refute it at one input. -/
def fnExactCompleteAtWrong : ChangeSpec := { name := "fnExactCompleteAt", fn := fun _ => fun
  | [d1, d2, d3] => { results := [.lit (.bool false)], args := [d1, d2, d3] }
  | _ => none }
def FnExactCompleteAtWrongFalsely : Prop := fnExactCompleteAtRow.holds Try.pinned (OpenSpec.ofChange fnExactCompleteAtWrong)

/-- 'laws.FnNamesOf': WHATEVER THE INPUT: true; the input reads as it did. -/
def fnNamesOfSpec : ChangeSpec := { name := "fnNamesOf", fn := fun _ => fun
  | [d] => { results := [.lit (.bool true)], args := [d] }
  | _ => none }
def fnNamesOfRow : OpenClaim := { program := "ytpaijbpenjjmkaa", sum := "2fefedb7f9843c1a49ec51a7a43369f6d42c242598bdefa0c0b325574e4b3277", func := "loop.example/texteditor/laws.FnNamesOf", spec := "fnNamesOf", inPlace := ["internal/bytealg.CountString", "internal/bytealg.IndexByteString", "internal/bytealg.IndexString"], unfollowed := true, recurses := true, named := ["internal/bytealg.MaxLen"], apart := false }
def FnNamesOfSaid : Prop := fnNamesOfRow.holds Try.pinned (OpenSpec.ofChange fnNamesOfSpec)

/-- ITS FALSE NEIGHBOUR: 'it returns false'. Refute it at one input. -/
def fnNamesOfWrong : ChangeSpec := { name := "fnNamesOf", fn := fun _ => fun
  | [d] => { results := [.lit (.bool false)], args := [d] }
  | _ => none }
def FnNamesOfWrongFalsely : Prop := fnNamesOfRow.holds Try.pinned (OpenSpec.ofChange fnNamesOfWrong)

/-- 'laws.FnWordsWalk': WHATEVER THE INPUT: true; the input reads as it did. -/
def fnWordsWalkSpec : ChangeSpec := { name := "fnWordsWalk", fn := fun _ => fun
  | [d] => { results := [.lit (.bool true)], args := [d] }
  | _ => none }
def fnWordsWalkRow : OpenClaim := { program := "ytpaijbpenjjmkaa", sum := "2fefedb7f9843c1a49ec51a7a43369f6d42c242598bdefa0c0b325574e4b3277", func := "loop.example/texteditor/laws.FnWordsWalk", spec := "fnWordsWalk", inPlace := ["internal/bytealg.CountString", "internal/bytealg.IndexByteString", "internal/bytealg.IndexString"], unfollowed := true, recurses := true, named := ["internal/bytealg.MaxLen"], apart := false }
def FnWordsWalkSaid : Prop := fnWordsWalkRow.holds Try.pinned (OpenSpec.ofChange fnWordsWalkSpec)

/-- ITS FALSE NEIGHBOUR: 'it returns false'. Refute it at one input. -/
def fnWordsWalkWrong : ChangeSpec := { name := "fnWordsWalk", fn := fun _ => fun
  | [d] => { results := [.lit (.bool false)], args := [d] }
  | _ => none }
def FnWordsWalkWrongFalsely : Prop := fnWordsWalkRow.holds Try.pinned (OpenSpec.ofChange fnWordsWalkWrong)

/-- 'laws.FnCompletions': WHATEVER THE INPUT: true; the input reads as it did. -/
def fnCompletionsSpec : ChangeSpec := { name := "fnCompletions", fn := fun _ => fun
  | [d] => { results := [.lit (.bool true)], args := [d] }
  | _ => none }
def fnCompletionsRow : OpenClaim := { program := "ytpaijbpenjjmkaa", sum := "2fefedb7f9843c1a49ec51a7a43369f6d42c242598bdefa0c0b325574e4b3277", func := "loop.example/texteditor/laws.FnCompletions", spec := "fnCompletions", inPlace := ["internal/bytealg.CountString", "internal/bytealg.IndexByteString", "internal/bytealg.IndexString"], unfollowed := true, recurses := true, named := ["internal/bytealg.MaxLen"], apart := false }
def FnCompletionsSaid : Prop := fnCompletionsRow.holds Try.pinned (OpenSpec.ofChange fnCompletionsSpec)

/-- ITS FALSE NEIGHBOUR: 'it returns false'. Refute it at one input. -/
def fnCompletionsWrong : ChangeSpec := { name := "fnCompletions", fn := fun _ => fun
  | [d] => { results := [.lit (.bool false)], args := [d] }
  | _ => none }
def FnCompletionsWrongFalsely : Prop := fnCompletionsRow.holds Try.pinned (OpenSpec.ofChange fnCompletionsWrong)

/-- 'laws.FnCompleteAt': WHATEVER THE INPUT: true; the input reads as it did. -/
def fnCompleteAtSpec : ChangeSpec := { name := "fnCompleteAt", fn := fun _ => fun
  | [d] => { results := [.lit (.bool true)], args := [d] }
  | _ => none }
def fnCompleteAtRow : OpenClaim := { program := "ytpaijbpenjjmkaa", sum := "2fefedb7f9843c1a49ec51a7a43369f6d42c242598bdefa0c0b325574e4b3277", func := "loop.example/texteditor/laws.FnCompleteAt", spec := "fnCompleteAt", inPlace := ["internal/bytealg.CountString", "internal/bytealg.IndexByteString", "internal/bytealg.IndexString"], unfollowed := true, recurses := true, named := ["internal/bytealg.MaxLen"], apart := false }
def FnCompleteAtSaid : Prop := fnCompleteAtRow.holds Try.pinned (OpenSpec.ofChange fnCompleteAtSpec)

/-- ITS FALSE NEIGHBOUR: 'it returns false'. Refute it at one input. -/
def fnCompleteAtWrong : ChangeSpec := { name := "fnCompleteAt", fn := fun _ => fun
  | [d] => { results := [.lit (.bool false)], args := [d] }
  | _ => none }
def FnCompleteAtWrongFalsely : Prop := fnCompleteAtRow.holds Try.pinned (OpenSpec.ofChange fnCompleteAtWrong)

/- THE SECOND FORM. 'bulk': how many values and letters a reading holds, each counted each time it is reached (what is shared counts as often as it is met; a slice's spare places count too). A statement '..UptoSaid' is the law's where the arguments, and the package variables that the reading takes, are together of bulk at most 1048576: NARROWER than '..Said'. Prove '..Said' where nothing that the law and all that it calls make is longer than what came in: it says more and counts as full. Else prove '..UptoSaid'. A law counts once. -/
mutual
def uptoBulk {H : Type} : DataW H → Nat
  | .lit (.string bytes) => bytes.length + 1
  | .lit _ => 1
  | .nil => 1
  | .ptr d => uptoBulk d + 1
  | .slice elems spare => uptoBulkAll elems + uptoBulkAll spare + 1
  | .agg parts => uptoBulkAll parts + 1
  | .iface _ d => uptoBulk d + 1
  | .map entries => uptoBulkEntries entries + 1
  | .held _ => 1
def uptoBulkAll {H : Type} : List (DataW H) → Nat
  | [] => 0
  | d :: r => uptoBulk d + uptoBulkAll r
def uptoBulkEntries {H : Type} : List (Lit × DataW H) → Nat
  | [] => 0
  | x :: r => uptoBulkEntry x + uptoBulkEntries r
def uptoBulkEntry {H : Type} : Lit × DataW H → Nat
  | (.string bytes, d) => bytes.length + uptoBulk d + 1
  | (_, d) => uptoBulk d + 1
 end
def uptoSmall : (H : Type) → List (DataW H) → Bool := fun _ ds => decide (uptoBulkAll ds ≤ 1048576)
def OpenSpec.upto (s : _root_.Go.ChangeSpec) : _root_.Go.OpenSpec := { _root_.Go.OpenSpec.ofChange s with cond := some uptoSmall }

/-- 'laws.FnNameBefore', WHERE WHAT IT READS IS OF BULK AT MOST 1048576: true; the input reads as it did. -/
def fnNameBeforeUptoRow : OpenClaim := { program := "ytpaijbpenjjmkaa", sum := "2fefedb7f9843c1a49ec51a7a43369f6d42c242598bdefa0c0b325574e4b3277", func := "loop.example/texteditor/laws.FnNameBefore", spec := "fnNameBefore", inPlace := ["internal/bytealg.CountString", "internal/bytealg.IndexByteString", "internal/bytealg.IndexString"], named := ["internal/bytealg.MaxLen"], apart := false, narrowed := true }
def FnNameBeforeUptoSaid : Prop := fnNameBeforeUptoRow.holds Try.pinned (OpenSpec.upto fnNameBeforeSpec)

/-- 'laws.FnExactNamesOf', WHERE WHAT IT READS IS OF BULK AT MOST 1048576: true; the input reads as it did. -/
def fnExactNamesOfUptoRow : OpenClaim := { program := "ytpaijbpenjjmkaa", sum := "2fefedb7f9843c1a49ec51a7a43369f6d42c242598bdefa0c0b325574e4b3277", func := "loop.example/texteditor/laws.FnExactNamesOf", spec := "fnExactNamesOf", unfollowed := true, recurses := true, apart := false, narrowed := true }
def FnExactNamesOfUptoSaid : Prop := fnExactNamesOfUptoRow.holds Try.pinned (OpenSpec.upto fnExactNamesOfSpec)

/-- 'laws.FnExactCompletions', WHERE WHAT IT READS IS OF BULK AT MOST 1048576: true; the input reads as it did. -/
def fnExactCompletionsUptoRow : OpenClaim := { program := "ytpaijbpenjjmkaa", sum := "2fefedb7f9843c1a49ec51a7a43369f6d42c242598bdefa0c0b325574e4b3277", func := "loop.example/texteditor/laws.FnExactCompletions", spec := "fnExactCompletions", unfollowed := true, recurses := true, apart := false, narrowed := true }
def FnExactCompletionsUptoSaid : Prop := fnExactCompletionsUptoRow.holds Try.pinned (OpenSpec.upto fnExactCompletionsSpec)

/-- 'laws.FnExactCompleteAt', WHERE WHAT IT READS IS OF BULK AT MOST 1048576: true; the input reads as it did. -/
def fnExactCompleteAtUptoRow : OpenClaim := { program := "ytpaijbpenjjmkaa", sum := "2fefedb7f9843c1a49ec51a7a43369f6d42c242598bdefa0c0b325574e4b3277", func := "loop.example/texteditor/laws.FnExactCompleteAt", spec := "fnExactCompleteAt", unfollowed := true, recurses := true, apart := false, narrowed := true }
def FnExactCompleteAtUptoSaid : Prop := fnExactCompleteAtUptoRow.holds Try.pinned (OpenSpec.upto fnExactCompleteAtSpec)

/-- 'laws.FnNamesOf', WHERE WHAT IT READS IS OF BULK AT MOST 1048576: true; the input reads as it did. -/
def fnNamesOfUptoRow : OpenClaim := { program := "ytpaijbpenjjmkaa", sum := "2fefedb7f9843c1a49ec51a7a43369f6d42c242598bdefa0c0b325574e4b3277", func := "loop.example/texteditor/laws.FnNamesOf", spec := "fnNamesOf", inPlace := ["internal/bytealg.CountString", "internal/bytealg.IndexByteString", "internal/bytealg.IndexString"], unfollowed := true, recurses := true, named := ["internal/bytealg.MaxLen"], apart := false, narrowed := true }
def FnNamesOfUptoSaid : Prop := fnNamesOfUptoRow.holds Try.pinned (OpenSpec.upto fnNamesOfSpec)

/-- 'laws.FnWordsWalk', WHERE WHAT IT READS IS OF BULK AT MOST 1048576: true; the input reads as it did. -/
def fnWordsWalkUptoRow : OpenClaim := { program := "ytpaijbpenjjmkaa", sum := "2fefedb7f9843c1a49ec51a7a43369f6d42c242598bdefa0c0b325574e4b3277", func := "loop.example/texteditor/laws.FnWordsWalk", spec := "fnWordsWalk", inPlace := ["internal/bytealg.CountString", "internal/bytealg.IndexByteString", "internal/bytealg.IndexString"], unfollowed := true, recurses := true, named := ["internal/bytealg.MaxLen"], apart := false, narrowed := true }
def FnWordsWalkUptoSaid : Prop := fnWordsWalkUptoRow.holds Try.pinned (OpenSpec.upto fnWordsWalkSpec)

/-- 'laws.FnCompletions', WHERE WHAT IT READS IS OF BULK AT MOST 1048576: true; the input reads as it did. -/
def fnCompletionsUptoRow : OpenClaim := { program := "ytpaijbpenjjmkaa", sum := "2fefedb7f9843c1a49ec51a7a43369f6d42c242598bdefa0c0b325574e4b3277", func := "loop.example/texteditor/laws.FnCompletions", spec := "fnCompletions", inPlace := ["internal/bytealg.CountString", "internal/bytealg.IndexByteString", "internal/bytealg.IndexString"], unfollowed := true, recurses := true, named := ["internal/bytealg.MaxLen"], apart := false, narrowed := true }
def FnCompletionsUptoSaid : Prop := fnCompletionsUptoRow.holds Try.pinned (OpenSpec.upto fnCompletionsSpec)

/-- 'laws.FnCompleteAt', WHERE WHAT IT READS IS OF BULK AT MOST 1048576: true; the input reads as it did. -/
def fnCompleteAtUptoRow : OpenClaim := { program := "ytpaijbpenjjmkaa", sum := "2fefedb7f9843c1a49ec51a7a43369f6d42c242598bdefa0c0b325574e4b3277", func := "loop.example/texteditor/laws.FnCompleteAt", spec := "fnCompleteAt", inPlace := ["internal/bytealg.CountString", "internal/bytealg.IndexByteString", "internal/bytealg.IndexString"], unfollowed := true, recurses := true, named := ["internal/bytealg.MaxLen"], apart := false, narrowed := true }
def FnCompleteAtUptoSaid : Prop := fnCompleteAtUptoRow.holds Try.pinned (OpenSpec.upto fnCompleteAtSpec)

end Rows
end Go.Proofs.Ytpaijbpenjjmkaa
