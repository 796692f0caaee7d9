/-
  No cell of these rows narrows 'for every input' (looked for: loops, veiled, ifaces, maps, wideKeys, modest, calm, conditions, laid).
  DERIVED. THE GIVEN ROWS OF THIS SEAT. 12 by the template 'for every input the law returns true; each argument reads behind the call as it read before'; 0 by the template 'total and deterministic' (their statements: YtbkdfiepdnbeoaaTotals.lean).
  GIVEN WITH THE SEED: the statements are not yours to turn. If you find one false, say at which input.
  Laid BY PROGRAM, IN A SANDBOX (cutbox-rows.mjs): the forced cells as the released guide's own fill.sh prints them over the translation bca00c7ffb18dfe7… (all of the seat's roots in one cut). By AI agents, Wed Nov 11 2026. No macro, syntax, notation, axiom, sorry.
-/
import Derived.Test.YtbkdfiepdnbeoaaChecked
import GoSem.Claim
import GoSem.ClaimJoined
import GoSem.ClaimMapViews
import Derived.JoinedTies
import Derived.KernelRfl
namespace Go.Proofs.Ytbkdfiepdnbeoaa
/- THE CELL 'sum', in the pinned program and in every row, IS THE sha256 OF THE DUMP (.gsa) THAT YtbkdfiepdnbeoaaProg.lean LOADS. Nothing in Lean hashes anything: it is a label: what it is worth is what the hold of that sum in a sandbox is worth. -/
noncomputable def Try.pinned : Pinned := { name := "ytbkdfiepdnbeoaa", sum := "bca00c7ffb18dfe76883172a58c62352f8e80b3b60372b2b4c203157e167e097", checked := Try.checked }
namespace Rows
def none {H : Type} : Left H := { results := [], args := [] }

/-- 'laws.FnExactBracketFault': WHATEVER THE INPUT: true; the input reads as it did. -/
def fnExactBracketFaultSpec : ChangeSpec := { name := "fnExactBracketFault", fn := fun _ => fun
  | [d] => { results := [.lit (.bool true)], args := [d] }
  | _ => none }
def fnExactBracketFaultRow : OpenClaim := { program := "ytbkdfiepdnbeoaa", sum := "bca00c7ffb18dfe76883172a58c62352f8e80b3b60372b2b4c203157e167e097", func := "loop.example/texteditor/laws.FnExactBracketFault", spec := "fnExactBracketFault", inPlace := ["internal/bytealg.IndexByteString"], apart := false }
def FnExactBracketFaultSaid : Prop := fnExactBracketFaultRow.holds Try.pinned (OpenSpec.ofChange fnExactBracketFaultSpec)

/-- ITS FALSE NEIGHBOUR: 'it returns false'. Refute it at one input. -/
def fnExactBracketFaultWrong : ChangeSpec := { name := "fnExactBracketFault", fn := fun _ => fun
  | [d] => { results := [.lit (.bool false)], args := [d] }
  | _ => none }
def FnExactBracketFaultWrongFalsely : Prop := fnExactBracketFaultRow.holds Try.pinned (OpenSpec.ofChange fnExactBracketFaultWrong)

/-- 'laws.FnExactBracketDepth': WHATEVER THE INPUT: true; the input reads as it did. -/
def fnExactBracketDepthSpec : ChangeSpec := { name := "fnExactBracketDepth", fn := fun _ => fun
  | [d1, d2] => { results := [.lit (.bool true)], args := [d1, d2] }
  | _ => none }
def fnExactBracketDepthRow : OpenClaim := { program := "ytbkdfiepdnbeoaa", sum := "bca00c7ffb18dfe76883172a58c62352f8e80b3b60372b2b4c203157e167e097", func := "loop.example/texteditor/laws.FnExactBracketDepth", spec := "fnExactBracketDepth", inPlace := ["internal/bytealg.IndexByteString"], apart := false }
def FnExactBracketDepthSaid : Prop := fnExactBracketDepthRow.holds Try.pinned (OpenSpec.ofChange fnExactBracketDepthSpec)

/-- ITS FALSE NEIGHBOUR: 'it returns false'. Refute it at one input. -/
def fnExactBracketDepthWrong : ChangeSpec := { name := "fnExactBracketDepth", fn := fun _ => fun
  | [d1, d2] => { results := [.lit (.bool false)], args := [d1, d2] }
  | _ => none }
def FnExactBracketDepthWrongFalsely : Prop := fnExactBracketDepthRow.holds Try.pinned (OpenSpec.ofChange fnExactBracketDepthWrong)

/-- 'laws.FnExactBracketMates': WHATEVER THE INPUT: true; the input reads as it did. -/
def fnExactBracketMatesSpec : ChangeSpec := { name := "fnExactBracketMates", fn := fun _ => fun
  | [d] => { results := [.lit (.bool true)], args := [d] }
  | _ => none }
def fnExactBracketMatesRow : OpenClaim := { program := "ytbkdfiepdnbeoaa", sum := "bca00c7ffb18dfe76883172a58c62352f8e80b3b60372b2b4c203157e167e097", func := "loop.example/texteditor/laws.FnExactBracketMates", spec := "fnExactBracketMates", inPlace := ["internal/bytealg.IndexByteString"], apart := false }
def FnExactBracketMatesSaid : Prop := fnExactBracketMatesRow.holds Try.pinned (OpenSpec.ofChange fnExactBracketMatesSpec)

/-- ITS FALSE NEIGHBOUR: 'it returns false'. Refute it at one input. -/
def fnExactBracketMatesWrong : ChangeSpec := { name := "fnExactBracketMates", fn := fun _ => fun
  | [d] => { results := [.lit (.bool false)], args := [d] }
  | _ => none }
def FnExactBracketMatesWrongFalsely : Prop := fnExactBracketMatesRow.holds Try.pinned (OpenSpec.ofChange fnExactBracketMatesWrong)

/-- 'laws.FnExactBracketAround': WHATEVER THE INPUT: true; the input reads as it did. -/
def fnExactBracketAroundSpec : ChangeSpec := { name := "fnExactBracketAround", fn := fun _ => fun
  | [d1, d2] => { results := [.lit (.bool true)], args := [d1, d2] }
  | _ => none }
def fnExactBracketAroundRow : OpenClaim := { program := "ytbkdfiepdnbeoaa", sum := "bca00c7ffb18dfe76883172a58c62352f8e80b3b60372b2b4c203157e167e097", func := "loop.example/texteditor/laws.FnExactBracketAround", spec := "fnExactBracketAround", inPlace := ["internal/bytealg.IndexByteString"], apart := false }
def FnExactBracketAroundSaid : Prop := fnExactBracketAroundRow.holds Try.pinned (OpenSpec.ofChange fnExactBracketAroundSpec)

/-- ITS FALSE NEIGHBOUR: 'it returns false'. Refute it at one input. -/
def fnExactBracketAroundWrong : ChangeSpec := { name := "fnExactBracketAround", fn := fun _ => fun
  | [d1, d2] => { results := [.lit (.bool false)], args := [d1, d2] }
  | _ => none }
def FnExactBracketAroundWrongFalsely : Prop := fnExactBracketAroundRow.holds Try.pinned (OpenSpec.ofChange fnExactBracketAroundWrong)

/-- 'laws.FnBracketMates': WHATEVER THE INPUT: true; the input reads as it did. -/
def fnBracketMatesSpec : ChangeSpec := { name := "fnBracketMates", fn := fun _ => fun
  | [d] => { results := [.lit (.bool true)], args := [d] }
  | _ => none }
def fnBracketMatesRow : OpenClaim := { program := "ytbkdfiepdnbeoaa", sum := "bca00c7ffb18dfe76883172a58c62352f8e80b3b60372b2b4c203157e167e097", func := "loop.example/texteditor/laws.FnBracketMates", spec := "fnBracketMates", inPlace := ["internal/bytealg.IndexByteString", "internal/bytealg.CountString", "internal/bytealg.IndexString"], named := ["internal/bytealg.MaxLen"], apart := false }
def FnBracketMatesSaid : Prop := fnBracketMatesRow.holds Try.pinned (OpenSpec.ofChange fnBracketMatesSpec)

/-- ITS FALSE NEIGHBOUR: 'it returns false'. Refute it at one input. -/
def fnBracketMatesWrong : ChangeSpec := { name := "fnBracketMates", fn := fun _ => fun
  | [d] => { results := [.lit (.bool false)], args := [d] }
  | _ => none }
def FnBracketMatesWrongFalsely : Prop := fnBracketMatesRow.holds Try.pinned (OpenSpec.ofChange fnBracketMatesWrong)

/-- 'laws.FnBracketFault': WHATEVER THE INPUT: true; the input reads as it did. -/
def fnBracketFaultSpec : ChangeSpec := { name := "fnBracketFault", fn := fun _ => fun
  | [d] => { results := [.lit (.bool true)], args := [d] }
  | _ => none }
def fnBracketFaultRow : OpenClaim := { program := "ytbkdfiepdnbeoaa", sum := "bca00c7ffb18dfe76883172a58c62352f8e80b3b60372b2b4c203157e167e097", func := "loop.example/texteditor/laws.FnBracketFault", spec := "fnBracketFault", inPlace := ["internal/bytealg.IndexByteString", "internal/bytealg.CountString", "internal/bytealg.IndexString"], named := ["internal/bytealg.MaxLen"], apart := false }
def FnBracketFaultSaid : Prop := fnBracketFaultRow.holds Try.pinned (OpenSpec.ofChange fnBracketFaultSpec)

/-- ITS FALSE NEIGHBOUR: 'it returns false'. Refute it at one input. -/
def fnBracketFaultWrong : ChangeSpec := { name := "fnBracketFault", fn := fun _ => fun
  | [d] => { results := [.lit (.bool false)], args := [d] }
  | _ => none }
def FnBracketFaultWrongFalsely : Prop := fnBracketFaultRow.holds Try.pinned (OpenSpec.ofChange fnBracketFaultWrong)

/-- 'laws.FnBracketDepth': WHATEVER THE INPUT: true; the input reads as it did. -/
def fnBracketDepthSpec : ChangeSpec := { name := "fnBracketDepth", fn := fun _ => fun
  | [d] => { results := [.lit (.bool true)], args := [d] }
  | _ => none }
def fnBracketDepthRow : OpenClaim := { program := "ytbkdfiepdnbeoaa", sum := "bca00c7ffb18dfe76883172a58c62352f8e80b3b60372b2b4c203157e167e097", func := "loop.example/texteditor/laws.FnBracketDepth", spec := "fnBracketDepth", inPlace := ["internal/bytealg.IndexByteString", "internal/bytealg.CountString", "internal/bytealg.IndexString"], named := ["internal/bytealg.MaxLen"], apart := false }
def FnBracketDepthSaid : Prop := fnBracketDepthRow.holds Try.pinned (OpenSpec.ofChange fnBracketDepthSpec)

/-- ITS FALSE NEIGHBOUR: 'it returns false'. Refute it at one input. -/
def fnBracketDepthWrong : ChangeSpec := { name := "fnBracketDepth", fn := fun _ => fun
  | [d] => { results := [.lit (.bool false)], args := [d] }
  | _ => none }
def FnBracketDepthWrongFalsely : Prop := fnBracketDepthRow.holds Try.pinned (OpenSpec.ofChange fnBracketDepthWrong)

/-- 'laws.FnBracketDeeper': WHATEVER THE INPUT: true; the input reads as it did. -/
def fnBracketDeeperSpec : ChangeSpec := { name := "fnBracketDeeper", fn := fun _ => fun
  | [d] => { results := [.lit (.bool true)], args := [d] }
  | _ => none }
def fnBracketDeeperRow : OpenClaim := { program := "ytbkdfiepdnbeoaa", sum := "bca00c7ffb18dfe76883172a58c62352f8e80b3b60372b2b4c203157e167e097", func := "loop.example/texteditor/laws.FnBracketDeeper", spec := "fnBracketDeeper", inPlace := ["internal/bytealg.IndexByteString", "internal/bytealg.CountString", "internal/bytealg.IndexString"], named := ["internal/bytealg.MaxLen"], apart := false }
def FnBracketDeeperSaid : Prop := fnBracketDeeperRow.holds Try.pinned (OpenSpec.ofChange fnBracketDeeperSpec)

/-- ITS FALSE NEIGHBOUR: 'it returns false'. Refute it at one input. -/
def fnBracketDeeperWrong : ChangeSpec := { name := "fnBracketDeeper", fn := fun _ => fun
  | [d] => { results := [.lit (.bool false)], args := [d] }
  | _ => none }
def FnBracketDeeperWrongFalsely : Prop := fnBracketDeeperRow.holds Try.pinned (OpenSpec.ofChange fnBracketDeeperWrong)

/-- 'laws.FnBracketAround': WHATEVER THE INPUT: true; the input reads as it did. -/
def fnBracketAroundSpec : ChangeSpec := { name := "fnBracketAround", fn := fun _ => fun
  | [d] => { results := [.lit (.bool true)], args := [d] }
  | _ => none }
def fnBracketAroundRow : OpenClaim := { program := "ytbkdfiepdnbeoaa", sum := "bca00c7ffb18dfe76883172a58c62352f8e80b3b60372b2b4c203157e167e097", func := "loop.example/texteditor/laws.FnBracketAround", spec := "fnBracketAround", inPlace := ["internal/bytealg.IndexByteString", "internal/bytealg.CountString", "internal/bytealg.IndexString"], named := ["internal/bytealg.MaxLen"], apart := false }
def FnBracketAroundSaid : Prop := fnBracketAroundRow.holds Try.pinned (OpenSpec.ofChange fnBracketAroundSpec)

/-- ITS FALSE NEIGHBOUR: 'it returns false'. Refute it at one input. -/
def fnBracketAroundWrong : ChangeSpec := { name := "fnBracketAround", fn := fun _ => fun
  | [d] => { results := [.lit (.bool false)], args := [d] }
  | _ => none }
def FnBracketAroundWrongFalsely : Prop := fnBracketAroundRow.holds Try.pinned (OpenSpec.ofChange fnBracketAroundWrong)

/-- 'laws.FnExactDeskValid': WHATEVER THE INPUT: true; the input reads as it did. -/
def fnExactDeskValidSpec : ChangeSpec := { name := "fnExactDeskValid", fn := fun _ => fun
  | [d] => { results := [.lit (.bool true)], args := [d] }
  | _ => none }
def fnExactDeskValidRow : OpenClaim := { program := "ytbkdfiepdnbeoaa", sum := "bca00c7ffb18dfe76883172a58c62352f8e80b3b60372b2b4c203157e167e097", func := "loop.example/texteditor/laws.FnExactDeskValid", spec := "fnExactDeskValid", apart := false }
def FnExactDeskValidSaid : Prop := fnExactDeskValidRow.holds Try.pinned (OpenSpec.ofChange fnExactDeskValidSpec)

/-- ITS FALSE NEIGHBOUR: 'it returns false'. Refute it at one input. -/
def fnExactDeskValidWrong : ChangeSpec := { name := "fnExactDeskValid", fn := fun _ => fun
  | [d] => { results := [.lit (.bool false)], args := [d] }
  | _ => none }
def FnExactDeskValidWrongFalsely : Prop := fnExactDeskValidRow.holds Try.pinned (OpenSpec.ofChange fnExactDeskValidWrong)

/-- 'laws.FnDeskValid': WHATEVER THE INPUT: true; the input reads as it did. -/
def fnDeskValidSpec : ChangeSpec := { name := "fnDeskValid", fn := fun _ => fun
  | [d] => { results := [.lit (.bool true)], args := [d] }
  | _ => none }
def fnDeskValidRow : OpenClaim := { program := "ytbkdfiepdnbeoaa", sum := "bca00c7ffb18dfe76883172a58c62352f8e80b3b60372b2b4c203157e167e097", func := "loop.example/texteditor/laws.FnDeskValid", spec := "fnDeskValid", inPlace := ["internal/bytealg.CountString", "internal/bytealg.IndexByteString", "internal/bytealg.IndexString"], named := ["internal/bytealg.MaxLen"], apart := false }
def FnDeskValidSaid : Prop := fnDeskValidRow.holds Try.pinned (OpenSpec.ofChange fnDeskValidSpec)

/-- ITS FALSE NEIGHBOUR: 'it returns false'. Refute it at one input. -/
def fnDeskValidWrong : ChangeSpec := { name := "fnDeskValid", fn := fun _ => fun
  | [d] => { results := [.lit (.bool false)], args := [d] }
  | _ => none }
def FnDeskValidWrongFalsely : Prop := fnDeskValidRow.holds Try.pinned (OpenSpec.ofChange fnDeskValidWrong)

/-- 'laws.FnExactNameBefore': WHATEVER THE INPUT: true; the input reads as it did. -/
def fnExactNameBeforeSpec : ChangeSpec := { name := "fnExactNameBefore", fn := fun _ => fun
  | [d1, d2] => { results := [.lit (.bool true)], args := [d1, d2] }
  | _ => none }
def fnExactNameBeforeRow : OpenClaim := { program := "ytbkdfiepdnbeoaa", sum := "bca00c7ffb18dfe76883172a58c62352f8e80b3b60372b2b4c203157e167e097", func := "loop.example/texteditor/laws.FnExactNameBefore", spec := "fnExactNameBefore", apart := false }
def FnExactNameBeforeSaid : Prop := fnExactNameBeforeRow.holds Try.pinned (OpenSpec.ofChange fnExactNameBeforeSpec)

/-- ITS FALSE NEIGHBOUR: 'it returns false'. Refute it at one input. -/
def fnExactNameBeforeWrong : ChangeSpec := { name := "fnExactNameBefore", fn := fun _ => fun
  | [d1, d2] => { results := [.lit (.bool false)], args := [d1, d2] }
  | _ => none }
def FnExactNameBeforeWrongFalsely : Prop := fnExactNameBeforeRow.holds Try.pinned (OpenSpec.ofChange fnExactNameBeforeWrong)

/- THE SECOND FORM. 'bulk': how many values and letters a reading holds, each counted each time it is reached (what is shared counts as often as it is met; a slice's spare places count too). A statement '..UptoSaid' is the law's where the arguments, and the package variables that the reading takes, are together of bulk at most 1048576: NARROWER than '..Said'. Prove '..Said' where nothing that the law and all that it calls make is longer than what came in: it says more and counts as full. Else prove '..UptoSaid'. A law counts once. -/
mutual
def uptoBulk {H : Type} : DataW H → Nat
  | .lit (.string bytes) => bytes.length + 1
  | .lit _ => 1
  | .nil => 1
  | .ptr d => uptoBulk d + 1
  | .slice elems spare => uptoBulkAll elems + uptoBulkAll spare + 1
  | .agg parts => uptoBulkAll parts + 1
  | .iface _ d => uptoBulk d + 1
  | .map entries => uptoBulkEntries entries + 1
  | .held _ => 1
def uptoBulkAll {H : Type} : List (DataW H) → Nat
  | [] => 0
  | d :: r => uptoBulk d + uptoBulkAll r
def uptoBulkEntries {H : Type} : List (Lit × DataW H) → Nat
  | [] => 0
  | x :: r => uptoBulkEntry x + uptoBulkEntries r
def uptoBulkEntry {H : Type} : Lit × DataW H → Nat
  | (.string bytes, d) => bytes.length + uptoBulk d + 1
  | (_, d) => uptoBulk d + 1
 end
def uptoSmall : (H : Type) → List (DataW H) → Bool := fun _ ds => decide (uptoBulkAll ds ≤ 1048576)
def OpenSpec.upto (s : _root_.Go.ChangeSpec) : _root_.Go.OpenSpec := { _root_.Go.OpenSpec.ofChange s with cond := some uptoSmall }

/-- 'laws.FnExactBracketFault', WHERE WHAT IT READS IS OF BULK AT MOST 1048576: true; the input reads as it did. -/
def fnExactBracketFaultUptoRow : OpenClaim := { program := "ytbkdfiepdnbeoaa", sum := "bca00c7ffb18dfe76883172a58c62352f8e80b3b60372b2b4c203157e167e097", func := "loop.example/texteditor/laws.FnExactBracketFault", spec := "fnExactBracketFault", inPlace := ["internal/bytealg.IndexByteString"], apart := false, narrowed := true }
def FnExactBracketFaultUptoSaid : Prop := fnExactBracketFaultUptoRow.holds Try.pinned (OpenSpec.upto fnExactBracketFaultSpec)

/-- 'laws.FnExactBracketDepth', WHERE WHAT IT READS IS OF BULK AT MOST 1048576: true; the input reads as it did. -/
def fnExactBracketDepthUptoRow : OpenClaim := { program := "ytbkdfiepdnbeoaa", sum := "bca00c7ffb18dfe76883172a58c62352f8e80b3b60372b2b4c203157e167e097", func := "loop.example/texteditor/laws.FnExactBracketDepth", spec := "fnExactBracketDepth", inPlace := ["internal/bytealg.IndexByteString"], apart := false, narrowed := true }
def FnExactBracketDepthUptoSaid : Prop := fnExactBracketDepthUptoRow.holds Try.pinned (OpenSpec.upto fnExactBracketDepthSpec)

/-- 'laws.FnExactBracketMates', WHERE WHAT IT READS IS OF BULK AT MOST 1048576: true; the input reads as it did. -/
def fnExactBracketMatesUptoRow : OpenClaim := { program := "ytbkdfiepdnbeoaa", sum := "bca00c7ffb18dfe76883172a58c62352f8e80b3b60372b2b4c203157e167e097", func := "loop.example/texteditor/laws.FnExactBracketMates", spec := "fnExactBracketMates", inPlace := ["internal/bytealg.IndexByteString"], apart := false, narrowed := true }
def FnExactBracketMatesUptoSaid : Prop := fnExactBracketMatesUptoRow.holds Try.pinned (OpenSpec.upto fnExactBracketMatesSpec)

/-- 'laws.FnExactBracketAround', WHERE WHAT IT READS IS OF BULK AT MOST 1048576: true; the input reads as it did. -/
def fnExactBracketAroundUptoRow : OpenClaim := { program := "ytbkdfiepdnbeoaa", sum := "bca00c7ffb18dfe76883172a58c62352f8e80b3b60372b2b4c203157e167e097", func := "loop.example/texteditor/laws.FnExactBracketAround", spec := "fnExactBracketAround", inPlace := ["internal/bytealg.IndexByteString"], apart := false, narrowed := true }
def FnExactBracketAroundUptoSaid : Prop := fnExactBracketAroundUptoRow.holds Try.pinned (OpenSpec.upto fnExactBracketAroundSpec)

/-- 'laws.FnBracketMates', WHERE WHAT IT READS IS OF BULK AT MOST 1048576: true; the input reads as it did. -/
def fnBracketMatesUptoRow : OpenClaim := { program := "ytbkdfiepdnbeoaa", sum := "bca00c7ffb18dfe76883172a58c62352f8e80b3b60372b2b4c203157e167e097", func := "loop.example/texteditor/laws.FnBracketMates", spec := "fnBracketMates", inPlace := ["internal/bytealg.IndexByteString", "internal/bytealg.CountString", "internal/bytealg.IndexString"], named := ["internal/bytealg.MaxLen"], apart := false, narrowed := true }
def FnBracketMatesUptoSaid : Prop := fnBracketMatesUptoRow.holds Try.pinned (OpenSpec.upto fnBracketMatesSpec)

/-- 'laws.FnBracketFault', WHERE WHAT IT READS IS OF BULK AT MOST 1048576: true; the input reads as it did. -/
def fnBracketFaultUptoRow : OpenClaim := { program := "ytbkdfiepdnbeoaa", sum := "bca00c7ffb18dfe76883172a58c62352f8e80b3b60372b2b4c203157e167e097", func := "loop.example/texteditor/laws.FnBracketFault", spec := "fnBracketFault", inPlace := ["internal/bytealg.IndexByteString", "internal/bytealg.CountString", "internal/bytealg.IndexString"], named := ["internal/bytealg.MaxLen"], apart := false, narrowed := true }
def FnBracketFaultUptoSaid : Prop := fnBracketFaultUptoRow.holds Try.pinned (OpenSpec.upto fnBracketFaultSpec)

/-- 'laws.FnBracketDepth', WHERE WHAT IT READS IS OF BULK AT MOST 1048576: true; the input reads as it did. -/
def fnBracketDepthUptoRow : OpenClaim := { program := "ytbkdfiepdnbeoaa", sum := "bca00c7ffb18dfe76883172a58c62352f8e80b3b60372b2b4c203157e167e097", func := "loop.example/texteditor/laws.FnBracketDepth", spec := "fnBracketDepth", inPlace := ["internal/bytealg.IndexByteString", "internal/bytealg.CountString", "internal/bytealg.IndexString"], named := ["internal/bytealg.MaxLen"], apart := false, narrowed := true }
def FnBracketDepthUptoSaid : Prop := fnBracketDepthUptoRow.holds Try.pinned (OpenSpec.upto fnBracketDepthSpec)

/-- 'laws.FnBracketDeeper', WHERE WHAT IT READS IS OF BULK AT MOST 1048576: true; the input reads as it did. -/
def fnBracketDeeperUptoRow : OpenClaim := { program := "ytbkdfiepdnbeoaa", sum := "bca00c7ffb18dfe76883172a58c62352f8e80b3b60372b2b4c203157e167e097", func := "loop.example/texteditor/laws.FnBracketDeeper", spec := "fnBracketDeeper", inPlace := ["internal/bytealg.IndexByteString", "internal/bytealg.CountString", "internal/bytealg.IndexString"], named := ["internal/bytealg.MaxLen"], apart := false, narrowed := true }
def FnBracketDeeperUptoSaid : Prop := fnBracketDeeperUptoRow.holds Try.pinned (OpenSpec.upto fnBracketDeeperSpec)

/-- 'laws.FnBracketAround', WHERE WHAT IT READS IS OF BULK AT MOST 1048576: true; the input reads as it did. -/
def fnBracketAroundUptoRow : OpenClaim := { program := "ytbkdfiepdnbeoaa", sum := "bca00c7ffb18dfe76883172a58c62352f8e80b3b60372b2b4c203157e167e097", func := "loop.example/texteditor/laws.FnBracketAround", spec := "fnBracketAround", inPlace := ["internal/bytealg.IndexByteString", "internal/bytealg.CountString", "internal/bytealg.IndexString"], named := ["internal/bytealg.MaxLen"], apart := false, narrowed := true }
def FnBracketAroundUptoSaid : Prop := fnBracketAroundUptoRow.holds Try.pinned (OpenSpec.upto fnBracketAroundSpec)

/-- 'laws.FnExactDeskValid', WHERE WHAT IT READS IS OF BULK AT MOST 1048576: true; the input reads as it did. -/
def fnExactDeskValidUptoRow : OpenClaim := { program := "ytbkdfiepdnbeoaa", sum := "bca00c7ffb18dfe76883172a58c62352f8e80b3b60372b2b4c203157e167e097", func := "loop.example/texteditor/laws.FnExactDeskValid", spec := "fnExactDeskValid", apart := false, narrowed := true }
def FnExactDeskValidUptoSaid : Prop := fnExactDeskValidUptoRow.holds Try.pinned (OpenSpec.upto fnExactDeskValidSpec)

/-- 'laws.FnDeskValid', WHERE WHAT IT READS IS OF BULK AT MOST 1048576: true; the input reads as it did. -/
def fnDeskValidUptoRow : OpenClaim := { program := "ytbkdfiepdnbeoaa", sum := "bca00c7ffb18dfe76883172a58c62352f8e80b3b60372b2b4c203157e167e097", func := "loop.example/texteditor/laws.FnDeskValid", spec := "fnDeskValid", inPlace := ["internal/bytealg.CountString", "internal/bytealg.IndexByteString", "internal/bytealg.IndexString"], named := ["internal/bytealg.MaxLen"], apart := false, narrowed := true }
def FnDeskValidUptoSaid : Prop := fnDeskValidUptoRow.holds Try.pinned (OpenSpec.upto fnDeskValidSpec)

/-- 'laws.FnExactNameBefore', WHERE WHAT IT READS IS OF BULK AT MOST 1048576: true; the input reads as it did. -/
def fnExactNameBeforeUptoRow : OpenClaim := { program := "ytbkdfiepdnbeoaa", sum := "bca00c7ffb18dfe76883172a58c62352f8e80b3b60372b2b4c203157e167e097", func := "loop.example/texteditor/laws.FnExactNameBefore", spec := "fnExactNameBefore", apart := false, narrowed := true }
def FnExactNameBeforeUptoSaid : Prop := fnExactNameBeforeUptoRow.holds Try.pinned (OpenSpec.upto fnExactNameBeforeSpec)

end Rows
end Go.Proofs.Ytbkdfiepdnbeoaa
