/-
  DERIVED. GIVEN WITH THE SEED: THE CARDS: each row of YtdfbdgnapjpblaaDoorRows.lean that lists a variable, with what it lists TIED to the program's text (the seventh form; the later family's looks); each row that meets fmt, with fmt's text TOLD by the authors' own Lean function (tested against real Go, not proved from fmt's source: count such statements apart). THE CARD IS WHAT COUNTS. Prove the row's statement (the work); the ties are given (YtdfbdgnapjpblaaDoorTie.lean); close each card by the builder's one call (the guide's Derived/Test/ToyasCard.lean, 'card_holds'). Laid BY PROGRAM, IN A SANDBOX (cutbox-door.mjs). By AI agents, Wed Nov 11 2026. No macro, syntax, notation, axiom, sorry.
-/
import Derived.Test.YtdfbdgnapjpblaaDoorRows
import GoSem.ClaimSeven
namespace Go.Proofs.YtdfbdgnapjpblaaDoor
namespace Rows

/-- THE TIED CARD OF 'laws.FnExactCommonLines'. -/
def fnExactCommonLinesCard : Claim7 := { stood := { row := fnExactCommonLinesRow, standIns := [], harness := (true, "b79cc0b1235bbb80a7302759c974e864d9d2a15691cd8442df65de63b90a4d86"), looks := false }, kinds := [], alts := [], laidByText := true, laidKinds := [.data, .pinned], laidTests := true, laidLooks := .later }
def FnExactCommonLinesCardSaid : Prop := Claim7.holds Tryd.pinned (.plain (OpenSpec.ofChange fnExactCommonLinesSpec)) fnExactCommonLinesCard

/-- THE TIED CARD OF 'laws.FnCommonLines'. -/
def fnCommonLinesCard : Claim7 := { stood := { row := fnCommonLinesRow, standIns := [], harness := (true, "b79cc0b1235bbb80a7302759c974e864d9d2a15691cd8442df65de63b90a4d86"), looks := false }, kinds := [], alts := [], laidByText := true, laidKinds := [.data, .pinned], laidTests := true, laidLooks := .later }
def FnCommonLinesCardSaid : Prop := Claim7.holds Tryd.pinned (.plain (OpenSpec.ofChange fnCommonLinesSpec)) fnCommonLinesCard

/-- THE TIED CARD OF 'laws.FnExactDiffLines'. -/
def fnExactDiffLinesCard : Claim7 := { stood := { row := fnExactDiffLinesRow, standIns := [], harness := (true, "b79cc0b1235bbb80a7302759c974e864d9d2a15691cd8442df65de63b90a4d86"), looks := false }, kinds := [], alts := [], laidByText := true, laidKinds := [.data, .pinned], laidTests := true, laidLooks := .later }
def FnExactDiffLinesCardSaid : Prop := Claim7.holds Tryd.pinned (.plain (OpenSpec.ofChange fnExactDiffLinesSpec)) fnExactDiffLinesCard

/-- THE TIED CARD OF 'laws.FnExactApplyHunks'. -/
def fnExactApplyHunksCard : Claim7 := { stood := { row := fnExactApplyHunksRow, standIns := [], harness := (true, "b79cc0b1235bbb80a7302759c974e864d9d2a15691cd8442df65de63b90a4d86"), looks := false }, kinds := [], alts := [], laidByText := true, laidKinds := [.data, .pinned], laidTests := true, laidLooks := .later }
def FnExactApplyHunksCardSaid : Prop := Claim7.holds Tryd.pinned (.plain (OpenSpec.ofChange fnExactApplyHunksSpec)) fnExactApplyHunksCard

/-- THE TIED CARD OF 'laws.FnDiffLines'. -/
def fnDiffLinesCard : Claim7 := { stood := { row := fnDiffLinesRow, standIns := [], harness := (true, "b79cc0b1235bbb80a7302759c974e864d9d2a15691cd8442df65de63b90a4d86"), looks := false }, kinds := [], alts := [], laidByText := true, laidKinds := [.data, .pinned], laidTests := true, laidLooks := .later }
def FnDiffLinesCardSaid : Prop := Claim7.holds Tryd.pinned (.plain (OpenSpec.ofChange fnDiffLinesSpec)) fnDiffLinesCard

/-- THE TIED CARD OF 'laws.FnExactReverseHunks'. -/
def fnExactReverseHunksCard : Claim7 := { stood := { row := fnExactReverseHunksRow, standIns := [], harness := (true, "b79cc0b1235bbb80a7302759c974e864d9d2a15691cd8442df65de63b90a4d86"), looks := false }, kinds := [], alts := [], laidByText := true, laidKinds := [.data, .pinned], laidTests := true, laidLooks := .later }
def FnExactReverseHunksCardSaid : Prop := Claim7.holds Tryd.pinned (.plain (OpenSpec.ofChange fnExactReverseHunksSpec)) fnExactReverseHunksCard

/-- THE TIED CARD OF 'laws.FnApplyHunks'. -/
def fnApplyHunksCard : Claim7 := { stood := { row := fnApplyHunksRow, standIns := [], harness := (true, "b79cc0b1235bbb80a7302759c974e864d9d2a15691cd8442df65de63b90a4d86"), looks := false }, kinds := [], alts := [], laidByText := true, laidKinds := [.data, .pinned], laidTests := true, laidLooks := .later }
def FnApplyHunksCardSaid : Prop := Claim7.holds Tryd.pinned (.plain (OpenSpec.ofChange fnApplyHunksSpec)) fnApplyHunksCard

/-- THE TIED CARD OF 'laws.FnDiffBack'. -/
def fnDiffBackCard : Claim7 := { stood := { row := fnDiffBackRow, standIns := [], harness := (true, "b79cc0b1235bbb80a7302759c974e864d9d2a15691cd8442df65de63b90a4d86"), looks := false }, kinds := [], alts := [], laidByText := true, laidKinds := [.data, .pinned], laidTests := true, laidLooks := .later }
def FnDiffBackCardSaid : Prop := Claim7.holds Tryd.pinned (.plain (OpenSpec.ofChange fnDiffBackSpec)) fnDiffBackCard

/-- THE TIED CARD OF 'laws.FnReverseHunks'. -/
def fnReverseHunksCard : Claim7 := { stood := { row := fnReverseHunksRow, standIns := [], harness := (true, "b79cc0b1235bbb80a7302759c974e864d9d2a15691cd8442df65de63b90a4d86"), looks := false }, kinds := [], alts := [], laidByText := true, laidKinds := [.data, .pinned], laidTests := true, laidLooks := .later }
def FnReverseHunksCardSaid : Prop := Claim7.holds Tryd.pinned (.plain (OpenSpec.ofChange fnReverseHunksSpec)) fnReverseHunksCard

/-- THE SECOND FORM's CARD OF 'laws.FnExactCommonLines'. -/
def fnExactCommonLinesUptoCard : Claim7 := { stood := { row := fnExactCommonLinesUptoRow, standIns := [], harness := (true, "b79cc0b1235bbb80a7302759c974e864d9d2a15691cd8442df65de63b90a4d86"), looks := false }, kinds := [], alts := [], laidByText := true, laidKinds := [.data, .pinned], laidTests := true, laidLooks := .later }
def FnExactCommonLinesUptoCardSaid : Prop := Claim7.holds Tryd.pinned (.plain (OpenSpec.upto fnExactCommonLinesSpec)) fnExactCommonLinesUptoCard

/-- THE SECOND FORM's CARD OF 'laws.FnCommonLines'. -/
def fnCommonLinesUptoCard : Claim7 := { stood := { row := fnCommonLinesUptoRow, standIns := [], harness := (true, "b79cc0b1235bbb80a7302759c974e864d9d2a15691cd8442df65de63b90a4d86"), looks := false }, kinds := [], alts := [], laidByText := true, laidKinds := [.data, .pinned], laidTests := true, laidLooks := .later }
def FnCommonLinesUptoCardSaid : Prop := Claim7.holds Tryd.pinned (.plain (OpenSpec.upto fnCommonLinesSpec)) fnCommonLinesUptoCard

/-- THE SECOND FORM's CARD OF 'laws.FnExactDiffLines'. -/
def fnExactDiffLinesUptoCard : Claim7 := { stood := { row := fnExactDiffLinesUptoRow, standIns := [], harness := (true, "b79cc0b1235bbb80a7302759c974e864d9d2a15691cd8442df65de63b90a4d86"), looks := false }, kinds := [], alts := [], laidByText := true, laidKinds := [.data, .pinned], laidTests := true, laidLooks := .later }
def FnExactDiffLinesUptoCardSaid : Prop := Claim7.holds Tryd.pinned (.plain (OpenSpec.upto fnExactDiffLinesSpec)) fnExactDiffLinesUptoCard

/-- THE SECOND FORM's CARD OF 'laws.FnExactApplyHunks'. -/
def fnExactApplyHunksUptoCard : Claim7 := { stood := { row := fnExactApplyHunksUptoRow, standIns := [], harness := (true, "b79cc0b1235bbb80a7302759c974e864d9d2a15691cd8442df65de63b90a4d86"), looks := false }, kinds := [], alts := [], laidByText := true, laidKinds := [.data, .pinned], laidTests := true, laidLooks := .later }
def FnExactApplyHunksUptoCardSaid : Prop := Claim7.holds Tryd.pinned (.plain (OpenSpec.upto fnExactApplyHunksSpec)) fnExactApplyHunksUptoCard

/-- THE SECOND FORM's CARD OF 'laws.FnDiffLines'. -/
def fnDiffLinesUptoCard : Claim7 := { stood := { row := fnDiffLinesUptoRow, standIns := [], harness := (true, "b79cc0b1235bbb80a7302759c974e864d9d2a15691cd8442df65de63b90a4d86"), looks := false }, kinds := [], alts := [], laidByText := true, laidKinds := [.data, .pinned], laidTests := true, laidLooks := .later }
def FnDiffLinesUptoCardSaid : Prop := Claim7.holds Tryd.pinned (.plain (OpenSpec.upto fnDiffLinesSpec)) fnDiffLinesUptoCard

/-- THE SECOND FORM's CARD OF 'laws.FnExactReverseHunks'. -/
def fnExactReverseHunksUptoCard : Claim7 := { stood := { row := fnExactReverseHunksUptoRow, standIns := [], harness := (true, "b79cc0b1235bbb80a7302759c974e864d9d2a15691cd8442df65de63b90a4d86"), looks := false }, kinds := [], alts := [], laidByText := true, laidKinds := [.data, .pinned], laidTests := true, laidLooks := .later }
def FnExactReverseHunksUptoCardSaid : Prop := Claim7.holds Tryd.pinned (.plain (OpenSpec.upto fnExactReverseHunksSpec)) fnExactReverseHunksUptoCard

/-- THE SECOND FORM's CARD OF 'laws.FnApplyHunks'. -/
def fnApplyHunksUptoCard : Claim7 := { stood := { row := fnApplyHunksUptoRow, standIns := [], harness := (true, "b79cc0b1235bbb80a7302759c974e864d9d2a15691cd8442df65de63b90a4d86"), looks := false }, kinds := [], alts := [], laidByText := true, laidKinds := [.data, .pinned], laidTests := true, laidLooks := .later }
def FnApplyHunksUptoCardSaid : Prop := Claim7.holds Tryd.pinned (.plain (OpenSpec.upto fnApplyHunksSpec)) fnApplyHunksUptoCard

/-- THE SECOND FORM's CARD OF 'laws.FnDiffBack'. -/
def fnDiffBackUptoCard : Claim7 := { stood := { row := fnDiffBackUptoRow, standIns := [], harness := (true, "b79cc0b1235bbb80a7302759c974e864d9d2a15691cd8442df65de63b90a4d86"), looks := false }, kinds := [], alts := [], laidByText := true, laidKinds := [.data, .pinned], laidTests := true, laidLooks := .later }
def FnDiffBackUptoCardSaid : Prop := Claim7.holds Tryd.pinned (.plain (OpenSpec.upto fnDiffBackSpec)) fnDiffBackUptoCard

/-- THE SECOND FORM's CARD OF 'laws.FnReverseHunks'. -/
def fnReverseHunksUptoCard : Claim7 := { stood := { row := fnReverseHunksUptoRow, standIns := [], harness := (true, "b79cc0b1235bbb80a7302759c974e864d9d2a15691cd8442df65de63b90a4d86"), looks := false }, kinds := [], alts := [], laidByText := true, laidKinds := [.data, .pinned], laidTests := true, laidLooks := .later }
def FnReverseHunksUptoCardSaid : Prop := Claim7.holds Tryd.pinned (.plain (OpenSpec.upto fnReverseHunksSpec)) fnReverseHunksUptoCard
end Rows
end Go.Proofs.YtdfbdgnapjpblaaDoor
