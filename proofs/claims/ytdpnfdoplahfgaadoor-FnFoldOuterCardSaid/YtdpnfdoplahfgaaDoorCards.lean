/-
  DERIVED. GIVEN WITH THE SEED: THE CARDS: each row of YtdpnfdoplahfgaaDoorRows.lean that lists a variable, with what it lists TIED to the program's text (the seventh form; the later family's looks); each row that meets fmt, with fmt's text TOLD by the authors' own Lean function (tested against real Go, not proved from fmt's source: count such statements apart). THE CARD IS WHAT COUNTS. Prove the row's statement (the work); the ties are given (YtdpnfdoplahfgaaDoorTie.lean); close each card by the builder's one call (the guide's Derived/Test/ToyasCard.lean, 'card_holds'). Laid BY PROGRAM, IN A SANDBOX (cutbox-door.mjs). By AI agents, Wed Nov 11 2026. No macro, syntax, notation, axiom, sorry.
-/
import Derived.Test.YtdpnfdoplahfgaaDoorRows
import GoSem.ClaimSeven
namespace Go.Proofs.YtdpnfdoplahfgaaDoor
namespace Rows

/-- THE TIED CARD OF 'laws.FnExactIndentOf'. -/
def fnExactIndentOfCard : Claim7 := { stood := { row := fnExactIndentOfRow, standIns := [], harness := (true, "056ab62ba39ac34a4941e7819c85915b5aa18373dc3ff023474500bec54c493f"), looks := false }, kinds := [], alts := [], laidByText := true, laidKinds := [.data, .pinned], laidTests := true, laidLooks := .later }
def FnExactIndentOfCardSaid : Prop := Claim7.holds Tryd.pinned (.plain (OpenSpec.ofChange fnExactIndentOfSpec)) fnExactIndentOfCard

/-- THE TIED CARD OF 'laws.FnExactFoldEnd'. -/
def fnExactFoldEndCard : Claim7 := { stood := { row := fnExactFoldEndRow, standIns := [], harness := (true, "056ab62ba39ac34a4941e7819c85915b5aa18373dc3ff023474500bec54c493f"), looks := false }, kinds := [], alts := [], laidByText := true, laidKinds := [.data, .pinned], laidTests := true, laidLooks := .later }
def FnExactFoldEndCardSaid : Prop := Claim7.holds Tryd.pinned (.plain (OpenSpec.ofChange fnExactFoldEndSpec)) fnExactFoldEndCard

/-- THE TIED CARD OF 'laws.FnExactFoldAround'. -/
def fnExactFoldAroundCard : Claim7 := { stood := { row := fnExactFoldAroundRow, standIns := [], harness := (true, "056ab62ba39ac34a4941e7819c85915b5aa18373dc3ff023474500bec54c493f"), looks := false }, kinds := [], alts := [], laidByText := true, laidKinds := [.data, .pinned], laidTests := true, laidLooks := .later }
def FnExactFoldAroundCardSaid : Prop := Claim7.holds Tryd.pinned (.plain (OpenSpec.ofChange fnExactFoldAroundSpec)) fnExactFoldAroundCard

/-- THE TIED CARD OF 'laws.FnIndentOf'. -/
def fnIndentOfCard : Claim7 := { stood := { row := fnIndentOfRow, standIns := [], harness := (true, "056ab62ba39ac34a4941e7819c85915b5aa18373dc3ff023474500bec54c493f"), looks := false }, kinds := [], alts := [], laidByText := true, laidKinds := [.data, .pinned], laidTests := true, laidLooks := .later }
def FnIndentOfCardSaid : Prop := Claim7.holds Tryd.pinned (.plain (OpenSpec.ofChange fnIndentOfSpec)) fnIndentOfCard

/-- THE TIED CARD OF 'laws.FnExactVisibleLines'. -/
def fnExactVisibleLinesCard : Claim7 := { stood := { row := fnExactVisibleLinesRow, standIns := [], harness := (true, "056ab62ba39ac34a4941e7819c85915b5aa18373dc3ff023474500bec54c493f"), looks := false }, kinds := [], alts := [], laidByText := true, laidKinds := [.data, .pinned], laidTests := true, laidLooks := .later }
def FnExactVisibleLinesCardSaid : Prop := Claim7.holds Tryd.pinned (.plain (OpenSpec.ofChange fnExactVisibleLinesSpec)) fnExactVisibleLinesCard

/-- THE TIED CARD OF 'laws.FnFoldEnd'. -/
def fnFoldEndCard : Claim7 := { stood := { row := fnFoldEndRow, standIns := [], harness := (true, "056ab62ba39ac34a4941e7819c85915b5aa18373dc3ff023474500bec54c493f"), looks := false }, kinds := [], alts := [], laidByText := true, laidKinds := [.data, .pinned], laidTests := true, laidLooks := .later }
def FnFoldEndCardSaid : Prop := Claim7.holds Tryd.pinned (.plain (OpenSpec.ofChange fnFoldEndSpec)) fnFoldEndCard

/-- THE TIED CARD OF 'laws.FnFoldOuter'. -/
def fnFoldOuterCard : Claim7 := { stood := { row := fnFoldOuterRow, standIns := [], harness := (true, "056ab62ba39ac34a4941e7819c85915b5aa18373dc3ff023474500bec54c493f"), looks := false }, kinds := [], alts := [], laidByText := true, laidKinds := [.data, .pinned], laidTests := true, laidLooks := .later }
def FnFoldOuterCardSaid : Prop := Claim7.holds Tryd.pinned (.plain (OpenSpec.ofChange fnFoldOuterSpec)) fnFoldOuterCard

/-- THE TIED CARD OF 'laws.FnFoldAround'. -/
def fnFoldAroundCard : Claim7 := { stood := { row := fnFoldAroundRow, standIns := [], harness := (true, "056ab62ba39ac34a4941e7819c85915b5aa18373dc3ff023474500bec54c493f"), looks := false }, kinds := [], alts := [], laidByText := true, laidKinds := [.data, .pinned], laidTests := true, laidLooks := .later }
def FnFoldAroundCardSaid : Prop := Claim7.holds Tryd.pinned (.plain (OpenSpec.ofChange fnFoldAroundSpec)) fnFoldAroundCard

/-- THE TIED CARD OF 'laws.FnVisibleLines'. -/
def fnVisibleLinesCard : Claim7 := { stood := { row := fnVisibleLinesRow, standIns := [], harness := (true, "056ab62ba39ac34a4941e7819c85915b5aa18373dc3ff023474500bec54c493f"), looks := false }, kinds := [], alts := [], laidByText := true, laidKinds := [.data, .pinned], laidTests := true, laidLooks := .later }
def FnVisibleLinesCardSaid : Prop := Claim7.holds Tryd.pinned (.plain (OpenSpec.ofChange fnVisibleLinesSpec)) fnVisibleLinesCard

/-- THE SECOND FORM's CARD OF 'laws.FnExactIndentOf'. -/
def fnExactIndentOfUptoCard : Claim7 := { stood := { row := fnExactIndentOfUptoRow, standIns := [], harness := (true, "056ab62ba39ac34a4941e7819c85915b5aa18373dc3ff023474500bec54c493f"), looks := false }, kinds := [], alts := [], laidByText := true, laidKinds := [.data, .pinned], laidTests := true, laidLooks := .later }
def FnExactIndentOfUptoCardSaid : Prop := Claim7.holds Tryd.pinned (.plain (OpenSpec.upto fnExactIndentOfSpec)) fnExactIndentOfUptoCard

/-- THE SECOND FORM's CARD OF 'laws.FnExactFoldEnd'. -/
def fnExactFoldEndUptoCard : Claim7 := { stood := { row := fnExactFoldEndUptoRow, standIns := [], harness := (true, "056ab62ba39ac34a4941e7819c85915b5aa18373dc3ff023474500bec54c493f"), looks := false }, kinds := [], alts := [], laidByText := true, laidKinds := [.data, .pinned], laidTests := true, laidLooks := .later }
def FnExactFoldEndUptoCardSaid : Prop := Claim7.holds Tryd.pinned (.plain (OpenSpec.upto fnExactFoldEndSpec)) fnExactFoldEndUptoCard

/-- THE SECOND FORM's CARD OF 'laws.FnExactFoldAround'. -/
def fnExactFoldAroundUptoCard : Claim7 := { stood := { row := fnExactFoldAroundUptoRow, standIns := [], harness := (true, "056ab62ba39ac34a4941e7819c85915b5aa18373dc3ff023474500bec54c493f"), looks := false }, kinds := [], alts := [], laidByText := true, laidKinds := [.data, .pinned], laidTests := true, laidLooks := .later }
def FnExactFoldAroundUptoCardSaid : Prop := Claim7.holds Tryd.pinned (.plain (OpenSpec.upto fnExactFoldAroundSpec)) fnExactFoldAroundUptoCard

/-- THE SECOND FORM's CARD OF 'laws.FnIndentOf'. -/
def fnIndentOfUptoCard : Claim7 := { stood := { row := fnIndentOfUptoRow, standIns := [], harness := (true, "056ab62ba39ac34a4941e7819c85915b5aa18373dc3ff023474500bec54c493f"), looks := false }, kinds := [], alts := [], laidByText := true, laidKinds := [.data, .pinned], laidTests := true, laidLooks := .later }
def FnIndentOfUptoCardSaid : Prop := Claim7.holds Tryd.pinned (.plain (OpenSpec.upto fnIndentOfSpec)) fnIndentOfUptoCard

/-- THE SECOND FORM's CARD OF 'laws.FnExactVisibleLines'. -/
def fnExactVisibleLinesUptoCard : Claim7 := { stood := { row := fnExactVisibleLinesUptoRow, standIns := [], harness := (true, "056ab62ba39ac34a4941e7819c85915b5aa18373dc3ff023474500bec54c493f"), looks := false }, kinds := [], alts := [], laidByText := true, laidKinds := [.data, .pinned], laidTests := true, laidLooks := .later }
def FnExactVisibleLinesUptoCardSaid : Prop := Claim7.holds Tryd.pinned (.plain (OpenSpec.upto fnExactVisibleLinesSpec)) fnExactVisibleLinesUptoCard

/-- THE SECOND FORM's CARD OF 'laws.FnFoldEnd'. -/
def fnFoldEndUptoCard : Claim7 := { stood := { row := fnFoldEndUptoRow, standIns := [], harness := (true, "056ab62ba39ac34a4941e7819c85915b5aa18373dc3ff023474500bec54c493f"), looks := false }, kinds := [], alts := [], laidByText := true, laidKinds := [.data, .pinned], laidTests := true, laidLooks := .later }
def FnFoldEndUptoCardSaid : Prop := Claim7.holds Tryd.pinned (.plain (OpenSpec.upto fnFoldEndSpec)) fnFoldEndUptoCard

/-- THE SECOND FORM's CARD OF 'laws.FnFoldOuter'. -/
def fnFoldOuterUptoCard : Claim7 := { stood := { row := fnFoldOuterUptoRow, standIns := [], harness := (true, "056ab62ba39ac34a4941e7819c85915b5aa18373dc3ff023474500bec54c493f"), looks := false }, kinds := [], alts := [], laidByText := true, laidKinds := [.data, .pinned], laidTests := true, laidLooks := .later }
def FnFoldOuterUptoCardSaid : Prop := Claim7.holds Tryd.pinned (.plain (OpenSpec.upto fnFoldOuterSpec)) fnFoldOuterUptoCard

/-- THE SECOND FORM's CARD OF 'laws.FnFoldAround'. -/
def fnFoldAroundUptoCard : Claim7 := { stood := { row := fnFoldAroundUptoRow, standIns := [], harness := (true, "056ab62ba39ac34a4941e7819c85915b5aa18373dc3ff023474500bec54c493f"), looks := false }, kinds := [], alts := [], laidByText := true, laidKinds := [.data, .pinned], laidTests := true, laidLooks := .later }
def FnFoldAroundUptoCardSaid : Prop := Claim7.holds Tryd.pinned (.plain (OpenSpec.upto fnFoldAroundSpec)) fnFoldAroundUptoCard

/-- THE SECOND FORM's CARD OF 'laws.FnVisibleLines'. -/
def fnVisibleLinesUptoCard : Claim7 := { stood := { row := fnVisibleLinesUptoRow, standIns := [], harness := (true, "056ab62ba39ac34a4941e7819c85915b5aa18373dc3ff023474500bec54c493f"), looks := false }, kinds := [], alts := [], laidByText := true, laidKinds := [.data, .pinned], laidTests := true, laidLooks := .later }
def FnVisibleLinesUptoCardSaid : Prop := Claim7.holds Tryd.pinned (.plain (OpenSpec.upto fnVisibleLinesSpec)) fnVisibleLinesUptoCard
end Rows
end Go.Proofs.YtdpnfdoplahfgaaDoor
