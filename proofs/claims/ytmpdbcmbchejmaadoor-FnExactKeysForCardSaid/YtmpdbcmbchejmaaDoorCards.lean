/-
  DERIVED. GIVEN WITH THE SEED: THE CARDS: each row of YtmpdbcmbchejmaaDoorRows.lean that lists a variable, with what it lists TIED to the program's text (the seventh form; the later family's looks); each row that meets fmt, with fmt's text TOLD by the authors' own Lean function (tested against real Go, not proved from fmt's source: count such statements apart). THE CARD IS WHAT COUNTS. Prove the row's statement (the work); the ties are given (YtmpdbcmbchejmaaDoorTie.lean); close each card by the builder's one call (the guide's Derived/Test/ToyasCard.lean, 'card_holds'). Laid BY PROGRAM, IN A SANDBOX (cutbox-door.mjs). By AI agents, Wed Nov 11 2026. No macro, syntax, notation, axiom, sorry.
-/
import Derived.Test.YtmpdbcmbchejmaaDoorRows
import GoSem.ClaimSeven
namespace Go.Proofs.YtmpdbcmbchejmaaDoor
namespace Rows

/-- THE TIED CARD OF 'laws.FnReadRange'. -/
def fnReadRangeCard : Claim7 := { stood := { row := fnReadRangeRow, standIns := [], harness := (true, "3d7e6e49db6da46d51c5f5160d3ce0eadc45d46483226596978bfb88bb7bf165"), looks := true }, kinds := [], alts := [], laidByText := true, laidKinds := [.data, .data, .data, .sentinel, .sentinel], laidTests := true, laidLooks := .later }
def FnReadRangeCardSaid : Prop := Claim7.holds Tryd.pinned (.plain (OpenSpec.ofChange fnReadRangeSpec)) fnReadRangeCard

/-- THE TIED CARD OF 'laws.FnExactKeysFor'. -/
def fnExactKeysForCard : Claim7 := { stood := { row := fnExactKeysForRow, standIns := [], harness := (true, "3d7e6e49db6da46d51c5f5160d3ce0eadc45d46483226596978bfb88bb7bf165"), looks := true }, kinds := [], alts := [], laidByText := true, laidKinds := [.data, .pinned], laidTests := true, laidLooks := .later }
def FnExactKeysForCardSaid : Prop := Claim7.holds Tryd.pinned (.plain (OpenSpec.ofChange fnExactKeysForSpec)) fnExactKeysForCard

/-- THE SECOND FORM's CARD OF 'laws.FnReadRange'. -/
def fnReadRangeUptoCard : Claim7 := { stood := { row := fnReadRangeUptoRow, standIns := [], harness := (true, "3d7e6e49db6da46d51c5f5160d3ce0eadc45d46483226596978bfb88bb7bf165"), looks := true }, kinds := [], alts := [], laidByText := true, laidKinds := [.data, .data, .data, .sentinel, .sentinel], laidTests := true, laidLooks := .later }
def FnReadRangeUptoCardSaid : Prop := Claim7.holds Tryd.pinned (.plain (OpenSpec.upto fnReadRangeSpec)) fnReadRangeUptoCard

/-- THE SECOND FORM's CARD OF 'laws.FnExactKeysFor'. -/
def fnExactKeysForUptoCard : Claim7 := { stood := { row := fnExactKeysForUptoRow, standIns := [], harness := (true, "3d7e6e49db6da46d51c5f5160d3ce0eadc45d46483226596978bfb88bb7bf165"), looks := true }, kinds := [], alts := [], laidByText := true, laidKinds := [.data, .pinned], laidTests := true, laidLooks := .later }
def FnExactKeysForUptoCardSaid : Prop := Claim7.holds Tryd.pinned (.plain (OpenSpec.upto fnExactKeysForSpec)) fnExactKeysForUptoCard
end Rows
end Go.Proofs.YtmpdbcmbchejmaaDoor
