/-
  DERIVED. GIVEN WITH THE SEED: THE CARDS: each row of YtfhcocpbhbleiaaDoorRows.lean that lists a variable, with what it lists TIED to the program's text (the seventh form; the later family's looks); each row that meets fmt, with fmt's text TOLD by the authors' own Lean function (tested against real Go, not proved from fmt's source: count such statements apart). THE CARD IS WHAT COUNTS. Prove the row's statement (the work); the ties are given (YtfhcocpbhbleiaaDoorTie.lean); close each card by the builder's one call (the guide's Derived/Test/ToyasCard.lean, 'card_holds'). Laid BY PROGRAM, IN A SANDBOX (cutbox-door.mjs). By AI agents, Wed Nov 11 2026. No macro, syntax, notation, axiom, sorry.
-/
import Derived.Test.YtfhcocpbhbleiaaDoorRows
import GoSem.ClaimSeven
namespace Go.Proofs.YtfhcocpbhbleiaaDoor
namespace Rows

/-- THE TIED CARD OF 'laws.FnWordsOf'. -/
def fnWordsOfCard : Claim7 := { stood := { row := fnWordsOfRow, standIns := [], harness := (true, "81c5b209b93f41774fbda3f2d386f8f467bcd3dd2b31e020343ea809442c5d89"), looks := false }, kinds := [], alts := [], laidByText := true, laidKinds := [.listed, .data], laidTests := true, laidLooks := .later }
def FnWordsOfCardSaid : Prop := Claim7.holds Tryd.pinned (.plain (OpenSpec.ofChange fnWordsOfSpec)) fnWordsOfCard

/-- THE TIED CARD OF 'laws.FnExactFillLeast'. -/
def fnExactFillLeastCard : Claim7 := { stood := { row := fnExactFillLeastRow, standIns := [], harness := (true, "81c5b209b93f41774fbda3f2d386f8f467bcd3dd2b31e020343ea809442c5d89"), looks := false }, kinds := [], alts := [], laidByText := true, laidKinds := [.listed, .data], laidTests := true, laidLooks := .later }
def FnExactFillLeastCardSaid : Prop := Claim7.holds Tryd.pinned (.plain (OpenSpec.ofChange fnExactFillLeastSpec)) fnExactFillLeastCard

/-- THE TIED CARD OF 'laws.FnFillGreedy'. -/
def fnFillGreedyCard : Claim7 := { stood := { row := fnFillGreedyRow, standIns := [], harness := (true, "81c5b209b93f41774fbda3f2d386f8f467bcd3dd2b31e020343ea809442c5d89"), looks := false }, kinds := [], alts := [], laidByText := true, laidKinds := [.listed, .data], laidTests := true, laidLooks := .later }
def FnFillGreedyCardSaid : Prop := Claim7.holds Tryd.pinned (.plain (OpenSpec.ofChange fnFillGreedySpec)) fnFillGreedyCard

/-- THE TIED CARD OF 'laws.FnFillAgain'. -/
def fnFillAgainCard : Claim7 := { stood := { row := fnFillAgainRow, standIns := [], harness := (true, "81c5b209b93f41774fbda3f2d386f8f467bcd3dd2b31e020343ea809442c5d89"), looks := false }, kinds := [], alts := [], laidByText := true, laidKinds := [.listed, .data], laidTests := true, laidLooks := .later }
def FnFillAgainCardSaid : Prop := Claim7.holds Tryd.pinned (.plain (OpenSpec.ofChange fnFillAgainSpec)) fnFillAgainCard

/-- THE TIED CARD OF 'laws.FnFillLeast'. -/
def fnFillLeastCard : Claim7 := { stood := { row := fnFillLeastRow, standIns := [], harness := (true, "81c5b209b93f41774fbda3f2d386f8f467bcd3dd2b31e020343ea809442c5d89"), looks := false }, kinds := [], alts := [], laidByText := true, laidKinds := [.listed, .data], laidTests := true, laidLooks := .later }
def FnFillLeastCardSaid : Prop := Claim7.holds Tryd.pinned (.plain (OpenSpec.ofChange fnFillLeastSpec)) fnFillLeastCard

/-- THE SECOND FORM's CARD OF 'laws.FnWordsOf'. -/
def fnWordsOfUptoCard : Claim7 := { stood := { row := fnWordsOfUptoRow, standIns := [], harness := (true, "81c5b209b93f41774fbda3f2d386f8f467bcd3dd2b31e020343ea809442c5d89"), looks := false }, kinds := [], alts := [], laidByText := true, laidKinds := [.listed, .data], laidTests := true, laidLooks := .later }
def FnWordsOfUptoCardSaid : Prop := Claim7.holds Tryd.pinned (.plain (OpenSpec.upto fnWordsOfSpec)) fnWordsOfUptoCard

/-- THE SECOND FORM's CARD OF 'laws.FnExactFillLeast'. -/
def fnExactFillLeastUptoCard : Claim7 := { stood := { row := fnExactFillLeastUptoRow, standIns := [], harness := (true, "81c5b209b93f41774fbda3f2d386f8f467bcd3dd2b31e020343ea809442c5d89"), looks := false }, kinds := [], alts := [], laidByText := true, laidKinds := [.listed, .data], laidTests := true, laidLooks := .later }
def FnExactFillLeastUptoCardSaid : Prop := Claim7.holds Tryd.pinned (.plain (OpenSpec.upto fnExactFillLeastSpec)) fnExactFillLeastUptoCard

/-- THE SECOND FORM's CARD OF 'laws.FnFillGreedy'. -/
def fnFillGreedyUptoCard : Claim7 := { stood := { row := fnFillGreedyUptoRow, standIns := [], harness := (true, "81c5b209b93f41774fbda3f2d386f8f467bcd3dd2b31e020343ea809442c5d89"), looks := false }, kinds := [], alts := [], laidByText := true, laidKinds := [.listed, .data], laidTests := true, laidLooks := .later }
def FnFillGreedyUptoCardSaid : Prop := Claim7.holds Tryd.pinned (.plain (OpenSpec.upto fnFillGreedySpec)) fnFillGreedyUptoCard

/-- THE SECOND FORM's CARD OF 'laws.FnFillAgain'. -/
def fnFillAgainUptoCard : Claim7 := { stood := { row := fnFillAgainUptoRow, standIns := [], harness := (true, "81c5b209b93f41774fbda3f2d386f8f467bcd3dd2b31e020343ea809442c5d89"), looks := false }, kinds := [], alts := [], laidByText := true, laidKinds := [.listed, .data], laidTests := true, laidLooks := .later }
def FnFillAgainUptoCardSaid : Prop := Claim7.holds Tryd.pinned (.plain (OpenSpec.upto fnFillAgainSpec)) fnFillAgainUptoCard

/-- THE SECOND FORM's CARD OF 'laws.FnFillLeast'. -/
def fnFillLeastUptoCard : Claim7 := { stood := { row := fnFillLeastUptoRow, standIns := [], harness := (true, "81c5b209b93f41774fbda3f2d386f8f467bcd3dd2b31e020343ea809442c5d89"), looks := false }, kinds := [], alts := [], laidByText := true, laidKinds := [.listed, .data], laidTests := true, laidLooks := .later }
def FnFillLeastUptoCardSaid : Prop := Claim7.holds Tryd.pinned (.plain (OpenSpec.upto fnFillLeastSpec)) fnFillLeastUptoCard
end Rows
end Go.Proofs.YtfhcocpbhbleiaaDoor
