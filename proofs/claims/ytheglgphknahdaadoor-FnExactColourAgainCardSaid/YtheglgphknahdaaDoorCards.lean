/-
  DERIVED. GIVEN WITH THE SEED: THE CARDS: each row of YtheglgphknahdaaDoorRows.lean that lists a variable, with what it lists TIED to the program's text (the seventh form; the later family's looks); each row that meets fmt, with fmt's text TOLD by the authors' own Lean function (tested against real Go, not proved from fmt's source: count such statements apart). THE CARD IS WHAT COUNTS. Prove the row's statement (the work); the ties are given (YtheglgphknahdaaDoorTie.lean); close each card by the builder's one call (the guide's Derived/Test/ToyasCard.lean, 'card_holds'). Laid BY PROGRAM, IN A SANDBOX (cutbox-door.mjs). By AI agents, Wed Nov 11 2026. No macro, syntax, notation, axiom, sorry.
-/
import Derived.Test.YtheglgphknahdaaDoorRows
import GoSem.ClaimSeven
namespace Go.Proofs.YtheglgphknahdaaDoor
namespace Rows

/-- THE TIED CARD OF 'laws.FnExactColourStates'. -/
def fnExactColourStatesCard : Claim7 := { stood := { row := fnExactColourStatesRow, standIns := [], harness := (true, "a0159494c53d3684e9bc39c881da8ca6d87abd9091c4937cc06ae797fc6dc10b"), looks := false }, kinds := [], alts := [], laidByText := true, laidKinds := [.data, .pinned], laidTests := true, laidLooks := .later }
def FnExactColourStatesCardSaid : Prop := Claim7.holds Tryd.pinned (.plain (OpenSpec.ofChange fnExactColourStatesSpec)) fnExactColourStatesCard

/-- THE TIED CARD OF 'laws.FnExactColourText'. -/
def fnExactColourTextCard : Claim7 := { stood := { row := fnExactColourTextRow, standIns := [], harness := (true, "a0159494c53d3684e9bc39c881da8ca6d87abd9091c4937cc06ae797fc6dc10b"), looks := false }, kinds := [], alts := [], laidByText := true, laidKinds := [.data, .pinned], laidTests := true, laidLooks := .later }
def FnExactColourTextCardSaid : Prop := Claim7.holds Tryd.pinned (.plain (OpenSpec.ofChange fnExactColourTextSpec)) fnExactColourTextCard

/-- THE TIED CARD OF 'laws.FnColourJoin'. -/
def fnColourJoinCard : Claim7 := { stood := { row := fnColourJoinRow, standIns := [], harness := (true, "a0159494c53d3684e9bc39c881da8ca6d87abd9091c4937cc06ae797fc6dc10b"), looks := false }, kinds := [], alts := [], laidByText := true, laidKinds := [.data, .pinned], laidTests := true, laidLooks := .later }
def FnColourJoinCardSaid : Prop := Claim7.holds Tryd.pinned (.plain (OpenSpec.ofChange fnColourJoinSpec)) fnColourJoinCard

/-- THE TIED CARD OF 'laws.FnColourStates'. -/
def fnColourStatesCard : Claim7 := { stood := { row := fnColourStatesRow, standIns := [], harness := (true, "a0159494c53d3684e9bc39c881da8ca6d87abd9091c4937cc06ae797fc6dc10b"), looks := false }, kinds := [], alts := [], laidByText := true, laidKinds := [.data, .pinned], laidTests := true, laidLooks := .later }
def FnColourStatesCardSaid : Prop := Claim7.holds Tryd.pinned (.plain (OpenSpec.ofChange fnColourStatesSpec)) fnColourStatesCard

/-- THE TIED CARD OF 'laws.FnColourText'. -/
def fnColourTextCard : Claim7 := { stood := { row := fnColourTextRow, standIns := [], harness := (true, "a0159494c53d3684e9bc39c881da8ca6d87abd9091c4937cc06ae797fc6dc10b"), looks := false }, kinds := [], alts := [], laidByText := true, laidKinds := [.data, .pinned], laidTests := true, laidLooks := .later }
def FnColourTextCardSaid : Prop := Claim7.holds Tryd.pinned (.plain (OpenSpec.ofChange fnColourTextSpec)) fnColourTextCard

/-- THE TIED CARD OF 'laws.FnExactColourAgain'. -/
def fnExactColourAgainCard : Claim7 := { stood := { row := fnExactColourAgainRow, standIns := [], harness := (true, "a0159494c53d3684e9bc39c881da8ca6d87abd9091c4937cc06ae797fc6dc10b"), looks := false }, kinds := [], alts := [], laidByText := true, laidKinds := [.data, .pinned], laidTests := true, laidLooks := .later }
def FnExactColourAgainCardSaid : Prop := Claim7.holds Tryd.pinned (.plain (OpenSpec.ofChange fnExactColourAgainSpec)) fnExactColourAgainCard

/-- THE TIED CARD OF 'laws.FnColourAgain'. -/
def fnColourAgainCard : Claim7 := { stood := { row := fnColourAgainRow, standIns := [], harness := (true, "a0159494c53d3684e9bc39c881da8ca6d87abd9091c4937cc06ae797fc6dc10b"), looks := false }, kinds := [], alts := [], laidByText := true, laidKinds := [.data, .pinned], laidTests := true, laidLooks := .later }
def FnColourAgainCardSaid : Prop := Claim7.holds Tryd.pinned (.plain (OpenSpec.ofChange fnColourAgainSpec)) fnColourAgainCard

/-- THE SECOND FORM's CARD OF 'laws.FnExactColourStates'. -/
def fnExactColourStatesUptoCard : Claim7 := { stood := { row := fnExactColourStatesUptoRow, standIns := [], harness := (true, "a0159494c53d3684e9bc39c881da8ca6d87abd9091c4937cc06ae797fc6dc10b"), looks := false }, kinds := [], alts := [], laidByText := true, laidKinds := [.data, .pinned], laidTests := true, laidLooks := .later }
def FnExactColourStatesUptoCardSaid : Prop := Claim7.holds Tryd.pinned (.plain (OpenSpec.upto fnExactColourStatesSpec)) fnExactColourStatesUptoCard

/-- THE SECOND FORM's CARD OF 'laws.FnExactColourText'. -/
def fnExactColourTextUptoCard : Claim7 := { stood := { row := fnExactColourTextUptoRow, standIns := [], harness := (true, "a0159494c53d3684e9bc39c881da8ca6d87abd9091c4937cc06ae797fc6dc10b"), looks := false }, kinds := [], alts := [], laidByText := true, laidKinds := [.data, .pinned], laidTests := true, laidLooks := .later }
def FnExactColourTextUptoCardSaid : Prop := Claim7.holds Tryd.pinned (.plain (OpenSpec.upto fnExactColourTextSpec)) fnExactColourTextUptoCard

/-- THE SECOND FORM's CARD OF 'laws.FnColourJoin'. -/
def fnColourJoinUptoCard : Claim7 := { stood := { row := fnColourJoinUptoRow, standIns := [], harness := (true, "a0159494c53d3684e9bc39c881da8ca6d87abd9091c4937cc06ae797fc6dc10b"), looks := false }, kinds := [], alts := [], laidByText := true, laidKinds := [.data, .pinned], laidTests := true, laidLooks := .later }
def FnColourJoinUptoCardSaid : Prop := Claim7.holds Tryd.pinned (.plain (OpenSpec.upto fnColourJoinSpec)) fnColourJoinUptoCard

/-- THE SECOND FORM's CARD OF 'laws.FnColourStates'. -/
def fnColourStatesUptoCard : Claim7 := { stood := { row := fnColourStatesUptoRow, standIns := [], harness := (true, "a0159494c53d3684e9bc39c881da8ca6d87abd9091c4937cc06ae797fc6dc10b"), looks := false }, kinds := [], alts := [], laidByText := true, laidKinds := [.data, .pinned], laidTests := true, laidLooks := .later }
def FnColourStatesUptoCardSaid : Prop := Claim7.holds Tryd.pinned (.plain (OpenSpec.upto fnColourStatesSpec)) fnColourStatesUptoCard

/-- THE SECOND FORM's CARD OF 'laws.FnColourText'. -/
def fnColourTextUptoCard : Claim7 := { stood := { row := fnColourTextUptoRow, standIns := [], harness := (true, "a0159494c53d3684e9bc39c881da8ca6d87abd9091c4937cc06ae797fc6dc10b"), looks := false }, kinds := [], alts := [], laidByText := true, laidKinds := [.data, .pinned], laidTests := true, laidLooks := .later }
def FnColourTextUptoCardSaid : Prop := Claim7.holds Tryd.pinned (.plain (OpenSpec.upto fnColourTextSpec)) fnColourTextUptoCard

/-- THE SECOND FORM's CARD OF 'laws.FnExactColourAgain'. -/
def fnExactColourAgainUptoCard : Claim7 := { stood := { row := fnExactColourAgainUptoRow, standIns := [], harness := (true, "a0159494c53d3684e9bc39c881da8ca6d87abd9091c4937cc06ae797fc6dc10b"), looks := false }, kinds := [], alts := [], laidByText := true, laidKinds := [.data, .pinned], laidTests := true, laidLooks := .later }
def FnExactColourAgainUptoCardSaid : Prop := Claim7.holds Tryd.pinned (.plain (OpenSpec.upto fnExactColourAgainSpec)) fnExactColourAgainUptoCard

/-- THE SECOND FORM's CARD OF 'laws.FnColourAgain'. -/
def fnColourAgainUptoCard : Claim7 := { stood := { row := fnColourAgainUptoRow, standIns := [], harness := (true, "a0159494c53d3684e9bc39c881da8ca6d87abd9091c4937cc06ae797fc6dc10b"), looks := false }, kinds := [], alts := [], laidByText := true, laidKinds := [.data, .pinned], laidTests := true, laidLooks := .later }
def FnColourAgainUptoCardSaid : Prop := Claim7.holds Tryd.pinned (.plain (OpenSpec.upto fnColourAgainSpec)) fnColourAgainUptoCard
end Rows
end Go.Proofs.YtheglgphknahdaaDoor
