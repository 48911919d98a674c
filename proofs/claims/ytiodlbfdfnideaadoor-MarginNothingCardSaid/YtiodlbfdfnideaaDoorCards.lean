/-
  DERIVED. GIVEN WITH THE SEED: THE CARDS: each row of YtiodlbfdfnideaaDoorRows.lean that lists a variable, with what it lists TIED to the program's text (the seventh form; the later family's looks); each row that meets fmt, with fmt's text TOLD by the authors' own Lean function (tested against real Go, not proved from fmt's source: count such statements apart). THE CARD IS WHAT COUNTS. Prove the row's statement (the work); the ties are given (YtiodlbfdfnideaaDoorTie.lean); close each card by the builder's one call (the guide's Derived/Test/ToyasCard.lean, 'card_holds'). Laid BY PROGRAM, IN A SANDBOX (cutbox-door.mjs). By AI agents, Wed Nov 11 2026. No macro, syntax, notation, axiom, sorry.
-/
import Derived.Test.YtiodlbfdfnideaaDoorRows
import GoSem.ClaimSeven
namespace Go.Proofs.YtiodlbfdfnideaaDoor
namespace Rows

/-- THE TIED CARD OF 'gutterlaw10.MarginCollapses'. -/
def marginCollapsesCard : Claim7 := { stood := { row := marginCollapsesRow, standIns := [], harness := (true, "dad061d492602e1d5dcadd74c37f2e20edb76d6de5a2200e5b5f25edb986e840"), looks := true }, kinds := [], alts := [], laidByText := true, laidKinds := [.handle], laidTests := true, laidLooks := .later }
def MarginCollapsesCardSaid : Prop := Claim7.holds Tryd.pinned (.plain (OpenSpec.ofChange marginCollapsesSpec)) marginCollapsesCard

/-- THE TIED CARD OF 'gutterlaw10.MarginStacks'. -/
def marginStacksCard : Claim7 := { stood := { row := marginStacksRow, standIns := [], harness := (true, "dad061d492602e1d5dcadd74c37f2e20edb76d6de5a2200e5b5f25edb986e840"), looks := true }, kinds := [], alts := [], laidByText := true, laidKinds := [.handle], laidTests := true, laidLooks := .later }
def MarginStacksCardSaid : Prop := Claim7.holds Tryd.pinned (.plain (OpenSpec.ofChange marginStacksSpec)) marginStacksCard

/-- THE TIED CARD OF 'gutterlaw10.MarginTurns'. -/
def marginTurnsCard : Claim7 := { stood := { row := marginTurnsRow, standIns := [], harness := (true, "dad061d492602e1d5dcadd74c37f2e20edb76d6de5a2200e5b5f25edb986e840"), looks := true }, kinds := [], alts := [], laidByText := true, laidKinds := [.handle], laidTests := true, laidLooks := .later }
def MarginTurnsCardSaid : Prop := Claim7.holds Tryd.pinned (.plain (OpenSpec.ofChange marginTurnsSpec)) marginTurnsCard

/-- THE TIED CARD OF 'gutterlaw10.MarginNothing'. -/
def marginNothingCard : Claim7 := { stood := { row := marginNothingRow, standIns := [], harness := (true, "dad061d492602e1d5dcadd74c37f2e20edb76d6de5a2200e5b5f25edb986e840"), looks := true }, kinds := [], alts := [], laidByText := true, laidKinds := [.handle], laidTests := true, laidLooks := .later }
def MarginNothingCardSaid : Prop := Claim7.holds Tryd.pinned (.plain (OpenSpec.ofChange marginNothingSpec)) marginNothingCard

/-- THE TIED CARD OF 'gutterlaw10.MarginHeights'. -/
def marginHeightsCard : Claim7 := { stood := { row := marginHeightsRow, standIns := [], harness := (true, "dad061d492602e1d5dcadd74c37f2e20edb76d6de5a2200e5b5f25edb986e840"), looks := true }, kinds := [], alts := [], laidByText := true, laidKinds := [.handle], laidTests := true, laidLooks := .later }
def MarginHeightsCardSaid : Prop := Claim7.holds Tryd.pinned (.plain (OpenSpec.ofChange marginHeightsSpec)) marginHeightsCard

/-- THE TIED CARD OF 'gutterlaw10.MarginSteps'. -/
def marginStepsCard : Claim7 := { stood := { row := marginStepsRow, standIns := [], harness := (true, "dad061d492602e1d5dcadd74c37f2e20edb76d6de5a2200e5b5f25edb986e840"), looks := true }, kinds := [], alts := [], laidByText := true, laidKinds := [.handle], laidTests := true, laidLooks := .later }
def MarginStepsCardSaid : Prop := Claim7.holds Tryd.pinned (.plain (OpenSpec.ofChange marginStepsSpec)) marginStepsCard

/-- THE TIED CARD OF 'gutterlaw10.MarginBetween'. -/
def marginBetweenCard : Claim7 := { stood := { row := marginBetweenRow, standIns := [], harness := (true, "dad061d492602e1d5dcadd74c37f2e20edb76d6de5a2200e5b5f25edb986e840"), looks := true }, kinds := [], alts := [], laidByText := true, laidKinds := [.handle], laidTests := true, laidLooks := .later }
def MarginBetweenCardSaid : Prop := Claim7.holds Tryd.pinned (.plain (OpenSpec.ofChange marginBetweenSpec)) marginBetweenCard

/-- THE SECOND FORM's CARD OF 'gutterlaw10.MarginCollapses'. -/
def marginCollapsesUptoCard : Claim7 := { stood := { row := marginCollapsesUptoRow, standIns := [], harness := (true, "dad061d492602e1d5dcadd74c37f2e20edb76d6de5a2200e5b5f25edb986e840"), looks := true }, kinds := [], alts := [], laidByText := true, laidKinds := [.handle], laidTests := true, laidLooks := .later }
def MarginCollapsesUptoCardSaid : Prop := Claim7.holds Tryd.pinned (.plain (OpenSpec.upto marginCollapsesSpec)) marginCollapsesUptoCard

/-- THE SECOND FORM's CARD OF 'gutterlaw10.MarginStacks'. -/
def marginStacksUptoCard : Claim7 := { stood := { row := marginStacksUptoRow, standIns := [], harness := (true, "dad061d492602e1d5dcadd74c37f2e20edb76d6de5a2200e5b5f25edb986e840"), looks := true }, kinds := [], alts := [], laidByText := true, laidKinds := [.handle], laidTests := true, laidLooks := .later }
def MarginStacksUptoCardSaid : Prop := Claim7.holds Tryd.pinned (.plain (OpenSpec.upto marginStacksSpec)) marginStacksUptoCard

/-- THE SECOND FORM's CARD OF 'gutterlaw10.MarginTurns'. -/
def marginTurnsUptoCard : Claim7 := { stood := { row := marginTurnsUptoRow, standIns := [], harness := (true, "dad061d492602e1d5dcadd74c37f2e20edb76d6de5a2200e5b5f25edb986e840"), looks := true }, kinds := [], alts := [], laidByText := true, laidKinds := [.handle], laidTests := true, laidLooks := .later }
def MarginTurnsUptoCardSaid : Prop := Claim7.holds Tryd.pinned (.plain (OpenSpec.upto marginTurnsSpec)) marginTurnsUptoCard

/-- THE SECOND FORM's CARD OF 'gutterlaw10.MarginNothing'. -/
def marginNothingUptoCard : Claim7 := { stood := { row := marginNothingUptoRow, standIns := [], harness := (true, "dad061d492602e1d5dcadd74c37f2e20edb76d6de5a2200e5b5f25edb986e840"), looks := true }, kinds := [], alts := [], laidByText := true, laidKinds := [.handle], laidTests := true, laidLooks := .later }
def MarginNothingUptoCardSaid : Prop := Claim7.holds Tryd.pinned (.plain (OpenSpec.upto marginNothingSpec)) marginNothingUptoCard

/-- THE SECOND FORM's CARD OF 'gutterlaw10.MarginHeights'. -/
def marginHeightsUptoCard : Claim7 := { stood := { row := marginHeightsUptoRow, standIns := [], harness := (true, "dad061d492602e1d5dcadd74c37f2e20edb76d6de5a2200e5b5f25edb986e840"), looks := true }, kinds := [], alts := [], laidByText := true, laidKinds := [.handle], laidTests := true, laidLooks := .later }
def MarginHeightsUptoCardSaid : Prop := Claim7.holds Tryd.pinned (.plain (OpenSpec.upto marginHeightsSpec)) marginHeightsUptoCard

/-- THE SECOND FORM's CARD OF 'gutterlaw10.MarginSteps'. -/
def marginStepsUptoCard : Claim7 := { stood := { row := marginStepsUptoRow, standIns := [], harness := (true, "dad061d492602e1d5dcadd74c37f2e20edb76d6de5a2200e5b5f25edb986e840"), looks := true }, kinds := [], alts := [], laidByText := true, laidKinds := [.handle], laidTests := true, laidLooks := .later }
def MarginStepsUptoCardSaid : Prop := Claim7.holds Tryd.pinned (.plain (OpenSpec.upto marginStepsSpec)) marginStepsUptoCard

/-- THE SECOND FORM's CARD OF 'gutterlaw10.MarginBetween'. -/
def marginBetweenUptoCard : Claim7 := { stood := { row := marginBetweenUptoRow, standIns := [], harness := (true, "dad061d492602e1d5dcadd74c37f2e20edb76d6de5a2200e5b5f25edb986e840"), looks := true }, kinds := [], alts := [], laidByText := true, laidKinds := [.handle], laidTests := true, laidLooks := .later }
def MarginBetweenUptoCardSaid : Prop := Claim7.holds Tryd.pinned (.plain (OpenSpec.upto marginBetweenSpec)) marginBetweenUptoCard
end Rows
end Go.Proofs.YtiodlbfdfnideaaDoor
