/-
  DERIVED. GIVEN WITH THE SEED: THE CARDS: each row of YtlpkjjeihbdocaaDoorRows.lean that lists a variable, with what it lists TIED to the program's text (the seventh form; the later family's looks); each row that meets fmt, with fmt's text TOLD by the authors' own Lean function (tested against real Go, not proved from fmt's source: count such statements apart). THE CARD IS WHAT COUNTS. Prove the row's statement (the work); the ties are given (YtlpkjjeihbdocaaDoorTie.lean); close each card by the builder's one call (the guide's Derived/Test/ToyasCard.lean, 'card_holds'). Laid BY PROGRAM, IN A SANDBOX (cutbox-door.mjs). By AI agents, Wed Nov 11 2026. No macro, syntax, notation, axiom, sorry.
-/
import Derived.Test.YtlpkjjeihbdocaaDoorRows
import GoSem.ClaimSeven
namespace Go.Proofs.YtlpkjjeihbdocaaDoor
namespace Rows

/-- THE TIED CARD OF 'gutterlaw01.UnitTexts'. -/
def unitTextsCard : Claim7 := { stood := { row := unitTextsRow, standIns := [], harness := (true, "e665d8ea0bb586c990392b12336a6e6675c6cb005a648d92cdcda6fb7ccfac11"), looks := true }, kinds := [], alts := [], laidByText := true, laidKinds := [.sentinel, .sentinel, .sentinel], laidTests := true, laidLooks := .later }
def UnitTextsCardSaid : Prop := Claim7.holds Tryd.pinned (.plain (OpenSpec.ofChange unitTextsSpec)) unitTextsCard

/-- THE TIED CARD OF 'gutterlaw01.UnitPrints'. -/
def unitPrintsCard : Claim7 := { stood := { row := unitPrintsRow, standIns := [], harness := (true, "e665d8ea0bb586c990392b12336a6e6675c6cb005a648d92cdcda6fb7ccfac11"), looks := true }, kinds := [], alts := [], laidByText := true, laidKinds := [.sentinel, .sentinel, .sentinel], laidTests := true, laidLooks := .later }
def UnitPrintsCardSaid : Prop := Claim7.holds Tryd.pinned (.plain (OpenSpec.ofChange unitPrintsSpec)) unitPrintsCard

/-- THE TIED CARD OF 'gutterlaw01.UnitBack'. -/
def unitBackCard : Claim7 := { stood := { row := unitBackRow, standIns := [], harness := (true, "e665d8ea0bb586c990392b12336a6e6675c6cb005a648d92cdcda6fb7ccfac11"), looks := true }, kinds := [], alts := [], laidByText := true, laidKinds := [.sentinel, .sentinel, .sentinel], laidTests := true, laidLooks := .later }
def UnitBackCardSaid : Prop := Claim7.holds Tryd.pinned (.plain (OpenSpec.ofChange unitBackSpec)) unitBackCard

/-- THE TIED CARD OF 'gutterlaw01.UnitSigns'. -/
def unitSignsCard : Claim7 := { stood := { row := unitSignsRow, standIns := [], harness := (true, "e665d8ea0bb586c990392b12336a6e6675c6cb005a648d92cdcda6fb7ccfac11"), looks := true }, kinds := [], alts := [], laidByText := true, laidKinds := [.sentinel, .sentinel, .sentinel], laidTests := true, laidLooks := .later }
def UnitSignsCardSaid : Prop := Claim7.holds Tryd.pinned (.plain (OpenSpec.ofChange unitSignsSpec)) unitSignsCard

/-- THE TIED CARD OF 'gutterlaw01.UnitDivides'. -/
def unitDividesCard : Claim7 := { stood := { row := unitDividesRow, standIns := [], harness := (true, "e665d8ea0bb586c990392b12336a6e6675c6cb005a648d92cdcda6fb7ccfac11"), looks := true }, kinds := [], alts := [], laidByText := true, laidKinds := [.sentinel, .sentinel, .sentinel], laidTests := true, laidLooks := .later }
def UnitDividesCardSaid : Prop := Claim7.holds Tryd.pinned (.plain (OpenSpec.ofChange unitDividesSpec)) unitDividesCard

/-- THE TIED CARD OF 'gutterlaw01.UnitReckons'. -/
def unitReckonsCard : Claim7 := { stood := { row := unitReckonsRow, standIns := [], harness := (true, "e665d8ea0bb586c990392b12336a6e6675c6cb005a648d92cdcda6fb7ccfac11"), looks := true }, kinds := [], alts := [], laidByText := true, laidKinds := [.sentinel, .sentinel, .sentinel], laidTests := true, laidLooks := .later }
def UnitReckonsCardSaid : Prop := Claim7.holds Tryd.pinned (.plain (OpenSpec.ofChange unitReckonsSpec)) unitReckonsCard

/-- THE TIED CARD OF 'gutterlaw01.UnitSums'. -/
def unitSumsCard : Claim7 := { stood := { row := unitSumsRow, standIns := [], harness := (true, "e665d8ea0bb586c990392b12336a6e6675c6cb005a648d92cdcda6fb7ccfac11"), looks := true }, kinds := [], alts := [], laidByText := true, laidKinds := [.sentinel, .sentinel, .sentinel], laidTests := true, laidLooks := .later }
def UnitSumsCardSaid : Prop := Claim7.holds Tryd.pinned (.plain (OpenSpec.ofChange unitSumsSpec)) unitSumsCard

/-- THE TIED CARD OF 'gutterlaw01.UnitTurns'. -/
def unitTurnsCard : Claim7 := { stood := { row := unitTurnsRow, standIns := [], harness := (true, "e665d8ea0bb586c990392b12336a6e6675c6cb005a648d92cdcda6fb7ccfac11"), looks := true }, kinds := [], alts := [], laidByText := true, laidKinds := [.sentinel, .sentinel, .sentinel], laidTests := true, laidLooks := .later }
def UnitTurnsCardSaid : Prop := Claim7.holds Tryd.pinned (.plain (OpenSpec.ofChange unitTurnsSpec)) unitTurnsCard

/-- THE SECOND FORM's CARD OF 'gutterlaw01.UnitTexts'. -/
def unitTextsUptoCard : Claim7 := { stood := { row := unitTextsUptoRow, standIns := [], harness := (true, "e665d8ea0bb586c990392b12336a6e6675c6cb005a648d92cdcda6fb7ccfac11"), looks := true }, kinds := [], alts := [], laidByText := true, laidKinds := [.sentinel, .sentinel, .sentinel], laidTests := true, laidLooks := .later }
def UnitTextsUptoCardSaid : Prop := Claim7.holds Tryd.pinned (.plain (OpenSpec.upto unitTextsSpec)) unitTextsUptoCard

/-- THE SECOND FORM's CARD OF 'gutterlaw01.UnitPrints'. -/
def unitPrintsUptoCard : Claim7 := { stood := { row := unitPrintsUptoRow, standIns := [], harness := (true, "e665d8ea0bb586c990392b12336a6e6675c6cb005a648d92cdcda6fb7ccfac11"), looks := true }, kinds := [], alts := [], laidByText := true, laidKinds := [.sentinel, .sentinel, .sentinel], laidTests := true, laidLooks := .later }
def UnitPrintsUptoCardSaid : Prop := Claim7.holds Tryd.pinned (.plain (OpenSpec.upto unitPrintsSpec)) unitPrintsUptoCard

/-- THE SECOND FORM's CARD OF 'gutterlaw01.UnitBack'. -/
def unitBackUptoCard : Claim7 := { stood := { row := unitBackUptoRow, standIns := [], harness := (true, "e665d8ea0bb586c990392b12336a6e6675c6cb005a648d92cdcda6fb7ccfac11"), looks := true }, kinds := [], alts := [], laidByText := true, laidKinds := [.sentinel, .sentinel, .sentinel], laidTests := true, laidLooks := .later }
def UnitBackUptoCardSaid : Prop := Claim7.holds Tryd.pinned (.plain (OpenSpec.upto unitBackSpec)) unitBackUptoCard

/-- THE SECOND FORM's CARD OF 'gutterlaw01.UnitSigns'. -/
def unitSignsUptoCard : Claim7 := { stood := { row := unitSignsUptoRow, standIns := [], harness := (true, "e665d8ea0bb586c990392b12336a6e6675c6cb005a648d92cdcda6fb7ccfac11"), looks := true }, kinds := [], alts := [], laidByText := true, laidKinds := [.sentinel, .sentinel, .sentinel], laidTests := true, laidLooks := .later }
def UnitSignsUptoCardSaid : Prop := Claim7.holds Tryd.pinned (.plain (OpenSpec.upto unitSignsSpec)) unitSignsUptoCard

/-- THE SECOND FORM's CARD OF 'gutterlaw01.UnitDivides'. -/
def unitDividesUptoCard : Claim7 := { stood := { row := unitDividesUptoRow, standIns := [], harness := (true, "e665d8ea0bb586c990392b12336a6e6675c6cb005a648d92cdcda6fb7ccfac11"), looks := true }, kinds := [], alts := [], laidByText := true, laidKinds := [.sentinel, .sentinel, .sentinel], laidTests := true, laidLooks := .later }
def UnitDividesUptoCardSaid : Prop := Claim7.holds Tryd.pinned (.plain (OpenSpec.upto unitDividesSpec)) unitDividesUptoCard

/-- THE SECOND FORM's CARD OF 'gutterlaw01.UnitReckons'. -/
def unitReckonsUptoCard : Claim7 := { stood := { row := unitReckonsUptoRow, standIns := [], harness := (true, "e665d8ea0bb586c990392b12336a6e6675c6cb005a648d92cdcda6fb7ccfac11"), looks := true }, kinds := [], alts := [], laidByText := true, laidKinds := [.sentinel, .sentinel, .sentinel], laidTests := true, laidLooks := .later }
def UnitReckonsUptoCardSaid : Prop := Claim7.holds Tryd.pinned (.plain (OpenSpec.upto unitReckonsSpec)) unitReckonsUptoCard

/-- THE SECOND FORM's CARD OF 'gutterlaw01.UnitSums'. -/
def unitSumsUptoCard : Claim7 := { stood := { row := unitSumsUptoRow, standIns := [], harness := (true, "e665d8ea0bb586c990392b12336a6e6675c6cb005a648d92cdcda6fb7ccfac11"), looks := true }, kinds := [], alts := [], laidByText := true, laidKinds := [.sentinel, .sentinel, .sentinel], laidTests := true, laidLooks := .later }
def UnitSumsUptoCardSaid : Prop := Claim7.holds Tryd.pinned (.plain (OpenSpec.upto unitSumsSpec)) unitSumsUptoCard

/-- THE SECOND FORM's CARD OF 'gutterlaw01.UnitTurns'. -/
def unitTurnsUptoCard : Claim7 := { stood := { row := unitTurnsUptoRow, standIns := [], harness := (true, "e665d8ea0bb586c990392b12336a6e6675c6cb005a648d92cdcda6fb7ccfac11"), looks := true }, kinds := [], alts := [], laidByText := true, laidKinds := [.sentinel, .sentinel, .sentinel], laidTests := true, laidLooks := .later }
def UnitTurnsUptoCardSaid : Prop := Claim7.holds Tryd.pinned (.plain (OpenSpec.upto unitTurnsSpec)) unitTurnsUptoCard
end Rows
end Go.Proofs.YtlpkjjeihbdocaaDoor
