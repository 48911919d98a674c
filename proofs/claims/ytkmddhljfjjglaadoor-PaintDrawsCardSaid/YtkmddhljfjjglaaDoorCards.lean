/-
  DERIVED. GIVEN WITH THE SEED: THE CARDS: each row of YtkmddhljfjjglaaDoorRows.lean that lists a variable, with what it lists TIED to the program's text (the seventh form; the later family's looks); each row that meets fmt, with fmt's text TOLD by the authors' own Lean function (tested against real Go, not proved from fmt's source: count such statements apart). THE CARD IS WHAT COUNTS. Prove the row's statement (the work); the ties are given (YtkmddhljfjjglaaDoorTie.lean); close each card by the builder's one call (the guide's Derived/Test/ToyasCard.lean, 'card_holds'). Laid BY PROGRAM, IN A SANDBOX (cutbox-door.mjs). By AI agents, Wed Nov 11 2026. No macro, syntax, notation, axiom, sorry.
-/
import Derived.Test.YtkmddhljfjjglaaDoorRows
import GoSem.ClaimSeven
namespace Go.Proofs.YtkmddhljfjjglaaDoor
namespace Rows

/-- THE TIED CARD OF 'gutterlaw18.PaintRules'. -/
def paintRulesCard : Claim7 := { stood := { row := paintRulesRow, standIns := [], harness := (true, "4d9d49346d6f557ac6e0801c195f902a3329a6418422e222cc9f137df7c4cb63"), looks := true }, kinds := [], alts := [], laidByText := true, laidKinds := [.data, .data, .data, .sentinel], laidTests := true, laidLooks := .later }
def PaintRulesCardSaid : Prop := Claim7.holds Tryd.pinned (.plain (OpenSpec.ofChange paintRulesSpec)) paintRulesCard

/-- THE TIED CARD OF 'gutterlaw18.PaintGaps'. -/
def paintGapsCard : Claim7 := { stood := { row := paintGapsRow, standIns := [], harness := (true, "4d9d49346d6f557ac6e0801c195f902a3329a6418422e222cc9f137df7c4cb63"), looks := true }, kinds := [], alts := [], laidByText := true, laidKinds := [.data, .data, .data, .sentinel], laidTests := true, laidLooks := .later }
def PaintGapsCardSaid : Prop := Claim7.holds Tryd.pinned (.plain (OpenSpec.ofChange paintGapsSpec)) paintGapsCard

/-- THE TIED CARD OF 'gutterlaw18.PaintOrder'. -/
def paintOrderCard : Claim7 := { stood := { row := paintOrderRow, standIns := [], harness := (true, "4d9d49346d6f557ac6e0801c195f902a3329a6418422e222cc9f137df7c4cb63"), looks := true }, kinds := [], alts := [], laidByText := true, laidKinds := [.data, .data, .data, .sentinel], laidTests := true, laidLooks := .later }
def PaintOrderCardSaid : Prop := Claim7.holds Tryd.pinned (.plain (OpenSpec.ofChange paintOrderSpec)) paintOrderCard

/-- THE TIED CARD OF 'gutterlaw18.PaintBounds'. -/
def paintBoundsCard : Claim7 := { stood := { row := paintBoundsRow, standIns := [], harness := (true, "4d9d49346d6f557ac6e0801c195f902a3329a6418422e222cc9f137df7c4cb63"), looks := true }, kinds := [], alts := [], laidByText := true, laidKinds := [.data, .data, .data, .sentinel], laidTests := true, laidLooks := .later }
def PaintBoundsCardSaid : Prop := Claim7.holds Tryd.pinned (.plain (OpenSpec.ofChange paintBoundsSpec)) paintBoundsCard

/-- THE TIED CARD OF 'gutterlaw18.PaintDraws'. -/
def paintDrawsCard : Claim7 := { stood := { row := paintDrawsRow, standIns := [], harness := (true, "4d9d49346d6f557ac6e0801c195f902a3329a6418422e222cc9f137df7c4cb63"), looks := true }, kinds := [], alts := [], laidByText := true, laidKinds := [.data, .data, .data, .sentinel], laidTests := true, laidLooks := .later }
def PaintDrawsCardSaid : Prop := Claim7.holds Tryd.pinned (.plain (OpenSpec.ofChange paintDrawsSpec)) paintDrawsCard

/-- THE TIED CARD OF 'gutterlaw18.PaintSeen'. -/
def paintSeenCard : Claim7 := { stood := { row := paintSeenRow, standIns := [], harness := (true, "4d9d49346d6f557ac6e0801c195f902a3329a6418422e222cc9f137df7c4cb63"), looks := true }, kinds := [], alts := [], laidByText := true, laidKinds := [.data, .data, .data, .sentinel], laidTests := true, laidLooks := .later }
def PaintSeenCardSaid : Prop := Claim7.holds Tryd.pinned (.plain (OpenSpec.ofChange paintSeenSpec)) paintSeenCard

/-- THE SECOND FORM's CARD OF 'gutterlaw18.PaintRules'. -/
def paintRulesUptoCard : Claim7 := { stood := { row := paintRulesUptoRow, standIns := [], harness := (true, "4d9d49346d6f557ac6e0801c195f902a3329a6418422e222cc9f137df7c4cb63"), looks := true }, kinds := [], alts := [], laidByText := true, laidKinds := [.data, .data, .data, .sentinel], laidTests := true, laidLooks := .later }
def PaintRulesUptoCardSaid : Prop := Claim7.holds Tryd.pinned (.plain (OpenSpec.upto paintRulesSpec)) paintRulesUptoCard

/-- THE SECOND FORM's CARD OF 'gutterlaw18.PaintGaps'. -/
def paintGapsUptoCard : Claim7 := { stood := { row := paintGapsUptoRow, standIns := [], harness := (true, "4d9d49346d6f557ac6e0801c195f902a3329a6418422e222cc9f137df7c4cb63"), looks := true }, kinds := [], alts := [], laidByText := true, laidKinds := [.data, .data, .data, .sentinel], laidTests := true, laidLooks := .later }
def PaintGapsUptoCardSaid : Prop := Claim7.holds Tryd.pinned (.plain (OpenSpec.upto paintGapsSpec)) paintGapsUptoCard

/-- THE SECOND FORM's CARD OF 'gutterlaw18.PaintOrder'. -/
def paintOrderUptoCard : Claim7 := { stood := { row := paintOrderUptoRow, standIns := [], harness := (true, "4d9d49346d6f557ac6e0801c195f902a3329a6418422e222cc9f137df7c4cb63"), looks := true }, kinds := [], alts := [], laidByText := true, laidKinds := [.data, .data, .data, .sentinel], laidTests := true, laidLooks := .later }
def PaintOrderUptoCardSaid : Prop := Claim7.holds Tryd.pinned (.plain (OpenSpec.upto paintOrderSpec)) paintOrderUptoCard

/-- THE SECOND FORM's CARD OF 'gutterlaw18.PaintBounds'. -/
def paintBoundsUptoCard : Claim7 := { stood := { row := paintBoundsUptoRow, standIns := [], harness := (true, "4d9d49346d6f557ac6e0801c195f902a3329a6418422e222cc9f137df7c4cb63"), looks := true }, kinds := [], alts := [], laidByText := true, laidKinds := [.data, .data, .data, .sentinel], laidTests := true, laidLooks := .later }
def PaintBoundsUptoCardSaid : Prop := Claim7.holds Tryd.pinned (.plain (OpenSpec.upto paintBoundsSpec)) paintBoundsUptoCard

/-- THE SECOND FORM's CARD OF 'gutterlaw18.PaintDraws'. -/
def paintDrawsUptoCard : Claim7 := { stood := { row := paintDrawsUptoRow, standIns := [], harness := (true, "4d9d49346d6f557ac6e0801c195f902a3329a6418422e222cc9f137df7c4cb63"), looks := true }, kinds := [], alts := [], laidByText := true, laidKinds := [.data, .data, .data, .sentinel], laidTests := true, laidLooks := .later }
def PaintDrawsUptoCardSaid : Prop := Claim7.holds Tryd.pinned (.plain (OpenSpec.upto paintDrawsSpec)) paintDrawsUptoCard

/-- THE SECOND FORM's CARD OF 'gutterlaw18.PaintSeen'. -/
def paintSeenUptoCard : Claim7 := { stood := { row := paintSeenUptoRow, standIns := [], harness := (true, "4d9d49346d6f557ac6e0801c195f902a3329a6418422e222cc9f137df7c4cb63"), looks := true }, kinds := [], alts := [], laidByText := true, laidKinds := [.data, .data, .data, .sentinel], laidTests := true, laidLooks := .later }
def PaintSeenUptoCardSaid : Prop := Claim7.holds Tryd.pinned (.plain (OpenSpec.upto paintSeenSpec)) paintSeenUptoCard
end Rows
end Go.Proofs.YtkmddhljfjjglaaDoor
