/-
  DERIVED. GIVEN WITH THE SEED: THE CARDS: each row of YtjaoaakljcnmeaaDoorRows.lean that lists a variable, with what it lists TIED to the program's text (the seventh form; the later family's looks); each row that meets fmt, with fmt's text TOLD by the authors' own Lean function (tested against real Go, not proved from fmt's source: count such statements apart). THE CARD IS WHAT COUNTS. Prove the row's statement (the work); the ties are given (YtjaoaakljcnmeaaDoorTie.lean); close each card by the builder's one call (the guide's Derived/Test/ToyasCard.lean, 'card_holds'). Laid BY PROGRAM, IN A SANDBOX (cutbox-door.mjs). By AI agents, Wed Nov 11 2026. No macro, syntax, notation, axiom, sorry.
-/
import Derived.Test.YtjaoaakljcnmeaaDoorRows
import GoSem.ClaimSeven
namespace Go.Proofs.YtjaoaakljcnmeaaDoor
namespace Rows

/-- THE TIED CARD OF 'gutterlaw06.UsedApart'. -/
def usedApartCard : Claim7 := { stood := { row := usedApartRow, standIns := [], harness := (true, "973f8d3059dfea11df512e1531b7d394513f747f511907b68c29f9ce54f0a9ef"), looks := true }, kinds := [], alts := [], laidByText := true, laidKinds := [.handle, .sentinel, .sentinel, .sentinel], laidTests := true, laidLooks := .later }
def UsedApartCardSaid : Prop := Claim7.holds Tryd.pinned (.plain (OpenSpec.ofChange usedApartSpec)) usedApartCard

/-- THE TIED CARD OF 'gutterlaw06.UsedWide'. -/
def usedWideCard : Claim7 := { stood := { row := usedWideRow, standIns := [], harness := (true, "973f8d3059dfea11df512e1531b7d394513f747f511907b68c29f9ce54f0a9ef"), looks := true }, kinds := [], alts := [], laidByText := true, laidKinds := [.handle, .sentinel, .sentinel, .sentinel], laidTests := true, laidLooks := .later }
def UsedWideCardSaid : Prop := Claim7.holds Tryd.pinned (.plain (OpenSpec.ofChange usedWideSpec)) usedWideCard

/-- THE TIED CARD OF 'gutterlaw06.UsedLefts'. -/
def usedLeftsCard : Claim7 := { stood := { row := usedLeftsRow, standIns := [], harness := (true, "973f8d3059dfea11df512e1531b7d394513f747f511907b68c29f9ce54f0a9ef"), looks := true }, kinds := [], alts := [], laidByText := true, laidKinds := [.handle, .sentinel, .sentinel, .sentinel], laidTests := true, laidLooks := .later }
def UsedLeftsCardSaid : Prop := Claim7.holds Tryd.pinned (.plain (OpenSpec.ofChange usedLeftsSpec)) usedLeftsCard

/-- THE TIED CARD OF 'gutterlaw06.UsedFits'. -/
def usedFitsCard : Claim7 := { stood := { row := usedFitsRow, standIns := [], harness := (true, "973f8d3059dfea11df512e1531b7d394513f747f511907b68c29f9ce54f0a9ef"), looks := true }, kinds := [], alts := [], laidByText := true, laidKinds := [.handle, .sentinel, .sentinel, .sentinel], laidTests := true, laidLooks := .later }
def UsedFitsCardSaid : Prop := Claim7.holds Tryd.pinned (.plain (OpenSpec.ofChange usedFitsSpec)) usedFitsCard

/-- THE TIED CARD OF 'gutterlaw06.UsedMore'. -/
def usedMoreCard : Claim7 := { stood := { row := usedMoreRow, standIns := [], harness := (true, "973f8d3059dfea11df512e1531b7d394513f747f511907b68c29f9ce54f0a9ef"), looks := true }, kinds := [], alts := [], laidByText := true, laidKinds := [.handle, .sentinel, .sentinel, .sentinel], laidTests := true, laidLooks := .later }
def UsedMoreCardSaid : Prop := Claim7.holds Tryd.pinned (.plain (OpenSpec.ofChange usedMoreSpec)) usedMoreCard

/-- THE TIED CARD OF 'gutterlaw06.UsedTells'. -/
def usedTellsCard : Claim7 := { stood := { row := usedTellsRow, standIns := [], harness := (true, "973f8d3059dfea11df512e1531b7d394513f747f511907b68c29f9ce54f0a9ef"), looks := true }, kinds := [], alts := [], laidByText := true, laidKinds := [.handle, .sentinel, .sentinel, .sentinel], laidTests := true, laidLooks := .later }
def UsedTellsCardSaid : Prop := Claim7.holds Tryd.pinned (.plain (OpenSpec.ofChange usedTellsSpec)) usedTellsCard

/-- THE TIED CARD OF 'gutterlaw06.UsedSlack'. -/
def usedSlackCard : Claim7 := { stood := { row := usedSlackRow, standIns := [], harness := (true, "973f8d3059dfea11df512e1531b7d394513f747f511907b68c29f9ce54f0a9ef"), looks := true }, kinds := [], alts := [], laidByText := true, laidKinds := [.handle, .sentinel, .sentinel, .sentinel], laidTests := true, laidLooks := .later }
def UsedSlackCardSaid : Prop := Claim7.holds Tryd.pinned (.plain (OpenSpec.ofChange usedSlackSpec)) usedSlackCard

/-- THE SECOND FORM's CARD OF 'gutterlaw06.UsedApart'. -/
def usedApartUptoCard : Claim7 := { stood := { row := usedApartUptoRow, standIns := [], harness := (true, "973f8d3059dfea11df512e1531b7d394513f747f511907b68c29f9ce54f0a9ef"), looks := true }, kinds := [], alts := [], laidByText := true, laidKinds := [.handle, .sentinel, .sentinel, .sentinel], laidTests := true, laidLooks := .later }
def UsedApartUptoCardSaid : Prop := Claim7.holds Tryd.pinned (.plain (OpenSpec.upto usedApartSpec)) usedApartUptoCard

/-- THE SECOND FORM's CARD OF 'gutterlaw06.UsedWide'. -/
def usedWideUptoCard : Claim7 := { stood := { row := usedWideUptoRow, standIns := [], harness := (true, "973f8d3059dfea11df512e1531b7d394513f747f511907b68c29f9ce54f0a9ef"), looks := true }, kinds := [], alts := [], laidByText := true, laidKinds := [.handle, .sentinel, .sentinel, .sentinel], laidTests := true, laidLooks := .later }
def UsedWideUptoCardSaid : Prop := Claim7.holds Tryd.pinned (.plain (OpenSpec.upto usedWideSpec)) usedWideUptoCard

/-- THE SECOND FORM's CARD OF 'gutterlaw06.UsedLefts'. -/
def usedLeftsUptoCard : Claim7 := { stood := { row := usedLeftsUptoRow, standIns := [], harness := (true, "973f8d3059dfea11df512e1531b7d394513f747f511907b68c29f9ce54f0a9ef"), looks := true }, kinds := [], alts := [], laidByText := true, laidKinds := [.handle, .sentinel, .sentinel, .sentinel], laidTests := true, laidLooks := .later }
def UsedLeftsUptoCardSaid : Prop := Claim7.holds Tryd.pinned (.plain (OpenSpec.upto usedLeftsSpec)) usedLeftsUptoCard

/-- THE SECOND FORM's CARD OF 'gutterlaw06.UsedFits'. -/
def usedFitsUptoCard : Claim7 := { stood := { row := usedFitsUptoRow, standIns := [], harness := (true, "973f8d3059dfea11df512e1531b7d394513f747f511907b68c29f9ce54f0a9ef"), looks := true }, kinds := [], alts := [], laidByText := true, laidKinds := [.handle, .sentinel, .sentinel, .sentinel], laidTests := true, laidLooks := .later }
def UsedFitsUptoCardSaid : Prop := Claim7.holds Tryd.pinned (.plain (OpenSpec.upto usedFitsSpec)) usedFitsUptoCard

/-- THE SECOND FORM's CARD OF 'gutterlaw06.UsedMore'. -/
def usedMoreUptoCard : Claim7 := { stood := { row := usedMoreUptoRow, standIns := [], harness := (true, "973f8d3059dfea11df512e1531b7d394513f747f511907b68c29f9ce54f0a9ef"), looks := true }, kinds := [], alts := [], laidByText := true, laidKinds := [.handle, .sentinel, .sentinel, .sentinel], laidTests := true, laidLooks := .later }
def UsedMoreUptoCardSaid : Prop := Claim7.holds Tryd.pinned (.plain (OpenSpec.upto usedMoreSpec)) usedMoreUptoCard

/-- THE SECOND FORM's CARD OF 'gutterlaw06.UsedTells'. -/
def usedTellsUptoCard : Claim7 := { stood := { row := usedTellsUptoRow, standIns := [], harness := (true, "973f8d3059dfea11df512e1531b7d394513f747f511907b68c29f9ce54f0a9ef"), looks := true }, kinds := [], alts := [], laidByText := true, laidKinds := [.handle, .sentinel, .sentinel, .sentinel], laidTests := true, laidLooks := .later }
def UsedTellsUptoCardSaid : Prop := Claim7.holds Tryd.pinned (.plain (OpenSpec.upto usedTellsSpec)) usedTellsUptoCard

/-- THE SECOND FORM's CARD OF 'gutterlaw06.UsedSlack'. -/
def usedSlackUptoCard : Claim7 := { stood := { row := usedSlackUptoRow, standIns := [], harness := (true, "973f8d3059dfea11df512e1531b7d394513f747f511907b68c29f9ce54f0a9ef"), looks := true }, kinds := [], alts := [], laidByText := true, laidKinds := [.handle, .sentinel, .sentinel, .sentinel], laidTests := true, laidLooks := .later }
def UsedSlackUptoCardSaid : Prop := Claim7.holds Tryd.pinned (.plain (OpenSpec.upto usedSlackSpec)) usedSlackUptoCard
end Rows
end Go.Proofs.YtjaoaakljcnmeaaDoor
