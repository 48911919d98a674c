/-
  DERIVED. GIVEN WITH THE SEED: THE CARDS: each row of YtdphijhebppeeaaDoorRows.lean that lists a variable, with what it lists TIED to the program's text (the seventh form; the later family's looks); each row that meets fmt, with fmt's text TOLD by the authors' own Lean function (tested against real Go, not proved from fmt's source: count such statements apart). THE CARD IS WHAT COUNTS. Prove the row's statement (the work); the ties are given (YtdphijhebppeeaaDoorTie.lean); close each card by the builder's one call (the guide's Derived/Test/ToyasCard.lean, 'card_holds'). Laid BY PROGRAM, IN A SANDBOX (cutbox-door.mjs). By AI agents, Wed Nov 11 2026. No macro, syntax, notation, axiom, sorry.
-/
import Derived.Test.YtdphijhebppeeaaDoorRows
import GoSem.ClaimSeven
namespace Go.Proofs.YtdphijhebppeeaaDoor
namespace Rows

/-- THE TIED CARD OF 'gutterlaw16.SegmentHosts'. -/
def segmentHostsCard : Claim7 := { stood := { row := segmentHostsRow, standIns := [], harness := (true, "0df220eec04b9f1f701e6a0679550bedfabcdf5d4d3ca953514b089dc27b3a76"), looks := true }, kinds := [], alts := [], laidByText := true, laidKinds := [.handle, .sentinel, .sentinel, .sentinel, .sentinel], laidTests := true, laidLooks := .later }
def SegmentHostsCardSaid : Prop := Claim7.holds Tryd.pinned (.plain (OpenSpec.ofChange segmentHostsSpec)) segmentHostsCard

/-- THE TIED CARD OF 'gutterlaw16.SegmentSpanners'. -/
def segmentSpannersCard : Claim7 := { stood := { row := segmentSpannersRow, standIns := [], harness := (true, "0df220eec04b9f1f701e6a0679550bedfabcdf5d4d3ca953514b089dc27b3a76"), looks := true }, kinds := [], alts := [], laidByText := true, laidKinds := [.handle, .sentinel, .sentinel, .sentinel, .sentinel], laidTests := true, laidLooks := .later }
def SegmentSpannersCardSaid : Prop := Claim7.holds Tryd.pinned (.plain (OpenSpec.ofChange segmentSpannersSpec)) segmentSpannersCard

/-- THE TIED CARD OF 'gutterlaw16.SegmentParts'. -/
def segmentPartsCard : Claim7 := { stood := { row := segmentPartsRow, standIns := [], harness := (true, "0df220eec04b9f1f701e6a0679550bedfabcdf5d4d3ca953514b089dc27b3a76"), looks := true }, kinds := [], alts := [], laidByText := true, laidKinds := [.handle, .sentinel, .sentinel, .sentinel, .sentinel], laidTests := true, laidLooks := .later }
def SegmentPartsCardSaid : Prop := Claim7.holds Tryd.pinned (.plain (OpenSpec.ofChange segmentPartsSpec)) segmentPartsCard

/-- THE TIED CARD OF 'gutterlaw16.SegmentTells'. -/
def segmentTellsCard : Claim7 := { stood := { row := segmentTellsRow, standIns := [], harness := (true, "0df220eec04b9f1f701e6a0679550bedfabcdf5d4d3ca953514b089dc27b3a76"), looks := true }, kinds := [], alts := [], laidByText := true, laidKinds := [.handle, .sentinel, .sentinel, .sentinel, .sentinel], laidTests := true, laidLooks := .later }
def SegmentTellsCardSaid : Prop := Claim7.holds Tryd.pinned (.plain (OpenSpec.ofChange segmentTellsSpec)) segmentTellsCard

/-- THE TIED CARD OF 'gutterlaw16.SegmentMakes'. -/
def segmentMakesCard : Claim7 := { stood := { row := segmentMakesRow, standIns := [], harness := (true, "0df220eec04b9f1f701e6a0679550bedfabcdf5d4d3ca953514b089dc27b3a76"), looks := true }, kinds := [], alts := [], laidByText := true, laidKinds := [.handle, .sentinel, .sentinel, .sentinel, .sentinel], laidTests := true, laidLooks := .later }
def SegmentMakesCardSaid : Prop := Claim7.holds Tryd.pinned (.plain (OpenSpec.ofChange segmentMakesSpec)) segmentMakesCard

/-- THE TIED CARD OF 'gutterlaw16.SegmentMultis'. -/
def segmentMultisCard : Claim7 := { stood := { row := segmentMultisRow, standIns := [], harness := (true, "0df220eec04b9f1f701e6a0679550bedfabcdf5d4d3ca953514b089dc27b3a76"), looks := true }, kinds := [], alts := [], laidByText := true, laidKinds := [.handle, .sentinel, .sentinel, .sentinel, .sentinel], laidTests := true, laidLooks := .later }
def SegmentMultisCardSaid : Prop := Claim7.holds Tryd.pinned (.plain (OpenSpec.ofChange segmentMultisSpec)) segmentMultisCard

/-- THE SECOND FORM's CARD OF 'gutterlaw16.SegmentHosts'. -/
def segmentHostsUptoCard : Claim7 := { stood := { row := segmentHostsUptoRow, standIns := [], harness := (true, "0df220eec04b9f1f701e6a0679550bedfabcdf5d4d3ca953514b089dc27b3a76"), looks := true }, kinds := [], alts := [], laidByText := true, laidKinds := [.handle, .sentinel, .sentinel, .sentinel, .sentinel], laidTests := true, laidLooks := .later }
def SegmentHostsUptoCardSaid : Prop := Claim7.holds Tryd.pinned (.plain (OpenSpec.upto segmentHostsSpec)) segmentHostsUptoCard

/-- THE SECOND FORM's CARD OF 'gutterlaw16.SegmentSpanners'. -/
def segmentSpannersUptoCard : Claim7 := { stood := { row := segmentSpannersUptoRow, standIns := [], harness := (true, "0df220eec04b9f1f701e6a0679550bedfabcdf5d4d3ca953514b089dc27b3a76"), looks := true }, kinds := [], alts := [], laidByText := true, laidKinds := [.handle, .sentinel, .sentinel, .sentinel, .sentinel], laidTests := true, laidLooks := .later }
def SegmentSpannersUptoCardSaid : Prop := Claim7.holds Tryd.pinned (.plain (OpenSpec.upto segmentSpannersSpec)) segmentSpannersUptoCard

/-- THE SECOND FORM's CARD OF 'gutterlaw16.SegmentParts'. -/
def segmentPartsUptoCard : Claim7 := { stood := { row := segmentPartsUptoRow, standIns := [], harness := (true, "0df220eec04b9f1f701e6a0679550bedfabcdf5d4d3ca953514b089dc27b3a76"), looks := true }, kinds := [], alts := [], laidByText := true, laidKinds := [.handle, .sentinel, .sentinel, .sentinel, .sentinel], laidTests := true, laidLooks := .later }
def SegmentPartsUptoCardSaid : Prop := Claim7.holds Tryd.pinned (.plain (OpenSpec.upto segmentPartsSpec)) segmentPartsUptoCard

/-- THE SECOND FORM's CARD OF 'gutterlaw16.SegmentTells'. -/
def segmentTellsUptoCard : Claim7 := { stood := { row := segmentTellsUptoRow, standIns := [], harness := (true, "0df220eec04b9f1f701e6a0679550bedfabcdf5d4d3ca953514b089dc27b3a76"), looks := true }, kinds := [], alts := [], laidByText := true, laidKinds := [.handle, .sentinel, .sentinel, .sentinel, .sentinel], laidTests := true, laidLooks := .later }
def SegmentTellsUptoCardSaid : Prop := Claim7.holds Tryd.pinned (.plain (OpenSpec.upto segmentTellsSpec)) segmentTellsUptoCard

/-- THE SECOND FORM's CARD OF 'gutterlaw16.SegmentMakes'. -/
def segmentMakesUptoCard : Claim7 := { stood := { row := segmentMakesUptoRow, standIns := [], harness := (true, "0df220eec04b9f1f701e6a0679550bedfabcdf5d4d3ca953514b089dc27b3a76"), looks := true }, kinds := [], alts := [], laidByText := true, laidKinds := [.handle, .sentinel, .sentinel, .sentinel, .sentinel], laidTests := true, laidLooks := .later }
def SegmentMakesUptoCardSaid : Prop := Claim7.holds Tryd.pinned (.plain (OpenSpec.upto segmentMakesSpec)) segmentMakesUptoCard

/-- THE SECOND FORM's CARD OF 'gutterlaw16.SegmentMultis'. -/
def segmentMultisUptoCard : Claim7 := { stood := { row := segmentMultisUptoRow, standIns := [], harness := (true, "0df220eec04b9f1f701e6a0679550bedfabcdf5d4d3ca953514b089dc27b3a76"), looks := true }, kinds := [], alts := [], laidByText := true, laidKinds := [.handle, .sentinel, .sentinel, .sentinel, .sentinel], laidTests := true, laidLooks := .later }
def SegmentMultisUptoCardSaid : Prop := Claim7.holds Tryd.pinned (.plain (OpenSpec.upto segmentMultisSpec)) segmentMultisUptoCard
end Rows
end Go.Proofs.YtdphijhebppeeaaDoor
