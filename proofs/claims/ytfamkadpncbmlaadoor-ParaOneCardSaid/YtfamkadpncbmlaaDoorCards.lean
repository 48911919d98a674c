/-
  DERIVED. GIVEN WITH THE SEED: THE CARDS: each row of YtfamkadpncbmlaaDoorRows.lean that lists a variable, with what it lists TIED to the program's text (the seventh form; the later family's looks); each row that meets fmt, with fmt's text TOLD by the authors' own Lean function (tested against real Go, not proved from fmt's source: count such statements apart). THE CARD IS WHAT COUNTS. Prove the row's statement (the work); the ties are given (YtfamkadpncbmlaaDoorTie.lean); close each card by the builder's one call (the guide's Derived/Test/ToyasCard.lean, 'card_holds'). Laid BY PROGRAM, IN A SANDBOX (cutbox-door.mjs). By AI agents, Wed Nov 11 2026. No macro, syntax, notation, axiom, sorry.
-/
import Derived.Test.YtfamkadpncbmlaaDoorRows
import GoSem.ClaimSeven
namespace Go.Proofs.YtfamkadpncbmlaaDoor
namespace Rows

/-- THE TIED CARD OF 'gutterlaw09.ParaDeals'. -/
def paraDealsCard : Claim7 := { stood := { row := paraDealsRow, standIns := [], harness := (true, "6786054a9af9a08fa378405d7e8babc1a969ca298575e8abdd09339798a487db"), looks := true }, kinds := [], alts := [], laidByText := true, laidKinds := [.sentinel], laidTests := true, laidLooks := .later }
def ParaDealsCardSaid : Prop := Claim7.holds Tryd.pinned (.plain (OpenSpec.ofChange paraDealsSpec)) paraDealsCard

/-- THE TIED CARD OF 'gutterlaw09.ParaSums'. -/
def paraSumsCard : Claim7 := { stood := { row := paraSumsRow, standIns := [], harness := (true, "6786054a9af9a08fa378405d7e8babc1a969ca298575e8abdd09339798a487db"), looks := true }, kinds := [], alts := [], laidByText := true, laidKinds := [.sentinel], laidTests := true, laidLooks := .later }
def ParaSumsCardSaid : Prop := Claim7.holds Tryd.pinned (.plain (OpenSpec.ofChange paraSumsSpec)) paraSumsCard

/-- THE TIED CARD OF 'gutterlaw09.ParaBest'. -/
def paraBestCard : Claim7 := { stood := { row := paraBestRow, standIns := [], harness := (true, "6786054a9af9a08fa378405d7e8babc1a969ca298575e8abdd09339798a487db"), looks := true }, kinds := [], alts := [], laidByText := true, laidKinds := [.sentinel], laidTests := true, laidLooks := .later }
def ParaBestCardSaid : Prop := Claim7.holds Tryd.pinned (.plain (OpenSpec.ofChange paraBestSpec)) paraBestCard

/-- THE TIED CARD OF 'gutterlaw09.ParaOne'. -/
def paraOneCard : Claim7 := { stood := { row := paraOneRow, standIns := [], harness := (true, "6786054a9af9a08fa378405d7e8babc1a969ca298575e8abdd09339798a487db"), looks := true }, kinds := [], alts := [], laidByText := true, laidKinds := [.sentinel], laidTests := true, laidLooks := .later }
def ParaOneCardSaid : Prop := Claim7.holds Tryd.pinned (.plain (OpenSpec.ofChange paraOneSpec)) paraOneCard

/-- THE TIED CARD OF 'gutterlaw09.ParaTells'. -/
def paraTellsCard : Claim7 := { stood := { row := paraTellsRow, standIns := [], harness := (true, "6786054a9af9a08fa378405d7e8babc1a969ca298575e8abdd09339798a487db"), looks := true }, kinds := [], alts := [], laidByText := true, laidKinds := [.sentinel], laidTests := true, laidLooks := .later }
def ParaTellsCardSaid : Prop := Claim7.holds Tryd.pinned (.plain (OpenSpec.ofChange paraTellsSpec)) paraTellsCard

/-- THE TIED CARD OF 'gutterlaw09.ParaSplits'. -/
def paraSplitsCard : Claim7 := { stood := { row := paraSplitsRow, standIns := [], harness := (true, "6786054a9af9a08fa378405d7e8babc1a969ca298575e8abdd09339798a487db"), looks := true }, kinds := [], alts := [], laidByText := true, laidKinds := [.sentinel], laidTests := true, laidLooks := .later }
def ParaSplitsCardSaid : Prop := Claim7.holds Tryd.pinned (.plain (OpenSpec.ofChange paraSplitsSpec)) paraSplitsCard

/-- THE TIED CARD OF 'gutterlaw09.ParaKeep'. -/
def paraKeepCard : Claim7 := { stood := { row := paraKeepRow, standIns := [], harness := (true, "6786054a9af9a08fa378405d7e8babc1a969ca298575e8abdd09339798a487db"), looks := true }, kinds := [], alts := [], laidByText := true, laidKinds := [.sentinel], laidTests := true, laidLooks := .later }
def ParaKeepCardSaid : Prop := Claim7.holds Tryd.pinned (.plain (OpenSpec.ofChange paraKeepSpec)) paraKeepCard

/-- THE SECOND FORM's CARD OF 'gutterlaw09.ParaDeals'. -/
def paraDealsUptoCard : Claim7 := { stood := { row := paraDealsUptoRow, standIns := [], harness := (true, "6786054a9af9a08fa378405d7e8babc1a969ca298575e8abdd09339798a487db"), looks := true }, kinds := [], alts := [], laidByText := true, laidKinds := [.sentinel], laidTests := true, laidLooks := .later }
def ParaDealsUptoCardSaid : Prop := Claim7.holds Tryd.pinned (.plain (OpenSpec.upto paraDealsSpec)) paraDealsUptoCard

/-- THE SECOND FORM's CARD OF 'gutterlaw09.ParaSums'. -/
def paraSumsUptoCard : Claim7 := { stood := { row := paraSumsUptoRow, standIns := [], harness := (true, "6786054a9af9a08fa378405d7e8babc1a969ca298575e8abdd09339798a487db"), looks := true }, kinds := [], alts := [], laidByText := true, laidKinds := [.sentinel], laidTests := true, laidLooks := .later }
def ParaSumsUptoCardSaid : Prop := Claim7.holds Tryd.pinned (.plain (OpenSpec.upto paraSumsSpec)) paraSumsUptoCard

/-- THE SECOND FORM's CARD OF 'gutterlaw09.ParaBest'. -/
def paraBestUptoCard : Claim7 := { stood := { row := paraBestUptoRow, standIns := [], harness := (true, "6786054a9af9a08fa378405d7e8babc1a969ca298575e8abdd09339798a487db"), looks := true }, kinds := [], alts := [], laidByText := true, laidKinds := [.sentinel], laidTests := true, laidLooks := .later }
def ParaBestUptoCardSaid : Prop := Claim7.holds Tryd.pinned (.plain (OpenSpec.upto paraBestSpec)) paraBestUptoCard

/-- THE SECOND FORM's CARD OF 'gutterlaw09.ParaOne'. -/
def paraOneUptoCard : Claim7 := { stood := { row := paraOneUptoRow, standIns := [], harness := (true, "6786054a9af9a08fa378405d7e8babc1a969ca298575e8abdd09339798a487db"), looks := true }, kinds := [], alts := [], laidByText := true, laidKinds := [.sentinel], laidTests := true, laidLooks := .later }
def ParaOneUptoCardSaid : Prop := Claim7.holds Tryd.pinned (.plain (OpenSpec.upto paraOneSpec)) paraOneUptoCard

/-- THE SECOND FORM's CARD OF 'gutterlaw09.ParaTells'. -/
def paraTellsUptoCard : Claim7 := { stood := { row := paraTellsUptoRow, standIns := [], harness := (true, "6786054a9af9a08fa378405d7e8babc1a969ca298575e8abdd09339798a487db"), looks := true }, kinds := [], alts := [], laidByText := true, laidKinds := [.sentinel], laidTests := true, laidLooks := .later }
def ParaTellsUptoCardSaid : Prop := Claim7.holds Tryd.pinned (.plain (OpenSpec.upto paraTellsSpec)) paraTellsUptoCard

/-- THE SECOND FORM's CARD OF 'gutterlaw09.ParaSplits'. -/
def paraSplitsUptoCard : Claim7 := { stood := { row := paraSplitsUptoRow, standIns := [], harness := (true, "6786054a9af9a08fa378405d7e8babc1a969ca298575e8abdd09339798a487db"), looks := true }, kinds := [], alts := [], laidByText := true, laidKinds := [.sentinel], laidTests := true, laidLooks := .later }
def ParaSplitsUptoCardSaid : Prop := Claim7.holds Tryd.pinned (.plain (OpenSpec.upto paraSplitsSpec)) paraSplitsUptoCard

/-- THE SECOND FORM's CARD OF 'gutterlaw09.ParaKeep'. -/
def paraKeepUptoCard : Claim7 := { stood := { row := paraKeepUptoRow, standIns := [], harness := (true, "6786054a9af9a08fa378405d7e8babc1a969ca298575e8abdd09339798a487db"), looks := true }, kinds := [], alts := [], laidByText := true, laidKinds := [.sentinel], laidTests := true, laidLooks := .later }
def ParaKeepUptoCardSaid : Prop := Claim7.holds Tryd.pinned (.plain (OpenSpec.upto paraKeepSpec)) paraKeepUptoCard
end Rows
end Go.Proofs.YtfamkadpncbmlaaDoor
