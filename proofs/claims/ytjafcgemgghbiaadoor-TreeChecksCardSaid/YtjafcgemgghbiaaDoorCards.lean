/-
  DERIVED. GIVEN WITH THE SEED: THE CARDS: each row of YtjafcgemgghbiaaDoorRows.lean that lists a variable, with what it lists TIED to the program's text (the seventh form; the later family's looks); each row that meets fmt, with fmt's text TOLD by the authors' own Lean function (tested against real Go, not proved from fmt's source: count such statements apart). THE CARD IS WHAT COUNTS. Prove the row's statement (the work); the ties are given (YtjafcgemgghbiaaDoorTie.lean); close each card by the builder's one call (the guide's Derived/Test/ToyasCard.lean, 'card_holds'). Laid BY PROGRAM, IN A SANDBOX (cutbox-door.mjs). By AI agents, Wed Nov 11 2026. No macro, syntax, notation, axiom, sorry.
-/
import Derived.Test.YtjafcgemgghbiaaDoorRows
import GoSem.ClaimSeven
namespace Go.Proofs.YtjafcgemgghbiaaDoor
namespace Rows

/-- THE TIED CARD OF 'gutterlaw05.TreeOrders'. -/
def treeOrdersCard : Claim7 := { stood := { row := treeOrdersRow, standIns := [], harness := (true, "ba44b2bd59246c8ee4ad268116993cd19fbe0b57c99862fb58e05ddfab9d8030"), looks := true }, kinds := [], alts := [], laidByText := true, laidKinds := [.handle, .sentinel, .sentinel, .sentinel, .sentinel], laidTests := true, laidLooks := .later }
def TreeOrdersCardSaid : Prop := Claim7.holds Tryd.pinned (.plain (OpenSpec.ofChange treeOrdersSpec)) treeOrdersCard

/-- THE TIED CARD OF 'gutterlaw05.TreeBelow'. -/
def treeBelowCard : Claim7 := { stood := { row := treeBelowRow, standIns := [], harness := (true, "ba44b2bd59246c8ee4ad268116993cd19fbe0b57c99862fb58e05ddfab9d8030"), looks := true }, kinds := [], alts := [], laidByText := true, laidKinds := [.handle, .sentinel, .sentinel, .sentinel, .sentinel], laidTests := true, laidLooks := .later }
def TreeBelowCardSaid : Prop := Claim7.holds Tryd.pinned (.plain (OpenSpec.ofChange treeBelowSpec)) treeBelowCard

/-- THE TIED CARD OF 'gutterlaw05.TreeDeeper'. -/
def treeDeeperCard : Claim7 := { stood := { row := treeDeeperRow, standIns := [], harness := (true, "ba44b2bd59246c8ee4ad268116993cd19fbe0b57c99862fb58e05ddfab9d8030"), looks := true }, kinds := [], alts := [], laidByText := true, laidKinds := [.handle, .sentinel, .sentinel, .sentinel, .sentinel], laidTests := true, laidLooks := .later }
def TreeDeeperCardSaid : Prop := Claim7.holds Tryd.pinned (.plain (OpenSpec.ofChange treeDeeperSpec)) treeDeeperCard

/-- THE TIED CARD OF 'gutterlaw05.TreeChains'. -/
def treeChainsCard : Claim7 := { stood := { row := treeChainsRow, standIns := [], harness := (true, "ba44b2bd59246c8ee4ad268116993cd19fbe0b57c99862fb58e05ddfab9d8030"), looks := true }, kinds := [], alts := [], laidByText := true, laidKinds := [.handle, .sentinel, .sentinel, .sentinel, .sentinel], laidTests := true, laidLooks := .later }
def TreeChainsCardSaid : Prop := Claim7.holds Tryd.pinned (.plain (OpenSpec.ofChange treeChainsSpec)) treeChainsCard

/-- THE TIED CARD OF 'gutterlaw05.TreeKids'. -/
def treeKidsCard : Claim7 := { stood := { row := treeKidsRow, standIns := [], harness := (true, "ba44b2bd59246c8ee4ad268116993cd19fbe0b57c99862fb58e05ddfab9d8030"), looks := true }, kinds := [], alts := [], laidByText := true, laidKinds := [.handle, .sentinel, .sentinel, .sentinel, .sentinel], laidTests := true, laidLooks := .later }
def TreeKidsCardSaid : Prop := Claim7.holds Tryd.pinned (.plain (OpenSpec.ofChange treeKidsSpec)) treeKidsCard

/-- THE TIED CARD OF 'gutterlaw05.TreeDeeps'. -/
def treeDeepsCard : Claim7 := { stood := { row := treeDeepsRow, standIns := [], harness := (true, "ba44b2bd59246c8ee4ad268116993cd19fbe0b57c99862fb58e05ddfab9d8030"), looks := true }, kinds := [], alts := [], laidByText := true, laidKinds := [.handle, .sentinel, .sentinel, .sentinel, .sentinel], laidTests := true, laidLooks := .later }
def TreeDeepsCardSaid : Prop := Claim7.holds Tryd.pinned (.plain (OpenSpec.ofChange treeDeepsSpec)) treeDeepsCard

/-- THE TIED CARD OF 'gutterlaw05.TreeChecks'. -/
def treeChecksCard : Claim7 := { stood := { row := treeChecksRow, standIns := [], harness := (true, "ba44b2bd59246c8ee4ad268116993cd19fbe0b57c99862fb58e05ddfab9d8030"), looks := true }, kinds := [], alts := [], laidByText := true, laidKinds := [.handle, .sentinel, .sentinel, .sentinel, .sentinel], laidTests := true, laidLooks := .later }
def TreeChecksCardSaid : Prop := Claim7.holds Tryd.pinned (.plain (OpenSpec.ofChange treeChecksSpec)) treeChecksCard

/-- THE SECOND FORM's CARD OF 'gutterlaw05.TreeOrders'. -/
def treeOrdersUptoCard : Claim7 := { stood := { row := treeOrdersUptoRow, standIns := [], harness := (true, "ba44b2bd59246c8ee4ad268116993cd19fbe0b57c99862fb58e05ddfab9d8030"), looks := true }, kinds := [], alts := [], laidByText := true, laidKinds := [.handle, .sentinel, .sentinel, .sentinel, .sentinel], laidTests := true, laidLooks := .later }
def TreeOrdersUptoCardSaid : Prop := Claim7.holds Tryd.pinned (.plain (OpenSpec.upto treeOrdersSpec)) treeOrdersUptoCard

/-- THE SECOND FORM's CARD OF 'gutterlaw05.TreeBelow'. -/
def treeBelowUptoCard : Claim7 := { stood := { row := treeBelowUptoRow, standIns := [], harness := (true, "ba44b2bd59246c8ee4ad268116993cd19fbe0b57c99862fb58e05ddfab9d8030"), looks := true }, kinds := [], alts := [], laidByText := true, laidKinds := [.handle, .sentinel, .sentinel, .sentinel, .sentinel], laidTests := true, laidLooks := .later }
def TreeBelowUptoCardSaid : Prop := Claim7.holds Tryd.pinned (.plain (OpenSpec.upto treeBelowSpec)) treeBelowUptoCard

/-- THE SECOND FORM's CARD OF 'gutterlaw05.TreeDeeper'. -/
def treeDeeperUptoCard : Claim7 := { stood := { row := treeDeeperUptoRow, standIns := [], harness := (true, "ba44b2bd59246c8ee4ad268116993cd19fbe0b57c99862fb58e05ddfab9d8030"), looks := true }, kinds := [], alts := [], laidByText := true, laidKinds := [.handle, .sentinel, .sentinel, .sentinel, .sentinel], laidTests := true, laidLooks := .later }
def TreeDeeperUptoCardSaid : Prop := Claim7.holds Tryd.pinned (.plain (OpenSpec.upto treeDeeperSpec)) treeDeeperUptoCard

/-- THE SECOND FORM's CARD OF 'gutterlaw05.TreeChains'. -/
def treeChainsUptoCard : Claim7 := { stood := { row := treeChainsUptoRow, standIns := [], harness := (true, "ba44b2bd59246c8ee4ad268116993cd19fbe0b57c99862fb58e05ddfab9d8030"), looks := true }, kinds := [], alts := [], laidByText := true, laidKinds := [.handle, .sentinel, .sentinel, .sentinel, .sentinel], laidTests := true, laidLooks := .later }
def TreeChainsUptoCardSaid : Prop := Claim7.holds Tryd.pinned (.plain (OpenSpec.upto treeChainsSpec)) treeChainsUptoCard

/-- THE SECOND FORM's CARD OF 'gutterlaw05.TreeKids'. -/
def treeKidsUptoCard : Claim7 := { stood := { row := treeKidsUptoRow, standIns := [], harness := (true, "ba44b2bd59246c8ee4ad268116993cd19fbe0b57c99862fb58e05ddfab9d8030"), looks := true }, kinds := [], alts := [], laidByText := true, laidKinds := [.handle, .sentinel, .sentinel, .sentinel, .sentinel], laidTests := true, laidLooks := .later }
def TreeKidsUptoCardSaid : Prop := Claim7.holds Tryd.pinned (.plain (OpenSpec.upto treeKidsSpec)) treeKidsUptoCard

/-- THE SECOND FORM's CARD OF 'gutterlaw05.TreeDeeps'. -/
def treeDeepsUptoCard : Claim7 := { stood := { row := treeDeepsUptoRow, standIns := [], harness := (true, "ba44b2bd59246c8ee4ad268116993cd19fbe0b57c99862fb58e05ddfab9d8030"), looks := true }, kinds := [], alts := [], laidByText := true, laidKinds := [.handle, .sentinel, .sentinel, .sentinel, .sentinel], laidTests := true, laidLooks := .later }
def TreeDeepsUptoCardSaid : Prop := Claim7.holds Tryd.pinned (.plain (OpenSpec.upto treeDeepsSpec)) treeDeepsUptoCard

/-- THE SECOND FORM's CARD OF 'gutterlaw05.TreeChecks'. -/
def treeChecksUptoCard : Claim7 := { stood := { row := treeChecksUptoRow, standIns := [], harness := (true, "ba44b2bd59246c8ee4ad268116993cd19fbe0b57c99862fb58e05ddfab9d8030"), looks := true }, kinds := [], alts := [], laidByText := true, laidKinds := [.handle, .sentinel, .sentinel, .sentinel, .sentinel], laidTests := true, laidLooks := .later }
def TreeChecksUptoCardSaid : Prop := Claim7.holds Tryd.pinned (.plain (OpenSpec.upto treeChecksSpec)) treeChecksUptoCard
end Rows
end Go.Proofs.YtjafcgemgghbiaaDoor
