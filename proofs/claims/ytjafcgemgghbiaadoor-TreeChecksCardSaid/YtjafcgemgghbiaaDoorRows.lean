/-
  NARROWER THAN 'FOR EVERY INPUT', by the rows' own cells (each row's printed sentence says how): TreeOrders: laid · TreeBelow: laid · TreeDeeper: laid · TreeChains: laid · TreeKids: laid · TreeDeeps: laid · TreeChecks: laid.
  DERIVED. THE GIVEN ROWS OF THIS SEAT. 7 by the template 'for every input the law returns true; each argument reads behind the call as it read before'; 0 by the template 'total and deterministic' (their statements: YtjafcgemgghbiaaDoorTotals.lean).
  GIVEN WITH THE SEED: the statements are not yours to turn. If you find one false, say at which input.
  Laid BY PROGRAM, IN A SANDBOX (cutbox-rows.mjs): the forced cells as the released guide's own fill.sh prints them over the translation 223f43854c9c6012… (all of the seat's roots in one cut). By AI agents, Wed Nov 11 2026. No macro, syntax, notation, axiom, sorry.
-/
import Derived.Test.YtjafcgemgghbiaaDoorChecked
import GoSem.Claim
import GoSem.ClaimJoined
import GoSem.ClaimMapViews
import Derived.JoinedTies
import Derived.KernelRfl
namespace Go.Proofs.YtjafcgemgghbiaaDoor
/- THE CELL 'sum', in the pinned program and in every row, IS THE sha256 OF THE DUMP (.gsa) THAT YtjafcgemgghbiaaDoorProg.lean LOADS. Nothing in Lean hashes anything: it is a label: what it is worth is what the hold of that sum in a sandbox is worth. -/
noncomputable def Tryd.pinned : Pinned := { name := "ytjafcgemgghbiaadoor", sum := "223f43854c9c6012be7698a856f6ba7485fdd5d8bdb1074984b8d0b614bda1e1", checked := Tryd.checked }
namespace Rows
def none {H : Type} : Left H := { results := [], args := [] }

/- WHAT THE LISTED PACKAGE-LEVEL VARIABLES READ AS WHEN THE CALL BEGINS. Each datum BY PROGRAM (the guide's laid-datum.mjs) off the statement by which the dump's own 'gosem.cut.vars' lays the variable. In a bare row this is a premise. The card (YtjafcgemgghbiaaDoorCards.lean) ties it to the program's text. -/
def laid_errors_errorType {H : Type} : DataW H := .iface "internal/reflectlite.rtype" (.agg [.ptr (.lit (.string [101, 114, 114, 111, 114]))])
def laid_gutter_tree_errTree {H : Type} : DataW H := .iface "*errors.errorString" (.ptr (.agg [.lit (.string [110, 111, 32, 110, 111, 100, 101])]))
def laid_gutter_tree_errDeep {H : Type} : DataW H := .iface "*errors.errorString" (.ptr (.agg [.lit (.string [116, 111, 111, 32, 100, 101, 101, 112])]))
def laid_gutter_tree_errMany {H : Type} : DataW H := .iface "*errors.errorString" (.ptr (.agg [.lit (.string [116, 111, 111, 32, 109, 97, 110, 121])]))
def laid_gutter_tree_errNode {H : Type} : DataW H := .iface "*errors.errorString" (.ptr (.agg [.lit (.string [110, 111, 32, 115, 117, 99, 104, 32, 110, 111, 100, 101])]))

/-- 'gutterlaw05.TreeOrders': WHATEVER THE INPUT: true; the input reads as it did. -/
def treeOrdersSpec : ChangeSpec := { name := "treeOrders", fn := fun _ => fun
  | [d] => { results := [.lit (.bool true)], args := [d] }
  | _ => none }
def treeOrdersRow : OpenClaim := { program := "ytjafcgemgghbiaadoor", sum := "223f43854c9c6012be7698a856f6ba7485fdd5d8bdb1074984b8d0b614bda1e1", func := "gutter/gutterlaw05.TreeOrders", spec := "treeOrders", inPlace := ["internal/reflectlite.ValueOf", "(internal/reflectlite.Value).Type", "(internal/reflectlite.Value).IsNil", "internal/reflectlite.TypeOf", "(internal/reflectlite.Value).Elem", "(internal/reflectlite.Value).Set"], unfollowed := true, recurses := true, named := ["gutter/tree.errNode", "gutter/tree.errMany", "gutter/tree.errTree", "gutter/tree.errDeep", "errors.errorType"], apart := false, laid := [("errors.errorType", laid_errors_errorType), ("gutter/tree.errTree", laid_gutter_tree_errTree), ("gutter/tree.errDeep", laid_gutter_tree_errDeep), ("gutter/tree.errMany", laid_gutter_tree_errMany), ("gutter/tree.errNode", laid_gutter_tree_errNode)] }
def TreeOrdersSaid : Prop := treeOrdersRow.holds Tryd.pinned (OpenSpec.ofChange treeOrdersSpec)

/-- ITS FALSE NEIGHBOUR: 'it returns false'. Refute it at one input. -/
def treeOrdersWrong : ChangeSpec := { name := "treeOrders", fn := fun _ => fun
  | [d] => { results := [.lit (.bool false)], args := [d] }
  | _ => none }
def TreeOrdersWrongFalsely : Prop := treeOrdersRow.holds Tryd.pinned (OpenSpec.ofChange treeOrdersWrong)

/-- 'gutterlaw05.TreeBelow': WHATEVER THE INPUT: true; the input reads as it did. -/
def treeBelowSpec : ChangeSpec := { name := "treeBelow", fn := fun _ => fun
  | [d1, d2] => { results := [.lit (.bool true)], args := [d1, d2] }
  | _ => none }
def treeBelowRow : OpenClaim := { program := "ytjafcgemgghbiaadoor", sum := "223f43854c9c6012be7698a856f6ba7485fdd5d8bdb1074984b8d0b614bda1e1", func := "gutter/gutterlaw05.TreeBelow", spec := "treeBelow", inPlace := ["internal/reflectlite.ValueOf", "(internal/reflectlite.Value).Type", "(internal/reflectlite.Value).IsNil", "internal/reflectlite.TypeOf", "(internal/reflectlite.Value).Elem", "(internal/reflectlite.Value).Set"], unfollowed := true, recurses := true, named := ["gutter/tree.errNode", "gutter/tree.errMany", "gutter/tree.errTree", "gutter/tree.errDeep", "errors.errorType"], apart := false, laid := [("errors.errorType", laid_errors_errorType), ("gutter/tree.errTree", laid_gutter_tree_errTree), ("gutter/tree.errDeep", laid_gutter_tree_errDeep), ("gutter/tree.errMany", laid_gutter_tree_errMany), ("gutter/tree.errNode", laid_gutter_tree_errNode)] }
def TreeBelowSaid : Prop := treeBelowRow.holds Tryd.pinned (OpenSpec.ofChange treeBelowSpec)

/-- ITS FALSE NEIGHBOUR: 'it returns false'. Refute it at one input. -/
def treeBelowWrong : ChangeSpec := { name := "treeBelow", fn := fun _ => fun
  | [d1, d2] => { results := [.lit (.bool false)], args := [d1, d2] }
  | _ => none }
def TreeBelowWrongFalsely : Prop := treeBelowRow.holds Tryd.pinned (OpenSpec.ofChange treeBelowWrong)

/-- 'gutterlaw05.TreeDeeper': WHATEVER THE INPUT: true; the input reads as it did. -/
def treeDeeperSpec : ChangeSpec := { name := "treeDeeper", fn := fun _ => fun
  | [d1, d2] => { results := [.lit (.bool true)], args := [d1, d2] }
  | _ => none }
def treeDeeperRow : OpenClaim := { program := "ytjafcgemgghbiaadoor", sum := "223f43854c9c6012be7698a856f6ba7485fdd5d8bdb1074984b8d0b614bda1e1", func := "gutter/gutterlaw05.TreeDeeper", spec := "treeDeeper", inPlace := ["internal/reflectlite.ValueOf", "(internal/reflectlite.Value).Type", "(internal/reflectlite.Value).IsNil", "internal/reflectlite.TypeOf", "(internal/reflectlite.Value).Elem", "(internal/reflectlite.Value).Set"], unfollowed := true, recurses := true, named := ["gutter/tree.errNode", "gutter/tree.errMany", "gutter/tree.errTree", "gutter/tree.errDeep", "errors.errorType"], apart := false, laid := [("errors.errorType", laid_errors_errorType), ("gutter/tree.errTree", laid_gutter_tree_errTree), ("gutter/tree.errDeep", laid_gutter_tree_errDeep), ("gutter/tree.errMany", laid_gutter_tree_errMany), ("gutter/tree.errNode", laid_gutter_tree_errNode)] }
def TreeDeeperSaid : Prop := treeDeeperRow.holds Tryd.pinned (OpenSpec.ofChange treeDeeperSpec)

/-- ITS FALSE NEIGHBOUR: 'it returns false'. Refute it at one input. -/
def treeDeeperWrong : ChangeSpec := { name := "treeDeeper", fn := fun _ => fun
  | [d1, d2] => { results := [.lit (.bool false)], args := [d1, d2] }
  | _ => none }
def TreeDeeperWrongFalsely : Prop := treeDeeperRow.holds Tryd.pinned (OpenSpec.ofChange treeDeeperWrong)

/-- 'gutterlaw05.TreeChains': WHATEVER THE INPUT: true; the input reads as it did. -/
def treeChainsSpec : ChangeSpec := { name := "treeChains", fn := fun _ => fun
  | [d] => { results := [.lit (.bool true)], args := [d] }
  | _ => none }
def treeChainsRow : OpenClaim := { program := "ytjafcgemgghbiaadoor", sum := "223f43854c9c6012be7698a856f6ba7485fdd5d8bdb1074984b8d0b614bda1e1", func := "gutter/gutterlaw05.TreeChains", spec := "treeChains", inPlace := ["internal/reflectlite.ValueOf", "(internal/reflectlite.Value).Type", "(internal/reflectlite.Value).IsNil", "internal/reflectlite.TypeOf", "(internal/reflectlite.Value).Elem", "(internal/reflectlite.Value).Set"], unfollowed := true, recurses := true, named := ["gutter/tree.errNode", "gutter/tree.errMany", "gutter/tree.errTree", "gutter/tree.errDeep", "errors.errorType"], apart := false, laid := [("errors.errorType", laid_errors_errorType), ("gutter/tree.errTree", laid_gutter_tree_errTree), ("gutter/tree.errDeep", laid_gutter_tree_errDeep), ("gutter/tree.errMany", laid_gutter_tree_errMany), ("gutter/tree.errNode", laid_gutter_tree_errNode)] }
def TreeChainsSaid : Prop := treeChainsRow.holds Tryd.pinned (OpenSpec.ofChange treeChainsSpec)

/-- ITS FALSE NEIGHBOUR: 'it returns false'. Refute it at one input. -/
def treeChainsWrong : ChangeSpec := { name := "treeChains", fn := fun _ => fun
  | [d] => { results := [.lit (.bool false)], args := [d] }
  | _ => none }
def TreeChainsWrongFalsely : Prop := treeChainsRow.holds Tryd.pinned (OpenSpec.ofChange treeChainsWrong)

/-- 'gutterlaw05.TreeKids': WHATEVER THE INPUT: true; the input reads as it did. -/
def treeKidsSpec : ChangeSpec := { name := "treeKids", fn := fun _ => fun
  | [d1, d2, d3] => { results := [.lit (.bool true)], args := [d1, d2, d3] }
  | _ => none }
def treeKidsRow : OpenClaim := { program := "ytjafcgemgghbiaadoor", sum := "223f43854c9c6012be7698a856f6ba7485fdd5d8bdb1074984b8d0b614bda1e1", func := "gutter/gutterlaw05.TreeKids", spec := "treeKids", inPlace := ["internal/reflectlite.ValueOf", "(internal/reflectlite.Value).Type", "(internal/reflectlite.Value).IsNil", "internal/reflectlite.TypeOf", "(internal/reflectlite.Value).Elem", "(internal/reflectlite.Value).Set"], unfollowed := true, recurses := true, named := ["gutter/tree.errNode", "gutter/tree.errMany", "gutter/tree.errTree", "gutter/tree.errDeep", "errors.errorType"], apart := false, laid := [("errors.errorType", laid_errors_errorType), ("gutter/tree.errTree", laid_gutter_tree_errTree), ("gutter/tree.errDeep", laid_gutter_tree_errDeep), ("gutter/tree.errMany", laid_gutter_tree_errMany), ("gutter/tree.errNode", laid_gutter_tree_errNode)] }
def TreeKidsSaid : Prop := treeKidsRow.holds Tryd.pinned (OpenSpec.ofChange treeKidsSpec)

/-- ITS FALSE NEIGHBOUR: 'it returns false'. Refute it at one input. -/
def treeKidsWrong : ChangeSpec := { name := "treeKids", fn := fun _ => fun
  | [d1, d2, d3] => { results := [.lit (.bool false)], args := [d1, d2, d3] }
  | _ => none }
def TreeKidsWrongFalsely : Prop := treeKidsRow.holds Tryd.pinned (OpenSpec.ofChange treeKidsWrong)

/-- 'gutterlaw05.TreeDeeps': WHATEVER THE INPUT: true; the input reads as it did. -/
def treeDeepsSpec : ChangeSpec := { name := "treeDeeps", fn := fun _ => fun
  | [d1, d2] => { results := [.lit (.bool true)], args := [d1, d2] }
  | _ => none }
def treeDeepsRow : OpenClaim := { program := "ytjafcgemgghbiaadoor", sum := "223f43854c9c6012be7698a856f6ba7485fdd5d8bdb1074984b8d0b614bda1e1", func := "gutter/gutterlaw05.TreeDeeps", spec := "treeDeeps", inPlace := ["internal/reflectlite.ValueOf", "(internal/reflectlite.Value).Type", "(internal/reflectlite.Value).IsNil", "internal/reflectlite.TypeOf", "(internal/reflectlite.Value).Elem", "(internal/reflectlite.Value).Set"], unfollowed := true, recurses := true, named := ["gutter/tree.errNode", "gutter/tree.errMany", "gutter/tree.errTree", "gutter/tree.errDeep", "errors.errorType"], apart := false, laid := [("errors.errorType", laid_errors_errorType), ("gutter/tree.errTree", laid_gutter_tree_errTree), ("gutter/tree.errDeep", laid_gutter_tree_errDeep), ("gutter/tree.errMany", laid_gutter_tree_errMany), ("gutter/tree.errNode", laid_gutter_tree_errNode)] }
def TreeDeepsSaid : Prop := treeDeepsRow.holds Tryd.pinned (OpenSpec.ofChange treeDeepsSpec)

/-- ITS FALSE NEIGHBOUR: 'it returns false'. Refute it at one input. -/
def treeDeepsWrong : ChangeSpec := { name := "treeDeeps", fn := fun _ => fun
  | [d1, d2] => { results := [.lit (.bool false)], args := [d1, d2] }
  | _ => none }
def TreeDeepsWrongFalsely : Prop := treeDeepsRow.holds Tryd.pinned (OpenSpec.ofChange treeDeepsWrong)

/-- 'gutterlaw05.TreeChecks': WHATEVER THE INPUT: true; the input reads as it did. -/
def treeChecksSpec : ChangeSpec := { name := "treeChecks", fn := fun _ => fun
  | [d1, d2, d3] => { results := [.lit (.bool true)], args := [d1, d2, d3] }
  | _ => none }
def treeChecksRow : OpenClaim := { program := "ytjafcgemgghbiaadoor", sum := "223f43854c9c6012be7698a856f6ba7485fdd5d8bdb1074984b8d0b614bda1e1", func := "gutter/gutterlaw05.TreeChecks", spec := "treeChecks", inPlace := ["internal/reflectlite.ValueOf", "(internal/reflectlite.Value).Type", "(internal/reflectlite.Value).IsNil", "internal/reflectlite.TypeOf", "(internal/reflectlite.Value).Elem", "(internal/reflectlite.Value).Set"], unfollowed := true, recurses := true, named := ["gutter/tree.errNode", "gutter/tree.errMany", "gutter/tree.errTree", "gutter/tree.errDeep", "errors.errorType"], apart := false, laid := [("errors.errorType", laid_errors_errorType), ("gutter/tree.errTree", laid_gutter_tree_errTree), ("gutter/tree.errDeep", laid_gutter_tree_errDeep), ("gutter/tree.errMany", laid_gutter_tree_errMany), ("gutter/tree.errNode", laid_gutter_tree_errNode)] }
def TreeChecksSaid : Prop := treeChecksRow.holds Tryd.pinned (OpenSpec.ofChange treeChecksSpec)

/-- ITS FALSE NEIGHBOUR: 'it returns false'. Refute it at one input. -/
def treeChecksWrong : ChangeSpec := { name := "treeChecks", fn := fun _ => fun
  | [d1, d2, d3] => { results := [.lit (.bool false)], args := [d1, d2, d3] }
  | _ => none }
def TreeChecksWrongFalsely : Prop := treeChecksRow.holds Tryd.pinned (OpenSpec.ofChange treeChecksWrong)

/- THE SECOND FORM. 'bulk': how many values and letters a reading holds, each counted each time it is reached (what is shared counts as often as it is met; a slice's spare places count too). A statement '..UptoSaid' is the law's where the arguments, and the package variables that the reading takes, are together of bulk at most 1048576: NARROWER than '..Said'. Prove '..Said' where nothing that the law and all that it calls make is longer than what came in: it says more and counts as full. Else prove '..UptoSaid'. A law counts once. -/
mutual
def uptoBulk {H : Type} : DataW H → Nat
  | .lit (.string bytes) => bytes.length + 1
  | .lit _ => 1
  | .nil => 1
  | .ptr d => uptoBulk d + 1
  | .slice elems spare => uptoBulkAll elems + uptoBulkAll spare + 1
  | .agg parts => uptoBulkAll parts + 1
  | .iface _ d => uptoBulk d + 1
  | .map entries => uptoBulkEntries entries + 1
  | .held _ => 1
def uptoBulkAll {H : Type} : List (DataW H) → Nat
  | [] => 0
  | d :: r => uptoBulk d + uptoBulkAll r
def uptoBulkEntries {H : Type} : List (Lit × DataW H) → Nat
  | [] => 0
  | x :: r => uptoBulkEntry x + uptoBulkEntries r
def uptoBulkEntry {H : Type} : Lit × DataW H → Nat
  | (.string bytes, d) => bytes.length + uptoBulk d + 1
  | (_, d) => uptoBulk d + 1
 end
def uptoSmall : (H : Type) → List (DataW H) → Bool := fun _ ds => decide (uptoBulkAll ds ≤ 1048576)
def OpenSpec.upto (s : _root_.Go.ChangeSpec) : _root_.Go.OpenSpec := { _root_.Go.OpenSpec.ofChange s with cond := some uptoSmall }

/-- 'gutterlaw05.TreeOrders', WHERE WHAT IT READS IS OF BULK AT MOST 1048576: true; the input reads as it did. -/
def treeOrdersUptoRow : OpenClaim := { program := "ytjafcgemgghbiaadoor", sum := "223f43854c9c6012be7698a856f6ba7485fdd5d8bdb1074984b8d0b614bda1e1", func := "gutter/gutterlaw05.TreeOrders", spec := "treeOrders", inPlace := ["internal/reflectlite.ValueOf", "(internal/reflectlite.Value).Type", "(internal/reflectlite.Value).IsNil", "internal/reflectlite.TypeOf", "(internal/reflectlite.Value).Elem", "(internal/reflectlite.Value).Set"], unfollowed := true, recurses := true, named := ["gutter/tree.errNode", "gutter/tree.errMany", "gutter/tree.errTree", "gutter/tree.errDeep", "errors.errorType"], apart := false, laid := [("errors.errorType", laid_errors_errorType), ("gutter/tree.errTree", laid_gutter_tree_errTree), ("gutter/tree.errDeep", laid_gutter_tree_errDeep), ("gutter/tree.errMany", laid_gutter_tree_errMany), ("gutter/tree.errNode", laid_gutter_tree_errNode)], narrowed := true }
def TreeOrdersUptoSaid : Prop := treeOrdersUptoRow.holds Tryd.pinned (OpenSpec.upto treeOrdersSpec)

/-- 'gutterlaw05.TreeBelow', WHERE WHAT IT READS IS OF BULK AT MOST 1048576: true; the input reads as it did. -/
def treeBelowUptoRow : OpenClaim := { program := "ytjafcgemgghbiaadoor", sum := "223f43854c9c6012be7698a856f6ba7485fdd5d8bdb1074984b8d0b614bda1e1", func := "gutter/gutterlaw05.TreeBelow", spec := "treeBelow", inPlace := ["internal/reflectlite.ValueOf", "(internal/reflectlite.Value).Type", "(internal/reflectlite.Value).IsNil", "internal/reflectlite.TypeOf", "(internal/reflectlite.Value).Elem", "(internal/reflectlite.Value).Set"], unfollowed := true, recurses := true, named := ["gutter/tree.errNode", "gutter/tree.errMany", "gutter/tree.errTree", "gutter/tree.errDeep", "errors.errorType"], apart := false, laid := [("errors.errorType", laid_errors_errorType), ("gutter/tree.errTree", laid_gutter_tree_errTree), ("gutter/tree.errDeep", laid_gutter_tree_errDeep), ("gutter/tree.errMany", laid_gutter_tree_errMany), ("gutter/tree.errNode", laid_gutter_tree_errNode)], narrowed := true }
def TreeBelowUptoSaid : Prop := treeBelowUptoRow.holds Tryd.pinned (OpenSpec.upto treeBelowSpec)

/-- 'gutterlaw05.TreeDeeper', WHERE WHAT IT READS IS OF BULK AT MOST 1048576: true; the input reads as it did. -/
def treeDeeperUptoRow : OpenClaim := { program := "ytjafcgemgghbiaadoor", sum := "223f43854c9c6012be7698a856f6ba7485fdd5d8bdb1074984b8d0b614bda1e1", func := "gutter/gutterlaw05.TreeDeeper", spec := "treeDeeper", inPlace := ["internal/reflectlite.ValueOf", "(internal/reflectlite.Value).Type", "(internal/reflectlite.Value).IsNil", "internal/reflectlite.TypeOf", "(internal/reflectlite.Value).Elem", "(internal/reflectlite.Value).Set"], unfollowed := true, recurses := true, named := ["gutter/tree.errNode", "gutter/tree.errMany", "gutter/tree.errTree", "gutter/tree.errDeep", "errors.errorType"], apart := false, laid := [("errors.errorType", laid_errors_errorType), ("gutter/tree.errTree", laid_gutter_tree_errTree), ("gutter/tree.errDeep", laid_gutter_tree_errDeep), ("gutter/tree.errMany", laid_gutter_tree_errMany), ("gutter/tree.errNode", laid_gutter_tree_errNode)], narrowed := true }
def TreeDeeperUptoSaid : Prop := treeDeeperUptoRow.holds Tryd.pinned (OpenSpec.upto treeDeeperSpec)

/-- 'gutterlaw05.TreeChains', WHERE WHAT IT READS IS OF BULK AT MOST 1048576: true; the input reads as it did. -/
def treeChainsUptoRow : OpenClaim := { program := "ytjafcgemgghbiaadoor", sum := "223f43854c9c6012be7698a856f6ba7485fdd5d8bdb1074984b8d0b614bda1e1", func := "gutter/gutterlaw05.TreeChains", spec := "treeChains", inPlace := ["internal/reflectlite.ValueOf", "(internal/reflectlite.Value).Type", "(internal/reflectlite.Value).IsNil", "internal/reflectlite.TypeOf", "(internal/reflectlite.Value).Elem", "(internal/reflectlite.Value).Set"], unfollowed := true, recurses := true, named := ["gutter/tree.errNode", "gutter/tree.errMany", "gutter/tree.errTree", "gutter/tree.errDeep", "errors.errorType"], apart := false, laid := [("errors.errorType", laid_errors_errorType), ("gutter/tree.errTree", laid_gutter_tree_errTree), ("gutter/tree.errDeep", laid_gutter_tree_errDeep), ("gutter/tree.errMany", laid_gutter_tree_errMany), ("gutter/tree.errNode", laid_gutter_tree_errNode)], narrowed := true }
def TreeChainsUptoSaid : Prop := treeChainsUptoRow.holds Tryd.pinned (OpenSpec.upto treeChainsSpec)

/-- 'gutterlaw05.TreeKids', WHERE WHAT IT READS IS OF BULK AT MOST 1048576: true; the input reads as it did. -/
def treeKidsUptoRow : OpenClaim := { program := "ytjafcgemgghbiaadoor", sum := "223f43854c9c6012be7698a856f6ba7485fdd5d8bdb1074984b8d0b614bda1e1", func := "gutter/gutterlaw05.TreeKids", spec := "treeKids", inPlace := ["internal/reflectlite.ValueOf", "(internal/reflectlite.Value).Type", "(internal/reflectlite.Value).IsNil", "internal/reflectlite.TypeOf", "(internal/reflectlite.Value).Elem", "(internal/reflectlite.Value).Set"], unfollowed := true, recurses := true, named := ["gutter/tree.errNode", "gutter/tree.errMany", "gutter/tree.errTree", "gutter/tree.errDeep", "errors.errorType"], apart := false, laid := [("errors.errorType", laid_errors_errorType), ("gutter/tree.errTree", laid_gutter_tree_errTree), ("gutter/tree.errDeep", laid_gutter_tree_errDeep), ("gutter/tree.errMany", laid_gutter_tree_errMany), ("gutter/tree.errNode", laid_gutter_tree_errNode)], narrowed := true }
def TreeKidsUptoSaid : Prop := treeKidsUptoRow.holds Tryd.pinned (OpenSpec.upto treeKidsSpec)

/-- 'gutterlaw05.TreeDeeps', WHERE WHAT IT READS IS OF BULK AT MOST 1048576: true; the input reads as it did. -/
def treeDeepsUptoRow : OpenClaim := { program := "ytjafcgemgghbiaadoor", sum := "223f43854c9c6012be7698a856f6ba7485fdd5d8bdb1074984b8d0b614bda1e1", func := "gutter/gutterlaw05.TreeDeeps", spec := "treeDeeps", inPlace := ["internal/reflectlite.ValueOf", "(internal/reflectlite.Value).Type", "(internal/reflectlite.Value).IsNil", "internal/reflectlite.TypeOf", "(internal/reflectlite.Value).Elem", "(internal/reflectlite.Value).Set"], unfollowed := true, recurses := true, named := ["gutter/tree.errNode", "gutter/tree.errMany", "gutter/tree.errTree", "gutter/tree.errDeep", "errors.errorType"], apart := false, laid := [("errors.errorType", laid_errors_errorType), ("gutter/tree.errTree", laid_gutter_tree_errTree), ("gutter/tree.errDeep", laid_gutter_tree_errDeep), ("gutter/tree.errMany", laid_gutter_tree_errMany), ("gutter/tree.errNode", laid_gutter_tree_errNode)], narrowed := true }
def TreeDeepsUptoSaid : Prop := treeDeepsUptoRow.holds Tryd.pinned (OpenSpec.upto treeDeepsSpec)

/-- 'gutterlaw05.TreeChecks', WHERE WHAT IT READS IS OF BULK AT MOST 1048576: true; the input reads as it did. -/
def treeChecksUptoRow : OpenClaim := { program := "ytjafcgemgghbiaadoor", sum := "223f43854c9c6012be7698a856f6ba7485fdd5d8bdb1074984b8d0b614bda1e1", func := "gutter/gutterlaw05.TreeChecks", spec := "treeChecks", inPlace := ["internal/reflectlite.ValueOf", "(internal/reflectlite.Value).Type", "(internal/reflectlite.Value).IsNil", "internal/reflectlite.TypeOf", "(internal/reflectlite.Value).Elem", "(internal/reflectlite.Value).Set"], unfollowed := true, recurses := true, named := ["gutter/tree.errNode", "gutter/tree.errMany", "gutter/tree.errTree", "gutter/tree.errDeep", "errors.errorType"], apart := false, laid := [("errors.errorType", laid_errors_errorType), ("gutter/tree.errTree", laid_gutter_tree_errTree), ("gutter/tree.errDeep", laid_gutter_tree_errDeep), ("gutter/tree.errMany", laid_gutter_tree_errMany), ("gutter/tree.errNode", laid_gutter_tree_errNode)], narrowed := true }
def TreeChecksUptoSaid : Prop := treeChecksUptoRow.holds Tryd.pinned (OpenSpec.upto treeChecksSpec)

end Rows
end Go.Proofs.YtjafcgemgghbiaaDoor
