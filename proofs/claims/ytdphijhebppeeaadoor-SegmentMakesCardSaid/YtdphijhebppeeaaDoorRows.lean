/-
  NARROWER THAN 'FOR EVERY INPUT', by the rows' own cells (each row's printed sentence says how): SegmentHosts: laid · SegmentSpanners: laid · SegmentParts: laid · SegmentTells: laid · SegmentMakes: laid · SegmentMultis: laid.
  DERIVED. THE GIVEN ROWS OF THIS SEAT. 6 by the template 'for every input the law returns true; each argument reads behind the call as it read before'; 0 by the template 'total and deterministic' (their statements: YtdphijhebppeeaaDoorTotals.lean).
  GIVEN WITH THE SEED: the statements are not yours to turn. If you find one false, say at which input.
  Laid BY PROGRAM, IN A SANDBOX (cutbox-rows.mjs): the forced cells as the released guide's own fill.sh prints them over the translation cc3710023e9e96ac… (all of the seat's roots in one cut). By AI agents, Wed Nov 11 2026. No macro, syntax, notation, axiom, sorry.
-/
import Derived.Test.YtdphijhebppeeaaDoorChecked
import GoSem.Claim
import GoSem.ClaimJoined
import GoSem.ClaimMapViews
import Derived.JoinedTies
import Derived.KernelRfl
namespace Go.Proofs.YtdphijhebppeeaaDoor
/- THE CELL 'sum', in the pinned program and in every row, IS THE sha256 OF THE DUMP (.gsa) THAT YtdphijhebppeeaaDoorProg.lean LOADS. Nothing in Lean hashes anything: it is a label: what it is worth is what the hold of that sum in a sandbox is worth. -/
noncomputable def Tryd.pinned : Pinned := { name := "ytdphijhebppeeaadoor", sum := "cc3710023e9e96ac498e56bba9d4877597548f19f7778aea0c547a1b69c6b2a8", checked := Tryd.checked }
namespace Rows
def none {H : Type} : Left H := { results := [], args := [] }

/- WHAT THE LISTED PACKAGE-LEVEL VARIABLES READ AS WHEN THE CALL BEGINS. Each datum BY PROGRAM (the guide's laid-datum.mjs) off the statement by which the dump's own 'gosem.cut.vars' lays the variable. In a bare row this is a premise. The card (YtdphijhebppeeaaDoorCards.lean) ties it to the program's text. -/
def laid_errors_errorType {H : Type} : DataW H := .iface "internal/reflectlite.rtype" (.agg [.ptr (.lit (.string [101, 114, 114, 111, 114]))])
def laid_gutter_tree_errTree {H : Type} : DataW H := .iface "*errors.errorString" (.ptr (.agg [.lit (.string [110, 111, 32, 110, 111, 100, 101])]))
def laid_gutter_tree_errDeep {H : Type} : DataW H := .iface "*errors.errorString" (.ptr (.agg [.lit (.string [116, 111, 111, 32, 100, 101, 101, 112])]))
def laid_gutter_tree_errMany {H : Type} : DataW H := .iface "*errors.errorString" (.ptr (.agg [.lit (.string [116, 111, 111, 32, 109, 97, 110, 121])]))
def laid_gutter_tree_errNode {H : Type} : DataW H := .iface "*errors.errorString" (.ptr (.agg [.lit (.string [110, 111, 32, 115, 117, 99, 104, 32, 110, 111, 100, 101])]))

/-- 'gutterlaw16.SegmentHosts': WHATEVER THE INPUT: true; the input reads as it did. -/
def segmentHostsSpec : ChangeSpec := { name := "segmentHosts", fn := fun _ => fun
  | [d1, d2] => { results := [.lit (.bool true)], args := [d1, d2] }
  | _ => none }
def segmentHostsRow : OpenClaim := { program := "ytdphijhebppeeaadoor", sum := "cc3710023e9e96ac498e56bba9d4877597548f19f7778aea0c547a1b69c6b2a8", func := "gutter/gutterlaw16.SegmentHosts", spec := "segmentHosts", inPlace := ["internal/reflectlite.ValueOf", "(internal/reflectlite.Value).Type", "(internal/reflectlite.Value).IsNil", "internal/reflectlite.TypeOf", "(internal/reflectlite.Value).Elem", "(internal/reflectlite.Value).Set"], unfollowed := true, recurses := true, named := ["gutter/tree.errMany", "gutter/tree.errTree", "gutter/tree.errDeep", "gutter/tree.errNode", "errors.errorType"], apart := false, laid := [("errors.errorType", laid_errors_errorType), ("gutter/tree.errTree", laid_gutter_tree_errTree), ("gutter/tree.errDeep", laid_gutter_tree_errDeep), ("gutter/tree.errMany", laid_gutter_tree_errMany), ("gutter/tree.errNode", laid_gutter_tree_errNode)] }
def SegmentHostsSaid : Prop := segmentHostsRow.holds Tryd.pinned (OpenSpec.ofChange segmentHostsSpec)

/-- ITS FALSE NEIGHBOUR: 'it returns false'. Refute it at one input. -/
def segmentHostsWrong : ChangeSpec := { name := "segmentHosts", fn := fun _ => fun
  | [d1, d2] => { results := [.lit (.bool false)], args := [d1, d2] }
  | _ => none }
def SegmentHostsWrongFalsely : Prop := segmentHostsRow.holds Tryd.pinned (OpenSpec.ofChange segmentHostsWrong)

/-- 'gutterlaw16.SegmentSpanners': WHATEVER THE INPUT: true; the input reads as it did. -/
def segmentSpannersSpec : ChangeSpec := { name := "segmentSpanners", fn := fun _ => fun
  | [d1, d2] => { results := [.lit (.bool true)], args := [d1, d2] }
  | _ => none }
def segmentSpannersRow : OpenClaim := { program := "ytdphijhebppeeaadoor", sum := "cc3710023e9e96ac498e56bba9d4877597548f19f7778aea0c547a1b69c6b2a8", func := "gutter/gutterlaw16.SegmentSpanners", spec := "segmentSpanners", inPlace := ["internal/reflectlite.ValueOf", "(internal/reflectlite.Value).Type", "(internal/reflectlite.Value).IsNil", "internal/reflectlite.TypeOf", "(internal/reflectlite.Value).Elem", "(internal/reflectlite.Value).Set"], unfollowed := true, recurses := true, named := ["gutter/tree.errMany", "gutter/tree.errTree", "gutter/tree.errDeep", "gutter/tree.errNode", "errors.errorType"], apart := false, laid := [("errors.errorType", laid_errors_errorType), ("gutter/tree.errTree", laid_gutter_tree_errTree), ("gutter/tree.errDeep", laid_gutter_tree_errDeep), ("gutter/tree.errMany", laid_gutter_tree_errMany), ("gutter/tree.errNode", laid_gutter_tree_errNode)] }
def SegmentSpannersSaid : Prop := segmentSpannersRow.holds Tryd.pinned (OpenSpec.ofChange segmentSpannersSpec)

/-- ITS FALSE NEIGHBOUR: 'it returns false'. Refute it at one input. -/
def segmentSpannersWrong : ChangeSpec := { name := "segmentSpanners", fn := fun _ => fun
  | [d1, d2] => { results := [.lit (.bool false)], args := [d1, d2] }
  | _ => none }
def SegmentSpannersWrongFalsely : Prop := segmentSpannersRow.holds Tryd.pinned (OpenSpec.ofChange segmentSpannersWrong)

/-- 'gutterlaw16.SegmentParts': WHATEVER THE INPUT: true; the input reads as it did. -/
def segmentPartsSpec : ChangeSpec := { name := "segmentParts", fn := fun _ => fun
  | [d1, d2] => { results := [.lit (.bool true)], args := [d1, d2] }
  | _ => none }
def segmentPartsRow : OpenClaim := { program := "ytdphijhebppeeaadoor", sum := "cc3710023e9e96ac498e56bba9d4877597548f19f7778aea0c547a1b69c6b2a8", func := "gutter/gutterlaw16.SegmentParts", spec := "segmentParts", inPlace := ["internal/reflectlite.ValueOf", "(internal/reflectlite.Value).Type", "(internal/reflectlite.Value).IsNil", "internal/reflectlite.TypeOf", "(internal/reflectlite.Value).Elem", "(internal/reflectlite.Value).Set"], unfollowed := true, recurses := true, named := ["gutter/tree.errMany", "gutter/tree.errTree", "gutter/tree.errDeep", "gutter/tree.errNode", "errors.errorType"], apart := false, laid := [("errors.errorType", laid_errors_errorType), ("gutter/tree.errTree", laid_gutter_tree_errTree), ("gutter/tree.errDeep", laid_gutter_tree_errDeep), ("gutter/tree.errMany", laid_gutter_tree_errMany), ("gutter/tree.errNode", laid_gutter_tree_errNode)] }
def SegmentPartsSaid : Prop := segmentPartsRow.holds Tryd.pinned (OpenSpec.ofChange segmentPartsSpec)

/-- ITS FALSE NEIGHBOUR: 'it returns false'. Refute it at one input. -/
def segmentPartsWrong : ChangeSpec := { name := "segmentParts", fn := fun _ => fun
  | [d1, d2] => { results := [.lit (.bool false)], args := [d1, d2] }
  | _ => none }
def SegmentPartsWrongFalsely : Prop := segmentPartsRow.holds Tryd.pinned (OpenSpec.ofChange segmentPartsWrong)

/-- 'gutterlaw16.SegmentTells': WHATEVER THE INPUT: true; the input reads as it did. -/
def segmentTellsSpec : ChangeSpec := { name := "segmentTells", fn := fun _ => fun
  | [d1, d2] => { results := [.lit (.bool true)], args := [d1, d2] }
  | _ => none }
def segmentTellsRow : OpenClaim := { program := "ytdphijhebppeeaadoor", sum := "cc3710023e9e96ac498e56bba9d4877597548f19f7778aea0c547a1b69c6b2a8", func := "gutter/gutterlaw16.SegmentTells", spec := "segmentTells", inPlace := ["internal/reflectlite.ValueOf", "(internal/reflectlite.Value).Type", "(internal/reflectlite.Value).IsNil", "internal/reflectlite.TypeOf", "(internal/reflectlite.Value).Elem", "(internal/reflectlite.Value).Set"], unfollowed := true, recurses := true, named := ["gutter/tree.errMany", "gutter/tree.errTree", "gutter/tree.errDeep", "gutter/tree.errNode", "errors.errorType"], apart := false, laid := [("errors.errorType", laid_errors_errorType), ("gutter/tree.errTree", laid_gutter_tree_errTree), ("gutter/tree.errDeep", laid_gutter_tree_errDeep), ("gutter/tree.errMany", laid_gutter_tree_errMany), ("gutter/tree.errNode", laid_gutter_tree_errNode)] }
def SegmentTellsSaid : Prop := segmentTellsRow.holds Tryd.pinned (OpenSpec.ofChange segmentTellsSpec)

/-- ITS FALSE NEIGHBOUR: 'it returns false'. Refute it at one input. -/
def segmentTellsWrong : ChangeSpec := { name := "segmentTells", fn := fun _ => fun
  | [d1, d2] => { results := [.lit (.bool false)], args := [d1, d2] }
  | _ => none }
def SegmentTellsWrongFalsely : Prop := segmentTellsRow.holds Tryd.pinned (OpenSpec.ofChange segmentTellsWrong)

/-- 'gutterlaw16.SegmentMakes': WHATEVER THE INPUT: true; the input reads as it did. -/
def segmentMakesSpec : ChangeSpec := { name := "segmentMakes", fn := fun _ => fun
  | [d1, d2] => { results := [.lit (.bool true)], args := [d1, d2] }
  | _ => none }
def segmentMakesRow : OpenClaim := { program := "ytdphijhebppeeaadoor", sum := "cc3710023e9e96ac498e56bba9d4877597548f19f7778aea0c547a1b69c6b2a8", func := "gutter/gutterlaw16.SegmentMakes", spec := "segmentMakes", inPlace := ["internal/reflectlite.ValueOf", "(internal/reflectlite.Value).Type", "(internal/reflectlite.Value).IsNil", "internal/reflectlite.TypeOf", "(internal/reflectlite.Value).Elem", "(internal/reflectlite.Value).Set"], unfollowed := true, recurses := true, named := ["gutter/tree.errMany", "gutter/tree.errTree", "gutter/tree.errDeep", "gutter/tree.errNode", "errors.errorType"], apart := false, laid := [("errors.errorType", laid_errors_errorType), ("gutter/tree.errTree", laid_gutter_tree_errTree), ("gutter/tree.errDeep", laid_gutter_tree_errDeep), ("gutter/tree.errMany", laid_gutter_tree_errMany), ("gutter/tree.errNode", laid_gutter_tree_errNode)] }
def SegmentMakesSaid : Prop := segmentMakesRow.holds Tryd.pinned (OpenSpec.ofChange segmentMakesSpec)

/-- ITS FALSE NEIGHBOUR: 'it returns false'. Refute it at one input. -/
def segmentMakesWrong : ChangeSpec := { name := "segmentMakes", fn := fun _ => fun
  | [d1, d2] => { results := [.lit (.bool false)], args := [d1, d2] }
  | _ => none }
def SegmentMakesWrongFalsely : Prop := segmentMakesRow.holds Tryd.pinned (OpenSpec.ofChange segmentMakesWrong)

/-- 'gutterlaw16.SegmentMultis': WHATEVER THE INPUT: true; the input reads as it did. -/
def segmentMultisSpec : ChangeSpec := { name := "segmentMultis", fn := fun _ => fun
  | [d] => { results := [.lit (.bool true)], args := [d] }
  | _ => none }
def segmentMultisRow : OpenClaim := { program := "ytdphijhebppeeaadoor", sum := "cc3710023e9e96ac498e56bba9d4877597548f19f7778aea0c547a1b69c6b2a8", func := "gutter/gutterlaw16.SegmentMultis", spec := "segmentMultis", inPlace := ["internal/reflectlite.ValueOf", "(internal/reflectlite.Value).Type", "(internal/reflectlite.Value).IsNil", "internal/reflectlite.TypeOf", "(internal/reflectlite.Value).Elem", "(internal/reflectlite.Value).Set"], unfollowed := true, recurses := true, named := ["gutter/tree.errMany", "gutter/tree.errTree", "gutter/tree.errDeep", "gutter/tree.errNode", "errors.errorType"], apart := false, laid := [("errors.errorType", laid_errors_errorType), ("gutter/tree.errTree", laid_gutter_tree_errTree), ("gutter/tree.errDeep", laid_gutter_tree_errDeep), ("gutter/tree.errMany", laid_gutter_tree_errMany), ("gutter/tree.errNode", laid_gutter_tree_errNode)] }
def SegmentMultisSaid : Prop := segmentMultisRow.holds Tryd.pinned (OpenSpec.ofChange segmentMultisSpec)

/-- ITS FALSE NEIGHBOUR: 'it returns false'. Refute it at one input. -/
def segmentMultisWrong : ChangeSpec := { name := "segmentMultis", fn := fun _ => fun
  | [d] => { results := [.lit (.bool false)], args := [d] }
  | _ => none }
def SegmentMultisWrongFalsely : Prop := segmentMultisRow.holds Tryd.pinned (OpenSpec.ofChange segmentMultisWrong)

/- THE SECOND FORM. 'bulk': how many values and letters a reading holds, each counted each time it is reached (what is shared counts as often as it is met; a slice's spare places count too). A statement '..UptoSaid' is the law's where the arguments, and the package variables that the reading takes, are together of bulk at most 1048576: NARROWER than '..Said'. Prove '..Said' where nothing that the law and all that it calls make is longer than what came in: it says more and counts as full. Else prove '..UptoSaid'. A law counts once. -/
mutual
def uptoBulk {H : Type} : DataW H → Nat
  | .lit (.string bytes) => bytes.length + 1
  | .lit _ => 1
  | .nil => 1
  | .ptr d => uptoBulk d + 1
  | .slice elems spare => uptoBulkAll elems + uptoBulkAll spare + 1
  | .agg parts => uptoBulkAll parts + 1
  | .iface _ d => uptoBulk d + 1
  | .map entries => uptoBulkEntries entries + 1
  | .held _ => 1
def uptoBulkAll {H : Type} : List (DataW H) → Nat
  | [] => 0
  | d :: r => uptoBulk d + uptoBulkAll r
def uptoBulkEntries {H : Type} : List (Lit × DataW H) → Nat
  | [] => 0
  | x :: r => uptoBulkEntry x + uptoBulkEntries r
def uptoBulkEntry {H : Type} : Lit × DataW H → Nat
  | (.string bytes, d) => bytes.length + uptoBulk d + 1
  | (_, d) => uptoBulk d + 1
 end
def uptoSmall : (H : Type) → List (DataW H) → Bool := fun _ ds => decide (uptoBulkAll ds ≤ 1048576)
def OpenSpec.upto (s : _root_.Go.ChangeSpec) : _root_.Go.OpenSpec := { _root_.Go.OpenSpec.ofChange s with cond := some uptoSmall }

/-- 'gutterlaw16.SegmentHosts', WHERE WHAT IT READS IS OF BULK AT MOST 1048576: true; the input reads as it did. -/
def segmentHostsUptoRow : OpenClaim := { program := "ytdphijhebppeeaadoor", sum := "cc3710023e9e96ac498e56bba9d4877597548f19f7778aea0c547a1b69c6b2a8", func := "gutter/gutterlaw16.SegmentHosts", spec := "segmentHosts", inPlace := ["internal/reflectlite.ValueOf", "(internal/reflectlite.Value).Type", "(internal/reflectlite.Value).IsNil", "internal/reflectlite.TypeOf", "(internal/reflectlite.Value).Elem", "(internal/reflectlite.Value).Set"], unfollowed := true, recurses := true, named := ["gutter/tree.errMany", "gutter/tree.errTree", "gutter/tree.errDeep", "gutter/tree.errNode", "errors.errorType"], apart := false, laid := [("errors.errorType", laid_errors_errorType), ("gutter/tree.errTree", laid_gutter_tree_errTree), ("gutter/tree.errDeep", laid_gutter_tree_errDeep), ("gutter/tree.errMany", laid_gutter_tree_errMany), ("gutter/tree.errNode", laid_gutter_tree_errNode)], narrowed := true }
def SegmentHostsUptoSaid : Prop := segmentHostsUptoRow.holds Tryd.pinned (OpenSpec.upto segmentHostsSpec)

/-- 'gutterlaw16.SegmentSpanners', WHERE WHAT IT READS IS OF BULK AT MOST 1048576: true; the input reads as it did. -/
def segmentSpannersUptoRow : OpenClaim := { program := "ytdphijhebppeeaadoor", sum := "cc3710023e9e96ac498e56bba9d4877597548f19f7778aea0c547a1b69c6b2a8", func := "gutter/gutterlaw16.SegmentSpanners", spec := "segmentSpanners", inPlace := ["internal/reflectlite.ValueOf", "(internal/reflectlite.Value).Type", "(internal/reflectlite.Value).IsNil", "internal/reflectlite.TypeOf", "(internal/reflectlite.Value).Elem", "(internal/reflectlite.Value).Set"], unfollowed := true, recurses := true, named := ["gutter/tree.errMany", "gutter/tree.errTree", "gutter/tree.errDeep", "gutter/tree.errNode", "errors.errorType"], apart := false, laid := [("errors.errorType", laid_errors_errorType), ("gutter/tree.errTree", laid_gutter_tree_errTree), ("gutter/tree.errDeep", laid_gutter_tree_errDeep), ("gutter/tree.errMany", laid_gutter_tree_errMany), ("gutter/tree.errNode", laid_gutter_tree_errNode)], narrowed := true }
def SegmentSpannersUptoSaid : Prop := segmentSpannersUptoRow.holds Tryd.pinned (OpenSpec.upto segmentSpannersSpec)

/-- 'gutterlaw16.SegmentParts', WHERE WHAT IT READS IS OF BULK AT MOST 1048576: true; the input reads as it did. -/
def segmentPartsUptoRow : OpenClaim := { program := "ytdphijhebppeeaadoor", sum := "cc3710023e9e96ac498e56bba9d4877597548f19f7778aea0c547a1b69c6b2a8", func := "gutter/gutterlaw16.SegmentParts", spec := "segmentParts", inPlace := ["internal/reflectlite.ValueOf", "(internal/reflectlite.Value).Type", "(internal/reflectlite.Value).IsNil", "internal/reflectlite.TypeOf", "(internal/reflectlite.Value).Elem", "(internal/reflectlite.Value).Set"], unfollowed := true, recurses := true, named := ["gutter/tree.errMany", "gutter/tree.errTree", "gutter/tree.errDeep", "gutter/tree.errNode", "errors.errorType"], apart := false, laid := [("errors.errorType", laid_errors_errorType), ("gutter/tree.errTree", laid_gutter_tree_errTree), ("gutter/tree.errDeep", laid_gutter_tree_errDeep), ("gutter/tree.errMany", laid_gutter_tree_errMany), ("gutter/tree.errNode", laid_gutter_tree_errNode)], narrowed := true }
def SegmentPartsUptoSaid : Prop := segmentPartsUptoRow.holds Tryd.pinned (OpenSpec.upto segmentPartsSpec)

/-- 'gutterlaw16.SegmentTells', WHERE WHAT IT READS IS OF BULK AT MOST 1048576: true; the input reads as it did. -/
def segmentTellsUptoRow : OpenClaim := { program := "ytdphijhebppeeaadoor", sum := "cc3710023e9e96ac498e56bba9d4877597548f19f7778aea0c547a1b69c6b2a8", func := "gutter/gutterlaw16.SegmentTells", spec := "segmentTells", inPlace := ["internal/reflectlite.ValueOf", "(internal/reflectlite.Value).Type", "(internal/reflectlite.Value).IsNil", "internal/reflectlite.TypeOf", "(internal/reflectlite.Value).Elem", "(internal/reflectlite.Value).Set"], unfollowed := true, recurses := true, named := ["gutter/tree.errMany", "gutter/tree.errTree", "gutter/tree.errDeep", "gutter/tree.errNode", "errors.errorType"], apart := false, laid := [("errors.errorType", laid_errors_errorType), ("gutter/tree.errTree", laid_gutter_tree_errTree), ("gutter/tree.errDeep", laid_gutter_tree_errDeep), ("gutter/tree.errMany", laid_gutter_tree_errMany), ("gutter/tree.errNode", laid_gutter_tree_errNode)], narrowed := true }
def SegmentTellsUptoSaid : Prop := segmentTellsUptoRow.holds Tryd.pinned (OpenSpec.upto segmentTellsSpec)

/-- 'gutterlaw16.SegmentMakes', WHERE WHAT IT READS IS OF BULK AT MOST 1048576: true; the input reads as it did. -/
def segmentMakesUptoRow : OpenClaim := { program := "ytdphijhebppeeaadoor", sum := "cc3710023e9e96ac498e56bba9d4877597548f19f7778aea0c547a1b69c6b2a8", func := "gutter/gutterlaw16.SegmentMakes", spec := "segmentMakes", inPlace := ["internal/reflectlite.ValueOf", "(internal/reflectlite.Value).Type", "(internal/reflectlite.Value).IsNil", "internal/reflectlite.TypeOf", "(internal/reflectlite.Value).Elem", "(internal/reflectlite.Value).Set"], unfollowed := true, recurses := true, named := ["gutter/tree.errMany", "gutter/tree.errTree", "gutter/tree.errDeep", "gutter/tree.errNode", "errors.errorType"], apart := false, laid := [("errors.errorType", laid_errors_errorType), ("gutter/tree.errTree", laid_gutter_tree_errTree), ("gutter/tree.errDeep", laid_gutter_tree_errDeep), ("gutter/tree.errMany", laid_gutter_tree_errMany), ("gutter/tree.errNode", laid_gutter_tree_errNode)], narrowed := true }
def SegmentMakesUptoSaid : Prop := segmentMakesUptoRow.holds Tryd.pinned (OpenSpec.upto segmentMakesSpec)

/-- 'gutterlaw16.SegmentMultis', WHERE WHAT IT READS IS OF BULK AT MOST 1048576: true; the input reads as it did. -/
def segmentMultisUptoRow : OpenClaim := { program := "ytdphijhebppeeaadoor", sum := "cc3710023e9e96ac498e56bba9d4877597548f19f7778aea0c547a1b69c6b2a8", func := "gutter/gutterlaw16.SegmentMultis", spec := "segmentMultis", inPlace := ["internal/reflectlite.ValueOf", "(internal/reflectlite.Value).Type", "(internal/reflectlite.Value).IsNil", "internal/reflectlite.TypeOf", "(internal/reflectlite.Value).Elem", "(internal/reflectlite.Value).Set"], unfollowed := true, recurses := true, named := ["gutter/tree.errMany", "gutter/tree.errTree", "gutter/tree.errDeep", "gutter/tree.errNode", "errors.errorType"], apart := false, laid := [("errors.errorType", laid_errors_errorType), ("gutter/tree.errTree", laid_gutter_tree_errTree), ("gutter/tree.errDeep", laid_gutter_tree_errDeep), ("gutter/tree.errMany", laid_gutter_tree_errMany), ("gutter/tree.errNode", laid_gutter_tree_errNode)], narrowed := true }
def SegmentMultisUptoSaid : Prop := segmentMultisUptoRow.holds Tryd.pinned (OpenSpec.upto segmentMultisSpec)

end Rows
end Go.Proofs.YtdphijhebppeeaaDoor
