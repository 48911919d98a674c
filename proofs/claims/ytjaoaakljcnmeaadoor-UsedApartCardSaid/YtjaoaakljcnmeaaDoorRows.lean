/-
  NARROWER THAN 'FOR EVERY INPUT', by the rows' own cells (each row's printed sentence says how): UsedApart: laid · UsedWide: laid · UsedLefts: laid · UsedFits: laid · UsedMore: laid · UsedTells: laid · UsedSlack: laid.
  DERIVED. THE GIVEN ROWS OF THIS SEAT. 7 by the template 'for every input the law returns true; each argument reads behind the call as it read before'; 0 by the template 'total and deterministic' (their statements: YtjaoaakljcnmeaaDoorTotals.lean).
  GIVEN WITH THE SEED: the statements are not yours to turn. If you find one false, say at which input.
  Laid BY PROGRAM, IN A SANDBOX (cutbox-rows.mjs): the forced cells as the released guide's own fill.sh prints them over the translation 69f93e4d4d8c2006… (all of the seat's roots in one cut). By AI agents, Wed Nov 11 2026. No macro, syntax, notation, axiom, sorry.
-/
import Derived.Test.YtjaoaakljcnmeaaDoorChecked
import GoSem.Claim
import GoSem.ClaimJoined
import GoSem.ClaimMapViews
import Derived.JoinedTies
import Derived.KernelRfl
namespace Go.Proofs.YtjaoaakljcnmeaaDoor
/- THE CELL 'sum', in the pinned program and in every row, IS THE sha256 OF THE DUMP (.gsa) THAT YtjaoaakljcnmeaaDoorProg.lean LOADS. Nothing in Lean hashes anything: it is a label: what it is worth is what the hold of that sum in a sandbox is worth. -/
noncomputable def Tryd.pinned : Pinned := { name := "ytjaoaakljcnmeaadoor", sum := "69f93e4d4d8c200687a3700cd8078dacbefa238f8069c19ce46433248835de95", checked := Tryd.checked }
namespace Rows
def none {H : Type} : Left H := { results := [], args := [] }

/- WHAT THE LISTED PACKAGE-LEVEL VARIABLES READ AS WHEN THE CALL BEGINS. Each datum BY PROGRAM (the guide's laid-datum.mjs) off the statement by which the dump's own 'gosem.cut.vars' lays the variable. In a bare row this is a premise. The card (YtjaoaakljcnmeaaDoorCards.lean) ties it to the program's text. -/
def laid_errors_errorType {H : Type} : DataW H := .iface "internal/reflectlite.rtype" (.agg [.ptr (.lit (.string [101, 114, 114, 111, 114]))])
def laid_gutter_unit_errOver {H : Type} : DataW H := .iface "*errors.errorString" (.ptr (.agg [.lit (.string [116, 111, 111, 32, 103, 114, 101, 97, 116])]))
def laid_gutter_unit_errZero {H : Type} : DataW H := .iface "*errors.errorString" (.ptr (.agg [.lit (.string [98, 121, 32, 110, 111, 116, 104, 105, 110, 103])]))
def laid_gutter_unit_errText {H : Type} : DataW H := .iface "*errors.errorString" (.ptr (.agg [.lit (.string [110, 111, 32, 108, 101, 110, 103, 116, 104])]))

/-- 'gutterlaw06.UsedApart': WHATEVER THE INPUT: true; the input reads as it did. -/
def usedApartSpec : ChangeSpec := { name := "usedApart", fn := fun _ => fun
  | [d1, d2, d3] => { results := [.lit (.bool true)], args := [d1, d2, d3] }
  | _ => none }
def usedApartRow : OpenClaim := { program := "ytjaoaakljcnmeaadoor", sum := "69f93e4d4d8c200687a3700cd8078dacbefa238f8069c19ce46433248835de95", func := "gutter/gutterlaw06.UsedApart", spec := "usedApart", inPlace := ["internal/reflectlite.TypeOf", "internal/reflectlite.ValueOf", "(internal/reflectlite.Value).Type", "(internal/reflectlite.Value).IsNil", "(internal/reflectlite.Value).Elem", "(internal/reflectlite.Value).Set"], unfollowed := true, recurses := true, named := ["gutter/unit.errOver", "gutter/unit.errZero", "gutter/unit.errText", "errors.errorType"], plainKeys := false, apart := false, laid := [("errors.errorType", laid_errors_errorType), ("gutter/unit.errOver", laid_gutter_unit_errOver), ("gutter/unit.errZero", laid_gutter_unit_errZero), ("gutter/unit.errText", laid_gutter_unit_errText)] }
def UsedApartSaid : Prop := usedApartRow.holds Tryd.pinned (OpenSpec.ofChange usedApartSpec)

/-- ITS FALSE NEIGHBOUR: 'it returns false'. Refute it at one input. -/
def usedApartWrong : ChangeSpec := { name := "usedApart", fn := fun _ => fun
  | [d1, d2, d3] => { results := [.lit (.bool false)], args := [d1, d2, d3] }
  | _ => none }
def UsedApartWrongFalsely : Prop := usedApartRow.holds Tryd.pinned (OpenSpec.ofChange usedApartWrong)

/-- 'gutterlaw06.UsedWide': WHATEVER THE INPUT: true; the input reads as it did. -/
def usedWideSpec : ChangeSpec := { name := "usedWide", fn := fun _ => fun
  | [d1, d2] => { results := [.lit (.bool true)], args := [d1, d2] }
  | _ => none }
def usedWideRow : OpenClaim := { program := "ytjaoaakljcnmeaadoor", sum := "69f93e4d4d8c200687a3700cd8078dacbefa238f8069c19ce46433248835de95", func := "gutter/gutterlaw06.UsedWide", spec := "usedWide", inPlace := ["internal/reflectlite.TypeOf", "internal/reflectlite.ValueOf", "(internal/reflectlite.Value).Type", "(internal/reflectlite.Value).IsNil", "(internal/reflectlite.Value).Elem", "(internal/reflectlite.Value).Set"], unfollowed := true, recurses := true, named := ["gutter/unit.errOver", "gutter/unit.errZero", "gutter/unit.errText", "errors.errorType"], plainKeys := false, apart := false, laid := [("errors.errorType", laid_errors_errorType), ("gutter/unit.errOver", laid_gutter_unit_errOver), ("gutter/unit.errZero", laid_gutter_unit_errZero), ("gutter/unit.errText", laid_gutter_unit_errText)] }
def UsedWideSaid : Prop := usedWideRow.holds Tryd.pinned (OpenSpec.ofChange usedWideSpec)

/-- ITS FALSE NEIGHBOUR: 'it returns false'. Refute it at one input. -/
def usedWideWrong : ChangeSpec := { name := "usedWide", fn := fun _ => fun
  | [d1, d2] => { results := [.lit (.bool false)], args := [d1, d2] }
  | _ => none }
def UsedWideWrongFalsely : Prop := usedWideRow.holds Tryd.pinned (OpenSpec.ofChange usedWideWrong)

/-- 'gutterlaw06.UsedLefts': WHATEVER THE INPUT: true; the input reads as it did. -/
def usedLeftsSpec : ChangeSpec := { name := "usedLefts", fn := fun _ => fun
  | [d1, d2, d3] => { results := [.lit (.bool true)], args := [d1, d2, d3] }
  | _ => none }
def usedLeftsRow : OpenClaim := { program := "ytjaoaakljcnmeaadoor", sum := "69f93e4d4d8c200687a3700cd8078dacbefa238f8069c19ce46433248835de95", func := "gutter/gutterlaw06.UsedLefts", spec := "usedLefts", inPlace := ["internal/reflectlite.TypeOf", "internal/reflectlite.ValueOf", "(internal/reflectlite.Value).Type", "(internal/reflectlite.Value).IsNil", "(internal/reflectlite.Value).Elem", "(internal/reflectlite.Value).Set"], unfollowed := true, recurses := true, named := ["gutter/unit.errOver", "gutter/unit.errZero", "gutter/unit.errText", "errors.errorType"], plainKeys := false, apart := false, laid := [("errors.errorType", laid_errors_errorType), ("gutter/unit.errOver", laid_gutter_unit_errOver), ("gutter/unit.errZero", laid_gutter_unit_errZero), ("gutter/unit.errText", laid_gutter_unit_errText)] }
def UsedLeftsSaid : Prop := usedLeftsRow.holds Tryd.pinned (OpenSpec.ofChange usedLeftsSpec)

/-- ITS FALSE NEIGHBOUR: 'it returns false'. Refute it at one input. -/
def usedLeftsWrong : ChangeSpec := { name := "usedLefts", fn := fun _ => fun
  | [d1, d2, d3] => { results := [.lit (.bool false)], args := [d1, d2, d3] }
  | _ => none }
def UsedLeftsWrongFalsely : Prop := usedLeftsRow.holds Tryd.pinned (OpenSpec.ofChange usedLeftsWrong)

/-- 'gutterlaw06.UsedFits': WHATEVER THE INPUT: true; the input reads as it did. -/
def usedFitsSpec : ChangeSpec := { name := "usedFits", fn := fun _ => fun
  | [d1, d2, d3] => { results := [.lit (.bool true)], args := [d1, d2, d3] }
  | _ => none }
def usedFitsRow : OpenClaim := { program := "ytjaoaakljcnmeaadoor", sum := "69f93e4d4d8c200687a3700cd8078dacbefa238f8069c19ce46433248835de95", func := "gutter/gutterlaw06.UsedFits", spec := "usedFits", inPlace := ["internal/reflectlite.TypeOf", "internal/reflectlite.ValueOf", "(internal/reflectlite.Value).Type", "(internal/reflectlite.Value).IsNil", "(internal/reflectlite.Value).Elem", "(internal/reflectlite.Value).Set"], unfollowed := true, recurses := true, named := ["gutter/unit.errOver", "gutter/unit.errZero", "gutter/unit.errText", "errors.errorType"], plainKeys := false, apart := false, laid := [("errors.errorType", laid_errors_errorType), ("gutter/unit.errOver", laid_gutter_unit_errOver), ("gutter/unit.errZero", laid_gutter_unit_errZero), ("gutter/unit.errText", laid_gutter_unit_errText)] }
def UsedFitsSaid : Prop := usedFitsRow.holds Tryd.pinned (OpenSpec.ofChange usedFitsSpec)

/-- ITS FALSE NEIGHBOUR: 'it returns false'. Refute it at one input. -/
def usedFitsWrong : ChangeSpec := { name := "usedFits", fn := fun _ => fun
  | [d1, d2, d3] => { results := [.lit (.bool false)], args := [d1, d2, d3] }
  | _ => none }
def UsedFitsWrongFalsely : Prop := usedFitsRow.holds Tryd.pinned (OpenSpec.ofChange usedFitsWrong)

/-- 'gutterlaw06.UsedMore': WHATEVER THE INPUT: true; the input reads as it did. -/
def usedMoreSpec : ChangeSpec := { name := "usedMore", fn := fun _ => fun
  | [d1, d2, d3, d4, d5] => { results := [.lit (.bool true)], args := [d1, d2, d3, d4, d5] }
  | _ => none }
def usedMoreRow : OpenClaim := { program := "ytjaoaakljcnmeaadoor", sum := "69f93e4d4d8c200687a3700cd8078dacbefa238f8069c19ce46433248835de95", func := "gutter/gutterlaw06.UsedMore", spec := "usedMore", inPlace := ["internal/reflectlite.TypeOf", "internal/reflectlite.ValueOf", "(internal/reflectlite.Value).Type", "(internal/reflectlite.Value).IsNil", "(internal/reflectlite.Value).Elem", "(internal/reflectlite.Value).Set"], unfollowed := true, recurses := true, named := ["gutter/unit.errOver", "gutter/unit.errZero", "gutter/unit.errText", "errors.errorType"], plainKeys := false, apart := false, laid := [("errors.errorType", laid_errors_errorType), ("gutter/unit.errOver", laid_gutter_unit_errOver), ("gutter/unit.errZero", laid_gutter_unit_errZero), ("gutter/unit.errText", laid_gutter_unit_errText)] }
def UsedMoreSaid : Prop := usedMoreRow.holds Tryd.pinned (OpenSpec.ofChange usedMoreSpec)

/-- ITS FALSE NEIGHBOUR: 'it returns false'. Refute it at one input. -/
def usedMoreWrong : ChangeSpec := { name := "usedMore", fn := fun _ => fun
  | [d1, d2, d3, d4, d5] => { results := [.lit (.bool false)], args := [d1, d2, d3, d4, d5] }
  | _ => none }
def UsedMoreWrongFalsely : Prop := usedMoreRow.holds Tryd.pinned (OpenSpec.ofChange usedMoreWrong)

/-- 'gutterlaw06.UsedTells': WHATEVER THE INPUT: true; the input reads as it did. -/
def usedTellsSpec : ChangeSpec := { name := "usedTells", fn := fun _ => fun
  | [d1, d2, d3, d4] => { results := [.lit (.bool true)], args := [d1, d2, d3, d4] }
  | _ => none }
def usedTellsRow : OpenClaim := { program := "ytjaoaakljcnmeaadoor", sum := "69f93e4d4d8c200687a3700cd8078dacbefa238f8069c19ce46433248835de95", func := "gutter/gutterlaw06.UsedTells", spec := "usedTells", inPlace := ["internal/reflectlite.TypeOf", "internal/reflectlite.ValueOf", "(internal/reflectlite.Value).Type", "(internal/reflectlite.Value).IsNil", "(internal/reflectlite.Value).Elem", "(internal/reflectlite.Value).Set"], unfollowed := true, recurses := true, named := ["gutter/unit.errOver", "gutter/unit.errZero", "gutter/unit.errText", "errors.errorType"], plainKeys := false, apart := false, laid := [("errors.errorType", laid_errors_errorType), ("gutter/unit.errOver", laid_gutter_unit_errOver), ("gutter/unit.errZero", laid_gutter_unit_errZero), ("gutter/unit.errText", laid_gutter_unit_errText)] }
def UsedTellsSaid : Prop := usedTellsRow.holds Tryd.pinned (OpenSpec.ofChange usedTellsSpec)

/-- ITS FALSE NEIGHBOUR: 'it returns false'. Refute it at one input. -/
def usedTellsWrong : ChangeSpec := { name := "usedTells", fn := fun _ => fun
  | [d1, d2, d3, d4] => { results := [.lit (.bool false)], args := [d1, d2, d3, d4] }
  | _ => none }
def UsedTellsWrongFalsely : Prop := usedTellsRow.holds Tryd.pinned (OpenSpec.ofChange usedTellsWrong)

/-- 'gutterlaw06.UsedSlack': WHATEVER THE INPUT: true; the input reads as it did. -/
def usedSlackSpec : ChangeSpec := { name := "usedSlack", fn := fun _ => fun
  | [d1, d2] => { results := [.lit (.bool true)], args := [d1, d2] }
  | _ => none }
def usedSlackRow : OpenClaim := { program := "ytjaoaakljcnmeaadoor", sum := "69f93e4d4d8c200687a3700cd8078dacbefa238f8069c19ce46433248835de95", func := "gutter/gutterlaw06.UsedSlack", spec := "usedSlack", inPlace := ["internal/reflectlite.TypeOf", "internal/reflectlite.ValueOf", "(internal/reflectlite.Value).Type", "(internal/reflectlite.Value).IsNil", "(internal/reflectlite.Value).Elem", "(internal/reflectlite.Value).Set"], unfollowed := true, recurses := true, named := ["gutter/unit.errOver", "gutter/unit.errZero", "gutter/unit.errText", "errors.errorType"], plainKeys := false, apart := false, laid := [("errors.errorType", laid_errors_errorType), ("gutter/unit.errOver", laid_gutter_unit_errOver), ("gutter/unit.errZero", laid_gutter_unit_errZero), ("gutter/unit.errText", laid_gutter_unit_errText)] }
def UsedSlackSaid : Prop := usedSlackRow.holds Tryd.pinned (OpenSpec.ofChange usedSlackSpec)

/-- ITS FALSE NEIGHBOUR: 'it returns false'. Refute it at one input. -/
def usedSlackWrong : ChangeSpec := { name := "usedSlack", fn := fun _ => fun
  | [d1, d2] => { results := [.lit (.bool false)], args := [d1, d2] }
  | _ => none }
def UsedSlackWrongFalsely : Prop := usedSlackRow.holds Tryd.pinned (OpenSpec.ofChange usedSlackWrong)

/- THE SECOND FORM. 'bulk': how many values and letters a reading holds, each counted each time it is reached (what is shared counts as often as it is met; a slice's spare places count too). A statement '..UptoSaid' is the law's where the arguments, and the package variables that the reading takes, are together of bulk at most 1048576: NARROWER than '..Said'. Prove '..Said' where nothing that the law and all that it calls make is longer than what came in: it says more and counts as full. Else prove '..UptoSaid'. A law counts once. -/
mutual
def uptoBulk {H : Type} : DataW H → Nat
  | .lit (.string bytes) => bytes.length + 1
  | .lit _ => 1
  | .nil => 1
  | .ptr d => uptoBulk d + 1
  | .slice elems spare => uptoBulkAll elems + uptoBulkAll spare + 1
  | .agg parts => uptoBulkAll parts + 1
  | .iface _ d => uptoBulk d + 1
  | .map entries => uptoBulkEntries entries + 1
  | .held _ => 1
def uptoBulkAll {H : Type} : List (DataW H) → Nat
  | [] => 0
  | d :: r => uptoBulk d + uptoBulkAll r
def uptoBulkEntries {H : Type} : List (Lit × DataW H) → Nat
  | [] => 0
  | x :: r => uptoBulkEntry x + uptoBulkEntries r
def uptoBulkEntry {H : Type} : Lit × DataW H → Nat
  | (.string bytes, d) => bytes.length + uptoBulk d + 1
  | (_, d) => uptoBulk d + 1
 end
def uptoSmall : (H : Type) → List (DataW H) → Bool := fun _ ds => decide (uptoBulkAll ds ≤ 1048576)
def OpenSpec.upto (s : _root_.Go.ChangeSpec) : _root_.Go.OpenSpec := { _root_.Go.OpenSpec.ofChange s with cond := some uptoSmall }

/-- 'gutterlaw06.UsedApart', WHERE WHAT IT READS IS OF BULK AT MOST 1048576: true; the input reads as it did. -/
def usedApartUptoRow : OpenClaim := { program := "ytjaoaakljcnmeaadoor", sum := "69f93e4d4d8c200687a3700cd8078dacbefa238f8069c19ce46433248835de95", func := "gutter/gutterlaw06.UsedApart", spec := "usedApart", inPlace := ["internal/reflectlite.TypeOf", "internal/reflectlite.ValueOf", "(internal/reflectlite.Value).Type", "(internal/reflectlite.Value).IsNil", "(internal/reflectlite.Value).Elem", "(internal/reflectlite.Value).Set"], unfollowed := true, recurses := true, named := ["gutter/unit.errOver", "gutter/unit.errZero", "gutter/unit.errText", "errors.errorType"], plainKeys := false, apart := false, laid := [("errors.errorType", laid_errors_errorType), ("gutter/unit.errOver", laid_gutter_unit_errOver), ("gutter/unit.errZero", laid_gutter_unit_errZero), ("gutter/unit.errText", laid_gutter_unit_errText)], narrowed := true }
def UsedApartUptoSaid : Prop := usedApartUptoRow.holds Tryd.pinned (OpenSpec.upto usedApartSpec)

/-- 'gutterlaw06.UsedWide', WHERE WHAT IT READS IS OF BULK AT MOST 1048576: true; the input reads as it did. -/
def usedWideUptoRow : OpenClaim := { program := "ytjaoaakljcnmeaadoor", sum := "69f93e4d4d8c200687a3700cd8078dacbefa238f8069c19ce46433248835de95", func := "gutter/gutterlaw06.UsedWide", spec := "usedWide", inPlace := ["internal/reflectlite.TypeOf", "internal/reflectlite.ValueOf", "(internal/reflectlite.Value).Type", "(internal/reflectlite.Value).IsNil", "(internal/reflectlite.Value).Elem", "(internal/reflectlite.Value).Set"], unfollowed := true, recurses := true, named := ["gutter/unit.errOver", "gutter/unit.errZero", "gutter/unit.errText", "errors.errorType"], plainKeys := false, apart := false, laid := [("errors.errorType", laid_errors_errorType), ("gutter/unit.errOver", laid_gutter_unit_errOver), ("gutter/unit.errZero", laid_gutter_unit_errZero), ("gutter/unit.errText", laid_gutter_unit_errText)], narrowed := true }
def UsedWideUptoSaid : Prop := usedWideUptoRow.holds Tryd.pinned (OpenSpec.upto usedWideSpec)

/-- 'gutterlaw06.UsedLefts', WHERE WHAT IT READS IS OF BULK AT MOST 1048576: true; the input reads as it did. -/
def usedLeftsUptoRow : OpenClaim := { program := "ytjaoaakljcnmeaadoor", sum := "69f93e4d4d8c200687a3700cd8078dacbefa238f8069c19ce46433248835de95", func := "gutter/gutterlaw06.UsedLefts", spec := "usedLefts", inPlace := ["internal/reflectlite.TypeOf", "internal/reflectlite.ValueOf", "(internal/reflectlite.Value).Type", "(internal/reflectlite.Value).IsNil", "(internal/reflectlite.Value).Elem", "(internal/reflectlite.Value).Set"], unfollowed := true, recurses := true, named := ["gutter/unit.errOver", "gutter/unit.errZero", "gutter/unit.errText", "errors.errorType"], plainKeys := false, apart := false, laid := [("errors.errorType", laid_errors_errorType), ("gutter/unit.errOver", laid_gutter_unit_errOver), ("gutter/unit.errZero", laid_gutter_unit_errZero), ("gutter/unit.errText", laid_gutter_unit_errText)], narrowed := true }
def UsedLeftsUptoSaid : Prop := usedLeftsUptoRow.holds Tryd.pinned (OpenSpec.upto usedLeftsSpec)

/-- 'gutterlaw06.UsedFits', WHERE WHAT IT READS IS OF BULK AT MOST 1048576: true; the input reads as it did. -/
def usedFitsUptoRow : OpenClaim := { program := "ytjaoaakljcnmeaadoor", sum := "69f93e4d4d8c200687a3700cd8078dacbefa238f8069c19ce46433248835de95", func := "gutter/gutterlaw06.UsedFits", spec := "usedFits", inPlace := ["internal/reflectlite.TypeOf", "internal/reflectlite.ValueOf", "(internal/reflectlite.Value).Type", "(internal/reflectlite.Value).IsNil", "(internal/reflectlite.Value).Elem", "(internal/reflectlite.Value).Set"], unfollowed := true, recurses := true, named := ["gutter/unit.errOver", "gutter/unit.errZero", "gutter/unit.errText", "errors.errorType"], plainKeys := false, apart := false, laid := [("errors.errorType", laid_errors_errorType), ("gutter/unit.errOver", laid_gutter_unit_errOver), ("gutter/unit.errZero", laid_gutter_unit_errZero), ("gutter/unit.errText", laid_gutter_unit_errText)], narrowed := true }
def UsedFitsUptoSaid : Prop := usedFitsUptoRow.holds Tryd.pinned (OpenSpec.upto usedFitsSpec)

/-- 'gutterlaw06.UsedMore', WHERE WHAT IT READS IS OF BULK AT MOST 1048576: true; the input reads as it did. -/
def usedMoreUptoRow : OpenClaim := { program := "ytjaoaakljcnmeaadoor", sum := "69f93e4d4d8c200687a3700cd8078dacbefa238f8069c19ce46433248835de95", func := "gutter/gutterlaw06.UsedMore", spec := "usedMore", inPlace := ["internal/reflectlite.TypeOf", "internal/reflectlite.ValueOf", "(internal/reflectlite.Value).Type", "(internal/reflectlite.Value).IsNil", "(internal/reflectlite.Value).Elem", "(internal/reflectlite.Value).Set"], unfollowed := true, recurses := true, named := ["gutter/unit.errOver", "gutter/unit.errZero", "gutter/unit.errText", "errors.errorType"], plainKeys := false, apart := false, laid := [("errors.errorType", laid_errors_errorType), ("gutter/unit.errOver", laid_gutter_unit_errOver), ("gutter/unit.errZero", laid_gutter_unit_errZero), ("gutter/unit.errText", laid_gutter_unit_errText)], narrowed := true }
def UsedMoreUptoSaid : Prop := usedMoreUptoRow.holds Tryd.pinned (OpenSpec.upto usedMoreSpec)

/-- 'gutterlaw06.UsedTells', WHERE WHAT IT READS IS OF BULK AT MOST 1048576: true; the input reads as it did. -/
def usedTellsUptoRow : OpenClaim := { program := "ytjaoaakljcnmeaadoor", sum := "69f93e4d4d8c200687a3700cd8078dacbefa238f8069c19ce46433248835de95", func := "gutter/gutterlaw06.UsedTells", spec := "usedTells", inPlace := ["internal/reflectlite.TypeOf", "internal/reflectlite.ValueOf", "(internal/reflectlite.Value).Type", "(internal/reflectlite.Value).IsNil", "(internal/reflectlite.Value).Elem", "(internal/reflectlite.Value).Set"], unfollowed := true, recurses := true, named := ["gutter/unit.errOver", "gutter/unit.errZero", "gutter/unit.errText", "errors.errorType"], plainKeys := false, apart := false, laid := [("errors.errorType", laid_errors_errorType), ("gutter/unit.errOver", laid_gutter_unit_errOver), ("gutter/unit.errZero", laid_gutter_unit_errZero), ("gutter/unit.errText", laid_gutter_unit_errText)], narrowed := true }
def UsedTellsUptoSaid : Prop := usedTellsUptoRow.holds Tryd.pinned (OpenSpec.upto usedTellsSpec)

/-- 'gutterlaw06.UsedSlack', WHERE WHAT IT READS IS OF BULK AT MOST 1048576: true; the input reads as it did. -/
def usedSlackUptoRow : OpenClaim := { program := "ytjaoaakljcnmeaadoor", sum := "69f93e4d4d8c200687a3700cd8078dacbefa238f8069c19ce46433248835de95", func := "gutter/gutterlaw06.UsedSlack", spec := "usedSlack", inPlace := ["internal/reflectlite.TypeOf", "internal/reflectlite.ValueOf", "(internal/reflectlite.Value).Type", "(internal/reflectlite.Value).IsNil", "(internal/reflectlite.Value).Elem", "(internal/reflectlite.Value).Set"], unfollowed := true, recurses := true, named := ["gutter/unit.errOver", "gutter/unit.errZero", "gutter/unit.errText", "errors.errorType"], plainKeys := false, apart := false, laid := [("errors.errorType", laid_errors_errorType), ("gutter/unit.errOver", laid_gutter_unit_errOver), ("gutter/unit.errZero", laid_gutter_unit_errZero), ("gutter/unit.errText", laid_gutter_unit_errText)], narrowed := true }
def UsedSlackUptoSaid : Prop := usedSlackUptoRow.holds Tryd.pinned (OpenSpec.upto usedSlackSpec)

end Rows
end Go.Proofs.YtjaoaakljcnmeaaDoor
