/-
  NARROWER THAN 'FOR EVERY INPUT', by the rows' own cells (each row's printed sentence says how): UnitTexts: laid · UnitPrints: laid · UnitBack: laid · UnitSigns: laid · UnitDivides: laid · UnitReckons: laid · UnitSums: laid · UnitTurns: laid.
  DERIVED. THE GIVEN ROWS OF THIS SEAT. 8 by the template 'for every input the law returns true; each argument reads behind the call as it read before'; 0 by the template 'total and deterministic' (their statements: YtlpkjjeihbdocaaDoorTotals.lean).
  GIVEN WITH THE SEED: the statements are not yours to turn. If you find one false, say at which input.
  Laid BY PROGRAM, IN A SANDBOX (cutbox-rows.mjs): the forced cells as the released guide's own fill.sh prints them over the translation 9952e7c0b4a762a9… (all of the seat's roots in one cut). By AI agents, Wed Nov 11 2026. No macro, syntax, notation, axiom, sorry.
-/
import Derived.Test.YtlpkjjeihbdocaaDoorChecked
import GoSem.Claim
import GoSem.ClaimJoined
import GoSem.ClaimMapViews
import Derived.JoinedTies
import Derived.KernelRfl
namespace Go.Proofs.YtlpkjjeihbdocaaDoor
/- THE CELL 'sum', in the pinned program and in every row, IS THE sha256 OF THE DUMP (.gsa) THAT YtlpkjjeihbdocaaDoorProg.lean LOADS. Nothing in Lean hashes anything: it is a label: what it is worth is what the hold of that sum in a sandbox is worth. -/
noncomputable def Tryd.pinned : Pinned := { name := "ytlpkjjeihbdocaadoor", sum := "9952e7c0b4a762a9670a1e20212ab909e923999773bdcfdc1b5c21e273531dcb", checked := Tryd.checked }
namespace Rows
def none {H : Type} : Left H := { results := [], args := [] }

/- WHAT THE LISTED PACKAGE-LEVEL VARIABLES READ AS WHEN THE CALL BEGINS. Each datum BY PROGRAM (the guide's laid-datum.mjs) off the statement by which the dump's own 'gosem.cut.vars' lays the variable. In a bare row this is a premise. The card (YtlpkjjeihbdocaaDoorCards.lean) ties it to the program's text. -/
def laid_gutter_unit_errOver {H : Type} : DataW H := .iface "*errors.errorString" (.ptr (.agg [.lit (.string [116, 111, 111, 32, 103, 114, 101, 97, 116])]))
def laid_gutter_unit_errZero {H : Type} : DataW H := .iface "*errors.errorString" (.ptr (.agg [.lit (.string [98, 121, 32, 110, 111, 116, 104, 105, 110, 103])]))
def laid_gutter_unit_errText {H : Type} : DataW H := .iface "*errors.errorString" (.ptr (.agg [.lit (.string [110, 111, 32, 108, 101, 110, 103, 116, 104])]))

/-- 'gutterlaw01.UnitTexts': WHATEVER THE INPUT: true; the input reads as it did. -/
def unitTextsSpec : ChangeSpec := { name := "unitTexts", fn := fun _ => fun
  | [d1, d2] => { results := [.lit (.bool true)], args := [d1, d2] }
  | _ => none }
def unitTextsRow : OpenClaim := { program := "ytlpkjjeihbdocaadoor", sum := "9952e7c0b4a762a9670a1e20212ab909e923999773bdcfdc1b5c21e273531dcb", func := "gutter/gutterlaw01.UnitTexts", spec := "unitTexts", inPlace := ["internal/reflectlite.TypeOf", "internal/bytealg.IndexByteString", "internal/bytealg.IndexString"], unfollowed := true, recurses := true, named := ["gutter/unit.errOver", "gutter/unit.errZero", "gutter/unit.errText", "internal/bytealg.MaxLen"], plainKeys := false, apart := false, laid := [("gutter/unit.errOver", laid_gutter_unit_errOver), ("gutter/unit.errZero", laid_gutter_unit_errZero), ("gutter/unit.errText", laid_gutter_unit_errText)] }
def UnitTextsSaid : Prop := unitTextsRow.holds Tryd.pinned (OpenSpec.ofChange unitTextsSpec)

/-- ITS FALSE NEIGHBOUR: 'it returns false'. Refute it at one input. -/
def unitTextsWrong : ChangeSpec := { name := "unitTexts", fn := fun _ => fun
  | [d1, d2] => { results := [.lit (.bool false)], args := [d1, d2] }
  | _ => none }
def UnitTextsWrongFalsely : Prop := unitTextsRow.holds Tryd.pinned (OpenSpec.ofChange unitTextsWrong)

/-- 'gutterlaw01.UnitPrints': WHATEVER THE INPUT: true; the input reads as it did. -/
def unitPrintsSpec : ChangeSpec := { name := "unitPrints", fn := fun _ => fun
  | [d1, d2] => { results := [.lit (.bool true)], args := [d1, d2] }
  | _ => none }
def unitPrintsRow : OpenClaim := { program := "ytlpkjjeihbdocaadoor", sum := "9952e7c0b4a762a9670a1e20212ab909e923999773bdcfdc1b5c21e273531dcb", func := "gutter/gutterlaw01.UnitPrints", spec := "unitPrints", inPlace := ["internal/reflectlite.TypeOf", "internal/bytealg.IndexByteString", "internal/bytealg.IndexString"], unfollowed := true, recurses := true, named := ["gutter/unit.errOver", "gutter/unit.errZero", "gutter/unit.errText", "internal/bytealg.MaxLen"], plainKeys := false, apart := false, laid := [("gutter/unit.errOver", laid_gutter_unit_errOver), ("gutter/unit.errZero", laid_gutter_unit_errZero), ("gutter/unit.errText", laid_gutter_unit_errText)] }
def UnitPrintsSaid : Prop := unitPrintsRow.holds Tryd.pinned (OpenSpec.ofChange unitPrintsSpec)

/-- ITS FALSE NEIGHBOUR: 'it returns false'. Refute it at one input. -/
def unitPrintsWrong : ChangeSpec := { name := "unitPrints", fn := fun _ => fun
  | [d1, d2] => { results := [.lit (.bool false)], args := [d1, d2] }
  | _ => none }
def UnitPrintsWrongFalsely : Prop := unitPrintsRow.holds Tryd.pinned (OpenSpec.ofChange unitPrintsWrong)

/-- 'gutterlaw01.UnitBack': WHATEVER THE INPUT: true; the input reads as it did. -/
def unitBackSpec : ChangeSpec := { name := "unitBack", fn := fun _ => fun
  | [d1, d2] => { results := [.lit (.bool true)], args := [d1, d2] }
  | _ => none }
def unitBackRow : OpenClaim := { program := "ytlpkjjeihbdocaadoor", sum := "9952e7c0b4a762a9670a1e20212ab909e923999773bdcfdc1b5c21e273531dcb", func := "gutter/gutterlaw01.UnitBack", spec := "unitBack", inPlace := ["internal/reflectlite.TypeOf", "internal/bytealg.IndexByteString", "internal/bytealg.IndexString"], unfollowed := true, recurses := true, named := ["gutter/unit.errOver", "gutter/unit.errZero", "gutter/unit.errText", "internal/bytealg.MaxLen"], plainKeys := false, apart := false, laid := [("gutter/unit.errOver", laid_gutter_unit_errOver), ("gutter/unit.errZero", laid_gutter_unit_errZero), ("gutter/unit.errText", laid_gutter_unit_errText)] }
def UnitBackSaid : Prop := unitBackRow.holds Tryd.pinned (OpenSpec.ofChange unitBackSpec)

/-- ITS FALSE NEIGHBOUR: 'it returns false'. Refute it at one input. -/
def unitBackWrong : ChangeSpec := { name := "unitBack", fn := fun _ => fun
  | [d1, d2] => { results := [.lit (.bool false)], args := [d1, d2] }
  | _ => none }
def UnitBackWrongFalsely : Prop := unitBackRow.holds Tryd.pinned (OpenSpec.ofChange unitBackWrong)

/-- 'gutterlaw01.UnitSigns': WHATEVER THE INPUT: true; the input reads as it did. -/
def unitSignsSpec : ChangeSpec := { name := "unitSigns", fn := fun _ => fun
  | [d1, d2] => { results := [.lit (.bool true)], args := [d1, d2] }
  | _ => none }
def unitSignsRow : OpenClaim := { program := "ytlpkjjeihbdocaadoor", sum := "9952e7c0b4a762a9670a1e20212ab909e923999773bdcfdc1b5c21e273531dcb", func := "gutter/gutterlaw01.UnitSigns", spec := "unitSigns", inPlace := ["internal/reflectlite.TypeOf", "internal/bytealg.IndexByteString", "internal/bytealg.IndexString"], unfollowed := true, recurses := true, named := ["gutter/unit.errOver", "gutter/unit.errZero", "gutter/unit.errText", "internal/bytealg.MaxLen"], plainKeys := false, apart := false, laid := [("gutter/unit.errOver", laid_gutter_unit_errOver), ("gutter/unit.errZero", laid_gutter_unit_errZero), ("gutter/unit.errText", laid_gutter_unit_errText)] }
def UnitSignsSaid : Prop := unitSignsRow.holds Tryd.pinned (OpenSpec.ofChange unitSignsSpec)

/-- ITS FALSE NEIGHBOUR: 'it returns false'. Refute it at one input. -/
def unitSignsWrong : ChangeSpec := { name := "unitSigns", fn := fun _ => fun
  | [d1, d2] => { results := [.lit (.bool false)], args := [d1, d2] }
  | _ => none }
def UnitSignsWrongFalsely : Prop := unitSignsRow.holds Tryd.pinned (OpenSpec.ofChange unitSignsWrong)

/-- 'gutterlaw01.UnitDivides': WHATEVER THE INPUT: true; the input reads as it did. -/
def unitDividesSpec : ChangeSpec := { name := "unitDivides", fn := fun _ => fun
  | [d1, d2] => { results := [.lit (.bool true)], args := [d1, d2] }
  | _ => none }
def unitDividesRow : OpenClaim := { program := "ytlpkjjeihbdocaadoor", sum := "9952e7c0b4a762a9670a1e20212ab909e923999773bdcfdc1b5c21e273531dcb", func := "gutter/gutterlaw01.UnitDivides", spec := "unitDivides", inPlace := ["internal/reflectlite.TypeOf", "internal/bytealg.IndexByteString", "internal/bytealg.IndexString"], unfollowed := true, recurses := true, named := ["gutter/unit.errOver", "gutter/unit.errZero", "gutter/unit.errText", "internal/bytealg.MaxLen"], plainKeys := false, apart := false, laid := [("gutter/unit.errOver", laid_gutter_unit_errOver), ("gutter/unit.errZero", laid_gutter_unit_errZero), ("gutter/unit.errText", laid_gutter_unit_errText)] }
def UnitDividesSaid : Prop := unitDividesRow.holds Tryd.pinned (OpenSpec.ofChange unitDividesSpec)

/-- ITS FALSE NEIGHBOUR: 'it returns false'. Refute it at one input. -/
def unitDividesWrong : ChangeSpec := { name := "unitDivides", fn := fun _ => fun
  | [d1, d2] => { results := [.lit (.bool false)], args := [d1, d2] }
  | _ => none }
def UnitDividesWrongFalsely : Prop := unitDividesRow.holds Tryd.pinned (OpenSpec.ofChange unitDividesWrong)

/-- 'gutterlaw01.UnitReckons': WHATEVER THE INPUT: true; the input reads as it did. -/
def unitReckonsSpec : ChangeSpec := { name := "unitReckons", fn := fun _ => fun
  | [d1, d2] => { results := [.lit (.bool true)], args := [d1, d2] }
  | _ => none }
def unitReckonsRow : OpenClaim := { program := "ytlpkjjeihbdocaadoor", sum := "9952e7c0b4a762a9670a1e20212ab909e923999773bdcfdc1b5c21e273531dcb", func := "gutter/gutterlaw01.UnitReckons", spec := "unitReckons", inPlace := ["internal/reflectlite.TypeOf", "internal/bytealg.IndexByteString", "internal/bytealg.IndexString"], unfollowed := true, recurses := true, named := ["gutter/unit.errOver", "gutter/unit.errZero", "gutter/unit.errText", "internal/bytealg.MaxLen"], plainKeys := false, apart := false, laid := [("gutter/unit.errOver", laid_gutter_unit_errOver), ("gutter/unit.errZero", laid_gutter_unit_errZero), ("gutter/unit.errText", laid_gutter_unit_errText)] }
def UnitReckonsSaid : Prop := unitReckonsRow.holds Tryd.pinned (OpenSpec.ofChange unitReckonsSpec)

/-- ITS FALSE NEIGHBOUR: 'it returns false'. Refute it at one input. -/
def unitReckonsWrong : ChangeSpec := { name := "unitReckons", fn := fun _ => fun
  | [d1, d2] => { results := [.lit (.bool false)], args := [d1, d2] }
  | _ => none }
def UnitReckonsWrongFalsely : Prop := unitReckonsRow.holds Tryd.pinned (OpenSpec.ofChange unitReckonsWrong)

/-- 'gutterlaw01.UnitSums': WHATEVER THE INPUT: true; the input reads as it did. -/
def unitSumsSpec : ChangeSpec := { name := "unitSums", fn := fun _ => fun
  | [d] => { results := [.lit (.bool true)], args := [d] }
  | _ => none }
def unitSumsRow : OpenClaim := { program := "ytlpkjjeihbdocaadoor", sum := "9952e7c0b4a762a9670a1e20212ab909e923999773bdcfdc1b5c21e273531dcb", func := "gutter/gutterlaw01.UnitSums", spec := "unitSums", inPlace := ["internal/reflectlite.TypeOf", "internal/bytealg.IndexByteString", "internal/bytealg.IndexString"], unfollowed := true, recurses := true, named := ["gutter/unit.errOver", "gutter/unit.errZero", "gutter/unit.errText", "internal/bytealg.MaxLen"], plainKeys := false, apart := false, laid := [("gutter/unit.errOver", laid_gutter_unit_errOver), ("gutter/unit.errZero", laid_gutter_unit_errZero), ("gutter/unit.errText", laid_gutter_unit_errText)] }
def UnitSumsSaid : Prop := unitSumsRow.holds Tryd.pinned (OpenSpec.ofChange unitSumsSpec)

/-- ITS FALSE NEIGHBOUR: 'it returns false'. Refute it at one input. -/
def unitSumsWrong : ChangeSpec := { name := "unitSums", fn := fun _ => fun
  | [d] => { results := [.lit (.bool false)], args := [d] }
  | _ => none }
def UnitSumsWrongFalsely : Prop := unitSumsRow.holds Tryd.pinned (OpenSpec.ofChange unitSumsWrong)

/-- 'gutterlaw01.UnitTurns': WHATEVER THE INPUT: true; the input reads as it did. -/
def unitTurnsSpec : ChangeSpec := { name := "unitTurns", fn := fun _ => fun
  | [d1, d2] => { results := [.lit (.bool true)], args := [d1, d2] }
  | _ => none }
def unitTurnsRow : OpenClaim := { program := "ytlpkjjeihbdocaadoor", sum := "9952e7c0b4a762a9670a1e20212ab909e923999773bdcfdc1b5c21e273531dcb", func := "gutter/gutterlaw01.UnitTurns", spec := "unitTurns", inPlace := ["internal/reflectlite.TypeOf", "internal/bytealg.IndexByteString", "internal/bytealg.IndexString"], unfollowed := true, recurses := true, named := ["gutter/unit.errOver", "gutter/unit.errZero", "gutter/unit.errText", "internal/bytealg.MaxLen"], plainKeys := false, apart := false, laid := [("gutter/unit.errOver", laid_gutter_unit_errOver), ("gutter/unit.errZero", laid_gutter_unit_errZero), ("gutter/unit.errText", laid_gutter_unit_errText)] }
def UnitTurnsSaid : Prop := unitTurnsRow.holds Tryd.pinned (OpenSpec.ofChange unitTurnsSpec)

/-- ITS FALSE NEIGHBOUR: 'it returns false'. Refute it at one input. -/
def unitTurnsWrong : ChangeSpec := { name := "unitTurns", fn := fun _ => fun
  | [d1, d2] => { results := [.lit (.bool false)], args := [d1, d2] }
  | _ => none }
def UnitTurnsWrongFalsely : Prop := unitTurnsRow.holds Tryd.pinned (OpenSpec.ofChange unitTurnsWrong)

/- THE SECOND FORM. 'bulk': how many values and letters a reading holds, each counted each time it is reached (what is shared counts as often as it is met; a slice's spare places count too). A statement '..UptoSaid' is the law's where the arguments, and the package variables that the reading takes, are together of bulk at most 1048576: NARROWER than '..Said'. Prove '..Said' where nothing that the law and all that it calls make is longer than what came in: it says more and counts as full. Else prove '..UptoSaid'. A law counts once. -/
mutual
def uptoBulk {H : Type} : DataW H → Nat
  | .lit (.string bytes) => bytes.length + 1
  | .lit _ => 1
  | .nil => 1
  | .ptr d => uptoBulk d + 1
  | .slice elems spare => uptoBulkAll elems + uptoBulkAll spare + 1
  | .agg parts => uptoBulkAll parts + 1
  | .iface _ d => uptoBulk d + 1
  | .map entries => uptoBulkEntries entries + 1
  | .held _ => 1
def uptoBulkAll {H : Type} : List (DataW H) → Nat
  | [] => 0
  | d :: r => uptoBulk d + uptoBulkAll r
def uptoBulkEntries {H : Type} : List (Lit × DataW H) → Nat
  | [] => 0
  | x :: r => uptoBulkEntry x + uptoBulkEntries r
def uptoBulkEntry {H : Type} : Lit × DataW H → Nat
  | (.string bytes, d) => bytes.length + uptoBulk d + 1
  | (_, d) => uptoBulk d + 1
 end
def uptoSmall : (H : Type) → List (DataW H) → Bool := fun _ ds => decide (uptoBulkAll ds ≤ 1048576)
def OpenSpec.upto (s : _root_.Go.ChangeSpec) : _root_.Go.OpenSpec := { _root_.Go.OpenSpec.ofChange s with cond := some uptoSmall }

/-- 'gutterlaw01.UnitTexts', WHERE WHAT IT READS IS OF BULK AT MOST 1048576: true; the input reads as it did. -/
def unitTextsUptoRow : OpenClaim := { program := "ytlpkjjeihbdocaadoor", sum := "9952e7c0b4a762a9670a1e20212ab909e923999773bdcfdc1b5c21e273531dcb", func := "gutter/gutterlaw01.UnitTexts", spec := "unitTexts", inPlace := ["internal/reflectlite.TypeOf", "internal/bytealg.IndexByteString", "internal/bytealg.IndexString"], unfollowed := true, recurses := true, named := ["gutter/unit.errOver", "gutter/unit.errZero", "gutter/unit.errText", "internal/bytealg.MaxLen"], plainKeys := false, apart := false, laid := [("gutter/unit.errOver", laid_gutter_unit_errOver), ("gutter/unit.errZero", laid_gutter_unit_errZero), ("gutter/unit.errText", laid_gutter_unit_errText)], narrowed := true }
def UnitTextsUptoSaid : Prop := unitTextsUptoRow.holds Tryd.pinned (OpenSpec.upto unitTextsSpec)

/-- 'gutterlaw01.UnitPrints', WHERE WHAT IT READS IS OF BULK AT MOST 1048576: true; the input reads as it did. -/
def unitPrintsUptoRow : OpenClaim := { program := "ytlpkjjeihbdocaadoor", sum := "9952e7c0b4a762a9670a1e20212ab909e923999773bdcfdc1b5c21e273531dcb", func := "gutter/gutterlaw01.UnitPrints", spec := "unitPrints", inPlace := ["internal/reflectlite.TypeOf", "internal/bytealg.IndexByteString", "internal/bytealg.IndexString"], unfollowed := true, recurses := true, named := ["gutter/unit.errOver", "gutter/unit.errZero", "gutter/unit.errText", "internal/bytealg.MaxLen"], plainKeys := false, apart := false, laid := [("gutter/unit.errOver", laid_gutter_unit_errOver), ("gutter/unit.errZero", laid_gutter_unit_errZero), ("gutter/unit.errText", laid_gutter_unit_errText)], narrowed := true }
def UnitPrintsUptoSaid : Prop := unitPrintsUptoRow.holds Tryd.pinned (OpenSpec.upto unitPrintsSpec)

/-- 'gutterlaw01.UnitBack', WHERE WHAT IT READS IS OF BULK AT MOST 1048576: true; the input reads as it did. -/
def unitBackUptoRow : OpenClaim := { program := "ytlpkjjeihbdocaadoor", sum := "9952e7c0b4a762a9670a1e20212ab909e923999773bdcfdc1b5c21e273531dcb", func := "gutter/gutterlaw01.UnitBack", spec := "unitBack", inPlace := ["internal/reflectlite.TypeOf", "internal/bytealg.IndexByteString", "internal/bytealg.IndexString"], unfollowed := true, recurses := true, named := ["gutter/unit.errOver", "gutter/unit.errZero", "gutter/unit.errText", "internal/bytealg.MaxLen"], plainKeys := false, apart := false, laid := [("gutter/unit.errOver", laid_gutter_unit_errOver), ("gutter/unit.errZero", laid_gutter_unit_errZero), ("gutter/unit.errText", laid_gutter_unit_errText)], narrowed := true }
def UnitBackUptoSaid : Prop := unitBackUptoRow.holds Tryd.pinned (OpenSpec.upto unitBackSpec)

/-- 'gutterlaw01.UnitSigns', WHERE WHAT IT READS IS OF BULK AT MOST 1048576: true; the input reads as it did. -/
def unitSignsUptoRow : OpenClaim := { program := "ytlpkjjeihbdocaadoor", sum := "9952e7c0b4a762a9670a1e20212ab909e923999773bdcfdc1b5c21e273531dcb", func := "gutter/gutterlaw01.UnitSigns", spec := "unitSigns", inPlace := ["internal/reflectlite.TypeOf", "internal/bytealg.IndexByteString", "internal/bytealg.IndexString"], unfollowed := true, recurses := true, named := ["gutter/unit.errOver", "gutter/unit.errZero", "gutter/unit.errText", "internal/bytealg.MaxLen"], plainKeys := false, apart := false, laid := [("gutter/unit.errOver", laid_gutter_unit_errOver), ("gutter/unit.errZero", laid_gutter_unit_errZero), ("gutter/unit.errText", laid_gutter_unit_errText)], narrowed := true }
def UnitSignsUptoSaid : Prop := unitSignsUptoRow.holds Tryd.pinned (OpenSpec.upto unitSignsSpec)

/-- 'gutterlaw01.UnitDivides', WHERE WHAT IT READS IS OF BULK AT MOST 1048576: true; the input reads as it did. -/
def unitDividesUptoRow : OpenClaim := { program := "ytlpkjjeihbdocaadoor", sum := "9952e7c0b4a762a9670a1e20212ab909e923999773bdcfdc1b5c21e273531dcb", func := "gutter/gutterlaw01.UnitDivides", spec := "unitDivides", inPlace := ["internal/reflectlite.TypeOf", "internal/bytealg.IndexByteString", "internal/bytealg.IndexString"], unfollowed := true, recurses := true, named := ["gutter/unit.errOver", "gutter/unit.errZero", "gutter/unit.errText", "internal/bytealg.MaxLen"], plainKeys := false, apart := false, laid := [("gutter/unit.errOver", laid_gutter_unit_errOver), ("gutter/unit.errZero", laid_gutter_unit_errZero), ("gutter/unit.errText", laid_gutter_unit_errText)], narrowed := true }
def UnitDividesUptoSaid : Prop := unitDividesUptoRow.holds Tryd.pinned (OpenSpec.upto unitDividesSpec)

/-- 'gutterlaw01.UnitReckons', WHERE WHAT IT READS IS OF BULK AT MOST 1048576: true; the input reads as it did. -/
def unitReckonsUptoRow : OpenClaim := { program := "ytlpkjjeihbdocaadoor", sum := "9952e7c0b4a762a9670a1e20212ab909e923999773bdcfdc1b5c21e273531dcb", func := "gutter/gutterlaw01.UnitReckons", spec := "unitReckons", inPlace := ["internal/reflectlite.TypeOf", "internal/bytealg.IndexByteString", "internal/bytealg.IndexString"], unfollowed := true, recurses := true, named := ["gutter/unit.errOver", "gutter/unit.errZero", "gutter/unit.errText", "internal/bytealg.MaxLen"], plainKeys := false, apart := false, laid := [("gutter/unit.errOver", laid_gutter_unit_errOver), ("gutter/unit.errZero", laid_gutter_unit_errZero), ("gutter/unit.errText", laid_gutter_unit_errText)], narrowed := true }
def UnitReckonsUptoSaid : Prop := unitReckonsUptoRow.holds Tryd.pinned (OpenSpec.upto unitReckonsSpec)

/-- 'gutterlaw01.UnitSums', WHERE WHAT IT READS IS OF BULK AT MOST 1048576: true; the input reads as it did. -/
def unitSumsUptoRow : OpenClaim := { program := "ytlpkjjeihbdocaadoor", sum := "9952e7c0b4a762a9670a1e20212ab909e923999773bdcfdc1b5c21e273531dcb", func := "gutter/gutterlaw01.UnitSums", spec := "unitSums", inPlace := ["internal/reflectlite.TypeOf", "internal/bytealg.IndexByteString", "internal/bytealg.IndexString"], unfollowed := true, recurses := true, named := ["gutter/unit.errOver", "gutter/unit.errZero", "gutter/unit.errText", "internal/bytealg.MaxLen"], plainKeys := false, apart := false, laid := [("gutter/unit.errOver", laid_gutter_unit_errOver), ("gutter/unit.errZero", laid_gutter_unit_errZero), ("gutter/unit.errText", laid_gutter_unit_errText)], narrowed := true }
def UnitSumsUptoSaid : Prop := unitSumsUptoRow.holds Tryd.pinned (OpenSpec.upto unitSumsSpec)

/-- 'gutterlaw01.UnitTurns', WHERE WHAT IT READS IS OF BULK AT MOST 1048576: true; the input reads as it did. -/
def unitTurnsUptoRow : OpenClaim := { program := "ytlpkjjeihbdocaadoor", sum := "9952e7c0b4a762a9670a1e20212ab909e923999773bdcfdc1b5c21e273531dcb", func := "gutter/gutterlaw01.UnitTurns", spec := "unitTurns", inPlace := ["internal/reflectlite.TypeOf", "internal/bytealg.IndexByteString", "internal/bytealg.IndexString"], unfollowed := true, recurses := true, named := ["gutter/unit.errOver", "gutter/unit.errZero", "gutter/unit.errText", "internal/bytealg.MaxLen"], plainKeys := false, apart := false, laid := [("gutter/unit.errOver", laid_gutter_unit_errOver), ("gutter/unit.errZero", laid_gutter_unit_errZero), ("gutter/unit.errText", laid_gutter_unit_errText)], narrowed := true }
def UnitTurnsUptoSaid : Prop := unitTurnsUptoRow.holds Tryd.pinned (OpenSpec.upto unitTurnsSpec)

end Rows
end Go.Proofs.YtlpkjjeihbdocaaDoor
