/-
  NARROWER THAN 'FOR EVERY INPUT', by the rows' own cells (each row's printed sentence says how): MarginCollapses: laid · MarginStacks: laid · MarginTurns: laid · MarginNothing: laid · MarginHeights: laid · MarginSteps: laid · MarginBetween: laid.
  DERIVED. THE GIVEN ROWS OF THIS SEAT. 7 by the template 'for every input the law returns true; each argument reads behind the call as it read before'; 0 by the template 'total and deterministic' (their statements: YtiodlbfdfnideaaDoorTotals.lean).
  GIVEN WITH THE SEED: the statements are not yours to turn. If you find one false, say at which input.
  Laid BY PROGRAM, IN A SANDBOX (cutbox-rows.mjs): the forced cells as the released guide's own fill.sh prints them over the translation eb4c4c2caa88046b… (all of the seat's roots in one cut). By AI agents, Wed Nov 11 2026. No macro, syntax, notation, axiom, sorry.
-/
import Derived.Test.YtiodlbfdfnideaaDoorChecked
import GoSem.Claim
import GoSem.ClaimJoined
import GoSem.ClaimMapViews
import Derived.JoinedTies
import Derived.KernelRfl
namespace Go.Proofs.YtiodlbfdfnideaaDoor
/- THE CELL 'sum', in the pinned program and in every row, IS THE sha256 OF THE DUMP (.gsa) THAT YtiodlbfdfnideaaDoorProg.lean LOADS. Nothing in Lean hashes anything: it is a label: what it is worth is what the hold of that sum in a sandbox is worth. -/
noncomputable def Tryd.pinned : Pinned := { name := "ytiodlbfdfnideaadoor", sum := "eb4c4c2caa88046b04776bdd046822b135e599d6af592d0a01ed43d589d2516a", checked := Tryd.checked }
namespace Rows
def none {H : Type} : Left H := { results := [], args := [] }

/- WHAT THE LISTED PACKAGE-LEVEL VARIABLES READ AS WHEN THE CALL BEGINS. Each datum BY PROGRAM (the guide's laid-datum.mjs) off the statement by which the dump's own 'gosem.cut.vars' lays the variable. In a bare row this is a premise. The card (YtiodlbfdfnideaaDoorCards.lean) ties it to the program's text. -/
def laid_errors_errorType {H : Type} : DataW H := .iface "internal/reflectlite.rtype" (.agg [.ptr (.lit (.string [101, 114, 114, 111, 114]))])

/-- 'gutterlaw10.MarginCollapses': WHATEVER THE INPUT: true; the input reads as it did. -/
def marginCollapsesSpec : ChangeSpec := { name := "marginCollapses", fn := fun _ => fun
  | [d] => { results := [.lit (.bool true)], args := [d] }
  | _ => none }
def marginCollapsesRow : OpenClaim := { program := "ytiodlbfdfnideaadoor", sum := "eb4c4c2caa88046b04776bdd046822b135e599d6af592d0a01ed43d589d2516a", func := "gutter/gutterlaw10.MarginCollapses", spec := "marginCollapses", inPlace := ["internal/reflectlite.ValueOf", "(internal/reflectlite.Value).Type", "(internal/reflectlite.Value).IsNil", "internal/reflectlite.TypeOf", "(internal/reflectlite.Value).Elem", "(internal/reflectlite.Value).Set"], unfollowed := true, recurses := true, named := ["errors.errorType"], apart := false, laid := [("errors.errorType", laid_errors_errorType)] }
def MarginCollapsesSaid : Prop := marginCollapsesRow.holds Tryd.pinned (OpenSpec.ofChange marginCollapsesSpec)

/-- ITS FALSE NEIGHBOUR: 'it returns false'. Refute it at one input. -/
def marginCollapsesWrong : ChangeSpec := { name := "marginCollapses", fn := fun _ => fun
  | [d] => { results := [.lit (.bool false)], args := [d] }
  | _ => none }
def MarginCollapsesWrongFalsely : Prop := marginCollapsesRow.holds Tryd.pinned (OpenSpec.ofChange marginCollapsesWrong)

/-- 'gutterlaw10.MarginStacks': WHATEVER THE INPUT: true; the input reads as it did. -/
def marginStacksSpec : ChangeSpec := { name := "marginStacks", fn := fun _ => fun
  | [d1, d2] => { results := [.lit (.bool true)], args := [d1, d2] }
  | _ => none }
def marginStacksRow : OpenClaim := { program := "ytiodlbfdfnideaadoor", sum := "eb4c4c2caa88046b04776bdd046822b135e599d6af592d0a01ed43d589d2516a", func := "gutter/gutterlaw10.MarginStacks", spec := "marginStacks", inPlace := ["internal/reflectlite.ValueOf", "(internal/reflectlite.Value).Type", "(internal/reflectlite.Value).IsNil", "internal/reflectlite.TypeOf", "(internal/reflectlite.Value).Elem", "(internal/reflectlite.Value).Set"], unfollowed := true, recurses := true, named := ["errors.errorType"], apart := false, laid := [("errors.errorType", laid_errors_errorType)] }
def MarginStacksSaid : Prop := marginStacksRow.holds Tryd.pinned (OpenSpec.ofChange marginStacksSpec)

/-- ITS FALSE NEIGHBOUR: 'it returns false'. Refute it at one input. -/
def marginStacksWrong : ChangeSpec := { name := "marginStacks", fn := fun _ => fun
  | [d1, d2] => { results := [.lit (.bool false)], args := [d1, d2] }
  | _ => none }
def MarginStacksWrongFalsely : Prop := marginStacksRow.holds Tryd.pinned (OpenSpec.ofChange marginStacksWrong)

/-- 'gutterlaw10.MarginTurns': WHATEVER THE INPUT: true; the input reads as it did. -/
def marginTurnsSpec : ChangeSpec := { name := "marginTurns", fn := fun _ => fun
  | [d1, d2] => { results := [.lit (.bool true)], args := [d1, d2] }
  | _ => none }
def marginTurnsRow : OpenClaim := { program := "ytiodlbfdfnideaadoor", sum := "eb4c4c2caa88046b04776bdd046822b135e599d6af592d0a01ed43d589d2516a", func := "gutter/gutterlaw10.MarginTurns", spec := "marginTurns", inPlace := ["internal/reflectlite.ValueOf", "(internal/reflectlite.Value).Type", "(internal/reflectlite.Value).IsNil", "internal/reflectlite.TypeOf", "(internal/reflectlite.Value).Elem", "(internal/reflectlite.Value).Set"], unfollowed := true, recurses := true, named := ["errors.errorType"], apart := false, laid := [("errors.errorType", laid_errors_errorType)] }
def MarginTurnsSaid : Prop := marginTurnsRow.holds Tryd.pinned (OpenSpec.ofChange marginTurnsSpec)

/-- ITS FALSE NEIGHBOUR: 'it returns false'. Refute it at one input. -/
def marginTurnsWrong : ChangeSpec := { name := "marginTurns", fn := fun _ => fun
  | [d1, d2] => { results := [.lit (.bool false)], args := [d1, d2] }
  | _ => none }
def MarginTurnsWrongFalsely : Prop := marginTurnsRow.holds Tryd.pinned (OpenSpec.ofChange marginTurnsWrong)

/-- 'gutterlaw10.MarginNothing': WHATEVER THE INPUT: true; the input reads as it did. -/
def marginNothingSpec : ChangeSpec := { name := "marginNothing", fn := fun _ => fun
  | [d1, d2] => { results := [.lit (.bool true)], args := [d1, d2] }
  | _ => none }
def marginNothingRow : OpenClaim := { program := "ytiodlbfdfnideaadoor", sum := "eb4c4c2caa88046b04776bdd046822b135e599d6af592d0a01ed43d589d2516a", func := "gutter/gutterlaw10.MarginNothing", spec := "marginNothing", inPlace := ["internal/reflectlite.ValueOf", "(internal/reflectlite.Value).Type", "(internal/reflectlite.Value).IsNil", "internal/reflectlite.TypeOf", "(internal/reflectlite.Value).Elem", "(internal/reflectlite.Value).Set"], unfollowed := true, recurses := true, named := ["errors.errorType"], apart := false, laid := [("errors.errorType", laid_errors_errorType)] }
def MarginNothingSaid : Prop := marginNothingRow.holds Tryd.pinned (OpenSpec.ofChange marginNothingSpec)

/-- ITS FALSE NEIGHBOUR: 'it returns false'. Refute it at one input. -/
def marginNothingWrong : ChangeSpec := { name := "marginNothing", fn := fun _ => fun
  | [d1, d2] => { results := [.lit (.bool false)], args := [d1, d2] }
  | _ => none }
def MarginNothingWrongFalsely : Prop := marginNothingRow.holds Tryd.pinned (OpenSpec.ofChange marginNothingWrong)

/-- 'gutterlaw10.MarginHeights': WHATEVER THE INPUT: true; the input reads as it did. -/
def marginHeightsSpec : ChangeSpec := { name := "marginHeights", fn := fun _ => fun
  | [d] => { results := [.lit (.bool true)], args := [d] }
  | _ => none }
def marginHeightsRow : OpenClaim := { program := "ytiodlbfdfnideaadoor", sum := "eb4c4c2caa88046b04776bdd046822b135e599d6af592d0a01ed43d589d2516a", func := "gutter/gutterlaw10.MarginHeights", spec := "marginHeights", inPlace := ["internal/reflectlite.ValueOf", "(internal/reflectlite.Value).Type", "(internal/reflectlite.Value).IsNil", "internal/reflectlite.TypeOf", "(internal/reflectlite.Value).Elem", "(internal/reflectlite.Value).Set"], unfollowed := true, recurses := true, named := ["errors.errorType"], apart := false, laid := [("errors.errorType", laid_errors_errorType)] }
def MarginHeightsSaid : Prop := marginHeightsRow.holds Tryd.pinned (OpenSpec.ofChange marginHeightsSpec)

/-- ITS FALSE NEIGHBOUR: 'it returns false'. Refute it at one input. -/
def marginHeightsWrong : ChangeSpec := { name := "marginHeights", fn := fun _ => fun
  | [d] => { results := [.lit (.bool false)], args := [d] }
  | _ => none }
def MarginHeightsWrongFalsely : Prop := marginHeightsRow.holds Tryd.pinned (OpenSpec.ofChange marginHeightsWrong)

/-- 'gutterlaw10.MarginSteps': WHATEVER THE INPUT: true; the input reads as it did. -/
def marginStepsSpec : ChangeSpec := { name := "marginSteps", fn := fun _ => fun
  | [d] => { results := [.lit (.bool true)], args := [d] }
  | _ => none }
def marginStepsRow : OpenClaim := { program := "ytiodlbfdfnideaadoor", sum := "eb4c4c2caa88046b04776bdd046822b135e599d6af592d0a01ed43d589d2516a", func := "gutter/gutterlaw10.MarginSteps", spec := "marginSteps", inPlace := ["internal/reflectlite.ValueOf", "(internal/reflectlite.Value).Type", "(internal/reflectlite.Value).IsNil", "internal/reflectlite.TypeOf", "(internal/reflectlite.Value).Elem", "(internal/reflectlite.Value).Set"], unfollowed := true, recurses := true, named := ["errors.errorType"], apart := false, laid := [("errors.errorType", laid_errors_errorType)] }
def MarginStepsSaid : Prop := marginStepsRow.holds Tryd.pinned (OpenSpec.ofChange marginStepsSpec)

/-- ITS FALSE NEIGHBOUR: 'it returns false'. Refute it at one input. -/
def marginStepsWrong : ChangeSpec := { name := "marginSteps", fn := fun _ => fun
  | [d] => { results := [.lit (.bool false)], args := [d] }
  | _ => none }
def MarginStepsWrongFalsely : Prop := marginStepsRow.holds Tryd.pinned (OpenSpec.ofChange marginStepsWrong)

/-- 'gutterlaw10.MarginBetween': WHATEVER THE INPUT: true; the input reads as it did. -/
def marginBetweenSpec : ChangeSpec := { name := "marginBetween", fn := fun _ => fun
  | [d] => { results := [.lit (.bool true)], args := [d] }
  | _ => none }
def marginBetweenRow : OpenClaim := { program := "ytiodlbfdfnideaadoor", sum := "eb4c4c2caa88046b04776bdd046822b135e599d6af592d0a01ed43d589d2516a", func := "gutter/gutterlaw10.MarginBetween", spec := "marginBetween", inPlace := ["internal/reflectlite.ValueOf", "(internal/reflectlite.Value).Type", "(internal/reflectlite.Value).IsNil", "internal/reflectlite.TypeOf", "(internal/reflectlite.Value).Elem", "(internal/reflectlite.Value).Set"], unfollowed := true, recurses := true, named := ["errors.errorType"], apart := false, laid := [("errors.errorType", laid_errors_errorType)] }
def MarginBetweenSaid : Prop := marginBetweenRow.holds Tryd.pinned (OpenSpec.ofChange marginBetweenSpec)

/-- ITS FALSE NEIGHBOUR: 'it returns false'. Refute it at one input. -/
def marginBetweenWrong : ChangeSpec := { name := "marginBetween", fn := fun _ => fun
  | [d] => { results := [.lit (.bool false)], args := [d] }
  | _ => none }
def MarginBetweenWrongFalsely : Prop := marginBetweenRow.holds Tryd.pinned (OpenSpec.ofChange marginBetweenWrong)

/- THE SECOND FORM. 'bulk': how many values and letters a reading holds, each counted each time it is reached (what is shared counts as often as it is met; a slice's spare places count too). A statement '..UptoSaid' is the law's where the arguments, and the package variables that the reading takes, are together of bulk at most 1048576: NARROWER than '..Said'. Prove '..Said' where nothing that the law and all that it calls make is longer than what came in: it says more and counts as full. Else prove '..UptoSaid'. A law counts once. -/
mutual
def uptoBulk {H : Type} : DataW H → Nat
  | .lit (.string bytes) => bytes.length + 1
  | .lit _ => 1
  | .nil => 1
  | .ptr d => uptoBulk d + 1
  | .slice elems spare => uptoBulkAll elems + uptoBulkAll spare + 1
  | .agg parts => uptoBulkAll parts + 1
  | .iface _ d => uptoBulk d + 1
  | .map entries => uptoBulkEntries entries + 1
  | .held _ => 1
def uptoBulkAll {H : Type} : List (DataW H) → Nat
  | [] => 0
  | d :: r => uptoBulk d + uptoBulkAll r
def uptoBulkEntries {H : Type} : List (Lit × DataW H) → Nat
  | [] => 0
  | x :: r => uptoBulkEntry x + uptoBulkEntries r
def uptoBulkEntry {H : Type} : Lit × DataW H → Nat
  | (.string bytes, d) => bytes.length + uptoBulk d + 1
  | (_, d) => uptoBulk d + 1
 end
def uptoSmall : (H : Type) → List (DataW H) → Bool := fun _ ds => decide (uptoBulkAll ds ≤ 1048576)
def OpenSpec.upto (s : _root_.Go.ChangeSpec) : _root_.Go.OpenSpec := { _root_.Go.OpenSpec.ofChange s with cond := some uptoSmall }

/-- 'gutterlaw10.MarginCollapses', WHERE WHAT IT READS IS OF BULK AT MOST 1048576: true; the input reads as it did. -/
def marginCollapsesUptoRow : OpenClaim := { program := "ytiodlbfdfnideaadoor", sum := "eb4c4c2caa88046b04776bdd046822b135e599d6af592d0a01ed43d589d2516a", func := "gutter/gutterlaw10.MarginCollapses", spec := "marginCollapses", inPlace := ["internal/reflectlite.ValueOf", "(internal/reflectlite.Value).Type", "(internal/reflectlite.Value).IsNil", "internal/reflectlite.TypeOf", "(internal/reflectlite.Value).Elem", "(internal/reflectlite.Value).Set"], unfollowed := true, recurses := true, named := ["errors.errorType"], apart := false, laid := [("errors.errorType", laid_errors_errorType)], narrowed := true }
def MarginCollapsesUptoSaid : Prop := marginCollapsesUptoRow.holds Tryd.pinned (OpenSpec.upto marginCollapsesSpec)

/-- 'gutterlaw10.MarginStacks', WHERE WHAT IT READS IS OF BULK AT MOST 1048576: true; the input reads as it did. -/
def marginStacksUptoRow : OpenClaim := { program := "ytiodlbfdfnideaadoor", sum := "eb4c4c2caa88046b04776bdd046822b135e599d6af592d0a01ed43d589d2516a", func := "gutter/gutterlaw10.MarginStacks", spec := "marginStacks", inPlace := ["internal/reflectlite.ValueOf", "(internal/reflectlite.Value).Type", "(internal/reflectlite.Value).IsNil", "internal/reflectlite.TypeOf", "(internal/reflectlite.Value).Elem", "(internal/reflectlite.Value).Set"], unfollowed := true, recurses := true, named := ["errors.errorType"], apart := false, laid := [("errors.errorType", laid_errors_errorType)], narrowed := true }
def MarginStacksUptoSaid : Prop := marginStacksUptoRow.holds Tryd.pinned (OpenSpec.upto marginStacksSpec)

/-- 'gutterlaw10.MarginTurns', WHERE WHAT IT READS IS OF BULK AT MOST 1048576: true; the input reads as it did. -/
def marginTurnsUptoRow : OpenClaim := { program := "ytiodlbfdfnideaadoor", sum := "eb4c4c2caa88046b04776bdd046822b135e599d6af592d0a01ed43d589d2516a", func := "gutter/gutterlaw10.MarginTurns", spec := "marginTurns", inPlace := ["internal/reflectlite.ValueOf", "(internal/reflectlite.Value).Type", "(internal/reflectlite.Value).IsNil", "internal/reflectlite.TypeOf", "(internal/reflectlite.Value).Elem", "(internal/reflectlite.Value).Set"], unfollowed := true, recurses := true, named := ["errors.errorType"], apart := false, laid := [("errors.errorType", laid_errors_errorType)], narrowed := true }
def MarginTurnsUptoSaid : Prop := marginTurnsUptoRow.holds Tryd.pinned (OpenSpec.upto marginTurnsSpec)

/-- 'gutterlaw10.MarginNothing', WHERE WHAT IT READS IS OF BULK AT MOST 1048576: true; the input reads as it did. -/
def marginNothingUptoRow : OpenClaim := { program := "ytiodlbfdfnideaadoor", sum := "eb4c4c2caa88046b04776bdd046822b135e599d6af592d0a01ed43d589d2516a", func := "gutter/gutterlaw10.MarginNothing", spec := "marginNothing", inPlace := ["internal/reflectlite.ValueOf", "(internal/reflectlite.Value).Type", "(internal/reflectlite.Value).IsNil", "internal/reflectlite.TypeOf", "(internal/reflectlite.Value).Elem", "(internal/reflectlite.Value).Set"], unfollowed := true, recurses := true, named := ["errors.errorType"], apart := false, laid := [("errors.errorType", laid_errors_errorType)], narrowed := true }
def MarginNothingUptoSaid : Prop := marginNothingUptoRow.holds Tryd.pinned (OpenSpec.upto marginNothingSpec)

/-- 'gutterlaw10.MarginHeights', WHERE WHAT IT READS IS OF BULK AT MOST 1048576: true; the input reads as it did. -/
def marginHeightsUptoRow : OpenClaim := { program := "ytiodlbfdfnideaadoor", sum := "eb4c4c2caa88046b04776bdd046822b135e599d6af592d0a01ed43d589d2516a", func := "gutter/gutterlaw10.MarginHeights", spec := "marginHeights", inPlace := ["internal/reflectlite.ValueOf", "(internal/reflectlite.Value).Type", "(internal/reflectlite.Value).IsNil", "internal/reflectlite.TypeOf", "(internal/reflectlite.Value).Elem", "(internal/reflectlite.Value).Set"], unfollowed := true, recurses := true, named := ["errors.errorType"], apart := false, laid := [("errors.errorType", laid_errors_errorType)], narrowed := true }
def MarginHeightsUptoSaid : Prop := marginHeightsUptoRow.holds Tryd.pinned (OpenSpec.upto marginHeightsSpec)

/-- 'gutterlaw10.MarginSteps', WHERE WHAT IT READS IS OF BULK AT MOST 1048576: true; the input reads as it did. -/
def marginStepsUptoRow : OpenClaim := { program := "ytiodlbfdfnideaadoor", sum := "eb4c4c2caa88046b04776bdd046822b135e599d6af592d0a01ed43d589d2516a", func := "gutter/gutterlaw10.MarginSteps", spec := "marginSteps", inPlace := ["internal/reflectlite.ValueOf", "(internal/reflectlite.Value).Type", "(internal/reflectlite.Value).IsNil", "internal/reflectlite.TypeOf", "(internal/reflectlite.Value).Elem", "(internal/reflectlite.Value).Set"], unfollowed := true, recurses := true, named := ["errors.errorType"], apart := false, laid := [("errors.errorType", laid_errors_errorType)], narrowed := true }
def MarginStepsUptoSaid : Prop := marginStepsUptoRow.holds Tryd.pinned (OpenSpec.upto marginStepsSpec)

/-- 'gutterlaw10.MarginBetween', WHERE WHAT IT READS IS OF BULK AT MOST 1048576: true; the input reads as it did. -/
def marginBetweenUptoRow : OpenClaim := { program := "ytiodlbfdfnideaadoor", sum := "eb4c4c2caa88046b04776bdd046822b135e599d6af592d0a01ed43d589d2516a", func := "gutter/gutterlaw10.MarginBetween", spec := "marginBetween", inPlace := ["internal/reflectlite.ValueOf", "(internal/reflectlite.Value).Type", "(internal/reflectlite.Value).IsNil", "internal/reflectlite.TypeOf", "(internal/reflectlite.Value).Elem", "(internal/reflectlite.Value).Set"], unfollowed := true, recurses := true, named := ["errors.errorType"], apart := false, laid := [("errors.errorType", laid_errors_errorType)], narrowed := true }
def MarginBetweenUptoSaid : Prop := marginBetweenUptoRow.holds Tryd.pinned (OpenSpec.upto marginBetweenSpec)

end Rows
end Go.Proofs.YtiodlbfdfnideaaDoor
