/-
  NARROWER THAN 'FOR EVERY INPUT', by the rows' own cells (each row's printed sentence says how): ParaDeals: laid · ParaSums: laid · ParaBest: laid · ParaOne: laid · ParaTells: laid · ParaSplits: laid · ParaKeep: laid.
  DERIVED. THE GIVEN ROWS OF THIS SEAT. 7 by the template 'for every input the law returns true; each argument reads behind the call as it read before'; 0 by the template 'total and deterministic' (their statements: YtfamkadpncbmlaaDoorTotals.lean).
  GIVEN WITH THE SEED: the statements are not yours to turn. If you find one false, say at which input.
  Laid BY PROGRAM, IN A SANDBOX (cutbox-rows.mjs): the forced cells as the released guide's own fill.sh prints them over the translation a6e6928f8d4bf9ad… (all of the seat's roots in one cut). By AI agents, Wed Nov 11 2026. No macro, syntax, notation, axiom, sorry.
-/
import Derived.Test.YtfamkadpncbmlaaDoorChecked
import GoSem.Claim
import GoSem.ClaimJoined
import GoSem.ClaimMapViews
import Derived.JoinedTies
import Derived.KernelRfl
namespace Go.Proofs.YtfamkadpncbmlaaDoor
/- THE CELL 'sum', in the pinned program and in every row, IS THE sha256 OF THE DUMP (.gsa) THAT YtfamkadpncbmlaaDoorProg.lean LOADS. Nothing in Lean hashes anything: it is a label: what it is worth is what the hold of that sum in a sandbox is worth. -/
noncomputable def Tryd.pinned : Pinned := { name := "ytfamkadpncbmlaadoor", sum := "a6e6928f8d4bf9ad2dcb66c1a9a3fe8bae52f54858cf6b64f0540b17cea9c2cb", checked := Tryd.checked }
namespace Rows
def none {H : Type} : Left H := { results := [], args := [] }

/- WHAT THE LISTED PACKAGE-LEVEL VARIABLES READ AS WHEN THE CALL BEGINS. Each datum BY PROGRAM (the guide's laid-datum.mjs) off the statement by which the dump's own 'gosem.cut.vars' lays the variable. In a bare row this is a premise. The card (YtfamkadpncbmlaaDoorCards.lean) ties it to the program's text. -/
def laid_gutter_para_errPara {H : Type} : DataW H := .iface "*errors.errorString" (.ptr (.agg [.lit (.string [110, 111, 32, 112, 97, 114, 97, 103, 114, 97, 112, 104])]))

/-- 'gutterlaw09.ParaDeals': WHATEVER THE INPUT: true; the input reads as it did. -/
def paraDealsSpec : ChangeSpec := { name := "paraDeals", fn := fun _ => fun
  | [d1, d2, d3, d4, d5] => { results := [.lit (.bool true)], args := [d1, d2, d3, d4, d5] }
  | _ => none }
def paraDealsRow : OpenClaim := { program := "ytfamkadpncbmlaadoor", sum := "a6e6928f8d4bf9ad2dcb66c1a9a3fe8bae52f54858cf6b64f0540b17cea9c2cb", func := "gutter/gutterlaw09.ParaDeals", spec := "paraDeals", inPlace := ["internal/reflectlite.TypeOf"], unfollowed := true, recurses := true, named := ["gutter/para.errPara"], apart := false, laid := [("gutter/para.errPara", laid_gutter_para_errPara)] }
def ParaDealsSaid : Prop := paraDealsRow.holds Tryd.pinned (OpenSpec.ofChange paraDealsSpec)

/-- ITS FALSE NEIGHBOUR: 'it returns false'. Refute it at one input. -/
def paraDealsWrong : ChangeSpec := { name := "paraDeals", fn := fun _ => fun
  | [d1, d2, d3, d4, d5] => { results := [.lit (.bool false)], args := [d1, d2, d3, d4, d5] }
  | _ => none }
def ParaDealsWrongFalsely : Prop := paraDealsRow.holds Tryd.pinned (OpenSpec.ofChange paraDealsWrong)

/-- 'gutterlaw09.ParaSums': WHATEVER THE INPUT: true; the input reads as it did. -/
def paraSumsSpec : ChangeSpec := { name := "paraSums", fn := fun _ => fun
  | [d1, d2, d3, d4] => { results := [.lit (.bool true)], args := [d1, d2, d3, d4] }
  | _ => none }
def paraSumsRow : OpenClaim := { program := "ytfamkadpncbmlaadoor", sum := "a6e6928f8d4bf9ad2dcb66c1a9a3fe8bae52f54858cf6b64f0540b17cea9c2cb", func := "gutter/gutterlaw09.ParaSums", spec := "paraSums", inPlace := ["internal/reflectlite.TypeOf"], unfollowed := true, recurses := true, named := ["gutter/para.errPara"], apart := false, laid := [("gutter/para.errPara", laid_gutter_para_errPara)] }
def ParaSumsSaid : Prop := paraSumsRow.holds Tryd.pinned (OpenSpec.ofChange paraSumsSpec)

/-- ITS FALSE NEIGHBOUR: 'it returns false'. Refute it at one input. -/
def paraSumsWrong : ChangeSpec := { name := "paraSums", fn := fun _ => fun
  | [d1, d2, d3, d4] => { results := [.lit (.bool false)], args := [d1, d2, d3, d4] }
  | _ => none }
def ParaSumsWrongFalsely : Prop := paraSumsRow.holds Tryd.pinned (OpenSpec.ofChange paraSumsWrong)

/-- 'gutterlaw09.ParaBest': WHATEVER THE INPUT: true; the input reads as it did. -/
def paraBestSpec : ChangeSpec := { name := "paraBest", fn := fun _ => fun
  | [d1, d2, d3, d4, d5] => { results := [.lit (.bool true)], args := [d1, d2, d3, d4, d5] }
  | _ => none }
def paraBestRow : OpenClaim := { program := "ytfamkadpncbmlaadoor", sum := "a6e6928f8d4bf9ad2dcb66c1a9a3fe8bae52f54858cf6b64f0540b17cea9c2cb", func := "gutter/gutterlaw09.ParaBest", spec := "paraBest", inPlace := ["internal/reflectlite.TypeOf"], unfollowed := true, recurses := true, named := ["gutter/para.errPara"], apart := false, laid := [("gutter/para.errPara", laid_gutter_para_errPara)] }
def ParaBestSaid : Prop := paraBestRow.holds Tryd.pinned (OpenSpec.ofChange paraBestSpec)

/-- ITS FALSE NEIGHBOUR: 'it returns false'. Refute it at one input. -/
def paraBestWrong : ChangeSpec := { name := "paraBest", fn := fun _ => fun
  | [d1, d2, d3, d4, d5] => { results := [.lit (.bool false)], args := [d1, d2, d3, d4, d5] }
  | _ => none }
def ParaBestWrongFalsely : Prop := paraBestRow.holds Tryd.pinned (OpenSpec.ofChange paraBestWrong)

/-- 'gutterlaw09.ParaOne': WHATEVER THE INPUT: true; the input reads as it did. -/
def paraOneSpec : ChangeSpec := { name := "paraOne", fn := fun _ => fun
  | [d1, d2] => { results := [.lit (.bool true)], args := [d1, d2] }
  | _ => none }
def paraOneRow : OpenClaim := { program := "ytfamkadpncbmlaadoor", sum := "a6e6928f8d4bf9ad2dcb66c1a9a3fe8bae52f54858cf6b64f0540b17cea9c2cb", func := "gutter/gutterlaw09.ParaOne", spec := "paraOne", inPlace := ["internal/reflectlite.TypeOf"], unfollowed := true, recurses := true, named := ["gutter/para.errPara"], apart := false, laid := [("gutter/para.errPara", laid_gutter_para_errPara)] }
def ParaOneSaid : Prop := paraOneRow.holds Tryd.pinned (OpenSpec.ofChange paraOneSpec)

/-- ITS FALSE NEIGHBOUR: 'it returns false'. Refute it at one input. -/
def paraOneWrong : ChangeSpec := { name := "paraOne", fn := fun _ => fun
  | [d1, d2] => { results := [.lit (.bool false)], args := [d1, d2] }
  | _ => none }
def ParaOneWrongFalsely : Prop := paraOneRow.holds Tryd.pinned (OpenSpec.ofChange paraOneWrong)

/-- 'gutterlaw09.ParaTells': WHATEVER THE INPUT: true; the input reads as it did. -/
def paraTellsSpec : ChangeSpec := { name := "paraTells", fn := fun _ => fun
  | [d1, d2, d3, d4, d5] => { results := [.lit (.bool true)], args := [d1, d2, d3, d4, d5] }
  | _ => none }
def paraTellsRow : OpenClaim := { program := "ytfamkadpncbmlaadoor", sum := "a6e6928f8d4bf9ad2dcb66c1a9a3fe8bae52f54858cf6b64f0540b17cea9c2cb", func := "gutter/gutterlaw09.ParaTells", spec := "paraTells", inPlace := ["internal/reflectlite.TypeOf"], unfollowed := true, recurses := true, named := ["gutter/para.errPara"], apart := false, laid := [("gutter/para.errPara", laid_gutter_para_errPara)] }
def ParaTellsSaid : Prop := paraTellsRow.holds Tryd.pinned (OpenSpec.ofChange paraTellsSpec)

/-- ITS FALSE NEIGHBOUR: 'it returns false'. Refute it at one input. -/
def paraTellsWrong : ChangeSpec := { name := "paraTells", fn := fun _ => fun
  | [d1, d2, d3, d4, d5] => { results := [.lit (.bool false)], args := [d1, d2, d3, d4, d5] }
  | _ => none }
def ParaTellsWrongFalsely : Prop := paraTellsRow.holds Tryd.pinned (OpenSpec.ofChange paraTellsWrong)

/-- 'gutterlaw09.ParaSplits': WHATEVER THE INPUT: true; the input reads as it did. -/
def paraSplitsSpec : ChangeSpec := { name := "paraSplits", fn := fun _ => fun
  | [d1, d2, d3, d4] => { results := [.lit (.bool true)], args := [d1, d2, d3, d4] }
  | _ => none }
def paraSplitsRow : OpenClaim := { program := "ytfamkadpncbmlaadoor", sum := "a6e6928f8d4bf9ad2dcb66c1a9a3fe8bae52f54858cf6b64f0540b17cea9c2cb", func := "gutter/gutterlaw09.ParaSplits", spec := "paraSplits", inPlace := ["internal/reflectlite.TypeOf"], unfollowed := true, recurses := true, named := ["gutter/para.errPara"], apart := false, laid := [("gutter/para.errPara", laid_gutter_para_errPara)] }
def ParaSplitsSaid : Prop := paraSplitsRow.holds Tryd.pinned (OpenSpec.ofChange paraSplitsSpec)

/-- ITS FALSE NEIGHBOUR: 'it returns false'. Refute it at one input. -/
def paraSplitsWrong : ChangeSpec := { name := "paraSplits", fn := fun _ => fun
  | [d1, d2, d3, d4] => { results := [.lit (.bool false)], args := [d1, d2, d3, d4] }
  | _ => none }
def ParaSplitsWrongFalsely : Prop := paraSplitsRow.holds Tryd.pinned (OpenSpec.ofChange paraSplitsWrong)

/-- 'gutterlaw09.ParaKeep': WHATEVER THE INPUT: true; the input reads as it did. -/
def paraKeepSpec : ChangeSpec := { name := "paraKeep", fn := fun _ => fun
  | [d1, d2, d3] => { results := [.lit (.bool true)], args := [d1, d2, d3] }
  | _ => none }
def paraKeepRow : OpenClaim := { program := "ytfamkadpncbmlaadoor", sum := "a6e6928f8d4bf9ad2dcb66c1a9a3fe8bae52f54858cf6b64f0540b17cea9c2cb", func := "gutter/gutterlaw09.ParaKeep", spec := "paraKeep", inPlace := ["internal/reflectlite.TypeOf"], unfollowed := true, recurses := true, named := ["gutter/para.errPara"], apart := false, laid := [("gutter/para.errPara", laid_gutter_para_errPara)] }
def ParaKeepSaid : Prop := paraKeepRow.holds Tryd.pinned (OpenSpec.ofChange paraKeepSpec)

/-- ITS FALSE NEIGHBOUR: 'it returns false'. Refute it at one input. -/
def paraKeepWrong : ChangeSpec := { name := "paraKeep", fn := fun _ => fun
  | [d1, d2, d3] => { results := [.lit (.bool false)], args := [d1, d2, d3] }
  | _ => none }
def ParaKeepWrongFalsely : Prop := paraKeepRow.holds Tryd.pinned (OpenSpec.ofChange paraKeepWrong)

/- THE SECOND FORM. 'bulk': how many values and letters a reading holds, each counted each time it is reached (what is shared counts as often as it is met; a slice's spare places count too). A statement '..UptoSaid' is the law's where the arguments, and the package variables that the reading takes, are together of bulk at most 1048576: NARROWER than '..Said'. Prove '..Said' where nothing that the law and all that it calls make is longer than what came in: it says more and counts as full. Else prove '..UptoSaid'. A law counts once. -/
mutual
def uptoBulk {H : Type} : DataW H → Nat
  | .lit (.string bytes) => bytes.length + 1
  | .lit _ => 1
  | .nil => 1
  | .ptr d => uptoBulk d + 1
  | .slice elems spare => uptoBulkAll elems + uptoBulkAll spare + 1
  | .agg parts => uptoBulkAll parts + 1
  | .iface _ d => uptoBulk d + 1
  | .map entries => uptoBulkEntries entries + 1
  | .held _ => 1
def uptoBulkAll {H : Type} : List (DataW H) → Nat
  | [] => 0
  | d :: r => uptoBulk d + uptoBulkAll r
def uptoBulkEntries {H : Type} : List (Lit × DataW H) → Nat
  | [] => 0
  | x :: r => uptoBulkEntry x + uptoBulkEntries r
def uptoBulkEntry {H : Type} : Lit × DataW H → Nat
  | (.string bytes, d) => bytes.length + uptoBulk d + 1
  | (_, d) => uptoBulk d + 1
 end
def uptoSmall : (H : Type) → List (DataW H) → Bool := fun _ ds => decide (uptoBulkAll ds ≤ 1048576)
def OpenSpec.upto (s : _root_.Go.ChangeSpec) : _root_.Go.OpenSpec := { _root_.Go.OpenSpec.ofChange s with cond := some uptoSmall }

/-- 'gutterlaw09.ParaDeals', WHERE WHAT IT READS IS OF BULK AT MOST 1048576: true; the input reads as it did. -/
def paraDealsUptoRow : OpenClaim := { program := "ytfamkadpncbmlaadoor", sum := "a6e6928f8d4bf9ad2dcb66c1a9a3fe8bae52f54858cf6b64f0540b17cea9c2cb", func := "gutter/gutterlaw09.ParaDeals", spec := "paraDeals", inPlace := ["internal/reflectlite.TypeOf"], unfollowed := true, recurses := true, named := ["gutter/para.errPara"], apart := false, laid := [("gutter/para.errPara", laid_gutter_para_errPara)], narrowed := true }
def ParaDealsUptoSaid : Prop := paraDealsUptoRow.holds Tryd.pinned (OpenSpec.upto paraDealsSpec)

/-- 'gutterlaw09.ParaSums', WHERE WHAT IT READS IS OF BULK AT MOST 1048576: true; the input reads as it did. -/
def paraSumsUptoRow : OpenClaim := { program := "ytfamkadpncbmlaadoor", sum := "a6e6928f8d4bf9ad2dcb66c1a9a3fe8bae52f54858cf6b64f0540b17cea9c2cb", func := "gutter/gutterlaw09.ParaSums", spec := "paraSums", inPlace := ["internal/reflectlite.TypeOf"], unfollowed := true, recurses := true, named := ["gutter/para.errPara"], apart := false, laid := [("gutter/para.errPara", laid_gutter_para_errPara)], narrowed := true }
def ParaSumsUptoSaid : Prop := paraSumsUptoRow.holds Tryd.pinned (OpenSpec.upto paraSumsSpec)

/-- 'gutterlaw09.ParaBest', WHERE WHAT IT READS IS OF BULK AT MOST 1048576: true; the input reads as it did. -/
def paraBestUptoRow : OpenClaim := { program := "ytfamkadpncbmlaadoor", sum := "a6e6928f8d4bf9ad2dcb66c1a9a3fe8bae52f54858cf6b64f0540b17cea9c2cb", func := "gutter/gutterlaw09.ParaBest", spec := "paraBest", inPlace := ["internal/reflectlite.TypeOf"], unfollowed := true, recurses := true, named := ["gutter/para.errPara"], apart := false, laid := [("gutter/para.errPara", laid_gutter_para_errPara)], narrowed := true }
def ParaBestUptoSaid : Prop := paraBestUptoRow.holds Tryd.pinned (OpenSpec.upto paraBestSpec)

/-- 'gutterlaw09.ParaOne', WHERE WHAT IT READS IS OF BULK AT MOST 1048576: true; the input reads as it did. -/
def paraOneUptoRow : OpenClaim := { program := "ytfamkadpncbmlaadoor", sum := "a6e6928f8d4bf9ad2dcb66c1a9a3fe8bae52f54858cf6b64f0540b17cea9c2cb", func := "gutter/gutterlaw09.ParaOne", spec := "paraOne", inPlace := ["internal/reflectlite.TypeOf"], unfollowed := true, recurses := true, named := ["gutter/para.errPara"], apart := false, laid := [("gutter/para.errPara", laid_gutter_para_errPara)], narrowed := true }
def ParaOneUptoSaid : Prop := paraOneUptoRow.holds Tryd.pinned (OpenSpec.upto paraOneSpec)

/-- 'gutterlaw09.ParaTells', WHERE WHAT IT READS IS OF BULK AT MOST 1048576: true; the input reads as it did. -/
def paraTellsUptoRow : OpenClaim := { program := "ytfamkadpncbmlaadoor", sum := "a6e6928f8d4bf9ad2dcb66c1a9a3fe8bae52f54858cf6b64f0540b17cea9c2cb", func := "gutter/gutterlaw09.ParaTells", spec := "paraTells", inPlace := ["internal/reflectlite.TypeOf"], unfollowed := true, recurses := true, named := ["gutter/para.errPara"], apart := false, laid := [("gutter/para.errPara", laid_gutter_para_errPara)], narrowed := true }
def ParaTellsUptoSaid : Prop := paraTellsUptoRow.holds Tryd.pinned (OpenSpec.upto paraTellsSpec)

/-- 'gutterlaw09.ParaSplits', WHERE WHAT IT READS IS OF BULK AT MOST 1048576: true; the input reads as it did. -/
def paraSplitsUptoRow : OpenClaim := { program := "ytfamkadpncbmlaadoor", sum := "a6e6928f8d4bf9ad2dcb66c1a9a3fe8bae52f54858cf6b64f0540b17cea9c2cb", func := "gutter/gutterlaw09.ParaSplits", spec := "paraSplits", inPlace := ["internal/reflectlite.TypeOf"], unfollowed := true, recurses := true, named := ["gutter/para.errPara"], apart := false, laid := [("gutter/para.errPara", laid_gutter_para_errPara)], narrowed := true }
def ParaSplitsUptoSaid : Prop := paraSplitsUptoRow.holds Tryd.pinned (OpenSpec.upto paraSplitsSpec)

/-- 'gutterlaw09.ParaKeep', WHERE WHAT IT READS IS OF BULK AT MOST 1048576: true; the input reads as it did. -/
def paraKeepUptoRow : OpenClaim := { program := "ytfamkadpncbmlaadoor", sum := "a6e6928f8d4bf9ad2dcb66c1a9a3fe8bae52f54858cf6b64f0540b17cea9c2cb", func := "gutter/gutterlaw09.ParaKeep", spec := "paraKeep", inPlace := ["internal/reflectlite.TypeOf"], unfollowed := true, recurses := true, named := ["gutter/para.errPara"], apart := false, laid := [("gutter/para.errPara", laid_gutter_para_errPara)], narrowed := true }
def ParaKeepUptoSaid : Prop := paraKeepUptoRow.holds Tryd.pinned (OpenSpec.upto paraKeepSpec)

end Rows
end Go.Proofs.YtfamkadpncbmlaaDoor
