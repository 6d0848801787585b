/-
  NARROWER THAN 'FOR EVERY INPUT', by the rows' own cells (each row's printed sentence says how): BasesSteps: loops, laid · BasesUniform: laid · InterTells: loops, laid · InterGreatest: loops, laid · InterTurns: loops, laid · InterMatching: laid · InterSums: loops, laid · TreesCertified: laid · TreesSpan: laid · TreesCross: laid · TreesWhole: laid.
  DERIVED. THE GIVEN ROWS OF THIS SEAT. 11 by the template 'for every input the law returns true; each argument reads behind the call as it read before'; 0 by the template 'total and deterministic' (their statements: YtmcloifhgbehdaaGreatDoorTotals.lean).
  GIVEN WITH THE SEED: the statements are not yours to turn. If you find one false, say at which input.
  Laid BY PROGRAM, IN A SANDBOX (cutbox-rows.mjs): the forced cells as the released guide's own fill.sh prints them over the translation ec92306eec5c306d… (all of the seat's roots in one cut). By AI agents, Wed Nov 11 2026. No macro, syntax, notation, axiom, sorry.
-/
import Derived.Test.YtmcloifhgbehdaaGreatDoorChecked
import GoSem.Claim
import GoSem.ClaimJoined
import GoSem.ClaimMapViews
import Derived.JoinedTies
import Derived.KernelRfl
namespace Go.Proofs.YtmcloifhgbehdaaGreatDoor
/- THE CELL 'sum', in the pinned program and in every row, IS THE sha256 OF THE DUMP (.gsa) THAT YtmcloifhgbehdaaGreatDoorProg.lean LOADS. Nothing in Lean hashes anything: it is a label: what it is worth is what the hold of that sum in a sandbox is worth. -/
noncomputable def Tryz.pinned : Pinned := { name := "ytmcloifhgbehdaagreatdoor", sum := "ec92306eec5c306db532270f3043439f44d024adf64858266295e9c2976ca57c", checked := Tryz.checked }
namespace Rows
def none {H : Type} : Left H := { results := [], args := [] }

/- WHAT THE LISTED PACKAGE-LEVEL VARIABLES READ AS WHEN THE CALL BEGINS. Each datum BY PROGRAM (the guide's laid-datum.mjs) off the statement by which the dump's own 'gosem.cut.vars' lays the variable. In a bare row this is a premise. The card (YtmcloifhgbehdaaGreatDoorCards.lean) ties it to the program's text. -/
def laid_errors_errorType {H : Type} : DataW H := .iface "internal/reflectlite.rtype" (.agg [.ptr (.lit (.string [101, 114, 114, 111, 114]))])

/-- 'greenwoodlaw17.BasesSteps': WHATEVER THE INPUT: true; the input reads as it did. -/
def basesStepsSpec : ChangeSpec := { name := "basesSteps", fn := fun _ => fun
  | [d1, d2] => { results := [.lit (.bool true)], args := [d1, d2] }
  | _ => none }
def basesStepsRow : OpenClaim := { program := "ytmcloifhgbehdaagreatdoor", sum := "ec92306eec5c306db532270f3043439f44d024adf64858266295e9c2976ca57c", func := "greenwood/greenwoodlaw17.BasesSteps", spec := "basesSteps", inPlace := ["internal/reflectlite.TypeOf", "internal/reflectlite.ValueOf", "(internal/reflectlite.Value).Type", "(internal/reflectlite.Value).IsNil", "(internal/reflectlite.Value).Elem", "(internal/reflectlite.Value).Set"], unfollowed := true, recurses := true, named := ["errors.errorType"], loops := true, apart := false, laid := [("errors.errorType", laid_errors_errorType)] }
def BasesStepsSaid : Prop := basesStepsRow.holds Tryz.pinned (OpenSpec.ofChange basesStepsSpec)

/-- ITS FALSE NEIGHBOUR: 'it returns false'. Refute it at one input. -/
def basesStepsWrong : ChangeSpec := { name := "basesSteps", fn := fun _ => fun
  | [d1, d2] => { results := [.lit (.bool false)], args := [d1, d2] }
  | _ => none }
def BasesStepsWrongFalsely : Prop := basesStepsRow.holds Tryz.pinned (OpenSpec.ofChange basesStepsWrong)

/-- 'greenwoodlaw17.BasesUniform': WHATEVER THE INPUT: true; the input reads as it did. -/
def basesUniformSpec : ChangeSpec := { name := "basesUniform", fn := fun _ => fun
  | [d1, d2, d3] => { results := [.lit (.bool true)], args := [d1, d2, d3] }
  | _ => none }
def basesUniformRow : OpenClaim := { program := "ytmcloifhgbehdaagreatdoor", sum := "ec92306eec5c306db532270f3043439f44d024adf64858266295e9c2976ca57c", func := "greenwood/greenwoodlaw17.BasesUniform", spec := "basesUniform", inPlace := ["internal/reflectlite.TypeOf", "internal/reflectlite.ValueOf", "(internal/reflectlite.Value).Type", "(internal/reflectlite.Value).IsNil", "(internal/reflectlite.Value).Elem", "(internal/reflectlite.Value).Set"], unfollowed := true, recurses := true, named := ["errors.errorType"], apart := false, laid := [("errors.errorType", laid_errors_errorType)] }
def BasesUniformSaid : Prop := basesUniformRow.holds Tryz.pinned (OpenSpec.ofChange basesUniformSpec)

/-- ITS FALSE NEIGHBOUR: 'it returns false'. Refute it at one input. -/
def basesUniformWrong : ChangeSpec := { name := "basesUniform", fn := fun _ => fun
  | [d1, d2, d3] => { results := [.lit (.bool false)], args := [d1, d2, d3] }
  | _ => none }
def BasesUniformWrongFalsely : Prop := basesUniformRow.holds Tryz.pinned (OpenSpec.ofChange basesUniformWrong)

/-- 'greenwoodlaw14.InterTells': WHATEVER THE INPUT: true; the input reads as it did. -/
def interTellsSpec : ChangeSpec := { name := "interTells", fn := fun _ => fun
  | [d1, d2, d3] => { results := [.lit (.bool true)], args := [d1, d2, d3] }
  | _ => none }
def interTellsRow : OpenClaim := { program := "ytmcloifhgbehdaagreatdoor", sum := "ec92306eec5c306db532270f3043439f44d024adf64858266295e9c2976ca57c", func := "greenwood/greenwoodlaw14.InterTells", spec := "interTells", inPlace := ["internal/reflectlite.TypeOf", "internal/reflectlite.ValueOf", "(internal/reflectlite.Value).Type", "(internal/reflectlite.Value).IsNil", "(internal/reflectlite.Value).Elem", "(internal/reflectlite.Value).Set"], unfollowed := true, recurses := true, named := ["errors.errorType"], loops := true, apart := false, laid := [("errors.errorType", laid_errors_errorType)] }
def InterTellsSaid : Prop := interTellsRow.holds Tryz.pinned (OpenSpec.ofChange interTellsSpec)

/-- ITS FALSE NEIGHBOUR: 'it returns false'. Refute it at one input. -/
def interTellsWrong : ChangeSpec := { name := "interTells", fn := fun _ => fun
  | [d1, d2, d3] => { results := [.lit (.bool false)], args := [d1, d2, d3] }
  | _ => none }
def InterTellsWrongFalsely : Prop := interTellsRow.holds Tryz.pinned (OpenSpec.ofChange interTellsWrong)

/-- 'greenwoodlaw14.InterGreatest': WHATEVER THE INPUT: true; the input reads as it did. -/
def interGreatestSpec : ChangeSpec := { name := "interGreatest", fn := fun _ => fun
  | [d1, d2] => { results := [.lit (.bool true)], args := [d1, d2] }
  | _ => none }
def interGreatestRow : OpenClaim := { program := "ytmcloifhgbehdaagreatdoor", sum := "ec92306eec5c306db532270f3043439f44d024adf64858266295e9c2976ca57c", func := "greenwood/greenwoodlaw14.InterGreatest", spec := "interGreatest", inPlace := ["internal/reflectlite.TypeOf", "internal/reflectlite.ValueOf", "(internal/reflectlite.Value).Type", "(internal/reflectlite.Value).IsNil", "(internal/reflectlite.Value).Elem", "(internal/reflectlite.Value).Set"], unfollowed := true, recurses := true, named := ["errors.errorType"], loops := true, apart := false, laid := [("errors.errorType", laid_errors_errorType)] }
def InterGreatestSaid : Prop := interGreatestRow.holds Tryz.pinned (OpenSpec.ofChange interGreatestSpec)

/-- ITS FALSE NEIGHBOUR: 'it returns false'. Refute it at one input. -/
def interGreatestWrong : ChangeSpec := { name := "interGreatest", fn := fun _ => fun
  | [d1, d2] => { results := [.lit (.bool false)], args := [d1, d2] }
  | _ => none }
def InterGreatestWrongFalsely : Prop := interGreatestRow.holds Tryz.pinned (OpenSpec.ofChange interGreatestWrong)

/-- 'greenwoodlaw14.InterTurns': WHATEVER THE INPUT: true; the input reads as it did. -/
def interTurnsSpec : ChangeSpec := { name := "interTurns", fn := fun _ => fun
  | [d1, d2] => { results := [.lit (.bool true)], args := [d1, d2] }
  | _ => none }
def interTurnsRow : OpenClaim := { program := "ytmcloifhgbehdaagreatdoor", sum := "ec92306eec5c306db532270f3043439f44d024adf64858266295e9c2976ca57c", func := "greenwood/greenwoodlaw14.InterTurns", spec := "interTurns", inPlace := ["internal/reflectlite.TypeOf", "internal/reflectlite.ValueOf", "(internal/reflectlite.Value).Type", "(internal/reflectlite.Value).IsNil", "(internal/reflectlite.Value).Elem", "(internal/reflectlite.Value).Set"], unfollowed := true, recurses := true, named := ["errors.errorType"], loops := true, apart := false, laid := [("errors.errorType", laid_errors_errorType)] }
def InterTurnsSaid : Prop := interTurnsRow.holds Tryz.pinned (OpenSpec.ofChange interTurnsSpec)

/-- ITS FALSE NEIGHBOUR: 'it returns false'. Refute it at one input. -/
def interTurnsWrong : ChangeSpec := { name := "interTurns", fn := fun _ => fun
  | [d1, d2] => { results := [.lit (.bool false)], args := [d1, d2] }
  | _ => none }
def InterTurnsWrongFalsely : Prop := interTurnsRow.holds Tryz.pinned (OpenSpec.ofChange interTurnsWrong)

/-- 'greenwoodlaw14.InterMatching': WHATEVER THE INPUT: true; the input reads as it did. -/
def interMatchingSpec : ChangeSpec := { name := "interMatching", fn := fun _ => fun
  | [d] => { results := [.lit (.bool true)], args := [d] }
  | _ => none }
def interMatchingRow : OpenClaim := { program := "ytmcloifhgbehdaagreatdoor", sum := "ec92306eec5c306db532270f3043439f44d024adf64858266295e9c2976ca57c", func := "greenwood/greenwoodlaw14.InterMatching", spec := "interMatching", inPlace := ["internal/reflectlite.TypeOf", "internal/reflectlite.ValueOf", "(internal/reflectlite.Value).Type", "(internal/reflectlite.Value).IsNil", "(internal/reflectlite.Value).Elem", "(internal/reflectlite.Value).Set"], unfollowed := true, recurses := true, named := ["errors.errorType"], apart := false, laid := [("errors.errorType", laid_errors_errorType)] }
def InterMatchingSaid : Prop := interMatchingRow.holds Tryz.pinned (OpenSpec.ofChange interMatchingSpec)

/-- ITS FALSE NEIGHBOUR: 'it returns false'. Refute it at one input. -/
def interMatchingWrong : ChangeSpec := { name := "interMatching", fn := fun _ => fun
  | [d] => { results := [.lit (.bool false)], args := [d] }
  | _ => none }
def InterMatchingWrongFalsely : Prop := interMatchingRow.holds Tryz.pinned (OpenSpec.ofChange interMatchingWrong)

/-- 'greenwoodlaw14.InterSums': WHATEVER THE INPUT: true; the input reads as it did. -/
def interSumsSpec : ChangeSpec := { name := "interSums", fn := fun _ => fun
  | [d] => { results := [.lit (.bool true)], args := [d] }
  | _ => none }
def interSumsRow : OpenClaim := { program := "ytmcloifhgbehdaagreatdoor", sum := "ec92306eec5c306db532270f3043439f44d024adf64858266295e9c2976ca57c", func := "greenwood/greenwoodlaw14.InterSums", spec := "interSums", inPlace := ["internal/reflectlite.TypeOf", "internal/reflectlite.ValueOf", "(internal/reflectlite.Value).Type", "(internal/reflectlite.Value).IsNil", "(internal/reflectlite.Value).Elem", "(internal/reflectlite.Value).Set"], unfollowed := true, recurses := true, named := ["errors.errorType"], loops := true, apart := false, laid := [("errors.errorType", laid_errors_errorType)] }
def InterSumsSaid : Prop := interSumsRow.holds Tryz.pinned (OpenSpec.ofChange interSumsSpec)

/-- ITS FALSE NEIGHBOUR: 'it returns false'. Refute it at one input. -/
def interSumsWrong : ChangeSpec := { name := "interSums", fn := fun _ => fun
  | [d] => { results := [.lit (.bool false)], args := [d] }
  | _ => none }
def InterSumsWrongFalsely : Prop := interSumsRow.holds Tryz.pinned (OpenSpec.ofChange interSumsWrong)

/-- 'greenwoodlaw18.TreesCertified': WHATEVER THE INPUT: true; the input reads as it did. -/
def treesCertifiedSpec : ChangeSpec := { name := "treesCertified", fn := fun _ => fun
  | [d1, d2, d3] => { results := [.lit (.bool true)], args := [d1, d2, d3] }
  | _ => none }
def treesCertifiedRow : OpenClaim := { program := "ytmcloifhgbehdaagreatdoor", sum := "ec92306eec5c306db532270f3043439f44d024adf64858266295e9c2976ca57c", func := "greenwood/greenwoodlaw18.TreesCertified", spec := "treesCertified", inPlace := ["internal/reflectlite.TypeOf", "internal/reflectlite.ValueOf", "(internal/reflectlite.Value).Type", "(internal/reflectlite.Value).IsNil", "(internal/reflectlite.Value).Elem", "(internal/reflectlite.Value).Set"], unfollowed := true, recurses := true, named := ["errors.errorType"], apart := false, laid := [("errors.errorType", laid_errors_errorType)] }
def TreesCertifiedSaid : Prop := treesCertifiedRow.holds Tryz.pinned (OpenSpec.ofChange treesCertifiedSpec)

/-- ITS FALSE NEIGHBOUR: 'it returns false'. Refute it at one input. -/
def treesCertifiedWrong : ChangeSpec := { name := "treesCertified", fn := fun _ => fun
  | [d1, d2, d3] => { results := [.lit (.bool false)], args := [d1, d2, d3] }
  | _ => none }
def TreesCertifiedWrongFalsely : Prop := treesCertifiedRow.holds Tryz.pinned (OpenSpec.ofChange treesCertifiedWrong)

/-- 'greenwoodlaw18.TreesSpan': WHATEVER THE INPUT: true; the input reads as it did. -/
def treesSpanSpec : ChangeSpec := { name := "treesSpan", fn := fun _ => fun
  | [d1, d2, d3] => { results := [.lit (.bool true)], args := [d1, d2, d3] }
  | _ => none }
def treesSpanRow : OpenClaim := { program := "ytmcloifhgbehdaagreatdoor", sum := "ec92306eec5c306db532270f3043439f44d024adf64858266295e9c2976ca57c", func := "greenwood/greenwoodlaw18.TreesSpan", spec := "treesSpan", inPlace := ["internal/reflectlite.TypeOf", "internal/reflectlite.ValueOf", "(internal/reflectlite.Value).Type", "(internal/reflectlite.Value).IsNil", "(internal/reflectlite.Value).Elem", "(internal/reflectlite.Value).Set"], unfollowed := true, recurses := true, named := ["errors.errorType"], apart := false, laid := [("errors.errorType", laid_errors_errorType)] }
def TreesSpanSaid : Prop := treesSpanRow.holds Tryz.pinned (OpenSpec.ofChange treesSpanSpec)

/-- ITS FALSE NEIGHBOUR: 'it returns false'. Refute it at one input. -/
def treesSpanWrong : ChangeSpec := { name := "treesSpan", fn := fun _ => fun
  | [d1, d2, d3] => { results := [.lit (.bool false)], args := [d1, d2, d3] }
  | _ => none }
def TreesSpanWrongFalsely : Prop := treesSpanRow.holds Tryz.pinned (OpenSpec.ofChange treesSpanWrong)

/-- 'greenwoodlaw18.TreesCross': WHATEVER THE INPUT: true; the input reads as it did. -/
def treesCrossSpec : ChangeSpec := { name := "treesCross", fn := fun _ => fun
  | [d1, d2, d3] => { results := [.lit (.bool true)], args := [d1, d2, d3] }
  | _ => none }
def treesCrossRow : OpenClaim := { program := "ytmcloifhgbehdaagreatdoor", sum := "ec92306eec5c306db532270f3043439f44d024adf64858266295e9c2976ca57c", func := "greenwood/greenwoodlaw18.TreesCross", spec := "treesCross", inPlace := ["internal/reflectlite.TypeOf", "internal/reflectlite.ValueOf", "(internal/reflectlite.Value).Type", "(internal/reflectlite.Value).IsNil", "(internal/reflectlite.Value).Elem", "(internal/reflectlite.Value).Set"], unfollowed := true, recurses := true, named := ["errors.errorType"], apart := false, laid := [("errors.errorType", laid_errors_errorType)] }
def TreesCrossSaid : Prop := treesCrossRow.holds Tryz.pinned (OpenSpec.ofChange treesCrossSpec)

/-- ITS FALSE NEIGHBOUR: 'it returns false'. Refute it at one input. -/
def treesCrossWrong : ChangeSpec := { name := "treesCross", fn := fun _ => fun
  | [d1, d2, d3] => { results := [.lit (.bool false)], args := [d1, d2, d3] }
  | _ => none }
def TreesCrossWrongFalsely : Prop := treesCrossRow.holds Tryz.pinned (OpenSpec.ofChange treesCrossWrong)

/-- 'greenwoodlaw18.TreesWhole': WHATEVER THE INPUT: true; the input reads as it did. -/
def treesWholeSpec : ChangeSpec := { name := "treesWhole", fn := fun _ => fun
  | [d] => { results := [.lit (.bool true)], args := [d] }
  | _ => none }
def treesWholeRow : OpenClaim := { program := "ytmcloifhgbehdaagreatdoor", sum := "ec92306eec5c306db532270f3043439f44d024adf64858266295e9c2976ca57c", func := "greenwood/greenwoodlaw18.TreesWhole", spec := "treesWhole", inPlace := ["internal/reflectlite.TypeOf", "internal/reflectlite.ValueOf", "(internal/reflectlite.Value).Type", "(internal/reflectlite.Value).IsNil", "(internal/reflectlite.Value).Elem", "(internal/reflectlite.Value).Set"], unfollowed := true, recurses := true, named := ["errors.errorType"], apart := false, laid := [("errors.errorType", laid_errors_errorType)] }
def TreesWholeSaid : Prop := treesWholeRow.holds Tryz.pinned (OpenSpec.ofChange treesWholeSpec)

/-- ITS FALSE NEIGHBOUR: 'it returns false'. Refute it at one input. -/
def treesWholeWrong : ChangeSpec := { name := "treesWhole", fn := fun _ => fun
  | [d] => { results := [.lit (.bool false)], args := [d] }
  | _ => none }
def TreesWholeWrongFalsely : Prop := treesWholeRow.holds Tryz.pinned (OpenSpec.ofChange treesWholeWrong)

/- THE SECOND FORM. 'bulk': how many values and letters a reading holds, each counted each time it is reached (what is shared counts as often as it is met; a slice's spare places count too). A statement '..UptoSaid' is the law's where the arguments, and the package variables that the reading takes, are together of bulk at most 1048576: NARROWER than '..Said'. Prove '..Said' where nothing that the law and all that it calls make is longer than what came in: it says more and counts as full. Else prove '..UptoSaid'. A law counts once. -/
mutual
def uptoBulk {H : Type} : DataW H → Nat
  | .lit (.string bytes) => bytes.length + 1
  | .lit _ => 1
  | .nil => 1
  | .ptr d => uptoBulk d + 1
  | .slice elems spare => uptoBulkAll elems + uptoBulkAll spare + 1
  | .agg parts => uptoBulkAll parts + 1
  | .iface _ d => uptoBulk d + 1
  | .map entries => uptoBulkEntries entries + 1
  | .held _ => 1
def uptoBulkAll {H : Type} : List (DataW H) → Nat
  | [] => 0
  | d :: r => uptoBulk d + uptoBulkAll r
def uptoBulkEntries {H : Type} : List (Lit × DataW H) → Nat
  | [] => 0
  | x :: r => uptoBulkEntry x + uptoBulkEntries r
def uptoBulkEntry {H : Type} : Lit × DataW H → Nat
  | (.string bytes, d) => bytes.length + uptoBulk d + 1
  | (_, d) => uptoBulk d + 1
 end
def uptoSmall : (H : Type) → List (DataW H) → Bool := fun _ ds => decide (uptoBulkAll ds ≤ 1048576)
def OpenSpec.upto (s : _root_.Go.ChangeSpec) : _root_.Go.OpenSpec := { _root_.Go.OpenSpec.ofChange s with cond := some uptoSmall }

/-- 'greenwoodlaw17.BasesSteps', WHERE WHAT IT READS IS OF BULK AT MOST 1048576: true; the input reads as it did. -/
def basesStepsUptoRow : OpenClaim := { program := "ytmcloifhgbehdaagreatdoor", sum := "ec92306eec5c306db532270f3043439f44d024adf64858266295e9c2976ca57c", func := "greenwood/greenwoodlaw17.BasesSteps", spec := "basesSteps", inPlace := ["internal/reflectlite.TypeOf", "internal/reflectlite.ValueOf", "(internal/reflectlite.Value).Type", "(internal/reflectlite.Value).IsNil", "(internal/reflectlite.Value).Elem", "(internal/reflectlite.Value).Set"], unfollowed := true, recurses := true, named := ["errors.errorType"], loops := true, apart := false, laid := [("errors.errorType", laid_errors_errorType)], narrowed := true }
def BasesStepsUptoSaid : Prop := basesStepsUptoRow.holds Tryz.pinned (OpenSpec.upto basesStepsSpec)

/-- 'greenwoodlaw17.BasesUniform', WHERE WHAT IT READS IS OF BULK AT MOST 1048576: true; the input reads as it did. -/
def basesUniformUptoRow : OpenClaim := { program := "ytmcloifhgbehdaagreatdoor", sum := "ec92306eec5c306db532270f3043439f44d024adf64858266295e9c2976ca57c", func := "greenwood/greenwoodlaw17.BasesUniform", spec := "basesUniform", inPlace := ["internal/reflectlite.TypeOf", "internal/reflectlite.ValueOf", "(internal/reflectlite.Value).Type", "(internal/reflectlite.Value).IsNil", "(internal/reflectlite.Value).Elem", "(internal/reflectlite.Value).Set"], unfollowed := true, recurses := true, named := ["errors.errorType"], apart := false, laid := [("errors.errorType", laid_errors_errorType)], narrowed := true }
def BasesUniformUptoSaid : Prop := basesUniformUptoRow.holds Tryz.pinned (OpenSpec.upto basesUniformSpec)

/-- 'greenwoodlaw14.InterTells', WHERE WHAT IT READS IS OF BULK AT MOST 1048576: true; the input reads as it did. -/
def interTellsUptoRow : OpenClaim := { program := "ytmcloifhgbehdaagreatdoor", sum := "ec92306eec5c306db532270f3043439f44d024adf64858266295e9c2976ca57c", func := "greenwood/greenwoodlaw14.InterTells", spec := "interTells", inPlace := ["internal/reflectlite.TypeOf", "internal/reflectlite.ValueOf", "(internal/reflectlite.Value).Type", "(internal/reflectlite.Value).IsNil", "(internal/reflectlite.Value).Elem", "(internal/reflectlite.Value).Set"], unfollowed := true, recurses := true, named := ["errors.errorType"], loops := true, apart := false, laid := [("errors.errorType", laid_errors_errorType)], narrowed := true }
def InterTellsUptoSaid : Prop := interTellsUptoRow.holds Tryz.pinned (OpenSpec.upto interTellsSpec)

/-- 'greenwoodlaw14.InterGreatest', WHERE WHAT IT READS IS OF BULK AT MOST 1048576: true; the input reads as it did. -/
def interGreatestUptoRow : OpenClaim := { program := "ytmcloifhgbehdaagreatdoor", sum := "ec92306eec5c306db532270f3043439f44d024adf64858266295e9c2976ca57c", func := "greenwood/greenwoodlaw14.InterGreatest", spec := "interGreatest", inPlace := ["internal/reflectlite.TypeOf", "internal/reflectlite.ValueOf", "(internal/reflectlite.Value).Type", "(internal/reflectlite.Value).IsNil", "(internal/reflectlite.Value).Elem", "(internal/reflectlite.Value).Set"], unfollowed := true, recurses := true, named := ["errors.errorType"], loops := true, apart := false, laid := [("errors.errorType", laid_errors_errorType)], narrowed := true }
def InterGreatestUptoSaid : Prop := interGreatestUptoRow.holds Tryz.pinned (OpenSpec.upto interGreatestSpec)

/-- 'greenwoodlaw14.InterTurns', WHERE WHAT IT READS IS OF BULK AT MOST 1048576: true; the input reads as it did. -/
def interTurnsUptoRow : OpenClaim := { program := "ytmcloifhgbehdaagreatdoor", sum := "ec92306eec5c306db532270f3043439f44d024adf64858266295e9c2976ca57c", func := "greenwood/greenwoodlaw14.InterTurns", spec := "interTurns", inPlace := ["internal/reflectlite.TypeOf", "internal/reflectlite.ValueOf", "(internal/reflectlite.Value).Type", "(internal/reflectlite.Value).IsNil", "(internal/reflectlite.Value).Elem", "(internal/reflectlite.Value).Set"], unfollowed := true, recurses := true, named := ["errors.errorType"], loops := true, apart := false, laid := [("errors.errorType", laid_errors_errorType)], narrowed := true }
def InterTurnsUptoSaid : Prop := interTurnsUptoRow.holds Tryz.pinned (OpenSpec.upto interTurnsSpec)

/-- 'greenwoodlaw14.InterMatching', WHERE WHAT IT READS IS OF BULK AT MOST 1048576: true; the input reads as it did. -/
def interMatchingUptoRow : OpenClaim := { program := "ytmcloifhgbehdaagreatdoor", sum := "ec92306eec5c306db532270f3043439f44d024adf64858266295e9c2976ca57c", func := "greenwood/greenwoodlaw14.InterMatching", spec := "interMatching", inPlace := ["internal/reflectlite.TypeOf", "internal/reflectlite.ValueOf", "(internal/reflectlite.Value).Type", "(internal/reflectlite.Value).IsNil", "(internal/reflectlite.Value).Elem", "(internal/reflectlite.Value).Set"], unfollowed := true, recurses := true, named := ["errors.errorType"], apart := false, laid := [("errors.errorType", laid_errors_errorType)], narrowed := true }
def InterMatchingUptoSaid : Prop := interMatchingUptoRow.holds Tryz.pinned (OpenSpec.upto interMatchingSpec)

/-- 'greenwoodlaw14.InterSums', WHERE WHAT IT READS IS OF BULK AT MOST 1048576: true; the input reads as it did. -/
def interSumsUptoRow : OpenClaim := { program := "ytmcloifhgbehdaagreatdoor", sum := "ec92306eec5c306db532270f3043439f44d024adf64858266295e9c2976ca57c", func := "greenwood/greenwoodlaw14.InterSums", spec := "interSums", inPlace := ["internal/reflectlite.TypeOf", "internal/reflectlite.ValueOf", "(internal/reflectlite.Value).Type", "(internal/reflectlite.Value).IsNil", "(internal/reflectlite.Value).Elem", "(internal/reflectlite.Value).Set"], unfollowed := true, recurses := true, named := ["errors.errorType"], loops := true, apart := false, laid := [("errors.errorType", laid_errors_errorType)], narrowed := true }
def InterSumsUptoSaid : Prop := interSumsUptoRow.holds Tryz.pinned (OpenSpec.upto interSumsSpec)

/-- 'greenwoodlaw18.TreesCertified', WHERE WHAT IT READS IS OF BULK AT MOST 1048576: true; the input reads as it did. -/
def treesCertifiedUptoRow : OpenClaim := { program := "ytmcloifhgbehdaagreatdoor", sum := "ec92306eec5c306db532270f3043439f44d024adf64858266295e9c2976ca57c", func := "greenwood/greenwoodlaw18.TreesCertified", spec := "treesCertified", inPlace := ["internal/reflectlite.TypeOf", "internal/reflectlite.ValueOf", "(internal/reflectlite.Value).Type", "(internal/reflectlite.Value).IsNil", "(internal/reflectlite.Value).Elem", "(internal/reflectlite.Value).Set"], unfollowed := true, recurses := true, named := ["errors.errorType"], apart := false, laid := [("errors.errorType", laid_errors_errorType)], narrowed := true }
def TreesCertifiedUptoSaid : Prop := treesCertifiedUptoRow.holds Tryz.pinned (OpenSpec.upto treesCertifiedSpec)

/-- 'greenwoodlaw18.TreesSpan', WHERE WHAT IT READS IS OF BULK AT MOST 1048576: true; the input reads as it did. -/
def treesSpanUptoRow : OpenClaim := { program := "ytmcloifhgbehdaagreatdoor", sum := "ec92306eec5c306db532270f3043439f44d024adf64858266295e9c2976ca57c", func := "greenwood/greenwoodlaw18.TreesSpan", spec := "treesSpan", inPlace := ["internal/reflectlite.TypeOf", "internal/reflectlite.ValueOf", "(internal/reflectlite.Value).Type", "(internal/reflectlite.Value).IsNil", "(internal/reflectlite.Value).Elem", "(internal/reflectlite.Value).Set"], unfollowed := true, recurses := true, named := ["errors.errorType"], apart := false, laid := [("errors.errorType", laid_errors_errorType)], narrowed := true }
def TreesSpanUptoSaid : Prop := treesSpanUptoRow.holds Tryz.pinned (OpenSpec.upto treesSpanSpec)

/-- 'greenwoodlaw18.TreesCross', WHERE WHAT IT READS IS OF BULK AT MOST 1048576: true; the input reads as it did. -/
def treesCrossUptoRow : OpenClaim := { program := "ytmcloifhgbehdaagreatdoor", sum := "ec92306eec5c306db532270f3043439f44d024adf64858266295e9c2976ca57c", func := "greenwood/greenwoodlaw18.TreesCross", spec := "treesCross", inPlace := ["internal/reflectlite.TypeOf", "internal/reflectlite.ValueOf", "(internal/reflectlite.Value).Type", "(internal/reflectlite.Value).IsNil", "(internal/reflectlite.Value).Elem", "(internal/reflectlite.Value).Set"], unfollowed := true, recurses := true, named := ["errors.errorType"], apart := false, laid := [("errors.errorType", laid_errors_errorType)], narrowed := true }
def TreesCrossUptoSaid : Prop := treesCrossUptoRow.holds Tryz.pinned (OpenSpec.upto treesCrossSpec)

/-- 'greenwoodlaw18.TreesWhole', WHERE WHAT IT READS IS OF BULK AT MOST 1048576: true; the input reads as it did. -/
def treesWholeUptoRow : OpenClaim := { program := "ytmcloifhgbehdaagreatdoor", sum := "ec92306eec5c306db532270f3043439f44d024adf64858266295e9c2976ca57c", func := "greenwood/greenwoodlaw18.TreesWhole", spec := "treesWhole", inPlace := ["internal/reflectlite.TypeOf", "internal/reflectlite.ValueOf", "(internal/reflectlite.Value).Type", "(internal/reflectlite.Value).IsNil", "(internal/reflectlite.Value).Elem", "(internal/reflectlite.Value).Set"], unfollowed := true, recurses := true, named := ["errors.errorType"], apart := false, laid := [("errors.errorType", laid_errors_errorType)], narrowed := true }
def TreesWholeUptoSaid : Prop := treesWholeUptoRow.holds Tryz.pinned (OpenSpec.upto treesWholeSpec)

end Rows
end Go.Proofs.YtmcloifhgbehdaaGreatDoor
