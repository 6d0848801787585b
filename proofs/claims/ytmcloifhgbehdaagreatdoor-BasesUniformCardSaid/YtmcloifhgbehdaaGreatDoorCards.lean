/-
  DERIVED. GIVEN WITH THE SEED: THE CARDS: each row of YtmcloifhgbehdaaGreatDoorRows.lean that lists a variable, with what it lists TIED to the program's text (the seventh form; the later family's looks); each row that meets fmt, with fmt's text TOLD by the authors' own Lean function (tested against real Go, not proved from fmt's source: count such statements apart). THE CARD IS WHAT COUNTS. Prove the row's statement (the work); the ties are given (YtmcloifhgbehdaaGreatDoorTie.lean); close each card by the builder's one call (the guide's Derived/Test/ToyasCard.lean, 'card_holds'). Laid BY PROGRAM, IN A SANDBOX (cutbox-door.mjs). By AI agents, Wed Nov 11 2026. No macro, syntax, notation, axiom, sorry.
-/
import Derived.Test.YtmcloifhgbehdaaGreatDoorRows
import GoSem.ClaimSeven
namespace Go.Proofs.YtmcloifhgbehdaaGreatDoor
namespace Rows

/-- THE TIED CARD OF 'greenwoodlaw17.BasesSteps'. -/
def basesStepsCard : Claim7 := { stood := { row := basesStepsRow, standIns := [], harness := (true, "a1979513617c660f3163783b989e0d4b42708391ff8fbda7bd64767f203570c8"), looks := true }, kinds := [], alts := [], laidByText := true, laidKinds := [.handle], laidTests := true, laidLooks := .later }
def BasesStepsCardSaid : Prop := Claim7.holds Tryz.pinned (.plain (OpenSpec.ofChange basesStepsSpec)) basesStepsCard

/-- THE TIED CARD OF 'greenwoodlaw17.BasesUniform'. -/
def basesUniformCard : Claim7 := { stood := { row := basesUniformRow, standIns := [], harness := (true, "a1979513617c660f3163783b989e0d4b42708391ff8fbda7bd64767f203570c8"), looks := true }, kinds := [], alts := [], laidByText := true, laidKinds := [.handle], laidTests := true, laidLooks := .later }
def BasesUniformCardSaid : Prop := Claim7.holds Tryz.pinned (.plain (OpenSpec.ofChange basesUniformSpec)) basesUniformCard

/-- THE TIED CARD OF 'greenwoodlaw14.InterTells'. -/
def interTellsCard : Claim7 := { stood := { row := interTellsRow, standIns := [], harness := (true, "a1979513617c660f3163783b989e0d4b42708391ff8fbda7bd64767f203570c8"), looks := true }, kinds := [], alts := [], laidByText := true, laidKinds := [.handle], laidTests := true, laidLooks := .later }
def InterTellsCardSaid : Prop := Claim7.holds Tryz.pinned (.plain (OpenSpec.ofChange interTellsSpec)) interTellsCard

/-- THE TIED CARD OF 'greenwoodlaw14.InterGreatest'. -/
def interGreatestCard : Claim7 := { stood := { row := interGreatestRow, standIns := [], harness := (true, "a1979513617c660f3163783b989e0d4b42708391ff8fbda7bd64767f203570c8"), looks := true }, kinds := [], alts := [], laidByText := true, laidKinds := [.handle], laidTests := true, laidLooks := .later }
def InterGreatestCardSaid : Prop := Claim7.holds Tryz.pinned (.plain (OpenSpec.ofChange interGreatestSpec)) interGreatestCard

/-- THE TIED CARD OF 'greenwoodlaw14.InterTurns'. -/
def interTurnsCard : Claim7 := { stood := { row := interTurnsRow, standIns := [], harness := (true, "a1979513617c660f3163783b989e0d4b42708391ff8fbda7bd64767f203570c8"), looks := true }, kinds := [], alts := [], laidByText := true, laidKinds := [.handle], laidTests := true, laidLooks := .later }
def InterTurnsCardSaid : Prop := Claim7.holds Tryz.pinned (.plain (OpenSpec.ofChange interTurnsSpec)) interTurnsCard

/-- THE TIED CARD OF 'greenwoodlaw14.InterMatching'. -/
def interMatchingCard : Claim7 := { stood := { row := interMatchingRow, standIns := [], harness := (true, "a1979513617c660f3163783b989e0d4b42708391ff8fbda7bd64767f203570c8"), looks := true }, kinds := [], alts := [], laidByText := true, laidKinds := [.handle], laidTests := true, laidLooks := .later }
def InterMatchingCardSaid : Prop := Claim7.holds Tryz.pinned (.plain (OpenSpec.ofChange interMatchingSpec)) interMatchingCard

/-- THE TIED CARD OF 'greenwoodlaw14.InterSums'. -/
def interSumsCard : Claim7 := { stood := { row := interSumsRow, standIns := [], harness := (true, "a1979513617c660f3163783b989e0d4b42708391ff8fbda7bd64767f203570c8"), looks := true }, kinds := [], alts := [], laidByText := true, laidKinds := [.handle], laidTests := true, laidLooks := .later }
def InterSumsCardSaid : Prop := Claim7.holds Tryz.pinned (.plain (OpenSpec.ofChange interSumsSpec)) interSumsCard

/-- THE TIED CARD OF 'greenwoodlaw18.TreesCertified'. -/
def treesCertifiedCard : Claim7 := { stood := { row := treesCertifiedRow, standIns := [], harness := (true, "a1979513617c660f3163783b989e0d4b42708391ff8fbda7bd64767f203570c8"), looks := true }, kinds := [], alts := [], laidByText := true, laidKinds := [.handle], laidTests := true, laidLooks := .later }
def TreesCertifiedCardSaid : Prop := Claim7.holds Tryz.pinned (.plain (OpenSpec.ofChange treesCertifiedSpec)) treesCertifiedCard

/-- THE TIED CARD OF 'greenwoodlaw18.TreesSpan'. -/
def treesSpanCard : Claim7 := { stood := { row := treesSpanRow, standIns := [], harness := (true, "a1979513617c660f3163783b989e0d4b42708391ff8fbda7bd64767f203570c8"), looks := true }, kinds := [], alts := [], laidByText := true, laidKinds := [.handle], laidTests := true, laidLooks := .later }
def TreesSpanCardSaid : Prop := Claim7.holds Tryz.pinned (.plain (OpenSpec.ofChange treesSpanSpec)) treesSpanCard

/-- THE TIED CARD OF 'greenwoodlaw18.TreesCross'. -/
def treesCrossCard : Claim7 := { stood := { row := treesCrossRow, standIns := [], harness := (true, "a1979513617c660f3163783b989e0d4b42708391ff8fbda7bd64767f203570c8"), looks := true }, kinds := [], alts := [], laidByText := true, laidKinds := [.handle], laidTests := true, laidLooks := .later }
def TreesCrossCardSaid : Prop := Claim7.holds Tryz.pinned (.plain (OpenSpec.ofChange treesCrossSpec)) treesCrossCard

/-- THE TIED CARD OF 'greenwoodlaw18.TreesWhole'. -/
def treesWholeCard : Claim7 := { stood := { row := treesWholeRow, standIns := [], harness := (true, "a1979513617c660f3163783b989e0d4b42708391ff8fbda7bd64767f203570c8"), looks := true }, kinds := [], alts := [], laidByText := true, laidKinds := [.handle], laidTests := true, laidLooks := .later }
def TreesWholeCardSaid : Prop := Claim7.holds Tryz.pinned (.plain (OpenSpec.ofChange treesWholeSpec)) treesWholeCard

/-- THE SECOND FORM's CARD OF 'greenwoodlaw17.BasesSteps'. -/
def basesStepsUptoCard : Claim7 := { stood := { row := basesStepsUptoRow, standIns := [], harness := (true, "a1979513617c660f3163783b989e0d4b42708391ff8fbda7bd64767f203570c8"), looks := true }, kinds := [], alts := [], laidByText := true, laidKinds := [.handle], laidTests := true, laidLooks := .later }
def BasesStepsUptoCardSaid : Prop := Claim7.holds Tryz.pinned (.plain (OpenSpec.upto basesStepsSpec)) basesStepsUptoCard

/-- THE SECOND FORM's CARD OF 'greenwoodlaw17.BasesUniform'. -/
def basesUniformUptoCard : Claim7 := { stood := { row := basesUniformUptoRow, standIns := [], harness := (true, "a1979513617c660f3163783b989e0d4b42708391ff8fbda7bd64767f203570c8"), looks := true }, kinds := [], alts := [], laidByText := true, laidKinds := [.handle], laidTests := true, laidLooks := .later }
def BasesUniformUptoCardSaid : Prop := Claim7.holds Tryz.pinned (.plain (OpenSpec.upto basesUniformSpec)) basesUniformUptoCard

/-- THE SECOND FORM's CARD OF 'greenwoodlaw14.InterTells'. -/
def interTellsUptoCard : Claim7 := { stood := { row := interTellsUptoRow, standIns := [], harness := (true, "a1979513617c660f3163783b989e0d4b42708391ff8fbda7bd64767f203570c8"), looks := true }, kinds := [], alts := [], laidByText := true, laidKinds := [.handle], laidTests := true, laidLooks := .later }
def InterTellsUptoCardSaid : Prop := Claim7.holds Tryz.pinned (.plain (OpenSpec.upto interTellsSpec)) interTellsUptoCard

/-- THE SECOND FORM's CARD OF 'greenwoodlaw14.InterGreatest'. -/
def interGreatestUptoCard : Claim7 := { stood := { row := interGreatestUptoRow, standIns := [], harness := (true, "a1979513617c660f3163783b989e0d4b42708391ff8fbda7bd64767f203570c8"), looks := true }, kinds := [], alts := [], laidByText := true, laidKinds := [.handle], laidTests := true, laidLooks := .later }
def InterGreatestUptoCardSaid : Prop := Claim7.holds Tryz.pinned (.plain (OpenSpec.upto interGreatestSpec)) interGreatestUptoCard

/-- THE SECOND FORM's CARD OF 'greenwoodlaw14.InterTurns'. -/
def interTurnsUptoCard : Claim7 := { stood := { row := interTurnsUptoRow, standIns := [], harness := (true, "a1979513617c660f3163783b989e0d4b42708391ff8fbda7bd64767f203570c8"), looks := true }, kinds := [], alts := [], laidByText := true, laidKinds := [.handle], laidTests := true, laidLooks := .later }
def InterTurnsUptoCardSaid : Prop := Claim7.holds Tryz.pinned (.plain (OpenSpec.upto interTurnsSpec)) interTurnsUptoCard

/-- THE SECOND FORM's CARD OF 'greenwoodlaw14.InterMatching'. -/
def interMatchingUptoCard : Claim7 := { stood := { row := interMatchingUptoRow, standIns := [], harness := (true, "a1979513617c660f3163783b989e0d4b42708391ff8fbda7bd64767f203570c8"), looks := true }, kinds := [], alts := [], laidByText := true, laidKinds := [.handle], laidTests := true, laidLooks := .later }
def InterMatchingUptoCardSaid : Prop := Claim7.holds Tryz.pinned (.plain (OpenSpec.upto interMatchingSpec)) interMatchingUptoCard

/-- THE SECOND FORM's CARD OF 'greenwoodlaw14.InterSums'. -/
def interSumsUptoCard : Claim7 := { stood := { row := interSumsUptoRow, standIns := [], harness := (true, "a1979513617c660f3163783b989e0d4b42708391ff8fbda7bd64767f203570c8"), looks := true }, kinds := [], alts := [], laidByText := true, laidKinds := [.handle], laidTests := true, laidLooks := .later }
def InterSumsUptoCardSaid : Prop := Claim7.holds Tryz.pinned (.plain (OpenSpec.upto interSumsSpec)) interSumsUptoCard

/-- THE SECOND FORM's CARD OF 'greenwoodlaw18.TreesCertified'. -/
def treesCertifiedUptoCard : Claim7 := { stood := { row := treesCertifiedUptoRow, standIns := [], harness := (true, "a1979513617c660f3163783b989e0d4b42708391ff8fbda7bd64767f203570c8"), looks := true }, kinds := [], alts := [], laidByText := true, laidKinds := [.handle], laidTests := true, laidLooks := .later }
def TreesCertifiedUptoCardSaid : Prop := Claim7.holds Tryz.pinned (.plain (OpenSpec.upto treesCertifiedSpec)) treesCertifiedUptoCard

/-- THE SECOND FORM's CARD OF 'greenwoodlaw18.TreesSpan'. -/
def treesSpanUptoCard : Claim7 := { stood := { row := treesSpanUptoRow, standIns := [], harness := (true, "a1979513617c660f3163783b989e0d4b42708391ff8fbda7bd64767f203570c8"), looks := true }, kinds := [], alts := [], laidByText := true, laidKinds := [.handle], laidTests := true, laidLooks := .later }
def TreesSpanUptoCardSaid : Prop := Claim7.holds Tryz.pinned (.plain (OpenSpec.upto treesSpanSpec)) treesSpanUptoCard

/-- THE SECOND FORM's CARD OF 'greenwoodlaw18.TreesCross'. -/
def treesCrossUptoCard : Claim7 := { stood := { row := treesCrossUptoRow, standIns := [], harness := (true, "a1979513617c660f3163783b989e0d4b42708391ff8fbda7bd64767f203570c8"), looks := true }, kinds := [], alts := [], laidByText := true, laidKinds := [.handle], laidTests := true, laidLooks := .later }
def TreesCrossUptoCardSaid : Prop := Claim7.holds Tryz.pinned (.plain (OpenSpec.upto treesCrossSpec)) treesCrossUptoCard

/-- THE SECOND FORM's CARD OF 'greenwoodlaw18.TreesWhole'. -/
def treesWholeUptoCard : Claim7 := { stood := { row := treesWholeUptoRow, standIns := [], harness := (true, "a1979513617c660f3163783b989e0d4b42708391ff8fbda7bd64767f203570c8"), looks := true }, kinds := [], alts := [], laidByText := true, laidKinds := [.handle], laidTests := true, laidLooks := .later }
def TreesWholeUptoCardSaid : Prop := Claim7.holds Tryz.pinned (.plain (OpenSpec.upto treesWholeSpec)) treesWholeUptoCard
end Rows
end Go.Proofs.YtmcloifhgbehdaaGreatDoor
