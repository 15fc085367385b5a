/-
  DERIVED. GIVEN WITH THE SEED: THE CARDS: each row of YtmdolfannbbipaaDoorRows.lean that lists a variable, with what it lists TIED to the program's text (the seventh form; the later family's looks); each row that meets fmt, with fmt's text TOLD by the authors' own Lean function (tested against real Go, not proved from fmt's source: count such statements apart). THE CARD IS WHAT COUNTS. Prove the row's statement (the work); the ties are given (YtmdolfannbbipaaDoorTie.lean); close each card by the builder's one call (the guide's Derived/Test/ToyasCard.lean, 'card_holds'). Laid BY PROGRAM, IN A SANDBOX (cutbox-door.mjs). By AI agents, Wed Nov 11 2026. No macro, syntax, notation, axiom, sorry.
-/
import Derived.Test.YtmdolfannbbipaaDoorRows
import GoSem.ClaimSeven
namespace Go.Proofs.YtmdolfannbbipaaDoor
namespace Rows

/-- THE TIED CARD OF 'minecontrollaw19.RuleChecks'. -/
def ruleChecksCard : Claim7 := { stood := { row := ruleChecksRow, standIns := [], harness := (true, "7a9c693910ae7a4dabb00eda06f2967d0df0072959488d602ca66cd7cc0c7b8e"), looks := true }, kinds := [], alts := [], laidByText := true, laidKinds := [.data, .data, .data, .sentinel, .sentinel], laidTests := true, laidLooks := .later }
def RuleChecksCardSaid : Prop := Claim7.holds Tryd.pinned (.plain (OpenSpec.ofChange ruleChecksSpec)) ruleChecksCard

/-- THE TIED CARD OF 'minecontrollaw19.RulePrints'. -/
def rulePrintsCard : Claim7 := { stood := { row := rulePrintsRow, standIns := [], harness := (true, "7a9c693910ae7a4dabb00eda06f2967d0df0072959488d602ca66cd7cc0c7b8e"), looks := true }, kinds := [], alts := [], laidByText := true, laidKinds := [.data, .data, .data, .sentinel, .sentinel], laidTests := true, laidLooks := .later }
def RulePrintsCardSaid : Prop := Claim7.holds Tryd.pinned (.plain (OpenSpec.ofChange rulePrintsSpec)) rulePrintsCard

/-- THE TIED CARD OF 'minecontrollaw19.RuleBack'. -/
def ruleBackCard : Claim7 := { stood := { row := ruleBackRow, standIns := [], harness := (true, "7a9c693910ae7a4dabb00eda06f2967d0df0072959488d602ca66cd7cc0c7b8e"), looks := true }, kinds := [], alts := [], laidByText := true, laidKinds := [.data, .data, .data, .sentinel, .sentinel], laidTests := true, laidLooks := .later }
def RuleBackCardSaid : Prop := Claim7.holds Tryd.pinned (.plain (OpenSpec.ofChange ruleBackSpec)) ruleBackCard

/-- THE TIED CARD OF 'minecontrollaw19.RuleKnown'. -/
def ruleKnownCard : Claim7 := { stood := { row := ruleKnownRow, standIns := [], harness := (true, "7a9c693910ae7a4dabb00eda06f2967d0df0072959488d602ca66cd7cc0c7b8e"), looks := true }, kinds := [], alts := [], laidByText := true, laidKinds := [.data, .data, .data, .sentinel, .sentinel], laidTests := true, laidLooks := .later }
def RuleKnownCardSaid : Prop := Claim7.holds Tryd.pinned (.plain (OpenSpec.ofChange ruleKnownSpec)) ruleKnownCard

/-- THE TIED CARD OF 'minecontrollaw19.RuleLaws'. -/
def ruleLawsCard : Claim7 := { stood := { row := ruleLawsRow, standIns := [], harness := (true, "7a9c693910ae7a4dabb00eda06f2967d0df0072959488d602ca66cd7cc0c7b8e"), looks := true }, kinds := [], alts := [], laidByText := true, laidKinds := [.data, .data, .data, .sentinel, .sentinel], laidTests := true, laidLooks := .later }
def RuleLawsCardSaid : Prop := Claim7.holds Tryd.pinned (.plain (OpenSpec.ofChange ruleLawsSpec)) ruleLawsCard

/-- THE TIED CARD OF 'minecontrollaw19.RuleDeep'. -/
def ruleDeepCard : Claim7 := { stood := { row := ruleDeepRow, standIns := [], harness := (true, "7a9c693910ae7a4dabb00eda06f2967d0df0072959488d602ca66cd7cc0c7b8e"), looks := true }, kinds := [], alts := [], laidByText := true, laidKinds := [.data, .data, .data, .sentinel, .sentinel], laidTests := true, laidLooks := .later }
def RuleDeepCardSaid : Prop := Claim7.holds Tryd.pinned (.plain (OpenSpec.ofChange ruleDeepSpec)) ruleDeepCard

/-- THE TIED CARD OF 'minecontrollaw02.SurveySums'. -/
def surveySumsCard : Claim7 := { stood := { row := surveySumsRow, standIns := [], harness := (true, "7a9c693910ae7a4dabb00eda06f2967d0df0072959488d602ca66cd7cc0c7b8e"), looks := true }, kinds := [], alts := [], laidByText := true, laidKinds := [.data, .data, .data, .data, .pinned], laidTests := true, laidLooks := .later }
def SurveySumsCardSaid : Prop := Claim7.holds Tryd.pinned (.plain (OpenSpec.ofChange surveySumsSpec)) surveySumsCard

/-- THE TIED CARD OF 'minecontrollaw02.SurveyPrints'. -/
def surveyPrintsCard : Claim7 := { stood := { row := surveyPrintsRow, standIns := [], harness := (true, "7a9c693910ae7a4dabb00eda06f2967d0df0072959488d602ca66cd7cc0c7b8e"), looks := true }, kinds := [], alts := [], laidByText := true, laidKinds := [.data, .data, .data, .data, .pinned], laidTests := true, laidLooks := .later }
def SurveyPrintsCardSaid : Prop := Claim7.holds Tryd.pinned (.plain (OpenSpec.ofChange surveyPrintsSpec)) surveyPrintsCard

/-- THE TIED CARD OF 'minecontrollaw02.SurveyBack'. -/
def surveyBackCard : Claim7 := { stood := { row := surveyBackRow, standIns := [], harness := (true, "7a9c693910ae7a4dabb00eda06f2967d0df0072959488d602ca66cd7cc0c7b8e"), looks := true }, kinds := [], alts := [], laidByText := true, laidKinds := [.data, .data, .data, .data, .pinned], laidTests := true, laidLooks := .later }
def SurveyBackCardSaid : Prop := Claim7.holds Tryd.pinned (.plain (OpenSpec.ofChange surveyBackSpec)) surveyBackCard

/-- THE TIED CARD OF 'minecontrollaw02.SurveyReads'. -/
def surveyReadsCard : Claim7 := { stood := { row := surveyReadsRow, standIns := [], harness := (true, "7a9c693910ae7a4dabb00eda06f2967d0df0072959488d602ca66cd7cc0c7b8e"), looks := true }, kinds := [], alts := [], laidByText := true, laidKinds := [.data, .data, .data, .data, .pinned], laidTests := true, laidLooks := .later }
def SurveyReadsCardSaid : Prop := Claim7.holds Tryd.pinned (.plain (OpenSpec.ofChange surveyReadsSpec)) surveyReadsCard

/-- THE SECOND FORM's CARD OF 'minecontrollaw19.RuleChecks'. -/
def ruleChecksUptoCard : Claim7 := { stood := { row := ruleChecksUptoRow, standIns := [], harness := (true, "7a9c693910ae7a4dabb00eda06f2967d0df0072959488d602ca66cd7cc0c7b8e"), looks := true }, kinds := [], alts := [], laidByText := true, laidKinds := [.data, .data, .data, .sentinel, .sentinel], laidTests := true, laidLooks := .later }
def RuleChecksUptoCardSaid : Prop := Claim7.holds Tryd.pinned (.plain (OpenSpec.upto ruleChecksSpec)) ruleChecksUptoCard

/-- THE SECOND FORM's CARD OF 'minecontrollaw19.RulePrints'. -/
def rulePrintsUptoCard : Claim7 := { stood := { row := rulePrintsUptoRow, standIns := [], harness := (true, "7a9c693910ae7a4dabb00eda06f2967d0df0072959488d602ca66cd7cc0c7b8e"), looks := true }, kinds := [], alts := [], laidByText := true, laidKinds := [.data, .data, .data, .sentinel, .sentinel], laidTests := true, laidLooks := .later }
def RulePrintsUptoCardSaid : Prop := Claim7.holds Tryd.pinned (.plain (OpenSpec.upto rulePrintsSpec)) rulePrintsUptoCard

/-- THE SECOND FORM's CARD OF 'minecontrollaw19.RuleBack'. -/
def ruleBackUptoCard : Claim7 := { stood := { row := ruleBackUptoRow, standIns := [], harness := (true, "7a9c693910ae7a4dabb00eda06f2967d0df0072959488d602ca66cd7cc0c7b8e"), looks := true }, kinds := [], alts := [], laidByText := true, laidKinds := [.data, .data, .data, .sentinel, .sentinel], laidTests := true, laidLooks := .later }
def RuleBackUptoCardSaid : Prop := Claim7.holds Tryd.pinned (.plain (OpenSpec.upto ruleBackSpec)) ruleBackUptoCard

/-- THE SECOND FORM's CARD OF 'minecontrollaw19.RuleKnown'. -/
def ruleKnownUptoCard : Claim7 := { stood := { row := ruleKnownUptoRow, standIns := [], harness := (true, "7a9c693910ae7a4dabb00eda06f2967d0df0072959488d602ca66cd7cc0c7b8e"), looks := true }, kinds := [], alts := [], laidByText := true, laidKinds := [.data, .data, .data, .sentinel, .sentinel], laidTests := true, laidLooks := .later }
def RuleKnownUptoCardSaid : Prop := Claim7.holds Tryd.pinned (.plain (OpenSpec.upto ruleKnownSpec)) ruleKnownUptoCard

/-- THE SECOND FORM's CARD OF 'minecontrollaw19.RuleLaws'. -/
def ruleLawsUptoCard : Claim7 := { stood := { row := ruleLawsUptoRow, standIns := [], harness := (true, "7a9c693910ae7a4dabb00eda06f2967d0df0072959488d602ca66cd7cc0c7b8e"), looks := true }, kinds := [], alts := [], laidByText := true, laidKinds := [.data, .data, .data, .sentinel, .sentinel], laidTests := true, laidLooks := .later }
def RuleLawsUptoCardSaid : Prop := Claim7.holds Tryd.pinned (.plain (OpenSpec.upto ruleLawsSpec)) ruleLawsUptoCard

/-- THE SECOND FORM's CARD OF 'minecontrollaw19.RuleDeep'. -/
def ruleDeepUptoCard : Claim7 := { stood := { row := ruleDeepUptoRow, standIns := [], harness := (true, "7a9c693910ae7a4dabb00eda06f2967d0df0072959488d602ca66cd7cc0c7b8e"), looks := true }, kinds := [], alts := [], laidByText := true, laidKinds := [.data, .data, .data, .sentinel, .sentinel], laidTests := true, laidLooks := .later }
def RuleDeepUptoCardSaid : Prop := Claim7.holds Tryd.pinned (.plain (OpenSpec.upto ruleDeepSpec)) ruleDeepUptoCard

/-- THE SECOND FORM's CARD OF 'minecontrollaw02.SurveySums'. -/
def surveySumsUptoCard : Claim7 := { stood := { row := surveySumsUptoRow, standIns := [], harness := (true, "7a9c693910ae7a4dabb00eda06f2967d0df0072959488d602ca66cd7cc0c7b8e"), looks := true }, kinds := [], alts := [], laidByText := true, laidKinds := [.data, .data, .data, .data, .pinned], laidTests := true, laidLooks := .later }
def SurveySumsUptoCardSaid : Prop := Claim7.holds Tryd.pinned (.plain (OpenSpec.upto surveySumsSpec)) surveySumsUptoCard

/-- THE SECOND FORM's CARD OF 'minecontrollaw02.SurveyPrints'. -/
def surveyPrintsUptoCard : Claim7 := { stood := { row := surveyPrintsUptoRow, standIns := [], harness := (true, "7a9c693910ae7a4dabb00eda06f2967d0df0072959488d602ca66cd7cc0c7b8e"), looks := true }, kinds := [], alts := [], laidByText := true, laidKinds := [.data, .data, .data, .data, .pinned], laidTests := true, laidLooks := .later }
def SurveyPrintsUptoCardSaid : Prop := Claim7.holds Tryd.pinned (.plain (OpenSpec.upto surveyPrintsSpec)) surveyPrintsUptoCard

/-- THE SECOND FORM's CARD OF 'minecontrollaw02.SurveyBack'. -/
def surveyBackUptoCard : Claim7 := { stood := { row := surveyBackUptoRow, standIns := [], harness := (true, "7a9c693910ae7a4dabb00eda06f2967d0df0072959488d602ca66cd7cc0c7b8e"), looks := true }, kinds := [], alts := [], laidByText := true, laidKinds := [.data, .data, .data, .data, .pinned], laidTests := true, laidLooks := .later }
def SurveyBackUptoCardSaid : Prop := Claim7.holds Tryd.pinned (.plain (OpenSpec.upto surveyBackSpec)) surveyBackUptoCard

/-- THE SECOND FORM's CARD OF 'minecontrollaw02.SurveyReads'. -/
def surveyReadsUptoCard : Claim7 := { stood := { row := surveyReadsUptoRow, standIns := [], harness := (true, "7a9c693910ae7a4dabb00eda06f2967d0df0072959488d602ca66cd7cc0c7b8e"), looks := true }, kinds := [], alts := [], laidByText := true, laidKinds := [.data, .data, .data, .data, .pinned], laidTests := true, laidLooks := .later }
def SurveyReadsUptoCardSaid : Prop := Claim7.holds Tryd.pinned (.plain (OpenSpec.upto surveyReadsSpec)) surveyReadsUptoCard
end Rows
end Go.Proofs.YtmdolfannbbipaaDoor
