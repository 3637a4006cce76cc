/-
  DERIVED. GIVEN WITH THE SEED: THE CARDS: each row of YtgjncgiekniniaaGreatDoorRows.lean that lists a variable, with what it lists TIED to the program's text (the seventh form; the later family's looks); each row that meets fmt, with fmt's text TOLD by the authors' own Lean function (tested against real Go, not proved from fmt's source: count such statements apart). THE CARD IS WHAT COUNTS. Prove the row's statement (the work); the ties are given (YtgjncgiekniniaaGreatDoorTie.lean); close each card by the builder's one call (the guide's Derived/Test/ToyasCard.lean, 'card_holds'). Laid BY PROGRAM, IN A SANDBOX (cutbox-door.mjs). By AI agents, Wed Nov 11 2026. No macro, syntax, notation, axiom, sorry.
-/
import Derived.Test.YtgjncgiekniniaaGreatDoorRows
import GoSem.ClaimSeven
namespace Go.Proofs.YtgjncgiekniniaaGreatDoor
namespace Rows

/-- THE TIED CARD OF 'chattellaw29.AuditDays'. -/
def auditDaysCard : Claim7 := { stood := { row := auditDaysRow, standIns := [], harness := (true, "d4ffbc68b08c28ac251f33799dbb1d7e972ab3df77886f5ed4ce34a153cf9881"), looks := false }, kinds := [], alts := [], laidByText := true, laidKinds := [.data, .pinned], laidTests := true, laidLooks := .later }
def AuditDaysCardSaid : Prop := Claim7.holds Tryz.pinned (.plain (OpenSpec.ofChange auditDaysSpec)) auditDaysCard

/-- THE TIED CARD OF 'chattellaw29.AuditSums'. -/
def auditSumsCard : Claim7 := { stood := { row := auditSumsRow, standIns := [], harness := (true, "d4ffbc68b08c28ac251f33799dbb1d7e972ab3df77886f5ed4ce34a153cf9881"), looks := false }, kinds := [], alts := [], laidByText := true, laidKinds := [.data, .pinned], laidTests := true, laidLooks := .later }
def AuditSumsCardSaid : Prop := Claim7.holds Tryz.pinned (.plain (OpenSpec.ofChange auditSumsSpec)) auditSumsCard

/-- THE TIED CARD OF 'chattellaw14.TermsTexts'. -/
def termsTextsCard : Claim7 := { stood := { row := termsTextsRow, standIns := [], harness := (true, "d4ffbc68b08c28ac251f33799dbb1d7e972ab3df77886f5ed4ce34a153cf9881"), looks := false }, kinds := [], alts := [], laidByText := true, laidKinds := [.data, .pinned], laidTests := true, laidLooks := .later }
def TermsTextsCardSaid : Prop := Claim7.holds Tryz.pinned (.plain (OpenSpec.ofChange termsTextsSpec)) termsTextsCard

/-- THE TIED CARD OF 'chattellaw14.TermsChecks'. -/
def termsChecksCard : Claim7 := { stood := { row := termsChecksRow, standIns := [], harness := (true, "d4ffbc68b08c28ac251f33799dbb1d7e972ab3df77886f5ed4ce34a153cf9881"), looks := false }, kinds := [], alts := [], laidByText := true, laidKinds := [.data, .pinned], laidTests := true, laidLooks := .later }
def TermsChecksCardSaid : Prop := Claim7.holds Tryz.pinned (.plain (OpenSpec.ofChange termsChecksSpec)) termsChecksCard

/-- THE TIED CARD OF 'chattellaw14.TermsWords'. -/
def termsWordsCard : Claim7 := { stood := { row := termsWordsRow, standIns := [], harness := (true, "d4ffbc68b08c28ac251f33799dbb1d7e972ab3df77886f5ed4ce34a153cf9881"), looks := false }, kinds := [], alts := [], laidByText := true, laidKinds := [.data, .pinned], laidTests := true, laidLooks := .later }
def TermsWordsCardSaid : Prop := Claim7.holds Tryz.pinned (.plain (OpenSpec.ofChange termsWordsSpec)) termsWordsCard

/-- THE TIED CARD OF 'chattellaw14.TermsBounds'. -/
def termsBoundsCard : Claim7 := { stood := { row := termsBoundsRow, standIns := [], harness := (true, "d4ffbc68b08c28ac251f33799dbb1d7e972ab3df77886f5ed4ce34a153cf9881"), looks := false }, kinds := [], alts := [], laidByText := true, laidKinds := [.data, .pinned], laidTests := true, laidLooks := .later }
def TermsBoundsCardSaid : Prop := Claim7.holds Tryz.pinned (.plain (OpenSpec.ofChange termsBoundsSpec)) termsBoundsCard

/-- THE TIED CARD OF 'chattellaw15.DuesTell'. -/
def duesTellCard : Claim7 := { stood := { row := duesTellRow, standIns := [], harness := (true, "d4ffbc68b08c28ac251f33799dbb1d7e972ab3df77886f5ed4ce34a153cf9881"), looks := false }, kinds := [], alts := [], laidByText := true, laidKinds := [.data, .pinned], laidTests := true, laidLooks := .later }
def DuesTellCardSaid : Prop := Claim7.holds Tryz.pinned (.plain (OpenSpec.ofChange duesTellSpec)) duesTellCard

/-- THE TIED CARD OF 'chattellaw15.DuesStep'. -/
def duesStepCard : Claim7 := { stood := { row := duesStepRow, standIns := [], harness := (true, "d4ffbc68b08c28ac251f33799dbb1d7e972ab3df77886f5ed4ce34a153cf9881"), looks := false }, kinds := [], alts := [], laidByText := true, laidKinds := [.data, .pinned], laidTests := true, laidLooks := .later }
def DuesStepCardSaid : Prop := Claim7.holds Tryz.pinned (.plain (OpenSpec.ofChange duesStepSpec)) duesStepCard

/-- THE TIED CARD OF 'chattellaw15.DuesAt'. -/
def duesAtCard : Claim7 := { stood := { row := duesAtRow, standIns := [], harness := (true, "d4ffbc68b08c28ac251f33799dbb1d7e972ab3df77886f5ed4ce34a153cf9881"), looks := false }, kinds := [], alts := [], laidByText := true, laidKinds := [.data, .pinned], laidTests := true, laidLooks := .later }
def DuesAtCardSaid : Prop := Claim7.holds Tryz.pinned (.plain (OpenSpec.ofChange duesAtSpec)) duesAtCard

/-- THE TIED CARD OF 'chattellaw15.DuesFollow'. -/
def duesFollowCard : Claim7 := { stood := { row := duesFollowRow, standIns := [], harness := (true, "d4ffbc68b08c28ac251f33799dbb1d7e972ab3df77886f5ed4ce34a153cf9881"), looks := false }, kinds := [], alts := [], laidByText := true, laidKinds := [.data, .pinned], laidTests := true, laidLooks := .later }
def DuesFollowCardSaid : Prop := Claim7.holds Tryz.pinned (.plain (OpenSpec.ofChange duesFollowSpec)) duesFollowCard

/-- THE TIED CARD OF 'chattellaw18.AccrueDays'. -/
def accrueDaysCard : Claim7 := { stood := { row := accrueDaysRow, standIns := [], harness := (true, "d4ffbc68b08c28ac251f33799dbb1d7e972ab3df77886f5ed4ce34a153cf9881"), looks := false }, kinds := [], alts := [], laidByText := true, laidKinds := [.data, .pinned], laidTests := true, laidLooks := .later }
def AccrueDaysCardSaid : Prop := Claim7.holds Tryz.pinned (.plain (OpenSpec.ofChange accrueDaysSpec)) accrueDaysCard

/-- THE TIED CARD OF 'chattellaw18.AccrueLegs'. -/
def accrueLegsCard : Claim7 := { stood := { row := accrueLegsRow, standIns := [], harness := (true, "d4ffbc68b08c28ac251f33799dbb1d7e972ab3df77886f5ed4ce34a153cf9881"), looks := false }, kinds := [], alts := [], laidByText := true, laidKinds := [.data, .pinned], laidTests := true, laidLooks := .later }
def AccrueLegsCardSaid : Prop := Claim7.holds Tryz.pinned (.plain (OpenSpec.ofChange accrueLegsSpec)) accrueLegsCard

/-- THE TIED CARD OF 'chattellaw18.AccrueSums'. -/
def accrueSumsCard : Claim7 := { stood := { row := accrueSumsRow, standIns := [], harness := (true, "d4ffbc68b08c28ac251f33799dbb1d7e972ab3df77886f5ed4ce34a153cf9881"), looks := false }, kinds := [], alts := [], laidByText := true, laidKinds := [.data, .pinned], laidTests := true, laidLooks := .later }
def AccrueSumsCardSaid : Prop := Claim7.holds Tryz.pinned (.plain (OpenSpec.ofChange accrueSumsSpec)) accrueSumsCard

/-- THE TIED CARD OF 'chattellaw18.AccrueTells'. -/
def accrueTellsCard : Claim7 := { stood := { row := accrueTellsRow, standIns := [], harness := (true, "d4ffbc68b08c28ac251f33799dbb1d7e972ab3df77886f5ed4ce34a153cf9881"), looks := false }, kinds := [], alts := [], laidByText := true, laidKinds := [.data, .pinned], laidTests := true, laidLooks := .later }
def AccrueTellsCardSaid : Prop := Claim7.holds Tryz.pinned (.plain (OpenSpec.ofChange accrueTellsSpec)) accrueTellsCard

/-- THE TIED CARD OF 'chattellaw18.AccrueTwice'. -/
def accrueTwiceCard : Claim7 := { stood := { row := accrueTwiceRow, standIns := [], harness := (true, "d4ffbc68b08c28ac251f33799dbb1d7e972ab3df77886f5ed4ce34a153cf9881"), looks := false }, kinds := [], alts := [], laidByText := true, laidKinds := [.data, .pinned], laidTests := true, laidLooks := .later }
def AccrueTwiceCardSaid : Prop := Claim7.holds Tryz.pinned (.plain (OpenSpec.ofChange accrueTwiceSpec)) accrueTwiceCard

/-- THE TIED CARD OF 'chattellaw17.PlanInterest'. -/
def planInterestCard : Claim7 := { stood := { row := planInterestRow, standIns := [], harness := (true, "d4ffbc68b08c28ac251f33799dbb1d7e972ab3df77886f5ed4ce34a153cf9881"), looks := false }, kinds := [], alts := [], laidByText := true, laidKinds := [.data, .pinned], laidTests := true, laidLooks := .later }
def PlanInterestCardSaid : Prop := Claim7.holds Tryz.pinned (.plain (OpenSpec.ofChange planInterestSpec)) planInterestCard

/-- THE TIED CARD OF 'chattellaw17.PlanSums'. -/
def planSumsCard : Claim7 := { stood := { row := planSumsRow, standIns := [], harness := (true, "d4ffbc68b08c28ac251f33799dbb1d7e972ab3df77886f5ed4ce34a153cf9881"), looks := false }, kinds := [], alts := [], laidByText := true, laidKinds := [.data, .pinned], laidTests := true, laidLooks := .later }
def PlanSumsCardSaid : Prop := Claim7.holds Tryz.pinned (.plain (OpenSpec.ofChange planSumsSpec)) planSumsCard

/-- THE TIED CARD OF 'chattellaw17.PlanLast'. -/
def planLastCard : Claim7 := { stood := { row := planLastRow, standIns := [], harness := (true, "d4ffbc68b08c28ac251f33799dbb1d7e972ab3df77886f5ed4ce34a153cf9881"), looks := false }, kinds := [], alts := [], laidByText := true, laidKinds := [.data, .pinned], laidTests := true, laidLooks := .later }
def PlanLastCardSaid : Prop := Claim7.holds Tryz.pinned (.plain (OpenSpec.ofChange planLastSpec)) planLastCard

/-- THE TIED CARD OF 'chattellaw17.PlanBuilds'. -/
def planBuildsCard : Claim7 := { stood := { row := planBuildsRow, standIns := [], harness := (true, "d4ffbc68b08c28ac251f33799dbb1d7e972ab3df77886f5ed4ce34a153cf9881"), looks := false }, kinds := [], alts := [], laidByText := true, laidKinds := [.data, .pinned], laidTests := true, laidLooks := .later }
def PlanBuildsCardSaid : Prop := Claim7.holds Tryz.pinned (.plain (OpenSpec.ofChange planBuildsSpec)) planBuildsCard

/-- THE SECOND FORM's CARD OF 'chattellaw29.AuditDays'. -/
def auditDaysUptoCard : Claim7 := { stood := { row := auditDaysUptoRow, standIns := [], harness := (true, "d4ffbc68b08c28ac251f33799dbb1d7e972ab3df77886f5ed4ce34a153cf9881"), looks := false }, kinds := [], alts := [], laidByText := true, laidKinds := [.data, .pinned], laidTests := true, laidLooks := .later }
def AuditDaysUptoCardSaid : Prop := Claim7.holds Tryz.pinned (.plain (OpenSpec.upto auditDaysSpec)) auditDaysUptoCard

/-- THE SECOND FORM's CARD OF 'chattellaw29.AuditSums'. -/
def auditSumsUptoCard : Claim7 := { stood := { row := auditSumsUptoRow, standIns := [], harness := (true, "d4ffbc68b08c28ac251f33799dbb1d7e972ab3df77886f5ed4ce34a153cf9881"), looks := false }, kinds := [], alts := [], laidByText := true, laidKinds := [.data, .pinned], laidTests := true, laidLooks := .later }
def AuditSumsUptoCardSaid : Prop := Claim7.holds Tryz.pinned (.plain (OpenSpec.upto auditSumsSpec)) auditSumsUptoCard

/-- THE SECOND FORM's CARD OF 'chattellaw14.TermsTexts'. -/
def termsTextsUptoCard : Claim7 := { stood := { row := termsTextsUptoRow, standIns := [], harness := (true, "d4ffbc68b08c28ac251f33799dbb1d7e972ab3df77886f5ed4ce34a153cf9881"), looks := false }, kinds := [], alts := [], laidByText := true, laidKinds := [.data, .pinned], laidTests := true, laidLooks := .later }
def TermsTextsUptoCardSaid : Prop := Claim7.holds Tryz.pinned (.plain (OpenSpec.upto termsTextsSpec)) termsTextsUptoCard

/-- THE SECOND FORM's CARD OF 'chattellaw14.TermsChecks'. -/
def termsChecksUptoCard : Claim7 := { stood := { row := termsChecksUptoRow, standIns := [], harness := (true, "d4ffbc68b08c28ac251f33799dbb1d7e972ab3df77886f5ed4ce34a153cf9881"), looks := false }, kinds := [], alts := [], laidByText := true, laidKinds := [.data, .pinned], laidTests := true, laidLooks := .later }
def TermsChecksUptoCardSaid : Prop := Claim7.holds Tryz.pinned (.plain (OpenSpec.upto termsChecksSpec)) termsChecksUptoCard

/-- THE SECOND FORM's CARD OF 'chattellaw14.TermsWords'. -/
def termsWordsUptoCard : Claim7 := { stood := { row := termsWordsUptoRow, standIns := [], harness := (true, "d4ffbc68b08c28ac251f33799dbb1d7e972ab3df77886f5ed4ce34a153cf9881"), looks := false }, kinds := [], alts := [], laidByText := true, laidKinds := [.data, .pinned], laidTests := true, laidLooks := .later }
def TermsWordsUptoCardSaid : Prop := Claim7.holds Tryz.pinned (.plain (OpenSpec.upto termsWordsSpec)) termsWordsUptoCard

/-- THE SECOND FORM's CARD OF 'chattellaw14.TermsBounds'. -/
def termsBoundsUptoCard : Claim7 := { stood := { row := termsBoundsUptoRow, standIns := [], harness := (true, "d4ffbc68b08c28ac251f33799dbb1d7e972ab3df77886f5ed4ce34a153cf9881"), looks := false }, kinds := [], alts := [], laidByText := true, laidKinds := [.data, .pinned], laidTests := true, laidLooks := .later }
def TermsBoundsUptoCardSaid : Prop := Claim7.holds Tryz.pinned (.plain (OpenSpec.upto termsBoundsSpec)) termsBoundsUptoCard

/-- THE SECOND FORM's CARD OF 'chattellaw15.DuesTell'. -/
def duesTellUptoCard : Claim7 := { stood := { row := duesTellUptoRow, standIns := [], harness := (true, "d4ffbc68b08c28ac251f33799dbb1d7e972ab3df77886f5ed4ce34a153cf9881"), looks := false }, kinds := [], alts := [], laidByText := true, laidKinds := [.data, .pinned], laidTests := true, laidLooks := .later }
def DuesTellUptoCardSaid : Prop := Claim7.holds Tryz.pinned (.plain (OpenSpec.upto duesTellSpec)) duesTellUptoCard

/-- THE SECOND FORM's CARD OF 'chattellaw15.DuesStep'. -/
def duesStepUptoCard : Claim7 := { stood := { row := duesStepUptoRow, standIns := [], harness := (true, "d4ffbc68b08c28ac251f33799dbb1d7e972ab3df77886f5ed4ce34a153cf9881"), looks := false }, kinds := [], alts := [], laidByText := true, laidKinds := [.data, .pinned], laidTests := true, laidLooks := .later }
def DuesStepUptoCardSaid : Prop := Claim7.holds Tryz.pinned (.plain (OpenSpec.upto duesStepSpec)) duesStepUptoCard

/-- THE SECOND FORM's CARD OF 'chattellaw15.DuesAt'. -/
def duesAtUptoCard : Claim7 := { stood := { row := duesAtUptoRow, standIns := [], harness := (true, "d4ffbc68b08c28ac251f33799dbb1d7e972ab3df77886f5ed4ce34a153cf9881"), looks := false }, kinds := [], alts := [], laidByText := true, laidKinds := [.data, .pinned], laidTests := true, laidLooks := .later }
def DuesAtUptoCardSaid : Prop := Claim7.holds Tryz.pinned (.plain (OpenSpec.upto duesAtSpec)) duesAtUptoCard

/-- THE SECOND FORM's CARD OF 'chattellaw15.DuesFollow'. -/
def duesFollowUptoCard : Claim7 := { stood := { row := duesFollowUptoRow, standIns := [], harness := (true, "d4ffbc68b08c28ac251f33799dbb1d7e972ab3df77886f5ed4ce34a153cf9881"), looks := false }, kinds := [], alts := [], laidByText := true, laidKinds := [.data, .pinned], laidTests := true, laidLooks := .later }
def DuesFollowUptoCardSaid : Prop := Claim7.holds Tryz.pinned (.plain (OpenSpec.upto duesFollowSpec)) duesFollowUptoCard

/-- THE SECOND FORM's CARD OF 'chattellaw18.AccrueDays'. -/
def accrueDaysUptoCard : Claim7 := { stood := { row := accrueDaysUptoRow, standIns := [], harness := (true, "d4ffbc68b08c28ac251f33799dbb1d7e972ab3df77886f5ed4ce34a153cf9881"), looks := false }, kinds := [], alts := [], laidByText := true, laidKinds := [.data, .pinned], laidTests := true, laidLooks := .later }
def AccrueDaysUptoCardSaid : Prop := Claim7.holds Tryz.pinned (.plain (OpenSpec.upto accrueDaysSpec)) accrueDaysUptoCard

/-- THE SECOND FORM's CARD OF 'chattellaw18.AccrueLegs'. -/
def accrueLegsUptoCard : Claim7 := { stood := { row := accrueLegsUptoRow, standIns := [], harness := (true, "d4ffbc68b08c28ac251f33799dbb1d7e972ab3df77886f5ed4ce34a153cf9881"), looks := false }, kinds := [], alts := [], laidByText := true, laidKinds := [.data, .pinned], laidTests := true, laidLooks := .later }
def AccrueLegsUptoCardSaid : Prop := Claim7.holds Tryz.pinned (.plain (OpenSpec.upto accrueLegsSpec)) accrueLegsUptoCard

/-- THE SECOND FORM's CARD OF 'chattellaw18.AccrueSums'. -/
def accrueSumsUptoCard : Claim7 := { stood := { row := accrueSumsUptoRow, standIns := [], harness := (true, "d4ffbc68b08c28ac251f33799dbb1d7e972ab3df77886f5ed4ce34a153cf9881"), looks := false }, kinds := [], alts := [], laidByText := true, laidKinds := [.data, .pinned], laidTests := true, laidLooks := .later }
def AccrueSumsUptoCardSaid : Prop := Claim7.holds Tryz.pinned (.plain (OpenSpec.upto accrueSumsSpec)) accrueSumsUptoCard

/-- THE SECOND FORM's CARD OF 'chattellaw18.AccrueTells'. -/
def accrueTellsUptoCard : Claim7 := { stood := { row := accrueTellsUptoRow, standIns := [], harness := (true, "d4ffbc68b08c28ac251f33799dbb1d7e972ab3df77886f5ed4ce34a153cf9881"), looks := false }, kinds := [], alts := [], laidByText := true, laidKinds := [.data, .pinned], laidTests := true, laidLooks := .later }
def AccrueTellsUptoCardSaid : Prop := Claim7.holds Tryz.pinned (.plain (OpenSpec.upto accrueTellsSpec)) accrueTellsUptoCard

/-- THE SECOND FORM's CARD OF 'chattellaw18.AccrueTwice'. -/
def accrueTwiceUptoCard : Claim7 := { stood := { row := accrueTwiceUptoRow, standIns := [], harness := (true, "d4ffbc68b08c28ac251f33799dbb1d7e972ab3df77886f5ed4ce34a153cf9881"), looks := false }, kinds := [], alts := [], laidByText := true, laidKinds := [.data, .pinned], laidTests := true, laidLooks := .later }
def AccrueTwiceUptoCardSaid : Prop := Claim7.holds Tryz.pinned (.plain (OpenSpec.upto accrueTwiceSpec)) accrueTwiceUptoCard

/-- THE SECOND FORM's CARD OF 'chattellaw17.PlanInterest'. -/
def planInterestUptoCard : Claim7 := { stood := { row := planInterestUptoRow, standIns := [], harness := (true, "d4ffbc68b08c28ac251f33799dbb1d7e972ab3df77886f5ed4ce34a153cf9881"), looks := false }, kinds := [], alts := [], laidByText := true, laidKinds := [.data, .pinned], laidTests := true, laidLooks := .later }
def PlanInterestUptoCardSaid : Prop := Claim7.holds Tryz.pinned (.plain (OpenSpec.upto planInterestSpec)) planInterestUptoCard

/-- THE SECOND FORM's CARD OF 'chattellaw17.PlanSums'. -/
def planSumsUptoCard : Claim7 := { stood := { row := planSumsUptoRow, standIns := [], harness := (true, "d4ffbc68b08c28ac251f33799dbb1d7e972ab3df77886f5ed4ce34a153cf9881"), looks := false }, kinds := [], alts := [], laidByText := true, laidKinds := [.data, .pinned], laidTests := true, laidLooks := .later }
def PlanSumsUptoCardSaid : Prop := Claim7.holds Tryz.pinned (.plain (OpenSpec.upto planSumsSpec)) planSumsUptoCard

/-- THE SECOND FORM's CARD OF 'chattellaw17.PlanLast'. -/
def planLastUptoCard : Claim7 := { stood := { row := planLastUptoRow, standIns := [], harness := (true, "d4ffbc68b08c28ac251f33799dbb1d7e972ab3df77886f5ed4ce34a153cf9881"), looks := false }, kinds := [], alts := [], laidByText := true, laidKinds := [.data, .pinned], laidTests := true, laidLooks := .later }
def PlanLastUptoCardSaid : Prop := Claim7.holds Tryz.pinned (.plain (OpenSpec.upto planLastSpec)) planLastUptoCard

/-- THE SECOND FORM's CARD OF 'chattellaw17.PlanBuilds'. -/
def planBuildsUptoCard : Claim7 := { stood := { row := planBuildsUptoRow, standIns := [], harness := (true, "d4ffbc68b08c28ac251f33799dbb1d7e972ab3df77886f5ed4ce34a153cf9881"), looks := false }, kinds := [], alts := [], laidByText := true, laidKinds := [.data, .pinned], laidTests := true, laidLooks := .later }
def PlanBuildsUptoCardSaid : Prop := Claim7.holds Tryz.pinned (.plain (OpenSpec.upto planBuildsSpec)) planBuildsUptoCard
end Rows
end Go.Proofs.YtgjncgiekniniaaGreatDoor
