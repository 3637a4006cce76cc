/-
  DERIVED. GIVEN WITH THE SEED: THE CARDS: each row of YtihfdjkjpncjfaaGreatDoorRows.lean that lists a variable, with what it lists TIED to the program's text (the seventh form; the later family's looks); each row that meets fmt, with fmt's text TOLD by the authors' own Lean function (tested against real Go, not proved from fmt's source: count such statements apart). THE CARD IS WHAT COUNTS. Prove the row's statement (the work); the ties are given (YtihfdjkjpncjfaaGreatDoorTie.lean); close each card by the builder's one call (the guide's Derived/Test/ToyasCard.lean, 'card_holds'). Laid BY PROGRAM, IN A SANDBOX (cutbox-door.mjs). By AI agents, Wed Nov 11 2026. No macro, syntax, notation, axiom, sorry.
-/
import Derived.Test.YtihfdjkjpncjfaaGreatDoorRows
import GoSem.ClaimSeven
namespace Go.Proofs.YtihfdjkjpncjfaaGreatDoor
namespace Rows

/-- THE TIED CARD OF 'chattellaw29.AuditDays'. -/
def auditDaysCard : Claim7 := { stood := { row := auditDaysRow, standIns := [], harness := (true, "865417fab56b13a282402552e48e6d2f50d2bb4136acd6c04ea7e0746bf992cd"), looks := false }, kinds := [], alts := [], laidByText := true, laidKinds := [.data, .pinned], laidTests := true, laidLooks := .later }
def AuditDaysCardSaid : Prop := Claim7.holds Tryz.pinned (.plain (OpenSpec.ofChange auditDaysSpec)) auditDaysCard

/-- THE TIED CARD OF 'chattellaw29.AuditSums'. -/
def auditSumsCard : Claim7 := { stood := { row := auditSumsRow, standIns := [], harness := (true, "865417fab56b13a282402552e48e6d2f50d2bb4136acd6c04ea7e0746bf992cd"), looks := false }, kinds := [], alts := [], laidByText := true, laidKinds := [.data, .pinned], laidTests := true, laidLooks := .later }
def AuditSumsCardSaid : Prop := Claim7.holds Tryz.pinned (.plain (OpenSpec.ofChange auditSumsSpec)) auditSumsCard

/-- THE TIED CARD OF 'chattellaw24.ReplanWhole'. -/
def replanWholeCard : Claim7 := { stood := { row := replanWholeRow, standIns := [], harness := (true, "865417fab56b13a282402552e48e6d2f50d2bb4136acd6c04ea7e0746bf992cd"), looks := false }, kinds := [], alts := [], laidByText := true, laidKinds := [.data, .pinned], laidTests := true, laidLooks := .later }
def ReplanWholeCardSaid : Prop := Claim7.holds Tryz.pinned (.plain (OpenSpec.ofChange replanWholeSpec)) replanWholeCard

/-- THE TIED CARD OF 'chattellaw24.ReplanBuilds'. -/
def replanBuildsCard : Claim7 := { stood := { row := replanBuildsRow, standIns := [], harness := (true, "865417fab56b13a282402552e48e6d2f50d2bb4136acd6c04ea7e0746bf992cd"), looks := false }, kinds := [], alts := [], laidByText := true, laidKinds := [.data, .pinned], laidTests := true, laidLooks := .later }
def ReplanBuildsCardSaid : Prop := Claim7.holds Tryz.pinned (.plain (OpenSpec.ofChange replanBuildsSpec)) replanBuildsCard

/-- THE TIED CARD OF 'chattellaw24.ReplanSteps'. -/
def replanStepsCard : Claim7 := { stood := { row := replanStepsRow, standIns := [], harness := (true, "865417fab56b13a282402552e48e6d2f50d2bb4136acd6c04ea7e0746bf992cd"), looks := false }, kinds := [], alts := [], laidByText := true, laidKinds := [.data, .pinned], laidTests := true, laidLooks := .later }
def ReplanStepsCardSaid : Prop := Claim7.holds Tryz.pinned (.plain (OpenSpec.ofChange replanStepsSpec)) replanStepsCard

/-- THE TIED CARD OF 'chattellaw23.ScriptCuts'. -/
def scriptCutsCard : Claim7 := { stood := { row := scriptCutsRow, standIns := [], harness := (true, "865417fab56b13a282402552e48e6d2f50d2bb4136acd6c04ea7e0746bf992cd"), looks := false }, kinds := [], alts := [], laidByText := true, laidKinds := [.data, .pinned], laidTests := true, laidLooks := .later }
def ScriptCutsCardSaid : Prop := Claim7.holds Tryz.pinned (.plain (OpenSpec.ofChange scriptCutsSpec)) scriptCutsCard

/-- THE TIED CARD OF 'chattellaw24.ReplanPlain'. -/
def replanPlainCard : Claim7 := { stood := { row := replanPlainRow, standIns := [], harness := (true, "865417fab56b13a282402552e48e6d2f50d2bb4136acd6c04ea7e0746bf992cd"), looks := false }, kinds := [], alts := [], laidByText := true, laidKinds := [.data, .pinned], laidTests := true, laidLooks := .later }
def ReplanPlainCardSaid : Prop := Claim7.holds Tryz.pinned (.plain (OpenSpec.ofChange replanPlainSpec)) replanPlainCard

/-- THE SECOND FORM's CARD OF 'chattellaw29.AuditDays'. -/
def auditDaysUptoCard : Claim7 := { stood := { row := auditDaysUptoRow, standIns := [], harness := (true, "865417fab56b13a282402552e48e6d2f50d2bb4136acd6c04ea7e0746bf992cd"), looks := false }, kinds := [], alts := [], laidByText := true, laidKinds := [.data, .pinned], laidTests := true, laidLooks := .later }
def AuditDaysUptoCardSaid : Prop := Claim7.holds Tryz.pinned (.plain (OpenSpec.upto auditDaysSpec)) auditDaysUptoCard

/-- THE SECOND FORM's CARD OF 'chattellaw29.AuditSums'. -/
def auditSumsUptoCard : Claim7 := { stood := { row := auditSumsUptoRow, standIns := [], harness := (true, "865417fab56b13a282402552e48e6d2f50d2bb4136acd6c04ea7e0746bf992cd"), looks := false }, kinds := [], alts := [], laidByText := true, laidKinds := [.data, .pinned], laidTests := true, laidLooks := .later }
def AuditSumsUptoCardSaid : Prop := Claim7.holds Tryz.pinned (.plain (OpenSpec.upto auditSumsSpec)) auditSumsUptoCard

/-- THE SECOND FORM's CARD OF 'chattellaw24.ReplanWhole'. -/
def replanWholeUptoCard : Claim7 := { stood := { row := replanWholeUptoRow, standIns := [], harness := (true, "865417fab56b13a282402552e48e6d2f50d2bb4136acd6c04ea7e0746bf992cd"), looks := false }, kinds := [], alts := [], laidByText := true, laidKinds := [.data, .pinned], laidTests := true, laidLooks := .later }
def ReplanWholeUptoCardSaid : Prop := Claim7.holds Tryz.pinned (.plain (OpenSpec.upto replanWholeSpec)) replanWholeUptoCard

/-- THE SECOND FORM's CARD OF 'chattellaw24.ReplanBuilds'. -/
def replanBuildsUptoCard : Claim7 := { stood := { row := replanBuildsUptoRow, standIns := [], harness := (true, "865417fab56b13a282402552e48e6d2f50d2bb4136acd6c04ea7e0746bf992cd"), looks := false }, kinds := [], alts := [], laidByText := true, laidKinds := [.data, .pinned], laidTests := true, laidLooks := .later }
def ReplanBuildsUptoCardSaid : Prop := Claim7.holds Tryz.pinned (.plain (OpenSpec.upto replanBuildsSpec)) replanBuildsUptoCard

/-- THE SECOND FORM's CARD OF 'chattellaw24.ReplanSteps'. -/
def replanStepsUptoCard : Claim7 := { stood := { row := replanStepsUptoRow, standIns := [], harness := (true, "865417fab56b13a282402552e48e6d2f50d2bb4136acd6c04ea7e0746bf992cd"), looks := false }, kinds := [], alts := [], laidByText := true, laidKinds := [.data, .pinned], laidTests := true, laidLooks := .later }
def ReplanStepsUptoCardSaid : Prop := Claim7.holds Tryz.pinned (.plain (OpenSpec.upto replanStepsSpec)) replanStepsUptoCard

/-- THE SECOND FORM's CARD OF 'chattellaw23.ScriptCuts'. -/
def scriptCutsUptoCard : Claim7 := { stood := { row := scriptCutsUptoRow, standIns := [], harness := (true, "865417fab56b13a282402552e48e6d2f50d2bb4136acd6c04ea7e0746bf992cd"), looks := false }, kinds := [], alts := [], laidByText := true, laidKinds := [.data, .pinned], laidTests := true, laidLooks := .later }
def ScriptCutsUptoCardSaid : Prop := Claim7.holds Tryz.pinned (.plain (OpenSpec.upto scriptCutsSpec)) scriptCutsUptoCard

/-- THE SECOND FORM's CARD OF 'chattellaw24.ReplanPlain'. -/
def replanPlainUptoCard : Claim7 := { stood := { row := replanPlainUptoRow, standIns := [], harness := (true, "865417fab56b13a282402552e48e6d2f50d2bb4136acd6c04ea7e0746bf992cd"), looks := false }, kinds := [], alts := [], laidByText := true, laidKinds := [.data, .pinned], laidTests := true, laidLooks := .later }
def ReplanPlainUptoCardSaid : Prop := Claim7.holds Tryz.pinned (.plain (OpenSpec.upto replanPlainSpec)) replanPlainUptoCard
end Rows
end Go.Proofs.YtihfdjkjpncjfaaGreatDoor
