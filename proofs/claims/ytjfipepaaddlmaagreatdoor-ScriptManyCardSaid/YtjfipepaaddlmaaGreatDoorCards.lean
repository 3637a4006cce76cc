/-
  DERIVED. GIVEN WITH THE SEED: THE CARDS: each row of YtjfipepaaddlmaaGreatDoorRows.lean that lists a variable, with what it lists TIED to the program's text (the seventh form; the later family's looks); each row that meets fmt, with fmt's text TOLD by the authors' own Lean function (tested against real Go, not proved from fmt's source: count such statements apart). THE CARD IS WHAT COUNTS. Prove the row's statement (the work); the ties are given (YtjfipepaaddlmaaGreatDoorTie.lean); close each card by the builder's one call (the guide's Derived/Test/ToyasCard.lean, 'card_holds'). Laid BY PROGRAM, IN A SANDBOX (cutbox-door.mjs). By AI agents, Wed Nov 11 2026. No macro, syntax, notation, axiom, sorry.
-/
import Derived.Test.YtjfipepaaddlmaaGreatDoorRows
import GoSem.ClaimSeven
namespace Go.Proofs.YtjfipepaaddlmaaGreatDoor
namespace Rows

/-- THE TIED CARD OF 'chattellaw29.AuditDays'. -/
def auditDaysCard : Claim7 := { stood := { row := auditDaysRow, standIns := [], harness := (true, "cfe5d7253a358151c2ab5ce2983a554a030f76eb31568c1f02fd0fb291c53683"), looks := false }, kinds := [], alts := [], laidByText := true, laidKinds := [.data, .pinned], laidTests := true, laidLooks := .later }
def AuditDaysCardSaid : Prop := Claim7.holds Tryz.pinned (.plain (OpenSpec.ofChange auditDaysSpec)) auditDaysCard

/-- THE TIED CARD OF 'chattellaw29.AuditSums'. -/
def auditSumsCard : Claim7 := { stood := { row := auditSumsRow, standIns := [], harness := (true, "cfe5d7253a358151c2ab5ce2983a554a030f76eb31568c1f02fd0fb291c53683"), looks := false }, kinds := [], alts := [], laidByText := true, laidKinds := [.data, .pinned], laidTests := true, laidLooks := .later }
def AuditSumsCardSaid : Prop := Claim7.holds Tryz.pinned (.plain (OpenSpec.ofChange auditSumsSpec)) auditSumsCard

/-- THE TIED CARD OF 'chattellaw23.ScriptParses'. -/
def scriptParsesCard : Claim7 := { stood := { row := scriptParsesRow, standIns := [], harness := (true, "cfe5d7253a358151c2ab5ce2983a554a030f76eb31568c1f02fd0fb291c53683"), looks := false }, kinds := [], alts := [], laidByText := true, laidKinds := [.data, .pinned], laidTests := true, laidLooks := .later }
def ScriptParsesCardSaid : Prop := Claim7.holds Tryz.pinned (.plain (OpenSpec.ofChange scriptParsesSpec)) scriptParsesCard

/-- THE TIED CARD OF 'chattellaw23.ScriptPrints'. -/
def scriptPrintsCard : Claim7 := { stood := { row := scriptPrintsRow, standIns := [], harness := (true, "cfe5d7253a358151c2ab5ce2983a554a030f76eb31568c1f02fd0fb291c53683"), looks := false }, kinds := [], alts := [], laidByText := true, laidKinds := [.data, .pinned], laidTests := true, laidLooks := .later }
def ScriptPrintsCardSaid : Prop := Claim7.holds Tryz.pinned (.plain (OpenSpec.ofChange scriptPrintsSpec)) scriptPrintsCard

/-- THE TIED CARD OF 'chattellaw23.ScriptBack'. -/
def scriptBackCard : Claim7 := { stood := { row := scriptBackRow, standIns := [], harness := (true, "cfe5d7253a358151c2ab5ce2983a554a030f76eb31568c1f02fd0fb291c53683"), looks := false }, kinds := [], alts := [], laidByText := true, laidKinds := [.data, .pinned], laidTests := true, laidLooks := .later }
def ScriptBackCardSaid : Prop := Claim7.holds Tryz.pinned (.plain (OpenSpec.ofChange scriptBackSpec)) scriptBackCard

/-- THE TIED CARD OF 'chattellaw23.ScriptMany'. -/
def scriptManyCard : Claim7 := { stood := { row := scriptManyRow, standIns := [], harness := (true, "cfe5d7253a358151c2ab5ce2983a554a030f76eb31568c1f02fd0fb291c53683"), looks := false }, kinds := [], alts := [], laidByText := true, laidKinds := [.data, .pinned], laidTests := true, laidLooks := .later }
def ScriptManyCardSaid : Prop := Claim7.holds Tryz.pinned (.plain (OpenSpec.ofChange scriptManySpec)) scriptManyCard

/-- THE TIED CARD OF 'chattellaw23.ScriptCuts'. -/
def scriptCutsCard : Claim7 := { stood := { row := scriptCutsRow, standIns := [], harness := (true, "cfe5d7253a358151c2ab5ce2983a554a030f76eb31568c1f02fd0fb291c53683"), looks := false }, kinds := [], alts := [], laidByText := true, laidKinds := [.data, .pinned], laidTests := true, laidLooks := .later }
def ScriptCutsCardSaid : Prop := Claim7.holds Tryz.pinned (.plain (OpenSpec.ofChange scriptCutsSpec)) scriptCutsCard

/-- THE SECOND FORM's CARD OF 'chattellaw29.AuditDays'. -/
def auditDaysUptoCard : Claim7 := { stood := { row := auditDaysUptoRow, standIns := [], harness := (true, "cfe5d7253a358151c2ab5ce2983a554a030f76eb31568c1f02fd0fb291c53683"), looks := false }, kinds := [], alts := [], laidByText := true, laidKinds := [.data, .pinned], laidTests := true, laidLooks := .later }
def AuditDaysUptoCardSaid : Prop := Claim7.holds Tryz.pinned (.plain (OpenSpec.upto auditDaysSpec)) auditDaysUptoCard

/-- THE SECOND FORM's CARD OF 'chattellaw29.AuditSums'. -/
def auditSumsUptoCard : Claim7 := { stood := { row := auditSumsUptoRow, standIns := [], harness := (true, "cfe5d7253a358151c2ab5ce2983a554a030f76eb31568c1f02fd0fb291c53683"), looks := false }, kinds := [], alts := [], laidByText := true, laidKinds := [.data, .pinned], laidTests := true, laidLooks := .later }
def AuditSumsUptoCardSaid : Prop := Claim7.holds Tryz.pinned (.plain (OpenSpec.upto auditSumsSpec)) auditSumsUptoCard

/-- THE SECOND FORM's CARD OF 'chattellaw23.ScriptParses'. -/
def scriptParsesUptoCard : Claim7 := { stood := { row := scriptParsesUptoRow, standIns := [], harness := (true, "cfe5d7253a358151c2ab5ce2983a554a030f76eb31568c1f02fd0fb291c53683"), looks := false }, kinds := [], alts := [], laidByText := true, laidKinds := [.data, .pinned], laidTests := true, laidLooks := .later }
def ScriptParsesUptoCardSaid : Prop := Claim7.holds Tryz.pinned (.plain (OpenSpec.upto scriptParsesSpec)) scriptParsesUptoCard

/-- THE SECOND FORM's CARD OF 'chattellaw23.ScriptPrints'. -/
def scriptPrintsUptoCard : Claim7 := { stood := { row := scriptPrintsUptoRow, standIns := [], harness := (true, "cfe5d7253a358151c2ab5ce2983a554a030f76eb31568c1f02fd0fb291c53683"), looks := false }, kinds := [], alts := [], laidByText := true, laidKinds := [.data, .pinned], laidTests := true, laidLooks := .later }
def ScriptPrintsUptoCardSaid : Prop := Claim7.holds Tryz.pinned (.plain (OpenSpec.upto scriptPrintsSpec)) scriptPrintsUptoCard

/-- THE SECOND FORM's CARD OF 'chattellaw23.ScriptBack'. -/
def scriptBackUptoCard : Claim7 := { stood := { row := scriptBackUptoRow, standIns := [], harness := (true, "cfe5d7253a358151c2ab5ce2983a554a030f76eb31568c1f02fd0fb291c53683"), looks := false }, kinds := [], alts := [], laidByText := true, laidKinds := [.data, .pinned], laidTests := true, laidLooks := .later }
def ScriptBackUptoCardSaid : Prop := Claim7.holds Tryz.pinned (.plain (OpenSpec.upto scriptBackSpec)) scriptBackUptoCard

/-- THE SECOND FORM's CARD OF 'chattellaw23.ScriptMany'. -/
def scriptManyUptoCard : Claim7 := { stood := { row := scriptManyUptoRow, standIns := [], harness := (true, "cfe5d7253a358151c2ab5ce2983a554a030f76eb31568c1f02fd0fb291c53683"), looks := false }, kinds := [], alts := [], laidByText := true, laidKinds := [.data, .pinned], laidTests := true, laidLooks := .later }
def ScriptManyUptoCardSaid : Prop := Claim7.holds Tryz.pinned (.plain (OpenSpec.upto scriptManySpec)) scriptManyUptoCard

/-- THE SECOND FORM's CARD OF 'chattellaw23.ScriptCuts'. -/
def scriptCutsUptoCard : Claim7 := { stood := { row := scriptCutsUptoRow, standIns := [], harness := (true, "cfe5d7253a358151c2ab5ce2983a554a030f76eb31568c1f02fd0fb291c53683"), looks := false }, kinds := [], alts := [], laidByText := true, laidKinds := [.data, .pinned], laidTests := true, laidLooks := .later }
def ScriptCutsUptoCardSaid : Prop := Claim7.holds Tryz.pinned (.plain (OpenSpec.upto scriptCutsSpec)) scriptCutsUptoCard
end Rows
end Go.Proofs.YtjfipepaaddlmaaGreatDoor
