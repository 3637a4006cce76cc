/-
  NARROWER THAN 'FOR EVERY INPUT', by the rows' own cells (each row's printed sentence says how): AuditDays: laid · AuditSums: laid · ReplanWhole: laid · ReplanBuilds: laid · ReplanSteps: laid · ScriptCuts: laid · ReplanPlain: laid.
  DERIVED. THE GIVEN ROWS OF THIS SEAT. 7 by the template 'for every input the law returns true; each argument reads behind the call as it read before'; 0 by the template 'total and deterministic' (their statements: YtihfdjkjpncjfaaGreatDoorTotals.lean).
  GIVEN WITH THE SEED: the statements are not yours to turn. If you find one false, say at which input.
  Laid BY PROGRAM, IN A SANDBOX (cutbox-rows.mjs): the forced cells as the released guide's own fill.sh prints them over the translation 0f0c0cb53777896a… (all of the seat's roots in one cut). By AI agents, Wed Nov 11 2026. No macro, syntax, notation, axiom, sorry.
-/
import Derived.Test.YtihfdjkjpncjfaaGreatDoorChecked
import GoSem.PinnedTables
import GoSem.Claim
import GoSem.ClaimJoined
import GoSem.ClaimMapViews
import Derived.JoinedTies
import Derived.KernelRfl
namespace Go.Proofs.YtihfdjkjpncjfaaGreatDoor
/- THE CELL 'sum', in the pinned program and in every row, IS THE sha256 OF THE DUMP (.gsa) THAT YtihfdjkjpncjfaaGreatDoorProg.lean LOADS. Nothing in Lean hashes anything: it is a label: what it is worth is what the hold of that sum in a sandbox is worth. -/
noncomputable def Tryz.pinned : Pinned := { name := "ytihfdjkjpncjfaagreatdoor", sum := "0f0c0cb53777896abfc56df013f6fef583ea410d86f1e52f5e3273757eb50386", checked := Tryz.checked }
namespace Rows
def none {H : Type} : Left H := { results := [], args := [] }

/- WHAT THE LISTED PACKAGE-LEVEL VARIABLES READ AS WHEN THE CALL BEGINS. Each datum BY PROGRAM (the guide's laid-datum.mjs) off the statement by which the dump's own 'gosem.cut.vars' lays the variable. In a bare row this is a premise. The card (YtihfdjkjpncjfaaGreatDoorCards.lean) ties it to the program's text. -/
def laid_unicode_utf8_acceptRanges {H : Type} : DataW H := .agg [.agg [.lit (.int .u8 128), .lit (.int .u8 191)], .agg [.lit (.int .u8 160), .lit (.int .u8 191)], .agg [.lit (.int .u8 128), .lit (.int .u8 159)], .agg [.lit (.int .u8 144), .lit (.int .u8 191)], .agg [.lit (.int .u8 128), .lit (.int .u8 143)], .agg [.lit (.int .u8 0), .lit (.int .u8 0)], .agg [.lit (.int .u8 0), .lit (.int .u8 0)], .agg [.lit (.int .u8 0), .lit (.int .u8 0)], .agg [.lit (.int .u8 0), .lit (.int .u8 0)], .agg [.lit (.int .u8 0), .lit (.int .u8 0)], .agg [.lit (.int .u8 0), .lit (.int .u8 0)], .agg [.lit (.int .u8 0), .lit (.int .u8 0)], .agg [.lit (.int .u8 0), .lit (.int .u8 0)], .agg [.lit (.int .u8 0), .lit (.int .u8 0)], .agg [.lit (.int .u8 0), .lit (.int .u8 0)], .agg [.lit (.int .u8 0), .lit (.int .u8 0)]]
/-- One of Go's own tables, pinned by name: the form's constant. -/
def laid_unicode_utf8_first : DataW Unit := Go.Pinned.utf8First

/-- 'chattellaw29.AuditDays': WHATEVER THE INPUT: true; the input reads as it did. -/
def auditDaysSpec : ChangeSpec := { name := "auditDays", fn := fun _ => fun
  | [d] => { results := [.lit (.bool true)], args := [d] }
  | _ => none }
def auditDaysRow : OpenClaim := { program := "ytihfdjkjpncjfaagreatdoor", sum := "0f0c0cb53777896abfc56df013f6fef583ea410d86f1e52f5e3273757eb50386", func := "chattel/chattellaw29.AuditDays", spec := "auditDays", inPlace := ["internal/bytealg.IndexByteString", "internal/bytealg.IndexString", "math/bits.Add64", "math/bits.Sub64", "internal/abi.NoEscape"], unfollowed := true, recurses := true, named := ["unicode/utf8.first", "unicode/utf8.acceptRanges", "math/bits.divideError", "math/bits.overflowError", "internal/bytealg.MaxLen"], plainKeys := false, apart := false, laid := [("unicode/utf8.acceptRanges", laid_unicode_utf8_acceptRanges), ("unicode/utf8.first", laid_unicode_utf8_first)] }
def AuditDaysSaid : Prop := auditDaysRow.holds Tryz.pinned (OpenSpec.ofChange auditDaysSpec)

/-- ITS FALSE NEIGHBOUR: 'it returns false'. Refute it at one input. -/
def auditDaysWrong : ChangeSpec := { name := "auditDays", fn := fun _ => fun
  | [d] => { results := [.lit (.bool false)], args := [d] }
  | _ => none }
def AuditDaysWrongFalsely : Prop := auditDaysRow.holds Tryz.pinned (OpenSpec.ofChange auditDaysWrong)

/-- 'chattellaw29.AuditSums': WHATEVER THE INPUT: true; the input reads as it did. -/
def auditSumsSpec : ChangeSpec := { name := "auditSums", fn := fun _ => fun
  | [d1, d2, d3] => { results := [.lit (.bool true)], args := [d1, d2, d3] }
  | _ => none }
def auditSumsRow : OpenClaim := { program := "ytihfdjkjpncjfaagreatdoor", sum := "0f0c0cb53777896abfc56df013f6fef583ea410d86f1e52f5e3273757eb50386", func := "chattel/chattellaw29.AuditSums", spec := "auditSums", inPlace := ["internal/bytealg.IndexByteString", "internal/bytealg.IndexString", "math/bits.Add64", "math/bits.Sub64", "internal/abi.NoEscape"], unfollowed := true, recurses := true, named := ["unicode/utf8.first", "unicode/utf8.acceptRanges", "math/bits.divideError", "math/bits.overflowError", "internal/bytealg.MaxLen"], plainKeys := false, apart := false, laid := [("unicode/utf8.acceptRanges", laid_unicode_utf8_acceptRanges), ("unicode/utf8.first", laid_unicode_utf8_first)] }
def AuditSumsSaid : Prop := auditSumsRow.holds Tryz.pinned (OpenSpec.ofChange auditSumsSpec)

/-- ITS FALSE NEIGHBOUR: 'it returns false'. Refute it at one input. -/
def auditSumsWrong : ChangeSpec := { name := "auditSums", fn := fun _ => fun
  | [d1, d2, d3] => { results := [.lit (.bool false)], args := [d1, d2, d3] }
  | _ => none }
def AuditSumsWrongFalsely : Prop := auditSumsRow.holds Tryz.pinned (OpenSpec.ofChange auditSumsWrong)

/-- 'chattellaw24.ReplanWhole': WHATEVER THE INPUT: true; the input reads as it did. -/
def replanWholeSpec : ChangeSpec := { name := "replanWhole", fn := fun _ => fun
  | [d] => { results := [.lit (.bool true)], args := [d] }
  | _ => none }
def replanWholeRow : OpenClaim := { program := "ytihfdjkjpncjfaagreatdoor", sum := "0f0c0cb53777896abfc56df013f6fef583ea410d86f1e52f5e3273757eb50386", func := "chattel/chattellaw24.ReplanWhole", spec := "replanWhole", inPlace := ["internal/bytealg.IndexByteString", "internal/bytealg.IndexString", "math/bits.Add64", "math/bits.Sub64", "internal/abi.NoEscape"], unfollowed := true, recurses := true, named := ["unicode/utf8.first", "unicode/utf8.acceptRanges", "internal/bytealg.MaxLen", "math/bits.divideError", "math/bits.overflowError"], plainKeys := false, apart := false, laid := [("unicode/utf8.acceptRanges", laid_unicode_utf8_acceptRanges), ("unicode/utf8.first", laid_unicode_utf8_first)] }
def ReplanWholeSaid : Prop := replanWholeRow.holds Tryz.pinned (OpenSpec.ofChange replanWholeSpec)

/-- ITS FALSE NEIGHBOUR: 'it returns false'. Refute it at one input. -/
def replanWholeWrong : ChangeSpec := { name := "replanWhole", fn := fun _ => fun
  | [d] => { results := [.lit (.bool false)], args := [d] }
  | _ => none }
def ReplanWholeWrongFalsely : Prop := replanWholeRow.holds Tryz.pinned (OpenSpec.ofChange replanWholeWrong)

/-- 'chattellaw24.ReplanBuilds': WHATEVER THE INPUT: true; the input reads as it did. -/
def replanBuildsSpec : ChangeSpec := { name := "replanBuilds", fn := fun _ => fun
  | [d] => { results := [.lit (.bool true)], args := [d] }
  | _ => none }
def replanBuildsRow : OpenClaim := { program := "ytihfdjkjpncjfaagreatdoor", sum := "0f0c0cb53777896abfc56df013f6fef583ea410d86f1e52f5e3273757eb50386", func := "chattel/chattellaw24.ReplanBuilds", spec := "replanBuilds", inPlace := ["internal/bytealg.IndexByteString", "internal/bytealg.IndexString", "math/bits.Add64", "math/bits.Sub64", "internal/abi.NoEscape"], unfollowed := true, recurses := true, named := ["unicode/utf8.first", "unicode/utf8.acceptRanges", "internal/bytealg.MaxLen", "math/bits.divideError", "math/bits.overflowError"], plainKeys := false, apart := false, laid := [("unicode/utf8.acceptRanges", laid_unicode_utf8_acceptRanges), ("unicode/utf8.first", laid_unicode_utf8_first)] }
def ReplanBuildsSaid : Prop := replanBuildsRow.holds Tryz.pinned (OpenSpec.ofChange replanBuildsSpec)

/-- ITS FALSE NEIGHBOUR: 'it returns false'. Refute it at one input. -/
def replanBuildsWrong : ChangeSpec := { name := "replanBuilds", fn := fun _ => fun
  | [d] => { results := [.lit (.bool false)], args := [d] }
  | _ => none }
def ReplanBuildsWrongFalsely : Prop := replanBuildsRow.holds Tryz.pinned (OpenSpec.ofChange replanBuildsWrong)

/-- 'chattellaw24.ReplanSteps': WHATEVER THE INPUT: true; the input reads as it did. -/
def replanStepsSpec : ChangeSpec := { name := "replanSteps", fn := fun _ => fun
  | [d] => { results := [.lit (.bool true)], args := [d] }
  | _ => none }
def replanStepsRow : OpenClaim := { program := "ytihfdjkjpncjfaagreatdoor", sum := "0f0c0cb53777896abfc56df013f6fef583ea410d86f1e52f5e3273757eb50386", func := "chattel/chattellaw24.ReplanSteps", spec := "replanSteps", inPlace := ["internal/bytealg.IndexByteString", "internal/bytealg.IndexString", "math/bits.Add64", "math/bits.Sub64", "internal/abi.NoEscape"], named := ["internal/bytealg.MaxLen", "unicode/utf8.first", "unicode/utf8.acceptRanges", "math/bits.divideError", "math/bits.overflowError"], plainKeys := false, apart := false, laid := [("unicode/utf8.acceptRanges", laid_unicode_utf8_acceptRanges), ("unicode/utf8.first", laid_unicode_utf8_first)] }
def ReplanStepsSaid : Prop := replanStepsRow.holds Tryz.pinned (OpenSpec.ofChange replanStepsSpec)

/-- ITS FALSE NEIGHBOUR: 'it returns false'. Refute it at one input. -/
def replanStepsWrong : ChangeSpec := { name := "replanSteps", fn := fun _ => fun
  | [d] => { results := [.lit (.bool false)], args := [d] }
  | _ => none }
def ReplanStepsWrongFalsely : Prop := replanStepsRow.holds Tryz.pinned (OpenSpec.ofChange replanStepsWrong)

/-- 'chattellaw23.ScriptCuts': WHATEVER THE INPUT: true; the input reads as it did. -/
def scriptCutsSpec : ChangeSpec := { name := "scriptCuts", fn := fun _ => fun
  | [d1, d2] => { results := [.lit (.bool true)], args := [d1, d2] }
  | _ => none }
def scriptCutsRow : OpenClaim := { program := "ytihfdjkjpncjfaagreatdoor", sum := "0f0c0cb53777896abfc56df013f6fef583ea410d86f1e52f5e3273757eb50386", func := "chattel/chattellaw23.ScriptCuts", spec := "scriptCuts", inPlace := ["internal/bytealg.IndexByteString", "internal/bytealg.IndexString", "math/bits.Add64", "math/bits.Sub64", "internal/abi.NoEscape", "internal/bytealg.MakeNoZero", "internal/bytealg.CountString"], unfollowed := true, recurses := true, named := ["unicode/utf8.first", "unicode/utf8.acceptRanges", "internal/bytealg.MaxLen", "math/bits.divideError", "math/bits.overflowError"], plainKeys := false, apart := false, laid := [("unicode/utf8.acceptRanges", laid_unicode_utf8_acceptRanges), ("unicode/utf8.first", laid_unicode_utf8_first)] }
def ScriptCutsSaid : Prop := scriptCutsRow.holds Tryz.pinned (OpenSpec.ofChange scriptCutsSpec)

/-- ITS FALSE NEIGHBOUR: 'it returns false'. Refute it at one input. -/
def scriptCutsWrong : ChangeSpec := { name := "scriptCuts", fn := fun _ => fun
  | [d1, d2] => { results := [.lit (.bool false)], args := [d1, d2] }
  | _ => none }
def ScriptCutsWrongFalsely : Prop := scriptCutsRow.holds Tryz.pinned (OpenSpec.ofChange scriptCutsWrong)

/-- 'chattellaw24.ReplanPlain': WHATEVER THE INPUT: true; the input reads as it did. -/
def replanPlainSpec : ChangeSpec := { name := "replanPlain", fn := fun _ => fun
  | [d] => { results := [.lit (.bool true)], args := [d] }
  | _ => none }
def replanPlainRow : OpenClaim := { program := "ytihfdjkjpncjfaagreatdoor", sum := "0f0c0cb53777896abfc56df013f6fef583ea410d86f1e52f5e3273757eb50386", func := "chattel/chattellaw24.ReplanPlain", spec := "replanPlain", inPlace := ["internal/bytealg.IndexByteString", "internal/bytealg.IndexString", "math/bits.Add64", "math/bits.Sub64", "internal/abi.NoEscape"], unfollowed := true, recurses := true, named := ["unicode/utf8.first", "unicode/utf8.acceptRanges", "internal/bytealg.MaxLen", "math/bits.divideError", "math/bits.overflowError"], plainKeys := false, apart := false, laid := [("unicode/utf8.acceptRanges", laid_unicode_utf8_acceptRanges), ("unicode/utf8.first", laid_unicode_utf8_first)] }
def ReplanPlainSaid : Prop := replanPlainRow.holds Tryz.pinned (OpenSpec.ofChange replanPlainSpec)

/-- ITS FALSE NEIGHBOUR: 'it returns false'. Refute it at one input. -/
def replanPlainWrong : ChangeSpec := { name := "replanPlain", fn := fun _ => fun
  | [d] => { results := [.lit (.bool false)], args := [d] }
  | _ => none }
def ReplanPlainWrongFalsely : Prop := replanPlainRow.holds Tryz.pinned (OpenSpec.ofChange replanPlainWrong)

/- THE SECOND FORM. 'bulk': how many values and letters a reading holds, each counted each time it is reached (what is shared counts as often as it is met; a slice's spare places count too). A statement '..UptoSaid' is the law's where the arguments, and the package variables that the reading takes, are together of bulk at most 1048576: NARROWER than '..Said'. Prove '..Said' where nothing that the law and all that it calls make is longer than what came in: it says more and counts as full. Else prove '..UptoSaid'. A law counts once. -/
mutual
def uptoBulk {H : Type} : DataW H → Nat
  | .lit (.string bytes) => bytes.length + 1
  | .lit _ => 1
  | .nil => 1
  | .ptr d => uptoBulk d + 1
  | .slice elems spare => uptoBulkAll elems + uptoBulkAll spare + 1
  | .agg parts => uptoBulkAll parts + 1
  | .iface _ d => uptoBulk d + 1
  | .map entries => uptoBulkEntries entries + 1
  | .held _ => 1
def uptoBulkAll {H : Type} : List (DataW H) → Nat
  | [] => 0
  | d :: r => uptoBulk d + uptoBulkAll r
def uptoBulkEntries {H : Type} : List (Lit × DataW H) → Nat
  | [] => 0
  | x :: r => uptoBulkEntry x + uptoBulkEntries r
def uptoBulkEntry {H : Type} : Lit × DataW H → Nat
  | (.string bytes, d) => bytes.length + uptoBulk d + 1
  | (_, d) => uptoBulk d + 1
 end
def uptoSmall : (H : Type) → List (DataW H) → Bool := fun _ ds => decide (uptoBulkAll ds ≤ 1048576)
def OpenSpec.upto (s : _root_.Go.ChangeSpec) : _root_.Go.OpenSpec := { _root_.Go.OpenSpec.ofChange s with cond := some uptoSmall }

/-- 'chattellaw29.AuditDays', WHERE WHAT IT READS IS OF BULK AT MOST 1048576: true; the input reads as it did. -/
def auditDaysUptoRow : OpenClaim := { program := "ytihfdjkjpncjfaagreatdoor", sum := "0f0c0cb53777896abfc56df013f6fef583ea410d86f1e52f5e3273757eb50386", func := "chattel/chattellaw29.AuditDays", spec := "auditDays", inPlace := ["internal/bytealg.IndexByteString", "internal/bytealg.IndexString", "math/bits.Add64", "math/bits.Sub64", "internal/abi.NoEscape"], unfollowed := true, recurses := true, named := ["unicode/utf8.first", "unicode/utf8.acceptRanges", "math/bits.divideError", "math/bits.overflowError", "internal/bytealg.MaxLen"], plainKeys := false, apart := false, laid := [("unicode/utf8.acceptRanges", laid_unicode_utf8_acceptRanges), ("unicode/utf8.first", laid_unicode_utf8_first)], narrowed := true }
def AuditDaysUptoSaid : Prop := auditDaysUptoRow.holds Tryz.pinned (OpenSpec.upto auditDaysSpec)

/-- 'chattellaw29.AuditSums', WHERE WHAT IT READS IS OF BULK AT MOST 1048576: true; the input reads as it did. -/
def auditSumsUptoRow : OpenClaim := { program := "ytihfdjkjpncjfaagreatdoor", sum := "0f0c0cb53777896abfc56df013f6fef583ea410d86f1e52f5e3273757eb50386", func := "chattel/chattellaw29.AuditSums", spec := "auditSums", inPlace := ["internal/bytealg.IndexByteString", "internal/bytealg.IndexString", "math/bits.Add64", "math/bits.Sub64", "internal/abi.NoEscape"], unfollowed := true, recurses := true, named := ["unicode/utf8.first", "unicode/utf8.acceptRanges", "math/bits.divideError", "math/bits.overflowError", "internal/bytealg.MaxLen"], plainKeys := false, apart := false, laid := [("unicode/utf8.acceptRanges", laid_unicode_utf8_acceptRanges), ("unicode/utf8.first", laid_unicode_utf8_first)], narrowed := true }
def AuditSumsUptoSaid : Prop := auditSumsUptoRow.holds Tryz.pinned (OpenSpec.upto auditSumsSpec)

/-- 'chattellaw24.ReplanWhole', WHERE WHAT IT READS IS OF BULK AT MOST 1048576: true; the input reads as it did. -/
def replanWholeUptoRow : OpenClaim := { program := "ytihfdjkjpncjfaagreatdoor", sum := "0f0c0cb53777896abfc56df013f6fef583ea410d86f1e52f5e3273757eb50386", func := "chattel/chattellaw24.ReplanWhole", spec := "replanWhole", inPlace := ["internal/bytealg.IndexByteString", "internal/bytealg.IndexString", "math/bits.Add64", "math/bits.Sub64", "internal/abi.NoEscape"], unfollowed := true, recurses := true, named := ["unicode/utf8.first", "unicode/utf8.acceptRanges", "internal/bytealg.MaxLen", "math/bits.divideError", "math/bits.overflowError"], plainKeys := false, apart := false, laid := [("unicode/utf8.acceptRanges", laid_unicode_utf8_acceptRanges), ("unicode/utf8.first", laid_unicode_utf8_first)], narrowed := true }
def ReplanWholeUptoSaid : Prop := replanWholeUptoRow.holds Tryz.pinned (OpenSpec.upto replanWholeSpec)

/-- 'chattellaw24.ReplanBuilds', WHERE WHAT IT READS IS OF BULK AT MOST 1048576: true; the input reads as it did. -/
def replanBuildsUptoRow : OpenClaim := { program := "ytihfdjkjpncjfaagreatdoor", sum := "0f0c0cb53777896abfc56df013f6fef583ea410d86f1e52f5e3273757eb50386", func := "chattel/chattellaw24.ReplanBuilds", spec := "replanBuilds", inPlace := ["internal/bytealg.IndexByteString", "internal/bytealg.IndexString", "math/bits.Add64", "math/bits.Sub64", "internal/abi.NoEscape"], unfollowed := true, recurses := true, named := ["unicode/utf8.first", "unicode/utf8.acceptRanges", "internal/bytealg.MaxLen", "math/bits.divideError", "math/bits.overflowError"], plainKeys := false, apart := false, laid := [("unicode/utf8.acceptRanges", laid_unicode_utf8_acceptRanges), ("unicode/utf8.first", laid_unicode_utf8_first)], narrowed := true }
def ReplanBuildsUptoSaid : Prop := replanBuildsUptoRow.holds Tryz.pinned (OpenSpec.upto replanBuildsSpec)

/-- 'chattellaw24.ReplanSteps', WHERE WHAT IT READS IS OF BULK AT MOST 1048576: true; the input reads as it did. -/
def replanStepsUptoRow : OpenClaim := { program := "ytihfdjkjpncjfaagreatdoor", sum := "0f0c0cb53777896abfc56df013f6fef583ea410d86f1e52f5e3273757eb50386", func := "chattel/chattellaw24.ReplanSteps", spec := "replanSteps", inPlace := ["internal/bytealg.IndexByteString", "internal/bytealg.IndexString", "math/bits.Add64", "math/bits.Sub64", "internal/abi.NoEscape"], named := ["internal/bytealg.MaxLen", "unicode/utf8.first", "unicode/utf8.acceptRanges", "math/bits.divideError", "math/bits.overflowError"], plainKeys := false, apart := false, laid := [("unicode/utf8.acceptRanges", laid_unicode_utf8_acceptRanges), ("unicode/utf8.first", laid_unicode_utf8_first)], narrowed := true }
def ReplanStepsUptoSaid : Prop := replanStepsUptoRow.holds Tryz.pinned (OpenSpec.upto replanStepsSpec)

/-- 'chattellaw23.ScriptCuts', WHERE WHAT IT READS IS OF BULK AT MOST 1048576: true; the input reads as it did. -/
def scriptCutsUptoRow : OpenClaim := { program := "ytihfdjkjpncjfaagreatdoor", sum := "0f0c0cb53777896abfc56df013f6fef583ea410d86f1e52f5e3273757eb50386", func := "chattel/chattellaw23.ScriptCuts", spec := "scriptCuts", inPlace := ["internal/bytealg.IndexByteString", "internal/bytealg.IndexString", "math/bits.Add64", "math/bits.Sub64", "internal/abi.NoEscape", "internal/bytealg.MakeNoZero", "internal/bytealg.CountString"], unfollowed := true, recurses := true, named := ["unicode/utf8.first", "unicode/utf8.acceptRanges", "internal/bytealg.MaxLen", "math/bits.divideError", "math/bits.overflowError"], plainKeys := false, apart := false, laid := [("unicode/utf8.acceptRanges", laid_unicode_utf8_acceptRanges), ("unicode/utf8.first", laid_unicode_utf8_first)], narrowed := true }
def ScriptCutsUptoSaid : Prop := scriptCutsUptoRow.holds Tryz.pinned (OpenSpec.upto scriptCutsSpec)

/-- 'chattellaw24.ReplanPlain', WHERE WHAT IT READS IS OF BULK AT MOST 1048576: true; the input reads as it did. -/
def replanPlainUptoRow : OpenClaim := { program := "ytihfdjkjpncjfaagreatdoor", sum := "0f0c0cb53777896abfc56df013f6fef583ea410d86f1e52f5e3273757eb50386", func := "chattel/chattellaw24.ReplanPlain", spec := "replanPlain", inPlace := ["internal/bytealg.IndexByteString", "internal/bytealg.IndexString", "math/bits.Add64", "math/bits.Sub64", "internal/abi.NoEscape"], unfollowed := true, recurses := true, named := ["unicode/utf8.first", "unicode/utf8.acceptRanges", "internal/bytealg.MaxLen", "math/bits.divideError", "math/bits.overflowError"], plainKeys := false, apart := false, laid := [("unicode/utf8.acceptRanges", laid_unicode_utf8_acceptRanges), ("unicode/utf8.first", laid_unicode_utf8_first)], narrowed := true }
def ReplanPlainUptoSaid : Prop := replanPlainUptoRow.holds Tryz.pinned (OpenSpec.upto replanPlainSpec)

end Rows
end Go.Proofs.YtihfdjkjpncjfaaGreatDoor
