/-
  NARROWER THAN 'FOR EVERY INPUT', by the rows' own cells (each row's printed sentence says how): AuditDays: laid · AuditSums: laid · TermsTexts: laid · TermsChecks: laid · TermsWords: laid · TermsBounds: laid · DuesTell: laid · DuesStep: laid · DuesAt: laid · DuesFollow: laid · AccrueDays: laid · AccrueLegs: laid · AccrueSums: laid · AccrueTells: laid · AccrueTwice: laid · PlanInterest: laid · PlanSums: laid · PlanLast: laid · PlanBuilds: laid.
  DERIVED. THE GIVEN ROWS OF THIS SEAT. 19 by the template 'for every input the law returns true; each argument reads behind the call as it read before'; 0 by the template 'total and deterministic' (their statements: YtgjncgiekniniaaGreatDoorTotals.lean).
  GIVEN WITH THE SEED: the statements are not yours to turn. If you find one false, say at which input.
  Laid BY PROGRAM, IN A SANDBOX (cutbox-rows.mjs): the forced cells as the released guide's own fill.sh prints them over the translation a7c88b1169c62531… (all of the seat's roots in one cut). By AI agents, Wed Nov 11 2026. No macro, syntax, notation, axiom, sorry.
-/
import Derived.Test.YtgjncgiekniniaaGreatDoorChecked
import GoSem.PinnedTables
import GoSem.Claim
import GoSem.ClaimJoined
import GoSem.ClaimMapViews
import Derived.JoinedTies
import Derived.KernelRfl
namespace Go.Proofs.YtgjncgiekniniaaGreatDoor
/- THE CELL 'sum', in the pinned program and in every row, IS THE sha256 OF THE DUMP (.gsa) THAT YtgjncgiekniniaaGreatDoorProg.lean LOADS. Nothing in Lean hashes anything: it is a label: what it is worth is what the hold of that sum in a sandbox is worth. -/
noncomputable def Tryz.pinned : Pinned := { name := "ytgjncgiekniniaagreatdoor", sum := "a7c88b1169c62531eb09dcd7f645aed373d8b2d771f8fea784a98da4eb1a6c14", checked := Tryz.checked }
namespace Rows
def none {H : Type} : Left H := { results := [], args := [] }

/- WHAT THE LISTED PACKAGE-LEVEL VARIABLES READ AS WHEN THE CALL BEGINS. Each datum BY PROGRAM (the guide's laid-datum.mjs) off the statement by which the dump's own 'gosem.cut.vars' lays the variable. In a bare row this is a premise. The card (YtgjncgiekniniaaGreatDoorCards.lean) ties it to the program's text. -/
def laid_unicode_utf8_acceptRanges {H : Type} : DataW H := .agg [.agg [.lit (.int .u8 128), .lit (.int .u8 191)], .agg [.lit (.int .u8 160), .lit (.int .u8 191)], .agg [.lit (.int .u8 128), .lit (.int .u8 159)], .agg [.lit (.int .u8 144), .lit (.int .u8 191)], .agg [.lit (.int .u8 128), .lit (.int .u8 143)], .agg [.lit (.int .u8 0), .lit (.int .u8 0)], .agg [.lit (.int .u8 0), .lit (.int .u8 0)], .agg [.lit (.int .u8 0), .lit (.int .u8 0)], .agg [.lit (.int .u8 0), .lit (.int .u8 0)], .agg [.lit (.int .u8 0), .lit (.int .u8 0)], .agg [.lit (.int .u8 0), .lit (.int .u8 0)], .agg [.lit (.int .u8 0), .lit (.int .u8 0)], .agg [.lit (.int .u8 0), .lit (.int .u8 0)], .agg [.lit (.int .u8 0), .lit (.int .u8 0)], .agg [.lit (.int .u8 0), .lit (.int .u8 0)], .agg [.lit (.int .u8 0), .lit (.int .u8 0)]]
/-- One of Go's own tables, pinned by name: the form's constant. -/
def laid_unicode_utf8_first : DataW Unit := Go.Pinned.utf8First

/-- 'chattellaw29.AuditDays': WHATEVER THE INPUT: true; the input reads as it did. -/
def auditDaysSpec : ChangeSpec := { name := "auditDays", fn := fun _ => fun
  | [d] => { results := [.lit (.bool true)], args := [d] }
  | _ => none }
def auditDaysRow : OpenClaim := { program := "ytgjncgiekniniaagreatdoor", sum := "a7c88b1169c62531eb09dcd7f645aed373d8b2d771f8fea784a98da4eb1a6c14", func := "chattel/chattellaw29.AuditDays", spec := "auditDays", inPlace := ["internal/bytealg.IndexByteString", "internal/bytealg.IndexString", "math/bits.Add64", "math/bits.Sub64", "internal/abi.NoEscape"], unfollowed := true, recurses := true, named := ["unicode/utf8.first", "unicode/utf8.acceptRanges", "math/bits.divideError", "math/bits.overflowError", "internal/bytealg.MaxLen"], plainKeys := false, apart := false, laid := [("unicode/utf8.acceptRanges", laid_unicode_utf8_acceptRanges), ("unicode/utf8.first", laid_unicode_utf8_first)] }
def AuditDaysSaid : Prop := auditDaysRow.holds Tryz.pinned (OpenSpec.ofChange auditDaysSpec)

/-- ITS FALSE NEIGHBOUR: 'it returns false'. Refute it at one input. -/
def auditDaysWrong : ChangeSpec := { name := "auditDays", fn := fun _ => fun
  | [d] => { results := [.lit (.bool false)], args := [d] }
  | _ => none }
def AuditDaysWrongFalsely : Prop := auditDaysRow.holds Tryz.pinned (OpenSpec.ofChange auditDaysWrong)

/-- 'chattellaw29.AuditSums': WHATEVER THE INPUT: true; the input reads as it did. -/
def auditSumsSpec : ChangeSpec := { name := "auditSums", fn := fun _ => fun
  | [d1, d2, d3] => { results := [.lit (.bool true)], args := [d1, d2, d3] }
  | _ => none }
def auditSumsRow : OpenClaim := { program := "ytgjncgiekniniaagreatdoor", sum := "a7c88b1169c62531eb09dcd7f645aed373d8b2d771f8fea784a98da4eb1a6c14", func := "chattel/chattellaw29.AuditSums", spec := "auditSums", inPlace := ["internal/bytealg.IndexByteString", "internal/bytealg.IndexString", "math/bits.Add64", "math/bits.Sub64", "internal/abi.NoEscape"], unfollowed := true, recurses := true, named := ["unicode/utf8.first", "unicode/utf8.acceptRanges", "math/bits.divideError", "math/bits.overflowError", "internal/bytealg.MaxLen"], plainKeys := false, apart := false, laid := [("unicode/utf8.acceptRanges", laid_unicode_utf8_acceptRanges), ("unicode/utf8.first", laid_unicode_utf8_first)] }
def AuditSumsSaid : Prop := auditSumsRow.holds Tryz.pinned (OpenSpec.ofChange auditSumsSpec)

/-- ITS FALSE NEIGHBOUR: 'it returns false'. Refute it at one input. -/
def auditSumsWrong : ChangeSpec := { name := "auditSums", fn := fun _ => fun
  | [d1, d2, d3] => { results := [.lit (.bool false)], args := [d1, d2, d3] }
  | _ => none }
def AuditSumsWrongFalsely : Prop := auditSumsRow.holds Tryz.pinned (OpenSpec.ofChange auditSumsWrong)

/-- 'chattellaw14.TermsTexts': WHATEVER THE INPUT: true; the input reads as it did. -/
def termsTextsSpec : ChangeSpec := { name := "termsTexts", fn := fun _ => fun
  | [d] => { results := [.lit (.bool true)], args := [d] }
  | _ => none }
def termsTextsRow : OpenClaim := { program := "ytgjncgiekniniaagreatdoor", sum := "a7c88b1169c62531eb09dcd7f645aed373d8b2d771f8fea784a98da4eb1a6c14", func := "chattel/chattellaw14.TermsTexts", spec := "termsTexts", inPlace := ["internal/bytealg.IndexByteString", "internal/bytealg.IndexString", "math/bits.Add64", "math/bits.Sub64", "internal/abi.NoEscape"], named := ["unicode/utf8.first", "unicode/utf8.acceptRanges", "internal/bytealg.MaxLen", "math/bits.divideError", "math/bits.overflowError"], plainKeys := false, apart := false, laid := [("unicode/utf8.acceptRanges", laid_unicode_utf8_acceptRanges), ("unicode/utf8.first", laid_unicode_utf8_first)] }
def TermsTextsSaid : Prop := termsTextsRow.holds Tryz.pinned (OpenSpec.ofChange termsTextsSpec)

/-- ITS FALSE NEIGHBOUR: 'it returns false'. Refute it at one input. -/
def termsTextsWrong : ChangeSpec := { name := "termsTexts", fn := fun _ => fun
  | [d] => { results := [.lit (.bool false)], args := [d] }
  | _ => none }
def TermsTextsWrongFalsely : Prop := termsTextsRow.holds Tryz.pinned (OpenSpec.ofChange termsTextsWrong)

/-- 'chattellaw14.TermsChecks': WHATEVER THE INPUT: true; the input reads as it did. -/
def termsChecksSpec : ChangeSpec := { name := "termsChecks", fn := fun _ => fun
  | [d] => { results := [.lit (.bool true)], args := [d] }
  | _ => none }
def termsChecksRow : OpenClaim := { program := "ytgjncgiekniniaagreatdoor", sum := "a7c88b1169c62531eb09dcd7f645aed373d8b2d771f8fea784a98da4eb1a6c14", func := "chattel/chattellaw14.TermsChecks", spec := "termsChecks", inPlace := ["internal/bytealg.IndexByteString", "internal/bytealg.IndexString", "math/bits.Add64", "math/bits.Sub64", "internal/abi.NoEscape"], named := ["internal/bytealg.MaxLen", "unicode/utf8.first", "unicode/utf8.acceptRanges", "math/bits.divideError", "math/bits.overflowError"], plainKeys := false, apart := false, laid := [("unicode/utf8.acceptRanges", laid_unicode_utf8_acceptRanges), ("unicode/utf8.first", laid_unicode_utf8_first)] }
def TermsChecksSaid : Prop := termsChecksRow.holds Tryz.pinned (OpenSpec.ofChange termsChecksSpec)

/-- ITS FALSE NEIGHBOUR: 'it returns false'. Refute it at one input. -/
def termsChecksWrong : ChangeSpec := { name := "termsChecks", fn := fun _ => fun
  | [d] => { results := [.lit (.bool false)], args := [d] }
  | _ => none }
def TermsChecksWrongFalsely : Prop := termsChecksRow.holds Tryz.pinned (OpenSpec.ofChange termsChecksWrong)

/-- 'chattellaw14.TermsWords': WHATEVER THE INPUT: true; the input reads as it did. -/
def termsWordsSpec : ChangeSpec := { name := "termsWords", fn := fun _ => fun
  | [d1, d2] => { results := [.lit (.bool true)], args := [d1, d2] }
  | _ => none }
def termsWordsRow : OpenClaim := { program := "ytgjncgiekniniaagreatdoor", sum := "a7c88b1169c62531eb09dcd7f645aed373d8b2d771f8fea784a98da4eb1a6c14", func := "chattel/chattellaw14.TermsWords", spec := "termsWords", inPlace := ["internal/bytealg.IndexByteString", "internal/bytealg.IndexString", "math/bits.Add64", "math/bits.Sub64", "internal/abi.NoEscape"], named := ["internal/bytealg.MaxLen", "unicode/utf8.first", "unicode/utf8.acceptRanges", "math/bits.divideError", "math/bits.overflowError"], plainKeys := false, apart := false, laid := [("unicode/utf8.acceptRanges", laid_unicode_utf8_acceptRanges), ("unicode/utf8.first", laid_unicode_utf8_first)] }
def TermsWordsSaid : Prop := termsWordsRow.holds Tryz.pinned (OpenSpec.ofChange termsWordsSpec)

/-- ITS FALSE NEIGHBOUR: 'it returns false'. Refute it at one input. -/
def termsWordsWrong : ChangeSpec := { name := "termsWords", fn := fun _ => fun
  | [d1, d2] => { results := [.lit (.bool false)], args := [d1, d2] }
  | _ => none }
def TermsWordsWrongFalsely : Prop := termsWordsRow.holds Tryz.pinned (OpenSpec.ofChange termsWordsWrong)

/-- 'chattellaw14.TermsBounds': WHATEVER THE INPUT: true; the input reads as it did. -/
def termsBoundsSpec : ChangeSpec := { name := "termsBounds", fn := fun _ => fun
  | [d1, d2, d3] => { results := [.lit (.bool true)], args := [d1, d2, d3] }
  | _ => none }
def termsBoundsRow : OpenClaim := { program := "ytgjncgiekniniaagreatdoor", sum := "a7c88b1169c62531eb09dcd7f645aed373d8b2d771f8fea784a98da4eb1a6c14", func := "chattel/chattellaw14.TermsBounds", spec := "termsBounds", inPlace := ["internal/bytealg.IndexByteString", "internal/bytealg.IndexString", "math/bits.Add64", "math/bits.Sub64", "internal/abi.NoEscape"], named := ["unicode/utf8.first", "unicode/utf8.acceptRanges", "internal/bytealg.MaxLen", "math/bits.divideError", "math/bits.overflowError"], plainKeys := false, apart := false, laid := [("unicode/utf8.acceptRanges", laid_unicode_utf8_acceptRanges), ("unicode/utf8.first", laid_unicode_utf8_first)] }
def TermsBoundsSaid : Prop := termsBoundsRow.holds Tryz.pinned (OpenSpec.ofChange termsBoundsSpec)

/-- ITS FALSE NEIGHBOUR: 'it returns false'. Refute it at one input. -/
def termsBoundsWrong : ChangeSpec := { name := "termsBounds", fn := fun _ => fun
  | [d1, d2, d3] => { results := [.lit (.bool false)], args := [d1, d2, d3] }
  | _ => none }
def TermsBoundsWrongFalsely : Prop := termsBoundsRow.holds Tryz.pinned (OpenSpec.ofChange termsBoundsWrong)

/-- 'chattellaw15.DuesTell': WHATEVER THE INPUT: true; the input reads as it did. -/
def duesTellSpec : ChangeSpec := { name := "duesTell", fn := fun _ => fun
  | [d1, d2] => { results := [.lit (.bool true)], args := [d1, d2] }
  | _ => none }
def duesTellRow : OpenClaim := { program := "ytgjncgiekniniaagreatdoor", sum := "a7c88b1169c62531eb09dcd7f645aed373d8b2d771f8fea784a98da4eb1a6c14", func := "chattel/chattellaw15.DuesTell", spec := "duesTell", inPlace := ["internal/bytealg.IndexByteString", "internal/bytealg.IndexString", "math/bits.Add64", "math/bits.Sub64"], unfollowed := true, recurses := true, named := ["unicode/utf8.first", "unicode/utf8.acceptRanges", "internal/bytealg.MaxLen", "math/bits.divideError", "math/bits.overflowError"], plainKeys := false, apart := false, laid := [("unicode/utf8.acceptRanges", laid_unicode_utf8_acceptRanges), ("unicode/utf8.first", laid_unicode_utf8_first)] }
def DuesTellSaid : Prop := duesTellRow.holds Tryz.pinned (OpenSpec.ofChange duesTellSpec)

/-- ITS FALSE NEIGHBOUR: 'it returns false'. Refute it at one input. -/
def duesTellWrong : ChangeSpec := { name := "duesTell", fn := fun _ => fun
  | [d1, d2] => { results := [.lit (.bool false)], args := [d1, d2] }
  | _ => none }
def DuesTellWrongFalsely : Prop := duesTellRow.holds Tryz.pinned (OpenSpec.ofChange duesTellWrong)

/-- 'chattellaw15.DuesStep': WHATEVER THE INPUT: true; the input reads as it did. -/
def duesStepSpec : ChangeSpec := { name := "duesStep", fn := fun _ => fun
  | [d1, d2] => { results := [.lit (.bool true)], args := [d1, d2] }
  | _ => none }
def duesStepRow : OpenClaim := { program := "ytgjncgiekniniaagreatdoor", sum := "a7c88b1169c62531eb09dcd7f645aed373d8b2d771f8fea784a98da4eb1a6c14", func := "chattel/chattellaw15.DuesStep", spec := "duesStep", inPlace := ["internal/bytealg.IndexByteString", "internal/bytealg.IndexString", "math/bits.Add64", "math/bits.Sub64"], unfollowed := true, recurses := true, named := ["unicode/utf8.first", "unicode/utf8.acceptRanges", "internal/bytealg.MaxLen", "math/bits.divideError", "math/bits.overflowError"], plainKeys := false, apart := false, laid := [("unicode/utf8.acceptRanges", laid_unicode_utf8_acceptRanges), ("unicode/utf8.first", laid_unicode_utf8_first)] }
def DuesStepSaid : Prop := duesStepRow.holds Tryz.pinned (OpenSpec.ofChange duesStepSpec)

/-- ITS FALSE NEIGHBOUR: 'it returns false'. Refute it at one input. -/
def duesStepWrong : ChangeSpec := { name := "duesStep", fn := fun _ => fun
  | [d1, d2] => { results := [.lit (.bool false)], args := [d1, d2] }
  | _ => none }
def DuesStepWrongFalsely : Prop := duesStepRow.holds Tryz.pinned (OpenSpec.ofChange duesStepWrong)

/-- 'chattellaw15.DuesAt': WHATEVER THE INPUT: true; the input reads as it did. -/
def duesAtSpec : ChangeSpec := { name := "duesAt", fn := fun _ => fun
  | [d1, d2, d3] => { results := [.lit (.bool true)], args := [d1, d2, d3] }
  | _ => none }
def duesAtRow : OpenClaim := { program := "ytgjncgiekniniaagreatdoor", sum := "a7c88b1169c62531eb09dcd7f645aed373d8b2d771f8fea784a98da4eb1a6c14", func := "chattel/chattellaw15.DuesAt", spec := "duesAt", inPlace := ["internal/bytealg.IndexByteString", "internal/bytealg.IndexString", "math/bits.Add64", "math/bits.Sub64"], unfollowed := true, recurses := true, named := ["unicode/utf8.first", "unicode/utf8.acceptRanges", "internal/bytealg.MaxLen", "math/bits.divideError", "math/bits.overflowError"], plainKeys := false, apart := false, laid := [("unicode/utf8.acceptRanges", laid_unicode_utf8_acceptRanges), ("unicode/utf8.first", laid_unicode_utf8_first)] }
def DuesAtSaid : Prop := duesAtRow.holds Tryz.pinned (OpenSpec.ofChange duesAtSpec)

/-- ITS FALSE NEIGHBOUR: 'it returns false'. Refute it at one input. -/
def duesAtWrong : ChangeSpec := { name := "duesAt", fn := fun _ => fun
  | [d1, d2, d3] => { results := [.lit (.bool false)], args := [d1, d2, d3] }
  | _ => none }
def DuesAtWrongFalsely : Prop := duesAtRow.holds Tryz.pinned (OpenSpec.ofChange duesAtWrong)

/-- 'chattellaw15.DuesFollow': WHATEVER THE INPUT: true; the input reads as it did. -/
def duesFollowSpec : ChangeSpec := { name := "duesFollow", fn := fun _ => fun
  | [d] => { results := [.lit (.bool true)], args := [d] }
  | _ => none }
def duesFollowRow : OpenClaim := { program := "ytgjncgiekniniaagreatdoor", sum := "a7c88b1169c62531eb09dcd7f645aed373d8b2d771f8fea784a98da4eb1a6c14", func := "chattel/chattellaw15.DuesFollow", spec := "duesFollow", inPlace := ["internal/bytealg.IndexByteString", "internal/bytealg.IndexString", "math/bits.Add64", "math/bits.Sub64"], unfollowed := true, recurses := true, named := ["unicode/utf8.first", "unicode/utf8.acceptRanges", "internal/bytealg.MaxLen", "math/bits.divideError", "math/bits.overflowError"], plainKeys := false, apart := false, laid := [("unicode/utf8.acceptRanges", laid_unicode_utf8_acceptRanges), ("unicode/utf8.first", laid_unicode_utf8_first)] }
def DuesFollowSaid : Prop := duesFollowRow.holds Tryz.pinned (OpenSpec.ofChange duesFollowSpec)

/-- ITS FALSE NEIGHBOUR: 'it returns false'. Refute it at one input. -/
def duesFollowWrong : ChangeSpec := { name := "duesFollow", fn := fun _ => fun
  | [d] => { results := [.lit (.bool false)], args := [d] }
  | _ => none }
def DuesFollowWrongFalsely : Prop := duesFollowRow.holds Tryz.pinned (OpenSpec.ofChange duesFollowWrong)

/-- 'chattellaw18.AccrueDays': WHATEVER THE INPUT: true; the input reads as it did. -/
def accrueDaysSpec : ChangeSpec := { name := "accrueDays", fn := fun _ => fun
  | [d1, d2, d3] => { results := [.lit (.bool true)], args := [d1, d2, d3] }
  | _ => none }
def accrueDaysRow : OpenClaim := { program := "ytgjncgiekniniaagreatdoor", sum := "a7c88b1169c62531eb09dcd7f645aed373d8b2d771f8fea784a98da4eb1a6c14", func := "chattel/chattellaw18.AccrueDays", spec := "accrueDays", inPlace := ["internal/bytealg.IndexByteString", "internal/bytealg.IndexString", "math/bits.Add64", "math/bits.Sub64", "internal/abi.NoEscape"], named := ["unicode/utf8.first", "unicode/utf8.acceptRanges", "internal/bytealg.MaxLen", "math/bits.divideError", "math/bits.overflowError"], plainKeys := false, apart := false, laid := [("unicode/utf8.acceptRanges", laid_unicode_utf8_acceptRanges), ("unicode/utf8.first", laid_unicode_utf8_first)] }
def AccrueDaysSaid : Prop := accrueDaysRow.holds Tryz.pinned (OpenSpec.ofChange accrueDaysSpec)

/-- ITS FALSE NEIGHBOUR: 'it returns false'. Refute it at one input. -/
def accrueDaysWrong : ChangeSpec := { name := "accrueDays", fn := fun _ => fun
  | [d1, d2, d3] => { results := [.lit (.bool false)], args := [d1, d2, d3] }
  | _ => none }
def AccrueDaysWrongFalsely : Prop := accrueDaysRow.holds Tryz.pinned (OpenSpec.ofChange accrueDaysWrong)

/-- 'chattellaw18.AccrueLegs': WHATEVER THE INPUT: true; the input reads as it did. -/
def accrueLegsSpec : ChangeSpec := { name := "accrueLegs", fn := fun _ => fun
  | [d1, d2, d3] => { results := [.lit (.bool true)], args := [d1, d2, d3] }
  | _ => none }
def accrueLegsRow : OpenClaim := { program := "ytgjncgiekniniaagreatdoor", sum := "a7c88b1169c62531eb09dcd7f645aed373d8b2d771f8fea784a98da4eb1a6c14", func := "chattel/chattellaw18.AccrueLegs", spec := "accrueLegs", inPlace := ["internal/bytealg.IndexByteString", "internal/bytealg.IndexString", "math/bits.Add64", "math/bits.Sub64", "internal/abi.NoEscape"], named := ["unicode/utf8.first", "unicode/utf8.acceptRanges", "internal/bytealg.MaxLen", "math/bits.divideError", "math/bits.overflowError"], plainKeys := false, apart := false, laid := [("unicode/utf8.acceptRanges", laid_unicode_utf8_acceptRanges), ("unicode/utf8.first", laid_unicode_utf8_first)] }
def AccrueLegsSaid : Prop := accrueLegsRow.holds Tryz.pinned (OpenSpec.ofChange accrueLegsSpec)

/-- ITS FALSE NEIGHBOUR: 'it returns false'. Refute it at one input. -/
def accrueLegsWrong : ChangeSpec := { name := "accrueLegs", fn := fun _ => fun
  | [d1, d2, d3] => { results := [.lit (.bool false)], args := [d1, d2, d3] }
  | _ => none }
def AccrueLegsWrongFalsely : Prop := accrueLegsRow.holds Tryz.pinned (OpenSpec.ofChange accrueLegsWrong)

/-- 'chattellaw18.AccrueSums': WHATEVER THE INPUT: true; the input reads as it did. -/
def accrueSumsSpec : ChangeSpec := { name := "accrueSums", fn := fun _ => fun
  | [d1, d2, d3] => { results := [.lit (.bool true)], args := [d1, d2, d3] }
  | _ => none }
def accrueSumsRow : OpenClaim := { program := "ytgjncgiekniniaagreatdoor", sum := "a7c88b1169c62531eb09dcd7f645aed373d8b2d771f8fea784a98da4eb1a6c14", func := "chattel/chattellaw18.AccrueSums", spec := "accrueSums", inPlace := ["internal/bytealg.IndexByteString", "internal/bytealg.IndexString", "math/bits.Add64", "math/bits.Sub64", "internal/abi.NoEscape"], named := ["unicode/utf8.first", "unicode/utf8.acceptRanges", "internal/bytealg.MaxLen", "math/bits.divideError", "math/bits.overflowError"], plainKeys := false, apart := false, laid := [("unicode/utf8.acceptRanges", laid_unicode_utf8_acceptRanges), ("unicode/utf8.first", laid_unicode_utf8_first)] }
def AccrueSumsSaid : Prop := accrueSumsRow.holds Tryz.pinned (OpenSpec.ofChange accrueSumsSpec)

/-- ITS FALSE NEIGHBOUR: 'it returns false'. Refute it at one input. -/
def accrueSumsWrong : ChangeSpec := { name := "accrueSums", fn := fun _ => fun
  | [d1, d2, d3] => { results := [.lit (.bool false)], args := [d1, d2, d3] }
  | _ => none }
def AccrueSumsWrongFalsely : Prop := accrueSumsRow.holds Tryz.pinned (OpenSpec.ofChange accrueSumsWrong)

/-- 'chattellaw18.AccrueTells': WHATEVER THE INPUT: true; the input reads as it did. -/
def accrueTellsSpec : ChangeSpec := { name := "accrueTells", fn := fun _ => fun
  | [d1, d2, d3] => { results := [.lit (.bool true)], args := [d1, d2, d3] }
  | _ => none }
def accrueTellsRow : OpenClaim := { program := "ytgjncgiekniniaagreatdoor", sum := "a7c88b1169c62531eb09dcd7f645aed373d8b2d771f8fea784a98da4eb1a6c14", func := "chattel/chattellaw18.AccrueTells", spec := "accrueTells", inPlace := ["internal/bytealg.IndexByteString", "internal/bytealg.IndexString", "math/bits.Add64", "math/bits.Sub64", "internal/abi.NoEscape"], named := ["unicode/utf8.first", "unicode/utf8.acceptRanges", "internal/bytealg.MaxLen", "math/bits.divideError", "math/bits.overflowError"], plainKeys := false, apart := false, laid := [("unicode/utf8.acceptRanges", laid_unicode_utf8_acceptRanges), ("unicode/utf8.first", laid_unicode_utf8_first)] }
def AccrueTellsSaid : Prop := accrueTellsRow.holds Tryz.pinned (OpenSpec.ofChange accrueTellsSpec)

/-- ITS FALSE NEIGHBOUR: 'it returns false'. Refute it at one input. -/
def accrueTellsWrong : ChangeSpec := { name := "accrueTells", fn := fun _ => fun
  | [d1, d2, d3] => { results := [.lit (.bool false)], args := [d1, d2, d3] }
  | _ => none }
def AccrueTellsWrongFalsely : Prop := accrueTellsRow.holds Tryz.pinned (OpenSpec.ofChange accrueTellsWrong)

/-- 'chattellaw18.AccrueTwice': WHATEVER THE INPUT: true; the input reads as it did. -/
def accrueTwiceSpec : ChangeSpec := { name := "accrueTwice", fn := fun _ => fun
  | [d1, d2] => { results := [.lit (.bool true)], args := [d1, d2] }
  | _ => none }
def accrueTwiceRow : OpenClaim := { program := "ytgjncgiekniniaagreatdoor", sum := "a7c88b1169c62531eb09dcd7f645aed373d8b2d771f8fea784a98da4eb1a6c14", func := "chattel/chattellaw18.AccrueTwice", spec := "accrueTwice", inPlace := ["internal/bytealg.IndexByteString", "internal/bytealg.IndexString", "math/bits.Add64", "math/bits.Sub64", "internal/abi.NoEscape"], named := ["unicode/utf8.first", "unicode/utf8.acceptRanges", "internal/bytealg.MaxLen", "math/bits.divideError", "math/bits.overflowError"], plainKeys := false, apart := false, laid := [("unicode/utf8.acceptRanges", laid_unicode_utf8_acceptRanges), ("unicode/utf8.first", laid_unicode_utf8_first)] }
def AccrueTwiceSaid : Prop := accrueTwiceRow.holds Tryz.pinned (OpenSpec.ofChange accrueTwiceSpec)

/-- ITS FALSE NEIGHBOUR: 'it returns false'. Refute it at one input. -/
def accrueTwiceWrong : ChangeSpec := { name := "accrueTwice", fn := fun _ => fun
  | [d1, d2] => { results := [.lit (.bool false)], args := [d1, d2] }
  | _ => none }
def AccrueTwiceWrongFalsely : Prop := accrueTwiceRow.holds Tryz.pinned (OpenSpec.ofChange accrueTwiceWrong)

/-- 'chattellaw17.PlanInterest': WHATEVER THE INPUT: true; the input reads as it did. -/
def planInterestSpec : ChangeSpec := { name := "planInterest", fn := fun _ => fun
  | [d] => { results := [.lit (.bool true)], args := [d] }
  | _ => none }
def planInterestRow : OpenClaim := { program := "ytgjncgiekniniaagreatdoor", sum := "a7c88b1169c62531eb09dcd7f645aed373d8b2d771f8fea784a98da4eb1a6c14", func := "chattel/chattellaw17.PlanInterest", spec := "planInterest", inPlace := ["internal/bytealg.IndexByteString", "internal/bytealg.IndexString", "math/bits.Add64", "math/bits.Sub64", "internal/abi.NoEscape"], unfollowed := true, recurses := true, named := ["unicode/utf8.first", "unicode/utf8.acceptRanges", "internal/bytealg.MaxLen", "math/bits.divideError", "math/bits.overflowError"], plainKeys := false, apart := false, laid := [("unicode/utf8.acceptRanges", laid_unicode_utf8_acceptRanges), ("unicode/utf8.first", laid_unicode_utf8_first)] }
def PlanInterestSaid : Prop := planInterestRow.holds Tryz.pinned (OpenSpec.ofChange planInterestSpec)

/-- ITS FALSE NEIGHBOUR: 'it returns false'. Refute it at one input. -/
def planInterestWrong : ChangeSpec := { name := "planInterest", fn := fun _ => fun
  | [d] => { results := [.lit (.bool false)], args := [d] }
  | _ => none }
def PlanInterestWrongFalsely : Prop := planInterestRow.holds Tryz.pinned (OpenSpec.ofChange planInterestWrong)

/-- 'chattellaw17.PlanSums': WHATEVER THE INPUT: true; the input reads as it did. -/
def planSumsSpec : ChangeSpec := { name := "planSums", fn := fun _ => fun
  | [d] => { results := [.lit (.bool true)], args := [d] }
  | _ => none }
def planSumsRow : OpenClaim := { program := "ytgjncgiekniniaagreatdoor", sum := "a7c88b1169c62531eb09dcd7f645aed373d8b2d771f8fea784a98da4eb1a6c14", func := "chattel/chattellaw17.PlanSums", spec := "planSums", inPlace := ["internal/bytealg.IndexByteString", "internal/bytealg.IndexString", "math/bits.Add64", "math/bits.Sub64", "internal/abi.NoEscape"], unfollowed := true, recurses := true, named := ["unicode/utf8.first", "unicode/utf8.acceptRanges", "internal/bytealg.MaxLen", "math/bits.divideError", "math/bits.overflowError"], plainKeys := false, apart := false, laid := [("unicode/utf8.acceptRanges", laid_unicode_utf8_acceptRanges), ("unicode/utf8.first", laid_unicode_utf8_first)] }
def PlanSumsSaid : Prop := planSumsRow.holds Tryz.pinned (OpenSpec.ofChange planSumsSpec)

/-- ITS FALSE NEIGHBOUR: 'it returns false'. Refute it at one input. -/
def planSumsWrong : ChangeSpec := { name := "planSums", fn := fun _ => fun
  | [d] => { results := [.lit (.bool false)], args := [d] }
  | _ => none }
def PlanSumsWrongFalsely : Prop := planSumsRow.holds Tryz.pinned (OpenSpec.ofChange planSumsWrong)

/-- 'chattellaw17.PlanLast': WHATEVER THE INPUT: true; the input reads as it did. -/
def planLastSpec : ChangeSpec := { name := "planLast", fn := fun _ => fun
  | [d] => { results := [.lit (.bool true)], args := [d] }
  | _ => none }
def planLastRow : OpenClaim := { program := "ytgjncgiekniniaagreatdoor", sum := "a7c88b1169c62531eb09dcd7f645aed373d8b2d771f8fea784a98da4eb1a6c14", func := "chattel/chattellaw17.PlanLast", spec := "planLast", inPlace := ["internal/bytealg.IndexByteString", "internal/bytealg.IndexString", "math/bits.Add64", "math/bits.Sub64", "internal/abi.NoEscape"], unfollowed := true, recurses := true, named := ["unicode/utf8.first", "unicode/utf8.acceptRanges", "internal/bytealg.MaxLen", "math/bits.divideError", "math/bits.overflowError"], plainKeys := false, apart := false, laid := [("unicode/utf8.acceptRanges", laid_unicode_utf8_acceptRanges), ("unicode/utf8.first", laid_unicode_utf8_first)] }
def PlanLastSaid : Prop := planLastRow.holds Tryz.pinned (OpenSpec.ofChange planLastSpec)

/-- ITS FALSE NEIGHBOUR: 'it returns false'. Refute it at one input. -/
def planLastWrong : ChangeSpec := { name := "planLast", fn := fun _ => fun
  | [d] => { results := [.lit (.bool false)], args := [d] }
  | _ => none }
def PlanLastWrongFalsely : Prop := planLastRow.holds Tryz.pinned (OpenSpec.ofChange planLastWrong)

/-- 'chattellaw17.PlanBuilds': WHATEVER THE INPUT: true; the input reads as it did. -/
def planBuildsSpec : ChangeSpec := { name := "planBuilds", fn := fun _ => fun
  | [d1, d2] => { results := [.lit (.bool true)], args := [d1, d2] }
  | _ => none }
def planBuildsRow : OpenClaim := { program := "ytgjncgiekniniaagreatdoor", sum := "a7c88b1169c62531eb09dcd7f645aed373d8b2d771f8fea784a98da4eb1a6c14", func := "chattel/chattellaw17.PlanBuilds", spec := "planBuilds", inPlace := ["internal/bytealg.IndexByteString", "internal/bytealg.IndexString", "math/bits.Add64", "math/bits.Sub64", "internal/abi.NoEscape"], unfollowed := true, recurses := true, named := ["unicode/utf8.first", "unicode/utf8.acceptRanges", "internal/bytealg.MaxLen", "math/bits.divideError", "math/bits.overflowError"], plainKeys := false, apart := false, laid := [("unicode/utf8.acceptRanges", laid_unicode_utf8_acceptRanges), ("unicode/utf8.first", laid_unicode_utf8_first)] }
def PlanBuildsSaid : Prop := planBuildsRow.holds Tryz.pinned (OpenSpec.ofChange planBuildsSpec)

/-- ITS FALSE NEIGHBOUR: 'it returns false'. Refute it at one input. -/
def planBuildsWrong : ChangeSpec := { name := "planBuilds", fn := fun _ => fun
  | [d1, d2] => { results := [.lit (.bool false)], args := [d1, d2] }
  | _ => none }
def PlanBuildsWrongFalsely : Prop := planBuildsRow.holds Tryz.pinned (OpenSpec.ofChange planBuildsWrong)

/- THE SECOND FORM. 'bulk': how many values and letters a reading holds, each counted each time it is reached (what is shared counts as often as it is met; a slice's spare places count too). A statement '..UptoSaid' is the law's where the arguments, and the package variables that the reading takes, are together of bulk at most 1048576: NARROWER than '..Said'. Prove '..Said' where nothing that the law and all that it calls make is longer than what came in: it says more and counts as full. Else prove '..UptoSaid'. A law counts once. -/
mutual
def uptoBulk {H : Type} : DataW H → Nat
  | .lit (.string bytes) => bytes.length + 1
  | .lit _ => 1
  | .nil => 1
  | .ptr d => uptoBulk d + 1
  | .slice elems spare => uptoBulkAll elems + uptoBulkAll spare + 1
  | .agg parts => uptoBulkAll parts + 1
  | .iface _ d => uptoBulk d + 1
  | .map entries => uptoBulkEntries entries + 1
  | .held _ => 1
def uptoBulkAll {H : Type} : List (DataW H) → Nat
  | [] => 0
  | d :: r => uptoBulk d + uptoBulkAll r
def uptoBulkEntries {H : Type} : List (Lit × DataW H) → Nat
  | [] => 0
  | x :: r => uptoBulkEntry x + uptoBulkEntries r
def uptoBulkEntry {H : Type} : Lit × DataW H → Nat
  | (.string bytes, d) => bytes.length + uptoBulk d + 1
  | (_, d) => uptoBulk d + 1
 end
def uptoSmall : (H : Type) → List (DataW H) → Bool := fun _ ds => decide (uptoBulkAll ds ≤ 1048576)
def OpenSpec.upto (s : _root_.Go.ChangeSpec) : _root_.Go.OpenSpec := { _root_.Go.OpenSpec.ofChange s with cond := some uptoSmall }

/-- 'chattellaw29.AuditDays', WHERE WHAT IT READS IS OF BULK AT MOST 1048576: true; the input reads as it did. -/
def auditDaysUptoRow : OpenClaim := { program := "ytgjncgiekniniaagreatdoor", sum := "a7c88b1169c62531eb09dcd7f645aed373d8b2d771f8fea784a98da4eb1a6c14", func := "chattel/chattellaw29.AuditDays", spec := "auditDays", inPlace := ["internal/bytealg.IndexByteString", "internal/bytealg.IndexString", "math/bits.Add64", "math/bits.Sub64", "internal/abi.NoEscape"], unfollowed := true, recurses := true, named := ["unicode/utf8.first", "unicode/utf8.acceptRanges", "math/bits.divideError", "math/bits.overflowError", "internal/bytealg.MaxLen"], plainKeys := false, apart := false, laid := [("unicode/utf8.acceptRanges", laid_unicode_utf8_acceptRanges), ("unicode/utf8.first", laid_unicode_utf8_first)], narrowed := true }
def AuditDaysUptoSaid : Prop := auditDaysUptoRow.holds Tryz.pinned (OpenSpec.upto auditDaysSpec)

/-- 'chattellaw29.AuditSums', WHERE WHAT IT READS IS OF BULK AT MOST 1048576: true; the input reads as it did. -/
def auditSumsUptoRow : OpenClaim := { program := "ytgjncgiekniniaagreatdoor", sum := "a7c88b1169c62531eb09dcd7f645aed373d8b2d771f8fea784a98da4eb1a6c14", func := "chattel/chattellaw29.AuditSums", spec := "auditSums", inPlace := ["internal/bytealg.IndexByteString", "internal/bytealg.IndexString", "math/bits.Add64", "math/bits.Sub64", "internal/abi.NoEscape"], unfollowed := true, recurses := true, named := ["unicode/utf8.first", "unicode/utf8.acceptRanges", "math/bits.divideError", "math/bits.overflowError", "internal/bytealg.MaxLen"], plainKeys := false, apart := false, laid := [("unicode/utf8.acceptRanges", laid_unicode_utf8_acceptRanges), ("unicode/utf8.first", laid_unicode_utf8_first)], narrowed := true }
def AuditSumsUptoSaid : Prop := auditSumsUptoRow.holds Tryz.pinned (OpenSpec.upto auditSumsSpec)

/-- 'chattellaw14.TermsTexts', WHERE WHAT IT READS IS OF BULK AT MOST 1048576: true; the input reads as it did. -/
def termsTextsUptoRow : OpenClaim := { program := "ytgjncgiekniniaagreatdoor", sum := "a7c88b1169c62531eb09dcd7f645aed373d8b2d771f8fea784a98da4eb1a6c14", func := "chattel/chattellaw14.TermsTexts", spec := "termsTexts", inPlace := ["internal/bytealg.IndexByteString", "internal/bytealg.IndexString", "math/bits.Add64", "math/bits.Sub64", "internal/abi.NoEscape"], named := ["unicode/utf8.first", "unicode/utf8.acceptRanges", "internal/bytealg.MaxLen", "math/bits.divideError", "math/bits.overflowError"], plainKeys := false, apart := false, laid := [("unicode/utf8.acceptRanges", laid_unicode_utf8_acceptRanges), ("unicode/utf8.first", laid_unicode_utf8_first)], narrowed := true }
def TermsTextsUptoSaid : Prop := termsTextsUptoRow.holds Tryz.pinned (OpenSpec.upto termsTextsSpec)

/-- 'chattellaw14.TermsChecks', WHERE WHAT IT READS IS OF BULK AT MOST 1048576: true; the input reads as it did. -/
def termsChecksUptoRow : OpenClaim := { program := "ytgjncgiekniniaagreatdoor", sum := "a7c88b1169c62531eb09dcd7f645aed373d8b2d771f8fea784a98da4eb1a6c14", func := "chattel/chattellaw14.TermsChecks", spec := "termsChecks", inPlace := ["internal/bytealg.IndexByteString", "internal/bytealg.IndexString", "math/bits.Add64", "math/bits.Sub64", "internal/abi.NoEscape"], named := ["internal/bytealg.MaxLen", "unicode/utf8.first", "unicode/utf8.acceptRanges", "math/bits.divideError", "math/bits.overflowError"], plainKeys := false, apart := false, laid := [("unicode/utf8.acceptRanges", laid_unicode_utf8_acceptRanges), ("unicode/utf8.first", laid_unicode_utf8_first)], narrowed := true }
def TermsChecksUptoSaid : Prop := termsChecksUptoRow.holds Tryz.pinned (OpenSpec.upto termsChecksSpec)

/-- 'chattellaw14.TermsWords', WHERE WHAT IT READS IS OF BULK AT MOST 1048576: true; the input reads as it did. -/
def termsWordsUptoRow : OpenClaim := { program := "ytgjncgiekniniaagreatdoor", sum := "a7c88b1169c62531eb09dcd7f645aed373d8b2d771f8fea784a98da4eb1a6c14", func := "chattel/chattellaw14.TermsWords", spec := "termsWords", inPlace := ["internal/bytealg.IndexByteString", "internal/bytealg.IndexString", "math/bits.Add64", "math/bits.Sub64", "internal/abi.NoEscape"], named := ["internal/bytealg.MaxLen", "unicode/utf8.first", "unicode/utf8.acceptRanges", "math/bits.divideError", "math/bits.overflowError"], plainKeys := false, apart := false, laid := [("unicode/utf8.acceptRanges", laid_unicode_utf8_acceptRanges), ("unicode/utf8.first", laid_unicode_utf8_first)], narrowed := true }
def TermsWordsUptoSaid : Prop := termsWordsUptoRow.holds Tryz.pinned (OpenSpec.upto termsWordsSpec)

/-- 'chattellaw14.TermsBounds', WHERE WHAT IT READS IS OF BULK AT MOST 1048576: true; the input reads as it did. -/
def termsBoundsUptoRow : OpenClaim := { program := "ytgjncgiekniniaagreatdoor", sum := "a7c88b1169c62531eb09dcd7f645aed373d8b2d771f8fea784a98da4eb1a6c14", func := "chattel/chattellaw14.TermsBounds", spec := "termsBounds", inPlace := ["internal/bytealg.IndexByteString", "internal/bytealg.IndexString", "math/bits.Add64", "math/bits.Sub64", "internal/abi.NoEscape"], named := ["unicode/utf8.first", "unicode/utf8.acceptRanges", "internal/bytealg.MaxLen", "math/bits.divideError", "math/bits.overflowError"], plainKeys := false, apart := false, laid := [("unicode/utf8.acceptRanges", laid_unicode_utf8_acceptRanges), ("unicode/utf8.first", laid_unicode_utf8_first)], narrowed := true }
def TermsBoundsUptoSaid : Prop := termsBoundsUptoRow.holds Tryz.pinned (OpenSpec.upto termsBoundsSpec)

/-- 'chattellaw15.DuesTell', WHERE WHAT IT READS IS OF BULK AT MOST 1048576: true; the input reads as it did. -/
def duesTellUptoRow : OpenClaim := { program := "ytgjncgiekniniaagreatdoor", sum := "a7c88b1169c62531eb09dcd7f645aed373d8b2d771f8fea784a98da4eb1a6c14", func := "chattel/chattellaw15.DuesTell", spec := "duesTell", inPlace := ["internal/bytealg.IndexByteString", "internal/bytealg.IndexString", "math/bits.Add64", "math/bits.Sub64"], unfollowed := true, recurses := true, named := ["unicode/utf8.first", "unicode/utf8.acceptRanges", "internal/bytealg.MaxLen", "math/bits.divideError", "math/bits.overflowError"], plainKeys := false, apart := false, laid := [("unicode/utf8.acceptRanges", laid_unicode_utf8_acceptRanges), ("unicode/utf8.first", laid_unicode_utf8_first)], narrowed := true }
def DuesTellUptoSaid : Prop := duesTellUptoRow.holds Tryz.pinned (OpenSpec.upto duesTellSpec)

/-- 'chattellaw15.DuesStep', WHERE WHAT IT READS IS OF BULK AT MOST 1048576: true; the input reads as it did. -/
def duesStepUptoRow : OpenClaim := { program := "ytgjncgiekniniaagreatdoor", sum := "a7c88b1169c62531eb09dcd7f645aed373d8b2d771f8fea784a98da4eb1a6c14", func := "chattel/chattellaw15.DuesStep", spec := "duesStep", inPlace := ["internal/bytealg.IndexByteString", "internal/bytealg.IndexString", "math/bits.Add64", "math/bits.Sub64"], unfollowed := true, recurses := true, named := ["unicode/utf8.first", "unicode/utf8.acceptRanges", "internal/bytealg.MaxLen", "math/bits.divideError", "math/bits.overflowError"], plainKeys := false, apart := false, laid := [("unicode/utf8.acceptRanges", laid_unicode_utf8_acceptRanges), ("unicode/utf8.first", laid_unicode_utf8_first)], narrowed := true }
def DuesStepUptoSaid : Prop := duesStepUptoRow.holds Tryz.pinned (OpenSpec.upto duesStepSpec)

/-- 'chattellaw15.DuesAt', WHERE WHAT IT READS IS OF BULK AT MOST 1048576: true; the input reads as it did. -/
def duesAtUptoRow : OpenClaim := { program := "ytgjncgiekniniaagreatdoor", sum := "a7c88b1169c62531eb09dcd7f645aed373d8b2d771f8fea784a98da4eb1a6c14", func := "chattel/chattellaw15.DuesAt", spec := "duesAt", inPlace := ["internal/bytealg.IndexByteString", "internal/bytealg.IndexString", "math/bits.Add64", "math/bits.Sub64"], unfollowed := true, recurses := true, named := ["unicode/utf8.first", "unicode/utf8.acceptRanges", "internal/bytealg.MaxLen", "math/bits.divideError", "math/bits.overflowError"], plainKeys := false, apart := false, laid := [("unicode/utf8.acceptRanges", laid_unicode_utf8_acceptRanges), ("unicode/utf8.first", laid_unicode_utf8_first)], narrowed := true }
def DuesAtUptoSaid : Prop := duesAtUptoRow.holds Tryz.pinned (OpenSpec.upto duesAtSpec)

/-- 'chattellaw15.DuesFollow', WHERE WHAT IT READS IS OF BULK AT MOST 1048576: true; the input reads as it did. -/
def duesFollowUptoRow : OpenClaim := { program := "ytgjncgiekniniaagreatdoor", sum := "a7c88b1169c62531eb09dcd7f645aed373d8b2d771f8fea784a98da4eb1a6c14", func := "chattel/chattellaw15.DuesFollow", spec := "duesFollow", inPlace := ["internal/bytealg.IndexByteString", "internal/bytealg.IndexString", "math/bits.Add64", "math/bits.Sub64"], unfollowed := true, recurses := true, named := ["unicode/utf8.first", "unicode/utf8.acceptRanges", "internal/bytealg.MaxLen", "math/bits.divideError", "math/bits.overflowError"], plainKeys := false, apart := false, laid := [("unicode/utf8.acceptRanges", laid_unicode_utf8_acceptRanges), ("unicode/utf8.first", laid_unicode_utf8_first)], narrowed := true }
def DuesFollowUptoSaid : Prop := duesFollowUptoRow.holds Tryz.pinned (OpenSpec.upto duesFollowSpec)

/-- 'chattellaw18.AccrueDays', WHERE WHAT IT READS IS OF BULK AT MOST 1048576: true; the input reads as it did. -/
def accrueDaysUptoRow : OpenClaim := { program := "ytgjncgiekniniaagreatdoor", sum := "a7c88b1169c62531eb09dcd7f645aed373d8b2d771f8fea784a98da4eb1a6c14", func := "chattel/chattellaw18.AccrueDays", spec := "accrueDays", inPlace := ["internal/bytealg.IndexByteString", "internal/bytealg.IndexString", "math/bits.Add64", "math/bits.Sub64", "internal/abi.NoEscape"], named := ["unicode/utf8.first", "unicode/utf8.acceptRanges", "internal/bytealg.MaxLen", "math/bits.divideError", "math/bits.overflowError"], plainKeys := false, apart := false, laid := [("unicode/utf8.acceptRanges", laid_unicode_utf8_acceptRanges), ("unicode/utf8.first", laid_unicode_utf8_first)], narrowed := true }
def AccrueDaysUptoSaid : Prop := accrueDaysUptoRow.holds Tryz.pinned (OpenSpec.upto accrueDaysSpec)

/-- 'chattellaw18.AccrueLegs', WHERE WHAT IT READS IS OF BULK AT MOST 1048576: true; the input reads as it did. -/
def accrueLegsUptoRow : OpenClaim := { program := "ytgjncgiekniniaagreatdoor", sum := "a7c88b1169c62531eb09dcd7f645aed373d8b2d771f8fea784a98da4eb1a6c14", func := "chattel/chattellaw18.AccrueLegs", spec := "accrueLegs", inPlace := ["internal/bytealg.IndexByteString", "internal/bytealg.IndexString", "math/bits.Add64", "math/bits.Sub64", "internal/abi.NoEscape"], named := ["unicode/utf8.first", "unicode/utf8.acceptRanges", "internal/bytealg.MaxLen", "math/bits.divideError", "math/bits.overflowError"], plainKeys := false, apart := false, laid := [("unicode/utf8.acceptRanges", laid_unicode_utf8_acceptRanges), ("unicode/utf8.first", laid_unicode_utf8_first)], narrowed := true }
def AccrueLegsUptoSaid : Prop := accrueLegsUptoRow.holds Tryz.pinned (OpenSpec.upto accrueLegsSpec)

/-- 'chattellaw18.AccrueSums', WHERE WHAT IT READS IS OF BULK AT MOST 1048576: true; the input reads as it did. -/
def accrueSumsUptoRow : OpenClaim := { program := "ytgjncgiekniniaagreatdoor", sum := "a7c88b1169c62531eb09dcd7f645aed373d8b2d771f8fea784a98da4eb1a6c14", func := "chattel/chattellaw18.AccrueSums", spec := "accrueSums", inPlace := ["internal/bytealg.IndexByteString", "internal/bytealg.IndexString", "math/bits.Add64", "math/bits.Sub64", "internal/abi.NoEscape"], named := ["unicode/utf8.first", "unicode/utf8.acceptRanges", "internal/bytealg.MaxLen", "math/bits.divideError", "math/bits.overflowError"], plainKeys := false, apart := false, laid := [("unicode/utf8.acceptRanges", laid_unicode_utf8_acceptRanges), ("unicode/utf8.first", laid_unicode_utf8_first)], narrowed := true }
def AccrueSumsUptoSaid : Prop := accrueSumsUptoRow.holds Tryz.pinned (OpenSpec.upto accrueSumsSpec)

/-- 'chattellaw18.AccrueTells', WHERE WHAT IT READS IS OF BULK AT MOST 1048576: true; the input reads as it did. -/
def accrueTellsUptoRow : OpenClaim := { program := "ytgjncgiekniniaagreatdoor", sum := "a7c88b1169c62531eb09dcd7f645aed373d8b2d771f8fea784a98da4eb1a6c14", func := "chattel/chattellaw18.AccrueTells", spec := "accrueTells", inPlace := ["internal/bytealg.IndexByteString", "internal/bytealg.IndexString", "math/bits.Add64", "math/bits.Sub64", "internal/abi.NoEscape"], named := ["unicode/utf8.first", "unicode/utf8.acceptRanges", "internal/bytealg.MaxLen", "math/bits.divideError", "math/bits.overflowError"], plainKeys := false, apart := false, laid := [("unicode/utf8.acceptRanges", laid_unicode_utf8_acceptRanges), ("unicode/utf8.first", laid_unicode_utf8_first)], narrowed := true }
def AccrueTellsUptoSaid : Prop := accrueTellsUptoRow.holds Tryz.pinned (OpenSpec.upto accrueTellsSpec)

/-- 'chattellaw18.AccrueTwice', WHERE WHAT IT READS IS OF BULK AT MOST 1048576: true; the input reads as it did. -/
def accrueTwiceUptoRow : OpenClaim := { program := "ytgjncgiekniniaagreatdoor", sum := "a7c88b1169c62531eb09dcd7f645aed373d8b2d771f8fea784a98da4eb1a6c14", func := "chattel/chattellaw18.AccrueTwice", spec := "accrueTwice", inPlace := ["internal/bytealg.IndexByteString", "internal/bytealg.IndexString", "math/bits.Add64", "math/bits.Sub64", "internal/abi.NoEscape"], named := ["unicode/utf8.first", "unicode/utf8.acceptRanges", "internal/bytealg.MaxLen", "math/bits.divideError", "math/bits.overflowError"], plainKeys := false, apart := false, laid := [("unicode/utf8.acceptRanges", laid_unicode_utf8_acceptRanges), ("unicode/utf8.first", laid_unicode_utf8_first)], narrowed := true }
def AccrueTwiceUptoSaid : Prop := accrueTwiceUptoRow.holds Tryz.pinned (OpenSpec.upto accrueTwiceSpec)

/-- 'chattellaw17.PlanInterest', WHERE WHAT IT READS IS OF BULK AT MOST 1048576: true; the input reads as it did. -/
def planInterestUptoRow : OpenClaim := { program := "ytgjncgiekniniaagreatdoor", sum := "a7c88b1169c62531eb09dcd7f645aed373d8b2d771f8fea784a98da4eb1a6c14", func := "chattel/chattellaw17.PlanInterest", spec := "planInterest", inPlace := ["internal/bytealg.IndexByteString", "internal/bytealg.IndexString", "math/bits.Add64", "math/bits.Sub64", "internal/abi.NoEscape"], unfollowed := true, recurses := true, named := ["unicode/utf8.first", "unicode/utf8.acceptRanges", "internal/bytealg.MaxLen", "math/bits.divideError", "math/bits.overflowError"], plainKeys := false, apart := false, laid := [("unicode/utf8.acceptRanges", laid_unicode_utf8_acceptRanges), ("unicode/utf8.first", laid_unicode_utf8_first)], narrowed := true }
def PlanInterestUptoSaid : Prop := planInterestUptoRow.holds Tryz.pinned (OpenSpec.upto planInterestSpec)

/-- 'chattellaw17.PlanSums', WHERE WHAT IT READS IS OF BULK AT MOST 1048576: true; the input reads as it did. -/
def planSumsUptoRow : OpenClaim := { program := "ytgjncgiekniniaagreatdoor", sum := "a7c88b1169c62531eb09dcd7f645aed373d8b2d771f8fea784a98da4eb1a6c14", func := "chattel/chattellaw17.PlanSums", spec := "planSums", inPlace := ["internal/bytealg.IndexByteString", "internal/bytealg.IndexString", "math/bits.Add64", "math/bits.Sub64", "internal/abi.NoEscape"], unfollowed := true, recurses := true, named := ["unicode/utf8.first", "unicode/utf8.acceptRanges", "internal/bytealg.MaxLen", "math/bits.divideError", "math/bits.overflowError"], plainKeys := false, apart := false, laid := [("unicode/utf8.acceptRanges", laid_unicode_utf8_acceptRanges), ("unicode/utf8.first", laid_unicode_utf8_first)], narrowed := true }
def PlanSumsUptoSaid : Prop := planSumsUptoRow.holds Tryz.pinned (OpenSpec.upto planSumsSpec)

/-- 'chattellaw17.PlanLast', WHERE WHAT IT READS IS OF BULK AT MOST 1048576: true; the input reads as it did. -/
def planLastUptoRow : OpenClaim := { program := "ytgjncgiekniniaagreatdoor", sum := "a7c88b1169c62531eb09dcd7f645aed373d8b2d771f8fea784a98da4eb1a6c14", func := "chattel/chattellaw17.PlanLast", spec := "planLast", inPlace := ["internal/bytealg.IndexByteString", "internal/bytealg.IndexString", "math/bits.Add64", "math/bits.Sub64", "internal/abi.NoEscape"], unfollowed := true, recurses := true, named := ["unicode/utf8.first", "unicode/utf8.acceptRanges", "internal/bytealg.MaxLen", "math/bits.divideError", "math/bits.overflowError"], plainKeys := false, apart := false, laid := [("unicode/utf8.acceptRanges", laid_unicode_utf8_acceptRanges), ("unicode/utf8.first", laid_unicode_utf8_first)], narrowed := true }
def PlanLastUptoSaid : Prop := planLastUptoRow.holds Tryz.pinned (OpenSpec.upto planLastSpec)

/-- 'chattellaw17.PlanBuilds', WHERE WHAT IT READS IS OF BULK AT MOST 1048576: true; the input reads as it did. -/
def planBuildsUptoRow : OpenClaim := { program := "ytgjncgiekniniaagreatdoor", sum := "a7c88b1169c62531eb09dcd7f645aed373d8b2d771f8fea784a98da4eb1a6c14", func := "chattel/chattellaw17.PlanBuilds", spec := "planBuilds", inPlace := ["internal/bytealg.IndexByteString", "internal/bytealg.IndexString", "math/bits.Add64", "math/bits.Sub64", "internal/abi.NoEscape"], unfollowed := true, recurses := true, named := ["unicode/utf8.first", "unicode/utf8.acceptRanges", "internal/bytealg.MaxLen", "math/bits.divideError", "math/bits.overflowError"], plainKeys := false, apart := false, laid := [("unicode/utf8.acceptRanges", laid_unicode_utf8_acceptRanges), ("unicode/utf8.first", laid_unicode_utf8_first)], narrowed := true }
def PlanBuildsUptoSaid : Prop := planBuildsUptoRow.holds Tryz.pinned (OpenSpec.upto planBuildsSpec)

end Rows
end Go.Proofs.YtgjncgiekniniaaGreatDoor
