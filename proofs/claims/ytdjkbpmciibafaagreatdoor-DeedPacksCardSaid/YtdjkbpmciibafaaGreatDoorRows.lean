/-
  NARROWER THAN 'FOR EVERY INPUT', by the rows' own cells (each row's printed sentence says how): ReplyBytes: laid · DeedBytes: laid · DeedSame: laid · ChansCredit: laid · MethodReads: laid · MethodFrames: laid · DraftPlays: laid · DraftParts: laid · DraftFull: laid · DeedPacks: laid · DeedReads: laid · DeedShort: laid · ChansOnce: laid · ChansPlay: laid.
  DERIVED. THE GIVEN ROWS OF THIS SEAT. 14 by the template 'for every input the law returns true; each argument reads behind the call as it read before'; 0 by the template 'total and deterministic' (their statements: YtdjkbpmciibafaaGreatDoorTotals.lean).
  GIVEN WITH THE SEED: the statements are not yours to turn. If you find one false, say at which input.
  Laid BY PROGRAM, IN A SANDBOX (cutbox-rows.mjs): the forced cells as the released guide's own fill.sh prints them over the translation 9353e4a449c859e2… (all of the seat's roots in one cut). By AI agents, Wed Nov 11 2026. No macro, syntax, notation, axiom, sorry.
-/
import Derived.Test.YtdjkbpmciibafaaGreatDoorChecked
import GoSem.PinnedTables
import GoSem.Claim
import GoSem.ClaimJoined
import GoSem.ClaimMapViews
import Derived.JoinedTies
import Derived.KernelRfl
namespace Go.Proofs.YtdjkbpmciibafaaGreatDoor
/- THE CELL 'sum', in the pinned program and in every row, IS THE sha256 OF THE DUMP (.gsa) THAT YtdjkbpmciibafaaGreatDoorProg.lean LOADS. Nothing in Lean hashes anything: it is a label: what it is worth is what the hold of that sum in a sandbox is worth. -/
noncomputable def Tryz.pinned : Pinned := { name := "ytdjkbpmciibafaagreatdoor", sum := "9353e4a449c859e2f8a28cadb205ee2ade5885b5c9af89464e2209fd9abb6600", checked := Tryz.checked }
namespace Rows
def none {H : Type} : Left H := { results := [], args := [] }

/- WHAT THE LISTED PACKAGE-LEVEL VARIABLES READ AS WHEN THE CALL BEGINS. Each datum BY PROGRAM (the guide's laid-datum.mjs) off the statement by which the dump's own 'gosem.cut.vars' lays the variable. In a bare row this is a premise. The card (YtdjkbpmciibafaaGreatDoorCards.lean) ties it to the program's text. -/
def laid_stairwell_crc_laid {H : Type} : DataW H := .agg [.lit (.int .u32 0), .lit (.int .u32 498536548), .lit (.int .u32 997073096), .lit (.int .u32 651767980), .lit (.int .u32 1994146192), .lit (.int .u32 1802195444), .lit (.int .u32 1303535960), .lit (.int .u32 1342533948), .lit (.int .u32 3988292384), .lit (.int .u32 4027552580), .lit (.int .u32 3604390888), .lit (.int .u32 3412177804), .lit (.int .u32 2607071920), .lit (.int .u32 2262029012), .lit (.int .u32 2685067896), .lit (.int .u32 3183342108)]
def laid_unicode_utf8_acceptRanges {H : Type} : DataW H := .agg [.agg [.lit (.int .u8 128), .lit (.int .u8 191)], .agg [.lit (.int .u8 160), .lit (.int .u8 191)], .agg [.lit (.int .u8 128), .lit (.int .u8 159)], .agg [.lit (.int .u8 144), .lit (.int .u8 191)], .agg [.lit (.int .u8 128), .lit (.int .u8 143)], .agg [.lit (.int .u8 0), .lit (.int .u8 0)], .agg [.lit (.int .u8 0), .lit (.int .u8 0)], .agg [.lit (.int .u8 0), .lit (.int .u8 0)], .agg [.lit (.int .u8 0), .lit (.int .u8 0)], .agg [.lit (.int .u8 0), .lit (.int .u8 0)], .agg [.lit (.int .u8 0), .lit (.int .u8 0)], .agg [.lit (.int .u8 0), .lit (.int .u8 0)], .agg [.lit (.int .u8 0), .lit (.int .u8 0)], .agg [.lit (.int .u8 0), .lit (.int .u8 0)], .agg [.lit (.int .u8 0), .lit (.int .u8 0)], .agg [.lit (.int .u8 0), .lit (.int .u8 0)]]
/-- One of Go's own tables, pinned by name: the form's constant. -/
def laid_unicode_utf8_first : DataW Unit := Go.Pinned.utf8First
def laid_stairwell_method_tells {H : Type} : DataW H := .agg [.lit (.string [110]), .lit (.string []), .lit (.string []), .lit (.string [65, 110, 120]), .lit (.string [65]), .lit (.string [65, 110, 109, 120]), .lit (.string [65]), .lit (.string [65, 79, 112, 104, 121]), .lit (.string [65, 79, 112, 104, 121]), .lit (.string [65, 79, 112, 104, 121]), .lit (.string [65, 79, 112, 104, 121]), .lit (.string [65, 107, 104, 109, 98]), .lit (.string [110]), .lit (.string [65, 110]), .lit (.string [110]), .lit (.string [65]), .lit (.string [110, 109, 121]), .lit (.string []), .lit (.string []), .lit (.string []), .lit (.string [])]

/-- 'stairwelllaw12.ReplyBytes': WHATEVER THE INPUT: true; the input reads as it did. -/
def replyBytesSpec : ChangeSpec := { name := "replyBytes", fn := fun _ => fun
  | [d1, d2] => { results := [.lit (.bool true)], args := [d1, d2] }
  | _ => none }
def replyBytesRow : OpenClaim := { program := "ytdjkbpmciibafaagreatdoor", sum := "9353e4a449c859e2f8a28cadb205ee2ade5885b5c9af89464e2209fd9abb6600", func := "stairwell/stairwelllaw12.ReplyBytes", spec := "replyBytes", inPlace := ["internal/bytealg.CountString", "internal/bytealg.IndexByteString", "internal/bytealg.IndexString", "internal/abi.NoEscape"], unfollowed := true, recurses := true, named := ["unicode/utf8.first", "unicode/utf8.acceptRanges", "internal/bytealg.MaxLen", "stairwell/crc.laid"], apart := false, laid := [("stairwell/crc.laid", laid_stairwell_crc_laid), ("unicode/utf8.acceptRanges", laid_unicode_utf8_acceptRanges), ("unicode/utf8.first", laid_unicode_utf8_first)] }
def ReplyBytesSaid : Prop := replyBytesRow.holds Tryz.pinned (OpenSpec.ofChange replyBytesSpec)

/-- ITS FALSE NEIGHBOUR: 'it returns false'. Refute it at one input. -/
def replyBytesWrong : ChangeSpec := { name := "replyBytes", fn := fun _ => fun
  | [d1, d2] => { results := [.lit (.bool false)], args := [d1, d2] }
  | _ => none }
def ReplyBytesWrongFalsely : Prop := replyBytesRow.holds Tryz.pinned (OpenSpec.ofChange replyBytesWrong)

/-- 'stairwelllaw22.DeedBytes': WHATEVER THE INPUT: true; the input reads as it did. -/
def deedBytesSpec : ChangeSpec := { name := "deedBytes", fn := fun _ => fun
  | [d] => { results := [.lit (.bool true)], args := [d] }
  | _ => none }
def deedBytesRow : OpenClaim := { program := "ytdjkbpmciibafaagreatdoor", sum := "9353e4a449c859e2f8a28cadb205ee2ade5885b5c9af89464e2209fd9abb6600", func := "stairwell/stairwelllaw22.DeedBytes", spec := "deedBytes", inPlace := ["internal/bytealg.CountString", "internal/bytealg.IndexByteString", "internal/bytealg.IndexString", "internal/abi.NoEscape"], unfollowed := true, recurses := true, named := ["unicode/utf8.first", "unicode/utf8.acceptRanges", "internal/bytealg.MaxLen"], apart := false, laid := [("unicode/utf8.acceptRanges", laid_unicode_utf8_acceptRanges), ("unicode/utf8.first", laid_unicode_utf8_first)] }
def DeedBytesSaid : Prop := deedBytesRow.holds Tryz.pinned (OpenSpec.ofChange deedBytesSpec)

/-- ITS FALSE NEIGHBOUR: 'it returns false'. Refute it at one input. -/
def deedBytesWrong : ChangeSpec := { name := "deedBytes", fn := fun _ => fun
  | [d] => { results := [.lit (.bool false)], args := [d] }
  | _ => none }
def DeedBytesWrongFalsely : Prop := deedBytesRow.holds Tryz.pinned (OpenSpec.ofChange deedBytesWrong)

/-- 'stairwelllaw22.DeedSame': WHATEVER THE INPUT: true; the input reads as it did. -/
def deedSameSpec : ChangeSpec := { name := "deedSame", fn := fun _ => fun
  | [d1, d2] => { results := [.lit (.bool true)], args := [d1, d2] }
  | _ => none }
def deedSameRow : OpenClaim := { program := "ytdjkbpmciibafaagreatdoor", sum := "9353e4a449c859e2f8a28cadb205ee2ade5885b5c9af89464e2209fd9abb6600", func := "stairwell/stairwelllaw22.DeedSame", spec := "deedSame", inPlace := ["internal/bytealg.CountString", "internal/bytealg.IndexByteString", "internal/bytealg.IndexString", "internal/abi.NoEscape"], unfollowed := true, recurses := true, named := ["unicode/utf8.first", "unicode/utf8.acceptRanges", "internal/bytealg.MaxLen"], apart := false, laid := [("unicode/utf8.acceptRanges", laid_unicode_utf8_acceptRanges), ("unicode/utf8.first", laid_unicode_utf8_first)] }
def DeedSameSaid : Prop := deedSameRow.holds Tryz.pinned (OpenSpec.ofChange deedSameSpec)

/-- ITS FALSE NEIGHBOUR: 'it returns false'. Refute it at one input. -/
def deedSameWrong : ChangeSpec := { name := "deedSame", fn := fun _ => fun
  | [d1, d2] => { results := [.lit (.bool false)], args := [d1, d2] }
  | _ => none }
def DeedSameWrongFalsely : Prop := deedSameRow.holds Tryz.pinned (OpenSpec.ofChange deedSameWrong)

/-- 'stairwelllaw27.ChansCredit': WHATEVER THE INPUT: true; the input reads as it did. -/
def chansCreditSpec : ChangeSpec := { name := "chansCredit", fn := fun _ => fun
  | [d1, d2] => { results := [.lit (.bool true)], args := [d1, d2] }
  | _ => none }
def chansCreditRow : OpenClaim := { program := "ytdjkbpmciibafaagreatdoor", sum := "9353e4a449c859e2f8a28cadb205ee2ade5885b5c9af89464e2209fd9abb6600", func := "stairwell/stairwelllaw27.ChansCredit", spec := "chansCredit", inPlace := ["internal/bytealg.CountString", "internal/bytealg.IndexByteString", "internal/bytealg.IndexString", "internal/abi.NoEscape"], unfollowed := true, recurses := true, named := ["unicode/utf8.first", "unicode/utf8.acceptRanges", "internal/bytealg.MaxLen"], apart := false, laid := [("unicode/utf8.acceptRanges", laid_unicode_utf8_acceptRanges), ("unicode/utf8.first", laid_unicode_utf8_first)] }
def ChansCreditSaid : Prop := chansCreditRow.holds Tryz.pinned (OpenSpec.ofChange chansCreditSpec)

/-- ITS FALSE NEIGHBOUR: 'it returns false'. Refute it at one input. -/
def chansCreditWrong : ChangeSpec := { name := "chansCredit", fn := fun _ => fun
  | [d1, d2] => { results := [.lit (.bool false)], args := [d1, d2] }
  | _ => none }
def ChansCreditWrongFalsely : Prop := chansCreditRow.holds Tryz.pinned (OpenSpec.ofChange chansCreditWrong)

/-- 'stairwelllaw11.MethodReads': WHATEVER THE INPUT: true; the input reads as it did. -/
def methodReadsSpec : ChangeSpec := { name := "methodReads", fn := fun _ => fun
  | [d] => { results := [.lit (.bool true)], args := [d] }
  | _ => none }
def methodReadsRow : OpenClaim := { program := "ytdjkbpmciibafaagreatdoor", sum := "9353e4a449c859e2f8a28cadb205ee2ade5885b5c9af89464e2209fd9abb6600", func := "stairwell/stairwelllaw11.MethodReads", spec := "methodReads", inPlace := ["internal/bytealg.IndexByteString", "internal/bytealg.IndexString", "internal/bytealg.CountString", "internal/abi.NoEscape"], unfollowed := true, recurses := true, named := ["stairwell/method.tells", "unicode/utf8.first", "unicode/utf8.acceptRanges", "internal/bytealg.MaxLen", "stairwell/crc.laid"], apart := false, laid := [("stairwell/crc.laid", laid_stairwell_crc_laid), ("unicode/utf8.acceptRanges", laid_unicode_utf8_acceptRanges), ("stairwell/method.tells", laid_stairwell_method_tells), ("unicode/utf8.first", laid_unicode_utf8_first)] }
def MethodReadsSaid : Prop := methodReadsRow.holds Tryz.pinned (OpenSpec.ofChange methodReadsSpec)

/-- ITS FALSE NEIGHBOUR: 'it returns false'. Refute it at one input. -/
def methodReadsWrong : ChangeSpec := { name := "methodReads", fn := fun _ => fun
  | [d] => { results := [.lit (.bool false)], args := [d] }
  | _ => none }
def MethodReadsWrongFalsely : Prop := methodReadsRow.holds Tryz.pinned (OpenSpec.ofChange methodReadsWrong)

/-- 'stairwelllaw11.MethodFrames': WHATEVER THE INPUT: true; the input reads as it did. -/
def methodFramesSpec : ChangeSpec := { name := "methodFrames", fn := fun _ => fun
  | [d] => { results := [.lit (.bool true)], args := [d] }
  | _ => none }
def methodFramesRow : OpenClaim := { program := "ytdjkbpmciibafaagreatdoor", sum := "9353e4a449c859e2f8a28cadb205ee2ade5885b5c9af89464e2209fd9abb6600", func := "stairwell/stairwelllaw11.MethodFrames", spec := "methodFrames", inPlace := ["internal/bytealg.IndexByteString", "internal/bytealg.IndexString", "internal/bytealg.CountString", "internal/abi.NoEscape"], unfollowed := true, recurses := true, named := ["stairwell/method.tells", "unicode/utf8.first", "unicode/utf8.acceptRanges", "internal/bytealg.MaxLen", "stairwell/crc.laid"], apart := false, laid := [("stairwell/crc.laid", laid_stairwell_crc_laid), ("unicode/utf8.acceptRanges", laid_unicode_utf8_acceptRanges), ("stairwell/method.tells", laid_stairwell_method_tells), ("unicode/utf8.first", laid_unicode_utf8_first)] }
def MethodFramesSaid : Prop := methodFramesRow.holds Tryz.pinned (OpenSpec.ofChange methodFramesSpec)

/-- ITS FALSE NEIGHBOUR: 'it returns false'. Refute it at one input. -/
def methodFramesWrong : ChangeSpec := { name := "methodFrames", fn := fun _ => fun
  | [d] => { results := [.lit (.bool false)], args := [d] }
  | _ => none }
def MethodFramesWrongFalsely : Prop := methodFramesRow.holds Tryz.pinned (OpenSpec.ofChange methodFramesWrong)

/-- 'stairwelllaw26.DraftPlays': WHATEVER THE INPUT: true; the input reads as it did. -/
def draftPlaysSpec : ChangeSpec := { name := "draftPlays", fn := fun _ => fun
  | [d1, d2, d3] => { results := [.lit (.bool true)], args := [d1, d2, d3] }
  | _ => none }
def draftPlaysRow : OpenClaim := { program := "ytdjkbpmciibafaagreatdoor", sum := "9353e4a449c859e2f8a28cadb205ee2ade5885b5c9af89464e2209fd9abb6600", func := "stairwell/stairwelllaw26.DraftPlays", spec := "draftPlays", inPlace := ["internal/bytealg.CountString", "internal/bytealg.IndexByteString", "internal/bytealg.IndexString", "internal/abi.NoEscape"], unfollowed := true, recurses := true, named := ["unicode/utf8.first", "unicode/utf8.acceptRanges", "internal/bytealg.MaxLen"], apart := false, laid := [("unicode/utf8.acceptRanges", laid_unicode_utf8_acceptRanges), ("unicode/utf8.first", laid_unicode_utf8_first)] }
def DraftPlaysSaid : Prop := draftPlaysRow.holds Tryz.pinned (OpenSpec.ofChange draftPlaysSpec)

/-- ITS FALSE NEIGHBOUR: 'it returns false'. Refute it at one input. -/
def draftPlaysWrong : ChangeSpec := { name := "draftPlays", fn := fun _ => fun
  | [d1, d2, d3] => { results := [.lit (.bool false)], args := [d1, d2, d3] }
  | _ => none }
def DraftPlaysWrongFalsely : Prop := draftPlaysRow.holds Tryz.pinned (OpenSpec.ofChange draftPlaysWrong)

/-- 'stairwelllaw26.DraftParts': WHATEVER THE INPUT: true; the input reads as it did. -/
def draftPartsSpec : ChangeSpec := { name := "draftParts", fn := fun _ => fun
  | [d1, d2, d3] => { results := [.lit (.bool true)], args := [d1, d2, d3] }
  | _ => none }
def draftPartsRow : OpenClaim := { program := "ytdjkbpmciibafaagreatdoor", sum := "9353e4a449c859e2f8a28cadb205ee2ade5885b5c9af89464e2209fd9abb6600", func := "stairwell/stairwelllaw26.DraftParts", spec := "draftParts", inPlace := ["internal/bytealg.CountString", "internal/bytealg.IndexByteString", "internal/bytealg.IndexString", "internal/abi.NoEscape"], unfollowed := true, recurses := true, named := ["unicode/utf8.first", "unicode/utf8.acceptRanges", "internal/bytealg.MaxLen"], apart := false, laid := [("unicode/utf8.acceptRanges", laid_unicode_utf8_acceptRanges), ("unicode/utf8.first", laid_unicode_utf8_first)] }
def DraftPartsSaid : Prop := draftPartsRow.holds Tryz.pinned (OpenSpec.ofChange draftPartsSpec)

/-- ITS FALSE NEIGHBOUR: 'it returns false'. Refute it at one input. -/
def draftPartsWrong : ChangeSpec := { name := "draftParts", fn := fun _ => fun
  | [d1, d2, d3] => { results := [.lit (.bool false)], args := [d1, d2, d3] }
  | _ => none }
def DraftPartsWrongFalsely : Prop := draftPartsRow.holds Tryz.pinned (OpenSpec.ofChange draftPartsWrong)

/-- 'stairwelllaw26.DraftFull': WHATEVER THE INPUT: true; the input reads as it did. -/
def draftFullSpec : ChangeSpec := { name := "draftFull", fn := fun _ => fun
  | [d1, d2, d3] => { results := [.lit (.bool true)], args := [d1, d2, d3] }
  | _ => none }
def draftFullRow : OpenClaim := { program := "ytdjkbpmciibafaagreatdoor", sum := "9353e4a449c859e2f8a28cadb205ee2ade5885b5c9af89464e2209fd9abb6600", func := "stairwell/stairwelllaw26.DraftFull", spec := "draftFull", inPlace := ["internal/bytealg.CountString", "internal/bytealg.IndexByteString", "internal/bytealg.IndexString", "internal/abi.NoEscape"], unfollowed := true, recurses := true, named := ["unicode/utf8.first", "unicode/utf8.acceptRanges", "internal/bytealg.MaxLen"], apart := false, laid := [("unicode/utf8.acceptRanges", laid_unicode_utf8_acceptRanges), ("unicode/utf8.first", laid_unicode_utf8_first)] }
def DraftFullSaid : Prop := draftFullRow.holds Tryz.pinned (OpenSpec.ofChange draftFullSpec)

/-- ITS FALSE NEIGHBOUR: 'it returns false'. Refute it at one input. -/
def draftFullWrong : ChangeSpec := { name := "draftFull", fn := fun _ => fun
  | [d1, d2, d3] => { results := [.lit (.bool false)], args := [d1, d2, d3] }
  | _ => none }
def DraftFullWrongFalsely : Prop := draftFullRow.holds Tryz.pinned (OpenSpec.ofChange draftFullWrong)

/-- 'stairwelllaw22.DeedPacks': WHATEVER THE INPUT: true; the input reads as it did. -/
def deedPacksSpec : ChangeSpec := { name := "deedPacks", fn := fun _ => fun
  | [d] => { results := [.lit (.bool true)], args := [d] }
  | _ => none }
def deedPacksRow : OpenClaim := { program := "ytdjkbpmciibafaagreatdoor", sum := "9353e4a449c859e2f8a28cadb205ee2ade5885b5c9af89464e2209fd9abb6600", func := "stairwell/stairwelllaw22.DeedPacks", spec := "deedPacks", inPlace := ["internal/bytealg.CountString", "internal/bytealg.IndexByteString", "internal/bytealg.IndexString", "internal/abi.NoEscape"], unfollowed := true, recurses := true, named := ["unicode/utf8.first", "unicode/utf8.acceptRanges", "internal/bytealg.MaxLen"], apart := false, laid := [("unicode/utf8.acceptRanges", laid_unicode_utf8_acceptRanges), ("unicode/utf8.first", laid_unicode_utf8_first)] }
def DeedPacksSaid : Prop := deedPacksRow.holds Tryz.pinned (OpenSpec.ofChange deedPacksSpec)

/-- ITS FALSE NEIGHBOUR: 'it returns false'. Refute it at one input. -/
def deedPacksWrong : ChangeSpec := { name := "deedPacks", fn := fun _ => fun
  | [d] => { results := [.lit (.bool false)], args := [d] }
  | _ => none }
def DeedPacksWrongFalsely : Prop := deedPacksRow.holds Tryz.pinned (OpenSpec.ofChange deedPacksWrong)

/-- 'stairwelllaw22.DeedReads': WHATEVER THE INPUT: true; the input reads as it did. -/
def deedReadsSpec : ChangeSpec := { name := "deedReads", fn := fun _ => fun
  | [d] => { results := [.lit (.bool true)], args := [d] }
  | _ => none }
def deedReadsRow : OpenClaim := { program := "ytdjkbpmciibafaagreatdoor", sum := "9353e4a449c859e2f8a28cadb205ee2ade5885b5c9af89464e2209fd9abb6600", func := "stairwell/stairwelllaw22.DeedReads", spec := "deedReads", inPlace := ["internal/bytealg.CountString", "internal/bytealg.IndexByteString", "internal/bytealg.IndexString", "internal/abi.NoEscape"], unfollowed := true, recurses := true, named := ["unicode/utf8.first", "unicode/utf8.acceptRanges", "internal/bytealg.MaxLen"], apart := false, laid := [("unicode/utf8.acceptRanges", laid_unicode_utf8_acceptRanges), ("unicode/utf8.first", laid_unicode_utf8_first)] }
def DeedReadsSaid : Prop := deedReadsRow.holds Tryz.pinned (OpenSpec.ofChange deedReadsSpec)

/-- ITS FALSE NEIGHBOUR: 'it returns false'. Refute it at one input. -/
def deedReadsWrong : ChangeSpec := { name := "deedReads", fn := fun _ => fun
  | [d] => { results := [.lit (.bool false)], args := [d] }
  | _ => none }
def DeedReadsWrongFalsely : Prop := deedReadsRow.holds Tryz.pinned (OpenSpec.ofChange deedReadsWrong)

/-- 'stairwelllaw22.DeedShort': WHATEVER THE INPUT: true; the input reads as it did. -/
def deedShortSpec : ChangeSpec := { name := "deedShort", fn := fun _ => fun
  | [d1, d2] => { results := [.lit (.bool true)], args := [d1, d2] }
  | _ => none }
def deedShortRow : OpenClaim := { program := "ytdjkbpmciibafaagreatdoor", sum := "9353e4a449c859e2f8a28cadb205ee2ade5885b5c9af89464e2209fd9abb6600", func := "stairwell/stairwelllaw22.DeedShort", spec := "deedShort", inPlace := ["internal/bytealg.CountString", "internal/bytealg.IndexByteString", "internal/bytealg.IndexString", "internal/abi.NoEscape"], unfollowed := true, recurses := true, named := ["unicode/utf8.first", "unicode/utf8.acceptRanges", "internal/bytealg.MaxLen"], apart := false, laid := [("unicode/utf8.acceptRanges", laid_unicode_utf8_acceptRanges), ("unicode/utf8.first", laid_unicode_utf8_first)] }
def DeedShortSaid : Prop := deedShortRow.holds Tryz.pinned (OpenSpec.ofChange deedShortSpec)

/-- ITS FALSE NEIGHBOUR: 'it returns false'. Refute it at one input. -/
def deedShortWrong : ChangeSpec := { name := "deedShort", fn := fun _ => fun
  | [d1, d2] => { results := [.lit (.bool false)], args := [d1, d2] }
  | _ => none }
def DeedShortWrongFalsely : Prop := deedShortRow.holds Tryz.pinned (OpenSpec.ofChange deedShortWrong)

/-- 'stairwelllaw27.ChansOnce': WHATEVER THE INPUT: true; the input reads as it did. -/
def chansOnceSpec : ChangeSpec := { name := "chansOnce", fn := fun _ => fun
  | [d] => { results := [.lit (.bool true)], args := [d] }
  | _ => none }
def chansOnceRow : OpenClaim := { program := "ytdjkbpmciibafaagreatdoor", sum := "9353e4a449c859e2f8a28cadb205ee2ade5885b5c9af89464e2209fd9abb6600", func := "stairwell/stairwelllaw27.ChansOnce", spec := "chansOnce", inPlace := ["internal/bytealg.CountString", "internal/bytealg.IndexByteString", "internal/bytealg.IndexString", "internal/abi.NoEscape"], unfollowed := true, recurses := true, named := ["unicode/utf8.first", "unicode/utf8.acceptRanges", "internal/bytealg.MaxLen"], apart := false, laid := [("unicode/utf8.acceptRanges", laid_unicode_utf8_acceptRanges), ("unicode/utf8.first", laid_unicode_utf8_first)] }
def ChansOnceSaid : Prop := chansOnceRow.holds Tryz.pinned (OpenSpec.ofChange chansOnceSpec)

/-- ITS FALSE NEIGHBOUR: 'it returns false'. Refute it at one input. -/
def chansOnceWrong : ChangeSpec := { name := "chansOnce", fn := fun _ => fun
  | [d] => { results := [.lit (.bool false)], args := [d] }
  | _ => none }
def ChansOnceWrongFalsely : Prop := chansOnceRow.holds Tryz.pinned (OpenSpec.ofChange chansOnceWrong)

/-- 'stairwelllaw27.ChansPlay': WHATEVER THE INPUT: true; the input reads as it did. -/
def chansPlaySpec : ChangeSpec := { name := "chansPlay", fn := fun _ => fun
  | [d1, d2] => { results := [.lit (.bool true)], args := [d1, d2] }
  | _ => none }
def chansPlayRow : OpenClaim := { program := "ytdjkbpmciibafaagreatdoor", sum := "9353e4a449c859e2f8a28cadb205ee2ade5885b5c9af89464e2209fd9abb6600", func := "stairwell/stairwelllaw27.ChansPlay", spec := "chansPlay", inPlace := ["internal/bytealg.CountString", "internal/bytealg.IndexByteString", "internal/bytealg.IndexString", "internal/abi.NoEscape"], unfollowed := true, recurses := true, named := ["unicode/utf8.first", "unicode/utf8.acceptRanges", "internal/bytealg.MaxLen"], apart := false, laid := [("unicode/utf8.acceptRanges", laid_unicode_utf8_acceptRanges), ("unicode/utf8.first", laid_unicode_utf8_first)] }
def ChansPlaySaid : Prop := chansPlayRow.holds Tryz.pinned (OpenSpec.ofChange chansPlaySpec)

/-- ITS FALSE NEIGHBOUR: 'it returns false'. Refute it at one input. -/
def chansPlayWrong : ChangeSpec := { name := "chansPlay", fn := fun _ => fun
  | [d1, d2] => { results := [.lit (.bool false)], args := [d1, d2] }
  | _ => none }
def ChansPlayWrongFalsely : Prop := chansPlayRow.holds Tryz.pinned (OpenSpec.ofChange chansPlayWrong)

/- THE SECOND FORM. 'bulk': how many values and letters a reading holds, each counted each time it is reached (what is shared counts as often as it is met; a slice's spare places count too). A statement '..UptoSaid' is the law's where the arguments, and the package variables that the reading takes, are together of bulk at most 1048576: NARROWER than '..Said'. Prove '..Said' where nothing that the law and all that it calls make is longer than what came in: it says more and counts as full. Else prove '..UptoSaid'. A law counts once. -/
mutual
def uptoBulk {H : Type} : DataW H → Nat
  | .lit (.string bytes) => bytes.length + 1
  | .lit _ => 1
  | .nil => 1
  | .ptr d => uptoBulk d + 1
  | .slice elems spare => uptoBulkAll elems + uptoBulkAll spare + 1
  | .agg parts => uptoBulkAll parts + 1
  | .iface _ d => uptoBulk d + 1
  | .map entries => uptoBulkEntries entries + 1
  | .held _ => 1
def uptoBulkAll {H : Type} : List (DataW H) → Nat
  | [] => 0
  | d :: r => uptoBulk d + uptoBulkAll r
def uptoBulkEntries {H : Type} : List (Lit × DataW H) → Nat
  | [] => 0
  | x :: r => uptoBulkEntry x + uptoBulkEntries r
def uptoBulkEntry {H : Type} : Lit × DataW H → Nat
  | (.string bytes, d) => bytes.length + uptoBulk d + 1
  | (_, d) => uptoBulk d + 1
 end
def uptoSmall : (H : Type) → List (DataW H) → Bool := fun _ ds => decide (uptoBulkAll ds ≤ 1048576)
def OpenSpec.upto (s : _root_.Go.ChangeSpec) : _root_.Go.OpenSpec := { _root_.Go.OpenSpec.ofChange s with cond := some uptoSmall }

/-- 'stairwelllaw12.ReplyBytes', WHERE WHAT IT READS IS OF BULK AT MOST 1048576: true; the input reads as it did. -/
def replyBytesUptoRow : OpenClaim := { program := "ytdjkbpmciibafaagreatdoor", sum := "9353e4a449c859e2f8a28cadb205ee2ade5885b5c9af89464e2209fd9abb6600", func := "stairwell/stairwelllaw12.ReplyBytes", spec := "replyBytes", inPlace := ["internal/bytealg.CountString", "internal/bytealg.IndexByteString", "internal/bytealg.IndexString", "internal/abi.NoEscape"], unfollowed := true, recurses := true, named := ["unicode/utf8.first", "unicode/utf8.acceptRanges", "internal/bytealg.MaxLen", "stairwell/crc.laid"], apart := false, laid := [("stairwell/crc.laid", laid_stairwell_crc_laid), ("unicode/utf8.acceptRanges", laid_unicode_utf8_acceptRanges), ("unicode/utf8.first", laid_unicode_utf8_first)], narrowed := true }
def ReplyBytesUptoSaid : Prop := replyBytesUptoRow.holds Tryz.pinned (OpenSpec.upto replyBytesSpec)

/-- 'stairwelllaw22.DeedBytes', WHERE WHAT IT READS IS OF BULK AT MOST 1048576: true; the input reads as it did. -/
def deedBytesUptoRow : OpenClaim := { program := "ytdjkbpmciibafaagreatdoor", sum := "9353e4a449c859e2f8a28cadb205ee2ade5885b5c9af89464e2209fd9abb6600", func := "stairwell/stairwelllaw22.DeedBytes", spec := "deedBytes", inPlace := ["internal/bytealg.CountString", "internal/bytealg.IndexByteString", "internal/bytealg.IndexString", "internal/abi.NoEscape"], unfollowed := true, recurses := true, named := ["unicode/utf8.first", "unicode/utf8.acceptRanges", "internal/bytealg.MaxLen"], apart := false, laid := [("unicode/utf8.acceptRanges", laid_unicode_utf8_acceptRanges), ("unicode/utf8.first", laid_unicode_utf8_first)], narrowed := true }
def DeedBytesUptoSaid : Prop := deedBytesUptoRow.holds Tryz.pinned (OpenSpec.upto deedBytesSpec)

/-- 'stairwelllaw22.DeedSame', WHERE WHAT IT READS IS OF BULK AT MOST 1048576: true; the input reads as it did. -/
def deedSameUptoRow : OpenClaim := { program := "ytdjkbpmciibafaagreatdoor", sum := "9353e4a449c859e2f8a28cadb205ee2ade5885b5c9af89464e2209fd9abb6600", func := "stairwell/stairwelllaw22.DeedSame", spec := "deedSame", inPlace := ["internal/bytealg.CountString", "internal/bytealg.IndexByteString", "internal/bytealg.IndexString", "internal/abi.NoEscape"], unfollowed := true, recurses := true, named := ["unicode/utf8.first", "unicode/utf8.acceptRanges", "internal/bytealg.MaxLen"], apart := false, laid := [("unicode/utf8.acceptRanges", laid_unicode_utf8_acceptRanges), ("unicode/utf8.first", laid_unicode_utf8_first)], narrowed := true }
def DeedSameUptoSaid : Prop := deedSameUptoRow.holds Tryz.pinned (OpenSpec.upto deedSameSpec)

/-- 'stairwelllaw27.ChansCredit', WHERE WHAT IT READS IS OF BULK AT MOST 1048576: true; the input reads as it did. -/
def chansCreditUptoRow : OpenClaim := { program := "ytdjkbpmciibafaagreatdoor", sum := "9353e4a449c859e2f8a28cadb205ee2ade5885b5c9af89464e2209fd9abb6600", func := "stairwell/stairwelllaw27.ChansCredit", spec := "chansCredit", inPlace := ["internal/bytealg.CountString", "internal/bytealg.IndexByteString", "internal/bytealg.IndexString", "internal/abi.NoEscape"], unfollowed := true, recurses := true, named := ["unicode/utf8.first", "unicode/utf8.acceptRanges", "internal/bytealg.MaxLen"], apart := false, laid := [("unicode/utf8.acceptRanges", laid_unicode_utf8_acceptRanges), ("unicode/utf8.first", laid_unicode_utf8_first)], narrowed := true }
def ChansCreditUptoSaid : Prop := chansCreditUptoRow.holds Tryz.pinned (OpenSpec.upto chansCreditSpec)

/-- 'stairwelllaw11.MethodReads', WHERE WHAT IT READS IS OF BULK AT MOST 1048576: true; the input reads as it did. -/
def methodReadsUptoRow : OpenClaim := { program := "ytdjkbpmciibafaagreatdoor", sum := "9353e4a449c859e2f8a28cadb205ee2ade5885b5c9af89464e2209fd9abb6600", func := "stairwell/stairwelllaw11.MethodReads", spec := "methodReads", inPlace := ["internal/bytealg.IndexByteString", "internal/bytealg.IndexString", "internal/bytealg.CountString", "internal/abi.NoEscape"], unfollowed := true, recurses := true, named := ["stairwell/method.tells", "unicode/utf8.first", "unicode/utf8.acceptRanges", "internal/bytealg.MaxLen", "stairwell/crc.laid"], apart := false, laid := [("stairwell/crc.laid", laid_stairwell_crc_laid), ("unicode/utf8.acceptRanges", laid_unicode_utf8_acceptRanges), ("stairwell/method.tells", laid_stairwell_method_tells), ("unicode/utf8.first", laid_unicode_utf8_first)], narrowed := true }
def MethodReadsUptoSaid : Prop := methodReadsUptoRow.holds Tryz.pinned (OpenSpec.upto methodReadsSpec)

/-- 'stairwelllaw11.MethodFrames', WHERE WHAT IT READS IS OF BULK AT MOST 1048576: true; the input reads as it did. -/
def methodFramesUptoRow : OpenClaim := { program := "ytdjkbpmciibafaagreatdoor", sum := "9353e4a449c859e2f8a28cadb205ee2ade5885b5c9af89464e2209fd9abb6600", func := "stairwell/stairwelllaw11.MethodFrames", spec := "methodFrames", inPlace := ["internal/bytealg.IndexByteString", "internal/bytealg.IndexString", "internal/bytealg.CountString", "internal/abi.NoEscape"], unfollowed := true, recurses := true, named := ["stairwell/method.tells", "unicode/utf8.first", "unicode/utf8.acceptRanges", "internal/bytealg.MaxLen", "stairwell/crc.laid"], apart := false, laid := [("stairwell/crc.laid", laid_stairwell_crc_laid), ("unicode/utf8.acceptRanges", laid_unicode_utf8_acceptRanges), ("stairwell/method.tells", laid_stairwell_method_tells), ("unicode/utf8.first", laid_unicode_utf8_first)], narrowed := true }
def MethodFramesUptoSaid : Prop := methodFramesUptoRow.holds Tryz.pinned (OpenSpec.upto methodFramesSpec)

/-- 'stairwelllaw26.DraftPlays', WHERE WHAT IT READS IS OF BULK AT MOST 1048576: true; the input reads as it did. -/
def draftPlaysUptoRow : OpenClaim := { program := "ytdjkbpmciibafaagreatdoor", sum := "9353e4a449c859e2f8a28cadb205ee2ade5885b5c9af89464e2209fd9abb6600", func := "stairwell/stairwelllaw26.DraftPlays", spec := "draftPlays", inPlace := ["internal/bytealg.CountString", "internal/bytealg.IndexByteString", "internal/bytealg.IndexString", "internal/abi.NoEscape"], unfollowed := true, recurses := true, named := ["unicode/utf8.first", "unicode/utf8.acceptRanges", "internal/bytealg.MaxLen"], apart := false, laid := [("unicode/utf8.acceptRanges", laid_unicode_utf8_acceptRanges), ("unicode/utf8.first", laid_unicode_utf8_first)], narrowed := true }
def DraftPlaysUptoSaid : Prop := draftPlaysUptoRow.holds Tryz.pinned (OpenSpec.upto draftPlaysSpec)

/-- 'stairwelllaw26.DraftParts', WHERE WHAT IT READS IS OF BULK AT MOST 1048576: true; the input reads as it did. -/
def draftPartsUptoRow : OpenClaim := { program := "ytdjkbpmciibafaagreatdoor", sum := "9353e4a449c859e2f8a28cadb205ee2ade5885b5c9af89464e2209fd9abb6600", func := "stairwell/stairwelllaw26.DraftParts", spec := "draftParts", inPlace := ["internal/bytealg.CountString", "internal/bytealg.IndexByteString", "internal/bytealg.IndexString", "internal/abi.NoEscape"], unfollowed := true, recurses := true, named := ["unicode/utf8.first", "unicode/utf8.acceptRanges", "internal/bytealg.MaxLen"], apart := false, laid := [("unicode/utf8.acceptRanges", laid_unicode_utf8_acceptRanges), ("unicode/utf8.first", laid_unicode_utf8_first)], narrowed := true }
def DraftPartsUptoSaid : Prop := draftPartsUptoRow.holds Tryz.pinned (OpenSpec.upto draftPartsSpec)

/-- 'stairwelllaw26.DraftFull', WHERE WHAT IT READS IS OF BULK AT MOST 1048576: true; the input reads as it did. -/
def draftFullUptoRow : OpenClaim := { program := "ytdjkbpmciibafaagreatdoor", sum := "9353e4a449c859e2f8a28cadb205ee2ade5885b5c9af89464e2209fd9abb6600", func := "stairwell/stairwelllaw26.DraftFull", spec := "draftFull", inPlace := ["internal/bytealg.CountString", "internal/bytealg.IndexByteString", "internal/bytealg.IndexString", "internal/abi.NoEscape"], unfollowed := true, recurses := true, named := ["unicode/utf8.first", "unicode/utf8.acceptRanges", "internal/bytealg.MaxLen"], apart := false, laid := [("unicode/utf8.acceptRanges", laid_unicode_utf8_acceptRanges), ("unicode/utf8.first", laid_unicode_utf8_first)], narrowed := true }
def DraftFullUptoSaid : Prop := draftFullUptoRow.holds Tryz.pinned (OpenSpec.upto draftFullSpec)

/-- 'stairwelllaw22.DeedPacks', WHERE WHAT IT READS IS OF BULK AT MOST 1048576: true; the input reads as it did. -/
def deedPacksUptoRow : OpenClaim := { program := "ytdjkbpmciibafaagreatdoor", sum := "9353e4a449c859e2f8a28cadb205ee2ade5885b5c9af89464e2209fd9abb6600", func := "stairwell/stairwelllaw22.DeedPacks", spec := "deedPacks", inPlace := ["internal/bytealg.CountString", "internal/bytealg.IndexByteString", "internal/bytealg.IndexString", "internal/abi.NoEscape"], unfollowed := true, recurses := true, named := ["unicode/utf8.first", "unicode/utf8.acceptRanges", "internal/bytealg.MaxLen"], apart := false, laid := [("unicode/utf8.acceptRanges", laid_unicode_utf8_acceptRanges), ("unicode/utf8.first", laid_unicode_utf8_first)], narrowed := true }
def DeedPacksUptoSaid : Prop := deedPacksUptoRow.holds Tryz.pinned (OpenSpec.upto deedPacksSpec)

/-- 'stairwelllaw22.DeedReads', WHERE WHAT IT READS IS OF BULK AT MOST 1048576: true; the input reads as it did. -/
def deedReadsUptoRow : OpenClaim := { program := "ytdjkbpmciibafaagreatdoor", sum := "9353e4a449c859e2f8a28cadb205ee2ade5885b5c9af89464e2209fd9abb6600", func := "stairwell/stairwelllaw22.DeedReads", spec := "deedReads", inPlace := ["internal/bytealg.CountString", "internal/bytealg.IndexByteString", "internal/bytealg.IndexString", "internal/abi.NoEscape"], unfollowed := true, recurses := true, named := ["unicode/utf8.first", "unicode/utf8.acceptRanges", "internal/bytealg.MaxLen"], apart := false, laid := [("unicode/utf8.acceptRanges", laid_unicode_utf8_acceptRanges), ("unicode/utf8.first", laid_unicode_utf8_first)], narrowed := true }
def DeedReadsUptoSaid : Prop := deedReadsUptoRow.holds Tryz.pinned (OpenSpec.upto deedReadsSpec)

/-- 'stairwelllaw22.DeedShort', WHERE WHAT IT READS IS OF BULK AT MOST 1048576: true; the input reads as it did. -/
def deedShortUptoRow : OpenClaim := { program := "ytdjkbpmciibafaagreatdoor", sum := "9353e4a449c859e2f8a28cadb205ee2ade5885b5c9af89464e2209fd9abb6600", func := "stairwell/stairwelllaw22.DeedShort", spec := "deedShort", inPlace := ["internal/bytealg.CountString", "internal/bytealg.IndexByteString", "internal/bytealg.IndexString", "internal/abi.NoEscape"], unfollowed := true, recurses := true, named := ["unicode/utf8.first", "unicode/utf8.acceptRanges", "internal/bytealg.MaxLen"], apart := false, laid := [("unicode/utf8.acceptRanges", laid_unicode_utf8_acceptRanges), ("unicode/utf8.first", laid_unicode_utf8_first)], narrowed := true }
def DeedShortUptoSaid : Prop := deedShortUptoRow.holds Tryz.pinned (OpenSpec.upto deedShortSpec)

/-- 'stairwelllaw27.ChansOnce', WHERE WHAT IT READS IS OF BULK AT MOST 1048576: true; the input reads as it did. -/
def chansOnceUptoRow : OpenClaim := { program := "ytdjkbpmciibafaagreatdoor", sum := "9353e4a449c859e2f8a28cadb205ee2ade5885b5c9af89464e2209fd9abb6600", func := "stairwell/stairwelllaw27.ChansOnce", spec := "chansOnce", inPlace := ["internal/bytealg.CountString", "internal/bytealg.IndexByteString", "internal/bytealg.IndexString", "internal/abi.NoEscape"], unfollowed := true, recurses := true, named := ["unicode/utf8.first", "unicode/utf8.acceptRanges", "internal/bytealg.MaxLen"], apart := false, laid := [("unicode/utf8.acceptRanges", laid_unicode_utf8_acceptRanges), ("unicode/utf8.first", laid_unicode_utf8_first)], narrowed := true }
def ChansOnceUptoSaid : Prop := chansOnceUptoRow.holds Tryz.pinned (OpenSpec.upto chansOnceSpec)

/-- 'stairwelllaw27.ChansPlay', WHERE WHAT IT READS IS OF BULK AT MOST 1048576: true; the input reads as it did. -/
def chansPlayUptoRow : OpenClaim := { program := "ytdjkbpmciibafaagreatdoor", sum := "9353e4a449c859e2f8a28cadb205ee2ade5885b5c9af89464e2209fd9abb6600", func := "stairwell/stairwelllaw27.ChansPlay", spec := "chansPlay", inPlace := ["internal/bytealg.CountString", "internal/bytealg.IndexByteString", "internal/bytealg.IndexString", "internal/abi.NoEscape"], unfollowed := true, recurses := true, named := ["unicode/utf8.first", "unicode/utf8.acceptRanges", "internal/bytealg.MaxLen"], apart := false, laid := [("unicode/utf8.acceptRanges", laid_unicode_utf8_acceptRanges), ("unicode/utf8.first", laid_unicode_utf8_first)], narrowed := true }
def ChansPlayUptoSaid : Prop := chansPlayUptoRow.holds Tryz.pinned (OpenSpec.upto chansPlaySpec)

end Rows
end Go.Proofs.YtdjkbpmciibafaaGreatDoor
