/-
  A part of the proof of VaultAgain: what a function leads to.
-/
import Derived.Test.YtfojlhfchpkhlaaGreatDoorVaultAgainP16
set_option maxRecDepth 100000
set_option maxHeartbeats 4000000
namespace Go.Proofs.YtfojlhfchpkhlaaGreatDoor.vaultAgain
open Go.ChangeShapes Go.WideShapes Go.ChangeAt Go.RowKit Go.SW Go.Proofs
def cl:List Nat:=[4,5,10,9,28,62,63,64,71,133,209,134,135,139,215,72,79,75,112,200,255,115,82,151,224,114,136,210,144,29,65,13,33,34,35,30,66,137,211,212,266,163,86,162,227,273,272,138,213,218,90,164,228,274,291,305,316,335,336,347,317,337,318,338,348,358,349,350,351,359,89,267,278,293,225,95,176,246,284,154,166,230,229,91,165,167,231,104,185,214,141,217,216,239,280,235,156,77,76,240,80,155,157,158,159,140,143,142,14,36,84,83,160,226,256,161,87,88,85,37,92,93,169,168,38,94,170,171,198,232,275,276,233,277,292,97,172,173,234,241,282,281,242,247,179,244,283,236,107,190,189,174,103,184,183,237,44,45,106,188,175,238,279,294,96,39,98,177,186,250,243,40,99,178,245,100,41,101,180,248,42,102,181,249,182,43,105,187,46,108,191,192,251,109,194,193,195,110,196,120,202,252,197,253,111,199,254,153,17,50,118,119,32,73,152,74,78,81,67,145,48,113,201,31,68,146,69,70,147,219,268,269,220,270,221,271,290,222,148,149,150,19,54,223,11,15,47,49,116,117,18,53,20,12,21,55,22,56,126,206,257,258,127,207,259,285,260,128,23,57,129,208,261,262,286,295,306,319,320,307,321,339,352,360,362,363,361,364,368,365,366,370,371,372,373,374,378,377,379,375,376,380,381,382,383,369,367,322,323,330,344,324,308,326,340,341,353,354,355,327,328,342,356,357,325,329,343,296,309,303,315,297,310,263,287,298,311,300,313,332,345,299,312,331,264,288,301,314,333,346,334,265,289,302,304,130,6,24,26,25,58,131,59,132,7,27,60,61,8,16,51,121,122,123,203,204,124,205,52,125]
theorem clo:Tryz.pinned.checked.prog.closure 4=cl:=(Go.SW.clo_bits _ _).trans (by as_aux_lemma=>kernel_rfl)
theorem qPlace:(Rows.vaultAgainRow.inPlace==Tryz.pinned.checked.prog.inPlace 4)=true:=by
 unfold Program.inPlace
 rw[clo]
 as_aux_lemma=>kernel_rfl
theorem qUnf:(Rows.vaultAgainRow.unfollowed==Tryz.pinned.checked.prog.unfollowed 4)=true:=by
 unfold Program.unfollowed
 rw[clo]
 as_aux_lemma=>kernel_rfl
theorem qRec:(Rows.vaultAgainRow.recurses==Tryz.pinned.checked.prog.recurses 4)=true:=by
 unfold Program.recurses Program.unfollowed
 rw[clo]
 as_aux_lemma=>kernel_rfl
end Go.Proofs.YtfojlhfchpkhlaaGreatDoor.vaultAgain
