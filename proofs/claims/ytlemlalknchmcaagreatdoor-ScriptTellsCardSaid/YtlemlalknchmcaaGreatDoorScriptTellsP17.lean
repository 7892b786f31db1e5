/-
  A part of the proof of ScriptTells: a closed fact of the tie.
-/
import Derived.Test.YtlemlalknchmcaaGreatDoorRows
import Derived.LaidByTextLater
import Derived.SevenTiedAt
import Derived.KernelRfl
import Derived.Test.YtlemlalknchmcaaGreatDoorScriptTellsP14
set_option linter.unusedVariables false
set_option linter.unusedSimpArgs false
set_option maxRecDepth 100000
set_option maxHeartbeats 4000000
open Go.Proofs.Tryz
namespace Go.Proofs.YtlemlalknchmcaaGreatDoor
open Go
def tieL:List (String×DataW Unit):=[("unicode/utf8.acceptRanges",Rows.laid_unicode_utf8_acceptRanges),("strconv.ErrSyntax",Rows.laid_strconv_ErrSyntax),("strconv.ErrRange",Rows.laid_strconv_ErrRange),("internal/strconv.uint64pow10",Rows.laid_internal_strconv_uint64pow10),("math/bits.deBruijn32tab",Rows.laid_math_bits_deBruijn32tab),("math/bits.deBruijn64tab",Rows.laid_math_bits_deBruijn64tab),("strings.asciiSpace",Rows.laid_strings_asciiSpace),("unicode.White_Space",Rows.laid_unicode_White_Space),("stairwell/method.tells",Rows.laid_stairwell_method_tells),("stairwell/crc.laid",Rows.laid_stairwell_crc_laid)]
theorem tieA:∀ os tape,(DataW.laidRun prog (varsWorld prog 400 (varsId prog) os tape).memory 8 (tieL.map (·.1))).map (·.1)=some tieL:=λ_ _=>by as_aux_lemma=>kernel_rfl
end Go.Proofs.YtlemlalknchmcaaGreatDoor
