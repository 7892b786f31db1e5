/-
  A part of the proof of ScriptTells: The ties of one row: the listed variables hold what the text of the program lays; each closed fact by itself.
-/
import Derived.Test.YtlemlalknchmcaaGreatDoorRows
import Derived.LaidByTextLater
import Derived.SevenTiedAt
import Derived.KernelRfl
import Derived.Test.YtlemlalknchmcaaGreatDoorScriptTellsP14
import Derived.Test.YtlemlalknchmcaaGreatDoorScriptTellsP17
import Derived.Test.YtlemlalknchmcaaGreatDoorScriptTellsP18
set_option linter.unusedVariables false
set_option linter.unusedSimpArgs false
set_option maxRecDepth 100000
set_option maxHeartbeats 4000000
open Go.Proofs.Tryz
namespace Go.Proofs.YtlemlalknchmcaaGreatDoor
open Go
theorem pin_laid_unicode_utf8_first:Tryz.pinned.checked.prog.pinnedFits "unicode/utf8.first" = true:=by as_aux_lemma=>kernel_rfl
theorem noOwnUnsafe:Tryz.pinned.checked.prog.headLifts.contains "ownunsafe" = false:=by as_aux_lemma=>kernel_rfl
theorem fits2:Tryz.pinned.checked.prog.listedFits [("unicode/utf8.first",Rows.laid_unicode_utf8_first),("unicode/utf8.acceptRanges",Rows.laid_unicode_utf8_acceptRanges),("strconv.ErrSyntax",Rows.laid_strconv_ErrSyntax),("strconv.ErrRange",Rows.laid_strconv_ErrRange),("internal/strconv.uint64pow10",Rows.laid_internal_strconv_uint64pow10),("math/bits.deBruijn32tab",Rows.laid_math_bits_deBruijn32tab),("math/bits.deBruijn64tab",Rows.laid_math_bits_deBruijn64tab),("strings.asciiSpace",Rows.laid_strings_asciiSpace),("unicode.White_Space",Rows.laid_unicode_White_Space),("stairwell/method.tells",Rows.laid_stairwell_method_tells),("stairwell/crc.laid",Rows.laid_stairwell_crc_laid)]=true:=by
 unfold Program.listedFits;rw[noOwnUnsafe]
 as_aux_lemma=>kernel_rfl
theorem tieB:∀ os tape,(DataW.laidRun prog (varsWorld prog 400 (varsId prog) os tape).memory 8 (tieL.map (·.1))).map (λx=>decide x.2.Nodup&&laidRowsB prog (varsWorld prog 400 (varsId prog) os tape).memory x.2)=some true:=λos tape=>Go.SW.tieM (f:=laidRowsB prog (varsWorld prog 400 (varsId prog) os tape).memory) (tieN os tape)
theorem tie2:prog.laidByTextLater [("unicode/utf8.acceptRanges",Rows.laid_unicode_utf8_acceptRanges),("strconv.ErrSyntax",Rows.laid_strconv_ErrSyntax),("strconv.ErrRange",Rows.laid_strconv_ErrRange),("internal/strconv.uint64pow10",Rows.laid_internal_strconv_uint64pow10),("math/bits.deBruijn32tab",Rows.laid_math_bits_deBruijn32tab),("math/bits.deBruijn64tab",Rows.laid_math_bits_deBruijn64tab),("strings.asciiSpace",Rows.laid_strings_asciiSpace),("unicode.White_Space",Rows.laid_unicode_White_Space),("stairwell/method.tells",Rows.laid_stairwell_method_tells),("stairwell/crc.laid",Rows.laid_stairwell_crc_laid)] [.data, .sentinel, .sentinel, .data, .data, .data, .data, .listed, .data, .data] true:=
 Program.laidByTextLater_by_run 400 8 wD wD wD wD wD wD (λ_ _=>by as_aux_lemma=>kernel_rfl) tieA tieB
theorem scriptTells_row_tie:Rows.scriptTellsRow.laidByTextAt .later Tryz.pinned [.pinned, .data, .sentinel, .sentinel, .data, .data, .data, .data, .listed, .data, .data] true:=
 OpenClaim.laidByTextAt_pinned Y Y tie2 Y Y Y Y (λy hy _e=>by
   simp only[Rows.scriptTellsRow,List.zip_cons_cons,List.zip_nil_right,List.mem_cons,List.mem_nil_iff,or_false] at hy
   rcases hy with rfl|rfl|rfl|rfl|rfl|rfl|rfl|rfl|rfl|rfl|rfl
   . exact⟨pin_laid_unicode_utf8_first,by as_aux_lemma=>kernel_rfl⟩
   . cases _e
   . cases _e
   . cases _e
   . cases _e
   . cases _e
   . cases _e
   . cases _e
   . cases _e
   . cases _e
   . cases _e) fits2
end Go.Proofs.YtlemlalknchmcaaGreatDoor
