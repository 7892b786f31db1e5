/-
  A part of the proof of PurgeComes: The ties of one row: the listed variables hold what the text of the program lays; each closed fact by itself.
-/
import Derived.Test.YtlemlalknchmcaaGreatDoorRows
import Derived.LaidByTextLater
import Derived.SevenTiedAt
import Derived.KernelRfl
import Derived.Test.YtlemlalknchmcaaGreatDoorPurgeComesP1
set_option linter.unusedVariables false
set_option linter.unusedSimpArgs false
set_option maxRecDepth 100000
set_option maxHeartbeats 4000000
open Go.Proofs.Tryz
namespace Go.Proofs.YtlemlalknchmcaaGreatDoor
open Go
theorem pin_laid_unicode_utf8_first:Tryz.pinned.checked.prog.pinnedFits "unicode/utf8.first" = true:=by as_aux_lemma=>kernel_rfl
theorem noOwnUnsafe:Tryz.pinned.checked.prog.headLifts.contains "ownunsafe" = false:=by as_aux_lemma=>kernel_rfl
theorem fits1:Tryz.pinned.checked.prog.listedFits [("stairwell/crc.laid",Rows.laid_stairwell_crc_laid),("unicode/utf8.first",Rows.laid_unicode_utf8_first),("unicode/utf8.acceptRanges",Rows.laid_unicode_utf8_acceptRanges),("stairwell/method.tells",Rows.laid_stairwell_method_tells),("strconv.ErrSyntax",Rows.laid_strconv_ErrSyntax),("strconv.ErrRange",Rows.laid_strconv_ErrRange),("internal/strconv.uint64pow10",Rows.laid_internal_strconv_uint64pow10),("math/bits.deBruijn32tab",Rows.laid_math_bits_deBruijn32tab),("math/bits.deBruijn64tab",Rows.laid_math_bits_deBruijn64tab)]=true:=by
 unfold Program.listedFits;rw[noOwnUnsafe]
 as_aux_lemma=>kernel_rfl
theorem tie:prog.laidByTextLater [("stairwell/crc.laid",Rows.laid_stairwell_crc_laid),("unicode/utf8.acceptRanges",Rows.laid_unicode_utf8_acceptRanges),("stairwell/method.tells",Rows.laid_stairwell_method_tells),("strconv.ErrSyntax",Rows.laid_strconv_ErrSyntax),("strconv.ErrRange",Rows.laid_strconv_ErrRange),("internal/strconv.uint64pow10",Rows.laid_internal_strconv_uint64pow10),("math/bits.deBruijn32tab",Rows.laid_math_bits_deBruijn32tab),("math/bits.deBruijn64tab",Rows.laid_math_bits_deBruijn64tab)] [.data, .data, .data, .sentinel, .sentinel, .data, .data, .data] true:=
 Program.laidByTextLater_by_run 400 8 wC wC wC wC wC wC (λ_ _=>by as_aux_lemma=>kernel_rfl) (λ_ _=>by as_aux_lemma=>kernel_rfl) (λ_ _=>by as_aux_lemma=>kernel_rfl)
theorem purgeComes_row_tie:Rows.purgeComesRow.laidByTextAt .later Tryz.pinned [.data, .pinned, .data, .data, .sentinel, .sentinel, .data, .data, .data] true:=
 OpenClaim.laidByTextAt_pinned Y Y tie Y Y Y Y (λy hy _e=>by
   simp only[Rows.purgeComesRow,List.zip_cons_cons,List.zip_nil_right,List.mem_cons,List.mem_nil_iff,or_false] at hy
   rcases hy with rfl|rfl|rfl|rfl|rfl|rfl|rfl|rfl|rfl
   . cases _e
   . exact⟨pin_laid_unicode_utf8_first,by as_aux_lemma=>kernel_rfl⟩
   . cases _e
   . cases _e
   . cases _e
   . cases _e
   . cases _e
   . cases _e
   . cases _e) fits1
end Go.Proofs.YtlemlalknchmcaaGreatDoor
