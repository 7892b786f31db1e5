/-
  A part of the proof of ImageBytes: The ties of one row: the listed variables hold what the text of the program lays; each closed fact by itself.
-/
import Derived.Test.YtepfohngkcjemaaGreatDoorRows
import Derived.SevenTiedAt
import Derived.LaidSub
import Derived.LaidOnce
import Derived.Test.YtepfohngkcjemaaGreatDoorImageBytesP7
set_option maxRecDepth 100000
set_option maxHeartbeats 4000000
open Go.Proofs.Tryz
namespace Go.Proofs.YtepfohngkcjemaaGreatDoor
open Go
theorem seatTie1:prog.laidByTextLater [("math/bits.deBruijn32tab",Rows.laid_math_bits_deBruijn32tab),("math/bits.deBruijn64tab",Rows.laid_math_bits_deBruijn64tab),("internal/strconv.uint64pow10",Rows.laid_internal_strconv_uint64pow10),("unicode/utf8.acceptRanges",Rows.laid_unicode_utf8_acceptRanges),("strconv.ErrRange",Rows.laid_strconv_ErrRange),("strconv.ErrSyntax",Rows.laid_strconv_ErrSyntax)] [.data, .data, .data, .data, .sentinel, .sentinel] true:=
 Program.laidByTextLater_by_one 72 8 65 pV pV pV pV pV pV (λ_ _=>by as_aux_lemma=>kernel_rfl)
theorem pin_laid_unicode_utf8_first:Tryz.pinned.checked.prog.pinnedFits "unicode/utf8.first" = true:=by as_aux_lemma=>kernel_rfl
theorem noOwnUnsafe:Tryz.pinned.checked.prog.headLifts.contains "ownunsafe" = false:=by as_aux_lemma=>kernel_rfl
theorem fits1:Tryz.pinned.checked.prog.listedFits [("math/bits.deBruijn32tab",Rows.laid_math_bits_deBruijn32tab),("math/bits.deBruijn64tab",Rows.laid_math_bits_deBruijn64tab),("internal/strconv.uint64pow10",Rows.laid_internal_strconv_uint64pow10),("unicode/utf8.acceptRanges",Rows.laid_unicode_utf8_acceptRanges),("strconv.ErrRange",Rows.laid_strconv_ErrRange),("strconv.ErrSyntax",Rows.laid_strconv_ErrSyntax),("unicode/utf8.first",Rows.laid_unicode_utf8_first)]=true:=by
 unfold Program.listedFits;rw[noOwnUnsafe]
 as_aux_lemma=>kernel_rfl
theorem tie:prog.laidByTextLater [("math/bits.deBruijn32tab",Rows.laid_math_bits_deBruijn32tab),("math/bits.deBruijn64tab",Rows.laid_math_bits_deBruijn64tab),("internal/strconv.uint64pow10",Rows.laid_internal_strconv_uint64pow10),("unicode/utf8.acceptRanges",Rows.laid_unicode_utf8_acceptRanges),("strconv.ErrRange",Rows.laid_strconv_ErrRange),("strconv.ErrSyntax",Rows.laid_strconv_ErrSyntax)] [.data, .data, .data, .data, .sentinel, .sentinel] true:=
 Program.laidByTextLater.sub seatTie1 ["math/bits.deBruijn32tab", "math/bits.deBruijn64tab", "internal/strconv.uint64pow10", "unicode/utf8.acceptRanges", "strconv.ErrRange", "strconv.ErrSyntax"] pV pV
theorem imageBytes_row_tie:Rows.imageBytesRow.laidByTextAt .later Tryz.pinned [.data, .data, .data, .data, .sentinel, .sentinel, .pinned] true:=
 OpenClaim.laidByTextAt_pinned Y Y tie Y Y Y Y (λy hy _e=>by
   simp only[Rows.imageBytesRow,List.zip_cons_cons,List.zip_nil_right,List.mem_cons,List.mem_nil_iff,or_false] at hy
   rcases hy with rfl|rfl|rfl|rfl|rfl|rfl|rfl
   . cases _e
   . cases _e
   . cases _e
   . cases _e
   . cases _e
   . cases _e
   . exact⟨pin_laid_unicode_utf8_first,by as_aux_lemma=>kernel_rfl⟩) fits1
end Go.Proofs.YtepfohngkcjemaaGreatDoor
