/-
  A part of the proof of ImageBytes: a world for the witness.
-/
import Derived.Test.YtepfohngkcjemaaGreatDoorImageBytesP13
set_option maxRecDepth 100000
set_option maxHeartbeats 4000000
namespace Go.Proofs.YtepfohngkcjemaaGreatDoor.imageBytes
open Go.ChangeShapes Go.WideShapes Go.ChangeAt Go.RowKit Go.SW Go.Proofs
theorem qHrd:Tryz.pinned.checked.prog.stopsHeard=true:=by as_aux_lemma=>kernel_rfl
/-- A world for the witness: the settled one, the listed variables holding what their initialisers lay. -/
theorem laid_met (os:Os):laidMet Tryz.prog Rows.imageBytesRow.laid ((laidWE Tryz.prog os 525 527 [(6,Rows.laid_math_bits_deBruijn32tab),(7,Rows.laid_math_bits_deBruijn64tab),(5,Rows.laid_internal_strconv_uint64pow10),(2,Rows.laid_unicode_utf8_acceptRanges),(1,Rows.laid_unicode_utf8_first)] [(4,Rows.laid_strconv_ErrRange),(3,Rows.laid_strconv_ErrSyntax)]).forCall (λ_ _=>0) ⟨#[],#[.agg #[.int .i64 0, .int .i64 0, .slice none 0 0, .slice none 0 0, .slice none 0 0], .int .u8 0, .slice none 0 0],[]⟩).memory:=
 laidMet_of_run' 8 (by kernel_rfl) (by kernel_rfl)
theorem closed:joinedFacts Tryz.pinned.checked.prog 3 Tryz.f3 (OpenSpec.ofChange Rows.imageBytesSpec).bare Rows.imageBytesRow=true:=by
 unfold joinedFacts
 simp only[Bool.and_eq_true]
 repeat' (refine And.intro ?_ ?_)
 all_goals first|with_reducible exact laidOutP|with_reducible exact qPlace|with_reducible exact qUnf|with_reducible exact qRec|with_reducible exact qNam|with_reducible exact qMap|with_reducible exact qKey|with_reducible exact qEnt|with_reducible exact qHrd|(as_aux_lemma=>kernel_rfl)
end Go.Proofs.YtepfohngkcjemaaGreatDoor.imageBytes
