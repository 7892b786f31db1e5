/-
  A part of the proof of ScriptTells: a world for the witness.
-/
import Derived.Test.YtlemlalknchmcaaGreatDoorScriptTellsP14
import Derived.Test.YtlemlalknchmcaaGreatDoorScriptTellsP2
import Derived.Test.YtlemlalknchmcaaGreatDoorCards
import Derived.Test.YtlemlalknchmcaaGreatDoorScriptTellsP15
import Derived.Deep.DeepHandedRow
import Derived.Deep.DeepWitnessRowRef
import Derived.Stop.LaidErr
import Derived.Test.YtlemlalknchmcaaGreatDoorScriptTellsP16
import Derived.KernelRfl
import Derived.Test.YtlemlalknchmcaaGreatDoorScriptTellsP19
import Derived.Test.YtlemlalknchmcaaGreatDoorScriptTellsP20
import Derived.Test.YtlemlalknchmcaaGreatDoorScriptTellsP21
import Derived.Test.YtlemlalknchmcaaGreatDoorScriptTellsP22
import Derived.Test.YtlemlalknchmcaaGreatDoorScriptTellsP23
import Derived.Test.YtlemlalknchmcaaGreatDoorScriptTellsP24
import Derived.Test.YtlemlalknchmcaaGreatDoorScriptTellsP25
import Derived.Test.YtlemlalknchmcaaGreatDoorScriptTellsP26
set_option linter.unusedVariables false
set_option linter.unusedSimpArgs false
set_option maxRecDepth 100000
set_option maxHeartbeats 4000000
namespace Go.Proofs.YtlemlalknchmcaaGreatDoor.scriptTells
open Go.ChangeShapes Go.WideShapes Go.ChangeAt Go.RowKit Go.SW Go.Proofs
/-- A world for the witness: the settled one, the listed variables holding what their initialisers lay. -/
theorem O7_ (os:Os):laidMet Tryz.prog Rows.scriptTellsRow.laid ((laidWR Tryz.prog os 544 546 [(10,Rows.laid_unicode_utf8_first),(11,Rows.laid_unicode_utf8_acceptRanges),(1,Rows.laid_internal_strconv_uint64pow10),(5,Rows.laid_math_bits_deBruijn32tab),(6,Rows.laid_math_bits_deBruijn64tab),(0,Rows.laid_strings_asciiSpace),(3,Rows.laid_stairwell_method_tells),(7,Rows.laid_stairwell_crc_laid)] [(8,Rows.laid_strconv_ErrSyntax),(9,Rows.laid_strconv_ErrRange)] 2 315 318 7 [.int .u16 9, .int .u16 13, .int .u16 1, .int .u16 32, .int .u16 133, .int .u16 101, .int .u16 160, .int .u16 5760, .int .u16 5600, .int .u16 8192, .int .u16 8202, .int .u16 1, .int .u16 8232, .int .u16 8233, .int .u16 1, .int .u16 8239, .int .u16 8287, .int .u16 48, .int .u16 12288, .int .u16 12288, .int .u16 1] 2).forCall (λ_ _=>0) ⟨#[],#[.int .u64 0, .agg #[.int .u8 0, .int .u8 0, .int .u64 0, .int .u64 0, .bool false, .string ⟨#[]⟩, .int .u64 0, .string ⟨#[]⟩, .string ⟨#[]⟩, .slice none 0 0, .string ⟨#[]⟩, .int .u64 0, .int .u8 0]],[]⟩).memory:=
 laidMet_of_run' 8 (by kernel_rfl) (tieM (f:=laidRowsB Tryz.prog ((laidWR Tryz.prog os 544 546 [(10,Rows.laid_unicode_utf8_first),(11,Rows.laid_unicode_utf8_acceptRanges),(1,Rows.laid_internal_strconv_uint64pow10),(5,Rows.laid_math_bits_deBruijn32tab),(6,Rows.laid_math_bits_deBruijn64tab),(0,Rows.laid_strings_asciiSpace),(3,Rows.laid_stairwell_method_tells),(7,Rows.laid_stairwell_crc_laid)] [(8,Rows.laid_strconv_ErrSyntax),(9,Rows.laid_strconv_ErrRange)] 2 315 318 7 [.int .u16 9, .int .u16 13, .int .u16 1, .int .u16 32, .int .u16 133, .int .u16 101, .int .u16 160, .int .u16 5760, .int .u16 5600, .int .u16 8192, .int .u16 8202, .int .u16 1, .int .u16 8232, .int .u16 8233, .int .u16 1, .int .u16 8239, .int .u16 8287, .int .u16 48, .int .u16 12288, .int .u16 12288, .int .u16 1] 2).forCall (λ_ _=>0) ⟨#[],#[.int .u64 0, .agg #[.int .u8 0, .int .u8 0, .int .u64 0, .int .u64 0, .bool false, .string ⟨#[]⟩, .int .u64 0, .string ⟨#[]⟩, .string ⟨#[]⟩, .slice none 0 0, .string ⟨#[]⟩, .int .u64 0, .int .u8 0]],[]⟩).memory) (by kernel_rfl))
end Go.Proofs.YtlemlalknchmcaaGreatDoor.scriptTells
