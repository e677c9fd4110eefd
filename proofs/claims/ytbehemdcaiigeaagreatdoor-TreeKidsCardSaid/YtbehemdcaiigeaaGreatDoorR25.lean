/- Part of the proof that TreeKids answers true. -/
import Derived.Test.YtbehemdcaiigeaaGreatDoorR19
import Derived.Test.YtbehemdcaiigeaaGreatDoorR20
import Derived.Test.YtbehemdcaiigeaaGreatDoorR21
import Derived.Test.YtbehemdcaiigeaaGreatDoorR22
import Derived.Test.YtbehemdcaiigeaaGreatDoorR23
import Derived.Test.YtbehemdcaiigeaaGreatDoorR24
set_option linter.unusedVariables false
set_option linter.unusedSimpArgs false
set_option maxRecDepth 100000
set_option maxHeartbeats 4000000
namespace Go.Proofs.YtbehemdcaiigeaaGreatDoor
open Go
theorem tie:Tryz.prog.laidByTextLater [("unicode/utf8.acceptRanges",Rows.laid_unicode_utf8_acceptRanges),("strings.asciiSpace",Rows.laid_strings_asciiSpace),("unicode.White_Space",Rows.laid_unicode_White_Space),("internal/strconv.optimize",Rows.laid_internal_strconv_optimize),("internal/strconv.powtab",Rows.laid_internal_strconv_powtab),("strconv.ErrSyntax",Rows.laid_strconv_ErrSyntax),("strconv.ErrRange",Rows.laid_strconv_ErrRange),("internal/strconv.uint64pow10",Rows.laid_internal_strconv_uint64pow10),("math/bits.deBruijn32tab",Rows.laid_math_bits_deBruijn32tab),("math/bits.deBruijn64tab",Rows.laid_math_bits_deBruijn64tab),("soundings/span.units",Rows.laid_soundings_span_units),("errors.errorType",Rows.laid_errors_errorType)] [.data,.data,.listed,.data,.data,.sentinel,.sentinel,.data,.data,.data,.data,.handle] true:=
 Program.laidByTextLater_by_one 400 8 257 ahC ahD ahE ahA ahz ahB ahF
theorem ahN:Rows.treeKidsRow.laidByTextAt .later Tryz.pinned [.pinned,.data,.data,.listed,.data,.pinned,.data,.pinned,.sentinel,.sentinel,.data,.data,.data,.data,.handle] true:=
 OpenClaim.laidByTextAt_pinned rfl rfl tie rfl rfl rfl rfl (fun y hy qz=>by
  simp only [Rows.treeKidsRow,List.zip_cons_cons,List.zip_nil_right,List.mem_cons,List.mem_nil_iff,or_false] at hy
  rcases hy with rfl |rfl |rfl |rfl |rfl |rfl |rfl |rfl |rfl |rfl |rfl |rfl |rfl |rfl |rfl
  ·exact ⟨aeq,by kernel_rfl⟩
  ·cases qz
  ·cases qz
  ·cases qz
  ·cases qz
  ·exact ⟨aep,by kernel_rfl⟩
  ·cases qz
  ·exact ⟨aeo,by kernel_rfl⟩
  ·cases qz
  ·cases qz
  ·cases qz
  ·cases qz
  ·cases qz
  ·cases qz
  ·cases qz) X6
end Go.Proofs.YtbehemdcaiigeaaGreatDoor
