/- Part of the proof that TreeKids answers true. -/
import Derived.Test.YtbehemdcaiigeaaGreatDoorR18
set_option linter.unusedVariables false
set_option linter.unusedSimpArgs false
set_option maxRecDepth 100000
set_option maxHeartbeats 4000000
namespace Go.Proofs.YtbehemdcaiigeaaGreatDoor
open Go
theorem adA:Tryz.pinned.checked.prog.headLifts.contains "ownunsafe"=false:=by kernel_rfl
theorem X6:Tryz.pinned.checked.prog.listedFits [("unicode/utf8.first",Rows.laid_unicode_utf8_first),("unicode/utf8.acceptRanges",Rows.laid_unicode_utf8_acceptRanges),("strings.asciiSpace",Rows.laid_strings_asciiSpace),("unicode.White_Space",Rows.laid_unicode_White_Space),("internal/strconv.optimize",Rows.laid_internal_strconv_optimize),("internal/strconv.pow10Tab",Rows.laid_internal_strconv_pow10Tab),("internal/strconv.powtab",Rows.laid_internal_strconv_powtab),("internal/strconv.leftcheats",Rows.laid_internal_strconv_leftcheats),("strconv.ErrSyntax",Rows.laid_strconv_ErrSyntax),("strconv.ErrRange",Rows.laid_strconv_ErrRange),("internal/strconv.uint64pow10",Rows.laid_internal_strconv_uint64pow10),("math/bits.deBruijn32tab",Rows.laid_math_bits_deBruijn32tab),("math/bits.deBruijn64tab",Rows.laid_math_bits_deBruijn64tab),("soundings/span.units",Rows.laid_soundings_span_units),("errors.errorType",Rows.laid_errors_errorType)]=true:=by
 unfold Program.listedFits
 rw [adA]
 kernel_rfl
end Go.Proofs.YtbehemdcaiigeaaGreatDoor
