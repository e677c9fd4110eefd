/- Part of the proof that TreeKids answers true. -/
import Derived.Test.YtbehemdcaiigeaaGreatDoorR18
set_option linter.unusedVariables false
set_option linter.unusedSimpArgs false
set_option maxRecDepth 100000
set_option maxHeartbeats 4000000
namespace Go.Proofs.YtbehemdcaiigeaaGreatDoor
open Go
theorem aeq:Tryz.pinned.checked.prog.pinnedFits "unicode/utf8.first"=true:=by kernel_rfl
theorem aep:Tryz.pinned.checked.prog.pinnedFits "internal/strconv.pow10Tab"=true:=by kernel_rfl
theorem aeo:Tryz.pinned.checked.prog.pinnedFits "internal/strconv.leftcheats"=true:=by kernel_rfl
end Go.Proofs.YtbehemdcaiigeaaGreatDoor
