/- Part of the proof that TreeKids answers true. -/
import Derived.Test.YtbehemdcaiigeaaGreatDoorR18
set_option linter.unusedVariables false
set_option linter.unusedSimpArgs false
set_option maxRecDepth 100000
set_option maxHeartbeats 4000000
namespace Go.Proofs.YtbehemdcaiigeaaGreatDoor
open Go
theorem ahB:varsNamedLaterB Tryz.prog (varsId Tryz.prog) Cn=true:=by kernel_rfl
end Go.Proofs.YtbehemdcaiigeaaGreatDoor
