/- Part of the proof that TreeKids answers true. -/
import Derived.Test.YtbehemdcaiigeaaGreatDoorR18
set_option linter.unusedVariables false
set_option linter.unusedSimpArgs false
set_option maxRecDepth 100000
set_option maxHeartbeats 4000000
namespace Go.Proofs.YtbehemdcaiigeaaGreatDoor
open Go
theorem ahC:Tryz.prog.worded (varsWordLater true)=true:=by kernel_rfl
theorem ahD:Tryz.prog.worded (varsWordLater !true)=false:=by kernel_rfl
theorem ahE:Tryz.prog.worded rootWordLater=true:=by kernel_rfl
theorem ahz:(Tryz.prog.funcNamed "gosem.cut.vars").isSome=true:=by kernel_rfl
end Go.Proofs.YtbehemdcaiigeaaGreatDoor
