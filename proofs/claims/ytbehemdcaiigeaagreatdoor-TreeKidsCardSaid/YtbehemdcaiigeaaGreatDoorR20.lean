/- Part of the proof that TreeKids answers true. -/
import Derived.Test.YtbehemdcaiigeaaGreatDoorR18
set_option linter.unusedVariables false
set_option linter.unusedSimpArgs false
set_option maxRecDepth 100000
set_option maxHeartbeats 4000000
namespace Go.Proofs.YtbehemdcaiigeaaGreatDoor
open Go
theorem ahA:Cn.map (fun x=>Tryz.prog.kindOfLater x.1)=abJ.map some:=by kernel_rfl
end Go.Proofs.YtbehemdcaiigeaaGreatDoor
