/- Part of the proof that TreeKids answers true. -/
import Derived.Test.YtbehemdcaiigeaaGreatDoorR18
set_option linter.unusedVariables false
set_option linter.unusedSimpArgs false
set_option maxRecDepth 100000
set_option maxHeartbeats 4000000
namespace Go.Proofs.YtbehemdcaiigeaaGreatDoor
open Go
theorem ahF:∀ os tape,doorLeaves Tryz.prog 400 8 257 Cn os tape=some (Cn.filter fun x=>x.2.handleName?.isNone,(funcsListed Cn).map (·.2.funcsOut)):=fun _ _=>by kernel_rfl
end Go.Proofs.YtbehemdcaiigeaaGreatDoor
