/- Part of the proof that CheckTypes answers true. -/
import Derived.Test.YtglmagcldkngbaaGreatDoorRows
import Derived.JoinedOf
import Derived.RowKit
import Derived.ProofKit
import Derived.Stop.Joined
set_option linter.unusedVariables false
set_option linter.unusedSimpArgs false
set_option maxRecDepth 100000
set_option maxHeartbeats 4000000
namespace Go.Proofs.YtglmagcldkngbaaGreatDoor
open Go
theorem QZ:Tryz.pinned.checked.prog.funcNamed Rows.checkTypesRow.func=some 3:=by kernel_rfl
theorem aee:Tryz.f3.isInstance Tryz.pinned.checked.prog Rows.checkTypesRow.origin Rows.checkTypesRow.targs:=of_decide_eq_true (by kernel_rfl)
theorem aef:Tryz.f3.isWrapper Tryz.pinned.checked.prog Rows.checkTypesRow.wrapper Rows.checkTypesRow.mainSum:=by unfold Func.isWrapper;rw [if_neg (of_decide_eq_false (by kernel_rfl))];exact ⟨rfl,rfl⟩
theorem aed:joinedFacts Tryz.pinned.checked.prog 3 Tryz.f3 Rows.checkTypesSpec Rows.checkTypesRow=true:=by kernel_rfl
end Go.Proofs.YtglmagcldkngbaaGreatDoor
