/- Part of the proof that CheckKids answers true. -/
import Derived.Test.YtglmagcldkngbaaGreatDoorRows
import Derived.JoinedOf
import Derived.RowKit
import Derived.ProofKit
import Derived.Stop.Joined
set_option linter.unusedVariables false
set_option linter.unusedSimpArgs false
set_option maxRecDepth 100000
set_option maxHeartbeats 4000000
namespace Go.Proofs.YtglmagcldkngbaaGreatDoor
open Go
theorem JD:Tryz.pinned.checked.prog.funcNamed Rows.checkKidsRow.func=some 4:=by kernel_rfl
theorem SE:Tryz.f4.isInstance Tryz.pinned.checked.prog Rows.checkKidsRow.origin Rows.checkKidsRow.targs:=of_decide_eq_true (by kernel_rfl)
theorem SF:Tryz.f4.isWrapper Tryz.pinned.checked.prog Rows.checkKidsRow.wrapper Rows.checkKidsRow.mainSum:=by unfold Func.isWrapper;rw [if_neg (of_decide_eq_false (by kernel_rfl))];exact ⟨rfl,rfl⟩
theorem OU:joinedFacts Tryz.pinned.checked.prog 4 Tryz.f4 Rows.checkKidsSpec Rows.checkKidsRow=true:=by kernel_rfl
end Go.Proofs.YtglmagcldkngbaaGreatDoor
