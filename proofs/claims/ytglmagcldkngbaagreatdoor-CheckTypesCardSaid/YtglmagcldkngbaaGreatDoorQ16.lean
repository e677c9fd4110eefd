/- Proved: soundingslaw11.CheckTypes answers true of every expression it is handed, and the expression reads behind the call as it read before. Conditions: those of the given card alone (the listed package variables hold what the program's text lays in them; each slice and string is within the form's reach of bytes). -/
import Derived.Test.YtglmagcldkngbaaGreatDoorQ14
import Derived.Test.YtglmagcldkngbaaGreatDoorQ15
import Derived.Test.YtglmagcldkngbaaGreatDoorCards
import Derived.Test.YtglmagcldkngbaaGreatDoorTie
import Derived.SevenTiedAt
set_option linter.unusedVariables false
set_option linter.unusedSimpArgs false
set_option maxRecDepth 100000
set_option maxHeartbeats 4000000
namespace Go.Proofs.YtglmagcldkngbaaGreatDoor
open Go
theorem T7:Rows.CheckTypesSaid:=
 OpenClaim.holds_of_wide 3 Tryz.f3 rfl rfl rfl rfl rfl rfl rfl ⟨rfl,rfl,rfl,rfl,rfl⟩ rfl rfl rfl rfl rfl QZ Tryz.func3 aed aee aef
  (fun os started H enc _=>lifted os started H enc)
theorem agH:Tryz.prog.wantsStandIn 27=false:=an
theorem TK:∀(f:FuncId) (fn:Func),Tryz.prog.funcNamed "soundings/soundingslaw11.CheckTypes"=some f→Tryz.prog.funcs[f]?=some fn→f=3∧fn=Tryz.f3:=fun f fn hf hfn=>by
 obtain rfl:f=3:=Option.some.inj ((show Tryz.prog.funcNamed "soundings/soundingslaw11.CheckTypes"=some 3 from QZ).symm.trans hf) |>.symm
 exact ⟨rfl,(Option.some.inj (Tryz.func3.symm.trans hfn)).symm⟩
theorem checkTypes_card:Rows.CheckTypesCardSaid:=
 Claim7.holds_tied_plain_at .later [] [.data,.data,.widerDeep,.widerDeep,.data,.data,.data,.data,.data,.data,.handle,.sentinel,.sentinel,.listed,.data,.data,.pinned,.pinned,.pinned] true (true,"3e88e63d3b48beb441d8f675801ec465aecf82b5eb0382600e8250ab08091297") true
  T7 (fun _ h=>by cases h) an (fun _ h=>by cases h) checkTypes_row_tie rfl ⟨rfl,rfl⟩ an rfl
  (fun f fn hf hfn=>by
   obtain ⟨rfl,rfl⟩:=TK f fn hf hfn
   exact ⟨by kernel_rfl,fun j t ht=>by
    rw [Tryz.params3] at ht
    have h3:t=27:=by
     rcases j with _ |j
     ·simpa using ht.symm
     ·simp at ht
    subst h3
    exact agH⟩)
  an
end Go.Proofs.YtglmagcldkngbaaGreatDoor
