/- Proved: soundingslaw11.CheckKids answers true of every expression it is handed, and the expression reads behind the call as it read before. Conditions: those of the given card alone (the listed package variables hold what the program's text lays in them; each slice and string is within the form's reach of bytes). -/
import Derived.Test.YtglmagcldkngbaaGreatDoorP14
import Derived.Test.YtglmagcldkngbaaGreatDoorP15
import Derived.Test.YtglmagcldkngbaaGreatDoorCards
import Derived.Test.YtglmagcldkngbaaGreatDoorTie
import Derived.SevenTiedAt
set_option linter.unusedVariables false
set_option linter.unusedSimpArgs false
set_option maxRecDepth 100000
set_option maxHeartbeats 4000000
namespace Go.Proofs.YtglmagcldkngbaaGreatDoor
open Go
theorem AL:Rows.CheckKidsSaid:=
 OpenClaim.holds_of_wide 4 Tryz.f4 rfl rfl rfl rfl rfl rfl rfl ⟨rfl,rfl,rfl,rfl,rfl⟩ rfl rfl rfl rfl rfl JD Tryz.func4 OU SE SF
  (fun os started H enc _=>lifted os started H enc)
theorem LO:Tryz.prog.wantsStandIn 27=false:=ah
theorem TJ:∀(f:FuncId) (fn:Func),Tryz.prog.funcNamed "soundings/soundingslaw11.CheckKids"=some f→Tryz.prog.funcs[f]?=some fn→f=4∧fn=Tryz.f4:=fun f fn hf hfn=>by
 obtain rfl:f=4:=Option.some.inj ((show Tryz.prog.funcNamed "soundings/soundingslaw11.CheckKids"=some 4 from JD).symm.trans hf) |>.symm
 exact ⟨rfl,(Option.some.inj (Tryz.func4.symm.trans hfn)).symm⟩
theorem checkKids_card:Rows.CheckKidsCardSaid:=
 Claim7.holds_tied_plain_at .later [] [.data,.data,.widerDeep,.widerDeep,.data,.data,.data,.data,.data,.data,.handle,.sentinel,.sentinel,.listed,.data,.data,.pinned,.pinned,.pinned] true (true,"3e88e63d3b48beb441d8f675801ec465aecf82b5eb0382600e8250ab08091297") true
  AL (fun _ h=>by cases h) ah (fun _ h=>by cases h) checkKids_row_tie rfl ⟨rfl,rfl⟩ ah rfl
  (fun f fn hf hfn=>by
   obtain ⟨rfl,rfl⟩:=TJ f fn hf hfn
   exact ⟨by kernel_rfl,fun j t ht=>by
    rw [Tryz.params4] at ht
    have h3:t=27:=by
     rcases j with _ |j
     ·simpa using ht.symm
     ·simp at ht
    subst h3
    exact LO⟩)
  ah
end Go.Proofs.YtglmagcldkngbaaGreatDoor
