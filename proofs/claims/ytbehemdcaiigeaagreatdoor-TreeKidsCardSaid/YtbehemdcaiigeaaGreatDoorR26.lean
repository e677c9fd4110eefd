/- Proved: soundingslaw09.TreeKids answers true of every expression it is handed, and the expression reads behind the call as it read before. Conditions: those of the given card alone (the listed package variables hold what the program's text lays in them; each slice and string is within the form's reach of bytes). -/
import Derived.Test.YtbehemdcaiigeaaGreatDoorR16
import Derived.Test.YtbehemdcaiigeaaGreatDoorR17
import Derived.Test.YtbehemdcaiigeaaGreatDoorCards
import Derived.Test.YtbehemdcaiigeaaGreatDoorR25
import Derived.SevenTiedAt
set_option linter.unusedVariables false
set_option linter.unusedSimpArgs false
set_option maxRecDepth 100000
set_option maxHeartbeats 4000000
namespace Go.Proofs.YtbehemdcaiigeaaGreatDoor
open Go
theorem ahM:Rows.TreeKidsSaid:=
 Go.Clock.holds_of_wide_time 3 Tryz.f3 rfl rfl rfl rfl rfl rfl rfl ⟨rfl,rfl,rfl,rfl,rfl⟩ rfl rfl rfl rfl rfl Sw Tryz.func3 afZ af0 af1
  (fun os started H enc _ F=>lifted os started H enc F)
theorem ain:Tryz.prog.wantsStandIn 27=false:=av
theorem VC:∀(f:FuncId) (fn:Func),Tryz.prog.funcNamed "soundings/soundingslaw09.TreeKids"=some f→Tryz.prog.funcs[f]?=some fn→f=3∧fn=Tryz.f3:=fun f fn hf hfn=>by
 obtain rfl:f=3:=Option.some.inj ((show Tryz.prog.funcNamed "soundings/soundingslaw09.TreeKids"=some 3 from Sw).symm.trans hf) |>.symm
 exact ⟨rfl,(Option.some.inj (Tryz.func3.symm.trans hfn)).symm⟩
theorem treeKids_card:Rows.TreeKidsCardSaid:=
 Claim7.holds_tied_plain_at .later [] [.pinned,.data,.data,.listed,.data,.pinned,.data,.pinned,.sentinel,.sentinel,.data,.data,.data,.data,.handle] true (true,"d9d7c0427e662d4f16fcdbd0ea85cab19a87edf4ed43e293786bab63745ee0a8") true
  ahM (fun _ h=>by cases h) av (fun _ h=>by cases h) ahN rfl ⟨rfl,rfl⟩ av rfl
  (fun f fn hf hfn=>by
   obtain ⟨rfl,rfl⟩:=VC f fn hf hfn
   exact ⟨by kernel_rfl,fun j t ht=>by
    rw [Tryz.params3] at ht
    have h3:t=27:=by
     rcases j with _ |j
     ·simpa using ht.symm
     ·simp at ht
    subst h3
    exact ain⟩)
  av
end Go.Proofs.YtbehemdcaiigeaaGreatDoor
