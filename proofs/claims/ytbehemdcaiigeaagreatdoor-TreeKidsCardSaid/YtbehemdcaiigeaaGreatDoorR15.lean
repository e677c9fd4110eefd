/- Part of the proof that TreeKids answers true. -/
import Derived.Test.YtbehemdcaiigeaaGreatDoorRows
import Derived.ProofKit
import Derived.OpenShut
import Derived.LaidMore
import Derived.Lay
import Derived.LaidHandle
import Derived.LaidLaws
import Derived.Stop.Joined
set_option linter.unusedVariables false
set_option linter.unusedSimpArgs false
set_option maxRecDepth 100000
set_option maxHeartbeats 4000000
namespace Go.Proofs.YtbehemdcaiigeaaGreatDoor
open Go Go.ChangeShapes Go.WideShapes Go.ChangeAt Go.RowKit
theorem own:ownKnob Tryz.prog.godebug=none:=by kernel_rfl
abbrev ri:List (String×DataW Unit):=Rows.treeKidsRow.laid.filter fun x=>x.2.handleName?.isNone
noncomputable def w0 (os:Os):World:=
 let w:=World.holding Tryz.prog os ⟨#[],#[],[]⟩
 { w with heap:=w.heap.modify 0 fun
     |.cells _ t frozen=>.cells #[.iface 107 (.agg #[.pointer (some ⟨22,31,none⟩)])] t frozen
     |o=>o }
noncomputable def AN (os:Os):World:=(w0 os).layVars Tryz.prog ri
abbrev Uj:Value:=.agg #[.int .i64 0,.int .i64 0,.int .u64 0,.string ⟨#[]⟩,.slice none 0 0,.int .i64 0,.int .i64 0,.bool false,.int .i64 0,.int .i64 0,.slice none 0 0,.bool false,.slice none 0 0]
theorem aiy (os:Os):(w0 os).layFits Tryz.prog ri []=true:=by kernel_rfl
theorem aiz (os:Os):(w0 os).layIfaces Tryz.prog ri (AN os)=true:=by kernel_rfl
theorem aix (os:Os) (args:Array Value):laidMet Tryz.prog ri ((AN os).forCall (fun _ _=>0) ⟨#[],args,[]⟩).memory:=by
 have e1:(ri.filter fun x=>(ri.map (·.1)).contains x.1)=ri:=List.filter_eq_self.2 fun x hx=>List.contains_iff_mem.2 (List.mem_map.2 ⟨x,hx,rfl⟩)
 have e2:(ri.filter fun x=>!(ri.map (·.1)).contains x.1)=[]:=List.filter_eq_nil_iff.2 fun x hx=>by rw [List.contains_iff_mem.2 (List.mem_map.2 ⟨x,hx,rfl⟩)];simp
 have h:laidMet Tryz.prog ri (AN os):=laidMet_layVars (w0:=w0 os) (ri.map (·.1)) [] (by rw [e1];rfl) (by rw [e1];exact aiy os) (by rw [e1];exact aiz os) (by rw [e2];exact LaidIn.none)
 exact h.of_heap (by simp [World.memory,World.forCall,Input.heap])
theorem aiA (os:Os) (args:Array Value):laidMetH Tryz.prog Rows.treeKidsRow.laid ((AN os).forCall (fun _ _=>0) ⟨#[],args,[]⟩).memory:=
 laidMetH_of_parts (aix os args) (by kernel_rfl)
theorem aiB (os:Os):((AN os).forCall (fun _ _=>0) ⟨#[],#[Uj],[]⟩).Shaped Tryz.prog:=
 World.shaped_of_ZipB (by kernel_rfl) (by kernel_rfl)
end Go.Proofs.YtbehemdcaiigeaaGreatDoor
