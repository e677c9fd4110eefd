/- Part of the proof that TreeKids answers true. -/
import Derived.Test.YtbehemdcaiigeaaGreatDoorRows
import Derived.JoinedOf
import Derived.RowKit
import Derived.ProofKit
import Derived.Stop.Joined
set_option linter.unusedVariables false
set_option linter.unusedSimpArgs false
set_option maxRecDepth 100000
set_option maxHeartbeats 4000000
namespace Go.Proofs.YtbehemdcaiigeaaGreatDoor
open Go
theorem Sw:Tryz.pinned.checked.prog.funcNamed Rows.treeKidsRow.func=some 3:=by kernel_rfl
theorem af0:Tryz.f3.isInstance Tryz.pinned.checked.prog Rows.treeKidsRow.origin Rows.treeKidsRow.targs:=of_decide_eq_true (by kernel_rfl)
theorem af1:Tryz.f3.isWrapper Tryz.pinned.checked.prog Rows.treeKidsRow.wrapper Rows.treeKidsRow.mainSum:=by unfold Func.isWrapper;rw [if_neg (of_decide_eq_false (by kernel_rfl))];exact ⟨rfl,rfl⟩
theorem iJ {a b:Bool} (h:a=true) (k:b=true):(a&&b)=true:=by rw [h,k];rfl
noncomputable abbrev hX:Program:=Tryz.pinned.checked.prog
theorem aav:(Rows.treeKidsRow.wf (OpenSpec.ofChange Rows.treeKidsSpec))=true:=by kernel_rfl
theorem aaw:(laidOutB hX)=true:=by kernel_rfl
theorem aaH:(mapsRowed hX)=true:=by kernel_rfl
theorem aaS:(Tryz.f3.params.all (hX.readableRec ·))=true:=by kernel_rfl
theorem aaV:(namedTie hX Rows.treeKidsRow.named Rows.treeKidsSpec.vars)=true:=by kernel_rfl
theorem aaW:(Rows.treeKidsRow.stops==[])=true:=by kernel_rfl
theorem aaX:(hX.stops==[])=true:=by kernel_rfl
theorem aaY:(Rows.treeKidsRow.knobs==[])=true:=by kernel_rfl
theorem aaZ:(hX.stopKnobs==[])=true:=by kernel_rfl
theorem aa0:(Rows.treeKidsRow.inPlace==hX.inPlace 3)=true:=by kernel_rfl
theorem aax:(Rows.treeKidsRow.unfollowed==hX.unfollowed 3)=true:=by kernel_rfl
theorem aay:(Rows.treeKidsRow.recurses==hX.recurses 3)=true:=by kernel_rfl
theorem aaz:(Rows.treeKidsRow.named==hX.varsNamed 3)=true:=by kernel_rfl
theorem aaA:(Rows.treeKidsRow.maps==(Tryz.f3.params.toList++Rows.treeKidsSpec.plain.varTypes hX).any (hX.mapsRec ·))=true:=by kernel_rfl
theorem aaB:(Rows.treeKidsRow.ifaces==(Tryz.f3.params.toList++Rows.treeKidsSpec.plain.varTypes hX).any (hX.ifacesRec ·))=true:=by kernel_rfl
theorem aaC:(Rows.treeKidsRow.mapsOut==hX.mapsAmong Tryz.f3.resultTypes.toList)=true:=by kernel_rfl
theorem aaD:(Rows.treeKidsRow.loops==(Tryz.f3.params.toList++Rows.treeKidsSpec.plain.varTypes hX).any (hX.loopsFrom ·))=true:=by kernel_rfl
theorem aaE:(Rows.treeKidsRow.wideKeys==(Tryz.f3.params.toList++Rows.treeKidsSpec.plain.varTypes hX++Tryz.f3.resultTypes.toList).any (hX.wideKeysFrom ·))=true:=by kernel_rfl
theorem aaF:(Rows.treeKidsSpec.vars.all (hX.varReadable ·))=true:=by kernel_rfl
theorem aaG:(Tryz.f3.resultTypes.all (fun t=>hX.readableRec t&&decide (t<hX.types.size)))=true:=by kernel_rfl
theorem aaI:(Rows.treeKidsRow.ifacesOut==Tryz.f3.resultTypes.toList.any (hX.ifacesRec ·))=true:=by kernel_rfl
theorem aaJ:(Rows.treeKidsRow.loopsOut==Tryz.f3.resultTypes.toList.any (hX.loopsFrom ·))=true:=by kernel_rfl
theorem aaK:(Rows.treeKidsRow.plainKeys==hX.plainKeys)=true:=by kernel_rfl
theorem aaL:(Rows.treeKidsRow.shortTexts.isNone)=true:=by kernel_rfl
theorem aaM:(hX.stopsHeard)=true:=by kernel_rfl
theorem aaN:(hX.mayEnter)=true:=by kernel_rfl
theorem aaO:(Rows.treeKidsRow.lifted==hX.liftsFinal)=true:=by kernel_rfl
theorem aaP:(hX.make==some Rows.treeKidsRow.make)=true:=by kernel_rfl
theorem aaQ:(Rows.treeKidsRow.kinds==(if Rows.treeKidsRow.domain.isEmpty then [] else Tryz.f3.params.toList.map fun t=>match hX.underlying t with |some (.int k)=>some k |_=>none))=true:=by kernel_rfl
theorem aaR:(Rows.treeKidsRow.pinned==Rows.treeKidsRow.pinnedBy)=true:=by kernel_rfl
theorem aaT:(Rows.treeKidsRow.veiled==(Tryz.f3.params.toList++Rows.treeKidsSpec.plain.varTypes hX++Tryz.f3.resultTypes.toList).any (hX.veiledRec ·))=true:=by kernel_rfl
theorem aaU:(Rows.treeKidsRow.veiledFits hX Tryz.f3.params.toList (Tryz.f3.params.toList++Rows.treeKidsSpec.plain.varTypes hX++Tryz.f3.resultTypes.toList))=true:=by kernel_rfl
theorem afZ:joinedFacts Tryz.pinned.checked.prog 3 Tryz.f3 Rows.treeKidsSpec Rows.treeKidsRow=true:=iJ (iJ (iJ (iJ (iJ (iJ (iJ (iJ (iJ (iJ (iJ (iJ (iJ (iJ (iJ (iJ (iJ (iJ (iJ (iJ (iJ (iJ (iJ (iJ (iJ (iJ (iJ (iJ (iJ (iJ (iJ aav aaw) aaH) aaS) aaV) aaW) aaX) aaY) aaZ) aa0) aax) aay) aaz) aaA) aaB) aaC) aaD) aaE) aaF) aaG) aaI) aaJ) aaK) aaL) aaM) aaN) aaO) aaP) aaQ) aaR) aaT) aaU
end Go.Proofs.YtbehemdcaiigeaaGreatDoor
