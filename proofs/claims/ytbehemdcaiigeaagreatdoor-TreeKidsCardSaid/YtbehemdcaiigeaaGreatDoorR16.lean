/- Part of the proof that TreeKids answers true. -/
import Derived.Test.YtbehemdcaiigeaaGreatDoorR12
import Derived.Test.YtbehemdcaiigeaaGreatDoorR14
import Derived.Test.YtbehemdcaiigeaaGreatDoorR15
import Derived.Carry
import Derived.Below
import Derived.JoinedOf
import Derived.RowKit
import Derived.RowKitTokens
import Derived.ProofKit
import Derived.Clock
set_option linter.unusedVariables false
set_option linter.unusedSimpArgs false
set_option maxRecDepth 100000
set_option maxHeartbeats 4000000
namespace Go.Proofs.YtbehemdcaiigeaaGreatDoor
open Go Go.Am Go.ChangeShapes Go.WideShapes Go.ChangeAt Go.RowKit
theorem ab8:laidOutB Tryz.prog=true:=av
theorem ae5:Tryz.prog.readableRec 27=true:=av
theorem afY:27<Tryz.prog.types.size:=gb av
theorem abG {Q:Type} {enc:TypeId×Value→Q} {W:World} (hL:laidMetH Tryz.prog Rows.treeKidsRow.laid W) {fuel:Nat} {cs:Array Value} {x:DataW Q×List MemPlace} (h:ja enc W fuel 27 cs.toList=some x) (hw:ra 27 x) :
  Calls Tryz.prog 3 #[.agg cs] W fun e W'=>e=.returned aN∧_root_.Go.RowKit.Below W.heap.size W W':=by
 obtain ⟨φ,r⟩:=Yw hL
 obtain ⟨H',aU,t,r',u,Fy,lr⟩:=TM fuel cs.toList _ h hw G φ r
 have Ji:aa E G H':=⟨r'.wf,u.n,yL,fun i hi=>u.get i hi⟩
 obtain ⟨v,H2,d4,xt,ah,rfl⟩:=ahL t H' Ji Fy (EO Ji)
 obtain ⟨_,_,run⟩:=d4 r'.wf Ji.vW
 have runs:=run W.heap.size aU W [.agg cs] r'.rel (fun i hi _=>r'.free i hi) (.cons (be.wW (by simpa using lr.toArray)) (.nil _))
 rcases runs with ⟨_,hc⟩ |⟨v,w',YV,_⟩
 ·refine hc.mono fun e jW ⟨o8,out,hE⟩=>?_
  obtain ⟨u,rfl,hv⟩:=hE
  cases hv
  exact ⟨rfl,out.step.os,out.step.tape,out.step.output,out.step.size,fun k hk=>out.step.keep k hk (fun j hj=>by cases hj)⟩
 ·have e:(callFunc 3 #[Value.agg cs]).run Tryz.prog W=.ok (.enter 3 #[.agg cs]) W:=by kernel_rfl
  have:=e.symm.trans YV
  cases this
theorem lifted (os:Os) (started:os.Started) (H:Type) (enc:TypeId×Value→H) (F:Stop.Interp) :
  ReturnsInHanded { calm:=true } Tryz.checked os 3 .any (fun w args=>(Rows.treeKidsSpec.pre enc Tryz.prog Tryz.f3 [] false w args∧laidMetH Tryz.prog Rows.treeKidsRow.laid w)∧sizedMet enc Tryz.prog Tryz.f3 (OpenSpec.ofChange Rows.treeKidsSpec) false w args)
   ((OpenSpec.ofChange Rows.treeKidsSpec).postWith enc Tryz.prog Tryz.f3 F (outsideKept [.timePasses]) false true false):=by
 refine Go.Clock.returns_of_change (C:=Tryz.checked) (X:=fun w _=>laidMetH Tryz.prog Rows.treeKidsRow.laid w) (fun _ _ _ hh h=>h.of_heap hh) own started av Tryz.func3
  (Go.Clock.witness_at (enc:=enc) (C:=Tryz.checked) (X:=fun w _=>laidMetH Tryz.prog Rows.treeKidsRow.laid w) (AN os) #[Uj] 8 (World.layVars_os _ _ _) (aiB os) av av av (aiA os _)) ?_
 intro W base args ds gs before ZN hW _ B3 hL _
 have hval:∀(j:Nat) t v,Tryz.f3.params[j]?=some t→args[j]?=some v→Value.okWide Tryz.prog W .any base t v:=ZN
 have Pt:=hW
 obtain ⟨p,q,YC,hV,rfl,hfz,hnd⟩:=hW
 have hA:DataW.TrodAll enc Tryz.prog W 0 (fun _=>true) true Tryz.f3.params.toList args.toList ds p:=YC
 rw [Tryz.params3] at hA hval
 obtain ⟨v0,d0,rfl,rfl,h0⟩:=trodAll_one hA
 obtain ⟨rfl,rfl⟩:=trodVars_none hV
 obtain ⟨cs,rfl,_⟩:=okWide_struct Tryz.underlying27 (hval 0 27 v0 rfl rfl)
 obtain ⟨fuel,h1⟩:=h0
 have hw:ra 27 (d0,p):=fun q hq=>by
  have e:(DataW.weightsEach Tryz.prog [27] [d0]).all (·≤reachBytes)=true:=by
   have:=B3
   rw [show Tryz.checked.prog=Tryz.prog from rfl,Tryz.params3] at this
   exact this
  have:=List.all_eq_true.1 e q (by rw [DataW.weightsEach];exact List.mem_append_left _ hq)
  have:=gb this
  exact this
 simp only [List.append_nil] at Pt
 refine (abG (enc:=enc) hL (x:=(d0,p)) h1 hw).mono fun e W' ⟨he,hb⟩=>?_
 subst he
 have hlt:∀ x∈p,x.block<W.heap.size:=fun x hx=>DataW.trod_lt _ _ _ _ h1 x hx
 have hs:=Go.Clock.Since.of_below hb
 refine ⟨_,rfl,⟨[d0],[],p,[],p,[],Pt,trodAll_mk1 (shut_bool Tryz.underlying4 true),?_,rfl,hs.2.frame _,fun h=>by cases h⟩,hs.1⟩
 rw [show (Rows.treeKidsSpec.fn H ([d0]++[])).args=[d0] from rfl]
 have:=trodAll_mk1 (_root_.Go.RowKit.Below.trod ab8 ae5 afY ⟨fuel,h1⟩ hs.2 hlt)
 rw [show Tryz.checked.prog=Tryz.prog from rfl,Tryz.params3]
 exact this
end Go.Proofs.YtbehemdcaiigeaaGreatDoor
