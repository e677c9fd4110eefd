/- Part of the proof that CheckTypes answers true. -/
import Derived.Test.YtglmagcldkngbaaGreatDoorQ12
import Derived.Test.YtglmagcldkngbaaGreatDoorQ13
import Derived.Carry
import Derived.Below
import Derived.JoinedOf
import Derived.RowKit
import Derived.RowKitTokens
import Derived.ProofKit
set_option linter.unusedVariables false
set_option linter.unusedSimpArgs false
set_option maxRecDepth 100000
set_option maxHeartbeats 4000000
namespace Go.Proofs.YtglmagcldkngbaaGreatDoor
open Go Go.Am Go.ChangeShapes Go.WideShapes Go.ChangeAt Go.RowKit
theorem aaI:laidOutB Tryz.prog=true:=an
theorem adi:Tryz.prog.readableRec 27=true:=an
theorem aec:27<Tryz.prog.types.size:=fD an
theorem af5 {Q:Type} {enc:TypeId×Value→Q} {W:World} (hL:laidMetH Tryz.prog Rows.checkTypesRow.laid W) {fuel:Nat} {cs:Array Value} {x:DataW Q×List MemPlace} (h:ju enc W fuel 27 cs.toList=some x) (hw:ri 27 x) :
  Calls Tryz.prog 3 #[.agg cs] W fun e W'=>e=.returned aw∧_root_.Go.RowKit.Below W.heap.size W W':=by
 obtain ⟨φ,r⟩:=W8 hL
 obtain ⟨H',be,t,r',u,Fa,lr⟩:=RP fuel cs.toList _ h hw G φ r
 have HY:aa E G H':=⟨r'.wf,u.n,Bc,fun i hi=>u.get i hi⟩
 obtain ⟨v,H2,fj,xt,ar,rfl⟩:=checkTypes t H' HY Fa (W3 HY)
 obtain ⟨_,_,run⟩:=fj r'.wf HY.yc
 have runs:=run W.heap.size be W [.agg cs] r'.rel (fun i hi _=>r'.free i hi) (.cons (bn.w7 (by simpa using lr.toArray)) (.nil _))
 rcases runs with ⟨_,hc⟩ |⟨v,w',XC,_⟩
 ·refine hc.mono fun e G6 ⟨o8,out,hE⟩=>?_
  obtain ⟨u,rfl,hv⟩:=hE
  cases hv
  exact ⟨rfl,out.step.os,out.step.tape,out.step.output,out.step.size,fun k hk=>out.step.keep k hk (fun j hj=>by cases hj)⟩
 ·have e:(callFunc 3 #[Value.agg cs]).run Tryz.prog W=.ok (.enter 3 #[.agg cs]) W:=by kernel_rfl
  have:=e.symm.trans XC
  cases this
theorem lifted (os:Os) (started:os.Started) (H:Type) (enc:TypeId×Value→H) :
  ReturnsInHanded {} Tryz.checked os 3 .any (fun w args=>(Rows.checkTypesSpec.pre enc Tryz.prog Tryz.f3 [] false w args∧laidMetH Tryz.prog Rows.checkTypesRow.laid w)∧sizedMet enc Tryz.prog Tryz.f3 (OpenSpec.ofChange Rows.checkTypesSpec) false w args)
   (Rows.checkTypesSpec.post enc Tryz.prog Tryz.f3 false true false false):=by
 refine returnsInHanded_of_change_and (C:=Tryz.checked) (X:=fun w _=>laidMetH Tryz.prog Rows.checkTypesRow.laid w) (fun _ _ _ hh h=>h.of_heap hh) own started an Tryz.func3
  (ChangeSpec.witness_shaped (enc:=enc) (C:=Tryz.checked) (os:=os) (X:=fun w _=>laidMetH Tryz.prog Rows.checkTypesRow.laid w) false (A0 os) #[Sn] 8 (World.layVars_os _ _ _) (agZ os) an an an (agY os _)) ?_
 intro W base args ds gs before Yv hW _ Cd hL _
 have hval:∀(j:Nat) t v,Tryz.f3.params[j]?=some t→args[j]?=some v→Value.okWide Tryz.prog W .any base t v:=Yv
 have NR:=hW
 obtain ⟨p,q,Xe,hV,rfl,hfz,hnd⟩:=hW
 have hA:DataW.TrodAll enc Tryz.prog W 0 (fun _=>true) true Tryz.f3.params.toList args.toList ds p:=Xe
 rw [Tryz.params3] at hA hval
 obtain ⟨v0,d0,rfl,rfl,h0⟩:=trodAll_one hA
 obtain ⟨rfl,rfl⟩:=trodVars_none hV
 obtain ⟨cs,rfl,_⟩:=okWide_struct Tryz.underlying27 (hval 0 27 v0 rfl rfl)
 obtain ⟨fuel,h1⟩:=h0
 have hw:ri 27 (d0,p):=fun q hq=>by
  have e:(DataW.weightsEach Tryz.prog [27] [d0]).all (·≤reachBytes)=true:=by
   have:=Cd
   rw [show Tryz.checked.prog=Tryz.prog from rfl,Tryz.params3] at this
   exact this
  have:=List.all_eq_true.1 e q (by rw [DataW.weightsEach];exact List.mem_append_left _ hq)
  have:=fD this
  exact this
 simp only [List.append_nil] at NR
 refine (af5 (enc:=enc) hL (x:=(d0,p)) h1 hw).mono fun e W' ⟨he,hb⟩=>?_
 subst he
 have hlt:∀ x∈p,x.block<W.heap.size:=fun x hx=>DataW.trod_lt _ _ _ _ h1 x hx
 refine ⟨_,rfl,[d0],[],p,[],p,[],NR,trodAll_mk1 (shut_bool Tryz.underlying4 true),?_,rfl,hb.frame _,fun h=>by cases h⟩
 rw [show (Rows.checkTypesSpec.fn H ([d0]++[])).args=[d0] from rfl]
 have:=trodAll_mk1 (_root_.Go.RowKit.Below.trod aaI adi aec ⟨fuel,h1⟩ hb hlt)
 rw [show Tryz.checked.prog=Tryz.prog from rfl,Tryz.params3]
 exact this
end Go.Proofs.YtglmagcldkngbaaGreatDoor
