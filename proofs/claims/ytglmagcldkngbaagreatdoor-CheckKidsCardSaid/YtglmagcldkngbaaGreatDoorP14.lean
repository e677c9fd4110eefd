/- Part of the proof that CheckKids answers true. -/
import Derived.Test.YtglmagcldkngbaaGreatDoorP12
import Derived.Test.YtglmagcldkngbaaGreatDoorP13
import Derived.Carry
import Derived.Below
import Derived.JoinedOf
import Derived.RowKit
import Derived.RowKitTokens
import Derived.ProofKit
set_option linter.unusedVariables false
set_option linter.unusedSimpArgs false
set_option maxRecDepth 100000
set_option maxHeartbeats 4000000
namespace Go.Proofs.YtglmagcldkngbaaGreatDoor
open Go Go.Am Go.ChangeShapes Go.WideShapes Go.ChangeAt Go.RowKit
theorem RR:laidOutB Tryz.prog=true:=ah
theorem abD:Tryz.prog.readableRec 27=true:=ah
theorem aeO:27<Tryz.prog.types.size:=aL ah
theorem RJ {Q:Type} {enc:TypeId×Value→Q} {W:World} (hL:laidMetH Tryz.prog Rows.checkKidsRow.laid W) {fuel:Nat} {cs:Array Value} {x:DataW Q×List MemPlace} (h:y9 enc W fuel 27 cs.toList=some x) (hw:Wt 27 x) :
  Calls Tryz.prog 4 #[.agg cs] W fun e W'=>e=.returned (.bool true)∧_root_.Go.RowKit.Below W.heap.size W W':=by
 obtain ⟨φ,r⟩:=Of hL
 obtain ⟨H',φ',t,r',u,RV,lr⟩:=Ef fuel cs.toList _ h hw G φ r
 have gd:Gd E G H':=⟨r'.wf,u.n,NM,fun i hi=>u.get i hi⟩
 have at_:At H' t:=by cases RV;assumption
 obtain ⟨v,H2,cc,xt,y2,rfl⟩:=NX t H' gd at_ RV (gdS gd)
 obtain ⟨_,_,run⟩:=cc r'.wf gd.Zg
 have runs:=run W.heap.size φ' W [.agg cs] r'.rel (fun i hi _=>r'.free i hi) (.cons (VR.J5 (by simpa using lr.toArray)) (.nil _))
 rcases runs with ⟨_,hc⟩ |⟨v,w',hcf,_⟩
 ·refine hc.mono fun e W2 ⟨φ2,out,hE⟩=>?_
  obtain ⟨u,rfl,hv⟩:=hE
  cases hv
  exact ⟨rfl,out.step.os,out.step.tape,out.step.output,out.step.size,fun k hk=>out.step.keep k hk (fun j hj=>by cases hj)⟩
 ·have e:(callFunc 4 #[Value.agg cs]).run Tryz.prog W=.ok (.enter 4 #[.agg cs]) W:=by kernel_rfl
  have:=e.symm.trans hcf
  cases this
theorem lifted (os:Os) (started:os.Started) (H:Type) (enc:TypeId×Value→H) :
  ReturnsInHanded {} Tryz.checked os 4 .any (fun w args=>(Rows.checkKidsSpec.pre enc Tryz.prog Tryz.f4 [] false w args∧laidMetH Tryz.prog Rows.checkKidsRow.laid w)∧sizedMet enc Tryz.prog Tryz.f4 (OpenSpec.ofChange Rows.checkKidsSpec) false w args)
   (Rows.checkKidsSpec.post enc Tryz.prog Tryz.f4 false true false false):=by
 refine returnsInHanded_of_change_and (C:=Tryz.checked) (X:=fun w _=>laidMetH Tryz.prog Rows.checkKidsRow.laid w) (fun _ _ _ hh h=>h.of_heap hh) own started ah Tryz.func4
  (ChangeSpec.witness_shaped (enc:=enc) (C:=Tryz.checked) (os:=os) (X:=fun w _=>laidMetH Tryz.prog Rows.checkKidsRow.laid w) false (wit os) #[Xo] 8 (World.layVars_os _ _ _) (LX os) ah ah ah (Wu os _)) ?_
 intro W base args ds gs before aa2 hW _ hwt hL _
 have hval:∀(j:Nat) t v,Tryz.f4.params[j]?=some t→args[j]?=some v→Value.okWide Tryz.prog W .any base t v:=aa2
 have hW':=hW
 obtain ⟨p,q,hA0,hV,rfl,hfz,hnd⟩:=hW
 have hA:DataW.TrodAll enc Tryz.prog W 0 (fun _=>true) true Tryz.f4.params.toList args.toList ds p:=hA0
 rw [Tryz.params4] at hA hval
 obtain ⟨v0,d0,rfl,rfl,h0⟩:=trodAll_one hA
 obtain ⟨rfl,rfl⟩:=trodVars_none hV
 obtain ⟨cs,rfl,_⟩:=okWide_struct Tryz.underlying27 (hval 0 27 v0 rfl rfl)
 obtain ⟨fuel,h1⟩:=h0
 have hw:Wt 27 (d0,p):=fun q hq=>by
  have e:(DataW.weightsEach Tryz.prog [27] [d0]).all (·≤reachBytes)=true:=by
   have:=hwt
   rw [show Tryz.checked.prog=Tryz.prog from rfl,Tryz.params4] at this
   exact this
  have:=List.all_eq_true.1 e q (by rw [DataW.weightsEach];exact List.mem_append_left _ hq)
  have:=aL this
  exact this
 simp only [List.append_nil] at hW'
 refine (RJ (enc:=enc) hL (x:=(d0,p)) h1 hw).mono fun e W' ⟨he,hb⟩=>?_
 subst he
 have hlt:∀ x∈p,x.block<W.heap.size:=fun x hx=>DataW.trod_lt _ _ _ _ h1 x hx
 refine ⟨_,rfl,[d0],[],p,[],p,[],hW',trodAll_mk1 (shut_bool Tryz.underlying4 true),?_,rfl,hb.frame _,fun h=>by cases h⟩
 rw [show (Rows.checkKidsSpec.fn H ([d0]++[])).args=[d0] from rfl]
 have:=trodAll_mk1 (_root_.Go.RowKit.Below.trod RR abD aeO ⟨fuel,h1⟩ hb hlt)
 rw [show Tryz.checked.prog=Tryz.prog from rfl,Tryz.params4]
 exact this
end Go.Proofs.YtglmagcldkngbaaGreatDoor
