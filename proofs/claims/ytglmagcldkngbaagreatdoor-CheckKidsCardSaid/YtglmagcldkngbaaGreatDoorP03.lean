/- Part of the proof that CheckKids answers true. -/
import Derived.Test.YtglmagcldkngbaaGreatDoorP02
set_option linter.unusedVariables false
set_option linter.unusedSimpArgs false
set_option maxRecDepth 100000
set_option maxHeartbeats 4000000
namespace Go.Proofs.YtglmagcldkngbaaGreatDoor
open Go Go.Am
def cW (c:Int):Bool:=bif (c==95) then true else bif (decide (c≥97)) then bif (decide (c≤122)) then true else bif (decide (c≥65)) then bif (decide (c≤90)) then true else bif (decide (c≥48)) then bif (decide (c≤57)) then true else false else false else bif (decide (c≥48)) then bif (decide (c≤57)) then true else false else false else bif (decide (c≥65)) then bif (decide (c≤90)) then true else bif (decide (c≥48)) then bif (decide (c≤57)) then true else false else false else bif (decide (c≥48)) then bif (decide (c≤57)) then true else false else false
theorem Ci (c:Int) (H:Hp):CC E 80 [.int .u8 c] H (.ret (.bool (cW c))) H []:=by
 cases h1:(c==95) with
 |true=>
  have q1:=bW h1
  have e:cW c=true:=by simp only [cW,h1,cond_true,cond_false]
  rw [e]
  exact CC.ef ok (f:=200) (rv:=none) (hs:=[.auto 1,aI,.auto 6]) (Ps:=[(c==95)=true]) (fn:=Tryz.f80) ah ah ah ⟨h1,trivial⟩
 |false=>
  have q1:=bK h1
  cases h2:(decide (c≥97)) with
  |true=>
   have q2:=aL h2
   cases h3:(decide (c≤122)) with
   |true=>
    have q3:=aL h3
    have e:cW c=true:=by simp only [cW,h1,h2,h3,cond_true,cond_false]
    rw [e]
    exact CC.ef ok (f:=200) (rv:=none) (hs:=[.auto 1,aF,.auto 1,aI,.auto 1,aI,.auto 6]) (Ps:=[(c==95)=false,(decide (c≥97))=true,(decide (c≤122))=true]) (fn:=Tryz.f80) ah ah ah ⟨h1,h2,h3,trivial⟩
   |false=>
    have q3:=aQ h3
    cases h4:(decide (c≥65)) with
    |true=>
     have q4:=aL h4
     cases h5:(decide (c≤90)) with
     |true=>
      have q5:=aL h5
      have e:cW c=true:=by simp only [cW,h1,h2,h3,h4,h5,cond_true,cond_false]
      rw [e]
      exact CC.ef ok (f:=200) (rv:=none) (hs:=[.auto 1,aF,.auto 1,aI,.auto 1,aF,.auto 3,aI,.auto 1,aI,.auto 4]) (Ps:=[(c==95)=false,(decide (c≥97))=true,(decide (c≤122))=false,(decide (c≥65))=true,(decide (c≤90))=true]) (fn:=Tryz.f80) ah ah ah ⟨h1,h2,h3,h4,h5,trivial⟩
     |false=>
      have q5:=aQ h5
      cases h6:(decide (c≥48)) with
      |true=>
       have q6:=aL h6
       cases h7:(decide (c≤57)) with
       |true=>
        have q7:=aL h7
        have e:cW c=true:=by simp only [cW,h1,h2,h3,h4,h5,h6,h7,cond_true,cond_false]
        rw [e]
        exact CC.ef ok (f:=200) (rv:=none) (hs:=[.auto 1,aF,.auto 1,aI,.auto 1,aF,.auto 3,aI,.auto 1,aF,.auto 3,aI,.auto 1,aI,.auto 2]) (Ps:=[(c==95)=false,(decide (c≥97))=true,(decide (c≤122))=false,(decide (c≥65))=true,(decide (c≤90))=false,(decide (c≥48))=true,(decide (c≤57))=true]) (fn:=Tryz.f80) ah ah ah ⟨h1,h2,h3,h4,h5,h6,h7,trivial⟩
       |false=>
        have q7:=aQ h7
        have e:cW c=false:=by simp only [cW,h1,h2,h3,h4,h5,h6,h7,cond_true,cond_false]
        rw [e]
        exact CC.ef ok (f:=200) (rv:=none) (hs:=[.auto 1,aF,.auto 1,aI,.auto 1,aF,.auto 3,aI,.auto 1,aF,.auto 3,aI,.auto 1,aF,.auto 2]) (Ps:=[(c==95)=false,(decide (c≥97))=true,(decide (c≤122))=false,(decide (c≥65))=true,(decide (c≤90))=false,(decide (c≥48))=true,(decide (c≤57))=false]) (fn:=Tryz.f80) ah ah ah ⟨h1,h2,h3,h4,h5,h6,h7,trivial⟩
      |false=>
       have q6:=aQ h6
       have e:cW c=false:=by simp only [cW,h1,h2,h3,h4,h5,h6,cond_true,cond_false]
       rw [e]
       exact CC.ef ok (f:=200) (rv:=none) (hs:=[.auto 1,aF,.auto 1,aI,.auto 1,aF,.auto 3,aI,.auto 1,aF,.auto 3,aF,.auto 3]) (Ps:=[(c==95)=false,(decide (c≥97))=true,(decide (c≤122))=false,(decide (c≥65))=true,(decide (c≤90))=false,(decide (c≥48))=false]) (fn:=Tryz.f80) ah ah ah ⟨h1,h2,h3,h4,h5,h6,trivial⟩
    |false=>
     have q4:=aQ h4
     cases h5:(decide (c≥48)) with
     |true=>
      have q5:=aL h5
      cases h6:(decide (c≤57)) with
      |true=>
       have q6:=aL h6
       have e:cW c=true:=by simp only [cW,h1,h2,h3,h4,h5,h6,cond_true,cond_false]
       rw [e]
       exact CC.ef ok (f:=200) (rv:=none) (hs:=[.auto 1,aF,.auto 1,aI,.auto 1,aF,.auto 3,aF,.auto 4,aI,.auto 1,aI,.auto 2]) (Ps:=[(c==95)=false,(decide (c≥97))=true,(decide (c≤122))=false,(decide (c≥65))=false,(decide (c≥48))=true,(decide (c≤57))=true]) (fn:=Tryz.f80) ah ah ah ⟨h1,h2,h3,h4,h5,h6,trivial⟩
      |false=>
       have q6:=aQ h6
       have e:cW c=false:=by simp only [cW,h1,h2,h3,h4,h5,h6,cond_true,cond_false]
       rw [e]
       exact CC.ef ok (f:=200) (rv:=none) (hs:=[.auto 1,aF,.auto 1,aI,.auto 1,aF,.auto 3,aF,.auto 4,aI,.auto 1,aF,.auto 2]) (Ps:=[(c==95)=false,(decide (c≥97))=true,(decide (c≤122))=false,(decide (c≥65))=false,(decide (c≥48))=true,(decide (c≤57))=false]) (fn:=Tryz.f80) ah ah ah ⟨h1,h2,h3,h4,h5,h6,trivial⟩
     |false=>
      have q5:=aQ h5
      have e:cW c=false:=by simp only [cW,h1,h2,h3,h4,h5,cond_true,cond_false]
      rw [e]
      exact CC.ef ok (f:=200) (rv:=none) (hs:=[.auto 1,aF,.auto 1,aI,.auto 1,aF,.auto 3,aF,.auto 4,aF,.auto 3]) (Ps:=[(c==95)=false,(decide (c≥97))=true,(decide (c≤122))=false,(decide (c≥65))=false,(decide (c≥48))=false]) (fn:=Tryz.f80) ah ah ah ⟨h1,h2,h3,h4,h5,trivial⟩
  |false=>
   have q2:=aQ h2
   cases h3:(decide (c≥65)) with
   |true=>
    have q3:=aL h3
    cases h4:(decide (c≤90)) with
    |true=>
     have q4:=aL h4
     have e:cW c=true:=by simp only [cW,h1,h2,h3,h4,cond_true,cond_false]
     rw [e]
     exact CC.ef ok (f:=200) (rv:=none) (hs:=[.auto 1,aF,.auto 1,aF,.auto 4,aI,.auto 1,aI,.auto 4]) (Ps:=[(c==95)=false,(decide (c≥97))=false,(decide (c≥65))=true,(decide (c≤90))=true]) (fn:=Tryz.f80) ah ah ah ⟨h1,h2,h3,h4,trivial⟩
    |false=>
     have q4:=aQ h4
     cases h5:(decide (c≥48)) with
     |true=>
      have q5:=aL h5
      cases h6:(decide (c≤57)) with
      |true=>
       have q6:=aL h6
       have e:cW c=true:=by simp only [cW,h1,h2,h3,h4,h5,h6,cond_true,cond_false]
       rw [e]
       exact CC.ef ok (f:=200) (rv:=none) (hs:=[.auto 1,aF,.auto 1,aF,.auto 4,aI,.auto 1,aF,.auto 3,aI,.auto 1,aI,.auto 2]) (Ps:=[(c==95)=false,(decide (c≥97))=false,(decide (c≥65))=true,(decide (c≤90))=false,(decide (c≥48))=true,(decide (c≤57))=true]) (fn:=Tryz.f80) ah ah ah ⟨h1,h2,h3,h4,h5,h6,trivial⟩
      |false=>
       have q6:=aQ h6
       have e:cW c=false:=by simp only [cW,h1,h2,h3,h4,h5,h6,cond_true,cond_false]
       rw [e]
       exact CC.ef ok (f:=200) (rv:=none) (hs:=[.auto 1,aF,.auto 1,aF,.auto 4,aI,.auto 1,aF,.auto 3,aI,.auto 1,aF,.auto 2]) (Ps:=[(c==95)=false,(decide (c≥97))=false,(decide (c≥65))=true,(decide (c≤90))=false,(decide (c≥48))=true,(decide (c≤57))=false]) (fn:=Tryz.f80) ah ah ah ⟨h1,h2,h3,h4,h5,h6,trivial⟩
     |false=>
      have q5:=aQ h5
      have e:cW c=false:=by simp only [cW,h1,h2,h3,h4,h5,cond_true,cond_false]
      rw [e]
      exact CC.ef ok (f:=200) (rv:=none) (hs:=[.auto 1,aF,.auto 1,aF,.auto 4,aI,.auto 1,aF,.auto 3,aF,.auto 3]) (Ps:=[(c==95)=false,(decide (c≥97))=false,(decide (c≥65))=true,(decide (c≤90))=false,(decide (c≥48))=false]) (fn:=Tryz.f80) ah ah ah ⟨h1,h2,h3,h4,h5,trivial⟩
   |false=>
    have q3:=aQ h3
    cases h4:(decide (c≥48)) with
    |true=>
     have q4:=aL h4
     cases h5:(decide (c≤57)) with
     |true=>
      have q5:=aL h5
      have e:cW c=true:=by simp only [cW,h1,h2,h3,h4,h5,cond_true,cond_false]
      rw [e]
      exact CC.ef ok (f:=200) (rv:=none) (hs:=[.auto 1,aF,.auto 1,aF,.auto 4,aF,.auto 4,aI,.auto 1,aI,.auto 2]) (Ps:=[(c==95)=false,(decide (c≥97))=false,(decide (c≥65))=false,(decide (c≥48))=true,(decide (c≤57))=true]) (fn:=Tryz.f80) ah ah ah ⟨h1,h2,h3,h4,h5,trivial⟩
     |false=>
      have q5:=aQ h5
      have e:cW c=false:=by simp only [cW,h1,h2,h3,h4,h5,cond_true,cond_false]
      rw [e]
      exact CC.ef ok (f:=200) (rv:=none) (hs:=[.auto 1,aF,.auto 1,aF,.auto 4,aF,.auto 4,aI,.auto 1,aF,.auto 2]) (Ps:=[(c==95)=false,(decide (c≥97))=false,(decide (c≥65))=false,(decide (c≥48))=true,(decide (c≤57))=false]) (fn:=Tryz.f80) ah ah ah ⟨h1,h2,h3,h4,h5,trivial⟩
    |false=>
     have q4:=aQ h4
     have e:cW c=false:=by simp only [cW,h1,h2,h3,h4,cond_true,cond_false]
     rw [e]
     exact CC.ef ok (f:=200) (rv:=none) (hs:=[.auto 1,aF,.auto 1,aF,.auto 4,aF,.auto 4,aF,.auto 3]) (Ps:=[(c==95)=false,(decide (c≥97))=false,(decide (c≥65))=false,(decide (c≥48))=false]) (fn:=Tryz.f80) ah ah ah ⟨h1,h2,h3,h4,trivial⟩
noncomputable def ej:Code:=cz [1,1,0,1,0,0] (bH Tryz.f69)
theorem vG (s:ByteArray):∀(m:Nat) (vz:Int),(0≤vz∧vz≤(s.size:Int)∧(s.size:Int)<2 ^ 62)→((s.size:Int)-vz).toNat=m→
  (qD E (fun _=>True) 32 ej [(0,.string s),(22,.int .i64 (s.size:Int)),(23,.int .i64 vz)] (.exit 0) [])∨
  (qD E (fun _=>True) 32 ej [(0,.string s),(22,.int .i64 (s.size:Int)),(23,.int .i64 vz)] .ret [(2,.bool false)]):=by
 intro m
 induction m using Nat.strongRecOn with
 |_ m ih=>
 intro vz hinv hm
 have hK:Ii E (fun _=>True):=Ii.true
 obtain ⟨i1,i2,i3⟩:=hinv
 cases h1:(decide (vz<(s.size:Int))) with
 |true=>
  have q1:=aL h1
  cases h2:(cW (ak s vz)) with
  |true=>
   have hc:E4 E (fun _=>True) 32 ej [(0,.string s),(22,.int .i64 (s.size:Int)),(23,.int .i64 vz)] .normal [(0,.string s),(22,.int .i64 (s.size:Int)),(23,.int .i64 (vz+1))]:=fun H wf dy hk=>by
     exact ⟨_,Ext.refl wf dy,CG.Bj ok (f:=200) (hs:=[aI,.auto 3,.ck,.call (.bool true) H [],.auto 0,.as (.int .i64 (vz+1)),.auto 0]) (Ps:=[(decide (vz<(s.size:Int)))=true,0≤vz,vz<(s.size:Int),CC E 80 [.int .u8 (ak s vz)] H (.ret (.bool true)) H [],((.int .i64 (IntKind.i64.wrap (vz+1))):Value)=(.int .i64 (vz+1)),(some (.string s):Option Value)=some (.string s),(some (.int .i64 (s.size:Int)):Option Value)=some (.int .i64 (s.size:Int)),(some (.int .i64 (vz+1)):Option Value)=some (.int .i64 (vz+1))]) (pre:=[(0,.string s),(22,.int .i64 (s.size:Int)),(23,.int .i64 vz)]) (post:=[(0,.string s),(22,.int .i64 (s.size:Int)),(23,.int .i64 (vz+1))]) ah ⟨h1,aa,aa,h2▸Ci (ak s vz) H,Wx,rfl,rfl,rfl,trivial⟩⟩
   rcases ih _ aa (vz+1) (by refine ⟨?_,?_,?_⟩ <;> omega) rfl with hn |hn
   ·exact (.inl (qD.next hK hc hn))
   ·exact (.inr (qD.next hK hc hn))
  |false=>
   have hc:E4 E (fun _=>True) 32 ej [(0,.string s),(22,.int .i64 (s.size:Int)),(23,.int .i64 vz)] .ret [(2,.bool false)]:=fun H wf dy hk=>by
     exact ⟨_,Ext.refl wf dy,CG.Bj ok (f:=200) (hs:=[aI,.auto 3,.ck,.call (.bool false) H [],.auto 1]) (Ps:=[(decide (vz<(s.size:Int)))=true,0≤vz,vz<(s.size:Int),CC E 80 [.int .u8 (ak s vz)] H (.ret (.bool false)) H [],(some (.bool false):Option Value)=some (.bool false)]) (pre:=[(0,.string s),(22,.int .i64 (s.size:Int)),(23,.int .i64 vz)]) (post:=[(2,.bool false)]) ah ⟨h1,aa,aa,h2▸Ci (ak s vz) H,rfl,trivial⟩⟩
   exact (.inr (qD.last hc aj))
 |false=>
  have q1:=aQ h1
  have hc:E4 E (fun _=>True) 32 ej [(0,.string s),(22,.int .i64 (s.size:Int)),(23,.int .i64 vz)] (.exit 0) []:=fun H wf dy hk=>by
    exact ⟨_,Ext.refl wf dy,CG.Bj ok (f:=200) (hs:=[aF]) (Ps:=[(decide (vz<(s.size:Int)))=false]) (pre:=[(0,.string s),(22,.int .i64 (s.size:Int)),(23,.int .i64 vz)]) (post:=[]) ah ⟨h1,trivial⟩⟩
  exact (.inl (qD.last hc aj))
theorem isName (s:ByteArray) (hs:(s.size:Int)<2 ^ 62):∃ b:Bool,Pure E (fun _=>True) 69 [.string s] (.bool b):=by
 cases h1:(s.toList==(⟨#[]⟩:ByteArray).toList) with
 |true=>
  have q1:=sI h1
  refine ⟨false,fun H wf dy hk=>?_⟩
  exact ⟨_,Ext.refl wf dy,CC.ef ok (f:=200) (rv:=none) (hs:=[.auto 1,aI,.auto 4]) (Ps:=[(s.toList==(⟨#[]⟩:ByteArray).toList)=true]) (fn:=Tryz.f69) ah ah ah ⟨h1,trivial⟩⟩
 |false=>
  have q1:=lG h1
  cases h2:(decide ((s.size:Int)>200)) with
  |true=>
   have q2:=aL h2
   refine ⟨false,fun H wf dy hk=>?_⟩
   exact ⟨_,Ext.refl wf dy,CC.ef ok (f:=200) (rv:=none) (hs:=[.auto 1,aF,.auto 2,aI,.auto 3]) (Ps:=[(s.toList==(⟨#[]⟩:ByteArray).toList)=false,(decide ((s.size:Int)>200))=true]) (fn:=Tryz.f69) ah ah ah ⟨h1,h2,trivial⟩⟩
  |false=>
   have q2:=aQ h2
   cases h3:(decide ((ak s 0)≥48)) with
   |true=>
    have q3:=aL h3
    cases h4:(decide ((ak s 0)≤57)) with
    |true=>
     have q4:=aL h4
     refine ⟨false,fun H wf dy hk=>?_⟩
     exact ⟨_,Ext.refl wf dy,CC.ef ok (f:=200) (rv:=none) (hs:=[.auto 1,aF,.auto 2,aF,.auto 2,.ck,aI,.auto 1,.ck,aI,.auto 2]) (Ps:=[(s.toList==(⟨#[]⟩:ByteArray).toList)=false,(decide ((s.size:Int)>200))=false,0≤(0:Int),(0:Int)<(s.size:Int),(decide ((ak s 0)≥48))=true,0≤(0:Int),(0:Int)<(s.size:Int),(decide ((ak s 0)≤57))=true]) (fn:=Tryz.f69) ah ah ah ⟨h1,h2,aa,aa,h3,aa,aa,h4,trivial⟩⟩
    |false=>
     have q4:=aQ h4
     rcases vG s _ 0 (by refine ⟨?_,?_,?_⟩ <;> omega) rfl with g5 |g5
     ·refine ⟨true,fun H wf dy hk=>?_⟩
      have y1:=Ext.refl wf dy
      obtain ⟨H1,x1,c1⟩:=g5.code _ y1.wf y1.ng trivial
      have z1:=y1.trans x1
      have n1:H.n+0≤H1.n:=x1.n
      exact ⟨_,z1,CC.ef ok (f:=200) (rv:=none) (hs:=[.auto 1,aF,.auto 2,aF,.auto 2,.ck,aI,.auto 1,.ck,aF,.auto 4,.loop [0,22,23] (.exit 0) (bw []) H1 [],.auto 0]) (Ps:=[(s.toList==(⟨#[]⟩:ByteArray).toList)=false,(decide ((s.size:Int)>200))=false,0≤(0:Int),(0:Int)<(s.size:Int),(decide ((ak s 0)≥48))=true,0≤(0:Int),(0:Int)<(s.size:Int),(decide ((ak s 0)≤57))=false,CG E 32 (.loop ej) (bw [(0,.string s),(22,.int .i64 (s.size:Int)),(23,.int .i64 0)]) H [] (.exit 0) (bw []) H1 [] []]) (fn:=Tryz.f69) ah ah ah ⟨h1,h2,aa,aa,h3,aa,aa,h4,c1,trivial⟩⟩
     ·refine ⟨false,fun H wf dy hk=>?_⟩
      have y1:=Ext.refl wf dy
      obtain ⟨H1,x1,c1⟩:=g5.code _ y1.wf y1.ng trivial
      have z1:=y1.trans x1
      have n1:H.n+0≤H1.n:=x1.n
      exact ⟨_,z1,CC.ef ok (f:=200) (rv:=none) (hs:=[.auto 1,aF,.auto 2,aF,.auto 2,.ck,aI,.auto 1,.ck,aF,.auto 4,.loop [0,22,23] .ret (bw [(2,.bool false)]) H1 []]) (Ps:=[(s.toList==(⟨#[]⟩:ByteArray).toList)=false,(decide ((s.size:Int)>200))=false,0≤(0:Int),(0:Int)<(s.size:Int),(decide ((ak s 0)≥48))=true,0≤(0:Int),(0:Int)<(s.size:Int),(decide ((ak s 0)≤57))=false,CG E 32 (.loop ej) (bw [(0,.string s),(22,.int .i64 (s.size:Int)),(23,.int .i64 0)]) H [] .ret (bw [(2,.bool false)]) H1 [] []]) (fn:=Tryz.f69) ah ah ah ⟨h1,h2,aa,aa,h3,aa,aa,h4,c1,trivial⟩⟩
   |false=>
    have q3:=aQ h3
    rcases vG s _ 0 (by refine ⟨?_,?_,?_⟩ <;> omega) rfl with g4 |g4
    ·refine ⟨true,fun H wf dy hk=>?_⟩
     have y1:=Ext.refl wf dy
     obtain ⟨H1,x1,c1⟩:=g4.code _ y1.wf y1.ng trivial
     have z1:=y1.trans x1
     have n1:H.n+0≤H1.n:=x1.n
     exact ⟨_,z1,CC.ef ok (f:=200) (rv:=none) (hs:=[.auto 1,aF,.auto 2,aF,.auto 2,.ck,aF,.auto 5,.loop [0,22,23] (.exit 0) (bw []) H1 [],.auto 0]) (Ps:=[(s.toList==(⟨#[]⟩:ByteArray).toList)=false,(decide ((s.size:Int)>200))=false,0≤(0:Int),(0:Int)<(s.size:Int),(decide ((ak s 0)≥48))=false,CG E 32 (.loop ej) (bw [(0,.string s),(22,.int .i64 (s.size:Int)),(23,.int .i64 0)]) H [] (.exit 0) (bw []) H1 [] []]) (fn:=Tryz.f69) ah ah ah ⟨h1,h2,aa,aa,h3,c1,trivial⟩⟩
    ·refine ⟨false,fun H wf dy hk=>?_⟩
     have y1:=Ext.refl wf dy
     obtain ⟨H1,x1,c1⟩:=g4.code _ y1.wf y1.ng trivial
     have z1:=y1.trans x1
     have n1:H.n+0≤H1.n:=x1.n
     exact ⟨_,z1,CC.ef ok (f:=200) (rv:=none) (hs:=[.auto 1,aF,.auto 2,aF,.auto 2,.ck,aF,.auto 5,.loop [0,22,23] .ret (bw [(2,.bool false)]) H1 []]) (Ps:=[(s.toList==(⟨#[]⟩:ByteArray).toList)=false,(decide ((s.size:Int)>200))=false,0≤(0:Int),(0:Int)<(s.size:Int),(decide ((ak s 0)≥48))=false,CG E 32 (.loop ej) (bw [(0,.string s),(22,.int .i64 (s.size:Int)),(23,.int .i64 0)]) H [] .ret (bw [(2,.bool false)]) H1 [] []]) (fn:=Tryz.f69) ah ah ah ⟨h1,h2,aa,aa,h3,c1,trivial⟩⟩
structure M where
 op:Int
 name:ByteArray
 value:ByteArray
inductive X where
 |mk (kind op V:Int) (S:ByteArray) (ms:List M) (wide off:Int) (WV:Bool) (at_ how:Int) (names:List ByteArray) (bl:Bool) (kids:List X)
def abS (H:Hp) (b:Nat):Nat→List M→Prop
 |_,[]=>True
 |off,m::l=>row H b off 3=some [.int .i64 m.op,.string m.name,.string m.value]∧abS H b (off+3) l
def abT (H:Hp) (b:Nat):Nat→List ByteArray→Prop
 |_,[]=>True
 |off,s::l=>row H b off 1=some [.string s]∧abT H b (off+1) l
def YU (v:Value) (n:Nat) (P:Nat→Nat→Prop):Prop:=(v=.slice none 0 0∧n=0)∨∃ b off c,v=.slice (some ⟨b,off,none⟩) n c∧P b off
mutual
def ac7 (H:Hp):X→Value→Prop
 |.mk kind op V S ms wide off WV at_ how names bl kids,v=>∃ vm vn vk,v=.agg #[.int .i64 kind,.int .i64 op,.int .u64 V,.string S,vm,.int .i64 wide,.int .i64 off,.bool WV,.int .i64 at_,.int .i64 how,vn,.bool bl,vk]∧
   YU vm ms.length (fun b o=>abS H b o ms)∧YU vn names.length (fun b o=>abT H b o names)∧YU vk kids.length (fun b o=>WG H kids b o)
def WG (H:Hp):List X→Nat→Nat→Prop
 |[],_,_=>True
 |x::l,b,off=>(∃ cs,row H b off 13=some cs∧ac7 H x (.agg cs.toArray))∧WG H l b (off+13)
end
theorem nV:E.func 122=some Tryz.f122:=ah
theorem nW:bO Tryz.f122 1=true:=ah
noncomputable abbrev FF  (l_:List Hint):=au 1::aF::au 1::aF::au 2::aI::au 1::aF::au 3::aI::au 1::l_
theorem Jl (c:Int) {H:Hp} (y:Gd E G H):aD E G 122 [uB c] H [] (fun v H'=>∃(b:Bool),v=(.bool b)):=by
 have g0:=y.n
 cases h1:(c==95) with
 |true=>
  have q1:=bW h1
  exact bA y [au 1,aI,au 6] (.bool true) H nV nW (cF h1 aS) ⟨true,rfl⟩
 |false=>
  have q1:=bK h1
  cases h2:(c==58) with
  |true=>
   have q2:=bW h2
   exact bA y [au 1,aF,au 1,aI,au 5] (.bool true) H nV nW (cU h1 h2 aS) ⟨true,rfl⟩
  |false=>
   have q2:=bK h2
   cases h3:(decide (c≥97)) with
   |true=>
    have q3:=aL h3
    cases h4:(decide (c≤122)) with
    |true=>
     have q4:=aL h4
     exact bA y [au 1,aF,au 1,aF,au 2,aI,au 1,aI,au 4] (.bool true) H nV nW (gm h1 h2 h3 h4 aS) ⟨true,rfl⟩
    |false=>
     have q4:=aQ h4
     cases h5:(decide (c≥65)) with
     |true=>
      have q5:=aL h5
      cases h6:(decide (c≤90)) with
      |true=>
       have q6:=aL h6
       exact bA y (FF  [aI,au 2]) (.bool true) H nV nW (fG h1 h2 h3 h4 h5 h6 aS) ⟨true,rfl⟩
      |false=>
       have q6:=aQ h6
       exact bA y (FF  [aF,au 2]) (.bool false) H nV nW (fG h1 h2 h3 h4 h5 h6 aS) ⟨false,rfl⟩
     |false=>
      have q5:=aQ h5
      exact bA y [au 1,aF,au 1,aF,au 2,aI,au 1,aF,au 3,aF,au 3] (.bool false) H nV nW (eM h1 h2 h3 h4 h5 aS) ⟨false,rfl⟩
   |false=>
    have q3:=aQ h3
    cases h4:(decide (c≥65)) with
    |true=>
     have q4:=aL h4
     cases h5:(decide (c≤90)) with
     |true=>
      have q5:=aL h5
      exact bA y [au 1,aF,au 1,aF,au 2,aF,au 4,aI,au 1,aI,au 2] (.bool true) H nV nW (eM h1 h2 h3 h4 h5 aS) ⟨true,rfl⟩
     |false=>
      have q5:=aQ h5
      exact bA y [au 1,aF,au 1,aF,au 2,aF,au 4,aI,au 1,aF,au 2] (.bool false) H nV nW (eM h1 h2 h3 h4 h5 aS) ⟨false,rfl⟩
    |false=>
     have q4:=aQ h4
     exact bA y [au 1,aF,au 1,aF,au 2,aF,au 4,aF,au 3] (.bool false) H nV nW (gm h1 h2 h3 h4 aS) ⟨false,rfl⟩
theorem zI (c:Int):∃(b:Bool),∀{H:Hp},Gd E G H→CC E 122 [uB c] H (.ret (.bool b)) H []:=by
 obtain ⟨_,_,c,_,_,b,rfl⟩:=Jl c eZ
 exact ⟨b,fun y=>aW (cq rfl) (.ground rfl) c y⟩
theorem Gk:E.func 124=some Tryz.f124:=ah
theorem Gm:bO Tryz.f124 1=true:=ah
theorem Lb (c:Int) {H:Hp} (y:Gd E G H):aD E G 124 [uB c] H [] (fun v H'=>∃(b:Bool),v=(.bool b)):=by
 have g0:=y.n
 cases h1:(decide (c≥48)) with
 |true=>
  have q1:=aL h1
  cases h2:(decide (c≤57)) with
  |true=>
   have q2:=aL h2
   exact bA y [au 1,aI,au 1,aI,au 1] (.bool true) H Gk Gm (cU h1 h2 aS) ⟨true,rfl⟩
  |false=>
   have q2:=aQ h2
   exact bA y [au 1,aI,au 1,aF,au 1] (.bool false) H Gk Gm (cU h1 h2 aS) ⟨false,rfl⟩
 |false=>
  have q1:=aQ h1
  exact bA y [au 1,aF,au 2] (.bool false) H Gk Gm (cF h1 aS) ⟨false,rfl⟩
theorem tS (c:Int):∃(b:Bool),∀{H:Hp},Gd E G H→CC E 124 [uB c] H (.ret (.bool b)) H []:=by
 obtain ⟨_,_,c,_,_,b,rfl⟩:=Lb c eZ
 exact ⟨b,fun y=>aW (cq rfl) (.ground rfl) c y⟩
theorem lC (s:ByteArray) (hs:(s.size:Int)<2 ^ 62):∃ b:Bool,∀{H:Hp},Gd E G H→CC E 69 [.string s] H (.ret (.bool b)) H []:=by
 obtain ⟨b,h⟩:=isName s hs
 obtain ⟨H1,_,c⟩:=h G NO NM trivial
 exact ⟨b,fun y=>aW (cq rfl) (.ground rfl) c y⟩
theorem Gq:E.func 155=some Tryz.f155:=ah
theorem Gr:bO Tryz.f155 2=true:=ah
theorem Ui:E.func 129=some Tryz.f129:=ah
theorem Uj:bO Tryz.f129 2=true:=ah
theorem KT (s:ByteArray) (c:Int):∃ n:Int,∀{H:Hp},CC E 147 [.string s,.int .u8 c] H (.ret (.int .i64 n)) H []:=by
 have he:∃ n:Int,Extern.BytealgIndexByte.indexByte #[.string s,.int .u8 c]=pure (.int .i64 n):=by
  have e0:Extern.BytealgIndexByte.indexByte #[.string s,.int .u8 c]=(match (List.range s.size).find? fun i=>s[i]! == c.toNat.toUInt8 with |some i=>(pure (goInt i):Sem Value) |none=>pure (goInt (-1))):=rfl
  rw [e0]
  split
  ·exact ⟨_,rfl⟩
  ·exact ⟨_,rfl⟩
 obtain ⟨n,hn⟩:=he
 exact ⟨n,fun {H}=>CC.extern ok (fn:=Tryz.f147) (e:=Extern.BytealgIndexByte.indexByte) ah ah ah ah ah rfl rfl hn⟩
theorem My:E.func 121=some Tryz.f121:=ah
theorem Mz:bO Tryz.f121 2=true:=ah
theorem G3 (s:ByteArray) (c:Int) {H:Hp} (y:Gd E G H):aD E G 121 [.string s,uB c] H [] (fun v H'=>∃(n:Int),v=(iI n)):=by
 have g0:=y.n
 obtain ⟨n0,h0_⟩:=KT s c
 exact bA y [au 2,.call (iI n0) H [],au 0] (iI n0) H My Mz (cF (show CC E 147 [.string s,uB c] H (.ret (iI n0)) H [] from h0_) aS) ⟨n0,rfl⟩
theorem KU (s:ByteArray) (c:Int):∃(n:Int),∀{H:Hp},Gd E G H→CC E 121 [.string s,uB c] H (.ret (iI n)) H []:=by
 obtain ⟨_,_,c,_,_,n,rfl⟩:=G3 s c eZ
 exact ⟨n,fun y=>aW (cq rfl) (.ground rfl) c y⟩
theorem Ml:E.func 103=some Tryz.f103:=ah
theorem Mm:bO Tryz.f103 2=true:=ah
theorem I4 (s:ByteArray) (c:Int) {H:Hp} (y:Gd E G H):aD E G 103 [.string s,uB c] H [] (fun v H'=>∃(n:Int),v=(iI n)):=by
 have g0:=y.n
 obtain ⟨n0,h0_⟩:=KU s c
 exact bA y [au 2,.call (iI n0) H [],au 0] (iI n0) H Ml Mm (cF (show CC E 121 [.string s,uB c] H (.ret (iI n0)) H [] from h0_ y) aS) ⟨n0,rfl⟩
theorem indexByte (s:ByteArray) (c:Int):∃(n:Int),∀{H:Hp},Gd E G H→CC E 103 [.string s,uB c] H (.ret (iI n)) H []:=by
 obtain ⟨_,_,c,_,_,n,rfl⟩:=I4 s c eZ
 exact ⟨n,fun y=>aW (cq rfl) (.ground rfl) c y⟩
theorem gk (s:ByteArray) (k:Nat):(s.extract k s.size).size=s.size-k:=by rw [ByteArray.size_extract];omega
theorem Wl (s:ByteArray) (k i:Nat) (h:k≤s.size):(s.extract k s.size).extract i (s.extract k s.size).size=s.extract (k+i) s.size:=by
 rw [gk,ByteArray.extract_extract];congr 1;omega
theorem SP (s:ByteArray):s.extract 0 s.size=s:=ByteArray.extract_zero_size
theorem Ke (s:ByteArray) (k:Nat) (i:Int) (h0:0≤i) (h1:(k:Int)+i<s.size):ak (s.extract k s.size) i=ak s (k+i):=by
 unfold ak
 rw [ByteArray.data_extract,Array.getElem?_extract]
 have hs:s.data.size=s.size:=rfl
 rw [if_pos aa]
 have:k+i.toNat=(k+i:Int).toNat:=aa
 rw [this]
theorem eA (s:ByteArray) (i:Int):0≤ak s i:=by unfold ak;omega
theorem eR (s:ByteArray) (i:Int):ak s i<256:=by
 unfold ak
 have:=UInt8.toNat_lt (s.data[i.toNat]?.getD 0)
 omega
theorem sound:Sound E:=by
 refine ⟨ok,fun f fn h=>?_,fun g p h=>?_,fun g p h=>?_⟩
 ·have key:∀(l:List Func),l.all (fun fn=>!(fn.name== "runtime.NumGoroutine"))=true→∀(i:Nat) fn,l[i]?=some fn→(fn.name== "runtime.NumGoroutine")=false:=by
   intro l hl i fn hi
   have:=List.all_eq_true.1 hl fn (List.mem_of_getElem? hi)
   simpa using this
  refine key Tryz.prog.funcs.toList ah f fn ?_
  have h:Tryz.prog.funcs[f]?=some fn:=h
  simpa using h
 ·cases h
 ·cases h
noncomputable def runs (f:Nat) (g:FuncId) (args:List Value):Option (Value×Bool):=
 match Ag E f g args G with
 |some (.ret v,H',W)=>some (v,W.all fun q=>Nat.ble 31 q&&Nat.blt q H'.n)
 |_=>none
theorem ran {f:Nat} {g:FuncId} {args:List Value} {v:Value} (h:runs f g args=some (v,true)):∃ G1,CC E g args G (.ret v) G1 []:=by
 unfold runs at h
 split at h
 ·rename_i v1 H1 W hr
  simp only [Option.some.injEq,Prod.mk.injEq] at h
  obtain ⟨rfl,hw⟩:=h
  have c:CC E g args G (.ret v1) H1 W:=BB sound f g args G _ _ _ hr
  refine ⟨H1,c.norm fun q hq=>.inr ?_⟩
  have:=List.all_eq_true.1 hw q hq
  simp only [Bool.and_eq_true,Nat.blt_eq] at this
  have h1:=dm this.1
  rw [vR];omega
 ·cases h
theorem V7 {f:Nat} {g:FuncId} {args:List Value} {v:Value} (h:runs f g args=some (v,true)) (ha:∀ x∈args,iE x) (hv:iE v) {H:Hp} (y:Gd E G H):CC E g args H (.ret v) H []:=by
 obtain ⟨G1,c⟩:=ran h
 exact aW ha hv c y
noncomputable def setCells (l:List Nat):List Value:=(List.range 256).map fun i=>.bool (l.contains i)
theorem Ip {H:Hp} (y:Gd E G H):CC E 178 [.string ⟨#[48,49,50,51,52,53,54,55,56,57]⟩] H (.ret (.tuple #[.agg (setCells [48,49,50,51,52,53,54,55,56,57]).toArray,.bool true])) H []:=
 V7 (f:=200) ah (cq rfl) (.tuple fun x hx=>by
  simp only [List.mem_cons,aH,or_false] at hx
  rcases hx with rfl |rfl
  ·exact .ground ah
  ·exact .ground rfl) y
theorem Ka {H:Hp} (y:Gd E G H):CC E 178 [.string ⟨#[121,119,100,104,109,115]⟩] H (.ret (.tuple #[.agg (setCells [121,119,100,104,109,115]).toArray,.bool true])) H []:=
 V7 (f:=200) ah (cq rfl) (.tuple fun x hx=>by
  simp only [List.mem_cons,aH,or_false] at hx
  rcases hx with rfl |rfl
  ·exact .ground ah
  ·exact .ground rfl) y
def Ae (D:Int→Prop) (s x:ByteArray):Prop:=∃ k:Nat,k≤s.size∧x=s.extract k s.size∧∀ i:Int,0≤i→i<k→D (ak s i)
theorem Ae.refl (D:Int→Prop) (s:ByteArray):Ae D s s:=⟨0,by omega,(SP s).symm,fun i h0 h1=>by omega⟩
theorem Ae.size {D:Int→Prop} {s x:ByteArray} (h:Ae D s x):x.size≤s.size:=by
 obtain ⟨k,h1,rfl,h3⟩:=h
 rw [gk];omega
theorem Ae.trans {D:Int→Prop} {s x z:ByteArray} (h:Ae D s x) (k:Ae D x z):Ae D s z:=by
 obtain ⟨a,h1,rfl,h3⟩:=h
 obtain ⟨b,k1,rfl,k3⟩:=k
 rw [gk] at k1
 refine ⟨a+b,by omega,Wl s a b h1,fun i h0 hi=>?_⟩
 by_cases hia:i<a
 ·exact h3 i h0 hia
 ·have:=k3 (i-a) aa aa
  rw [Ke s a (i-a) aa aa] at this
  rwa [show (a:Int)+(i-a)=i by omega] at this
theorem Ae.one {D:Int→Prop} {s:ByteArray} (h:0<(s.size:Int)) (hd:D (ak s 0)):Ae D s (s.extract (1:Int).toNat s.size):=
 ⟨1,by omega,rfl,fun i h0 h1=>by
  have:i=0:=aa
  subst this;exact hd⟩
theorem Ae.next {D:Int→Prop} {s x:ByteArray} (h:Ae D s x) (h1:0<(x.size:Int)) (hd:D (ak x 0)):Ae D s (x.extract (1:Int).toNat x.size):=h.trans (.one h1 hd)
theorem Ae.mono {D F:Int→Prop} {s x:ByteArray} (h:Ae D s x) (hd:∀ c,D c→F c):Ae F s x:=by
 obtain ⟨k,h1,h2,h3⟩:=h
 exact ⟨k,h1,h2,fun i a b=>hd _ (h3 i a b)⟩
theorem Ae.all {D:Int→Prop} {s x:ByteArray} (h:Ae D s x) (h0:x.size=0):∀ i:Int,0≤i→i<s.size→D (ak s i):=by
 obtain ⟨k,h1,rfl,h3⟩:=h
 rw [gk] at h0
 exact fun i a b=>h3 i a aa
def E3 (D:Int→Prop) (cs:List Value):Prop:=∀ c:Int,0≤c→c<256→∃ v:Bool,cs[c.toNat]?=some (.bool v)∧(v=true→D c)
theorem E3.of (l:List Nat) {D:Int→Prop} (h:∀ n∈l,D (n:Int)):E3 D (setCells l):=fun c h0 h1=>by
 refine ⟨l.contains c.toNat,?_,fun hv=>?_⟩
 ·unfold setCells
  rw [List.getElem?_map,List.getElem?_range aa];rfl
 ·have:=h c.toNat (by simpa using hv)
  rwa [show ((c.toNat:Nat):Int)=c by omega] at this
def Xq (c:Int):Prop:=48≤c∧c≤57
theorem TZ:E3 Xq (setCells [48,49,50,51,52,53,54,55,56,57]):=.of _ fun n hn=>by
 simp only [List.mem_cons,aH,or_false] at hn
 unfold Xq;omega
theorem UH:E.func 187=some Tryz.f187:=ah
theorem UI:bO Tryz.f187 2=true:=ah
theorem EE (c:Int) (b:Nat) (cs:List Value) (D:Int→Prop) {H:Hp} (y:Gd E G H) (kb:H.get b=some (.cells cs 240 false)) (zu:E3 D cs) (h0:0≤c) (h1:c<256):aD E G 187 [pt b 0,uB c] H [] (fun v H'=>∃ x:Bool,v=.bool x∧(x=true→D c)):=by
 have g0:=y.n
 have Hi:=y.wf.lt kb
 have w1:0≤c:=aa
 have w2:c<(256:Int):=aa
 obtain ⟨v,hv,hd⟩:=zu c h0 h1
 have w3:aq E 4 b (0+c.toNat*1) H=some (.bool v):=bQ kY kb (by simpa using hv)
 exact bA y [au 3,.ck,vl (.bool v) H,au 0] (.bool v) H UH UI (eY w1 w2 w3 aS) ⟨v,rfl,hd⟩
noncomputable def IB:Code:=cz [1,0,0,0] (bH Tryz.f179)
theorem K0 (s:ByteArray) (b:Nat) (cs:List Value) (D:Int→Prop):∀(m:Nat) (x0:ByteArray) (H:Hp),Gd E G H→(kb:H.get b=some (.cells cs 240 false))→(i0:Ae D s x0)→(zu:E3 D cs)→x0.size=m→
  aA E G 16 IB [(0,.string x0),(1,pt b 0)] H [] (fun x T H'=>(x=(.exit 0)∧∃(z0:ByteArray),T=bw [(0,.string z0)]∧(Ae D s z0))):=by
 intro m
 induction m using Nat.strongRecOn with
 |_ m ih=>
 intro x0 H y kb i0 zu hm
 have g0:=y.n
 have hb:=y.wf.lt kb
 have Hi:=y.wf.lt kb
 cases h1:(decide ((x0.size:Int)>0)) with
 |true=>
  have q1:=aL h1
  have w1:0≤(0:Int):=aa
  have w2:(0:Int)<(x0.size:Int):=aa
  obtain ⟨_,H1,c1,bN,y1,bw1,rfl,adE⟩:=EE (ak x0 0) b cs D y kb zu (eA _ _) (eR _ _)
  have jq:H.n+0≤H1.n:=bN.n
  have g1:=y1.n
  cases bw1 with
  |true=>
   have w3:0≤(1:Int):=aa
   have w4:(1:Int)≤(x0.size:Int):=aa
   have gN:=y.kept bN aH kb
   exact aA.next' y (bf [au 1,aI,au 1,.ck,.call (.bool true) H1 [],au 1,.ck,au 0] [(0,.string (x0.extract (1:Int).toNat x0.size)),(1,pt b 0)] .normal H1 [] (fun _ r_=>fG h1 w1 w2 c1 w3 w4 r_)) aM (ih _ (by simp only [ByteArray.size_extract];omega) (x0.extract (1:Int).toNat x0.size) _ y1 gN (i0.next aa (adE rfl)) zu rfl)
  |false=>
   exact aA.last' y (bf [au 1,aI,au 1,.ck,.call (.bool false) H1 [],au 0] [(0,.string x0)] (.exit 0) H1 [] (fun _ r_=>gm h1 w1 w2 c1 r_)) aj aM aM ⟨rfl,x0,rfl,i0⟩
 |false=>
  have q1:=aQ h1
  exact aA.last' y (bf [au 1,aF] [(0,.string x0)] (.exit 0) H [] (fun _ r_=>cF h1 r_)) aj aM aM ⟨rfl,x0,rfl,i0⟩
theorem Uz:E.func 179=some Tryz.f179:=ah
theorem UA:bO Tryz.f179 2=true:=ah
theorem vO (s:ByteArray) (b:Nat) (cs:List Value) (D:Int→Prop) {H:Hp} (y:Gd E G H) (kb:H.get b=some (.cells cs 240 false)) (zu:E3 D cs):aD E G 179 [.string s,pt b 0] H [] (fun v H'=>∃ x,v=.string x∧Ae D s x):=by
 have g0:=y.n
 have Hi:=y.wf.lt kb
 obtain ⟨_,_,H1,c1,bN,y1,rfl,jh,rfl,cw⟩:=(K0 s b cs D _ s _ y kb (Ae.refl D s) zu rfl).code
 have jq:H.n+0≤H1.n:=bN.n
 have g1:=y1.n
 exact bA y [au 0,.loop [0,1] (.exit 0) (bw [(0,.string jh)]) H1 [],au 1] (.string jh) H1 Uz UA (cF c1 aS) ⟨_,rfl,cw⟩
theorem Ba:E.func 166=some Tryz.f166:=ah
theorem Bb:bO Tryz.f166 2=true:=ah
noncomputable abbrev FB H:=news H [.cells (setCells [48,49,50,51,52,53,54,55,56,57]) 240 false]
theorem LL (s:ByteArray) {H:Hp} (y:Gd E G H):aD E G 166 [.string s,.string ⟨#[48,49,50,51,52,53,54,55,56,57]⟩] H [] (fun v H'=>∃ x,v=.string x∧Ae Xq s x):=by
 have g0:=y.n
 cases h1:(s.toList==(⟨#[]⟩:ByteArray).toList) with
 |true=>
  have q1:=sI h1
  exact bA y [au 1,aI,au 3] (.string s) H Ba Bb (cF h1 aS) ⟨_,rfl,.refl _ _⟩
 |false=>
  have q1:=lG h1
  obtain ⟨_,H1,c1,bN,y1,z1,rfl,Vj⟩:=vO s (H.n+0) _ Xq (y.news [.cells (setCells [48,49,50,51,52,53,54,55,56,57]) 240 false]) (aB [.cells (setCells [48,49,50,51,52,53,54,55,56,57]) 240 false] H 0 _ rfl) TZ
  have jq:H.n+1≤H1.n:=by have h:=bN.n;rw [bF] at h;exact h
  have g1:=y1.n
  have bz:=(y.news [.cells (setCells [48,49,50,51,52,53,54,55,56,57]) 240 false]).kept bN aH (aB [.cells (setCells [48,49,50,51,52,53,54,55,56,57]) 240 false] H 0 _ rfl)
  exact aD.mk y (dj [au 1,aF,au 9,.call (.tuple #[.agg (setCells [48,49,50,51,52,53,54,55,56,57]).toArray,.bool true]) H [],au 3,vl bJ (FB H),au 2,.call (.string z1) H1 [],au 0] (.string z1) H1 [H.n+0] Ba Bb (gm h1 (show CC E 178 [.string ⟨#[48,49,50,51,52,53,54,55,56,57]⟩] H (.ret (.tuple #[.agg (setCells [48,49,50,51,52,53,54,55,56,57]).toArray,.bool true])) H [] from Ip y) (show az E 240 (H.n+0) 0 (.agg (setCells [48,49,50,51,52,53,54,55,56,57]).toArray) (news H [.cells (List.replicate 256 (.bool false)) 240 false])=some (FB H) from cN FU rfl ah ah rfl) c1 aS)) aG aM ⟨_,rfl,Vj⟩
theorem Eh (s:ByteArray):∃(x:ByteArray),(Ae Xq s x)∧∀{H:Hp},Gd E G H→CC E 166 [.string s,.string ⟨#[48,49,50,51,52,53,54,55,56,57]⟩] H (.ret (.string x)) H []:=by
 obtain ⟨_,_,c,_,_,x,rfl,hs⟩:=LL s eZ
 exact ⟨x,hs,fun y=>aW (cq rfl) (.ground rfl) c y⟩
def Pl (c:Int):Prop:=(48≤c∧c≤57)∨c=46∨c=101∨c=69∨c=43∨c=45
theorem tE (c:Int) (h:Xq c):Pl c:=.inl h
theorem I3 (t:ByteArray) (c:Int) (hc0:0≤c) (HW:c<256):∃ n:Int,(0≤n→∃ i,i<t.size∧ak t i=c)∧∀{H:Hp},Gd E G H→CC E 103 [.string t,.int .u8 c] H (.ret (.int .i64 n)) H []:=by
 have he:∃ n:Int,(0≤n→∃ i,i<t.size∧ak t i=c)∧Extern.BytealgIndexByte.indexByte #[.string t,.int .u8 c]=pure (.int .i64 n):=by
  have e0:Extern.BytealgIndexByte.indexByte #[.string t,.int .u8 c]=(match (List.range t.size).find? fun i=>t[i]! == c.toNat.toUInt8 with |some i=>(pure (goInt i):Sem Value) |none=>pure (goInt (-1))):=rfl
  rw [e0]
  split
  ·rename_i i hi
   refine ⟨_,fun _=>⟨i,?_,?_⟩,rfl⟩
   ·have:=List.mem_of_find?_eq_some hi;simpa using this
   ·have h1:=List.find?_some hi
    have h2:i<t.size:=by have:=List.mem_of_find?_eq_some hi;simpa using this
    have h3:t[i]! = c.toNat.toUInt8:=by simpa using h1
    obtain ⟨b,hb,hbe⟩:=Iv (s:=t) (n:=(i:Int)) aa aa
    rw [hbe]
    have h4:t[i]! = b:=by
     have:t[i]?=some b:=by simpa using hb
     rw [getElem!_def,this]
    rw [h4] at h3
    rw [h3]
    have:c.toNat<256:=aa
    have e:(c.toNat.toUInt8).toNat=c.toNat:=by simp [Nat.toUInt8,UInt8.toNat_ofNat',Nat.mod_eq_of_lt this]
    rw [e];omega
  ·exact ⟨-1,fun h=>absurd h aa,rfl⟩
 obtain ⟨n,hin,hn⟩:=he
 have adh:∀{H:Hp},CC E 147 [.string t,.int .u8 c] H (.ret (.int .i64 n)) H []:=fun {H}=>CC.extern ok (fn:=Tryz.f147) (e:=Extern.BytealgIndexByte.indexByte) ah ah ah ah ah rfl rfl hn
 have adg:∀{H:Hp},CC E 121 [.string t,.int .u8 c] H (.ret (.int .i64 n)) H []:=fun {H}=>CC.hH ok (f:=300) (hs:=[.auto 2,.call (.int .i64 n) H [],.auto 0]) My Mz (abj (adh (H:=H)) trivial) ah
 exact ⟨n,hin,fun {H} y=>CC.hH ok (f:=300) (hs:=[.auto 2,.call (.int .i64 n) H [],.auto 0]) Ml Mm (abj (adg (H:=H)) trivial) ah⟩
theorem Ut:E.func 165=some Tryz.f165:=ah
theorem Uu:bO Tryz.f165 1=true:=ah
theorem qb (b:Nat) (s:ByteArray) {H:Hp} (y:Gd E G H) (kb:H.get b=some (.cells [.string s] 9 false)) (gb:G.n≤b):aD E G 165 [pt b 0] H [b] (fun v H'=>∃ n x,v=.int .i64 n∧H'.get b=some (.cells [.string x] 9 false)∧Ae Xq s x):=by
 have g0:=y.n
 have Hi:=y.wf.lt kb
 have w1:aq E 9 b 0 H=some (.string s):=bQ bB kb rfl
 obtain ⟨x1,hx1,cx1⟩:=Eh s
 obtain ⟨K1,e1⟩:∃ K_,K_=H.set b (.cells [.string x1] 9 false):=⟨_,rfl⟩
 have y1:Gd E G K1:=e1▸y.set _ aa aa
 have jq:K1.n=H.n+0:=by rw [e1,Hp.cT] <;> rfl
 have g1:=y1.n
 have gN:=aP e1
 exact aD.mk y (dj [au 0,vl (.string s) H,.call (.string x1) H [],au 0,vl (.string s) H,au 5,vl bJ K1,au 1] (iI (IntKind.i64.wrap ((s.size:Int)-(x1.size:Int)))) K1 [b] Ut Uu (gm w1 (show CC E 166 [.string s,.string ⟨#[48,49,50,51,52,53,54,55,56,57]⟩] H (.ret (.string x1)) H [] from cx1 y) w1 (show az E 9 b 0 (.string x1) H=some K1 from (st mP kb rfl rfl).trans (congrArg some e1.symm)) aS)) aj aJ ⟨_,_,rfl,gN,hx1⟩
theorem Gs:E.func 167=some Tryz.f167:=ah
theorem Gt:bO Tryz.f167 2=true:=ah
theorem oe (b:Nat) (s:ByteArray) (t:ByteArray) (D:Int→Prop) {H:Hp} (y:Gd E G H) (kb:H.get b=some (.cells [.string s] 9 false)) (gb:G.n≤b) (hD:∀ c,(∃ i,i<t.size∧ak t i=c)→D c):aD E G 167 [.string t,pt b 0] H [b] (fun v H'=>∃(is:Bool) (x:ByteArray),v=.bool is∧H'.get b=some (.cells [.string x] 9 false)∧Ae D s x):=by
 have g0:=y.n
 have Hi:=y.wf.lt kb
 have w1:aq E 9 b 0 H=some (.string s):=bQ bB kb rfl
 cases h1:(!(s.toList==(⟨#[]⟩:ByteArray).toList)) with
 |true=>
  have q1:=lG ((Bool.not_eq_true' _).mp h1)
  have w2:0≤(0:Int):=aa
  have w3:(0:Int)<(s.size:Int):=aa
  obtain ⟨n1,zo,cn1⟩:=I3 t (ak s 0) (eA _ _) (eR _ _)
  cases h2:(decide (n1≥0)) with
  |true=>
   have q2:=aL h2
   have w4:0≤(1:Int):=aa
   have w5:(1:Int)≤(s.size:Int):=aa
   obtain ⟨K1,e1⟩:∃ K_,K_=H.set b (.cells [.string (s.extract (1:Int).toNat s.size)] 9 false):=⟨_,rfl⟩
   have y1:Gd E G K1:=e1▸y.set _ aa aa
   have jq:K1.n=H.n+0:=by rw [e1,Hp.cT] <;> rfl
   have g1:=y1.n
   have gN:=aP e1
   exact aD.mk y (dj [au 0,vl (.string s) H,aI,au 1,vl (.string s) H,.ck,.call (iI n1) H [],aI,au 2,vl (.string s) H,.ck,vl bJ K1,au 1] (.bool true) K1 [b] Gs Gt (aE w1 h1 w1 w2 w3 (show CC E 103 [.string t,uB (ak s 0)] H (.ret (iI n1)) H [] from cn1 y) h2 w1<|eY w4 w5 (show az E 9 b 0 (.string (s.extract (1:Int).toNat s.size)) H=some K1 from (st mP kb rfl rfl).trans (congrArg some e1.symm)) aS)) aj aJ ⟨_,_,rfl,gN,.one aa (hD _ (zo q2))⟩
  |false=>
   have q2:=aQ h2
   exact aD.mk y (dj [au 0,vl (.string s) H,aI,au 1,vl (.string s) H,.ck,.call (iI n1) H [],aF,au 4] (.bool false) H [] Gs Gt (fk w1 h1 w1 w2 w3 (show CC E 103 [.string t,uB (ak s 0)] H (.ret (iI n1)) H [] from cn1 y) h2 aS)) aM aJ ⟨_,_,rfl,kb,.refl _ _⟩
 |false=>
  have q1:=sI ((Bool.not_eq_false' _).mp h1)
  exact aD.mk y (dj [au 0,vl (.string s) H,aF,au 5] (.bool false) H [] Gs Gt (cU w1 h1 aS)) aM aJ ⟨_,_,rfl,kb,.refl _ _⟩
theorem Ss (c:Int) (h:∃ i:Nat,i<(⟨#[45]⟩:ByteArray).size∧ak ⟨#[45]⟩ i=c):Pl c:=by
 obtain ⟨i,hi,rfl⟩:=h
 have hi:i<1:=hi
 rcases i with _ |i
 ·exact (by show Pl 45;unfold Pl;omega)
 ·omega
theorem Zn (c:Int) (h:∃ i:Nat,i<(⟨#[46]⟩:ByteArray).size∧ak ⟨#[46]⟩ i=c):Pl c:=by
 obtain ⟨i,hi,rfl⟩:=h
 have hi:i<1:=hi
 rcases i with _ |i
 ·exact (by show Pl 46;unfold Pl;omega)
 ·omega
theorem Sr (c:Int) (h:∃ i:Nat,i<(⟨#[101,69]⟩:ByteArray).size∧ak ⟨#[101,69]⟩ i=c):Pl c:=by
 obtain ⟨i,hi,rfl⟩:=h
 have hi:i<2:=hi
 rcases i with _ |_ |i
 ·exact (by show Pl 101;unfold Pl;omega)
 ·exact (by show Pl 69;unfold Pl;omega)
 ·omega
theorem Jz (c:Int) (h:∃ i:Nat,i<(⟨#[43,45]⟩:ByteArray).size∧ak ⟨#[43,45]⟩ i=c):Pl c:=by
 obtain ⟨i,hi,rfl⟩:=h
 have hi:i<2:=hi
 rcases i with _ |_ |i
 ·exact (by show Pl 43;unfold Pl;omega)
 ·exact (by show Pl 45;unfold Pl;omega)
 ·omega
theorem jO:E.func 150=some Tryz.f150:=ah
theorem jP:bO Tryz.f150 1=true:=ah
noncomputable abbrev qU HY (H1:Hp) (H:Hp) m2 (H2:Hp) (H3:Hp) m4 (H4:Hp) (l_:List Hint):=au 6::.call (.bool HY) H1 [H.n+0]::au 0::.call (iI m2) H2 [H.n+0]::au 1::.call (.bool true) H3 [H.n+0]::au 1::.call (iI m4) H4 [H.n+0]::au 2::aF::au 0::l_
noncomputable abbrev FG HY (H1:Hp) (H:Hp) m2 (H2:Hp) (H3:Hp) (H4:Hp) u4 (l_:List Hint):=au 6::.call (.bool HY) H1 [H.n+0]::au 0::.call (iI m2) H2 [H.n+0]::au 1::.call (.bool false) H3 [H.n+0]::au 0::aF::au 0::.call (.bool false) H4 [H.n+0]::vl (.string u4) H4::l_
noncomputable abbrev zO HY (H1:Hp) (H:Hp) m2 (H2:Hp) (H3:Hp) (H4:Hp) YS (H5:Hp) m6 (H6:Hp) (l_:List Hint):=au 6::.call (.bool HY) H1 [H.n+0]::au 0::.call (iI m2) H2 [H.n+0]::au 1::.call (.bool false) H3 [H.n+0]::au 0::aF::au 0::.call (.bool true) H4 [H.n+0]::au 0::.call (.bool YS) H5 [H.n+0]::au 0::.call (iI m6) H6 [H.n+0]::l_
theorem V5 (s:ByteArray) {H:Hp} (y:Gd E G H):aD E G 150 [.string s] H [] (fun v H'=>∃(b:Bool),v=.bool b∧(b=true→∀ i:Int,0≤i→i<s.size→Pl (ak s i))):=by
 have g0:=y.n
 obtain ⟨_,H1,c1,bN,y1,HY,u1,rfl,kx1,hx1⟩:=oe (H.n+0) s ⟨#[45]⟩ Pl (y.news [.cells [.string s] 9 false]) (aB [.cells [.string s] 9 false] H 0 _ rfl) aa Ss
 have jq:H.n+1≤H1.n:=by have h:=bN.n;rw [bF] at h;exact h
 have g1:=y1.n
 obtain ⟨_,H2,c2,dc,y2,m2,u2,rfl,kx2,Z5⟩:=qb (H.n+0) u1 y1 kx1 aa
 have jI:H1.n+0≤H2.n:=dc.n
 have g2:=y2.n
 obtain ⟨_,H3,c3,gB,y3,is3,u3,rfl,kx3,hx3⟩:=oe (H.n+0) u2 ⟨#[46]⟩ Pl y2 kx2 aa Zn
 have xS:H2.n+0≤H3.n:=gB.n
 have g3:=y3.n
 cases is3 with
 |true=>
  obtain ⟨_,H4,c4,rj,y4,m4,u4,rfl,kx4,hx4⟩:=qb (H.n+0) u3 y3 kx3 aa
  have H9:H3.n+0≤H4.n:=rj.n
  have g4:=y4.n
  cases h2:((IntKind.i64.wrap (m2+m4))==0) with
  |true=>
   have q2:=bW h2
   exact aD.mk y (dj [au 6,.call (.bool HY) H1 [H.n+0],au 0,.call (iI m2) H2 [H.n+0],au 1,.call (.bool true) H3 [H.n+0],au 1,.call (iI m4) H4 [H.n+0],au 2,aI,au 0] (.bool false) H4 [H.n+0,H.n+0,H.n+0,H.n+0] jO jP (eM c1 c2 c3 c4 h2 aS)) aG aM ⟨false,rfl,fun h=>absurd h aj⟩
  |false=>
   have q2:=bK h2
   obtain ⟨_,H5,c5,vQ,y5,YS,u5,rfl,kx5,hx5⟩:=oe (H.n+0) u4 ⟨#[101,69]⟩ Pl y4 kx4 aa Sr
   have Pt:H4.n+0≤H5.n:=vQ.n
   have g5:=y5.n
   cases YS with
   |true=>
    obtain ⟨_,H6,c6,NK,y6,is6,u6,rfl,kx6,hx6⟩:=oe (H.n+0) u5 ⟨#[43,45]⟩ Pl y5 kx5 aa Jz
    have nn6:H5.n+0≤H6.n:=NK.n
    have g6:=y6.n
    obtain ⟨_,H7,c7,TB,y7,m7,u7,rfl,kx7,hx7⟩:=qb (H.n+0) u6 y6 kx6 aa
    have nn7:H6.n+0≤H7.n:=TB.n
    have g7:=y7.n
    cases h4:(m7==0) with
    |true=>
     have q4:=bW h4
     exact aD.mk y (dj (qU HY H1 H m2 H2 H3 m4 H4 [.call (.bool true) H5 [H.n+0],au 0,.call (.bool is6) H6 [H.n+0],au 0,.call (iI m7) H7 [H.n+0],aI,au 0]) (.bool false) H7 [H.n+0,H.n+0,H.n+0,H.n+0,H.n+0,H.n+0,H.n+0] jO jP (aE c1 c2 c3 c4 h2 c5 c6 c7<|cF h4 aS)) aG aM ⟨false,rfl,fun h=>absurd h aj⟩
    |false=>
     have q4:=bK h4
     have w1:aq E 9 (H.n+0) 0 H7=some (.string u7):=bQ bB kx7 rfl
     cases h5:(u7.toList==(⟨#[]⟩:ByteArray).toList) with
     |true=>
      have q5:=sI h5
      exact aD.mk y (dj (qU HY H1 H m2 H2 H3 m4 H4 [.call (.bool true) H5 [H.n+0],au 0,.call (.bool is6) H6 [H.n+0],au 0,.call (iI m7) H7 [H.n+0],aF,vl (.string u7) H7,aI,au 0]) (.bool true) H7 [H.n+0,H.n+0,H.n+0,H.n+0,H.n+0,H.n+0,H.n+0] jO jP (aE c1 c2 c3 c4 h2 c5 c6 c7<|eY h4 w1 h5 aS)) aG aM ⟨true,rfl,fun _=>((((((hx1.trans (Z5.mono tE)).trans hx3).trans (hx4.mono tE)).trans hx5).trans hx6).trans (hx7.mono tE)).all q5⟩
     |false=>
      have q5:=lG h5
      exact aD.mk y (dj (qU HY H1 H m2 H2 H3 m4 H4 [.call (.bool true) H5 [H.n+0],au 0,.call (.bool is6) H6 [H.n+0],au 0,.call (iI m7) H7 [H.n+0],aF,vl (.string u7) H7,aF,au 0]) (.bool false) H7 [H.n+0,H.n+0,H.n+0,H.n+0,H.n+0,H.n+0,H.n+0] jO jP (aE c1 c2 c3 c4 h2 c5 c6 c7<|eY h4 w1 h5 aS)) aG aM ⟨false,rfl,fun h=>absurd h aj⟩
   |false=>
    have w1:aq E 9 (H.n+0) 0 H5=some (.string u5):=bQ bB kx5 rfl
    cases h4:(u5.toList==(⟨#[]⟩:ByteArray).toList) with
    |true=>
     have q4:=sI h4
     exact aD.mk y (dj (qU HY H1 H m2 H2 H3 m4 H4 [.call (.bool false) H5 [H.n+0],vl (.string u5) H5,aI,au 0]) (.bool true) H5 [H.n+0,H.n+0,H.n+0,H.n+0,H.n+0] jO jP (aE c1 c2 c3 c4 h2 c5 w1 h4 aS)) aG aM ⟨true,rfl,fun _=>((((hx1.trans (Z5.mono tE)).trans hx3).trans (hx4.mono tE)).trans hx5).all q4⟩
    |false=>
     have q4:=lG h4
     exact aD.mk y (dj (qU HY H1 H m2 H2 H3 m4 H4 [.call (.bool false) H5 [H.n+0],vl (.string u5) H5,aF,au 0]) (.bool false) H5 [H.n+0,H.n+0,H.n+0,H.n+0,H.n+0] jO jP (aE c1 c2 c3 c4 h2 c5 w1 h4 aS)) aG aM ⟨false,rfl,fun h=>absurd h aj⟩
 |false=>
  cases h2:(m2==0) with
  |true=>
   have q2:=bW h2
   exact aD.mk y (dj [au 6,.call (.bool HY) H1 [H.n+0],au 0,.call (iI m2) H2 [H.n+0],au 1,.call (.bool false) H3 [H.n+0],au 0,aI,au 0] (.bool false) H3 [H.n+0,H.n+0,H.n+0] jO jP (gm c1 c2 c3 h2 aS)) aG aM ⟨false,rfl,fun h=>absurd h aj⟩
  |false=>
   have q2:=bK h2
   obtain ⟨_,H4,c4,rj,y4,is4,u4,rfl,kx4,hx4⟩:=oe (H.n+0) u3 ⟨#[101,69]⟩ Pl y3 kx3 aa Sr
   have H9:H3.n+0≤H4.n:=rj.n
   have g4:=y4.n
   cases is4 with
   |true=>
    obtain ⟨_,H5,c5,vQ,y5,YS,u5,rfl,kx5,hx5⟩:=oe (H.n+0) u4 ⟨#[43,45]⟩ Pl y4 kx4 aa Jz
    have Pt:H4.n+0≤H5.n:=vQ.n
    have g5:=y5.n
    obtain ⟨_,H6,c6,NK,y6,m6,u6,rfl,kx6,hx6⟩:=qb (H.n+0) u5 y5 kx5 aa
    have nn6:H5.n+0≤H6.n:=NK.n
    have g6:=y6.n
    cases h4:(m6==0) with
    |true=>
     have q4:=bW h4
     exact aD.mk y (dj (zO HY H1 H m2 H2 H3 H4 YS H5 m6 H6 [aI,au 0]) (.bool false) H6 [H.n+0,H.n+0,H.n+0,H.n+0,H.n+0,H.n+0] jO jP (aE c1 c2 c3 h2 c4 c5 c6 h4 aS)) aG aM ⟨false,rfl,fun h=>absurd h aj⟩
    |false=>
     have q4:=bK h4
     have w1:aq E 9 (H.n+0) 0 H6=some (.string u6):=bQ bB kx6 rfl
     cases h5:(u6.toList==(⟨#[]⟩:ByteArray).toList) with
     |true=>
      have q5:=sI h5
      exact aD.mk y (dj (zO HY H1 H m2 H2 H3 H4 YS H5 m6 H6 [aF,vl (.string u6) H6,aI,au 0]) (.bool true) H6 [H.n+0,H.n+0,H.n+0,H.n+0,H.n+0,H.n+0] jO jP (aE c1 c2 c3 h2 c4 c5 c6 h4<|cU w1 h5 aS)) aG aM ⟨true,rfl,fun _=>(((((hx1.trans (Z5.mono tE)).trans hx3).trans hx4).trans hx5).trans (hx6.mono tE)).all q5⟩
     |false=>
      have q5:=lG h5
      exact aD.mk y (dj (zO HY H1 H m2 H2 H3 H4 YS H5 m6 H6 [aF,vl (.string u6) H6,aF,au 0]) (.bool false) H6 [H.n+0,H.n+0,H.n+0,H.n+0,H.n+0,H.n+0] jO jP (aE c1 c2 c3 h2 c4 c5 c6 h4<|cU w1 h5 aS)) aG aM ⟨false,rfl,fun h=>absurd h aj⟩
   |false=>
    have w1:aq E 9 (H.n+0) 0 H4=some (.string u4):=bQ bB kx4 rfl
    cases h4:(u4.toList==(⟨#[]⟩:ByteArray).toList) with
    |true=>
     have q4:=sI h4
     exact aD.mk y (dj (FG HY H1 H m2 H2 H3 H4 u4 [aI,au 0]) (.bool true) H4 [H.n+0,H.n+0,H.n+0,H.n+0] jO jP (fk c1 c2 c3 h2 c4 w1 h4 aS)) aG aM ⟨true,rfl,fun _=>(((hx1.trans (Z5.mono tE)).trans hx3).trans hx4).all q4⟩
    |false=>
     have q4:=lG h4
     exact aD.mk y (dj (FG HY H1 H m2 H2 H3 H4 u4 [aF,au 0]) (.bool false) H4 [H.n+0,H.n+0,H.n+0,H.n+0] jO jP (fk c1 c2 c3 h2 c4 w1 h4 aS)) aG aM ⟨false,rfl,fun h=>absurd h aj⟩
theorem plain (s:ByteArray):∃(b:Bool),((b=true→∀ i:Int,0≤i→i<s.size→Pl (ak s i)))∧∀{H:Hp},Gd E G H→CC E 150 [.string s] H (.ret (.bool b)) H []:=by
 obtain ⟨_,_,c,_,_,b,rfl,hs⟩:=V5 s eZ
 exact ⟨b,hs,fun y=>aW (cq rfl) (.ground rfl) c y⟩
theorem ag3:E.agg 3=some false:=ah
theorem ag4:E.agg 4=some false:=ah
theorem ag5:E.agg 5=some false:=ah
theorem sz3:E.size 3=some 1:=ah
theorem sz4:E.size 4=some 1:=ah
theorem sz5:E.size 5=some 1:=ah
def bh (ds:List Int) (nd dp:Int) (neg tr:Bool):List Value:=ds.map (fun x=>Value.int .u8 x)++[.int .i64 nd,.int .i64 dp,.bool neg,.bool tr]
def dg (ds:List Int) (i:Int):Int:=(ds[i.toNat]?).getD 0
theorem lO {ds:List Int} (hl:ds.length=800) (nd dp:Int) (neg tr:Bool):(bh ds nd dp neg tr).length=804:=by simp [bh,hl]
theorem k7 {ds:List Int} {n:Nat} {x:Int} (hl:ds.length=800):(ds.set n x).length=800:=by simp [hl]
theorem rC {ds:List Int} (hl:ds.length=800) (nd dp:Int) (neg tr:Bool) (k:Nat):(bh ds nd dp neg tr)[800+k]?=[Value.int .i64 nd,.int .i64 dp,.bool neg,.bool tr][k]?:=by
 unfold bh
 rw [List.getElem?_append_right (by simp [hl])]
 simp [hl]
theorem qm {ds:List Int} (hl:ds.length=800) {i:Nat} (hi:i<800) (x:Int) (j:Int) (hj:0≤j):dg (ds.set i x) j=if j=i then x else dg ds j:=by
 unfold dg
 rw [List.getElem?_set]
 by_cases h:j=i
 ·subst h
  simp [hl,hi]
 ·rw [if_neg aa,if_neg h]
theorem mh:∀(a b:List Value) (k:Nat) (v:Value),splice (a++b) (a.length+k) [v]=a++splice b k [v]
 |[],b,k,v=>by simp
 |x::a,b,k,v=>by
  rw [List.cons_append,List.length_cons,show a.length+1+k=(a.length+k)+1 by omega,splice,mh a b k v];rfl
theorem xH:∀(a:List Value) (k:Nat) (v:Value),k<a.length→splice a k [v]=a.set k v
 |[],k,v,h=>by simp at h
 |x::a,0,v,h=>by
  show v::splice a 0 []=v::a
  cases a <;> rfl
 |x::a,k+1,v,h=>by
  rw [splice,List.set_cons_succ,xH a k v (by simpa using h)]
theorem SN {ds:List Int} (hl:ds.length=800) (nd dp:Int) (neg tr:Bool) {i:Nat} (hi:i<800) (x:Int):splice (bh ds nd dp neg tr) i [.int .u8 x]=bh (ds.set i x) nd dp neg tr:=by
 rw [xH _ _ _ (by rw [lO hl];omega)]
 unfold bh
 rw [List.set_append_left _ _ (by simp [hl,hi]),List.map_set]
section
variable {H:Hp} {a:Nat} {ds:List Int} {nd dp:Int} {neg tr:Bool} (hl:ds.length=800) (g:H.get a=some (.cells (bh ds nd dp neg tr) 281 false))
include hl g
theorem fX:aq E 3 a 800 H=some (.int .i64 nd):=bQ ag3 g (rC hl nd dp neg tr 0)
theorem jH:aq E 3 a 801 H=some (.int .i64 dp):=bQ ag3 g (rC hl nd dp neg tr 1)
theorem yo:aq E 4 a 802 H=some (.bool neg):=bQ ag4 g (rC hl nd dp neg tr 2)
theorem X0:aq E 4 a 803 H=some (.bool tr):=bQ ag4 g (rC hl nd dp neg tr 3)
theorem ym {i:Int} (h0:0≤i) (h1:i<800):aq E 5 a (0+i.toNat*1) H=some (.int .u8 (dg ds i)):=bQ ag5 g (by
 unfold bh dg
 have hlt:i.toNat<ds.length:=aa
 rw [show 0+i.toNat*1=i.toNat by omega,List.getElem?_append_left (by simpa using hlt),List.getElem?_map,bZ hlt]
 rfl)
theorem qn {x:Int}:az E 3 a 800 (.int .i64 x) H=some (H.set a (.cells (bh ds x dp neg tr) 281 false)):=st sz3 g (by rw [lO hl];rfl) (by
 unfold bh
 have:=mh (ds.map fun x=>Value.int .u8 x) [.int .i64 nd,.int .i64 dp,.bool neg,.bool tr] 0 (.int .i64 x)
 rw [List.length_map,hl] at this
 exact this)
theorem k8 {x:Int}:az E 3 a 801 (.int .i64 x) H=some (H.set a (.cells (bh ds nd x neg tr) 281 false)):=st sz3 g (by rw [lO hl];rfl) (by
 unfold bh
 have:=mh (ds.map fun x=>Value.int .u8 x) [.int .i64 nd,.int .i64 dp,.bool neg,.bool tr] 1 (.int .i64 x)
 rw [List.length_map,hl] at this
 exact this)
theorem mD {x:Bool}:az E 4 a 802 (.bool x) H=some (H.set a (.cells (bh ds nd dp x tr) 281 false)):=st sz4 g (by rw [lO hl];rfl) (by
 unfold bh
 have:=mh (ds.map fun x=>Value.int .u8 x) [.int .i64 nd,.int .i64 dp,.bool neg,.bool tr] 2 (.bool x)
 rw [List.length_map,hl] at this
 exact this)
theorem lP {x:Bool}:az E 4 a 803 (.bool x) H=some (H.set a (.cells (bh ds nd dp neg x) 281 false)):=st sz4 g (by rw [lO hl];rfl) (by
 unfold bh
 have:=mh (ds.map fun x=>Value.int .u8 x) [.int .i64 nd,.int .i64 dp,.bool neg,.bool tr] 3 (.bool x)
 rw [List.length_map,hl] at this
 exact this)
theorem Fg {i x:Int} (h0:0≤i) (h1:i<800):az E 5 a (0+i.toNat*1) (.int .u8 x) H=some (H.set a (.cells (bh (ds.set i.toNat x) nd dp neg tr) 281 false)):=st sz5 g (by
  rw [lO hl]
  have:Nat.ble (0+i.toNat*1+1) 804=true:=Nat.ble_eq_true_of_le aa
  show (true&&_)=true
  simp only [Bool.true_and];exact this) (by
 rw [show 0+i.toNat*1=i.toNat by omega]
 exact SN hl nd dp neg tr aa x)
end
def jF (ds:List Int) (nd:Int):Prop:=∀ i:Int,0≤i→i<nd→48≤dg ds i∧dg ds i≤57
theorem jF.le {ds:List Int} {n m:Int} (h:jF ds n) (hm:m≤n):jF ds m:=fun i h0 h1=>h i h0 aa
theorem jF.set {ds:List Int} {n:Int} (hl:ds.length=800) (h:jF ds n) (h0:0≤n) (h1:n<800) {x:Int} (h2:48≤x) (h3:x≤57):jF (ds.set n.toNat x) (n+1):=fun i a b=>by
 rw [qm hl aa x i a]
 split
 ·exact ⟨h2,h3⟩
 ·exact h i a aa
def dv (ds:List Int):Nat→Nat
 |0=>0
 |n+1=>dv ds n*10+(dg ds n-48).toNat
def sv (s:ByteArray):Nat→Nat
 |0=>0
 |n+1=>sv s n*10+(ak s n-48).toNat
theorem yq {ds:List Int} {nd:Nat} (h:jF ds nd) (i:Nat):∀ m,i+m≤nd→dv ds i*10 ^ m≤dv ds (i+m)∧dv ds (i+m)<(dv ds i+1)*10 ^ m
 |0,_=>by simp
 |m+1,hm=>by
  obtain ⟨h1,h2⟩:=yq h i m aa
  have hd:=h (i+m:Nat) aa aa
  rw [← Nat.add_assoc,dv,Nat.pow_succ,← Nat.mul_assoc,← Nat.mul_assoc]
  omega
def Bw (s:ByteArray):Prop:=∀ i:Int,0≤i→i<s.size→48≤ak s i∧ak s i≤57
theorem Bq {s:ByteArray} (h:Bw s) (i:Nat):∀ m,i+m≤s.size→sv s i*10 ^ m≤sv s (i+m)∧sv s (i+m)<(sv s i+1)*10 ^ m
 |0,_=>by simp
 |m+1,hm=>by
  obtain ⟨h1,h2⟩:=Bq h i m aa
  have hd:=h (i+m:Nat) aa aa
  rw [← Nat.add_assoc,sv,Nat.pow_succ,← Nat.mul_assoc,← Nat.mul_assoc]
  omega
def ry (ds:List Int) (nd k r n:Nat):Prop:=r≤nd∧∃ T,dv ds nd=dv ds r*10 ^ (nd-r)+T∧T<10 ^ (nd-r)∧n*10 ^ (nd-r)≤T*2 ^ k∧T*2 ^ k<(n+1)*10 ^ (nd-r)
theorem ry.init (ds:List Int) (nd k:Nat):ry ds nd k nd 0:=⟨Nat.le_refl _,0,by simp,by simp,by simp,by simp⟩
theorem ry.lt {ds:List Int} {nd k r n:Nat} (h:ry ds nd k r n):n<2 ^ k:=by
 obtain ⟨h0,T,h1,h2,h3,h4⟩:=h
 have:n*10 ^ (nd-r)<2 ^ k*10 ^ (nd-r):=by
  refine Nat.lt_of_le_of_lt h3 ?_
  rw [Nat.mul_comm (2 ^ k)]
  exact Nat.mul_lt_mul_of_pos_right h2 (Nat.pos_of_ne_zero aj)
 exact Nat.lt_of_mul_lt_mul_right this
theorem ry.step {ds:List Int} {nd k r n:Nat} (h:ry ds nd k (r+1) n) (hd:jF ds nd):ry ds nd k r ((n+(dg ds r-48).toNat*2 ^ k) / 10):=by
 obtain ⟨h0,T,h1,h2,h3,h4⟩:=h
 have hg:=hd r aa aa
 generalize hc:(dg ds r-48).toNat=c at *
 have hc9:c≤9:=aa
 have e:nd-r=nd-(r+1)+1:=aa
 generalize nd-(r+1)=m at *
 rw [dv,hc,Nat.add_mul] at h1
 refine ⟨by omega,c*10 ^ m+T,?_,?_,?_,?_⟩
 ·rw [h1,e,Nat.pow_succ,Nat.add_assoc,Nat.mul_assoc,Nat.mul_comm 10]
 ·rw [e,Nat.pow_succ]
  have:c*10 ^ m≤9*10 ^ m:=Nat.mul_le_mul_right _ hc9
  omega
 ·rw [e,Nat.pow_succ,Nat.add_mul]
  generalize hx:n+c*2 ^ k=x
  have hq:x / 10*10≤x:=Nat.div_mul_le_self _ _
  calc x / 10*(10 ^ m*10)=x / 10*10*10 ^ m:=by rw [Nat.mul_assoc,Nat.mul_comm 10]
   _≤x*10 ^ m:=Nat.mul_le_mul_right _ hq
   _=n*10 ^ m+c*2 ^ k*10 ^ m:=by rw [← hx,Nat.add_mul]
   _≤T*2 ^ k+c*2 ^ k*10 ^ m:=Nat.add_le_add_right h3 _
   _=c*10 ^ m*2 ^ k+T*2 ^ k:=by rw [Nat.add_comm,Nat.mul_assoc,Nat.mul_assoc,Nat.mul_comm (2 ^ k)]
 ·rw [e,Nat.pow_succ,Nat.add_mul]
  generalize hx:n+c*2 ^ k=x
  have hq:x<(x / 10+1)*10:=aa
  calc c*10 ^ m*2 ^ k+T*2 ^ k<c*10 ^ m*2 ^ k+(n+1)*10 ^ m:=Nat.add_lt_add_left h4 _
   _=(x+1)*10 ^ m:=by rw [← hx,Nat.mul_assoc,Nat.mul_comm (10 ^ m),← Nat.mul_assoc,← Nat.add_mul];congr 1;omega
   _≤(x / 10+1)*10*10 ^ m:=Nat.mul_le_mul_right _ hq
   _=(x / 10+1)*(10 ^ m*10):=by rw [Nat.mul_assoc,Nat.mul_comm 10]
def Below (ds:List Int) (nd:Nat) (s:ByteArray):Prop:=dv ds nd*10 ^ s.size<sv s s.size*10 ^ nd
theorem It {ds:List Int} {nd:Nat} {s:ByteArray} (hs:Bw s) (hl:0<s.size) (B1:49≤ak s ((s.size:Int)-1)) (h:nd<s.size) (he:dv ds nd=sv s nd):Below ds nd s:=by
 unfold Below
 obtain ⟨m,hm⟩:∃ m,s.size=nd+m+1:=⟨s.size-nd-1,by omega⟩
 have h1:=(Bq hs nd m aa).1
 have h2:sv s s.size=sv s (nd+m)*10+(ak s (nd+m:Nat)-48).toNat:=by rw [hm,sv]
 have h3:1≤(ak s (nd+m:Nat)-48).toNat:=by
  rw [show (s.size:Int)-1=(nd+m:Nat) by omega] at B1;omega
 have h4:sv s nd*10 ^ (m+1)<sv s s.size:=by
  rw [h2,Nat.pow_succ,← Nat.mul_assoc];omega
 have hz:s.size=m+1+nd:=aa
 rw [he]
 calc sv s nd*10 ^ s.size=sv s nd*10 ^ (m+1)*10 ^ nd:=by rw [hz,Nat.pow_add,Nat.mul_assoc]
  _<sv s s.size*10 ^ nd:=Nat.mul_lt_mul_of_pos_right h4 (Nat.pos_of_ne_zero aj)
theorem Kb {ds:List Int} {nd:Nat} {s:ByteArray} (hd:jF ds nd) (hs:Bw s) {i:Nat} (h1:i<nd) (h2:i<s.size) (he:dv ds i=sv s i) (hlt:dg ds i<ak s i):Below ds nd s:=by
 unfold Below
 obtain ⟨a,ha⟩:∃ a,nd=i+1+a:=⟨nd-i-1,by omega⟩
 obtain ⟨b,hb⟩:∃ b,s.size=i+1+b:=⟨s.size-i-1,by omega⟩
 have d2:=(yq hd (i+1) a aa).2
 have s1:=(Bq hs (i+1) b aa).1
 rw [← ha] at d2
 rw [← hb] at s1
 have g1:=hd i aa aa
 have g2:=hs i aa aa
 have hk:dv ds (i+1)+1≤sv s (i+1):=by rw [dv,sv,he];omega
 calc dv ds nd*10 ^ s.size<(dv ds (i+1)+1)*10 ^ a*10 ^ s.size:=Nat.mul_lt_mul_of_pos_right d2 (Nat.pos_of_ne_zero aj)
  _≤sv s (i+1)*10 ^ a*10 ^ s.size:=Nat.mul_le_mul_right _ (Nat.mul_le_mul_right _ hk)
  _=sv s (i+1)*10 ^ b*10 ^ nd:=by rw [Nat.mul_assoc,Nat.mul_assoc,← Nat.pow_add,← Nat.pow_add];congr 2;omega
  _≤sv s s.size*10 ^ nd:=Nat.mul_le_mul_right _ s1
theorem Cs {ds:List Int} {nd:Nat} {s:ByteArray} (hd:jF ds nd) (hs:Bw s) {i:Nat} (h1:i<nd) (h2:i<s.size) (he:dv ds i=sv s i) (hgt:ak s i<dg ds i):¬ Below ds nd s:=by
 unfold Below
 obtain ⟨a,ha⟩:∃ a,nd=i+1+a:=⟨nd-i-1,by omega⟩
 obtain ⟨b,hb⟩:∃ b,s.size=i+1+b:=⟨s.size-i-1,by omega⟩
 have d1:=(yq hd (i+1) a aa).1
 have s2:=(Bq hs (i+1) b aa).2
 rw [← ha] at d1
 rw [← hb] at s2
 have g1:=hd i aa aa
 have g2:=hs i aa aa
 have hk:sv s (i+1)+1≤dv ds (i+1):=by rw [dv,sv,he];omega
 have:sv s s.size*10 ^ nd≤dv ds nd*10 ^ s.size:=by
  calc sv s s.size*10 ^ nd≤(sv s (i+1)+1)*10 ^ b*10 ^ nd:=Nat.mul_le_mul_right _ (Nat.le_of_lt s2)
   _≤dv ds (i+1)*10 ^ b*10 ^ nd:=Nat.mul_le_mul_right _ (Nat.mul_le_mul_right _ hk)
   _=dv ds (i+1)*10 ^ a*10 ^ s.size:=by rw [Nat.mul_assoc,Nat.mul_assoc,← Nat.pow_add,← Nat.pow_add];congr 2;omega
   _≤dv ds nd*10 ^ s.size:=Nat.mul_le_mul_right _ d1
 omega
theorem EO {ds:List Int} {nd:Nat} {s:ByteArray} (hd:jF ds nd) (h:s.size≤nd) (he:dv ds s.size=sv s s.size):¬ Below ds nd s:=by
 unfold Below
 obtain ⟨a,ha⟩:∃ a,nd=s.size+a:=⟨nd-s.size,by omega⟩
 have d1:=(yq hd s.size a aa).1
 rw [← ha] at d1
 have:sv s s.size*10 ^ nd≤dv ds nd*10 ^ s.size:=by
  calc sv s s.size*10 ^ nd=dv ds s.size*10 ^ a*10 ^ s.size:=by rw [he,Nat.mul_assoc,← Nat.pow_add];congr 2;omega
   _≤dv ds nd*10 ^ s.size:=Nat.mul_le_mul_right _ d1
 omega
structure xV (k delta:Nat) (s:ByteArray):Prop where
 qP:Bw s
 val:sv s s.size=5 ^ k
 last:49≤ak s ((s.size:Int)-1)
 size:s.size+delta=k+1
 pos:0<s.size
 d1:1≤delta
 up:2 ^ k<10 ^ delta
 low:10 ^ (delta-1)≤2 ^ k
theorem ry.less {ds:List Int} {nd k delta n:Nat} {s:ByteArray} (h:ry ds nd k 0 n) (c:xV k delta s) (hb:Below ds nd s):n<10 ^ (delta-1):=by
 obtain ⟨h0,T,h1,h2,h3,h4⟩:=h
 have e:T=dv ds nd:=by rw [h1];simp [dv]
 subst e
 simp only [Nat.sub_zero] at *
 unfold Below at hb
 rw [c.val] at hb
 have key:n*10 ^ s.size<10 ^ k:=by
  have:n*10 ^ s.size*10 ^ nd<10 ^ k*10 ^ nd:=by
   calc n*10 ^ s.size*10 ^ nd=n*10 ^ nd*10 ^ s.size:=by rw [Nat.mul_assoc,Nat.mul_assoc,Nat.mul_comm (10 ^ s.size)]
    _≤dv ds nd*2 ^ k*10 ^ s.size:=Nat.mul_le_mul_right _ h3
    _=dv ds nd*10 ^ s.size*2 ^ k:=by rw [Nat.mul_assoc,Nat.mul_assoc,Nat.mul_comm (2 ^ k)]
    _<5 ^ k*10 ^ nd*2 ^ k:=Nat.mul_lt_mul_of_pos_right hb (Nat.pos_of_ne_zero aj)
    _=10 ^ k*10 ^ nd:=by rw [Nat.mul_assoc,Nat.mul_comm (10 ^ nd),← Nat.mul_assoc,← Nat.mul_pow]
  exact Nat.lt_of_mul_lt_mul_right this
 have hk:10 ^ k=10 ^ (delta-1)*10 ^ s.size:=by rw [← Nat.pow_add];congr 1;have:=c.size;have:=c.d1;omega
 rw [hk] at key
 exact Nat.lt_of_mul_lt_mul_right key
theorem ry.RU {ds:List Int} {nd k delta n:Nat} {s:ByteArray} (h:ry ds nd k 0 n) (c:xV k delta s) (hD:10 ^ (nd-1)≤dv ds nd) (hn:1≤nd) (h2:2≤delta):10 ^ (delta-2)≤n:=by
 obtain ⟨h0,T,h1,_,h3,h4⟩:=h
 have e:T=dv ds nd:=by rw [h1];simp [dv]
 subst e
 simp only [Nat.sub_zero] at *
 have hp:10 ^ nd=10 ^ (nd-1)*10:=by rw [← Nat.pow_succ];congr 1;omega
 have hl:=c.low
 have hq:10 ^ (delta-1)=10 ^ (delta-2)*10:=by rw [← Nat.pow_succ];congr 1;omega
 have key:10 ^ (nd-1)*2 ^ k<(n+1)*10*10 ^ (nd-1):=by
  calc 10 ^ (nd-1)*2 ^ k≤dv ds nd*2 ^ k:=Nat.mul_le_mul_right _ hD
   _<(n+1)*10 ^ nd:=h4
   _=(n+1)*10*10 ^ (nd-1):=by rw [hp,Nat.mul_assoc,Nat.mul_comm 10]
 rw [Nat.mul_comm] at key
 have:=Nat.lt_of_mul_lt_mul_right key
 omega
theorem ry.more {ds:List Int} {nd k delta n:Nat} {s:ByteArray} (h:ry ds nd k 0 n) (c:xV k delta s) (hb:¬ Below ds nd s):10 ^ (delta-1)≤n:=by
 obtain ⟨h0,T,h1,h2,h3,h4⟩:=h
 have e:T=dv ds nd:=by rw [h1];simp [dv]
 subst e
 simp only [Nat.sub_zero] at *
 unfold Below at hb
 rw [c.val] at hb
 have hb:=Nat.not_lt.1 hb
 have key:10 ^ k<(n+1)*10 ^ s.size:=by
  have:10 ^ k*10 ^ nd<(n+1)*10 ^ s.size*10 ^ nd:=by
   calc 10 ^ k*10 ^ nd=5 ^ k*10 ^ nd*2 ^ k:=by rw [Nat.mul_assoc,Nat.mul_comm (10 ^ nd),← Nat.mul_assoc,← Nat.mul_pow]
    _≤dv ds nd*10 ^ s.size*2 ^ k:=Nat.mul_le_mul_right _ hb
    _=dv ds nd*2 ^ k*10 ^ s.size:=by rw [Nat.mul_assoc,Nat.mul_assoc,Nat.mul_comm (2 ^ k)]
    _<(n+1)*10 ^ nd*10 ^ s.size:=Nat.mul_lt_mul_of_pos_right h4 (Nat.pos_of_ne_zero aj)
    _=(n+1)*10 ^ s.size*10 ^ nd:=by rw [Nat.mul_assoc,Nat.mul_assoc,Nat.mul_comm (10 ^ s.size)]
  exact Nat.lt_of_mul_lt_mul_right this
 have hk:10 ^ k=10 ^ (delta-1)*10 ^ s.size:=by rw [← Nat.pow_add];congr 1;have:=c.size;have:=c.d1;omega
 rw [hk] at key
 have:=Nat.lt_of_mul_lt_mul_right key
 omega
theorem ry.up {ds:List Int} {nd k delta n:Nat} {s:ByteArray} (h:ry ds nd k 0 n) (c:xV k delta s):n<10 ^ delta:=Nat.lt_trans h.lt c.up
def L9 (k:Nat):Bool:=match Go.Pinned.cheatRows[k]? with
 |some (d,l)=>l.all (fun b=>Nat.ble 48 b.toNat&&Nat.ble b.toNat 57)&&Nat.beq (l.foldl (fun a b=>a*10+(b.toNat-48)) 0) (5 ^ k)&&Nat.ble 49 ((l.getLast?.getD 0).toNat)&&Nat.beq (l.length+d) (k+1)&&Nat.blt 0 l.length&&Nat.ble 1 d&&Nat.blt (2 ^ k) (10 ^ d)&&Nat.ble (10 ^ (d-1)) (2 ^ k)
 |none=>false
theorem NW:((List.range 60).all fun i=>L9 (i+1))=true:=ah
theorem bT {x:Int} (h0:0≤x) (h1:x<18446744073709551616):IntKind.u64.wrap x=x:=by
 unfold IntKind.wrap
 simp only [IntKind.bits,IntKind.signed,Bool.false_and]
 simp only [Bool.false_eq_true,if_false]
 omega
theorem vf {x:Int} (h0:0≤x) (h1:x<256):IntKind.u8.wrap x=x:=by
 unfold IntKind.wrap
 simp only [IntKind.bits,IntKind.signed,Bool.false_and]
 simp only [Bool.false_eq_true,if_false]
 omega
theorem vP (x:Int):0≤IntKind.u64.wrap x∧IntKind.u64.wrap x<18446744073709551616:=by
 unfold IntKind.wrap
 simp only [IntKind.bits,IntKind.signed,Bool.false_and]
 simp only [Bool.false_eq_true,if_false]
 omega
theorem fH (x:Int):0≤IntKind.u8.wrap x∧IntKind.u8.wrap x<256:=by
 unfold IntKind.wrap
 simp only [IntKind.bits,IntKind.signed,Bool.false_and]
 simp only [Bool.false_eq_true,if_false]
 omega
theorem JO {x y:Int} (h:0≤x):Int.tdiv x y=x / y:=Int.tdiv_eq_ediv_of_nonneg h
theorem yP {t e n sz b off:Nat} {hi:Int} (hu:E.ul t=some (.array n e)) (hs:E.size e=some sz) (hn:0<n) (h0:0≤hi) (h1:hi≤n) :
  ja E t (.pointer (some ⟨b,off,none⟩)) (some (.int .i64 0)) (some (.int .i64 hi)) none=some (.slice (some ⟨b,off,none⟩) hi.toNat (2*n+1)):=by
 have e0:Nat.beq n 0=false:=uT aa
 have d1:(decide (0≤hi)&&decide (hi≤(n:Int)))=true:=by simp [h0,h1]
 have d2:(decide ((0:Int)≤0)&&decide ((0:Int)≤(hi.toNat:Int)))=true:=by
  rw [decide_eq_true aa,decide_eq_true aa];rfl
 simp only [ja,hu,hs,mB,jv,upto,d1,cond_true,d2,Option.isSome_none,Bool.false_and,cond_false,Int.toNat_zero,e0,Nat.zero_mul,Nat.add_zero,Nat.sub_zero]
theorem uV {α:Type} (f g:α→Value):∀(l:List α) (k:Nat),(l.flatMap fun x=>[f x,g x])[2*k]?=l[k]?.map f∧(l.flatMap fun x=>[f x,g x])[2*k+1]?=l[k]?.map g
 |[],k=>by simp
 |x::l,0=>by simp
 |x::l,k+1=>by
  have:=uV f g l k
  simp only [List.flatMap_cons,List.cons_append,List.nil_append,List.getElem?_cons_succ]
  rw [show 2*(k+1)=2*k+1+1 by omega]
  simpa using this
def BE:List Value:=Go.Pinned.cheatRows.flatMap fun x=>[.int .i64 x.1,.string ⟨x.2.toArray⟩]
theorem NU {k delta:Nat} {l:List UInt8} (h:Go.Pinned.cheatRows[k]?=some (delta,l)):BE[0+((k:Nat):Int).toNat*2]?=some (.int .i64 delta):=by
 have:=(uV (fun x:Nat×List UInt8=>Value.int .i64 x.1) (fun x=>.string ⟨x.2.toArray⟩) Go.Pinned.cheatRows k).1
 rw [h] at this
 rw [show 0+((k:Nat):Int).toNat*2=2*k by omega]
 exact this
theorem NV {k delta:Nat} {l:List UInt8} (h:Go.Pinned.cheatRows[k]?=some (delta,l)):BE[0+((k:Nat):Int).toNat*2+1]?=some (.string ⟨l.toArray⟩):=by
 have:=(uV (fun x:Nat×List UInt8=>Value.int .i64 x.1) (fun x=>.string ⟨x.2.toArray⟩) Go.Pinned.cheatRows k).2
 rw [h] at this
 rw [show 0+((k:Nat):Int).toNat*2+1=2*k+1 by omega]
 exact this
theorem tA (l:List UInt8) (n:Nat):ak ⟨l.toArray⟩ n=((l[n]?.getD 0).toNat:Int):=by
 unfold ak
 simp
theorem ND (l:List UInt8) (h:∀ b∈l,48≤b.toNat∧b.toNat≤57):∀ n,n≤l.length→sv ⟨l.toArray⟩ n=(l.take n).foldl (fun a b=>a*10+(b.toNat-48)) 0
 |0,_=>by simp [sv]
 |n+1,hn=>by
  have hlt:n<l.length:=aa
  rw [sv,ND l h n aa,List.take_add_one,bZ hlt,List.foldl_append,tA,bZ hlt]
  have:=h l[n] (List.getElem_mem hlt)
  simp only [Option.getD_some,Option.toList_some,List.foldl_cons,List.foldl_nil]
  congr 1
  omega
theorem aat {k:Nat} (h1:1≤k) (h2:k≤60):∃(delta:Nat) (l:List UInt8),Go.Pinned.cheatRows[k]?=some (delta,l)∧xV k delta ⟨l.toArray⟩:=by
 have:=List.all_eq_true.1 NW (k-1) (by simp;omega)
 rw [show k-1+1=k by omega] at this
 unfold L9 at this
 split at this
 ·rename_i d l hr
  simp only [Bool.and_eq_true,Nat.blt_eq] at this
  obtain ⟨⟨⟨⟨⟨⟨⟨a1,a2⟩,a3⟩,a4⟩,a5⟩,a6⟩,a7⟩,a8⟩:=this
  have a2:=Nat.eq_of_beq_eq_true a2
  have a3:=dm a3
  have a4:=Nat.eq_of_beq_eq_true a4
  have a6:=dm a6
  have a8:=dm a8
  have hd:∀ b∈l,48≤b.toNat∧b.toNat≤57:=fun b hb=>by
   have:=List.all_eq_true.1 a1 b hb
   simp only [Bool.and_eq_true] at this
   exact ⟨dm this.1,dm this.2⟩
  have hsz:(ByteArray.mk l.toArray).size=l.length:=by simp [ByteArray.size]
  refine ⟨d,l,hr,⟨fun i i0 i1=>?_,?_,?_,?_,?_,a6,a7,a8⟩⟩
  ·rw [hsz] at i1
   have hlt:i.toNat<l.length:=aa
   have e:=tA l i.toNat
   rw [show ((i.toNat:Nat):Int)=i by omega,bZ hlt] at e
   rw [e]
   have:=hd l[i.toNat] (List.getElem_mem hlt)
   simp only [Option.getD_some];omega
  ·rw [hsz,ND l hd _ (Nat.le_refl _),List.take_length,a2]
  ·rw [hsz]
   have e:=tA l (l.length-1)
   rw [show (((l.length-1:Nat)):Int)=(l.length:Int)-1 by omega] at e
   rw [e,← List.getLast?_eq_getElem?]
   omega
  ·rw [hsz];exact a4
  ·rw [hsz];exact a5
 ·cases this
theorem Xd {K:Nat} (h:K≤60):(2:Int) ^ K≤1152921504606846976∧0<(2:Int) ^ K:=by
 have:(2:Nat) ^ K≤2 ^ 60:=Nat.pow_le_pow_right aa h
 have hp:0<(2:Nat) ^ K:=Nat.pos_of_ne_zero aj
 have e:((2 ^ K:Nat):Int)=(2:Int) ^ K:=by simp
 omega
theorem Zb {n K m:Nat} {c:Int} (hK:K≤60) (hn:n<2 ^ K) (h0:48≤c) (h1:c≤57) (hm:m=n+(c-48).toNat*2 ^ K) :
  IntKind.u64.wrap (((n:Nat):Int)+IntKind.u64.wrap ((c-48)*2 ^ (min ((K:Nat):Int).toNat IntKind.u64.bits)))=((m:Nat):Int)∧m<18446744073709551616:=by
 have e:min ((K:Nat):Int).toNat IntKind.u64.bits=K:=by
  show min ((K:Nat):Int).toNat 64=K
  omega
 rw [e]
 have hp:=Xd hK
 have hp':(2:Nat) ^ K≤2 ^ 60:=Nat.pow_le_pow_right aa hK
 have e2:((2 ^ K:Nat):Int)=(2:Int) ^ K:=by simp
 have e3:(c-48)=(((c-48).toNat:Nat):Int):=aa
 have hc:(c-48).toNat≤9:=aa
 generalize (c-48).toNat=q at *
 have b1:q*2 ^ K≤9*2 ^ 60:=Nat.mul_le_mul hc hp'
 have e4:(c-48)*2 ^ K=((q*2 ^ K:Nat):Int):=by rw [e3];simp
 rw [e4]
 generalize q*2 ^ K=z at *
 have:(2:Nat) ^ 60=1152921504606846976:=by decide
 refine ⟨?_,by omega⟩
 rw [bT (x:=(z:Int)) aa aa,bT aa aa]
 omega
theorem T5 {ds:List Int} {t:ByteArray} {x:Int} (h0:0≤x) (h:dv ds x.toNat=sv t x.toNat) (e:dg ds x=ak t x):dv ds (x+1).toNat=sv t (x+1).toNat:=by
 rw [show (x+1).toNat=x.toNat+1 by omega,dv,sv,h,show ((x.toNat:Nat):Int)=x by omega,e]
theorem ry.step' {ds:List Int} {nd k r n m:Nat} (h:ry ds nd k r n) (hd:jF ds nd) (hr:1≤r) (hm:m=n+(dg ds ((r:Int)-1)-48).toNat*2 ^ k):ry ds nd k (r-1) (m / 10):=by
 obtain ⟨r,rfl⟩:∃ r',r=r'+1:=⟨r-1,by omega⟩
 have:=h.step hd
 rw [show ((r+1:Nat):Int)-1=(r:Int) by omega] at hm
 rw [hm];exact this
noncomputable def N1:Code:=cz [0,0,0] (bH Tryz.f241)
theorem RQ (a:Nat) (ds:List Int) (N:Int) (dp:Int) (neg:Bool) (tr:Bool):∀(m:Nat) (nd:Int) (H:Hp),Gd E G H→(ka:H.get a=some (.cells (bh ds nd dp neg tr) 281 false))→(hl:ds.length=800)→(n0:0≤nd)→(n1:nd≤N)→(n2:N≤800)→(ga:G.n≤a)→(hz:0<N→49≤dg ds 0→0<nd)→nd.toNat=m→
  aA E G 35 N1 [(0,pt a 0)] H [a] (fun x T H'=>(x=(.exit 0)∧∃(z:Int),T=bw [(0,pt a 0)]∧(H'.get a=some (.cells (bh ds z dp neg tr) 281 false)∧0≤z∧z≤N∧(0<N→49≤dg ds 0→0<z)))):=by
 intro m
 induction m using Nat.strongRecOn with
 |_ m ih=>
 intro nd H y ka hl n0 n1 n2 ga hz hm
 have g0:=y.n
 have zJ:=y.wf.lt ka
 have w1:=fX hl ka
 cases h1:(decide (nd>0)) with
 |true=>
  have q1:=aL h1
  have w2:=aC (nd-1)
  have w3:0≤(nd-1):=aa
  have w4:(nd-1)<(800:Int):=aa
  have w5:=ym (i:=(nd-1)) hl ka aa aa
  cases h2:((dg ds (nd-1))==48) with
  |true=>
   have q2:=bW h2
   obtain ⟨K1,e1⟩:∃ K_,K_=H.set a (.cells (bh ds (nd-1) dp neg tr) 281 false):=⟨_,rfl⟩
   have y1:Gd E G K1:=e1▸y.set _ aa aa
   have jq:K1.n=H.n+0:=by rw [e1,Hp.cT] <;> rfl
   have g1:=y1.n
   have dX:=aP e1
   exact aA.next' y (bf [au 2,vl (iI nd) H,aI,au 4,vl (iI nd) H,.as (iI (nd-1)),au 1,.ck,vl (uB (dg ds (nd-1))) H,aI,au 3,vl (iI nd) H,.as (iI (nd-1)),au 1,vl bJ K1] [(0,(pt a 0))] .normal K1 [a] (fun _ r_=>aE ag ag ag ag w1 ag h1 ag<|aE ag ag ag ag ag w1 ag w2<|aE ag ag ag w3 w4 ag w5 ag<|fG h2 ag ag w1 w2 (show az E 3 a 800 (iI (nd-1)) H=some K1 from (qn hl ka).trans (congrArg some e1.symm)) r_)) aj (ih _ aa (nd-1) _ y1 dX hl aa aa n2 ga (fun a b=>by
    have a:=hz a b
    rcases Int.lt_or_le 1 nd with h |h
    ·omega
    ·exfalso
     have e:nd=1:=aa
     subst e
     have:=q2
     simp at this
     omega) rfl)
  |false=>
   have q2:=bK h2
   exact aA.last' y (bf [au 2,vl (iI nd) H,aI,au 4,vl (iI nd) H,.as (iI (nd-1)),au 1,.ck,vl (uB (dg ds (nd-1))) H,aF,au 0] [(0,pt a 0)] (.exit 0) H [] (fun _ r_=>aE ag ag ag ag w1 ag h1 ag<|aE ag ag ag ag ag w1 ag w2<|aE ag ag ag w3 w4 ag w5 ag<|eY h2 ag ag r_)) aj aM aJ ⟨rfl,nd,rfl,⟨ka,by omega,by omega,hz⟩⟩
 |false=>
  have q1:=aQ h1
  exact aA.last' y (bf [au 2,vl (iI nd) H,aF,au 1] [(0,pt a 0)] (.exit 0) H [] (fun _ r_=>aE ag ag ag ag w1 ag h1 ag<|cU ag ag r_)) aj aM aJ ⟨rfl,nd,rfl,⟨ka,by omega,by omega,hz⟩⟩
theorem M9:E.func 241=some Tryz.f241:=ah
theorem Na:bO Tryz.f241 1=true:=ah
theorem tD (a:Nat) (ds:List Int) (nd:Int) (dp:Int) (neg:Bool) (tr:Bool) {H:Hp} (y:Gd E G H) (hl:ds.length=800) (ka:H.get a=some (.cells (bh ds nd dp neg tr) 281 false)) (n0:0≤nd) (n2:nd≤800) (ga:G.n≤a):aD E G 241 [pt a 0] H [a] (fun v H'=>∃ z pH:Int,v=.tuple #[]∧H'.get a=some (.cells (bh ds z pH neg tr) 281 false)∧0≤z∧z≤nd∧(0<nd→49≤dg ds 0→0<z)∧(0<z→pH=dp)):=by
 have g0:=y.n
 have zJ:=y.wf.lt ka
 obtain ⟨_,_,H1,c1,bN,y1,rfl,z_1,rfl,Y2,cw,iX,qV⟩:=(RQ a ds nd dp neg tr _ nd _ y ka hl n0 (Int.le_refl _) n2 ga (fun a _=>a) rfl).code
 have jq:H.n+0≤H1.n:=bN.n
 have g1:=y1.n
 have w1:=fX hl Y2
 cases h1:(z_1==0) with
 |true=>
  have q1:=bW h1
  obtain ⟨K2,e2⟩:∃ K_,K_=H1.set a (.cells (bh ds z_1 0 neg tr) 281 false):=⟨_,rfl⟩
  have y2:Gd E G K2:=e2▸y1.set _ aa aa
  have jI:K2.n=H1.n+0:=by rw [e2,Hp.cT] <;> rfl
  have g2:=y2.n
  have s8:=aP e2
  exact aD.mk y (dj [.loop [0] (.exit 0) (bw [(0,pt a 0)]) H1 [a],au 2,vl (iI z_1) H1,aI,au 2,vl bJ K2] (.tuple #[]) K2 [a,a] M9 Na (gm c1 w1 h1 (show az E 3 a 801 (iI 0) H1=some K2 from (k8 hl Y2).trans (congrArg some e2.symm)) aS)) aj aJ ⟨_,_,rfl,s8,cw,iX,qV,fun h=>by omega⟩
 |false=>
  have q1:=bK h1
  exact aD.mk y (dj [.loop [0] (.exit 0) (bw [(0,pt a 0)]) H1 [a],au 2,vl (iI z_1) H1,aF] (.tuple #[]) H1 [a] M9 Na (eY c1 w1 h1 aS)) aj aJ ⟨_,_,rfl,Y2,cw,iX,qV,fun h=>by omega⟩
noncomputable def EH:Code:=cz [1,0,1,0,0] (bH Tryz.f240)
noncomputable abbrev Cy (ds:List Int) (x5:Int) (H:Hp) (l_:List Hint):=au 2::aI::au 2::aF::au 1::.ck::vl (uB (dg ds x5)) H::au 1::.ck::aI::au 1::.ck::vl (uB (dg ds x5)) H::au 1::.ck::l_
theorem He (a:Nat) (ds:List Int) (N:Nat) (dp:Int) (neg:Bool) (tr:Bool) (t:ByteArray):∀(m:Nat) (x5:Int) (H:Hp),Gd E G H→(ka:H.get a=some (.cells (bh ds ((N:Nat):Int) dp neg tr) 281 false))→(hl:ds.length=800)→(n2:N≤800)→(hd:jF ds N)→(hs:Bw t)→(hp:0<t.size)→(B1:49≤ak t ((t.size:Int)-1))→(hsz:t.size<1000)→(x0:0≤x5)→(x1:x5≤t.size)→(x2:x5≤N)→(he:dv ds x5.toNat=sv t x5.toNat)→((t.size:Int)-x5).toNat=m→
  aA E G 32 EH [(0,sc a 0 N 1601),(1,.string t),(5,iI x5)] H [] (fun x T H'=>(x=(.exit 0)∧T=bw []∧(¬ Below ds N t))∨(x=.ret∧∃(z4:Bool),T=bw [(4,.bool z4)]∧((z4=true→Below ds N t)∧(z4=false→¬ Below ds N t)))):=by
 intro m
 induction m using Nat.strongRecOn with
 |_ m ih=>
 intro x5 H y ka hl n2 hd hs hp B1 hsz x0 x1 x2 he hm
 have g0:=y.n
 have zJ:=y.wf.lt ka
 cases h1:(decide (x5<(t.size:Int))) with
 |true=>
  have q1:=aL h1
  cases h2:(decide (x5≥((N:Nat):Int))) with
  |true=>
   have q2:=aL h2
   exact aA.last' y (bf [au 2,aI,au 2,aI,au 0] [(4,.bool true)] .ret H [] (fun _ r_=>cU h1 h2 r_)) aj aM aM (.inr (⟨rfl,true,rfl,⟨fun _=>It hs hp B1 aa (by rw [← (show x5.toNat=N by omega)];exact he),fun h=>by cases h⟩⟩))
  |false=>
   have q2:=aQ h2
   have w1:0≤x5:=aa
   have w2:x5<((N:Nat):Int):=aa
   have w3:=ym (i:=x5) hl ka aa aa
   have w4:x5<(t.size:Int):=aa
   cases h3:((dg ds x5) != (ak t x5)) with
   |true=>
    have q3:=Iu h3
    cases h4:(decide ((dg ds x5)<(ak t x5))) with
    |true=>
     have q4:=aL h4
     exact aA.last' y (bf (Cy ds x5 H [aI,au 0]) [(4,.bool true)] .ret H [] (fun _ r_=>aE h1 h2 ag ag ag w1 w2 ag<|aE w3 ag ag ag w1 w4 ag h3<|aE ag ag ag ag w1 w2 ag w3<|aE ag ag ag w1 w4 ag h4 ag<|cF ag r_)) aj aM aM (.inr (⟨rfl,true,rfl,⟨fun _=>Kb (i:=x5.toNat) hd hs aa aa he (by rw [(show ((x5.toNat:Nat):Int)=x5 by omega)];exact q4),fun h=>by cases h⟩⟩))
    |false=>
     have q4:=aQ h4
     exact aA.last' y (bf (Cy ds x5 H [aF,au 0]) [(4,.bool false)] .ret H [] (fun _ r_=>aE h1 h2 ag ag ag w1 w2 ag<|aE w3 ag ag ag w1 w4 ag h3<|aE ag ag ag ag w1 w2 ag w3<|aE ag ag ag w1 w4 ag h4 ag<|cF ag r_)) aj aM aM (.inr (⟨rfl,false,rfl,⟨(fun h=>by cases h),fun _=>Cs (i:=x5.toNat) hd hs aa aa he (by rw [(show ((x5.toNat:Nat):Int)=x5 by omega)];omega)⟩⟩))
   |false=>
    have q3:=Bz h3
    have w5:=aC (x5+1)
    exact aA.next' y (bf [au 2,aI,au 2,aF,au 1,.ck,vl (uB (dg ds x5)) H,au 1,.ck,aF,au 0,.as (iI (x5+1)),au 0] [(0,sc a 0 N 1601),(1,.string t),(5,iI (x5+1))] .normal H [] (fun _ r_=>aE h1 h2 ag ag ag w1 w2 ag<|aE w3 ag ag ag w1 w4 ag h3<|cU ag w5 r_)) aM (ih _ aa (x5+1) _ y ka hl n2 hd hs hp B1 hsz aa aa aa (T5 aa he q3) rfl)
 |false=>
  have q1:=aQ h1
  exact aA.last' y (bf [au 2,aF] [] (.exit 0) H [] (fun _ r_=>cF h1 r_)) aj aM aM (.inl (⟨rfl,rfl,EO hd aa (by rw [← (show x5.toNat=t.size by omega)];exact he)⟩))
theorem M7:E.func 240=some Tryz.f240:=ah
theorem M8:bO Tryz.f240 2=true:=ah
theorem Lu (a:Nat) (ds:List Int) (N:Nat) (dp:Int) (neg:Bool) (tr:Bool) (t:ByteArray) {H:Hp} (y:Gd E G H) (hl:ds.length=800) (ka:H.get a=some (.cells (bh ds ((N:Nat):Int) dp neg tr) 281 false)) (n2:N≤800) (hd:jF ds N) (hs:Bw t) (hp:0<t.size) (B1:49≤ak t ((t.size:Int)-1)) (hsz:t.size<1000):aD E G 240 [sc a 0 N 1601,.string t] H [] (fun v H'=>∃ z:Bool,v=.bool z∧(z=true→Below ds N t)∧(z=false→¬ Below ds N t)):=by
 have g0:=y.n
 have zJ:=y.wf.lt ka
 obtain ⟨_,_,H1,c1,bN,y1,eD⟩:=(He a ds N dp neg tr t _ 0 _ y ka hl n2 hd hs hp B1 hsz aa aa aa rfl rfl).code
 rcases eD with ⟨rfl,rfl,cw⟩ |⟨rfl,cL,rfl,cw⟩
 ·have jq:H.n+0≤H1.n:=bN.n
  have g1:=y1.n
  exact bA y [au 1,.loop [0,1,5] (.exit 0) (bw []) H1 [],au 0] (.bool false) H1 M7 M8 (cF c1 aS) ⟨_,rfl,(fun h=>by cases h),fun _=>cw⟩
 ·have jq:H.n+0≤H1.n:=bN.n
  have g1:=y1.n
  exact bA y [au 1,.loop [0,1,5] .ret (bw [(4,.bool cL)]) H1 []] (.bool cL) H1 M7 M8 (cF c1 aS) ⟨_,rfl,cw⟩
structure LS (fY ds:List Int) (N K:Nat) (dl:Int) (r n:Nat):Prop where
 len:ds.length=800
 inv:ry fY N K r n
 same:∀ i:Int,0≤i→i<r→dg ds i=dg fY i
 wr:∀ i:Int,r+dl≤i→i<N+dl→i<800→48≤dg ds i∧dg ds i≤57
 z:r=0→r<N→dl=0→∃ c:Nat,n=c / 10∧(dg fY 0-48).toNat*2 ^ K≤c∧dg ds 0=((c%10:Nat):Int)+48
theorem LS.init {fY:List Int} {N K:Nat} {dl:Int} (hl:fY.length=800):LS fY fY N K dl N 0:=⟨hl,.init ..,fun _ _ _=>rfl,fun i a b c=>by omega,fun a b=>by omega⟩
theorem LS.dig {fY ds:List Int} {N K:Nat} {dl:Int} {r n:Nat} (h:LS fY ds N K dl r n) (hd:jF fY N) (hr:0≤(r:Int)-1):48≤dg ds ((r:Int)-1)∧dg ds ((r:Int)-1)≤57:=by
 rw [h.same _ hr aa]
 have:=h.inv.1
 exact hd _ hr aa
theorem LS.step {fY ds:List Int} {N K:Nat} {dl:Int} {r n m:Nat} (h:LS fY ds N K dl r n) (hd:jF fY N) (hr:0≤(r:Int)-1) (h0:0≤dl) (hm:m=n+(dg ds ((r:Int)-1)-48).toNat*2 ^ K) (hw:((r-1:Nat):Int)+dl<800) :
  LS fY (ds.set (((r-1:Nat):Int)+dl).toNat (((m%10:Nat):Int)+48)) N K dl (r-1) (m / 10):=by
 have hs:=h.same _ hr aa
 refine ⟨k7 h.len,h.inv.step' hd aa (by rw [hm,hs]),fun i a b=>?_,fun i a b c=>?_,fun a b c=>?_⟩
 ·rw [qm h.len aa _ i a,if_neg aa]
  exact h.same i a aa
 ·rw [qm h.len aa _ i aa]
  split
  ·omega
  ·exact h.wr i aa b c
 ·refine ⟨m,rfl,?_,?_⟩
  ·have e:(r:Int)-1=0:=aa
   rw [e] at hs hm
   rw [← hs];omega
  ·rw [qm h.len aa _ 0 aa,if_pos aa]
theorem LS.drop {fY ds:List Int} {N K:Nat} {dl:Int} {r n m:Nat} (h:LS fY ds N K dl r n) (hd:jF fY N) (hr:0≤(r:Int)-1) (h0:0≤dl) (hm:m=n+(dg ds ((r:Int)-1)-48).toNat*2 ^ K) (hw:¬ ((r-1:Nat):Int)+dl<800) :
  LS fY ds N K dl (r-1) (m / 10):=by
 have hs:=h.same _ hr aa
 refine ⟨h.len,h.inv.step' hd aa (by rw [hm,hs]),fun i a b=>h.same i a aa,fun i a b c=>h.wr i aa b c,fun a b c=>by omega⟩
structure LT (fY ds:List Int) (N:Nat) (dl:Int) (w n:Nat):Prop where
 len:ds.length=800
 le:(w:Int)≤dl
 up:n<10 ^ w
 low:1≤w→10 ^ (w-1)≤n
 wr:∀ i:Int,w≤i→i<N+dl→i<800→48≤dg ds i∧dg ds i≤57
 hd:w=0→0<dl→49≤dg ds 0
 z:dl=0→dg fY 0<dg ds 0
theorem LS.z0 {fY ds:List Int} {N K n:Nat} {dl:Int} (h:LS fY ds N K dl 0 n) (hN:1≤N) (hK:1≤K) (h1:49≤dg fY 0) (ZZ:dl=0) (hn:n=0):dg fY 0<dg ds 0:=by
 obtain ⟨c,e1,e2,e3⟩:=h.z rfl aa ZZ
 have:(dg fY 0-48).toNat*2≤(dg fY 0-48).toNat*2 ^ K:=Nat.mul_le_mul_left _ (by
  calc 2=2 ^ 1:=rfl
   _≤2 ^ K:=Nat.pow_le_pow_right aa hK)
 omega
theorem Qm {ds:List Int} {N:Nat} (hd:jF ds N) (hN:1≤N) (h1:49≤dg ds 0):10 ^ (N-1)≤dv ds N:=by
 have h:=(yq hd 1 (N-1) aa).1
 rw [show 1+(N-1)=N by omega] at h
 have e:dv ds 1=(dg ds 0-48).toNat:=by simp [dv]
 rw [e] at h
 have:1*10 ^ (N-1)≤(dg ds 0-48).toNat*10 ^ (N-1):=Nat.mul_le_mul_right _ aa
 omega
theorem LS.more {fY ds:List Int} {N K n delta:Nat} {s:ByteArray} (h:LS fY ds N K (delta:Int) 0 n) (c:xV K delta s) (hd:jF fY N) (hN:1≤N) (h1:49≤dg fY 0) (hb:¬ Below fY N s):LT fY ds N delta delta n:=
 ⟨h.len,Int.le_refl _,h.inv.up c,fun _=>h.inv.more c hb,fun i a b d=>h.wr i aa b d,fun a b=>by omega,fun a=>by have:=c.d1;omega⟩
theorem LS.less {fY ds:List Int} {N K n delta:Nat} {s:ByteArray} (h:LS fY ds N K ((delta:Int)-1) 0 n) (c:xV K delta s) (hd:jF fY N) (hN:1≤N) (hK:1≤K) (h1:49≤dg fY 0) (hb:Below fY N s):LT fY ds N ((delta:Int)-1) (delta-1) n:=
 ⟨h.len,by have:=c.d1;omega,h.inv.less c hb,fun hw=>by
   have:=h.inv.RU c (Qm hd hN h1) hN aa
   rwa [show delta-1-1=delta-2 by omega],
  fun i a b d=>h.wr i (by have:=c.d1;omega) b d,fun a b=>by omega,fun a=>h.z0 hN hK h1 a (by
   have:=h.inv.less c hb
   rw [show delta-1=0 by omega] at this
   omega)⟩
theorem LT.pos {fY ds:List Int} {N w n:Nat} {dl:Int} (h:LT fY ds N dl w n) (hn:0<n):1≤w:=by
 rcases Nat.eq_zero_or_pos w with e |e
 ·subst e;have:=h.up;omega
 ·exact e
theorem LT.zero {fY ds:List Int} {N w:Nat} {dl:Int} (h:LT fY ds N dl w 0):w=0:=by
 rcases Nat.eq_zero_or_pos w with e |e
 ·exact e
 ·have h1:=h.low e
  have:0<10 ^ (w-1):=Nat.pos_of_ne_zero aj
  omega
theorem LT.step {fY ds:List Int} {N w n:Nat} {dl:Int} (h:LT fY ds N dl w n) (hn:0<n) (ZZ:dl≤19):LT fY (ds.set ((w-1:Nat):Int).toNat (((n%10:Nat):Int)+48)) N dl (w-1) (n / 10):=by
 have hw:=h.pos hn
 have hle:=h.le
 have hp:10 ^ w=10 ^ (w-1)*10:=by rw [← Nat.pow_succ];congr 1;omega
 have hu:=h.up
 have hlo:=h.low hw
 refine ⟨k7 h.len,by omega,by omega,fun h1=>?_,fun i a b c=>?_,fun a b=>?_,fun a=>by omega⟩
 ·have GY:10 ^ (w-1)=10 ^ (w-1-1)*10:=by rw [← Nat.pow_succ];congr 1;omega
  omega
 ·rw [qm h.len aa _ i aa]
  split
  ·omega
  ·exact h.wr i aa b c
 ·rw [qm h.len aa _ 0 aa,if_pos aa]
  have e:w=1:=aa
  subst e
  simp at hu hlo
  omega
theorem LT.ab7 {fY ds:List Int} {N w n:Nat} {dl x:Int} (h:LT fY ds N dl w n) (hx:x=(w:Int)) (hn:(n:Int)>0) (ZZ:dl≤19):LT fY (ds.set (x-1).toNat (((n%10:Nat):Int)+48)) N dl (w-1) (n / 10):=by
 have hw:=h.pos aa
 rw [show (x-1).toNat=((w-1:Nat):Int).toNat by omega]
 exact h.step aa ZZ
theorem LT.done {fY ds:List Int} {N w n:Nat} {dl:Int} (h:LT fY ds N dl w n) (hn:¬ (n:Int)>0):LT fY ds N dl 0 0:=by
 have e:n=0:=aa
 subst e
 have e:=h.zero
 subst e
 exact h
theorem Ej {n d:Nat} (h:n<10 ^ d) (hd:d≤19):n<18446744073709551616:=by
 have:10 ^ d≤10 ^ 19:=Nat.pow_le_pow_right aa hd
 have e:(10:Nat) ^ 19=10000000000000000000:=by decide
 omega
theorem LT.fin {fY ds:List Int} {N:Nat} {dl:Int} (h:LT fY ds N dl 0 0) (h1:49≤dg fY 0):49≤dg ds 0∧(∀ m:Int,m≤N+dl→m≤800→jF ds m)∧(0<dl∨dl=0∧dg fY 0<dg ds 0):=by
 have hle:=h.le
 refine ⟨?_,fun m a b i c d=>h.wr i aa aa aa,?_⟩
 ·rcases Int.lt_or_le 0 dl with e |e
  ·exact h.hd rfl e
  ·have:=h.z aa;omega
 ·rcases Int.lt_or_le 0 dl with e |e
  ·exact .inl e
  ·exact .inr ⟨by omega,h.z aa⟩
theorem xV.d19 {k delta:Nat} {s:ByteArray} (c:xV k delta s) (hk:k≤60):delta≤19:=by
 rcases Nat.lt_or_ge 19 delta with h |h
 ·exfalso
  have h1:=c.low
  have h2:10 ^ 19≤10 ^ (delta-1):=Nat.pow_le_pow_right aa aa
  have h3:2 ^ k≤2 ^ 60:=Nat.pow_le_pow_right aa hk
  have:(2:Nat) ^ 60<10 ^ 19:=by decide
  omega
 ·exact h
noncomputable def sX:Code:=cz [1,1,1,1,1,0,1,0,0] (bH Tryz.f233)
noncomputable abbrev wE (ds:List Int) (r:Nat) (H:Hp) (m:Nat) (dl:Int) (l_:List Hint):=au 0::aI::au 4::.ck::vl (uB (dg ds (((r:Nat):Int)-1))) H::.as (uU (dg ds (((r:Nat):Int)-1)))::.as (uU ((dg ds (((r:Nat):Int)-1))-48))::au 0::.ck::.as (uU ((m:Nat):Int))::au 1::.as (uU ((m / 10:Nat):Int))::au 2::.as (uU (10*((m / 10:Nat):Int)))::.as (uU ((m%10:Nat):Int))::au 1::.as (iI (((r-1:Nat):Int)+dl))::au 1::l_
theorem mY (a:Nat) (fY:List Int) (N:Nat) (K:Nat) (dl:Int) (dp:Int) (neg:Bool):∀(m:Nat) (ds:List Int) (tr:Bool) (r:Nat) (n:Nat) (H:Hp),Gd E G H→(ka:H.get a=some (.cells (bh ds ((N:Nat):Int) dp neg tr) 281 false))→(h:LS fY ds N K dl r n)→(hd:jF fY ((N:Nat):Int))→(hN:N≤800)→(qo:K≤60)→(h0:0≤dl)→(WR:dl≤19)→(ga:G.n≤a)→r=m→
  aA E G 137 sX [(0,pt a 0),(1,uU ((K:Nat):Int)),(4,iI dl),(5,iI (((r:Nat):Int)-1)),(6,iI (((r:Nat):Int)+dl)),(7,uU ((n:Nat):Int))] H [a] (fun x T H'=>(x=(.exit 0)∧∃(zd:List Int) (zt:Bool) (zn:Nat),T=bw [(0,pt a 0),(4,iI dl),(6,iI dl),(7,uU ((zn:Nat):Int))]∧(H'.get a=some (.cells (bh zd ((N:Nat):Int) dp neg zt) 281 false)∧LS fY zd N K dl 0 zn))):=by
 intro m
 induction m using Nat.strongRecOn with
 |_ m ih=>
 intro ds tr r n H y ka h hd hN qo h0 WR ga hm
 have hr:=h.inv.1
 have zJ:=y.wf.lt ka
 cases h1:(decide ((((r:Nat):Int)-1)≥0)) with
 |true=>
  have q1:=aL h1
  have w1:0≤(((r:Nat):Int)-1):=aa
  have w2:(((r:Nat):Int)-1)<(800:Int):=aa
  have hg:=h.dig hd aa
  have w3:=ym (i:=(((r:Nat):Int)-1)) h.len ka aa aa
  have w4:((uU (IntKind.u64.wrap (dg ds (((r:Nat):Int)-1)))):Value)=(uU (dg ds (((r:Nat):Int)-1))):=(by rw [bT aa aa])
  have w5:((uU (IntKind.u64.wrap ((dg ds (((r:Nat):Int)-1))-48))):Value)=(uU ((dg ds (((r:Nat):Int)-1))-48)):=(by rw [bT aa aa])
  have w6:0≤((K:Nat):Int):=aa
  obtain ⟨m,hm⟩:∃ m:Nat,m=n+(dg ds (((r:Nat):Int)-1)-48).toNat*2 ^ K:=⟨_,rfl⟩
  obtain ⟨hm1,hm2⟩:=Zb qo h.inv.lt hg.1 hg.2 hm
  have w7:((uU (IntKind.u64.wrap (((n:Nat):Int)+(IntKind.u64.wrap (((dg ds (((r:Nat):Int)-1))-48)*2 ^ (min ((K:Nat):Int).toNat IntKind.u64.bits)))))):Value)=(uU ((m:Nat):Int)):=(by rw [hm1])
  have w8:((uU (IntKind.u64.wrap (Int.tdiv ((m:Nat):Int) 10))):Value)=(uU ((m / 10:Nat):Int)):=(by rw [JO (x:=((m:Nat):Int)) aa,bT aa aa] <;> congr 1)
  have w9:((uU (IntKind.u64.wrap (10*((m / 10:Nat):Int)))):Value)=(uU (10*((m / 10:Nat):Int))):=(by rw [bT aa aa])
  have jE:((uU (IntKind.u64.wrap (((m:Nat):Int)-(10*((m / 10:Nat):Int))))):Value)=(uU ((m%10:Nat):Int)):=(by rw [bT aa aa] <;> congr 1 <;> omega)
  have xU:((iI (IntKind.i64.wrap ((((r:Nat):Int)+dl)-1))):Value)=(iI (((r-1:Nat):Int)+dl)):=(by rw [eU aa aa] <;> congr 1 <;> omega)
  cases h2:(decide ((((r-1:Nat):Int)+dl)<800)) with
  |true=>
   have q2:=aL h2
   have zb:((uU (IntKind.u64.wrap (((m%10:Nat):Int)+48))):Value)=(uU (((m%10:Nat):Int)+48)):=(by rw [bT aa aa])
   have EC:((uB (IntKind.u8.wrap (((m%10:Nat):Int)+48))):Value)=(uB (((m%10:Nat):Int)+48)):=(by rw [vf aa aa])
   have NH:0≤(((r-1:Nat):Int)+dl):=aa
   have ZJ:(((r-1:Nat):Int)+dl)<(800:Int):=aa
   obtain ⟨K1,e1⟩:∃ K_,K_=H.set a (.cells (bh (ds.set (((r-1:Nat):Int)+dl).toNat (((m%10:Nat):Int)+48)) ((N:Nat):Int) dp neg tr) 281 false):=⟨_,rfl⟩
   have y1:Gd E G K1:=e1▸y.set _ aa aa
   have dX:=aP e1
   have ZK:((iI (IntKind.i64.wrap ((((r:Nat):Int)-1)-1))):Value)=(iI (((r-1:Nat):Int)-1)):=(by rw [eU aa aa] <;> congr 1 <;> omega)
   exact aA.next' y (bf (wE ds r H m dl [aI,au 2,.as (uU (((m%10:Nat):Int)+48)),.as (uB (((m%10:Nat):Int)+48)),au 1,.ck,vl bJ K1,au 2,.as (iI (((r-1:Nat):Int)-1)),au 0]) [(0,pt a 0),(1,uU ((K:Nat):Int)),(4,iI dl),(5,iI (((r-1:Nat):Int)-1)),(6,iI (((r-1:Nat):Int)+dl)),(7,uU ((m / 10:Nat):Int))] .normal K1 [a] (fun _ r_=>aE h1 w1 w2 w3 w4 w5 w6 w7<|aE w8 w9 jE xU h2 zb EC NH<|eY ZJ (show az E 5 a (0+(((r-1:Nat):Int)+dl).toNat*1) (uB (((m%10:Nat):Int)+48)) H=some K1 from (Fg h.len ka aa aa).trans (congrArg some e1.symm)) ZK r_)) aj (ih _ aa (ds.set (((r-1:Nat):Int)+dl).toNat (((m%10:Nat):Int)+48)) tr (r-1) (m / 10) _ y1 dX (h.step hd aa h0 hm aa) hd hN qo h0 WR ga rfl)
  |false=>
   have q2:=aQ h2
   cases h3:(((m%10:Nat):Int) != 0) with
   |true=>
    have q3:=Iu h3
    obtain ⟨K1,e1⟩:∃ K_,K_=H.set a (.cells (bh ds ((N:Nat):Int) dp neg true) 281 false):=⟨_,rfl⟩
    have y1:Gd E G K1:=e1▸y.set _ aa aa
    have dX:=aP e1
    have zb:((iI (IntKind.i64.wrap ((((r:Nat):Int)-1)-1))):Value)=(iI (((r-1:Nat):Int)-1)):=(by rw [eU aa aa] <;> congr 1 <;> omega)
    exact aA.next' y (bf (wE ds r H m dl [aF,au 0,aI,au 2,vl bJ K1,au 2,.as (iI (((r-1:Nat):Int)-1)),au 0]) [(0,pt a 0),(1,uU ((K:Nat):Int)),(4,iI dl),(5,iI (((r-1:Nat):Int)-1)),(6,iI (((r-1:Nat):Int)+dl)),(7,uU ((m / 10:Nat):Int))] .normal K1 [a] (fun _ r_=>aE h1 w1 w2 w3 w4 w5 w6 w7<|aE w8 w9 jE xU h2 h3 (show az E 4 a 803 (.bool true) H=some K1 from (lP h.len ka).trans (congrArg some e1.symm)) zb r_)) aj (ih _ aa ds true (r-1) (m / 10) _ y1 dX (h.drop hd aa h0 hm aa) hd hN qo h0 WR ga rfl)
   |false=>
    have zb:((iI (IntKind.i64.wrap ((((r:Nat):Int)-1)-1))):Value)=(iI (((r-1:Nat):Int)-1)):=(by rw [eU aa aa] <;> congr 1 <;> omega)
    exact aA.next' y (bf (wE ds r H m dl [aF,au 0,aF,au 2,.as (iI (((r-1:Nat):Int)-1)),au 0]) [(0,pt a 0),(1,uU ((K:Nat):Int)),(4,iI dl),(5,iI (((r-1:Nat):Int)-1)),(6,iI (((r-1:Nat):Int)+dl)),(7,uU ((m / 10:Nat):Int))] .normal H [] (fun _ r_=>aE h1 w1 w2 w3 w4 w5 w6 w7<|fk w8 w9 jE xU h2 h3 zb r_)) aM (ih _ aa ds tr (r-1) (m / 10) _ y ka (h.drop hd aa h0 hm aa) hd hN qo h0 WR ga rfl)
 |false=>
  have q1:=aQ h1
  exact aA.last' y (bf [au 0,aF] [(0,pt a 0),(4,iI dl),(6,iI (((r:Nat):Int)+dl)),(7,uU ((n:Nat):Int))] (.exit 0) H [] (fun _ r_=>cF h1 r_)) aj aM aJ ⟨rfl,ds,tr,n,(by rw [show ((r:Nat):Int)+dl=dl by omega]),⟨ka,(show r=0 by omega)▸h⟩⟩
noncomputable def sY:Code:=cz [1,1,1,1,1,1,0,0,0] (bH Tryz.f233)
theorem mZ (a:Nat) (fY:List Int) (N:Nat) (dl:Int) (dp:Int) (neg:Bool):∀(m:Nat) (x6:Int) (ds:List Int) (tr:Bool) (w:Nat) (n:Nat) (H:Hp),Gd E G H→(ka:H.get a=some (.cells (bh ds ((N:Nat):Int) dp neg tr) 281 false))→(h:LT fY ds N dl w n)→(hx:x6=((w:Nat):Int))→(WR:dl≤19)→(hn:n<18446744073709551616)→(ga:G.n≤a)→n=m→
  aA E G 137 sY [(0,pt a 0),(4,iI dl),(6,iI x6),(7,uU ((n:Nat):Int))] H [a] (fun x T H'=>(x=(.exit 2)∧∃(zd:List Int) (zt:Bool),T=bw [(0,pt a 0),(4,iI dl)]∧(H'.get a=some (.cells (bh zd ((N:Nat):Int) dp neg zt) 281 false)∧LT fY zd N dl 0 0))):=by
 intro m
 induction m using Nat.strongRecOn with
 |_ m ih=>
 intro x6 ds tr w n H y ka h hx WR hn ga hm
 have hle:=h.le
 have hpos:=h.pos
 have zJ:=y.wf.lt ka
 cases h1:(decide (((n:Nat):Int)>0)) with
 |true=>
  have q1:=aL h1
  have w1:((uU (IntKind.u64.wrap (Int.tdiv ((n:Nat):Int) 10))):Value)=(uU ((n / 10:Nat):Int)):=(by rw [JO (x:=((n:Nat):Int)) aa,bT aa aa] <;> congr 1)
  have w2:((uU (IntKind.u64.wrap (10*((n / 10:Nat):Int)))):Value)=(uU (10*((n / 10:Nat):Int))):=(by rw [bT aa aa])
  have w3:((uU (IntKind.u64.wrap (((n:Nat):Int)-(10*((n / 10:Nat):Int))))):Value)=(uU ((n%10:Nat):Int)):=(by rw [bT aa aa] <;> congr 1 <;> omega)
  have w4:=aC (x6-1)
  have w5:(decide ((x6-1)<800))=true:=decide_eq_true aa
  have w6:((uU (IntKind.u64.wrap (((n%10:Nat):Int)+48))):Value)=(uU (((n%10:Nat):Int)+48)):=(by rw [bT aa aa])
  have w7:((uB (IntKind.u8.wrap (((n%10:Nat):Int)+48))):Value)=(uB (((n%10:Nat):Int)+48)):=(by rw [vf aa aa])
  have w8:0≤(x6-1):=aa
  have w9:(x6-1)<(800:Int):=aa
  obtain ⟨K1,e1⟩:∃ K_,K_=H.set a (.cells (bh (ds.set (x6-1).toNat (((n%10:Nat):Int)+48)) ((N:Nat):Int) dp neg tr) 281 false):=⟨_,rfl⟩
  have y1:Gd E G K1:=e1▸y.set _ aa aa
  have dX:=aP e1
  exact aA.next' y (bf [au 0,aI,au 0,.as (uU ((n / 10:Nat):Int)),au 2,.as (uU (10*((n / 10:Nat):Int))),.as (uU ((n%10:Nat):Int)),au 1,.as (iI (x6-1)),au 1,aI,au 2,.as (uU (((n%10:Nat):Int)+48)),.as (uB (((n%10:Nat):Int)+48)),au 1,.ck,vl bJ K1,au 1] [(0,pt a 0),(4,iI dl),(6,iI (x6-1)),(7,uU ((n / 10:Nat):Int))] .normal K1 [a] (fun _ r_=>aE h1 w1 w2 w3 w4 w5 w6 w7<|eY w8 w9 (show az E 5 a (0+(x6-1).toNat*1) (uB (((n%10:Nat):Int)+48)) H=some K1 from (Fg h.len ka aa aa).trans (congrArg some e1.symm)) r_)) aj (ih _ aa (x6-1) (ds.set (x6-1).toNat (((n%10:Nat):Int)+48)) tr (w-1) (n / 10) _ y1 dX (h.ab7 hx aa WR) aa WR aa ga rfl)
 |false=>
  have q1:=aQ h1
  exact aA.last' y (bf [au 0,aF] [(0,pt a 0),(4,iI dl)] (.exit 2) H [] (fun _ r_=>cF h1 r_)) aj aM aJ ⟨rfl,ds,tr,rfl,⟨ka,h.done aa⟩⟩
theorem Be:E.func 233=some Tryz.f233:=ah
theorem Bf:bO Tryz.f233 2=true:=ah
theorem Ov (a:Nat) (fY:List Int) (N:Nat) (K:Nat) (dp:Int) (neg:Bool) (tr:Bool) {H:Hp} (y:Gd E G H) (hl:fY.length=800) (ka:H.get a=some (.cells (bh fY ((N:Nat):Int) dp neg tr) 281 false)) (hd:jF fY ((N:Nat):Int)) (WT:1≤N) (Fp:N≤800) (hK1:1≤K) (qo:K≤60) (BZ:49≤dg fY 0) (ga:G.n≤a) (Ng:-1000000000000<dp) (Ak:dp<1000000000000):aD E G 233 [pt a 0,uU ((K:Nat):Int)] H [a] (fun v H'=>∃(ds':List Int) (pF pH:Int) (LI:Bool),v=.tuple #[]∧H'.get a=some (.cells (bh ds' pF pH neg LI) 281 false)∧ds'.length=800∧jF ds' pF∧1≤pF∧pF≤800∧49≤dg ds' 0∧(dp<pH∨pH=dp∧dg fY 0<dg ds' 0)∧pH≤dp+19):=by
 have gn:=vR
 have zJ:=y.wf.lt ka
 obtain ⟨delta,l,hk,ch⟩:=aat hK1 qo
 have h1d:=ch.d1
 have h9d:=ch.d19 qo
 have w1:aq E 322 17 0 H=some (sc 29 0 61 123):=bQ NR (ac4 y) rfl
 have w2:0≤((K:Nat):Int):=aa
 have w3:((K:Nat):Int)<(61:Int):=aa
 have w4:aq E 3 29 (0+((K:Nat):Int).toNat*2) H=some (iI ((delta:Nat):Int)):=bQ aR (aah y) (NU hk)
 have w5:=fX hl ka
 have w6:aq E 9 29 ((0+((K:Nat):Int).toNat*2)+1) H=some (.string (⟨l.toArray⟩:ByteArray)):=bQ bB (aah y) (NV hk)
 obtain ⟨_,H1,c1,bN,y1,pb,rfl,ei,hb0⟩:=Lu a fY N dp neg tr _ y hl ka Fp hd ch.qP ch.pos ch.last (by have:=ch.size;omega)
 have jq:H.n+0≤H1.n:=bN.n
 cases pb with
 |true=>
  have w7:=aC (((delta:Nat):Int)-1)
  have dX:=y.kept bN aH ka
  have w8:=fX hl dX
  have w9:=aC (((N:Nat):Int)+(((delta:Nat):Int)-1))
  have jE:=aC (((N:Nat):Int)-1)
  obtain ⟨_,_,H2,c2,dc,y2,rfl,yV,yW,td,rfl,Y3,vq⟩:=(mY a fY N K (((delta:Nat):Int)-1) dp neg _ fY tr N 0 _ y1 dX (.init hl) hd Fp qo aa aa ga rfl).code
  have jI:H1.n+0≤H2.n:=dc.n
  have ht:=vq.less ch hd WT hK1 BZ (ei rfl)
  have hlt:=ht.up
  obtain ⟨_,_,H3,c3,gB,y3,rfl,uD,xO,rfl,G7,lB⟩:=(mZ a fY N (((delta:Nat):Int)-1) dp neg _ (((delta:Nat):Int)-1) yV yW (delta-1) td _ y2 Y3 ht aa aa (Ej hlt aa) ga rfl).code
  have xS:H2.n+0≤H3.n:=gB.n
  have hf:=lB.fin BZ
  have xU:=fX lB.len G7
  obtain ⟨K4,e4⟩:∃ K_,K_=H3.set a (.cells (bh uD (((N:Nat):Int)+(((delta:Nat):Int)-1)) dp neg xO) 281 false):=⟨_,rfl⟩
  have y4:Gd E G K4:=e4▸y3.set _ aa aa
  have H9:K4.n=H3.n+0:=by rw [e4,Hp.cT] <;> rfl
  have G5:=aP e4
  have zb:=fX lB.len G5
  cases h2:(decide ((((N:Nat):Int)+(((delta:Nat):Int)-1))≥800)) with
  |true=>
   have q2:=aL h2
   obtain ⟨K5,e5⟩:∃ K_,K_=K4.set a (.cells (bh uD 800 dp neg xO) 281 false):=⟨_,rfl⟩
   have y5:Gd E G K5:=e5▸y4.set _ aa aa
   have Pt:K5.n=K4.n+0:=by rw [e5,Hp.cT] <;> rfl
   have zv:=aP e5
   have EC:=jH lB.len zv
   have NH:=aC (dp+(((delta:Nat):Int)-1))
   obtain ⟨K6,e6⟩:∃ K_,K_=K5.set a (.cells (bh uD 800 (dp+(((delta:Nat):Int)-1)) neg xO) 281 false):=⟨_,rfl⟩
   have y6:Gd E G K6:=e6▸y5.set _ aa aa
   have YZ:=aP e6
   obtain ⟨_,H7,c7,TB,y7,tz,tp,rfl,kt,t0,t1,t2,t3⟩:=tD a uD 800 (dp+(((delta:Nat):Int)-1)) neg xO y6 lB.len YZ aa aa ga
   exact aD.mk y (dj [vl (sc 29 0 61 123) H,au 0,.ck,au 0,vl (iI ((delta:Nat):Int)) H,au 6,vl (iI ((N:Nat):Int)) H,vl (sc a 0 N 1601) H,vl (sc 29 0 61 123) H,au 0,.ck,au 0,vl (.string (⟨l.toArray⟩:ByteArray)) H,.call (.bool true) H1 [],au 0,.as (iI (((delta:Nat):Int)-1)),au 3,vl (iI ((N:Nat):Int)) H1,au 3,vl (iI ((N:Nat):Int)) H1,au 0,.as (iI (((N:Nat):Int)+(((delta:Nat):Int)-1))),au 2,.as (iI (((N:Nat):Int)-1)),au 0,.loop [0,1,4,5,6,7] (.exit 0) (bw [(0,pt a 0),(4,iI (((delta:Nat):Int)-1)),(6,iI (((delta:Nat):Int)-1)),(7,uU ((td:Nat):Int))]) H2 [a],.loop [0,4,6,7] (.exit 2) (bw [(0,pt a 0),(4,iI (((delta:Nat):Int)-1))]) H3 [a],au 2,vl (iI ((N:Nat):Int)) H3,au 0,.as (iI (((N:Nat):Int)+(((delta:Nat):Int)-1))),au 1,vl bJ K4,au 2,vl (iI (((N:Nat):Int)+(((delta:Nat):Int)-1))) K4,aI,au 2,vl bJ K5,au 2,vl (iI dp) K5,au 0,.as (iI (dp+(((delta:Nat):Int)-1))),au 1,vl bJ K6,au 0,.call (.tuple #[]) H7 [a]] (.tuple #[]) H7 [a,a,a,a,a,a] Be Bf (aE w1 w2 w3 w4 ag ag ag ag<|aE ag ag ag w5 ag (show ja E 279 (pt a 0) (some (iI 0)) (some (iI ((N:Nat):Int))) none=some (sc a 0 N 1601) from yP vc eg aa aa aa) ag w1<|aE ag ag w2 w3 ag ag w6 ag<|aE c1 ag w7 w8 w8 w9 jE c2<|aE c3 xU w9 (show az E 3 a 800 (iI (((N:Nat):Int)+(((delta:Nat):Int)-1))) H3=some K4 from (qn lB.len G7).trans (congrArg some e4.symm)) zb h2 (show az E 3 a 800 (iI 800) K4=some K5 from (qn lB.len G5).trans (congrArg some e5.symm)) EC<|eY NH (show az E 3 a 801 (iI (dp+(((delta:Nat):Int)-1))) K5=some K6 from (k8 lB.len zv).trans (congrArg some e6.symm)) c7 aS)) aj aJ ⟨_,_,_,_,rfl,kt,lB.len,hf.2.1 _ aa aa,(by have:=t2 aa hf.1;omega),aa,hf.1,(by have:=t2 aa hf.1;have:=t3 this;have:=hf.2.2;omega),(by have:=t2 aa hf.1;have:=t3 this;omega)⟩
  |false=>
   have q2:=aQ h2
   have EC:=jH lB.len G5
   have NH:=aC (dp+(((delta:Nat):Int)-1))
   obtain ⟨K5,e5⟩:∃ K_,K_=K4.set a (.cells (bh uD (((N:Nat):Int)+(((delta:Nat):Int)-1)) (dp+(((delta:Nat):Int)-1)) neg xO) 281 false):=⟨_,rfl⟩
   have y5:Gd E G K5:=e5▸y4.set _ aa aa
   have zv:=aP e5
   obtain ⟨_,H6,c6,NK,y6,tz,tp,rfl,kt,t0,t1,t2,t3⟩:=tD a uD (((N:Nat):Int)+(((delta:Nat):Int)-1)) (dp+(((delta:Nat):Int)-1)) neg xO y5 lB.len zv aa aa ga
   exact aD.mk y (dj [vl (sc 29 0 61 123) H,au 0,.ck,au 0,vl (iI ((delta:Nat):Int)) H,au 6,vl (iI ((N:Nat):Int)) H,vl (sc a 0 N 1601) H,vl (sc 29 0 61 123) H,au 0,.ck,au 0,vl (.string (⟨l.toArray⟩:ByteArray)) H,.call (.bool true) H1 [],au 0,.as (iI (((delta:Nat):Int)-1)),au 3,vl (iI ((N:Nat):Int)) H1,au 3,vl (iI ((N:Nat):Int)) H1,au 0,.as (iI (((N:Nat):Int)+(((delta:Nat):Int)-1))),au 2,.as (iI (((N:Nat):Int)-1)),au 0,.loop [0,1,4,5,6,7] (.exit 0) (bw [(0,pt a 0),(4,iI (((delta:Nat):Int)-1)),(6,iI (((delta:Nat):Int)-1)),(7,uU ((td:Nat):Int))]) H2 [a],.loop [0,4,6,7] (.exit 2) (bw [(0,pt a 0),(4,iI (((delta:Nat):Int)-1))]) H3 [a],au 2,vl (iI ((N:Nat):Int)) H3,au 0,.as (iI (((N:Nat):Int)+(((delta:Nat):Int)-1))),au 1,vl bJ K4,au 2,vl (iI (((N:Nat):Int)+(((delta:Nat):Int)-1))) K4,aF,au 2,vl (iI dp) K4,au 0,.as (iI (dp+(((delta:Nat):Int)-1))),au 1,vl bJ K5,au 0,.call (.tuple #[]) H6 [a]] (.tuple #[]) H6 [a,a,a,a,a] Be Bf (aE w1 w2 w3 w4 ag ag ag ag<|aE ag ag ag w5 ag (show ja E 279 (pt a 0) (some (iI 0)) (some (iI ((N:Nat):Int))) none=some (sc a 0 N 1601) from yP vc eg aa aa aa) ag w1<|aE ag ag w2 w3 ag ag w6 ag<|aE c1 ag w7 w8 w8 w9 jE c2<|aE c3 xU w9 (show az E 3 a 800 (iI (((N:Nat):Int)+(((delta:Nat):Int)-1))) H3=some K4 from (qn lB.len G7).trans (congrArg some e4.symm)) zb h2 EC NH<|cU (show az E 3 a 801 (iI (dp+(((delta:Nat):Int)-1))) K4=some K5 from (k8 lB.len G5).trans (congrArg some e5.symm)) c6 aS)) aj aJ ⟨_,_,_,_,rfl,kt,lB.len,hf.2.1 _ aa aa,(by have:=t2 aa hf.1;omega),aa,hf.1,(by have:=t2 aa hf.1;have:=t3 this;have:=hf.2.2;omega),(by have:=t2 aa hf.1;have:=t3 this;omega)⟩
 |false=>
  have dX:=y.kept bN aH ka
  have w7:=fX hl dX
  have w8:=aC (((N:Nat):Int)+((delta:Nat):Int))
  have w9:=aC (((N:Nat):Int)-1)
  obtain ⟨_,_,H2,c2,dc,y2,rfl,yV,yW,td,rfl,Y3,vq⟩:=(mY a fY N K ((delta:Nat):Int) dp neg _ fY tr N 0 _ y1 dX (.init hl) hd Fp qo aa aa ga rfl).code
  have jI:H1.n+0≤H2.n:=dc.n
  have ht:=vq.more ch hd WT BZ (hb0 rfl)
  have hlt:=ht.up
  obtain ⟨_,_,H3,c3,gB,y3,rfl,uD,xO,rfl,G7,lB⟩:=(mZ a fY N ((delta:Nat):Int) dp neg _ ((delta:Nat):Int) yV yW delta td _ y2 Y3 ht aa aa (Ej hlt aa) ga rfl).code
  have xS:H2.n+0≤H3.n:=gB.n
  have hf:=lB.fin BZ
  have jE:=fX lB.len G7
  obtain ⟨K4,e4⟩:∃ K_,K_=H3.set a (.cells (bh uD (((N:Nat):Int)+((delta:Nat):Int)) dp neg xO) 281 false):=⟨_,rfl⟩
  have y4:Gd E G K4:=e4▸y3.set _ aa aa
  have H9:K4.n=H3.n+0:=by rw [e4,Hp.cT] <;> rfl
  have G5:=aP e4
  have xU:=fX lB.len G5
  cases h2:(decide ((((N:Nat):Int)+((delta:Nat):Int))≥800)) with
  |true=>
   have q2:=aL h2
   obtain ⟨K5,e5⟩:∃ K_,K_=K4.set a (.cells (bh uD 800 dp neg xO) 281 false):=⟨_,rfl⟩
   have y5:Gd E G K5:=e5▸y4.set _ aa aa
   have Pt:K5.n=K4.n+0:=by rw [e5,Hp.cT] <;> rfl
   have zv:=aP e5
   have zb:=jH lB.len zv
   have EC:=aC (dp+((delta:Nat):Int))
   obtain ⟨K6,e6⟩:∃ K_,K_=K5.set a (.cells (bh uD 800 (dp+((delta:Nat):Int)) neg xO) 281 false):=⟨_,rfl⟩
   have y6:Gd E G K6:=e6▸y5.set _ aa aa
   have YZ:=aP e6
   obtain ⟨_,H7,c7,TB,y7,tz,tp,rfl,kt,t0,t1,t2,t3⟩:=tD a uD 800 (dp+((delta:Nat):Int)) neg xO y6 lB.len YZ aa aa ga
   exact aD.mk y (dj [vl (sc 29 0 61 123) H,au 0,.ck,au 0,vl (iI ((delta:Nat):Int)) H,au 6,vl (iI ((N:Nat):Int)) H,vl (sc a 0 N 1601) H,vl (sc 29 0 61 123) H,au 0,.ck,au 0,vl (.string (⟨l.toArray⟩:ByteArray)) H,.call (.bool false) H1 [],au 2,vl (iI ((N:Nat):Int)) H1,au 3,vl (iI ((N:Nat):Int)) H1,au 0,.as (iI (((N:Nat):Int)+((delta:Nat):Int))),au 2,.as (iI (((N:Nat):Int)-1)),au 0,.loop [0,1,4,5,6,7] (.exit 0) (bw [(0,pt a 0),(4,iI ((delta:Nat):Int)),(6,iI ((delta:Nat):Int)),(7,uU ((td:Nat):Int))]) H2 [a],.loop [0,4,6,7] (.exit 2) (bw [(0,pt a 0),(4,iI ((delta:Nat):Int))]) H3 [a],au 2,vl (iI ((N:Nat):Int)) H3,au 0,.as (iI (((N:Nat):Int)+((delta:Nat):Int))),au 1,vl bJ K4,au 2,vl (iI (((N:Nat):Int)+((delta:Nat):Int))) K4,aI,au 2,vl bJ K5,au 2,vl (iI dp) K5,au 0,.as (iI (dp+((delta:Nat):Int))),au 1,vl bJ K6,au 0,.call (.tuple #[]) H7 [a]] (.tuple #[]) H7 [a,a,a,a,a,a] Be Bf (aE w1 w2 w3 w4 ag ag ag ag<|aE ag ag ag w5 ag (show ja E 279 (pt a 0) (some (iI 0)) (some (iI ((N:Nat):Int))) none=some (sc a 0 N 1601) from yP vc eg aa aa aa) ag w1<|aE ag ag w2 w3 ag ag w6 ag<|aE c1 ag w7 w7 w8 w9 c2 c3<|aE jE w8 (show az E 3 a 800 (iI (((N:Nat):Int)+((delta:Nat):Int))) H3=some K4 from (qn lB.len G7).trans (congrArg some e4.symm)) xU h2 (show az E 3 a 800 (iI 800) K4=some K5 from (qn lB.len G5).trans (congrArg some e5.symm)) zb EC<|cU (show az E 3 a 801 (iI (dp+((delta:Nat):Int))) K5=some K6 from (k8 lB.len zv).trans (congrArg some e6.symm)) c7 aS)) aj aJ ⟨_,_,_,_,rfl,kt,lB.len,hf.2.1 _ aa aa,(by have:=t2 aa hf.1;omega),aa,hf.1,(by have:=t2 aa hf.1;have:=t3 this;have:=hf.2.2;omega),(by have:=t2 aa hf.1;have:=t3 this;omega)⟩
  |false=>
   have q2:=aQ h2
   have zb:=jH lB.len G5
   have EC:=aC (dp+((delta:Nat):Int))
   obtain ⟨K5,e5⟩:∃ K_,K_=K4.set a (.cells (bh uD (((N:Nat):Int)+((delta:Nat):Int)) (dp+((delta:Nat):Int)) neg xO) 281 false):=⟨_,rfl⟩
   have y5:Gd E G K5:=e5▸y4.set _ aa aa
   have zv:=aP e5
   obtain ⟨_,H6,c6,NK,y6,tz,tp,rfl,kt,t0,t1,t2,t3⟩:=tD a uD (((N:Nat):Int)+((delta:Nat):Int)) (dp+((delta:Nat):Int)) neg xO y5 lB.len zv aa aa ga
   exact aD.mk y (dj [vl (sc 29 0 61 123) H,au 0,.ck,au 0,vl (iI ((delta:Nat):Int)) H,au 6,vl (iI ((N:Nat):Int)) H,vl (sc a 0 N 1601) H,vl (sc 29 0 61 123) H,au 0,.ck,au 0,vl (.string (⟨l.toArray⟩:ByteArray)) H,.call (.bool false) H1 [],au 2,vl (iI ((N:Nat):Int)) H1,au 3,vl (iI ((N:Nat):Int)) H1,au 0,.as (iI (((N:Nat):Int)+((delta:Nat):Int))),au 2,.as (iI (((N:Nat):Int)-1)),au 0,.loop [0,1,4,5,6,7] (.exit 0) (bw [(0,pt a 0),(4,iI ((delta:Nat):Int)),(6,iI ((delta:Nat):Int)),(7,uU ((td:Nat):Int))]) H2 [a],.loop [0,4,6,7] (.exit 2) (bw [(0,pt a 0),(4,iI ((delta:Nat):Int))]) H3 [a],au 2,vl (iI ((N:Nat):Int)) H3,au 0,.as (iI (((N:Nat):Int)+((delta:Nat):Int))),au 1,vl bJ K4,au 2,vl (iI (((N:Nat):Int)+((delta:Nat):Int))) K4,aF,au 2,vl (iI dp) K4,au 0,.as (iI (dp+((delta:Nat):Int))),au 1,vl bJ K5,au 0,.call (.tuple #[]) H6 [a]] (.tuple #[]) H6 [a,a,a,a,a] Be Bf (aE w1 w2 w3 w4 ag ag ag ag<|aE ag ag ag w5 ag (show ja E 279 (pt a 0) (some (iI 0)) (some (iI ((N:Nat):Int))) none=some (sc a 0 N 1601) from yP vc eg aa aa aa) ag w1<|aE ag ag w2 w3 ag ag w6 ag<|aE c1 ag w7 w7 w8 w9 c2 c3<|aE jE w8 (show az E 3 a 800 (iI (((N:Nat):Int)+((delta:Nat):Int))) H3=some K4 from (qn lB.len G7).trans (congrArg some e4.symm)) xU h2 zb EC (show az E 3 a 801 (iI (dp+((delta:Nat):Int))) K4=some K5 from (k8 lB.len G5).trans (congrArg some e5.symm))<|cF c6 aS)) aj aJ ⟨_,_,_,_,rfl,kt,lB.len,hf.2.1 _ aa aa,(by have:=t2 aa hf.1;omega),aa,hf.1,(by have:=t2 aa hf.1;have:=t3 this;have:=hf.2.2;omega),(by have:=t2 aa hf.1;have:=t3 this;omega)⟩
theorem PF {K:Nat} (hK:K≤60):min ((K:Nat):Int).toNat IntKind.u64.bits=K:=by
 show min ((K:Nat):Int).toNat 64=K
 omega
theorem xC {K:Nat} (hK:K≤60):2 ^ K≤1152921504606846976∧0<2 ^ K:=by
 have:(2:Nat) ^ K≤2 ^ 60:=Nat.pow_le_pow_right aa hK
 have e:(2:Nat) ^ 60=1152921504606846976:=by decide
 exact ⟨by omega,Nat.pos_of_ne_zero aj⟩
theorem Bn {n K:Nat} (hK:K≤60):Int.fdiv ((n:Nat):Int) (2 ^ (min ((K:Nat):Int).toNat IntKind.u64.bits))=((n / 2 ^ K:Nat):Int):=by
 rw [PF hK,Int.fdiv_eq_ediv_of_nonneg _ (by have:=Xd hK;omega)]
 simp
theorem D8 {n K:Nat} (hK:K≤60) (h:Int.fdiv ((n:Nat):Int) (2 ^ (min ((K:Nat):Int).toNat IntKind.u64.bits))=0):n<2 ^ K∧n<1152921504606846976:=by
 rw [Bn hK] at h
 have hp:=xC hK
 have h:n / 2 ^ K=0:=aa
 have:=(Nat.div_eq_zero_iff_lt hp.2).1 h
 exact ⟨this,by omega⟩
theorem NA {n K:Nat} (hK:K≤60) (h:Int.fdiv ((n:Nat):Int) (2 ^ (min ((K:Nat):Int).toNat IntKind.u64.bits))≠0):2 ^ K≤n:=by
 rw [Bn hK] at h
 rcases Nat.lt_or_ge n (2 ^ K) with h1 |h1
 ·rw [Nat.div_eq_of_lt h1] at h;exact absurd rfl h
 ·exact h1
theorem R2 {K:Nat} (hK:K≤60):IntKind.u64.wrap (IntKind.u64.wrap (1*2 ^ (min ((K:Nat):Int).toNat IntKind.u64.bits))-1)=((2 ^ K-1:Nat):Int):=by
 rw [PF hK]
 have hp:=xC hK
 have e:(1:Int)*2 ^ K=((2 ^ K:Nat):Int):=by simp
 rw [e,bT (x:=((2 ^ K:Nat):Int)) aa aa,bT aa aa]
 omega
theorem Im {n K:Nat} (hK:K≤60) (hn:n<18446744073709551616):IntKind.u64.wrap (((BitVec.ofInt 64 ((n:Nat):Int) &&& BitVec.ofInt 64 ((2 ^ K-1:Nat):Int)).toNat:Nat):Int)=((n%2 ^ K:Nat):Int):=by
 have hp:=xC hK
 have e1:(BitVec.ofInt 64 ((n:Nat):Int)).toNat=n:=by
  rw [BitVec.ofInt_natCast,BitVec.toNat_ofNat];exact Nat.mod_eq_of_lt hn
 have e2:(BitVec.ofInt 64 ((2 ^ K-1:Nat):Int)).toNat=2 ^ K-1:=by
  rw [BitVec.ofInt_natCast,BitVec.toNat_ofNat];exact Nat.mod_eq_of_lt aa
 rw [BitVec.toNat_and,e1,e2,Nat.and_two_pow_sub_one_eq_mod]
 have:n%2 ^ K<2 ^ K:=Nat.mod_lt _ hp.2
 rw [bT aa aa]
structure RB (fY ds:List Int) (N K nA:Nat) (r w:Int) (n:Nat):Prop where
 len:ds.length=800
 lt:n<10*2 ^ K
 w0:0≤w
 wr:w+1≤r
 wN:w≤N
 same:∀ i:Int,r≤i→i<N→dg ds i=dg fY i
 qP:jF ds w
 f:w=0→n=nA∧2 ^ K≤n
 g:1≤w→dg ds 0=((nA / 2 ^ K:Nat):Int)+48
theorem RB.init {fY:List Int} {N K nA:Nat} {r:Int} (hl:fY.length=800) (h1:nA<10*2 ^ K) (h2:2 ^ K≤nA) (hr:1≤r):RB fY fY N K nA r 0 nA:=
 ⟨hl,h1,by omega,by omega,by omega,fun _ _ _=>rfl,fun i a b=>by omega,fun _=>⟨rfl,h2⟩,fun h=>by omega⟩
theorem TY {n K:Nat} (h:n<10*2 ^ K):n / 2 ^ K≤9:=by
 have hp:0<2 ^ K:=Nat.pos_of_ne_zero aj
 have:=(Nat.div_lt_iff_lt_mul hp).2 h
 omega
theorem RB.step {fY ds:List Int} {N K nA n m:Nat} {r w:Int} (h:RB fY ds N K nA r w n) (hd:jF fY N) (hN:N≤800) (hr:r<N) (hm:(m:Int)=((n%2 ^ K:Nat):Int)*10+dg ds r-48) :
  RB fY (ds.set w.toNat (((n / 2 ^ K:Nat):Int)+48)) N K nA (r+1) (w+1) m:=by
 have h0:=h.w0
 have h1:=h.wr
 have hs:=h.same r aa hr
 have hg:=hd r aa hr
 have h9:=TY h.lt
 have hq:(0:Int)≤((n / 2 ^ K:Nat):Int):=Int.natCast_nonneg _
 have hp:0<2 ^ K:=Nat.pos_of_ne_zero aj
 have hmod:n%2 ^ K<2 ^ K:=Nat.mod_lt _ hp
 refine ⟨k7 h.len,by omega,by omega,by omega,by omega,fun i a b=>?_,h.qP.set h.len h0 aa aa aa,fun e=>by omega,fun _=>?_⟩
 ·rw [qm h.len aa _ i aa,if_neg aa]
  exact h.same i aa b
 ·rw [qm h.len aa _ 0 aa]
  split
  ·rw [(h.f aa).1]
  ·exact h.g aa
structure RC (ds:List Int) (K nA:Nat) (w:Int) (n j:Nat):Prop where
 len:ds.length=800
 lt:n<10*2 ^ K
 w0:0≤w
 w8:w≤800
 qP:jF ds w
 f:w=0→n=nA∧2 ^ K≤n
 g:1≤w→dg ds 0=((nA / 2 ^ K:Nat):Int)+48
 dvd:2 ^ j ∣ n
 jK:j≤K+1
 last:j=K+1→n=0
theorem RB.ae3 {fY ds:List Int} {N K nA n:Nat} {r w:Int} (h:RB fY ds N K nA r w n) (hN:N≤800):RC ds K nA w n 0:=
 ⟨h.len,h.lt,h.w0,by have:=h.wN;omega,h.qP,h.f,h.g,by simp,by omega,fun e=>by omega⟩
theorem RC.rest {ds:List Int} {K nA n j:Nat} {w:Int} (h:RC ds K nA w n j) (hn:(n:Int)>0):(n%2 ^ K*10)<10*2 ^ K∧2 ^ (j+1) ∣ n%2 ^ K*10∧j+1≤K+1∧(j+1=K+1→n%2 ^ K*10=0):=by
 have hp:0<2 ^ K:=Nat.pos_of_ne_zero aj
 have hmod:n%2 ^ K<2 ^ K:=Nat.mod_lt _ hp
 have hj:j≤K:=by
  rcases Nat.lt_or_ge K j with e |e
  ·have:=h.last (by have:=h.jK;omega);omega
  ·exact e
 have hd:2 ^ j ∣ n%2 ^ K:=(Nat.dvd_mod_iff (Nat.pow_dvd_pow 2 hj)).2 h.dvd
 refine ⟨by omega,?_,by omega,fun e=>?_⟩
 ·rw [Nat.pow_succ]
  exact Nat.mul_dvd_mul hd ⟨5,rfl⟩
 ·have e:j=K:=aa
  subst e
  have:=Nat.mod_eq_zero_of_dvd h.dvd
  omega
theorem RC.step {ds:List Int} {K nA n j:Nat} {w:Int} (h:RC ds K nA w n j) (hn:(n:Int)>0) (hw:w<800):RC (ds.set w.toNat (((n / 2 ^ K:Nat):Int)+48)) K nA (w+1) (n%2 ^ K*10) (j+1):=by
 obtain ⟨a1,a2,a3,a4⟩:=h.rest hn
 have h0:=h.w0
 have h9:=TY h.lt
 have hq:(0:Int)≤((n / 2 ^ K:Nat):Int):=Int.natCast_nonneg _
 refine ⟨k7 h.len,a1,by omega,by omega,h.qP.set h.len h0 hw aa aa,fun e=>by omega,fun _=>?_,a2,a3,a4⟩
 rw [qm h.len aa _ 0 aa]
 split
 ·rw [(h.f aa).1]
 ·exact h.g aa
theorem RC.drop {ds:List Int} {K nA n j:Nat} {w:Int} (h:RC ds K nA w n j) (hn:(n:Int)>0) (hw:¬ w<800):RC ds K nA w (n%2 ^ K*10) (j+1):=by
 obtain ⟨a1,a2,a3,a4⟩:=h.rest hn
 exact ⟨h.len,a1,h.w0,h.w8,h.qP,fun e=>by omega,h.g,a2,a3,a4⟩
theorem RC.fin {ds:List Int} {K nA n j:Nat} {w:Int} (h:RC ds K nA w n j) (hn:¬ (n:Int)>0) (h1:2 ^ K≤nA):1≤w∧dg ds 0=((nA / 2 ^ K:Nat):Int)+48∧49≤dg ds 0:=by
 have hw:1≤w:=by
  have h0:=h.w0
  rcases Int.lt_or_le 0 w with e |e
  ·omega
  ·have h2:=h.f aa
   have hp:0<2 ^ K:=Nat.pos_of_ne_zero aj
   omega
 have hg:=h.g hw
 have:1≤nA / 2 ^ K:=(Nat.one_le_div_iff (Nat.pos_of_ne_zero aj)).2 h1
 exact ⟨hw,hg,by omega⟩
theorem half {d K:Nat} (hK:1≤K) (h:1≤d):d / 2 ^ K<d:=Nat.div_lt_self h (by
 calc 1<2 ^ 1:=by decide
  _≤2 ^ K:=Nat.pow_le_pow_right aa hK)
theorem Su {c n:Nat} (h:2 ^ c≤n) (hn:n<18446744073709551616):c<64:=by
 rcases Nat.lt_or_ge c 64 with e |e
 ·exact e
 ·have:2 ^ 64≤2 ^ c:=Nat.pow_le_pow_right aa e
  have e2:(2:Nat) ^ 64=18446744073709551616:=by decide
  omega
theorem Zr {n K c N:Nat} {x4:Int} (hK:K≤60) (h:Int.fdiv ((n:Nat):Int) (2 ^ (min ((K:Nat):Int).toNat IntKind.u64.bits))≠0) (hc:c<64) (hr:x4=((N:Nat):Int)+c) (hz:c=0→n<2 ^ K) (hn:n<10*2 ^ K) (hN:1≤N) (Fp:N≤800) :
  2≤x4∧x4≤900∧2 ^ K≤n∧n<10*2 ^ K:=by
 have h1:=NA hK h
 rcases Nat.eq_zero_or_pos c with e |e
 ·have:=hz e;omega
 ·exact ⟨by omega,by omega,h1,hn⟩
noncomputable def jL:Code:=cz [1,1,1,0,0,0,1,0,0,0,1,0,1,0,0,0] (bH Tryz.f234)
theorem jY (a:Nat) (ds:List Int) (N:Nat) (K:Nat) (dp:Int) (neg:Bool) (tr:Bool):∀(m:Nat) (x4:Int) (n:Nat) (c:Nat) (H:Hp),Gd E G H→(ka:H.get a=some (.cells (bh ds ((N:Nat):Int) dp neg tr) 281 false))→(qo:K≤60)→(h1:1≤n)→(hn:n<10*2 ^ K)→(hc:2 ^ c≤n)→(hr:x4=((N:Nat):Int)+c)→(hz:c=0→n<2 ^ K)→(Fp:N≤800)→(ga:G.n≤a)→(hN:1≤N)→10*2 ^ K-n=m→
  aA E G 130 jL [(0,pt a 0),(1,uU ((K:Nat):Int)),(4,iI x4),(5,iI 0),(6,uU ((n:Nat):Int))] H [] (fun x T H'=>(x=(.exit 2)∧∃(z4:Int) (zn:Nat),T=bw [(0,pt a 0),(1,uU ((K:Nat):Int)),(4,iI z4),(5,iI 0),(6,uU ((zn:Nat):Int))]∧(2≤z4∧z4≤900∧2 ^ K≤zn∧zn<10*2 ^ K))):=by
 intro m
 induction m using Nat.strongRecOn with
 |_ m ih=>
 intro x4 n c H y ka qo h1 hn hc hr hz Fp ga hN hm
 have h64:n<18446744073709551616:=by have:=xC qo;omega
 have adF:=Su hc h64
 have w1:0≤((K:Nat):Int):=aa
 cases h1:((Int.fdiv ((n:Nat):Int) (2 ^ (min ((K:Nat):Int).toNat IntKind.u64.bits)))==0) with
 |true=>
  have q1:=bW h1
  have hlt:=D8 qo q1
  have w2:((uU (IntKind.u64.wrap (((n:Nat):Int)*10))):Value)=(uU ((n*10:Nat):Int)):=(by rw [bT aa aa] <;> congr 1)
  have w3:=aC (x4+1)
  exact aA.next' y (bf [au 1,.ck,aI,au 0,.as (uU ((n*10:Nat):Int)),au 1,.as (iI (x4+1)),au 0] [(0,pt a 0),(1,uU ((K:Nat):Int)),(4,iI (x4+1)),(5,iI 0),(6,uU ((n*10:Nat):Int))] .normal H [] (fun _ r_=>gm w1 h1 w2 w3 r_)) aM (ih _ aa (x4+1) (n*10) (c+1) _ y ka qo aa aa (by rw [Nat.pow_succ];omega) aa (fun h=>by omega) Fp ga hN rfl)
 |false=>
  have q1:=bK h1
  exact aA.last' y (bf [au 1,.ck,aF] [(0,pt a 0),(1,uU ((K:Nat):Int)),(4,iI x4),(5,iI 0),(6,uU ((n:Nat):Int))] (.exit 2) H [] (fun _ r_=>cU w1 h1 r_)) aj aM aM ⟨rfl,x4,n,rfl,Zr qo q1 adF hr hz hn hN Fp⟩
theorem SG {n m:Nat} {x:Int} {ds:List Int} (z0:x=0→n=0) (hm:((m:Nat):Int)=((n:Nat):Int)*10+dg ds x-48) (h:x=0):(m:Int)=dg ds 0-48:=by
 have:=z0 h
 subst h;omega
theorem Zt {n m:Nat} {x:Int} {ds:List Int} (z2:1≤x→1≤n) (z0:x=0→n=0) (hm:((m:Nat):Int)=((n:Nat):Int)*10+dg ds x-48) (BZ:49≤dg ds 0) (r0:0≤x) (hg:48≤dg ds x∧dg ds x≤57):1≤m:=by
 rcases Int.lt_or_le 0 x with e |e
 ·have:=z2 aa;omega
 ·have e:x=0:=aa
  subst e;omega
theorem Zs {n K:Nat} {x:Int} {ds:List Int} (hK:K≤60) (h:Int.fdiv ((n:Nat):Int) (2 ^ (min ((K:Nat):Int).toNat IntKind.u64.bits))≠0) (hn:n<10*2 ^ K) (z0:x=0→n=0) (z1:x=1→(n:Int)=dg ds 0-48) (r0:0≤x) (r1:x≤800) :
  1≤x∧x≤900∧2 ^ K≤n∧n<10*2 ^ K∧(x=1→(n:Int)=dg ds 0-48):=by
 have h1:=NA hK h
 refine ⟨?_,by omega,h1,hn,z1⟩
 rcases Int.lt_or_le 0 x with e |e
 ·omega
 ·have:=z0 aa;omega
noncomputable def AO:Code:=cz [1,1,1,0,0,0] (bH Tryz.f234)
theorem Cg (a:Nat) (ds:List Int) (N:Nat) (K:Nat) (dp:Int) (neg:Bool) (tr:Bool):∀(m:Nat) (x4:Int) (n:Nat) (H:Hp),Gd E G H→(ka:H.get a=some (.cells (bh ds ((N:Nat):Int) dp neg tr) 281 false))→(hl:ds.length=800)→(hd:jF ds ((N:Nat):Int))→(WT:1≤N)→(Fp:N≤800)→(qo:K≤60)→(BZ:49≤dg ds 0)→(ga:G.n≤a)→(r0:0≤x4)→(r1:x4≤N)→(hn:n<10*2 ^ K)→(z0:x4=0→n=0)→(z1:x4=1→(n:Int)=dg ds 0-48)→(z2:1≤x4→1≤n)→((N:Int)-x4).toNat=m→
  aA E G 130 AO [(0,pt a 0),(1,uU ((K:Nat):Int)),(4,iI x4),(5,iI 0),(6,uU ((n:Nat):Int))] H [] (fun x T H'=>(x=(.exit 0)∧∃(z4:Int) (zn:Nat),T=bw [(0,pt a 0),(1,uU ((K:Nat):Int)),(4,iI z4),(5,iI 0),(6,uU ((zn:Nat):Int))]∧(1≤z4∧z4≤900∧2 ^ K≤zn∧zn<10*2 ^ K∧(z4=1→(zn:Int)=dg ds 0-48)))):=by
 intro m
 induction m using Nat.strongRecOn with
 |_ m ih=>
 intro x4 n H y ka hl hd WT Fp qo BZ ga r0 r1 hn z0 z1 z2 hm
 have w1:0≤((K:Nat):Int):=aa
 cases h1:((Int.fdiv ((n:Nat):Int) (2 ^ (min ((K:Nat):Int).toNat IntKind.u64.bits)))==0) with
 |true=>
  have q1:=bW h1
  have w2:=fX hl ka
  cases h2:(decide (x4≥((N:Nat):Int))) with
  |true=>
   have q2:=aL h2
   have w3:(((n:Nat):Int)==0)=false:=beq_false_of_ne aa
   obtain ⟨_,_,H1,c1,bN,y1,rfl,cL,kL,rfl,cw,iX,qV,AX⟩:=(jY a ds N K dp neg tr _ x4 n 0 _ y ka qo aa hn (by simp;omega) aa (fun _=>(D8 qo q1).1) Fp ga WT rfl).code
   exact aA.last' y (bf [au 1,.ck,aI,au 3,vl (iI ((N:Nat):Int)) H,aI,au 0,aF,.loop [0,1,4,5,6] (.exit 2) (bw [(0,pt a 0),(1,uU ((K:Nat):Int)),(4,iI cL),(5,iI 0),(6,uU ((kL:Nat):Int))]) H1 []] [(0,pt a 0),(1,uU ((K:Nat):Int)),(4,iI cL),(5,iI 0),(6,uU ((kL:Nat):Int))] (.exit 0) H1 [] (fun _ r_=>fG w1 h1 w2 h2 w3 c1 r_)) aj aM aM ⟨rfl,cL,kL,rfl,⟨by omega,iX,qV,AX,fun h=>by omega⟩⟩
  |false=>
   have q2:=aQ h2
   have w3:0≤x4:=aa
   have w4:x4<(800:Int):=aa
   have hg:=hd x4 aa aa
   have hlt:=D8 qo q1
   have w5:=ym (i:=x4) hl ka aa aa
   have w6:((uU (IntKind.u64.wrap (dg ds x4))):Value)=(uU (dg ds x4)):=(by rw [bT aa aa])
   have w7:((uU (IntKind.u64.wrap (((n:Nat):Int)*10))):Value)=(uU (((n:Nat):Int)*10)):=(by rw [bT aa aa])
   have w8:((uU (IntKind.u64.wrap ((((n:Nat):Int)*10)+(dg ds x4)))):Value)=(uU ((((n:Nat):Int)*10)+(dg ds x4))):=(by rw [bT aa aa])
   obtain ⟨m,hm⟩:∃ m:Nat,((m:Nat):Int)=((((n:Nat):Int)*10)+(dg ds x4))-48:=⟨(((((n:Nat):Int)*10)+(dg ds x4))-48).toNat,by omega⟩
   have w9:((uU (IntKind.u64.wrap (((((n:Nat):Int)*10)+(dg ds x4))-48))):Value)=(uU ((m:Nat):Int)):=(by rw [bT aa aa,hm])
   have jE:=aC (x4+1)
   exact aA.next' y (bf [au 1,.ck,aI,au 3,vl (iI ((N:Nat):Int)) H,aF,au 3,.ck,vl (uB (dg ds x4)) H,.as (uU (dg ds x4)),au 1,.as (uU (((n:Nat):Int)*10)),au 0,.as (uU ((((n:Nat):Int)*10)+(dg ds x4))),.as (uU ((m:Nat):Int)),au 1,.as (iI (x4+1)),au 0] [(0,pt a 0),(1,uU ((K:Nat):Int)),(4,iI (x4+1)),(5,iI 0),(6,uU ((m:Nat):Int))] .normal H [] (fun _ r_=>aE w1 h1 w2 h2 w3 w4 w5 w6<|gm w7 w8 w9 jE r_)) aM (ih _ aa (x4+1) m _ y ka hl hd WT Fp qo BZ ga aa aa aa (fun h=>by omega) (fun h=>SG z0 hm aa) (fun h=>Zt z2 z0 hm BZ r0 hg) rfl)
 |false=>
  have q1:=bK h1
  exact aA.last' y (bf [au 1,.ck,aF] [(0,pt a 0),(1,uU ((K:Nat):Int)),(4,iI x4),(5,iI 0),(6,uU ((n:Nat):Int))] (.exit 0) H [] (fun _ r_=>cU w1 h1 r_)) aj aM aM ⟨rfl,x4,n,rfl,Zs qo q1 hn z0 z1 r0 aa⟩
noncomputable def sZ:Code:=cz [1,1,1,1,1,1,0,0,0] (bH Tryz.f234)
theorem tR (a:Nat) (fY:List Int) (N:Nat) (K:Nat) (nA:Nat) (dp:Int) (neg:Bool) (tr:Bool):∀(m:Nat) (x4:Int) (x5:Int) (ds:List Int) (n:Nat) (H:Hp),Gd E G H→(ka:H.get a=some (.cells (bh ds ((N:Nat):Int) dp neg tr) 281 false))→(h:RB fY ds N K nA x4 x5 n)→(hd:jF fY ((N:Nat):Int))→(Fp:N≤800)→(qo:K≤60)→(ga:G.n≤a)→(r9:x4≤900)→((N:Int)-x4).toNat=m→
  aA E G 130 sZ [(0,pt a 0),(1,uU ((K:Nat):Int)),(4,iI x4),(5,iI x5),(6,uU ((n:Nat):Int)),(8,uU ((2 ^ K-1:Nat):Int))] H [a] (fun x T H'=>(x=(.exit 4)∧∃(zd:List Int) (z4 z5:Int) (zn:Nat),T=bw [(0,pt a 0),(1,uU ((K:Nat):Int)),(5,iI z5),(6,uU ((zn:Nat):Int)),(8,uU ((2 ^ K-1:Nat):Int))]∧(H'.get a=some (.cells (bh zd ((N:Nat):Int) dp neg tr) 281 false)∧RB fY zd N K nA z4 z5 zn))):=by
 intro m
 induction m using Nat.strongRecOn with
 |_ m ih=>
 intro x4 x5 ds n H y ka h hd Fp qo ga r9 hm
 have hp:=xC qo
 have hmod:n%2 ^ K<2 ^ K:=Nat.mod_lt _ hp.2
 have h9:=TY h.lt
 have hq:(0:Int)≤((n / 2 ^ K:Nat):Int):=Int.natCast_nonneg _
 have w0:=h.w0
 have hlt:=h.lt
 have wr:=h.wr
 have zJ:=y.wf.lt ka
 have w1:=fX h.len ka
 cases h1:(decide (x4<((N:Nat):Int))) with
 |true=>
  have q1:=aL h1
  have w2:0≤x4:=aa
  have w3:x4<(800:Int):=aa
  have hg:48≤dg ds x4∧dg ds x4≤57:=by rw [h.same x4 aa aa];exact hd x4 aa aa
  have w4:=ym (i:=x4) h.len ka aa aa
  have w5:((uU (IntKind.u64.wrap (dg ds x4))):Value)=(uU (dg ds x4)):=(by rw [bT aa aa])
  have w6:0≤((K:Nat):Int):=aa
  have w7:((uU (IntKind.u64.wrap ((BitVec.ofInt 64 ((n:Nat):Int) &&& BitVec.ofInt 64 ((2 ^ K-1:Nat):Int)).toNat:Int))):Value)=(uU ((n%2 ^ K:Nat):Int)):=(by rw [Im qo aa])
  have w8:((uU (IntKind.u64.wrap ((Int.fdiv ((n:Nat):Int) (2 ^ (min ((K:Nat):Int).toNat IntKind.u64.bits)))+48))):Value)=(uU (((n / 2 ^ K:Nat):Int)+48)):=(by rw [Bn qo,bT aa aa])
  have w9:((uB (IntKind.u8.wrap (((n / 2 ^ K:Nat):Int)+48))):Value)=(uB (((n / 2 ^ K:Nat):Int)+48)):=(by rw [vf aa aa])
  have jE:0≤x5:=aa
  have xU:x5<(800:Int):=aa
  obtain ⟨K1,e1⟩:∃ K_,K_=H.set a (.cells (bh (ds.set x5.toNat (((n / 2 ^ K:Nat):Int)+48)) ((N:Nat):Int) dp neg tr) 281 false):=⟨_,rfl⟩
  have y1:Gd E G K1:=e1▸y.set _ aa aa
  have dX:=aP e1
  have zb:=aC (x5+1)
  have EC:((uU (IntKind.u64.wrap (((n%2 ^ K:Nat):Int)*10))):Value)=(uU (((n%2 ^ K:Nat):Int)*10)):=(by rw [bT aa aa])
  have NH:((uU (IntKind.u64.wrap ((((n%2 ^ K:Nat):Int)*10)+(dg ds x4)))):Value)=(uU ((((n%2 ^ K:Nat):Int)*10)+(dg ds x4))):=(by rw [bT aa aa])
  obtain ⟨m,hm⟩:∃ m:Nat,((m:Nat):Int)=((((n%2 ^ K:Nat):Int)*10)+(dg ds x4))-48:=⟨(((((n%2 ^ K:Nat):Int)*10)+(dg ds x4))-48).toNat,by omega⟩
  have ZJ:((uU (IntKind.u64.wrap (((((n%2 ^ K:Nat):Int)*10)+(dg ds x4))-48))):Value)=(uU ((m:Nat):Int)):=(by rw [bT aa aa,hm])
  have ZK:=aC (x4+1)
  exact aA.next' y (bf [au 3,vl (iI ((N:Nat):Int)) H,aI,au 3,.ck,vl (uB (dg ds x4)) H,.as (uU (dg ds x4)),au 2,.ck,au 2,.as (uU ((n%2 ^ K:Nat):Int)),au 3,.as (uU (((n / 2 ^ K:Nat):Int)+48)),.as (uB (((n / 2 ^ K:Nat):Int)+48)),au 1,.ck,vl bJ K1,au 0,.as (iI (x5+1)),au 1,.as (uU (((n%2 ^ K:Nat):Int)*10)),au 0,.as (uU ((((n%2 ^ K:Nat):Int)*10)+(dg ds x4))),.as (uU ((m:Nat):Int)),au 1,.as (iI (x4+1)),au 0] [(0,pt a 0),(1,uU ((K:Nat):Int)),(4,iI (x4+1)),(5,iI (x5+1)),(6,uU ((m:Nat):Int)),(8,uU ((2 ^ K-1:Nat):Int))] .normal K1 [a] (fun _ r_=>aE w1 h1 w2 w3 w4 w5 w6 w7<|aE w8 w9 jE xU (show az E 5 a (0+x5.toNat*1) (uB (((n / 2 ^ K:Nat):Int)+48)) H=some K1 from (Fg h.len ka aa aa).trans (congrArg some e1.symm)) zb EC NH<|cU ZJ ZK r_)) aj (ih _ aa (x4+1) (x5+1) (ds.set x5.toNat (((n / 2 ^ K:Nat):Int)+48)) m _ y1 dX (h.step hd Fp aa hm) hd Fp qo ga aa rfl)
 |false=>
  exact aA.last' y (bf [au 3,vl (iI ((N:Nat):Int)) H,aF] [(0,pt a 0),(1,uU ((K:Nat):Int)),(5,iI x5),(6,uU ((n:Nat):Int)),(8,uU ((2 ^ K-1:Nat):Int))] (.exit 4) H [] (fun _ r_=>cU w1 h1 r_)) aj aM aJ ⟨rfl,ds,x4,x5,n,rfl,⟨ka,h⟩⟩
noncomputable def qK:Code:=cz [1,1,1,1,1,1,1,0,0,0] (bH Tryz.f234)
theorem rN (a:Nat) (fY:List Int) (N:Nat) (K:Nat) (nA:Nat) (dp:Int) (neg:Bool):∀(m:Nat) (x5:Int) (ds:List Int) (tr:Bool) (n:Nat) (j:Nat) (H:Hp),Gd E G H→(ka:H.get a=some (.cells (bh ds ((N:Nat):Int) dp neg tr) 281 false))→(h:RC ds K nA x5 n j)→(qo:K≤60)→(ga:G.n≤a)→K+1-j=m→
  aA E G 130 qK [(0,pt a 0),(1,uU ((K:Nat):Int)),(5,iI x5),(6,uU ((n:Nat):Int)),(8,uU ((2 ^ K-1:Nat):Int))] H [a] (fun x T H'=>(x=(.exit 6)∧∃(zd:List Int) (zt:Bool) (z5:Int) (zn zj:Nat),T=bw [(0,pt a 0),(5,iI z5)]∧(H'.get a=some (.cells (bh zd ((N:Nat):Int) dp neg zt) 281 false)∧RC zd K nA z5 zn zj∧¬ (zn:Int)>0))):=by
 intro m
 induction m using Nat.strongRecOn with
 |_ m ih=>
 intro x5 ds tr n j H y ka h qo ga hm
 have hp:=xC qo
 have hmod:n%2 ^ K<2 ^ K:=Nat.mod_lt _ hp.2
 have h9:=TY h.lt
 have hq:(0:Int)≤((n / 2 ^ K:Nat):Int):=Int.natCast_nonneg _
 have w0:=h.w0
 have hlt:=h.lt
 have w8:=h.w8
 have zJ:=y.wf.lt ka
 cases h1:(decide (((n:Nat):Int)>0)) with
 |true=>
  have q1:=aL h1
  have w1:0≤((K:Nat):Int):=aa
  have w2:((uU (IntKind.u64.wrap ((BitVec.ofInt 64 ((n:Nat):Int) &&& BitVec.ofInt 64 ((2 ^ K-1:Nat):Int)).toNat:Int))):Value)=(uU ((n%2 ^ K:Nat):Int)):=(by rw [Im qo aa])
  cases h2:(decide (x5<800)) with
  |true=>
   have q2:=aL h2
   have w3:((uU (IntKind.u64.wrap ((Int.fdiv ((n:Nat):Int) (2 ^ (min ((K:Nat):Int).toNat IntKind.u64.bits)))+48))):Value)=(uU (((n / 2 ^ K:Nat):Int)+48)):=(by rw [Bn qo,bT aa aa])
   have w4:((uB (IntKind.u8.wrap (((n / 2 ^ K:Nat):Int)+48))):Value)=(uB (((n / 2 ^ K:Nat):Int)+48)):=(by rw [vf aa aa])
   have w5:0≤x5:=aa
   have w6:x5<(800:Int):=aa
   obtain ⟨K1,e1⟩:∃ K_,K_=H.set a (.cells (bh (ds.set x5.toNat (((n / 2 ^ K:Nat):Int)+48)) ((N:Nat):Int) dp neg tr) 281 false):=⟨_,rfl⟩
   have y1:Gd E G K1:=e1▸y.set _ aa aa
   have dX:=aP e1
   have w7:=aC (x5+1)
   have w8:((uU (IntKind.u64.wrap (((n%2 ^ K:Nat):Int)*10))):Value)=(uU ((n%2 ^ K*10:Nat):Int)):=(by rw [bT aa aa] <;> congr 1)
   exact aA.next' y (bf [au 0,aI,au 1,.ck,au 2,.as (uU ((n%2 ^ K:Nat):Int)),au 1,aI,au 2,.as (uU (((n / 2 ^ K:Nat):Int)+48)),.as (uB (((n / 2 ^ K:Nat):Int)+48)),au 1,.ck,vl bJ K1,au 0,.as (iI (x5+1)),au 1,.as (uU ((n%2 ^ K*10:Nat):Int)),au 0] [(0,pt a 0),(1,uU ((K:Nat):Int)),(5,iI (x5+1)),(6,uU ((n%2 ^ K*10:Nat):Int)),(8,uU ((2 ^ K-1:Nat):Int))] .normal K1 [a] (fun _ r_=>aE h1 w1 w2 h2 w3 w4 w5 w6<|eY (show az E 5 a (0+x5.toNat*1) (uB (((n / 2 ^ K:Nat):Int)+48)) H=some K1 from (Fg h.len ka aa aa).trans (congrArg some e1.symm)) w7 w8 r_)) aj (ih _ (by have:=(h.rest aa).2.2.1;omega) (x5+1) (ds.set x5.toNat (((n / 2 ^ K:Nat):Int)+48)) tr (n%2 ^ K*10) (j+1) _ y1 dX (h.step aa aa) qo ga rfl)
  |false=>
   have q2:=aQ h2
   cases h3:(decide ((Int.fdiv ((n:Nat):Int) (2 ^ (min ((K:Nat):Int).toNat IntKind.u64.bits)))>0)) with
   |true=>
    obtain ⟨K1,e1⟩:∃ K_,K_=H.set a (.cells (bh ds ((N:Nat):Int) dp neg true) 281 false):=⟨_,rfl⟩
    have y1:Gd E G K1:=e1▸y.set _ aa aa
    have dX:=aP e1
    have w3:((uU (IntKind.u64.wrap (((n%2 ^ K:Nat):Int)*10))):Value)=(uU ((n%2 ^ K*10:Nat):Int)):=(by rw [bT aa aa] <;> congr 1)
    exact aA.next' y (bf [au 0,aI,au 1,.ck,au 2,.as (uU ((n%2 ^ K:Nat):Int)),au 1,aF,au 0,aI,au 2,vl bJ K1,au 0,.as (uU ((n%2 ^ K*10:Nat):Int)),au 0] [(0,pt a 0),(1,uU ((K:Nat):Int)),(5,iI x5),(6,uU ((n%2 ^ K*10:Nat):Int)),(8,uU ((2 ^ K-1:Nat):Int))] .normal K1 [a] (fun _ r_=>fk h1 w1 w2 h2 h3 (show az E 4 a 803 (.bool true) H=some K1 from (lP h.len ka).trans (congrArg some e1.symm)) w3 r_)) aj (ih _ (by have:=(h.rest aa).2.2.1;omega) x5 ds true (n%2 ^ K*10) (j+1) _ y1 dX (h.drop aa aa) qo ga rfl)
   |false=>
    have w3:((uU (IntKind.u64.wrap (((n%2 ^ K:Nat):Int)*10))):Value)=(uU ((n%2 ^ K*10:Nat):Int)):=(by rw [bT aa aa] <;> congr 1)
    exact aA.next' y (bf [au 0,aI,au 1,.ck,au 2,.as (uU ((n%2 ^ K:Nat):Int)),au 1,aF,au 0,aF,au 0,.as (uU ((n%2 ^ K*10:Nat):Int)),au 0] [(0,pt a 0),(1,uU ((K:Nat):Int)),(5,iI x5),(6,uU ((n%2 ^ K*10:Nat):Int)),(8,uU ((2 ^ K-1:Nat):Int))] .normal H [] (fun _ r_=>fG h1 w1 w2 h2 h3 w3 r_)) aM (ih _ (by have:=(h.rest aa).2.2.1;omega) x5 ds tr (n%2 ^ K*10) (j+1) _ y ka (h.drop aa aa) qo ga rfl)
 |false=>
  have q1:=aQ h1
  exact aA.last' y (bf [au 0,aF] [(0,pt a 0),(5,iI x5)] (.exit 6) H [] (fun _ r_=>cF h1 r_)) aj aM aJ ⟨rfl,ds,tr,x5,n,j,rfl,⟨ka,h,aa⟩⟩
theorem Wb {nA K:Nat} {z dp pH:Int} {ds zd:List Int} (hK:1≤K) (hA:2 ^ K≤nA) (h1:1≤z) (e:pH=dp-(z-1)) (hf:z=1→(nA:Int)=dg ds 0-48) (hz:dg zd 0=((nA / 2 ^ K:Nat):Int)+48):pH<dp∨pH=dp∧dg zd 0<dg ds 0:=by
 rcases Int.lt_or_le 1 z with h |h
 ·exact .inl aa
 ·refine .inr ⟨by omega,?_⟩
  have h0:=hf aa
  have hp:0<2 ^ K:=Nat.pos_of_ne_zero aj
  have:=half (d:=nA) hK aa
  rw [hz];omega
theorem UW:E.func 234=some Tryz.f234:=ah
theorem UX:bO Tryz.f234 2=true:=ah
theorem Lz (a:Nat) (ds:List Int) (N:Nat) (K:Nat) (dp:Int) (neg:Bool) (tr:Bool) {H:Hp} (y:Gd E G H) (hl:ds.length=800) (ka:H.get a=some (.cells (bh ds ((N:Nat):Int) dp neg tr) 281 false)) (hd:jF ds ((N:Nat):Int)) (WT:1≤N) (Fp:N≤800) (hK1:1≤K) (qo:K≤60) (BZ:49≤dg ds 0) (ga:G.n≤a) (Ng:-1000000000000<dp) (Ak:dp<1000000000000):aD E G 234 [pt a 0,uU ((K:Nat):Int)] H [a] (fun v H'=>∃(ds':List Int) (pF pH:Int) (LI:Bool),v=.tuple #[]∧H'.get a=some (.cells (bh ds' pF pH neg LI) 281 false)∧ds'.length=800∧jF ds' pF∧1≤pF∧pF≤800∧49≤dg ds' 0∧(pH<dp∨pH=dp∧dg ds' 0<dg ds 0)∧dp-900≤pH):=by
 have zJ:=y.wf.lt ka
 have ag6:=xC qo
 obtain ⟨_,_,H1,c1,bN,y1,rfl,cL,kL,rfl,cw,iX,qV,AX,aeT⟩:=(Cg a ds N K dp neg tr _ 0 0 _ y ka hl hd WT Fp qo BZ ga aa aa aa (fun _=>rfl) (fun h=>by omega) (fun h=>by omega) rfl).code
 have jq:H.n+0≤H1.n:=bN.n
 have dX:=y.kept bN aH ka
 have w1:=jH hl dX
 have w2:=aC (cL-1)
 have w3:=aC (dp-(cL-1))
 obtain ⟨K2,e2⟩:∃ K_,K_=H1.set a (.cells (bh ds ((N:Nat):Int) (dp-(cL-1)) neg tr) 281 false):=⟨_,rfl⟩
 have y2:Gd E G K2:=e2▸y1.set _ aa aa
 have jI:K2.n=H1.n+0:=by rw [e2,Hp.cT] <;> rfl
 have s8:=aP e2
 have w4:0≤((K:Nat):Int):=aa
 have w5:((uU (IntKind.u64.wrap ((IntKind.u64.wrap (1*2 ^ (min ((K:Nat):Int).toNat IntKind.u64.bits)))-1))):Value)=(uU ((2 ^ K-1:Nat):Int)):=(by rw [R2 qo])
 obtain ⟨_,_,H3,c3,gB,y3,rfl,uD,aiW,eX,WC,rfl,G7,adr⟩:=(tR a ds N K kL (dp-(cL-1)) neg tr _ cL 0 ds kL _ y2 s8 (.init hl AX qV cw) hd Fp qo ga iX rfl).code
 have xS:K2.n+0≤H3.n:=gB.n
 obtain ⟨_,_,H4,c4,rj,y4,rfl,JV,Pm,rq,uF,aiX,rfl,aet,KG,ad0⟩:=(rN a ds N K kL (dp-(cL-1)) neg _ eX uD tr WC 0 _ y3 G7 (adr.ae3 Fp) qo ga rfl).code
 have H9:H3.n+0≤H4.n:=rj.n
 have hf:=KG.fin ad0 qV
 have c0:=KG.w0
 have c8:=KG.w8
 obtain ⟨K5,e5⟩:∃ K_,K_=H4.set a (.cells (bh JV rq (dp-(cL-1)) neg Pm) 281 false):=⟨_,rfl⟩
 have y5:Gd E G K5:=e5▸y4.set _ aa aa
 have zv:=aP e5
 obtain ⟨_,H6,c6,NK,y6,tz,tp,rfl,kt,t0,t1,t2,t3⟩:=tD a JV rq (dp-(cL-1)) neg Pm y5 KG.len zv aa aa ga
 exact aD.mk y (dj [au 2,.loop [0,1,4,5,6] (.exit 0) (bw [(0,pt a 0),(1,uU ((K:Nat):Int)),(4,iI cL),(5,iI 0),(6,uU ((kL:Nat):Int))]) H1 [],au 2,vl (iI dp) H1,au 0,.as (iI (cL-1)),.as (iI (dp-(cL-1))),au 1,vl bJ K2,au 0,.ck,.as (uU ((2 ^ K-1:Nat):Int)),au 0,.loop [0,1,4,5,6,8] (.exit 4) (bw [(0,pt a 0),(1,uU ((K:Nat):Int)),(5,iI eX),(6,uU ((WC:Nat):Int)),(8,uU ((2 ^ K-1:Nat):Int))]) H3 [a],.loop [0,1,5,6,8] (.exit 6) (bw [(0,pt a 0),(5,iI rq)]) H4 [a],au 3,vl bJ K5,au 0,.call (.tuple #[]) H6 [a]] (.tuple #[]) H6 [a,a,a,a,a] UW UX (aE c1 w1 w2 w3 (show az E 3 a 801 (iI (dp-(cL-1))) H1=some K2 from (k8 hl dX).trans (congrArg some e2.symm)) w4 w5 c3<|eY c4 (show az E 3 a 800 (iI rq) H4=some K5 from (qn KG.len aet).trans (congrArg some e5.symm)) c6 aS)) aj aJ ⟨_,_,_,_,rfl,kt,KG.len,KG.qP.le aa,(by have:=t2 aa hf.2.2;omega),aa,hf.2.2,Wb hK1 qV cw (by have:=t2 aa hf.2.2;have:=t3 aa;omega) aeT hf.2.1,(by have:=t2 aa hf.2.2;have:=t3 aa;omega)⟩
structure zc (ds:List Int) (nd:Int):Prop where
 len:ds.length=800
 qP:jF ds nd
 n1:1≤nd
 n8:nd≤800
 BZ:49≤dg ds 0
theorem aeX (a:Nat) (ds:List Int) (nd k dp:Int) (neg tr:Bool) {H:Hp} (y:Gd E G H) (ka:H.get a=some (.cells (bh ds nd dp neg tr) 281 false)) (hd:zc ds nd) (Rs:1≤k) (hk2:k≤60) (ga:G.n≤a) (Ng:-1000000000000<dp) (Ak:dp<1000000000000) :
  aD E G 233 [.pointer (some ⟨a,0,none⟩),.int .u64 k] H [a] (fun v H'=>∃(ds':List Int) (pF pH:Int) (LI:Bool),v=.tuple #[]∧H'.get a=some (.cells (bh ds' pF pH neg LI) 281 false)∧zc ds' pF∧(dp<pH∨pH=dp∧dg ds 0<dg ds' 0)∧pH≤dp+19):=by
 obtain ⟨N,rfl⟩:∃ N:Nat,nd=((N:Nat):Int):=⟨nd.toNat,by have:=hd.n1;omega⟩
 obtain ⟨K,rfl⟩:∃ K:Nat,k=((K:Nat):Int):=⟨k.toNat,by omega⟩
 have h1:=hd.n1
 have h8:=hd.n8
 refine (Ov a ds N K dp neg tr y hd.len ka hd.qP aa aa aa aa hd.BZ ga Ng Ak).mono fun v H' h=>?_
 obtain ⟨ds',pF,pH,LI,e,b1,b2,b3,b4,b5,b6,b7,b8⟩:=h
 exact ⟨ds',pF,pH,LI,e,b1,⟨b2,b3,b4,b5,b6⟩,b7,b8⟩
theorem ab0 (a:Nat) (ds:List Int) (nd k dp:Int) (neg tr:Bool) {H:Hp} (y:Gd E G H) (ka:H.get a=some (.cells (bh ds nd dp neg tr) 281 false)) (hd:zc ds nd) (Rs:1≤k) (hk2:k≤60) (ga:G.n≤a) (Ng:-1000000000000<dp) (Ak:dp<1000000000000) :
  aD E G 234 [.pointer (some ⟨a,0,none⟩),.int .u64 k] H [a] (fun v H'=>∃(ds':List Int) (pF pH:Int) (LI:Bool),v=.tuple #[]∧H'.get a=some (.cells (bh ds' pF pH neg LI) 281 false)∧zc ds' pF∧(pH<dp∨pH=dp∧dg ds' 0<dg ds 0)∧dp-900≤pH):=by
 obtain ⟨N,rfl⟩:∃ N:Nat,nd=((N:Nat):Int):=⟨nd.toNat,by have:=hd.n1;omega⟩
 obtain ⟨K,rfl⟩:∃ K:Nat,k=((K:Nat):Int):=⟨k.toNat,by omega⟩
 have h1:=hd.n1
 have h8:=hd.n8
 refine (Lz a ds N K dp neg tr y hd.len ka hd.qP aa aa aa aa hd.BZ ga Ng Ak).mono fun v H' h=>?_
 obtain ⟨ds',pF,pH,LI,e,b1,b2,b3,b4,b5,b6,b7,b8⟩:=h
 exact ⟨ds',pF,pH,LI,e,b1,⟨b2,b3,b4,b5,b6⟩,b7,b8⟩
noncomputable def vi:Code:=cz [0,1,1,1,0,0,0,0] (bH Tryz.f228)
theorem wh (a:Nat) (ds:List Int) (nd:Int) (dp:Int) (neg:Bool) (tr:Bool) (k:Int):∀(m:Nat) (x1:Int) (H:Hp),Gd E G H→(hk:x1=k)→(hk2:k≤60)→0=m→
  aA E G 37 vi [(0,pt a 0),(1,iI x1)] H [] (fun x T H'=>(x=(.exit 1)∧T=bw [(0,pt a 0),(1,iI k)])):=by
 intro m
 induction m using Nat.strongRecOn with
 |_ m ih=>
 intro x1 H y hk hk2 hm
 have w1:(decide (x1>60))=false:=decide_eq_false aa
 exact aA.last' y (bf [au 0,aF] [(0,pt a 0),(1,iI x1)] (.exit 1) H [] (fun _ r_=>cF w1 r_)) aj aM aM ⟨rfl,(by rw [hk])⟩
theorem M5:E.func 228=some Tryz.f228:=ah
theorem M6:bO Tryz.f228 2=true:=ah
theorem D6 (a:Nat) (ds:List Int) (nd:Int) (dp:Int) (neg:Bool) (tr:Bool) (k:Int) {H:Hp} (y:Gd E G H) (ka:H.get a=some (.cells (bh ds nd dp neg tr) 281 false)) (hd:zc ds nd) (ga:G.n≤a) (Ng:-100000000000<dp) (Ak:dp<1000000000) (Rs:1≤k) (hk2:k≤60):aD E G 228 [pt a 0,iI k] H [a] (fun v H'=>∃(ds':List Int) (pF pH:Int) (LI:Bool),v=.tuple #[]∧H'.get a=some (.cells (bh ds' pF pH neg LI) 281 false)∧zc ds' pF∧(dp<pH∨pH=dp∧dg ds 0<dg ds' 0)∧pH≤dp+19):=by
 have n1:=hd.n1
 have w1:=fX hd.len ka
 have w2:(nd==0)=false:=beq_false_of_ne aa
 have w3:(decide (k>0))=true:=decide_eq_true aa
 obtain ⟨_,_,H1,c1,bN,y1,rfl,rfl⟩:=(wh a ds nd dp neg tr k _ k _ y rfl hk2 rfl).code
 have w4:((uU (IntKind.u64.wrap k)):Value)=(uU k):=(by rw [bT aa aa])
 have dX:=y.kept bN aH ka
 obtain ⟨_,H2,c2,dc,y2,yV,td,EB,yW,rfl,AT,vq,Yz,Ym⟩:=aeX a ds nd k dp neg tr y1 dX hd aa aa ga aa aa
 exact aD.mk y (dj [au 2,vl (iI nd) H,aF,au 1,aI,au 0,.loop [0,1] (.exit 1) (bw [(0,pt a 0),(1,iI k)]) H1 [],au 1,.as (uU k),.call (.tuple #[]) H2 [a]] (.tuple #[]) H2 [a] M5 M6 (fG w1 w2 w3 c1 w4 c2 aS)) aj aJ ⟨_,_,_,_,rfl,AT,vq,Yz,Ym⟩
noncomputable def qJ:Code:=cz [0,1,1,1,1,1,0,0,0,0] (bH Tryz.f228)
theorem rM (a:Nat) (fY:List Int) (T3:Int) (neg:Bool) (k:Int):∀(m:Nat) (x1:Int) (ds:List Int) (nd:Int) (dp:Int) (tr:Bool) (H:Hp),Gd E G H→(ka:H.get a=some (.cells (bh ds nd dp neg tr) 281 false))→(hd:zc ds nd)→(ga:G.n≤a)→(hx1:x1≤-1)→(hxk:-k≤x1)→(hlo:T3-900*(k+x1)≤dp)→(hle:dp<T3∨dp=T3∧dg ds 0≤dg fY 0)→(Ng:-100000000000<T3)→(Ak:T3<1000000000)→(hk:k≤100000000)→(-x1).toNat=m→
  aA E G 37 qJ [(0,pt a 0),(1,iI x1)] H [a] (fun x T H'=>(x=(.exit 3)∧∃(z1:Int) (zd:List Int) (zn zp:Int) (zt:Bool),T=bw [(0,pt a 0),(1,iI z1)]∧(H'.get a=some (.cells (bh zd zn zp neg zt) 281 false)∧zc zd zn∧-60≤z1∧z1≤-1∧T3-900*(k+z1)≤zp∧(zp<T3∨zp=T3∧dg zd 0≤dg fY 0)))):=by
 intro m
 induction m using Nat.strongRecOn with
 |_ m ih=>
 intro x1 ds nd dp tr H y ka hd ga hx1 hxk hlo hle Ng Ak hk hm
 cases h1:(decide (x1<(-60))) with
 |true=>
  have q1:=aL h1
  obtain ⟨_,H1,c1,bN,y1,pG,kL,oZ,jc,rfl,nZ,lJ,KN,KJ⟩:=ab0 a ds nd 60 dp neg tr y ka hd aa aa ga aa aa
  have w1:=aC (x1+60)
  exact aA.next' y (bf [au 0,aI,au 0,.call (.tuple #[]) H1 [a],au 0,.as (iI (x1+60)),au 0] [(0,pt a 0),(1,iI (x1+60))] .normal H1 [a] (fun _ r_=>eY h1 c1 w1 r_)) aj (ih _ aa (x1+60) pG kL oZ jc _ y1 nZ lJ ga aa aa aa aa Ng Ak hk rfl)
 |false=>
  have q1:=aQ h1
  exact aA.last' y (bf [au 0,aF] [(0,pt a 0),(1,iI x1)] (.exit 3) H [] (fun _ r_=>cF h1 r_)) aj aM aJ ⟨rfl,x1,ds,nd,dp,tr,rfl,⟨ka,hd,by omega,by omega,by omega,hle⟩⟩
theorem LF (a:Nat) (ds:List Int) (nd:Int) (dp:Int) (neg:Bool) (tr:Bool) (k:Int) {H:Hp} (y:Gd E G H) (ka:H.get a=some (.cells (bh ds nd dp neg tr) 281 false)) (hd:zc ds nd) (ga:G.n≤a) (Ng:-100000000000<dp) (Ak:dp<1000000000) (Rs:1≤k) (hk2:k≤100000000):aD E G 228 [pt a 0,iI (-k)] H [a] (fun v H'=>∃(ds':List Int) (pF pH:Int) (LI:Bool),v=.tuple #[]∧H'.get a=some (.cells (bh ds' pF pH neg LI) 281 false)∧zc ds' pF∧(pH<dp∨pH=dp∧dg ds' 0<dg ds 0)∧dp-900*k≤pH):=by
 have n1:=hd.n1
 have w1:=fX hd.len ka
 have w2:(nd==0)=false:=beq_false_of_ne aa
 have w3:(decide ((-k)>0))=false:=decide_eq_false aa
 have w4:(decide ((-k)<0))=true:=decide_eq_true aa
 obtain ⟨_,_,H1,c1,bN,y1,rfl,LZ,pG,kL,oZ,jc,rfl,nZ,lJ,cw,iX,qV,AX⟩:=(rM a ds dp neg k _ (-k) ds nd dp tr _ y ka hd ga aa aa aa (.inr ⟨rfl,Int.le_refl _⟩) Ng Ak hk2 rfl).code
 have w5:=aC (0-LZ)
 have w6:((uU (IntKind.u64.wrap (0-LZ))):Value)=(uU (0-LZ)):=(by rw [bT aa aa])
 obtain ⟨_,H2,c2,dc,y2,yV,td,EB,yW,rfl,AT,vq,Yz,Ym⟩:=ab0 a pG kL (0-LZ) oZ neg jc y1 nZ lJ aa aa ga aa aa
 exact aD.mk y (dj [au 2,vl (iI nd) H,aF,au 1,aF,au 1,aI,au 0,.loop [0,1] (.exit 3) (bw [(0,pt a 0),(1,iI LZ)]) H1 [a],au 1,.as (iI (0-LZ)),.as (uU (0-LZ)),.call (.tuple #[]) H2 [a]] (.tuple #[]) H2 [a,a] M5 M6 (aE w1 w2 w3 w4 c1 w5 w6 c2 aS)) aj aJ ⟨_,_,_,_,rfl,AT,vq,aa,aa⟩
end Go.Proofs.YtglmagcldkngbaaGreatDoor
