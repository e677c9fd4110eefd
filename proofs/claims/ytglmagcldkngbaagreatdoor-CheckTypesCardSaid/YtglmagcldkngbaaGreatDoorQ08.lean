/- Part of the proof that CheckTypes answers true. -/
import Derived.Test.YtglmagcldkngbaaGreatDoorQ07
set_option linter.unusedVariables false
set_option linter.unusedSimpArgs false
set_option maxRecDepth 100000
set_option maxHeartbeats 4000000
namespace Go.Proofs.YtglmagcldkngbaaGreatDoor
open Go Go.Am
theorem zb {x:bh} (h:x.f.k=1):nj x=qY x:=by
 unfold nj
 rw [h]
 simp only [show ((1:Int)==1)=true from rfl,cond_true,cond_false]
theorem Bn {x:bh} (h:x.f.k=2):nj x=AV x:=by
 unfold nj
 rw [h]
 simp only [show ((2:Int)==1)=false from rfl,show ((2:Int)==2)=true from rfl,cond_true,cond_false]
theorem zc {x:bh} (h:x.f.k=3):nj x=iD x:=by
 unfold nj
 rw [h]
 simp only [show ((3:Int)==1)=false from rfl,show ((3:Int)==2)=false from rfl,show ((3:Int)==3)=true from rfl,cond_true,cond_false]
theorem w8 {x:bh} (h:x.f.k=4):nj x=sP x:=by
 unfold nj
 rw [h]
 simp only [show ((4:Int)==1)=false from rfl,show ((4:Int)==2)=false from rfl,show ((4:Int)==3)=false from rfl,show ((4:Int)==4)=true from rfl,cond_true,cond_false]
theorem vz {x:bh} (h:x.f.k=5):nj x=qJ x:=by
 unfold nj
 rw [h]
 simp only [show ((5:Int)==1)=false from rfl,show ((5:Int)==2)=false from rfl,show ((5:Int)==3)=false from rfl,show ((5:Int)==4)=false from rfl,show ((5:Int)==5)=true from rfl,cond_true,cond_false]
theorem or {x:bh} (h:x.f.k=6):nj x=lS x:=by
 unfold nj
 rw [h]
 simp only [show ((6:Int)==1)=false from rfl,show ((6:Int)==2)=false from rfl,show ((6:Int)==3)=false from rfl,show ((6:Int)==4)=false from rfl,show ((6:Int)==5)=false from rfl,show ((6:Int)==6)=true from rfl,cond_true,cond_false]
theorem zd {x:bh} (h:x.f.k=7):nj x=we x:=by
 unfold nj
 rw [h]
 simp only [show ((7:Int)==1)=false from rfl,show ((7:Int)==2)=false from rfl,show ((7:Int)==3)=false from rfl,show ((7:Int)==4)=false from rfl,show ((7:Int)==5)=false from rfl,show ((7:Int)==6)=false from rfl,cond_true,cond_false]
theorem ad6 (c:bh) (X:Z) (hx:aa E G X) (ih:∀{H:Z},aa E X H→aV E X 20 [.agg (ai c.f).toArray] H [] (fun v _=>v=.bool (jH c))) {H:Z} (y:aa E X H):aV E X 41 [.agg (ai c.f).toArray] H [] (fun v H'=>v=.bool (!jH c)):=by
 refine bB Tryz.f41 y ?_
 obtain ⟨_,H1,c1,ak,y1,bE⟩:=eL (ih (y.news [O (ai c.f) 27]))
 refine Y 2 (dt c4 ct rfl rfl rfl:al E 27 (H.n+0) 0 (news H [O (ai c.f) 27])=some (.agg (ai c.f).toArray))<|?_
 rcases bE with ⟨rfl,b7⟩ |⟨rfl,b7⟩
 ·exact ac 0 c1<|af 2 U H1 (by rw [b7] <;> rfl)
 exact ac 0 c1<|af 2 aw H1 (by rw [b7] <;> rfl)
noncomputable def TE:Code:=cw [1,0,1,0,0] (cx Tryz.f63)
theorem SJ (x:bh) (X:Z) (hx:aa E G X) (a:e9 X x) (fm:∀ k∈x.kids,∀{H:Z},aa E X H→aV E X 20 [.agg (ai k.f).toArray] H [] (fun v _=>v=.bool (jH k))) (R:Bool):∀(m:Nat) (b5:Int) (H:Z),aa E X H→(x0:0≤b5)→(hR:kC (x.kids.drop b5.toNat)=R)→((x.f.aj:Int)-b5).toNat=m→
  bV E X 19 TE [(0,.slice x.f.pk x.f.aj x.f.ax),(1,bS 41),(7,M (x.f.aj:Int)),(8,M b5)] H [] (fun fB T H'=>(fB=(.exit 0)∧T=aP []∧(R=false))∨(fB=.ret∧∃(z4:Int),T=aP [(4,M z4)]∧((R=true)∧(0≤z4)))):=by
 refine dJ fun m ih=>?_
 intro b5 H y x0 hR hm
 have bd:=a.ot
 refine cN y ?_
 refine aD 0 (b5<(x.f.aj:Int)) ?_ ?_ <;> intro h1 q1
 ·obtain ⟨d1,j0,t1,fb,dT⟩:=a.rk.open J
  have fH:=hx.wf.lt dT
  obtain ⟨aC,m2⟩:=a.rV (i:=b5.toNat) J
  obtain ⟨_,H1,c1,ak,y1,bE⟩:=eL (ad6 aC X hx (fun y=>fm aC (nv m2) y) y)
  refine gY 5 H (hI my ct fb J J:gk E 25 (.slice x.f.pk x.f.aj x.f.ax) (M b5)=some (pt d1 (0+b5.toNat*13)))<|Y 0 (mP c4 ct (y.cell dT fH) m2 J:al E 27 d1 (0+b5.toNat*13) H=some (.agg (ai aC.f).toArray))<|?_
  rcases bE with ⟨rfl,b7⟩ |⟨rfl,b7⟩
  ·exact ac 0 c1<|cF 2 [(4,M b5)] .ret H1 (.inr ⟨rfl,b5,rfl,⟨sK (F:=kC) Bp m2 hR b7,J⟩⟩)
  exact ac 0 c1<|aH 0 (b5+1)<|du 1 [(0,.slice x.f.pk x.f.aj x.f.ax),(1,bS 41),(7,M (x.f.aj:Int)),(8,M (b5+1))] H1 (ih _ J (b5+1) _ y1 J (by rw [gp J];exact (sL (F:=kC) Bp m2 hR b7)) rfl)
 exact cF 0 [] (.exit 0) H (.inl ⟨rfl,rfl,sJ (F:=kC) Mv hR (by have:=a.aj;omega)⟩)
theorem YP (x:bh) (X:Z) (hx:aa E G X) (a:e9 X x) (fm:∀ k∈x.kids,∀{H:Z},aa E X H→aV E X 20 [.agg (ai k.f).toArray] H [] (fun v _=>v=.bool (jH k))) {H:Z} (y:aa E X H):aV E X 63 [.slice x.f.pk x.f.aj x.f.ax,bS 41] H [] (fun v H'=>(∃ n:Int,v=M n∧0≤n∧kC x.kids=true)∨(v=M (-1)∧kC x.kids=false)):=by
 refine bB Tryz.f63 y ?_
 obtain ⟨_,_,H1,c1,ak,y1,bE⟩:=(SJ x X hx a fm (kC x.kids) _ 0 _ y J rfl rfl).code
 rcases bE with ⟨rfl,rfl,aI⟩ |⟨rfl,fV,rfl,aI,gv⟩
 ·exact bx 4 c1<|af 1 (M (-1)) H1 (.inr ⟨rfl,aI⟩)
 exact bx 4 c1<|af 0 (M fV) H1 (.inl ⟨_,rfl,gv,aI⟩)
theorem xw (x:bh) (X:Z) (hx:aa E G X) (a:e9 X x) (fm:∀ k∈x.kids,∀{H:Z},aa E X H→aV E X 20 [.agg (ai k.f).toArray] H [] (fun v _=>v=.bool (jH k))) {H:Z} (y:aa E X H):aV E X 40 [.slice x.f.pk x.f.aj x.f.ax,bS 41] H [] (fun v H'=>v=.bool (kC x.kids)):=by
 refine bB Tryz.f40 y ?_
 obtain ⟨_,H1,c1,ak,y1,bE⟩:=YP x X hx a fm y
 rcases bE with ⟨vj,rfl,pz,b7⟩ |⟨rfl,b7⟩
 ·exact ac 3 c1<|ay 0 (decide_eq_true J:(decide (vj≥0))=true)<|af 1 aw H1 (by rw [b7])
 exact ac 3 c1<|af 2 U H1 (by rw [b7])
noncomputable abbrev mT H (x:bh):=news H [O (ai x.f) 27]
noncomputable abbrev nw H (x:bh):=news H [O (ai x.f) 27,O (ai x.f) 68]
noncomputable abbrev nx H (x:bh):=news H [O (ai x.f) 27,O (ai x.f) 68,O [.nilFunc,.nilFunc,.nilFunc,.nilFunc,.nilFunc,.nilFunc,.nilFunc] 70]
noncomputable abbrev kf:=([bS 32,bS 33,bS 34,bS 35,bS 36,bS 37,bS 38]:List Value)
noncomputable abbrev er H (x:bh):=news H [O (ai x.f) 27,O (ai x.f) 68,O kf 70]
theorem ad7 (x:bh) (X:Z) (hx:aa E G X) (a:e9 X x) (hz:jX x) (fm:∀ k∈x.kids,∀{H:Z},aa E X H→aV E X 20 [.agg (ai k.f).toArray] H [] (fun v _=>v=.bool (jH k))) {H:Z} (y:aa E X H):aV E X 20 [.agg (ai x.f).toArray] H [] (fun v H'=>v=.bool (jH x)):=by
 refine bB Tryz.f20 y ?_
 rcases df (decide (x.f.k<1)) with h1 |h1
 ·exact Y 2 (dt c4 ct rfl rfl rfl:al E 27 (H.n+0) 0 (mT H x)=some (.agg (ai x.f).toArray))<|aB 2 (bG fN rfl rfl rfl rfl:bu E 68 (H.n+1) 0 (.agg (ai x.f).toArray) (news H [O (ai x.f) 27,O (dS U) 68])=some (nw H x))<|aB 2 (bG nB rfl rfl rfl rfl:bu E 70 (H.n+2) 0 (.agg (List.toArray kf)) (nx H x)=some (er H x))<|Y 1 (aQ (er H x) 0 0 av)<|ay 0 h1<|bf 7 U (er H x) [H.n+1,H.n+2] aJ aL (by rw [jI,gI,h1] <;> rfl)
 have q1:=fM h1
 rcases df (decide (x.f.k>7)) with h2 |h2
 ·exact Y 2 (dt c4 ct rfl rfl rfl:al E 27 (H.n+0) 0 (mT H x)=some (.agg (ai x.f).toArray))<|aB 2 (bG fN rfl rfl rfl rfl:bu E 68 (H.n+1) 0 (.agg (ai x.f).toArray) (news H [O (ai x.f) 27,O (dS U) 68])=some (nw H x))<|aB 2 (bG nB rfl rfl rfl rfl:bu E 70 (H.n+2) 0 (.agg (List.toArray kf)) (nx H x)=some (er H x))<|Y 1 (aQ (er H x) 0 0 av)<|ay 0 h1<|Y 2 (aQ (er H x) 0 0 av)<|ay 0 h2<|bf 6 U (er H x) [H.n+1,H.n+2] aJ aL (by rw [jI,gI,h1,h2] <;> rfl)
 have cv:=fM h2
 obtain ⟨_,H1,c1,ak,y1,bE⟩:=eL (acK x.f X hx (y.news [O (ai x.f) 27,O (ai x.f) 68,O kf 70]))
 rcases bE with ⟨rfl,b7⟩ |⟨rfl,b7⟩
 ·have c8:=ya ak
  have aS:=(y.news [O (ai x.f) 27,O (ai x.f) 68,O kf 70]).kept ak aq (aR [O (ai x.f) 27,O (ai x.f) 68,O kf 70] H 0 _ rfl)
  have gQ:=(y.news [O (ai x.f) 27,O (ai x.f) 68,O kf 70]).kept ak aq (aR [O (ai x.f) 27,O (ai x.f) 68,O kf 70] H 1 _ rfl)
  have lN:=(y.news [O (ai x.f) 27,O (ai x.f) 68,O kf 70]).kept ak aq (aR [O (ai x.f) 27,O (ai x.f) 68,O kf 70] H 2 _ rfl)
  rcases (show x.f.k=1∨x.f.k=2∨x.f.k=3∨x.f.k=4∨x.f.k=5∨x.f.k=6∨x.f.k=7 by omega) with hk |hk |hk |hk |hk |hk |hk
  ·obtain ⟨_,H2,c2,aF,ar,cX⟩:=eL (acG x X hx a hz y1)
   rcases cX with ⟨rfl,bj⟩ |⟨rfl,bj⟩
   ·have cB:H1.n+0≤H2.n:=aF.n
    have ca:=y1.kept aF aq aS
    obtain ⟨_,H3,c3,bq,aM,fq⟩:=eL (xw x X hx a fm ar)
    refine Y 2 (dt c4 ct rfl rfl rfl:al E 27 (H.n+0) 0 (mT H x)=some (.agg (ai x.f).toArray))<|aB 2 (bG fN rfl rfl rfl rfl:bu E 68 (H.n+1) 0 (.agg (ai x.f).toArray) (news H [O (ai x.f) 27,O (dS U) 68])=some (nw H x))<|aB 2 (bG nB rfl rfl rfl rfl:bu E 70 (H.n+2) 0 (.agg (List.toArray kf)) (nx H x)=some (er H x))<|Y 1 (aQ (er H x) 0 0 av)<|ay 0 h1<|Y 2 (aQ (er H x) 0 0 av)<|ay 0 h2<|Y 2 (dt ir fN rfl rfl rfl:al E 68 (H.n+1) 0 (er H x)=some (.agg (ai x.f).toArray))<|ac 0 c1<|Y 4 (ag 0 av aS)<|aH 0 (x.f.k-1)<|aG 0 (x.f.k-1) (7:Int)<|Y 0 (show al E 69 (H.n+2) (0+(x.f.k-1).toNat*1) H1=some (bS 32) from cH pc lN (show ([bS 32,bS 33,bS 34,bS 35,bS 36,bS 37,bS 38]:List Value)[0+(x.f.k-1).toNat*1]?=_ by rw [hk] <;> rfl))<|Y 0 (cd ir fN gQ rfl rfl:al E 68 (H.n+1) 0 H1=some (.agg (ai x.f).toArray))<|ac 0 c2<|Y 3 (ag 12 ef ca)<|?_
    rcases fq with ⟨rfl,ec⟩ |⟨rfl,ec⟩
    ·have ek:H2.n+0≤H3.n:=bq.n
     exact ac 0 c3<|bf 2 U H3 [H.n+1,H.n+2] aJ aL (by rw [jI,gI,h1,h2,b7,zb hk,bj,ec] <;> rfl)
    have ek:H2.n+0≤H3.n:=bq.n
    exact ac 0 c3<|bf 2 aw H3 [H.n+1,H.n+2] aJ aL (by rw [jI,gI,h1,h2,b7,zb hk,bj,ec] <;> rfl)
   have cB:H1.n+0≤H2.n:=aF.n
   exact Y 2 (dt c4 ct rfl rfl rfl:al E 27 (H.n+0) 0 (mT H x)=some (.agg (ai x.f).toArray))<|aB 2 (bG fN rfl rfl rfl rfl:bu E 68 (H.n+1) 0 (.agg (ai x.f).toArray) (news H [O (ai x.f) 27,O (dS U) 68])=some (nw H x))<|aB 2 (bG nB rfl rfl rfl rfl:bu E 70 (H.n+2) 0 (.agg (List.toArray kf)) (nx H x)=some (er H x))<|Y 1 (aQ (er H x) 0 0 av)<|ay 0 h1<|Y 2 (aQ (er H x) 0 0 av)<|ay 0 h2<|Y 2 (dt ir fN rfl rfl rfl:al E 68 (H.n+1) 0 (er H x)=some (.agg (ai x.f).toArray))<|ac 0 c1<|Y 4 (ag 0 av aS)<|aH 0 (x.f.k-1)<|aG 0 (x.f.k-1) (7:Int)<|Y 0 (show al E 69 (H.n+2) (0+(x.f.k-1).toNat*1) H1=some (bS 32) from cH pc lN (show ([bS 32,bS 33,bS 34,bS 35,bS 36,bS 37,bS 38]:List Value)[0+(x.f.k-1).toNat*1]?=_ by rw [hk] <;> rfl))<|Y 0 (cd ir fN gQ rfl rfl:al E 68 (H.n+1) 0 H1=some (.agg (ai x.f).toArray))<|ac 0 c2<|bf 3 U H2 [H.n+1,H.n+2] aJ aL (by rw [jI,gI,h1,h2,b7,zb hk,bj] <;> rfl)
  ·obtain ⟨_,H2,c2,aF,ar,cX⟩:=eL (acJ x X hx a hz y1)
   rcases cX with ⟨rfl,bj⟩ |⟨rfl,bj⟩
   ·have cB:H1.n+0≤H2.n:=aF.n
    have ca:=y1.kept aF aq aS
    obtain ⟨_,H3,c3,bq,aM,fq⟩:=eL (xw x X hx a fm ar)
    refine Y 2 (dt c4 ct rfl rfl rfl:al E 27 (H.n+0) 0 (mT H x)=some (.agg (ai x.f).toArray))<|aB 2 (bG fN rfl rfl rfl rfl:bu E 68 (H.n+1) 0 (.agg (ai x.f).toArray) (news H [O (ai x.f) 27,O (dS U) 68])=some (nw H x))<|aB 2 (bG nB rfl rfl rfl rfl:bu E 70 (H.n+2) 0 (.agg (List.toArray kf)) (nx H x)=some (er H x))<|Y 1 (aQ (er H x) 0 0 av)<|ay 0 h1<|Y 2 (aQ (er H x) 0 0 av)<|ay 0 h2<|Y 2 (dt ir fN rfl rfl rfl:al E 68 (H.n+1) 0 (er H x)=some (.agg (ai x.f).toArray))<|ac 0 c1<|Y 4 (ag 0 av aS)<|aH 0 (x.f.k-1)<|aG 0 (x.f.k-1) (7:Int)<|Y 0 (show al E 69 (H.n+2) (0+(x.f.k-1).toNat*1) H1=some (bS 33) from cH pc lN (show ([bS 32,bS 33,bS 34,bS 35,bS 36,bS 37,bS 38]:List Value)[0+(x.f.k-1).toNat*1]?=_ by rw [hk] <;> rfl))<|Y 0 (cd ir fN gQ rfl rfl:al E 68 (H.n+1) 0 H1=some (.agg (ai x.f).toArray))<|ac 0 c2<|Y 3 (ag 12 ef ca)<|?_
    rcases fq with ⟨rfl,ec⟩ |⟨rfl,ec⟩
    ·have ek:H2.n+0≤H3.n:=bq.n
     exact ac 0 c3<|bf 2 U H3 [H.n+1,H.n+2] aJ aL (by rw [jI,gI,h1,h2,b7,Bn hk,bj,ec] <;> rfl)
    have ek:H2.n+0≤H3.n:=bq.n
    exact ac 0 c3<|bf 2 aw H3 [H.n+1,H.n+2] aJ aL (by rw [jI,gI,h1,h2,b7,Bn hk,bj,ec] <;> rfl)
   have cB:H1.n+0≤H2.n:=aF.n
   exact Y 2 (dt c4 ct rfl rfl rfl:al E 27 (H.n+0) 0 (mT H x)=some (.agg (ai x.f).toArray))<|aB 2 (bG fN rfl rfl rfl rfl:bu E 68 (H.n+1) 0 (.agg (ai x.f).toArray) (news H [O (ai x.f) 27,O (dS U) 68])=some (nw H x))<|aB 2 (bG nB rfl rfl rfl rfl:bu E 70 (H.n+2) 0 (.agg (List.toArray kf)) (nx H x)=some (er H x))<|Y 1 (aQ (er H x) 0 0 av)<|ay 0 h1<|Y 2 (aQ (er H x) 0 0 av)<|ay 0 h2<|Y 2 (dt ir fN rfl rfl rfl:al E 68 (H.n+1) 0 (er H x)=some (.agg (ai x.f).toArray))<|ac 0 c1<|Y 4 (ag 0 av aS)<|aH 0 (x.f.k-1)<|aG 0 (x.f.k-1) (7:Int)<|Y 0 (show al E 69 (H.n+2) (0+(x.f.k-1).toNat*1) H1=some (bS 33) from cH pc lN (show ([bS 32,bS 33,bS 34,bS 35,bS 36,bS 37,bS 38]:List Value)[0+(x.f.k-1).toNat*1]?=_ by rw [hk] <;> rfl))<|Y 0 (cd ir fN gQ rfl rfl:al E 68 (H.n+1) 0 H1=some (.agg (ai x.f).toArray))<|ac 0 c2<|bf 3 U H2 [H.n+1,H.n+2] aJ aL (by rw [jI,gI,h1,h2,b7,Bn hk,bj] <;> rfl)
  ·obtain ⟨_,H2,c2,aF,ar,cX⟩:=eL (acI x X hx a hz y1)
   rcases cX with ⟨rfl,bj⟩ |⟨rfl,bj⟩
   ·have cB:H1.n+0≤H2.n:=aF.n
    have ca:=y1.kept aF aq aS
    obtain ⟨_,H3,c3,bq,aM,fq⟩:=eL (xw x X hx a fm ar)
    refine Y 2 (dt c4 ct rfl rfl rfl:al E 27 (H.n+0) 0 (mT H x)=some (.agg (ai x.f).toArray))<|aB 2 (bG fN rfl rfl rfl rfl:bu E 68 (H.n+1) 0 (.agg (ai x.f).toArray) (news H [O (ai x.f) 27,O (dS U) 68])=some (nw H x))<|aB 2 (bG nB rfl rfl rfl rfl:bu E 70 (H.n+2) 0 (.agg (List.toArray kf)) (nx H x)=some (er H x))<|Y 1 (aQ (er H x) 0 0 av)<|ay 0 h1<|Y 2 (aQ (er H x) 0 0 av)<|ay 0 h2<|Y 2 (dt ir fN rfl rfl rfl:al E 68 (H.n+1) 0 (er H x)=some (.agg (ai x.f).toArray))<|ac 0 c1<|Y 4 (ag 0 av aS)<|aH 0 (x.f.k-1)<|aG 0 (x.f.k-1) (7:Int)<|Y 0 (show al E 69 (H.n+2) (0+(x.f.k-1).toNat*1) H1=some (bS 34) from cH pc lN (show ([bS 32,bS 33,bS 34,bS 35,bS 36,bS 37,bS 38]:List Value)[0+(x.f.k-1).toNat*1]?=_ by rw [hk] <;> rfl))<|Y 0 (cd ir fN gQ rfl rfl:al E 68 (H.n+1) 0 H1=some (.agg (ai x.f).toArray))<|ac 0 c2<|Y 3 (ag 12 ef ca)<|?_
    rcases fq with ⟨rfl,ec⟩ |⟨rfl,ec⟩
    ·have ek:H2.n+0≤H3.n:=bq.n
     exact ac 0 c3<|bf 2 U H3 [H.n+1,H.n+2] aJ aL (by rw [jI,gI,h1,h2,b7,zc hk,bj,ec] <;> rfl)
    have ek:H2.n+0≤H3.n:=bq.n
    exact ac 0 c3<|bf 2 aw H3 [H.n+1,H.n+2] aJ aL (by rw [jI,gI,h1,h2,b7,zc hk,bj,ec] <;> rfl)
   have cB:H1.n+0≤H2.n:=aF.n
   exact Y 2 (dt c4 ct rfl rfl rfl:al E 27 (H.n+0) 0 (mT H x)=some (.agg (ai x.f).toArray))<|aB 2 (bG fN rfl rfl rfl rfl:bu E 68 (H.n+1) 0 (.agg (ai x.f).toArray) (news H [O (ai x.f) 27,O (dS U) 68])=some (nw H x))<|aB 2 (bG nB rfl rfl rfl rfl:bu E 70 (H.n+2) 0 (.agg (List.toArray kf)) (nx H x)=some (er H x))<|Y 1 (aQ (er H x) 0 0 av)<|ay 0 h1<|Y 2 (aQ (er H x) 0 0 av)<|ay 0 h2<|Y 2 (dt ir fN rfl rfl rfl:al E 68 (H.n+1) 0 (er H x)=some (.agg (ai x.f).toArray))<|ac 0 c1<|Y 4 (ag 0 av aS)<|aH 0 (x.f.k-1)<|aG 0 (x.f.k-1) (7:Int)<|Y 0 (show al E 69 (H.n+2) (0+(x.f.k-1).toNat*1) H1=some (bS 34) from cH pc lN (show ([bS 32,bS 33,bS 34,bS 35,bS 36,bS 37,bS 38]:List Value)[0+(x.f.k-1).toNat*1]?=_ by rw [hk] <;> rfl))<|Y 0 (cd ir fN gQ rfl rfl:al E 68 (H.n+1) 0 H1=some (.agg (ai x.f).toArray))<|ac 0 c2<|bf 3 U H2 [H.n+1,H.n+2] aJ aL (by rw [jI,gI,h1,h2,b7,zc hk,bj] <;> rfl)
  ·obtain ⟨_,H2,c2,aF,ar,cX⟩:=eL (acD x X hx a hz y1)
   rcases cX with ⟨rfl,bj⟩ |⟨rfl,bj⟩
   ·have cB:H1.n+0≤H2.n:=aF.n
    have ca:=y1.kept aF aq aS
    obtain ⟨_,H3,c3,bq,aM,fq⟩:=eL (xw x X hx a fm ar)
    refine Y 2 (dt c4 ct rfl rfl rfl:al E 27 (H.n+0) 0 (mT H x)=some (.agg (ai x.f).toArray))<|aB 2 (bG fN rfl rfl rfl rfl:bu E 68 (H.n+1) 0 (.agg (ai x.f).toArray) (news H [O (ai x.f) 27,O (dS U) 68])=some (nw H x))<|aB 2 (bG nB rfl rfl rfl rfl:bu E 70 (H.n+2) 0 (.agg (List.toArray kf)) (nx H x)=some (er H x))<|Y 1 (aQ (er H x) 0 0 av)<|ay 0 h1<|Y 2 (aQ (er H x) 0 0 av)<|ay 0 h2<|Y 2 (dt ir fN rfl rfl rfl:al E 68 (H.n+1) 0 (er H x)=some (.agg (ai x.f).toArray))<|ac 0 c1<|Y 4 (ag 0 av aS)<|aH 0 (x.f.k-1)<|aG 0 (x.f.k-1) (7:Int)<|Y 0 (show al E 69 (H.n+2) (0+(x.f.k-1).toNat*1) H1=some (bS 35) from cH pc lN (show ([bS 32,bS 33,bS 34,bS 35,bS 36,bS 37,bS 38]:List Value)[0+(x.f.k-1).toNat*1]?=_ by rw [hk] <;> rfl))<|Y 0 (cd ir fN gQ rfl rfl:al E 68 (H.n+1) 0 H1=some (.agg (ai x.f).toArray))<|ac 0 c2<|Y 3 (ag 12 ef ca)<|?_
    rcases fq with ⟨rfl,ec⟩ |⟨rfl,ec⟩
    ·have ek:H2.n+0≤H3.n:=bq.n
     exact ac 0 c3<|bf 2 U H3 [H.n+1,H.n+2] aJ aL (by rw [jI,gI,h1,h2,b7,w8 hk,bj,ec] <;> rfl)
    have ek:H2.n+0≤H3.n:=bq.n
    exact ac 0 c3<|bf 2 aw H3 [H.n+1,H.n+2] aJ aL (by rw [jI,gI,h1,h2,b7,w8 hk,bj,ec] <;> rfl)
   have cB:H1.n+0≤H2.n:=aF.n
   exact Y 2 (dt c4 ct rfl rfl rfl:al E 27 (H.n+0) 0 (mT H x)=some (.agg (ai x.f).toArray))<|aB 2 (bG fN rfl rfl rfl rfl:bu E 68 (H.n+1) 0 (.agg (ai x.f).toArray) (news H [O (ai x.f) 27,O (dS U) 68])=some (nw H x))<|aB 2 (bG nB rfl rfl rfl rfl:bu E 70 (H.n+2) 0 (.agg (List.toArray kf)) (nx H x)=some (er H x))<|Y 1 (aQ (er H x) 0 0 av)<|ay 0 h1<|Y 2 (aQ (er H x) 0 0 av)<|ay 0 h2<|Y 2 (dt ir fN rfl rfl rfl:al E 68 (H.n+1) 0 (er H x)=some (.agg (ai x.f).toArray))<|ac 0 c1<|Y 4 (ag 0 av aS)<|aH 0 (x.f.k-1)<|aG 0 (x.f.k-1) (7:Int)<|Y 0 (show al E 69 (H.n+2) (0+(x.f.k-1).toNat*1) H1=some (bS 35) from cH pc lN (show ([bS 32,bS 33,bS 34,bS 35,bS 36,bS 37,bS 38]:List Value)[0+(x.f.k-1).toNat*1]?=_ by rw [hk] <;> rfl))<|Y 0 (cd ir fN gQ rfl rfl:al E 68 (H.n+1) 0 H1=some (.agg (ai x.f).toArray))<|ac 0 c2<|bf 3 U H2 [H.n+1,H.n+2] aJ aL (by rw [jI,gI,h1,h2,b7,w8 hk,bj] <;> rfl)
  ·obtain ⟨_,H2,c2,aF,ar,cX⟩:=eL (acE x X hx a hz y1)
   rcases cX with ⟨rfl,bj⟩ |⟨rfl,bj⟩
   ·have cB:H1.n+0≤H2.n:=aF.n
    have ca:=y1.kept aF aq aS
    obtain ⟨_,H3,c3,bq,aM,fq⟩:=eL (xw x X hx a fm ar)
    refine Y 2 (dt c4 ct rfl rfl rfl:al E 27 (H.n+0) 0 (mT H x)=some (.agg (ai x.f).toArray))<|aB 2 (bG fN rfl rfl rfl rfl:bu E 68 (H.n+1) 0 (.agg (ai x.f).toArray) (news H [O (ai x.f) 27,O (dS U) 68])=some (nw H x))<|aB 2 (bG nB rfl rfl rfl rfl:bu E 70 (H.n+2) 0 (.agg (List.toArray kf)) (nx H x)=some (er H x))<|Y 1 (aQ (er H x) 0 0 av)<|ay 0 h1<|Y 2 (aQ (er H x) 0 0 av)<|ay 0 h2<|Y 2 (dt ir fN rfl rfl rfl:al E 68 (H.n+1) 0 (er H x)=some (.agg (ai x.f).toArray))<|ac 0 c1<|Y 4 (ag 0 av aS)<|aH 0 (x.f.k-1)<|aG 0 (x.f.k-1) (7:Int)<|Y 0 (show al E 69 (H.n+2) (0+(x.f.k-1).toNat*1) H1=some (bS 36) from cH pc lN (show ([bS 32,bS 33,bS 34,bS 35,bS 36,bS 37,bS 38]:List Value)[0+(x.f.k-1).toNat*1]?=_ by rw [hk] <;> rfl))<|Y 0 (cd ir fN gQ rfl rfl:al E 68 (H.n+1) 0 H1=some (.agg (ai x.f).toArray))<|ac 0 c2<|Y 3 (ag 12 ef ca)<|?_
    rcases fq with ⟨rfl,ec⟩ |⟨rfl,ec⟩
    ·have ek:H2.n+0≤H3.n:=bq.n
     exact ac 0 c3<|bf 2 U H3 [H.n+1,H.n+2] aJ aL (by rw [jI,gI,h1,h2,b7,vz hk,bj,ec] <;> rfl)
    have ek:H2.n+0≤H3.n:=bq.n
    exact ac 0 c3<|bf 2 aw H3 [H.n+1,H.n+2] aJ aL (by rw [jI,gI,h1,h2,b7,vz hk,bj,ec] <;> rfl)
   have cB:H1.n+0≤H2.n:=aF.n
   exact Y 2 (dt c4 ct rfl rfl rfl:al E 27 (H.n+0) 0 (mT H x)=some (.agg (ai x.f).toArray))<|aB 2 (bG fN rfl rfl rfl rfl:bu E 68 (H.n+1) 0 (.agg (ai x.f).toArray) (news H [O (ai x.f) 27,O (dS U) 68])=some (nw H x))<|aB 2 (bG nB rfl rfl rfl rfl:bu E 70 (H.n+2) 0 (.agg (List.toArray kf)) (nx H x)=some (er H x))<|Y 1 (aQ (er H x) 0 0 av)<|ay 0 h1<|Y 2 (aQ (er H x) 0 0 av)<|ay 0 h2<|Y 2 (dt ir fN rfl rfl rfl:al E 68 (H.n+1) 0 (er H x)=some (.agg (ai x.f).toArray))<|ac 0 c1<|Y 4 (ag 0 av aS)<|aH 0 (x.f.k-1)<|aG 0 (x.f.k-1) (7:Int)<|Y 0 (show al E 69 (H.n+2) (0+(x.f.k-1).toNat*1) H1=some (bS 36) from cH pc lN (show ([bS 32,bS 33,bS 34,bS 35,bS 36,bS 37,bS 38]:List Value)[0+(x.f.k-1).toNat*1]?=_ by rw [hk] <;> rfl))<|Y 0 (cd ir fN gQ rfl rfl:al E 68 (H.n+1) 0 H1=some (.agg (ai x.f).toArray))<|ac 0 c2<|bf 3 U H2 [H.n+1,H.n+2] aJ aL (by rw [jI,gI,h1,h2,b7,vz hk,bj] <;> rfl)
  ·obtain ⟨_,H2,c2,aF,ar,cX⟩:=eL (acH x X hx a hz y1)
   rcases cX with ⟨rfl,bj⟩ |⟨rfl,bj⟩
   ·have cB:H1.n+0≤H2.n:=aF.n
    have ca:=y1.kept aF aq aS
    obtain ⟨_,H3,c3,bq,aM,fq⟩:=eL (xw x X hx a fm ar)
    refine Y 2 (dt c4 ct rfl rfl rfl:al E 27 (H.n+0) 0 (mT H x)=some (.agg (ai x.f).toArray))<|aB 2 (bG fN rfl rfl rfl rfl:bu E 68 (H.n+1) 0 (.agg (ai x.f).toArray) (news H [O (ai x.f) 27,O (dS U) 68])=some (nw H x))<|aB 2 (bG nB rfl rfl rfl rfl:bu E 70 (H.n+2) 0 (.agg (List.toArray kf)) (nx H x)=some (er H x))<|Y 1 (aQ (er H x) 0 0 av)<|ay 0 h1<|Y 2 (aQ (er H x) 0 0 av)<|ay 0 h2<|Y 2 (dt ir fN rfl rfl rfl:al E 68 (H.n+1) 0 (er H x)=some (.agg (ai x.f).toArray))<|ac 0 c1<|Y 4 (ag 0 av aS)<|aH 0 (x.f.k-1)<|aG 0 (x.f.k-1) (7:Int)<|Y 0 (show al E 69 (H.n+2) (0+(x.f.k-1).toNat*1) H1=some (bS 37) from cH pc lN (show ([bS 32,bS 33,bS 34,bS 35,bS 36,bS 37,bS 38]:List Value)[0+(x.f.k-1).toNat*1]?=_ by rw [hk] <;> rfl))<|Y 0 (cd ir fN gQ rfl rfl:al E 68 (H.n+1) 0 H1=some (.agg (ai x.f).toArray))<|ac 0 c2<|Y 3 (ag 12 ef ca)<|?_
    rcases fq with ⟨rfl,ec⟩ |⟨rfl,ec⟩
    ·have ek:H2.n+0≤H3.n:=bq.n
     exact ac 0 c3<|bf 2 U H3 [H.n+1,H.n+2] aJ aL (by rw [jI,gI,h1,h2,b7,or hk,bj,ec] <;> rfl)
    have ek:H2.n+0≤H3.n:=bq.n
    exact ac 0 c3<|bf 2 aw H3 [H.n+1,H.n+2] aJ aL (by rw [jI,gI,h1,h2,b7,or hk,bj,ec] <;> rfl)
   have cB:H1.n+0≤H2.n:=aF.n
   exact Y 2 (dt c4 ct rfl rfl rfl:al E 27 (H.n+0) 0 (mT H x)=some (.agg (ai x.f).toArray))<|aB 2 (bG fN rfl rfl rfl rfl:bu E 68 (H.n+1) 0 (.agg (ai x.f).toArray) (news H [O (ai x.f) 27,O (dS U) 68])=some (nw H x))<|aB 2 (bG nB rfl rfl rfl rfl:bu E 70 (H.n+2) 0 (.agg (List.toArray kf)) (nx H x)=some (er H x))<|Y 1 (aQ (er H x) 0 0 av)<|ay 0 h1<|Y 2 (aQ (er H x) 0 0 av)<|ay 0 h2<|Y 2 (dt ir fN rfl rfl rfl:al E 68 (H.n+1) 0 (er H x)=some (.agg (ai x.f).toArray))<|ac 0 c1<|Y 4 (ag 0 av aS)<|aH 0 (x.f.k-1)<|aG 0 (x.f.k-1) (7:Int)<|Y 0 (show al E 69 (H.n+2) (0+(x.f.k-1).toNat*1) H1=some (bS 37) from cH pc lN (show ([bS 32,bS 33,bS 34,bS 35,bS 36,bS 37,bS 38]:List Value)[0+(x.f.k-1).toNat*1]?=_ by rw [hk] <;> rfl))<|Y 0 (cd ir fN gQ rfl rfl:al E 68 (H.n+1) 0 H1=some (.agg (ai x.f).toArray))<|ac 0 c2<|bf 3 U H2 [H.n+1,H.n+2] aJ aL (by rw [jI,gI,h1,h2,b7,or hk,bj] <;> rfl)
  obtain ⟨_,H2,c2,aF,ar,cX⟩:=eL (acF x X hx a hz y1)
  rcases cX with ⟨rfl,bj⟩ |⟨rfl,bj⟩
  ·have cB:H1.n+0≤H2.n:=aF.n
   have ca:=y1.kept aF aq aS
   obtain ⟨_,H3,c3,bq,aM,fq⟩:=eL (xw x X hx a fm ar)
   refine Y 2 (dt c4 ct rfl rfl rfl:al E 27 (H.n+0) 0 (mT H x)=some (.agg (ai x.f).toArray))<|aB 2 (bG fN rfl rfl rfl rfl:bu E 68 (H.n+1) 0 (.agg (ai x.f).toArray) (news H [O (ai x.f) 27,O (dS U) 68])=some (nw H x))<|aB 2 (bG nB rfl rfl rfl rfl:bu E 70 (H.n+2) 0 (.agg (List.toArray kf)) (nx H x)=some (er H x))<|Y 1 (aQ (er H x) 0 0 av)<|ay 0 h1<|Y 2 (aQ (er H x) 0 0 av)<|ay 0 h2<|Y 2 (dt ir fN rfl rfl rfl:al E 68 (H.n+1) 0 (er H x)=some (.agg (ai x.f).toArray))<|ac 0 c1<|Y 4 (ag 0 av aS)<|aH 0 (x.f.k-1)<|aG 0 (x.f.k-1) (7:Int)<|Y 0 (show al E 69 (H.n+2) (0+(x.f.k-1).toNat*1) H1=some (bS 38) from cH pc lN (show ([bS 32,bS 33,bS 34,bS 35,bS 36,bS 37,bS 38]:List Value)[0+(x.f.k-1).toNat*1]?=_ by rw [hk] <;> rfl))<|Y 0 (cd ir fN gQ rfl rfl:al E 68 (H.n+1) 0 H1=some (.agg (ai x.f).toArray))<|ac 0 c2<|Y 3 (ag 12 ef ca)<|?_
   rcases fq with ⟨rfl,ec⟩ |⟨rfl,ec⟩
   ·have ek:H2.n+0≤H3.n:=bq.n
    exact ac 0 c3<|bf 2 U H3 [H.n+1,H.n+2] aJ aL (by rw [jI,gI,h1,h2,b7,zd hk,bj,ec] <;> rfl)
   have ek:H2.n+0≤H3.n:=bq.n
   exact ac 0 c3<|bf 2 aw H3 [H.n+1,H.n+2] aJ aL (by rw [jI,gI,h1,h2,b7,zd hk,bj,ec] <;> rfl)
  have cB:H1.n+0≤H2.n:=aF.n
  exact Y 2 (dt c4 ct rfl rfl rfl:al E 27 (H.n+0) 0 (mT H x)=some (.agg (ai x.f).toArray))<|aB 2 (bG fN rfl rfl rfl rfl:bu E 68 (H.n+1) 0 (.agg (ai x.f).toArray) (news H [O (ai x.f) 27,O (dS U) 68])=some (nw H x))<|aB 2 (bG nB rfl rfl rfl rfl:bu E 70 (H.n+2) 0 (.agg (List.toArray kf)) (nx H x)=some (er H x))<|Y 1 (aQ (er H x) 0 0 av)<|ay 0 h1<|Y 2 (aQ (er H x) 0 0 av)<|ay 0 h2<|Y 2 (dt ir fN rfl rfl rfl:al E 68 (H.n+1) 0 (er H x)=some (.agg (ai x.f).toArray))<|ac 0 c1<|Y 4 (ag 0 av aS)<|aH 0 (x.f.k-1)<|aG 0 (x.f.k-1) (7:Int)<|Y 0 (show al E 69 (H.n+2) (0+(x.f.k-1).toNat*1) H1=some (bS 38) from cH pc lN (show ([bS 32,bS 33,bS 34,bS 35,bS 36,bS 37,bS 38]:List Value)[0+(x.f.k-1).toNat*1]?=_ by rw [hk] <;> rfl))<|Y 0 (cd ir fN gQ rfl rfl:al E 68 (H.n+1) 0 H1=some (.agg (ai x.f).toArray))<|ac 0 c2<|bf 3 U H2 [H.n+1,H.n+2] aJ aL (by rw [jI,gI,h1,h2,b7,zd hk,bj] <;> rfl)
 have c8:=ya ak
 exact Y 2 (dt c4 ct rfl rfl rfl:al E 27 (H.n+0) 0 (mT H x)=some (.agg (ai x.f).toArray))<|aB 2 (bG fN rfl rfl rfl rfl:bu E 68 (H.n+1) 0 (.agg (ai x.f).toArray) (news H [O (ai x.f) 27,O (dS U) 68])=some (nw H x))<|aB 2 (bG nB rfl rfl rfl rfl:bu E 70 (H.n+2) 0 (.agg (List.toArray kf)) (nx H x)=some (er H x))<|Y 1 (aQ (er H x) 0 0 av)<|ay 0 h1<|Y 2 (aQ (er H x) 0 0 av)<|ay 0 h2<|Y 2 (dt ir fN rfl rfl rfl:al E 68 (H.n+1) 0 (er H x)=some (.agg (ai x.f).toArray))<|ac 0 c1<|bf 5 U H1 [H.n+1,H.n+2] aJ aL (by rw [jI,gI,h1,h2,b7] <;> rfl)
theorem afO (x:bh) (X:Z) (hx:aa E G X) (hs:jb X x):mC x→∀{H:Z},aa E X H→aV E X 20 [.agg (ai x.f).toArray] H [] (fun v _=>v=.bool (jH x)):=by
 induction hs with
 |@mk x a hk ih=>
  intro hf H y
  cases hf with
  |mk hz hf=>exact ad7 x X hx a hz (fun k hk=>ih k hk (hf k hk)) y
noncomputable def oS (x:bh):Bool:=decide (e7 x≤64)&&jH x
theorem afN (x:bh) (X:Z) (hx:aa E G X) (hs:jb X x) (hf:mC x) {H:Z} (y:aa E X H):aV E X 13 [.agg (ai x.f).toArray] H [] (fun v H'=>v=.bool (oS x)):=by
 refine bB Tryz.f13 y ?_
 obtain ⟨_,H1,c1,ak,y1,rfl⟩:=afM x X hx hs (y.news [O (ai x.f) 27])
 have aS:=(y.news [O (ai x.f) 27]).kept ak aq (aR [O (ai x.f) 27] H 0 _ rfl)
 refine Y 2 (dt c4 ct rfl rfl rfl:al E 27 (H.n+0) 0 (mT H x)=some (.agg (ai x.f).toArray))<|ac 0 c1<|aD 0 ((e7 x)≤64) ?_ ?_ <;> intro h1 q1
 ·obtain ⟨_,H2,c2,aF,ar,cX⟩:=eL (afO x X hx hs hf y1)
  refine Y 1 (cd c4 ct aS rfl rfl:al E 27 (H.n+0) 0 H1=some (.agg (ai x.f).toArray))<|?_
  rcases cX with ⟨rfl,bj⟩ |⟨rfl,bj⟩
  ·exact ac 0 c2<|af 2 aw H2 (by rw [oS,h1,bj] <;> rfl)
  exact ac 0 c2<|af 2 U H2 (by rw [oS,h1,bj] <;> rfl)
 exact af 3 U H1 (by rw [oS,h1] <;> rfl)
theorem adp (s:ByteArray) (i:Int) (lo:Int) (hi:Int) {H:Z} (y:aa E G H) (h0:0≤i):aV E G 88 [.string s,M i,ab lo,ab hi] H [] (fun v H'=>v=(.bool (decide (dP s i lo hi)))):=by
 refine bB Tryz.f88 y ?_
 refine aD 4 (i<(s.size:Int)) ?_ ?_ <;> intro h1 q1
 ·refine aG 3 i (s.size:Int)<|aD 1 ((ad s i)≥lo) ?_ ?_ <;> intro h2 cv
  ·refine aG 4 i (s.size:Int)<|aD 1 ((ad s i)≤hi) ?_ ?_ <;> intro h3 cY
   ·exact af 2 aw H (congrArg Value.bool (decide_eq_true (⟨J,J,J⟩:dP s i lo hi)).symm)
   exact af 2 U H (congrArg Value.bool (decide_eq_false (show ¬ dP s i lo hi from fun h=>by unfold dP at h;omega)).symm)
  exact af 4 U H (congrArg Value.bool (decide_eq_false (show ¬ dP s i lo hi from fun h=>by unfold dP at h;omega)).symm)
 exact af 5 U H (congrArg Value.bool (decide_eq_false (show ¬ dP s i lo hi from fun h=>by unfold dP at h;omega)).symm)
theorem iT (s:ByteArray) (i:Int) (lo:Int) (hi:Int) (h0:0≤i):∀{H:Z},aa E G H→bF E 88 [.string s,M i,ab lo,ab hi] H (.ret (.bool (decide (dP s i lo hi)))) H []:=by
 obtain ⟨_,_,c,_,_,rfl⟩:=adp s i lo hi eH h0
 exact fun y=>eh (et rfl) (.ground rfl) c y
theorem adF (s:ByteArray) (i:Int) {H:Z} (y:aa E G H) (h0:0≤i) (h1:i<s.size) (hs:(s.size:Int)<100000):aV E G 78 [.string s,M i] H [] (fun v H'=>v=(M (gh s i))):=by
 refine bB Tryz.f78 y ?_
 refine aG 3 i (s.size:Int)<|aD 2 ((ad s i)<128) ?_ ?_ <;> intro h1 q1
 ·exact af 2 (M 1) H (congrArg M (KM J).symm)
 refine aD 2 ((ad s i)≥194) ?_ ?_ <;> intro h2 cv
 ·refine aD 2 ((ad s i)<224) ?_ ?_ <;> intro h3 cY
  ·refine aH 4 (i+1)<|?_
   cases h4:(decide (dP s (i+1) 128 191)) with
   |true=>
    exact ac 0 (cP h4 (iT s (i+1) 128 191 J y))<|af 3 (M 2) H (congrArg M ((Ku J).trans (if_pos (fD h4))).symm)
   |false=>
    exact ac 0 (cP h4 (iT s (i+1) 128 191 J y))<|ay 3 (decide_eq_false J:(decide ((ad s i)≥224))=false)<|ay 4 (decide_eq_false J:(decide ((ad s i)≥240))=false)<|af 4 (M 0) H (congrArg M ((Ku J).trans (if_neg (fun h=>fM h4 h))).symm)
  refine ay 5 (decide_eq_true J:(decide ((ad s i)≥224))=true)<|aD 2 ((ad s i)<240) ?_ ?_ <;> intro h4 cO
  ·refine aY 5 (ad s i) 224 ?_ ?_ <;> intro h5 dc
   ·refine ay 2 (beq_eq_false_iff_ne.2 J:((ad s i)==237)=false)<|aH 2 (i+1)<|?_
    cases h6:(decide (dP s (i+1) 160 191)) with
    |true=>
     refine ac 2 (cP h6 (iT s (i+1) 160 191 J y))<|aH 3 (i+2)<|?_
     cases h7:(decide (dP s (i+2) 128 191)) with
     |true=>
      exact ac 0 (cP h7 (iT s (i+2) 128 191 J y))<|af 2 (M 3) H (congrArg M ((F3 J).trans (if_pos ⟨fD h6,fD h7⟩)).symm)
     |false=>
      exact ac 0 (cP h7 (iT s (i+2) 128 191 J y))<|af 2 (M 0) H (congrArg M ((F3 J).trans (if_neg (fun h=>fM h7 h.2))).symm)
    |false=>
     exact ac 2 (cP h6 (iT s (i+1) 160 191 J y))<|af 3 (M 0) H (congrArg M ((F3 J).trans (if_neg (fun h=>fM h6 h.1))).symm)
   refine aY 1 (ad s i) 237 ?_ ?_ <;> intro h6 di
   ·refine aH 3 (i+1)<|?_
    cases h7:(decide (dP s (i+1) 128 159)) with
    |true=>
     refine ac 2 (cP h7 (iT s (i+1) 128 159 J y))<|aH 3 (i+2)<|?_
     cases h8:(decide (dP s (i+2) 128 191)) with
     |true=>
      exact ac 0 (cP h8 (iT s (i+2) 128 191 J y))<|af 2 (M 3) H (congrArg M ((F5 J).trans (if_pos ⟨fD h7,fD h8⟩)).symm)
     |false=>
      exact ac 0 (cP h8 (iT s (i+2) 128 191 J y))<|af 2 (M 0) H (congrArg M ((F5 J).trans (if_neg (fun h=>fM h8 h.2))).symm)
    |false=>
     exact ac 2 (cP h7 (iT s (i+1) 128 159 J y))<|af 3 (M 0) H (congrArg M ((F5 J).trans (if_neg (fun h=>fM h7 h.1))).symm)
   refine aH 2 (i+1)<|?_
   cases h7:(decide (dP s (i+1) 128 191)) with
   |true=>
    refine ac 2 (cP h7 (iT s (i+1) 128 191 J y))<|aH 3 (i+2)<|?_
    cases h8:(decide (dP s (i+2) 128 191)) with
    |true=>
     exact ac 0 (cP h8 (iT s (i+2) 128 191 J y))<|af 2 (M 3) H (congrArg M ((F4 J).trans (if_pos ⟨fD h7,fD h8⟩)).symm)
    |false=>
     exact ac 0 (cP h8 (iT s (i+2) 128 191 J y))<|af 2 (M 0) H (congrArg M ((F4 J).trans (if_neg (fun h=>fM h8 h.2))).symm)
   |false=>
    exact ac 2 (cP h7 (iT s (i+1) 128 191 J y))<|af 3 (M 0) H (congrArg M ((F4 J).trans (if_neg (fun h=>fM h7 h.1))).symm)
  refine ay 3 (decide_eq_true J:(decide ((ad s i)≥240))=true)<|aD 2 ((ad s i)<245) ?_ ?_ <;> intro h5 dc
  ·refine aY 5 (ad s i) 240 ?_ ?_ <;> intro h6 di
   ·refine ay 2 (beq_eq_false_iff_ne.2 J:((ad s i)==244)=false)<|aH 2 (i+1)<|?_
    cases h7:(decide (dP s (i+1) 144 191)) with
    |true=>
     refine ac 2 (cP h7 (iT s (i+1) 144 191 J y))<|aH 3 (i+2)<|?_
     cases h8:(decide (dP s (i+2) 128 191)) with
     |true=>
      refine ac 0 (cP h8 (iT s (i+2) 128 191 J y))<|aH 4 (i+3)<|?_
      cases h9:(decide (dP s (i+3) 128 191)) with
      |true=>
       exact ac 0 (cP h9 (iT s (i+3) 128 191 J y))<|af 2 (M 4) H (congrArg M ((C5 J).trans (if_pos ⟨fD h7,fD h8,fD h9⟩)).symm)
      |false=>
       exact ac 0 (cP h9 (iT s (i+3) 128 191 J y))<|af 2 (M 0) H (congrArg M ((C5 J).trans (if_neg (fun h=>fM h9 h.2.2))).symm)
     |false=>
      exact ac 0 (cP h8 (iT s (i+2) 128 191 J y))<|af 4 (M 0) H (congrArg M ((C5 J).trans (if_neg (fun h=>fM h8 h.2.1))).symm)
    |false=>
     exact ac 2 (cP h7 (iT s (i+1) 144 191 J y))<|af 5 (M 0) H (congrArg M ((C5 J).trans (if_neg (fun h=>fM h7 h.1))).symm)
   refine aY 1 (ad s i) 244 ?_ ?_ <;> intro h7 gM
   ·refine aH 3 (i+1)<|?_
    cases h8:(decide (dP s (i+1) 128 143)) with
    |true=>
     refine ac 2 (cP h8 (iT s (i+1) 128 143 J y))<|aH 3 (i+2)<|?_
     cases h9:(decide (dP s (i+2) 128 191)) with
     |true=>
      refine ac 0 (cP h9 (iT s (i+2) 128 191 J y))<|aH 4 (i+3)<|?_
      cases h10:(decide (dP s (i+3) 128 191)) with
      |true=>
       exact ac 0 (cP h10 (iT s (i+3) 128 191 J y))<|af 2 (M 4) H (congrArg M ((C7 J).trans (if_pos ⟨fD h8,fD h9,fD h10⟩)).symm)
      |false=>
       exact ac 0 (cP h10 (iT s (i+3) 128 191 J y))<|af 2 (M 0) H (congrArg M ((C7 J).trans (if_neg (fun h=>fM h10 h.2.2))).symm)
     |false=>
      exact ac 0 (cP h9 (iT s (i+2) 128 191 J y))<|af 4 (M 0) H (congrArg M ((C7 J).trans (if_neg (fun h=>fM h9 h.2.1))).symm)
    |false=>
     exact ac 2 (cP h8 (iT s (i+1) 128 143 J y))<|af 5 (M 0) H (congrArg M ((C7 J).trans (if_neg (fun h=>fM h8 h.1))).symm)
   refine aH 2 (i+1)<|?_
   cases h8:(decide (dP s (i+1) 128 191)) with
   |true=>
    refine ac 2 (cP h8 (iT s (i+1) 128 191 J y))<|aH 3 (i+2)<|?_
    cases h9:(decide (dP s (i+2) 128 191)) with
    |true=>
     refine ac 0 (cP h9 (iT s (i+2) 128 191 J y))<|aH 4 (i+3)<|?_
     cases h10:(decide (dP s (i+3) 128 191)) with
     |true=>
      exact ac 0 (cP h10 (iT s (i+3) 128 191 J y))<|af 2 (M 4) H (congrArg M ((C6 J).trans (if_pos ⟨fD h8,fD h9,fD h10⟩)).symm)
     |false=>
      exact ac 0 (cP h10 (iT s (i+3) 128 191 J y))<|af 2 (M 0) H (congrArg M ((C6 J).trans (if_neg (fun h=>fM h10 h.2.2))).symm)
    |false=>
     exact ac 0 (cP h9 (iT s (i+2) 128 191 J y))<|af 4 (M 0) H (congrArg M ((C6 J).trans (if_neg (fun h=>fM h9 h.2.1))).symm)
   |false=>
    exact ac 2 (cP h8 (iT s (i+1) 128 191 J y))<|af 5 (M 0) H (congrArg M ((C6 J).trans (if_neg (fun h=>fM h8 h.1))).symm)
  exact af 3 (M 0) H (congrArg M (Kv J J).symm)
 exact ay 6 (decide_eq_false J:(decide ((ad s i)≥224))=false)<|ay 4 (decide_eq_false J:(decide ((ad s i)≥240))=false)<|af 4 (M 0) H (congrArg M (Kv J J).symm)
theorem adE (s:ByteArray) (i:Int) (h0:0≤i) (h1:i<s.size) (hs:(s.size:Int)<100000):∀{H:Z},aa E G H→bF E 78 [.string s,M i] H (.ret (M (gh s i))) H []:=by
 obtain ⟨_,_,c,_,_,rfl⟩:=adF s i eH h0 h1 hs
 exact fun y=>eh (et rfl) (.ground rfl) c y
noncomputable def VQ:Code:=cw [1,0,1,0,0] (cx Tryz.f64)
theorem aft (s:ByteArray) (R:Bool):∀(m:Nat) (aO:Int) (H:Z),aa E G H→(hs:(s.size:Int)<100000)→(x0:0≤aO)→(hR:fE s aO=R)→((s.size:Int)-aO).toNat=m→
  bV E G 17 VQ [(0,.string s),(3,M aO)] H [] (fun x T H'=>(x=(.exit 0)∧T=aP []∧(R=true))∨(x=.ret∧T=aP [(2,U)]∧(R=false))):=by
 refine dJ fun m ih=>?_
 intro aO H y hs x0 hR hm
 refine cN y ?_
 refine aD 3 (aO<(s.size:Int)) ?_ ?_ <;> intro h1 q1
 ·have rb:=KN s aO
  refine ac 2 (adE s aO J J hs y)<|aY 2 (gh s aO) 0 ?_ ?_ <;> intro h2 cv
  ·exact cF 1 [(2,U)] .ret H (.inr ⟨rfl,rfl,agp hR J J⟩)
  exact aH 2 (aO+(gh s aO))<|du 1 [(0,.string s),(3,M (aO+(gh s aO)))] H (ih _ J (aO+(gh s aO)) _ y hs J (ago hR J J) rfl)
 exact cF 0 [] (.exit 0) H (.inl ⟨rfl,rfl,agq hR J⟩)
theorem adI (s:ByteArray) {H:Z} (y:aa E G H) (hs:(s.size:Int)<100000):aV E G 64 [.string s] H [] (fun v H'=>v=(.bool (fE s 0))):=by
 refine bB Tryz.f64 y ?_
 obtain ⟨_,_,H1,c1,ak,y1,bE⟩:=(aft s (fE s 0) _ 0 _ y hs J rfl rfl).code
 rcases bE with ⟨rfl,rfl,aI⟩ |⟨rfl,rfl,aI⟩
 ·exact bx 2 c1<|af 1 aw H1 (by rw [aI])
 exact bx 2 c1<|af 0 U H1 (by rw [aI])
theorem QO (s:ByteArray) (hs:(s.size:Int)<100000):∀{H:Z},aa E G H→bF E 64 [.string s] H (.ret (.bool (fE s 0))) H []:=by
 obtain ⟨_,_,c,_,_,rfl⟩:=adI s eH hs
 exact fun y=>eh (et rfl) (.ground rfl) c y
theorem adJ (s:ByteArray) {H:Z} (y:aa E G H):aV E G 43 [.string s] H [] (fun v H'=>v=(.bool (lV s))):=by
 refine bB Tryz.f43 y ?_
 refine aD 3 ((s.size:Int)≤200) ?_ ?_ <;> intro h1 q1
 ·cases h2:(fE s 0) with
  |true=>
   exact ac 2 (cP h2 (QO s J y))<|af 2 aw H (by rw [lV,h1,h2] <;> rfl)
  |false=>
   exact ac 2 (cP h2 (QO s J y))<|af 2 U H (by rw [lV,h1,h2] <;> rfl)
 exact af 3 U H (by rw [lV,h1] <;> rfl)
theorem AD (s:ByteArray):∀{H:Z},aa E G H→bF E 43 [.string s] H (.ret (.bool (lV s))) H []:=by
 obtain ⟨_,_,c,_,_,rfl⟩:=adJ s eH
 exact fun y=>eh (et rfl) (.ground rfl) c y
noncomputable def Vu:Code:=cw [1,0,1,0,0] (cx Tryz.f66)
theorem adr (s:ByteArray) (R:Int):∀(m:Nat) (aO:Int) (H:Z),aa E G H→(hs:(s.size:Int)<100000)→(x0:0≤aO)→(x1:aO≤s.size)→(hR:gT hY s aO=R)→(hd:aO=0∨hH (ad s 0)=false)→((s.size:Int)-aO).toNat=m→
  bV E G 58 Vu [(0,.string s),(3,M aO)] H [] (fun x T H'=>(x=(.exit 0)∧T=aP [(0,.string s)]∧((R=s.size∨(s.size:Int)≤0)∧((s.size:Int)≤0∨hH (ad s 0)=false)))∨(x=.ret∧T=aP [(2,U)]∧(R<s.size∨hH (ad s 0)=true))):=by
 refine dJ fun m ih=>?_
 intro aO H y hs x0 x1 hR hd hm
 refine cN y ?_
 refine aD 3 (aO<(s.size:Int)) ?_ ?_ <;> intro h1 q1
 ·refine aG 2 aO (s.size:Int)<|aD 2 ((ad s aO)≥48) ?_ ?_ <;> intro h2 cv
  ·refine aD 2 ((ad s aO)≤57) ?_ ?_ <;> intro h3 cY
   ·refine aY 14 aO 0 ?_ ?_ <;> intro h4 cO
    ·exact cF 3 [(2,U)] .ret H (.inr ⟨rfl,rfl,(by first |exact .inl (by have:=nA (Cv J) hR;omega) |exact .inr (by rw [show (0:Int)=aO by omega];exact zv J))⟩)
    exact aH 3 (aO+1)<|du 1 [(0,.string s),(3,M (aO+1))] H (ih _ J (aO+1) _ y hs J J (oT J (Cw J) hR) (hd.elim (fun h=>.inr (zu (by rw [← h];omega))) .inr) rfl)
   refine d7 6 (ad s aO) 95 ?_ ?_ <;> intro h4 cO
   ·refine aD 3 ((ad s aO)<97) ?_ ?_ <;> intro h5 dc
    ·refine aD 5 ((ad s aO)<65) ?_ ?_ <;> intro h6 di
     ·exact cF 6 [(2,U)] .ret H (.inr ⟨rfl,rfl,(by first |exact .inl (by have:=nA (Cv J) hR;omega) |exact .inr (by rw [show (0:Int)=aO by omega];exact zv J))⟩)
     refine aD 2 ((ad s aO)>90) ?_ ?_ <;> intro h7 gM
     ·exact cF 5 [(2,U)] .ret H (.inr ⟨rfl,rfl,(by first |exact .inl (by have:=nA (Cv J) hR;omega) |exact .inr (by rw [show (0:Int)=aO by omega];exact zv J))⟩)
     exact aH 8 (aO+1)<|du 1 [(0,.string s),(3,M (aO+1))] H (ih _ J (aO+1) _ y hs J J (oT J (Cw J) hR) (hd.elim (fun h=>.inr (zu (by rw [← h];omega))) .inr) rfl)
    refine aD 2 ((ad s aO)>122) ?_ ?_ <;> intro h6 di
    ·exact ay 4 (decide_eq_false J:(decide ((ad s aO)<65))=false)<|ay 2 (decide_eq_true J:(decide ((ad s aO)>90))=true)<|cF 5 [(2,U)] .ret H (.inr ⟨rfl,rfl,(by first |exact .inl (by have:=nA (Cv J) hR;omega) |exact .inr (by rw [show (0:Int)=aO by omega];exact zv J))⟩)
    exact aH 10 (aO+1)<|du 1 [(0,.string s),(3,M (aO+1))] H (ih _ J (aO+1) _ y hs J J (oT J (Cw J) hR) (hd.elim (fun h=>.inr (zu (by rw [← h];omega))) .inr) rfl)
   exact aH 11 (aO+1)<|du 1 [(0,.string s),(3,M (aO+1))] H (ih _ J (aO+1) _ y hs J J (oT J (Cw J) hR) (hd.elim (fun h=>.inr (zu (by rw [← h];omega))) .inr) rfl)
  refine d7 7 (ad s aO) 95 ?_ ?_ <;> intro h3 cY
  ·exact ay 3 (decide_eq_true J:(decide ((ad s aO)<97))=true)<|ay 5 (decide_eq_true J:(decide ((ad s aO)<65))=true)<|cF 6 [(2,U)] .ret H (.inr ⟨rfl,rfl,(by first |exact .inl (by have:=nA (Cv J) hR;omega) |exact .inr (by rw [show (0:Int)=aO by omega];exact zv J))⟩)
  exact aH 11 (aO+1)<|du 1 [(0,.string s),(3,M (aO+1))] H (ih _ J (aO+1) _ y hs J J (oT J (Cw J) hR) (hd.elim (fun h=>.inr (zu (by rw [← h];omega))) .inr) rfl)
 exact cF 0 [(0,.string s)] (.exit 0) H (.inl ⟨rfl,rfl,⟨by have:=AJ J hR;have:=x1;omega,hd.elim (fun h=>.inl J) .inr⟩⟩)
theorem ads (s:ByteArray) {H:Z} (y:aa E G H) (hs:(s.size:Int)<100000):aV E G 66 [.string s] H [] (fun v H'=>v=(.bool (jh s))):=by
 refine bB Tryz.f66 y ?_
 obtain ⟨_,_,H1,c1,ak,y1,bE⟩:=(adr s (gT hY s 0) _ 0 _ y hs J J rfl (.inl rfl) rfl).code
 rcases bE with ⟨rfl,rfl,aI,gv⟩ |⟨rfl,rfl,aI⟩
 ·refine bx 2 c1<|aD 2 ((s.size:Int)>0) ?_ ?_ <;> intro h2 cv
  ·refine aD 3 ((s.size:Int)≤200) ?_ ?_ <;> intro h3 cY
   ·exact af 2 aw H1 (congrArg Value.bool (abK J J (gv.resolve_left J) (aI.resolve_right J)).symm)
   exact af 2 U H1 (congrArg Value.bool (JL (by first |exact .inl J |exact .inr (.inl J))).symm)
  exact af 3 U H1 (congrArg Value.bool (JL (by first |exact .inl J |exact .inr (.inl J))).symm)
 exact bx 2 c1<|af 0 U H1 (congrArg Value.bool (JL (aI.elim (fun h=>.inr (.inr (.inr J))) (fun h=>.inr (.inr (.inl h))))).symm)
theorem AB (s:ByteArray) (hs:(s.size:Int)<100000):∀{H:Z},aa E G H→bF E 66 [.string s] H (.ret (.bool (jh s))) H []:=by
 obtain ⟨_,_,c,_,_,rfl⟩:=ads s eH hs
 exact fun y=>eh (et rfl) (.ground rfl) c y
noncomputable def Vs:Code:=cw [1,0,1,0,0] (cx Tryz.f46)
theorem ado (q:Nat) (ws:List ByteArray) (c:Nat) (s:ByteArray) (R:Bool):∀(m:Nat) (ah:Int) (H:Z),aa E G H→(b9:H.get q=some (O (mW ws) 9))→(hl:ws.length<100000)→(x0:0≤ah)→(hR:hasB s (ws.drop ah.toNat)=R)→((ws.length:Int)-ah).toNat=m→
  bV E G 18 Vs [(0,.string s),(1,sc q 0 ws.length c),(5,M ah)] H [] (fun x T H'=>(x=(.exit 0)∧T=aP []∧(R=false))∨(x=.ret∧T=aP [(4,aw)]∧(R=true))):=by
 refine dJ fun m ih=>?_
 intro ah H y b9 hl x0 hR hm
 refine cN y ?_
 refine aD 3 (ah<(ws.length:Int)) ?_ ?_ <;> intro h1 q1
 ·obtain ⟨ob,wi,xL⟩:=Lw (ws:=ws) (i:=ah.toNat) J
  refine aG 2 ah (ws.length:Int)<|Y 0 (show al E 9 q (0+ah.toNat*1) H=some (.string ob) from cH bA b9 (show (mW ws)[0+ah.toNat*1]?=_ by rw [show 0+ah.toNat*1=ah.toNat by omega];exact xL))<|d5 1 (ob.toList==s.toList) (fun h2=>?_) fun h2=>?_
  ·exact cF 1 [(4,aw)] .ret H (.inr ⟨rfl,rfl,sK (F:=hasB s) (g:=fun w=>s.toList==w.toList) (fun _ _=>rfl) wi hR (GI h2)⟩)
  exact aH 1 (ah+1)<|du 1 [(0,.string s),(1,sc q 0 ws.length c),(5,M (ah+1))] H (ih _ J (ah+1) _ y b9 hl J (by rw [gp J];exact (sL (F:=hasB s) (g:=fun w=>s.toList==w.toList) (fun _ _=>rfl) wi hR (GI h2))) rfl)
 exact cF 0 [] (.exit 0) H (.inl ⟨rfl,rfl,sJ (F:=hasB s) rfl hR J⟩)
theorem Kw (q:Nat) (ws:List ByteArray) (c:Nat) (s:ByteArray) {H:Z} (y:aa E G H) (b9:H.get q=some (O (mW ws) 9)) (hl:ws.length<100000):aV E G 46 [.string s,sc q 0 ws.length c] H [] (fun v H'=>v=.bool (hasB s ws)):=by
 refine bB Tryz.f46 y ?_
 obtain ⟨_,_,H1,c1,ak,y1,bE⟩:=(ado q ws c s (hasB s ws) _ 0 _ y b9 hl J rfl rfl).code
 rcases bE with ⟨rfl,rfl,aI⟩ |⟨rfl,rfl,aI⟩
 ·exact bx 2 c1<|af 1 U H1 (by rw [aI])
 exact bx 2 c1<|af 0 aw H1 (by rw [aI])
theorem W9:[.string ⟨#[115,117,109]⟩,.string ⟨#[97,118,103]⟩,.string ⟨#[109,105,110]⟩,.string ⟨#[109,97,120]⟩,.string ⟨#[99,111,117,110,116]⟩,.string ⟨#[116,111,112,107]⟩,.string ⟨#[98,111,116,116,111,109,107]⟩]=oB:=an
theorem Zw:[.string ⟨#[98,121]⟩,.string ⟨#[119,105,116,104,111,117,116]⟩,.string ⟨#[111,110]⟩,.string ⟨#[105,103,110,111,114,105,110,103]⟩,.string ⟨#[98,111,111,108]⟩,.string ⟨#[111,102,102,115,101,116]⟩,.string ⟨#[73,110,102]⟩,.string ⟨#[78,97,78]⟩]=x3:=an
noncomputable abbrev Nl:=([.string ⟨#[115,117,109]⟩,.string ⟨#[97,118,103]⟩,.string ⟨#[109,105,110]⟩,.string ⟨#[109,97,120]⟩,.string ⟨#[99,111,117,110,116]⟩,.string ⟨#[116,111,112,107]⟩,.string ⟨#[98,111,116,116,111,109,107]⟩]:List Value)
theorem QJ  {H:Z} (y:aa E G H):aV E G 47 [] H [] (fun v H'=>∃ q,v=sc q 0 7 15∧H.n≤q∧H'.get q=some (O oB 9)):=by
 refine bB Tryz.f47 y ?_
 exact af 3 (sc (H.n+0) 0 7 15) (news H (g6 Nl)) ⟨_,rfl,J,W9▸(aR (g6 Nl) H 0 _ rfl)⟩
noncomputable def Vq:Code:=cw [1,1,0,1,0,0] (cx Tryz.f44)
theorem adl (s:ByteArray) (R:Int):∀(m:Nat) (aO:Int) (H:Z),aa E G H→(hs:(s.size:Int)<100000)→(x0:0≤aO)→(x1:aO≤s.size)→(hR:gT iG s aO=R)→(hd:aO=0∨eZ (ad s 0)=true)→((s.size:Int)-aO).toNat=m→
  bV E G 69 Vq [(0,.string s),(3,M aO)] H [] (fun x T H'=>(x=(.exit 0)∧T=aP []∧((R=s.size)∧((s.size:Int)≤0∨eZ (ad s 0)=true)))∨(x=.ret∧T=aP [(2,U)]∧(R<s.size∨eZ (ad s 0)=false))):=by
 refine dJ fun m ih=>?_
 intro aO H y hs x0 x1 hR hd hm
 refine cN y ?_
 refine aD 3 (aO<(s.size:Int)) ?_ ?_ <;> intro h1 q1
 ·refine aG 2 aO (s.size:Int)<|aD 2 ((ad s aO)≥97) ?_ ?_ <;> intro h2 cv
  ·refine aD 2 ((ad s aO)≤122) ?_ ?_ <;> intro h3 cY
   ·exact aH 13 (aO+1)<|du 1 [(0,.string s),(3,M (aO+1))] H (ih _ J (aO+1) _ y hs J J (oT J (DC J) hR) (hd.elim (fun h=>.inr (by subst h;exact Cx J)) .inr) rfl)
   refine ay 3 (decide_eq_true J:(decide ((ad s aO)≥65))=true)<|ay 2 (decide_eq_false J:(decide ((ad s aO)≤90))=false)<|ay 4 (beq_eq_false_iff_ne.2 J:((ad s aO)==95)=false)<|ay 3 (beq_eq_false_iff_ne.2 J:((ad s aO)==58)=false)<|aY 6 aO 0 ?_ ?_ <;> intro h4 cO
   ·exact cF 6 [(2,U)] .ret H (.inr ⟨rfl,rfl,(by first |exact .inl (by have:=nA (yL J) hR;omega) |exact .inr (by rw [show (0:Int)=aO by omega];exact wg J))⟩)
   exact ay 2 (decide_eq_false J:(decide ((ad s aO)<48))=false)<|ay 3 (decide_eq_true J:(decide ((ad s aO)>57))=true)<|cF 3 [(2,U)] .ret H (.inr ⟨rfl,rfl,(by first |exact .inl (by have:=nA (yL J) hR;omega) |exact .inr (by rw [show (0:Int)=aO by omega];exact wg J))⟩)
  refine aD 4 ((ad s aO)≥65) ?_ ?_ <;> intro h3 cY
  ·refine aD 2 ((ad s aO)≤90) ?_ ?_ <;> intro h4 cO
   ·exact aH 12 (aO+1)<|du 1 [(0,.string s),(3,M (aO+1))] H (ih _ J (aO+1) _ y hs J J (oT J (DC J) hR) (hd.elim (fun h=>.inr (by subst h;exact Cx J)) .inr) rfl)
   refine aY 4 (ad s aO) 95 ?_ ?_ <;> intro h5 dc
   ·exact aH 9 (aO+1)<|du 1 [(0,.string s),(3,M (aO+1))] H (ih _ J (aO+1) _ y hs J J (oT J (DC J) hR) (hd.elim (fun h=>.inr (by subst h;exact Cx J)) .inr) rfl)
   refine ay 3 (beq_eq_false_iff_ne.2 J:((ad s aO)==58)=false)<|aY 6 aO 0 ?_ ?_ <;> intro h6 di
   ·exact cF 6 [(2,U)] .ret H (.inr ⟨rfl,rfl,(by first |exact .inl (by have:=nA (yL J) hR;omega) |exact .inr (by rw [show (0:Int)=aO by omega];exact wg J))⟩)
   exact ay 2 (decide_eq_false J:(decide ((ad s aO)<48))=false)<|ay 3 (decide_eq_true J:(decide ((ad s aO)>57))=true)<|cF 3 [(2,U)] .ret H (.inr ⟨rfl,rfl,(by first |exact .inl (by have:=nA (yL J) hR;omega) |exact .inr (by rw [show (0:Int)=aO by omega];exact wg J))⟩)
  refine ay 5 (beq_eq_false_iff_ne.2 J:((ad s aO)==95)=false)<|aY 3 (ad s aO) 58 ?_ ?_ <;> intro h4 cO
  ·exact aH 7 (aO+1)<|du 1 [(0,.string s),(3,M (aO+1))] H (ih _ J (aO+1) _ y hs J J (oT J (DC J) hR) (hd.elim (fun h=>.inr (by subst h;exact Cx J)) .inr) rfl)
  refine aY 6 aO 0 ?_ ?_ <;> intro h5 dc
  ·exact cF 6 [(2,U)] .ret H (.inr ⟨rfl,rfl,(by first |exact .inl (by have:=nA (yL J) hR;omega) |exact .inr (by rw [show (0:Int)=aO by omega];exact wg J))⟩)
  refine aD 2 ((ad s aO)<48) ?_ ?_ <;> intro h6 di
  ·exact cF 5 [(2,U)] .ret H (.inr ⟨rfl,rfl,(by first |exact .inl (by have:=nA (yL J) hR;omega) |exact .inr (by rw [show (0:Int)=aO by omega];exact wg J))⟩)
  refine aD 3 ((ad s aO)>57) ?_ ?_ <;> intro h7 gM
  ·exact cF 3 [(2,U)] .ret H (.inr ⟨rfl,rfl,(by first |exact .inl (by have:=nA (yL J) hR;omega) |exact .inr (by rw [show (0:Int)=aO by omega];exact wg J))⟩)
  exact aH 3 (aO+1)<|du 1 [(0,.string s),(3,M (aO+1))] H (ih _ J (aO+1) _ y hs J J (oT J (DC J) hR) (.inr (hd.resolve_left J)) rfl)
 exact cF 0 [] (.exit 0) H (.inl ⟨rfl,rfl,⟨by have:=AJ J hR;omega,hd.elim (fun h=>.inl J) .inr⟩⟩)
noncomputable abbrev Nm:=([.string ⟨#[98,121]⟩,.string ⟨#[119,105,116,104,111,117,116]⟩,.string ⟨#[111,110]⟩,.string ⟨#[105,103,110,111,114,105,110,103]⟩,.string ⟨#[98,111,111,108]⟩,.string ⟨#[111,102,102,115,101,116]⟩,.string ⟨#[73,110,102]⟩,.string ⟨#[78,97,78]⟩]:List Value)
theorem adm (s:ByteArray) {H:Z} (y:aa E G H):aV E G 44 [.string s] H [] (fun v H'=>v=(.bool (jC s))):=by
 refine bB Tryz.f44 y ?_
 refine aY 3 (s.size:Int) 0 ?_ ?_ <;> intro h1 q1
 ·exact af 7 U H (by rw [jC,Ot J];simp only [Bool.and_false])
 refine aD 3 ((s.size:Int)>200) ?_ ?_ <;> intro h2 cv
 ·exact af 6 U H (by rw [jC,h2] <;> rfl)
 obtain ⟨_,H1,c1,ak,y1,eJ,rfl,Iv,x4⟩:=QJ y
 obtain ⟨_,H2,c2,aF,ar,cX⟩:=eL (Kw eJ (rd oB) 15 s y1 x4 (by decide))
 refine ac 3 c1<|?_
 rcases cX with ⟨rfl,bj⟩ |⟨rfl,bj⟩
 ·exact ac 0 c2<|af 4 U H2 (by rw [jC,h2,bj] <;> rfl)
 obtain ⟨_,H3,c3,bq,aM,fq⟩:=eL (Kw (H2.n+0) (rd x3) 17 s (ar.news (g6 Nm)) (Zw▸(aR (g6 Nm) H2 0 _ rfl)) (by decide))
 refine ac 0 c2<|?_
 rcases fq with ⟨rfl,ec⟩ |⟨rfl,ec⟩
 ·exact ac 4 c3<|af 2 U H3 (by rw [jC,h2,bj,ec] <;> rfl)
 obtain ⟨_,_,H4,eg,ee,cu,jr⟩:=(adl s (gT iG s 0) _ 0 _ aM J J J rfl (.inl rfl) rfl).code
 refine ac 4 c3<|?_
 rcases jr with ⟨rfl,rfl,lh,tM⟩ |⟨rfl,rfl,lh⟩
 ·exact bx 2 eg<|af 1 aw H4 (by rw [jC,h2,bj,ec,Y7 J (tM.resolve_left J) lh] <;> rfl)
 exact bx 2 eg<|af 0 U H4 (by rw [jC,h2,bj,ec,Y6 lh] <;> rfl)
theorem F7 (s:ByteArray):∀{H:Z},aa E G H→bF E 44 [.string s] H (.ret (.bool (jC s))) H []:=by
 obtain ⟨_,_,c,_,_,rfl⟩:=adm s eH
 exact fun y=>eh (et rfl) (.ground rfl) c y
abbrev fS (s:ByteArray) (at_ op wr:Int):List Value:=[.string s,M at_,M op,M wr]
abbrev lz (s:ByteArray) (at_ op wr:Int):dL:=.cells (fS s at_ op wr) 119 false
abbrev Bg (v:Value):Prop:=∃(a:Int) (pb:Option Addr) (nb cb:Nat) (pk:Option Addr) (aj ax:Nat),v=.agg #[ab a,.slice pb nb cb,.slice pk aj ax]
abbrev Bh (s:ByteArray) (p:Nat) (at_ st:Int) (F:Option (Int×Int)) (v:Value) (H':Z):Prop:=
 (∃(at' op':Int),Bg v∧H'.get p=some (lz s at' op' 0)∧F=some (at',op')∧at_+st≤at'∧at'≤s.size)∨
 (∃(at' op' wr':Int),Bg v∧H'.get p=some (lz s at' op' wr')∧F=none∧0<wr'∧at_≤at'∧at'≤s.size)
def vq (s:ByteArray) (n:Nat):Prop:=∀(p:Nat) (at_ op:Int) {H:Z},aa E G H→H.get p=some (lz s at_ op 0)→G.n≤p→(s.size:Int)<100000→0≤at_→at_≤s.size→((s.size:Int)-at_).toNat<n→
    aV E G 79 [.pointer (some ⟨p,0,none⟩)] H [p] (Bh s p at_ 0 (nO s at_ op))
structure kM (xs:List Value):Prop where
 len:xs.length=256
 get:∀ i,i<256→∃ b:Bool,xs[i]?=some (.bool b)
theorem kM.new:kM (List.replicate 256 U):=⟨List.length_replicate,fun j h=>⟨false,by rw [List.getElem?_replicate,if_pos h]⟩⟩
theorem kM.set {xs:List Value} (h:kM xs) (i:Nat) (b:Bool):kM (xs.set i (.bool b)):=⟨by simp [h.len],fun j h1=>by
 rw [List.getElem?_set]
 by_cases e:i=j
 ·subst e;exact ⟨b,by simp [h.len,h1]⟩
 ·rw [if_neg e];exact h.get j h1⟩
theorem Th {H:Z} {a o:Nat} {xs:List Value} (hl:kM xs) (g:H.get a=some (O xs 4)) (h1:o<256):∃ b:Bool,al E 4 a o H=some (.bool b):=by
 obtain ⟨b,hb⟩:=hl.get o h1
 exact ⟨b,cH Mc g hb⟩
theorem D3 {H:Z} {a o:Nat} {xs:List Value} {x:Bool} (hl:kM xs) (g:H.get a=some (O xs 4)) (h1:o<256):bu E 4 a o (.bool x) H=some (H.set a (O (xs.set o (.bool x)) 4)):=st RI g (by
 have:Nat.ble (o+1) xs.length=true:=Nat.ble_eq_true_of_le (by rw [hl.len];omega)
 show (true&&_)=true
 rw [this];rfl) (by
 show splice xs o [.bool x]=_
 rw [Gv _ _ _ (by rw [hl.len];exact h1)])
theorem A1 (s:ByteArray) (i:Int):(M (IntKind.i64.wrap (ad s i)):Value)=M (ad s i):=by
 have:=jl s i
 have:=jc s i
 rw [nE J J]
theorem MA {t:ByteArray} {i:Int} (h0:0≤i) (h:i<t.size):(t.data.toList.map fun b=>(b.toNat:Int))[i.toNat]?=some (ad t i):=by
 have h1:i.toNat<t.data.size:=by have:t.data.size=t.size:=rfl;omega
 rw [List.getElem?_map,Array.getElem?_toList,ad,Array.getElem?_eq_getElem h1];rfl
theorem Td (t:ByteArray):(t.data.toList.map fun b=>(b.toNat:Int)).length=t.size:=by simp
theorem Pn (c a:Int) (l:List Int):fe c (a::l)=((c==a)||fe c l):=rfl
theorem NC {a b:Int} {r:Bool} (h:(a==b)=r):(b==a)=r:=by rw [← h,Bool.eq_iff_iff,beq_iff_eq,beq_iff_eq];exact eq_comm
theorem qi {c d:Int} (h:c=d):fe c [d]=true:=by subst h;simp [fe]
def xS (s:ByteArray) (i:Int):Option Int:=match kR s i with
 |none=>none
 |some a=>nT s a
theorem IV {s:ByteArray} {i:Int} (h:kR s i=none):xS s i=none:=by rw [xS,h]
theorem Ok {s:ByteArray} {i a:Int} (h:kR s i=some a):xS s i=nT s a:=by rw [xS,h]
theorem M0 {s:ByteArray} {i j:Int} (hj:(if i<s.size∧fe (ad s i) [94]=true then i+1 else i)=j):nS s i=xS s j:=by rw [nS,hj];rfl
theorem abs {c d:Int} (h:fe c [d]=true):c=d:=by simpa [fe] using h
theorem r0 {P:Prop} {c d:Int} (h:¬ (P∧c=d)):¬ (P∧fe c [d]=true):=fun e=>h ⟨e.1,abs e.2⟩
def Es (s:ByteArray) (i x:Int):Option Int:=if x=0 then xS s i else nT s i
theorem BD {s:ByteArray} {i x:Int} {R:Option Int} (h:Es s i x=R) (h0:x=0):xS s i=R:=(if_pos h0).symm.trans h
theorem zE {s:ByteArray} {i x:Int} {R:Option Int} (h:Es s i x=R) (h0:x≠0):nT s i=R:=(if_neg h0).symm.trans h
theorem Et {s:ByteArray} {i x:Int} {R:Option Int} (h:nT s i=R) (h0:x≠0):Es s i x=R:=(if_neg h0).trans h
theorem JJ {c:Int} (h:c=42∨c=43∨c=63):fe c [42,43,63]=true:=by simpa [fe] using h
theorem abt {c:Int} (h:fe c [42,43,63]=true):c=42∨c=43∨c=63:=by simpa [fe] using h
theorem Fg {c:Int} (h:c=124∨c=41):fe c [124,41]=true:=by simpa [fe] using h
theorem Fh {c:Int} (h:¬ (c=124∨c=41)):¬ fe c [124,41]=true:=fun e=>h (by simpa [fe] using e)
structure hP where
 (a:Int) (pb:Option Addr) (nb cb:Nat) (pk:Option Addr) (aj ax:Nat)
def oO (l:List hP):List Value:=l.flatMap fun x=>[ab x.a,.slice x.pb x.nb x.cb,.slice x.pk x.aj x.ax]
theorem Ao:∀ l,(oO l).length=3*l.length
 |[]=>rfl
 |x::l=>by
  have:=Ao l
  simp only [oO,List.flatMap_cons,List.length_append,dX,e3] at this ⊢
  omega
theorem FO (l:List hP) (a:Int) (pb:Option Addr) (nb cb:Nat) (pk:Option Addr) (aj ax:Nat):((oO l).drop 0).take (l.length*3)++[ab a,.slice pb nb cb,.slice pk aj ax]=oO (l++[⟨a,pb,nb,cb,pk,aj,ax⟩]):=by
 rw [List.drop_zero,List.take_of_length_le (by rw [Ao];omega)]
 simp [oO]
theorem FP (l:List hP) (a:Int) (pb:Option Addr) (nb cb:Nat) (pk:Option Addr) (aj ax:Nat):(l++[(⟨a,pb,nb,cb,pk,aj,ax⟩:hP)]).length=l.length+1:=by simp
noncomputable def VJ:Code:=cw [1,0,1,0,0] (cx Tryz.f131)
theorem aeQ (c:Int) (t:ByteArray) (R:Bool):∀(m:Nat) (ah:Int) (H:Z),aa E G H→(hs:(t.size:Int)<100000)→(x0:0≤ah)→(hR:fe c ((t.data.toList.map fun b=>(b.toNat:Int)).drop ah.toNat)=R)→((t.size:Int)-ah).toNat=m→
  bV E G 17 VJ [(0,ab c),(1,.string t),(5,M ah)] H [] (fun x T H'=>(x=(.exit 0)∧T=aP []∧(R=false))∨(x=.ret∧T=aP [(4,aw)]∧(R=true))):=by
 refine dJ fun m ih=>?_
 intro ah H y hs x0 hR hm
 refine cN y ?_
 refine aD 3 (ah<(t.size:Int)) ?_ ?_ <;> intro h1 q1
 ·refine aG 2 ah (t.size:Int)<|aY 1 (ad t ah) c ?_ ?_ <;> intro h2 cv
  ·exact cF 1 [(4,aw)] .ret H (.inr ⟨rfl,rfl,sK (F:=fe c) (Pn c) (MA J J) hR (NC h2)⟩)
  exact aH 1 (ah+1)<|du 1 [(0,ab c),(1,.string t),(5,M (ah+1))] H (ih _ J (ah+1) _ y hs J (by rw [gp J];exact sL (F:=fe c) (Pn c) (MA J J) hR (NC h2)) rfl)
 exact cF 0 [] (.exit 0) H (.inl ⟨rfl,rfl,sJ (F:=fe c) rfl hR (by rw [Td];omega)⟩)
theorem adH (c:Int) (t:ByteArray) {H:Z} (y:aa E G H) (hs:(t.size:Int)<100000):aV E G 131 [ab c,.string t] H [] (fun v H'=>v=(.bool (tr t c))):=by
 refine bB Tryz.f131 y ?_
 obtain ⟨_,_,H1,c1,ak,y1,bE⟩:=(aeQ c t (tr t c) _ 0 _ y hs J rfl rfl).code
 rcases bE with ⟨rfl,rfl,aI⟩ |⟨rfl,rfl,aI⟩
 ·exact bx 2 c1<|af 1 U H1 (by rw [aI])
 exact bx 2 c1<|af 0 aw H1 (by rw [aI])
theorem Ga (c:Int) (t:ByteArray) (hs:(t.size:Int)<100000):∀{H:Z},aa E G H→bF E 131 [ab c,.string t] H (.ret (.bool (tr t c))) H []:=by
 obtain ⟨_,_,c,_,_,rfl⟩:=adH c t eH hs
 exact fun y=>eh (et rfl) (.ground rfl) c y
theorem AC (p:Nat) (s:ByteArray) (at_:Int) (op:Int) {H:Z} (y:aa E G H) (kp:H.get p=some (lz s at_ op 0)) (ce:G.n≤p) (hs:(s.size:Int)<100000) (a0:0≤at_) (a1:at_≤s.size):aV E G 109 [pt p 0] H [] (fun v H'=>(v=.tuple #[ab 0,U]∧¬ at_<s.size)∨(v=.tuple #[ab (ad s at_),aw]∧at_<s.size)):=by
 refine bB Tryz.f109 y ?_
 rcases df (decide (at_≥(s.size:Int))) with h1 |h1
 ·have q1:=fD h1
  exact aE [am 1]<|Y 3 (ag 3 av kp)<|Y 5 (ag 1 av kp)<|Y 3 (ag 0 bA kp)<|ay 1 h1<|af 3 (.tuple #[ab 0,U]) H (.inl ⟨rfl,J⟩)
 have q1:=fM h1
 exact aE [am 1]<|Y 3 (ag 3 av kp)<|Y 5 (ag 1 av kp)<|Y 3 (ag 0 bA kp)<|ay 1 h1<|aE [am 0]<|Y 3 (ag 0 bA kp)<|Y 3 (ag 1 av kp)<|aG 0 at_ (s.size:Int)<|af 2 (.tuple #[ab (ad s at_),aw]) H (.inr ⟨rfl,J⟩)
theorem Kz (p:Nat) (s:ByteArray) (at_:Int) (op:Int) (wr:Int) {H:Z} (y:aa E G H) (kp:H.get p=some (lz s at_ op wr)) (ce:G.n≤p) (hs:(s.size:Int)<100000) (a0:0≤at_) (a1:at_≤s.size) (w0:0<wr):aV E G 109 [pt p 0] H [] (fun v H'=>v=.tuple #[ab 0,U]):=by
 refine bB Tryz.f109 y ?_
 exact aE [am 1]<|Y 3 (ag 3 av kp)<|ay 0 (decide_eq_true J:(decide (wr>0))=true)<|af 4 (.tuple #[ab 0,U]) H rfl
theorem tI (p:Nat) (s:ByteArray) (at_:Int) (op:Int) (c:Int) {H:Z} (y:aa E G H) (kp:H.get p=some (lz s at_ op 0)) (ce:G.n≤p) (hs:(s.size:Int)<100000) (a0:0≤at_) (a1:at_≤s.size):aV E G 90 [pt p 0,ab c] H [] (fun v H'=>(v=U∧¬ (at_<s.size∧ad s at_=c))∨(v=aw∧at_<s.size∧ad s at_=c)):=by
 refine bB Tryz.f90 y ?_
 obtain ⟨_,H1,c1,ak,y1,bE⟩:=AC p s at_ op y kp J hs J J
 rcases bE with ⟨rfl,Ax⟩ |⟨rfl,Ko⟩
 ·exact ac 2 c1<|af 9 U H1 (.inl ⟨rfl,J⟩)
 refine ac 2 c1<|aY 9 (ad s at_) c ?_ ?_ <;> intro h2 cv
 ·exact af 2 aw H1 (.inr ⟨rfl,J,J⟩)
 exact af 2 U H1 (.inl ⟨rfl,J⟩)
theorem C8 (p:Nat) (s:ByteArray) (at_:Int) (op:Int) (wr:Int) (c:Int) {H:Z} (y:aa E G H) (kp:H.get p=some (lz s at_ op wr)) (ce:G.n≤p) (hs:(s.size:Int)<100000) (a0:0≤at_) (a1:at_≤s.size) (w0:0<wr):aV E G 90 [pt p 0,ab c] H [] (fun v H'=>v=U):=by
 refine bB Tryz.f90 y ?_
 obtain ⟨_,H1,c1,ak,y1,rfl⟩:=Kz p s at_ op wr y kp J hs J J J
 exact ac 2 c1<|af 9 U H1 rfl
theorem F9 (p:Nat) (s:ByteArray) (at_:Int) (op:Int) {H:Z} (y:aa E G H) (kp:H.get p=some (lz s at_ op 0)) (ce:G.n≤p) (hs:(s.size:Int)<100000) (a0:0≤at_) (a1:at_≤s.size):aV E G 156 [pt p 0] H [p] (fun v H'=>(∃(c at':Int),v=M c∧H'.get p=some (lz s at' op 0)∧ko s at_=some (at',c)∧0≤c∧c<256∧at_<at'∧at'≤s.size)∨(∃(at' wr':Int),v=M 0∧H'.get p=some (lz s at' op wr')∧ko s at_=none∧0<wr'∧at_≤at'∧at'≤s.size)):=by
 refine bB Tryz.f156 y ?_
 have gH:=y.wf.lt kp
 obtain ⟨_,H1,c1,ak,y1,bE⟩:=AC p s at_ op y kp J hs J J
 rcases bE with ⟨rfl,Ax⟩ |⟨rfl,Ko⟩
 ·have c8:H.n+0≤H1.n:=ak.n
  have bZ:=y.kept ak aq kp
  obtain ⟨aK,e2⟩:∃ ao,ao=H1.set p (O (fS s at_ op 2) 119):=⟨_,rfl⟩
  have cV:=bz e2
  exact ac 2 c1<|aB 16 (stx 3 (M 2) dK bZ e2)<|bf 1 (M 0) aK [p] aW aZ (.inr ⟨at_,2,rfl,cV,Pb J,J,J,J⟩)
 have c8:H.n+0≤H1.n:=ak.n
 refine ac 2 c1<|aY 8 (ad s at_) 92 ?_ ?_ <;> intro h2 cv
 ·have bZ:=y.kept ak aq kp
  obtain ⟨aK,e2⟩:∃ ao,ao=H1.set p (O (fS s (at_+1) op 0) 119):=⟨_,rfl⟩
  have ar:aa E G aK:=e2▸y1.set _ J J
  have cB:aK.n=H1.n+0:=by rw [e2,Z.cI] <;> rfl
  have cV:=bz e2
  obtain ⟨_,H3,c3,bq,aM,fq⟩:=AC p s (at_+1) op ar cV J hs J J
  refine Y 4 (ag 1 av bZ)<|aH 0 (at_+1)<|aB 2 (stx 1 (M (at_+1)) dK bZ e2)<|?_
  rcases fq with ⟨rfl,ai3⟩ |⟨rfl,ai6⟩
  ·have ek:aK.n+0≤H3.n:=bq.n
   have eU:=ar.kept bq aq cV
   obtain ⟨b6,aN⟩:∃ ao,ao=H3.set p (O (fS s (at_+1) op 2) 119):=⟨_,rfl⟩
   have eG:=bz aN
   exact ac 1 c3<|aB 10 (stx 3 (M 2) dK eU aN)<|bf 1 (M 0) b6 [p,p] aW aZ (.inr ⟨at_+1,2,rfl,eG,Pd J J J,J,J,J⟩)
  have ek:aK.n+0≤H3.n:=bq.n
  have eU:=ar.kept bq aq cV
  obtain ⟨b6,aN⟩:∃ ao,ao=H3.set p (O (fS s ((at_+1)+1) op 0) 119):=⟨_,rfl⟩
  have eG:=bz aN
  exact ac 1 c3<|Y 10 (ag 1 av eU)<|aH 0 ((at_+1)+1)<|aB 2 (stx 1 (M ((at_+1)+1)) dK eU aN)<|aE [am 0]<|az [.as (M (ad s (at_+1)))] (show ((M (IntKind.i64.wrap (ad s (at_+1)))):Value)=(M (ad s (at_+1))) from A1 s (at_+1))<|bf 1 (M (ad s (at_+1))) b6 [p,p] aW aZ (.inl ⟨_,at_+2,rfl,(by rw [show at_+2=at_+1+1 by omega];exact eG),Pc J J,jl _ _,jc _ _,J,J⟩)
 cases h3:(tr ⟨#[93,91,94,45]⟩ (ad s at_)) with
 |true=>
  have bZ:=y.kept ak aq kp
  obtain ⟨aK,e2⟩:∃ ao,ao=H1.set p (O (fS s at_ op 2) 119):=⟨_,rfl⟩
  have cV:=bz e2
  exact ac 4 (cP h3 (Ga (ad s at_) ⟨#[93,91,94,45]⟩ (by decide) y1))<|aB 7 (stx 3 (M 2) dK bZ e2)<|bf 1 (M 0) aK [p] aW aZ (.inr ⟨at_,2,rfl,cV,Pa J h3,J,J,J⟩)
 |false=>
  have bZ:=y.kept ak aq kp
  obtain ⟨aK,e2⟩:∃ ao,ao=H1.set p (O (fS s (at_+1) op 0) 119):=⟨_,rfl⟩
  have cV:=bz e2
  exact ac 4 (cP h3 (Ga (ad s at_) ⟨#[93,91,94,45]⟩ (by decide) y1))<|Y 6 (ag 1 av bZ)<|aH 0 (at_+1)<|aB 2 (stx 1 (M (at_+1)) dK bZ e2)<|aE [am 0]<|az [.as (M (ad s at_))] (show ((M (IntKind.i64.wrap (ad s at_))):Value)=(M (ad s at_)) from A1 s at_)<|bf 1 (M (ad s at_)) aK [p] aW aZ (.inl ⟨_,at_+1,rfl,cV,Pe J (fun h=>absurd (h.symm.trans h3) (by decide)) J,jl _ _,jc _ _,J,J⟩)
noncomputable def UZ:Code:=cw [1,1,0,1,0,0] (cx Tryz.f132)
noncomputable abbrev zl q:=([ab 91,sc q 0 256 513,.slice none 0 0]:List Value)
theorem acd (nb:Nat) (rb:Nat) (q:Nat) (hi:Int):∀(m:Nat) (bD:Int) (xs:List Value) (H:Z),aa E G H→(bp:H.get nb=some (O (zl q) 100))→(b9:H.get q=some (O xs 4))→(hb:kM xs)→(x0:0≤bD)→(hh:hi≤255)→(eJ:G.n≤q)→(dq:nb≠q)→(256-bD).toNat=m→
  bV E G 20 UZ [(1,M hi),(4,pt rb 0),(5,pt nb 0),(6,M bD)] H [q] (fun x T H'=>(x=(.exit 0)∧T=aP [(4,pt rb 0),(5,pt nb 0)])):=by
 refine dJ fun m ih=>?_
 intro bD xs H y bp b9 hb x0 hh eJ dq hm
 refine cN y ?_
 have qP:=y.wf.lt b9
 refine aD 2 (bD≤hi) ?_ ?_ <;> intro h1 q1
 ·obtain ⟨aU,e1⟩:∃ ao,ao=H.set q (O (xs.set (0+bD.toNat*1) aw) 4):=⟨_,rfl⟩
  have y1:aa E G aU:=e1▸y.set _ J J
  have eY:=bz e1
  have cS:=bW e1 J bp
  exact Y 1 (ag 1 y8 bp)<|aG 1 bD (256:Int)<|aB 0 ((D3 hb b9 J).trans (congrArg some e1.symm):bu E 4 q (0+bD.toNat*1) aw H=some aU)<|aH 1 (bD+1)<|dY 1 [(1,M hi),(4,pt rb 0),(5,pt nb 0),(6,M (bD+1))] aU [q] aW (ih _ J (bD+1) (xs.set (0+bD.toNat*1) aw) _ y1 cS eY (kM.set hb (0+bD.toNat*1) true) J hh eJ dq rfl)
 exact c5 0 [(4,pt rb 0),(5,pt nb 0)] (.exit 0) H [] aL aZ ⟨rfl,rfl⟩
noncomputable abbrev dI:=([ab 0,.slice none 0 0,.slice none 0 0]:List Value)
noncomputable abbrev oy (H:Z):=([ab 91,sc (H.n+1) 0 256 513,.slice none 0 0]:List Value)
theorem Ky (lo:Int) (hi:Int) {H:Z} (y:aa E G H) (h0:0≤lo) (h1:hi≤255):aV E G 132 [M lo,M hi] H [] (fun v H'=>Bg v):=by
 have g0:=y.n
 refine bB Tryz.f132 y ?_
 obtain ⟨_,_,H1,c1,ak,y1,rfl,rfl⟩:=(acd (H.n+2) (H.n+0) (H.n+1) hi _ lo (List.replicate 256 U) _ (y.news [O dI 100,O (List.replicate 256 U) 4,O (oy H) 100]) (aR [O dI 100,O (List.replicate 256 U) 4,O (oy H) 100] H 2 _ rfl) (aR [O dI 100,O (List.replicate 256 U) 4,O (oy H) 100] H 1 _ rfl) kM.new J J J J rfl).code
 have c8:=ya ak
 have aS:=(y.news [O dI 100,O (List.replicate 256 U) 4,O (oy H) 100]).kept ak bU (aR [O dI 100,O (List.replicate 256 U) 4,O (oy H) 100] H 0 _ rfl)
 have lN:=(y.news [O dI 100,O (List.replicate 256 U) 4,O (oy H) 100]).kept ak bU (aR [O dI 100,O (List.replicate 256 U) 4,O (oy H) 100] H 2 _ rfl)
 obtain ⟨aK,e2⟩:∃ ao,ao=H1.set (H.n+0) (O (oy H) 100):=⟨_,rfl⟩
 have cB:aK.n=H1.n+0:=by rw [e2,Z.cI] <;> rfl
 have ca:=bz e2
 exact aB 4 (bG cZ rfl rfl rfl rfl:bu E 100 (H.n+2) 0 (.agg (oy H).toArray) (news H [O dI 100,O (List.replicate 256 U) 4,O dI 100])=some (news H [O dI 100,O (List.replicate 256 U) 4,O (oy H) 100]))<|bx 2 c1<|Y 0 (cd fz cZ lN rfl rfl:al E 100 (H.n+2) 0 H1=some (.agg (oy H).toArray))<|aB 0 (stx 0 (.agg (oy H).toArray) cZ aS e2)<|az [] ((cd fz cZ ca rfl rfl):al E 100 (H.n+0) 0 aK=some (.agg (oy H).toArray))<|fI 0 [.agg (oy H).toArray] (.agg (oy H).toArray) aK [H.n+2,H.n+1,H.n+0] aJ aL ⟨_,_,_,_,_,_,_,rfl⟩
noncomputable def Vn:Code:=cw [1,1,1,1,1,0,1,0,0,1,0,0,1,1,1,1,0,0] (cx Tryz.f130)
theorem F6 (p:Nat) (nb:Nat) (rb:Nat) (q:Nat) (s:ByteArray) (at_:Int) (op:Int) (wr:Int) (fO:Bool) (mn:Int) (hi:Int):∀(m:Nat) (b5:Int) (xs:List Value) (H:Z),aa E G H→(kp:H.get p=some (O (fS s at_ op 0) 119))→(bp:H.get nb=some (O (zl q) 100))→(b9:H.get q=some (O xs 4))→(hb:kM xs)→(eJ:G.n≤q)→(ce:G.n≤p)→(d1:nb≠q)→(d2:nb≠p)→(d3:p≠q)→(x0:0≤b5)→(hh:hi≤255)→(256-b5).toNat=m→
  bV E G 134 Vn [(0,pt p 0),(2,pt rb 0),(3,.bool fO),(4,pt nb 0),(5,M mn),(7,M hi),(8,M b5)] H [q] (fun x T H'=>(x=(.exit 2)∧∃(pS:List Value),T=aP [(0,pt p 0),(2,pt rb 0),(3,.bool fO),(4,pt nb 0),(5,M mn)]∧(kM pS∧H'.get q=some (O pS 4)))):=by
 refine dJ fun m ih=>?_
 intro b5 xs H y kp bp b9 hb eJ ce d1 d2 d3 x0 hh hm
 refine cN y ?_
 have qP:=y.wf.lt b9
 refine Y 3 (ag 3 av kp)<|aD 4 (b5≤hi) ?_ ?_ <;> intro h1 q1
 ·obtain ⟨aU,e1⟩:∃ ao,ao=H.set q (O (xs.set (0+b5.toNat*1) aw) 4):=⟨_,rfl⟩
  have y1:aa E G aU:=e1▸y.set _ J J
  have eY:=bz e1
  have bZ:=bW e1 J kp
  have cS:=bW e1 J bp
  exact Y 2 (ag 1 y8 bp)<|aG 1 b5 (256:Int)<|aB 0 ((D3 hb b9 J).trans (congrArg some e1.symm):bu E 4 q (0+b5.toNat*1) aw H=some aU)<|aH 1 (b5+1)<|dY 1 [(0,pt p 0),(2,pt rb 0),(3,.bool fO),(4,pt nb 0),(5,M mn),(7,M hi),(8,M (b5+1))] aU [q] aW (ih _ J (b5+1) (xs.set (0+b5.toNat*1) aw) _ y1 bZ cS eY (kM.set hb (0+b5.toNat*1) true) eJ ce d1 d2 d3 J hh rfl)
 exact c5 1 [(0,pt p 0),(2,pt rb 0),(3,.bool fO),(4,pt nb 0),(5,M mn)] (.exit 2) H [] aL aZ ⟨rfl,xs,rfl,⟨hb,b9⟩⟩
noncomputable def Vo:Code:=cw [1,1,1,1,1,0,1,0,0,1,0,0,1,1,1,1,0,0] (cx Tryz.f130)
theorem AA (p:Nat) (nb:Nat) (rb:Nat) (q:Nat) (s:ByteArray) (at_:Int) (op:Int) (wr:Int) (fO:Bool) (mn:Int) (hi:Int):∀(m:Nat) (b5:Int) (xs:List Value) (H:Z),aa E G H→(kp:H.get p=some (O (fS s at_ op wr) 119))→(bp:H.get nb=some (O (zl q) 100))→(b9:H.get q=some (O xs 4))→(hb:kM xs)→(eJ:G.n≤q)→(ce:G.n≤p)→(d1:nb≠q)→(d2:nb≠p)→(d3:p≠q)→(w0:0<wr)→(256-b5).toNat=m→
  bV E G 134 Vo [(0,pt p 0),(2,pt rb 0),(3,.bool fO),(4,pt nb 0),(5,M mn),(7,M hi),(8,M b5)] H [q] (fun x T H'=>(x=(.exit 2)∧∃(pS:List Value),T=aP [(0,pt p 0),(2,pt rb 0),(3,.bool fO),(4,pt nb 0),(5,M mn)]∧(kM pS∧H'.get q=some (O pS 4)))):=by
 refine dJ fun m ih=>?_
 intro b5 xs H y kp bp b9 hb eJ ce d1 d2 d3 w0 hm
 refine cN y ?_
 exact Y 3 (ag 3 av kp)<|ay 0 (beq_eq_false_iff_ne.2 J:(wr==0)=false)<|c5 2 [(0,pt p 0),(2,pt rb 0),(3,.bool fO),(4,pt nb 0),(5,M mn)] (.exit 2) H [] aL aZ ⟨rfl,xs,rfl,⟨hb,b9⟩⟩
noncomputable def Vp:Code:=cw [1,1,1,1,1,0,1,0,0] (cx Tryz.f130)
theorem QI (p:Nat) (nb:Nat) (rb:Nat) (q:Nat) (s:ByteArray) (op:Int) (fO:Bool) (e5:Int) (R:Option Int):∀(m:Nat) (ah:Int) (at_:Int) (wr:Int) (xs:List Value) (H:Z),aa E G H→(kp:H.get p=some (O (fS s at_ op wr) 119))→(bp:H.get nb=some (O (zl q) 100))→(b9:H.get q=some (O xs 4))→(hb:kM xs)→(eJ:G.n≤q)→(ce:G.n≤p)→(d1:nb≠q)→(d2:nb≠p)→(d3:p≠q)→(hs:(s.size:Int)<100000)→(b0:0≤e5)→(b1:e5≤at_)→(a1:at_≤s.size)→(me:wr=0∨0<wr)→(x0:0≤ah)→(x1:ah≤at_+wr)→(hR:wr=0→Es s at_ ah=R)→(hN:0<wr→R=none)→(hx:ah=0→wr=0)→2*((s.size:Int)-at_).toNat+(1-wr).toNat=m→
  bV E G 134 Vp [(0,pt p 0),(2,pt rb 0),(3,.bool fO),(4,pt nb 0),(5,M ah)] H [p,q] (fun x T H'=>(x=(.exit 0)∧∃(eW jv:Int) (pS:List Value),T=aP [(0,pt p 0),(2,pt rb 0),(3,.bool fO),(4,pt nb 0)]∧(H'.get p=some (lz s eW op jv)∧kM pS∧H'.get q=some (O pS 4)∧e5≤eW∧eW≤s.size∧(jv=0∨0<jv)∧(jv=0→R=some (eW+1)∧eW<s.size)∧(0<jv→R=none)))):=by
 refine dJ fun m ih=>?_
 intro ah at_ wr xs H y kp bp b9 hb eJ ce d1 d2 d3 hs b0 b1 a1 me x0 x1 hR hN hx hm
 refine cN y ?_
 have gH:=y.wf.lt kp
 rcases me with rfl |me
 ·refine Y 3 (ag 3 av kp)<|aY 3 ah 0 ?_ ?_ <;> intro h2 cv
  ·obtain ⟨_,H1,c1,ak,y1,bE⟩:=F9 p s at_ op y kp J hs J J
   rcases bE with ⟨z1,dW,rfl,ei,fk,aiD,aiH,ma,b7⟩ |⟨dW,o6,rfl,ei,fk,hw1,ma,b7⟩
   ·have c8:H.n+0≤H1.n:=ak.n
    obtain ⟨_,H2,c2,aF,ar,cX⟩:=tI p s dW op 45 y1 ei J hs J J
    refine ac 4 c1<|Y 6 (ag 3 av ei)<|?_
    rcases cX with ⟨rfl,Cj⟩ |⟨rfl,xR,zU⟩
    ·have cV:=y1.kept aF aq ei
     have cS:=y.kept ak bU bp
     have ed:=y1.kept aF aq cS
     have eY:=y.kept ak bU b9
     have gC:=y1.kept aF aq eY
     obtain ⟨_,_,H3,c3,bq,aM,rfl,A8,rfl,BL,Cr⟩:=(F6 p nb rb q s dW op 0 fO ah z1 _ z1 xs _ ar cV ed gC hb eJ ce d1 d2 d3 J J rfl).code
     have eU:=ar.kept bq bU cV
     have eo:=ar.kept bq bU ed
     exact ac 3 c2<|bx 3 c3<|aH 1 (ah+1)<|dY 1 [(0,pt p 0),(2,pt rb 0),(3,.bool fO),(4,pt nb 0),(5,M (ah+1))] H3 [p,q] aW (ih _ J (ah+1) dW 0 A8 _ aM eU eo Cr BL eJ ce d1 d2 d3 hs b0 J J J J J (fun _=>Et ((Ok (I1 fk (r0 Cj))).symm.trans (BD (hR rfl) J)) J) (fun h=>absurd h J) (fun h=>by omega) rfl)
    have cB:H1.n+0≤H2.n:=aF.n
    have cV:=y1.kept aF aq ei
    obtain ⟨cf,bc⟩:∃ ao,ao=H2.set p (O (fS s (dW+1) op 0) 119):=⟨_,rfl⟩
    have aM:aa E G cf:=bc▸ar.set _ J J
    have ek:cf.n=H2.n+0:=by rw [bc,Z.cI] <;> rfl
    have eU:=bz bc
    obtain ⟨_,H4,eg,ee,cu,jr⟩:=F9 p s (dW+1) op aM eU J hs J J
    refine ac 3 c2<|Y 4 (ag 1 av cV)<|aH 0 (dW+1)<|aB 2 (stx 1 (M (dW+1)) dK cV bc)<|?_
    rcases jr with ⟨Jx,k6,rfl,lf,px,aiF,aiJ,BH,ld⟩ |⟨k6,Lz,rfl,lf,px,aim,BH,ld⟩
    ·have gm:cf.n+0≤H4.n:=ee.n
     refine ac 1 eg<|Y 4 (ag 3 av lf)<|aD 4 (Jx<z1) ?_ ?_ <;> intro h6 di
     ·obtain ⟨d6,bJ⟩:∃ ao,ao=H4.set p (O (fS s (k6-1) op 0) 119):=⟨_,rfl⟩
      have dQ:aa E G d6:=bJ▸cu.set _ J J
      have iR:d6.n=H4.n+0:=by rw [bJ,Z.cI] <;> rfl
      have e8:=bz bJ
      obtain ⟨gV,eF⟩:∃ ao,ao=d6.set p (O (fS s (k6-1) op 2) 119):=⟨_,rfl⟩
      have gN:aa E G gV:=eF▸dQ.set _ J J
      have il:=bz eF
      have cS:=y.kept ak bU bp
      have ed:=y1.kept aF aq cS
      have eo:=bW bc J ed
      have fo:=aM.kept ee bU eo
      have i6:=bW bJ J fo
      have qL:=bW eF J i6
      have eY:=y.kept ak bU b9
      have gC:=y1.kept aF aq eY
      have hM:=bW bc J gC
      have rT:=aM.kept ee bU hM
      have xY:=bW bJ J rT
      have Jf:=bW eF J xY
      obtain ⟨_,_,mD,ov,og,oh,rfl,ahr,rfl,Xt,ZL⟩:=(AA p nb rb q s (k6-1) op 2 fO ah Jx _ z1 xs _ gN il qL Jf hb eJ ce d1 d2 d3 J rfl).code
      have pA:=gN.kept og bU il
      have wa:=gN.kept og bU qL
      exact Y 4 (ag 1 av lf)<|aH 0 (k6-1)<|aB 2 (stx 1 (M (k6-1)) dK lf bJ)<|aB 3 (stx 3 (M 2) dK e8 eF)<|bx 2 ov<|aH 1 (ah+1)<|dY 1 [(0,pt p 0),(2,pt rb 0),(3,.bool fO),(4,pt nb 0),(5,M (ah+1))] mD [p,p,p,p,p,q] aW (ih _ J (ah+1) (k6-1) 2 ahr _ oh pA wa ZL Xt eJ ce d1 d2 d3 hs b0 J J J J J (fun h=>absurd h J) (fun _=>(BD (hR rfl) J).symm.trans (IV (EZ fk xR (qi zU) px J))) (fun h=>by omega) rfl)
     have cS:=y.kept ak bU bp
     have ed:=y1.kept aF aq cS
     have eo:=bW bc J ed
     have fo:=aM.kept ee bU eo
     have eY:=y.kept ak bU b9
     have gC:=y1.kept aF aq eY
     have hM:=bW bc J gC
     have rT:=aM.kept ee bU hM
     obtain ⟨_,_,H5,fF,ej,dQ,rfl,tW,rfl,If,Jr⟩:=(F6 p nb rb q s k6 op 0 fO ah Jx _ z1 xs _ cu lf fo rT hb eJ ce d1 d2 d3 J J rfl).code
     have e8:=cu.kept ej bU lf
     have i6:=cu.kept ej bU fo
     exact bx 3 fF<|aH 1 (ah+1)<|dY 1 [(0,pt p 0),(2,pt rb 0),(3,.bool fO),(4,pt nb 0),(5,M (ah+1))] H5 [p,p,p,q] aW (ih _ J (ah+1) k6 0 tW _ dQ e8 i6 Jr If eJ ce d1 d2 d3 hs b0 J J J J J (fun _=>Et ((Ok (I2 fk xR (qi zU) px J)).symm.trans (BD (hR rfl) J)) J) (fun h=>absurd h J) (fun h=>by omega) rfl)
    have cS:=y.kept ak bU bp
    have ed:=y1.kept aF aq cS
    have eo:=bW bc J ed
    have fo:=aM.kept ee bU eo
    have eY:=y.kept ak bU b9
    have gC:=y1.kept aF aq eY
    have hM:=bW bc J gC
    have rT:=aM.kept ee bU hM
    obtain ⟨_,_,H5,fF,ej,dQ,rfl,tW,rfl,If,Jr⟩:=(AA p nb rb q s k6 op Lz fO ah 0 _ z1 xs _ cu lf fo rT hb eJ ce d1 d2 d3 J rfl).code
    have e8:=cu.kept ej bU lf
    have i6:=cu.kept ej bU fo
    exact ac 1 eg<|Y 4 (ag 3 av lf)<|ay 0 (beq_eq_false_iff_ne.2 J:(Lz==0)=false)<|bx 4 fF<|aH 1 (ah+1)<|dY 1 [(0,pt p 0),(2,pt rb 0),(3,.bool fO),(4,pt nb 0),(5,M (ah+1))] H5 [p,p,p,q] aW (ih _ J (ah+1) k6 Lz tW _ dQ e8 i6 Jr If eJ ce d1 d2 d3 hs b0 J J J J J (fun h=>absurd h J) (fun _=>(BD (hR rfl) J).symm.trans (IV (I3 fk xR (qi zU) px))) (fun h=>by omega) rfl)
   have cS:=y.kept ak bU bp
   have eY:=y.kept ak bU b9
   obtain ⟨_,_,H2,c2,aF,ar,rfl,ahq,rfl,BK,ZK⟩:=(AA p nb rb q s dW op o6 fO ah 0 _ 0 xs _ y1 ei cS eY hb eJ ce d1 d2 d3 J rfl).code
   have cV:=y1.kept aF bU ei
   have ed:=y1.kept aF bU cS
   exact ac 4 c1<|Y 6 (ag 3 av ei)<|ay 0 (beq_eq_false_iff_ne.2 J:(o6==0)=false)<|bx 4 c2<|aH 1 (ah+1)<|dY 1 [(0,pt p 0),(2,pt rb 0),(3,.bool fO),(4,pt nb 0),(5,M (ah+1))] H2 [p,q] aW (ih _ J (ah+1) dW o6 ahq _ ar cV ed ZK BK eJ ce d1 d2 d3 hs b0 J J J J J (fun h=>absurd h J) (fun _=>(BD (hR rfl) J).symm.trans (IV (I0 fk))) (fun h=>by omega) rfl)
  obtain ⟨_,H1,c1,ak,y1,bE⟩:=tI p s at_ op 93 y kp J hs J J
  rcases bE with ⟨rfl,rN⟩ |⟨rfl,td,v7⟩
  ·have c8:H.n+0≤H1.n:=ak.n
   have bZ:=y.kept ak aq kp
   obtain ⟨_,H2,c2,aF,ar,cX⟩:=F9 p s at_ op y1 bZ J hs J J
   refine ac 2 c1<|?_
   rcases cX with ⟨z6,gO,rfl,fi,iP,aiE,aiI,oD,bj⟩ |⟨gO,vk,rfl,fi,iP,Oe,oD,bj⟩
   ·have cB:H1.n+0≤H2.n:=aF.n
    obtain ⟨_,H3,c3,bq,aM,fq⟩:=tI p s gO op 45 ar fi J hs J J
    refine ac 4 c2<|Y 6 (ag 3 av fi)<|?_
    rcases fq with ⟨rfl,IY⟩ |⟨rfl,Ch,EW⟩
    ·have eU:=ar.kept bq aq fi
     have cS:=y.kept ak aq bp
     have ed:=y1.kept aF bU cS
     have eo:=ar.kept bq aq ed
     have eY:=y.kept ak aq b9
     have gC:=y1.kept aF bU eY
     have hM:=ar.kept bq aq gC
     obtain ⟨_,_,H4,eg,ee,cu,rfl,vp,rfl,Ie,Jq⟩:=(F6 p nb rb q s gO op 0 fO ah z6 _ z6 xs _ aM eU eo hM hb eJ ce d1 d2 d3 J J rfl).code
     have eG:=aM.kept ee bU eU
     have fo:=aM.kept ee bU eo
     exact ac 3 c3<|bx 3 eg<|aH 1 (ah+1)<|dY 1 [(0,pt p 0),(2,pt rb 0),(3,.bool fO),(4,pt nb 0),(5,M (ah+1))] H4 [p,q] aW (ih _ J (ah+1) gO 0 vp _ cu eG fo Jq Ie eJ ce d1 d2 d3 hs b0 J J J J J (fun _=>Et ((HA (r0 rN) (I1 iP (r0 IY))).symm.trans (zE (hR rfl) J)) J) (fun h=>absurd h J) (fun h=>by omega) rfl)
    have ek:H2.n+0≤H3.n:=bq.n
    have eU:=ar.kept bq aq fi
    obtain ⟨b6,aN⟩:∃ ao,ao=H3.set p (O (fS s (gO+1) op 0) 119):=⟨_,rfl⟩
    have cu:aa E G b6:=aN▸aM.set _ J J
    have gm:b6.n=H3.n+0:=by rw [aN,Z.cI] <;> rfl
    have eG:=bz aN
    obtain ⟨_,H5,fF,ej,dQ,ny⟩:=F9 p s (gO+1) op cu eG J hs J J
    refine ac 3 c3<|Y 4 (ag 1 av eU)<|aH 0 (gO+1)<|aB 2 (stx 1 (M (gO+1)) dK eU aN)<|?_
    rcases ny with ⟨Jy,rp,rfl,uF,EO,aiG,aiK,Xk,BJ⟩ |⟨rp,LA,rfl,uF,EO,ain,Xk,BJ⟩
    ·have iR:b6.n+0≤H5.n:=ej.n
     refine ac 1 fF<|Y 4 (ag 3 av uF)<|aD 4 (Jy<z6) ?_ ?_ <;> intro h7 gM
     ·obtain ⟨gV,eF⟩:∃ ao,ao=H5.set p (O (fS s (rp-1) op 0) 119):=⟨_,rfl⟩
      have gN:aa E G gV:=eF▸dQ.set _ J J
      have qX:gV.n=H5.n+0:=by rw [eF,Z.cI] <;> rfl
      have il:=bz eF
      obtain ⟨pW,la⟩:∃ ao,ao=gV.set p (O (fS s (rp-1) op 2) 119):=⟨_,rfl⟩
      have oh:aa E G pW:=la▸gN.set _ J J
      have pA:=bz la
      have cS:=y.kept ak aq bp
      have ed:=y1.kept aF bU cS
      have eo:=ar.kept bq aq ed
      have fo:=bW aN J eo
      have i6:=cu.kept ej bU fo
      have qL:=bW eF J i6
      have wa:=bW la J qL
      have eY:=y.kept ak aq b9
      have gC:=y1.kept aF bU eY
      have hM:=ar.kept bq aq gC
      have rT:=bW aN J hM
      have xY:=cu.kept ej bU rT
      have Jf:=bW eF J xY
      have Zt:=bW la J Jf
      obtain ⟨_,_,Be,zh,A3,LD,rfl,LS,rfl,Xu,ZM⟩:=(AA p nb rb q s (rp-1) op 2 fO ah Jy _ z6 xs _ oh pA wa Zt hb eJ ce d1 d2 d3 J rfl).code
      have Co:=oh.kept A3 bU pA
      have Zu:=oh.kept A3 bU wa
      exact Y 4 (ag 1 av uF)<|aH 0 (rp-1)<|aB 2 (stx 1 (M (rp-1)) dK uF eF)<|aB 3 (stx 3 (M 2) dK il la)<|bx 2 zh<|aH 1 (ah+1)<|dY 1 [(0,pt p 0),(2,pt rb 0),(3,.bool fO),(4,pt nb 0),(5,M (ah+1))] Be [p,p,p,p,p,q] aW (ih _ J (ah+1) (rp-1) 2 LS _ LD Co Zu ZM Xu eJ ce d1 d2 d3 hs b0 J J J J J (fun h=>absurd h J) (fun _=>(zE (hR rfl) J).symm.trans (Ec (r0 rN) (EZ iP Ch (qi EW) EO J))) (fun h=>by omega) rfl)
     have cS:=y.kept ak aq bp
     have ed:=y1.kept aF bU cS
     have eo:=ar.kept bq aq ed
     have fo:=bW aN J eo
     have i6:=cu.kept ej bU fo
     have eY:=y.kept ak aq b9
     have gC:=y1.kept aF bU eY
     have hM:=ar.kept bq aq gC
     have rT:=bW aN J hM
     have xY:=cu.kept ej bU rT
     obtain ⟨_,_,gF,jd,iW,gN,rfl,LR,rfl,Ig,Js⟩:=(F6 p nb rb q s rp op 0 fO ah Jy _ z6 xs _ dQ uF i6 xY hb eJ ce d1 d2 d3 J J rfl).code
     have il:=dQ.kept iW bU uF
     have qL:=dQ.kept iW bU i6
     exact bx 3 jd<|aH 1 (ah+1)<|dY 1 [(0,pt p 0),(2,pt rb 0),(3,.bool fO),(4,pt nb 0),(5,M (ah+1))] gF [p,p,p,q] aW (ih _ J (ah+1) rp 0 LR _ gN il qL Js Ig eJ ce d1 d2 d3 hs b0 J J J J J (fun _=>Et ((HA (r0 rN) (I2 iP Ch (qi EW) EO J)).symm.trans (zE (hR rfl) J)) J) (fun h=>absurd h J) (fun h=>by omega) rfl)
    have cS:=y.kept ak aq bp
    have ed:=y1.kept aF bU cS
    have eo:=ar.kept bq aq ed
    have fo:=bW aN J eo
    have i6:=cu.kept ej bU fo
    have eY:=y.kept ak aq b9
    have gC:=y1.kept aF bU eY
    have hM:=ar.kept bq aq gC
    have rT:=bW aN J hM
    have xY:=cu.kept ej bU rT
    obtain ⟨_,_,gF,jd,iW,gN,rfl,LR,rfl,Ig,Js⟩:=(AA p nb rb q s rp op LA fO ah 0 _ z6 xs _ dQ uF i6 xY hb eJ ce d1 d2 d3 J rfl).code
    have il:=dQ.kept iW bU uF
    have qL:=dQ.kept iW bU i6
    exact ac 1 fF<|Y 4 (ag 3 av uF)<|ay 0 (beq_eq_false_iff_ne.2 J:(LA==0)=false)<|bx 4 jd<|aH 1 (ah+1)<|dY 1 [(0,pt p 0),(2,pt rb 0),(3,.bool fO),(4,pt nb 0),(5,M (ah+1))] gF [p,p,p,q] aW (ih _ J (ah+1) rp LA LR _ gN il qL Js Ig eJ ce d1 d2 d3 hs b0 J J J J J (fun h=>absurd h J) (fun _=>(zE (hR rfl) J).symm.trans (Ec (r0 rN) (I3 iP Ch (qi EW) EO))) (fun h=>by omega) rfl)
   have cS:=y.kept ak aq bp
   have ed:=y1.kept aF bU cS
   have eY:=y.kept ak aq b9
   have gC:=y1.kept aF bU eY
   obtain ⟨_,_,H3,c3,bq,aM,rfl,A8,rfl,BL,Cr⟩:=(AA p nb rb q s gO op vk fO ah 0 _ 0 xs _ ar fi ed gC hb eJ ce d1 d2 d3 J rfl).code
   have eU:=ar.kept bq bU fi
   have eo:=ar.kept bq bU ed
   exact ac 4 c2<|Y 6 (ag 3 av fi)<|ay 0 (beq_eq_false_iff_ne.2 J:(vk==0)=false)<|bx 4 c3<|aH 1 (ah+1)<|dY 1 [(0,pt p 0),(2,pt rb 0),(3,.bool fO),(4,pt nb 0),(5,M (ah+1))] H3 [p,q] aW (ih _ J (ah+1) gO vk A8 _ aM eU eo Cr BL eJ ce d1 d2 d3 hs b0 J J J J J (fun h=>absurd h J) (fun _=>(zE (hR rfl) J).symm.trans (Ec (r0 rN) (I0 iP))) (fun h=>by omega) rfl)
  have bZ:=y.kept ak aq kp
  have eY:=y.kept ak aq b9
  exact ac 2 c1<|c5 3 [(0,pt p 0),(2,pt rb 0),(3,.bool fO),(4,pt nb 0)] (.exit 0) H1 [] aL aZ ⟨rfl,at_,0,xs,rfl,⟨bZ,hb,eY,J,J,J,fun _=>⟨(zE (hR rfl) J).symm.trans (M4 td (qi v7)),td⟩,fun h=>absurd h J⟩⟩
 exact Y 3 (ag 3 av kp)<|ay 0 (beq_eq_false_iff_ne.2 J:(wr==0)=false)<|c5 2 [(0,pt p 0),(2,pt rb 0),(3,.bool fO),(4,pt nb 0)] (.exit 0) H [] aL aZ ⟨rfl,at_,wr,xs,rfl,⟨kp,hb,b9,J,J,J,fun h=>absurd h J,fun _=>hN J⟩⟩
noncomputable def Vy:Code:=cw [1,1,1,1,1,1,1,1,0,1,0,0] (cx Tryz.f130)
theorem ady (nb:Nat) (rb:Nat) (q:Nat):∀(m:Nat) (fA:Int) (xs:List Value) (H:Z),aa E G H→(bp:H.get nb=some (O (zl q) 100))→(b9:H.get q=some (O xs 4))→(hb:kM xs)→(eJ:G.n≤q)→(d1:nb≠q)→(x0:0≤fA)→(256-fA).toNat=m→
  bV E G 134 Vy [(2,pt rb 0),(3,aw),(4,pt nb 0),(9,M fA)] H [q] (fun x T H'=>(x=(.exit 4)∧T=aP [(2,pt rb 0),(4,pt nb 0)])):=by
 refine dJ fun m ih=>?_
 intro fA xs H y bp b9 hb eJ d1 x0 hm
 refine cN y ?_
 have qP:=y.wf.lt b9
 refine aD 3 (fA<256) ?_ ?_ <;> intro h1 q1
 ·obtain ⟨DE,vZ⟩:=Th (o:=(0+fA.toNat*1)) hb b9 J
  cases DE with
  |true=>
   obtain ⟨aU,e1⟩:∃ ao,ao=H.set q (O (xs.set (0+fA.toNat*1) U) 4):=⟨_,rfl⟩
   have y1:aa E G aU:=e1▸y.set _ J J
   have eY:=bz e1
   have cS:=bW e1 J bp
   exact aE [am 0]<|Y 1 (ag 1 y8 bp)<|Y 2 (ag 1 y8 bp)<|aG 1 fA (256:Int)<|az [bw aw H] vZ<|aG 1 fA (256:Int)<|aB 0 ((D3 hb b9 J).trans (congrArg some e1.symm):bu E 4 q (0+fA.toNat*1) U H=some aU)<|az [] (dO y b9:cK H aU [q]=true)<|aH 1 (fA+1)<|dY 1 [(2,pt rb 0),(3,aw),(4,pt nb 0),(9,M (fA+1))] aU [q] aW (ih _ J (fA+1) (xs.set (0+fA.toNat*1) U) _ y1 cS eY (kM.set hb (0+fA.toNat*1) false) eJ d1 J rfl)
  |false=>
   obtain ⟨aU,e1⟩:∃ ao,ao=H.set q (O (xs.set (0+fA.toNat*1) aw) 4):=⟨_,rfl⟩
   have y1:aa E G aU:=e1▸y.set _ J J
   have eY:=bz e1
   have cS:=bW e1 J bp
   exact aE [am 0]<|Y 1 (ag 1 y8 bp)<|Y 2 (ag 1 y8 bp)<|aG 1 fA (256:Int)<|az [bw U H] vZ<|aG 1 fA (256:Int)<|aB 0 ((D3 hb b9 J).trans (congrArg some e1.symm):bu E 4 q (0+fA.toNat*1) aw H=some aU)<|az [] (dO y b9:cK H aU [q]=true)<|aH 1 (fA+1)<|dY 1 [(2,pt rb 0),(3,aw),(4,pt nb 0),(9,M (fA+1))] aU [q] aW (ih _ J (fA+1) (xs.set (0+fA.toNat*1) aw) _ y1 cS eY (kM.set hb (0+fA.toNat*1) true) eJ d1 J rfl)
 exact c5 1 [(2,pt rb 0),(4,pt nb 0)] (.exit 4) H [] aL aZ ⟨rfl,rfl⟩
noncomputable def Vx:Code:=cw [1,1,1,1,1,1,1,1,0,1,0,0] (cx Tryz.f130)
theorem adx (nb:Nat) (rb:Nat) (q:Nat):∀(m:Nat) (fA:Int) (xs:List Value) (H:Z),aa E G H→(bp:H.get nb=some (O (zl q) 100))→(b9:H.get q=some (O xs 4))→(hb:kM xs)→(eJ:G.n≤q)→(d1:nb≠q)→(x0:0≤fA)→(256-fA).toNat=m→
  bV E G 134 Vx [(2,pt rb 0),(3,U),(4,pt nb 0),(9,M fA)] H [q] (fun x T H'=>(x=(.exit 4)∧T=aP [(2,pt rb 0),(4,pt nb 0)])):=by
 refine dJ fun m ih=>?_
 intro fA xs H y bp b9 hb eJ d1 x0 hm
 refine cN y ?_
 exact c5 3 [(2,pt rb 0),(4,pt nb 0)] (.exit 4) H [] aL aZ ⟨rfl,rfl⟩
noncomputable abbrev CS H:=news H (bt dI)
noncomputable abbrev kD (H2:Z):=([ab 91,sc (H2.n+0) 0 256 513,.slice none 0 0]:List Value)
noncomputable abbrev kE (cf:Z):=([ab 91,sc (cf.n+0) 0 256 513,.slice none 0 0]:List Value)
theorem adk (p:Nat) (s:ByteArray) (at_:Int) (op:Int) {H:Z} (y:aa E G H) (kp:H.get p=some (lz s at_ op 0)) (ce:G.n≤p) (hs:(s.size:Int)<100000) (a0:0≤at_) (a1:at_≤s.size) (hlt:at_<s.size):aV E G 130 [pt p 0] H [p] (fun v H'=>Bh s p at_ 1 ((nS s (at_+1)).map fun a=>(a,op)) v H'):=by
 have g0:=y.n
 refine bB Tryz.f130 y ?_
 have gH:=y.wf.lt kp
 obtain ⟨aU,e1⟩:∃ ao,ao=(CS H).set p (O (fS s (at_+1) op 0) 119):=⟨_,rfl⟩
 have y1:aa E G aU:=e1▸(y.news (bt dI)).set _ J (by rw [dj];simp only [dX,e3];omega)
 have c8:aU.n=H.n+1:=by rw [e1,Z.cI,dj] <;> rfl
 have aS:=bW e1 J (aR (bt dI) H 0 _ rfl)
 have bZ:=bz e1
 obtain ⟨_,H2,c2,aF,ar,cX⟩:=tI p s (at_+1) op 94 y1 bZ J hs J J
 refine Y 4 (ag 1 av (y.old kp (bt dI)))<|aH 0 (at_+1)<|aB 2 (stx 1 (M (at_+1)) dK (y.old kp (bt dI)) e1)<|?_
 rcases cX with ⟨rfl,Cj⟩ |⟨rfl,xR,zU⟩
 ·have cB:aU.n+0≤H2.n:=aF.n
  have g2:=ar.n
  have cV:=y1.kept aF aq bZ
  obtain ⟨_,_,H3,c3,bq,aM,rfl,m8,Sk,A8,rfl,mQ,BL,Cr,ky,Gn,Oi,AN,Dc⟩:=(QI p (H2.n+1) (H.n+0) (H2.n+0) s op false (at_+1) (nS s (at_+1)) _ 0 (at_+1) 0 (List.replicate 256 U) _ (ar.news [O (List.replicate 256 U) 4,O (kD H2) 100]) (ar.old cV [O (List.replicate 256 U) 4,O (kD H2) 100]) (aR [O (List.replicate 256 U) 4,O (kD H2) 100] H2 1 _ rfl) (aR [O (List.replicate 256 U) 4,O (kD H2) 100] H2 0 _ rfl) kM.new J ce J J J hs J J J (.inl rfl) J J (fun _=>(M0 (if_neg (r0 Cj))).symm) (fun h=>absurd h J) (fun _=>rfl) rfl).code
  have ek:=uT bq
  have tg:=(ar.news [O (List.replicate 256 U) 4,O (kD H2) 100]).kept bq bU (aR [O (List.replicate 256 U) 4,O (kD H2) 100] H2 1 _ rfl)
  refine ac 1 c2<|aB 5 (bG cZ rfl rfl rfl rfl:bu E 100 (H2.n+1) 0 (.agg (kD H2).toArray) (news H2 [O (List.replicate 256 U) 4,O dI 100])=some (news H2 [O (List.replicate 256 U) 4,O (kD H2) 100]))<|bx 1 c3<|?_
  rcases Oi with rfl |Oi
  ·obtain ⟨b6,aN⟩:∃ ao,ao=H3.set p (O (fS s (m8+1) op 0) 119):=⟨_,rfl⟩
   have cu:aa E G b6:=aN▸aM.set _ J J
   have gm:b6.n=H3.n+0:=by rw [aN,Z.cI] <;> rfl
   have eG:=bz aN
   have zW:=bW aN J tg
   have Zn:=bW aN J Cr
   obtain ⟨_,_,H5,fF,ej,dQ,rfl,rfl⟩:=(adx (H2.n+1) (H.n+0) (H2.n+0) _ 0 A8 _ cu zW Zn BL J J J rfl).code
   have iR:b6.n+0≤H5.n:=ej.n
   have Zp:=cu.kept ej bU zW
   have ca:=y1.kept aF aq aS
   have fL:=(ar.news [O (List.replicate 256 U) 4,O (kD H2) 100]).kept bq bU (ar.old ca [O (List.replicate 256 U) 4,O (kD H2) 100])
   have kj:=bW aN J fL
   have qf:=cu.kept ej bU kj
   obtain ⟨gV,eF⟩:∃ ao,ao=H5.set (H.n+0) (O (kD H2) 100):=⟨_,rfl⟩
   have qX:gV.n=H5.n+0:=by rw [eF,Z.cI] <;> rfl
   have xZ:=bz eF
   have e8:=cu.kept ej bU eG
   have il:=bW eF J e8
   exact Y 3 (ag 3 av mQ)<|Y 4 (ag 1 av mQ)<|aH 0 (m8+1)<|aB 2 (stx 1 (M (m8+1)) dK mQ aN)<|bx 1 fF<|Y 0 (cd fz cZ Zp rfl rfl:al E 100 (H2.n+1) 0 H5=some (.agg (kD H2).toArray))<|aB 0 (stx 0 (.agg (kD H2).toArray) cZ qf eF)<|az [] ((cd fz cZ xZ rfl rfl):al E 100 (H.n+0) 0 gV=some (.agg (kD H2).toArray))<|fI 0 [.agg (kD H2).toArray] (.agg (kD H2).toArray) gV [p,H2.n+1,p,H2.n+0,p,H2.n+0,H.n+0] aJ aZ (.inl ⟨m8+1,op,⟨_,_,_,_,_,_,_,rfl⟩,il,congrArg (Option.map fun a=>(a,op)) (AN rfl).1,J,J⟩)
  have ca:=y1.kept aF aq aS
  have fL:=(ar.news [O (List.replicate 256 U) 4,O (kD H2) 100]).kept bq bU (ar.old ca [O (List.replicate 256 U) 4,O (kD H2) 100])
  obtain ⟨b6,aN⟩:∃ ao,ao=H3.set (H.n+0) (O (kD H2) 100):=⟨_,rfl⟩
  have gm:b6.n=H3.n+0:=by rw [aN,Z.cI] <;> rfl
  have kj:=bz aN
  have eG:=bW aN J mQ
  exact Y 3 (ag 3 av mQ)<|ay 0 (decide_eq_true J:(decide (Sk>0))=true)<|Y 0 (cd fz cZ tg rfl rfl:al E 100 (H2.n+1) 0 H3=some (.agg (kD H2).toArray))<|aB 0 (stx 0 (.agg (kD H2).toArray) cZ fL aN)<|az [] ((cd fz cZ kj rfl rfl):al E 100 (H.n+0) 0 b6=some (.agg (kD H2).toArray))<|fI 0 [.agg (kD H2).toArray] (.agg (kD H2).toArray) b6 [p,H2.n+1,p,H2.n+0,H.n+0] aJ aZ (.inr ⟨m8,op,Sk,⟨_,_,_,_,_,_,_,rfl⟩,eG,congrArg (Option.map fun a=>(a,op)) (Dc J),J,J,J⟩)
 have cB:aU.n+0≤H2.n:=aF.n
 have cV:=y1.kept aF aq bZ
 obtain ⟨cf,bc⟩:∃ ao,ao=H2.set p (O (fS s ((at_+1)+1) op 0) 119):=⟨_,rfl⟩
 have aM:aa E G cf:=bc▸ar.set _ J J
 have ek:cf.n=H2.n+0:=by rw [bc,Z.cI] <;> rfl
 have g3:=aM.n
 have eU:=bz bc
 obtain ⟨_,_,H4,eg,ee,cu,rfl,nH,Sl,vp,rfl,oM,Ie,Jq,lh,tM,Oj,yu,Dd⟩:=(QI p (cf.n+1) (H.n+0) (cf.n+0) s op true ((at_+1)+1) (nS s (at_+1)) _ 0 ((at_+1)+1) 0 (List.replicate 256 U) _ (aM.news [O (List.replicate 256 U) 4,O (kE cf) 100]) (aM.old eU [O (List.replicate 256 U) 4,O (kE cf) 100]) (aR [O (List.replicate 256 U) 4,O (kE cf) 100] cf 1 _ rfl) (aR [O (List.replicate 256 U) 4,O (kE cf) 100] cf 0 _ rfl) kM.new J ce J J J hs J J J (.inl rfl) J J (fun _=>(M0 (if_pos ⟨xR,qi zU⟩)).symm) (fun h=>absurd h J) (fun _=>rfl) rfl).code
 have gm:=uT ee
 have OA:=(aM.news [O (List.replicate 256 U) 4,O (kE cf) 100]).kept ee bU (aR [O (List.replicate 256 U) 4,O (kE cf) 100] cf 1 _ rfl)
 refine ac 1 c2<|Y 5 (ag 1 av cV)<|aH 0 ((at_+1)+1)<|aB 2 (stx 1 (M ((at_+1)+1)) dK cV bc)<|aB 3 (bG cZ rfl rfl rfl rfl:bu E 100 (cf.n+1) 0 (.agg (kE cf).toArray) (news cf [O (List.replicate 256 U) 4,O dI 100])=some (news cf [O (List.replicate 256 U) 4,O (kE cf) 100]))<|bx 1 eg<|?_
 rcases Oj with rfl |Oj
 ·obtain ⟨d6,bJ⟩:∃ ao,ao=H4.set p (O (fS s (nH+1) op 0) 119):=⟨_,rfl⟩
  have dQ:aa E G d6:=bJ▸cu.set _ J J
  have iR:d6.n=H4.n+0:=by rw [bJ,Z.cI] <;> rfl
  have e8:=bz bJ
  have OB:=bW bJ J OA
  have Zq:=bW bJ J Jq
  obtain ⟨_,_,gF,jd,iW,gN,rfl,rfl⟩:=(ady (cf.n+1) (H.n+0) (cf.n+0) _ 0 vp _ dQ OB Zq Ie J J J rfl).code
  have qX:d6.n+0≤gF.n:=iW.n
  have Zs:=dQ.kept iW bU OB
  have ca:=y1.kept aF aq aS
  have fL:=bW bc J ca
  have kj:=(aM.news [O (List.replicate 256 U) 4,O (kE cf) 100]).kept ee bU (aM.old fL [O (List.replicate 256 U) 4,O (kE cf) 100])
  have qf:=bW bJ J kj
  have xZ:=dQ.kept iW bU qf
  obtain ⟨pW,la⟩:∃ ao,ao=gF.set (H.n+0) (O (kE cf) 100):=⟨_,rfl⟩
  have CV:pW.n=gF.n+0:=by rw [la,Z.cI] <;> rfl
  have Cn:=bz la
  have il:=dQ.kept iW bU e8
  have pA:=bW la J il
  exact Y 3 (ag 3 av oM)<|Y 4 (ag 1 av oM)<|aH 0 (nH+1)<|aB 2 (stx 1 (M (nH+1)) dK oM bJ)<|bx 1 jd<|Y 0 (cd fz cZ Zs rfl rfl:al E 100 (cf.n+1) 0 gF=some (.agg (kE cf).toArray))<|aB 0 (stx 0 (.agg (kE cf).toArray) cZ xZ la)<|az [] ((cd fz cZ Cn rfl rfl):al E 100 (H.n+0) 0 pW=some (.agg (kE cf).toArray))<|fI 0 [.agg (kE cf).toArray] (.agg (kE cf).toArray) pW [p,p,cf.n+1,p,cf.n+0,p,cf.n+0,H.n+0] aJ aZ (.inl ⟨nH+1,op,⟨_,_,_,_,_,_,_,rfl⟩,pA,congrArg (Option.map fun a=>(a,op)) (yu rfl).1,J,J⟩)
 have ca:=y1.kept aF aq aS
 have fL:=bW bc J ca
 have kj:=(aM.news [O (List.replicate 256 U) 4,O (kE cf) 100]).kept ee bU (aM.old fL [O (List.replicate 256 U) 4,O (kE cf) 100])
 obtain ⟨d6,bJ⟩:∃ ao,ao=H4.set (H.n+0) (O (kE cf) 100):=⟨_,rfl⟩
 have iR:d6.n=H4.n+0:=by rw [bJ,Z.cI] <;> rfl
 have qf:=bz bJ
 have e8:=bW bJ J oM
 exact Y 3 (ag 3 av oM)<|ay 0 (decide_eq_true J:(decide (Sl>0))=true)<|Y 0 (cd fz cZ OA rfl rfl:al E 100 (cf.n+1) 0 H4=some (.agg (kE cf).toArray))<|aB 0 (stx 0 (.agg (kE cf).toArray) cZ kj bJ)<|az [] ((cd fz cZ qf rfl rfl):al E 100 (H.n+0) 0 d6=some (.agg (kE cf).toArray))<|fI 0 [.agg (kE cf).toArray] (.agg (kE cf).toArray) d6 [p,p,cf.n+1,p,cf.n+0,H.n+0] aJ aZ (.inr ⟨nH,op,Sl,⟨_,_,_,_,_,_,_,rfl⟩,e8,congrArg (Option.map fun a=>(a,op)) (Dd J),J,J,J⟩)
noncomputable abbrev en cj cq cn ck cr cm cl:=([ab cj,.slice cq cn ck,.slice cr cm cl]:List Value)
noncomputable abbrev FE H3 cj cq cn ck cr cm cl:=news H3 (bt (en cj cq cn ck cr cm cl))
noncomputable abbrev PK H3:=news H3 (bt dI)
noncomputable abbrev dN bL bQ bP bM bR bO bN:=([ab bL,.slice bQ bP bM,.slice bR bO bN]:List Value)
noncomputable abbrev fX eM eR eQ eN eS eP eO:=([ab eM,.slice eR eQ eN,.slice eS eP eO]:List Value)
theorem QH (p:Nat) (s:ByteArray) (at_:Int) (op:Int) (n:Nat) {H:Z} (y:aa E G H) (kp:H.get p=some (lz s at_ op 0)) (ce:G.n≤p) (hs:(s.size:Int)<100000) (a0:0≤at_) (a1:at_≤s.size) (hA:vq s n) (hn:((s.size:Int)-at_).toNat≤n) (hlt:at_<s.size):aV E G 110 [pt p 0] H [p] (fun v H'=>Bh s p at_ 1 (k7 s at_ op) v H'):=by
 have g0:=y.n
 refine bB Tryz.f110 y ?_
 have gH:=y.wf.lt kp
 refine aE [am 0]<|Y 3 (ag 0 bA (y.old kp (bt dI)))<|Y 3 (ag 1 av (y.old kp (bt dI)))<|aG 0 at_ (s.size:Int)<|aY 2 (ad s at_) 40 ?_ ?_ <;> intro h1 q1
 ·refine Y 3 (ag 2 av (y.old kp (bt dI)))<|aY 0 op 32 ?_ ?_ <;> intro h2 cv
  ·obtain ⟨aU,e1⟩:∃ ao,ao=(CS H).set p (O (fS s at_ op 12) 119):=⟨_,rfl⟩
   have y1:aa E G aU:=e1▸(y.news (bt dI)).set _ J (by rw [dj];simp only [dX,e3];omega)
   have c8:aU.n=H.n+1:=by rw [e1,Z.cI,dj] <;> rfl
   have aS:=bW e1 J (aR (bt dI) H 0 _ rfl)
   have bZ:=bz e1
   obtain ⟨aK,e2⟩:∃ ao,ao=aU.set (H.n+0) (O dI 100):=⟨_,rfl⟩
   have cB:aK.n=aU.n+0:=by rw [e2,Z.cI] <;> rfl
   have ca:=bz e2
   have cV:=bW e2 J bZ
   exact aB 3 (stx 3 (M 12) dK (y.old kp (bt dI)) e1)<|aB 1 (stx 0 (.agg (List.toArray dI)) cZ aS e2)<|az [] ((cd fz cZ ca rfl rfl):al E 100 (H.n+0) 0 aK=some (.agg (List.toArray dI)))<|fI 0 [.agg (List.toArray dI)] (.agg (List.toArray dI)) aK [p,H.n+0] aJ aZ (.inr ⟨at_,op,12,⟨_,_,_,_,_,_,_,rfl⟩,cV,Mq hlt q1 cv,J,J,J⟩)
  obtain ⟨aU,e1⟩:∃ ao,ao=(CS H).set p (O (fS s (at_+1) op 0) 119):=⟨_,rfl⟩
  have y1:aa E G aU:=e1▸(y.news (bt dI)).set _ J (by rw [dj];simp only [dX,e3];omega)
  have c8:aU.n=H.n+1:=by rw [e1,Z.cI,dj] <;> rfl
  have aS:=bW e1 J (aR (bt dI) H 0 _ rfl)
  have bZ:=bz e1
  obtain ⟨aK,e2⟩:∃ ao,ao=aU.set p (O (fS s (at_+1) (IntKind.i64.wrap (op+1)) 0) 119):=⟨_,rfl⟩
  have ar:aa E G aK:=e2▸y1.set _ J J
  have cB:aK.n=aU.n+0:=by rw [e2,Z.cI] <;> rfl
  have cV:=bz e2
  obtain ⟨_,H3,c3,bq,aM,fq⟩:=hA p (at_+1) (IntKind.i64.wrap (op+1)) ar cV J hs J J J
  refine Y 3 (ag 1 av (y.old kp (bt dI)))<|aH 0 (at_+1)<|aB 2 (stx 1 (M (at_+1)) dK (y.old kp (bt dI)) e1)<|Y 3 (ag 2 av bZ)<|aB 3 (stx 2 (M (IntKind.i64.wrap (op+1))) dK bZ e2)<|?_
  rcases fq with ⟨fW,ml,⟨cj,cq,cn,ck,cr,cm,cl,rfl⟩,gX,jn,qb,ec⟩ |⟨fW,ml,wN,⟨cj,cq,cn,ck,cr,cm,cl,rfl⟩,gX,jn,Of,qb,ec⟩
  ·have ek:aK.n+0≤H3.n:=bq.n
   obtain ⟨b6,aN⟩:∃ ao,ao=(FE H3 cj cq cn ck cr cm cl).set p (O (fS s fW (IntKind.i64.wrap (ml-1)) 0) 119):=⟨_,rfl⟩
   have cu:aa E G b6:=aN▸(aM.news (bt (en cj cq cn ck cr cm cl))).set _ J (by rw [dj];simp only [dX,e3];omega)
   have gm:b6.n=H3.n+1:=by rw [aN,Z.cI,dj] <;> rfl
   have v8:=bW aN J (aR (bt (en cj cq cn ck cr cm cl)) H3 0 _ rfl)
   have eG:=bz aN
   obtain ⟨_,H5,fF,ej,dQ,ny⟩:=tI p s fW (IntKind.i64.wrap (ml-1)) 41 cu eG J hs J J
   refine ac 1 c3<|aB 1 (bG cZ rfl rfl rfl rfl:bu E 100 (H3.n+0) 0 (.agg (en cj cq cn ck cr cm cl).toArray) (PK H3)=some (FE H3 cj cq cn ck cr cm cl))<|Y 3 (ag 2 av (aM.old gX (bt (en cj cq cn ck cr cm cl))))<|aB 3 (stx 2 (M (IntKind.i64.wrap (ml-1))) dK (aM.old gX (bt (en cj cq cn ck cr cm cl))) aN)<|Y 3 (ag 3 av eG)<|?_
   rcases ny with ⟨rfl,YO⟩ |⟨rfl,YK,YL⟩
   ·have iR:b6.n+0≤H5.n:=ej.n
    have e8:=cu.kept ej aq eG
    obtain ⟨gV,eF⟩:∃ ao,ao=H5.set p (O (fS s fW (IntKind.i64.wrap (ml-1)) 2) 119):=⟨_,rfl⟩
    have gN:aa E G gV:=eF▸dQ.set _ J J
    have qX:gV.n=H5.n+0:=by rw [eF,Z.cI] <;> rfl
    have il:=bz eF
    have I9:=cu.kept ej aq v8
    have Jc:=bW eF J I9
    have ca:=bW e2 J aS
    have fL:=ar.kept bq bU ca
    have kj:=bW aN J (aM.old fL (bt (en cj cq cn ck cr cm cl)))
    have qf:=cu.kept ej aq kj
    have xZ:=bW eF J qf
    obtain ⟨pW,la⟩:∃ ao,ao=gV.set (H.n+0) (O (en cj cq cn ck cr cm cl) 100):=⟨_,rfl⟩
    have CV:pW.n=gV.n+0:=by rw [la,Z.cI] <;> rfl
    have Cn:=bz la
    have pA:=bW la J il
    exact ac 3 fF<|aB 5 (stx 3 (M 2) dK e8 eF)<|Y 3 (ag 3 av il)<|Y 1 (cd fz cZ Jc rfl rfl:al E 100 (H3.n+0) 0 gV=some (.agg (en cj cq cn ck cr cm cl).toArray))<|aB 0 (stx 0 (.agg (en cj cq cn ck cr cm cl).toArray) cZ xZ la)<|az [] ((cd fz cZ Cn rfl rfl):al E 100 (H.n+0) 0 pW=some (.agg (en cj cq cn ck cr cm cl).toArray))<|fI 0 [.agg (en cj cq cn ck cr cm cl).toArray] (.agg (en cj cq cn ck cr cm cl).toArray) pW [p,p,p,H3.n+0,p,p,H.n+0] aJ aZ (.inr ⟨fW,IntKind.i64.wrap (ml-1),2,⟨_,_,_,_,_,_,_,rfl⟩,pA,Mr hlt q1 cv jn (r0 YO),J,J,J⟩)
   have iR:b6.n+0≤H5.n:=ej.n
   have e8:=cu.kept ej aq eG
   obtain ⟨gV,eF⟩:∃ ao,ao=H5.set p (O (fS s (fW+1) (IntKind.i64.wrap (ml-1)) 0) 119):=⟨_,rfl⟩
   have gN:aa E G gV:=eF▸dQ.set _ J J
   have qX:gV.n=H5.n+0:=by rw [eF,Z.cI] <;> rfl
   have il:=bz eF
   have I9:=cu.kept ej aq v8
   have Jc:=bW eF J I9
   have ca:=bW e2 J aS
   have fL:=ar.kept bq bU ca
   have kj:=bW aN J (aM.old fL (bt (en cj cq cn ck cr cm cl)))
   have qf:=cu.kept ej aq kj
   have xZ:=bW eF J qf
   obtain ⟨pW,la⟩:∃ ao,ao=gV.set (H.n+0) (O (en cj cq cn ck cr cm cl) 100):=⟨_,rfl⟩
   have CV:pW.n=gV.n+0:=by rw [la,Z.cI] <;> rfl
   have Cn:=bz la
   have pA:=bW la J il
   exact ac 3 fF<|Y 5 (ag 3 av e8)<|Y 4 (ag 1 av e8)<|aH 0 (fW+1)<|aB 2 (stx 1 (M (fW+1)) dK e8 eF)<|Y 0 (cd fz cZ Jc rfl rfl:al E 100 (H3.n+0) 0 gV=some (.agg (en cj cq cn ck cr cm cl).toArray))<|aB 0 (stx 0 (.agg (en cj cq cn ck cr cm cl).toArray) cZ xZ la)<|az [] ((cd fz cZ Cn rfl rfl):al E 100 (H.n+0) 0 pW=some (.agg (en cj cq cn ck cr cm cl).toArray))<|fI 0 [.agg (en cj cq cn ck cr cm cl).toArray] (.agg (en cj cq cn ck cr cm cl).toArray) pW [p,p,p,H3.n+0,p,p,H.n+0] aJ aZ (.inl ⟨fW+1,IntKind.i64.wrap (ml-1),⟨_,_,_,_,_,_,_,rfl⟩,pA,Mt hlt q1 cv jn YK (qi YL),J,J⟩)
  have ek:aK.n+0≤H3.n:=bq.n
  obtain ⟨b6,aN⟩:∃ ao,ao=(FE H3 cj cq cn ck cr cm cl).set p (O (fS s fW (IntKind.i64.wrap (ml-1)) wN) 119):=⟨_,rfl⟩
  have cu:aa E G b6:=aN▸(aM.news (bt (en cj cq cn ck cr cm cl))).set _ J (by rw [dj];simp only [dX,e3];omega)
  have gm:b6.n=H3.n+1:=by rw [aN,Z.cI,dj] <;> rfl
  have v8:=bW aN J (aR (bt (en cj cq cn ck cr cm cl)) H3 0 _ rfl)
  have eG:=bz aN
  have ca:=bW e2 J aS
  have fL:=ar.kept bq bU ca
  have kj:=bW aN J (aM.old fL (bt (en cj cq cn ck cr cm cl)))
  obtain ⟨d6,bJ⟩:∃ ao,ao=b6.set (H.n+0) (O (en cj cq cn ck cr cm cl) 100):=⟨_,rfl⟩
  have iR:d6.n=b6.n+0:=by rw [bJ,Z.cI] <;> rfl
  have qf:=bz bJ
  have e8:=bW bJ J eG
  exact ac 1 c3<|aB 1 (bG cZ rfl rfl rfl rfl:bu E 100 (H3.n+0) 0 (.agg (en cj cq cn ck cr cm cl).toArray) (PK H3)=some (FE H3 cj cq cn ck cr cm cl))<|Y 3 (ag 2 av (aM.old gX (bt (en cj cq cn ck cr cm cl))))<|aB 3 (stx 2 (M (IntKind.i64.wrap (ml-1))) dK (aM.old gX (bt (en cj cq cn ck cr cm cl))) aN)<|Y 3 (ag 3 av eG)<|ay 0 (beq_eq_false_iff_ne.2 J:(wN==0)=false)<|Y 5 (ag 3 av eG)<|ay 0 (beq_eq_false_iff_ne.2 J:(wN==0)=false)<|Y 0 (cd fz cZ v8 rfl rfl:al E 100 (H3.n+0) 0 b6=some (.agg (en cj cq cn ck cr cm cl).toArray))<|aB 0 (stx 0 (.agg (en cj cq cn ck cr cm cl).toArray) cZ kj bJ)<|az [] ((cd fz cZ qf rfl rfl):al E 100 (H.n+0) 0 d6=some (.agg (en cj cq cn ck cr cm cl).toArray))<|fI 0 [.agg (en cj cq cn ck cr cm cl).toArray] (.agg (en cj cq cn ck cr cm cl).toArray) d6 [p,p,p,H3.n+0,p,H.n+0] aJ aZ (.inr ⟨fW,IntKind.i64.wrap (ml-1),wN,⟨_,_,_,_,_,_,_,rfl⟩,e8,Ms hlt q1 cv jn,J,J,J⟩)
 refine aY 1 (ad s at_) 91 ?_ ?_ <;> intro h2 cv
 ·obtain ⟨_,H1,c1,ak,y1,bE⟩:=adk p s at_ op (y.news (bt dI)) (y.old kp (bt dI)) J hs J J J
  rcases bE with ⟨dW,r4,⟨bL,bQ,bP,bM,bR,bO,bN,rfl⟩,ei,fk,ma,b7⟩ |⟨dW,r4,o6,⟨bL,bQ,bP,bM,bR,bO,bN,rfl⟩,ei,fk,hw1,ma,b7⟩
  ·have c8:=d9 ak
   have aS:=(y.news (bt dI)).kept ak bU (aR (bt dI) H 0 _ rfl)
   obtain ⟨aK,e2⟩:∃ ao,ao=H1.set (H.n+0) (O (dN bL bQ bP bM bR bO bN) 100):=⟨_,rfl⟩
   have cB:aK.n=H1.n+0:=by rw [e2,Z.cI] <;> rfl
   have ca:=bz e2
   have cV:=bW e2 J ei
   exact ac 1 c1<|aB 0 (stx 0 (.agg (dN bL bQ bP bM bR bO bN).toArray) cZ aS e2)<|az [] ((cd fz cZ ca rfl rfl):al E 100 (H.n+0) 0 aK=some (.agg (dN bL bQ bP bM bR bO bN).toArray))<|fI 0 [.agg (dN bL bQ bP bM bR bO bN).toArray] (.agg (dN bL bQ bP bM bR bO bN).toArray) aK [p,H.n+0] aJ aZ (.inl ⟨dW,r4,⟨_,_,_,_,_,_,_,rfl⟩,cV,(DX hlt J).trans fk,J,J⟩)
  have c8:=d9 ak
  have aS:=(y.news (bt dI)).kept ak bU (aR (bt dI) H 0 _ rfl)
  obtain ⟨aK,e2⟩:∃ ao,ao=H1.set (H.n+0) (O (dN bL bQ bP bM bR bO bN) 100):=⟨_,rfl⟩
  have cB:aK.n=H1.n+0:=by rw [e2,Z.cI] <;> rfl
  have ca:=bz e2
  have cV:=bW e2 J ei
  exact ac 1 c1<|aB 0 (stx 0 (.agg (dN bL bQ bP bM bR bO bN).toArray) cZ aS e2)<|az [] ((cd fz cZ ca rfl rfl):al E 100 (H.n+0) 0 aK=some (.agg (dN bL bQ bP bM bR bO bN).toArray))<|fI 0 [.agg (dN bL bQ bP bM bR bO bN).toArray] (.agg (dN bL bQ bP bM bR bO bN).toArray) aK [p,H.n+0] aJ aZ (.inr ⟨dW,r4,o6,⟨_,_,_,_,_,_,_,rfl⟩,cV,(DX hlt J).trans fk,J,J,J⟩)
 cases h3:(tr ⟨#[41,93,123,125,94,36,124,42,43,63]⟩ (ad s at_)) with
 |true=>
  obtain ⟨aU,e1⟩:∃ ao,ao=(CS H).set p (O (fS s at_ op 2) 119):=⟨_,rfl⟩
  have y1:aa E G aU:=e1▸(y.news (bt dI)).set _ J (by rw [dj];simp only [dX,e3];omega)
  have c8:aU.n=H.n+1:=by rw [e1,Z.cI,dj] <;> rfl
  have aS:=bW e1 J (aR (bt dI) H 0 _ rfl)
  have bZ:=bz e1
  obtain ⟨aK,e2⟩:∃ ao,ao=aU.set (H.n+0) (O dI 100):=⟨_,rfl⟩
  have cB:aK.n=aU.n+0:=by rw [e2,Z.cI] <;> rfl
  have ca:=bz e2
  have cV:=bW e2 J bZ
  exact ac 1 (cP h3 (Ga (ad s at_) ⟨#[41,93,123,125,94,36,124,42,43,63]⟩ (by decide) (y.news (bt dI))))<|aB 3 (stx 3 (M 2) dK (y.old kp (bt dI)) e1)<|aB 1 (stx 0 (.agg (List.toArray dI)) cZ aS e2)<|az [] ((cd fz cZ ca rfl rfl):al E 100 (H.n+0) 0 aK=some (.agg (List.toArray dI)))<|fI 0 [.agg (List.toArray dI)] (.agg (List.toArray dI)) aK [p,H.n+0] aJ aZ (.inr ⟨at_,op,2,⟨_,_,_,_,_,_,_,rfl⟩,cV,Mo hlt J J h3,J,J,J⟩)
 |false=>
  obtain ⟨aU,e1⟩:∃ ao,ao=(CS H).set p (O (fS s (at_+1) op 0) 119):=⟨_,rfl⟩
  have y1:aa E G aU:=e1▸(y.news (bt dI)).set _ J (by rw [dj];simp only [dX,e3];omega)
  have c8:aU.n=H.n+1:=by rw [e1,Z.cI,dj] <;> rfl
  have aS:=bW e1 J (aR (bt dI) H 0 _ rfl)
  have bZ:=bz e1
  refine ac 1 (cP h3 (Ga (ad s at_) ⟨#[41,93,123,125,94,36,124,42,43,63]⟩ (by decide) (y.news (bt dI))))<|Y 3 (ag 1 av (y.old kp (bt dI)))<|aH 0 (at_+1)<|aB 2 (stx 1 (M (at_+1)) dK (y.old kp (bt dI)) e1)<|aY 1 (ad s at_) 46 ?_ ?_ <;> intro h4 cO
  ·obtain ⟨_,H2,c2,aF,ar,⟨eM,eR,eQ,eN,eS,eP,eO,rfl⟩⟩:=Ky 0 255 y1 J J
   have cB:aU.n+0≤H2.n:=aF.n
   have ca:=y1.kept aF aq aS
   obtain ⟨cf,bc⟩:∃ ao,ao=H2.set (H.n+0) (O (fX eM eR eQ eN eS eP eO) 100):=⟨_,rfl⟩
   have ek:cf.n=H2.n+0:=by rw [bc,Z.cI] <;> rfl
   have fL:=bz bc
   have cV:=y1.kept aF aq bZ
   have eU:=bW bc J cV
   exact ac 0 c2<|aB 0 (stx 0 (.agg (fX eM eR eQ eN eS eP eO).toArray) cZ ca bc)<|az [] ((cd fz cZ fL rfl rfl):al E 100 (H.n+0) 0 cf=some (.agg (fX eM eR eQ eN eS eP eO).toArray))<|fI 0 [.agg (fX eM eR eQ eN eS eP eO).toArray] (.agg (fX eM eR eQ eN eS eP eO).toArray) cf [p,H.n+0] aJ aZ (.inl ⟨at_+1,op,⟨_,_,_,_,_,_,_,rfl⟩,eU,DZ hlt J J (fun h=>absurd (h.symm.trans h3) (by decide)) J,J,J⟩)
  refine aY 1 (ad s at_) 92 ?_ ?_ <;> intro h5 dc
  ·obtain ⟨_,H2,c2,aF,ar,cX⟩:=AC p s (at_+1) op y1 bZ J hs J J
   rcases cX with ⟨rfl,Kj⟩ |⟨rfl,ai5⟩
   ·have cB:aU.n+0≤H2.n:=aF.n
    have cV:=y1.kept aF aq bZ
    obtain ⟨cf,bc⟩:∃ ao,ao=H2.set p (O (fS s (at_+1) op 2) 119):=⟨_,rfl⟩
    have aM:aa E G cf:=bc▸ar.set _ J J
    have ek:cf.n=H2.n+0:=by rw [bc,Z.cI] <;> rfl
    have eU:=bz bc
    have ca:=y1.kept aF aq aS
    have fL:=bW bc J ca
    obtain ⟨b6,aN⟩:∃ ao,ao=cf.set (H.n+0) (O dI 100):=⟨_,rfl⟩
    have gm:b6.n=cf.n+0:=by rw [aN,Z.cI] <;> rfl
    have kj:=bz aN
    have eG:=bW aN J eU
    exact ac 1 c2<|aB 10 (stx 3 (M 2) dK cV bc)<|aB 1 (stx 0 (.agg (List.toArray dI)) cZ fL aN)<|az [] ((cd fz cZ kj rfl rfl):al E 100 (H.n+0) 0 b6=some (.agg (List.toArray dI)))<|fI 0 [.agg (List.toArray dI)] (.agg (List.toArray dI)) b6 [p,p,H.n+0] aJ aZ (.inr ⟨at_+1,op,2,⟨_,_,_,_,_,_,_,rfl⟩,eG,(DY hlt J).trans (if_neg J),J,J,J⟩)
   have cB:aU.n+0≤H2.n:=aF.n
   have cV:=y1.kept aF aq bZ
   obtain ⟨cf,bc⟩:∃ ao,ao=H2.set p (O (fS s ((at_+1)+1) op 0) 119):=⟨_,rfl⟩
   have aM:aa E G cf:=bc▸ar.set _ J J
   have ek:cf.n=H2.n+0:=by rw [bc,Z.cI] <;> rfl
   have eU:=bz bc
   obtain ⟨_,H4,eg,ee,cu,⟨Ds,Dy,Dx,Du,Dz,Dw,Dv,rfl⟩⟩:=Ky (ad s (at_+1)) (ad s (at_+1)) aM (jl _ _) (by have:=jc s (at_+1);omega)
   have gm:cf.n+0≤H4.n:=ee.n
   have ca:=y1.kept aF aq aS
   have fL:=bW bc J ca
   have kj:=aM.kept ee aq fL
   obtain ⟨d6,bJ⟩:∃ ao,ao=H4.set (H.n+0) (O [ab Ds,.slice Dy Dx Du,.slice Dz Dw Dv] 100):=⟨_,rfl⟩
   have iR:d6.n=H4.n+0:=by rw [bJ,Z.cI] <;> rfl
   have qf:=bz bJ
   have eG:=aM.kept ee aq eU
   have e8:=bW bJ J eG
   exact ac 1 c2<|Y 10 (ag 1 av cV)<|aH 0 ((at_+1)+1)<|aB 2 (stx 1 (M ((at_+1)+1)) dK cV bc)<|aE [am 2]<|az [.as (M (ad s (at_+1)))] (show ((M (IntKind.i64.wrap (ad s (at_+1)))):Value)=(M (ad s (at_+1))) from A1 s (at_+1))<|aE [am 0]<|az [.as (M (ad s (at_+1)))] (show ((M (IntKind.i64.wrap (ad s (at_+1)))):Value)=(M (ad s (at_+1))) from A1 s (at_+1))<|ac 0 eg<|aB 0 (stx 0 (.agg #[ab Ds,.slice Dy Dx Du,.slice Dz Dw Dv]) cZ kj bJ)<|az [] ((cd fz cZ qf rfl rfl):al E 100 (H.n+0) 0 d6=some (.agg #[ab Ds,.slice Dy Dx Du,.slice Dz Dw Dv]))<|fI 0 [.agg #[ab Ds,.slice Dy Dx Du,.slice Dz Dw Dv]] (.agg #[ab Ds,.slice Dy Dx Du,.slice Dz Dw Dv]) d6 [p,p,H.n+0] aJ aZ (.inl ⟨(at_+1)+1,op,⟨_,_,_,_,_,_,_,rfl⟩,e8,(by rw [DY hlt J,if_pos J,show at_+2=at_+1+1 by omega]),J,J⟩)
  obtain ⟨_,H2,c2,aF,ar,⟨eM,eR,eQ,eN,eS,eP,eO,rfl⟩⟩:=Ky (ad s at_) (ad s at_) y1 (jl _ _) (by have:=jc s at_;omega)
  have cB:aU.n+0≤H2.n:=aF.n
  have ca:=y1.kept aF aq aS
  obtain ⟨cf,bc⟩:∃ ao,ao=H2.set (H.n+0) (O (fX eM eR eQ eN eS eP eO) 100):=⟨_,rfl⟩
  have ek:cf.n=H2.n+0:=by rw [bc,Z.cI] <;> rfl
  have fL:=bz bc
  have cV:=y1.kept aF aq bZ
  have eU:=bW bc J cV
  exact aE [am 0]<|az [.as (M (ad s at_))] (show ((M (IntKind.i64.wrap (ad s at_))):Value)=(M (ad s at_)) from A1 s at_)<|aE [am 0]<|az [.as (M (ad s at_))] (show ((M (IntKind.i64.wrap (ad s at_))):Value)=(M (ad s at_)) from A1 s at_)<|ac 0 c2<|aB 0 (stx 0 (.agg (fX eM eR eQ eN eS eP eO).toArray) cZ ca bc)<|az [] ((cd fz cZ fL rfl rfl):al E 100 (H.n+0) 0 cf=some (.agg (fX eM eR eQ eN eS eP eO).toArray))<|fI 0 [.agg (fX eM eR eQ eN eS eP eO).toArray] (.agg (fX eM eR eQ eN eS eP eO).toArray) cf [p,H.n+0] aJ aZ (.inl ⟨at_+1,op,⟨_,_,_,_,_,_,_,rfl⟩,eU,DZ hlt J J (fun h=>absurd (h.symm.trans h3) (by decide)) J,J,J⟩)
theorem DQ:rm E #[98,98] 100 3 56=true:=an
noncomputable def VB:Code:=cw [1,1,0,0,0,1,1,1,0,0,0] (cx Tryz.f89)
noncomputable abbrev kF xa eC xn xc eD eB eA:=([ab xa,.slice eC xn xc,.slice eD eB eA]:List Value)
noncomputable abbrev PL H3 xa eC xn xc eD eB eA:=news H3 (bt (kF xa eC xn xc eD eB eA))
noncomputable abbrev PM H2 xa eC xn xc eD eB eA:=news H2 (bt (kF xa eC xn xc eD eB eA))
noncomputable abbrev PN H1 xa eC xn xc eD eB eA:=news H1 (bt (kF xa eC xn xc eD eB eA))
theorem QK (p:Nat) (nb:Nat) (rb:Nat) (iJ:Nat) (s:ByteArray) (op:Int) (wr:Int) (R:Int):∀(m:Nat) (at_:Int) (xa:Int) (eC:Option Addr) (xn:Nat) (xc:Nat) (eD:Option Addr) (eB:Nat) (eA:Nat) (H:Z),aa E G H→(kp:H.get p=some (O (fS s at_ op 0) 119))→(kx:H.get iJ=some (O (kF xa eC xn xc eD eB eA) 100))→(zG:G.n≤iJ)→(d1:p≠iJ)→(ce:G.n≤p)→(hs:(s.size:Int)<100000)→(a0:0≤at_)→(a1:at_≤s.size)→(hR:oa s at_=R)→((s.size:Int)-at_).toNat=m→
  bV E G 61 VB [(0,pt p 0),(2,pt rb 0),(3,pt nb 0),(6,pt iJ 0)] H [p,iJ] (fun x T H'=>(x=(.exit 2)∧∃(eW:Int) (yR:Int) (sv:Option Addr) (nI yS:Nat) (qy:Option Addr) (yU yT:Nat),T=aP [(0,pt p 0),(2,pt rb 0),(3,pt nb 0),(6,pt iJ 0)]∧(H'.get p=some (lz s eW op 0)∧H'.get iJ=some (O [ab yR,.slice sv nI yS,.slice qy yU yT] 100)∧eW=R))):=by
 refine dJ fun m ih=>?_
 intro at_ xa eC xn xc eD eB eA H y kp kx zG d1 ce hs a0 a1 hR hm
 refine cN y ?_
 have gH:=y.wf.lt kp
 have aiL:=y.wf.lt kx
 obtain ⟨_,H1,c1,ak,y1,bE⟩:=tI p s at_ op 42 y kp J hs J J
 rcases bE with ⟨rfl,rN⟩ |⟨rfl,td,v7⟩
 ·have c8:H.n+0≤H1.n:=ak.n
  have bZ:=y.kept ak aq kp
  obtain ⟨_,H2,c2,aF,ar,cX⟩:=tI p s at_ op 43 y1 bZ J hs J J
  refine ac 1 c1<|?_
  rcases cX with ⟨rfl,Cj⟩ |⟨rfl,xR,zU⟩
  ·have cB:H1.n+0≤H2.n:=aF.n
   have cV:=y1.kept aF aq bZ
   obtain ⟨_,H3,c3,bq,aM,fq⟩:=tI p s at_ op 63 ar cV J hs J J
   refine ac 2 c2<|?_
   rcases fq with ⟨rfl,IY⟩ |⟨rfl,Ch,EW⟩
   ·have eU:=ar.kept bq aq cV
    have rQ:=y.kept ak aq kx
    have rR:=y1.kept aF aq rQ
    have rS:=ar.kept bq aq rR
    exact ac 3 c3<|c5 1 [(0,pt p 0),(2,pt rb 0),(3,pt nb 0),(6,pt iJ 0)] (.exit 2) H3 [] aL aZ ⟨rfl,at_,xa,eC,xn,xc,eD,eB,eA,rfl,⟨eU,rS,(QR (fun h=>by have:=abt h.2;have:=rN;have:=Cj;have:=IY;omega)).symm.trans hR⟩⟩
   have ek:H2.n+0≤H3.n:=bq.n
   have eU:=ar.kept bq aq cV
   have rQ:=y.kept ak aq kx
   have rR:=y1.kept aF aq rQ
   have rS:=ar.kept bq aq rR
   obtain ⟨b6,aN⟩:∃ ao,ao=(PL H3 xa eC xn xc eD eB eA).set iJ (O [ab (ad s at_),.slice none 0 0,sc (H3.n+0) 0 1 3] 100):=⟨_,rfl⟩
   have cu:aa E G b6:=aN▸(aM.news (bt (kF xa eC xn xc eD eB eA))).set _ J (by rw [dj];simp only [dX,e3];omega)
   have gm:b6.n=H3.n+1:=by rw [aN,Z.cI,dj] <;> rfl
   have I7:=bz aN
   have eG:=bW aN J (aM.old eU (bt (kF xa eC xn xc eD eB eA)))
   obtain ⟨d6,bJ⟩:∃ ao,ao=b6.set p (O (fS s (at_+1) op 0) 119):=⟨_,rfl⟩
   have dQ:aa E G d6:=bJ▸cu.set _ J J
   have e8:=bz bJ
   have Zr:=bW bJ J I7
   exact ac 3 c3<|aE [am 0]<|Y 3 (ag 0 bA eU)<|Y 3 (ag 1 av eU)<|aG 0 at_ (s.size:Int)<|Y 0 (cd fz cZ rS rfl rfl:al E 100 iJ 0 H3=some (.agg (kF xa eC xn xc eD eB eA).toArray))<|aB 2 (stx 0 (.agg #[ab (ad s at_),.slice none 0 0,sc (H3.n+0) 0 1 3]) cZ (aM.old rS (bt (kF xa eC xn xc eD eB eA))) aN)<|az [] (dO (aM.news (bt (kF xa eC xn xc eD eB eA))) (aM.old rS (bt (kF xa eC xn xc eD eB eA))):cK (PL H3 xa eC xn xc eD eB eA) b6 [iJ]=true)<|Y 3 (ag 1 av eG)<|aH 0 (at_+1)<|aB 2 (stx 1 (M (at_+1)) dK eG bJ)<|dY 0 [(0,pt p 0),(2,pt rb 0),(3,pt nb 0),(6,pt iJ 0)] d6 [iJ,p] aW (ih _ J (at_+1) (ad s at_) none 0 0 (some ⟨H3.n+0,0,none⟩) 1 3 _ dQ e8 Zr zG d1 ce hs J J ((Gc Ch (JJ J)).symm.trans hR) rfl)
  have cB:H1.n+0≤H2.n:=aF.n
  have cV:=y1.kept aF aq bZ
  have rQ:=y.kept ak aq kx
  have rR:=y1.kept aF aq rQ
  obtain ⟨cf,bc⟩:∃ ao,ao=(PM H2 xa eC xn xc eD eB eA).set iJ (O [ab (ad s at_),.slice none 0 0,sc (H2.n+0) 0 1 3] 100):=⟨_,rfl⟩
  have aM:aa E G cf:=bc▸(ar.news (bt (kF xa eC xn xc eD eB eA))).set _ J (by rw [dj];simp only [dX,e3];omega)
  have ek:cf.n=H2.n+1:=by rw [bc,Z.cI,dj] <;> rfl
  have rS:=bz bc
  have eU:=bW bc J (ar.old cV (bt (kF xa eC xn xc eD eB eA)))
  obtain ⟨b6,aN⟩:∃ ao,ao=cf.set p (O (fS s (at_+1) op 0) 119):=⟨_,rfl⟩
  have cu:aa E G b6:=aN▸aM.set _ J J
  have eG:=bz aN
  have I7:=bW aN J rS
  exact ac 2 c2<|aE [am 2]<|Y 3 (ag 0 bA cV)<|Y 3 (ag 1 av cV)<|aG 0 at_ (s.size:Int)<|Y 0 (cd fz cZ rR rfl rfl:al E 100 iJ 0 H2=some (.agg (kF xa eC xn xc eD eB eA).toArray))<|aB 2 (stx 0 (.agg #[ab (ad s at_),.slice none 0 0,sc (H2.n+0) 0 1 3]) cZ (ar.old rR (bt (kF xa eC xn xc eD eB eA))) bc)<|az [] (dO (ar.news (bt (kF xa eC xn xc eD eB eA))) (ar.old rR (bt (kF xa eC xn xc eD eB eA))):cK (PM H2 xa eC xn xc eD eB eA) cf [iJ]=true)<|Y 3 (ag 1 av eU)<|aH 0 (at_+1)<|aB 2 (stx 1 (M (at_+1)) dK eU aN)<|dY 0 [(0,pt p 0),(2,pt rb 0),(3,pt nb 0),(6,pt iJ 0)] b6 [iJ,p] aW (ih _ J (at_+1) (ad s at_) none 0 0 (some ⟨H2.n+0,0,none⟩) 1 3 _ cu eG I7 zG d1 ce hs J J ((Gc xR (JJ J)).symm.trans hR) rfl)
 have c8:H.n+0≤H1.n:=ak.n
 have bZ:=y.kept ak aq kp
 have rQ:=y.kept ak aq kx
 obtain ⟨aK,e2⟩:∃ ao,ao=(PN H1 xa eC xn xc eD eB eA).set iJ (O [ab (ad s at_),.slice none 0 0,sc (H1.n+0) 0 1 3] 100):=⟨_,rfl⟩
 have ar:aa E G aK:=e2▸(y1.news (bt (kF xa eC xn xc eD eB eA))).set _ J (by rw [dj];simp only [dX,e3];omega)
 have cB:aK.n=H1.n+1:=by rw [e2,Z.cI,dj] <;> rfl
 have rR:=bz e2
 have cV:=bW e2 J (y1.old bZ (bt (kF xa eC xn xc eD eB eA)))
 obtain ⟨cf,bc⟩:∃ ao,ao=aK.set p (O (fS s (at_+1) op 0) 119):=⟨_,rfl⟩
 have aM:aa E G cf:=bc▸ar.set _ J J
 have eU:=bz bc
 have rS:=bW bc J rR
 exact ac 1 c1<|aE [am 3]<|Y 3 (ag 0 bA bZ)<|Y 3 (ag 1 av bZ)<|aG 0 at_ (s.size:Int)<|Y 0 (cd fz cZ rQ rfl rfl:al E 100 iJ 0 H1=some (.agg (kF xa eC xn xc eD eB eA).toArray))<|aB 2 (stx 0 (.agg #[ab (ad s at_),.slice none 0 0,sc (H1.n+0) 0 1 3]) cZ (y1.old rQ (bt (kF xa eC xn xc eD eB eA))) e2)<|az [] (dO (y1.news (bt (kF xa eC xn xc eD eB eA))) (y1.old rQ (bt (kF xa eC xn xc eD eB eA))):cK (PN H1 xa eC xn xc eD eB eA) aK [iJ]=true)<|Y 3 (ag 1 av cV)<|aH 0 (at_+1)<|aB 2 (stx 1 (M (at_+1)) dK cV bc)<|dY 0 [(0,pt p 0),(2,pt rb 0),(3,pt nb 0),(6,pt iJ 0)] cf [iJ,p] aW (ih _ J (at_+1) (ad s at_) none 0 0 (some ⟨H1.n+0,0,none⟩) 1 3 _ aM eU rS zG d1 ce hs J J ((Gc td (JJ J)).symm.trans hR) rfl)
noncomputable def VC:Code:=cw [1,1,0,0,0,1,1,1,0,0,0] (cx Tryz.f89)
theorem QL (p:Nat) (nb:Nat) (rb:Nat) (iJ:Nat) (s:ByteArray) (op:Int) (wr:Int) (R:Int):∀(m:Nat) (at_:Int) (xa:Int) (eC:Option Addr) (xn:Nat) (xc:Nat) (eD:Option Addr) (eB:Nat) (eA:Nat) (H:Z),aa E G H→(kp:H.get p=some (O (fS s at_ op wr) 119))→(kx:H.get iJ=some (O (kF xa eC xn xc eD eB eA) 100))→(zG:G.n≤iJ)→(d1:p≠iJ)→(ce:G.n≤p)→(hs:(s.size:Int)<100000)→(a0:0≤at_)→(a1:at_≤s.size)→(w0:0<wr)→(hR:at_=R)→((s.size:Int)-at_).toNat=m→
  bV E G 61 VC [(0,pt p 0),(2,pt rb 0),(3,pt nb 0),(6,pt iJ 0)] H [] (fun x T H'=>(x=(.exit 2)∧∃(eW:Int) (yR:Int) (sv:Option Addr) (nI yS:Nat) (qy:Option Addr) (yU yT:Nat),T=aP [(0,pt p 0),(2,pt rb 0),(3,pt nb 0),(6,pt iJ 0)]∧(H'.get p=some (lz s eW op wr)∧H'.get iJ=some (O [ab yR,.slice sv nI yS,.slice qy yU yT] 100)∧eW=R))):=by
 refine dJ fun m ih=>?_
 intro at_ xa eC xn xc eD eB eA H y kp kx zG d1 ce hs a0 a1 w0 hR hm
 refine cN y ?_
 obtain ⟨_,H1,c1,ak,y1,rfl⟩:=C8 p s at_ op wr 42 y kp J hs J J J
 have bZ:=y.kept ak aq kp
 obtain ⟨_,H2,c2,aF,ar,rfl⟩:=C8 p s at_ op wr 43 y1 bZ J hs J J J
 have cV:=y1.kept aF aq bZ
 obtain ⟨_,H3,c3,bq,aM,rfl⟩:=C8 p s at_ op wr 63 ar cV J hs J J J
 have eU:=ar.kept bq aq cV
 have rQ:=y.kept ak aq kx
 have rR:=y1.kept aF aq rQ
 have rS:=ar.kept bq aq rR
 exact ac 1 c1<|ac 2 c2<|ac 3 c3<|cF 1 [(0,pt p 0),(2,pt rb 0),(3,pt nb 0),(6,pt iJ 0)] (.exit 2) H3 ⟨rfl,at_,xa,eC,xn,xc,eD,eB,eA,rfl,⟨eU,rS,hR⟩⟩
noncomputable def VD:Code:=cw [1,1,0,0] (cx Tryz.f89)
noncomputable abbrev FF H2:=news H2 (bt dI)
noncomputable abbrev FG H2 eM eR eQ eN eS eP eO:=news H2 (bt (fX eM eR eQ eN eS eP eO))
noncomputable abbrev p7 dy dD dC dz dE dB dA:=([ab dy,.slice dD dC dz,.slice dE dB dA]:List Value)
theorem QN (p:Nat) (nb:Nat) (rb:Nat) (s:ByteArray) (n:Nat) (e5:Int) (R:Option (Int×Int)):∀(m:Nat) (at_:Int) (op:Int) (wr:Int) (q:Nat) (l:List hP) (H:Z),aa E G H→(kp:H.get p=some (O (fS s at_ op wr) 119))→(bp:H.get nb=some (O [ab 44,.slice none 0 0,sc q 0 l.length 6] 100))→(nu:H.get rb=some (O dI 100))→(b9:H.get q=some (O (oO l) 100))→(hs:(s.size:Int)<100000)→(ce:G.n≤p)→(gn:G.n≤nb)→(jf:G.n≤rb)→(d1:p≠nb)→(d2:p≠rb)→(d3:nb≠rb)→(b0:0≤e5)→(b1:e5≤at_)→(a1:at_≤s.size)→(me:wr=0∨0<wr)→(hA:vq s n)→(hn:((s.size:Int)-e5).toNat≤n)→(hR:wr=0→k8 s at_ op=R)→(hN:0<wr→R=none)→(eJ:G.n≤q)→(e1:p≠q)→(e2:nb≠q)→(bc:rb≠q)→(d8:(l.length:Int)≤at_+wr+2)→2*((s.size:Int)-at_).toNat+(1-wr).toNat=m→
  bV E G 61 VD [(0,pt p 0),(2,pt rb 0),(3,pt nb 0)] H [p,nb,rb,q] (fun x T H'=>(x=.ret∧∃(eW su jv:Int) (yR:Int) (sv:Option Addr) (nI yS:Nat) (qy:Option Addr) (yU yT:Nat),T=aP [(2,pt rb 0)]∧(H'.get p=some (lz s eW su jv)∧H'.get rb=some (O [ab yR,.slice sv nI yS,.slice qy yU yT] 100)∧e5≤eW∧eW≤s.size∧(jv=0∨0<jv)∧(jv=0→R=some (eW,su))∧(0<jv→R=none)))):=by
 refine dJ fun m ih=>?_
 intro at_ op wr q l H y kp bp nu b9 hs ce gn jf d1 d2 d3 b0 b1 a1 me hA hn hR hN eJ e1 e2 bc d8 hm
 refine cN y ?_
 have gH:=y.wf.lt kp
 have rZ:=y.wf.lt bp
 have abe:=y.wf.lt nu
 have qP:=y.wf.lt b9
 rcases me with rfl |me
 ·obtain ⟨_,H1,c1,ak,y1,bE⟩:=AC p s at_ op y kp J hs J J
  rcases bE with ⟨rfl,Ax⟩ |⟨rfl,Ko⟩
  ·have c8:H.n+0≤H1.n:=ak.n
   have cS:=y.kept ak aq bp
   have kS:=y.kept ak aq nu
   obtain ⟨aK,e2⟩:∃ ao,ao=H1.set rb (O [ab 44,.slice none 0 0,sc q 0 l.length 6] 100):=⟨_,rfl⟩
   have kT:=bz e2
   have bZ:=y.kept ak aq kp
   have cV:=bW e2 J bZ
   exact ac 1 c1<|Y 11 (cd fz cZ cS rfl rfl:al E 100 nb 0 H1=some (.agg #[ab 44,.slice none 0 0,sc q 0 l.length 6]))<|aB 0 (stx 0 (.agg #[ab 44,.slice none 0 0,sc q 0 l.length 6]) cZ kS e2)<|c5 0 [(2,pt rb 0)] .ret aK [rb] aW aZ ⟨rfl,at_,op,0,44,none,0,0,some ⟨q,0,none⟩,l.length,6,rfl,⟨cV,kT,J,J,J,fun _=>(hR rfl).symm.trans (sQ (fun h=>absurd h.1 J)),fun h=>absurd h J⟩⟩
  have c8:H.n+0≤H1.n:=ak.n
  refine ac 1 c1<|aY 9 (ad s at_) 124 ?_ ?_ <;> intro h3 cY
  ·have cS:=y.kept ak aq bp
   have kS:=y.kept ak aq nu
   obtain ⟨aK,e2⟩:∃ ao,ao=H1.set rb (O [ab 44,.slice none 0 0,sc q 0 l.length 6] 100):=⟨_,rfl⟩
   have kT:=bz e2
   have bZ:=y.kept ak aq kp
   have cV:=bW e2 J bZ
   exact Y 3 (cd fz cZ cS rfl rfl:al E 100 nb 0 H1=some (.agg #[ab 44,.slice none 0 0,sc q 0 l.length 6]))<|aB 0 (stx 0 (.agg #[ab 44,.slice none 0 0,sc q 0 l.length 6]) cZ kS e2)<|c5 0 [(2,pt rb 0)] .ret aK [rb] aW aZ ⟨rfl,at_,op,0,44,none,0,0,some ⟨q,0,none⟩,l.length,6,rfl,⟨cV,kT,J,J,J,fun _=>(hR rfl).symm.trans (sQ (fun h=>h.2 (Fg J))),fun h=>absurd h J⟩⟩
  refine aY 3 (ad s at_) 41 ?_ ?_ <;> intro h4 cO
  ·have cS:=y.kept ak aq bp
   have kS:=y.kept ak aq nu
   obtain ⟨aK,e2⟩:∃ ao,ao=H1.set rb (O [ab 44,.slice none 0 0,sc q 0 l.length 6] 100):=⟨_,rfl⟩
   have kT:=bz e2
   have bZ:=y.kept ak aq kp
   have cV:=bW e2 J bZ
   exact Y 1 (cd fz cZ cS rfl rfl:al E 100 nb 0 H1=some (.agg #[ab 44,.slice none 0 0,sc q 0 l.length 6]))<|aB 0 (stx 0 (.agg #[ab 44,.slice none 0 0,sc q 0 l.length 6]) cZ kS e2)<|c5 0 [(2,pt rb 0)] .ret aK [rb] aW aZ ⟨rfl,at_,op,0,44,none,0,0,some ⟨q,0,none⟩,l.length,6,rfl,⟨cV,kT,J,J,J,fun _=>(hR rfl).symm.trans (sQ (fun h=>h.2 (Fg J))),fun h=>absurd h J⟩⟩
  have bZ:=y.kept ak aq kp
  obtain ⟨_,H2,c2,aF,ar,cX⟩:=QH p s at_ op n y1 bZ J hs J J hA J J
  rcases cX with ⟨gO,r5,⟨eM,eR,eQ,eN,eS,eP,eO,rfl⟩,fi,iP,oD,bj⟩ |⟨gO,r5,vk,⟨eM,eR,eQ,eN,eS,eP,eO,rfl⟩,fi,iP,Oe,oD,bj⟩
  ·have cB:H1.n+0≤H2.n:=aF.n
   have g2:=ar.n
   obtain ⟨_,_,H3,c3,bq,aM,rfl,m8,dy,dD,dC,dz,dE,dB,dA,rfl,mQ,x6,Di⟩:=(QK p nb rb (H2.n+0) s r5 0 (oa s gO) _ gO eM eR eQ eN eS eP eO _ (ar.news (bt (fX eM eR eQ eN eS eP eO))) (ar.old fi (bt (fX eM eR eQ eN eS eP eO))) (aR (bt (fX eM eR eQ eN eS eP eO)) H2 0 _ rfl) J J ce hs J J rfl rfl).code
   have ek:=d9 bq
   have g3:=aM.n
   have ad3:=KC s gO
   have cS:=y.kept ak aq bp
   have ed:=y1.kept aF bU cS
   have eo:=(ar.news (bt (fX eM eR eQ eN eS eP eO))).kept bq bU (ar.old ed (bt (fX eM eR eQ eN eS eP eO)))
   have eY:=y.kept ak aq b9
   have gC:=y1.kept aF bU eY
   have hM:=(ar.news (bt (fX eM eR eQ eN eS eP eO))).kept bq bU (ar.old gC (bt (fX eM eR eQ eN eS eP eO)))
   obtain ⟨b6,aN⟩:∃ ao,ao=((news H3 (bt (p7 dy dD dC dz dE dB dA))).set q .dead).new (O (oO (l++[hP.mk dy dD dC dz dE dB dA])) 100):=⟨_,rfl⟩
   have cu:aa E G b6:=pM (aM.news (bt (p7 dy dD dC dz dE dB dA))) aN J (by rw [dj];simp only [dX,e3];omega)
   have gm:b6.n=H3.n+2:=by rw [pN aN,dj] <;> rfl
   have kU:b6.get (H3.n+1)=some (O (oO (l++[hP.mk dy dD dC dz dE dB dA])) 100):=pO aN
   have fo:=jU (aM.news (bt (p7 dy dD dC dz dE dB dA))) aN J (aM.old eo (bt (p7 dy dD dC dz dE dB dA)))
   obtain ⟨d6,bJ⟩:∃ ao,ao=b6.set nb (O [ab 44,.slice none 0 0,sc (H3.n+1) 0 ((l++[hP.mk dy dD dC dz dE dB dA]).length) 6] 100):=⟨_,rfl⟩
   have dQ:aa E G d6:=bJ▸cu.set _ J J
   have iR:d6.n=b6.n+0:=by rw [bJ,Z.cI] <;> rfl
   have i6:=bz bJ
   have eG:=jU (aM.news (bt (p7 dy dD dC dz dE dB dA))) aN J (aM.old mQ (bt (p7 dy dD dC dz dE dB dA)))
   have e8:=bW bJ J eG
   have kS:=y.kept ak aq nu
   have kT:=y1.kept aF bU kS
   have xV:=(ar.news (bt (fX eM eR eQ eN eS eP eO))).kept bq bU (ar.old kT (bt (fX eM eR eQ eN eS eP eO)))
   have xX:=jU (aM.news (bt (p7 dy dD dC dz dE dB dA))) aN J (aM.old xV (bt (p7 dy dD dC dz dE dB dA)))
   have Jb:=bW bJ J xX
   have rU:=bW bJ J kU
   exact ac 2 c2<|aB 1 (bG cZ rfl rfl rfl rfl:bu E 100 (H2.n+0) 0 (.agg (fX eM eR eQ eN eS eP eO).toArray) (FF H2)=some (FG H2 eM eR eQ eN eS eP eO))<|bx 0 c3<|Y 1 (ag 2 vy eo)<|Y 0 (cd fz cZ x6 rfl rfl:al E 100 (H2.n+0) 0 H3=some (.agg (p7 dy dD dC dz dE dB dA).toArray))<|g8 1 (show gZ E #[98,98] (sc q 0 l.length 6) (sc (H3.n+0) 0 1 3) (news H3 (bt (p7 dy dD dC dz dE dB dA)))=some (sc (H3.n+1) 0 ((l++[hP.mk dy dD dC dz dE dB dA]).length) 6,b6,[q],[q,H3.n+0]) from (pd DQ rfl (show g9 (news H3 (bt (p7 dy dD dC dz dE dB dA))) 3 (sc (H3.n+0) 0 1 3)=some (1,[ab dy,.slice dD dC dz,.slice dE dB dA],[H3.n+0]) from js (aR (bt (p7 dy dD dC dz dE dB dA)) H3 0 _ rfl) (gg rfl)) rfl (aM.old hM (bt (p7 dy dD dC dz dE dB dA))) (by rw [Ao];omega) J).trans (by rw [FO l dy dD dC dz dE dB dA,FP l dy dD dC dz dE dB dA,aN] <;> rfl))<|aB 1 (stx 2 (sc (H3.n+1) 0 ((l++[hP.mk dy dD dC dz dE dB dA]).length) 6) wI fo bJ)<|ji 0 [(0,pt p 0),(2,pt rb 0),(3,pt nb 0)] d6 [p,H2.n+0,p,H2.n+0,q,nb] aJ aJ (ih _ J m8 r5 0 (H3.n+1) (l++[hP.mk dy dD dC dz dE dB dA]) _ dQ e8 i6 Jb rU hs ce gn jf d1 d2 d3 b0 J J J hA hn (fun _=>(D6 J (Fh J) (by rw [KE iP,Di]) J).symm.trans (hR rfl)) (fun h=>absurd h J) J J J J (by simp only [List.length_append,dX,e3];omega) rfl)
  have cB:H1.n+0≤H2.n:=aF.n
  have g2:=ar.n
  obtain ⟨_,_,H3,c3,bq,aM,rfl,m8,dy,dD,dC,dz,dE,dB,dA,rfl,mQ,x6,Di⟩:=(QL p nb rb (H2.n+0) s r5 vk gO _ gO eM eR eQ eN eS eP eO _ (ar.news (bt (fX eM eR eQ eN eS eP eO))) (ar.old fi (bt (fX eM eR eQ eN eS eP eO))) (aR (bt (fX eM eR eQ eN eS eP eO)) H2 0 _ rfl) J J ce hs J J J rfl rfl).code
  have ek:=d9 bq
  have g3:=aM.n
  have cS:=y.kept ak aq bp
  have ed:=y1.kept aF bU cS
  have eo:=(ar.news (bt (fX eM eR eQ eN eS eP eO))).kept bq aq (ar.old ed (bt (fX eM eR eQ eN eS eP eO)))
  have eY:=y.kept ak aq b9
  have gC:=y1.kept aF bU eY
  have hM:=(ar.news (bt (fX eM eR eQ eN eS eP eO))).kept bq aq (ar.old gC (bt (fX eM eR eQ eN eS eP eO)))
  obtain ⟨b6,aN⟩:∃ ao,ao=((news H3 (bt (p7 dy dD dC dz dE dB dA))).set q .dead).new (O (oO (l++[hP.mk dy dD dC dz dE dB dA])) 100):=⟨_,rfl⟩
  have cu:aa E G b6:=pM (aM.news (bt (p7 dy dD dC dz dE dB dA))) aN J (by rw [dj];simp only [dX,e3];omega)
  have gm:b6.n=H3.n+2:=by rw [pN aN,dj] <;> rfl
  have kU:b6.get (H3.n+1)=some (O (oO (l++[hP.mk dy dD dC dz dE dB dA])) 100):=pO aN
  have fo:=jU (aM.news (bt (p7 dy dD dC dz dE dB dA))) aN J (aM.old eo (bt (p7 dy dD dC dz dE dB dA)))
  obtain ⟨d6,bJ⟩:∃ ao,ao=b6.set nb (O [ab 44,.slice none 0 0,sc (H3.n+1) 0 ((l++[hP.mk dy dD dC dz dE dB dA]).length) 6] 100):=⟨_,rfl⟩
  have dQ:aa E G d6:=bJ▸cu.set _ J J
  have iR:d6.n=b6.n+0:=by rw [bJ,Z.cI] <;> rfl
  have i6:=bz bJ
  have eG:=jU (aM.news (bt (p7 dy dD dC dz dE dB dA))) aN J (aM.old mQ (bt (p7 dy dD dC dz dE dB dA)))
  have e8:=bW bJ J eG
  have kS:=y.kept ak aq nu
  have kT:=y1.kept aF bU kS
  have xV:=(ar.news (bt (fX eM eR eQ eN eS eP eO))).kept bq aq (ar.old kT (bt (fX eM eR eQ eN eS eP eO)))
  have xX:=jU (aM.news (bt (p7 dy dD dC dz dE dB dA))) aN J (aM.old xV (bt (p7 dy dD dC dz dE dB dA)))
  have Jb:=bW bJ J xX
  have rU:=bW bJ J kU
  exact ac 2 c2<|aB 1 (bG cZ rfl rfl rfl rfl:bu E 100 (H2.n+0) 0 (.agg (fX eM eR eQ eN eS eP eO).toArray) (FF H2)=some (FG H2 eM eR eQ eN eS eP eO))<|bx 0 c3<|Y 1 (ag 2 vy eo)<|Y 0 (cd fz cZ x6 rfl rfl:al E 100 (H2.n+0) 0 H3=some (.agg (p7 dy dD dC dz dE dB dA).toArray))<|g8 1 (show gZ E #[98,98] (sc q 0 l.length 6) (sc (H3.n+0) 0 1 3) (news H3 (bt (p7 dy dD dC dz dE dB dA)))=some (sc (H3.n+1) 0 ((l++[hP.mk dy dD dC dz dE dB dA]).length) 6,b6,[q],[q,H3.n+0]) from (pd DQ rfl (show g9 (news H3 (bt (p7 dy dD dC dz dE dB dA))) 3 (sc (H3.n+0) 0 1 3)=some (1,[ab dy,.slice dD dC dz,.slice dE dB dA],[H3.n+0]) from js (aR (bt (p7 dy dD dC dz dE dB dA)) H3 0 _ rfl) (gg rfl)) rfl (aM.old hM (bt (p7 dy dD dC dz dE dB dA))) (by rw [Ao];omega) J).trans (by rw [FO l dy dD dC dz dE dB dA,FP l dy dD dC dz dE dB dA,aN] <;> rfl))<|aB 1 (stx 2 (sc (H3.n+1) 0 ((l++[hP.mk dy dD dC dz dE dB dA]).length) 6) wI fo bJ)<|ji 0 [(0,pt p 0),(2,pt rb 0),(3,pt nb 0)] d6 [p,H2.n+0,q,nb] aJ aJ (ih _ J m8 r5 vk (H3.n+1) (l++[hP.mk dy dD dC dz dE dB dA]) _ dQ e8 i6 Jb rU hs ce gn jf d1 d2 d3 b0 J J J hA hn (fun h=>absurd h J) (fun _=>(hR rfl).symm.trans (D5 J (Fh J) (KD iP))) J J J J (by simp only [List.length_append,dX,e3];omega) rfl)
 obtain ⟨_,H1,c1,ak,y1,rfl⟩:=Kz p s at_ op wr y kp J hs J J J
 have c8:H.n+0≤H1.n:=ak.n
 have cS:=y.kept ak aq bp
 have kS:=y.kept ak aq nu
 obtain ⟨aK,e2⟩:∃ ao,ao=H1.set rb (O [ab 44,.slice none 0 0,sc q 0 l.length 6] 100):=⟨_,rfl⟩
 have kT:=bz e2
 have bZ:=y.kept ak aq kp
 have cV:=bW e2 J bZ
 exact ac 1 c1<|Y 11 (cd fz cZ cS rfl rfl:al E 100 nb 0 H1=some (.agg #[ab 44,.slice none 0 0,sc q 0 l.length 6]))<|aB 0 (stx 0 (.agg #[ab 44,.slice none 0 0,sc q 0 l.length 6]) cZ kS e2)<|c5 0 [(2,pt rb 0)] .ret aK [rb] aW aZ ⟨rfl,at_,op,wr,44,none,0,0,some ⟨q,0,none⟩,l.length,6,rfl,⟨cV,kT,J,J,J,fun h=>absurd h J,fun _=>hN J⟩⟩
noncomputable def VE:Code:=cw [1,1,0,0] (cx Tryz.f89)
noncomputable abbrev eT:=([ab 44,.slice none 0 0,.slice none 0 0]:List Value)
theorem adD (p:Nat) (nb:Nat) (rb:Nat) (s:ByteArray) (n:Nat) (e5:Int) (R:Option (Int×Int)):∀(m:Nat) (at_:Int) (op:Int) (wr:Int) (H:Z),aa E G H→(kp:H.get p=some (O (fS s at_ op wr) 119))→(bp:H.get nb=some (O eT 100))→(nu:H.get rb=some (O dI 100))→(hs:(s.size:Int)<100000)→(ce:G.n≤p)→(gn:G.n≤nb)→(jf:G.n≤rb)→(d1:p≠nb)→(d2:p≠rb)→(d3:nb≠rb)→(b0:0≤e5)→(b1:e5≤at_)→(a1:at_≤s.size)→(me:wr=0∨0<wr)→(hA:vq s n)→(hn:((s.size:Int)-e5).toNat≤n)→(hR:wr=0→k8 s at_ op=R)→(hN:0<wr→R=none)→2*((s.size:Int)-at_).toNat+(1-wr).toNat=m→
  bV E G 61 VE [(0,pt p 0),(2,pt rb 0),(3,pt nb 0)] H [p,nb,rb] (fun x T H'=>(x=.ret∧∃(eW su jv:Int) (yR:Int) (sv:Option Addr) (nI yS:Nat) (qy:Option Addr) (yU yT:Nat),T=aP [(2,pt rb 0)]∧(H'.get p=some (lz s eW su jv)∧H'.get rb=some (O [ab yR,.slice sv nI yS,.slice qy yU yT] 100)∧e5≤eW∧eW≤s.size∧(jv=0∨0<jv)∧(jv=0→R=some (eW,su))∧(0<jv→R=none)))):=by
 refine dJ fun m ih=>?_
 intro at_ op wr H y kp bp nu hs ce gn jf d1 d2 d3 b0 b1 a1 me hA hn hR hN hm
 refine cN y ?_
 have gH:=y.wf.lt kp
 have rZ:=y.wf.lt bp
 have abe:=y.wf.lt nu
 rcases me with rfl |me
 ·obtain ⟨_,H1,c1,ak,y1,bE⟩:=AC p s at_ op y kp J hs J J
  rcases bE with ⟨rfl,Ax⟩ |⟨rfl,Ko⟩
  ·have c8:H.n+0≤H1.n:=ak.n
   have cS:=y.kept ak aq bp
   have kS:=y.kept ak aq nu
   obtain ⟨aK,e2⟩:∃ ao,ao=H1.set rb (O eT 100):=⟨_,rfl⟩
   have kT:=bz e2
   have bZ:=y.kept ak aq kp
   have cV:=bW e2 J bZ
   exact ac 1 c1<|Y 11 (cd fz cZ cS rfl rfl:al E 100 nb 0 H1=some (.agg (List.toArray eT)))<|aB 0 (stx 0 (.agg (List.toArray eT)) cZ kS e2)<|c5 0 [(2,pt rb 0)] .ret aK [rb] aW aZ ⟨rfl,at_,op,0,44,none,0,0,none,0,0,rfl,⟨cV,kT,J,J,J,fun _=>(hR rfl).symm.trans (sQ (fun h=>absurd h.1 J)),fun h=>absurd h J⟩⟩
  have c8:H.n+0≤H1.n:=ak.n
  refine ac 1 c1<|aY 9 (ad s at_) 124 ?_ ?_ <;> intro h3 cY
  ·have cS:=y.kept ak aq bp
   have kS:=y.kept ak aq nu
   obtain ⟨aK,e2⟩:∃ ao,ao=H1.set rb (O eT 100):=⟨_,rfl⟩
   have kT:=bz e2
   have bZ:=y.kept ak aq kp
   have cV:=bW e2 J bZ
   exact Y 3 (cd fz cZ cS rfl rfl:al E 100 nb 0 H1=some (.agg (List.toArray eT)))<|aB 0 (stx 0 (.agg (List.toArray eT)) cZ kS e2)<|c5 0 [(2,pt rb 0)] .ret aK [rb] aW aZ ⟨rfl,at_,op,0,44,none,0,0,none,0,0,rfl,⟨cV,kT,J,J,J,fun _=>(hR rfl).symm.trans (sQ (fun h=>h.2 (Fg J))),fun h=>absurd h J⟩⟩
  refine aY 3 (ad s at_) 41 ?_ ?_ <;> intro h4 cO
  ·have cS:=y.kept ak aq bp
   have kS:=y.kept ak aq nu
   obtain ⟨aK,e2⟩:∃ ao,ao=H1.set rb (O eT 100):=⟨_,rfl⟩
   have kT:=bz e2
   have bZ:=y.kept ak aq kp
   have cV:=bW e2 J bZ
   exact Y 1 (cd fz cZ cS rfl rfl:al E 100 nb 0 H1=some (.agg (List.toArray eT)))<|aB 0 (stx 0 (.agg (List.toArray eT)) cZ kS e2)<|c5 0 [(2,pt rb 0)] .ret aK [rb] aW aZ ⟨rfl,at_,op,0,44,none,0,0,none,0,0,rfl,⟨cV,kT,J,J,J,fun _=>(hR rfl).symm.trans (sQ (fun h=>h.2 (Fg J))),fun h=>absurd h J⟩⟩
  have bZ:=y.kept ak aq kp
  obtain ⟨_,H2,c2,aF,ar,cX⟩:=QH p s at_ op n y1 bZ J hs J J hA J J
  rcases cX with ⟨gO,r5,⟨eM,eR,eQ,eN,eS,eP,eO,rfl⟩,fi,iP,oD,bj⟩ |⟨gO,r5,vk,⟨eM,eR,eQ,eN,eS,eP,eO,rfl⟩,fi,iP,Oe,oD,bj⟩
  ·have cB:H1.n+0≤H2.n:=aF.n
   have g2:=ar.n
   obtain ⟨_,_,H3,c3,bq,aM,rfl,m8,dy,dD,dC,dz,dE,dB,dA,rfl,mQ,x6,Di⟩:=(QK p nb rb (H2.n+0) s r5 0 (oa s gO) _ gO eM eR eQ eN eS eP eO _ (ar.news (bt (fX eM eR eQ eN eS eP eO))) (ar.old fi (bt (fX eM eR eQ eN eS eP eO))) (aR (bt (fX eM eR eQ eN eS eP eO)) H2 0 _ rfl) J J ce hs J J rfl rfl).code
   have ek:=d9 bq
   have g3:=aM.n
   have ad3:=KC s gO
   have cS:=y.kept ak aq bp
   have ed:=y1.kept aF bU cS
   have eo:=(ar.news (bt (fX eM eR eQ eN eS eP eO))).kept bq bU (ar.old ed (bt (fX eM eR eQ eN eS eP eO)))
   obtain ⟨b6,aN⟩:∃ ao,ao=(news H3 [O (p7 dy dD dC dz dE dB dA) 100,O (p7 dy dD dC dz dE dB dA) 100]).set nb (O [ab 44,.slice none 0 0,sc (H3.n+1) 0 1 6] 100):=⟨_,rfl⟩
   have cu:aa E G b6:=aN▸(aM.news [O (p7 dy dD dC dz dE dB dA) 100,O (p7 dy dD dC dz dE dB dA) 100]).set _ J (by rw [dj];simp only [dX,e3];omega)
   have gm:b6.n=H3.n+2:=by rw [aN,Z.cI,dj] <;> rfl
   have kU:=bW aN J (aR [O (p7 dy dD dC dz dE dB dA) 100,O (p7 dy dD dC dz dE dB dA) 100] H3 1 _ rfl)
   have fo:=bz aN
   have eG:=bW aN J (aM.old mQ [O (p7 dy dD dC dz dE dB dA) 100,O (p7 dy dD dC dz dE dB dA) 100])
   have kS:=y.kept ak aq nu
   have kT:=y1.kept aF bU kS
   have xV:=(ar.news (bt (fX eM eR eQ eN eS eP eO))).kept bq bU (ar.old kT (bt (fX eM eR eQ eN eS eP eO)))
   have xX:=bW aN J (aM.old xV [O (p7 dy dD dC dz dE dB dA) 100,O (p7 dy dD dC dz dE dB dA) 100])
   exact ac 2 c2<|aB 1 (bG cZ rfl rfl rfl rfl:bu E 100 (H2.n+0) 0 (.agg (fX eM eR eQ eN eS eP eO).toArray) (FF H2)=some (FG H2 eM eR eQ eN eS eP eO))<|bx 0 c3<|Y 1 (ag 2 vy eo)<|Y 0 (cd fz cZ x6 rfl rfl:al E 100 (H2.n+0) 0 H3=some (.agg (p7 dy dD dC dz dE dB dA).toArray))<|g8 1 (show gZ E #[98,98] (.slice none 0 0) (sc (H3.n+0) 0 1 3) (news H3 (bt (p7 dy dD dC dz dE dB dA)))=some (sc (H3.n+1) 0 1 6,news H3 [O (p7 dy dD dC dz dE dB dA) 100,O (p7 dy dD dC dz dE dB dA) 100],[],[H3.n+0]) from sM DQ rfl (show g9 (news H3 (bt (p7 dy dD dC dz dE dB dA))) 3 (sc (H3.n+0) 0 1 3)=some (1,[ab dy,.slice dD dC dz,.slice dE dB dA],[H3.n+0]) from js (aR (bt (p7 dy dD dC dz dE dB dA)) H3 0 _ rfl) (gg rfl)) rfl (by decide) (by decide))<|aB 1 (stx 2 (sc (H3.n+1) 0 1 6) wI (aM.old eo [O (p7 dy dD dC dz dE dB dA) 100,O (p7 dy dD dC dz dE dB dA) 100]) aN)<|ji 0 [(0,pt p 0),(2,pt rb 0),(3,pt nb 0)] b6 [p,H2.n+0,p,H2.n+0,nb] aJ aJ (QN p nb rb s n e5 R _ m8 r5 0 (H3.n+1) ([hP.mk dy dD dC dz dE dB dA]) _ cu eG fo xX kU hs ce gn jf d1 d2 d3 b0 J J J hA hn (fun _=>(D6 J (Fh J) (by rw [KE iP,Di]) J).symm.trans (hR rfl)) (fun h=>absurd h J) J J J J (by simp only [List.length_append,dX,e3];omega) rfl)
  have cB:H1.n+0≤H2.n:=aF.n
  have g2:=ar.n
  obtain ⟨_,_,H3,c3,bq,aM,rfl,m8,dy,dD,dC,dz,dE,dB,dA,rfl,mQ,x6,Di⟩:=(QL p nb rb (H2.n+0) s r5 vk gO _ gO eM eR eQ eN eS eP eO _ (ar.news (bt (fX eM eR eQ eN eS eP eO))) (ar.old fi (bt (fX eM eR eQ eN eS eP eO))) (aR (bt (fX eM eR eQ eN eS eP eO)) H2 0 _ rfl) J J ce hs J J J rfl rfl).code
  have ek:=d9 bq
  have g3:=aM.n
  have cS:=y.kept ak aq bp
  have ed:=y1.kept aF bU cS
  have eo:=(ar.news (bt (fX eM eR eQ eN eS eP eO))).kept bq aq (ar.old ed (bt (fX eM eR eQ eN eS eP eO)))
  obtain ⟨b6,aN⟩:∃ ao,ao=(news H3 [O (p7 dy dD dC dz dE dB dA) 100,O (p7 dy dD dC dz dE dB dA) 100]).set nb (O [ab 44,.slice none 0 0,sc (H3.n+1) 0 1 6] 100):=⟨_,rfl⟩
  have cu:aa E G b6:=aN▸(aM.news [O (p7 dy dD dC dz dE dB dA) 100,O (p7 dy dD dC dz dE dB dA) 100]).set _ J (by rw [dj];simp only [dX,e3];omega)
  have gm:b6.n=H3.n+2:=by rw [aN,Z.cI,dj] <;> rfl
  have kU:=bW aN J (aR [O (p7 dy dD dC dz dE dB dA) 100,O (p7 dy dD dC dz dE dB dA) 100] H3 1 _ rfl)
  have fo:=bz aN
  have eG:=bW aN J (aM.old mQ [O (p7 dy dD dC dz dE dB dA) 100,O (p7 dy dD dC dz dE dB dA) 100])
  have kS:=y.kept ak aq nu
  have kT:=y1.kept aF bU kS
  have xV:=(ar.news (bt (fX eM eR eQ eN eS eP eO))).kept bq aq (ar.old kT (bt (fX eM eR eQ eN eS eP eO)))
  have xX:=bW aN J (aM.old xV [O (p7 dy dD dC dz dE dB dA) 100,O (p7 dy dD dC dz dE dB dA) 100])
  exact ac 2 c2<|aB 1 (bG cZ rfl rfl rfl rfl:bu E 100 (H2.n+0) 0 (.agg (fX eM eR eQ eN eS eP eO).toArray) (FF H2)=some (FG H2 eM eR eQ eN eS eP eO))<|bx 0 c3<|Y 1 (ag 2 vy eo)<|Y 0 (cd fz cZ x6 rfl rfl:al E 100 (H2.n+0) 0 H3=some (.agg (p7 dy dD dC dz dE dB dA).toArray))<|g8 1 (show gZ E #[98,98] (.slice none 0 0) (sc (H3.n+0) 0 1 3) (news H3 (bt (p7 dy dD dC dz dE dB dA)))=some (sc (H3.n+1) 0 1 6,news H3 [O (p7 dy dD dC dz dE dB dA) 100,O (p7 dy dD dC dz dE dB dA) 100],[],[H3.n+0]) from sM DQ rfl (show g9 (news H3 (bt (p7 dy dD dC dz dE dB dA))) 3 (sc (H3.n+0) 0 1 3)=some (1,[ab dy,.slice dD dC dz,.slice dE dB dA],[H3.n+0]) from js (aR (bt (p7 dy dD dC dz dE dB dA)) H3 0 _ rfl) (gg rfl)) rfl (by decide) (by decide))<|aB 1 (stx 2 (sc (H3.n+1) 0 1 6) wI (aM.old eo [O (p7 dy dD dC dz dE dB dA) 100,O (p7 dy dD dC dz dE dB dA) 100]) aN)<|ji 0 [(0,pt p 0),(2,pt rb 0),(3,pt nb 0)] b6 [p,H2.n+0,nb] aJ aJ (QN p nb rb s n e5 R _ m8 r5 vk (H3.n+1) ([hP.mk dy dD dC dz dE dB dA]) _ cu eG fo xX kU hs ce gn jf d1 d2 d3 b0 J J J hA hn (fun h=>absurd h J) (fun _=>(hR rfl).symm.trans (D5 J (Fh J) (KD iP))) J J J J (by simp only [List.length_append,dX,e3];omega) rfl)
 obtain ⟨_,H1,c1,ak,y1,rfl⟩:=Kz p s at_ op wr y kp J hs J J J
 have c8:H.n+0≤H1.n:=ak.n
 have cS:=y.kept ak aq bp
 have kS:=y.kept ak aq nu
 obtain ⟨aK,e2⟩:∃ ao,ao=H1.set rb (O eT 100):=⟨_,rfl⟩
 have kT:=bz e2
 have bZ:=y.kept ak aq kp
 have cV:=bW e2 J bZ
 exact ac 1 c1<|Y 11 (cd fz cZ cS rfl rfl:al E 100 nb 0 H1=some (.agg (List.toArray eT)))<|aB 0 (stx 0 (.agg (List.toArray eT)) cZ kS e2)<|c5 0 [(2,pt rb 0)] .ret aK [rb] aW aZ ⟨rfl,at_,op,wr,44,none,0,0,none,0,0,rfl,⟨cV,kT,J,J,J,fun h=>absurd h J,fun _=>hN J⟩⟩
end Go.Proofs.YtglmagcldkngbaaGreatDoor
