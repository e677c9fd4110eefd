/- Part of the proof that TreeKids answers true. -/
import Derived.Test.YtbehemdcaiigeaaGreatDoorR07
set_option linter.unusedVariables false
set_option linter.unusedSimpArgs false
set_option maxRecDepth 100000
set_option maxHeartbeats 4000000
namespace Go.Proofs.YtbehemdcaiigeaaGreatDoor
open Go Go.Am
theorem wZ {x:aw} (h:x.f.k=1):mA x=qU x:=by
 unfold mA
 rw [h]
 simp only [show ((1:Int)==1)=true from rfl,cond_true,cond_false]
theorem Bd {x:aw} (h:x.f.k=2):mA x=AJ x:=by
 unfold mA
 rw [h]
 simp only [show ((2:Int)==1)=false from rfl,show ((2:Int)==2)=true from rfl,cond_true,cond_false]
theorem vh {x:aw} (h:x.f.k=3):mA x=ic x:=by
 unfold mA
 rw [h]
 simp only [show ((3:Int)==1)=false from rfl,show ((3:Int)==2)=false from rfl,show ((3:Int)==3)=true from rfl,cond_true,cond_false]
theorem vi {x:aw} (h:x.f.k=4):mA x=so x:=by
 unfold mA
 rw [h]
 simp only [show ((4:Int)==1)=false from rfl,show ((4:Int)==2)=false from rfl,show ((4:Int)==3)=false from rfl,show ((4:Int)==4)=true from rfl,cond_true,cond_false]
theorem vj {x:aw} (h:x.f.k=5):mA x=qF x:=by
 unfold mA
 rw [h]
 simp only [show ((5:Int)==1)=false from rfl,show ((5:Int)==2)=false from rfl,show ((5:Int)==3)=false from rfl,show ((5:Int)==4)=false from rfl,show ((5:Int)==5)=true from rfl,cond_true,cond_false]
theorem nP {x:aw} (h:x.f.k=6):mA x=mb x:=by
 unfold mA
 rw [h]
 simp only [show ((6:Int)==1)=false from rfl,show ((6:Int)==2)=false from rfl,show ((6:Int)==3)=false from rfl,show ((6:Int)==4)=false from rfl,show ((6:Int)==5)=false from rfl,show ((6:Int)==6)=true from rfl,cond_true,cond_false]
theorem w4 {x:aw} (h:x.f.k=7):mA x=vQ x:=by
 unfold mA
 rw [h]
 simp only [show ((7:Int)==1)=false from rfl,show ((7:Int)==2)=false from rfl,show ((7:Int)==3)=false from rfl,show ((7:Int)==4)=false from rfl,show ((7:Int)==5)=false from rfl,show ((7:Int)==6)=false from rfl,cond_true,cond_false]
theorem afT (c:aw) (X:U) (hx:aa E G X) (ih:∀{H:U},aa E X H→aI E X 19 [.agg (ae c.f).toArray] H [] (fun v _=>v=.bool (fb c))) {H:U} (y:aa E X H):aI E X 48 [.agg (ae c.f).toArray] H [] (fun v H'=>v=.bool (!fb c)):=by
 refine br Tryz.f48 y ?_
 obtain ⟨_,H1,c1,af,y1,b7⟩:=fh (ih (y.news [O (ae c.f) 27]))
 refine Z 2 (dy cv bH rfl rfl rfl:ay E 27 (H.n+0) 0 (news H [O (ae c.f) 27])=some (.agg (ae c.f).toArray))<|?_
 rcases b7 with ⟨rfl,cq⟩ |⟨rfl,cq⟩
 ·exact ad 0 c1<|al 2 Y H1 (by rw [cq] <;> rfl)
 exact ad 0 c1<|al 2 aN H1 (by rw [cq] <;> rfl)
noncomputable def Vw:Code:=cN [1,0,1,0,0] (cH Tryz.f77)
theorem UK (x:aw) (X:U) (hx:aa E G X) (a:dG X x) (gr:∀ k∈x.kids,∀{H:U},aa E X H→aI E X 19 [.agg (ae k.f).toArray] H [] (fun v _=>v=.bool (fb k))) (R:Bool):∀(m:Nat) (cx:Int) (H:U),aa E X H→(x0:0≤cx)→(hR:jJ (x.kids.drop cx.toNat)=R)→((x.f.an:Int)-cx).toNat=m→
  cy E X 19 Vw [(0,.slice x.f.pk x.f.an x.f.ak),(1,bQ 48),(7,J (x.f.an:Int)),(8,J cx)] H [] (fun eI T H'=>(eI=(.exit 0)∧T=bl []∧(R=false))∨(eI=.ret∧∃(gD:Int),T=bl [(4,J gD)]∧((R=true)∧(0≤gD)))):=by
 refine d8 fun m ih=>?_
 intro cx H y x0 hR hm
 have bd:=a.lL
 refine c9 y ?_
 refine aO 0 (cx<(x.f.an:Int)) ?_ ?_ <;> intro h1 q1
 ·obtain ⟨d1,jC,t1,eE,dh⟩:=a.rk.open D
  have eG:=hx.wf.lt dh
  obtain ⟨au,m2⟩:=a.ua (i:=cx.toNat) D
  obtain ⟨_,H1,c1,af,y1,b7⟩:=fh (afT au X hx (fun y=>gr au (lb m2) y) y)
  refine et 5 H (gz jS bH eE D D:fE E 25 (.slice x.f.pk x.f.an x.f.ak) (J cx)=some (pt d1 (0+cx.toNat*13)))<|Z 0 (kR cv bH (y.cell dh eG) m2 D:ay E 27 d1 (0+cx.toNat*13) H=some (.agg (ae au.f).toArray))<|?_
  rcases b7 with ⟨rfl,cq⟩ |⟨rfl,cq⟩
  ·exact ad 0 c1<|dF 2 [(4,J cx)] .ret H1 (.inr ⟨rfl,cx,rfl,⟨vf (F:=jJ) yV m2 hR cq,D⟩⟩)
  exact ad 0 c1<|ap 0 (cx+1)<|dU 1 [(0,.slice x.f.pk x.f.an x.f.ak),(1,bQ 48),(7,J (x.f.an:Int)),(8,J (cx+1))] H1 (ih _ D (cx+1) _ y1 D (by rw [fR D];exact (vg (F:=jJ) yV m2 hR cq)) rfl)
 exact dF 0 [] (.exit 0) H (.inl ⟨rfl,rfl,ve (F:=jJ) Eg hR (by have:=a.an;omega)⟩)
theorem aab (x:aw) (X:U) (hx:aa E G X) (a:dG X x) (gr:∀ k∈x.kids,∀{H:U},aa E X H→aI E X 19 [.agg (ae k.f).toArray] H [] (fun v _=>v=.bool (fb k))) {H:U} (y:aa E X H):aI E X 77 [.slice x.f.pk x.f.an x.f.ak,bQ 48] H [] (fun v H'=>(∃ n:Int,v=J n∧0≤n∧jJ x.kids=true)∨(v=J (-1)∧jJ x.kids=false)):=by
 refine br Tryz.f77 y ?_
 obtain ⟨_,_,H1,c1,af,y1,b7⟩:=(UK x X hx a gr (jJ x.kids) _ 0 _ y D rfl rfl).code
 rcases b7 with ⟨rfl,rfl,cM⟩ |⟨rfl,ck,rfl,cM,lE⟩
 ·exact bW 4 c1<|al 1 (J (-1)) H1 (.inr ⟨rfl,cM⟩)
 exact bW 4 c1<|al 0 (J ck) H1 (.inl ⟨_,rfl,lE,cM⟩)
theorem xl (x:aw) (X:U) (hx:aa E G X) (a:dG X x) (gr:∀ k∈x.kids,∀{H:U},aa E X H→aI E X 19 [.agg (ae k.f).toArray] H [] (fun v _=>v=.bool (fb k))) {H:U} (y:aa E X H):aI E X 47 [.slice x.f.pk x.f.an x.f.ak,bQ 48] H [] (fun v H'=>v=.bool (jJ x.kids)):=by
 refine br Tryz.f47 y ?_
 obtain ⟨_,H1,c1,af,y1,b7⟩:=aab x X hx a gr y
 rcases b7 with ⟨yt,rfl,pE,cq⟩ |⟨rfl,cq⟩
 ·exact ad 3 c1<|aH 0 (decide_eq_true D:(decide (yt≥0))=true)<|al 1 aN H1 (by rw [cq])
 exact ad 3 c1<|al 2 Y H1 (by rw [cq])
noncomputable abbrev mN H (x:aw):=news H [O (ae x.f) 27]
noncomputable abbrev nr H (x:aw):=news H [O (ae x.f) 27,O (ae x.f) 66]
noncomputable abbrev nt H (x:aw):=news H [O (ae x.f) 27,O (ae x.f) 66,O [.nilFunc,.nilFunc,.nilFunc,.nilFunc,.nilFunc,.nilFunc,.nilFunc] 68]
noncomputable abbrev jL:=([bQ 39,bQ 40,bQ 41,bQ 42,bQ 43,bQ 44,bQ 45]:List Value)
noncomputable abbrev d9 H (x:aw):=news H [O (ae x.f) 27,O (ae x.f) 66,O jL 68]
theorem afU (x:aw) (X:U) (hx:aa E G X) (a:dG X x) (hz:lu x) (Y5:x.f.k=3→(!(x.f.s.toList==(⟨#[]⟩:ByteArray).toList))=true→hU x.f.s=true) (Y2:x.f.k=4→hU x.f.s=true) (gr:∀ k∈x.kids,∀{H:U},aa E X H→aI E X 19 [.agg (ae k.f).toArray] H [] (fun v _=>v=.bool (fb k))) {H:U} (y:aa E X H):aI E X 19 [.agg (ae x.f).toArray] H [] (fun v H'=>v=.bool (fb x)):=by
 refine br Tryz.f19 y ?_
 rcases ep (decide (x.f.k<1)) with h1 |h1
 ·exact Z 2 (dy cv bH rfl rfl rfl:ay E 27 (H.n+0) 0 (mN H x)=some (.agg (ae x.f).toArray))<|aC 2 (bT fp rfl rfl rfl rfl:bp E 66 (H.n+1) 0 (.agg (ae x.f).toArray) (news H [O (ae x.f) 27,O (dg Y) 66])=some (nr H x))<|aC 2 (bT nC rfl rfl rfl rfl:bp E 68 (H.n+2) 0 (.agg (List.toArray jL)) (nt H x)=some (d9 H x))<|Z 1 (aR (d9 H x) 0 0 aJ)<|aH 0 h1<|aV 7 Y (d9 H x) [H.n+1,H.n+2] aQ aZ (by rw [i3,gK,h1] <;> rfl)
 have q1:=gl h1
 rcases ep (decide (x.f.k>7)) with h2 |h2
 ·exact Z 2 (dy cv bH rfl rfl rfl:ay E 27 (H.n+0) 0 (mN H x)=some (.agg (ae x.f).toArray))<|aC 2 (bT fp rfl rfl rfl rfl:bp E 66 (H.n+1) 0 (.agg (ae x.f).toArray) (news H [O (ae x.f) 27,O (dg Y) 66])=some (nr H x))<|aC 2 (bT nC rfl rfl rfl rfl:bp E 68 (H.n+2) 0 (.agg (List.toArray jL)) (nt H x)=some (d9 H x))<|Z 1 (aR (d9 H x) 0 0 aJ)<|aH 0 h1<|Z 2 (aR (d9 H x) 0 0 aJ)<|aH 0 h2<|aV 6 Y (d9 H x) [H.n+1,H.n+2] aQ aZ (by rw [i3,gK,h1,h2] <;> rfl)
 have cw:=gl h2
 obtain ⟨_,H1,c1,af,y1,b7⟩:=fh (aee x.f X hx (y.news [O (ae x.f) 27,O (ae x.f) 66,O jL 68]))
 rcases b7 with ⟨rfl,cq⟩ |⟨rfl,cq⟩
 ·have cI:=CF af
  have aP:=(y.news [O (ae x.f) 27,O (ae x.f) 66,O jL 68]).kept af ai (aL [O (ae x.f) 27,O (ae x.f) 66,O jL 68] H 0 _ rfl)
  have jg:=(y.news [O (ae x.f) 27,O (ae x.f) 66,O jL 68]).kept af ai (aL [O (ae x.f) 27,O (ae x.f) 66,O jL 68] H 1 _ rfl)
  have mG:=(y.news [O (ae x.f) 27,O (ae x.f) 66,O jL 68]).kept af ai (aL [O (ae x.f) 27,O (ae x.f) 66,O jL 68] H 2 _ rfl)
  rcases (show x.f.k=1∨x.f.k=2∨x.f.k=3∨x.f.k=4∨x.f.k=5∨x.f.k=6∨x.f.k=7 by omega) with hk |hk |hk |hk |hk |hk |hk
  ·obtain ⟨_,H2,c2,ar,ah,dC⟩:=fh (aea x X hx a hz y1)
   rcases dC with ⟨rfl,cJ⟩ |⟨rfl,cJ⟩
   ·have cl:H1.n+0≤H2.n:=ar.n
    have cL:=y1.kept ar ai aP
    obtain ⟨_,H3,c3,aW,az,fo⟩:=fh (xl x X hx a gr ah)
    refine Z 2 (dy cv bH rfl rfl rfl:ay E 27 (H.n+0) 0 (mN H x)=some (.agg (ae x.f).toArray))<|aC 2 (bT fp rfl rfl rfl rfl:bp E 66 (H.n+1) 0 (.agg (ae x.f).toArray) (news H [O (ae x.f) 27,O (dg Y) 66])=some (nr H x))<|aC 2 (bT nC rfl rfl rfl rfl:bp E 68 (H.n+2) 0 (.agg (List.toArray jL)) (nt H x)=some (d9 H x))<|Z 1 (aR (d9 H x) 0 0 aJ)<|aH 0 h1<|Z 2 (aR (d9 H x) 0 0 aJ)<|aH 0 h2<|Z 2 (dy hO fp rfl rfl rfl:ay E 66 (H.n+1) 0 (d9 H x)=some (.agg (ae x.f).toArray))<|ad 0 c1<|Z 4 (ag 0 aJ aP)<|ap 0 (x.f.k-1)<|bR 0 (x.f.k-1) (7:Int)<|Z 0 (show ay E 67 (H.n+2) (0+(x.f.k-1).toNat*1) H1=some (bQ 39) from d7 pg mG (show ([bQ 39,bQ 40,bQ 41,bQ 42,bQ 43,bQ 44,bQ 45]:List Value)[0+(x.f.k-1).toNat*1]?=_ by rw [hk] <;> rfl))<|Z 0 (cg hO fp jg rfl rfl:ay E 66 (H.n+1) 0 H1=some (.agg (ae x.f).toArray))<|ad 0 c2<|Z 3 (ag 12 dK cL)<|?_
    rcases fo with ⟨rfl,eh⟩ |⟨rfl,eh⟩
    ·have dD:H2.n+0≤H3.n:=aW.n
     exact ad 0 c3<|aV 2 Y H3 [H.n+1,H.n+2] aQ aZ (by rw [i3,gK,h1,h2,cq,wZ hk,cJ,eh] <;> rfl)
    have dD:H2.n+0≤H3.n:=aW.n
    exact ad 0 c3<|aV 2 aN H3 [H.n+1,H.n+2] aQ aZ (by rw [i3,gK,h1,h2,cq,wZ hk,cJ,eh] <;> rfl)
   have cl:H1.n+0≤H2.n:=ar.n
   exact Z 2 (dy cv bH rfl rfl rfl:ay E 27 (H.n+0) 0 (mN H x)=some (.agg (ae x.f).toArray))<|aC 2 (bT fp rfl rfl rfl rfl:bp E 66 (H.n+1) 0 (.agg (ae x.f).toArray) (news H [O (ae x.f) 27,O (dg Y) 66])=some (nr H x))<|aC 2 (bT nC rfl rfl rfl rfl:bp E 68 (H.n+2) 0 (.agg (List.toArray jL)) (nt H x)=some (d9 H x))<|Z 1 (aR (d9 H x) 0 0 aJ)<|aH 0 h1<|Z 2 (aR (d9 H x) 0 0 aJ)<|aH 0 h2<|Z 2 (dy hO fp rfl rfl rfl:ay E 66 (H.n+1) 0 (d9 H x)=some (.agg (ae x.f).toArray))<|ad 0 c1<|Z 4 (ag 0 aJ aP)<|ap 0 (x.f.k-1)<|bR 0 (x.f.k-1) (7:Int)<|Z 0 (show ay E 67 (H.n+2) (0+(x.f.k-1).toNat*1) H1=some (bQ 39) from d7 pg mG (show ([bQ 39,bQ 40,bQ 41,bQ 42,bQ 43,bQ 44,bQ 45]:List Value)[0+(x.f.k-1).toNat*1]?=_ by rw [hk] <;> rfl))<|Z 0 (cg hO fp jg rfl rfl:ay E 66 (H.n+1) 0 H1=some (.agg (ae x.f).toArray))<|ad 0 c2<|aV 3 Y H2 [H.n+1,H.n+2] aQ aZ (by rw [i3,gK,h1,h2,cq,wZ hk,cJ] <;> rfl)
  ·obtain ⟨_,H2,c2,ar,ah,dC⟩:=fh (aed x X hx a hz y1)
   rcases dC with ⟨rfl,cJ⟩ |⟨rfl,cJ⟩
   ·have cl:H1.n+0≤H2.n:=ar.n
    have cL:=y1.kept ar ai aP
    obtain ⟨_,H3,c3,aW,az,fo⟩:=fh (xl x X hx a gr ah)
    refine Z 2 (dy cv bH rfl rfl rfl:ay E 27 (H.n+0) 0 (mN H x)=some (.agg (ae x.f).toArray))<|aC 2 (bT fp rfl rfl rfl rfl:bp E 66 (H.n+1) 0 (.agg (ae x.f).toArray) (news H [O (ae x.f) 27,O (dg Y) 66])=some (nr H x))<|aC 2 (bT nC rfl rfl rfl rfl:bp E 68 (H.n+2) 0 (.agg (List.toArray jL)) (nt H x)=some (d9 H x))<|Z 1 (aR (d9 H x) 0 0 aJ)<|aH 0 h1<|Z 2 (aR (d9 H x) 0 0 aJ)<|aH 0 h2<|Z 2 (dy hO fp rfl rfl rfl:ay E 66 (H.n+1) 0 (d9 H x)=some (.agg (ae x.f).toArray))<|ad 0 c1<|Z 4 (ag 0 aJ aP)<|ap 0 (x.f.k-1)<|bR 0 (x.f.k-1) (7:Int)<|Z 0 (show ay E 67 (H.n+2) (0+(x.f.k-1).toNat*1) H1=some (bQ 40) from d7 pg mG (show ([bQ 39,bQ 40,bQ 41,bQ 42,bQ 43,bQ 44,bQ 45]:List Value)[0+(x.f.k-1).toNat*1]?=_ by rw [hk] <;> rfl))<|Z 0 (cg hO fp jg rfl rfl:ay E 66 (H.n+1) 0 H1=some (.agg (ae x.f).toArray))<|ad 0 c2<|Z 3 (ag 12 dK cL)<|?_
    rcases fo with ⟨rfl,eh⟩ |⟨rfl,eh⟩
    ·have dD:H2.n+0≤H3.n:=aW.n
     exact ad 0 c3<|aV 2 Y H3 [H.n+1,H.n+2] aQ aZ (by rw [i3,gK,h1,h2,cq,Bd hk,cJ,eh] <;> rfl)
    have dD:H2.n+0≤H3.n:=aW.n
    exact ad 0 c3<|aV 2 aN H3 [H.n+1,H.n+2] aQ aZ (by rw [i3,gK,h1,h2,cq,Bd hk,cJ,eh] <;> rfl)
   have cl:H1.n+0≤H2.n:=ar.n
   exact Z 2 (dy cv bH rfl rfl rfl:ay E 27 (H.n+0) 0 (mN H x)=some (.agg (ae x.f).toArray))<|aC 2 (bT fp rfl rfl rfl rfl:bp E 66 (H.n+1) 0 (.agg (ae x.f).toArray) (news H [O (ae x.f) 27,O (dg Y) 66])=some (nr H x))<|aC 2 (bT nC rfl rfl rfl rfl:bp E 68 (H.n+2) 0 (.agg (List.toArray jL)) (nt H x)=some (d9 H x))<|Z 1 (aR (d9 H x) 0 0 aJ)<|aH 0 h1<|Z 2 (aR (d9 H x) 0 0 aJ)<|aH 0 h2<|Z 2 (dy hO fp rfl rfl rfl:ay E 66 (H.n+1) 0 (d9 H x)=some (.agg (ae x.f).toArray))<|ad 0 c1<|Z 4 (ag 0 aJ aP)<|ap 0 (x.f.k-1)<|bR 0 (x.f.k-1) (7:Int)<|Z 0 (show ay E 67 (H.n+2) (0+(x.f.k-1).toNat*1) H1=some (bQ 40) from d7 pg mG (show ([bQ 39,bQ 40,bQ 41,bQ 42,bQ 43,bQ 44,bQ 45]:List Value)[0+(x.f.k-1).toNat*1]?=_ by rw [hk] <;> rfl))<|Z 0 (cg hO fp jg rfl rfl:ay E 66 (H.n+1) 0 H1=some (.agg (ae x.f).toArray))<|ad 0 c2<|aV 3 Y H2 [H.n+1,H.n+2] aQ aZ (by rw [i3,gK,h1,h2,cq,Bd hk,cJ] <;> rfl)
  ·obtain ⟨_,H2,c2,ar,ah,dC⟩:=fh (aec x X hx a hz (Y5 hk) y1)
   rcases dC with ⟨rfl,cJ⟩ |⟨rfl,cJ⟩
   ·have cl:H1.n+0≤H2.n:=ar.n
    have cL:=y1.kept ar ai aP
    obtain ⟨_,H3,c3,aW,az,fo⟩:=fh (xl x X hx a gr ah)
    refine Z 2 (dy cv bH rfl rfl rfl:ay E 27 (H.n+0) 0 (mN H x)=some (.agg (ae x.f).toArray))<|aC 2 (bT fp rfl rfl rfl rfl:bp E 66 (H.n+1) 0 (.agg (ae x.f).toArray) (news H [O (ae x.f) 27,O (dg Y) 66])=some (nr H x))<|aC 2 (bT nC rfl rfl rfl rfl:bp E 68 (H.n+2) 0 (.agg (List.toArray jL)) (nt H x)=some (d9 H x))<|Z 1 (aR (d9 H x) 0 0 aJ)<|aH 0 h1<|Z 2 (aR (d9 H x) 0 0 aJ)<|aH 0 h2<|Z 2 (dy hO fp rfl rfl rfl:ay E 66 (H.n+1) 0 (d9 H x)=some (.agg (ae x.f).toArray))<|ad 0 c1<|Z 4 (ag 0 aJ aP)<|ap 0 (x.f.k-1)<|bR 0 (x.f.k-1) (7:Int)<|Z 0 (show ay E 67 (H.n+2) (0+(x.f.k-1).toNat*1) H1=some (bQ 41) from d7 pg mG (show ([bQ 39,bQ 40,bQ 41,bQ 42,bQ 43,bQ 44,bQ 45]:List Value)[0+(x.f.k-1).toNat*1]?=_ by rw [hk] <;> rfl))<|Z 0 (cg hO fp jg rfl rfl:ay E 66 (H.n+1) 0 H1=some (.agg (ae x.f).toArray))<|ad 0 c2<|Z 3 (ag 12 dK cL)<|?_
    rcases fo with ⟨rfl,eh⟩ |⟨rfl,eh⟩
    ·have dD:H2.n+0≤H3.n:=aW.n
     exact ad 0 c3<|aV 2 Y H3 [H.n+1,H.n+2] aQ aZ (by rw [i3,gK,h1,h2,cq,vh hk,cJ,eh] <;> rfl)
    have dD:H2.n+0≤H3.n:=aW.n
    exact ad 0 c3<|aV 2 aN H3 [H.n+1,H.n+2] aQ aZ (by rw [i3,gK,h1,h2,cq,vh hk,cJ,eh] <;> rfl)
   have cl:H1.n+0≤H2.n:=ar.n
   exact Z 2 (dy cv bH rfl rfl rfl:ay E 27 (H.n+0) 0 (mN H x)=some (.agg (ae x.f).toArray))<|aC 2 (bT fp rfl rfl rfl rfl:bp E 66 (H.n+1) 0 (.agg (ae x.f).toArray) (news H [O (ae x.f) 27,O (dg Y) 66])=some (nr H x))<|aC 2 (bT nC rfl rfl rfl rfl:bp E 68 (H.n+2) 0 (.agg (List.toArray jL)) (nt H x)=some (d9 H x))<|Z 1 (aR (d9 H x) 0 0 aJ)<|aH 0 h1<|Z 2 (aR (d9 H x) 0 0 aJ)<|aH 0 h2<|Z 2 (dy hO fp rfl rfl rfl:ay E 66 (H.n+1) 0 (d9 H x)=some (.agg (ae x.f).toArray))<|ad 0 c1<|Z 4 (ag 0 aJ aP)<|ap 0 (x.f.k-1)<|bR 0 (x.f.k-1) (7:Int)<|Z 0 (show ay E 67 (H.n+2) (0+(x.f.k-1).toNat*1) H1=some (bQ 41) from d7 pg mG (show ([bQ 39,bQ 40,bQ 41,bQ 42,bQ 43,bQ 44,bQ 45]:List Value)[0+(x.f.k-1).toNat*1]?=_ by rw [hk] <;> rfl))<|Z 0 (cg hO fp jg rfl rfl:ay E 66 (H.n+1) 0 H1=some (.agg (ae x.f).toArray))<|ad 0 c2<|aV 3 Y H2 [H.n+1,H.n+2] aQ aZ (by rw [i3,gK,h1,h2,cq,vh hk,cJ] <;> rfl)
  ·obtain ⟨_,H2,c2,ar,ah,dC⟩:=fh (ad7 x X hx a hz (Y2 hk) y1)
   rcases dC with ⟨rfl,cJ⟩ |⟨rfl,cJ⟩
   ·have cl:H1.n+0≤H2.n:=ar.n
    have cL:=y1.kept ar ai aP
    obtain ⟨_,H3,c3,aW,az,fo⟩:=fh (xl x X hx a gr ah)
    refine Z 2 (dy cv bH rfl rfl rfl:ay E 27 (H.n+0) 0 (mN H x)=some (.agg (ae x.f).toArray))<|aC 2 (bT fp rfl rfl rfl rfl:bp E 66 (H.n+1) 0 (.agg (ae x.f).toArray) (news H [O (ae x.f) 27,O (dg Y) 66])=some (nr H x))<|aC 2 (bT nC rfl rfl rfl rfl:bp E 68 (H.n+2) 0 (.agg (List.toArray jL)) (nt H x)=some (d9 H x))<|Z 1 (aR (d9 H x) 0 0 aJ)<|aH 0 h1<|Z 2 (aR (d9 H x) 0 0 aJ)<|aH 0 h2<|Z 2 (dy hO fp rfl rfl rfl:ay E 66 (H.n+1) 0 (d9 H x)=some (.agg (ae x.f).toArray))<|ad 0 c1<|Z 4 (ag 0 aJ aP)<|ap 0 (x.f.k-1)<|bR 0 (x.f.k-1) (7:Int)<|Z 0 (show ay E 67 (H.n+2) (0+(x.f.k-1).toNat*1) H1=some (bQ 42) from d7 pg mG (show ([bQ 39,bQ 40,bQ 41,bQ 42,bQ 43,bQ 44,bQ 45]:List Value)[0+(x.f.k-1).toNat*1]?=_ by rw [hk] <;> rfl))<|Z 0 (cg hO fp jg rfl rfl:ay E 66 (H.n+1) 0 H1=some (.agg (ae x.f).toArray))<|ad 0 c2<|Z 3 (ag 12 dK cL)<|?_
    rcases fo with ⟨rfl,eh⟩ |⟨rfl,eh⟩
    ·have dD:H2.n+0≤H3.n:=aW.n
     exact ad 0 c3<|aV 2 Y H3 [H.n+1,H.n+2] aQ aZ (by rw [i3,gK,h1,h2,cq,vi hk,cJ,eh] <;> rfl)
    have dD:H2.n+0≤H3.n:=aW.n
    exact ad 0 c3<|aV 2 aN H3 [H.n+1,H.n+2] aQ aZ (by rw [i3,gK,h1,h2,cq,vi hk,cJ,eh] <;> rfl)
   have cl:H1.n+0≤H2.n:=ar.n
   exact Z 2 (dy cv bH rfl rfl rfl:ay E 27 (H.n+0) 0 (mN H x)=some (.agg (ae x.f).toArray))<|aC 2 (bT fp rfl rfl rfl rfl:bp E 66 (H.n+1) 0 (.agg (ae x.f).toArray) (news H [O (ae x.f) 27,O (dg Y) 66])=some (nr H x))<|aC 2 (bT nC rfl rfl rfl rfl:bp E 68 (H.n+2) 0 (.agg (List.toArray jL)) (nt H x)=some (d9 H x))<|Z 1 (aR (d9 H x) 0 0 aJ)<|aH 0 h1<|Z 2 (aR (d9 H x) 0 0 aJ)<|aH 0 h2<|Z 2 (dy hO fp rfl rfl rfl:ay E 66 (H.n+1) 0 (d9 H x)=some (.agg (ae x.f).toArray))<|ad 0 c1<|Z 4 (ag 0 aJ aP)<|ap 0 (x.f.k-1)<|bR 0 (x.f.k-1) (7:Int)<|Z 0 (show ay E 67 (H.n+2) (0+(x.f.k-1).toNat*1) H1=some (bQ 42) from d7 pg mG (show ([bQ 39,bQ 40,bQ 41,bQ 42,bQ 43,bQ 44,bQ 45]:List Value)[0+(x.f.k-1).toNat*1]?=_ by rw [hk] <;> rfl))<|Z 0 (cg hO fp jg rfl rfl:ay E 66 (H.n+1) 0 H1=some (.agg (ae x.f).toArray))<|ad 0 c2<|aV 3 Y H2 [H.n+1,H.n+2] aQ aZ (by rw [i3,gK,h1,h2,cq,vi hk,cJ] <;> rfl)
  ·obtain ⟨_,H2,c2,ar,ah,dC⟩:=fh (ad8 x X hx a hz y1)
   rcases dC with ⟨rfl,cJ⟩ |⟨rfl,cJ⟩
   ·have cl:H1.n+0≤H2.n:=ar.n
    have cL:=y1.kept ar ai aP
    obtain ⟨_,H3,c3,aW,az,fo⟩:=fh (xl x X hx a gr ah)
    refine Z 2 (dy cv bH rfl rfl rfl:ay E 27 (H.n+0) 0 (mN H x)=some (.agg (ae x.f).toArray))<|aC 2 (bT fp rfl rfl rfl rfl:bp E 66 (H.n+1) 0 (.agg (ae x.f).toArray) (news H [O (ae x.f) 27,O (dg Y) 66])=some (nr H x))<|aC 2 (bT nC rfl rfl rfl rfl:bp E 68 (H.n+2) 0 (.agg (List.toArray jL)) (nt H x)=some (d9 H x))<|Z 1 (aR (d9 H x) 0 0 aJ)<|aH 0 h1<|Z 2 (aR (d9 H x) 0 0 aJ)<|aH 0 h2<|Z 2 (dy hO fp rfl rfl rfl:ay E 66 (H.n+1) 0 (d9 H x)=some (.agg (ae x.f).toArray))<|ad 0 c1<|Z 4 (ag 0 aJ aP)<|ap 0 (x.f.k-1)<|bR 0 (x.f.k-1) (7:Int)<|Z 0 (show ay E 67 (H.n+2) (0+(x.f.k-1).toNat*1) H1=some (bQ 43) from d7 pg mG (show ([bQ 39,bQ 40,bQ 41,bQ 42,bQ 43,bQ 44,bQ 45]:List Value)[0+(x.f.k-1).toNat*1]?=_ by rw [hk] <;> rfl))<|Z 0 (cg hO fp jg rfl rfl:ay E 66 (H.n+1) 0 H1=some (.agg (ae x.f).toArray))<|ad 0 c2<|Z 3 (ag 12 dK cL)<|?_
    rcases fo with ⟨rfl,eh⟩ |⟨rfl,eh⟩
    ·have dD:H2.n+0≤H3.n:=aW.n
     exact ad 0 c3<|aV 2 Y H3 [H.n+1,H.n+2] aQ aZ (by rw [i3,gK,h1,h2,cq,vj hk,cJ,eh] <;> rfl)
    have dD:H2.n+0≤H3.n:=aW.n
    exact ad 0 c3<|aV 2 aN H3 [H.n+1,H.n+2] aQ aZ (by rw [i3,gK,h1,h2,cq,vj hk,cJ,eh] <;> rfl)
   have cl:H1.n+0≤H2.n:=ar.n
   exact Z 2 (dy cv bH rfl rfl rfl:ay E 27 (H.n+0) 0 (mN H x)=some (.agg (ae x.f).toArray))<|aC 2 (bT fp rfl rfl rfl rfl:bp E 66 (H.n+1) 0 (.agg (ae x.f).toArray) (news H [O (ae x.f) 27,O (dg Y) 66])=some (nr H x))<|aC 2 (bT nC rfl rfl rfl rfl:bp E 68 (H.n+2) 0 (.agg (List.toArray jL)) (nt H x)=some (d9 H x))<|Z 1 (aR (d9 H x) 0 0 aJ)<|aH 0 h1<|Z 2 (aR (d9 H x) 0 0 aJ)<|aH 0 h2<|Z 2 (dy hO fp rfl rfl rfl:ay E 66 (H.n+1) 0 (d9 H x)=some (.agg (ae x.f).toArray))<|ad 0 c1<|Z 4 (ag 0 aJ aP)<|ap 0 (x.f.k-1)<|bR 0 (x.f.k-1) (7:Int)<|Z 0 (show ay E 67 (H.n+2) (0+(x.f.k-1).toNat*1) H1=some (bQ 43) from d7 pg mG (show ([bQ 39,bQ 40,bQ 41,bQ 42,bQ 43,bQ 44,bQ 45]:List Value)[0+(x.f.k-1).toNat*1]?=_ by rw [hk] <;> rfl))<|Z 0 (cg hO fp jg rfl rfl:ay E 66 (H.n+1) 0 H1=some (.agg (ae x.f).toArray))<|ad 0 c2<|aV 3 Y H2 [H.n+1,H.n+2] aQ aZ (by rw [i3,gK,h1,h2,cq,vj hk,cJ] <;> rfl)
  ·obtain ⟨_,H2,c2,ar,ah,dC⟩:=fh (aeb x X hx a hz y1)
   rcases dC with ⟨rfl,cJ⟩ |⟨rfl,cJ⟩
   ·have cl:H1.n+0≤H2.n:=ar.n
    have cL:=y1.kept ar ai aP
    obtain ⟨_,H3,c3,aW,az,fo⟩:=fh (xl x X hx a gr ah)
    refine Z 2 (dy cv bH rfl rfl rfl:ay E 27 (H.n+0) 0 (mN H x)=some (.agg (ae x.f).toArray))<|aC 2 (bT fp rfl rfl rfl rfl:bp E 66 (H.n+1) 0 (.agg (ae x.f).toArray) (news H [O (ae x.f) 27,O (dg Y) 66])=some (nr H x))<|aC 2 (bT nC rfl rfl rfl rfl:bp E 68 (H.n+2) 0 (.agg (List.toArray jL)) (nt H x)=some (d9 H x))<|Z 1 (aR (d9 H x) 0 0 aJ)<|aH 0 h1<|Z 2 (aR (d9 H x) 0 0 aJ)<|aH 0 h2<|Z 2 (dy hO fp rfl rfl rfl:ay E 66 (H.n+1) 0 (d9 H x)=some (.agg (ae x.f).toArray))<|ad 0 c1<|Z 4 (ag 0 aJ aP)<|ap 0 (x.f.k-1)<|bR 0 (x.f.k-1) (7:Int)<|Z 0 (show ay E 67 (H.n+2) (0+(x.f.k-1).toNat*1) H1=some (bQ 44) from d7 pg mG (show ([bQ 39,bQ 40,bQ 41,bQ 42,bQ 43,bQ 44,bQ 45]:List Value)[0+(x.f.k-1).toNat*1]?=_ by rw [hk] <;> rfl))<|Z 0 (cg hO fp jg rfl rfl:ay E 66 (H.n+1) 0 H1=some (.agg (ae x.f).toArray))<|ad 0 c2<|Z 3 (ag 12 dK cL)<|?_
    rcases fo with ⟨rfl,eh⟩ |⟨rfl,eh⟩
    ·have dD:H2.n+0≤H3.n:=aW.n
     exact ad 0 c3<|aV 2 Y H3 [H.n+1,H.n+2] aQ aZ (by rw [i3,gK,h1,h2,cq,nP hk,cJ,eh] <;> rfl)
    have dD:H2.n+0≤H3.n:=aW.n
    exact ad 0 c3<|aV 2 aN H3 [H.n+1,H.n+2] aQ aZ (by rw [i3,gK,h1,h2,cq,nP hk,cJ,eh] <;> rfl)
   have cl:H1.n+0≤H2.n:=ar.n
   exact Z 2 (dy cv bH rfl rfl rfl:ay E 27 (H.n+0) 0 (mN H x)=some (.agg (ae x.f).toArray))<|aC 2 (bT fp rfl rfl rfl rfl:bp E 66 (H.n+1) 0 (.agg (ae x.f).toArray) (news H [O (ae x.f) 27,O (dg Y) 66])=some (nr H x))<|aC 2 (bT nC rfl rfl rfl rfl:bp E 68 (H.n+2) 0 (.agg (List.toArray jL)) (nt H x)=some (d9 H x))<|Z 1 (aR (d9 H x) 0 0 aJ)<|aH 0 h1<|Z 2 (aR (d9 H x) 0 0 aJ)<|aH 0 h2<|Z 2 (dy hO fp rfl rfl rfl:ay E 66 (H.n+1) 0 (d9 H x)=some (.agg (ae x.f).toArray))<|ad 0 c1<|Z 4 (ag 0 aJ aP)<|ap 0 (x.f.k-1)<|bR 0 (x.f.k-1) (7:Int)<|Z 0 (show ay E 67 (H.n+2) (0+(x.f.k-1).toNat*1) H1=some (bQ 44) from d7 pg mG (show ([bQ 39,bQ 40,bQ 41,bQ 42,bQ 43,bQ 44,bQ 45]:List Value)[0+(x.f.k-1).toNat*1]?=_ by rw [hk] <;> rfl))<|Z 0 (cg hO fp jg rfl rfl:ay E 66 (H.n+1) 0 H1=some (.agg (ae x.f).toArray))<|ad 0 c2<|aV 3 Y H2 [H.n+1,H.n+2] aQ aZ (by rw [i3,gK,h1,h2,cq,nP hk,cJ] <;> rfl)
  obtain ⟨_,H2,c2,ar,ah,dC⟩:=fh (ad9 x X hx a hz y1)
  rcases dC with ⟨rfl,cJ⟩ |⟨rfl,cJ⟩
  ·have cl:H1.n+0≤H2.n:=ar.n
   have cL:=y1.kept ar ai aP
   obtain ⟨_,H3,c3,aW,az,fo⟩:=fh (xl x X hx a gr ah)
   refine Z 2 (dy cv bH rfl rfl rfl:ay E 27 (H.n+0) 0 (mN H x)=some (.agg (ae x.f).toArray))<|aC 2 (bT fp rfl rfl rfl rfl:bp E 66 (H.n+1) 0 (.agg (ae x.f).toArray) (news H [O (ae x.f) 27,O (dg Y) 66])=some (nr H x))<|aC 2 (bT nC rfl rfl rfl rfl:bp E 68 (H.n+2) 0 (.agg (List.toArray jL)) (nt H x)=some (d9 H x))<|Z 1 (aR (d9 H x) 0 0 aJ)<|aH 0 h1<|Z 2 (aR (d9 H x) 0 0 aJ)<|aH 0 h2<|Z 2 (dy hO fp rfl rfl rfl:ay E 66 (H.n+1) 0 (d9 H x)=some (.agg (ae x.f).toArray))<|ad 0 c1<|Z 4 (ag 0 aJ aP)<|ap 0 (x.f.k-1)<|bR 0 (x.f.k-1) (7:Int)<|Z 0 (show ay E 67 (H.n+2) (0+(x.f.k-1).toNat*1) H1=some (bQ 45) from d7 pg mG (show ([bQ 39,bQ 40,bQ 41,bQ 42,bQ 43,bQ 44,bQ 45]:List Value)[0+(x.f.k-1).toNat*1]?=_ by rw [hk] <;> rfl))<|Z 0 (cg hO fp jg rfl rfl:ay E 66 (H.n+1) 0 H1=some (.agg (ae x.f).toArray))<|ad 0 c2<|Z 3 (ag 12 dK cL)<|?_
   rcases fo with ⟨rfl,eh⟩ |⟨rfl,eh⟩
   ·have dD:H2.n+0≤H3.n:=aW.n
    exact ad 0 c3<|aV 2 Y H3 [H.n+1,H.n+2] aQ aZ (by rw [i3,gK,h1,h2,cq,w4 hk,cJ,eh] <;> rfl)
   have dD:H2.n+0≤H3.n:=aW.n
   exact ad 0 c3<|aV 2 aN H3 [H.n+1,H.n+2] aQ aZ (by rw [i3,gK,h1,h2,cq,w4 hk,cJ,eh] <;> rfl)
  have cl:H1.n+0≤H2.n:=ar.n
  exact Z 2 (dy cv bH rfl rfl rfl:ay E 27 (H.n+0) 0 (mN H x)=some (.agg (ae x.f).toArray))<|aC 2 (bT fp rfl rfl rfl rfl:bp E 66 (H.n+1) 0 (.agg (ae x.f).toArray) (news H [O (ae x.f) 27,O (dg Y) 66])=some (nr H x))<|aC 2 (bT nC rfl rfl rfl rfl:bp E 68 (H.n+2) 0 (.agg (List.toArray jL)) (nt H x)=some (d9 H x))<|Z 1 (aR (d9 H x) 0 0 aJ)<|aH 0 h1<|Z 2 (aR (d9 H x) 0 0 aJ)<|aH 0 h2<|Z 2 (dy hO fp rfl rfl rfl:ay E 66 (H.n+1) 0 (d9 H x)=some (.agg (ae x.f).toArray))<|ad 0 c1<|Z 4 (ag 0 aJ aP)<|ap 0 (x.f.k-1)<|bR 0 (x.f.k-1) (7:Int)<|Z 0 (show ay E 67 (H.n+2) (0+(x.f.k-1).toNat*1) H1=some (bQ 45) from d7 pg mG (show ([bQ 39,bQ 40,bQ 41,bQ 42,bQ 43,bQ 44,bQ 45]:List Value)[0+(x.f.k-1).toNat*1]?=_ by rw [hk] <;> rfl))<|Z 0 (cg hO fp jg rfl rfl:ay E 66 (H.n+1) 0 H1=some (.agg (ae x.f).toArray))<|ad 0 c2<|aV 3 Y H2 [H.n+1,H.n+2] aQ aZ (by rw [i3,gK,h1,h2,cq,w4 hk,cJ] <;> rfl)
 have cI:=CF af
 exact Z 2 (dy cv bH rfl rfl rfl:ay E 27 (H.n+0) 0 (mN H x)=some (.agg (ae x.f).toArray))<|aC 2 (bT fp rfl rfl rfl rfl:bp E 66 (H.n+1) 0 (.agg (ae x.f).toArray) (news H [O (ae x.f) 27,O (dg Y) 66])=some (nr H x))<|aC 2 (bT nC rfl rfl rfl rfl:bp E 68 (H.n+2) 0 (.agg (List.toArray jL)) (nt H x)=some (d9 H x))<|Z 1 (aR (d9 H x) 0 0 aJ)<|aH 0 h1<|Z 2 (aR (d9 H x) 0 0 aJ)<|aH 0 h2<|Z 2 (dy hO fp rfl rfl rfl:ay E 66 (H.n+1) 0 (d9 H x)=some (.agg (ae x.f).toArray))<|ad 0 c1<|aV 5 Y H1 [H.n+1,H.n+2] aQ aZ (by rw [i3,gK,h1,h2,cq] <;> rfl)
theorem NV:∀{l:List aw},jJ l=false→∀ k∈l,fb k=true
 |[],_,_,h=>absurd h ai
 |x::l,h,k,hk=>by
  rw [yV,Bool.or_eq_false_iff,Bool.not_eq_false'] at h
  rcases List.mem_cons.1 hk with rfl |hk
  ·exact h.1
  ·exact NV h.2 k hk
theorem Dd {x:aw} (h:fb x=true):∀ k∈x.kids,fb k=true:=by
 rw [i3,dI,Bool.not_eq_true'] at h
 exact NV h.2
theorem wv {x:aw} (h:fb x=true):mA x=true:=by
 rw [i3,gK] at h
 simp only [dI] at h
 exact h.1.2.2.2
theorem afX {x:aw} (h:fb x=true) (hk:x.f.k=3) (hs:(!(x.f.s.toList==(⟨#[]⟩:ByteArray).toList))=true):hU x.f.s=true:=by
 have a:=wv h
 rw [vh hk,ic,dI,hs] at a
 simpa using a.1
theorem afW {x:aw} (h:fb x=true) (hk:x.f.k=4):hU x.f.s=true:=by
 have a:=wv h
 rw [vi hk,so,dI] at a
 exact a.1
theorem ahO (x:aw) (X:U) (hx:aa E G X) (hs:gm X x):nK x→fb x=true→∀{H:U},aa E X H→aI E X 19 [.agg (ae x.f).toArray] H [] (fun v _=>v=.bool (fb x)):=by
 induction hs with
 |@mk x a hk ih=>
  intro hf hr H y
  cases hf with
  |mk hz hf=>exact afU x X hx a hz (afX hr) (afW hr) (fun k hk=>ih k hk (hf k hk) (Dd hr k hk)) y
noncomputable def mS (x:aw):Bool:=decide (di x≤64)&&fb x
theorem TK (x:aw) (X:U) (hx:aa E G X) (hs:gm X x) (hf:nK x) (hr:fb x=true) {H:U} (y:aa E X H):aI E X 10 [.agg (ae x.f).toArray] H [] (fun v H'=>v=.bool (mS x)):=by
 refine br Tryz.f10 y ?_
 obtain ⟨_,H1,c1,af,y1,rfl⟩:=Hy x X hx hs (y.news [O (ae x.f) 27])
 have aP:=(y.news [O (ae x.f) 27]).kept af ai (aL [O (ae x.f) 27] H 0 _ rfl)
 refine Z 2 (dy cv bH rfl rfl rfl:ay E 27 (H.n+0) 0 (mN H x)=some (.agg (ae x.f).toArray))<|ad 0 c1<|aO 0 ((di x)≤64) ?_ ?_ <;> intro h1 q1
 ·obtain ⟨_,H2,c2,ar,ah,dC⟩:=fh (ahO x X hx hs hf hr y1)
  refine Z 1 (cg cv bH aP rfl rfl:ay E 27 (H.n+0) 0 H1=some (.agg (ae x.f).toArray))<|?_
  rcases dC with ⟨rfl,cJ⟩ |⟨rfl,cJ⟩
  ·exact ad 0 c2<|al 2 aN H2 (by rw [mS,h1,cJ] <;> rfl)
  exact ad 0 c2<|al 2 Y H2 (by rw [mS,h1,cJ] <;> rfl)
 exact al 3 Y H1 (by rw [mS,h1] <;> rfl)
theorem afb (s:ByteArray) (i:Int) (lo:Int) (hi:Int) {H:U} (y:aa E G H) (h0:0≤i):aI E G 102 [.string s,J i,ab lo,ab hi] H [] (fun v H'=>v=(.bool (decide (dB s i lo hi)))):=by
 refine br Tryz.f102 y ?_
 refine aO 4 (i<(s.size:Int)) ?_ ?_ <;> intro h1 q1
 ·refine bR 3 i (s.size:Int)<|aO 1 ((ac s i)≥lo) ?_ ?_ <;> intro h2 cw
  ·refine bR 4 i (s.size:Int)<|aO 1 ((ac s i)≤hi) ?_ ?_ <;> intro h3 dv
   ·exact al 2 aN H (congrArg Value.bool (decide_eq_true (⟨D,D,D⟩:dB s i lo hi)).symm)
   exact al 2 Y H (congrArg Value.bool (decide_eq_false (show ¬ dB s i lo hi from fun h=>by unfold dB at h;omega)).symm)
  exact al 4 Y H (congrArg Value.bool (decide_eq_false (show ¬ dB s i lo hi from fun h=>by unfold dB at h;omega)).symm)
 exact al 5 Y H (congrArg Value.bool (decide_eq_false (show ¬ dB s i lo hi from fun h=>by unfold dB at h;omega)).symm)
theorem iB (s:ByteArray) (i:Int) (lo:Int) (hi:Int) (h0:0≤i):∀{H:U},aa E G H→bE E 102 [.string s,J i,ab lo,ab hi] H (.ret (.bool (decide (dB s i lo hi)))) H []:=by
 obtain ⟨_,_,c,_,_,rfl⟩:=afb s i lo hi gE h0
 exact fun y=>gx (iP rfl) (.ground rfl) c y
theorem afr (s:ByteArray) (i:Int) {H:U} (y:aa E G H) (h0:0≤i) (h1:i<s.size) (hs:(s.size:Int)<100000):aI E G 81 [.string s,J i] H [] (fun v H'=>v=(J (fQ s i))):=by
 refine br Tryz.f81 y ?_
 refine bR 3 i (s.size:Int)<|aO 2 ((ac s i)<128) ?_ ?_ <;> intro h1 q1
 ·exact al 2 (J 1) H (congrArg J (L9 D).symm)
 refine aO 2 ((ac s i)≥194) ?_ ?_ <;> intro h2 cw
 ·refine aO 2 ((ac s i)<224) ?_ ?_ <;> intro h3 dv
  ·refine ap 4 (i+1)<|?_
   cases h4:(decide (dB s (i+1) 128 191)) with
   |true=>
    exact ad 0 (c5 h4 (iB s (i+1) 128 191 D y))<|al 3 (J 2) H (congrArg J ((LR D).trans (if_pos (gb h4))).symm)
   |false=>
    exact ad 0 (c5 h4 (iB s (i+1) 128 191 D y))<|aH 3 (decide_eq_false D:(decide ((ac s i)≥224))=false)<|aH 4 (decide_eq_false D:(decide ((ac s i)≥240))=false)<|al 4 (J 0) H (congrArg J ((LR D).trans (if_neg (fun h=>gl h4 h))).symm)
  refine aH 5 (decide_eq_true D:(decide ((ac s i)≥224))=true)<|aO 2 ((ac s i)<240) ?_ ?_ <;> intro h4 dT
  ·refine cS 5 (ac s i) 224 ?_ ?_ <;> intro h5 ff
   ·refine aH 2 (beq_eq_false_iff_ne.2 D:((ac s i)==237)=false)<|ap 2 (i+1)<|?_
    cases h6:(decide (dB s (i+1) 160 191)) with
    |true=>
     refine ad 2 (c5 h6 (iB s (i+1) 160 191 D y))<|ap 3 (i+2)<|?_
     cases h7:(decide (dB s (i+2) 128 191)) with
     |true=>
      exact ad 0 (c5 h7 (iB s (i+2) 128 191 D y))<|al 2 (J 3) H (congrArg J ((GH D).trans (if_pos ⟨gb h6,gb h7⟩)).symm)
     |false=>
      exact ad 0 (c5 h7 (iB s (i+2) 128 191 D y))<|al 2 (J 0) H (congrArg J ((GH D).trans (if_neg (fun h=>gl h7 h.2))).symm)
    |false=>
     exact ad 2 (c5 h6 (iB s (i+1) 160 191 D y))<|al 3 (J 0) H (congrArg J ((GH D).trans (if_neg (fun h=>gl h6 h.1))).symm)
   refine cS 1 (ac s i) 237 ?_ ?_ <;> intro h6 e7
   ·refine ap 3 (i+1)<|?_
    cases h7:(decide (dB s (i+1) 128 159)) with
    |true=>
     refine ad 2 (c5 h7 (iB s (i+1) 128 159 D y))<|ap 3 (i+2)<|?_
     cases h8:(decide (dB s (i+2) 128 191)) with
     |true=>
      exact ad 0 (c5 h8 (iB s (i+2) 128 191 D y))<|al 2 (J 3) H (congrArg J ((GJ D).trans (if_pos ⟨gb h7,gb h8⟩)).symm)
     |false=>
      exact ad 0 (c5 h8 (iB s (i+2) 128 191 D y))<|al 2 (J 0) H (congrArg J ((GJ D).trans (if_neg (fun h=>gl h8 h.2))).symm)
    |false=>
     exact ad 2 (c5 h7 (iB s (i+1) 128 159 D y))<|al 3 (J 0) H (congrArg J ((GJ D).trans (if_neg (fun h=>gl h7 h.1))).symm)
   refine ap 2 (i+1)<|?_
   cases h7:(decide (dB s (i+1) 128 191)) with
   |true=>
    refine ad 2 (c5 h7 (iB s (i+1) 128 191 D y))<|ap 3 (i+2)<|?_
    cases h8:(decide (dB s (i+2) 128 191)) with
    |true=>
     exact ad 0 (c5 h8 (iB s (i+2) 128 191 D y))<|al 2 (J 3) H (congrArg J ((GI D).trans (if_pos ⟨gb h7,gb h8⟩)).symm)
    |false=>
     exact ad 0 (c5 h8 (iB s (i+2) 128 191 D y))<|al 2 (J 0) H (congrArg J ((GI D).trans (if_neg (fun h=>gl h8 h.2))).symm)
   |false=>
    exact ad 2 (c5 h7 (iB s (i+1) 128 191 D y))<|al 3 (J 0) H (congrArg J ((GI D).trans (if_neg (fun h=>gl h7 h.1))).symm)
  refine aH 3 (decide_eq_true D:(decide ((ac s i)≥240))=true)<|aO 2 ((ac s i)<245) ?_ ?_ <;> intro h5 ff
  ·refine cS 5 (ac s i) 240 ?_ ?_ <;> intro h6 e7
   ·refine aH 2 (beq_eq_false_iff_ne.2 D:((ac s i)==244)=false)<|ap 2 (i+1)<|?_
    cases h7:(decide (dB s (i+1) 144 191)) with
    |true=>
     refine ad 2 (c5 h7 (iB s (i+1) 144 191 D y))<|ap 3 (i+2)<|?_
     cases h8:(decide (dB s (i+2) 128 191)) with
     |true=>
      refine ad 0 (c5 h8 (iB s (i+2) 128 191 D y))<|ap 4 (i+3)<|?_
      cases h9:(decide (dB s (i+3) 128 191)) with
      |true=>
       exact ad 0 (c5 h9 (iB s (i+3) 128 191 D y))<|al 2 (J 4) H (congrArg J ((C8 D).trans (if_pos ⟨gb h7,gb h8,gb h9⟩)).symm)
      |false=>
       exact ad 0 (c5 h9 (iB s (i+3) 128 191 D y))<|al 2 (J 0) H (congrArg J ((C8 D).trans (if_neg (fun h=>gl h9 h.2.2))).symm)
     |false=>
      exact ad 0 (c5 h8 (iB s (i+2) 128 191 D y))<|al 4 (J 0) H (congrArg J ((C8 D).trans (if_neg (fun h=>gl h8 h.2.1))).symm)
    |false=>
     exact ad 2 (c5 h7 (iB s (i+1) 144 191 D y))<|al 5 (J 0) H (congrArg J ((C8 D).trans (if_neg (fun h=>gl h7 h.1))).symm)
   refine cS 1 (ac s i) 244 ?_ ?_ <;> intro h7 mR
   ·refine ap 3 (i+1)<|?_
    cases h8:(decide (dB s (i+1) 128 143)) with
    |true=>
     refine ad 2 (c5 h8 (iB s (i+1) 128 143 D y))<|ap 3 (i+2)<|?_
     cases h9:(decide (dB s (i+2) 128 191)) with
     |true=>
      refine ad 0 (c5 h9 (iB s (i+2) 128 191 D y))<|ap 4 (i+3)<|?_
      cases h10:(decide (dB s (i+3) 128 191)) with
      |true=>
       exact ad 0 (c5 h10 (iB s (i+3) 128 191 D y))<|al 2 (J 4) H (congrArg J ((Da D).trans (if_pos ⟨gb h8,gb h9,gb h10⟩)).symm)
      |false=>
       exact ad 0 (c5 h10 (iB s (i+3) 128 191 D y))<|al 2 (J 0) H (congrArg J ((Da D).trans (if_neg (fun h=>gl h10 h.2.2))).symm)
     |false=>
      exact ad 0 (c5 h9 (iB s (i+2) 128 191 D y))<|al 4 (J 0) H (congrArg J ((Da D).trans (if_neg (fun h=>gl h9 h.2.1))).symm)
    |false=>
     exact ad 2 (c5 h8 (iB s (i+1) 128 143 D y))<|al 5 (J 0) H (congrArg J ((Da D).trans (if_neg (fun h=>gl h8 h.1))).symm)
   refine ap 2 (i+1)<|?_
   cases h8:(decide (dB s (i+1) 128 191)) with
   |true=>
    refine ad 2 (c5 h8 (iB s (i+1) 128 191 D y))<|ap 3 (i+2)<|?_
    cases h9:(decide (dB s (i+2) 128 191)) with
    |true=>
     refine ad 0 (c5 h9 (iB s (i+2) 128 191 D y))<|ap 4 (i+3)<|?_
     cases h10:(decide (dB s (i+3) 128 191)) with
     |true=>
      exact ad 0 (c5 h10 (iB s (i+3) 128 191 D y))<|al 2 (J 4) H (congrArg J ((C9 D).trans (if_pos ⟨gb h8,gb h9,gb h10⟩)).symm)
     |false=>
      exact ad 0 (c5 h10 (iB s (i+3) 128 191 D y))<|al 2 (J 0) H (congrArg J ((C9 D).trans (if_neg (fun h=>gl h10 h.2.2))).symm)
    |false=>
     exact ad 0 (c5 h9 (iB s (i+2) 128 191 D y))<|al 4 (J 0) H (congrArg J ((C9 D).trans (if_neg (fun h=>gl h9 h.2.1))).symm)
   |false=>
    exact ad 2 (c5 h8 (iB s (i+1) 128 191 D y))<|al 5 (J 0) H (congrArg J ((C9 D).trans (if_neg (fun h=>gl h8 h.1))).symm)
  exact al 3 (J 0) H (congrArg J (LS D D).symm)
 exact aH 6 (decide_eq_false D:(decide ((ac s i)≥224))=false)<|aH 4 (decide_eq_false D:(decide ((ac s i)≥240))=false)<|al 4 (J 0) H (congrArg J (LS D D).symm)
theorem afq (s:ByteArray) (i:Int) (h0:0≤i) (h1:i<s.size) (hs:(s.size:Int)<100000):∀{H:U},aa E G H→bE E 81 [.string s,J i] H (.ret (J (fQ s i))) H []:=by
 obtain ⟨_,_,c,_,_,rfl⟩:=afr s i gE h0 h1 hs
 exact fun y=>gx (iP rfl) (.ground rfl) c y
noncomputable def Xo:Code:=cN [1,0,1,0,0] (cH Tryz.f53)
theorem ahy (s:ByteArray) (R:Bool):∀(m:Nat) (aD:Int) (H:U),aa E G H→(hs:(s.size:Int)<100000)→(x0:0≤aD)→(hR:fc s aD=R)→((s.size:Int)-aD).toNat=m→
  cy E G 17 Xo [(0,.string s),(3,J aD)] H [] (fun x T H'=>(x=(.exit 0)∧T=bl []∧(R=true))∨(x=.ret∧T=bl [(2,Y)]∧(R=false))):=by
 refine d8 fun m ih=>?_
 intro aD H y hs x0 hR hm
 refine c9 y ?_
 refine aO 3 (aD<(s.size:Int)) ?_ ?_ <;> intro h1 q1
 ·have rb:=Ma s aD
  refine ad 2 (afq s aD D D hs y)<|cS 2 (fQ s aD) 0 ?_ ?_ <;> intro h2 cw
  ·exact dF 1 [(2,Y)] .ret H (.inr ⟨rfl,rfl,ah9 hR D D⟩)
  exact ap 2 (aD+(fQ s aD))<|dU 1 [(0,.string s),(3,J (aD+(fQ s aD)))] H (ih _ D (aD+(fQ s aD)) _ y hs D (ah8 hR D D) rfl)
 exact dF 0 [] (.exit 0) H (.inl ⟨rfl,rfl,aia hR D⟩)
theorem afu (s:ByteArray) {H:U} (y:aa E G H) (hs:(s.size:Int)<100000):aI E G 53 [.string s] H [] (fun v H'=>v=(.bool (fc s 0))):=by
 refine br Tryz.f53 y ?_
 obtain ⟨_,_,H1,c1,af,y1,b7⟩:=(ahy s (fc s 0) _ 0 _ y hs D rfl rfl).code
 rcases b7 with ⟨rfl,rfl,cM⟩ |⟨rfl,rfl,cM⟩
 ·exact bW 2 c1<|al 1 aN H1 (by rw [cM])
 exact bW 2 c1<|al 0 Y H1 (by rw [cM])
theorem So (s:ByteArray) (hs:(s.size:Int)<100000):∀{H:U},aa E G H→bE E 53 [.string s] H (.ret (.bool (fc s 0))) H []:=by
 obtain ⟨_,_,c,_,_,rfl⟩:=afu s gE hs
 exact fun y=>gx (iP rfl) (.ground rfl) c y
theorem afv (s:ByteArray) {H:U} (y:aa E G H):aI E G 21 [.string s] H [] (fun v H'=>v=(.bool (lG s))):=by
 refine br Tryz.f21 y ?_
 refine aO 3 ((s.size:Int)≤200) ?_ ?_ <;> intro h1 q1
 ·cases h2:(fc s 0) with
  |true=>
   exact ad 2 (c5 h2 (So s D y))<|al 2 aN H (by rw [lG,h1,h2] <;> rfl)
  |false=>
   exact ad 2 (c5 h2 (So s D y))<|al 2 Y H (by rw [lG,h1,h2] <;> rfl)
 exact al 3 Y H (by rw [lG,h1] <;> rfl)
theorem Al (s:ByteArray):∀{H:U},aa E G H→bE E 21 [.string s] H (.ret (.bool (lG s))) H []:=by
 obtain ⟨_,_,c,_,_,rfl⟩:=afv s gE
 exact fun y=>gx (iP rfl) (.ground rfl) c y
noncomputable def W1:Code:=cN [1,0,1,0,0] (cH Tryz.f55)
theorem afd (s:ByteArray) (R:Int):∀(m:Nat) (aD:Int) (H:U),aa E G H→(hs:(s.size:Int)<100000)→(x0:0≤aD)→(x1:aD≤s.size)→(hR:gd gY s aD=R)→(hd:aD=0∨iq (ac s 0)=false)→((s.size:Int)-aD).toNat=m→
  cy E G 58 W1 [(0,.string s),(3,J aD)] H [] (fun x T H'=>(x=(.exit 0)∧T=bl [(0,.string s)]∧((R=s.size∨(s.size:Int)≤0)∧((s.size:Int)≤0∨iq (ac s 0)=false)))∨(x=.ret∧T=bl [(2,Y)]∧(R<s.size∨iq (ac s 0)=true))):=by
 refine d8 fun m ih=>?_
 intro aD H y hs x0 x1 hR hd hm
 refine c9 y ?_
 refine aO 3 (aD<(s.size:Int)) ?_ ?_ <;> intro h1 q1
 ·refine bR 2 aD (s.size:Int)<|aO 2 ((ac s aD)≥48) ?_ ?_ <;> intro h2 cw
  ·refine aO 2 ((ac s aD)≤57) ?_ ?_ <;> intro h3 dv
   ·refine cS 14 aD 0 ?_ ?_ <;> intro h4 dT
    ·exact dF 3 [(2,Y)] .ret H (.inr ⟨rfl,rfl,(by first |exact .inl (by have:=ny (Cp D) hR;omega) |exact .inr (by rw [show (0:Int)=aD by omega];exact zm D))⟩)
    exact ap 3 (aD+1)<|dU 1 [(0,.string s),(3,J (aD+1))] H (ih _ D (aD+1) _ y hs D D (oQ D (Cq D) hR) (hd.elim (fun h=>.inr (zl (by rw [← h];omega))) .inr) rfl)
   refine iD 6 (ac s aD) 95 ?_ ?_ <;> intro h4 dT
   ·refine aO 3 ((ac s aD)<97) ?_ ?_ <;> intro h5 ff
    ·refine aO 5 ((ac s aD)<65) ?_ ?_ <;> intro h6 e7
     ·exact dF 6 [(2,Y)] .ret H (.inr ⟨rfl,rfl,(by first |exact .inl (by have:=ny (Cp D) hR;omega) |exact .inr (by rw [show (0:Int)=aD by omega];exact zm D))⟩)
     refine aO 2 ((ac s aD)>90) ?_ ?_ <;> intro h7 mR
     ·exact dF 5 [(2,Y)] .ret H (.inr ⟨rfl,rfl,(by first |exact .inl (by have:=ny (Cp D) hR;omega) |exact .inr (by rw [show (0:Int)=aD by omega];exact zm D))⟩)
     exact ap 8 (aD+1)<|dU 1 [(0,.string s),(3,J (aD+1))] H (ih _ D (aD+1) _ y hs D D (oQ D (Cq D) hR) (hd.elim (fun h=>.inr (zl (by rw [← h];omega))) .inr) rfl)
    refine aO 2 ((ac s aD)>122) ?_ ?_ <;> intro h6 e7
    ·exact aH 4 (decide_eq_false D:(decide ((ac s aD)<65))=false)<|aH 2 (decide_eq_true D:(decide ((ac s aD)>90))=true)<|dF 5 [(2,Y)] .ret H (.inr ⟨rfl,rfl,(by first |exact .inl (by have:=ny (Cp D) hR;omega) |exact .inr (by rw [show (0:Int)=aD by omega];exact zm D))⟩)
    exact ap 10 (aD+1)<|dU 1 [(0,.string s),(3,J (aD+1))] H (ih _ D (aD+1) _ y hs D D (oQ D (Cq D) hR) (hd.elim (fun h=>.inr (zl (by rw [← h];omega))) .inr) rfl)
   exact ap 11 (aD+1)<|dU 1 [(0,.string s),(3,J (aD+1))] H (ih _ D (aD+1) _ y hs D D (oQ D (Cq D) hR) (hd.elim (fun h=>.inr (zl (by rw [← h];omega))) .inr) rfl)
  refine iD 7 (ac s aD) 95 ?_ ?_ <;> intro h3 dv
  ·exact aH 3 (decide_eq_true D:(decide ((ac s aD)<97))=true)<|aH 5 (decide_eq_true D:(decide ((ac s aD)<65))=true)<|dF 6 [(2,Y)] .ret H (.inr ⟨rfl,rfl,(by first |exact .inl (by have:=ny (Cp D) hR;omega) |exact .inr (by rw [show (0:Int)=aD by omega];exact zm D))⟩)
  exact ap 11 (aD+1)<|dU 1 [(0,.string s),(3,J (aD+1))] H (ih _ D (aD+1) _ y hs D D (oQ D (Cq D) hR) (hd.elim (fun h=>.inr (zl (by rw [← h];omega))) .inr) rfl)
 exact dF 0 [(0,.string s)] (.exit 0) H (.inl ⟨rfl,rfl,⟨by have:=At D hR;have:=x1;omega,hd.elim (fun h=>.inl D) .inr⟩⟩)
theorem afe (s:ByteArray) {H:U} (y:aa E G H) (hs:(s.size:Int)<100000):aI E G 55 [.string s] H [] (fun v H'=>v=(.bool (iY s))):=by
 refine br Tryz.f55 y ?_
 obtain ⟨_,_,H1,c1,af,y1,b7⟩:=(afd s (gd gY s 0) _ 0 _ y hs D D rfl (.inl rfl) rfl).code
 rcases b7 with ⟨rfl,rfl,cM,lE⟩ |⟨rfl,rfl,cM⟩
 ·refine bW 2 c1<|aO 2 ((s.size:Int)>0) ?_ ?_ <;> intro h2 cw
  ·refine aO 3 ((s.size:Int)≤200) ?_ ?_ <;> intro h3 dv
   ·exact al 2 aN H1 (congrArg Value.bool (adn D D (lE.resolve_left D) (cM.resolve_right D)).symm)
   exact al 2 Y H1 (congrArg Value.bool (KT (by first |exact .inl D |exact .inr (.inl D))).symm)
  exact al 3 Y H1 (congrArg Value.bool (KT (by first |exact .inl D |exact .inr (.inl D))).symm)
 exact bW 2 c1<|al 0 Y H1 (congrArg Value.bool (KT (cM.elim (fun h=>.inr (.inr (.inr D))) (fun h=>.inr (.inr (.inl h))))).symm)
theorem Aj (s:ByteArray) (hs:(s.size:Int)<100000):∀{H:U},aa E G H→bE E 55 [.string s] H (.ret (.bool (iY s))) H []:=by
 obtain ⟨_,_,c,_,_,rfl⟩:=afe s gE hs
 exact fun y=>gx (iP rfl) (.ground rfl) c y
noncomputable def WZ:Code:=cN [1,0,1,0,0] (cH Tryz.f24)
theorem afa (q:Nat) (ws:List ByteArray) (c:Nat) (s:ByteArray) (R:Bool):∀(m:Nat) (aE:Int) (H:U),aa E G H→(aX:H.get q=some (O (eH ws) 9))→(hl:ws.length<100000)→(x0:0≤aE)→(hR:hasB s (ws.drop aE.toNat)=R)→((ws.length:Int)-aE).toNat=m→
  cy E G 18 WZ [(0,.string s),(1,sc q 0 ws.length c),(5,J aE)] H [] (fun x T H'=>(x=(.exit 0)∧T=bl []∧(R=false))∨(x=.ret∧T=bl [(4,aN)]∧(R=true))):=by
 refine d8 fun m ih=>?_
 intro aE H y aX hl x0 hR hm
 refine c9 y ?_
 refine aO 3 (aE<(ws.length:Int)) ?_ ?_ <;> intro h1 q1
 ·obtain ⟨jr,sV,lX⟩:=yr (ws:=ws) (i:=aE.toNat) D
  refine bR 2 aE (ws.length:Int)<|Z 0 (show ay E 9 q (0+aE.toNat*1) H=some (.string jr) from d7 ct aX (show (eH ws)[0+aE.toNat*1]?=_ by rw [show 0+aE.toNat*1=aE.toNat by omega];exact lX))<|oS 1 (jr.toList==s.toList) (fun h2=>?_) fun h2=>?_
  ·exact dF 1 [(4,aN)] .ret H (.inr ⟨rfl,rfl,vf (F:=hasB s) (g:=fun w=>s.toList==w.toList) (fun _ _=>rfl) sV hR (TH h2)⟩)
  exact ap 1 (aE+1)<|dU 1 [(0,.string s),(1,sc q 0 ws.length c),(5,J (aE+1))] H (ih _ D (aE+1) _ y aX hl D (by rw [fR D];exact (vg (F:=hasB s) (g:=fun w=>s.toList==w.toList) (fun _ _=>rfl) sV hR (TH h2))) rfl)
 exact dF 0 [] (.exit 0) H (.inl ⟨rfl,rfl,ve (F:=hasB s) rfl hR D⟩)
theorem LU (q:Nat) (ws:List ByteArray) (c:Nat) (s:ByteArray) {H:U} (y:aa E G H) (aX:H.get q=some (O (eH ws) 9)) (hl:ws.length<100000):aI E G 24 [.string s,sc q 0 ws.length c] H [] (fun v H'=>v=.bool (hasB s ws)):=by
 refine br Tryz.f24 y ?_
 obtain ⟨_,_,H1,c1,af,y1,b7⟩:=(afa q ws c s (hasB s ws) _ 0 _ y aX hl D rfl rfl).code
 rcases b7 with ⟨rfl,rfl,cM⟩ |⟨rfl,rfl,cM⟩
 ·exact bW 2 c1<|al 1 Y H1 (by rw [cM])
 exact bW 2 c1<|al 0 aN H1 (by rw [cM])
theorem Yx:[.string ⟨#[115,117,109]⟩,.string ⟨#[97,118,103]⟩,.string ⟨#[109,105,110]⟩,.string ⟨#[109,97,120]⟩,.string ⟨#[99,111,117,110,116]⟩,.string ⟨#[116,111,112,107]⟩,.string ⟨#[98,111,116,116,111,109,107]⟩]=pz:=av
theorem abu:[.string ⟨#[98,121]⟩,.string ⟨#[119,105,116,104,111,117,116]⟩,.string ⟨#[111,110]⟩,.string ⟨#[105,103,110,111,114,105,110,103]⟩,.string ⟨#[98,111,111,108]⟩,.string ⟨#[111,102,102,115,101,116]⟩,.string ⟨#[73,110,102]⟩,.string ⟨#[78,97,78]⟩]=t9:=av
noncomputable abbrev OK:=([.string ⟨#[115,117,109]⟩,.string ⟨#[97,118,103]⟩,.string ⟨#[109,105,110]⟩,.string ⟨#[109,97,120]⟩,.string ⟨#[99,111,117,110,116]⟩,.string ⟨#[116,111,112,107]⟩,.string ⟨#[98,111,116,116,111,109,107]⟩]:List Value)
theorem Sj  {H:U} (y:aa E G H):aI E G 25 [] H [] (fun v H'=>∃ q,v=sc q 0 7 15∧H.n≤q∧H'.get q=some (O pz 9)):=by
 refine br Tryz.f25 y ?_
 exact al 3 (sc (H.n+0) 0 7 15) (news H (dJ OK)) ⟨_,rfl,D,Yx▸(aL (dJ OK) H 0 _ rfl)⟩
noncomputable def WY:Code:=cN [1,1,0,1,0,0] (cH Tryz.f22)
theorem ae8 (s:ByteArray) (R:Int):∀(m:Nat) (aD:Int) (H:U),aa E G H→(hs:(s.size:Int)<100000)→(x0:0≤aD)→(x1:aD≤s.size)→(hR:gd ii s aD=R)→(hd:aD=0∨gJ (ac s 0)=true)→((s.size:Int)-aD).toNat=m→
  cy E G 69 WY [(0,.string s),(3,J aD)] H [] (fun x T H'=>(x=(.exit 0)∧T=bl []∧((R=s.size)∧((s.size:Int)≤0∨gJ (ac s 0)=true)))∨(x=.ret∧T=bl [(2,Y)]∧(R<s.size∨gJ (ac s 0)=false))):=by
 refine d8 fun m ih=>?_
 intro aD H y hs x0 x1 hR hd hm
 refine c9 y ?_
 refine aO 3 (aD<(s.size:Int)) ?_ ?_ <;> intro h1 q1
 ·refine bR 2 aD (s.size:Int)<|aO 2 ((ac s aD)≥97) ?_ ?_ <;> intro h2 cw
  ·refine aO 2 ((ac s aD)≤122) ?_ ?_ <;> intro h3 dv
   ·exact ap 13 (aD+1)<|dU 1 [(0,.string s),(3,J (aD+1))] H (ih _ D (aD+1) _ y hs D D (oQ D (DL D) hR) (hd.elim (fun h=>.inr (by subst h;exact Cr D)) .inr) rfl)
   refine aH 3 (decide_eq_true D:(decide ((ac s aD)≥65))=true)<|aH 2 (decide_eq_false D:(decide ((ac s aD)≤90))=false)<|aH 4 (beq_eq_false_iff_ne.2 D:((ac s aD)==95)=false)<|aH 3 (beq_eq_false_iff_ne.2 D:((ac s aD)==58)=false)<|cS 6 aD 0 ?_ ?_ <;> intro h4 dT
   ·exact dF 6 [(2,Y)] .ret H (.inr ⟨rfl,rfl,(by first |exact .inl (by have:=ny (yw D) hR;omega) |exact .inr (by rw [show (0:Int)=aD by omega];exact vR D))⟩)
   exact aH 2 (decide_eq_false D:(decide ((ac s aD)<48))=false)<|aH 3 (decide_eq_true D:(decide ((ac s aD)>57))=true)<|dF 3 [(2,Y)] .ret H (.inr ⟨rfl,rfl,(by first |exact .inl (by have:=ny (yw D) hR;omega) |exact .inr (by rw [show (0:Int)=aD by omega];exact vR D))⟩)
  refine aO 4 ((ac s aD)≥65) ?_ ?_ <;> intro h3 dv
  ·refine aO 2 ((ac s aD)≤90) ?_ ?_ <;> intro h4 dT
   ·exact ap 12 (aD+1)<|dU 1 [(0,.string s),(3,J (aD+1))] H (ih _ D (aD+1) _ y hs D D (oQ D (DL D) hR) (hd.elim (fun h=>.inr (by subst h;exact Cr D)) .inr) rfl)
   refine cS 4 (ac s aD) 95 ?_ ?_ <;> intro h5 ff
   ·exact ap 9 (aD+1)<|dU 1 [(0,.string s),(3,J (aD+1))] H (ih _ D (aD+1) _ y hs D D (oQ D (DL D) hR) (hd.elim (fun h=>.inr (by subst h;exact Cr D)) .inr) rfl)
   refine aH 3 (beq_eq_false_iff_ne.2 D:((ac s aD)==58)=false)<|cS 6 aD 0 ?_ ?_ <;> intro h6 e7
   ·exact dF 6 [(2,Y)] .ret H (.inr ⟨rfl,rfl,(by first |exact .inl (by have:=ny (yw D) hR;omega) |exact .inr (by rw [show (0:Int)=aD by omega];exact vR D))⟩)
   exact aH 2 (decide_eq_false D:(decide ((ac s aD)<48))=false)<|aH 3 (decide_eq_true D:(decide ((ac s aD)>57))=true)<|dF 3 [(2,Y)] .ret H (.inr ⟨rfl,rfl,(by first |exact .inl (by have:=ny (yw D) hR;omega) |exact .inr (by rw [show (0:Int)=aD by omega];exact vR D))⟩)
  refine aH 5 (beq_eq_false_iff_ne.2 D:((ac s aD)==95)=false)<|cS 3 (ac s aD) 58 ?_ ?_ <;> intro h4 dT
  ·exact ap 7 (aD+1)<|dU 1 [(0,.string s),(3,J (aD+1))] H (ih _ D (aD+1) _ y hs D D (oQ D (DL D) hR) (hd.elim (fun h=>.inr (by subst h;exact Cr D)) .inr) rfl)
  refine cS 6 aD 0 ?_ ?_ <;> intro h5 ff
  ·exact dF 6 [(2,Y)] .ret H (.inr ⟨rfl,rfl,(by first |exact .inl (by have:=ny (yw D) hR;omega) |exact .inr (by rw [show (0:Int)=aD by omega];exact vR D))⟩)
  refine aO 2 ((ac s aD)<48) ?_ ?_ <;> intro h6 e7
  ·exact dF 5 [(2,Y)] .ret H (.inr ⟨rfl,rfl,(by first |exact .inl (by have:=ny (yw D) hR;omega) |exact .inr (by rw [show (0:Int)=aD by omega];exact vR D))⟩)
  refine aO 3 ((ac s aD)>57) ?_ ?_ <;> intro h7 mR
  ·exact dF 3 [(2,Y)] .ret H (.inr ⟨rfl,rfl,(by first |exact .inl (by have:=ny (yw D) hR;omega) |exact .inr (by rw [show (0:Int)=aD by omega];exact vR D))⟩)
  exact ap 3 (aD+1)<|dU 1 [(0,.string s),(3,J (aD+1))] H (ih _ D (aD+1) _ y hs D D (oQ D (DL D) hR) (.inr (hd.resolve_left D)) rfl)
 exact dF 0 [] (.exit 0) H (.inl ⟨rfl,rfl,⟨by have:=At D hR;omega,hd.elim (fun h=>.inl D) .inr⟩⟩)
noncomputable abbrev OL:=([.string ⟨#[98,121]⟩,.string ⟨#[119,105,116,104,111,117,116]⟩,.string ⟨#[111,110]⟩,.string ⟨#[105,103,110,111,114,105,110,103]⟩,.string ⟨#[98,111,111,108]⟩,.string ⟨#[111,102,102,115,101,116]⟩,.string ⟨#[73,110,102]⟩,.string ⟨#[78,97,78]⟩]:List Value)
theorem ae9 (s:ByteArray) {H:U} (y:aa E G H):aI E G 22 [.string s] H [] (fun v H'=>v=(.bool (hU s))):=by
 refine br Tryz.f22 y ?_
 refine cS 3 (s.size:Int) 0 ?_ ?_ <;> intro h1 q1
 ·exact al 7 Y H (by rw [hU,aap D];simp only [Bool.and_false])
 refine aO 3 ((s.size:Int)>200) ?_ ?_ <;> intro h2 cw
 ·exact al 6 Y H (by rw [hU,h2] <;> rfl)
 obtain ⟨_,H1,c1,af,y1,aY,rfl,JG,xL⟩:=Sj y
 obtain ⟨_,H2,c2,ar,ah,dC⟩:=fh (LU aY (qr pz) 15 s y1 xL (by decide))
 refine ad 3 c1<|?_
 rcases dC with ⟨rfl,cJ⟩ |⟨rfl,cJ⟩
 ·exact ad 0 c2<|al 4 Y H2 (by rw [hU,h2,cJ] <;> rfl)
 obtain ⟨_,H3,c3,aW,az,fo⟩:=fh (LU (H2.n+0) (qr t9) 17 s (ah.news (dJ OL)) (abu▸(aL (dJ OL) H2 0 _ rfl)) (by decide))
 refine ad 0 c2<|?_
 rcases fo with ⟨rfl,eh⟩ |⟨rfl,eh⟩
 ·exact ad 4 c3<|al 2 Y H3 (by rw [hU,h2,cJ,eh] <;> rfl)
 obtain ⟨_,_,H4,cY,c4,bz,nv⟩:=(ae8 s (gd ii s 0) _ 0 _ az D D D rfl (.inl rfl) rfl).code
 refine ad 4 c3<|?_
 rcases nv with ⟨rfl,rfl,n8,G7⟩ |⟨rfl,rfl,n8⟩
 ·exact bW 2 cY<|al 1 aN H4 (by rw [hU,h2,cJ,eh,aar D (G7.resolve_left D) n8] <;> rfl)
 exact bW 2 cY<|al 0 Y H4 (by rw [hU,h2,cJ,eh,aaq n8] <;> rfl)
theorem GL (s:ByteArray):∀{H:U},aa E G H→bE E 22 [.string s] H (.ret (.bool (hU s))) H []:=by
 obtain ⟨_,_,c,_,_,rfl⟩:=ae9 s gE
 exact fun y=>gx (iP rfl) (.ground rfl) c y
abbrev fC (s:ByteArray) (at_ op wr:Int):List Value:=[.string s,J at_,J op,J wr]
abbrev lk (s:ByteArray) (at_ op wr:Int):df:=.cells (fC s at_ op wr) 123 false
abbrev A3 (v:Value):Prop:=∃(a:Int) (pb:Option Addr) (nb cb:Nat) (pk:Option Addr) (an ak:Nat),v=.agg #[ab a,.slice pb nb cb,.slice pk an ak]
abbrev A4 (s:ByteArray) (p:Nat) (at_ st:Int) (F:Option (Int×Int)) (v:Value) (H':U):Prop:=
 (∃(at' op':Int),A3 v∧H'.get p=some (lk s at' op' 0)∧F=some (at',op')∧at_+st≤at'∧at'≤s.size)∨
 (∃(at' op' wr':Int),A3 v∧H'.get p=some (lk s at' op' wr')∧F=none∧0<wr'∧at_≤at'∧at'≤s.size)
def uZ (s:ByteArray) (n:Nat):Prop:=∀(p:Nat) (at_ op:Int) {H:U},aa E G H→H.get p=some (lk s at_ op 0)→G.n≤p→(s.size:Int)<100000→0≤at_→at_≤s.size→((s.size:Int)-at_).toNat<n→
    aI E G 82 [.pointer (some ⟨p,0,none⟩)] H [p] (A4 s p at_ 0 (nM s at_ op))
structure ki (xs:List Value):Prop where
 len:xs.length=256
 get:∀ i,i<256→∃ b:Bool,xs[i]?=some (.bool b)
theorem ki.new:ki (List.replicate 256 Y):=⟨List.length_replicate,fun j h=>⟨false,by rw [List.getElem?_replicate,if_pos h]⟩⟩
theorem ki.set {xs:List Value} (h:ki xs) (i:Nat) (b:Bool):ki (xs.set i (.bool b)):=⟨by simp [h.len],fun j h1=>by
 rw [List.getElem?_set]
 by_cases e:i=j
 ·subst e;exact ⟨b,by simp [h.len,h1]⟩
 ·rw [if_neg e];exact h.get j h1⟩
theorem Va {H:U} {a o:Nat} {xs:List Value} (hl:ki xs) (g:H.get a=some (O xs 4)) (h1:o<256):∃ b:Bool,ay E 4 a o H=some (.bool b):=by
 obtain ⟨b,hb⟩:=hl.get o h1
 exact ⟨b,d7 NB g hb⟩
theorem Ek {H:U} {a o:Nat} {xs:List Value} {x:Bool} (hl:ki xs) (g:H.get a=some (O xs 4)) (h1:o<256):bp E 4 a o (.bool x) H=some (H.set a (O (xs.set o (.bool x)) 4)):=st TD g (by
 have:Nat.ble (o+1) xs.length=true:=Nat.ble_eq_true_of_le (by rw [hl.len];omega)
 show (true&&_)=true
 rw [this];rfl) (by
 show splice xs o [.bool x]=_
 rw [Hg _ _ _ (by rw [hl.len];exact h1)])
theorem AO (s:ByteArray) (i:Int):(J (IntKind.i64.wrap (ac s i)):Value)=J (ac s i):=by
 have:=gG s i
 have:=jK s i
 rw [kX D D]
theorem N0 {t:ByteArray} {i:Int} (h0:0≤i) (h:i<t.size):(t.data.toList.map fun b=>(b.toNat:Int))[i.toNat]?=some (ac t i):=by
 have h1:i.toNat<t.data.size:=by have:t.data.size=t.size:=rfl;omega
 rw [List.getElem?_map,Array.getElem?_toList,ac,Array.getElem?_eq_getElem h1];rfl
theorem U7 (t:ByteArray):(t.data.toList.map fun b=>(b.toNat:Int)).length=t.size:=by simp
theorem QL (c a:Int) (l:List Int):eS c (a::l)=((c==a)||eS c l):=rfl
theorem O5 {a b:Int} {r:Bool} (h:(a==b)=r):(b==a)=r:=by rw [← h,Bool.eq_iff_iff,beq_iff_eq,beq_iff_eq];exact eq_comm
theorem qg {c d:Int} (h:c=d):eS c [d]=true:=by subst h;simp [eS]
def xE (s:ByteArray) (i:Int):Option Int:=match ku s i with
 |none=>none
 |some a=>nU s a
theorem JY {s:ByteArray} {i:Int} (h:ku s i=none):xE s i=none:=by rw [xE,h]
theorem PQ {s:ByteArray} {i a:Int} (h:ku s i=some a):xE s i=nU s a:=by rw [xE,h]
theorem Ol {s:ByteArray} {i j:Int} (hj:(if i<s.size∧eS (ac s i) [94]=true then i+1 else i)=j):nT s i=xE s j:=by rw [nT,hj];rfl
theorem ac0 {c d:Int} (h:eS c [d]=true):c=d:=by simpa [eS] using h
theorem rQ {P:Prop} {c d:Int} (h:¬ (P∧c=d)):¬ (P∧eS c [d]=true):=fun e=>h ⟨e.1,ac0 e.2⟩
def EM (s:ByteArray) (i x:Int):Option Int:=if x=0 then xE s i else nU s i
theorem Bv {s:ByteArray} {i x:Int} {R:Option Int} (h:EM s i x=R) (h0:x=0):xE s i=R:=(if_pos h0).symm.trans h
theorem zx {s:ByteArray} {i x:Int} {R:Option Int} (h:EM s i x=R) (h0:x≠0):nU s i=R:=(if_neg h0).symm.trans h
theorem EN {s:ByteArray} {i x:Int} {R:Option Int} (h:nU s i=R) (h0:x≠0):EM s i x=R:=(if_neg h0).trans h
theorem KR {c:Int} (h:c=42∨c=43∨c=63):eS c [42,43,63]=true:=by simpa [eS] using h
theorem ac1 {c:Int} (h:eS c [42,43,63]=true):c=42∨c=43∨c=63:=by simpa [eS] using h
theorem FE {c:Int} (h:c=124∨c=41):eS c [124,41]=true:=by simpa [eS] using h
theorem FF {c:Int} (h:¬ (c=124∨c=41)):¬ eS c [124,41]=true:=fun e=>h (by simpa [eS] using e)
structure gU where
 (a:Int) (pb:Option Addr) (nb cb:Nat) (pk:Option Addr) (an ak:Nat)
def oL (l:List gU):List Value:=l.flatMap fun x=>[ab x.a,.slice x.pb x.nb x.cb,.slice x.pk x.an x.ak]
theorem z3:∀ l,(oL l).length=3*l.length
 |[]=>rfl
 |x::l=>by
  have:=z3 l
  simp only [oL,List.flatMap_cons,List.length_append,cj,cF] at this ⊢
  omega
theorem Gj (l:List gU) (a:Int) (pb:Option Addr) (nb cb:Nat) (pk:Option Addr) (an ak:Nat):((oL l).drop 0).take (l.length*3)++[ab a,.slice pb nb cb,.slice pk an ak]=oL (l++[⟨a,pb,nb,cb,pk,an,ak⟩]):=by
 rw [List.drop_zero,List.take_of_length_le (by rw [z3];omega)]
 simp [oL]
theorem Gk (l:List gU) (a:Int) (pb:Option Addr) (nb cb:Nat) (pk:Option Addr) (an ak:Nat):(l++[(⟨a,pb,nb,cb,pk,an,ak⟩:gU)]).length=l.length+1:=by simp
noncomputable def Xi:Code:=cN [1,0,1,0,0] (cH Tryz.f169)
theorem agI (c:Int) (t:ByteArray) (R:Bool):∀(m:Nat) (aE:Int) (H:U),aa E G H→(hs:(t.size:Int)<100000)→(x0:0≤aE)→(hR:eS c ((t.data.toList.map fun b=>(b.toNat:Int)).drop aE.toNat)=R)→((t.size:Int)-aE).toNat=m→
  cy E G 17 Xi [(0,ab c),(1,.string t),(5,J aE)] H [] (fun x T H'=>(x=(.exit 0)∧T=bl []∧(R=false))∨(x=.ret∧T=bl [(4,aN)]∧(R=true))):=by
 refine d8 fun m ih=>?_
 intro aE H y hs x0 hR hm
 refine c9 y ?_
 refine aO 3 (aE<(t.size:Int)) ?_ ?_ <;> intro h1 q1
 ·refine bR 2 aE (t.size:Int)<|cS 1 (ac t aE) c ?_ ?_ <;> intro h2 cw
  ·exact dF 1 [(4,aN)] .ret H (.inr ⟨rfl,rfl,vf (F:=eS c) (QL c) (N0 D D) hR (O5 h2)⟩)
  exact ap 1 (aE+1)<|dU 1 [(0,ab c),(1,.string t),(5,J (aE+1))] H (ih _ D (aE+1) _ y hs D (by rw [fR D];exact vg (F:=eS c) (QL c) (N0 D D) hR (O5 h2)) rfl)
 exact dF 0 [] (.exit 0) H (.inl ⟨rfl,rfl,ve (F:=eS c) rfl hR (by rw [U7];omega)⟩)
theorem aft (c:Int) (t:ByteArray) {H:U} (y:aa E G H) (hs:(t.size:Int)<100000):aI E G 169 [ab c,.string t] H [] (fun v H'=>v=(.bool (sU t c))):=by
 refine br Tryz.f169 y ?_
 obtain ⟨_,_,H1,c1,af,y1,b7⟩:=(agI c t (sU t c) _ 0 _ y hs D rfl rfl).code
 rcases b7 with ⟨rfl,rfl,cM⟩ |⟨rfl,rfl,cM⟩
 ·exact bW 2 c1<|al 1 Y H1 (by rw [cM])
 exact bW 2 c1<|al 0 aN H1 (by rw [cM])
theorem GN (c:Int) (t:ByteArray) (hs:(t.size:Int)<100000):∀{H:U},aa E G H→bE E 169 [ab c,.string t] H (.ret (.bool (sU t c))) H []:=by
 obtain ⟨_,_,c,_,_,rfl⟩:=aft c t gE hs
 exact fun y=>gx (iP rfl) (.ground rfl) c y
theorem Ak (p:Nat) (s:ByteArray) (at_:Int) (op:Int) {H:U} (y:aa E G H) (kp:H.get p=some (lk s at_ op 0)) (bY:G.n≤p) (hs:(s.size:Int)<100000) (a0:0≤at_) (a1:at_≤s.size):aI E G 123 [pt p 0] H [] (fun v H'=>(v=.tuple #[ab 0,Y]∧¬ at_<s.size)∨(v=.tuple #[ab (ac s at_),aN]∧at_<s.size)):=by
 refine br Tryz.f123 y ?_
 rcases ep (decide (at_≥(s.size:Int))) with h1 |h1
 ·have q1:=gb h1
  exact aK [aB 1]<|Z 3 (ag 3 aJ kp)<|Z 5 (ag 1 aJ kp)<|Z 3 (ag 0 ct kp)<|aH 1 h1<|al 3 (.tuple #[ab 0,Y]) H (.inl ⟨rfl,D⟩)
 have q1:=gl h1
 exact aK [aB 1]<|Z 3 (ag 3 aJ kp)<|Z 5 (ag 1 aJ kp)<|Z 3 (ag 0 ct kp)<|aH 1 h1<|aK [aB 0]<|Z 3 (ag 0 ct kp)<|Z 3 (ag 1 aJ kp)<|bR 0 at_ (s.size:Int)<|al 2 (.tuple #[ab (ac s at_),aN]) H (.inr ⟨rfl,D⟩)
theorem LX (p:Nat) (s:ByteArray) (at_:Int) (op:Int) (wr:Int) {H:U} (y:aa E G H) (kp:H.get p=some (lk s at_ op wr)) (bY:G.n≤p) (hs:(s.size:Int)<100000) (a0:0≤at_) (a1:at_≤s.size) (w0:0<wr):aI E G 123 [pt p 0] H [] (fun v H'=>v=.tuple #[ab 0,Y]):=by
 refine br Tryz.f123 y ?_
 exact aK [aB 1]<|Z 3 (ag 3 aJ kp)<|aH 0 (decide_eq_true D:(decide (wr>0))=true)<|al 4 (.tuple #[ab 0,Y]) H rfl
theorem s8 (p:Nat) (s:ByteArray) (at_:Int) (op:Int) (c:Int) {H:U} (y:aa E G H) (kp:H.get p=some (lk s at_ op 0)) (bY:G.n≤p) (hs:(s.size:Int)<100000) (a0:0≤at_) (a1:at_≤s.size):aI E G 104 [pt p 0,ab c] H [] (fun v H'=>(v=Y∧¬ (at_<s.size∧ac s at_=c))∨(v=aN∧at_<s.size∧ac s at_=c)):=by
 refine br Tryz.f104 y ?_
 obtain ⟨_,H1,c1,af,y1,b7⟩:=Ak p s at_ op y kp D hs D D
 rcases b7 with ⟨rfl,LD⟩ |⟨rfl,LJ⟩
 ·exact ad 2 c1<|al 9 Y H1 (.inl ⟨rfl,D⟩)
 refine ad 2 c1<|cS 9 (ac s at_) c ?_ ?_ <;> intro h2 cw
 ·exact al 2 aN H1 (.inr ⟨rfl,D,D⟩)
 exact al 2 Y H1 (.inl ⟨rfl,D⟩)
theorem Db (p:Nat) (s:ByteArray) (at_:Int) (op:Int) (wr:Int) (c:Int) {H:U} (y:aa E G H) (kp:H.get p=some (lk s at_ op wr)) (bY:G.n≤p) (hs:(s.size:Int)<100000) (a0:0≤at_) (a1:at_≤s.size) (w0:0<wr):aI E G 104 [pt p 0,ab c] H [] (fun v H'=>v=Y):=by
 refine br Tryz.f104 y ?_
 obtain ⟨_,H1,c1,af,y1,rfl⟩:=LX p s at_ op wr y kp D hs D D D
 exact ad 2 c1<|al 9 Y H1 rfl
theorem GM (p:Nat) (s:ByteArray) (at_:Int) (op:Int) {H:U} (y:aa E G H) (kp:H.get p=some (lk s at_ op 0)) (bY:G.n≤p) (hs:(s.size:Int)<100000) (a0:0≤at_) (a1:at_≤s.size):aI E G 215 [pt p 0] H [p] (fun v H'=>(∃(c at':Int),v=J c∧H'.get p=some (lk s at' op 0)∧jN s at_=some (at',c)∧0≤c∧c<256∧at_<at'∧at'≤s.size)∨(∃(at' wr':Int),v=J 0∧H'.get p=some (lk s at' op wr')∧jN s at_=none∧0<wr'∧at_≤at'∧at'≤s.size)):=by
 refine br Tryz.f215 y ?_
 have gi:=y.wf.lt kp
 obtain ⟨_,H1,c1,af,y1,b7⟩:=Ak p s at_ op y kp D hs D D
 rcases b7 with ⟨rfl,LD⟩ |⟨rfl,LJ⟩
 ·have cI:H.n+0≤H1.n:=af.n
  have bV:=y.kept af ai kp
  obtain ⟨aF,e2⟩:∃ ao,ao=H1.set p (O (fC s at_ op 2) 123):=⟨_,rfl⟩
  have ah:aa E G aF:=e2▸y1.set _ D D
  have cP:=bC e2
  exact ad 2 c1<|aC 16 (stx 3 (J 2) dL bV e2)<|aV 1 (J 0) aF [p] bD bi (.inr ⟨at_,2,rfl,cP,QC D,D,D,D⟩)
 have cI:H.n+0≤H1.n:=af.n
 refine ad 2 c1<|cS 8 (ac s at_) 92 ?_ ?_ <;> intro h2 cw
 ·have bV:=y.kept af ai kp
  obtain ⟨aF,e2⟩:∃ ao,ao=H1.set p (O (fC s (at_+1) op 0) 123):=⟨_,rfl⟩
  have ah:aa E G aF:=e2▸y1.set _ D D
  have cl:aF.n=H1.n+0:=by rw [e2,U.cB] <;> rfl
  have cP:=bC e2
  obtain ⟨_,H3,c3,aW,az,fo⟩:=Ak p s (at_+1) op ah cP D hs D D
  refine Z 4 (ag 1 aJ bV)<|ap 0 (at_+1)<|aC 2 (stx 1 (J (at_+1)) dL bV e2)<|?_
  rcases fo with ⟨rfl,akP⟩ |⟨rfl,akR⟩
  ·have dD:aF.n+0≤H3.n:=aW.n
   have eF:=ah.kept aW ai cP
   obtain ⟨bF,aG⟩:∃ ao,ao=H3.set p (O (fC s (at_+1) op 2) 123):=⟨_,rfl⟩
   have bz:aa E G bF:=aG▸az.set _ D D
   have ek:=bC aG
   exact ad 1 c3<|aC 10 (stx 3 (J 2) dL eF aG)<|aV 1 (J 0) bF [p,p] bD bi (.inr ⟨at_+1,2,rfl,ek,QE D D D,D,D,D⟩)
  have dD:aF.n+0≤H3.n:=aW.n
  have eF:=ah.kept aW ai cP
  obtain ⟨bF,aG⟩:∃ ao,ao=H3.set p (O (fC s ((at_+1)+1) op 0) 123):=⟨_,rfl⟩
  have bz:aa E G bF:=aG▸az.set _ D D
  have ek:=bC aG
  exact ad 1 c3<|Z 10 (ag 1 aJ eF)<|ap 0 ((at_+1)+1)<|aC 2 (stx 1 (J ((at_+1)+1)) dL eF aG)<|aK [aB 0]<|aj [.as (J (ac s (at_+1)))] (show ((J (IntKind.i64.wrap (ac s (at_+1)))):Value)=(J (ac s (at_+1))) from AO s (at_+1))<|aV 1 (J (ac s (at_+1))) bF [p,p] bD bi (.inl ⟨_,at_+2,rfl,(by rw [show at_+2=at_+1+1 by omega];exact ek),QD D D,gG _ _,jK _ _,D,D⟩)
 cases h3:(sU ⟨#[93,91,94,45]⟩ (ac s at_)) with
 |true=>
  have bV:=y.kept af ai kp
  obtain ⟨aF,e2⟩:∃ ao,ao=H1.set p (O (fC s at_ op 2) 123):=⟨_,rfl⟩
  have ah:aa E G aF:=e2▸y1.set _ D D
  have cP:=bC e2
  exact ad 4 (c5 h3 (GN (ac s at_) ⟨#[93,91,94,45]⟩ (by decide) y1))<|aC 7 (stx 3 (J 2) dL bV e2)<|aV 1 (J 0) aF [p] bD bi (.inr ⟨at_,2,rfl,cP,QB D h3,D,D,D⟩)
 |false=>
  have bV:=y.kept af ai kp
  obtain ⟨aF,e2⟩:∃ ao,ao=H1.set p (O (fC s (at_+1) op 0) 123):=⟨_,rfl⟩
  have ah:aa E G aF:=e2▸y1.set _ D D
  have cP:=bC e2
  exact ad 4 (c5 h3 (GN (ac s at_) ⟨#[93,91,94,45]⟩ (by decide) y1))<|Z 6 (ag 1 aJ bV)<|ap 0 (at_+1)<|aC 2 (stx 1 (J (at_+1)) dL bV e2)<|aK [aB 0]<|aj [.as (J (ac s at_))] (show ((J (IntKind.i64.wrap (ac s at_))):Value)=(J (ac s at_)) from AO s at_)<|aV 1 (J (ac s at_)) aF [p] bD bi (.inl ⟨_,at_+1,rfl,cP,QF D (fun h=>absurd (h.symm.trans h3) (by decide)) D,gG _ _,jK _ _,D,D⟩)
noncomputable def WF:Code:=cN [1,1,0,1,0,0] (cH Tryz.f170)
noncomputable abbrev y3 q:=([ab 91,sc q 0 256 513,.slice none 0 0]:List Value)
theorem adT (nb:Nat) (rb:Nat) (q:Nat) (hi:Int):∀(m:Nat) (dM:Int) (xs:List Value) (H:U),aa E G H→(bn:H.get nb=some (O (y3 q) 85))→(aX:H.get q=some (O xs 4))→(hb:ki xs)→(x0:0≤dM)→(hh:hi≤255)→(aY:G.n≤q)→(dq:nb≠q)→(256-dM).toNat=m→
  cy E G 20 WF [(1,J hi),(4,pt rb 0),(5,pt nb 0),(6,J dM)] H [q] (fun x T H'=>(x=(.exit 0)∧T=bl [(4,pt rb 0),(5,pt nb 0)])):=by
 refine d8 fun m ih=>?_
 intro dM xs H y bn aX hb x0 hh aY dq hm
 refine c9 y ?_
 have iX:=y.wf.lt aX
 refine aO 2 (dM≤hi) ?_ ?_ <;> intro h1 q1
 ·obtain ⟨aS,e1⟩:∃ ao,ao=H.set q (O (xs.set (0+dM.toNat*1) aN) 4):=⟨_,rfl⟩
  have y1:aa E G aS:=e1▸y.set _ D D
  have cE:=bC e1
  have cK:=bu e1 D bn
  exact Z 1 (ag 1 yT bn)<|bR 1 dM (256:Int)<|aC 0 ((Ek hb aX D).trans (congrArg some e1.symm):bp E 4 q (0+dM.toNat*1) aN H=some aS)<|ap 1 (dM+1)<|dY 1 [(1,J hi),(4,pt rb 0),(5,pt nb 0),(6,J (dM+1))] aS [q] bD (ih _ D (dM+1) (xs.set (0+dM.toNat*1) aN) _ y1 cK cE (ki.set hb (0+dM.toNat*1) true) D hh aY dq rfl)
 exact en 0 [(4,pt rb 0),(5,pt nb 0)] (.exit 0) H [] aZ bi ⟨rfl,rfl⟩
noncomputable abbrev dw:=([ab 0,.slice none 0 0,.slice none 0 0]:List Value)
noncomputable abbrev ot (H:U):=([ab 91,sc (H.n+1) 0 256 513,.slice none 0 0]:List Value)
theorem LW (lo:Int) (hi:Int) {H:U} (y:aa E G H) (h0:0≤lo) (h1:hi≤255):aI E G 170 [J lo,J hi] H [] (fun v H'=>A3 v):=by
 have g0:=y.n
 refine br Tryz.f170 y ?_
 obtain ⟨_,_,H1,c1,af,y1,rfl,rfl⟩:=(adT (H.n+2) (H.n+0) (H.n+1) hi _ lo (List.replicate 256 Y) _ (y.news [O dw 85,O (List.replicate 256 Y) 4,O (ot H) 85]) (aL [O dw 85,O (List.replicate 256 Y) 4,O (ot H) 85] H 2 _ rfl) (aL [O dw 85,O (List.replicate 256 Y) 4,O (ot H) 85] H 1 _ rfl) ki.new D D D D rfl).code
 have cI:=CF af
 have aP:=(y.news [O dw 85,O (List.replicate 256 Y) 4,O (ot H) 85]).kept af bB (aL [O dw 85,O (List.replicate 256 Y) 4,O (ot H) 85] H 0 _ rfl)
 have mG:=(y.news [O dw 85,O (List.replicate 256 Y) 4,O (ot H) 85]).kept af bB (aL [O dw 85,O (List.replicate 256 Y) 4,O (ot H) 85] H 2 _ rfl)
 obtain ⟨aF,e2⟩:∃ ao,ao=H1.set (H.n+0) (O (ot H) 85):=⟨_,rfl⟩
 have ah:aa E G aF:=e2▸y1.set _ D D
 have cl:aF.n=H1.n+0:=by rw [e2,U.cB] <;> rfl
 have cL:=bC e2
 exact aC 4 (bT cR rfl rfl rfl rfl:bp E 85 (H.n+2) 0 (.agg (ot H).toArray) (news H [O dw 85,O (List.replicate 256 Y) 4,O dw 85])=some (news H [O dw 85,O (List.replicate 256 Y) 4,O (ot H) 85]))<|bW 2 c1<|Z 0 (cg e5 cR mG rfl rfl:ay E 85 (H.n+2) 0 H1=some (.agg (ot H).toArray))<|aC 0 (stx 0 (.agg (ot H).toArray) cR aP e2)<|aj [] ((cg e5 cR cL rfl rfl):ay E 85 (H.n+0) 0 aF=some (.agg (ot H).toArray))<|gM 0 [.agg (ot H).toArray] (.agg (ot H).toArray) aF [H.n+2,H.n+1,H.n+0] aQ aZ ⟨_,_,_,_,_,_,_,rfl⟩
noncomputable def WV:Code:=cN [1,1,1,1,1,0,1,0,0,1,0,0,1,1,1,1,0,0] (cH Tryz.f168)
theorem GK (p:Nat) (nb:Nat) (rb:Nat) (q:Nat) (s:ByteArray) (at_:Int) (op:Int) (wr:Int) (fm:Bool) (mn:Int) (hi:Int):∀(m:Nat) (cx:Int) (xs:List Value) (H:U),aa E G H→(kp:H.get p=some (O (fC s at_ op 0) 123))→(bn:H.get nb=some (O (y3 q) 85))→(aX:H.get q=some (O xs 4))→(hb:ki xs)→(aY:G.n≤q)→(bY:G.n≤p)→(d1:nb≠q)→(d2:nb≠p)→(d3:p≠q)→(x0:0≤cx)→(hh:hi≤255)→(256-cx).toNat=m→
  cy E G 134 WV [(0,pt p 0),(2,pt rb 0),(3,.bool fm),(4,pt nb 0),(5,J mn),(7,J hi),(8,J cx)] H [q] (fun x T H'=>(x=(.exit 2)∧∃(pU:List Value),T=bl [(0,pt p 0),(2,pt rb 0),(3,.bool fm),(4,pt nb 0),(5,J mn)]∧(ki pU∧H'.get q=some (O pU 4)))):=by
 refine d8 fun m ih=>?_
 intro cx xs H y kp bn aX hb aY bY d1 d2 d3 x0 hh hm
 refine c9 y ?_
 have iX:=y.wf.lt aX
 refine Z 3 (ag 3 aJ kp)<|aO 4 (cx≤hi) ?_ ?_ <;> intro h1 q1
 ·obtain ⟨aS,e1⟩:∃ ao,ao=H.set q (O (xs.set (0+cx.toNat*1) aN) 4):=⟨_,rfl⟩
  have y1:aa E G aS:=e1▸y.set _ D D
  have cE:=bC e1
  have bV:=bu e1 D kp
  have cK:=bu e1 D bn
  exact Z 2 (ag 1 yT bn)<|bR 1 cx (256:Int)<|aC 0 ((Ek hb aX D).trans (congrArg some e1.symm):bp E 4 q (0+cx.toNat*1) aN H=some aS)<|ap 1 (cx+1)<|dY 1 [(0,pt p 0),(2,pt rb 0),(3,.bool fm),(4,pt nb 0),(5,J mn),(7,J hi),(8,J (cx+1))] aS [q] bD (ih _ D (cx+1) (xs.set (0+cx.toNat*1) aN) _ y1 bV cK cE (ki.set hb (0+cx.toNat*1) true) aY bY d1 d2 d3 D hh rfl)
 exact en 1 [(0,pt p 0),(2,pt rb 0),(3,.bool fm),(4,pt nb 0),(5,J mn)] (.exit 2) H [] aZ bi ⟨rfl,xs,rfl,⟨hb,aX⟩⟩
noncomputable def WW:Code:=cN [1,1,1,1,1,0,1,0,0,1,0,0,1,1,1,1,0,0] (cH Tryz.f168)
theorem Ai (p:Nat) (nb:Nat) (rb:Nat) (q:Nat) (s:ByteArray) (at_:Int) (op:Int) (wr:Int) (fm:Bool) (mn:Int) (hi:Int):∀(m:Nat) (cx:Int) (xs:List Value) (H:U),aa E G H→(kp:H.get p=some (O (fC s at_ op wr) 123))→(bn:H.get nb=some (O (y3 q) 85))→(aX:H.get q=some (O xs 4))→(hb:ki xs)→(aY:G.n≤q)→(bY:G.n≤p)→(d1:nb≠q)→(d2:nb≠p)→(d3:p≠q)→(w0:0<wr)→(256-cx).toNat=m→
  cy E G 134 WW [(0,pt p 0),(2,pt rb 0),(3,.bool fm),(4,pt nb 0),(5,J mn),(7,J hi),(8,J cx)] H [q] (fun x T H'=>(x=(.exit 2)∧∃(pU:List Value),T=bl [(0,pt p 0),(2,pt rb 0),(3,.bool fm),(4,pt nb 0),(5,J mn)]∧(ki pU∧H'.get q=some (O pU 4)))):=by
 refine d8 fun m ih=>?_
 intro cx xs H y kp bn aX hb aY bY d1 d2 d3 w0 hm
 refine c9 y ?_
 exact Z 3 (ag 3 aJ kp)<|aH 0 (beq_eq_false_iff_ne.2 D:(wr==0)=false)<|en 2 [(0,pt p 0),(2,pt rb 0),(3,.bool fm),(4,pt nb 0),(5,J mn)] (.exit 2) H [] aZ bi ⟨rfl,xs,rfl,⟨hb,aX⟩⟩
noncomputable def WX:Code:=cN [1,1,1,1,1,0,1,0,0] (cH Tryz.f168)
theorem Si (p:Nat) (nb:Nat) (rb:Nat) (q:Nat) (s:ByteArray) (op:Int) (fm:Bool) (eN:Int) (R:Option Int):∀(m:Nat) (aE:Int) (at_:Int) (wr:Int) (xs:List Value) (H:U),aa E G H→(kp:H.get p=some (O (fC s at_ op wr) 123))→(bn:H.get nb=some (O (y3 q) 85))→(aX:H.get q=some (O xs 4))→(hb:ki xs)→(aY:G.n≤q)→(bY:G.n≤p)→(d1:nb≠q)→(d2:nb≠p)→(d3:p≠q)→(hs:(s.size:Int)<100000)→(b0:0≤eN)→(b1:eN≤at_)→(a1:at_≤s.size)→(lY:wr=0∨0<wr)→(x0:0≤aE)→(x1:aE≤at_+wr)→(hR:wr=0→EM s at_ aE=R)→(hN:0<wr→R=none)→(hx:aE=0→wr=0)→2*((s.size:Int)-at_).toNat+(1-wr).toNat=m→
  cy E G 134 WX [(0,pt p 0),(2,pt rb 0),(3,.bool fm),(4,pt nb 0),(5,J aE)] H [p,q] (fun x T H'=>(x=(.exit 0)∧∃(eJ jc:Int) (pU:List Value),T=bl [(0,pt p 0),(2,pt rb 0),(3,.bool fm),(4,pt nb 0)]∧(H'.get p=some (lk s eJ op jc)∧ki pU∧H'.get q=some (O pU 4)∧eN≤eJ∧eJ≤s.size∧(jc=0∨0<jc)∧(jc=0→R=some (eJ+1)∧eJ<s.size)∧(0<jc→R=none)))):=by
 refine d8 fun m ih=>?_
 intro aE at_ wr xs H y kp bn aX hb aY bY d1 d2 d3 hs b0 b1 a1 lY x0 x1 hR hN hx hm
 refine c9 y ?_
 have gi:=y.wf.lt kp
 rcases lY with rfl |lY
 ·refine Z 3 (ag 3 aJ kp)<|cS 3 aE 0 ?_ ?_ <;> intro h2 cw
  ·obtain ⟨_,H1,c1,af,y1,b7⟩:=GM p s at_ op y kp D hs D D
   rcases b7 with ⟨vL,dH,rfl,dV,dR,Qg,Ql,g9,cq⟩ |⟨dH,o4,rfl,dV,dR,hw1,g9,cq⟩
   ·have cI:H.n+0≤H1.n:=af.n
    obtain ⟨_,H2,c2,ar,ah,dC⟩:=s8 p s dH op 45 y1 dV D hs D D
    refine ad 4 c1<|Z 6 (ag 3 aJ dV)<|?_
    rcases dC with ⟨rfl,Ca⟩ |⟨rfl,xD,zI⟩
    ·have cP:=y1.kept ar ai dV
     have cK:=y.kept af bB bn
     have dS:=y1.kept ar ai cK
     have cE:=y.kept af bB aX
     have dQ:=y1.kept ar ai cE
     obtain ⟨_,_,H3,c3,aW,az,rfl,AY,rfl,BD,l6⟩:=(GK p nb rb q s dH op 0 fm aE vL _ vL xs _ ah cP dS dQ hb aY bY d1 d2 d3 D D rfl).code
     have eF:=ah.kept aW bB cP
     have d6:=ah.kept aW bB dS
     exact ad 3 c2<|bW 3 c3<|ap 1 (aE+1)<|dY 1 [(0,pt p 0),(2,pt rb 0),(3,.bool fm),(4,pt nb 0),(5,J (aE+1))] H3 [p,q] bD (ih _ D (aE+1) dH 0 AY _ az eF d6 l6 BD aY bY d1 d2 d3 hs b0 D D D D D (fun _=>EN ((PQ (J4 dR (rQ Ca))).symm.trans (Bv (hR rfl) D)) D) (fun h=>absurd h D) (fun h=>by omega) rfl)
    have cl:H1.n+0≤H2.n:=ar.n
    have cP:=y1.kept ar ai dV
    obtain ⟨bk,aM⟩:∃ ao,ao=H2.set p (O (fC s (dH+1) op 0) 123):=⟨_,rfl⟩
    have az:aa E G bk:=aM▸ah.set _ D D
    have dD:bk.n=H2.n+0:=by rw [aM,U.cB] <;> rfl
    have eF:=bC aM
    obtain ⟨_,H4,cY,c4,bz,nv⟩:=GM p s (dH+1) op az eF D hs D D
    refine ad 3 c2<|Z 4 (ag 1 aJ cP)<|ap 0 (dH+1)<|aC 2 (stx 1 (J (dH+1)) dL cP aM)<|?_
    rcases nv with ⟨Kz,kL,rfl,kS,pB,aj6,aj9,BB,pA⟩ |⟨kL,M3,rfl,kS,pB,ajO,BB,pA⟩
    ·have fB:bk.n+0≤H4.n:=c4.n
     refine ad 1 cY<|Z 4 (ag 3 aJ kS)<|aO 4 (Kz<vL) ?_ ?_ <;> intro h6 e7
     ·obtain ⟨db,bS⟩:∃ ao,ao=H4.set p (O (fC s (kL-1) op 0) 123):=⟨_,rfl⟩
      have cG:aa E G db:=bS▸bz.set _ D D
      have gk:db.n=H4.n+0:=by rw [bS,U.cB] <;> rfl
      have eR:=bC bS
      obtain ⟨dW,dO⟩:∃ ao,ao=db.set p (O (fC s (kL-1) op 2) 123):=⟨_,rfl⟩
      have ea:aa E G dW:=dO▸cG.set _ D D
      have hC:=bC dO
      have cK:=y.kept af bB bn
      have dS:=y1.kept ar ai cK
      have d6:=bu aM D dS
      have eZ:=az.kept c4 bB d6
      have iN:=bu bS D eZ
      have qK:=bu dO D iN
      have cE:=y.kept af bB aX
      have dQ:=y1.kept ar ai cE
      have fr:=bu aM D dQ
      have kA:=az.kept c4 bB fr
      have oG:=bu bS D kA
      have rK:=bu dO D oG
      obtain ⟨_,_,iy,kn,iF,gC,rfl,ai1,rfl,YR,abL⟩:=(Ai p nb rb q s (kL-1) op 2 fm aE Kz _ vL xs _ ea hC qK rK hb aY bY d1 d2 d3 D rfl).code
      have pH:=ea.kept iF bB hC
      have vJ:=ea.kept iF bB qK
      exact Z 4 (ag 1 aJ kS)<|ap 0 (kL-1)<|aC 2 (stx 1 (J (kL-1)) dL kS bS)<|aC 3 (stx 3 (J 2) dL eR dO)<|bW 2 kn<|ap 1 (aE+1)<|dY 1 [(0,pt p 0),(2,pt rb 0),(3,.bool fm),(4,pt nb 0),(5,J (aE+1))] iy [p,p,p,p,p,q] bD (ih _ D (aE+1) (kL-1) 2 ai1 _ gC pH vJ abL YR aY bY d1 d2 d3 hs b0 D D D D D (fun h=>absurd h D) (fun _=>(Bv (hR rfl) D).symm.trans (JY (Fk dR xD (qg zI) pB D))) (fun h=>by omega) rfl)
     have cK:=y.kept af bB bn
     have dS:=y1.kept ar ai cK
     have d6:=bu aM D dS
     have eZ:=az.kept c4 bB d6
     have cE:=y.kept af bB aX
     have dQ:=y1.kept ar ai cE
     have fr:=bu aM D dQ
     have kA:=az.kept c4 bB fr
     obtain ⟨_,_,H5,dz,cV,cG,rfl,tw,rfl,Jv,Kv⟩:=(GK p nb rb q s kL op 0 fm aE Kz _ vL xs _ bz kS eZ kA hb aY bY d1 d2 d3 D D rfl).code
     have eR:=bz.kept cV bB kS
     have iN:=bz.kept cV bB eZ
     exact bW 3 dz<|ap 1 (aE+1)<|dY 1 [(0,pt p 0),(2,pt rb 0),(3,.bool fm),(4,pt nb 0),(5,J (aE+1))] H5 [p,p,p,q] bD (ih _ D (aE+1) kL 0 tw _ cG eR iN Kv Jv aY bY d1 d2 d3 hs b0 D D D D D (fun _=>EN ((PQ (J5 dR xD (qg zI) pB D)).symm.trans (Bv (hR rfl) D)) D) (fun h=>absurd h D) (fun h=>by omega) rfl)
    have cK:=y.kept af bB bn
    have dS:=y1.kept ar ai cK
    have d6:=bu aM D dS
    have eZ:=az.kept c4 bB d6
    have cE:=y.kept af bB aX
    have dQ:=y1.kept ar ai cE
    have fr:=bu aM D dQ
    have kA:=az.kept c4 bB fr
    obtain ⟨_,_,H5,dz,cV,cG,rfl,tw,rfl,Jv,Kv⟩:=(Ai p nb rb q s kL op M3 fm aE 0 _ vL xs _ bz kS eZ kA hb aY bY d1 d2 d3 D rfl).code
    have eR:=bz.kept cV bB kS
    have iN:=bz.kept cV bB eZ
    exact ad 1 cY<|Z 4 (ag 3 aJ kS)<|aH 0 (beq_eq_false_iff_ne.2 D:(M3==0)=false)<|bW 4 dz<|ap 1 (aE+1)<|dY 1 [(0,pt p 0),(2,pt rb 0),(3,.bool fm),(4,pt nb 0),(5,J (aE+1))] H5 [p,p,p,q] bD (ih _ D (aE+1) kL M3 tw _ cG eR iN Kv Jv aY bY d1 d2 d3 hs b0 D D D D D (fun h=>absurd h D) (fun _=>(Bv (hR rfl) D).symm.trans (JY (J6 dR xD (qg zI) pB))) (fun h=>by omega) rfl)
   have cK:=y.kept af bB bn
   have cE:=y.kept af bB aX
   obtain ⟨_,_,H2,c2,ar,ah,rfl,ai0,rfl,YQ,rM⟩:=(Ai p nb rb q s dH op o4 fm aE 0 _ 0 xs _ y1 dV cK cE hb aY bY d1 d2 d3 D rfl).code
   have cP:=y1.kept ar bB dV
   have dS:=y1.kept ar bB cK
   exact ad 4 c1<|Z 6 (ag 3 aJ dV)<|aH 0 (beq_eq_false_iff_ne.2 D:(o4==0)=false)<|bW 4 c2<|ap 1 (aE+1)<|dY 1 [(0,pt p 0),(2,pt rb 0),(3,.bool fm),(4,pt nb 0),(5,J (aE+1))] H2 [p,q] bD (ih _ D (aE+1) dH o4 ai0 _ ah cP dS rM YQ aY bY d1 d2 d3 hs b0 D D D D D (fun h=>absurd h D) (fun _=>(Bv (hR rfl) D).symm.trans (JY (J3 dR))) (fun h=>by omega) rfl)
  obtain ⟨_,H1,c1,af,y1,b7⟩:=s8 p s at_ op 93 y kp D hs D D
  rcases b7 with ⟨rfl,ry⟩ |⟨rfl,sN,vF⟩
  ·have cI:H.n+0≤H1.n:=af.n
   have bV:=y.kept af ai kp
   obtain ⟨_,H2,c2,ar,ah,dC⟩:=GM p s at_ op y1 bV D hs D D
   refine ad 2 c1<|?_
   rcases dC with ⟨zM,gv,rfl,eX,gy,aj5,aj8,k8,cJ⟩ |⟨gv,uO,rfl,eX,gy,PJ,k8,cJ⟩
   ·have cl:H1.n+0≤H2.n:=ar.n
    obtain ⟨_,H3,c3,aW,az,fo⟩:=s8 p s gv op 45 ah eX D hs D D
    refine ad 4 c2<|Z 6 (ag 3 aJ eX)<|?_
    rcases fo with ⟨rfl,JZ⟩ |⟨rfl,B8,Fh⟩
    ·have eF:=ah.kept aW ai eX
     have cK:=y.kept af ai bn
     have dS:=y1.kept ar bB cK
     have d6:=ah.kept aW ai dS
     have cE:=y.kept af ai aX
     have dQ:=y1.kept ar bB cE
     have fr:=ah.kept aW ai dQ
     obtain ⟨_,_,H4,cY,c4,bz,rfl,uY,rfl,Ju,ue⟩:=(GK p nb rb q s gv op 0 fm aE zM _ zM xs _ az eF d6 fr hb aY bY d1 d2 d3 D D rfl).code
     have ek:=az.kept c4 bB eF
     have eZ:=az.kept c4 bB d6
     exact ad 3 c3<|bW 3 cY<|ap 1 (aE+1)<|dY 1 [(0,pt p 0),(2,pt rb 0),(3,.bool fm),(4,pt nb 0),(5,J (aE+1))] H4 [p,q] bD (ih _ D (aE+1) gv 0 uY _ bz ek eZ ue Ju aY bY d1 d2 d3 hs b0 D D D D D (fun _=>EN ((IH (rQ ry) (J4 gy (rQ JZ))).symm.trans (zx (hR rfl) D)) D) (fun h=>absurd h D) (fun h=>by omega) rfl)
    have dD:H2.n+0≤H3.n:=aW.n
    have eF:=ah.kept aW ai eX
    obtain ⟨bF,aG⟩:∃ ao,ao=H3.set p (O (fC s (gv+1) op 0) 123):=⟨_,rfl⟩
    have bz:aa E G bF:=aG▸az.set _ D D
    have fB:bF.n=H3.n+0:=by rw [aG,U.cB] <;> rfl
    have ek:=bC aG
    obtain ⟨_,H5,dz,cV,cG,oN⟩:=GM p s (gv+1) op bz ek D hs D D
    refine ad 3 c3<|Z 4 (ag 1 aJ eF)<|ap 0 (gv+1)<|aC 2 (stx 1 (J (gv+1)) dL eF aG)<|?_
    rcases oN with ⟨KA,re,rfl,uc,E8,aj7,aka,YL,BC⟩ |⟨re,M4,rfl,uc,E8,ajP,YL,BC⟩
    ·have gk:bF.n+0≤H5.n:=cV.n
     refine ad 1 dz<|Z 4 (ag 3 aJ uc)<|aO 4 (KA<zM) ?_ ?_ <;> intro h7 mR
     ·obtain ⟨dW,dO⟩:∃ ao,ao=H5.set p (O (fC s (re-1) op 0) 123):=⟨_,rfl⟩
      have ea:aa E G dW:=dO▸cG.set _ D D
      have lC:dW.n=H5.n+0:=by rw [dO,U.cB] <;> rfl
      have hC:=bC dO
      obtain ⟨im,g8⟩:∃ ao,ao=dW.set p (O (fC s (re-1) op 2) 123):=⟨_,rfl⟩
      have gC:aa E G im:=g8▸ea.set _ D D
      have pH:=bC g8
      have cK:=y.kept af ai bn
      have dS:=y1.kept ar bB cK
      have d6:=ah.kept aW ai dS
      have eZ:=bu aG D d6
      have iN:=bz.kept cV bB eZ
      have qK:=bu dO D iN
      have vJ:=bu g8 D qK
      have cE:=y.kept af ai aX
      have dQ:=y1.kept ar bB cE
      have fr:=ah.kept aW ai dQ
      have kA:=bu aG D fr
      have oG:=bz.kept cV bB kA
      have rK:=bu dO D oG
      have xK:=bu g8 D rK
      obtain ⟨_,_,jT,m7,kI,kY,rfl,Nk,rfl,YS,abM⟩:=(Ai p nb rb q s (re-1) op 2 fm aE KA _ zM xs _ gC pH vJ xK hb aY bY d1 d2 d3 D rfl).code
      have Cf:=gC.kept kI bB pH
      have abr:=gC.kept kI bB vJ
      exact Z 4 (ag 1 aJ uc)<|ap 0 (re-1)<|aC 2 (stx 1 (J (re-1)) dL uc dO)<|aC 3 (stx 3 (J 2) dL hC g8)<|bW 2 m7<|ap 1 (aE+1)<|dY 1 [(0,pt p 0),(2,pt rb 0),(3,.bool fm),(4,pt nb 0),(5,J (aE+1))] jT [p,p,p,p,p,q] bD (ih _ D (aE+1) (re-1) 2 Nk _ kY Cf abr abM YS aY bY d1 d2 d3 hs b0 D D D D D (fun h=>absurd h D) (fun _=>(zx (hR rfl) D).symm.trans (Ey (rQ ry) (Fk gy B8 (qg Fh) E8 D))) (fun h=>by omega) rfl)
     have cK:=y.kept af ai bn
     have dS:=y1.kept ar bB cK
     have d6:=ah.kept aW ai dS
     have eZ:=bu aG D d6
     have iN:=bz.kept cV bB eZ
     have cE:=y.kept af ai aX
     have dQ:=y1.kept ar bB cE
     have fr:=ah.kept aW ai dQ
     have kA:=bu aG D fr
     have oG:=bz.kept cV bB kA
     obtain ⟨_,_,fj,gH,fO,ea,rfl,Nj,rfl,Jw,Kw⟩:=(GK p nb rb q s re op 0 fm aE KA _ zM xs _ cG uc iN oG hb aY bY d1 d2 d3 D D rfl).code
     have hC:=cG.kept fO bB uc
     have qK:=cG.kept fO bB iN
     exact bW 3 gH<|ap 1 (aE+1)<|dY 1 [(0,pt p 0),(2,pt rb 0),(3,.bool fm),(4,pt nb 0),(5,J (aE+1))] fj [p,p,p,q] bD (ih _ D (aE+1) re 0 Nj _ ea hC qK Kw Jw aY bY d1 d2 d3 hs b0 D D D D D (fun _=>EN ((IH (rQ ry) (J5 gy B8 (qg Fh) E8 D)).symm.trans (zx (hR rfl) D)) D) (fun h=>absurd h D) (fun h=>by omega) rfl)
    have cK:=y.kept af ai bn
    have dS:=y1.kept ar bB cK
    have d6:=ah.kept aW ai dS
    have eZ:=bu aG D d6
    have iN:=bz.kept cV bB eZ
    have cE:=y.kept af ai aX
    have dQ:=y1.kept ar bB cE
    have fr:=ah.kept aW ai dQ
    have kA:=bu aG D fr
    have oG:=bz.kept cV bB kA
    obtain ⟨_,_,fj,gH,fO,ea,rfl,Nj,rfl,Jw,Kw⟩:=(Ai p nb rb q s re op M4 fm aE 0 _ zM xs _ cG uc iN oG hb aY bY d1 d2 d3 D rfl).code
    have hC:=cG.kept fO bB uc
    have qK:=cG.kept fO bB iN
    exact ad 1 dz<|Z 4 (ag 3 aJ uc)<|aH 0 (beq_eq_false_iff_ne.2 D:(M4==0)=false)<|bW 4 gH<|ap 1 (aE+1)<|dY 1 [(0,pt p 0),(2,pt rb 0),(3,.bool fm),(4,pt nb 0),(5,J (aE+1))] fj [p,p,p,q] bD (ih _ D (aE+1) re M4 Nj _ ea hC qK Kw Jw aY bY d1 d2 d3 hs b0 D D D D D (fun h=>absurd h D) (fun _=>(zx (hR rfl) D).symm.trans (Ey (rQ ry) (J6 gy B8 (qg Fh) E8))) (fun h=>by omega) rfl)
   have cK:=y.kept af ai bn
   have dS:=y1.kept ar bB cK
   have cE:=y.kept af ai aX
   have dQ:=y1.kept ar bB cE
   obtain ⟨_,_,H3,c3,aW,az,rfl,AY,rfl,BD,l6⟩:=(Ai p nb rb q s gv op uO fm aE 0 _ 0 xs _ ah eX dS dQ hb aY bY d1 d2 d3 D rfl).code
   have eF:=ah.kept aW bB eX
   have d6:=ah.kept aW bB dS
   exact ad 4 c2<|Z 6 (ag 3 aJ eX)<|aH 0 (beq_eq_false_iff_ne.2 D:(uO==0)=false)<|bW 4 c3<|ap 1 (aE+1)<|dY 1 [(0,pt p 0),(2,pt rb 0),(3,.bool fm),(4,pt nb 0),(5,J (aE+1))] H3 [p,q] bD (ih _ D (aE+1) gv uO AY _ az eF d6 l6 BD aY bY d1 d2 d3 hs b0 D D D D D (fun h=>absurd h D) (fun _=>(zx (hR rfl) D).symm.trans (Ey (rQ ry) (J3 gy))) (fun h=>by omega) rfl)
  have bV:=y.kept af ai kp
  have cE:=y.kept af ai aX
  exact ad 2 c1<|en 3 [(0,pt p 0),(2,pt rb 0),(3,.bool fm),(4,pt nb 0)] (.exit 0) H1 [] aZ bi ⟨rfl,at_,0,xs,rfl,⟨bV,hb,cE,D,D,D,fun _=>⟨(zx (hR rfl) D).symm.trans (Oq sN (qg vF)),sN⟩,fun h=>absurd h D⟩⟩
 exact Z 3 (ag 3 aJ kp)<|aH 0 (beq_eq_false_iff_ne.2 D:(wr==0)=false)<|en 2 [(0,pt p 0),(2,pt rb 0),(3,.bool fm),(4,pt nb 0)] (.exit 0) H [] aZ bi ⟨rfl,at_,wr,xs,rfl,⟨kp,hb,aX,D,D,D,fun h=>absurd h D,fun _=>hN D⟩⟩
noncomputable def W6:Code:=cN [1,1,1,1,1,1,1,1,0,1,0,0] (cH Tryz.f168)
theorem afk (nb:Nat) (rb:Nat) (q:Nat):∀(m:Nat) (e8:Int) (xs:List Value) (H:U),aa E G H→(bn:H.get nb=some (O (y3 q) 85))→(aX:H.get q=some (O xs 4))→(hb:ki xs)→(aY:G.n≤q)→(d1:nb≠q)→(x0:0≤e8)→(256-e8).toNat=m→
  cy E G 134 W6 [(2,pt rb 0),(3,aN),(4,pt nb 0),(9,J e8)] H [q] (fun x T H'=>(x=(.exit 4)∧T=bl [(2,pt rb 0),(4,pt nb 0)])):=by
 refine d8 fun m ih=>?_
 intro e8 xs H y bn aX hb aY d1 x0 hm
 refine c9 y ?_
 have iX:=y.wf.lt aX
 refine aO 3 (e8<256) ?_ ?_ <;> intro h1 q1
 ·obtain ⟨DS,vE⟩:=Va (o:=(0+e8.toNat*1)) hb aX D
  cases DS with
  |true=>
   obtain ⟨aS,e1⟩:∃ ao,ao=H.set q (O (xs.set (0+e8.toNat*1) Y) 4):=⟨_,rfl⟩
   have y1:aa E G aS:=e1▸y.set _ D D
   have cE:=bC e1
   have cK:=bu e1 D bn
   exact aK [aB 0]<|Z 1 (ag 1 yT bn)<|Z 2 (ag 1 yT bn)<|bR 1 e8 (256:Int)<|aj [dP aN H] vE<|bR 1 e8 (256:Int)<|aC 0 ((Ek hb aX D).trans (congrArg some e1.symm):bp E 4 q (0+e8.toNat*1) Y H=some aS)<|aj [] (cU y aX:bZ H aS [q]=true)<|ap 1 (e8+1)<|dY 1 [(2,pt rb 0),(3,aN),(4,pt nb 0),(9,J (e8+1))] aS [q] bD (ih _ D (e8+1) (xs.set (0+e8.toNat*1) Y) _ y1 cK cE (ki.set hb (0+e8.toNat*1) false) aY d1 D rfl)
  |false=>
   obtain ⟨aS,e1⟩:∃ ao,ao=H.set q (O (xs.set (0+e8.toNat*1) aN) 4):=⟨_,rfl⟩
   have y1:aa E G aS:=e1▸y.set _ D D
   have cE:=bC e1
   have cK:=bu e1 D bn
   exact aK [aB 0]<|Z 1 (ag 1 yT bn)<|Z 2 (ag 1 yT bn)<|bR 1 e8 (256:Int)<|aj [dP Y H] vE<|bR 1 e8 (256:Int)<|aC 0 ((Ek hb aX D).trans (congrArg some e1.symm):bp E 4 q (0+e8.toNat*1) aN H=some aS)<|aj [] (cU y aX:bZ H aS [q]=true)<|ap 1 (e8+1)<|dY 1 [(2,pt rb 0),(3,aN),(4,pt nb 0),(9,J (e8+1))] aS [q] bD (ih _ D (e8+1) (xs.set (0+e8.toNat*1) aN) _ y1 cK cE (ki.set hb (0+e8.toNat*1) true) aY d1 D rfl)
 exact en 1 [(2,pt rb 0),(4,pt nb 0)] (.exit 4) H [] aZ bi ⟨rfl,rfl⟩
noncomputable def W5:Code:=cN [1,1,1,1,1,1,1,1,0,1,0,0] (cH Tryz.f168)
theorem afj (nb:Nat) (rb:Nat) (q:Nat):∀(m:Nat) (e8:Int) (xs:List Value) (H:U),aa E G H→(bn:H.get nb=some (O (y3 q) 85))→(aX:H.get q=some (O xs 4))→(hb:ki xs)→(aY:G.n≤q)→(d1:nb≠q)→(x0:0≤e8)→(256-e8).toNat=m→
  cy E G 134 W5 [(2,pt rb 0),(3,Y),(4,pt nb 0),(9,J e8)] H [q] (fun x T H'=>(x=(.exit 4)∧T=bl [(2,pt rb 0),(4,pt nb 0)])):=by
 refine d8 fun m ih=>?_
 intro e8 xs H y bn aX hb aY d1 x0 hm
 refine c9 y ?_
 exact en 3 [(2,pt rb 0),(4,pt nb 0)] (.exit 4) H [] aZ bi ⟨rfl,rfl⟩
noncomputable abbrev CP H:=news H (bo dw)
noncomputable abbrev jZ (H2:U):=([ab 91,sc (H2.n+0) 0 256 513,.slice none 0 0]:List Value)
noncomputable abbrev j0 (bk:U):=([ab 91,sc (bk.n+0) 0 256 513,.slice none 0 0]:List Value)
theorem ae7 (p:Nat) (s:ByteArray) (at_:Int) (op:Int) {H:U} (y:aa E G H) (kp:H.get p=some (lk s at_ op 0)) (bY:G.n≤p) (hs:(s.size:Int)<100000) (a0:0≤at_) (a1:at_≤s.size) (hlt:at_<s.size):aI E G 168 [pt p 0] H [p] (fun v H'=>A4 s p at_ 1 ((nT s (at_+1)).map fun a=>(a,op)) v H'):=by
 have g0:=y.n
 refine br Tryz.f168 y ?_
 have gi:=y.wf.lt kp
 obtain ⟨aS,e1⟩:∃ ao,ao=(CP H).set p (O (fC s (at_+1) op 0) 123):=⟨_,rfl⟩
 have y1:aa E G aS:=e1▸(y.news (bo dw)).set _ D (by rw [bU];simp only [cj,cF];omega)
 have cI:aS.n=H.n+1:=by rw [e1,U.cB,bU] <;> rfl
 have aP:=bu e1 D (aL (bo dw) H 0 _ rfl)
 have bV:=bC e1
 obtain ⟨_,H2,c2,ar,ah,dC⟩:=s8 p s (at_+1) op 94 y1 bV D hs D D
 refine Z 4 (ag 1 aJ (y.old kp (bo dw)))<|ap 0 (at_+1)<|aC 2 (stx 1 (J (at_+1)) dL (y.old kp (bo dw)) e1)<|?_
 rcases dC with ⟨rfl,Ca⟩ |⟨rfl,xD,zI⟩
 ·have cl:aS.n+0≤H2.n:=ar.n
  have g2:=ah.n
  have cP:=y1.kept ar ai bV
  obtain ⟨_,_,H3,c3,aW,az,rfl,mU,Uh,AY,rfl,mI,BD,l6,kD,SY,PO,Dj,G8⟩:=(Si p (H2.n+1) (H.n+0) (H2.n+0) s op false (at_+1) (nT s (at_+1)) _ 0 (at_+1) 0 (List.replicate 256 Y) _ (ah.news [O (List.replicate 256 Y) 4,O (jZ H2) 85]) (ah.old cP [O (List.replicate 256 Y) 4,O (jZ H2) 85]) (aL [O (List.replicate 256 Y) 4,O (jZ H2) 85] H2 1 _ rfl) (aL [O (List.replicate 256 Y) 4,O (jZ H2) 85] H2 0 _ rfl) ki.new D bY D D D hs D D D (.inl rfl) D D (fun _=>(Ol (if_neg (rQ Ca))).symm) (fun h=>absurd h D) (fun _=>rfl) rfl).code
  have dD:=oK aW
  have sP:=(ah.news [O (List.replicate 256 Y) 4,O (jZ H2) 85]).kept aW bB (aL [O (List.replicate 256 Y) 4,O (jZ H2) 85] H2 1 _ rfl)
  refine ad 1 c2<|aC 5 (bT cR rfl rfl rfl rfl:bp E 85 (H2.n+1) 0 (.agg (jZ H2).toArray) (news H2 [O (List.replicate 256 Y) 4,O dw 85])=some (news H2 [O (List.replicate 256 Y) 4,O (jZ H2) 85]))<|bW 1 c3<|?_
  rcases PO with rfl |PO
  ·obtain ⟨bF,aG⟩:∃ ao,ao=H3.set p (O (fC s (mU+1) op 0) 123):=⟨_,rfl⟩
   have bz:aa E G bF:=aG▸az.set _ D D
   have fB:bF.n=H3.n+0:=by rw [aG,U.cB] <;> rfl
   have ek:=bC aG
   have zJ:=bu aG D sP
   have Fq:=bu aG D l6
   obtain ⟨_,_,H5,dz,cV,cG,rfl,rfl⟩:=(afj (H2.n+1) (H.n+0) (H2.n+0) _ 0 AY _ bz zJ Fq BD D D D rfl).code
   have gk:bF.n+0≤H5.n:=cV.n
   have abm:=bz.kept cV bB zJ
   have cL:=y1.kept ar ai aP
   have ei:=(ah.news [O (List.replicate 256 Y) 4,O (jZ H2) 85]).kept aW bB (ah.old cL [O (List.replicate 256 Y) 4,O (jZ H2) 85])
   have ir:=bu aG D ei
   have l5:=bz.kept cV bB ir
   obtain ⟨dW,dO⟩:∃ ao,ao=H5.set (H.n+0) (O (jZ H2) 85):=⟨_,rfl⟩
   have ea:aa E G dW:=dO▸cG.set _ D D
   have lC:dW.n=H5.n+0:=by rw [dO,U.cB] <;> rfl
   have sQ:=bC dO
   have eR:=bz.kept cV bB ek
   have hC:=bu dO D eR
   exact Z 3 (ag 3 aJ mI)<|Z 4 (ag 1 aJ mI)<|ap 0 (mU+1)<|aC 2 (stx 1 (J (mU+1)) dL mI aG)<|bW 1 dz<|Z 0 (cg e5 cR abm rfl rfl:ay E 85 (H2.n+1) 0 H5=some (.agg (jZ H2).toArray))<|aC 0 (stx 0 (.agg (jZ H2).toArray) cR l5 dO)<|aj [] ((cg e5 cR sQ rfl rfl):ay E 85 (H.n+0) 0 dW=some (.agg (jZ H2).toArray))<|gM 0 [.agg (jZ H2).toArray] (.agg (jZ H2).toArray) dW [p,H2.n+1,p,H2.n+0,p,H2.n+0,H.n+0] aQ bi (.inl ⟨mU+1,op,⟨_,_,_,_,_,_,_,rfl⟩,hC,congrArg (Option.map fun a=>(a,op)) (Dj rfl).1,D,D⟩)
  have cL:=y1.kept ar ai aP
  have ei:=(ah.news [O (List.replicate 256 Y) 4,O (jZ H2) 85]).kept aW bB (ah.old cL [O (List.replicate 256 Y) 4,O (jZ H2) 85])
  obtain ⟨bF,aG⟩:∃ ao,ao=H3.set (H.n+0) (O (jZ H2) 85):=⟨_,rfl⟩
  have bz:aa E G bF:=aG▸az.set _ D D
  have fB:bF.n=H3.n+0:=by rw [aG,U.cB] <;> rfl
  have ir:=bC aG
  have ek:=bu aG D mI
  exact Z 3 (ag 3 aJ mI)<|aH 0 (decide_eq_true D:(decide (Uh>0))=true)<|Z 0 (cg e5 cR sP rfl rfl:ay E 85 (H2.n+1) 0 H3=some (.agg (jZ H2).toArray))<|aC 0 (stx 0 (.agg (jZ H2).toArray) cR ei aG)<|aj [] ((cg e5 cR ir rfl rfl):ay E 85 (H.n+0) 0 bF=some (.agg (jZ H2).toArray))<|gM 0 [.agg (jZ H2).toArray] (.agg (jZ H2).toArray) bF [p,H2.n+1,p,H2.n+0,H.n+0] aQ bi (.inr ⟨mU,op,Uh,⟨_,_,_,_,_,_,_,rfl⟩,ek,congrArg (Option.map fun a=>(a,op)) (G8 D),D,D,D⟩)
 have cl:aS.n+0≤H2.n:=ar.n
 have cP:=y1.kept ar ai bV
 obtain ⟨bk,aM⟩:∃ ao,ao=H2.set p (O (fC s ((at_+1)+1) op 0) 123):=⟨_,rfl⟩
 have az:aa E G bk:=aM▸ah.set _ D D
 have dD:bk.n=H2.n+0:=by rw [aM,U.cB] <;> rfl
 have g3:=az.n
 have eF:=bC aM
 obtain ⟨_,_,H4,cY,c4,bz,rfl,nI,Ui,uY,rfl,oI,Ju,ue,n8,G7,PP,Dk,Dl⟩:=(Si p (bk.n+1) (H.n+0) (bk.n+0) s op true ((at_+1)+1) (nT s (at_+1)) _ 0 ((at_+1)+1) 0 (List.replicate 256 Y) _ (az.news [O (List.replicate 256 Y) 4,O (j0 bk) 85]) (az.old eF [O (List.replicate 256 Y) 4,O (j0 bk) 85]) (aL [O (List.replicate 256 Y) 4,O (j0 bk) 85] bk 1 _ rfl) (aL [O (List.replicate 256 Y) 4,O (j0 bk) 85] bk 0 _ rfl) ki.new D bY D D D hs D D D (.inl rfl) D D (fun _=>(Ol (if_pos ⟨xD,qg zI⟩)).symm) (fun h=>absurd h D) (fun _=>rfl) rfl).code
 have fB:=oK c4
 have P4:=(az.news [O (List.replicate 256 Y) 4,O (j0 bk) 85]).kept c4 bB (aL [O (List.replicate 256 Y) 4,O (j0 bk) 85] bk 1 _ rfl)
 refine ad 1 c2<|Z 5 (ag 1 aJ cP)<|ap 0 ((at_+1)+1)<|aC 2 (stx 1 (J ((at_+1)+1)) dL cP aM)<|aC 3 (bT cR rfl rfl rfl rfl:bp E 85 (bk.n+1) 0 (.agg (j0 bk).toArray) (news bk [O (List.replicate 256 Y) 4,O dw 85])=some (news bk [O (List.replicate 256 Y) 4,O (j0 bk) 85]))<|bW 1 cY<|?_
 rcases PP with rfl |PP
 ·obtain ⟨db,bS⟩:∃ ao,ao=H4.set p (O (fC s (nI+1) op 0) 123):=⟨_,rfl⟩
  have cG:aa E G db:=bS▸bz.set _ D D
  have gk:db.n=H4.n+0:=by rw [bS,U.cB] <;> rfl
  have eR:=bC bS
  have P5:=bu bS D P4
  have abo:=bu bS D ue
  obtain ⟨_,_,fj,gH,fO,ea,rfl,rfl⟩:=(afk (bk.n+1) (H.n+0) (bk.n+0) _ 0 uY _ cG P5 abo Ju D D D rfl).code
  have lC:db.n+0≤fj.n:=fO.n
  have abq:=cG.kept fO bB P5
  have cL:=y1.kept ar ai aP
  have ei:=bu aM D cL
  have ir:=(az.news [O (List.replicate 256 Y) 4,O (j0 bk) 85]).kept c4 bB (az.old ei [O (List.replicate 256 Y) 4,O (j0 bk) 85])
  have l5:=bu bS D ir
  have sQ:=cG.kept fO bB l5
  obtain ⟨im,g8⟩:∃ ao,ao=fj.set (H.n+0) (O (j0 bk) 85):=⟨_,rfl⟩
  have gC:aa E G im:=g8▸ea.set _ D D
  have qh:im.n=fj.n+0:=by rw [g8,U.cB] <;> rfl
  have Ce:=bC g8
  have hC:=cG.kept fO bB eR
  have pH:=bu g8 D hC
  exact Z 3 (ag 3 aJ oI)<|Z 4 (ag 1 aJ oI)<|ap 0 (nI+1)<|aC 2 (stx 1 (J (nI+1)) dL oI bS)<|bW 1 gH<|Z 0 (cg e5 cR abq rfl rfl:ay E 85 (bk.n+1) 0 fj=some (.agg (j0 bk).toArray))<|aC 0 (stx 0 (.agg (j0 bk).toArray) cR sQ g8)<|aj [] ((cg e5 cR Ce rfl rfl):ay E 85 (H.n+0) 0 im=some (.agg (j0 bk).toArray))<|gM 0 [.agg (j0 bk).toArray] (.agg (j0 bk).toArray) im [p,p,bk.n+1,p,bk.n+0,p,bk.n+0,H.n+0] aQ bi (.inl ⟨nI+1,op,⟨_,_,_,_,_,_,_,rfl⟩,pH,congrArg (Option.map fun a=>(a,op)) (Dk rfl).1,D,D⟩)
 have cL:=y1.kept ar ai aP
 have ei:=bu aM D cL
 have ir:=(az.news [O (List.replicate 256 Y) 4,O (j0 bk) 85]).kept c4 bB (az.old ei [O (List.replicate 256 Y) 4,O (j0 bk) 85])
 obtain ⟨db,bS⟩:∃ ao,ao=H4.set (H.n+0) (O (j0 bk) 85):=⟨_,rfl⟩
 have cG:aa E G db:=bS▸bz.set _ D D
 have gk:db.n=H4.n+0:=by rw [bS,U.cB] <;> rfl
 have l5:=bC bS
 have eR:=bu bS D oI
 exact Z 3 (ag 3 aJ oI)<|aH 0 (decide_eq_true D:(decide (Ui>0))=true)<|Z 0 (cg e5 cR P4 rfl rfl:ay E 85 (bk.n+1) 0 H4=some (.agg (j0 bk).toArray))<|aC 0 (stx 0 (.agg (j0 bk).toArray) cR ir bS)<|aj [] ((cg e5 cR l5 rfl rfl):ay E 85 (H.n+0) 0 db=some (.agg (j0 bk).toArray))<|gM 0 [.agg (j0 bk).toArray] (.agg (j0 bk).toArray) db [p,p,bk.n+1,p,bk.n+0,H.n+0] aQ bi (.inr ⟨nI,op,Ui,⟨_,_,_,_,_,_,_,rfl⟩,eR,congrArg (Option.map fun a=>(a,op)) (Dl D),D,D,D⟩)
noncomputable abbrev d5 b8 ce cd b9 cf cc ca:=([ab b8,.slice ce cd b9,.slice cf cc ca]:List Value)
noncomputable abbrev FV H3 b8 ce cd b9 cf cc ca:=news H3 (bo (d5 b8 ce cd b9 cf cc ca))
noncomputable abbrev Q4 H3:=news H3 (bo dw)
noncomputable abbrev dx bJ bO bN bK bP bM bL:=([ab bJ,.slice bO bN bK,.slice bP bM bL]:List Value)
noncomputable abbrev fI eu eB eA ew eC ez ey:=([ab eu,.slice eB eA ew,.slice eC ez ey]:List Value)
theorem Sh (p:Nat) (s:ByteArray) (at_:Int) (op:Int) (n:Nat) {H:U} (y:aa E G H) (kp:H.get p=some (lk s at_ op 0)) (bY:G.n≤p) (hs:(s.size:Int)<100000) (a0:0≤at_) (a1:at_≤s.size) (hA:uZ s n) (hn:((s.size:Int)-at_).toNat≤n) (hlt:at_<s.size):aI E G 124 [pt p 0] H [p] (fun v H'=>A4 s p at_ 1 (kM s at_ op) v H'):=by
 have g0:=y.n
 refine br Tryz.f124 y ?_
 have gi:=y.wf.lt kp
 refine aK [aB 0]<|Z 3 (ag 0 ct (y.old kp (bo dw)))<|Z 3 (ag 1 aJ (y.old kp (bo dw)))<|bR 0 at_ (s.size:Int)<|cS 2 (ac s at_) 40 ?_ ?_ <;> intro h1 q1
 ·refine Z 3 (ag 2 aJ (y.old kp (bo dw)))<|cS 0 op 32 ?_ ?_ <;> intro h2 cw
  ·obtain ⟨aS,e1⟩:∃ ao,ao=(CP H).set p (O (fC s at_ op 12) 123):=⟨_,rfl⟩
   have y1:aa E G aS:=e1▸(y.news (bo dw)).set _ D (by rw [bU];simp only [cj,cF];omega)
   have cI:aS.n=H.n+1:=by rw [e1,U.cB,bU] <;> rfl
   have aP:=bu e1 D (aL (bo dw) H 0 _ rfl)
   have bV:=bC e1
   obtain ⟨aF,e2⟩:∃ ao,ao=aS.set (H.n+0) (O dw 85):=⟨_,rfl⟩
   have ah:aa E G aF:=e2▸y1.set _ D D
   have cl:aF.n=aS.n+0:=by rw [e2,U.cB] <;> rfl
   have cL:=bC e2
   have cP:=bu e2 D bV
   exact aC 3 (stx 3 (J 12) dL (y.old kp (bo dw)) e1)<|aC 1 (stx 0 (.agg (List.toArray dw)) cR aP e2)<|aj [] ((cg e5 cR cL rfl rfl):ay E 85 (H.n+0) 0 aF=some (.agg (List.toArray dw)))<|gM 0 [.agg (List.toArray dw)] (.agg (List.toArray dw)) aF [p,H.n+0] aQ bi (.inr ⟨at_,op,12,⟨_,_,_,_,_,_,_,rfl⟩,cP,NQ hlt q1 cw,D,D,D⟩)
  obtain ⟨aS,e1⟩:∃ ao,ao=(CP H).set p (O (fC s (at_+1) op 0) 123):=⟨_,rfl⟩
  have y1:aa E G aS:=e1▸(y.news (bo dw)).set _ D (by rw [bU];simp only [cj,cF];omega)
  have cI:aS.n=H.n+1:=by rw [e1,U.cB,bU] <;> rfl
  have aP:=bu e1 D (aL (bo dw) H 0 _ rfl)
  have bV:=bC e1
  obtain ⟨aF,e2⟩:∃ ao,ao=aS.set p (O (fC s (at_+1) (IntKind.i64.wrap (op+1)) 0) 123):=⟨_,rfl⟩
  have ah:aa E G aF:=e2▸y1.set _ D D
  have cl:aF.n=aS.n+0:=by rw [e2,U.cB] <;> rfl
  have cP:=bC e2
  obtain ⟨_,H3,c3,aW,az,fo⟩:=hA p (at_+1) (IntKind.i64.wrap (op+1)) ah cP D hs D D D
  refine Z 3 (ag 1 aJ (y.old kp (bo dw)))<|ap 0 (at_+1)<|aC 2 (stx 1 (J (at_+1)) dL (y.old kp (bo dw)) e1)<|Z 3 (ag 2 aJ bV)<|aC 3 (stx 2 (J (IntKind.i64.wrap (op+1))) dL bV e2)<|?_
  rcases fo with ⟨fH,ma,⟨b8,ce,cd,b9,cf,cc,ca,rfl⟩,e6,iM,oz,eh⟩ |⟨fH,ma,wK,⟨b8,ce,cd,b9,cf,cc,ca,rfl⟩,e6,iM,PK,oz,eh⟩
  ·have dD:aF.n+0≤H3.n:=aW.n
   obtain ⟨bF,aG⟩:∃ ao,ao=(FV H3 b8 ce cd b9 cf cc ca).set p (O (fC s fH (IntKind.i64.wrap (ma-1)) 0) 123):=⟨_,rfl⟩
   have bz:aa E G bF:=aG▸(az.news (bo (d5 b8 ce cd b9 cf cc ca))).set _ D (by rw [bU];simp only [cj,cF];omega)
   have fB:bF.n=H3.n+1:=by rw [aG,U.cB,bU] <;> rfl
   have vH:=bu aG D (aL (bo (d5 b8 ce cd b9 cf cc ca)) H3 0 _ rfl)
   have ek:=bC aG
   obtain ⟨_,H5,dz,cV,cG,oN⟩:=s8 p s fH (IntKind.i64.wrap (ma-1)) 41 bz ek D hs D D
   refine ad 1 c3<|aC 1 (bT cR rfl rfl rfl rfl:bp E 85 (H3.n+0) 0 (.agg (d5 b8 ce cd b9 cf cc ca).toArray) (Q4 H3)=some (FV H3 b8 ce cd b9 cf cc ca))<|Z 3 (ag 2 aJ (az.old e6 (bo (d5 b8 ce cd b9 cf cc ca))))<|aC 3 (stx 2 (J (IntKind.i64.wrap (ma-1))) dL (az.old e6 (bo (d5 b8 ce cd b9 cf cc ca))) aG)<|Z 3 (ag 3 aJ ek)<|?_
   rcases oN with ⟨rfl,aaa⟩ |⟨rfl,Z4,Z5⟩
   ·have gk:bF.n+0≤H5.n:=cV.n
    have eR:=bz.kept cV ai ek
    obtain ⟨dW,dO⟩:∃ ao,ao=H5.set p (O (fC s fH (IntKind.i64.wrap (ma-1)) 2) 123):=⟨_,rfl⟩
    have ea:aa E G dW:=dO▸cG.set _ D D
    have lC:dW.n=H5.n+0:=by rw [dO,U.cB] <;> rfl
    have hC:=bC dO
    have Cd:=bz.kept cV ai vH
    have Ke:=bu dO D Cd
    have cL:=bu e2 D aP
    have ei:=ah.kept aW bB cL
    have ir:=bu aG D (az.old ei (bo (d5 b8 ce cd b9 cf cc ca)))
    have l5:=bz.kept cV ai ir
    have sQ:=bu dO D l5
    obtain ⟨im,g8⟩:∃ ao,ao=dW.set (H.n+0) (O (d5 b8 ce cd b9 cf cc ca) 85):=⟨_,rfl⟩
    have gC:aa E G im:=g8▸ea.set _ D D
    have qh:im.n=dW.n+0:=by rw [g8,U.cB] <;> rfl
    have Ce:=bC g8
    have pH:=bu g8 D hC
    exact ad 3 dz<|aC 5 (stx 3 (J 2) dL eR dO)<|Z 3 (ag 3 aJ hC)<|Z 1 (cg e5 cR Ke rfl rfl:ay E 85 (H3.n+0) 0 dW=some (.agg (d5 b8 ce cd b9 cf cc ca).toArray))<|aC 0 (stx 0 (.agg (d5 b8 ce cd b9 cf cc ca).toArray) cR sQ g8)<|aj [] ((cg e5 cR Ce rfl rfl):ay E 85 (H.n+0) 0 im=some (.agg (d5 b8 ce cd b9 cf cc ca).toArray))<|gM 0 [.agg (d5 b8 ce cd b9 cf cc ca).toArray] (.agg (d5 b8 ce cd b9 cf cc ca).toArray) im [p,p,p,H3.n+0,p,p,H.n+0] aQ bi (.inr ⟨fH,IntKind.i64.wrap (ma-1),2,⟨_,_,_,_,_,_,_,rfl⟩,pH,NR hlt q1 cw iM (rQ aaa),D,D,D⟩)
   have gk:bF.n+0≤H5.n:=cV.n
   have eR:=bz.kept cV ai ek
   obtain ⟨dW,dO⟩:∃ ao,ao=H5.set p (O (fC s (fH+1) (IntKind.i64.wrap (ma-1)) 0) 123):=⟨_,rfl⟩
   have ea:aa E G dW:=dO▸cG.set _ D D
   have lC:dW.n=H5.n+0:=by rw [dO,U.cB] <;> rfl
   have hC:=bC dO
   have Cd:=bz.kept cV ai vH
   have Ke:=bu dO D Cd
   have cL:=bu e2 D aP
   have ei:=ah.kept aW bB cL
   have ir:=bu aG D (az.old ei (bo (d5 b8 ce cd b9 cf cc ca)))
   have l5:=bz.kept cV ai ir
   have sQ:=bu dO D l5
   obtain ⟨im,g8⟩:∃ ao,ao=dW.set (H.n+0) (O (d5 b8 ce cd b9 cf cc ca) 85):=⟨_,rfl⟩
   have gC:aa E G im:=g8▸ea.set _ D D
   have qh:im.n=dW.n+0:=by rw [g8,U.cB] <;> rfl
   have Ce:=bC g8
   have pH:=bu g8 D hC
   exact ad 3 dz<|Z 5 (ag 3 aJ eR)<|Z 4 (ag 1 aJ eR)<|ap 0 (fH+1)<|aC 2 (stx 1 (J (fH+1)) dL eR dO)<|Z 0 (cg e5 cR Ke rfl rfl:ay E 85 (H3.n+0) 0 dW=some (.agg (d5 b8 ce cd b9 cf cc ca).toArray))<|aC 0 (stx 0 (.agg (d5 b8 ce cd b9 cf cc ca).toArray) cR sQ g8)<|aj [] ((cg e5 cR Ce rfl rfl):ay E 85 (H.n+0) 0 im=some (.agg (d5 b8 ce cd b9 cf cc ca).toArray))<|gM 0 [.agg (d5 b8 ce cd b9 cf cc ca).toArray] (.agg (d5 b8 ce cd b9 cf cc ca).toArray) im [p,p,p,H3.n+0,p,p,H.n+0] aQ bi (.inl ⟨fH+1,IntKind.i64.wrap (ma-1),⟨_,_,_,_,_,_,_,rfl⟩,pH,NT hlt q1 cw iM Z4 (qg Z5),D,D⟩)
  have dD:aF.n+0≤H3.n:=aW.n
  obtain ⟨bF,aG⟩:∃ ao,ao=(FV H3 b8 ce cd b9 cf cc ca).set p (O (fC s fH (IntKind.i64.wrap (ma-1)) wK) 123):=⟨_,rfl⟩
  have bz:aa E G bF:=aG▸(az.news (bo (d5 b8 ce cd b9 cf cc ca))).set _ D (by rw [bU];simp only [cj,cF];omega)
  have fB:bF.n=H3.n+1:=by rw [aG,U.cB,bU] <;> rfl
  have vH:=bu aG D (aL (bo (d5 b8 ce cd b9 cf cc ca)) H3 0 _ rfl)
  have ek:=bC aG
  have cL:=bu e2 D aP
  have ei:=ah.kept aW bB cL
  have ir:=bu aG D (az.old ei (bo (d5 b8 ce cd b9 cf cc ca)))
  obtain ⟨db,bS⟩:∃ ao,ao=bF.set (H.n+0) (O (d5 b8 ce cd b9 cf cc ca) 85):=⟨_,rfl⟩
  have cG:aa E G db:=bS▸bz.set _ D D
  have gk:db.n=bF.n+0:=by rw [bS,U.cB] <;> rfl
  have l5:=bC bS
  have eR:=bu bS D ek
  exact ad 1 c3<|aC 1 (bT cR rfl rfl rfl rfl:bp E 85 (H3.n+0) 0 (.agg (d5 b8 ce cd b9 cf cc ca).toArray) (Q4 H3)=some (FV H3 b8 ce cd b9 cf cc ca))<|Z 3 (ag 2 aJ (az.old e6 (bo (d5 b8 ce cd b9 cf cc ca))))<|aC 3 (stx 2 (J (IntKind.i64.wrap (ma-1))) dL (az.old e6 (bo (d5 b8 ce cd b9 cf cc ca))) aG)<|Z 3 (ag 3 aJ ek)<|aH 0 (beq_eq_false_iff_ne.2 D:(wK==0)=false)<|Z 5 (ag 3 aJ ek)<|aH 0 (beq_eq_false_iff_ne.2 D:(wK==0)=false)<|Z 0 (cg e5 cR vH rfl rfl:ay E 85 (H3.n+0) 0 bF=some (.agg (d5 b8 ce cd b9 cf cc ca).toArray))<|aC 0 (stx 0 (.agg (d5 b8 ce cd b9 cf cc ca).toArray) cR ir bS)<|aj [] ((cg e5 cR l5 rfl rfl):ay E 85 (H.n+0) 0 db=some (.agg (d5 b8 ce cd b9 cf cc ca).toArray))<|gM 0 [.agg (d5 b8 ce cd b9 cf cc ca).toArray] (.agg (d5 b8 ce cd b9 cf cc ca).toArray) db [p,p,p,H3.n+0,p,H.n+0] aQ bi (.inr ⟨fH,IntKind.i64.wrap (ma-1),wK,⟨_,_,_,_,_,_,_,rfl⟩,eR,NS hlt q1 cw iM,D,D,D⟩)
 refine cS 1 (ac s at_) 91 ?_ ?_ <;> intro h2 cw
 ·obtain ⟨_,H1,c1,af,y1,b7⟩:=ae7 p s at_ op (y.news (bo dw)) (y.old kp (bo dw)) D hs D D D
  rcases b7 with ⟨dH,rS,⟨bJ,bO,bN,bK,bP,bM,bL,rfl⟩,dV,dR,g9,cq⟩ |⟨dH,rS,o4,⟨bJ,bO,bN,bK,bP,bM,bL,rfl⟩,dV,dR,hw1,g9,cq⟩
  ·have cI:=dA af
   have aP:=(y.news (bo dw)).kept af bB (aL (bo dw) H 0 _ rfl)
   obtain ⟨aF,e2⟩:∃ ao,ao=H1.set (H.n+0) (O (dx bJ bO bN bK bP bM bL) 85):=⟨_,rfl⟩
   have ah:aa E G aF:=e2▸y1.set _ D D
   have cl:aF.n=H1.n+0:=by rw [e2,U.cB] <;> rfl
   have cL:=bC e2
   have cP:=bu e2 D dV
   exact ad 1 c1<|aC 0 (stx 0 (.agg (dx bJ bO bN bK bP bM bL).toArray) cR aP e2)<|aj [] ((cg e5 cR cL rfl rfl):ay E 85 (H.n+0) 0 aF=some (.agg (dx bJ bO bN bK bP bM bL).toArray))<|gM 0 [.agg (dx bJ bO bN bK bP bM bL).toArray] (.agg (dx bJ bO bN bK bP bM bL).toArray) aF [p,H.n+0] aQ bi (.inl ⟨dH,rS,⟨_,_,_,_,_,_,_,rfl⟩,cP,(Ec hlt D).trans dR,D,D⟩)
  have cI:=dA af
  have aP:=(y.news (bo dw)).kept af bB (aL (bo dw) H 0 _ rfl)
  obtain ⟨aF,e2⟩:∃ ao,ao=H1.set (H.n+0) (O (dx bJ bO bN bK bP bM bL) 85):=⟨_,rfl⟩
  have ah:aa E G aF:=e2▸y1.set _ D D
  have cl:aF.n=H1.n+0:=by rw [e2,U.cB] <;> rfl
  have cL:=bC e2
  have cP:=bu e2 D dV
  exact ad 1 c1<|aC 0 (stx 0 (.agg (dx bJ bO bN bK bP bM bL).toArray) cR aP e2)<|aj [] ((cg e5 cR cL rfl rfl):ay E 85 (H.n+0) 0 aF=some (.agg (dx bJ bO bN bK bP bM bL).toArray))<|gM 0 [.agg (dx bJ bO bN bK bP bM bL).toArray] (.agg (dx bJ bO bN bK bP bM bL).toArray) aF [p,H.n+0] aQ bi (.inr ⟨dH,rS,o4,⟨_,_,_,_,_,_,_,rfl⟩,cP,(Ec hlt D).trans dR,D,D,D⟩)
 cases h3:(sU ⟨#[41,93,123,125,94,36,124,42,43,63]⟩ (ac s at_)) with
 |true=>
  obtain ⟨aS,e1⟩:∃ ao,ao=(CP H).set p (O (fC s at_ op 2) 123):=⟨_,rfl⟩
  have y1:aa E G aS:=e1▸(y.news (bo dw)).set _ D (by rw [bU];simp only [cj,cF];omega)
  have cI:aS.n=H.n+1:=by rw [e1,U.cB,bU] <;> rfl
  have aP:=bu e1 D (aL (bo dw) H 0 _ rfl)
  have bV:=bC e1
  obtain ⟨aF,e2⟩:∃ ao,ao=aS.set (H.n+0) (O dw 85):=⟨_,rfl⟩
  have ah:aa E G aF:=e2▸y1.set _ D D
  have cl:aF.n=aS.n+0:=by rw [e2,U.cB] <;> rfl
  have cL:=bC e2
  have cP:=bu e2 D bV
  exact ad 1 (c5 h3 (GN (ac s at_) ⟨#[41,93,123,125,94,36,124,42,43,63]⟩ (by decide) (y.news (bo dw))))<|aC 3 (stx 3 (J 2) dL (y.old kp (bo dw)) e1)<|aC 1 (stx 0 (.agg (List.toArray dw)) cR aP e2)<|aj [] ((cg e5 cR cL rfl rfl):ay E 85 (H.n+0) 0 aF=some (.agg (List.toArray dw)))<|gM 0 [.agg (List.toArray dw)] (.agg (List.toArray dw)) aF [p,H.n+0] aQ bi (.inr ⟨at_,op,2,⟨_,_,_,_,_,_,_,rfl⟩,cP,NP hlt D D h3,D,D,D⟩)
 |false=>
  obtain ⟨aS,e1⟩:∃ ao,ao=(CP H).set p (O (fC s (at_+1) op 0) 123):=⟨_,rfl⟩
  have y1:aa E G aS:=e1▸(y.news (bo dw)).set _ D (by rw [bU];simp only [cj,cF];omega)
  have cI:aS.n=H.n+1:=by rw [e1,U.cB,bU] <;> rfl
  have aP:=bu e1 D (aL (bo dw) H 0 _ rfl)
  have bV:=bC e1
  refine ad 1 (c5 h3 (GN (ac s at_) ⟨#[41,93,123,125,94,36,124,42,43,63]⟩ (by decide) (y.news (bo dw))))<|Z 3 (ag 1 aJ (y.old kp (bo dw)))<|ap 0 (at_+1)<|aC 2 (stx 1 (J (at_+1)) dL (y.old kp (bo dw)) e1)<|cS 1 (ac s at_) 46 ?_ ?_ <;> intro h4 dT
  ·obtain ⟨_,H2,c2,ar,ah,⟨eu,eB,eA,ew,eC,ez,ey,rfl⟩⟩:=LW 0 255 y1 D D
   have cl:aS.n+0≤H2.n:=ar.n
   have cL:=y1.kept ar ai aP
   obtain ⟨bk,aM⟩:∃ ao,ao=H2.set (H.n+0) (O (fI eu eB eA ew eC ez ey) 85):=⟨_,rfl⟩
   have az:aa E G bk:=aM▸ah.set _ D D
   have dD:bk.n=H2.n+0:=by rw [aM,U.cB] <;> rfl
   have ei:=bC aM
   have cP:=y1.kept ar ai bV
   have eF:=bu aM D cP
   exact ad 0 c2<|aC 0 (stx 0 (.agg (fI eu eB eA ew eC ez ey).toArray) cR cL aM)<|aj [] ((cg e5 cR ei rfl rfl):ay E 85 (H.n+0) 0 bk=some (.agg (fI eu eB eA ew eC ez ey).toArray))<|gM 0 [.agg (fI eu eB eA ew eC ez ey).toArray] (.agg (fI eu eB eA ew eC ez ey).toArray) bk [p,H.n+0] aQ bi (.inl ⟨at_+1,op,⟨_,_,_,_,_,_,_,rfl⟩,eF,Ee hlt D D (fun h=>absurd (h.symm.trans h3) (by decide)) D,D,D⟩)
  refine cS 1 (ac s at_) 92 ?_ ?_ <;> intro h5 ff
  ·obtain ⟨_,H2,c2,ar,ah,dC⟩:=Ak p s (at_+1) op y1 bV D hs D D
   rcases dC with ⟨rfl,akO⟩ |⟨rfl,akQ⟩
   ·have cl:aS.n+0≤H2.n:=ar.n
    have cP:=y1.kept ar ai bV
    obtain ⟨bk,aM⟩:∃ ao,ao=H2.set p (O (fC s (at_+1) op 2) 123):=⟨_,rfl⟩
    have az:aa E G bk:=aM▸ah.set _ D D
    have dD:bk.n=H2.n+0:=by rw [aM,U.cB] <;> rfl
    have eF:=bC aM
    have cL:=y1.kept ar ai aP
    have ei:=bu aM D cL
    obtain ⟨bF,aG⟩:∃ ao,ao=bk.set (H.n+0) (O dw 85):=⟨_,rfl⟩
    have bz:aa E G bF:=aG▸az.set _ D D
    have fB:bF.n=bk.n+0:=by rw [aG,U.cB] <;> rfl
    have ir:=bC aG
    have ek:=bu aG D eF
    exact ad 1 c2<|aC 10 (stx 3 (J 2) dL cP aM)<|aC 1 (stx 0 (.agg (List.toArray dw)) cR ei aG)<|aj [] ((cg e5 cR ir rfl rfl):ay E 85 (H.n+0) 0 bF=some (.agg (List.toArray dw)))<|gM 0 [.agg (List.toArray dw)] (.agg (List.toArray dw)) bF [p,p,H.n+0] aQ bi (.inr ⟨at_+1,op,2,⟨_,_,_,_,_,_,_,rfl⟩,ek,(Ed hlt D).trans (if_neg D),D,D,D⟩)
   have cl:aS.n+0≤H2.n:=ar.n
   have cP:=y1.kept ar ai bV
   obtain ⟨bk,aM⟩:∃ ao,ao=H2.set p (O (fC s ((at_+1)+1) op 0) 123):=⟨_,rfl⟩
   have az:aa E G bk:=aM▸ah.set _ D D
   have dD:bk.n=H2.n+0:=by rw [aM,U.cB] <;> rfl
   have eF:=bC aM
   obtain ⟨_,H4,cY,c4,bz,⟨Dy,DE,DD,DA,DF,DC,DB,rfl⟩⟩:=LW (ac s (at_+1)) (ac s (at_+1)) az (gG _ _) (by have:=jK s (at_+1);omega)
   have fB:bk.n+0≤H4.n:=c4.n
   have cL:=y1.kept ar ai aP
   have ei:=bu aM D cL
   have ir:=az.kept c4 ai ei
   obtain ⟨db,bS⟩:∃ ao,ao=H4.set (H.n+0) (O [ab Dy,.slice DE DD DA,.slice DF DC DB] 85):=⟨_,rfl⟩
   have cG:aa E G db:=bS▸bz.set _ D D
   have gk:db.n=H4.n+0:=by rw [bS,U.cB] <;> rfl
   have l5:=bC bS
   have ek:=az.kept c4 ai eF
   have eR:=bu bS D ek
   exact ad 1 c2<|Z 10 (ag 1 aJ cP)<|ap 0 ((at_+1)+1)<|aC 2 (stx 1 (J ((at_+1)+1)) dL cP aM)<|aK [aB 2]<|aj [.as (J (ac s (at_+1)))] (show ((J (IntKind.i64.wrap (ac s (at_+1)))):Value)=(J (ac s (at_+1))) from AO s (at_+1))<|aK [aB 0]<|aj [.as (J (ac s (at_+1)))] (show ((J (IntKind.i64.wrap (ac s (at_+1)))):Value)=(J (ac s (at_+1))) from AO s (at_+1))<|ad 0 cY<|aC 0 (stx 0 (.agg #[ab Dy,.slice DE DD DA,.slice DF DC DB]) cR ir bS)<|aj [] ((cg e5 cR l5 rfl rfl):ay E 85 (H.n+0) 0 db=some (.agg #[ab Dy,.slice DE DD DA,.slice DF DC DB]))<|gM 0 [.agg #[ab Dy,.slice DE DD DA,.slice DF DC DB]] (.agg #[ab Dy,.slice DE DD DA,.slice DF DC DB]) db [p,p,H.n+0] aQ bi (.inl ⟨(at_+1)+1,op,⟨_,_,_,_,_,_,_,rfl⟩,eR,(by rw [Ed hlt D,if_pos D,show at_+2=at_+1+1 by omega]),D,D⟩)
  obtain ⟨_,H2,c2,ar,ah,⟨eu,eB,eA,ew,eC,ez,ey,rfl⟩⟩:=LW (ac s at_) (ac s at_) y1 (gG _ _) (by have:=jK s at_;omega)
  have cl:aS.n+0≤H2.n:=ar.n
  have cL:=y1.kept ar ai aP
  obtain ⟨bk,aM⟩:∃ ao,ao=H2.set (H.n+0) (O (fI eu eB eA ew eC ez ey) 85):=⟨_,rfl⟩
  have az:aa E G bk:=aM▸ah.set _ D D
  have dD:bk.n=H2.n+0:=by rw [aM,U.cB] <;> rfl
  have ei:=bC aM
  have cP:=y1.kept ar ai bV
  have eF:=bu aM D cP
  exact aK [aB 0]<|aj [.as (J (ac s at_))] (show ((J (IntKind.i64.wrap (ac s at_))):Value)=(J (ac s at_)) from AO s at_)<|aK [aB 0]<|aj [.as (J (ac s at_))] (show ((J (IntKind.i64.wrap (ac s at_))):Value)=(J (ac s at_)) from AO s at_)<|ad 0 c2<|aC 0 (stx 0 (.agg (fI eu eB eA ew eC ez ey).toArray) cR cL aM)<|aj [] ((cg e5 cR ei rfl rfl):ay E 85 (H.n+0) 0 bk=some (.agg (fI eu eB eA ew eC ez ey).toArray))<|gM 0 [.agg (fI eu eB eA ew eC ez ey).toArray] (.agg (fI eu eB eA ew eC ez ey).toArray) bk [p,H.n+0] aQ bi (.inl ⟨at_+1,op,⟨_,_,_,_,_,_,_,rfl⟩,eF,Ee hlt D D (fun h=>absurd (h.symm.trans h3) (by decide)) D,D,D⟩)
theorem D4:nO E #[83,83] 85 3 56=true:=av
noncomputable def W9:Code:=cN [1,1,0,0,0,1,1,1,0,0,0] (cH Tryz.f103)
noncomputable abbrev j3 xa ef xn xc eg ee ed:=([ab xa,.slice ef xn xc,.slice eg ee ed]:List Value)
noncomputable abbrev Q5 H3 xa ef xn xc eg ee ed:=news H3 (bo (j3 xa ef xn xc eg ee ed))
noncomputable abbrev Q6 H2 xa ef xn xc eg ee ed:=news H2 (bo (j3 xa ef xn xc eg ee ed))
noncomputable abbrev Q7 H1 xa ef xn xc eg ee ed:=news H1 (bo (j3 xa ef xn xc eg ee ed))
theorem Sk (p:Nat) (nb:Nat) (rb:Nat) (iR:Nat) (s:ByteArray) (op:Int) (wr:Int) (R:Int):∀(m:Nat) (at_:Int) (xa:Int) (ef:Option Addr) (xn:Nat) (xc:Nat) (eg:Option Addr) (ee:Nat) (ed:Nat) (H:U),aa E G H→(kp:H.get p=some (O (fC s at_ op 0) 123))→(kx:H.get iR=some (O (j3 xa ef xn xc eg ee ed) 85))→(zz:G.n≤iR)→(d1:p≠iR)→(bY:G.n≤p)→(hs:(s.size:Int)<100000)→(a0:0≤at_)→(a1:at_≤s.size)→(hR:n7 s at_=R)→((s.size:Int)-at_).toNat=m→
  cy E G 61 W9 [(0,pt p 0),(2,pt rb 0),(3,pt nb 0),(6,pt iR 0)] H [p,iR] (fun x T H'=>(x=(.exit 2)∧∃(eJ:Int) (yA:Int) (yH:Option Addr) (yE yB:Nat) (qv:Option Addr) (yD yC:Nat),T=bl [(0,pt p 0),(2,pt rb 0),(3,pt nb 0),(6,pt iR 0)]∧(H'.get p=some (lk s eJ op 0)∧H'.get iR=some (O [ab yA,.slice yH yE yB,.slice qv yD yC] 85)∧eJ=R))):=by
 refine d8 fun m ih=>?_
 intro at_ xa ef xn xc eg ee ed H y kp kx zz d1 bY hs a0 a1 hR hm
 refine c9 y ?_
 have gi:=y.wf.lt kp
 have akf:=y.wf.lt kx
 obtain ⟨_,H1,c1,af,y1,b7⟩:=s8 p s at_ op 42 y kp D hs D D
 rcases b7 with ⟨rfl,ry⟩ |⟨rfl,sN,vF⟩
 ·have cI:H.n+0≤H1.n:=af.n
  have bV:=y.kept af ai kp
  obtain ⟨_,H2,c2,ar,ah,dC⟩:=s8 p s at_ op 43 y1 bV D hs D D
  refine ad 1 c1<|?_
  rcases dC with ⟨rfl,Ca⟩ |⟨rfl,xD,zI⟩
  ·have cl:H1.n+0≤H2.n:=ar.n
   have cP:=y1.kept ar ai bV
   obtain ⟨_,H3,c3,aW,az,fo⟩:=s8 p s at_ op 63 ah cP D hs D D
   refine ad 2 c2<|?_
   rcases fo with ⟨rfl,JZ⟩ |⟨rfl,B8,Fh⟩
   ·have eF:=ah.kept aW ai cP
    have rG:=y.kept af ai kx
    have rH:=y1.kept ar ai rG
    have rI:=ah.kept aW ai rH
    exact ad 3 c3<|en 1 [(0,pt p 0),(2,pt rb 0),(3,pt nb 0),(6,pt iR 0)] (.exit 2) H3 [] aZ bi ⟨rfl,at_,xa,ef,xn,xc,eg,ee,ed,rfl,⟨eF,rI,(Sr (fun h=>by have:=ac1 h.2;have:=ry;have:=Ca;have:=JZ;omega)).symm.trans hR⟩⟩
   have dD:H2.n+0≤H3.n:=aW.n
   have eF:=ah.kept aW ai cP
   have rG:=y.kept af ai kx
   have rH:=y1.kept ar ai rG
   have rI:=ah.kept aW ai rH
   obtain ⟨bF,aG⟩:∃ ao,ao=(Q5 H3 xa ef xn xc eg ee ed).set iR (O [ab (ac s at_),.slice none 0 0,sc (H3.n+0) 0 1 3] 85):=⟨_,rfl⟩
   have bz:aa E G bF:=aG▸(az.news (bo (j3 xa ef xn xc eg ee ed))).set _ D (by rw [bU];simp only [cj,cF];omega)
   have fB:bF.n=H3.n+1:=by rw [aG,U.cB,bU] <;> rfl
   have Kb:=bC aG
   have ek:=bu aG D (az.old eF (bo (j3 xa ef xn xc eg ee ed)))
   obtain ⟨db,bS⟩:∃ ao,ao=bF.set p (O (fC s (at_+1) op 0) 123):=⟨_,rfl⟩
   have cG:aa E G db:=bS▸bz.set _ D D
   have eR:=bC bS
   have abp:=bu bS D Kb
   exact ad 3 c3<|aK [aB 0]<|Z 3 (ag 0 ct eF)<|Z 3 (ag 1 aJ eF)<|bR 0 at_ (s.size:Int)<|Z 0 (cg e5 cR rI rfl rfl:ay E 85 iR 0 H3=some (.agg (j3 xa ef xn xc eg ee ed).toArray))<|aC 2 (stx 0 (.agg #[ab (ac s at_),.slice none 0 0,sc (H3.n+0) 0 1 3]) cR (az.old rI (bo (j3 xa ef xn xc eg ee ed))) aG)<|aj [] (cU (az.news (bo (j3 xa ef xn xc eg ee ed))) (az.old rI (bo (j3 xa ef xn xc eg ee ed))):bZ (Q5 H3 xa ef xn xc eg ee ed) bF [iR]=true)<|Z 3 (ag 1 aJ ek)<|ap 0 (at_+1)<|aC 2 (stx 1 (J (at_+1)) dL ek bS)<|dY 0 [(0,pt p 0),(2,pt rb 0),(3,pt nb 0),(6,pt iR 0)] db [iR,p] bD (ih _ D (at_+1) (ac s at_) none 0 0 (some ⟨H3.n+0,0,none⟩) 1 3 _ cG eR abp zz d1 bY hs D D ((GP B8 (KR D)).symm.trans hR) rfl)
  have cl:H1.n+0≤H2.n:=ar.n
  have cP:=y1.kept ar ai bV
  have rG:=y.kept af ai kx
  have rH:=y1.kept ar ai rG
  obtain ⟨bk,aM⟩:∃ ao,ao=(Q6 H2 xa ef xn xc eg ee ed).set iR (O [ab (ac s at_),.slice none 0 0,sc (H2.n+0) 0 1 3] 85):=⟨_,rfl⟩
  have az:aa E G bk:=aM▸(ah.news (bo (j3 xa ef xn xc eg ee ed))).set _ D (by rw [bU];simp only [cj,cF];omega)
  have dD:bk.n=H2.n+1:=by rw [aM,U.cB,bU] <;> rfl
  have rI:=bC aM
  have eF:=bu aM D (ah.old cP (bo (j3 xa ef xn xc eg ee ed)))
  obtain ⟨bF,aG⟩:∃ ao,ao=bk.set p (O (fC s (at_+1) op 0) 123):=⟨_,rfl⟩
  have bz:aa E G bF:=aG▸az.set _ D D
  have ek:=bC aG
  have Kb:=bu aG D rI
  exact ad 2 c2<|aK [aB 2]<|Z 3 (ag 0 ct cP)<|Z 3 (ag 1 aJ cP)<|bR 0 at_ (s.size:Int)<|Z 0 (cg e5 cR rH rfl rfl:ay E 85 iR 0 H2=some (.agg (j3 xa ef xn xc eg ee ed).toArray))<|aC 2 (stx 0 (.agg #[ab (ac s at_),.slice none 0 0,sc (H2.n+0) 0 1 3]) cR (ah.old rH (bo (j3 xa ef xn xc eg ee ed))) aM)<|aj [] (cU (ah.news (bo (j3 xa ef xn xc eg ee ed))) (ah.old rH (bo (j3 xa ef xn xc eg ee ed))):bZ (Q6 H2 xa ef xn xc eg ee ed) bk [iR]=true)<|Z 3 (ag 1 aJ eF)<|ap 0 (at_+1)<|aC 2 (stx 1 (J (at_+1)) dL eF aG)<|dY 0 [(0,pt p 0),(2,pt rb 0),(3,pt nb 0),(6,pt iR 0)] bF [iR,p] bD (ih _ D (at_+1) (ac s at_) none 0 0 (some ⟨H2.n+0,0,none⟩) 1 3 _ bz ek Kb zz d1 bY hs D D ((GP xD (KR D)).symm.trans hR) rfl)
 have cI:H.n+0≤H1.n:=af.n
 have bV:=y.kept af ai kp
 have rG:=y.kept af ai kx
 obtain ⟨aF,e2⟩:∃ ao,ao=(Q7 H1 xa ef xn xc eg ee ed).set iR (O [ab (ac s at_),.slice none 0 0,sc (H1.n+0) 0 1 3] 85):=⟨_,rfl⟩
 have ah:aa E G aF:=e2▸(y1.news (bo (j3 xa ef xn xc eg ee ed))).set _ D (by rw [bU];simp only [cj,cF];omega)
 have cl:aF.n=H1.n+1:=by rw [e2,U.cB,bU] <;> rfl
 have rH:=bC e2
 have cP:=bu e2 D (y1.old bV (bo (j3 xa ef xn xc eg ee ed)))
 obtain ⟨bk,aM⟩:∃ ao,ao=aF.set p (O (fC s (at_+1) op 0) 123):=⟨_,rfl⟩
 have az:aa E G bk:=aM▸ah.set _ D D
 have eF:=bC aM
 have rI:=bu aM D rH
 exact ad 1 c1<|aK [aB 3]<|Z 3 (ag 0 ct bV)<|Z 3 (ag 1 aJ bV)<|bR 0 at_ (s.size:Int)<|Z 0 (cg e5 cR rG rfl rfl:ay E 85 iR 0 H1=some (.agg (j3 xa ef xn xc eg ee ed).toArray))<|aC 2 (stx 0 (.agg #[ab (ac s at_),.slice none 0 0,sc (H1.n+0) 0 1 3]) cR (y1.old rG (bo (j3 xa ef xn xc eg ee ed))) e2)<|aj [] (cU (y1.news (bo (j3 xa ef xn xc eg ee ed))) (y1.old rG (bo (j3 xa ef xn xc eg ee ed))):bZ (Q7 H1 xa ef xn xc eg ee ed) aF [iR]=true)<|Z 3 (ag 1 aJ cP)<|ap 0 (at_+1)<|aC 2 (stx 1 (J (at_+1)) dL cP aM)<|dY 0 [(0,pt p 0),(2,pt rb 0),(3,pt nb 0),(6,pt iR 0)] bk [iR,p] bD (ih _ D (at_+1) (ac s at_) none 0 0 (some ⟨H1.n+0,0,none⟩) 1 3 _ az eF rI zz d1 bY hs D D ((GP sN (KR D)).symm.trans hR) rfl)
noncomputable def Xa:Code:=cN [1,1,0,0,0,1,1,1,0,0,0] (cH Tryz.f103)
theorem Sl (p:Nat) (nb:Nat) (rb:Nat) (iR:Nat) (s:ByteArray) (op:Int) (wr:Int) (R:Int):∀(m:Nat) (at_:Int) (xa:Int) (ef:Option Addr) (xn:Nat) (xc:Nat) (eg:Option Addr) (ee:Nat) (ed:Nat) (H:U),aa E G H→(kp:H.get p=some (O (fC s at_ op wr) 123))→(kx:H.get iR=some (O (j3 xa ef xn xc eg ee ed) 85))→(zz:G.n≤iR)→(d1:p≠iR)→(bY:G.n≤p)→(hs:(s.size:Int)<100000)→(a0:0≤at_)→(a1:at_≤s.size)→(w0:0<wr)→(hR:at_=R)→((s.size:Int)-at_).toNat=m→
  cy E G 61 Xa [(0,pt p 0),(2,pt rb 0),(3,pt nb 0),(6,pt iR 0)] H [] (fun x T H'=>(x=(.exit 2)∧∃(eJ:Int) (yA:Int) (yH:Option Addr) (yE yB:Nat) (qv:Option Addr) (yD yC:Nat),T=bl [(0,pt p 0),(2,pt rb 0),(3,pt nb 0),(6,pt iR 0)]∧(H'.get p=some (lk s eJ op wr)∧H'.get iR=some (O [ab yA,.slice yH yE yB,.slice qv yD yC] 85)∧eJ=R))):=by
 refine d8 fun m ih=>?_
 intro at_ xa ef xn xc eg ee ed H y kp kx zz d1 bY hs a0 a1 w0 hR hm
 refine c9 y ?_
 obtain ⟨_,H1,c1,af,y1,rfl⟩:=Db p s at_ op wr 42 y kp D hs D D D
 have bV:=y.kept af ai kp
 obtain ⟨_,H2,c2,ar,ah,rfl⟩:=Db p s at_ op wr 43 y1 bV D hs D D D
 have cP:=y1.kept ar ai bV
 obtain ⟨_,H3,c3,aW,az,rfl⟩:=Db p s at_ op wr 63 ah cP D hs D D D
 have eF:=ah.kept aW ai cP
 have rG:=y.kept af ai kx
 have rH:=y1.kept ar ai rG
 have rI:=ah.kept aW ai rH
 exact ad 1 c1<|ad 2 c2<|ad 3 c3<|dF 1 [(0,pt p 0),(2,pt rb 0),(3,pt nb 0),(6,pt iR 0)] (.exit 2) H3 ⟨rfl,at_,xa,ef,xn,xc,eg,ee,ed,rfl,⟨eF,rI,hR⟩⟩
noncomputable def Xb:Code:=cN [1,1,0,0] (cH Tryz.f103)
noncomputable abbrev FW H2:=news H2 (bo dw)
noncomputable abbrev FX H2 eu eB eA ew eC ez ey:=news H2 (bo (fI eu eB eA ew eC ez ey))
noncomputable abbrev eD dj dr dn dk dt dm dl:=([ab dj,.slice dr dn dk,.slice dt dm dl]:List Value)
theorem Sn (p:Nat) (nb:Nat) (rb:Nat) (s:ByteArray) (n:Nat) (eN:Int) (R:Option (Int×Int)):∀(m:Nat) (at_:Int) (op:Int) (wr:Int) (q:Nat) (l:List gU) (H:U),aa E G H→(kp:H.get p=some (O (fC s at_ op wr) 123))→(bn:H.get nb=some (O [ab 44,.slice none 0 0,sc q 0 l.length 6] 85))→(nl:H.get rb=some (O dw 85))→(aX:H.get q=some (O (oL l) 85))→(hs:(s.size:Int)<100000)→(bY:G.n≤p)→(gn:G.n≤nb)→(iU:G.n≤rb)→(d1:p≠nb)→(d2:p≠rb)→(d3:nb≠rb)→(b0:0≤eN)→(b1:eN≤at_)→(a1:at_≤s.size)→(lY:wr=0∨0<wr)→(hA:uZ s n)→(hn:((s.size:Int)-eN).toNat≤n)→(hR:wr=0→kN s at_ op=R)→(hN:0<wr→R=none)→(aY:G.n≤q)→(e1:p≠q)→(e2:nb≠q)→(aM:rb≠q)→(fk:(l.length:Int)≤at_+wr+2)→2*((s.size:Int)-at_).toNat+(1-wr).toNat=m→
  cy E G 61 Xb [(0,pt p 0),(2,pt rb 0),(3,pt nb 0)] H [p,nb,rb,q] (fun x T H'=>(x=.ret∧∃(eJ sb jc:Int) (yA:Int) (yH:Option Addr) (yE yB:Nat) (qv:Option Addr) (yD yC:Nat),T=bl [(2,pt rb 0)]∧(H'.get p=some (lk s eJ sb jc)∧H'.get rb=some (O [ab yA,.slice yH yE yB,.slice qv yD yC] 85)∧eN≤eJ∧eJ≤s.size∧(jc=0∨0<jc)∧(jc=0→R=some (eJ,sb))∧(0<jc→R=none)))):=by
 refine d8 fun m ih=>?_
 intro at_ op wr q l H y kp bn nl aX hs bY gn iU d1 d2 d3 b0 b1 a1 lY hA hn hR hN aY e1 e2 aM fk hm
 refine c9 y ?_
 have gi:=y.wf.lt kp
 have rO:=y.wf.lt bn
 have acF:=y.wf.lt nl
 have iX:=y.wf.lt aX
 rcases lY with rfl |lY
 ·obtain ⟨_,H1,c1,af,y1,b7⟩:=Ak p s at_ op y kp D hs D D
  rcases b7 with ⟨rfl,LD⟩ |⟨rfl,LJ⟩
  ·have cI:H.n+0≤H1.n:=af.n
   have cK:=y.kept af ai bn
   have ky:=y.kept af ai nl
   obtain ⟨aF,e2⟩:∃ ao,ao=H1.set rb (O [ab 44,.slice none 0 0,sc q 0 l.length 6] 85):=⟨_,rfl⟩
   have ah:aa E G aF:=e2▸y1.set _ D D
   have kz:=bC e2
   have bV:=y.kept af ai kp
   have cP:=bu e2 D bV
   exact ad 1 c1<|Z 11 (cg e5 cR cK rfl rfl:ay E 85 nb 0 H1=some (.agg #[ab 44,.slice none 0 0,sc q 0 l.length 6]))<|aC 0 (stx 0 (.agg #[ab 44,.slice none 0 0,sc q 0 l.length 6]) cR ky e2)<|en 0 [(2,pt rb 0)] .ret aF [rb] bD bi ⟨rfl,at_,op,0,44,none,0,0,some ⟨q,0,none⟩,l.length,6,rfl,⟨cP,kz,D,D,D,fun _=>(hR rfl).symm.trans (sq (fun h=>absurd h.1 D)),fun h=>absurd h D⟩⟩
  have cI:H.n+0≤H1.n:=af.n
  refine ad 1 c1<|cS 9 (ac s at_) 124 ?_ ?_ <;> intro h3 dv
  ·have cK:=y.kept af ai bn
   have ky:=y.kept af ai nl
   obtain ⟨aF,e2⟩:∃ ao,ao=H1.set rb (O [ab 44,.slice none 0 0,sc q 0 l.length 6] 85):=⟨_,rfl⟩
   have ah:aa E G aF:=e2▸y1.set _ D D
   have kz:=bC e2
   have bV:=y.kept af ai kp
   have cP:=bu e2 D bV
   exact Z 3 (cg e5 cR cK rfl rfl:ay E 85 nb 0 H1=some (.agg #[ab 44,.slice none 0 0,sc q 0 l.length 6]))<|aC 0 (stx 0 (.agg #[ab 44,.slice none 0 0,sc q 0 l.length 6]) cR ky e2)<|en 0 [(2,pt rb 0)] .ret aF [rb] bD bi ⟨rfl,at_,op,0,44,none,0,0,some ⟨q,0,none⟩,l.length,6,rfl,⟨cP,kz,D,D,D,fun _=>(hR rfl).symm.trans (sq (fun h=>h.2 (FE D))),fun h=>absurd h D⟩⟩
  refine cS 3 (ac s at_) 41 ?_ ?_ <;> intro h4 dT
  ·have cK:=y.kept af ai bn
   have ky:=y.kept af ai nl
   obtain ⟨aF,e2⟩:∃ ao,ao=H1.set rb (O [ab 44,.slice none 0 0,sc q 0 l.length 6] 85):=⟨_,rfl⟩
   have ah:aa E G aF:=e2▸y1.set _ D D
   have kz:=bC e2
   have bV:=y.kept af ai kp
   have cP:=bu e2 D bV
   exact Z 1 (cg e5 cR cK rfl rfl:ay E 85 nb 0 H1=some (.agg #[ab 44,.slice none 0 0,sc q 0 l.length 6]))<|aC 0 (stx 0 (.agg #[ab 44,.slice none 0 0,sc q 0 l.length 6]) cR ky e2)<|en 0 [(2,pt rb 0)] .ret aF [rb] bD bi ⟨rfl,at_,op,0,44,none,0,0,some ⟨q,0,none⟩,l.length,6,rfl,⟨cP,kz,D,D,D,fun _=>(hR rfl).symm.trans (sq (fun h=>h.2 (FE D))),fun h=>absurd h D⟩⟩
  have bV:=y.kept af ai kp
  obtain ⟨_,H2,c2,ar,ah,dC⟩:=Sh p s at_ op n y1 bV D hs D D hA D D
  rcases dC with ⟨gv,rT,⟨eu,eB,eA,ew,eC,ez,ey,rfl⟩,eX,gy,k8,cJ⟩ |⟨gv,rT,uO,⟨eu,eB,eA,ew,eC,ez,ey,rfl⟩,eX,gy,PJ,k8,cJ⟩
  ·have cl:H1.n+0≤H2.n:=ar.n
   have g2:=ah.n
   obtain ⟨_,_,H3,c3,aW,az,rfl,mU,dj,dr,dn,dk,dt,dm,dl,rfl,mI,xN,Dq⟩:=(Sk p nb rb (H2.n+0) s rT 0 (n7 s gv) _ gv eu eB eA ew eC ez ey _ (ah.news (bo (fI eu eB eA ew eC ez ey))) (ah.old eX (bo (fI eu eB eA ew eC ez ey))) (aL (bo (fI eu eB eA ew eC ez ey)) H2 0 _ rfl) D D bY hs D D rfl rfl).code
   have dD:=dA aW
   have g3:=az.n
   have afQ:=L0 s gv
   have cK:=y.kept af ai bn
   have dS:=y1.kept ar bB cK
   have d6:=(ah.news (bo (fI eu eB eA ew eC ez ey))).kept aW bB (ah.old dS (bo (fI eu eB eA ew eC ez ey)))
   have cE:=y.kept af ai aX
   have dQ:=y1.kept ar bB cE
   have fr:=(ah.news (bo (fI eu eB eA ew eC ez ey))).kept aW bB (ah.old dQ (bo (fI eu eB eA ew eC ez ey)))
   obtain ⟨bF,aG⟩:∃ ao,ao=((news H3 (bo (eD dj dr dn dk dt dm dl))).set q .dead).new (O (oL (l++[gU.mk dj dr dn dk dt dm dl])) 85):=⟨_,rfl⟩
   have bz:aa E G bF:=th (az.news (bo (eD dj dr dn dk dt dm dl))) aG D (by rw [bU];simp only [cj,cF];omega)
   have fB:bF.n=H3.n+2:=by rw [ti aG,bU] <;> rfl
   have jB:bF.get (H3.n+1)=some (O (oL (l++[gU.mk dj dr dn dk dt dm dl])) 85):=tj aG
   have eZ:=lF (az.news (bo (eD dj dr dn dk dt dm dl))) aG D (az.old d6 (bo (eD dj dr dn dk dt dm dl)))
   obtain ⟨db,bS⟩:∃ ao,ao=bF.set nb (O [ab 44,.slice none 0 0,sc (H3.n+1) 0 ((l++[gU.mk dj dr dn dk dt dm dl]).length) 6] 85):=⟨_,rfl⟩
   have cG:aa E G db:=bS▸bz.set _ D D
   have gk:db.n=bF.n+0:=by rw [bS,U.cB] <;> rfl
   have iN:=bC bS
   have ek:=lF (az.news (bo (eD dj dr dn dk dt dm dl))) aG D (az.old mI (bo (eD dj dr dn dk dt dm dl)))
   have eR:=bu bS D ek
   have ky:=y.kept af ai nl
   have kz:=y1.kept ar bB ky
   have xI:=(ah.news (bo (fI eu eB eA ew eC ez ey))).kept aW bB (ah.old kz (bo (fI eu eB eA ew eC ez ey)))
   have xJ:=lF (az.news (bo (eD dj dr dn dk dt dm dl))) aG D (az.old xI (bo (eD dj dr dn dk dt dm dl)))
   have Kd:=bu bS D xJ
   have qc:=bu bS D jB
   exact ad 2 c2<|aC 1 (bT cR rfl rfl rfl rfl:bp E 85 (H2.n+0) 0 (.agg (fI eu eB eA ew eC ez ey).toArray) (FW H2)=some (FX H2 eu eB eA ew eC ez ey))<|bW 0 c3<|Z 1 (ag 2 vc d6)<|Z 0 (cg e5 cR xN rfl rfl:ay E 85 (H2.n+0) 0 H3=some (.agg (eD dj dr dn dk dt dm dl).toArray))<|eL 1 (show eW E #[83,83] (sc q 0 l.length 6) (sc (H3.n+0) 0 1 3) (news H3 (bo (eD dj dr dn dk dt dm dl)))=some (sc (H3.n+1) 0 ((l++[gU.mk dj dr dn dk dt dm dl]).length) 6,bF,[q],[q,H3.n+0]) from (sk D4 rfl (show hG (news H3 (bo (eD dj dr dn dk dt dm dl))) 3 (sc (H3.n+0) 0 1 3)=some (1,[ab dj,.slice dr dn dk,.slice dt dm dl],[H3.n+0]) from gt (aL (bo (eD dj dr dn dk dt dm dl)) H3 0 _ rfl) (ec rfl)) rfl (az.old fr (bo (eD dj dr dn dk dt dm dl))) (by rw [z3];omega) D).trans (by rw [Gj l dj dr dn dk dt dm dl,Gk l dj dr dn dk dt dm dl,aG] <;> rfl))<|aC 1 (stx 2 (sc (H3.n+1) 0 ((l++[gU.mk dj dr dn dk dt dm dl]).length) 6) wE eZ bS)<|kW 0 [(0,pt p 0),(2,pt rb 0),(3,pt nb 0)] db [p,H2.n+0,p,H2.n+0,q,nb] aQ aQ (ih _ D mU rT 0 (H3.n+1) (l++[gU.mk dj dr dn dk dt dm dl]) _ cG eR iN Kd qc hs bY gn iU d1 d2 d3 b0 D D D hA hn (fun _=>(Er D (FF D) (by rw [L2 gy,Dq]) D).symm.trans (hR rfl)) (fun h=>absurd h D) D D D D (by simp only [List.length_append,cj,cF];omega) rfl)
  have cl:H1.n+0≤H2.n:=ar.n
  have g2:=ah.n
  obtain ⟨_,_,H3,c3,aW,az,rfl,mU,dj,dr,dn,dk,dt,dm,dl,rfl,mI,xN,Dq⟩:=(Sl p nb rb (H2.n+0) s rT uO gv _ gv eu eB eA ew eC ez ey _ (ah.news (bo (fI eu eB eA ew eC ez ey))) (ah.old eX (bo (fI eu eB eA ew eC ez ey))) (aL (bo (fI eu eB eA ew eC ez ey)) H2 0 _ rfl) D D bY hs D D D rfl rfl).code
  have dD:=dA aW
  have g3:=az.n
  have cK:=y.kept af ai bn
  have dS:=y1.kept ar bB cK
  have d6:=(ah.news (bo (fI eu eB eA ew eC ez ey))).kept aW ai (ah.old dS (bo (fI eu eB eA ew eC ez ey)))
  have cE:=y.kept af ai aX
  have dQ:=y1.kept ar bB cE
  have fr:=(ah.news (bo (fI eu eB eA ew eC ez ey))).kept aW ai (ah.old dQ (bo (fI eu eB eA ew eC ez ey)))
  obtain ⟨bF,aG⟩:∃ ao,ao=((news H3 (bo (eD dj dr dn dk dt dm dl))).set q .dead).new (O (oL (l++[gU.mk dj dr dn dk dt dm dl])) 85):=⟨_,rfl⟩
  have bz:aa E G bF:=th (az.news (bo (eD dj dr dn dk dt dm dl))) aG D (by rw [bU];simp only [cj,cF];omega)
  have fB:bF.n=H3.n+2:=by rw [ti aG,bU] <;> rfl
  have jB:bF.get (H3.n+1)=some (O (oL (l++[gU.mk dj dr dn dk dt dm dl])) 85):=tj aG
  have eZ:=lF (az.news (bo (eD dj dr dn dk dt dm dl))) aG D (az.old d6 (bo (eD dj dr dn dk dt dm dl)))
  obtain ⟨db,bS⟩:∃ ao,ao=bF.set nb (O [ab 44,.slice none 0 0,sc (H3.n+1) 0 ((l++[gU.mk dj dr dn dk dt dm dl]).length) 6] 85):=⟨_,rfl⟩
  have cG:aa E G db:=bS▸bz.set _ D D
  have gk:db.n=bF.n+0:=by rw [bS,U.cB] <;> rfl
  have iN:=bC bS
  have ek:=lF (az.news (bo (eD dj dr dn dk dt dm dl))) aG D (az.old mI (bo (eD dj dr dn dk dt dm dl)))
  have eR:=bu bS D ek
  have ky:=y.kept af ai nl
  have kz:=y1.kept ar bB ky
  have xI:=(ah.news (bo (fI eu eB eA ew eC ez ey))).kept aW ai (ah.old kz (bo (fI eu eB eA ew eC ez ey)))
  have xJ:=lF (az.news (bo (eD dj dr dn dk dt dm dl))) aG D (az.old xI (bo (eD dj dr dn dk dt dm dl)))
  have Kd:=bu bS D xJ
  have qc:=bu bS D jB
  exact ad 2 c2<|aC 1 (bT cR rfl rfl rfl rfl:bp E 85 (H2.n+0) 0 (.agg (fI eu eB eA ew eC ez ey).toArray) (FW H2)=some (FX H2 eu eB eA ew eC ez ey))<|bW 0 c3<|Z 1 (ag 2 vc d6)<|Z 0 (cg e5 cR xN rfl rfl:ay E 85 (H2.n+0) 0 H3=some (.agg (eD dj dr dn dk dt dm dl).toArray))<|eL 1 (show eW E #[83,83] (sc q 0 l.length 6) (sc (H3.n+0) 0 1 3) (news H3 (bo (eD dj dr dn dk dt dm dl)))=some (sc (H3.n+1) 0 ((l++[gU.mk dj dr dn dk dt dm dl]).length) 6,bF,[q],[q,H3.n+0]) from (sk D4 rfl (show hG (news H3 (bo (eD dj dr dn dk dt dm dl))) 3 (sc (H3.n+0) 0 1 3)=some (1,[ab dj,.slice dr dn dk,.slice dt dm dl],[H3.n+0]) from gt (aL (bo (eD dj dr dn dk dt dm dl)) H3 0 _ rfl) (ec rfl)) rfl (az.old fr (bo (eD dj dr dn dk dt dm dl))) (by rw [z3];omega) D).trans (by rw [Gj l dj dr dn dk dt dm dl,Gk l dj dr dn dk dt dm dl,aG] <;> rfl))<|aC 1 (stx 2 (sc (H3.n+1) 0 ((l++[gU.mk dj dr dn dk dt dm dl]).length) 6) wE eZ bS)<|kW 0 [(0,pt p 0),(2,pt rb 0),(3,pt nb 0)] db [p,H2.n+0,q,nb] aQ aQ (ih _ D mU rT uO (H3.n+1) (l++[gU.mk dj dr dn dk dt dm dl]) _ cG eR iN Kd qc hs bY gn iU d1 d2 d3 b0 D D D hA hn (fun h=>absurd h D) (fun _=>(hR rfl).symm.trans (Ep D (FF D) (L1 gy))) D D D D (by simp only [List.length_append,cj,cF];omega) rfl)
 obtain ⟨_,H1,c1,af,y1,rfl⟩:=LX p s at_ op wr y kp D hs D D D
 have cI:H.n+0≤H1.n:=af.n
 have cK:=y.kept af ai bn
 have ky:=y.kept af ai nl
 obtain ⟨aF,e2⟩:∃ ao,ao=H1.set rb (O [ab 44,.slice none 0 0,sc q 0 l.length 6] 85):=⟨_,rfl⟩
 have ah:aa E G aF:=e2▸y1.set _ D D
 have kz:=bC e2
 have bV:=y.kept af ai kp
 have cP:=bu e2 D bV
 exact ad 1 c1<|Z 11 (cg e5 cR cK rfl rfl:ay E 85 nb 0 H1=some (.agg #[ab 44,.slice none 0 0,sc q 0 l.length 6]))<|aC 0 (stx 0 (.agg #[ab 44,.slice none 0 0,sc q 0 l.length 6]) cR ky e2)<|en 0 [(2,pt rb 0)] .ret aF [rb] bD bi ⟨rfl,at_,op,wr,44,none,0,0,some ⟨q,0,none⟩,l.length,6,rfl,⟨cP,kz,D,D,D,fun h=>absurd h D,fun _=>hN D⟩⟩
noncomputable def Xc:Code:=cN [1,1,0,0] (cH Tryz.f103)
noncomputable abbrev lP:=([ab 44,.slice none 0 0,.slice none 0 0]:List Value)
theorem afp (p:Nat) (nb:Nat) (rb:Nat) (s:ByteArray) (n:Nat) (eN:Int) (R:Option (Int×Int)):∀(m:Nat) (at_:Int) (op:Int) (wr:Int) (H:U),aa E G H→(kp:H.get p=some (O (fC s at_ op wr) 123))→(bn:H.get nb=some (O lP 85))→(nl:H.get rb=some (O dw 85))→(hs:(s.size:Int)<100000)→(bY:G.n≤p)→(gn:G.n≤nb)→(iU:G.n≤rb)→(d1:p≠nb)→(d2:p≠rb)→(d3:nb≠rb)→(b0:0≤eN)→(b1:eN≤at_)→(a1:at_≤s.size)→(lY:wr=0∨0<wr)→(hA:uZ s n)→(hn:((s.size:Int)-eN).toNat≤n)→(hR:wr=0→kN s at_ op=R)→(hN:0<wr→R=none)→2*((s.size:Int)-at_).toNat+(1-wr).toNat=m→
  cy E G 61 Xc [(0,pt p 0),(2,pt rb 0),(3,pt nb 0)] H [p,nb,rb] (fun x T H'=>(x=.ret∧∃(eJ sb jc:Int) (yA:Int) (yH:Option Addr) (yE yB:Nat) (qv:Option Addr) (yD yC:Nat),T=bl [(2,pt rb 0)]∧(H'.get p=some (lk s eJ sb jc)∧H'.get rb=some (O [ab yA,.slice yH yE yB,.slice qv yD yC] 85)∧eN≤eJ∧eJ≤s.size∧(jc=0∨0<jc)∧(jc=0→R=some (eJ,sb))∧(0<jc→R=none)))):=by
 refine d8 fun m ih=>?_
 intro at_ op wr H y kp bn nl hs bY gn iU d1 d2 d3 b0 b1 a1 lY hA hn hR hN hm
 refine c9 y ?_
 have gi:=y.wf.lt kp
 have rO:=y.wf.lt bn
 have acF:=y.wf.lt nl
 rcases lY with rfl |lY
 ·obtain ⟨_,H1,c1,af,y1,b7⟩:=Ak p s at_ op y kp D hs D D
  rcases b7 with ⟨rfl,LD⟩ |⟨rfl,LJ⟩
  ·have cI:H.n+0≤H1.n:=af.n
   have cK:=y.kept af ai bn
   have ky:=y.kept af ai nl
   obtain ⟨aF,e2⟩:∃ ao,ao=H1.set rb (O lP 85):=⟨_,rfl⟩
   have ah:aa E G aF:=e2▸y1.set _ D D
   have kz:=bC e2
   have bV:=y.kept af ai kp
   have cP:=bu e2 D bV
   exact ad 1 c1<|Z 11 (cg e5 cR cK rfl rfl:ay E 85 nb 0 H1=some (.agg (List.toArray lP)))<|aC 0 (stx 0 (.agg (List.toArray lP)) cR ky e2)<|en 0 [(2,pt rb 0)] .ret aF [rb] bD bi ⟨rfl,at_,op,0,44,none,0,0,none,0,0,rfl,⟨cP,kz,D,D,D,fun _=>(hR rfl).symm.trans (sq (fun h=>absurd h.1 D)),fun h=>absurd h D⟩⟩
  have cI:H.n+0≤H1.n:=af.n
  refine ad 1 c1<|cS 9 (ac s at_) 124 ?_ ?_ <;> intro h3 dv
  ·have cK:=y.kept af ai bn
   have ky:=y.kept af ai nl
   obtain ⟨aF,e2⟩:∃ ao,ao=H1.set rb (O lP 85):=⟨_,rfl⟩
   have ah:aa E G aF:=e2▸y1.set _ D D
   have kz:=bC e2
   have bV:=y.kept af ai kp
   have cP:=bu e2 D bV
   exact Z 3 (cg e5 cR cK rfl rfl:ay E 85 nb 0 H1=some (.agg (List.toArray lP)))<|aC 0 (stx 0 (.agg (List.toArray lP)) cR ky e2)<|en 0 [(2,pt rb 0)] .ret aF [rb] bD bi ⟨rfl,at_,op,0,44,none,0,0,none,0,0,rfl,⟨cP,kz,D,D,D,fun _=>(hR rfl).symm.trans (sq (fun h=>h.2 (FE D))),fun h=>absurd h D⟩⟩
  refine cS 3 (ac s at_) 41 ?_ ?_ <;> intro h4 dT
  ·have cK:=y.kept af ai bn
   have ky:=y.kept af ai nl
   obtain ⟨aF,e2⟩:∃ ao,ao=H1.set rb (O lP 85):=⟨_,rfl⟩
   have ah:aa E G aF:=e2▸y1.set _ D D
   have kz:=bC e2
   have bV:=y.kept af ai kp
   have cP:=bu e2 D bV
   exact Z 1 (cg e5 cR cK rfl rfl:ay E 85 nb 0 H1=some (.agg (List.toArray lP)))<|aC 0 (stx 0 (.agg (List.toArray lP)) cR ky e2)<|en 0 [(2,pt rb 0)] .ret aF [rb] bD bi ⟨rfl,at_,op,0,44,none,0,0,none,0,0,rfl,⟨cP,kz,D,D,D,fun _=>(hR rfl).symm.trans (sq (fun h=>h.2 (FE D))),fun h=>absurd h D⟩⟩
  have bV:=y.kept af ai kp
  obtain ⟨_,H2,c2,ar,ah,dC⟩:=Sh p s at_ op n y1 bV D hs D D hA D D
  rcases dC with ⟨gv,rT,⟨eu,eB,eA,ew,eC,ez,ey,rfl⟩,eX,gy,k8,cJ⟩ |⟨gv,rT,uO,⟨eu,eB,eA,ew,eC,ez,ey,rfl⟩,eX,gy,PJ,k8,cJ⟩
  ·have cl:H1.n+0≤H2.n:=ar.n
   have g2:=ah.n
   obtain ⟨_,_,H3,c3,aW,az,rfl,mU,dj,dr,dn,dk,dt,dm,dl,rfl,mI,xN,Dq⟩:=(Sk p nb rb (H2.n+0) s rT 0 (n7 s gv) _ gv eu eB eA ew eC ez ey _ (ah.news (bo (fI eu eB eA ew eC ez ey))) (ah.old eX (bo (fI eu eB eA ew eC ez ey))) (aL (bo (fI eu eB eA ew eC ez ey)) H2 0 _ rfl) D D bY hs D D rfl rfl).code
   have dD:=dA aW
   have g3:=az.n
   have afQ:=L0 s gv
   have cK:=y.kept af ai bn
   have dS:=y1.kept ar bB cK
   have d6:=(ah.news (bo (fI eu eB eA ew eC ez ey))).kept aW bB (ah.old dS (bo (fI eu eB eA ew eC ez ey)))
   obtain ⟨bF,aG⟩:∃ ao,ao=(news H3 [O (eD dj dr dn dk dt dm dl) 85,O (eD dj dr dn dk dt dm dl) 85]).set nb (O [ab 44,.slice none 0 0,sc (H3.n+1) 0 1 6] 85):=⟨_,rfl⟩
   have bz:aa E G bF:=aG▸(az.news [O (eD dj dr dn dk dt dm dl) 85,O (eD dj dr dn dk dt dm dl) 85]).set _ D (by rw [bU];simp only [cj,cF];omega)
   have fB:bF.n=H3.n+2:=by rw [aG,U.cB,bU] <;> rfl
   have jB:=bu aG D (aL [O (eD dj dr dn dk dt dm dl) 85,O (eD dj dr dn dk dt dm dl) 85] H3 1 _ rfl)
   have eZ:=bC aG
   have ek:=bu aG D (az.old mI [O (eD dj dr dn dk dt dm dl) 85,O (eD dj dr dn dk dt dm dl) 85])
   have ky:=y.kept af ai nl
   have kz:=y1.kept ar bB ky
   have xI:=(ah.news (bo (fI eu eB eA ew eC ez ey))).kept aW bB (ah.old kz (bo (fI eu eB eA ew eC ez ey)))
   have xJ:=bu aG D (az.old xI [O (eD dj dr dn dk dt dm dl) 85,O (eD dj dr dn dk dt dm dl) 85])
   exact ad 2 c2<|aC 1 (bT cR rfl rfl rfl rfl:bp E 85 (H2.n+0) 0 (.agg (fI eu eB eA ew eC ez ey).toArray) (FW H2)=some (FX H2 eu eB eA ew eC ez ey))<|bW 0 c3<|Z 1 (ag 2 vc d6)<|Z 0 (cg e5 cR xN rfl rfl:ay E 85 (H2.n+0) 0 H3=some (.agg (eD dj dr dn dk dt dm dl).toArray))<|eL 1 (show eW E #[83,83] (.slice none 0 0) (sc (H3.n+0) 0 1 3) (news H3 (bo (eD dj dr dn dk dt dm dl)))=some (sc (H3.n+1) 0 1 6,news H3 [O (eD dj dr dn dk dt dm dl) 85,O (eD dj dr dn dk dt dm dl) 85],[],[H3.n+0]) from wX D4 rfl (show hG (news H3 (bo (eD dj dr dn dk dt dm dl))) 3 (sc (H3.n+0) 0 1 3)=some (1,[ab dj,.slice dr dn dk,.slice dt dm dl],[H3.n+0]) from gt (aL (bo (eD dj dr dn dk dt dm dl)) H3 0 _ rfl) (ec rfl)) rfl (by decide) (by decide))<|aC 1 (stx 2 (sc (H3.n+1) 0 1 6) wE (az.old d6 [O (eD dj dr dn dk dt dm dl) 85,O (eD dj dr dn dk dt dm dl) 85]) aG)<|kW 0 [(0,pt p 0),(2,pt rb 0),(3,pt nb 0)] bF [p,H2.n+0,p,H2.n+0,nb] aQ aQ (Sn p nb rb s n eN R _ mU rT 0 (H3.n+1) ([gU.mk dj dr dn dk dt dm dl]) _ bz ek eZ xJ jB hs bY gn iU d1 d2 d3 b0 D D D hA hn (fun _=>(Er D (FF D) (by rw [L2 gy,Dq]) D).symm.trans (hR rfl)) (fun h=>absurd h D) D D D D (by simp only [List.length_append,cj,cF];omega) rfl)
  have cl:H1.n+0≤H2.n:=ar.n
  have g2:=ah.n
  obtain ⟨_,_,H3,c3,aW,az,rfl,mU,dj,dr,dn,dk,dt,dm,dl,rfl,mI,xN,Dq⟩:=(Sl p nb rb (H2.n+0) s rT uO gv _ gv eu eB eA ew eC ez ey _ (ah.news (bo (fI eu eB eA ew eC ez ey))) (ah.old eX (bo (fI eu eB eA ew eC ez ey))) (aL (bo (fI eu eB eA ew eC ez ey)) H2 0 _ rfl) D D bY hs D D D rfl rfl).code
  have dD:=dA aW
  have g3:=az.n
  have cK:=y.kept af ai bn
  have dS:=y1.kept ar bB cK
  have d6:=(ah.news (bo (fI eu eB eA ew eC ez ey))).kept aW ai (ah.old dS (bo (fI eu eB eA ew eC ez ey)))
  obtain ⟨bF,aG⟩:∃ ao,ao=(news H3 [O (eD dj dr dn dk dt dm dl) 85,O (eD dj dr dn dk dt dm dl) 85]).set nb (O [ab 44,.slice none 0 0,sc (H3.n+1) 0 1 6] 85):=⟨_,rfl⟩
  have bz:aa E G bF:=aG▸(az.news [O (eD dj dr dn dk dt dm dl) 85,O (eD dj dr dn dk dt dm dl) 85]).set _ D (by rw [bU];simp only [cj,cF];omega)
  have fB:bF.n=H3.n+2:=by rw [aG,U.cB,bU] <;> rfl
  have jB:=bu aG D (aL [O (eD dj dr dn dk dt dm dl) 85,O (eD dj dr dn dk dt dm dl) 85] H3 1 _ rfl)
  have eZ:=bC aG
  have ek:=bu aG D (az.old mI [O (eD dj dr dn dk dt dm dl) 85,O (eD dj dr dn dk dt dm dl) 85])
  have ky:=y.kept af ai nl
  have kz:=y1.kept ar bB ky
  have xI:=(ah.news (bo (fI eu eB eA ew eC ez ey))).kept aW ai (ah.old kz (bo (fI eu eB eA ew eC ez ey)))
  have xJ:=bu aG D (az.old xI [O (eD dj dr dn dk dt dm dl) 85,O (eD dj dr dn dk dt dm dl) 85])
  exact ad 2 c2<|aC 1 (bT cR rfl rfl rfl rfl:bp E 85 (H2.n+0) 0 (.agg (fI eu eB eA ew eC ez ey).toArray) (FW H2)=some (FX H2 eu eB eA ew eC ez ey))<|bW 0 c3<|Z 1 (ag 2 vc d6)<|Z 0 (cg e5 cR xN rfl rfl:ay E 85 (H2.n+0) 0 H3=some (.agg (eD dj dr dn dk dt dm dl).toArray))<|eL 1 (show eW E #[83,83] (.slice none 0 0) (sc (H3.n+0) 0 1 3) (news H3 (bo (eD dj dr dn dk dt dm dl)))=some (sc (H3.n+1) 0 1 6,news H3 [O (eD dj dr dn dk dt dm dl) 85,O (eD dj dr dn dk dt dm dl) 85],[],[H3.n+0]) from wX D4 rfl (show hG (news H3 (bo (eD dj dr dn dk dt dm dl))) 3 (sc (H3.n+0) 0 1 3)=some (1,[ab dj,.slice dr dn dk,.slice dt dm dl],[H3.n+0]) from gt (aL (bo (eD dj dr dn dk dt dm dl)) H3 0 _ rfl) (ec rfl)) rfl (by decide) (by decide))<|aC 1 (stx 2 (sc (H3.n+1) 0 1 6) wE (az.old d6 [O (eD dj dr dn dk dt dm dl) 85,O (eD dj dr dn dk dt dm dl) 85]) aG)<|kW 0 [(0,pt p 0),(2,pt rb 0),(3,pt nb 0)] bF [p,H2.n+0,nb] aQ aQ (Sn p nb rb s n eN R _ mU rT uO (H3.n+1) ([gU.mk dj dr dn dk dt dm dl]) _ bz ek eZ xJ jB hs bY gn iU d1 d2 d3 b0 D D D hA hn (fun h=>absurd h D) (fun _=>(hR rfl).symm.trans (Ep D (FF D) (L1 gy))) D D D D (by simp only [List.length_append,cj,cF];omega) rfl)
 obtain ⟨_,H1,c1,af,y1,rfl⟩:=LX p s at_ op wr y kp D hs D D D
 have cI:H.n+0≤H1.n:=af.n
 have cK:=y.kept af ai bn
 have ky:=y.kept af ai nl
 obtain ⟨aF,e2⟩:∃ ao,ao=H1.set rb (O lP 85):=⟨_,rfl⟩
 have ah:aa E G aF:=e2▸y1.set _ D D
 have kz:=bC e2
 have bV:=y.kept af ai kp
 have cP:=bu e2 D bV
 exact ad 1 c1<|Z 11 (cg e5 cR cK rfl rfl:ay E 85 nb 0 H1=some (.agg (List.toArray lP)))<|aC 0 (stx 0 (.agg (List.toArray lP)) cR ky e2)<|en 0 [(2,pt rb 0)] .ret aF [rb] bD bi ⟨rfl,at_,op,wr,44,none,0,0,none,0,0,rfl,⟨cP,kz,D,D,D,fun h=>absurd h D,fun _=>hN D⟩⟩
end Go.Proofs.YtbehemdcaiigeaaGreatDoor
