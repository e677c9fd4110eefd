/- Part of the proof that CheckTypes answers true. -/
import Derived.Test.YtglmagcldkngbaaGreatDoorQ09
set_option linter.unusedVariables false
set_option linter.unusedSimpArgs false
set_option maxRecDepth 100000
set_option maxHeartbeats 4000000
namespace Go.Proofs.YtglmagcldkngbaaGreatDoor
open Go Go.Am
theorem L6:rm E #[44,44] 3 1 8=true:=an
noncomputable def Uh:Code:=cw [1,1,0,1,0,0] (cx Tryz.f14)
noncomputable abbrev CR H1 aC:=news H1 [O [M (dM aC)] 3]
noncomputable abbrev FD H (aC:bh):=news H [O (ai aC.f) 27]
theorem ZE (x:bh) (X:Z) (hx:aa E G X) (a:e9 X x) (hz:jX x) (fm:∀ k∈x.kids,∀{H:Z},aa E X H→aV E X 14 [.agg (ai k.f).toArray] H [] (fun v _=>v=M (dM k))) (bX:Nat) (R:List Int):∀(m:Nat) (pP:Int) (q:Nat) (ks:List Int) (H:Z),aa E X H→(kb:H.get bX=some (O (ai x.f) 27))→(b9:H.get q=some (O (jR ks) 3))→(x0:0≤pP)→(hl:(ks.length:Int)=pP)→(hR:ks++km (x.kids.drop pP.toNat)=R)→(eJ:X.n≤q)→(db:bX≠q)→((x.f.aj:Int)-pP).toNat=m→
  bV E X 71 Uh [(1,pt bX 0),(3,sc q 0 ks.length 2),(9,.slice x.f.pk x.f.aj x.f.ax),(10,M (x.f.aj:Int)),(11,M pP)] H [q] (fun fB T H'=>(fB=(.exit 0)∧∃(sy:Nat) (nK:List Int),T=aP [(1,pt bX 0),(3,sc sy 0 nK.length 2)]∧(R=nK∧H'.get sy=some (O (jR nK) 3)))):=by
 refine dJ fun m ih=>?_
 intro pP q ks H y kb b9 x0 hl hR eJ db hm
 have hk:=hz.aj
 refine cN y ?_
 have JF:=y.wf.lt kb
 have qP:=y.wf.lt b9
 refine aD 0 (pP<(x.f.aj:Int)) ?_ ?_ <;> intro h1 q1
 ·obtain ⟨d1,j0,t1,fb,dT⟩:=a.rk.open J
  have fH:=hx.wf.lt dT
  obtain ⟨aC,m2⟩:=a.rV (i:=pP.toNat) J
  obtain ⟨_,H1,c1,ak,y1,rfl⟩:=fm aC (nv m2) (y.news [O (ai aC.f) 27])
  have c8:=d9 ak
  have g1:=y1.n
  have eY:=(y.news [O (ai aC.f) 27]).kept ak aq (y.old b9 [O (ai aC.f) 27])
  obtain ⟨aK,e2⟩:∃ ao,ao=((CR H1 aC).set q .dead).new (O (jR (ks++[dM aC])) 3):=⟨_,rfl⟩
  have ar:aa E X aK:=pM (y1.news [O [M (dM aC)] 3]) e2 J (by rw [dj];simp only [dX,e3];omega)
  have cB:aK.n=H1.n+2:=by rw [pN e2,dj] <;> rfl
  have I4:aK.get (H1.n+1)=some (O (jR (ks++[dM aC])) 3):=pO e2
  have fP:=(y.news [O (ai aC.f) 27]).kept ak aq (y.old kb [O (ai aC.f) 27])
  have ls:=jU (y1.news [O [M (dM aC)] 3]) e2 J (y1.old fP [O [M (dM aC)] 3])
  exact gY 0 H (hI my ct fb J J:gk E 25 (.slice x.f.pk x.f.aj x.f.ax) (M pP)=some (pt d1 (0+pP.toNat*13)))<|Y 0 (mP c4 ct (y.cell dT fH) m2 J:al E 27 d1 (0+pP.toNat*13) H=some (.agg (ai aC.f).toArray))<|aB 1 (bG ct rfl rfl rfl rfl:bu E 27 (H.n+0) 0 (.agg (ai aC.f).toArray) (news H (au (dS U)))=some (FD H aC))<|Y 1 (dt c4 ct rfl rfl rfl:al E 27 (H.n+0) 0 (FD H aC)=some (.agg (ai aC.f).toArray))<|ac 0 c1<|g8 1 (show gZ E #[44,44] (sc q 0 ks.length 2) (sc (H1.n+0) 0 1 3) (CR H1 aC)=some (sc (H1.n+1) 0 ((ks++[dM aC]).length) 2,aK,[q],[q,H1.n+0]) from (pd L6 rfl (show g9 (CR H1 aC) 1 (sc (H1.n+0) 0 1 3)=some (1,[M (dM aC)],[H1.n+0]) from js (aR [O [M (dM aC)] 3] H1 0 _ rfl) (gg rfl)) rfl (y1.old eY [O [M (dM aC)] 3]) (by rw [IX];omega) J).trans (by rw [Ou ks (dM aC),Ov ks (dM aC),e2] <;> rfl))<|aH 1 (pP+1)<|ji 1 [(1,pt bX 0),(3,sc (H1.n+1) 0 ((ks++[dM aC]).length) 2),(9,.slice x.f.pk x.f.aj x.f.ax),(10,M (x.f.aj:Int)),(11,M (pP+1))] aK [H.n+0,q] aJ aJ (ih _ J (pP+1) (H1.n+1) (ks++[dM aC]) _ ar ls I4 J (by simp only [List.length_append,dX,e3];omega) (by rw [gp J];exact E3 m2 hR) J J rfl)
 exact c5 0 [(1,pt bX 0),(3,sc q 0 ks.length 2)] (.exit 0) H [] aL aZ ⟨rfl,q,ks,rfl,⟨E2 hR (by have:=a.aj;omega),b9⟩⟩
noncomputable def Ug:Code:=cw [1,1,0,1,0,0] (cx Tryz.f14)
noncomputable abbrev PJ H1 aC:=news H1 [O [M (dM aC)] 3,O [M (dM aC)] 3]
theorem ZD (x:bh) (X:Z) (hx:aa E G X) (a:e9 X x) (hz:jX x) (fm:∀ k∈x.kids,∀{H:Z},aa E X H→aV E X 14 [.agg (ai k.f).toArray] H [] (fun v _=>v=M (dM k))) (bX:Nat) (R:List Int):∀(m:Nat)  (H:Z),aa E X H→(kb:H.get bX=some (O (ai x.f) 27))→(hR:km x.kids=R)→0=m→
  bV E X 71 Ug [(1,pt bX 0),(3,.slice none 0 0),(9,.slice x.f.pk x.f.aj x.f.ax),(10,M (x.f.aj:Int)),(11,M 0)] H [] (fun fB T H'=>(fB=(.exit 0)∧T=aP [(1,pt bX 0),(3,.slice none 0 0)]∧(R=[]))∨(fB=(.exit 0)∧∃(sy:Nat) (nK:List Int),T=aP [(1,pt bX 0),(3,sc sy 0 nK.length 2)]∧(R=nK∧H'.get sy=some (O (jR nK) 3)))):=by
 refine dJ fun m ih=>?_
 intro  H y kb hR hm
 have hk:=hz.aj
 refine cN y ?_
 have JF:=y.wf.lt kb
 refine aD 0 (0<(x.f.aj:Int)) ?_ ?_ <;> intro h1 q1
 ·obtain ⟨d1,j0,t1,fb,dT⟩:=a.rk.open J
  have fH:=hx.wf.lt dT
  obtain ⟨aC,m2⟩:=a.rV (i:=0) J
  obtain ⟨_,H1,c1,ak,y1,rfl⟩:=fm aC (nv m2) (y.news [O (ai aC.f) 27])
  have c8:=d9 ak
  have g1:=y1.n
  have fP:=(y.news [O (ai aC.f) 27]).kept ak aq (y.old kb [O (ai aC.f) 27])
  exact gY 0 H (hI my ct fb J J:gk E 25 (.slice x.f.pk x.f.aj x.f.ax) (M 0)=some (pt d1 (0+0)))<|Y 0 (mP c4 ct (y.cell dT fH) m2 J:al E 27 d1 (0+0) H=some (.agg (ai aC.f).toArray))<|aB 1 (bG ct rfl rfl rfl rfl:bu E 27 (H.n+0) 0 (.agg (ai aC.f).toArray) (news H (au (dS U)))=some (FD H aC))<|Y 1 (dt c4 ct rfl rfl rfl:al E 27 (H.n+0) 0 (FD H aC)=some (.agg (ai aC.f).toArray))<|ac 0 c1<|g8 1 (show gZ E #[44,44] (.slice none 0 0) (sc (H1.n+0) 0 1 3) (CR H1 aC)=some (sc (H1.n+1) 0 1 2,PJ H1 aC,[],[H1.n+0]) from sM L6 rfl (show g9 (CR H1 aC) 1 (sc (H1.n+0) 0 1 3)=some (1,[M (dM aC)],[H1.n+0]) from js (aR [O [M (dM aC)] 3] H1 0 _ rfl) (gg rfl)) rfl (by decide) (by decide))<|ji 3 [(1,pt bX 0),(3,sc (H1.n+1) 0 1 2),(9,.slice x.f.pk x.f.aj x.f.ax),(10,M (x.f.aj:Int)),(11,M 1)] (PJ H1 aC) [H.n+0] aJ aJ ((ZE x X hx a hz fm bX R _ 1 (H1.n+1) ([dM aC]) _ (y1.news [O [M (dM aC)] 3,O [M (dM aC)] 3]) (y1.old fP [O [M (dM aC)] 3,O [M (dM aC)] 3]) (aR [O [M (dM aC)] 3,O [M (dM aC)] 3] H1 1 _ rfl) J rfl (E3 (ks:=[]) (i:=0) m2 hR) J J rfl).mono fun _ _ _ h=>.inr h)
 exact cF 0 [(1,pt bX 0),(3,.slice none 0 0)] (.exit 0) H (.inl ⟨rfl,rfl,E2 (kids:=x.kids) (ks:=[]) (i:=0) hR (by have:=a.aj;omega)⟩)
noncomputable abbrev ru:=([.slice none 0 0,M 0]:List Value)
noncomputable abbrev pE H3:=news H3 (uY ru)
noncomputable abbrev Al H3 fp fn kJ fg:=news H3 [O [.slice fp fn kJ,M fg] 48]
theorem ZF (x:bh) (X:Z) (hx:aa E G X) (a:e9 X x) (hz:jX x) (fm:∀ k∈x.kids,∀{H:Z},aa E X H→aV E X 14 [.agg (ai k.f).toArray] H [] (fun v _=>v=M (dM k))) (Zb:x.f.k=6→x.f.aj=2) (Zc:x.f.k=7→x.f.aj=1) {H:Z} (y:aa E X H):aV E X 14 [.agg (ai x.f).toArray] H [] (fun v H'=>v=M (dM x)):=by
 refine bB Tryz.f14 y ?_
 have hk:=hz.aj
 obtain ⟨_,_,H1,c1,ak,y1,bE⟩:=(ZD x X hx a hz fm (H.n+0) (km x.kids) _ _ (y.news [O (ai x.f) 27]) (aR [O (ai x.f) 27] H 0 _ rfl) rfl rfl).code
 refine Y 4 (aQ (news H [O (ai x.f) 27]) 0 12 ef)<|?_
 rcases bE with ⟨rfl,rfl,aI⟩ |⟨rfl,gq,bT,rfl,aI,im⟩
 ·have c8:=d9 ak
  have aS:=(y.news [O (ai x.f) 27]).kept ak aq (aR [O (ai x.f) 27] H 0 _ rfl)
  have abT:x.f.aj=0:=by rw [a.aj,← zY,aI];rfl
  obtain ⟨_,H2,c2,aF,ar,cX⟩:=eL (pF y1 (On none 0 0 [] 0 (gK hx y1) (.inl rfl) rfl (by decide)))
  refine bx 2 c1<|?_
  rcases cX with ⟨rfl,bj⟩ |⟨rfl,bj⟩
  ·exact ac 1 c2<|af 1 (M 0) H2 (by rw [lu,aI,OI bj])
  have cB:H1.n+0≤H2.n:=aF.n
  have ca:=y1.kept aF aq aS
  refine ac 1 c2<|Y 1 (ag 0 av ca)<|aY 0 x.f.k 1 ?_ ?_ <;> intro h3 cY
  ·exact af 2 (M 1) H2 (by rw [lu,aI,OJ bj cY])
  refine aY 1 x.f.k 2 ?_ ?_ <;> intro h4 cO
  ·exact af 2 (M 4) H2 (by rw [lu,aI,OK bj cO])
  refine aY 1 x.f.k 3 ?_ ?_ <;> intro h5 dc
  ·refine Y 2 (ag 5 fQ ca)<|aD 0 (x.f.wide>0) ?_ ?_ <;> intro h6 di
   ·exact af 1 (M 3) H2 (by rw [lu,aI,OL bj dc di])
   exact af 1 (M 2) H2 (by rw [lu,aI,OM bj dc di])
  obtain ⟨_,H3,c3,bq,aM,WO,rfl,It⟩:=pF ar (MW (gK hx ar))
  have ek:H2.n+0≤H3.n:=bq.n
  have fL:=ar.kept bq aq ca
  rcases It x.f.s with ⟨hfn,hfl⟩ |⟨fp,fn,kJ,HV,fg,hfn,hfl,hfr,hfz,XK⟩
  ·exact ay 1 (beq_eq_false_iff_ne.2 J:(x.f.k==6)=false)<|ay 1 (beq_eq_false_iff_ne.2 J:(x.f.k==7)=false)<|aE [am 0]<|az [] (bk:(H3.n+0)<H3.n∨H3.n≤(H3.n+0))<|ac 0 c3<|Y 1 (ag 3 bA fL)<|g8 0 hfl<|aB 4 (bG GH rfl rfl rfl rfl:bu E 48 (H3.n+0) 0 (.agg (List.toArray ru)) (pE H3)=some (pE H3))<|az [] (dO (aM.news (uY ru)) (aR (uY ru) H3 0 _ rfl):cK (pE H3) (pE H3) [H3.n+0]=true)<|bf 6 (M 0) (pE H3) [H3.n+0] aJ aL (by rw [lu,aI,zZ bj J J J J J,MO hfn])
  obtain ⟨_,H4,eg,ee,cu,jr⟩:=eL (pF (aM.news [O [.slice fp fn kJ,M fg] 48]) (Om fp fn kJ HV none 0 0 [] (gK hx (aM.news [O [.slice fp fn kJ,M fg] 48])) (QY aM.wf [O [.slice fp fn kJ,M fg] 48] hfr) hfz J (.inl rfl) rfl))
  refine ay 1 (beq_eq_false_iff_ne.2 J:(x.f.k==6)=false)<|ay 1 (beq_eq_false_iff_ne.2 J:(x.f.k==7)=false)<|aE [am 0]<|az [] (bk:(H3.n+0)<H3.n∨H3.n≤(H3.n+0))<|ac 0 c3<|Y 1 (ag 3 bA fL)<|g8 0 hfl<|aB 4 (bG GH rfl rfl rfl rfl:bu E 48 (H3.n+0) 0 (.agg #[.slice fp fn kJ,M fg]) (pE H3)=some (Al H3 fp fn kJ fg))<|az [] (dO (aM.news (uY ru)) (aR (uY ru) H3 0 _ rfl):cK (pE H3) (Al H3 fp fn kJ fg) [H3.n+0]=true)<|Y 5 (aQ (Al H3 fp fn kJ fg) 0 0 rl)<|?_
  rcases jr with ⟨rfl,ld⟩ |⟨rfl,ld⟩
  ·have gm:=d9 ee
   have v8:=(aM.news [O [.slice fp fn kJ,M fg] 48]).kept ee aq (aR [O [.slice fp fn kJ,M fg] 48] H3 0 _ rfl)
   exact ac 1 eg<|Y 3 (ag 1 av v8)<|bf 1 (M fg) H4 [H3.n+0] aJ aL (by rw [lu,aI,zZ bj J J J J J,MP hfn ld])
  have gm:=d9 ee
  exact ac 1 eg<|bf 3 (M 0) H4 [H3.n+0] aJ aL (by rw [lu,aI,zZ bj J J J J J,MN hfn ld])
 have c8:=d9 ak
 have aS:=(y.news [O (ai x.f) 27]).kept ak aq (aR [O (ai x.f) 27] H 0 _ rfl)
 have abU:bT.length=x.f.aj:=by rw [a.aj,← zY,aI]
 obtain ⟨_,H2,c2,aF,ar,cX⟩:=eL (pF y1 (On (some ⟨gq,0,none⟩) bT.length 2 bT 0 (gK hx y1) (.inr ⟨_,_,_,rfl,im⟩) rfl J))
 refine bx 2 c1<|?_
 rcases cX with ⟨rfl,bj⟩ |⟨rfl,bj⟩
 ·exact ac 1 c2<|af 1 (M 0) H2 (by rw [lu,aI,OI bj])
 have cB:H1.n+0≤H2.n:=aF.n
 have ca:=y1.kept aF aq aS
 refine ac 1 c2<|Y 1 (ag 0 av ca)<|aY 0 x.f.k 1 ?_ ?_ <;> intro h3 cY
 ·exact af 2 (M 1) H2 (by rw [lu,aI,OJ bj cY])
 refine aY 1 x.f.k 2 ?_ ?_ <;> intro h4 cO
 ·exact af 2 (M 4) H2 (by rw [lu,aI,OK bj cO])
 refine aY 1 x.f.k 3 ?_ ?_ <;> intro h5 dc
 ·refine Y 2 (ag 5 fQ ca)<|aD 0 (x.f.wide>0) ?_ ?_ <;> intro h6 di
  ·exact af 1 (M 3) H2 (by rw [lu,aI,OL bj dc di])
  exact af 1 (M 2) H2 (by rw [lu,aI,OM bj dc di])
 refine aY 1 x.f.k 6 ?_ ?_ <;> intro h6 di
 ·have jS:=y1.kept aF aq im
  obtain ⟨_,H3,c3,bq,aM,rfl⟩:=T6 x.f X hx (cc bT 0) (cc bT 1) ar
  exact Y 1 (cd c4 ct ca rfl rfl:al E 27 (H.n+0) 0 H2=some (.agg (ai x.f).toArray))<|aG 1 (0:Int) (bT.length:Int)<|Y 0 (fZ av jS J J:al E 3 gq (0+(0:Int).toNat*1) H2=some (M (cc bT 0)))<|aG 1 (1:Int) (bT.length:Int)<|Y 0 (fZ av jS J J:al E 3 gq (0+(1:Int).toNat*1) H2=some (M (cc bT 1)))<|ac 0 c3<|af 1 (M (hZ x.f (cc bT 0) (cc bT 1))) H3 (by rw [lu,aI,Zz bj di])
 refine aY 1 x.f.k 7 ?_ ?_ <;> intro h7 gM
 ·have jS:=y1.kept aF aq im
  refine aG 2 (0:Int) (bT.length:Int)<|Y 0 (fZ av jS J J:al E 3 gq (0+(0:Int).toNat*1) H2=some (M (cc bT 0)))<|aD 0 ((cc bT 0)>2) ?_ ?_ <;> intro h8 lT
  ·exact af 1 (M 0) H2 (by rw [lu,aI,ZA bj gM lT])
  exact aG 1 (0:Int) (bT.length:Int)<|Y 0 (fZ av jS J J:al E 3 gq (0+(0:Int).toNat*1) H2=some (M (cc bT 0)))<|af 1 (M (cc bT 0)) H2 (by rw [lu,aI,ZB bj gM lT])
 obtain ⟨_,H3,c3,bq,aM,WO,rfl,It⟩:=pF ar (MW (gK hx ar))
 have ek:H2.n+0≤H3.n:=bq.n
 have fL:=ar.kept bq aq ca
 rcases It x.f.s with ⟨hfn,hfl⟩ |⟨fp,fn,kJ,HV,fg,hfn,hfl,hfr,hfz,XK⟩
 ·exact aE [am 0]<|az [] (bk:(H3.n+0)<H3.n∨H3.n≤(H3.n+0))<|ac 0 c3<|Y 1 (ag 3 bA fL)<|g8 0 hfl<|aB 4 (bG GH rfl rfl rfl rfl:bu E 48 (H3.n+0) 0 (.agg (List.toArray ru)) (pE H3)=some (pE H3))<|az [] (dO (aM.news (uY ru)) (aR (uY ru) H3 0 _ rfl):cK (pE H3) (pE H3) [H3.n+0]=true)<|bf 6 (M 0) (pE H3) [H3.n+0] aJ aL (by rw [lu,aI,zZ bj J J J J J,MO hfn])
 have jS:=y1.kept aF aq im
 have Zl:=ar.kept bq aq jS
 obtain ⟨_,H4,eg,ee,cu,jr⟩:=eL (pF (aM.news [O [.slice fp fn kJ,M fg] 48]) (Om fp fn kJ HV (some ⟨gq,0,none⟩) bT.length 2 bT (gK hx (aM.news [O [.slice fp fn kJ,M fg] 48])) (QY aM.wf [O [.slice fp fn kJ,M fg] 48] hfr) hfz J (.inr ⟨_,_,_,rfl,aM.old Zl [O [.slice fp fn kJ,M fg] 48]⟩) rfl))
 refine aE [am 0]<|az [] (bk:(H3.n+0)<H3.n∨H3.n≤(H3.n+0))<|ac 0 c3<|Y 1 (ag 3 bA fL)<|g8 0 hfl<|aB 4 (bG GH rfl rfl rfl rfl:bu E 48 (H3.n+0) 0 (.agg #[.slice fp fn kJ,M fg]) (pE H3)=some (Al H3 fp fn kJ fg))<|az [] (dO (aM.news (uY ru)) (aR (uY ru) H3 0 _ rfl):cK (pE H3) (Al H3 fp fn kJ fg) [H3.n+0]=true)<|Y 5 (aQ (Al H3 fp fn kJ fg) 0 0 rl)<|?_
 rcases jr with ⟨rfl,ld⟩ |⟨rfl,ld⟩
 ·have gm:=d9 ee
  have v8:=(aM.news [O [.slice fp fn kJ,M fg] 48]).kept ee aq (aR [O [.slice fp fn kJ,M fg] 48] H3 0 _ rfl)
  exact ac 1 eg<|Y 3 (ag 1 av v8)<|bf 1 (M fg) H4 [H3.n+0] aJ aL (by rw [lu,aI,zZ bj J J J J J,MP hfn ld])
 have gm:=d9 ee
 exact ac 1 eg<|bf 3 (M 0) H4 [H3.n+0] aJ aL (by rw [lu,aI,zZ bj J J J J J,MN hfn ld])
theorem node6 {x:bh} (h:gI x=true):(x.f.k=6→x.f.aj=2)∧(x.f.k=7→x.f.aj=1):=by
 rw [gI,dZ,dZ,dZ] at h
 have ha:=h.2.2.2
 refine ⟨fun hk=>?_,fun hk=>?_⟩
 ·rw [or hk,lS,dZ,dZ,dZ,beq_iff_eq] at ha
  omega
 ·rw [zd hk,we,beq_iff_eq] at ha
  omega
theorem yt {x:bh} (h:jH x=true):gI x=true∧∀ k∈x.kids,jH k=true:=by
 rw [jI,dZ,Bool.not_eq_true'] at h
 refine ⟨h.1,?_⟩
 have key:∀ l:List bh,kC l=false→∀ k∈l,jH k=true:=by
  intro l
  induction l with
  |nil=>intro _ k hk;cases hk
  |cons y l ih=>
   intro hb k hk
   rw [Bp,Bool.or_eq_false_iff,Bool.not_eq_false'] at hb
   rcases List.mem_cons.1 hk with rfl |hk
   ·exact hb.1
   ·exact ih hb.2 k hk
 exact key _ h.2
theorem afL (x:bh) (X:Z) (hx:aa E G X) (hs:jb X x):mC x→jH x=true→∀{H:Z},aa E X H→aV E X 14 [.agg (ai x.f).toArray] H [] (fun v _=>v=M (dM x)):=by
 induction hs with
 |@mk x a hk ih=>
  intro hf hr H y
  cases hf with
  |mk hz hf=>exact ZF x X hx a hz (fun k hk=>ih k hk (hf k hk) ((yt hr).2 k hk)) (node6 (yt hr).1).1 (node6 (yt hr).1).2 y
noncomputable def vh (x:bh):Value:=bif oS x then (bif dM x==0 then .tuple #[M 0,.iface 41 (M 7)] else .tuple #[M (dM x),.nilIface]) else .tuple #[M 0,.iface 41 (M 6)]
theorem afR (x:bh) (X:Z) (hx:aa E G X) (hs:jb X x) (hf:mC x) {H:Z} (y:aa E X H):aV E X 7 [.agg (ai x.f).toArray] H [] (fun v H'=>v=vh x):=by
 refine bB Tryz.f7 y ?_
 obtain ⟨_,H1,c1,ak,y1,bE⟩:=eL (afN x X hx hs hf (y.news [O (ai x.f) 27]))
 refine Y 3 (dt c4 ct rfl rfl rfl:al E 27 (H.n+0) 0 (news H [O (ai x.f) 27])=some (.agg (ai x.f).toArray))<|?_
 rcases bE with ⟨rfl,b7⟩ |⟨rfl,b7⟩
 ·have c8:=d9 ak
  have g1:=y1.n
  have aS:=(y.news [O (ai x.f) 27]).kept ak aq (aR [O (ai x.f) 27] H 0 _ rfl)
  have IG:jH x=true:=by rw [oS,dZ] at b7;exact b7.2
  obtain ⟨_,H2,c2,aF,ar,rfl⟩:=afL x X hx hs hf IG y1
  refine ac 0 c1<|Y 1 (cd c4 ct aS rfl rfl:al E 27 (H.n+0) 0 H1=some (.agg (ai x.f).toArray))<|ac 0 c2<|aY 2 (dM x) 0 ?_ ?_ <;> intro h2 cv
  ·exact af 3 (.tuple #[M 0,.iface 41 (M 7)]) H2 (by rw [vh,b7,h2] <;> rfl)
  exact af 3 (.tuple #[M (dM x),.nilIface]) H2 (by rw [vh,b7,h2] <;> rfl)
 exact ac 0 c1<|af 4 (.tuple #[M 0,.iface 41 (M 6)]) H1 (by rw [vh,b7] <;> rfl)
noncomputable def Vr:Code:=cw [1,0,1,0,0] (cx Tryz.f26)
theorem adn (q:Nat) (ws:List ByteArray) (c:Nat) (s:ByteArray) (R:Bool):∀(m:Nat) (ah:Int) (H:Z),aa E G H→(b9:H.get q=some (O (mW ws) 9))→(hl:ws.length<100000)→(x0:0≤ah)→(hR:hasB s (ws.drop ah.toNat)=R)→((ws.length:Int)-ah).toNat=m→
  bV E G 18 Vr [(0,.string s),(1,sc q 0 ws.length c),(5,M ah)] H [] (fun x T H'=>(x=(.exit 0)∧T=aP []∧(R=false))∨(x=.ret∧T=aP [(4,aw)]∧(R=true))):=by
 refine dJ fun m ih=>?_
 intro ah H y b9 hl x0 hR hm
 refine cN y ?_
 refine aD 3 (ah<(ws.length:Int)) ?_ ?_ <;> intro h1 q1
 ·obtain ⟨ob,wi,xL⟩:=Lw (ws:=ws) (i:=ah.toNat) J
  refine aG 2 ah (ws.length:Int)<|Y 0 (show al E 9 q (0+ah.toNat*1) H=some (.string ob) from cH bA b9 (show (mW ws)[0+ah.toNat*1]?=_ by rw [show 0+ah.toNat*1=ah.toNat by omega];exact xL))<|d5 1 (ob.toList==s.toList) (fun h2=>?_) fun h2=>?_
  ·exact cF 1 [(4,aw)] .ret H (.inr ⟨rfl,rfl,sK (F:=hasB s) (g:=fun w=>s.toList==w.toList) (fun _ _=>rfl) wi hR (GI h2)⟩)
  exact aH 1 (ah+1)<|du 1 [(0,.string s),(1,sc q 0 ws.length c),(5,M (ah+1))] H (ih _ J (ah+1) _ y b9 hl J (by rw [gp J];exact (sL (F:=hasB s) (g:=fun w=>s.toList==w.toList) (fun _ _=>rfl) wi hR (GI h2))) rfl)
 exact cF 0 [] (.exit 0) H (.inl ⟨rfl,rfl,sJ (F:=hasB s) rfl hR J⟩)
theorem F8 (q:Nat) (ws:List ByteArray) (c:Nat) (s:ByteArray) {H:Z} (y:aa E G H) (b9:H.get q=some (O (mW ws) 9)) (hl:ws.length<100000):aV E G 26 [.string s,sc q 0 ws.length c] H [] (fun v H'=>v=.bool (hasB s ws)):=by
 refine bB Tryz.f26 y ?_
 obtain ⟨_,_,H1,c1,ak,y1,bE⟩:=(adn q ws c s (hasB s ws) _ 0 _ y b9 hl J rfl rfl).code
 rcases bE with ⟨rfl,rfl,aI⟩ |⟨rfl,rfl,aI⟩
 ·exact bx 2 c1<|af 1 U H1 (by rw [aI])
 exact bx 2 c1<|af 0 aw H1 (by rw [aI])
theorem ad9 {x:bh} (hn:e7 x≤64) (h:jH x=true):oS x=true:=by rw [oS,h,decide_eq_true hn];rfl
theorem QU {x:bh} (h:¬ e7 x≤64∨jH x=false):oS x=false:=by
 rcases h with h |h
 ·rw [oS,decide_eq_false h,Bool.false_and]
 ·rw [oS,h,Bool.and_false]
theorem Wd (x:bh) (X:Z) (hx:aa E G X) (hs:jb X x) (hf:mC x) {H:Z} (y:aa E X H):aV E X 15 [.agg (ai x.f).toArray] H [] (fun v H'=>v=.bool (oS x)):=by
 refine bB Tryz.f15 y ?_
 obtain ⟨_,H1,c1,ak,y1,bE⟩:=eL (afP x X hx hs hf (y.news [O (ai x.f) 27]))
 refine Y 2 (dt c4 ct rfl rfl rfl:al E 27 (H.n+0) 0 (news H [O (ai x.f) 27])=some (.agg (ai x.f).toArray))<|?_
 rcases bE with ⟨rfl,b7⟩ |⟨rfl,b7⟩
 ·have aS:=(y.news [O (ai x.f) 27]).kept ak aq (aR [O (ai x.f) 27] H 0 _ rfl)
  obtain ⟨_,H2,c2,aF,ar,rfl⟩:=adu x X hx hs y1
  refine ac 0 c1<|Y 1 (cd c4 ct aS rfl rfl:al E 27 (H.n+0) 0 H1=some (.agg (ai x.f).toArray))<|ac 0 c2<|aD 0 ((e7 x)≤64) ?_ ?_ <;> intro h2 cv
  ·exact af 2 aw H2 (congrArg Value.bool (ad9 J b7).symm)
  exact af 2 U H2 (congrArg Value.bool (QU (.inl J)).symm)
 exact ac 0 c1<|af 3 U H1 (congrArg Value.bool (QU (.inr b7)).symm)
def eE:List ByteArray:=[⟨#[114,97,116,101]⟩,⟨#[105,110,99,114,101,97,115,101]⟩,⟨#[100,101,108,116,97]⟩]
def no:List ByteArray:=[⟨#[116,111,112,107]⟩,⟨#[98,111,116,116,111,109,107]⟩]
def cz (s:ByteArray) (ks:List Int):Int:=
 bif hasB s eE&&((((ks.length:Nat):Int)==1)&&(cc ks 0==3)) then 2 else
 bif (s.toList==(⟨#[97,98,115]⟩:ByteArray).toList)&&((((ks.length:Nat):Int)==1)&&(cc ks 0==2)) then 2 else
 bif (s.toList==(⟨#[116,105,109,101]⟩:ByteArray).toList)&&(((ks.length:Nat):Int)==0) then 1 else
 bif (s.toList==(⟨#[118,101,99,116,111,114]⟩:ByteArray).toList)&&((((ks.length:Nat):Int)==1)&&(cc ks 0==1)) then 2 else 0
def cA (s:ByteArray) (ks:List Int):Int:=
 bif hasB s no then (bif (((ks.length:Nat):Int)==2)&&((cc ks 0==1)&&(cc ks 1==2)) then 2 else 0) else
 bif (((ks.length:Nat):Int)==1)&&(cc ks 0==2) then 2 else 0
def cD (f:dR) (a b:Int):Int:=
 bif decide (a>2)||(decide (b>2)||((f.d8&&decide (f.op>6))||((((a==1)&&(b==1))&&(decide (f.op≤6)&&!f.d8))||((f.how != 0)&&((a != 2)||(b != 2)))))) then 0 else
 bif (a==1)&&(b==1) then 1 else 2
def cC (f:dR) (ks:List Int):Int:=
 bif e6 0 ks then 0 else bif f.k==1 then 1 else bif f.k==2 then 4 else bif f.k==3 then (bif f.wide != 0 then 3 else 2) else
 bif f.k==4 then cz f.s ks else bif f.k==5 then cA f.s ks else bif f.k==6 then cD f (cc ks 0) (cc ks 1) else
 bif f.k==7 then (bif decide (cc ks 0<3) then cc ks 0 else 0) else 0
theorem Wc {f:dR} {a b:Int} (ha:1≤a) (hb:1≤b) (hh:0≤f.how):cD f a b=hZ f a b:=by
 have h1:decide (f.how>0)=(f.how != 0):=by
  by_cases h:f.how=0
  ·rw [h];rfl
  ·rw [decide_eq_true J,(bne_iff_ne).2 h]
 have h6:decide (f.op>6)=!decide (f.op≤6):=by by_cases h:f.op≤6 <;> simp [h] <;> omega
 by_cases cU:a>2
 ·rw [cD,hZ,decide_eq_true cU,decide_eq_true (show mx a b>2 by rw [mx];split <;> omega)];rfl
 by_cases pv:b>2
 ·rw [cD,hZ,decide_eq_true pv,decide_eq_true (show mx a b>2 by rw [mx];split <;> omega),Bool.true_or,Bool.or_true];rfl
 have ea:a=1∨a=2:=J
 have eb:b=1∨b=2:=J
 rw [cD,hZ,h1,h6]
 rcases ea with rfl |rfl <;> rcases eb with rfl |rfl <;> cases f.d8 <;> cases decide (f.op≤6) <;> cases (f.how != 0) <;> rfl
theorem RL {s w:ByteArray}:(s.toList==w.toList)=(s==w):=by
 rw [Bool.eq_iff_iff,beq_iff_eq,D0,ByteArray.toList_eq,ByteArray.toList_eq]
 exact ⟨fun h=>ByteArray.ext (Array.toList_inj.1 h),fun h=>by rw [h]⟩
theorem Wr (ks:List Int):kg [] ks=((ks.length:Int)==0):=by
 cases ks with
 |nil=>rfl
 |cons a l=>rw [zC aW,eq_comm,beq_eq_false_iff_ne];simp only [dX];omega
theorem ib {a b:Int}:(!(a != b))=(b==a):=Sf
theorem sZ (v:Int) (ks:List Int):kg [v] ks=(((ks.length:Int)==1)&&(cc ks 0==v)):=by
 match ks with
 |[]=>rfl
 |[a]=>rw [kg,kg,ib,Bool.and_true];rfl
 |a::b::l=>rw [zC aW,show ((((a::b::l).length:Nat):Int)==1)=false from by rw [beq_eq_false_iff_ne];simp only [dX];omega];rfl
theorem NB (v w:Int) (ks:List Int):kg [v,w] ks=(((ks.length:Int)==2)&&((cc ks 0==v)&&(cc ks 1==w))):=by
 match ks with
 |[]=>rfl
 |[a]=>rw [zC aW];rfl
 |[a,b]=>rw [kg,kg,kg,ib,ib,Bool.and_true];rfl
 |a::b::c::l=>rw [zC aW,show ((((a::b::c::l).length:Nat):Int)==2)=false from by rw [beq_eq_false_iff_ne];simp only [dX];omega];rfl
theorem p5 {s:ByteArray} {ks ts:List Int} {g:Int} (h:nX s rD=some (ts,g)):ow s ks=bif kg ts ks then g else 0:=by rw [ow,h]
theorem lM (s w:ByteArray):s=w∨(s==w)=false:=by
 cases h:s==w with
 |true=>exact .inl (D0.1 h)
 |false=>exact .inr rfl
theorem V6 {s:ByteArray} {ks:List Int} (hg:hasB s (rd oB)=false):cz s ks=ow s ks:=by
 rcases lM s ⟨#[97,98,115]⟩ with rfl |NS
 ·rw [p5 (ts:=[2]) (g:=2) an,sZ,cz,show hasB _ eE=false by kernel_rfl,show ((⟨#[97,98,115]⟩:ByteArray).toList==(⟨#[97,98,115]⟩:ByteArray).toList)=true by kernel_rfl,show ((⟨#[97,98,115]⟩:ByteArray).toList==(⟨#[116,105,109,101]⟩:ByteArray).toList)=false by kernel_rfl,show ((⟨#[97,98,115]⟩:ByteArray).toList==(⟨#[118,101,99,116,111,114]⟩:ByteArray).toList)=false by kernel_rfl]
  simp only [Bool.true_and,Bool.false_and,cond_false]
  try cases ((ks.length:Int)==1)&&(cc ks 0==3) <;> rfl
 rcases lM s ⟨#[116,105,109,101]⟩ with rfl |NW
 ·rw [p5 (ts:=[]) (g:=1) an,Wr,cz,show hasB _ eE=false by kernel_rfl,show ((⟨#[116,105,109,101]⟩:ByteArray).toList==(⟨#[97,98,115]⟩:ByteArray).toList)=false by kernel_rfl,show ((⟨#[116,105,109,101]⟩:ByteArray).toList==(⟨#[116,105,109,101]⟩:ByteArray).toList)=true by kernel_rfl,show ((⟨#[116,105,109,101]⟩:ByteArray).toList==(⟨#[118,101,99,116,111,114]⟩:ByteArray).toList)=false by kernel_rfl]
  simp only [Bool.true_and,Bool.false_and,cond_false]
  try cases ((ks.length:Int)==1)&&(cc ks 0==3) <;> rfl
 rcases lM s ⟨#[118,101,99,116,111,114]⟩ with rfl |NX
 ·rw [p5 (ts:=[1]) (g:=2) an,sZ,cz,show hasB _ eE=false by kernel_rfl,show ((⟨#[118,101,99,116,111,114]⟩:ByteArray).toList==(⟨#[97,98,115]⟩:ByteArray).toList)=false by kernel_rfl,show ((⟨#[118,101,99,116,111,114]⟩:ByteArray).toList==(⟨#[116,105,109,101]⟩:ByteArray).toList)=false by kernel_rfl,show ((⟨#[118,101,99,116,111,114]⟩:ByteArray).toList==(⟨#[118,101,99,116,111,114]⟩:ByteArray).toList)=true by kernel_rfl]
  simp only [Bool.true_and,Bool.false_and,cond_false]
  try cases ((ks.length:Int)==1)&&(cc ks 0==3) <;> rfl
 rcases lM s ⟨#[114,97,116,101]⟩ with rfl |NV
 ·rw [p5 (ts:=[3]) (g:=2) an,sZ,cz,show hasB _ eE=true by kernel_rfl,show ((⟨#[114,97,116,101]⟩:ByteArray).toList==(⟨#[97,98,115]⟩:ByteArray).toList)=false by kernel_rfl,show ((⟨#[114,97,116,101]⟩:ByteArray).toList==(⟨#[116,105,109,101]⟩:ByteArray).toList)=false by kernel_rfl,show ((⟨#[114,97,116,101]⟩:ByteArray).toList==(⟨#[118,101,99,116,111,114]⟩:ByteArray).toList)=false by kernel_rfl]
  simp only [Bool.true_and,Bool.false_and,cond_false]
  try cases ((ks.length:Int)==1)&&(cc ks 0==3) <;> rfl
 rcases lM s ⟨#[105,110,99,114,101,97,115,101]⟩ with rfl |NU
 ·rw [p5 (ts:=[3]) (g:=2) an,sZ,cz,show hasB _ eE=true by kernel_rfl,show ((⟨#[105,110,99,114,101,97,115,101]⟩:ByteArray).toList==(⟨#[97,98,115]⟩:ByteArray).toList)=false by kernel_rfl,show ((⟨#[105,110,99,114,101,97,115,101]⟩:ByteArray).toList==(⟨#[116,105,109,101]⟩:ByteArray).toList)=false by kernel_rfl,show ((⟨#[105,110,99,114,101,97,115,101]⟩:ByteArray).toList==(⟨#[118,101,99,116,111,114]⟩:ByteArray).toList)=false by kernel_rfl]
  simp only [Bool.true_and,Bool.false_and,cond_false]
  try cases ((ks.length:Int)==1)&&(cc ks 0==3) <;> rfl
 rcases lM s ⟨#[100,101,108,116,97]⟩ with rfl |NT
 ·rw [p5 (ts:=[3]) (g:=2) an,sZ,cz,show hasB _ eE=true by kernel_rfl,show ((⟨#[100,101,108,116,97]⟩:ByteArray).toList==(⟨#[97,98,115]⟩:ByteArray).toList)=false by kernel_rfl,show ((⟨#[100,101,108,116,97]⟩:ByteArray).toList==(⟨#[116,105,109,101]⟩:ByteArray).toList)=false by kernel_rfl,show ((⟨#[100,101,108,116,97]⟩:ByteArray).toList==(⟨#[118,101,99,116,111,114]⟩:ByteArray).toList)=false by kernel_rfl]
  simp only [Bool.true_and,Bool.false_and,cond_false]
  try cases ((ks.length:Int)==1)&&(cc ks 0==3) <;> rfl
 rcases lM s ⟨#[115,117,109]⟩ with rfl |ED
 ·exact absurd (hg.symm.trans (show hasB _ _=true by kernel_rfl)) (by decide)
 rcases lM s ⟨#[97,118,103]⟩ with rfl |Ey
 ·exact absurd (hg.symm.trans (show hasB _ _=true by kernel_rfl)) (by decide)
 rcases lM s ⟨#[109,105,110]⟩ with rfl |EC
 ·exact absurd (hg.symm.trans (show hasB _ _=true by kernel_rfl)) (by decide)
 rcases lM s ⟨#[109,97,120]⟩ with rfl |EB
 ·exact absurd (hg.symm.trans (show hasB _ _=true by kernel_rfl)) (by decide)
 rcases lM s ⟨#[99,111,117,110,116]⟩ with rfl |EA
 ·exact absurd (hg.symm.trans (show hasB _ _=true by kernel_rfl)) (by decide)
 rcases lM s ⟨#[116,111,112,107]⟩ with rfl |EE
 ·exact absurd (hg.symm.trans (show hasB _ _=true by kernel_rfl)) (by decide)
 rcases lM s ⟨#[98,111,116,116,111,109,107]⟩ with rfl |Ez
 ·exact absurd (hg.symm.trans (show hasB _ _=true by kernel_rfl)) (by decide)
 rw [ow,show nX s rD=none by simp only [nX,rD,NS,NW,NX,NV,NU,NT,ED,Ey,EC,EB,EA,EE,Ez,cond_false]]
 simp only [cz,eE,hasB,RL,NS,NW,NX,NV,NU,NT,ED,Ey,EC,EB,EA,EE,Ez,Bool.false_or,Bool.false_and,cond_false]
theorem V7 {s:ByteArray} {ks:List Int} (hg:hasB s (rd oB)=true):cA s ks=ow s ks:=by
 rcases lM s ⟨#[115,117,109]⟩ with rfl |ED
 ·rw [p5 (ts:=[2]) (g:=2) an,sZ,cA,show hasB _ no=false by kernel_rfl];rfl
 rcases lM s ⟨#[97,118,103]⟩ with rfl |Ey
 ·rw [p5 (ts:=[2]) (g:=2) an,sZ,cA,show hasB _ no=false by kernel_rfl];rfl
 rcases lM s ⟨#[109,105,110]⟩ with rfl |EC
 ·rw [p5 (ts:=[2]) (g:=2) an,sZ,cA,show hasB _ no=false by kernel_rfl];rfl
 rcases lM s ⟨#[109,97,120]⟩ with rfl |EB
 ·rw [p5 (ts:=[2]) (g:=2) an,sZ,cA,show hasB _ no=false by kernel_rfl];rfl
 rcases lM s ⟨#[99,111,117,110,116]⟩ with rfl |EA
 ·rw [p5 (ts:=[2]) (g:=2) an,sZ,cA,show hasB _ no=false by kernel_rfl];rfl
 rcases lM s ⟨#[116,111,112,107]⟩ with rfl |EE
 ·rw [p5 (ts:=[1,2]) (g:=2) an,NB,cA,show hasB _ no=true by kernel_rfl];rfl
 rcases lM s ⟨#[98,111,116,116,111,109,107]⟩ with rfl |Ez
 ·rw [p5 (ts:=[1,2]) (g:=2) an,NB,cA,show hasB _ no=true by kernel_rfl];rfl
 rw [show rd oB=[⟨#[115,117,109]⟩,⟨#[97,118,103]⟩,⟨#[109,105,110]⟩,⟨#[109,97,120]⟩,⟨#[99,111,117,110,116]⟩,⟨#[116,111,112,107]⟩,⟨#[98,111,116,116,111,109,107]⟩] by kernel_rfl] at hg
 simp only [hasB,RL,ED,Ey,EC,EB,EA,EE,Ez,Bool.or_false] at hg
 cases hg
theorem N0 {ks:List Int} (h:e6 0 ks=false) {i:Nat} (hi:i<ks.length) (hr:∀ v∈ks,0≤v):1≤cc ks i:=by
 have key:∀ l:List Int,e6 0 l=false→∀ v∈l,v≠0:=by
  intro l
  induction l with
  |nil=>intro _ v hv;cases hv
  |cons a l ih=>
   intro hl v hv
   rw [e6,Bool.or_eq_false_iff,beq_eq_false_iff_ne] at hl
   rcases List.mem_cons.1 hv with rfl |hv
   ·exact fun e=>hl.1 e.symm
   ·exact ih hl.2 v hv
 have hm:cc ks i∈ks:=List.mem_of_getElem? (uA hi).1
 have:=hr _ hm
 have:=key ks h _ hm
 omega
theorem V8 {x:bh} {ks:List Int} (h:gI x=true) (hl:ks.length=x.f.aj) (hr:∀ v∈ks,0≤v):cC x.f ks=kn x.f ks:=by
 cases hz:e6 0 ks with
 |true=>rw [cC,kn,hz];rfl
 |false=>
  rw [cC,kn,hz]
  have h':=h
  rw [gI,dZ,dZ,dZ,Bool.not_eq_true',Bool.not_eq_true',decide_eq_false_iff_not,decide_eq_false_iff_not] at h'
  obtain ⟨h1,h2,_,ha⟩:=h'
  rcases (show x.f.k=1∨x.f.k=2∨x.f.k=3∨x.f.k=4∨x.f.k=5∨x.f.k=6∨x.f.k=7 by omega) with hk |hk |hk |hk |hk |hk |hk
  ·rw [hk];rfl
  ·rw [hk];rfl
  ·rw [zc hk,iD,dZ,dZ,dZ,Bool.not_eq_true',Bool.not_eq_true',Bool.not_eq_true',decide_eq_false_iff_not,decide_eq_false_iff_not] at ha
   rw [hk,show (x.f.wide != 0)=decide (x.f.wide>0) from by
    by_cases hw:x.f.wide=0
    ·rw [hw];rfl
    ·rw [decide_eq_true J,bne_iff_ne.2 hw]]
   rfl
  ·rw [w8 hk,sP,dZ,jC,dZ,dZ,Bool.not_eq_true',Bool.not_eq_true'] at ha
   rw [hk,V6 ha.1.2.1];rfl
  ·rw [vz hk,qJ,dZ] at ha
   rw [hk,V7 ha.1];rfl
  ·rw [or hk,lS,dZ,dZ,dZ,beq_iff_eq,mh,dZ,Bool.not_eq_true',decide_eq_false_iff_not] at ha
   rw [hk,Wc (N0 hz J hr) (N0 hz J hr) J];rfl
  ·rw [hk]
   rw [show decide (cc ks 0<3)=!decide (cc ks 0>2) by by_cases hq:cc ks 0>2 <;> simp [hq] <;> omega]
   cases decide (cc ks 0>2) <;> rfl
theorem TA (s:ByteArray) (ks:List Int):0≤ow s ks:=by
 have key:∀ l:List (ByteArray×List Int×Int),(∀ e∈l,0≤e.2.2)→∀ q,nX s l=some q→0≤q.2:=by
  intro l
  induction l with
  |nil=>intro _ q hq;cases hq
  |cons e l ih=>
   intro he q hq
   rw [nX] at hq
   cases hb:s==e.1 with
   |true=>rw [hb] at hq;cases hq;exact he e List.mem_cons_self
   |false=>rw [hb] at hq;exact ih (fun z hz=>he z (List.mem_cons_of_mem _ hz)) q hq
 rw [ow]
 split
 ·decide
 ·rename_i ts g hq
  have:=key rD (by decide) _ hq
  cases kg ts ks
  ·exact Int.le_refl 0
  ·exact this
theorem OE {ks:List Int} (hr:∀ v∈ks,0≤v) (i:Nat):0≤cc ks i:=by
 by_cases hi:i<ks.length
 ·exact hr _ (List.mem_of_getElem? (uA hi).1)
 ·rw [cc,List.getD_eq_getElem?_getD,List.getElem?_eq_none J];decide
theorem ZC {f:dR} {ks:List Int} (hr:∀ v∈ks,0≤v):0≤kn f ks:=by
 have a:=OE hr 0
 have b:=OE hr 1
 have c:=TA f.s ks
 have m:0≤mx (cc ks 0) (cc ks 1):=by rw [mx];split <;> omega
 have p:0≤hZ f (cc ks 0) (cc ks 1):=by
  rw [hZ]
  simp only [cond_eq_ite]
  repeat' split
  all_goals omega
 rw [kn]
 simp only [cond_eq_ite]
 repeat' split
 all_goals omega
theorem OH {l:List bh} (h:∀ k∈l,0≤dM k):∀ v∈km l,0≤v:=by
 induction l with
 |nil=>intro v hv;rw [km] at hv;cases hv
 |cons y l ihl=>
  intro v hv
  rw [km] at hv
  rcases List.mem_cons.1 hv with rfl |hv
  ·exact h y List.mem_cons_self
  ·exact ihl (fun z hz=>h z (List.mem_cons_of_mem _ hz)) v hv
theorem ZH {X:Z} {x:bh} (hs:jb X x):0≤dM x:=by
 induction hs with
 |@mk x a hk ih=>
  rw [lu]
  exact ZC (OH ih)
theorem Ib {v:Int}:∀{a b:List Int},e6 v (a++b)=(e6 v a||e6 v b)
 |[],b=>rfl
 |x::a,b=>by rw [List.cons_append,e6,e6,Ib,Bool.or_assoc]
theorem OO {kids:List bh} {i:Nat} {c:bh} {ks R:List Int} (h:kids[i]?=some c) (hR:ks++km (kids.drop i)=R) (h0:dM c=0):e6 0 R=true:=by
 rw [drop_cons h,km] at hR;rw [← hR,Ib,e6,h0];simp
theorem ON {ks:List Int} {v:Int} (h:e6 0 ks=false) (hv:v≠0):e6 0 (ks++[v])=false:=by
 rw [Ib,h,e6,e6,Bool.or_false,Bool.false_or,beq_eq_false_iff_ne];exact fun e=>hv e.symm
theorem cG {x:bh} {ks:List Int} {v:Int} (hn:gI x=true) (hl:km x.kids=ks) (hk:x.kids.length=x.f.aj) (hp:∀ v∈km x.kids,0≤v) (h:cC x.f ks=v):M v=M (dM x):=by
 subst hl
 rw [lu,← V8 hn (by rw [zY,hk]) hp,h]
theorem L7:rm E #[44,44] 3 1 8=true:=an
noncomputable def TV:Code:=cw [1,1,0,1,0,0] (cx Tryz.f16)
noncomputable abbrev CT H1 aC:=news H1 [O [M (dM aC)] 3]
theorem We (x:bh) (X:Z) (hx:aa E G X) (a:e9 X x) (hz:jX x) (fm:∀ k∈x.kids,∀{H:Z},aa E X H→aV E X 16 [.agg (ai k.f).toArray] H [] (fun v _=>v=M (dM k))) (bX:Nat) (R:List Int):∀(m:Nat) (bl:Int) (q:Nat) (ks:List Int) (H:Z),aa E X H→(kb:H.get bX=some (O (ai x.f) 27))→(b9:H.get q=some (O (jR ks) 3))→(x0:0≤bl)→(hl:(ks.length:Int)=bl)→(hR:ks++km (x.kids.drop bl.toNat)=R)→(uz:e6 0 ks=false)→(eJ:X.n≤q)→(db:bX≠q)→((x.f.aj:Int)-bl).toNat=m→
  bV E X 191 TV [(1,pt bX 0),(3,sc q 0 ks.length 2),(4,M bl)] H [q] (fun fB T H'=>(fB=(.exit 0)∧∃(sy:Nat) (nK:List Int),T=aP [(1,pt bX 0),(3,sc sy 0 nK.length 2)]∧(R=nK∧e6 0 nK=false∧H'.get sy=some (O (jR nK) 3)))∨(fB=.ret∧T=aP [(2,M 0)]∧(e6 0 R=true))):=by
 refine dJ fun m ih=>?_
 intro bl q ks H y kb b9 x0 hl hR uz eJ db hm
 have hk:=hz.aj
 refine cN y ?_
 have JF:=y.wf.lt kb
 have qP:=y.wf.lt b9
 refine Y 2 (ag 12 ef kb)<|aD 1 (bl<(x.f.aj:Int)) ?_ ?_ <;> intro h1 q1
 ·obtain ⟨d1,j0,t1,fb,dT⟩:=a.rk.open J
  have fH:=hx.wf.lt dT
  obtain ⟨aC,m2⟩:=a.rV (i:=bl.toNat) J
  obtain ⟨_,H1,c1,ak,y1,rfl⟩:=fm aC (nv m2) y
  have c8:H.n+0≤H1.n:=ak.n
  have g1:=y1.n
  refine Y 1 (ag 12 ef kb)<|gY 1 H (hI my ct fb J J:gk E 25 (.slice x.f.pk x.f.aj x.f.ax) (M bl)=some (pt d1 (0+bl.toNat*13)))<|Y 0 (mP c4 ct (y.cell dT fH) m2 J:al E 27 d1 (0+bl.toNat*13) H=some (.agg (ai aC.f).toArray))<|ac 0 c1<|aY 2 (dM aC) 0 ?_ ?_ <;> intro h2 cv
  ·exact c5 1 [(2,M 0)] .ret H1 [] aL aZ (.inr ⟨rfl,rfl,OO m2 hR J⟩)
  have eY:=y.kept ak aq b9
  obtain ⟨aK,e2⟩:∃ ao,ao=((CT H1 aC).set q .dead).new (O (jR (ks++[dM aC])) 3):=⟨_,rfl⟩
  have ar:aa E X aK:=pM (y1.news [O [M (dM aC)] 3]) e2 J (by rw [dj];simp only [dX,e3];omega)
  have cB:aK.n=H1.n+2:=by rw [pN e2,dj] <;> rfl
  have I4:aK.get (H1.n+1)=some (O (jR (ks++[dM aC])) 3):=pO e2
  have fP:=y.kept ak aq kb
  have ls:=jU (y1.news [O [M (dM aC)] 3]) e2 J (y1.old fP [O [M (dM aC)] 3])
  exact g8 3 (show gZ E #[44,44] (sc q 0 ks.length 2) (sc (H1.n+0) 0 1 3) (CT H1 aC)=some (sc (H1.n+1) 0 ((ks++[dM aC]).length) 2,aK,[q],[q,H1.n+0]) from (pd L7 rfl (show g9 (CT H1 aC) 1 (sc (H1.n+0) 0 1 3)=some (1,[M (dM aC)],[H1.n+0]) from js (aR [O [M (dM aC)] 3] H1 0 _ rfl) (gg rfl)) rfl (y1.old eY [O [M (dM aC)] 3]) (by rw [IX];omega) J).trans (by rw [Ou ks (dM aC),Ov ks (dM aC),e2] <;> rfl))<|aH 2 (bl+1)<|ji 1 [(1,pt bX 0),(3,sc (H1.n+1) 0 ((ks++[dM aC]).length) 2),(4,M (bl+1))] aK [q] aW aJ (ih _ J (bl+1) (H1.n+1) (ks++[dM aC]) _ ar ls I4 J (by simp only [List.length_append,dX,e3];omega) (by rw [gp J];exact E3 m2 hR) (ON uz J) J J rfl)
 exact c5 0 [(1,pt bX 0),(3,sc q 0 ks.length 2)] (.exit 0) H [] aL aZ (.inl ⟨rfl,q,ks,rfl,⟨E2 hR (by have:=a.aj;omega),uz,b9⟩⟩)
noncomputable def TU:Code:=cw [1,1,0,1,0,0] (cx Tryz.f16)
noncomputable abbrev PU H1 aC:=news H1 [O [M (dM aC)] 3,O [M (dM aC)] 3]
theorem Wb (x:bh) (X:Z) (hx:aa E G X) (a:e9 X x) (hz:jX x) (fm:∀ k∈x.kids,∀{H:Z},aa E X H→aV E X 16 [.agg (ai k.f).toArray] H [] (fun v _=>v=M (dM k))) (bX:Nat) (R:List Int):∀(m:Nat)  (H:Z),aa E X H→(kb:H.get bX=some (O (ai x.f) 27))→(hR:km x.kids=R)→0=m→
  bV E X 191 TU [(1,pt bX 0),(3,.slice none 0 0),(4,M 0)] H [] (fun fB T H'=>(fB=(.exit 0)∧T=aP [(1,pt bX 0),(3,.slice none 0 0)]∧(R=[]))∨(fB=(.exit 0)∧∃(sy:Nat) (nK:List Int),T=aP [(1,pt bX 0),(3,sc sy 0 nK.length 2)]∧(R=nK∧e6 0 nK=false∧H'.get sy=some (O (jR nK) 3)))∨(fB=.ret∧T=aP [(2,M 0)]∧(e6 0 R=true))):=by
 refine dJ fun m ih=>?_
 intro  H y kb hR hm
 have hk:=hz.aj
 refine cN y ?_
 have JF:=y.wf.lt kb
 refine Y 2 (ag 12 ef kb)<|aD 1 (0<(x.f.aj:Int)) ?_ ?_ <;> intro h1 q1
 ·obtain ⟨d1,j0,t1,fb,dT⟩:=a.rk.open J
  have fH:=hx.wf.lt dT
  obtain ⟨aC,m2⟩:=a.rV (i:=0) J
  obtain ⟨_,H1,c1,ak,y1,rfl⟩:=fm aC (nv m2) y
  have c8:H.n+0≤H1.n:=ak.n
  have g1:=y1.n
  refine Y 1 (ag 12 ef kb)<|gY 1 H (hI my ct fb J J:gk E 25 (.slice x.f.pk x.f.aj x.f.ax) (M 0)=some (pt d1 (0+0)))<|Y 0 (mP c4 ct (y.cell dT fH) m2 J:al E 27 d1 (0+0) H=some (.agg (ai aC.f).toArray))<|ac 0 c1<|aY 2 (dM aC) 0 ?_ ?_ <;> intro h2 cv
  ·exact cF 1 [(2,M 0)] .ret H1 (.inr (.inr ⟨rfl,rfl,OO (ks:=[]) (i:=0) m2 hR J⟩))
  have fP:=y.kept ak aq kb
  exact g8 3 (show gZ E #[44,44] (.slice none 0 0) (sc (H1.n+0) 0 1 3) (CT H1 aC)=some (sc (H1.n+1) 0 1 2,PU H1 aC,[],[H1.n+0]) from sM L7 rfl (show g9 (CT H1 aC) 1 (sc (H1.n+0) 0 1 3)=some (1,[M (dM aC)],[H1.n+0]) from js (aR [O [M (dM aC)] 3] H1 0 _ rfl) (gg rfl)) rfl (by decide) (by decide))<|ji 4 [(1,pt bX 0),(3,sc (H1.n+1) 0 1 2),(4,M 1)] (PU H1 aC) [] aL aJ ((We x X hx a hz fm bX R _ 1 (H1.n+1) ([dM aC]) _ (y1.news [O [M (dM aC)] 3,O [M (dM aC)] 3]) (y1.old fP [O [M (dM aC)] 3,O [M (dM aC)] 3]) (aR [O [M (dM aC)] 3,O [M (dM aC)] 3] H1 1 _ rfl) J rfl (E3 (ks:=[]) (i:=0) m2 hR) (ON (ks:=[]) rfl J) J J rfl).mono fun _ _ _ h=>.inr h)
 exact cF 0 [(1,pt bX 0),(3,.slice none 0 0)] (.exit 0) H (.inl ⟨rfl,rfl,E2 (kids:=x.kids) (ks:=[]) (i:=0) hR (by have:=a.aj;omega)⟩)
noncomputable abbrev kI:=([.string ⟨#[114,97,116,101]⟩,.string ⟨#[105,110,99,114,101,97,115,101]⟩,.string ⟨#[100,101,108,116,97]⟩]:List Value)
noncomputable abbrev sX:=([.string ⟨#[116,111,112,107]⟩,.string ⟨#[98,111,116,116,111,109,107]⟩]:List Value)
theorem Wa (x:bh) (X:Z) (hx:aa E G X) (a:e9 X x) (hz:jX x) (fm:∀ k∈x.kids,∀{H:Z},aa E X H→aV E X 16 [.agg (ai k.f).toArray] H [] (fun v _=>v=M (dM k))) (hn:gI x=true) (hp:∀ v∈km x.kids,0≤v) (Zb:x.f.k=6→x.f.aj=2) (Zc:x.f.k=7→x.f.aj=1) {H:Z} (y:aa E X H):aV E X 16 [.agg (ai x.f).toArray] H [] (fun v H'=>v=M (dM x)):=by
 refine bB Tryz.f16 y ?_
 have hk:=hz.aj
 obtain ⟨_,_,H1,c1,ak,y1,bE⟩:=(Wb x X hx a hz fm (H.n+0) (km x.kids) _ _ (y.news [O (ai x.f) 27]) (aR [O (ai x.f) 27] H 0 _ rfl) rfl rfl).code
 rcases bE with ⟨rfl,rfl,aI⟩ |⟨rfl,gq,bT,rfl,aI,sz_1,im⟩ |⟨rfl,rfl,aI⟩
 ·have aS:=(y.news [O (ai x.f) 27]).kept ak aq (aR [O (ai x.f) 27] H 0 _ rfl)
  have abT:x.f.aj=0:=by rw [a.aj,← zY,aI];rfl
  refine bx 4 c1<|Y 1 (ag 0 av aS)<|aY 0 x.f.k 1 ?_ ?_ <;> intro h2 cv
  ·exact af 2 (M 1) H1 (cG hn aI a.aj.symm hp (by unfold cC cz cA cD;rw [(rfl:e6 0 []=false),h2] <;> rfl))
  refine aY 1 x.f.k 2 ?_ ?_ <;> intro h3 cY
  ·exact af 2 (M 4) H1 (cG hn aI a.aj.symm hp (by unfold cC cz cA cD;rw [(rfl:e6 0 []=false),h2,h3] <;> rfl))
  refine aY 1 x.f.k 3 ?_ ?_ <;> intro h4 cO
  ·refine Y 2 (ag 5 fQ aS)<|d7 0 x.f.wide 0 ?_ ?_ <;> intro h5 dc
   ·exact af 1 (M 3) H1 (cG hn aI a.aj.symm hp (by unfold cC cz cA cD;rw [(rfl:e6 0 []=false),h2,h3,h4,h5] <;> rfl))
   exact af 1 (M 2) H1 (cG hn aI a.aj.symm hp (by unfold cC cz cA cD;rw [(rfl:e6 0 []=false),h2,h3,h4,h5] <;> rfl))
  refine aY 1 x.f.k 4 ?_ ?_ <;> intro h5 dc
  ·obtain ⟨_,H2,c2,aF,ar,cX⟩:=eL (pF (y1.news (g6 kI)) (F8 (H1.n+0) [⟨#[114,97,116,101]⟩,⟨#[105,110,99,114,101,97,115,101]⟩,⟨#[100,101,108,116,97]⟩] 7 x.f.s (gK hx (y1.news (g6 kI))) (aR (g6 kI) H1 0 _ rfl) (by decide)))
   refine Y 2 (ag 3 bA aS)<|?_
   rcases cX with ⟨rfl,bj⟩ |⟨rfl,bj⟩
   ·have ca:=(y1.news (g6 kI)).kept aF aq (y1.old aS (g6 kI))
    refine ac 1 c2<|Y 8 (ag 3 bA ca)<|d5 0 (x.f.s.toList==(⟨#[97,98,115]⟩:ByteArray).toList) (fun h7=>?_) fun h7=>?_
    ·refine Y 8 (ag 3 bA ca)<|d5 0 (x.f.s.toList==(⟨#[116,105,109,101]⟩:ByteArray).toList) (fun h8=>?_) fun h8=>?_
     ·exact af 6 (M 1) H2 (cG hn aI a.aj.symm hp (by unfold cC cz cA cD;rw [(rfl:e6 0 []=false),h2,h3,h4,h5,(show hasB x.f.s eE=true from bj),h7,h8] <;> rfl))
     refine Y 3 (ag 3 bA ca)<|d5 0 (x.f.s.toList==(⟨#[118,101,99,116,111,114]⟩:ByteArray).toList) (fun h9=>?_) fun h9=>?_
     ·exact af 8 (M 0) H2 (cG hn aI a.aj.symm hp (by unfold cC cz cA cD;rw [(rfl:e6 0 []=false),h2,h3,h4,h5,(show hasB x.f.s eE=true from bj),h7,h8,h9] <;> rfl))
     exact af 5 (M 0) H2 (cG hn aI a.aj.symm hp (by unfold cC cz cA cD;rw [(rfl:e6 0 []=false),h2,h3,h4,h5,(show hasB x.f.s eE=true from bj),h7,h8,h9] <;> rfl))
    refine Y 5 (ag 3 bA ca)<|d5 0 (x.f.s.toList==(⟨#[116,105,109,101]⟩:ByteArray).toList) (fun h8=>?_) fun h8=>?_
    ·exact af 6 (M 1) H2 (cG hn aI a.aj.symm hp (by unfold cC cz cA cD;rw [(rfl:e6 0 []=false),h2,h3,h4,h5,(show hasB x.f.s eE=true from bj),h7,h8] <;> rfl))
    refine Y 3 (ag 3 bA ca)<|d5 0 (x.f.s.toList==(⟨#[118,101,99,116,111,114]⟩:ByteArray).toList) (fun h9=>?_) fun h9=>?_
    ·exact af 8 (M 0) H2 (cG hn aI a.aj.symm hp (by unfold cC cz cA cD;rw [(rfl:e6 0 []=false),h2,h3,h4,h5,(show hasB x.f.s eE=true from bj),h7,h8,h9] <;> rfl))
    exact af 5 (M 0) H2 (cG hn aI a.aj.symm hp (by unfold cC cz cA cD;rw [(rfl:e6 0 []=false),h2,h3,h4,h5,(show hasB x.f.s eE=true from bj),h7,h8,h9] <;> rfl))
   have ca:=(y1.news (g6 kI)).kept aF aq (y1.old aS (g6 kI))
   refine ac 1 c2<|Y 5 (ag 3 bA ca)<|d5 0 (x.f.s.toList==(⟨#[97,98,115]⟩:ByteArray).toList) (fun h7=>?_) fun h7=>?_
   ·refine Y 8 (ag 3 bA ca)<|d5 0 (x.f.s.toList==(⟨#[116,105,109,101]⟩:ByteArray).toList) (fun h8=>?_) fun h8=>?_
    ·exact af 6 (M 1) H2 (cG hn aI a.aj.symm hp (by unfold cC cz cA cD;rw [(rfl:e6 0 []=false),h2,h3,h4,h5,(show hasB x.f.s eE=false from bj),h7,h8] <;> rfl))
    refine Y 3 (ag 3 bA ca)<|d5 0 (x.f.s.toList==(⟨#[118,101,99,116,111,114]⟩:ByteArray).toList) (fun h9=>?_) fun h9=>?_
    ·exact af 8 (M 0) H2 (cG hn aI a.aj.symm hp (by unfold cC cz cA cD;rw [(rfl:e6 0 []=false),h2,h3,h4,h5,(show hasB x.f.s eE=false from bj),h7,h8,h9] <;> rfl))
    exact af 5 (M 0) H2 (cG hn aI a.aj.symm hp (by unfold cC cz cA cD;rw [(rfl:e6 0 []=false),h2,h3,h4,h5,(show hasB x.f.s eE=false from bj),h7,h8,h9] <;> rfl))
   refine Y 5 (ag 3 bA ca)<|d5 0 (x.f.s.toList==(⟨#[116,105,109,101]⟩:ByteArray).toList) (fun h8=>?_) fun h8=>?_
   ·exact af 6 (M 1) H2 (cG hn aI a.aj.symm hp (by unfold cC cz cA cD;rw [(rfl:e6 0 []=false),h2,h3,h4,h5,(show hasB x.f.s eE=false from bj),h7,h8] <;> rfl))
   refine Y 3 (ag 3 bA ca)<|d5 0 (x.f.s.toList==(⟨#[118,101,99,116,111,114]⟩:ByteArray).toList) (fun h9=>?_) fun h9=>?_
   ·exact af 8 (M 0) H2 (cG hn aI a.aj.symm hp (by unfold cC cz cA cD;rw [(rfl:e6 0 []=false),h2,h3,h4,h5,(show hasB x.f.s eE=false from bj),h7,h8,h9] <;> rfl))
   exact af 5 (M 0) H2 (cG hn aI a.aj.symm hp (by unfold cC cz cA cD;rw [(rfl:e6 0 []=false),h2,h3,h4,h5,(show hasB x.f.s eE=false from bj),h7,h8,h9] <;> rfl))
  refine aY 1 x.f.k 5 ?_ ?_ <;> intro h6 di
  ·obtain ⟨_,H2,c2,aF,ar,cX⟩:=eL (pF (y1.news (g6 sX)) (F8 (H1.n+0) [⟨#[116,111,112,107]⟩,⟨#[98,111,116,116,111,109,107]⟩] 5 x.f.s (gK hx (y1.news (g6 sX))) (aR (g6 sX) H1 0 _ rfl) (by decide)))
   refine Y 2 (ag 3 bA aS)<|?_
   rcases cX with ⟨rfl,bj⟩ |⟨rfl,bj⟩
   ·exact ac 1 c2<|af 8 (M 0) H2 (cG hn aI a.aj.symm hp (by unfold cC cz cA cD;rw [(rfl:e6 0 []=false),h2,h3,h4,h5,h6,(show hasB x.f.s no=true from bj)] <;> rfl))
   exact ac 1 c2<|af 6 (M 0) H2 (cG hn aI a.aj.symm hp (by unfold cC cz cA cD;rw [(rfl:e6 0 []=false),h2,h3,h4,h5,h6,(show hasB x.f.s no=false from bj)] <;> rfl))
  exact ay 1 (beq_eq_false_iff_ne.2 J:(x.f.k==6)=false)<|ay 1 (beq_eq_false_iff_ne.2 J:(x.f.k==7)=false)<|af 2 (M 0) H1 (cG hn aI a.aj.symm hp (by unfold cC cz cA cD;rw [(rfl:e6 0 []=false),h2,h3,h4,h5,h6,show (x.f.k==6)=false from beq_eq_false_iff_ne.2 J,show (x.f.k==7)=false from beq_eq_false_iff_ne.2 J] <;> rfl))
 ·have aS:=(y.news [O (ai x.f) 27]).kept ak aq (aR [O (ai x.f) 27] H 0 _ rfl)
  have abU:bT.length=x.f.aj:=by rw [a.aj,← zY,aI]
  refine bx 4 c1<|Y 1 (ag 0 av aS)<|aY 0 x.f.k 1 ?_ ?_ <;> intro h2 cv
  ·exact af 2 (M 1) H1 (cG hn aI a.aj.symm hp (by unfold cC cz cA cD;rw [sz_1,h2] <;> rfl))
  refine aY 1 x.f.k 2 ?_ ?_ <;> intro h3 cY
  ·exact af 2 (M 4) H1 (cG hn aI a.aj.symm hp (by unfold cC cz cA cD;rw [sz_1,h2,h3] <;> rfl))
  refine aY 1 x.f.k 3 ?_ ?_ <;> intro h4 cO
  ·refine Y 2 (ag 5 fQ aS)<|d7 0 x.f.wide 0 ?_ ?_ <;> intro h5 dc
   ·exact af 1 (M 3) H1 (cG hn aI a.aj.symm hp (by unfold cC cz cA cD;rw [sz_1,h2,h3,h4,h5] <;> rfl))
   exact af 1 (M 2) H1 (cG hn aI a.aj.symm hp (by unfold cC cz cA cD;rw [sz_1,h2,h3,h4,h5] <;> rfl))
  refine aY 1 x.f.k 4 ?_ ?_ <;> intro h5 dc
  ·obtain ⟨_,H2,c2,aF,ar,cX⟩:=eL (pF (y1.news (g6 kI)) (F8 (H1.n+0) [⟨#[114,97,116,101]⟩,⟨#[105,110,99,114,101,97,115,101]⟩,⟨#[100,101,108,116,97]⟩] 7 x.f.s (gK hx (y1.news (g6 kI))) (aR (g6 kI) H1 0 _ rfl) (by decide)))
   refine Y 2 (ag 3 bA aS)<|?_
   rcases cX with ⟨rfl,bj⟩ |⟨rfl,bj⟩
   ·refine ac 1 c2<|aY 3 (bT.length:Int) 1 ?_ ?_ <;> intro h7 gM
    ·have jS:=(y1.news (g6 kI)).kept aF aq (y1.old im (g6 kI))
     refine aG 3 (0:Int) (bT.length:Int)<|Y 0 (fZ av jS J J:al E 3 gq (0+(0:Int).toNat*1) H2=some (M (cc bT 0)))<|aY 0 (cc bT 0) 3 ?_ ?_ <;> intro h8 lT
     ·exact af 2 (M 2) H2 (cG hn aI a.aj.symm hp (by unfold cC cz cA cD;rw [sz_1,h2,h3,h4,h5,(show hasB x.f.s eE=true from bj),h7,h8] <;> rfl))
     have ca:=(y1.news (g6 kI)).kept aF aq (y1.old aS (g6 kI))
     refine Y 2 (ag 3 bA ca)<|d5 0 (x.f.s.toList==(⟨#[97,98,115]⟩:ByteArray).toList) (fun h9=>?_) fun h9=>?_
     ·refine ay 3 h7<|aG 3 (0:Int) (bT.length:Int)<|Y 0 (fZ av jS J J:al E 3 gq (0+(0:Int).toNat*1) H2=some (M (cc bT 0)))<|aY 0 (cc bT 0) 2 ?_ ?_ <;> intro h10 oP
      ·exact af 2 (M 2) H2 (cG hn aI a.aj.symm hp (by unfold cC cz cA cD;rw [sz_1,h2,h3,h4,h5,(show hasB x.f.s eE=true from bj),h7,h8,h9,h10] <;> rfl))
      refine Y 2 (ag 3 bA ca)<|d5 0 (x.f.s.toList==(⟨#[116,105,109,101]⟩:ByteArray).toList) (fun h11=>?_) fun h11=>?_
      ·refine ay 3 (beq_eq_false_iff_ne.2 J:((bT.length:Int)==0)=false)<|Y 2 (ag 3 bA ca)<|d5 0 (x.f.s.toList==(⟨#[118,101,99,116,111,114]⟩:ByteArray).toList) (fun h12=>?_) fun h12=>?_
       ·refine ay 3 h7<|aG 3 (0:Int) (bT.length:Int)<|Y 0 (fZ av jS J J:al E 3 gq (0+(0:Int).toNat*1) H2=some (M (cc bT 0)))<|aY 0 (cc bT 0) 1 ?_ ?_ <;> intro eX yn
        ·exact af 2 (M 2) H2 (cG hn aI a.aj.symm hp (by unfold cC cz cA cD;rw [sz_1,h2,h3,h4,h5,(show hasB x.f.s eE=true from bj),h7,h8,h9,h10,h11,h12,eX,show ((bT.length:Int)==0)=false from beq_eq_false_iff_ne.2 J] <;> rfl))
        exact af 2 (M 0) H2 (cG hn aI a.aj.symm hp (by unfold cC cz cA cD;rw [sz_1,h2,h3,h4,h5,(show hasB x.f.s eE=true from bj),h7,h8,h9,h10,h11,h12,eX,show ((bT.length:Int)==0)=false from beq_eq_false_iff_ne.2 J] <;> rfl))
       exact af 5 (M 0) H2 (cG hn aI a.aj.symm hp (by unfold cC cz cA cD;rw [sz_1,h2,h3,h4,h5,(show hasB x.f.s eE=true from bj),h7,h8,h9,h10,h11,h12,show ((bT.length:Int)==0)=false from beq_eq_false_iff_ne.2 J] <;> rfl))
      refine Y 3 (ag 3 bA ca)<|d5 0 (x.f.s.toList==(⟨#[118,101,99,116,111,114]⟩:ByteArray).toList) (fun h12=>?_) fun h12=>?_
      ·refine ay 3 h7<|aG 3 (0:Int) (bT.length:Int)<|Y 0 (fZ av jS J J:al E 3 gq (0+(0:Int).toNat*1) H2=some (M (cc bT 0)))<|aY 0 (cc bT 0) 1 ?_ ?_ <;> intro eX yn
       ·exact af 2 (M 2) H2 (cG hn aI a.aj.symm hp (by unfold cC cz cA cD;rw [sz_1,h2,h3,h4,h5,(show hasB x.f.s eE=true from bj),h7,h8,h9,h10,h11,h12,eX] <;> rfl))
       exact af 2 (M 0) H2 (cG hn aI a.aj.symm hp (by unfold cC cz cA cD;rw [sz_1,h2,h3,h4,h5,(show hasB x.f.s eE=true from bj),h7,h8,h9,h10,h11,h12,eX] <;> rfl))
      exact af 5 (M 0) H2 (cG hn aI a.aj.symm hp (by unfold cC cz cA cD;rw [sz_1,h2,h3,h4,h5,(show hasB x.f.s eE=true from bj),h7,h8,h9,h10,h11,h12] <;> rfl))
     refine Y 5 (ag 3 bA ca)<|d5 0 (x.f.s.toList==(⟨#[116,105,109,101]⟩:ByteArray).toList) (fun h10=>?_) fun h10=>?_
     ·refine ay 3 (beq_eq_false_iff_ne.2 J:((bT.length:Int)==0)=false)<|Y 2 (ag 3 bA ca)<|d5 0 (x.f.s.toList==(⟨#[118,101,99,116,111,114]⟩:ByteArray).toList) (fun h11=>?_) fun h11=>?_
      ·refine ay 3 h7<|aG 3 (0:Int) (bT.length:Int)<|Y 0 (fZ av jS J J:al E 3 gq (0+(0:Int).toNat*1) H2=some (M (cc bT 0)))<|aY 0 (cc bT 0) 1 ?_ ?_ <;> intro h12 ql
       ·exact af 2 (M 2) H2 (cG hn aI a.aj.symm hp (by unfold cC cz cA cD;rw [sz_1,h2,h3,h4,h5,(show hasB x.f.s eE=true from bj),h7,h8,h9,h10,h11,h12,show ((bT.length:Int)==0)=false from beq_eq_false_iff_ne.2 J] <;> rfl))
       exact af 2 (M 0) H2 (cG hn aI a.aj.symm hp (by unfold cC cz cA cD;rw [sz_1,h2,h3,h4,h5,(show hasB x.f.s eE=true from bj),h7,h8,h9,h10,h11,h12,show ((bT.length:Int)==0)=false from beq_eq_false_iff_ne.2 J] <;> rfl))
      exact af 5 (M 0) H2 (cG hn aI a.aj.symm hp (by unfold cC cz cA cD;rw [sz_1,h2,h3,h4,h5,(show hasB x.f.s eE=true from bj),h7,h8,h9,h10,h11,show ((bT.length:Int)==0)=false from beq_eq_false_iff_ne.2 J] <;> rfl))
     refine Y 3 (ag 3 bA ca)<|d5 0 (x.f.s.toList==(⟨#[118,101,99,116,111,114]⟩:ByteArray).toList) (fun h11=>?_) fun h11=>?_
     ·refine ay 3 h7<|aG 3 (0:Int) (bT.length:Int)<|Y 0 (fZ av jS J J:al E 3 gq (0+(0:Int).toNat*1) H2=some (M (cc bT 0)))<|aY 0 (cc bT 0) 1 ?_ ?_ <;> intro h12 ql
      ·exact af 2 (M 2) H2 (cG hn aI a.aj.symm hp (by unfold cC cz cA cD;rw [sz_1,h2,h3,h4,h5,(show hasB x.f.s eE=true from bj),h7,h8,h9,h10,h11,h12] <;> rfl))
      exact af 2 (M 0) H2 (cG hn aI a.aj.symm hp (by unfold cC cz cA cD;rw [sz_1,h2,h3,h4,h5,(show hasB x.f.s eE=true from bj),h7,h8,h9,h10,h11,h12] <;> rfl))
     exact af 5 (M 0) H2 (cG hn aI a.aj.symm hp (by unfold cC cz cA cD;rw [sz_1,h2,h3,h4,h5,(show hasB x.f.s eE=true from bj),h7,h8,h9,h10,h11] <;> rfl))
    have ca:=(y1.news (g6 kI)).kept aF aq (y1.old aS (g6 kI))
    refine Y 4 (ag 3 bA ca)<|d5 0 (x.f.s.toList==(⟨#[97,98,115]⟩:ByteArray).toList) (fun h8=>?_) fun h8=>?_
    ·refine ay 3 h7<|Y 4 (ag 3 bA ca)<|d5 0 (x.f.s.toList==(⟨#[116,105,109,101]⟩:ByteArray).toList) (fun h9=>?_) fun h9=>?_
     ·refine aY 3 (bT.length:Int) 0 ?_ ?_ <;> intro h10 oP
      ·exact af 2 (M 1) H2 (cG hn aI a.aj.symm hp (by unfold cC cz cA cD;rw [sz_1,h2,h3,h4,h5,(show hasB x.f.s eE=true from bj),h7,h8,h9,h10] <;> rfl))
      refine Y 2 (ag 3 bA ca)<|d5 0 (x.f.s.toList==(⟨#[118,101,99,116,111,114]⟩:ByteArray).toList) (fun h11=>?_) fun h11=>?_
      ·exact ay 3 h7<|af 4 (M 0) H2 (cG hn aI a.aj.symm hp (by unfold cC cz cA cD;rw [sz_1,h2,h3,h4,h5,(show hasB x.f.s eE=true from bj),h7,h8,h9,h10,h11] <;> rfl))
      exact af 5 (M 0) H2 (cG hn aI a.aj.symm hp (by unfold cC cz cA cD;rw [sz_1,h2,h3,h4,h5,(show hasB x.f.s eE=true from bj),h7,h8,h9,h10,h11] <;> rfl))
     refine Y 3 (ag 3 bA ca)<|d5 0 (x.f.s.toList==(⟨#[118,101,99,116,111,114]⟩:ByteArray).toList) (fun h10=>?_) fun h10=>?_
     ·exact ay 3 h7<|af 4 (M 0) H2 (cG hn aI a.aj.symm hp (by unfold cC cz cA cD;rw [sz_1,h2,h3,h4,h5,(show hasB x.f.s eE=true from bj),h7,h8,h9,h10] <;> rfl))
     exact af 5 (M 0) H2 (cG hn aI a.aj.symm hp (by unfold cC cz cA cD;rw [sz_1,h2,h3,h4,h5,(show hasB x.f.s eE=true from bj),h7,h8,h9,h10] <;> rfl))
    refine Y 5 (ag 3 bA ca)<|d5 0 (x.f.s.toList==(⟨#[116,105,109,101]⟩:ByteArray).toList) (fun h9=>?_) fun h9=>?_
    ·refine aY 3 (bT.length:Int) 0 ?_ ?_ <;> intro h10 oP
     ·exact af 2 (M 1) H2 (cG hn aI a.aj.symm hp (by unfold cC cz cA cD;rw [sz_1,h2,h3,h4,h5,(show hasB x.f.s eE=true from bj),h7,h8,h9,h10] <;> rfl))
     refine Y 2 (ag 3 bA ca)<|d5 0 (x.f.s.toList==(⟨#[118,101,99,116,111,114]⟩:ByteArray).toList) (fun h11=>?_) fun h11=>?_
     ·exact ay 3 h7<|af 4 (M 0) H2 (cG hn aI a.aj.symm hp (by unfold cC cz cA cD;rw [sz_1,h2,h3,h4,h5,(show hasB x.f.s eE=true from bj),h7,h8,h9,h10,h11] <;> rfl))
     exact af 5 (M 0) H2 (cG hn aI a.aj.symm hp (by unfold cC cz cA cD;rw [sz_1,h2,h3,h4,h5,(show hasB x.f.s eE=true from bj),h7,h8,h9,h10,h11] <;> rfl))
    refine Y 3 (ag 3 bA ca)<|d5 0 (x.f.s.toList==(⟨#[118,101,99,116,111,114]⟩:ByteArray).toList) (fun h10=>?_) fun h10=>?_
    ·exact ay 3 h7<|af 4 (M 0) H2 (cG hn aI a.aj.symm hp (by unfold cC cz cA cD;rw [sz_1,h2,h3,h4,h5,(show hasB x.f.s eE=true from bj),h7,h8,h9,h10] <;> rfl))
    exact af 5 (M 0) H2 (cG hn aI a.aj.symm hp (by unfold cC cz cA cD;rw [sz_1,h2,h3,h4,h5,(show hasB x.f.s eE=true from bj),h7,h8,h9,h10] <;> rfl))
   have ca:=(y1.news (g6 kI)).kept aF aq (y1.old aS (g6 kI))
   refine ac 1 c2<|Y 5 (ag 3 bA ca)<|d5 0 (x.f.s.toList==(⟨#[97,98,115]⟩:ByteArray).toList) (fun h7=>?_) fun h7=>?_
   ·refine aY 3 (bT.length:Int) 1 ?_ ?_ <;> intro h8 lT
    ·have jS:=(y1.news (g6 kI)).kept aF aq (y1.old im (g6 kI))
     refine aG 3 (0:Int) (bT.length:Int)<|Y 0 (fZ av jS J J:al E 3 gq (0+(0:Int).toNat*1) H2=some (M (cc bT 0)))<|aY 0 (cc bT 0) 2 ?_ ?_ <;> intro h9 oQ
     ·exact af 2 (M 2) H2 (cG hn aI a.aj.symm hp (by unfold cC cz cA cD;rw [sz_1,h2,h3,h4,h5,(show hasB x.f.s eE=false from bj),h7,h8,h9] <;> rfl))
     refine Y 2 (ag 3 bA ca)<|d5 0 (x.f.s.toList==(⟨#[116,105,109,101]⟩:ByteArray).toList) (fun h10=>?_) fun h10=>?_
     ·refine ay 3 (beq_eq_false_iff_ne.2 J:((bT.length:Int)==0)=false)<|Y 2 (ag 3 bA ca)<|d5 0 (x.f.s.toList==(⟨#[118,101,99,116,111,114]⟩:ByteArray).toList) (fun h11=>?_) fun h11=>?_
      ·refine ay 3 h8<|aG 3 (0:Int) (bT.length:Int)<|Y 0 (fZ av jS J J:al E 3 gq (0+(0:Int).toNat*1) H2=some (M (cc bT 0)))<|aY 0 (cc bT 0) 1 ?_ ?_ <;> intro h12 ql
       ·exact af 2 (M 2) H2 (cG hn aI a.aj.symm hp (by unfold cC cz cA cD;rw [sz_1,h2,h3,h4,h5,(show hasB x.f.s eE=false from bj),h7,h8,h9,h10,h11,h12,show ((bT.length:Int)==0)=false from beq_eq_false_iff_ne.2 J] <;> rfl))
       exact af 2 (M 0) H2 (cG hn aI a.aj.symm hp (by unfold cC cz cA cD;rw [sz_1,h2,h3,h4,h5,(show hasB x.f.s eE=false from bj),h7,h8,h9,h10,h11,h12,show ((bT.length:Int)==0)=false from beq_eq_false_iff_ne.2 J] <;> rfl))
      exact af 5 (M 0) H2 (cG hn aI a.aj.symm hp (by unfold cC cz cA cD;rw [sz_1,h2,h3,h4,h5,(show hasB x.f.s eE=false from bj),h7,h8,h9,h10,h11,show ((bT.length:Int)==0)=false from beq_eq_false_iff_ne.2 J] <;> rfl))
     refine Y 3 (ag 3 bA ca)<|d5 0 (x.f.s.toList==(⟨#[118,101,99,116,111,114]⟩:ByteArray).toList) (fun h11=>?_) fun h11=>?_
     ·refine ay 3 h8<|aG 3 (0:Int) (bT.length:Int)<|Y 0 (fZ av jS J J:al E 3 gq (0+(0:Int).toNat*1) H2=some (M (cc bT 0)))<|aY 0 (cc bT 0) 1 ?_ ?_ <;> intro h12 ql
      ·exact af 2 (M 2) H2 (cG hn aI a.aj.symm hp (by unfold cC cz cA cD;rw [sz_1,h2,h3,h4,h5,(show hasB x.f.s eE=false from bj),h7,h8,h9,h10,h11,h12] <;> rfl))
      exact af 2 (M 0) H2 (cG hn aI a.aj.symm hp (by unfold cC cz cA cD;rw [sz_1,h2,h3,h4,h5,(show hasB x.f.s eE=false from bj),h7,h8,h9,h10,h11,h12] <;> rfl))
     exact af 5 (M 0) H2 (cG hn aI a.aj.symm hp (by unfold cC cz cA cD;rw [sz_1,h2,h3,h4,h5,(show hasB x.f.s eE=false from bj),h7,h8,h9,h10,h11] <;> rfl))
    refine Y 4 (ag 3 bA ca)<|d5 0 (x.f.s.toList==(⟨#[116,105,109,101]⟩:ByteArray).toList) (fun h9=>?_) fun h9=>?_
    ·refine aY 3 (bT.length:Int) 0 ?_ ?_ <;> intro h10 oP
     ·exact af 2 (M 1) H2 (cG hn aI a.aj.symm hp (by unfold cC cz cA cD;rw [sz_1,h2,h3,h4,h5,(show hasB x.f.s eE=false from bj),h7,h8,h9,h10] <;> rfl))
     refine Y 2 (ag 3 bA ca)<|d5 0 (x.f.s.toList==(⟨#[118,101,99,116,111,114]⟩:ByteArray).toList) (fun h11=>?_) fun h11=>?_
     ·exact ay 3 h8<|af 4 (M 0) H2 (cG hn aI a.aj.symm hp (by unfold cC cz cA cD;rw [sz_1,h2,h3,h4,h5,(show hasB x.f.s eE=false from bj),h7,h8,h9,h10,h11] <;> rfl))
     exact af 5 (M 0) H2 (cG hn aI a.aj.symm hp (by unfold cC cz cA cD;rw [sz_1,h2,h3,h4,h5,(show hasB x.f.s eE=false from bj),h7,h8,h9,h10,h11] <;> rfl))
    refine Y 3 (ag 3 bA ca)<|d5 0 (x.f.s.toList==(⟨#[118,101,99,116,111,114]⟩:ByteArray).toList) (fun h10=>?_) fun h10=>?_
    ·exact ay 3 h8<|af 4 (M 0) H2 (cG hn aI a.aj.symm hp (by unfold cC cz cA cD;rw [sz_1,h2,h3,h4,h5,(show hasB x.f.s eE=false from bj),h7,h8,h9,h10] <;> rfl))
    exact af 5 (M 0) H2 (cG hn aI a.aj.symm hp (by unfold cC cz cA cD;rw [sz_1,h2,h3,h4,h5,(show hasB x.f.s eE=false from bj),h7,h8,h9,h10] <;> rfl))
   refine Y 5 (ag 3 bA ca)<|d5 0 (x.f.s.toList==(⟨#[116,105,109,101]⟩:ByteArray).toList) (fun h8=>?_) fun h8=>?_
   ·refine aY 3 (bT.length:Int) 0 ?_ ?_ <;> intro h9 oQ
    ·exact af 2 (M 1) H2 (cG hn aI a.aj.symm hp (by unfold cC cz cA cD;rw [sz_1,h2,h3,h4,h5,(show hasB x.f.s eE=false from bj),h7,h8,h9] <;> rfl))
    refine Y 2 (ag 3 bA ca)<|d5 0 (x.f.s.toList==(⟨#[118,101,99,116,111,114]⟩:ByteArray).toList) (fun h10=>?_) fun h10=>?_
    ·refine aY 3 (bT.length:Int) 1 ?_ ?_ <;> intro h11 ym
     ·have jS:=(y1.news (g6 kI)).kept aF aq (y1.old im (g6 kI))
      refine aG 3 (0:Int) (bT.length:Int)<|Y 0 (fZ av jS J J:al E 3 gq (0+(0:Int).toNat*1) H2=some (M (cc bT 0)))<|aY 0 (cc bT 0) 1 ?_ ?_ <;> intro h12 ql
      ·exact af 2 (M 2) H2 (cG hn aI a.aj.symm hp (by unfold cC cz cA cD;rw [sz_1,h2,h3,h4,h5,(show hasB x.f.s eE=false from bj),h7,h8,h9,h10,h11,h12] <;> rfl))
      exact af 2 (M 0) H2 (cG hn aI a.aj.symm hp (by unfold cC cz cA cD;rw [sz_1,h2,h3,h4,h5,(show hasB x.f.s eE=false from bj),h7,h8,h9,h10,h11,h12] <;> rfl))
     exact af 4 (M 0) H2 (cG hn aI a.aj.symm hp (by unfold cC cz cA cD;rw [sz_1,h2,h3,h4,h5,(show hasB x.f.s eE=false from bj),h7,h8,h9,h10,h11] <;> rfl))
    exact af 5 (M 0) H2 (cG hn aI a.aj.symm hp (by unfold cC cz cA cD;rw [sz_1,h2,h3,h4,h5,(show hasB x.f.s eE=false from bj),h7,h8,h9,h10] <;> rfl))
   refine Y 3 (ag 3 bA ca)<|d5 0 (x.f.s.toList==(⟨#[118,101,99,116,111,114]⟩:ByteArray).toList) (fun h9=>?_) fun h9=>?_
   ·refine aY 3 (bT.length:Int) 1 ?_ ?_ <;> intro h10 oP
    ·have jS:=(y1.news (g6 kI)).kept aF aq (y1.old im (g6 kI))
     refine aG 3 (0:Int) (bT.length:Int)<|Y 0 (fZ av jS J J:al E 3 gq (0+(0:Int).toNat*1) H2=some (M (cc bT 0)))<|aY 0 (cc bT 0) 1 ?_ ?_ <;> intro h11 ym
     ·exact af 2 (M 2) H2 (cG hn aI a.aj.symm hp (by unfold cC cz cA cD;rw [sz_1,h2,h3,h4,h5,(show hasB x.f.s eE=false from bj),h7,h8,h9,h10,h11] <;> rfl))
     exact af 2 (M 0) H2 (cG hn aI a.aj.symm hp (by unfold cC cz cA cD;rw [sz_1,h2,h3,h4,h5,(show hasB x.f.s eE=false from bj),h7,h8,h9,h10,h11] <;> rfl))
    exact af 4 (M 0) H2 (cG hn aI a.aj.symm hp (by unfold cC cz cA cD;rw [sz_1,h2,h3,h4,h5,(show hasB x.f.s eE=false from bj),h7,h8,h9,h10] <;> rfl))
   exact af 5 (M 0) H2 (cG hn aI a.aj.symm hp (by unfold cC cz cA cD;rw [sz_1,h2,h3,h4,h5,(show hasB x.f.s eE=false from bj),h7,h8,h9] <;> rfl))
  refine aY 1 x.f.k 5 ?_ ?_ <;> intro h6 di
  ·obtain ⟨_,H2,c2,aF,ar,cX⟩:=eL (pF (y1.news (g6 sX)) (F8 (H1.n+0) [⟨#[116,111,112,107]⟩,⟨#[98,111,116,116,111,109,107]⟩] 5 x.f.s (gK hx (y1.news (g6 sX))) (aR (g6 sX) H1 0 _ rfl) (by decide)))
   refine Y 2 (ag 3 bA aS)<|?_
   rcases cX with ⟨rfl,bj⟩ |⟨rfl,bj⟩
   ·refine ac 1 c2<|aY 2 (bT.length:Int) 2 ?_ ?_ <;> intro h8 lT
    ·have jS:=(y1.news (g6 sX)).kept aF aq (y1.old im (g6 sX))
     refine aG 2 (0:Int) (bT.length:Int)<|Y 0 (fZ av jS J J:al E 3 gq (0+(0:Int).toNat*1) H2=some (M (cc bT 0)))<|aY 0 (cc bT 0) 1 ?_ ?_ <;> intro h9 oQ
     ·refine aG 3 (1:Int) (bT.length:Int)<|Y 0 (fZ av jS J J:al E 3 gq (0+(1:Int).toNat*1) H2=some (M (cc bT 1)))<|aY 0 (cc bT 1) 2 ?_ ?_ <;> intro h10 oP
      ·exact af 2 (M 2) H2 (cG hn aI a.aj.symm hp (by unfold cC cz cA cD;rw [sz_1,h2,h3,h4,h5,h6,(show hasB x.f.s no=true from bj),h8,h9,h10] <;> rfl))
      exact af 2 (M 0) H2 (cG hn aI a.aj.symm hp (by unfold cC cz cA cD;rw [sz_1,h2,h3,h4,h5,h6,(show hasB x.f.s no=true from bj),h8,h9,h10] <;> rfl))
     exact af 4 (M 0) H2 (cG hn aI a.aj.symm hp (by unfold cC cz cA cD;rw [sz_1,h2,h3,h4,h5,h6,(show hasB x.f.s no=true from bj),h8,h9] <;> rfl))
    exact af 5 (M 0) H2 (cG hn aI a.aj.symm hp (by unfold cC cz cA cD;rw [sz_1,h2,h3,h4,h5,h6,(show hasB x.f.s no=true from bj),h8] <;> rfl))
   refine ac 1 c2<|aY 2 (bT.length:Int) 1 ?_ ?_ <;> intro h8 lT
   ·have jS:=(y1.news (g6 sX)).kept aF aq (y1.old im (g6 sX))
    refine aG 2 (0:Int) (bT.length:Int)<|Y 0 (fZ av jS J J:al E 3 gq (0+(0:Int).toNat*1) H2=some (M (cc bT 0)))<|aY 0 (cc bT 0) 2 ?_ ?_ <;> intro h9 oQ
    ·exact af 2 (M 2) H2 (cG hn aI a.aj.symm hp (by unfold cC cz cA cD;rw [sz_1,h2,h3,h4,h5,h6,(show hasB x.f.s no=false from bj),h8,h9] <;> rfl))
    exact af 2 (M 0) H2 (cG hn aI a.aj.symm hp (by unfold cC cz cA cD;rw [sz_1,h2,h3,h4,h5,h6,(show hasB x.f.s no=false from bj),h8,h9] <;> rfl))
   exact af 3 (M 0) H2 (cG hn aI a.aj.symm hp (by unfold cC cz cA cD;rw [sz_1,h2,h3,h4,h5,h6,(show hasB x.f.s no=false from bj),h8] <;> rfl))
  refine aY 1 x.f.k 6 ?_ ?_ <;> intro h7 gM
  ·refine aG 2 (0:Int) (bT.length:Int)<|Y 0 (fZ av im J J:al E 3 gq (0+(0:Int).toNat*1) H1=some (M (cc bT 0)))<|aY 0 (cc bT 0) 1 ?_ ?_ <;> intro h8 lT
   ·refine aG 2 (1:Int) (bT.length:Int)<|Y 0 (fZ av im J J:al E 3 gq (0+(1:Int).toNat*1) H1=some (M (cc bT 1)))<|aY 0 (cc bT 1) 1 ?_ ?_ <;> intro h9 oQ
    ·refine aG 3 (0:Int) (bT.length:Int)<|Y 0 (fZ av im J J:al E 3 gq (0+(0:Int).toNat*1) H1=some (M (cc bT 0)))<|aD 0 ((cc bT 0)>2) ?_ ?_ <;> intro h10 oP
     ·exact af 9 (M 0) H1 (cG hn aI a.aj.symm hp (by unfold cC cz cA cD;rw [sz_1,h2,h3,h4,h5,h6,h7,h8,h9,h10] <;> rfl))
     refine aG 2 (1:Int) (bT.length:Int)<|Y 0 (fZ av im J J:al E 3 gq (0+(1:Int).toNat*1) H1=some (M (cc bT 1)))<|aD 0 ((cc bT 1)>2) ?_ ?_ <;> intro h11 ym
     ·exact af 8 (M 0) H1 (cG hn aI a.aj.symm hp (by unfold cC cz cA cD;rw [sz_1,h2,h3,h4,h5,h6,h7,h8,h9,h10,h11] <;> rfl))
     refine aE [am 2]<|?_
     rcases df x.f.d8 with h12 |h12
     ·refine az [bw aw H1] ((ag 11 fK aS).trans (congrArg (fun q=>some (Value.bool q)) h12))<|Y 2 (ag 1 av aS)<|aD 0 (x.f.op>6) ?_ ?_ <;> intro eX yn
      ·exact af 7 (M 0) H1 (cG hn aI a.aj.symm hp (by unfold cC cz cA cD;rw [sz_1,h2,h3,h4,h5,h6,h7,h8,h9,h10,h11,h12,eX] <;> rfl))
      refine Y 6 (ag 1 av aS)<|aD 0 (x.f.op≤6) ?_ ?_ <;> intro fc C2
      ·refine aE [am 2]<|az [bw aw H1] ((ag 11 fK aS).trans (congrArg (fun q=>some (Value.bool q)) h12))<|Y 5 (ag 9 av aS)<|d7 0 x.f.how 0 ?_ ?_ <;> intro ij u6
       ·refine aG 2 (0:Int) (bT.length:Int)<|Y 0 (fZ av im J J:al E 3 gq (0+(0:Int).toNat*1) H1=some (M (cc bT 0)))<|d7 0 (cc bT 0) 2 ?_ ?_ <;> intro qa Kp
        ·exact af 5 (M 0) H1 (cG hn aI a.aj.symm hp (by unfold cC cz cA cD;rw [sz_1,h2,h3,h4,h5,h6,h7,h8,h9,h10,h11,h12,eX,fc,ij,qa] <;> rfl))
        refine aG 2 (1:Int) (bT.length:Int)<|Y 0 (fZ av im J J:al E 3 gq (0+(1:Int).toNat*1) H1=some (M (cc bT 1)))<|d7 0 (cc bT 1) 2 ?_ ?_ <;> intro BG ac4
        ·exact af 4 (M 0) H1 (cG hn aI a.aj.symm hp (by unfold cC cz cA cD;rw [sz_1,h2,h3,h4,h5,h6,h7,h8,h9,h10,h11,h12,eX,fc,ij,qa,BG] <;> rfl))
        exact af 5 (M 1) H1 (cG hn aI a.aj.symm hp (by unfold cC cz cA cD;rw [sz_1,h2,h3,h4,h5,h6,h7,h8,h9,h10,h11,h12,eX,fc,ij,qa,BG] <;> rfl))
       exact af 5 (M 1) H1 (cG hn aI a.aj.symm hp (by unfold cC cz cA cD;rw [sz_1,h2,h3,h4,h5,h6,h7,h8,h9,h10,h11,h12,eX,fc,ij] <;> rfl))
      refine Y 6 (ag 9 av aS)<|d7 0 x.f.how 0 ?_ ?_ <;> intro ij u6
      ·refine aG 2 (0:Int) (bT.length:Int)<|Y 0 (fZ av im J J:al E 3 gq (0+(0:Int).toNat*1) H1=some (M (cc bT 0)))<|d7 0 (cc bT 0) 2 ?_ ?_ <;> intro qa Kp
       ·exact af 5 (M 0) H1 (cG hn aI a.aj.symm hp (by unfold cC cz cA cD;rw [sz_1,h2,h3,h4,h5,h6,h7,h8,h9,h10,h11,h12,eX,fc,ij,qa] <;> rfl))
       refine aG 2 (1:Int) (bT.length:Int)<|Y 0 (fZ av im J J:al E 3 gq (0+(1:Int).toNat*1) H1=some (M (cc bT 1)))<|d7 0 (cc bT 1) 2 ?_ ?_ <;> intro BG ac4
       ·exact af 4 (M 0) H1 (cG hn aI a.aj.symm hp (by unfold cC cz cA cD;rw [sz_1,h2,h3,h4,h5,h6,h7,h8,h9,h10,h11,h12,eX,fc,ij,qa,BG] <;> rfl))
       exact af 5 (M 1) H1 (cG hn aI a.aj.symm hp (by unfold cC cz cA cD;rw [sz_1,h2,h3,h4,h5,h6,h7,h8,h9,h10,h11,h12,eX,fc,ij,qa,BG] <;> rfl))
      exact af 5 (M 1) H1 (cG hn aI a.aj.symm hp (by unfold cC cz cA cD;rw [sz_1,h2,h3,h4,h5,h6,h7,h8,h9,h10,h11,h12,eX,fc,ij] <;> rfl))
     refine az [bw U H1] ((ag 11 fK aS).trans (congrArg (fun q=>some (Value.bool q)) h12))<|Y 7 (ag 1 av aS)<|aD 0 (x.f.op≤6) ?_ ?_ <;> intro eX yn
     ·exact aE [am 2]<|az [bw U H1] ((ag 11 fK aS).trans (congrArg (fun q=>some (Value.bool q)) h12))<|af 6 (M 0) H1 (cG hn aI a.aj.symm hp (by unfold cC cz cA cD;rw [sz_1,h2,h3,h4,h5,h6,h7,h8,h9,h10,h11,h12,eX] <;> rfl))
     refine Y 6 (ag 9 av aS)<|d7 0 x.f.how 0 ?_ ?_ <;> intro fc C2
     ·refine aG 2 (0:Int) (bT.length:Int)<|Y 0 (fZ av im J J:al E 3 gq (0+(0:Int).toNat*1) H1=some (M (cc bT 0)))<|d7 0 (cc bT 0) 2 ?_ ?_ <;> intro ij u6
      ·exact af 5 (M 0) H1 (cG hn aI a.aj.symm hp (by unfold cC cz cA cD;rw [sz_1,h2,h3,h4,h5,h6,h7,h8,h9,h10,h11,h12,eX,fc,ij] <;> rfl))
      refine aG 2 (1:Int) (bT.length:Int)<|Y 0 (fZ av im J J:al E 3 gq (0+(1:Int).toNat*1) H1=some (M (cc bT 1)))<|d7 0 (cc bT 1) 2 ?_ ?_ <;> intro qa Kp
      ·exact af 4 (M 0) H1 (cG hn aI a.aj.symm hp (by unfold cC cz cA cD;rw [sz_1,h2,h3,h4,h5,h6,h7,h8,h9,h10,h11,h12,eX,fc,ij,qa] <;> rfl))
      exact af 5 (M 1) H1 (cG hn aI a.aj.symm hp (by unfold cC cz cA cD;rw [sz_1,h2,h3,h4,h5,h6,h7,h8,h9,h10,h11,h12,eX,fc,ij,qa] <;> rfl))
     exact af 5 (M 1) H1 (cG hn aI a.aj.symm hp (by unfold cC cz cA cD;rw [sz_1,h2,h3,h4,h5,h6,h7,h8,h9,h10,h11,h12,eX,fc] <;> rfl))
    refine aG 3 (0:Int) (bT.length:Int)<|Y 0 (fZ av im J J:al E 3 gq (0+(0:Int).toNat*1) H1=some (M (cc bT 0)))<|aD 0 ((cc bT 0)>2) ?_ ?_ <;> intro h10 oP
    ·exact af 9 (M 0) H1 (cG hn aI a.aj.symm hp (by unfold cC cz cA cD;rw [sz_1,h2,h3,h4,h5,h6,h7,h8,h9,h10] <;> rfl))
    refine aG 2 (1:Int) (bT.length:Int)<|Y 0 (fZ av im J J:al E 3 gq (0+(1:Int).toNat*1) H1=some (M (cc bT 1)))<|aD 0 ((cc bT 1)>2) ?_ ?_ <;> intro h11 ym
    ·exact af 8 (M 0) H1 (cG hn aI a.aj.symm hp (by unfold cC cz cA cD;rw [sz_1,h2,h3,h4,h5,h6,h7,h8,h9,h10,h11] <;> rfl))
    refine aE [am 2]<|?_
    rcases df x.f.d8 with h12 |h12
    ·refine az [bw aw H1] ((ag 11 fK aS).trans (congrArg (fun q=>some (Value.bool q)) h12))<|Y 2 (ag 1 av aS)<|aD 0 (x.f.op>6) ?_ ?_ <;> intro eX yn
     ·exact af 7 (M 0) H1 (cG hn aI a.aj.symm hp (by unfold cC cz cA cD;rw [sz_1,h2,h3,h4,h5,h6,h7,h8,h9,h10,h11,h12,eX] <;> rfl))
     refine Y 11 (ag 9 av aS)<|d7 0 x.f.how 0 ?_ ?_ <;> intro fc C2
     ·refine aG 2 (0:Int) (bT.length:Int)<|Y 0 (fZ av im J J:al E 3 gq (0+(0:Int).toNat*1) H1=some (M (cc bT 0)))<|d7 0 (cc bT 0) 2 ?_ ?_ <;> intro ij u6
      ·exact af 5 (M 0) H1 (cG hn aI a.aj.symm hp (by unfold cC cz cA cD;rw [sz_1,h2,h3,h4,h5,h6,h7,h8,h9,h10,h11,h12,eX,fc,ij] <;> rfl))
      refine aG 2 (1:Int) (bT.length:Int)<|Y 0 (fZ av im J J:al E 3 gq (0+(1:Int).toNat*1) H1=some (M (cc bT 1)))<|d7 0 (cc bT 1) 2 ?_ ?_ <;> intro qa Kp
      ·exact af 4 (M 0) H1 (cG hn aI a.aj.symm hp (by unfold cC cz cA cD;rw [sz_1,h2,h3,h4,h5,h6,h7,h8,h9,h10,h11,h12,eX,fc,ij,qa] <;> rfl))
      exact af 5 (M 2) H1 (cG hn aI a.aj.symm hp (by unfold cC cz cA cD;rw [sz_1,h2,h3,h4,h5,h6,h7,h8,h9,h10,h11,h12,eX,fc,ij,qa] <;> rfl))
     exact af 5 (M 2) H1 (cG hn aI a.aj.symm hp (by unfold cC cz cA cD;rw [sz_1,h2,h3,h4,h5,h6,h7,h8,h9,h10,h11,h12,eX,fc] <;> rfl))
    refine az [bw U H1] ((ag 11 fK aS).trans (congrArg (fun q=>some (Value.bool q)) h12))<|Y 12 (ag 9 av aS)<|d7 0 x.f.how 0 ?_ ?_ <;> intro eX yn
    ·refine aG 2 (0:Int) (bT.length:Int)<|Y 0 (fZ av im J J:al E 3 gq (0+(0:Int).toNat*1) H1=some (M (cc bT 0)))<|d7 0 (cc bT 0) 2 ?_ ?_ <;> intro fc C2
     ·exact af 5 (M 0) H1 (cG hn aI a.aj.symm hp (by unfold cC cz cA cD;rw [sz_1,h2,h3,h4,h5,h6,h7,h8,h9,h10,h11,h12,eX,fc] <;> rfl))
     refine aG 2 (1:Int) (bT.length:Int)<|Y 0 (fZ av im J J:al E 3 gq (0+(1:Int).toNat*1) H1=some (M (cc bT 1)))<|d7 0 (cc bT 1) 2 ?_ ?_ <;> intro ij u6
     ·exact af 4 (M 0) H1 (cG hn aI a.aj.symm hp (by unfold cC cz cA cD;rw [sz_1,h2,h3,h4,h5,h6,h7,h8,h9,h10,h11,h12,eX,fc,ij] <;> rfl))
     exact af 5 (M 2) H1 (cG hn aI a.aj.symm hp (by unfold cC cz cA cD;rw [sz_1,h2,h3,h4,h5,h6,h7,h8,h9,h10,h11,h12,eX,fc,ij] <;> rfl))
    exact af 5 (M 2) H1 (cG hn aI a.aj.symm hp (by unfold cC cz cA cD;rw [sz_1,h2,h3,h4,h5,h6,h7,h8,h9,h10,h11,h12,eX] <;> rfl))
   refine aG 4 (0:Int) (bT.length:Int)<|Y 0 (fZ av im J J:al E 3 gq (0+(0:Int).toNat*1) H1=some (M (cc bT 0)))<|aD 0 ((cc bT 0)>2) ?_ ?_ <;> intro h9 oQ
   ·exact af 9 (M 0) H1 (cG hn aI a.aj.symm hp (by unfold cC cz cA cD;rw [sz_1,h2,h3,h4,h5,h6,h7,h8,h9] <;> rfl))
   refine aG 2 (1:Int) (bT.length:Int)<|Y 0 (fZ av im J J:al E 3 gq (0+(1:Int).toNat*1) H1=some (M (cc bT 1)))<|aD 0 ((cc bT 1)>2) ?_ ?_ <;> intro h10 oP
   ·exact af 8 (M 0) H1 (cG hn aI a.aj.symm hp (by unfold cC cz cA cD;rw [sz_1,h2,h3,h4,h5,h6,h7,h8,h9,h10] <;> rfl))
   refine aE [am 2]<|?_
   rcases df x.f.d8 with h11 |h11
   ·refine az [bw aw H1] ((ag 11 fK aS).trans (congrArg (fun q=>some (Value.bool q)) h11))<|Y 2 (ag 1 av aS)<|aD 0 (x.f.op>6) ?_ ?_ <;> intro h12 ql
    ·exact af 7 (M 0) H1 (cG hn aI a.aj.symm hp (by unfold cC cz cA cD;rw [sz_1,h2,h3,h4,h5,h6,h7,h8,h9,h10,h11,h12] <;> rfl))
    refine Y 11 (ag 9 av aS)<|d7 0 x.f.how 0 ?_ ?_ <;> intro eX yn
    ·refine aG 2 (0:Int) (bT.length:Int)<|Y 0 (fZ av im J J:al E 3 gq (0+(0:Int).toNat*1) H1=some (M (cc bT 0)))<|d7 0 (cc bT 0) 2 ?_ ?_ <;> intro fc C2
     ·exact af 5 (M 0) H1 (cG hn aI a.aj.symm hp (by unfold cC cz cA cD;rw [sz_1,h2,h3,h4,h5,h6,h7,h8,h9,h10,h11,h12,eX,fc] <;> rfl))
     refine aG 2 (1:Int) (bT.length:Int)<|Y 0 (fZ av im J J:al E 3 gq (0+(1:Int).toNat*1) H1=some (M (cc bT 1)))<|d7 0 (cc bT 1) 2 ?_ ?_ <;> intro ij u6
     ·exact af 4 (M 0) H1 (cG hn aI a.aj.symm hp (by unfold cC cz cA cD;rw [sz_1,h2,h3,h4,h5,h6,h7,h8,h9,h10,h11,h12,eX,fc,ij] <;> rfl))
     exact af 5 (M 2) H1 (cG hn aI a.aj.symm hp (by unfold cC cz cA cD;rw [sz_1,h2,h3,h4,h5,h6,h7,h8,h9,h10,h11,h12,eX,fc,ij] <;> rfl))
    exact af 5 (M 2) H1 (cG hn aI a.aj.symm hp (by unfold cC cz cA cD;rw [sz_1,h2,h3,h4,h5,h6,h7,h8,h9,h10,h11,h12,eX] <;> rfl))
   refine az [bw U H1] ((ag 11 fK aS).trans (congrArg (fun q=>some (Value.bool q)) h11))<|Y 12 (ag 9 av aS)<|d7 0 x.f.how 0 ?_ ?_ <;> intro h12 ql
   ·refine aG 2 (0:Int) (bT.length:Int)<|Y 0 (fZ av im J J:al E 3 gq (0+(0:Int).toNat*1) H1=some (M (cc bT 0)))<|d7 0 (cc bT 0) 2 ?_ ?_ <;> intro eX yn
    ·exact af 5 (M 0) H1 (cG hn aI a.aj.symm hp (by unfold cC cz cA cD;rw [sz_1,h2,h3,h4,h5,h6,h7,h8,h9,h10,h11,h12,eX] <;> rfl))
    refine aG 2 (1:Int) (bT.length:Int)<|Y 0 (fZ av im J J:al E 3 gq (0+(1:Int).toNat*1) H1=some (M (cc bT 1)))<|d7 0 (cc bT 1) 2 ?_ ?_ <;> intro fc C2
    ·exact af 4 (M 0) H1 (cG hn aI a.aj.symm hp (by unfold cC cz cA cD;rw [sz_1,h2,h3,h4,h5,h6,h7,h8,h9,h10,h11,h12,eX,fc] <;> rfl))
    exact af 5 (M 2) H1 (cG hn aI a.aj.symm hp (by unfold cC cz cA cD;rw [sz_1,h2,h3,h4,h5,h6,h7,h8,h9,h10,h11,h12,eX,fc] <;> rfl))
   exact af 5 (M 2) H1 (cG hn aI a.aj.symm hp (by unfold cC cz cA cD;rw [sz_1,h2,h3,h4,h5,h6,h7,h8,h9,h10,h11,h12] <;> rfl))
  refine aY 1 x.f.k 7 ?_ ?_ <;> intro h8 lT
  ·refine aG 2 (0:Int) (bT.length:Int)<|Y 0 (fZ av im J J:al E 3 gq (0+(0:Int).toNat*1) H1=some (M (cc bT 0)))<|aD 0 ((cc bT 0)<3) ?_ ?_ <;> intro h9 oQ
   ·exact aG 1 (0:Int) (bT.length:Int)<|Y 0 (fZ av im J J:al E 3 gq (0+(0:Int).toNat*1) H1=some (M (cc bT 0)))<|af 1 (M (cc bT 0)) H1 (cG hn aI a.aj.symm hp (by unfold cC cz cA cD;rw [sz_1,h2,h3,h4,h5,h6,h7,h8,h9] <;> rfl))
   exact af 1 (M 0) H1 (cG hn aI a.aj.symm hp (by unfold cC cz cA cD;rw [sz_1,h2,h3,h4,h5,h6,h7,h8,h9] <;> rfl))
  exact af 2 (M 0) H1 (cG hn aI a.aj.symm hp (by unfold cC cz cA cD;rw [sz_1,h2,h3,h4,h5,h6,h7,h8] <;> rfl))
 exact bx 4 c1<|af 0 (M 0) H1 (cG hn rfl a.aj.symm hp (by rw [cC,aI];rfl))
theorem V9 (x:bh) (X:Z) (hx:aa E G X) (hs:jb X x):mC x→jH x=true→∀{H:Z},aa E X H→aV E X 16 [.agg (ai x.f).toArray] H [] (fun v _=>v=M (dM x)):=by
 induction hs with
 |@mk x a hk ih=>
  intro hf hr H y
  cases hf with
  |mk hz hf=>exact Wa x X hx a hz (fun k hk=>ih k hk (hf k hk) ((yt hr).2 k hk)) (yt hr).1 (OH fun k hq=>ZH (hk k hq)) (node6 (yt hr).1).1 (node6 (yt hr).1).2 y
noncomputable def ry (x:bh):Value:=bif oS x then (bif dM x==0 then .tuple #[M 0,M 7] else .tuple #[M (dM x),M 0]) else .tuple #[M 0,M 6]
theorem HH (x:bh) (X:Z) (hx:aa E G X) (hs:jb X x) (hf:mC x) {H:Z} (y:aa E X H):aV E X 8 [.agg (ai x.f).toArray] H [] (fun v H'=>v=ry x):=by
 refine bB Tryz.f8 y ?_
 obtain ⟨_,H1,c1,ak,y1,bE⟩:=eL (Wd x X hx hs hf (y.news [O (ai x.f) 27]))
 refine Y 3 (dt c4 ct rfl rfl rfl:al E 27 (H.n+0) 0 (news H [O (ai x.f) 27])=some (.agg (ai x.f).toArray))<|?_
 rcases bE with ⟨rfl,b7⟩ |⟨rfl,b7⟩
 ·have c8:=d9 ak
  have g1:=y1.n
  have aS:=(y.news [O (ai x.f) 27]).kept ak aq (aR [O (ai x.f) 27] H 0 _ rfl)
  have IG:jH x=true:=by rw [oS,dZ] at b7;exact b7.2
  obtain ⟨_,H2,c2,aF,ar,rfl⟩:=V9 x X hx hs hf IG y1
  refine ac 0 c1<|Y 1 (cd c4 ct aS rfl rfl:al E 27 (H.n+0) 0 H1=some (.agg (ai x.f).toArray))<|ac 0 c2<|aY 2 (dM x) 0 ?_ ?_ <;> intro h2 cv
  ·exact af 2 (.tuple #[M 0,M 7]) H2 (by rw [ry,b7,h2] <;> rfl)
  exact af 3 (.tuple #[M (dM x),M 0]) H2 (by rw [ry,b7,h2] <;> rfl)
 exact ac 0 c1<|af 3 (.tuple #[M 0,M 6]) H1 (by rw [ry,b7] <;> rfl)
end Go.Proofs.YtglmagcldkngbaaGreatDoor
