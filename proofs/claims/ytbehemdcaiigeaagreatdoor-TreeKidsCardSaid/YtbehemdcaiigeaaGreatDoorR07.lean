/- Part of the proof that TreeKids answers true. -/
import Derived.Test.YtbehemdcaiigeaaGreatDoorR06
set_option linter.unusedVariables false
set_option linter.unusedSimpArgs false
set_option maxRecDepth 100000
set_option maxHeartbeats 4000000
namespace Go.Proofs.YtbehemdcaiigeaaGreatDoor
open Go Go.Am
theorem va:nO E #[302,302] 185 1 8=true:=av
noncomputable def VL:Code:=cN [1,1,0,0,0] (cH Tryz.f204)
noncomputable abbrev qQ H2 cA:=news H2 [O [pt cA 0] 185]
theorem Of (p:Nat) (nb:Nat) (s:ByteArray) (n:Nat) (eN:Int) (R:Option (Int×Int)):∀(m:Nat) (at_:Int) (dp:Int) (nd:Int) (w:Nat) (wp:Nat) (xs:List Value) (q:Nat) (ps:List Nat) (H:U),aa E G H→(kp:H.get p=some (O (iu s at_ dp nd (gO w wp)) 255))→(fe:H.get nb=some (O (xs++[sc q 0 ps.length 2]) 305))→(aX:H.get q=some (O (oH ps) 185))→(hA:se s n)→(hs:(s.size:Int)<100000)→(bY:G.n≤p)→(gn:G.n≤nb)→(lx:p≠nb)→(b0:0≤eN)→(b1:eN≤at_)→(a1:at_≤s.size)→(hn:((s.size:Int)-eN).toNat≤n)→(hw:w=0∨w=1)→(np:iH xs)→(hR:sf w (kN s at_ dp) R)→(aY:G.n≤q)→(dq:p≠q)→(iT:nb≠q)→(fk:(ps.length:Int)≤at_+w+2)→2*((s.size:Int)-at_).toNat+(1-w)=m→
  cy E G 40 VL [(0,pt p 0),(3,pt nb 0)] H [p,nb,q] (fun x T H'=>(x=(.exit 0)∧∃(eJ sa qu:Int) (hJ sd:Nat),T=bl [(3,pt nb 0)]∧(H'.get p=some (fM s eJ sa qu (gO hJ sd))∧eN≤eJ∧eJ≤s.size∧(hJ=0∨hJ=1)∧(hJ=0→R=some (eJ,sa))∧(hJ=1→R=none)))):=by
 refine d8 fun m ih=>?_
 intro at_ dp nd w wp xs q ps H y kp fe aX hA hs bY gn lx b0 b1 a1 hn hw np hR aY dq iT fk hm
 refine c9 y ?_
 have gi:=y.wf.lt kp
 have rO:=y.wf.lt fe
 have iX:=y.wf.lt aX
 rcases hw with rfl |rfl
 ·rcases ep (decide (at_<(s.size:Int))) with h2 |h2
  ·have cw:=gb h2
   obtain ⟨_,H1,c1,af,y1,b7⟩:=tc p s at_ dp nd ⟨#[124,41]⟩ y kp D hs D D
   rcases b7 with ⟨rfl,nY⟩ |⟨rfl,pC,oA⟩
   ·have cI:H.n+0≤H1.n:=af.n
    have cK:=y.kept af ai fe
    have bV:=y.kept af ai kp
    obtain ⟨_,H2,c2,ar,ah,dC⟩:=SU p s at_ dp nd n y1 bV D hs D D hA D D
    rcases dC with ⟨cA,gv,rj,ji,rfl,eX,gy,k8,cJ⟩ |⟨cA,gv,rj,ji,qs,rfl,eX,gy,k8,cJ⟩
    ·have cl:H1.n+0≤H2.n:=ar.n
     have g2:=ah.n
     have cE:=y.kept af ai aX
     have dQ:=y1.kept ar bB cE
     obtain ⟨bk,aM⟩:∃ ao,ao=((qQ H2 cA).set q .dead).new (O (oH (ps++[cA])) 185):=⟨_,rfl⟩
     have az:aa E G bk:=th (ah.news [O [pt cA 0] 185]) aM D (by rw [bU];simp only [cj,cF];omega)
     have dD:bk.n=H2.n+2:=by rw [ti aM,bU] <;> rfl
     have sP:bk.get (H2.n+1)=some (O (oH (ps++[cA])) 185):=tj aM
     have dS:=y1.kept ar bB cK
     have d6:=lF (ah.news [O [pt cA 0] 185]) aM D (ah.old dS [O [pt cA 0] 185])
     obtain ⟨bF,aG⟩:∃ ao,ao=bk.set nb (O (xs++[sc (H2.n+1) 0 ((ps++[cA]).length) 2]) 305):=⟨_,rfl⟩
     have bz:aa E G bF:=aG▸az.set _ D D
     have fB:bF.n=bk.n+0:=by rw [aG,U.cB] <;> rfl
     have eZ:=bC aG
     have eF:=lF (ah.news [O [pt cA 0] 185]) aM D (ah.old eX [O [pt cA 0] 185])
     have ek:=bu aG D eF
     have zJ:=bu aG D sP
     exact Z 3 (ag 4 jY kp)<|Z 5 (ag 1 aJ kp)<|Z 3 (ag 0 ct kp)<|aH 1 h2<|ad 3 c1<|aK [aB 1]<|gT [] (aT:p<H1.n∨H1.n≤p) (aT:p<H1.n∨H1.n≤p) (aT:p<H1.n∨H1.n≤p) (aT:p<H1.n∨H1.n≤p) (aT:p≠nb) (aT:p<H1.n∨H1.n≤p)<|aj [] (aT:q<H1.n∨H1.n≤q)<|aK [aB 3]<|aj [dP (sc q 0 ps.length 2) H1] (wb np cK)<|ad 1 c2<|aj [] (cU y1 bV:bZ H1 H2 [p]=true)<|eL 1 (show eW E #[302,302] (sc q 0 ps.length 2) (sc (H2.n+0) 0 1 3) (qQ H2 cA)=some (sc (H2.n+1) 0 ((ps++[cA]).length) 2,bk,[q],[q,H2.n+0]) from (sk va rfl (show hG (qQ H2 cA) 1 (sc (H2.n+0) 0 1 3)=some (1,[pt cA 0],[H2.n+0]) from gt (aL [O [pt cA 0] 185] H2 0 _ rfl) (ec rfl)) rfl (ah.old dQ [O [pt cA 0] 185]) (by rw [Ch];omega) D).trans (by rw [Fs ps cA,Ft ps cA,aM] <;> rfl))<|aj [] (cU (ah.news [O [pt cA 0] 185]) (ah.old dQ [O [pt cA 0] 185]):bZ (qQ H2 cA) bk [q]=true)<|aC 2 (te (we np d6 rfl rfl) aG)<|aj [] (cU az d6:bZ bk bF [nb]=true)<|kW 0 [(0,pt p 0),(3,pt nb 0)] bF [p,q,nb] bD aQ (ih _ D gv rj ji 0 0 xs (H2.n+1) (ps++[cA]) _ bz ek eZ zJ hA hs bY gn lx b0 D D hn D np (.go ((Er D (fun h=>nY ⟨D,h⟩) gy D).symm.trans (hR.1 rfl))) D D D (by simp only [List.length_append,cj,cF];omega) rfl)
    have cl:H1.n+0≤H2.n:=ar.n
    have g2:=ah.n
    have cE:=y.kept af ai aX
    have dQ:=y1.kept ar bB cE
    obtain ⟨bk,aM⟩:∃ ao,ao=((qQ H2 cA).set q .dead).new (O (oH (ps++[cA])) 185):=⟨_,rfl⟩
    have az:aa E G bk:=th (ah.news [O [pt cA 0] 185]) aM D (by rw [bU];simp only [cj,cF];omega)
    have dD:bk.n=H2.n+2:=by rw [ti aM,bU] <;> rfl
    have sP:bk.get (H2.n+1)=some (O (oH (ps++[cA])) 185):=tj aM
    have dS:=y1.kept ar bB cK
    have d6:=lF (ah.news [O [pt cA 0] 185]) aM D (ah.old dS [O [pt cA 0] 185])
    obtain ⟨bF,aG⟩:∃ ao,ao=bk.set nb (O (xs++[sc (H2.n+1) 0 ((ps++[cA]).length) 2]) 305):=⟨_,rfl⟩
    have bz:aa E G bF:=aG▸az.set _ D D
    have fB:bF.n=bk.n+0:=by rw [aG,U.cB] <;> rfl
    have eZ:=bC aG
    have eF:=lF (ah.news [O [pt cA 0] 185]) aM D (ah.old eX [O [pt cA 0] 185])
    have ek:=bu aG D eF
    have zJ:=bu aG D sP
    exact Z 3 (ag 4 jY kp)<|Z 5 (ag 1 aJ kp)<|Z 3 (ag 0 ct kp)<|aH 1 h2<|ad 3 c1<|aK [aB 1]<|gT [] (aT:p<H1.n∨H1.n≤p) (aT:p<H1.n∨H1.n≤p) (aT:p<H1.n∨H1.n≤p) (aT:p<H1.n∨H1.n≤p) (aT:p≠nb) (aT:p<H1.n∨H1.n≤p)<|aj [] (aT:q<H1.n∨H1.n≤q)<|aK [aB 3]<|aj [dP (sc q 0 ps.length 2) H1] (wb np cK)<|ad 1 c2<|aj [] (cU y1 bV:bZ H1 H2 [p]=true)<|eL 1 (show eW E #[302,302] (sc q 0 ps.length 2) (sc (H2.n+0) 0 1 3) (qQ H2 cA)=some (sc (H2.n+1) 0 ((ps++[cA]).length) 2,bk,[q],[q,H2.n+0]) from (sk va rfl (show hG (qQ H2 cA) 1 (sc (H2.n+0) 0 1 3)=some (1,[pt cA 0],[H2.n+0]) from gt (aL [O [pt cA 0] 185] H2 0 _ rfl) (ec rfl)) rfl (ah.old dQ [O [pt cA 0] 185]) (by rw [Ch];omega) D).trans (by rw [Fs ps cA,Ft ps cA,aM] <;> rfl))<|aj [] (cU (ah.news [O [pt cA 0] 185]) (ah.old dQ [O [pt cA 0] 185]):bZ (qQ H2 cA) bk [q]=true)<|aC 2 (te (we np d6 rfl rfl) aG)<|aj [] (cU az d6:bZ bk bF [nb]=true)<|kW 0 [(0,pt p 0),(3,pt nb 0)] bF [p,q,nb] bD aQ (ih _ D gv rj ji 1 qs xs (H2.n+1) (ps++[cA]) _ bz ek eZ zJ hA hs bY gn lx b0 D D hn D np (.bad ((hR.1 rfl).symm.trans (Ep D (fun h=>nY ⟨D,h⟩) gy))) D D D (by simp only [List.length_append,cj,cF];omega) rfl)
   have bV:=y.kept af ai kp
   exact Z 3 (ag 4 jY kp)<|Z 5 (ag 1 aJ kp)<|Z 3 (ag 0 ct kp)<|aH 1 h2<|ad 3 c1<|en 2 [(3,pt nb 0)] (.exit 0) H1 [] aZ bi ⟨rfl,at_,dp,nd,0,wp,rfl,⟨bV,D,D,D,fun _=>(hR.1 rfl).symm.trans (sq (fun h=>h.2 oA)),fun h=>absurd h (by decide)⟩⟩
  have cw:=gl h2
  exact Z 3 (ag 4 jY kp)<|Z 5 (ag 1 aJ kp)<|Z 3 (ag 0 ct kp)<|aH 1 h2<|en 3 [(3,pt nb 0)] (.exit 0) H [] aZ bi ⟨rfl,at_,dp,nd,0,wp,rfl,⟨kp,D,D,D,fun _=>(hR.1 rfl).symm.trans (sq (fun h=>absurd h.1 D)),fun h=>absurd h (by decide)⟩⟩
 exact Z 3 (ag 4 jY kp)<|en 5 [(3,pt nb 0)] (.exit 0) H [] aZ bi ⟨rfl,at_,dp,nd,1,wp,rfl,⟨kp,D,D,D,fun h=>absurd h (by decide),fun _=>hR.2 rfl⟩⟩
noncomputable def VK:Code:=cN [1,1,0,0,0] (cH Tryz.f204)
noncomputable abbrev zZ H2 cA:=news H2 [O [pt cA 0] 185,O [pt cA 0] 185]
theorem VF (p:Nat) (nb:Nat) (s:ByteArray) (n:Nat) (eN:Int) (R:Option (Int×Int)):∀(m:Nat) (at_:Int) (dp:Int) (nd:Int) (w:Nat) (wp:Nat) (xs:List Value) (H:U),aa E G H→(kp:H.get p=some (O (iu s at_ dp nd (gO w wp)) 255))→(fe:H.get nb=some (O (xs++[.slice none 0 0]) 305))→(hA:se s n)→(hs:(s.size:Int)<100000)→(bY:G.n≤p)→(gn:G.n≤nb)→(lx:p≠nb)→(b0:0≤eN)→(b1:eN≤at_)→(a1:at_≤s.size)→(hn:((s.size:Int)-eN).toNat≤n)→(hw:w=0∨w=1)→(np:iH xs)→(hR:sf w (kN s at_ dp) R)→2*((s.size:Int)-at_).toNat+(1-w)=m→
  cy E G 40 VK [(0,pt p 0),(3,pt nb 0)] H [p,nb] (fun x T H'=>(x=(.exit 0)∧∃(eJ sa qu:Int) (hJ sd:Nat),T=bl [(3,pt nb 0)]∧(H'.get p=some (fM s eJ sa qu (gO hJ sd))∧eN≤eJ∧eJ≤s.size∧(hJ=0∨hJ=1)∧(hJ=0→R=some (eJ,sa))∧(hJ=1→R=none)))):=by
 refine d8 fun m ih=>?_
 intro at_ dp nd w wp xs H y kp fe hA hs bY gn lx b0 b1 a1 hn hw np hR hm
 refine c9 y ?_
 have gi:=y.wf.lt kp
 have rO:=y.wf.lt fe
 rcases hw with rfl |rfl
 ·rcases ep (decide (at_<(s.size:Int))) with h2 |h2
  ·have cw:=gb h2
   obtain ⟨_,H1,c1,af,y1,b7⟩:=tc p s at_ dp nd ⟨#[124,41]⟩ y kp D hs D D
   rcases b7 with ⟨rfl,nY⟩ |⟨rfl,pC,oA⟩
   ·have cI:H.n+0≤H1.n:=af.n
    have cK:=y.kept af ai fe
    have bV:=y.kept af ai kp
    obtain ⟨_,H2,c2,ar,ah,dC⟩:=SU p s at_ dp nd n y1 bV D hs D D hA D D
    rcases dC with ⟨cA,gv,rj,ji,rfl,eX,gy,k8,cJ⟩ |⟨cA,gv,rj,ji,qs,rfl,eX,gy,k8,cJ⟩
    ·have cl:H1.n+0≤H2.n:=ar.n
     have g2:=ah.n
     have dS:=y1.kept ar bB cK
     obtain ⟨bk,aM⟩:∃ ao,ao=(zZ H2 cA).set nb (O (xs++[sc (H2.n+1) 0 1 2]) 305):=⟨_,rfl⟩
     have az:aa E G bk:=aM▸(ah.news [O [pt cA 0] 185,O [pt cA 0] 185]).set _ D (by rw [bU];simp only [cj,cF];omega)
     have dD:bk.n=H2.n+2:=by rw [aM,U.cB,bU] <;> rfl
     have sP:=bu aM D (aL [O [pt cA 0] 185,O [pt cA 0] 185] H2 1 _ rfl)
     have d6:=bC aM
     have eF:=bu aM D (ah.old eX [O [pt cA 0] 185,O [pt cA 0] 185])
     exact Z 3 (ag 4 jY kp)<|Z 5 (ag 1 aJ kp)<|Z 3 (ag 0 ct kp)<|aH 1 h2<|ad 3 c1<|aK [aB 1]<|gT [] (aT:p<H1.n∨H1.n≤p) (aT:p<H1.n∨H1.n≤p) (aT:p<H1.n∨H1.n≤p) (aT:p<H1.n∨H1.n≤p) (aT:p≠nb) (aT:p<H1.n∨H1.n≤p)<|aK [aB 3]<|aj [dP (.slice none 0 0) H1] (wb np cK)<|ad 1 c2<|aj [] (cU y1 bV:bZ H1 H2 [p]=true)<|eL 1 (show eW E #[302,302] (.slice none 0 0) (sc (H2.n+0) 0 1 3) (qQ H2 cA)=some (sc (H2.n+1) 0 1 2,zZ H2 cA,[],[H2.n+0]) from wX va rfl (show hG (qQ H2 cA) 1 (sc (H2.n+0) 0 1 3)=some (1,[pt cA 0],[H2.n+0]) from gt (aL [O [pt cA 0] 185] H2 0 _ rfl) (ec rfl)) rfl (by decide) (by decide))<|aC 2 (te (we np (ah.old dS [O [pt cA 0] 185,O [pt cA 0] 185]) rfl rfl) aM)<|aj [] (cU (ah.news [O [pt cA 0] 185,O [pt cA 0] 185]) (ah.old dS [O [pt cA 0] 185,O [pt cA 0] 185]):bZ (zZ H2 cA) bk [nb]=true)<|kW 0 [(0,pt p 0),(3,pt nb 0)] bk [p,nb] bD aQ (Of p nb s n eN R _ gv rj ji 0 0 xs (H2.n+1) [cA] _ az eF d6 sP hA hs bY gn lx b0 D D hn D np (.go ((Er D (fun h=>nY ⟨D,h⟩) gy D).symm.trans (hR.1 rfl))) D D D (by simp only [List.length_append,cj,cF];omega) rfl)
    have cl:H1.n+0≤H2.n:=ar.n
    have g2:=ah.n
    have dS:=y1.kept ar bB cK
    obtain ⟨bk,aM⟩:∃ ao,ao=(zZ H2 cA).set nb (O (xs++[sc (H2.n+1) 0 1 2]) 305):=⟨_,rfl⟩
    have az:aa E G bk:=aM▸(ah.news [O [pt cA 0] 185,O [pt cA 0] 185]).set _ D (by rw [bU];simp only [cj,cF];omega)
    have dD:bk.n=H2.n+2:=by rw [aM,U.cB,bU] <;> rfl
    have sP:=bu aM D (aL [O [pt cA 0] 185,O [pt cA 0] 185] H2 1 _ rfl)
    have d6:=bC aM
    have eF:=bu aM D (ah.old eX [O [pt cA 0] 185,O [pt cA 0] 185])
    exact Z 3 (ag 4 jY kp)<|Z 5 (ag 1 aJ kp)<|Z 3 (ag 0 ct kp)<|aH 1 h2<|ad 3 c1<|aK [aB 1]<|gT [] (aT:p<H1.n∨H1.n≤p) (aT:p<H1.n∨H1.n≤p) (aT:p<H1.n∨H1.n≤p) (aT:p<H1.n∨H1.n≤p) (aT:p≠nb) (aT:p<H1.n∨H1.n≤p)<|aK [aB 3]<|aj [dP (.slice none 0 0) H1] (wb np cK)<|ad 1 c2<|aj [] (cU y1 bV:bZ H1 H2 [p]=true)<|eL 1 (show eW E #[302,302] (.slice none 0 0) (sc (H2.n+0) 0 1 3) (qQ H2 cA)=some (sc (H2.n+1) 0 1 2,zZ H2 cA,[],[H2.n+0]) from wX va rfl (show hG (qQ H2 cA) 1 (sc (H2.n+0) 0 1 3)=some (1,[pt cA 0],[H2.n+0]) from gt (aL [O [pt cA 0] 185] H2 0 _ rfl) (ec rfl)) rfl (by decide) (by decide))<|aC 2 (te (we np (ah.old dS [O [pt cA 0] 185,O [pt cA 0] 185]) rfl rfl) aM)<|aj [] (cU (ah.news [O [pt cA 0] 185,O [pt cA 0] 185]) (ah.old dS [O [pt cA 0] 185,O [pt cA 0] 185]):bZ (zZ H2 cA) bk [nb]=true)<|kW 0 [(0,pt p 0),(3,pt nb 0)] bk [p,nb] bD aQ (Of p nb s n eN R _ gv rj ji 1 qs xs (H2.n+1) [cA] _ az eF d6 sP hA hs bY gn lx b0 D D hn D np (.bad ((hR.1 rfl).symm.trans (Ep D (fun h=>nY ⟨D,h⟩) gy))) D D D (by simp only [List.length_append,cj,cF];omega) rfl)
   have bV:=y.kept af ai kp
   exact Z 3 (ag 4 jY kp)<|Z 5 (ag 1 aJ kp)<|Z 3 (ag 0 ct kp)<|aH 1 h2<|ad 3 c1<|en 2 [(3,pt nb 0)] (.exit 0) H1 [] aZ bi ⟨rfl,at_,dp,nd,0,wp,rfl,⟨bV,D,D,D,fun _=>(hR.1 rfl).symm.trans (sq (fun h=>h.2 oA)),fun h=>absurd h (by decide)⟩⟩
  have cw:=gl h2
  exact Z 3 (ag 4 jY kp)<|Z 5 (ag 1 aJ kp)<|Z 3 (ag 0 ct kp)<|aH 1 h2<|en 3 [(3,pt nb 0)] (.exit 0) H [] aZ bi ⟨rfl,at_,dp,nd,0,wp,rfl,⟨kp,D,D,D,fun _=>(hR.1 rfl).symm.trans (sq (fun h=>absurd h.1 D)),fun h=>absurd h (by decide)⟩⟩
 exact Z 3 (ag 4 jY kp)<|en 5 [(3,pt nb 0)] (.exit 0) H [] aZ bi ⟨rfl,at_,dp,nd,1,wp,rfl,⟨kp,D,D,D,fun h=>absurd h (by decide),fun _=>hR.2 rfl⟩⟩
theorem Mc (p:Nat) (s:ByteArray) (at_:Int) (dp:Int) (nd:Int) (n:Nat) {H:U} (y:aa E G H) (kp:H.get p=some (fM s at_ dp nd (.pointer none))) (bY:G.n≤p) (hs:(s.size:Int)<100000) (a0:0≤at_) (a1:at_≤s.size) (hA:se s n) (hn:((s.size:Int)-at_).toNat≤n):aI E G 204 [pt p 0] H [p] (fun v H'=>wT s p at_ 0 (kN s at_ dp) v H'):=by
 refine br Tryz.f204 y ?_
 have gi:=y.wf.lt kp
 obtain ⟨_,H1,c1,af,y1,cW,uR,hY,rfl,uq,Fa,qd,dV⟩:=Au p s at_ dp nd 0 0 2 y kp D hs D D D
 have KO:=y1.wf.lt qd
 obtain ⟨_,_,H2,c2,ar,ah,rfl,r8,Ue,uX,Ug,HU,rfl,pI,kV,Dh,B5,uz,ya⟩:=(VF p cW s n at_ (kN s at_ dp) _ at_ dp hY 0 0 uR _ y1 dV qd hA hs bY D D D D D D D uq (.go rfl) rfl).code
 have cl:H1.n+0≤H2.n:=ar.n
 refine ad 2 c1<|bW 1 c2<|?_
 rcases B5 with rfl |rfl
 ·exact aV 2 (pt cW 0) H2 [p,p,cW] aQ bi (.inl ⟨_,r8,Ue,uX,rfl,pI,uz rfl,D,D⟩)
 exact aV 2 (pt cW 0) H2 [p,p,cW] aQ bi (.inr ⟨_,r8,Ue,uX,HU,rfl,pI,ya rfl,D,D⟩)
noncomputable def Vv:Code:=cN [1,1,0,0,0] (cH Tryz.f158)
noncomputable abbrev qR H3 cQ:=news H3 [O [pt cQ 0] 185]
theorem NK (p:Nat) (nb:Nat) (s:ByteArray) (n:Nat) (eN:Int) (R:Option (Int×Int)):∀(m:Nat) (at_:Int) (dp:Int) (nd:Int) (w:Nat) (wp:Nat) (xs:List Value) (q:Nat) (ps:List Nat) (H:U),aa E G H→(kp:H.get p=some (O (iu s at_ dp nd (gO w wp)) 255))→(fe:H.get nb=some (O (xs++[sc q 0 ps.length 2]) 305))→(aX:H.get q=some (O (oH ps) 185))→(hA:se s n)→(hs:(s.size:Int)<100000)→(bY:G.n≤p)→(gn:G.n≤nb)→(lx:p≠nb)→(b0:0≤eN)→(b1:eN≤at_)→(a1:at_≤s.size)→(hn:((s.size:Int)-eN).toNat≤n)→(hw:w=0∨w=1)→(np:iH xs)→(hR:sf w (nN s at_ dp) R)→(aY:G.n≤q)→(dq:p≠q)→(iT:nb≠q)→(fk:(ps.length:Int)≤at_+w+2)→((s.size:Int)-at_).toNat=m→
  cy E G 30 Vv [(0,pt p 0),(3,pt nb 0)] H [p,nb,q] (fun x T H'=>(x=(.exit 0)∧∃(eJ sa qu:Int) (hJ sd:Nat),T=bl [(3,pt nb 0)]∧(H'.get p=some (fM s eJ sa qu (gO hJ sd))∧eN≤eJ∧eJ≤s.size∧(hJ=0∨hJ=1)∧(hJ=0→R=some (eJ,sa))∧(hJ=1→R=none)))):=by
 refine d8 fun m ih=>?_
 intro at_ dp nd w wp xs q ps H y kp fe aX hA hs bY gn lx b0 b1 a1 hn hw np hR aY dq iT fk hm
 refine c9 y ?_
 have gi:=y.wf.lt kp
 have rO:=y.wf.lt fe
 have iX:=y.wf.lt aX
 rcases hw with rfl |rfl
 ·obtain ⟨_,H1,c1,af,y1,b7⟩:=tc p s at_ dp nd ⟨#[124]⟩ y kp D hs D D
  rcases b7 with ⟨rfl,nY⟩ |⟨rfl,pC,oA⟩
  ·have bV:=y.kept af ai kp
   exact ad 1 c1<|en 0 [(3,pt nb 0)] (.exit 0) H1 [] aZ bi ⟨rfl,at_,dp,nd,0,wp,rfl,⟨bV,D,D,D,fun _=>(hR.1 rfl).symm.trans (D8 nY),fun h=>absurd h (by decide)⟩⟩
  have cI:H.n+0≤H1.n:=af.n
  have bV:=y.kept af ai kp
  obtain ⟨aF,e2⟩:∃ ao,ao=H1.set p (O (iu s (at_+1) dp nd (gO 0 wp)) 255):=⟨_,rfl⟩
  have ah:aa E G aF:=e2▸y1.set _ D D
  have cl:aF.n=H1.n+0:=by rw [e2,U.cB] <;> rfl
  have cP:=bC e2
  have cK:=y.kept af ai fe
  have dS:=bu e2 D cK
  obtain ⟨_,H3,c3,aW,az,fo⟩:=Mc p s (at_+1) dp nd n ah cP D hs D D hA D
  rcases fo with ⟨cQ,fH,kZ,jP,rfl,e6,iM,oz,eh⟩ |⟨cQ,fH,kZ,jP,r6,rfl,e6,iM,oz,eh⟩
  ·have dD:aF.n+0≤H3.n:=aW.n
   have g3:=az.n
   have cE:=y.kept af ai aX
   have dQ:=bu e2 D cE
   have fr:=ah.kept aW bB dQ
   obtain ⟨bF,aG⟩:∃ ao,ao=((qR H3 cQ).set q .dead).new (O (oH (ps++[cQ])) 185):=⟨_,rfl⟩
   have bz:aa E G bF:=th (az.news [O [pt cQ 0] 185]) aG D (by rw [bU];simp only [cj,cF];omega)
   have fB:bF.n=H3.n+2:=by rw [ti aG,bU] <;> rfl
   have jB:bF.get (H3.n+1)=some (O (oH (ps++[cQ])) 185):=tj aG
   have d6:=ah.kept aW bB dS
   have eZ:=lF (az.news [O [pt cQ 0] 185]) aG D (az.old d6 [O [pt cQ 0] 185])
   obtain ⟨db,bS⟩:∃ ao,ao=bF.set nb (O (xs++[sc (H3.n+1) 0 ((ps++[cQ]).length) 2]) 305):=⟨_,rfl⟩
   have cG:aa E G db:=bS▸bz.set _ D D
   have gk:db.n=bF.n+0:=by rw [bS,U.cB] <;> rfl
   have iN:=bC bS
   have ek:=lF (az.news [O [pt cQ 0] 185]) aG D (az.old e6 [O [pt cQ 0] 185])
   have eR:=bu bS D ek
   have qc:=bu bS D jB
   exact ad 1 c1<|Z 3 (ag 1 aJ bV)<|ap 0 (at_+1)<|aC 2 (stx 1 (J (at_+1)) dL bV e2)<|gT [] (aT:p<aF.n∨aF.n≤p) (aT:p<aF.n∨aF.n≤p) (aT:p<aF.n∨aF.n≤p) (aT:p<aF.n∨aF.n≤p) (aT:p≠nb) (aT:p<aF.n∨aF.n≤p)<|aj [] (aT:q<aF.n∨aF.n≤q)<|aK [aB 3]<|aj [dP (sc q 0 ps.length 2) aF] (wb np dS)<|ad 1 c3<|aj [] (cU ah cP:bZ aF H3 [p]=true)<|eL 1 (show eW E #[302,302] (sc q 0 ps.length 2) (sc (H3.n+0) 0 1 3) (qR H3 cQ)=some (sc (H3.n+1) 0 ((ps++[cQ]).length) 2,bF,[q],[q,H3.n+0]) from (sk va rfl (show hG (qR H3 cQ) 1 (sc (H3.n+0) 0 1 3)=some (1,[pt cQ 0],[H3.n+0]) from gt (aL [O [pt cQ 0] 185] H3 0 _ rfl) (ec rfl)) rfl (az.old fr [O [pt cQ 0] 185]) (by rw [Ch];omega) D).trans (by rw [Fs ps cQ,Ft ps cQ,aG] <;> rfl))<|aj [] (cU (az.news [O [pt cQ 0] 185]) (az.old fr [O [pt cQ 0] 185]):bZ (qR H3 cQ) bF [q]=true)<|aC 2 (te (we np eZ rfl rfl) bS)<|aj [] (cU bz eZ:bZ bF db [nb]=true)<|kW 0 [(0,pt p 0),(3,pt nb 0)] db [p,p,q,nb] bD aQ (ih _ D fH kZ jP 0 0 xs (H3.n+1) (ps++[cQ]) _ cG eR iN qc hA hs bY gn lx b0 D D hn D np (.go ((Ea pC oA iM D).symm.trans (hR.1 rfl))) D D D (by simp only [List.length_append,cj,cF];omega) rfl)
  have dD:aF.n+0≤H3.n:=aW.n
  have g3:=az.n
  have cE:=y.kept af ai aX
  have dQ:=bu e2 D cE
  have fr:=ah.kept aW bB dQ
  obtain ⟨bF,aG⟩:∃ ao,ao=((qR H3 cQ).set q .dead).new (O (oH (ps++[cQ])) 185):=⟨_,rfl⟩
  have bz:aa E G bF:=th (az.news [O [pt cQ 0] 185]) aG D (by rw [bU];simp only [cj,cF];omega)
  have fB:bF.n=H3.n+2:=by rw [ti aG,bU] <;> rfl
  have jB:bF.get (H3.n+1)=some (O (oH (ps++[cQ])) 185):=tj aG
  have d6:=ah.kept aW bB dS
  have eZ:=lF (az.news [O [pt cQ 0] 185]) aG D (az.old d6 [O [pt cQ 0] 185])
  obtain ⟨db,bS⟩:∃ ao,ao=bF.set nb (O (xs++[sc (H3.n+1) 0 ((ps++[cQ]).length) 2]) 305):=⟨_,rfl⟩
  have cG:aa E G db:=bS▸bz.set _ D D
  have gk:db.n=bF.n+0:=by rw [bS,U.cB] <;> rfl
  have iN:=bC bS
  have ek:=lF (az.news [O [pt cQ 0] 185]) aG D (az.old e6 [O [pt cQ 0] 185])
  have eR:=bu bS D ek
  have qc:=bu bS D jB
  exact ad 1 c1<|Z 3 (ag 1 aJ bV)<|ap 0 (at_+1)<|aC 2 (stx 1 (J (at_+1)) dL bV e2)<|gT [] (aT:p<aF.n∨aF.n≤p) (aT:p<aF.n∨aF.n≤p) (aT:p<aF.n∨aF.n≤p) (aT:p<aF.n∨aF.n≤p) (aT:p≠nb) (aT:p<aF.n∨aF.n≤p)<|aj [] (aT:q<aF.n∨aF.n≤q)<|aK [aB 3]<|aj [dP (sc q 0 ps.length 2) aF] (wb np dS)<|ad 1 c3<|aj [] (cU ah cP:bZ aF H3 [p]=true)<|eL 1 (show eW E #[302,302] (sc q 0 ps.length 2) (sc (H3.n+0) 0 1 3) (qR H3 cQ)=some (sc (H3.n+1) 0 ((ps++[cQ]).length) 2,bF,[q],[q,H3.n+0]) from (sk va rfl (show hG (qR H3 cQ) 1 (sc (H3.n+0) 0 1 3)=some (1,[pt cQ 0],[H3.n+0]) from gt (aL [O [pt cQ 0] 185] H3 0 _ rfl) (ec rfl)) rfl (az.old fr [O [pt cQ 0] 185]) (by rw [Ch];omega) D).trans (by rw [Fs ps cQ,Ft ps cQ,aG] <;> rfl))<|aj [] (cU (az.news [O [pt cQ 0] 185]) (az.old fr [O [pt cQ 0] 185]):bZ (qR H3 cQ) bF [q]=true)<|aC 2 (te (we np eZ rfl rfl) bS)<|aj [] (cU bz eZ:bZ bF db [nb]=true)<|kW 0 [(0,pt p 0),(3,pt nb 0)] db [p,p,q,nb] bD aQ (ih _ D fH kZ jP 1 r6 xs (H3.n+1) (ps++[cQ]) _ cG eR iN qc hA hs bY gn lx b0 D D hn D np (.bad ((hR.1 rfl).symm.trans (D9 pC oA iM))) D D D (by simp only [List.length_append,cj,cF];omega) rfl)
 obtain ⟨_,H1,c1,af,y1,rfl⟩:=G3 p s at_ dp nd wp ⟨#[124]⟩ y kp D hs D D
 have bV:=y.kept af ai kp
 exact ad 1 c1<|en 0 [(3,pt nb 0)] (.exit 0) H1 [] aZ bi ⟨rfl,at_,dp,nd,1,wp,rfl,⟨bV,D,D,D,fun h=>absurd h (by decide),fun _=>hR.2 rfl⟩⟩
noncomputable def Vu:Code:=cN [1,1,0,0,0] (cH Tryz.f158)
noncomputable abbrev p5 jy cQ:=([pt jy 0,pt cQ 0]:List Value)
noncomputable abbrev z0 H3 cQ jy:=news H3 [O [pt cQ 0] 185,O (p5 jy cQ) 185]
theorem NJ (p:Nat) (nb:Nat) (s:ByteArray) (n:Nat) (eN:Int) (R:Option (Int×Int)):∀(m:Nat) (at_:Int) (dp:Int) (nd:Int) (w:Nat) (wp:Nat) (xs:List Value) (q:Nat) (jy:Nat) (H:U),aa E G H→(kp:H.get p=some (O (iu s at_ dp nd (gO w wp)) 255))→(fe:H.get nb=some (O (xs++[sc q 0 1 3]) 305))→(aX:H.get q=some (O [pt jy 0] 185))→(hA:se s n)→(hs:(s.size:Int)<100000)→(bY:G.n≤p)→(gn:G.n≤nb)→(lx:p≠nb)→(b0:0≤eN)→(b1:eN≤at_)→(a1:at_≤s.size)→(hn:((s.size:Int)-eN).toNat≤n)→(hw:w=0∨w=1)→(np:iH xs)→(hR:sf w (nN s at_ dp) R)→(aY:G.n≤q)→(dq:p≠q)→(iT:nb≠q)→((s.size:Int)-at_).toNat=m→
  cy E G 30 Vu [(0,pt p 0),(3,pt nb 0)] H [p,nb,q] (fun x T H'=>(x=(.exit 0)∧∃(eJ sa qu:Int) (hJ sd:Nat),T=bl [(3,pt nb 0)]∧(H'.get p=some (fM s eJ sa qu (gO hJ sd))∧eN≤eJ∧eJ≤s.size∧(hJ=0∨hJ=1)∧(hJ=0→R=some (eJ,sa))∧(hJ=1→R=none)))):=by
 refine d8 fun m ih=>?_
 intro at_ dp nd w wp xs q jy H y kp fe aX hA hs bY gn lx b0 b1 a1 hn hw np hR aY dq iT hm
 refine c9 y ?_
 have gi:=y.wf.lt kp
 have rO:=y.wf.lt fe
 have iX:=y.wf.lt aX
 rcases hw with rfl |rfl
 ·obtain ⟨_,H1,c1,af,y1,b7⟩:=tc p s at_ dp nd ⟨#[124]⟩ y kp D hs D D
  rcases b7 with ⟨rfl,nY⟩ |⟨rfl,pC,oA⟩
  ·have bV:=y.kept af ai kp
   exact ad 1 c1<|en 0 [(3,pt nb 0)] (.exit 0) H1 [] aZ bi ⟨rfl,at_,dp,nd,0,wp,rfl,⟨bV,D,D,D,fun _=>(hR.1 rfl).symm.trans (D8 nY),fun h=>absurd h (by decide)⟩⟩
  have cI:H.n+0≤H1.n:=af.n
  have bV:=y.kept af ai kp
  obtain ⟨aF,e2⟩:∃ ao,ao=H1.set p (O (iu s (at_+1) dp nd (gO 0 wp)) 255):=⟨_,rfl⟩
  have ah:aa E G aF:=e2▸y1.set _ D D
  have cl:aF.n=H1.n+0:=by rw [e2,U.cB] <;> rfl
  have cP:=bC e2
  have cK:=y.kept af ai fe
  have dS:=bu e2 D cK
  obtain ⟨_,H3,c3,aW,az,fo⟩:=Mc p s (at_+1) dp nd n ah cP D hs D D hA D
  rcases fo with ⟨cQ,fH,kZ,jP,rfl,e6,iM,oz,eh⟩ |⟨cQ,fH,kZ,jP,r6,rfl,e6,iM,oz,eh⟩
  ·have dD:aF.n+0≤H3.n:=aW.n
   have g3:=az.n
   have cE:=y.kept af ai aX
   have dQ:=bu e2 D cE
   have fr:=ah.kept aW bB dQ
   have d6:=ah.kept aW bB dS
   obtain ⟨bF,aG⟩:∃ ao,ao=(z0 H3 cQ jy).set nb (O (xs++[sc (H3.n+1) 0 2 2]) 305):=⟨_,rfl⟩
   have bz:aa E G bF:=aG▸(az.news [O [pt cQ 0] 185,O (p5 jy cQ) 185]).set _ D (by rw [bU];simp only [cj,cF];omega)
   have fB:bF.n=H3.n+2:=by rw [aG,U.cB,bU] <;> rfl
   have jB:=bu aG D (aL [O [pt cQ 0] 185,O (p5 jy cQ) 185] H3 1 _ rfl)
   have eZ:=bC aG
   have ek:=bu aG D (az.old e6 [O [pt cQ 0] 185,O (p5 jy cQ) 185])
   exact ad 1 c1<|Z 3 (ag 1 aJ bV)<|ap 0 (at_+1)<|aC 2 (stx 1 (J (at_+1)) dL bV e2)<|gT [] (aT:p<aF.n∨aF.n≤p) (aT:p<aF.n∨aF.n≤p) (aT:p<aF.n∨aF.n≤p) (aT:p<aF.n∨aF.n≤p) (aT:p≠nb) (aT:p<aF.n∨aF.n≤p)<|aK [aB 3]<|aj [dP (sc q 0 1 3) aF] (wb np dS)<|ad 1 c3<|aj [] (cU ah cP:bZ aF H3 [p]=true)<|eL 1 (show eW E #[302,302] (sc q 0 1 3) (sc (H3.n+0) 0 1 3) (qR H3 cQ)=some (sc (H3.n+1) 0 2 2,z0 H3 cQ jy,[],[q,H3.n+0]) from Bc (c:=1) va rfl (show hG (qR H3 cQ) 1 (sc (H3.n+0) 0 1 3)=some (1,[pt cQ 0],[H3.n+0]) from gt (aL [O [pt cQ 0] 185] H3 0 _ rfl) (ec rfl)) rfl (az.old fr [O [pt cQ 0] 185]) (ec rfl) (by decide) (by decide))<|aC 2 (te (we np (az.old d6 [O [pt cQ 0] 185,O (p5 jy cQ) 185]) rfl rfl) aG)<|aj [] (cU (az.news [O [pt cQ 0] 185,O (p5 jy cQ) 185]) (az.old d6 [O [pt cQ 0] 185,O (p5 jy cQ) 185]):bZ (z0 H3 cQ jy) bF [nb]=true)<|kW 0 [(0,pt p 0),(3,pt nb 0)] bF [p,p,nb] bD aQ (NK p nb s n eN R _ fH kZ jP 0 0 xs (H3.n+1) ([jy,cQ]) _ bz ek eZ jB hA hs bY gn lx b0 D D hn D np (.go ((Ea pC oA iM D).symm.trans (hR.1 rfl))) D D D (by simp only [List.length_append,cj,cF];omega) rfl)
  have dD:aF.n+0≤H3.n:=aW.n
  have g3:=az.n
  have cE:=y.kept af ai aX
  have dQ:=bu e2 D cE
  have fr:=ah.kept aW bB dQ
  have d6:=ah.kept aW bB dS
  obtain ⟨bF,aG⟩:∃ ao,ao=(z0 H3 cQ jy).set nb (O (xs++[sc (H3.n+1) 0 2 2]) 305):=⟨_,rfl⟩
  have bz:aa E G bF:=aG▸(az.news [O [pt cQ 0] 185,O (p5 jy cQ) 185]).set _ D (by rw [bU];simp only [cj,cF];omega)
  have fB:bF.n=H3.n+2:=by rw [aG,U.cB,bU] <;> rfl
  have jB:=bu aG D (aL [O [pt cQ 0] 185,O (p5 jy cQ) 185] H3 1 _ rfl)
  have eZ:=bC aG
  have ek:=bu aG D (az.old e6 [O [pt cQ 0] 185,O (p5 jy cQ) 185])
  exact ad 1 c1<|Z 3 (ag 1 aJ bV)<|ap 0 (at_+1)<|aC 2 (stx 1 (J (at_+1)) dL bV e2)<|gT [] (aT:p<aF.n∨aF.n≤p) (aT:p<aF.n∨aF.n≤p) (aT:p<aF.n∨aF.n≤p) (aT:p<aF.n∨aF.n≤p) (aT:p≠nb) (aT:p<aF.n∨aF.n≤p)<|aK [aB 3]<|aj [dP (sc q 0 1 3) aF] (wb np dS)<|ad 1 c3<|aj [] (cU ah cP:bZ aF H3 [p]=true)<|eL 1 (show eW E #[302,302] (sc q 0 1 3) (sc (H3.n+0) 0 1 3) (qR H3 cQ)=some (sc (H3.n+1) 0 2 2,z0 H3 cQ jy,[],[q,H3.n+0]) from Bc (c:=1) va rfl (show hG (qR H3 cQ) 1 (sc (H3.n+0) 0 1 3)=some (1,[pt cQ 0],[H3.n+0]) from gt (aL [O [pt cQ 0] 185] H3 0 _ rfl) (ec rfl)) rfl (az.old fr [O [pt cQ 0] 185]) (ec rfl) (by decide) (by decide))<|aC 2 (te (we np (az.old d6 [O [pt cQ 0] 185,O (p5 jy cQ) 185]) rfl rfl) aG)<|aj [] (cU (az.news [O [pt cQ 0] 185,O (p5 jy cQ) 185]) (az.old d6 [O [pt cQ 0] 185,O (p5 jy cQ) 185]):bZ (z0 H3 cQ jy) bF [nb]=true)<|kW 0 [(0,pt p 0),(3,pt nb 0)] bF [p,p,nb] bD aQ (NK p nb s n eN R _ fH kZ jP 1 r6 xs (H3.n+1) ([jy,cQ]) _ bz ek eZ jB hA hs bY gn lx b0 D D hn D np (.bad ((hR.1 rfl).symm.trans (D9 pC oA iM))) D D D (by simp only [List.length_append,cj,cF];omega) rfl)
 obtain ⟨_,H1,c1,af,y1,rfl⟩:=G3 p s at_ dp nd wp ⟨#[124]⟩ y kp D hs D D
 have bV:=y.kept af ai kp
 exact ad 1 c1<|en 0 [(3,pt nb 0)] (.exit 0) H1 [] aZ bi ⟨rfl,at_,dp,nd,1,wp,rfl,⟨bV,D,D,D,fun h=>absurd h (by decide),fun _=>hR.2 rfl⟩⟩
theorem agh (p:Nat) (s:ByteArray) (at_:Int) (dp:Int) (nd:Int) (n:Nat) {H:U} (y:aa E G H) (kp:H.get p=some (fM s at_ dp nd (.pointer none))) (bY:G.n≤p) (hs:(s.size:Int)<100000) (a0:0≤at_) (a1:at_≤s.size) (hA:se s n) (hn:((s.size:Int)-at_).toNat≤n):aI E G 158 [pt p 0] H [p] (fun v H'=>wT s p at_ 0 (nM s at_ dp) v H'):=by
 refine br Tryz.f158 y ?_
 have gi:=y.wf.lt kp
 obtain ⟨_,H1,c1,af,y1,b7⟩:=Mc p s at_ dp nd n y kp D hs D D hA D
 rcases b7 with ⟨cW,dH,ly,hY,rfl,dV,dR,g9,cq⟩ |⟨cW,dH,ly,hY,nD,rfl,dV,dR,g9,cq⟩
 ·have cI:H.n+0≤H1.n:=af.n
  have g1:=y1.n
  obtain ⟨_,H2,c2,ar,ah,cA,wL,ji,rfl,wd,zD,sR,eX⟩:=SR p s dH ly hY 0 0 3 (H1.n+0) (y1.news [O [pt cW 0] 185]) (y1.old dV [O [pt cW 0] 185]) D hs D D D
  have cl:=dA ar
  have g2:=ah.n
  have iW:=(y1.news [O [pt cW 0] 185]).kept ar bB (aL [O [pt cW 0] 185] H1 0 _ rfl)
  have acG:=ah.wf.lt sR
  rw [bU] at zD;simp only [cj,cF] at zD
  obtain ⟨_,_,H3,c3,aW,az,rfl,mU,HR,HS,aiW,Nh,rfl,mI,kD,SY,JU,Dj,G8⟩:=(NJ p cA s n dH (nN s dH ly) _ dH ly ji 0 0 wL (H1.n+0) cW _ ah eX sR iW hA hs bY D D D D D D D wd (.go rfl) D D D rfl).code
  have dD:H2.n+0≤H3.n:=aW.n
  refine ad 3 c1<|ad 1 c2<|bW 1 c3<|?_
  rcases JU with rfl |rfl
  ·exact aV 2 (pt cA 0) H3 [p,p,p,cA,H1.n+0] aQ bi (.inl ⟨_,mU,HR,HS,rfl,mI,(Eb dR D).trans (Dj rfl),D,D⟩)
  exact aV 2 (pt cA 0) H3 [p,p,p,cA,H1.n+0] aQ bi (.inr ⟨_,mU,HR,HS,Nh,rfl,mI,(Eb dR D).trans (G8 rfl),D,D⟩)
 have cI:H.n+0≤H1.n:=af.n
 have g1:=y1.n
 obtain ⟨_,H2,c2,ar,ah,cA,wL,ji,rfl,wd,zD,sR,eX⟩:=SR p s dH ly hY 1 nD 3 (H1.n+0) (y1.news [O [pt cW 0] 185]) (y1.old dV [O [pt cW 0] 185]) D hs D D D
 have cl:=dA ar
 have g2:=ah.n
 have iW:=(y1.news [O [pt cW 0] 185]).kept ar bB (aL [O [pt cW 0] 185] H1 0 _ rfl)
 have acG:=ah.wf.lt sR
 rw [bU] at zD;simp only [cj,cF] at zD
 obtain ⟨_,_,H3,c3,aW,az,rfl,mU,HR,HS,aiW,Nh,rfl,mI,kD,SY,JU,Dj,G8⟩:=(NJ p cA s n dH none _ dH ly ji 1 nD wL (H1.n+0) cW _ ah eX sR iW hA hs bY D D D D D D D wd (.bad rfl) D D D rfl).code
 have dD:H2.n+0≤H3.n:=aW.n
 refine ad 3 c1<|ad 1 c2<|bW 1 c3<|?_
 rcases JU with rfl |rfl
 ·exact aV 2 (pt cA 0) H3 [p,p,p,cA,H1.n+0] aQ bi (absurd (Dj rfl) bD)
 exact aV 2 (pt cA 0) H3 [p,p,p,cA,H1.n+0] aQ bi (.inr ⟨_,mU,HR,HS,Nh,rfl,mI,NL dR,D,D⟩)
theorem NI (s:ByteArray):∀ n,se s n
 |0=>fun p at_ dp nd H y kp bY hs a0 a1 h=>absurd h (Nat.not_lt_zero _)
 |n+1=>fun p at_ dp nd H y kp bY hs a0 a1 h=>agh p s at_ dp nd n y kp bY hs a0 a1 (NI s n) D
theorem agn (s:ByteArray) {H:U} (y:aa E G H):aI E G 119 [.string s] H [] (fun v H'=>(∃ a,v=.tuple #[a,.pointer none]∧oR s=true)∨∃ a b,v=.tuple #[a,pt b 0]∧oR s=false):=by
 have g0:=y.n
 refine br Tryz.f119 y ?_
 refine aO 4 ((s.size:Int)>200) ?_ ?_ <;> intro h1 q1
 ·exact al 5 (.tuple #[.pointer none,pt (H.n+0) 0]) (news H [O [J 0,.iface 40 (J 2)] 195]) (.inr ⟨_,_,rfl,(by rw [oR,decide_eq_true D];rfl)⟩)
 have hs:(s.size:Int)<100000:=D
 obtain ⟨_,H1,c1,af,y1,b7⟩:=NI s (((s.size:Int)-0).toNat+1) (H.n+0) 0 0 0 (y.news [O (iu s 0 0 0 (.pointer none)) 255]) (aL [O (iu s 0 0 0 (.pointer none)) 255] H 0 _ rfl) D D D D D
 rcases b7 with ⟨cW,dH,ly,hY,rfl,dV,dR,g9,cq⟩ |⟨cW,dH,ly,hY,nD,rfl,dV,dR,g9,cq⟩
 ·have cI:=dA af
  refine ad 5 c1<|Z 4 (ag 1 aJ dV)<|aO 2 (dH<(s.size:Int)) ?_ ?_ <;> intro h3 dv
  ·obtain ⟨_,H2,c2,ar,ah,cA,ji,qs,rfl,eX⟩:=q2 (H.n+0) s dH ly hY 0 0 2 y1 dV D hs D D D
   have cl:H1.n+0≤H2.n:=ar.n
   exact ad 2 c2<|Z 4 (ag 4 jY eX)<|aV 2 (.tuple #[pt cW 0,pt qs 0]) H2 [H.n+0,H.n+0] aQ aZ (.inr ⟨_,_,rfl,SN dR D⟩)
  exact Z 4 (ag 4 jY dV)<|aV 2 (.tuple #[pt cW 0,.pointer none]) H1 [H.n+0] aQ aZ (.inl ⟨_,rfl,SO D dR D⟩)
 have cI:=dA af
 refine ad 5 c1<|Z 4 (ag 1 aJ dV)<|aO 2 (dH<(s.size:Int)) ?_ ?_ <;> intro h3 dv
 ·obtain ⟨_,H2,c2,ar,ah,cA,ji,qs,rfl,eX⟩:=q2 (H.n+0) s dH ly hY 1 nD 2 y1 dV D hs D D D
  have cl:H1.n+0≤H2.n:=ar.n
  exact ad 2 c2<|Z 4 (ag 4 jY eX)<|aV 2 (.tuple #[pt cW 0,pt qs 0]) H2 [H.n+0,H.n+0] aQ aZ (.inr ⟨_,_,rfl,Mb dR⟩)
 exact Z 4 (ag 4 jY dV)<|aV 2 (.tuple #[pt cW 0,pt nD 0]) H1 [H.n+0] aQ aZ (.inr ⟨_,_,rfl,Mb dR⟩)
theorem SQ (s:ByteArray) {H:U} (y:aa E G H):aI E G 96 [.string s] H [] (fun v H'=>(v=.nilIface∧oR s=true)∨∃ b,v=.iface 186 (pt b 0)∧oR s=false):=by
 refine br Tryz.f96 y ?_
 obtain ⟨_,H1,c1,af,y1,b7⟩:=agn s y
 rcases b7 with ⟨pa,rfl,hx⟩ |⟨pa,pb,rfl,hx⟩
 ·exact ad 2 c1<|al 8 .nilIface H1 (.inl ⟨rfl,hx⟩)
 exact ad 2 c1<|al 10 (.iface 186 (pt pb 0)) H1 (.inr ⟨_,rfl,hx⟩)
def iO (op:Int) (a s:ByteArray):Bool:=iY a&&(lG s&&((op==1)||((op==2)||(((op==3)||(op==4))&&oR s))))
noncomputable abbrev tG op a s:=([J op,.string a,.string s]:List Value)
noncomputable abbrev s5 H op a s:=news H (i9 (tG op a s))
theorem acW (op:Int) (a:ByteArray) (s:ByteArray) {H:U} (y:aa E G H) (ha:(a.size:Int)<100000):aI E G 69 [.agg (tG op a s).toArray] H [] (fun v H'=>v=(.bool (iO op a s))):=by
 refine br Tryz.f69 y ?_
 refine Z 3 (aR (s5 H op a s) 0 1 ct)<|?_
 cases h1:(iY a) with
 |true=>
  refine ad 0 (c5 h1 (CE a D (y.news (i9 (tG op a s)))))<|Z 3 (aR (s5 H op a s) 0 2 ct)<|?_
  cases h2:(lG s) with
  |true=>
   refine ad 0 (c5 h2 (QK s (y.news (i9 (tG op a s)))))<|Z 3 (aR (s5 H op a s) 0 0 aJ)<|cS 0 op 1 ?_ ?_ <;> intro h3 dv
   ·exact al 2 aN (s5 H op a s) (by rw [iO,h1,h2,h3] <;> rfl)
   refine cS 1 op 2 ?_ ?_ <;> intro h4 dT
   ·exact al 2 aN (s5 H op a s) (by rw [iO,h1,h2,h3,h4] <;> rfl)
   refine cS 1 op 3 ?_ ?_ <;> intro h5 ff
   ·obtain ⟨_,H1,c1,af,y1,b7⟩:=SQ s (y.news (i9 (tG op a s)))
    refine Z 2 (aR (s5 H op a s) 0 2 ct)<|?_
    rcases b7 with ⟨rfl,hx⟩ |⟨cb,rfl,hx⟩
    ·exact ad 0 c1<|al 2 aN H1 (by rw [iO,h1,h2,h3,h4,h5,hx] <;> rfl)
    exact ad 0 c1<|al 2 Y H1 (by rw [iO,h1,h2,h3,h4,h5,hx] <;> rfl)
   refine cS 1 op 4 ?_ ?_ <;> intro h6 e7
   ·obtain ⟨_,H1,c1,af,y1,b7⟩:=SQ s (y.news (i9 (tG op a s)))
    refine Z 2 (aR (s5 H op a s) 0 2 ct)<|?_
    rcases b7 with ⟨rfl,hx⟩ |⟨cb,rfl,hx⟩
    ·exact ad 0 c1<|al 2 aN H1 (by rw [iO,h1,h2,h3,h4,h5,h6,hx] <;> rfl)
    exact ad 0 c1<|al 2 Y H1 (by rw [iO,h1,h2,h3,h4,h5,h6,hx] <;> rfl)
   exact al 2 Y (s5 H op a s) (by rw [iO,h1,h2,h3,h4,h5,h6] <;> rfl)
  |false=>
   exact ad 0 (c5 h2 (QK s (y.news (i9 (tG op a s)))))<|al 3 Y (s5 H op a s) (by rw [iO,h1,h2] <;> rfl)
 |false=>
  exact ad 0 (c5 h1 (CE a D (y.news (i9 (tG op a s)))))<|al 4 Y (s5 H op a s) (by rw [iO,h1] <;> rfl)
theorem acV (op:Int) (a:ByteArray) (s:ByteArray) (ha:(a.size:Int)<100000):∀{H:U},aa E G H→bE E 69 [.agg (tG op a s).toArray] H (.ret (.bool (iO op a s))) H []:=by
 obtain ⟨_,_,c,_,_,rfl⟩:=acW op a s gE ha
 exact fun y=>gx (GS _) (.ground rfl) c y
structure dZ where
 (k op v:Int) (s:ByteArray) (pm:Option Addr) (nm bj:Nat) (wide off:Int) (ha:Bool) (at_ how:Int) (bf:Option Addr) (nn bg:Nat) (fk:Bool) (pk:Option Addr) (an ak:Nat)
abbrev ae (f:dZ):List Value:=[J f.k,J f.op,ax f.v,.string f.s,.slice f.pm f.nm f.bj,J f.wide,J f.off,.bool f.ha,J f.at_,J f.how,.slice f.bf f.nn f.bg,.bool f.fk,.slice f.pk f.an f.ak]
abbrev fS:=Int×ByteArray×ByteArray
inductive aw where
 |mk (f:dZ) (ms:List fS) (ns:List ByteArray) (kids:List aw)
def aw.f:aw→dZ |.mk f _ _ _=>f
def aw.ms:aw→List fS |.mk _ m _ _=>m
def aw.ns:aw→List ByteArray |.mk _ _ n _=>n
def aw.kids:aw→List aw |.mk _ _ _ k=>k
def la (kids:List aw):List Value:=kids.flatMap fun x=>ae x.f
def ui (ms:List fS):List Value:=ms.flatMap fun m=>[J m.1,.string m.2.1,.string m.2.2]
def ls (X:U) (p:Option Addr) (n:Nat) (cs:List Value):Prop:=n=0∨∃ b ro t,p=some ⟨b,0,none⟩∧X.get b=some (.cells cs t ro)
theorem ls.open {X:U} {p:Option Addr} {n:Nat} {cs:List Value} (h:ls X p n cs) (hn:n≠0):∃ b ro t,p=some ⟨b,0,none⟩∧X.get b=some (.cells cs t ro):=h.resolve_left hn
def u7 (n c:Nat):Prop:=c=2∨∃ k,c=2*k+1∧n≤k
structure dG (X:U) (x:aw):Prop where
 nm:x.f.nm=x.ms.length
 nn:x.f.nn=x.ns.length
 an:x.f.an=x.kids.length
 wx:ls X x.f.pm x.f.nm (ui x.ms)
 rn:ls X x.f.bf x.f.nn (eH x.ns)
 rk:ls X x.f.pk x.f.an (la x.kids)
 bm:x.f.nm<281474976710656
 fm:x.f.nn<281474976710656
 lL:x.f.an<281474976710656
 DG:0≤x.f.v∧x.f.v<18446744073709551616
 Oy:x.f.nn≠0→u7 x.f.nn x.f.bg
inductive gm (X:U):aw→Prop
 |mk {x:aw}:dG X x→(∀ k∈x.kids,gm X k)→gm X x
theorem dG.ua {X:U} {x:aw} (a:dG X x) {i:Nat} (h:i<x.f.an):∃ k,x.kids[i]?=some k:=⟨_,gI (a.an▸h)⟩
theorem dG.xQ {X:U} {x:aw} (a:dG X x) {i:Nat} (h:i<x.f.nm):∃ k,x.ms[i]?=some k:=⟨_,gI (a.nm▸h)⟩
theorem dG.FK {X:U} {x:aw} (a:dG X x) {i:Nat} (h:i<x.f.nn):∃ k,x.ns[i]?=some k:=⟨_,gI (a.nn▸h)⟩
theorem gg {E:Env} {G X H:U} (a:aa E G X) (b:aa E X H):aa E G H:=⟨b.wf,Nat.le_trans a.n b.n,a.ej,fun i hi=>(b.get i (Nat.lt_of_lt_of_le hi a.n)).trans (a.get i hi)⟩
theorem EO {E:Env} {G X:U} (a:aa E G X):aa E X X:=⟨a.wf,Nat.le_refl _,a.vW,fun _ _=>rfl⟩
theorem ls.up {E:Env} {X H:U} (y:aa E X H) (wf:cz X) {p:Option Addr} {n:Nat} {cs:List Value} (h:ls X p n cs):ls H p n cs:=by
 rcases h with h |⟨b,ro,t,h1,h2⟩
 ·exact .inl h
 ·exact .inr ⟨b,ro,t,h1,y.cell h2 (wf.lt h2)⟩
theorem dG.up {E:Env} {X H:U} (y:aa E X H) (wf:cz X) {x:aw} (a:dG X x):dG H x:=⟨a.nm,a.nn,a.an,a.wx.up y wf,a.rn.up y wf,a.rk.up y wf,a.bm,a.fm,a.lL,a.DG,a.Oy⟩
theorem gm.up {E:Env} {X H:U} (y:aa E X H) (wf:cz X) {x:aw} (h:gm X x):gm H x:=by
 induction h with
 |mk a _ ih=>exact .mk (a.up y wf) ih
theorem Je {α:Type} {g:α→List Value} {n:Nat} (hg:∀ a,(g a).length=n):∀{l:List α} {i:Nat} {a:α},l[i]?=some a→((l.flatMap g).drop (i*n)).take n=g a∧i*n+n≤(l.flatMap g).length
 |[],i,a,h=>by simp at h
 |x::l,0,a,h=>by
  simp only [List.getElem?_cons_zero,bx] at h
  subst h
  rw [List.flatMap_cons,Nat.zero_mul,List.drop_zero]
  exact ⟨by rw [List.take_append_of_le_length (by rw [hg];exact Nat.le_refl _),List.take_of_length_le (by rw [hg];exact Nat.le_refl _)],by rw [List.length_append,hg];omega⟩
 |x::l,i+1,a,h=>by
  rw [List.getElem?_cons_succ] at h
  obtain ⟨h1,h2⟩:=Je hg h
  rw [List.flatMap_cons]
  refine ⟨?_,by rw [List.length_append,hg,Nat.succ_mul];omega⟩
  rw [Nat.succ_mul,Nat.add_comm (i*n) n,← hg x,← List.drop_drop,List.drop_left,hg x]
  exact h1
theorem Ki {kids:List aw} {i:Nat} {x:aw} (h:kids[i]?=some x):((la kids).drop (i*13)).take 13=ae x.f∧i*13+13≤(la kids).length:=Je (g:=fun x:aw=>ae x.f) (n:=13) (fun _=>rfl) h
theorem KQ {ms:List fS} {i:Nat} {m:fS} (h:ms[i]?=some m):((ui ms).drop (i*3)).take 3=[J m.1,.string m.2.1,.string m.2.2]∧i*3+3≤(ui ms).length:=Je (g:=fun m:fS=>[J m.1,.string m.2.1,.string m.2.2]) (n:=3) (fun _=>rfl) h
theorem EE {l c:List Value} {o n j:Nat} (h:(l.drop o).take n=c) (hj:j<n):l[o+j]?=c[j]?:=by
 rw [← h,List.getElem?_take,if_pos hj,List.getElem?_drop]
theorem kR {b off i:Nat} {H:U} {kids:List aw} {e t:TypeId} {ro:Bool} {x:aw} (ha:E.agg t=some true) (hs:E.size t=some 13) (hb:H.get b=some (.cells (la kids) e ro)) (hi:kids[i]?=some x) (ho:off=i*13):ay E t b off H=some (.agg (ae x.f).toArray):=by
 subst ho
 obtain ⟨h1,h2⟩:=Ki hi
 exact cg ha hs hb (Nat.ble_eq_true_of_le h2) h1
theorem Kn {b off i j:Nat} {H:U} {kids:List aw} {e t:TypeId} {ro:Bool} {x:aw} {v:Value} (ha:E.agg t=some false) (hb:H.get b=some (.cells (la kids) e ro)) (hi:kids[i]?=some x) (hj:j<13) (ho:off=i*13+j) (hv:(ae x.f)[j]?=some v):ay E t b off H=some v:=by
 subst ho
 exact d7 ha hb ((EE (Ki hi).1 hj).trans hv)
theorem zP {b off i:Nat} {H:U} {ms:List fS} {e t:TypeId} {ro:Bool} {m:fS} (ha:E.agg t=some true) (hs:E.size t=some 3) (hb:H.get b=some (.cells (ui ms) e ro)) (hi:ms[i]?=some m) (ho:off=i*3):ay E t b off H=some (.agg #[J m.1,.string m.2.1,.string m.2.2]):=by
 subst ho
 obtain ⟨h1,h2⟩:=KQ hi
 exact cg ha hs hb (Nat.ble_eq_true_of_le h2) h1
theorem FI {b off i j:Nat} {H:U} {ms:List fS} {e t:TypeId} {ro:Bool} {m:fS} {v:Value} (ha:E.agg t=some false) (hb:H.get b=some (.cells (ui ms) e ro)) (hi:ms[i]?=some m) (hj:j<3) (ho:off=i*3+j) (hv:[J m.1,Value.string m.2.1,.string m.2.2][j]?=some v):ay E t b off H=some v:=by
 subst ho
 exact d7 ha hb ((EE (KQ hi).1 hj).trans hv)
theorem CU {b off i:Nat} {H:U} {ns:List ByteArray} {e t:TypeId} {ro:Bool} {s:ByteArray} (ha:E.agg t=some false) (hb:H.get b=some (.cells (eH ns) e ro)) (hi:ns[i]?=some s) (ho:off=i*1):ay E t b off H=some (.string s):=by
 subst ho
 refine d7 ha hb ?_
 rw [Nat.mul_one,eH,List.getElem?_map,hi];rfl
theorem lb {α:Type} {l:List α} {i:Nat} {a:α} (h:l[i]?=some a):a∈l:=List.mem_of_getElem? h
def mx (x y:Int):Int:=if y>x then y else x
mutual
def gZ:aw→Int
 |.mk f ms ns kids=>pN kids (jv (jv (1+(f.nm:Nat))+(f.nn:Nat)))
def pN:List aw→Int→Int
 |[],n=>n
 |x::xs,n=>if n≤300 then pN xs (jv (n+gZ x)) else n
end
theorem Hc (x:aw):gZ x=pN x.kids (jv (jv (1+(x.f.nm:Nat))+(x.f.nn:Nat))):=by cases x;rfl
theorem agL {kids:List aw} {i:Nat} {x:aw} {n:Int} (h:kids[i]?=some x) (hn:n≤300):pN (kids.drop i) n=pN (kids.drop (i+1)) (jv (n+gZ x)):=by
 rw [drop_cons h,pN,if_pos hn]
theorem S9 {kids:List aw} {i:Nat} {n:Int} (h:kids.length≤i∨¬ n≤300):pN (kids.drop i) n=n:=by
 rcases h with h |h
 ·rw [List.drop_of_length_le h];rfl
 ·cases kids.drop i with
  |nil=>rfl
  |cons=>rw [pN,if_neg h]
def it:List fS→Bool
 |[]=>true
 |m::ms=>!(decide ((m.2.2.size:Int)>250))&&!(decide ((m.2.1.size:Int)>400))&&it ms
def lf:List ByteArray→Bool
 |[]=>true
 |s::ns=>!(decide ((s.size:Int)>400))&&lf ns
mutual
def gN:aw→Bool
 |.mk f ms ns kids=>!(decide (gZ (.mk f ms ns kids)>300))&&(!(decide ((f.s.size:Int)>400))&&(it ms&&(lf ns&&mg kids)))
def mg:List aw→Bool
 |[]=>true
 |x::xs=>gN x&&mg xs
end
def eP (f:dZ):Int:=bif f.k != 6 then 4 else bif decide (f.op≤6) then 1 else bif decide (f.op≤8) then 2 else 3
theorem Tv (f:dZ):1≤eP f∧eP f≤4:=by
 unfold eP
 cases f.k != 6 <;> cases decide (f.op≤6) <;> cases decide (f.op≤8) <;> decide
def bump (f:dZ) (i:Nat) (k:dZ):Bool:=decide ((f.k=6∧((f.an:Nat):Int)=2∧eP k<eP f+i)∨(f.k=7∧((f.an:Nat):Int)=1∧k.k=6))
theorem tB {f k:dZ} {i:Nat} (h:(f.k=6∧(f.an:Int)=2∧eP k<eP f+i)∨(f.k=7∧(f.an:Int)=1∧k.k=6)):bump f i k=true:=decide_eq_true h
theorem nS {f k:dZ} {i:Nat} (h:¬ ((f.k=6∧(f.an:Int)=2∧eP k<eP f+i)∨(f.k=7∧(f.an:Int)=1∧k.k=6))):bump f i k=false:=decide_eq_false h
def uE (f:dZ):Bool:=f.k==6&&((f.an:Nat):Int)==2
mutual
def di:aw→Int
 |.mk f ms ns kids=>bif decide (f.k<4) then 0 else bif decide (f.k>7) then 0 else bif uE f then iZ f 0 kids 0 else jv (iZ f 0 kids 0+1)
def iZ (f:dZ):Nat→List aw→Int→Int
 |_,[],m=>m
 |i,x::xs,m=>iZ f (i+1) xs (mx m (bif bump f i x.f then jv (di x+1) else di x))
end
theorem kU (x:aw):di x=bif decide (x.f.k<4) then 0 else bif decide (x.f.k>7) then 0 else bif uE x.f then iZ x.f 0 x.kids 0 else jv (iZ x.f 0 x.kids 0+1):=by cases x;rfl
theorem un {f:dZ} {kids:List aw} {i:Nat} {x:aw} {m R:Int} (h:kids[i]?=some x) (hR:iZ f i (kids.drop i) m=R) (hb:bump f i x.f=true):iZ f (i+1) (kids.drop (i+1)) (mx m (jv (di x+1)))=R:=by
 rw [drop_cons h,iZ,hb] at hR;exact hR
theorem n3 {f:dZ} {kids:List aw} {i:Nat} {x:aw} {m R:Int} (h:kids[i]?=some x) (hR:iZ f i (kids.drop i) m=R) (hb:bump f i x.f=false):iZ f (i+1) (kids.drop (i+1)) (mx m (di x))=R:=by
 rw [drop_cons h,iZ,hb] at hR;exact hR
theorem Q1 {f:dZ} {kids:List aw} {i:Nat} {m:Int} (h:kids.length≤i):iZ f i (kids.drop i) m=m:=by rw [List.drop_of_length_le h];rfl
theorem uk {x y:Int} (h:y>x):mx x y=y:=if_pos h
theorem um {x y:Int} (h:¬ y>x):mx x y=x:=if_neg h
theorem n9 (x:aw):gN x=(!(decide (gZ x>300))&&(!(decide ((x.f.s.size:Int)>400))&&(it x.ms&&(lf x.ns&&mg x.kids)))):=by cases x;rfl
theorem QT {ms:List fS} {i:Nat} {m:fS} {R:Bool} (h:ms[i]?=some m) (hR:it (ms.drop i)=R) (h1:decide ((m.2.2.size:Int)>250)=false) (h2:decide ((m.2.1.size:Int)>400)=false):it (ms.drop (i+1))=R:=by
 rw [drop_cons h,it,h1,h2] at hR;exact hR
theorem QQ {ms:List fS} {i:Nat} {m:fS} {R:Bool} (h:ms[i]?=some m) (hR:it (ms.drop i)=R) (h1:decide ((m.2.2.size:Int)>250)=true):R=false:=by
 rw [drop_cons h,it,h1] at hR;exact hR.symm
theorem QR {ms:List fS} {i:Nat} {m:fS} {R:Bool} (h:ms[i]?=some m) (hR:it (ms.drop i)=R) (h1:decide ((m.2.2.size:Int)>250)=false) (h2:decide ((m.2.1.size:Int)>400)=true):R=false:=by
 rw [drop_cons h,it,h1,h2] at hR;exact hR.symm
theorem QS {ms:List fS} {i:Nat} {R:Bool} (hR:it (ms.drop i)=R) (h:ms.length≤i):R=true:=by rw [List.drop_of_length_le h] at hR;exact hR.symm
theorem adH {ns:List ByteArray} {i:Nat} {s:ByteArray} {R:Bool} (h:ns[i]?=some s) (hR:lf (ns.drop i)=R) (h1:decide ((s.size:Int)>400)=false):lf (ns.drop (i+1))=R:=by
 rw [drop_cons h,lf,h1] at hR;exact hR
theorem adF {ns:List ByteArray} {i:Nat} {s:ByteArray} {R:Bool} (h:ns[i]?=some s) (hR:lf (ns.drop i)=R) (h1:decide ((s.size:Int)>400)=true):R=false:=by
 rw [drop_cons h,lf,h1] at hR;exact hR.symm
theorem adG {ns:List ByteArray} {i:Nat} {R:Bool} (hR:lf (ns.drop i)=R) (h:ns.length≤i):R=true:=by rw [List.drop_of_length_le h] at hR;exact hR.symm
theorem agG {kids:List aw} {i:Nat} {x:aw} {R:Bool} (h:kids[i]?=some x) (hR:mg (kids.drop i)=R) (h1:gN x=true):mg (kids.drop (i+1))=R:=by
 rw [drop_cons h,mg,h1] at hR;exact hR
theorem agE {kids:List aw} {i:Nat} {x:aw} {R:Bool} (h:kids[i]?=some x) (hR:mg (kids.drop i)=R) (h1:gN x=false):R=false:=by
 rw [drop_cons h,mg,h1] at hR;exact hR.symm
theorem agF {kids:List aw} {i:Nat} {R:Bool} (hR:mg (kids.drop i)=R) (h:kids.length≤i):R=true:=by rw [List.drop_of_length_le h] at hR;exact hR.symm
theorem gz {t e sz:Nat} {p:Option Addr} {n c b:Nat} {i:Int} (hu:E.ul t=some (.slice e)) (hs:E.size e=some sz) (hp:p=some ⟨b,0,none⟩) (h0:0≤i) (h1:i<(n:Int)):fE E t (.slice p n c) (J i)=some (pt b (0+i.toNat*sz)):=by
 simp only [fE,hu,hp,hs,decide_eq_true h0,decide_eq_true h1,Bool.and_self,cond_true]
noncomputable abbrev pK H f:=news H [O (ae f) 27]
theorem TL (f:dZ) (X:U) (hx:aa E G X) {H:U} (y:aa E X H):aI E X 38 [.agg (ae f).toArray] H [] (fun v H'=>v=J (eP f)):=by
 refine br Tryz.f38 y ?_
 refine Z 3 (aR (pK H f) 0 0 aJ)<|iD 0 f.k 6 ?_ ?_ <;> intro h1 q1
 ·exact al 2 (J 4) (pK H f) (by rw [eP,h1];rfl)
 refine Z 2 (aR (pK H f) 0 1 aJ)<|aO 0 (f.op≤6) ?_ ?_ <;> intro h2 cw
 ·exact al 2 (J 1) (pK H f) (by rw [eP,h1,h2];rfl)
 refine Z 2 (aR (pK H f) 0 1 aJ)<|aO 0 (f.op≤8) ?_ ?_ <;> intro h3 dv
 ·exact al 2 (J 2) (pK H f) (by rw [eP,h1,h2,h3];rfl)
 exact al 2 (J 3) (pK H f) (by rw [eP,h1,h2,h3];rfl)
theorem GO (f:dZ) (X:U) (hx:aa E G X) {H:U} (y:aa E X H):aI E X 28 [.agg (ae f).toArray] H [] (fun v H'=>v=J (eP f)):=by
 refine br Tryz.f28 y ?_
 refine Z 3 (aR (pK H f) 0 0 aJ)<|iD 0 f.k 6 ?_ ?_ <;> intro h1 q1
 ·exact al 1 (J 4) (pK H f) (by rw [eP,h1];rfl)
 refine Z 1 (aR (pK H f) 0 1 aJ)<|aO 0 (f.op≤6) ?_ ?_ <;> intro h2 cw
 ·exact al 1 (J 1) (pK H f) (by rw [eP,h1,h2];rfl)
 refine Z 1 (aR (pK H f) 0 1 aJ)<|aO 0 (f.op≤8) ?_ ?_ <;> intro h3 dv
 ·exact al 1 (J 2) (pK H f) (by rw [eP,h1,h2,h3];rfl)
 exact al 1 (J 3) (pK H f) (by rw [eP,h1,h2,h3];rfl)
noncomputable def Xj:Code:=cN [1,1,0,1,0,0] (cH Tryz.f12)
theorem agM (x:aw) (X:U) (hx:aa E G X) (a:dG X x) (gr:∀ k∈x.kids,∀{H:U},aa E X H→aI E X 12 [.agg (ae k.f).toArray] H [] (fun v _=>v=J (gZ k))) (bw:Nat) (R:Int):∀(m:Nat) (aD:Int) (aA:Int) (H:U),aa E X H→(kb:H.get bw=some (O (ae x.f) 27))→(x0:0≤aA)→(hR:pN (x.kids.drop aA.toNat) aD=R)→((x.f.an:Int)-aA).toNat=m→
  cy E X 33 Xj [(1,pt bw 0),(3,J aD),(4,J aA)] H [] (fun eI T H'=>(eI=(.exit 0)∧∃(o7:Int),T=bl [(3,J o7)]∧(R=o7))):=by
 refine d8 fun m ih=>?_
 intro aD aA H y kb x0 hR hm
 have lL:=a.lL
 refine c9 y ?_
 refine Z 2 (ag 12 dK kb)<|aO 1 (aA<(x.f.an:Int)) ?_ ?_ <;> intro h1 q1
 ·refine aO 2 (aD≤300) ?_ ?_ <;> intro h2 cw
  ·obtain ⟨d1,jC,t1,eE,dh⟩:=a.rk.open D
   have eG:=hx.wf.lt dh
   obtain ⟨au,m2⟩:=a.ua (i:=aA.toNat) D
   obtain ⟨_,H1,c1,af,y1,rfl⟩:=gr au (lb m2) y
   have fz:=y.kept af ai kb
   exact Z 3 (ag 12 dK kb)<|et 1 H (gz jS bH eE D D:fE E 25 (.slice x.f.pk x.f.an x.f.ak) (J aA)=some (pt d1 (0+aA.toNat*13)))<|Z 0 (kR cv bH (y.cell dh eG) m2 D:ay E 27 d1 (0+aA.toNat*13) H=some (.agg (ae au.f).toArray))<|ad 0 c1<|ap 3 (aA+1)<|dU 1 [(1,pt bw 0),(3,J (IntKind.i64.wrap (aD+(gZ au)))),(4,J (aA+1))] H1 (ih _ D (IntKind.i64.wrap (aD+(gZ au))) (aA+1) _ y1 fz D (by rw [fR D];exact (agL m2 D).symm.trans hR) rfl)
  exact dF 1 [(3,J aD)] (.exit 0) H ⟨rfl,aD,rfl,hR.symm.trans (S9 (by have:=a.an;omega))⟩
 exact dF 2 [(3,J aD)] (.exit 0) H ⟨rfl,aD,rfl,hR.symm.trans (S9 (by have:=a.an;omega))⟩
theorem agN (x:aw) (X:U) (hx:aa E G X) (a:dG X x) (gr:∀ k∈x.kids,∀{H:U},aa E X H→aI E X 12 [.agg (ae k.f).toArray] H [] (fun v _=>v=J (gZ k))) {H:U} (y:aa E X H):aI E X 12 [.agg (ae x.f).toArray] H [] (fun v H'=>v=J (gZ x)):=by
 refine br Tryz.f12 y ?_
 obtain ⟨_,_,H1,c1,af,y1,rfl,mr,rfl,cM⟩:=(agM x X hx a gr (H.n+0) (pN (x.kids.drop 0) (IntKind.i64.wrap ((IntKind.i64.wrap (1+(x.f.nm:Int)))+(x.f.nn:Int)))) _ (IntKind.i64.wrap ((IntKind.i64.wrap (1+(x.f.nm:Int)))+(x.f.nn:Int))) 0 _ (y.news [O (ae x.f) 27]) (aL [O (ae x.f) 27] H 0 _ rfl) D rfl rfl).code
 exact Z 3 (aR (news H [O (ae x.f) 27]) 0 4 jI)<|Z 3 (aR (news H [O (ae x.f) 27]) 0 10 iI)<|bW 4 c1<|al 2 (J mr) H1 (congrArg J (cM.symm.trans (Hc x).symm))
theorem treeSize (x:aw) (X:U) (hx:aa E G X) (hs:gm X x):∀{H:U},aa E X H→aI E X 12 [.agg (ae x.f).toArray] H [] (fun v _=>v=J (gZ x)):=by
 induction hs with
 |@mk x a hk ih=>exact fun y=>agN x X hx a (fun k hk=>ih k hk) y
noncomputable def Wu:Code:=cN [1,0,1,0,0] (cH Tryz.f13)
theorem adf (x:aw) (X:U) (hx:aa E G X) (a:dG X x) (R:Bool):∀(m:Nat) (aD:Int) (H:U),aa E X H→(x0:0≤aD)→(hR:it (x.ms.drop aD.toNat)=R)→((x.f.nm:Int)-aD).toNat=m→
  cy E X 29 Wu [(0,.slice x.f.pm x.f.nm x.f.bj),(3,J aD)] H [] (fun eI T H'=>(eI=(.exit 0)∧T=bl [(0,.slice x.f.pm x.f.nm x.f.bj)]∧(R=true))∨(eI=.ret∧T=bl [(2,Y)]∧(R=false))):=by
 refine d8 fun m ih=>?_
 intro aD H y x0 hR hm
 have bm:=a.bm
 refine c9 y ?_
 refine aO 3 (aD<(x.f.nm:Int)) ?_ ?_ <;> intro h1 q1
 ·obtain ⟨d1,jC,t1,eE,dh⟩:=a.wx.open D
  have eG:=hx.wf.lt dh
  obtain ⟨au,m2⟩:=a.xQ (i:=aD.toNat) D
  refine et 2 H (gz tg qo eE D D:fE E 23 (.slice x.f.pm x.f.nm x.f.bj) (J aD)=some (pt d1 (0+aD.toNat*3)))<|Z 1 (show ay E 9 d1 ((0+aD.toNat*3)+2) H=some (.string au.2.2) from FI (j:=2) ct (y.cell dh eG) m2 (by decide) D rfl)<|aO 1 ((au.2.2.size:Int)>250) ?_ ?_ <;> intro h2 cw
  ·exact dF 3 [(2,Y)] .ret H (.inr ⟨rfl,rfl,QQ m2 hR h2⟩)
  refine et 3 H (gz tg qo eE D D:fE E 23 (.slice x.f.pm x.f.nm x.f.bj) (J aD)=some (pt d1 (0+aD.toNat*3)))<|Z 1 (show ay E 9 d1 ((0+aD.toNat*3)+1) H=some (.string au.2.1) from FI (j:=1) ct (y.cell dh eG) m2 (by decide) D rfl)<|aO 1 ((au.2.1.size:Int)>400) ?_ ?_ <;> intro h3 dv
  ·exact dF 2 [(2,Y)] .ret H (.inr ⟨rfl,rfl,QR m2 hR h2 h3⟩)
  exact ap 2 (aD+1)<|dU 1 [(0,.slice x.f.pm x.f.nm x.f.bj),(3,J (aD+1))] H (ih _ D (aD+1) _ y D (by rw [fR D];exact (QT m2 hR h2 h3)) rfl)
 exact dF 0 [(0,.slice x.f.pm x.f.nm x.f.bj)] (.exit 0) H (.inl ⟨rfl,rfl,QS hR (by have:=a.nm;omega)⟩)
theorem afs (x:aw) (X:U) (hx:aa E G X) (a:dG X x) {H:U} (y:aa E X H):aI E X 13 [.slice x.f.pm x.f.nm x.f.bj] H [] (fun v H'=>v=.bool (it x.ms&&decide ((x.f.nm:Int)≤10))):=by
 refine br Tryz.f13 y ?_
 obtain ⟨_,_,H1,c1,af,y1,b7⟩:=(adf x X hx a (it (x.ms.drop 0)) _ 0 _ y D rfl rfl).code
 rcases b7 with ⟨rfl,rfl,cM⟩ |⟨rfl,rfl,cM⟩
 ·refine bW 2 c1<|aO 2 ((x.f.nm:Int)≤10) ?_ ?_ <;> intro h2 cw
  ·exact al 1 aN H1 (by rw [show it x.ms=_ from cM,h2] <;> rfl)
  exact al 1 Y H1 (by rw [show it x.ms=_ from cM,h2] <;> rfl)
 exact bW 2 c1<|al 0 Y H1 (by rw [show it x.ms=_ from cM] <;> rfl)
noncomputable def Wv:Code:=cN [1,1,0,1,0,0] (cH Tryz.f5)
theorem QP (x:aw) (X:U) (hx:aa E G X) (a:dG X x) (bw:Nat) (R:Bool):∀(m:Nat) (aD:Int) (H:U),aa E X H→(kb:H.get bw=some (O (ae x.f) 27))→(x0:0≤aD)→(hR:it (x.ms.drop aD.toNat)=R)→((x.f.nm:Int)-aD).toNat=m→
  cy E X 80 Wv [(1,pt bw 0),(3,J aD)] H [] (fun eI T H'=>(eI=(.exit 0)∧T=bl [(1,pt bw 0)]∧(R=true))∨(eI=.ret∧T=bl [(2,Y)]∧(R=false))):=by
 refine d8 fun m ih=>?_
 intro aD H y kb x0 hR hm
 have bm:=a.bm
 refine c9 y ?_
 refine Z 2 (ag 4 jI kb)<|aO 1 (aD<(x.f.nm:Int)) ?_ ?_ <;> intro h1 q1
 ·obtain ⟨d1,jC,t1,eE,dh⟩:=a.wx.open D
  have eG:=hx.wf.lt dh
  obtain ⟨au,m2⟩:=a.xQ (i:=aD.toNat) D
  refine Z 1 (ag 4 jI kb)<|et 1 H (gz tg qo eE D D:fE E 23 (.slice x.f.pm x.f.nm x.f.bj) (J aD)=some (pt d1 (0+aD.toNat*3)))<|Z 1 (show ay E 9 d1 ((0+aD.toNat*3)+2) H=some (.string au.2.2) from FI (j:=2) ct (y.cell dh eG) m2 (by decide) D rfl)<|aO 1 ((au.2.2.size:Int)>250) ?_ ?_ <;> intro h2 cw
  ·exact dF 3 [(2,Y)] .ret H (.inr ⟨rfl,rfl,QQ m2 hR h2⟩)
  refine Z 2 (ag 4 jI kb)<|et 1 H (gz tg qo eE D D:fE E 23 (.slice x.f.pm x.f.nm x.f.bj) (J aD)=some (pt d1 (0+aD.toNat*3)))<|Z 1 (show ay E 9 d1 ((0+aD.toNat*3)+1) H=some (.string au.2.1) from FI (j:=1) ct (y.cell dh eG) m2 (by decide) D rfl)<|aO 1 ((au.2.1.size:Int)>400) ?_ ?_ <;> intro h3 dv
  ·exact dF 2 [(2,Y)] .ret H (.inr ⟨rfl,rfl,QR m2 hR h2 h3⟩)
  exact ap 2 (aD+1)<|dU 1 [(1,pt bw 0),(3,J (aD+1))] H (ih _ D (aD+1) _ y kb D (by rw [fR D];exact (QT m2 hR h2 h3)) rfl)
 exact dF 0 [(1,pt bw 0)] (.exit 0) H (.inl ⟨rfl,rfl,QS hR (by have:=a.nm;omega)⟩)
noncomputable def Wy:Code:=cN [1,1,1,0,1,0,0] (cH Tryz.f5)
theorem Rq (x:aw) (X:U) (hx:aa E G X) (a:dG X x) (bw:Nat) (R:Bool):∀(m:Nat) (aA:Int) (H:U),aa E X H→(kb:H.get bw=some (O (ae x.f) 27))→(x0:0≤aA)→(hR:lf (x.ns.drop aA.toNat)=R)→((x.f.nn:Int)-aA).toNat=m→
  cy E X 80 Wy [(1,pt bw 0),(4,J aA)] H [] (fun eI T H'=>(eI=(.exit 2)∧T=bl [(1,pt bw 0)]∧(R=true))∨(eI=.ret∧T=bl [(2,Y)]∧(R=false))):=by
 refine d8 fun m ih=>?_
 intro aA H y kb x0 hR hm
 have fm:=a.fm
 refine c9 y ?_
 refine Z 2 (ag 10 iI kb)<|aO 1 (aA<(x.f.nn:Int)) ?_ ?_ <;> intro h1 q1
 ·obtain ⟨d1,jC,t1,eE,dh⟩:=a.rn.open D
  have eG:=hx.wf.lt dh
  obtain ⟨au,m2⟩:=a.FK (i:=aA.toNat) D
  refine Z 1 (ag 10 iI kb)<|et 1 H (gz Dx oW eE D D:fE E 24 (.slice x.f.bf x.f.nn x.f.bg) (J aA)=some (pt d1 (0+aA.toNat*1)))<|Z 0 (CU ct (y.cell dh eG) m2 D:ay E 9 d1 (0+aA.toNat*1) H=some (.string au))<|aO 1 ((au.size:Int)>400) ?_ ?_ <;> intro h2 cw
  ·exact dF 1 [(2,Y)] .ret H (.inr ⟨rfl,rfl,adF m2 hR h2⟩)
  exact ap 1 (aA+1)<|dU 1 [(1,pt bw 0),(4,J (aA+1))] H (ih _ D (aA+1) _ y kb D (by rw [fR D];exact (adH m2 hR h2)) rfl)
 exact dF 0 [(1,pt bw 0)] (.exit 2) H (.inl ⟨rfl,rfl,adG hR (by have:=a.nn;omega)⟩)
noncomputable def Wj:Code:=cN [1,1,1,1,0,1,0,0] (cH Tryz.f5)
theorem P7 (x:aw) (X:U) (hx:aa E G X) (a:dG X x) (gr:∀ k∈x.kids,∀{H:U},aa E X H→aI E X 5 [.agg (ae k.f).toArray] H [] (fun v _=>v=.bool (gN k))) (bw:Nat) (R:Bool):∀(m:Nat) (aE:Int) (H:U),aa E X H→(kb:H.get bw=some (O (ae x.f) 27))→(x0:0≤aE)→(hR:mg (x.kids.drop aE.toNat)=R)→((x.f.an:Int)-aE).toNat=m→
  cy E X 80 Wj [(1,pt bw 0),(5,J aE)] H [] (fun eI T H'=>(eI=(.exit 4)∧T=bl []∧(R=true))∨(eI=.ret∧T=bl [(2,Y)]∧(R=false))):=by
 refine d8 fun m ih=>?_
 intro aE H y kb x0 hR hm
 have lL:=a.lL
 refine c9 y ?_
 refine Z 2 (ag 12 dK kb)<|aO 1 (aE<(x.f.an:Int)) ?_ ?_ <;> intro h1 q1
 ·obtain ⟨d1,jC,t1,eE,dh⟩:=a.rk.open D
  have eG:=hx.wf.lt dh
  obtain ⟨au,m2⟩:=a.ua (i:=aE.toNat) D
  obtain ⟨_,H1,c1,af,y1,b7⟩:=fh (gr au (lb m2) y)
  refine Z 1 (ag 12 dK kb)<|et 1 H (gz jS bH eE D D:fE E 25 (.slice x.f.pk x.f.an x.f.ak) (J aE)=some (pt d1 (0+aE.toNat*13)))<|Z 0 (kR cv bH (y.cell dh eG) m2 D:ay E 27 d1 (0+aE.toNat*13) H=some (.agg (ae au.f).toArray))<|?_
  rcases b7 with ⟨rfl,cq⟩ |⟨rfl,cq⟩
  ·have fz:=y.kept af ai kb
   exact ad 0 c1<|ap 2 (aE+1)<|dU 1 [(1,pt bw 0),(5,J (aE+1))] H1 (ih _ D (aE+1) _ y1 fz D (by rw [fR D];exact (agG m2 hR cq)) rfl)
  exact ad 0 c1<|dF 2 [(2,Y)] .ret H1 (.inr ⟨rfl,rfl,agE m2 hR cq⟩)
 exact dF 0 [] (.exit 4) H (.inl ⟨rfl,rfl,agF hR (by have:=a.an;omega)⟩)
theorem ade {x:aw} (h1:(it x.ms&&decide ((x.f.nm:Int)≤10))=false) (h2:decide ((x.f.nm:Int)≤10)=true):it x.ms=false:=by
 rw [h2,Bool.and_true] at h1;exact h1
theorem agH (x:aw) (X:U) (hx:aa E G X) (a:dG X x) (hs:gm X x) (gr:∀ k∈x.kids,∀{H:U},aa E X H→aI E X 5 [.agg (ae k.f).toArray] H [] (fun v _=>v=.bool (gN k))) {H:U} (y:aa E X H):aI E X 5 [.agg (ae x.f).toArray] H [] (fun v H'=>v=.bool (gN x)):=by
 refine br Tryz.f5 y ?_
 obtain ⟨_,H1,c1,af,y1,rfl⟩:=treeSize x X hx hs (y.news [O (ae x.f) 27])
 have aP:=(y.news [O (ae x.f) 27]).kept af ai (aL [O (ae x.f) 27] H 0 _ rfl)
 refine Z 2 (dy cv bH rfl rfl rfl:ay E 27 (H.n+0) 0 (news H [O (ae x.f) 27])=some (.agg (ae x.f).toArray))<|ad 0 c1<|aO 0 ((gZ x)>300) ?_ ?_ <;> intro h1 q1
 ·exact al 5 Y H1 (by rw [n9,h1];rfl)
 refine Z 2 (ag 3 ct aP)<|aO 1 ((x.f.s.size:Int)>400) ?_ ?_ <;> intro h2 cw
 ·exact al 4 Y H1 (by rw [n9,h1,h2];rfl)
 obtain ⟨_,H2,c2,ar,ah,dC⟩:=fh (afs x X hx a y1)
 refine Z 3 (ag 4 jI aP)<|?_
 rcases dC with ⟨rfl,cJ⟩ |⟨rfl,cJ⟩
 ·have cL:=y1.kept ar ai aP
  obtain ⟨_,_,H3,c3,aW,az,fo⟩:=(QP x X hx a (H.n+0) (it (x.ms.drop 0)) _ 0 _ ah cL D rfl rfl).code
  refine ad 0 c2<|?_
  rcases fo with ⟨rfl,rfl,kD⟩ |⟨rfl,rfl,kD⟩
  ·have ei:=ah.kept aW ai cL
   obtain ⟨_,_,H4,cY,c4,bz,nv⟩:=(Rq x X hx a (H.n+0) (lf (x.ns.drop 0)) _ 0 _ az ei D rfl rfl).code
   refine bW 5 c3<|?_
   rcases nv with ⟨rfl,rfl,n8⟩ |⟨rfl,rfl,n8⟩
   ·have ir:=az.kept c4 ai ei
    obtain ⟨_,_,H5,dz,cV,cG,oN⟩:=(P7 x X hx a gr (H.n+0) (mg (x.kids.drop 0)) _ 0 _ bz ir D rfl rfl).code
    refine bW 1 cY<|?_
    rcases oN with ⟨rfl,rfl,uy⟩ |⟨rfl,rfl,uy⟩
    ·exact bW 1 dz<|al 1 aN H5 (by rw [n9,h1,h2,show it x.ms=_ from kD,show lf x.ns=_ from n8,show mg x.kids=_ from uy];rfl)
    exact bW 1 dz<|al 0 Y H5 (by rw [n9,h1,h2,show it x.ms=_ from kD,show lf x.ns=_ from n8,show mg x.kids=_ from uy];rfl)
   exact bW 1 cY<|al 0 Y H4 (by rw [n9,h1,h2,show it x.ms=_ from kD,show lf x.ns=_ from n8];rfl)
  exact bW 5 c3<|al 0 Y H3 (by rw [n9,h1,h2,show it x.ms=_ from kD];rfl)
 have cL:=y1.kept ar ai aP
 refine ad 0 c2<|Z 3 (ag 4 jI cL)<|aO 1 ((x.f.nm:Int)≤10) ?_ ?_ <;> intro h4 dT
 ·exact al 3 Y H2 (by rw [n9,h1,h2,ade cJ h4];rfl)
 obtain ⟨_,_,H3,c3,aW,az,fo⟩:=(QP x X hx a (H.n+0) (it (x.ms.drop 0)) _ 0 _ ah cL D rfl rfl).code
 rcases fo with ⟨rfl,rfl,kD⟩ |⟨rfl,rfl,kD⟩
 ·have ei:=ah.kept aW ai cL
  obtain ⟨_,_,H4,cY,c4,bz,nv⟩:=(Rq x X hx a (H.n+0) (lf (x.ns.drop 0)) _ 0 _ az ei D rfl rfl).code
  refine bW 3 c3<|?_
  rcases nv with ⟨rfl,rfl,n8⟩ |⟨rfl,rfl,n8⟩
  ·have ir:=az.kept c4 ai ei
   obtain ⟨_,_,H5,dz,cV,cG,oN⟩:=(P7 x X hx a gr (H.n+0) (mg (x.kids.drop 0)) _ 0 _ bz ir D rfl rfl).code
   refine bW 1 cY<|?_
   rcases oN with ⟨rfl,rfl,uy⟩ |⟨rfl,rfl,uy⟩
   ·exact bW 1 dz<|al 1 aN H5 (by rw [n9,h1,h2,show it x.ms=_ from kD,show lf x.ns=_ from n8,show mg x.kids=_ from uy];rfl)
   exact bW 1 dz<|al 0 Y H5 (by rw [n9,h1,h2,show it x.ms=_ from kD,show lf x.ns=_ from n8,show mg x.kids=_ from uy];rfl)
  exact bW 1 cY<|al 0 Y H4 (by rw [n9,h1,h2,show it x.ms=_ from kD,show lf x.ns=_ from n8];rfl)
 exact bW 3 c3<|al 0 Y H3 (by rw [n9,h1,h2,show it x.ms=_ from kD];rfl)
theorem ahR (x:aw) (X:U) (hx:aa E G X) (hs:gm X x):∀{H:U},aa E X H→aI E X 5 [.agg (ae x.f).toArray] H [] (fun v _=>v=.bool (gN x)):=by
 induction hs with
 |@mk x a hk ih=>exact fun y=>agH x X hx a (.mk a hk) (fun k hk=>ih k hk) y
theorem TN {f:dZ} (h:f.k=6∧(f.an:Int)=2):uE f=true:=by
 rw [uE,beq_iff_eq.2 h.1,beq_iff_eq.2 h.2];rfl
theorem AL {f:dZ} (h:¬ (f.k=6∧(f.an:Int)=2)):uE f=false:=by
 cases ht:uE f with
 |false=>rfl
 |true=>
  rw [uE,dI,beq_iff_eq,beq_iff_eq] at ht
  exact absurd ht h
noncomputable abbrev fA H (x:aw):=news H [O (ae x.f) 27]
theorem Hx (x:aw) (X:U) (hx:aa E G X) (a:dG X x) (k:Int) (c:aw) {H:U} (y:aa E X H) (rB:0≤k) (j1:k<(x.f.an:Int)) (mk:x.kids[k.toNat]?=some c):aI E X 18 [.agg (ae x.f).toArray,J k] H [] (fun v H'=>v=.bool (decide (eP c.f<eP x.f+k))):=by
 refine br Tryz.f18 y ?_
 have lL:=a.lL
 obtain ⟨d1,jC,t1,eE,dh⟩:=a.rk.open D
 have eG:=hx.wf.lt dh
 have Mh:=Tv c.f
 obtain ⟨_,H1,c1,af,y1,rfl⟩:=TL c.f X hx (y.news [O (ae x.f) 27])
 have aP:=(y.news [O (ae x.f) 27]).kept af ai (aL [O (ae x.f) 27] H 0 _ rfl)
 have SX:=Tv x.f
 obtain ⟨_,H2,c2,ar,ah,rfl⟩:=TL x.f X hx y1
 rcases ep (decide ((eP c.f)<((eP x.f)+k))) with h1 |h1
 ·have q1:=gb h1
  exact aK [aB 1]<|Z 1 (aR (fA H x) 0 12 dK)<|et 1 (fA H x) (gz jS bH eE D D:fE E 25 (.slice x.f.pk x.f.an x.f.ak) (J k)=some (pt d1 (0+k.toNat*13)))<|Z 0 (kR cv bH ((y.news [O (ae x.f) 27]).cell dh eG) mk D:ay E 27 d1 (0+k.toNat*13) (fA H x)=some (.agg (ae c.f).toArray))<|ad 0 c1<|Z 0 (cg cv bH aP rfl rfl:ay E 27 (H.n+0) 0 H1=some (.agg (ae x.f).toArray))<|ad 0 c2<|ap 1 ((eP x.f)+k)<|aH 0 h1<|al 1 aN H2 (by rw [h1])
 have q1:=gl h1
 exact aK [aB 1]<|Z 1 (aR (fA H x) 0 12 dK)<|et 1 (fA H x) (gz jS bH eE D D:fE E 25 (.slice x.f.pk x.f.an x.f.ak) (J k)=some (pt d1 (0+k.toNat*13)))<|Z 0 (kR cv bH ((y.news [O (ae x.f) 27]).cell dh eG) mk D:ay E 27 d1 (0+k.toNat*13) (fA H x)=some (.agg (ae c.f).toArray))<|ad 0 c1<|Z 0 (cg cv bH aP rfl rfl:ay E 27 (H.n+0) 0 H1=some (.agg (ae x.f).toArray))<|ad 0 c2<|ap 1 ((eP x.f)+k)<|aH 0 h1<|al 1 Y H2 (by rw [h1])
noncomputable def Wx:Code:=cN [1,1,1,1,0,1,0,0] (cH Tryz.f8)
theorem CG (x:aw) (X:U) (hx:aa E G X) (a:dG X x) (gr:∀ k∈x.kids,∀{H:U},aa E X H→aI E X 8 [.agg (ae k.f).toArray] H [] (fun v _=>v=J (di k))) (bw:Nat) (AM:Bool) (z8:Bool) (j2:AM=true→x.f.k=6∧(x.f.an:Int)=2) (aau:AM=false→¬ (x.f.k=6∧(x.f.an:Int)=2)) (j1:z8=true→x.f.k=7∧(x.f.an:Int)=1) (PW:z8=false→¬ (x.f.k=7∧(x.f.an:Int)=1)) (R:Int):∀(m:Nat) (aD:Int) (iw:Int) (H:U),aa E X H→(kb:H.get bw=some (O (ae x.f) 27))→(x0:0≤iw)→(hR:iZ x.f iw.toNat (x.kids.drop iw.toNat) aD=R)→((x.f.an:Int)-iw).toNat=m→
  cy E X 69 Wx [(1,pt bw 0),(3,J aD),(4,.bool AM),(5,.bool z8),(36,.slice x.f.pk x.f.an x.f.ak),(37,J (x.f.an:Int)),(38,J iw)] H [] (fun eI T H'=>(eI=(.exit 0)∧∃(o7:Int),T=bl [(3,J o7),(4,.bool AM)]∧(R=o7))):=by
 refine d8 fun m ih=>?_
 intro aD iw H y kb x0 hR hm
 have lL:=a.lL
 refine c9 y ?_
 refine aO 0 (iw<(x.f.an:Int)) ?_ ?_ <;> intro h1 q1
 ·obtain ⟨d1,jC,t1,eE,dh⟩:=a.rk.open D
  have eG:=hx.wf.lt dh
  obtain ⟨au,m2⟩:=a.ua (i:=iw.toNat) D
  obtain ⟨_,H1,c1,af,y1,rfl⟩:=gr au (lb m2) (y.news [O (ae au.f) 27])
  have cI:=dA af
  have aP:=(y.news [O (ae au.f) 27]).kept af ai (aL [O (ae au.f) 27] H 0 _ rfl)
  refine et 1 H (gz jS bH eE D D:fE E 25 (.slice x.f.pk x.f.an x.f.ak) (J iw)=some (pt d1 (0+iw.toNat*13)))<|Z 0 (kR cv bH (y.cell dh eG) m2 D:ay E 27 d1 (0+iw.toNat*13) H=some (.agg (ae au.f).toArray))<|aC 2 (bT bH rfl rfl rfl rfl:bp E 27 (H.n+0) 0 (.agg (ae au.f).toArray) (news H [O [J 0,J 0,ax 0,.string ⟨#[]⟩,.slice none 0 0,J 0,J 0,Y,J 0,J 0,.slice none 0 0,Y,.slice none 0 0] 27])=some (news H [O (ae au.f) 27]))<|Z 0 (dy cv bH rfl rfl rfl:ay E 27 (H.n+0) 0 (news H [O (ae au.f) 27])=some (.agg (ae au.f).toArray))<|ad 0 c1<|?_
  cases AM with
  |true=>
   have e2:=j2 rfl
   have fz:=(y.news [O (ae au.f) 27]).kept af ai (y.old kb [O (ae au.f) 27])
   obtain ⟨_,H2,c2,ar,ah,dC⟩:=fh (Hx x X hx a iw au y1 D D m2)
   refine Z 3 (cg cv bH fz rfl rfl:ay E 27 bw 0 H1=some (.agg (ae x.f).toArray))<|?_
   rcases dC with ⟨rfl,cJ⟩ |⟨rfl,cJ⟩
   ·have cl:H1.n+0≤H2.n:=ar.n
    have aeS:=gb cJ
    have kQ:=y1.kept ar ai fz
    exact ad 1 c2<|ap 10 (iw+1)<|dY 1 [(1,pt bw 0),(3,J (mx aD (IntKind.i64.wrap ((di au)+1)))),(4,aN),(5,.bool z8),(36,.slice x.f.pk x.f.an x.f.ak),(37,J (x.f.an:Int)),(38,J (iw+1))] H2 [H.n+0] aQ (ih _ D (mx aD (IntKind.i64.wrap ((di au)+1))) (iw+1) _ ah kQ D (by rw [fR D];exact (un m2 hR (tB D))) rfl)
   have cl:H1.n+0≤H2.n:=ar.n
   have aeS:=gl cJ
   refine ad 1 c2<|?_
   cases z8 with
   |true=>
    have I0:=j1 rfl
    have cL:=y1.kept ar ai aP
    refine Z 5 (ag 0 aJ cL)<|cS 0 au.f.k 6 ?_ ?_ <;> intro h5 ff
    ·have kQ:=y1.kept ar ai fz
     exact ap 9 (iw+1)<|dY 1 [(1,pt bw 0),(3,J (mx aD (IntKind.i64.wrap ((di au)+1)))),(4,aN),(5,aN),(36,.slice x.f.pk x.f.an x.f.ak),(37,J (x.f.an:Int)),(38,J (iw+1))] H2 [H.n+0] aQ (ih _ D (mx aD (IntKind.i64.wrap ((di au)+1))) (iw+1) _ ah kQ D (by rw [fR D];exact (un m2 hR (tB D))) rfl)
    have kQ:=y1.kept ar ai fz
    exact ap 6 (iw+1)<|dY 1 [(1,pt bw 0),(3,J (mx aD (di au))),(4,aN),(5,aN),(36,.slice x.f.pk x.f.an x.f.ak),(37,J (x.f.an:Int)),(38,J (iw+1))] H2 [H.n+0] aQ (ih _ D (mx aD (di au)) (iw+1) _ ah kQ D (by rw [fR D];exact (n3 m2 hR (nS D))) rfl)
   |false=>
    have I0:=PW rfl
    have kQ:=y1.kept ar ai fz
    exact ap 10 (iw+1)<|dY 1 [(1,pt bw 0),(3,J (mx aD (di au))),(4,aN),(5,Y),(36,.slice x.f.pk x.f.an x.f.ak),(37,J (x.f.an:Int)),(38,J (iw+1))] H2 [H.n+0] aQ (ih _ D (mx aD (di au)) (iw+1) _ ah kQ D (by rw [fR D];exact (n3 m2 hR (nS D))) rfl)
  |false=>
   have e2:=aau rfl
   cases z8 with
   |true=>
    have I0:=j1 rfl
    refine Z 8 (ag 0 aJ aP)<|cS 0 au.f.k 6 ?_ ?_ <;> intro h4 dT
    ·have fz:=(y.news [O (ae au.f) 27]).kept af ai (y.old kb [O (ae au.f) 27])
     exact ap 9 (iw+1)<|dY 1 [(1,pt bw 0),(3,J (mx aD (IntKind.i64.wrap ((di au)+1)))),(4,Y),(5,aN),(36,.slice x.f.pk x.f.an x.f.ak),(37,J (x.f.an:Int)),(38,J (iw+1))] H1 [H.n+0] aQ (ih _ D (mx aD (IntKind.i64.wrap ((di au)+1))) (iw+1) _ y1 fz D (by rw [fR D];exact (un m2 hR (tB D))) rfl)
    have fz:=(y.news [O (ae au.f) 27]).kept af ai (y.old kb [O (ae au.f) 27])
    exact ap 6 (iw+1)<|dY 1 [(1,pt bw 0),(3,J (mx aD (di au))),(4,Y),(5,aN),(36,.slice x.f.pk x.f.an x.f.ak),(37,J (x.f.an:Int)),(38,J (iw+1))] H1 [H.n+0] aQ (ih _ D (mx aD (di au)) (iw+1) _ y1 fz D (by rw [fR D];exact (n3 m2 hR (nS D))) rfl)
   |false=>
    have I0:=PW rfl
    have fz:=(y.news [O (ae au.f) 27]).kept af ai (y.old kb [O (ae au.f) 27])
    exact ap 13 (iw+1)<|dY 1 [(1,pt bw 0),(3,J (mx aD (di au))),(4,Y),(5,Y),(36,.slice x.f.pk x.f.an x.f.ak),(37,J (x.f.an:Int)),(38,J (iw+1))] H1 [H.n+0] aQ (ih _ D (mx aD (di au)) (iw+1) _ y1 fz D (by rw [fR D];exact (n3 m2 hR (nS D))) rfl)
 exact dF 0 [(3,J aD),(4,.bool AM)] (.exit 0) H ⟨rfl,aD,rfl,hR.symm.trans (Q1 (by have:=a.an;omega))⟩
theorem adt (x:aw) (X:U) (hx:aa E G X) (a:dG X x) (gr:∀ k∈x.kids,∀{H:U},aa E X H→aI E X 8 [.agg (ae k.f).toArray] H [] (fun v _=>v=J (di k))) {H:U} (y:aa E X H):aI E X 8 [.agg (ae x.f).toArray] H [] (fun v H'=>v=J (di x)):=by
 refine br Tryz.f8 y ?_
 rcases ep (x.f.k==6) with h1 |h1
 ·have q1:=pu h1
  rcases ep ((x.f.an:Int)==2) with h2 |h2
  ·have cw:=pu h2
   refine aK [aB 2]<|Z 1 (aR (fA H x) 0 0 aJ)<|aH 0 h1<|Z 2 (aR (fA H x) 0 12 dK)<|aH 1 h2<|Z 2 (aR (fA H x) 0 0 aJ)<|aH 0 (beq_eq_false_iff_ne.2 D:(x.f.k==7)=false)<|Z 5 (aR (fA H x) 0 0 aJ)<|aO 0 (x.f.k<4) ?_ ?_ <;> intro h3 dv
   ·exact al 3 (J 0) (fA H x) (by rw [kU,h3];rfl)
   refine Z 2 (aR (fA H x) 0 0 aJ)<|aO 0 (x.f.k>7) ?_ ?_ <;> intro h4 dT
   ·exact al 2 (J 0) (fA H x) (by rw [kU,h3,h4];rfl)
   obtain ⟨_,_,H1,c1,af,y1,rfl,mr,rfl,cM⟩:=(CG x X hx a gr (H.n+0) true false (fun _=>by omega) (fun h=>by cases h) (fun h=>by cases h) (fun _=>by omega) (iZ x.f 0 x.kids 0) _ 0 0 _ (y.news [O (ae x.f) 27]) (aL [O (ae x.f) 27] H 0 _ rfl) D rfl rfl).code
   exact Z 2 (aR (fA H x) 0 12 dK)<|bW 2 c1<|al 3 (J mr) H1 (by rw [kU,h3,h4,TN D,cM];rfl)
  have cw:=sX h2
  refine aK [aB 2]<|Z 1 (aR (fA H x) 0 0 aJ)<|aH 0 h1<|Z 2 (aR (fA H x) 0 12 dK)<|aH 1 h2<|Z 2 (aR (fA H x) 0 0 aJ)<|aH 0 (beq_eq_false_iff_ne.2 D:(x.f.k==7)=false)<|Z 5 (aR (fA H x) 0 0 aJ)<|aO 0 (x.f.k<4) ?_ ?_ <;> intro h3 dv
  ·exact al 3 (J 0) (fA H x) (by rw [kU,h3];rfl)
  refine Z 2 (aR (fA H x) 0 0 aJ)<|aO 0 (x.f.k>7) ?_ ?_ <;> intro h4 dT
  ·exact al 2 (J 0) (fA H x) (by rw [kU,h3,h4];rfl)
  obtain ⟨_,_,H1,c1,af,y1,rfl,mr,rfl,cM⟩:=(CG x X hx a gr (H.n+0) false false (fun h=>by cases h) (fun _=>by omega) (fun h=>by cases h) (fun _=>by omega) (iZ x.f 0 x.kids 0) _ 0 0 _ (y.news [O (ae x.f) 27]) (aL [O (ae x.f) 27] H 0 _ rfl) D rfl rfl).code
  exact Z 2 (aR (fA H x) 0 12 dK)<|bW 2 c1<|al 4 (J (IntKind.i64.wrap (mr+1))) H1 (by rw [kU,h3,h4,AL D,cM];rfl)
 have q1:=sX h1
 rcases ep (x.f.k==7) with h2 |h2
 ·have cw:=pu h2
  rcases ep ((x.f.an:Int)==1) with h3 |h3
  ·have dv:=pu h3
   refine aK [aB 2]<|Z 1 (aR (fA H x) 0 0 aJ)<|aH 0 h1<|Z 3 (aR (fA H x) 0 0 aJ)<|aH 0 h2<|Z 2 (aR (fA H x) 0 12 dK)<|aH 1 h3<|Z 4 (aR (fA H x) 0 0 aJ)<|aO 0 (x.f.k<4) ?_ ?_ <;> intro h4 dT
   ·exact al 3 (J 0) (fA H x) (by rw [kU,h4];rfl)
   refine Z 2 (aR (fA H x) 0 0 aJ)<|aO 0 (x.f.k>7) ?_ ?_ <;> intro h5 ff
   ·exact al 2 (J 0) (fA H x) (by rw [kU,h4,h5];rfl)
   obtain ⟨_,_,H1,c1,af,y1,rfl,mr,rfl,cM⟩:=(CG x X hx a gr (H.n+0) false true (fun h=>by cases h) (fun _=>by omega) (fun _=>by omega) (fun h=>by cases h) (iZ x.f 0 x.kids 0) _ 0 0 _ (y.news [O (ae x.f) 27]) (aL [O (ae x.f) 27] H 0 _ rfl) D rfl rfl).code
   exact Z 2 (aR (fA H x) 0 12 dK)<|bW 2 c1<|al 4 (J (IntKind.i64.wrap (mr+1))) H1 (by rw [kU,h4,h5,AL D,cM];rfl)
  have dv:=sX h3
  refine aK [aB 2]<|Z 1 (aR (fA H x) 0 0 aJ)<|aH 0 h1<|Z 3 (aR (fA H x) 0 0 aJ)<|aH 0 h2<|Z 2 (aR (fA H x) 0 12 dK)<|aH 1 h3<|Z 4 (aR (fA H x) 0 0 aJ)<|aO 0 (x.f.k<4) ?_ ?_ <;> intro h4 dT
  ·exact al 3 (J 0) (fA H x) (by rw [kU,h4];rfl)
  refine Z 2 (aR (fA H x) 0 0 aJ)<|aO 0 (x.f.k>7) ?_ ?_ <;> intro h5 ff
  ·exact al 2 (J 0) (fA H x) (by rw [kU,h4,h5];rfl)
  obtain ⟨_,_,H1,c1,af,y1,rfl,mr,rfl,cM⟩:=(CG x X hx a gr (H.n+0) false false (fun h=>by cases h) (fun _=>by omega) (fun h=>by cases h) (fun _=>by omega) (iZ x.f 0 x.kids 0) _ 0 0 _ (y.news [O (ae x.f) 27]) (aL [O (ae x.f) 27] H 0 _ rfl) D rfl rfl).code
  exact Z 2 (aR (fA H x) 0 12 dK)<|bW 2 c1<|al 4 (J (IntKind.i64.wrap (mr+1))) H1 (by rw [kU,h4,h5,AL D,cM];rfl)
 have cw:=sX h2
 refine aK [aB 2]<|Z 1 (aR (fA H x) 0 0 aJ)<|aH 0 h1<|Z 3 (aR (fA H x) 0 0 aJ)<|aH 0 h2<|Z 5 (aR (fA H x) 0 0 aJ)<|aO 0 (x.f.k<4) ?_ ?_ <;> intro h3 dv
 ·exact al 3 (J 0) (fA H x) (by rw [kU,h3];rfl)
 refine Z 2 (aR (fA H x) 0 0 aJ)<|aO 0 (x.f.k>7) ?_ ?_ <;> intro h4 dT
 ·exact al 2 (J 0) (fA H x) (by rw [kU,h3,h4];rfl)
 obtain ⟨_,_,H1,c1,af,y1,rfl,mr,rfl,cM⟩:=(CG x X hx a gr (H.n+0) false false (fun h=>by cases h) (fun _=>by omega) (fun h=>by cases h) (fun _=>by omega) (iZ x.f 0 x.kids 0) _ 0 0 _ (y.news [O (ae x.f) 27]) (aL [O (ae x.f) 27] H 0 _ rfl) D rfl rfl).code
 exact Z 2 (aR (fA H x) 0 12 dK)<|bW 2 c1<|al 4 (J (IntKind.i64.wrap (mr+1))) H1 (by rw [kU,h3,h4,AL D,cM];rfl)
theorem Hy (x:aw) (X:U) (hx:aa E G X) (hs:gm X x):∀{H:U},aa E X H→aI E X 8 [.agg (ae x.f).toArray] H [] (fun v _=>v=J (di x)):=by
 induction hs with
 |@mk x a hk ih=>exact fun y=>adt x X hx a (fun k hk=>ih k hk) y
noncomputable def W3:Code:=cN [1,1,1,0,1,0,0] (cH Tryz.f15)
theorem afh (x:aw) (X:U) (hx:aa E G X) (a:dG X x) (gr:∀ k∈x.kids,∀{H:U},aa E X H→aI E X 15 [.agg (ae k.f).toArray] H [] (fun v _=>v=J (di k))) (bw:Nat) (R:Int):∀(m:Nat) (aD:Int) (aA:Int) (H:U),aa E X H→(kb:H.get bw=some (O (ae x.f) 27))→(x0:0≤aA)→(hR:iZ x.f aA.toNat (x.kids.drop aA.toNat) aD=R)→((x.f.an:Int)-aA).toNat=m→
  cy E X 99 W3 [(1,pt bw 0),(3,J aD),(4,J aA)] H [] (fun eI T H'=>(eI=(.exit 0)∧∃(o7:Int),T=bl [(1,pt bw 0),(3,J o7)]∧(R=o7))):=by
 refine d8 fun m ih=>?_
 intro aD aA H y kb x0 hR hm
 have lL:=a.lL
 refine c9 y ?_
 refine Z 2 (ag 12 dK kb)<|aO 1 (aA<(x.f.an:Int)) ?_ ?_ <;> intro h1 q1
 ·obtain ⟨d1,jC,t1,eE,dh⟩:=a.rk.open D
  have eG:=hx.wf.lt dh
  obtain ⟨au,m2⟩:=a.ua (i:=aA.toNat) D
  obtain ⟨_,H1,c1,af,y1,rfl⟩:=gr au (lb m2) y
  have fz:=y.kept af ai kb
  refine Z 1 (ag 12 dK kb)<|et 1 H (gz jS bH eE D D:fE E 25 (.slice x.f.pk x.f.an x.f.ak) (J aA)=some (pt d1 (0+aA.toNat*13)))<|Z 0 (kR cv bH (y.cell dh eG) m2 D:ay E 27 d1 (0+aA.toNat*13) H=some (.agg (ae au.f).toArray))<|ad 0 c1<|Z 2 (ag 0 aJ fz)<|cS 0 x.f.k 6 ?_ ?_ <;> intro h2 cw
  ·refine Z 2 (ag 12 dK fz)<|cS 1 (x.f.an:Int) 2 ?_ ?_ <;> intro h3 dv
   ·rcases ep (aA==0) with h4 |h4
    ·have dT:=pu h4
     have uh:x.kids[0]?=some au:=(show aA.toNat=0 by omega)▸m2
     obtain ⟨_,H2,c2,ar,ah,rfl⟩:=GO au.f X hx y1
     have kQ:=y1.kept ar ai fz
     obtain ⟨_,H3,c3,aW,az,rfl⟩:=GO x.f X hx ah
     rcases ep (decide ((eP au.f)<(eP x.f))) with h5 |h5
     ·have ff:=gb h5
      have nk:=ah.kept aW ai kQ
      refine aK [aB 0]<|aH 1 h4<|Z 2 (ag 12 dK fz)<|et 0 H1 (gz jS bH eE D D:fE E 25 (.slice x.f.pk x.f.an x.f.ak) (J 0)=some (pt d1 (0+0)))<|Z 0 (kR cv bH (y1.cell dh eG) uh D:ay E 27 d1 (0+0) H1=some (.agg (ae au.f).toArray))<|ad 0 c2<|Z 0 (cg cv bH kQ rfl rfl:ay E 27 bw 0 H2=some (.agg (ae x.f).toArray))<|ad 0 c3<|aH 0 h5<|Z 7 (ag 0 aJ nk)<|aH 0 (beq_eq_false_iff_ne.2 D:(x.f.k==7)=false)<|aO 6 ((IntKind.i64.wrap ((di au)+1))>aD) ?_ ?_ <;> intro h6 e7
      ·exact ap 3 (aA+1)<|dU 1 [(1,pt bw 0),(3,J (IntKind.i64.wrap ((di au)+1))),(4,J (aA+1))] H3 (ih _ D (IntKind.i64.wrap ((di au)+1)) (aA+1) _ az nk D (by rw [fR D];have hh:=(un m2 hR (tB D));rwa [uk e7] at hh) rfl)
      exact ap 1 (aA+1)<|dU 1 [(1,pt bw 0),(3,J aD),(4,J (aA+1))] H3 (ih _ D aD (aA+1) _ az nk D (by rw [fR D];have hh:=(un m2 hR (tB D));rwa [um e7] at hh) rfl)
     have ff:=gl h5
     have nk:=ah.kept aW ai kQ
     refine aK [aB 0]<|aH 1 h4<|Z 2 (ag 12 dK fz)<|et 0 H1 (gz jS bH eE D D:fE E 25 (.slice x.f.pk x.f.an x.f.ak) (J 0)=some (pt d1 (0+0)))<|Z 0 (kR cv bH (y1.cell dh eG) uh D:ay E 27 d1 (0+0) H1=some (.agg (ae au.f).toArray))<|ad 0 c2<|Z 0 (cg cv bH kQ rfl rfl:ay E 27 bw 0 H2=some (.agg (ae x.f).toArray))<|ad 0 c3<|aH 0 h5<|aH 3 (beq_eq_false_iff_ne.2 D:(aA==1)=false)<|Z 4 (ag 0 aJ nk)<|aH 0 (beq_eq_false_iff_ne.2 D:(x.f.k==7)=false)<|aO 6 ((di au)>aD) ?_ ?_ <;> intro h6 e7
     ·exact ap 3 (aA+1)<|dU 1 [(1,pt bw 0),(3,J (di au)),(4,J (aA+1))] H3 (ih _ D (di au) (aA+1) _ az nk D (by rw [fR D];have hh:=(n3 m2 hR (nS D));rwa [uk e7] at hh) rfl)
     exact ap 1 (aA+1)<|dU 1 [(1,pt bw 0),(3,J aD),(4,J (aA+1))] H3 (ih _ D aD (aA+1) _ az nk D (by rw [fR D];have hh:=(n3 m2 hR (nS D));rwa [um e7] at hh) rfl)
    have dT:=sX h4
    have uh:x.kids[1]?=some au:=(show aA.toNat=1 by omega)▸m2
    obtain ⟨_,H2,c2,ar,ah,rfl⟩:=GO au.f X hx y1
    have kQ:=y1.kept ar ai fz
    obtain ⟨_,H3,c3,aW,az,rfl⟩:=GO x.f X hx ah
    rcases ep (decide ((eP au.f)≤(eP x.f))) with h5 |h5
    ·have ff:=gb h5
     have nk:=ah.kept aW ai kQ
     refine aK [aB 0]<|aH 1 h4<|aH 4 (beq_iff_eq.2 D:(aA==1)=true)<|Z 2 (ag 12 dK fz)<|et 0 H1 (gz jS bH eE D D:fE E 25 (.slice x.f.pk x.f.an x.f.ak) (J 1)=some (pt d1 (0+13)))<|Z 0 (kR cv bH (y1.cell dh eG) uh D:ay E 27 d1 (0+13) H1=some (.agg (ae au.f).toArray))<|ad 0 c2<|Z 0 (cg cv bH kQ rfl rfl:ay E 27 bw 0 H2=some (.agg (ae x.f).toArray))<|ad 0 c3<|aH 0 h5<|Z 6 (ag 0 aJ nk)<|aH 0 (beq_eq_false_iff_ne.2 D:(x.f.k==7)=false)<|aO 6 ((IntKind.i64.wrap ((di au)+1))>aD) ?_ ?_ <;> intro h6 e7
     ·exact ap 3 (aA+1)<|dU 1 [(1,pt bw 0),(3,J (IntKind.i64.wrap ((di au)+1))),(4,J (aA+1))] H3 (ih _ D (IntKind.i64.wrap ((di au)+1)) (aA+1) _ az nk D (by rw [fR D];have hh:=(un m2 hR (tB D));rwa [uk e7] at hh) rfl)
     exact ap 1 (aA+1)<|dU 1 [(1,pt bw 0),(3,J aD),(4,J (aA+1))] H3 (ih _ D aD (aA+1) _ az nk D (by rw [fR D];have hh:=(un m2 hR (tB D));rwa [um e7] at hh) rfl)
    have ff:=gl h5
    have nk:=ah.kept aW ai kQ
    refine aK [aB 0]<|aH 1 h4<|aH 4 (beq_iff_eq.2 D:(aA==1)=true)<|Z 2 (ag 12 dK fz)<|et 0 H1 (gz jS bH eE D D:fE E 25 (.slice x.f.pk x.f.an x.f.ak) (J 1)=some (pt d1 (0+13)))<|Z 0 (kR cv bH (y1.cell dh eG) uh D:ay E 27 d1 (0+13) H1=some (.agg (ae au.f).toArray))<|ad 0 c2<|Z 0 (cg cv bH kQ rfl rfl:ay E 27 bw 0 H2=some (.agg (ae x.f).toArray))<|ad 0 c3<|aH 0 h5<|Z 3 (ag 0 aJ nk)<|aH 0 (beq_eq_false_iff_ne.2 D:(x.f.k==7)=false)<|aO 6 ((di au)>aD) ?_ ?_ <;> intro h6 e7
    ·exact ap 3 (aA+1)<|dU 1 [(1,pt bw 0),(3,J (di au)),(4,J (aA+1))] H3 (ih _ D (di au) (aA+1) _ az nk D (by rw [fR D];have hh:=(n3 m2 hR (nS D));rwa [uk e7] at hh) rfl)
    exact ap 1 (aA+1)<|dU 1 [(1,pt bw 0),(3,J aD),(4,J (aA+1))] H3 (ih _ D aD (aA+1) _ az nk D (by rw [fR D];have hh:=(n3 m2 hR (nS D));rwa [um e7] at hh) rfl)
   refine Z 2 (ag 0 aJ fz)<|aH 0 (beq_eq_false_iff_ne.2 D:(x.f.k==7)=false)<|aO 6 ((di au)>aD) ?_ ?_ <;> intro h4 dT
   ·exact ap 3 (aA+1)<|dU 1 [(1,pt bw 0),(3,J (di au)),(4,J (aA+1))] H1 (ih _ D (di au) (aA+1) _ y1 fz D (by rw [fR D];have hh:=(n3 m2 hR (nS D));rwa [uk dT] at hh) rfl)
   exact ap 1 (aA+1)<|dU 1 [(1,pt bw 0),(3,J aD),(4,J (aA+1))] H1 (ih _ D aD (aA+1) _ y1 fz D (by rw [fR D];have hh:=(n3 m2 hR (nS D));rwa [um dT] at hh) rfl)
  refine Z 3 (ag 0 aJ fz)<|cS 0 x.f.k 7 ?_ ?_ <;> intro h3 dv
  ·refine Z 2 (ag 12 dK fz)<|cS 1 (x.f.an:Int) 1 ?_ ?_ <;> intro h4 dT
   ·have uh:x.kids[0]?=some au:=(show aA.toNat=0 by omega)▸m2
    refine Z 3 (ag 12 dK fz)<|et 0 H1 (gz jS bH eE D D:fE E 25 (.slice x.f.pk x.f.an x.f.ak) (J 0)=some (pt d1 (0+0)))<|Z 1 (show ay E 3 d1 (0+0) H1=some (J au.f.k) from Kn (j:=0) aJ (y1.cell dh eG) uh (by decide) D rfl)<|cS 0 au.f.k 6 ?_ ?_ <;> intro h5 ff
    ·refine aO 6 ((IntKind.i64.wrap ((di au)+1))>aD) ?_ ?_ <;> intro h6 e7
     ·exact ap 3 (aA+1)<|dU 1 [(1,pt bw 0),(3,J (IntKind.i64.wrap ((di au)+1))),(4,J (aA+1))] H1 (ih _ D (IntKind.i64.wrap ((di au)+1)) (aA+1) _ y1 fz D (by rw [fR D];have hh:=(un m2 hR (tB D));rwa [uk e7] at hh) rfl)
     exact ap 1 (aA+1)<|dU 1 [(1,pt bw 0),(3,J aD),(4,J (aA+1))] H1 (ih _ D aD (aA+1) _ y1 fz D (by rw [fR D];have hh:=(un m2 hR (tB D));rwa [um e7] at hh) rfl)
    refine aO 3 ((di au)>aD) ?_ ?_ <;> intro h6 e7
    ·exact ap 3 (aA+1)<|dU 1 [(1,pt bw 0),(3,J (di au)),(4,J (aA+1))] H1 (ih _ D (di au) (aA+1) _ y1 fz D (by rw [fR D];have hh:=(n3 m2 hR (nS D));rwa [uk e7] at hh) rfl)
    exact ap 1 (aA+1)<|dU 1 [(1,pt bw 0),(3,J aD),(4,J (aA+1))] H1 (ih _ D aD (aA+1) _ y1 fz D (by rw [fR D];have hh:=(n3 m2 hR (nS D));rwa [um e7] at hh) rfl)
   refine aO 5 ((di au)>aD) ?_ ?_ <;> intro h5 ff
   ·exact ap 3 (aA+1)<|dU 1 [(1,pt bw 0),(3,J (di au)),(4,J (aA+1))] H1 (ih _ D (di au) (aA+1) _ y1 fz D (by rw [fR D];have hh:=(n3 m2 hR (nS D));rwa [uk ff] at hh) rfl)
   exact ap 1 (aA+1)<|dU 1 [(1,pt bw 0),(3,J aD),(4,J (aA+1))] H1 (ih _ D aD (aA+1) _ y1 fz D (by rw [fR D];have hh:=(n3 m2 hR (nS D));rwa [um ff] at hh) rfl)
  refine aO 6 ((di au)>aD) ?_ ?_ <;> intro h4 dT
  ·exact ap 3 (aA+1)<|dU 1 [(1,pt bw 0),(3,J (di au)),(4,J (aA+1))] H1 (ih _ D (di au) (aA+1) _ y1 fz D (by rw [fR D];have hh:=(n3 m2 hR (nS D));rwa [uk dT] at hh) rfl)
  exact ap 1 (aA+1)<|dU 1 [(1,pt bw 0),(3,J aD),(4,J (aA+1))] H1 (ih _ D aD (aA+1) _ y1 fz D (by rw [fR D];have hh:=(n3 m2 hR (nS D));rwa [um dT] at hh) rfl)
 exact dF 0 [(1,pt bw 0),(3,J aD)] (.exit 0) H ⟨rfl,aD,rfl,hR.symm.trans (Q1 (by have:=a.an;omega))⟩
theorem afi (x:aw) (X:U) (hx:aa E G X) (a:dG X x) (gr:∀ k∈x.kids,∀{H:U},aa E X H→aI E X 15 [.agg (ae k.f).toArray] H [] (fun v _=>v=J (di k))) {H:U} (y:aa E X H):aI E X 15 [.agg (ae x.f).toArray] H [] (fun v H'=>v=J (di x)):=by
 refine br Tryz.f15 y ?_
 refine Z 3 (aR (fA H x) 0 0 aJ)<|aO 0 (x.f.k<4) ?_ ?_ <;> intro h1 q1
 ·exact al 3 (J 0) (fA H x) (by rw [kU,h1];rfl)
 refine Z 2 (aR (fA H x) 0 0 aJ)<|aO 0 (x.f.k>7) ?_ ?_ <;> intro h2 cw
 ·exact al 2 (J 0) (fA H x) (by rw [kU,h1,h2];rfl)
 obtain ⟨_,_,H1,c1,af,y1,rfl,mr,rfl,cM⟩:=(afh x X hx a gr (H.n+0) (iZ x.f 0 x.kids 0) _ 0 0 _ (y.news [O (ae x.f) 27]) (aL [O (ae x.f) 27] H 0 _ rfl) D rfl rfl).code
 have aP:=(y.news [O (ae x.f) 27]).kept af ai (aL [O (ae x.f) 27] H 0 _ rfl)
 refine bW 3 c1<|Z 1 (ag 0 aJ aP)<|cS 0 x.f.k 6 ?_ ?_ <;> intro h3 dv
 ·refine Z 2 (ag 12 dK aP)<|cS 1 (x.f.an:Int) 2 ?_ ?_ <;> intro h4 dT
  ·exact al 3 (J mr) H1 (by rw [kU,h1,h2,TN D,cM];rfl)
  exact al 4 (J (IntKind.i64.wrap (mr+1))) H1 (by rw [kU,h1,h2,AL D,cM];rfl)
 exact al 5 (J (IntKind.i64.wrap (mr+1))) H1 (by rw [kU,h1,h2,AL D,cM];rfl)
theorem afg (x:aw) (X:U) (hx:aa E G X) (hs:gm X x):∀{H:U},aa E X H→aI E X 15 [.agg (ae x.f).toArray] H [] (fun v _=>v=J (di x)):=by
 induction hs with
 |@mk x a hk ih=>exact fun y=>afi x X hx a (fun k hk=>ih k hk) y
theorem Gw {G X H:U} {g:FuncId} {args:List Value} {Q:Value→U→Prop} (y:aa E X H) (h:aI E G g args H [] Q):aI E X g args H [] Q:=by
 obtain ⟨v,H',c,x,z,q⟩:=h
 exact ⟨v,H',c,x,y.step x z.wf aZ,q⟩
theorem QW (s:ByteArray) (h:(s.size:Int)<100000) {H:U} (y:aa E G H):bE E 94 [.string s] H (.ret (.bool (iY s))) H []:=CE s h y
noncomputable def qf (m:fS):Bool:=iO m.1 m.2.1 m.2.2
theorem FC (m:fS) (h:(m.2.1.size:Int)<100000) {H:U} (y:aa E G H):bE E 69 [.agg #[J m.1,.string m.2.1,.string m.2.2]] H (.ret (.bool (qf m))) H []:=acV m.1 m.2.1 m.2.2 h y
def vV (b:Nat):Bool:=!(FloatKind.f64.format.order b b==some .eq)
def s6 (v:Int):Int:=bif vV v.toNat&&(v != 9218868437227405314) then 9221120237041090561 else v
theorem adY (d:Ieee.Datum):(d.order d==some .eq)=!(d matches .nan ..):=by
 cases d with
 |nan=>rfl
 |infinity s=>cases s <;> rfl
 |number s m i=>simp [Ieee.Datum.order]
theorem QZ {b:Nat} (h:b<9223372036854775808):vV b=decide (9218868437227405312<b):=by
 have e:FloatKind.f64.format.order b b=(FloatKind.f64.format.read b).order (FloatKind.f64.format.read b):=rfl
 have h1:FloatKind.f64.format.signWeight=9223372036854775808:=by decide
 have h2:FloatKind.f64.format.infRung=9218868437227405312:=by decide
 have h3:FloatKind.f64.format.binade=4503599627370496:=by decide
 rw [vV,e,adY,Bool.not_not]
 unfold Ieee.Format.read
 simp only [h1,h2,h3]
 rw [Nat.mod_eq_of_lt h]
 by_cases c1:b<4503599627370496
 ·rw [if_pos c1];exact (decide_eq_false D).symm
 ·rw [if_neg c1]
  by_cases c2:b<9218868437227405312
  ·rw [if_pos c2];exact (decide_eq_false D).symm
  ·rw [if_neg c2]
   by_cases c3:b=9218868437227405312
   ·rw [if_pos c3];exact (decide_eq_false D).symm
   ·rw [if_neg c3];exact (decide_eq_true D).symm
def l9:List ByteArray→Bool
 |[]=>false
 |s::ns=>!iY s||l9 ns
noncomputable def ld:List fS→Bool
 |[]=>false
 |m::ms=>!qf m||ld ms
structure lu (x:aw):Prop where
 ms:∀ m∈x.ms,(m.2.1.size:Int)<100000
 ns:∀ s∈x.ns,(s.size:Int)<100000
 an:x.f.an<1000
inductive nK:aw→Prop
 |mk {x:aw}:lu x→(∀ k∈x.kids,nK k)→nK x
noncomputable def kT (x:aw):Bool:=!(decide (x.f.how<0))&&(!(decide (x.f.how>2))&&(!(x.f.how==0&&decide (((x.f.nn:Nat):Int)>0))&&(!(decide (((x.f.nn:Nat):Int)>16))&&!l9 x.ns)))
def gF (f:dZ):dZ:=
 bif f.k==1 then { f with v:=0 } else bif f.k==2 then { f with s:=⟨#[]⟩ } else
 bif f.k==3 then { f with s:=⟨#[]⟩,pm:=none,nm:=0,bj:=0,wide:=0,off:=0,ha:=false,at_:=0 } else
 bif f.k==4 then { f with s:=⟨#[]⟩,pk:=none,an:=0,ak:=0 } else
 bif f.k==5 then { f with s:=⟨#[]⟩,how:=0,bf:=none,nn:=0,bg:=0,pk:=none,an:=0,ak:=0 } else
 bif f.k==6 then { f with op:=0,fk:=false,how:=0,bf:=none,nn:=0,bg:=0,pk:=none,an:=0,ak:=0 } else
 bif f.k==7 then { f with pk:=none,an:=0,ak:=0 } else f
def jd (g:dZ):Bool:=(g.op==0)&&((g.v==0)&&((g.s.toList==(⟨#[]⟩:ByteArray).toList)&&((((g.nm:Nat):Int)==0)&&((g.wide==0)&&((g.off==0)&&(!g.ha&&((g.at_==0)&&((g.how==0)&&((((g.nn:Nat):Int)==0)&&(!g.fk&&(((g.an:Nat):Int)==0)))))))))))
theorem aam (b:Nat) {H:U} (y:aa E G H):aI E G 93 [.float .f64 b] H [] (fun v H'=>v=(.bool (vV b))):=by
 refine br Tryz.f93 y ?_
 refine oS 3 (!(FloatKind.f64.format.order b b==some .eq)) (fun h1=>?_) fun h1=>?_
 ·exact al 1 aN H (by rw [vV,h1])
 exact al 1 Y H (by rw [vV,h1])
theorem isNaN (b:Nat):∀{H:U},aa E G H→bE E 93 [.float .f64 b] H (.ret (.bool (vV b))) H []:=by
 obtain ⟨_,_,c,_,_,rfl⟩:=aam b gE
 exact fun y=>gx (iP rfl) (.ground rfl) c y
theorem aid (u:Int) {H:U} (y:aa E G H):aI E G 68 [ax u] H [] (fun v H'=>v=(ax (s6 u))):=by
 refine br Tryz.f68 y ?_
 refine ad 2 (Pg u:bE E 59 [ax u] H (.ret (.float .f64 u.toNat)) H [])<|?_
 cases h1:(vV (u.toNat)) with
 |true=>
  refine ad 0 (c5 h1 (isNaN (u.toNat) y))<|iD 2 u 9218868437227405314 ?_ ?_ <;> intro h2 cw
  ·exact al 2 (ax 9221120237041090561) H (by rw [s6,h1,h2] <;> rfl)
  exact al 3 (ax u) H (by rw [s6,h1,h2] <;> rfl)
 |false=>
  exact ad 0 (c5 h1 (isNaN (u.toNat) y))<|al 4 (ax u) H (by rw [s6,h1] <;> rfl)
theorem MS (u:Int):∀{H:U},aa E G H→bE E 68 [ax u] H (.ret (ax (s6 u))) H []:=by
 obtain ⟨_,_,c,_,_,rfl⟩:=aid u gE
 exact fun y=>gx (iP rfl) (.ground rfl) c y
theorem adm (s:ByteArray) (X:U) (hx:aa E G X) {H:U} (y:aa E X H) (hz:(s.size:Int)<100000):aI E X 101 [.string s] H [] (fun v H'=>v=.bool (!iY s)):=by
 refine br Tryz.f101 y ?_
 cases h1:(iY s) with
 |true=>
  exact ad 2 (c5 h1 (QW s hz (gg hx y)))<|al 2 Y H rfl
 |false=>
  exact ad 2 (c5 h1 (QW s hz (gg hx y)))<|al 2 aN H rfl
noncomputable abbrev Bj (m:fS):=([J m.1,.string m.2.1,.string m.2.2]:List Value)
noncomputable abbrev K3 H (m:fS):=news H (i9 (Bj m))
theorem acO (m:fS) (X:U) (hx:aa E G X) {H:U} (y:aa E X H) (hz:(m.2.1.size:Int)<100000):aI E X 72 [.agg (Bj m).toArray] H [] (fun v H'=>v=.bool (!qf m)):=by
 refine br Tryz.f72 y ?_
 refine Z 2 (dy A7 qo rfl rfl rfl:ay E 39 (H.n+0) 0 (K3 H m)=some (.agg (Bj m).toArray))<|?_
 cases h1:(qf m) with
 |true=>
  exact ad 0 (c5 h1 (FC m hz (gg hx (y.news (i9 (Bj m))))))<|al 2 Y (K3 H m) rfl
 |false=>
  exact ad 0 (c5 h1 (FC m hz (gg hx (y.news (i9 (Bj m))))))<|al 2 aN (K3 H m) rfl
noncomputable def Vy:Code:=cN [1,0,1,0,0] (cH Tryz.f122)
theorem UM (x:aw) (X:U) (hx:aa E G X) (a:dG X x) (hz:lu x) (R:Bool):∀(m:Nat) (cx:Int) (H:U),aa E X H→(x0:0≤cx)→(hR:l9 (x.ns.drop cx.toNat)=R)→((x.f.nn:Int)-cx).toNat=m→
  cy E X 19 Vy [(0,.slice x.f.bf x.f.nn x.f.bg),(1,bQ 101),(7,J (x.f.nn:Int)),(8,J cx)] H [] (fun eI T H'=>(eI=(.exit 0)∧T=bl []∧(R=false))∨(eI=.ret∧∃(gD:Int),T=bl [(4,J gD)]∧((R=true)∧(0≤gD)))):=by
 refine d8 fun m ih=>?_
 intro cx H y x0 hR hm
 have bd:=a.fm
 refine c9 y ?_
 refine aO 0 (cx<(x.f.nn:Int)) ?_ ?_ <;> intro h1 q1
 ·obtain ⟨d1,jC,t1,eE,dh⟩:=a.rn.open D
  have eG:=hx.wf.lt dh
  obtain ⟨au,m2⟩:=a.FK (i:=cx.toNat) D
  obtain ⟨_,H1,c1,af,y1,b7⟩:=fh (adm au X hx y (hz.ns au (lb m2)))
  refine et 5 H (gz Dx oW eE D D:fE E 24 (.slice x.f.bf x.f.nn x.f.bg) (J cx)=some (pt d1 (0+cx.toNat*1)))<|Z 0 (CU ct (y.cell dh eG) m2 D:ay E 9 d1 (0+cx.toNat*1) H=some (.string au))<|?_
  rcases b7 with ⟨rfl,cq⟩ |⟨rfl,cq⟩
  ·exact ad 0 c1<|dF 2 [(4,J cx)] .ret H1 (.inr ⟨rfl,cx,rfl,⟨vf (F:=l9) (fun _ _=>rfl) m2 hR cq,D⟩⟩)
  exact ad 0 c1<|ap 0 (cx+1)<|dU 1 [(0,.slice x.f.bf x.f.nn x.f.bg),(1,bQ 101),(7,J (x.f.nn:Int)),(8,J (cx+1))] H1 (ih _ D (cx+1) _ y1 D (by rw [fR D];exact (vg (F:=l9) (fun _ _=>rfl) m2 hR cq)) rfl)
 exact dF 0 [] (.exit 0) H (.inl ⟨rfl,rfl,ve (F:=l9) rfl hR (by have:=a.nn;omega)⟩)
theorem aad (x:aw) (X:U) (hx:aa E G X) (a:dG X x) (hz:lu x) {H:U} (y:aa E X H):aI E X 122 [.slice x.f.bf x.f.nn x.f.bg,bQ 101] H [] (fun v H'=>(∃ n:Int,v=J n∧0≤n∧l9 x.ns=true)∨(v=J (-1)∧l9 x.ns=false)):=by
 refine br Tryz.f122 y ?_
 obtain ⟨_,_,H1,c1,af,y1,b7⟩:=(UM x X hx a hz (l9 x.ns) _ 0 _ y D rfl rfl).code
 rcases b7 with ⟨rfl,rfl,cM⟩ |⟨rfl,ck,rfl,cM,lE⟩
 ·exact bW 4 c1<|al 1 (J (-1)) H1 (.inr ⟨rfl,cM⟩)
 exact bW 4 c1<|al 0 (J ck) H1 (.inl ⟨_,rfl,lE,cM⟩)
theorem Pv (x:aw) (X:U) (hx:aa E G X) (a:dG X x) (hz:lu x) {H:U} (y:aa E X H):aI E X 100 [.slice x.f.bf x.f.nn x.f.bg,bQ 101] H [] (fun v H'=>v=.bool (l9 x.ns)):=by
 refine br Tryz.f100 y ?_
 obtain ⟨_,H1,c1,af,y1,b7⟩:=aad x X hx a hz y
 rcases b7 with ⟨yt,rfl,pE,cq⟩ |⟨rfl,cq⟩
 ·exact ad 3 c1<|aH 0 (decide_eq_true D:(decide (yt≥0))=true)<|al 1 aN H1 (by rw [cq])
 exact ad 3 c1<|al 2 Y H1 (by rw [cq])
noncomputable def Vx:Code:=cN [1,0,1,0,0] (cH Tryz.f98)
theorem UL (x:aw) (X:U) (hx:aa E G X) (a:dG X x) (hz:lu x) (R:Bool):∀(m:Nat) (cx:Int) (H:U),aa E X H→(x0:0≤cx)→(hR:ld (x.ms.drop cx.toNat)=R)→((x.f.nm:Int)-cx).toNat=m→
  cy E X 19 Vx [(0,.slice x.f.pm x.f.nm x.f.bj),(1,bQ 72),(7,J (x.f.nm:Int)),(8,J cx)] H [] (fun eI T H'=>(eI=(.exit 0)∧T=bl []∧(R=false))∨(eI=.ret∧∃(gD:Int),T=bl [(4,J gD)]∧((R=true)∧(0≤gD)))):=by
 refine d8 fun m ih=>?_
 intro cx H y x0 hR hm
 have bd:=a.bm
 refine c9 y ?_
 refine aO 0 (cx<(x.f.nm:Int)) ?_ ?_ <;> intro h1 q1
 ·obtain ⟨d1,jC,t1,eE,dh⟩:=a.wx.open D
  have eG:=hx.wf.lt dh
  obtain ⟨au,m2⟩:=a.xQ (i:=cx.toNat) D
  obtain ⟨_,H1,c1,af,y1,b7⟩:=fh (acO au X hx y (hz.ms au (lb m2)))
  refine et 5 H (gz tg qo eE D D:fE E 23 (.slice x.f.pm x.f.nm x.f.bj) (J cx)=some (pt d1 (0+cx.toNat*3)))<|Z 0 (zP A7 qo (y.cell dh eG) m2 D:ay E 39 d1 (0+cx.toNat*3) H=some (.agg #[J au.1,.string au.2.1,.string au.2.2]))<|?_
  rcases b7 with ⟨rfl,cq⟩ |⟨rfl,cq⟩
  ·exact ad 0 c1<|dF 2 [(4,J cx)] .ret H1 (.inr ⟨rfl,cx,rfl,⟨vf (F:=ld) (fun _ _=>rfl) m2 hR cq,D⟩⟩)
  exact ad 0 c1<|ap 0 (cx+1)<|dU 1 [(0,.slice x.f.pm x.f.nm x.f.bj),(1,bQ 72),(7,J (x.f.nm:Int)),(8,J (cx+1))] H1 (ih _ D (cx+1) _ y1 D (by rw [fR D];exact (vg (F:=ld) (fun _ _=>rfl) m2 hR cq)) rfl)
 exact dF 0 [] (.exit 0) H (.inl ⟨rfl,rfl,ve (F:=ld) rfl hR (by have:=a.nm;omega)⟩)
theorem aac (x:aw) (X:U) (hx:aa E G X) (a:dG X x) (hz:lu x) {H:U} (y:aa E X H):aI E X 98 [.slice x.f.pm x.f.nm x.f.bj,bQ 72] H [] (fun v H'=>(∃ n:Int,v=J n∧0≤n∧ld x.ms=true)∨(v=J (-1)∧ld x.ms=false)):=by
 refine br Tryz.f98 y ?_
 obtain ⟨_,_,H1,c1,af,y1,b7⟩:=(UL x X hx a hz (ld x.ms) _ 0 _ y D rfl rfl).code
 rcases b7 with ⟨rfl,rfl,cM⟩ |⟨rfl,ck,rfl,cM,lE⟩
 ·exact bW 4 c1<|al 1 (J (-1)) H1 (.inr ⟨rfl,cM⟩)
 exact bW 4 c1<|al 0 (J ck) H1 (.inl ⟨_,rfl,lE,cM⟩)
theorem EZ (x:aw) (X:U) (hx:aa E G X) (a:dG X x) (hz:lu x) {H:U} (y:aa E X H):aI E X 71 [.slice x.f.pm x.f.nm x.f.bj,bQ 72] H [] (fun v H'=>v=.bool (ld x.ms)):=by
 refine br Tryz.f71 y ?_
 obtain ⟨_,H1,c1,af,y1,b7⟩:=aac x X hx a hz y
 rcases b7 with ⟨yt,rfl,pE,cq⟩ |⟨rfl,cq⟩
 ·exact ad 3 c1<|aH 0 (decide_eq_true D:(decide (yt≥0))=true)<|al 1 aN H1 (by rw [cq])
 exact ad 3 c1<|al 2 Y H1 (by rw [cq])
noncomputable def qU (x:aw):Bool:=(Int.fdiv x.f.v (2 ^ 63)==0)&&((s6 x.f.v==x.f.v)&&(x.f.v != 9218868437227405314))
noncomputable def AJ (x:aw):Bool:=qf (1,⟨#[97]⟩,x.f.s)
noncomputable def ic (x:aw):Bool:=
 !((!(x.f.s.toList==(⟨#[]⟩:ByteArray).toList))&&!hU x.f.s)&&(!(decide (((x.f.nm:Nat):Int)>10))&&(!(decide (x.f.wide<0))&&(!(decide (x.f.wide>35184372088832))&&(!(decide (x.f.off<(-35184372088832)))&&(!(decide (x.f.off>35184372088832)) &&
  (!(Int.tmod x.f.at_ 1000 != 0)&&(!(decide (x.f.at_<(-1125899906842624)))&&(!(decide (x.f.at_>1125899906842624))&&(!(!x.f.ha&&(x.f.at_ != 0))&&!ld x.ms)))))))))
noncomputable def so (x:aw):Bool:=hU x.f.s&&decide (((x.f.an:Nat):Int)≤4)
noncomputable def qF (x:aw):Bool:=hasB x.f.s (qr pz)&&(kT x&&decide (((x.f.an:Nat):Int)≤4))
noncomputable def mb (x:aw):Bool:=decide (x.f.op≥1)&&(decide (x.f.op≤11)&&(kT x&&(((x.f.an:Nat):Int)==2)))
def vQ (x:aw):Bool:=((x.f.an:Nat):Int)==1
noncomputable def mA (x:aw):Bool:=
 bif x.f.k==1 then qU x else bif x.f.k==2 then AJ x else bif x.f.k==3 then ic x else bif x.f.k==4 then so x else bif x.f.k==5 then qF x else bif x.f.k==6 then mb x else vQ x
noncomputable def gK (x:aw):Bool:=!(decide (x.f.k<1))&&(!(decide (x.f.k>7))&&(jd (gF x.f)&&mA x))
mutual
noncomputable def fb:aw→Bool
 |.mk f ms ns kids=>gK (.mk f ms ns kids)&&!jJ kids
noncomputable def jJ:List aw→Bool
 |[]=>false
 |x::xs=>!fb x||jJ xs
end
theorem i3 (x:aw):fb x=(gK x&&!jJ x.kids):=by cases x;rw [fb];rfl
theorem Eg:jJ []=false:=by rw [jJ]
theorem yV (x:aw) (l:List aw):jJ (x::l)=(!fb x||jJ l):=by rw [jJ]
noncomputable abbrev c8 H (x:aw):=news H [O (ae x.f) 66]
theorem RP (x:aw) (X:U) (hx:aa E G X) (a:dG X x) (hz:lu x) {H:U} (y:aa E X H):aI E X 75 [.agg (ae x.f).toArray] H [] (fun v H'=>v=.bool (kT x)):=by
 refine br Tryz.f75 y ?_
 refine Z 4 (aR (c8 H x) 0 9 aJ)<|aO 0 (x.f.how<0) ?_ ?_ <;> intro h1 q1
 ·exact al 7 Y (c8 H x) (by rw [kT,h1] <;> rfl)
 refine Z 3 (aR (c8 H x) 0 9 aJ)<|aO 0 (x.f.how>2) ?_ ?_ <;> intro h2 cw
 ·exact al 6 Y (c8 H x) (by rw [kT,h1,h2] <;> rfl)
 refine Z 4 (aR (c8 H x) 0 9 aJ)<|cS 0 x.f.how 0 ?_ ?_ <;> intro h3 dv
 ·refine Z 3 (aR (c8 H x) 0 10 iI)<|aO 1 ((x.f.nn:Int)>0) ?_ ?_ <;> intro h4 dT
  ·exact al 5 Y (c8 H x) (by rw [kT,h1,h2,h3,h4] <;> rfl)
  refine Z 5 (aR (c8 H x) 0 10 iI)<|aO 1 ((x.f.nn:Int)>16) ?_ ?_ <;> intro h5 ff
  ·exact al 2 Y (c8 H x) (by rw [kT,h1,h2,h3,h4,h5] <;> rfl)
  obtain ⟨_,H1,c1,af,y1,b7⟩:=fh (Pv x X hx a hz (y.news [O (ae x.f) 66]))
  refine Z 3 (aR (c8 H x) 0 10 iI)<|?_
  rcases b7 with ⟨rfl,cq⟩ |⟨rfl,cq⟩
  ·exact ad 0 c1<|al 2 Y H1 (by rw [kT,h1,h2,h3,h4,h5,cq] <;> rfl)
  exact ad 0 c1<|al 2 aN H1 (by rw [kT,h1,h2,h3,h4,h5,cq] <;> rfl)
 refine Z 6 (aR (c8 H x) 0 10 iI)<|aO 1 ((x.f.nn:Int)>16) ?_ ?_ <;> intro h4 dT
 ·exact al 2 Y (c8 H x) (by rw [kT,h1,h2,h3,h4] <;> rfl)
 obtain ⟨_,H1,c1,af,y1,b7⟩:=fh (Pv x X hx a hz (y.news [O (ae x.f) 66]))
 refine Z 3 (aR (c8 H x) 0 10 iI)<|?_
 rcases b7 with ⟨rfl,cq⟩ |⟨rfl,cq⟩
 ·exact ad 0 c1<|al 2 Y H1 (by rw [kT,h1,h2,h3,h4,cq] <;> rfl)
 exact ad 0 c1<|al 2 aN H1 (by rw [kT,h1,h2,h3,h4,cq] <;> rfl)
theorem aea (x:aw) (X:U) (hx:aa E G X) (a:dG X x) (hz:lu x) {H:U} (y:aa E X H):aI E X 39 [.agg (ae x.f).toArray] H [] (fun v H'=>v=.bool (qU x)):=by
 refine br Tryz.f39 y ?_
 rcases ep ((Int.fdiv x.f.v (2 ^ 63))==0) with h1 |h1
 ·rcases ep ((s6 x.f.v)==x.f.v) with h2 |h2
  ·rcases ep (x.f.v != 9218868437227405314) with h3 |h3
   ·exact aK [aB 1]<|Z 2 (aR (c8 H x) 0 2 jH)<|aH 1 h1<|Z 3 (aR (c8 H x) 0 2 jH)<|ad 0 (MS x.f.v (gg hx (y.news [O (ae x.f) 66])))<|Z 2 (aR (c8 H x) 0 2 jH)<|aH 0 h2<|Z 4 (aR (c8 H x) 0 2 jH)<|aH 0 h3<|al 2 aN (c8 H x) (by rw [qU,h1,h2,h3] <;> rfl)
   exact aK [aB 1]<|Z 2 (aR (c8 H x) 0 2 jH)<|aH 1 h1<|Z 3 (aR (c8 H x) 0 2 jH)<|ad 0 (MS x.f.v (gg hx (y.news [O (ae x.f) 66])))<|Z 2 (aR (c8 H x) 0 2 jH)<|aH 0 h2<|Z 4 (aR (c8 H x) 0 2 jH)<|aH 0 h3<|al 2 Y (c8 H x) (by rw [qU,h1,h2,h3] <;> rfl)
  exact aK [aB 1]<|Z 2 (aR (c8 H x) 0 2 jH)<|aH 1 h1<|Z 3 (aR (c8 H x) 0 2 jH)<|ad 0 (MS x.f.v (gg hx (y.news [O (ae x.f) 66])))<|Z 2 (aR (c8 H x) 0 2 jH)<|aH 0 h2<|al 4 Y (c8 H x) (by rw [qU,h1,h2] <;> rfl)
 exact aK [aB 1]<|Z 2 (aR (c8 H x) 0 2 jH)<|aH 1 h1<|al 5 Y (c8 H x) (by rw [qU,h1] <;> rfl)
theorem aed (x:aw) (X:U) (hx:aa E G X) (a:dG X x) (hz:lu x) {H:U} (y:aa E X H):aI E X 40 [.agg (ae x.f).toArray] H [] (fun v H'=>v=.bool (AJ x)):=by
 refine br Tryz.f40 y ?_
 refine Z 4 (aR (c8 H x) 0 3 ct)<|?_
 cases h1:(qf (1,⟨#[97]⟩,x.f.s)) with
 |true=>
  exact ad 1 (c5 h1 (FC (1,⟨#[97]⟩,x.f.s) (show ((1:Nat):Int)<100000 by decide) (gg hx (y.news [O (ae x.f) 66]))))<|al 1 aN (c8 H x) (by rw [AJ,h1] <;> rfl)
 |false=>
  exact ad 1 (c5 h1 (FC (1,⟨#[97]⟩,x.f.s) (show ((1:Nat):Int)<100000 by decide) (gg hx (y.news [O (ae x.f) 66]))))<|al 1 Y (c8 H x) (by rw [AJ,h1] <;> rfl)
theorem aec (x:aw) (X:U) (hx:aa E G X) (a:dG X x) (hz:lu x) (hf:(!(x.f.s.toList==(⟨#[]⟩:ByteArray).toList))=true→hU x.f.s=true) {H:U} (y:aa E X H):aI E X 41 [.agg (ae x.f).toArray] H [] (fun v H'=>v=.bool (ic x)):=by
 refine br Tryz.f41 y ?_
 refine Z 4 (aR (c8 H x) 0 3 ct)<|oS 0 (!(x.f.s.toList==(⟨#[]⟩:ByteArray).toList)) (fun h1=>?_) fun h1=>?_
 ·refine Z 3 (aR (c8 H x) 0 3 ct)<|?_
  cases h2:(hU x.f.s) with
  |true=>
   refine ad 0 (c5 h2 (Pe x.f.s (hf h1) (gg hx (y.news [O (ae x.f) 66]))))<|Z 5 (aR (c8 H x) 0 4 jI)<|aO 1 ((x.f.nm:Int)>10) ?_ ?_ <;> intro h3 dv
   ·exact al 10 Y (c8 H x) (by rw [ic,h1,h2,h3] <;> rfl)
   refine Z 4 (aR (c8 H x) 0 5 dX)<|aO 0 (x.f.wide<0) ?_ ?_ <;> intro h4 dT
   ·exact al 8 Y (c8 H x) (by rw [ic,h1,h2,h3,h4] <;> rfl)
   refine Z 4 (aR (c8 H x) 0 5 dX)<|aO 0 (x.f.wide>35184372088832) ?_ ?_ <;> intro h5 ff
   ·exact al 6 Y (c8 H x) (by rw [ic,h1,h2,h3,h4,h5] <;> rfl)
   refine Z 4 (aR (c8 H x) 0 6 dX)<|aO 0 (x.f.off<(-35184372088832)) ?_ ?_ <;> intro h6 e7
   ·exact al 4 Y (c8 H x) (by rw [ic,h1,h2,h3,h4,h5,h6] <;> rfl)
   refine Z 4 (aR (c8 H x) 0 6 dX)<|aO 0 (x.f.off>35184372088832) ?_ ?_ <;> intro h7 mR
   ·exact al 2 Y (c8 H x) (by rw [ic,h1,h2,h3,h4,h5,h6,h7] <;> rfl)
   refine Z 3 (aR (c8 H x) 0 8 dX)<|iD 1 (Int.tmod x.f.at_ 1000) 0 ?_ ?_ <;> intro h8 x6
   ·exact al 7 Y (c8 H x) (by rw [ic,h1,h2,h3,h4,h5,h6,h7,h8] <;> rfl)
   refine Z 3 (aR (c8 H x) 0 8 dX)<|aO 0 (x.f.at_<(-1125899906842624)) ?_ ?_ <;> intro h9 uw
   ·exact al 6 Y (c8 H x) (by rw [ic,h1,h2,h3,h4,h5,h6,h7,h8,h9] <;> rfl)
   refine Z 4 (aR (c8 H x) 0 8 dX)<|aO 0 (x.f.at_>1125899906842624) ?_ ?_ <;> intro h10 Ag
   ·exact al 4 Y (c8 H x) (by rw [ic,h1,h2,h3,h4,h5,h6,h7,h8,h9,h10] <;> rfl)
   refine aK [aB 3]<|?_
   rcases ep x.f.ha with h11 |h11
   ·obtain ⟨_,H1,c1,af,y1,b7⟩:=fh (EZ x X hx a hz (y.news [O (ae x.f) 66]))
    refine aj [dP aN (c8 H x)] ((aR (c8 H x) 0 7 gV).trans (congrArg (fun q=>some (Value.bool q)) h11))<|Z 6 (aR (c8 H x) 0 4 jI)<|?_
    rcases b7 with ⟨rfl,cq⟩ |⟨rfl,cq⟩
    ·exact ad 0 c1<|al 2 Y H1 (by rw [ic,h1,h2,h3,h4,h5,h6,h7,h8,h9,h10,h11,cq] <;> rfl)
    exact ad 0 c1<|al 2 aN H1 (by rw [ic,h1,h2,h3,h4,h5,h6,h7,h8,h9,h10,h11,cq] <;> rfl)
   refine aj [dP Y (c8 H x)] ((aR (c8 H x) 0 7 gV).trans (congrArg (fun q=>some (Value.bool q)) h11))<|Z 4 (aR (c8 H x) 0 8 dX)<|iD 0 x.f.at_ 0 ?_ ?_ <;> intro h12 Ah
   ·exact al 3 Y (c8 H x) (by rw [ic,h1,h2,h3,h4,h5,h6,h7,h8,h9,h10,h11,h12] <;> rfl)
   obtain ⟨_,H1,c1,af,y1,b7⟩:=fh (EZ x X hx a hz (y.news [O (ae x.f) 66]))
   refine Z 4 (aR (c8 H x) 0 4 jI)<|?_
   rcases b7 with ⟨rfl,cq⟩ |⟨rfl,cq⟩
   ·exact ad 0 c1<|al 2 Y H1 (by rw [ic,h1,h2,h3,h4,h5,h6,h7,h8,h9,h10,h11,h12,cq] <;> rfl)
   exact ad 0 c1<|al 2 aN H1 (by rw [ic,h1,h2,h3,h4,h5,h6,h7,h8,h9,h10,h11,h12,cq] <;> rfl)
  |false=>
   exact absurd (hf h1) (by rw [h2];decide)
 refine Z 5 (aR (c8 H x) 0 4 jI)<|aO 1 ((x.f.nm:Int)>10) ?_ ?_ <;> intro h2 cw
 ·exact al 10 Y (c8 H x) (by rw [ic,h1,h2] <;> rfl)
 refine Z 4 (aR (c8 H x) 0 5 dX)<|aO 0 (x.f.wide<0) ?_ ?_ <;> intro h3 dv
 ·exact al 8 Y (c8 H x) (by rw [ic,h1,h2,h3] <;> rfl)
 refine Z 4 (aR (c8 H x) 0 5 dX)<|aO 0 (x.f.wide>35184372088832) ?_ ?_ <;> intro h4 dT
 ·exact al 6 Y (c8 H x) (by rw [ic,h1,h2,h3,h4] <;> rfl)
 refine Z 4 (aR (c8 H x) 0 6 dX)<|aO 0 (x.f.off<(-35184372088832)) ?_ ?_ <;> intro h5 ff
 ·exact al 4 Y (c8 H x) (by rw [ic,h1,h2,h3,h4,h5] <;> rfl)
 refine Z 4 (aR (c8 H x) 0 6 dX)<|aO 0 (x.f.off>35184372088832) ?_ ?_ <;> intro h6 e7
 ·exact al 2 Y (c8 H x) (by rw [ic,h1,h2,h3,h4,h5,h6] <;> rfl)
 refine Z 3 (aR (c8 H x) 0 8 dX)<|iD 1 (Int.tmod x.f.at_ 1000) 0 ?_ ?_ <;> intro h7 mR
 ·exact al 7 Y (c8 H x) (by rw [ic,h1,h2,h3,h4,h5,h6,h7] <;> rfl)
 refine Z 3 (aR (c8 H x) 0 8 dX)<|aO 0 (x.f.at_<(-1125899906842624)) ?_ ?_ <;> intro h8 x6
 ·exact al 6 Y (c8 H x) (by rw [ic,h1,h2,h3,h4,h5,h6,h7,h8] <;> rfl)
 refine Z 4 (aR (c8 H x) 0 8 dX)<|aO 0 (x.f.at_>1125899906842624) ?_ ?_ <;> intro h9 uw
 ·exact al 4 Y (c8 H x) (by rw [ic,h1,h2,h3,h4,h5,h6,h7,h8,h9] <;> rfl)
 refine aK [aB 3]<|?_
 rcases ep x.f.ha with h10 |h10
 ·obtain ⟨_,H1,c1,af,y1,b7⟩:=fh (EZ x X hx a hz (y.news [O (ae x.f) 66]))
  refine aj [dP aN (c8 H x)] ((aR (c8 H x) 0 7 gV).trans (congrArg (fun q=>some (Value.bool q)) h10))<|Z 6 (aR (c8 H x) 0 4 jI)<|?_
  rcases b7 with ⟨rfl,cq⟩ |⟨rfl,cq⟩
  ·exact ad 0 c1<|al 2 Y H1 (by rw [ic,h1,h2,h3,h4,h5,h6,h7,h8,h9,h10,cq] <;> rfl)
  exact ad 0 c1<|al 2 aN H1 (by rw [ic,h1,h2,h3,h4,h5,h6,h7,h8,h9,h10,cq] <;> rfl)
 refine aj [dP Y (c8 H x)] ((aR (c8 H x) 0 7 gV).trans (congrArg (fun q=>some (Value.bool q)) h10))<|Z 4 (aR (c8 H x) 0 8 dX)<|iD 0 x.f.at_ 0 ?_ ?_ <;> intro h11 LK
 ·exact al 3 Y (c8 H x) (by rw [ic,h1,h2,h3,h4,h5,h6,h7,h8,h9,h10,h11] <;> rfl)
 obtain ⟨_,H1,c1,af,y1,b7⟩:=fh (EZ x X hx a hz (y.news [O (ae x.f) 66]))
 refine Z 4 (aR (c8 H x) 0 4 jI)<|?_
 rcases b7 with ⟨rfl,cq⟩ |⟨rfl,cq⟩
 ·exact ad 0 c1<|al 2 Y H1 (by rw [ic,h1,h2,h3,h4,h5,h6,h7,h8,h9,h10,h11,cq] <;> rfl)
 exact ad 0 c1<|al 2 aN H1 (by rw [ic,h1,h2,h3,h4,h5,h6,h7,h8,h9,h10,h11,cq] <;> rfl)
theorem ad7 (x:aw) (X:U) (hx:aa E G X) (a:dG X x) (hz:lu x) (hf:hU x.f.s=true) {H:U} (y:aa E X H):aI E X 42 [.agg (ae x.f).toArray] H [] (fun v H'=>v=.bool (so x)):=by
 refine br Tryz.f42 y ?_
 refine Z 4 (aR (c8 H x) 0 3 ct)<|?_
 cases h1:(hU x.f.s) with
 |true=>
  refine ad 0 (c5 h1 (Pe x.f.s hf (gg hx (y.news [O (ae x.f) 66]))))<|Z 3 (aR (c8 H x) 0 12 dK)<|aO 1 ((x.f.an:Int)≤4) ?_ ?_ <;> intro h2 cw
  ·exact al 2 aN (c8 H x) (by rw [so,h1,h2] <;> rfl)
  exact al 2 Y (c8 H x) (by rw [so,h1,h2] <;> rfl)
 |false=>
  exact absurd hf (by rw [h1];decide)
theorem ad8 (x:aw) (X:U) (hx:aa E G X) (a:dG X x) (hz:lu x) {H:U} (y:aa E X H):aI E X 43 [.agg (ae x.f).toArray] H [] (fun v H'=>v=.bool (qF x)):=by
 refine br Tryz.f43 y ?_
 obtain ⟨_,H1,c1,af,y1,aY,rfl,JG,xL⟩:=Gw (y.news [O (ae x.f) 66]) (Po (gg hx (y.news [O (ae x.f) 66])))
 have aP:=(y.news [O (ae x.f) 66]).kept af ai (aL [O (ae x.f) 66] H 0 _ rfl)
 obtain ⟨_,H2,c2,ar,ah,dC⟩:=fh (Gw y1 (Jt aY (qr pz) 15 x.f.s (gg hx y1) xL (by decide)))
 rcases dC with ⟨rfl,cJ⟩ |⟨rfl,cJ⟩
 ·have cL:=y1.kept ar ai aP
  obtain ⟨_,H3,c3,aW,az,fo⟩:=fh (RP x X hx a hz ah)
  rcases fo with ⟨rfl,eh⟩ |⟨rfl,eh⟩
  ·have ei:=ah.kept aW ai cL
   rcases ep (decide ((x.f.an:Int)≤4)) with h3 |h3
   ·exact ad 2 c1<|Z 2 (ag 3 ct aP)<|ad 0 c2<|Z 1 (cg hO fp cL rfl rfl:ay E 66 (H.n+0) 0 H2=some (.agg (ae x.f).toArray))<|ad 0 c3<|Z 4 (ag 12 dK ei)<|aH 1 h3<|al 2 aN H3 (by rw [qF,cJ,eh,h3] <;> rfl)
   exact ad 2 c1<|Z 2 (ag 3 ct aP)<|ad 0 c2<|Z 1 (cg hO fp cL rfl rfl:ay E 66 (H.n+0) 0 H2=some (.agg (ae x.f).toArray))<|ad 0 c3<|Z 4 (ag 12 dK ei)<|aH 1 h3<|al 2 Y H3 (by rw [qF,cJ,eh,h3] <;> rfl)
  exact ad 2 c1<|Z 2 (ag 3 ct aP)<|ad 0 c2<|Z 1 (cg hO fp cL rfl rfl:ay E 66 (H.n+0) 0 H2=some (.agg (ae x.f).toArray))<|ad 0 c3<|al 4 Y H3 (by rw [qF,cJ,eh] <;> rfl)
 exact ad 2 c1<|Z 2 (ag 3 ct aP)<|ad 0 c2<|al 5 Y H2 (by rw [qF,cJ] <;> rfl)
theorem aeb (x:aw) (X:U) (hx:aa E G X) (a:dG X x) (hz:lu x) {H:U} (y:aa E X H):aI E X 44 [.agg (ae x.f).toArray] H [] (fun v H'=>v=.bool (mb x)):=by
 refine br Tryz.f44 y ?_
 refine Z 4 (aR (c8 H x) 0 1 aJ)<|aO 0 (x.f.op≥1) ?_ ?_ <;> intro h1 q1
 ·refine Z 3 (aR (c8 H x) 0 1 aJ)<|aO 0 (x.f.op≤11) ?_ ?_ <;> intro h2 cw
  ·obtain ⟨_,H1,c1,af,y1,b7⟩:=fh (RP x X hx a hz (y.news [O (ae x.f) 66]))
   refine Z 2 (dy hO fp rfl rfl rfl:ay E 66 (H.n+0) 0 (c8 H x)=some (.agg (ae x.f).toArray))<|?_
   rcases b7 with ⟨rfl,cq⟩ |⟨rfl,cq⟩
   ·have aP:=(y.news [O (ae x.f) 66]).kept af ai (aL [O (ae x.f) 66] H 0 _ rfl)
    refine ad 0 c1<|Z 4 (ag 12 dK aP)<|cS 1 (x.f.an:Int) 2 ?_ ?_ <;> intro h4 dT
    ·exact al 2 aN H1 (by rw [mb,h1,h2,cq,h4] <;> rfl)
    exact al 2 Y H1 (by rw [mb,h1,h2,cq,h4] <;> rfl)
   exact ad 0 c1<|al 4 Y H1 (by rw [mb,h1,h2,cq] <;> rfl)
  exact al 6 Y (c8 H x) (by rw [mb,h1,h2] <;> rfl)
 exact al 7 Y (c8 H x) (by rw [mb,h1] <;> rfl)
theorem ad9 (x:aw) (X:U) (hx:aa E G X) (a:dG X x) (hz:lu x) {H:U} (y:aa E X H):aI E X 45 [.agg (ae x.f).toArray] H [] (fun v H'=>v=.bool (vQ x)):=by
 refine br Tryz.f45 y ?_
 refine Z 4 (aR (c8 H x) 0 12 dK)<|cS 1 (x.f.an:Int) 1 ?_ ?_ <;> intro h1 q1
 ·exact al 1 aN (c8 H x) (by rw [vQ,h1] <;> rfl)
 exact al 1 Y (c8 H x) (by rw [vQ,h1] <;> rfl)
noncomputable abbrev sr (f:dZ):=([J f.k,J f.op,ax 0,.string f.s,.slice f.pm f.nm f.bj,J f.wide,J f.off,.bool f.ha,J f.at_,J f.how,.slice f.bf f.nn f.bg,.bool f.fk,.slice f.pk f.an f.ak]:List Value)
noncomputable abbrev K4 H (f:dZ):=news H [O (ae f) 66,O (sr f) 27,O (sr f) 27]
noncomputable abbrev nV (f:dZ):=([J f.k,J f.op,ax f.v,.string ⟨#[]⟩,.slice f.pm f.nm f.bj,J f.wide,J f.off,.bool f.ha,J f.at_,J f.how,.slice f.bf f.nn f.bg,.bool f.fk,.slice f.pk f.an f.ak]:List Value)
noncomputable abbrev K5 H (f:dZ):=news H [O (ae f) 66,O (nV f) 27,O (nV f) 27]
noncomputable abbrev ss (f:dZ):=([J f.k,J f.op,ax f.v,.string ⟨#[]⟩,.slice f.pm f.nm f.bj,J f.wide,J f.off,.bool f.ha,J f.at_,J f.how,.slice f.bf f.nn f.bg,.bool f.fk,.slice none 0 0]:List Value)
noncomputable abbrev K6 H (f:dZ):=news H [O (ae f) 66,O (ss f) 27,O (ss f) 27]
noncomputable abbrev su (f:dZ):=([J f.k,J f.op,ax f.v,.string ⟨#[]⟩,.slice f.pm f.nm f.bj,J f.wide,J f.off,.bool f.ha,J f.at_,J 0,.slice none 0 0,.bool f.fk,.slice none 0 0]:List Value)
noncomputable abbrev K7 H (f:dZ):=news H [O (ae f) 66,O (su f) 27,O (su f) 27]
noncomputable abbrev sv (f:dZ):=([J f.k,J f.op,ax f.v,.string f.s,.slice f.pm f.nm f.bj,J f.wide,J f.off,.bool f.ha,J f.at_,J f.how,.slice f.bf f.nn f.bg,.bool f.fk,.slice none 0 0]:List Value)
noncomputable abbrev K8 H (f:dZ):=news H [O (ae f) 66,O (sv f) 27,O (sv f) 27]
noncomputable abbrev K9 H f:=news H [O (ae f) 66,O (ae f) 27,O (ae f) 27]
noncomputable abbrev dg Y:=([J 0,J 0,ax 0,.string ⟨#[]⟩,.slice none 0 0,J 0,J 0,Y,J 0,J 0,.slice none 0 0,Y,.slice none 0 0]:List Value)
noncomputable abbrev OG (f:dZ):=([J f.k,J f.op,ax f.v,.string ⟨#[]⟩,.slice none 0 0,J f.wide,J f.off,.bool f.ha,J f.at_,J f.how,.slice f.bf f.nn f.bg,.bool f.fk,.slice f.pk f.an f.ak]:List Value)
noncomputable abbrev OH (f:dZ):=([J f.k,J f.op,ax f.v,.string ⟨#[]⟩,.slice none 0 0,J 0,J f.off,.bool f.ha,J f.at_,J f.how,.slice f.bf f.nn f.bg,.bool f.fk,.slice f.pk f.an f.ak]:List Value)
noncomputable abbrev OI (f:dZ):=([J f.k,J f.op,ax f.v,.string ⟨#[]⟩,.slice none 0 0,J 0,J 0,.bool f.ha,J f.at_,J f.how,.slice f.bf f.nn f.bg,.bool f.fk,.slice f.pk f.an f.ak]:List Value)
noncomputable abbrev OJ (f:dZ) Y:=([J f.k,J f.op,ax f.v,.string ⟨#[]⟩,.slice none 0 0,J 0,J 0,Y,J f.at_,J f.how,.slice f.bf f.nn f.bg,.bool f.fk,.slice f.pk f.an f.ak]:List Value)
noncomputable abbrev pi (f:dZ) Y:=([J f.k,J f.op,ax f.v,.string ⟨#[]⟩,.slice none 0 0,J 0,J 0,Y,J 0,J f.how,.slice f.bf f.nn f.bg,.bool f.fk,.slice f.pk f.an f.ak]:List Value)
noncomputable abbrev OA (f:dZ):=([J f.k,J f.op,ax f.v,.string ⟨#[]⟩,.slice f.pm f.nm f.bj,J f.wide,J f.off,.bool f.ha,J f.at_,J 0,.slice f.bf f.nn f.bg,.bool f.fk,.slice f.pk f.an f.ak]:List Value)
noncomputable abbrev OB (f:dZ):=([J f.k,J f.op,ax f.v,.string ⟨#[]⟩,.slice f.pm f.nm f.bj,J f.wide,J f.off,.bool f.ha,J f.at_,J 0,.slice none 0 0,.bool f.fk,.slice f.pk f.an f.ak]:List Value)
noncomputable abbrev OC (f:dZ):=([J f.k,J 0,ax f.v,.string f.s,.slice f.pm f.nm f.bj,J f.wide,J f.off,.bool f.ha,J f.at_,J f.how,.slice f.bf f.nn f.bg,.bool f.fk,.slice f.pk f.an f.ak]:List Value)
noncomputable abbrev OD (f:dZ) Y:=([J f.k,J 0,ax f.v,.string f.s,.slice f.pm f.nm f.bj,J f.wide,J f.off,.bool f.ha,J f.at_,J f.how,.slice f.bf f.nn f.bg,Y,.slice f.pk f.an f.ak]:List Value)
noncomputable abbrev OE (f:dZ) Y:=([J f.k,J 0,ax f.v,.string f.s,.slice f.pm f.nm f.bj,J f.wide,J f.off,.bool f.ha,J f.at_,J 0,.slice f.bf f.nn f.bg,Y,.slice f.pk f.an f.ak]:List Value)
noncomputable abbrev OF (f:dZ) Y:=([J f.k,J 0,ax f.v,.string f.s,.slice f.pm f.nm f.bj,J f.wide,J f.off,.bool f.ha,J f.at_,J 0,.slice none 0 0,Y,.slice f.pk f.an f.ak]:List Value)
noncomputable abbrev pj (f:dZ) Y:=([J f.k,J 0,ax f.v,.string f.s,.slice f.pm f.nm f.bj,J f.wide,J f.off,.bool f.ha,J f.at_,J 0,.slice none 0 0,Y,.slice none 0 0]:List Value)
theorem ad6 (f:dZ) (X:U) (hx:aa E G X) {H:U} (y:aa E X H):aI E X 76 [.agg (ae f).toArray] H [] (fun v H'=>v=.agg (ae (gF f)).toArray):=by
 refine br Tryz.f76 y ?_
 refine Z 3 (dy cv bH rfl rfl rfl:ay E 27 (H.n+0) 0 (news H [O (ae f) 66,O (dg Y) 27])=some (.agg (ae f).toArray))<|aC 1 (bT bH rfl rfl rfl rfl:bp E 27 (H.n+2) 0 (.agg (ae f).toArray) (news H [O (ae f) 66,O (dg Y) 27,O (dg Y) 27])=some (news H [O (ae f) 66,O (dg Y) 27,O (ae f) 27]))<|Z 1 (aR (news H [O (ae f) 66,O (dg Y) 27,O (ae f) 27]) 2 0 aJ)<|cS 0 f.k 1 ?_ ?_ <;> intro h1 q1
 ·exact aC 2 (bT Dt rfl rfl rfl rfl:bp E 22 (H.n+2) 2 (ax 0) (news H [O (ae f) 66,O (dg Y) 27,O (ae f) 27])=some (news H [O (ae f) 66,O (dg Y) 27,O (sr f) 27]))<|Z 0 (dy cv bH rfl rfl rfl:ay E 27 (H.n+2) 0 (news H [O (ae f) 66,O (dg Y) 27,O (sr f) 27])=some (.agg (sr f).toArray))<|aC 0 (bT bH rfl rfl rfl rfl:bp E 27 (H.n+1) 0 (.agg (sr f).toArray) (news H [O (ae f) 66,O (dg Y) 27,O (sr f) 27])=some (K4 H f))<|aj [] ((dy cv bH rfl rfl rfl):ay E 27 (H.n+1) 0 (K4 H f)=some (.agg (sr f).toArray))<|gM 0 [.agg (sr f).toArray] (.agg (sr f).toArray) (K4 H f) [H.n+2,H.n+2,H.n+1] aQ aZ (by rw [gF,h1] <;> rfl)
 refine cS 1 f.k 2 ?_ ?_ <;> intro h2 cw
 ·exact aC 2 (bT oW rfl rfl rfl rfl:bp E 9 (H.n+2) 3 (.string ⟨#[]⟩) (news H [O (ae f) 66,O (dg Y) 27,O (ae f) 27])=some (news H [O (ae f) 66,O (dg Y) 27,O (nV f) 27]))<|Z 0 (dy cv bH rfl rfl rfl:ay E 27 (H.n+2) 0 (news H [O (ae f) 66,O (dg Y) 27,O (nV f) 27])=some (.agg (nV f).toArray))<|aC 0 (bT bH rfl rfl rfl rfl:bp E 27 (H.n+1) 0 (.agg (nV f).toArray) (news H [O (ae f) 66,O (dg Y) 27,O (nV f) 27])=some (K5 H f))<|aj [] ((dy cv bH rfl rfl rfl):ay E 27 (H.n+1) 0 (K5 H f)=some (.agg (nV f).toArray))<|gM 0 [.agg (nV f).toArray] (.agg (nV f).toArray) (K5 H f) [H.n+2,H.n+2,H.n+1] aQ aZ (by rw [gF,h1,h2] <;> rfl)
 refine cS 1 f.k 3 ?_ ?_ <;> intro h3 dv
 ·exact aC 2 (bT oW rfl rfl rfl rfl:bp E 9 (H.n+2) 3 (.string ⟨#[]⟩) (news H [O (ae f) 66,O (dg Y) 27,O (ae f) 27])=some (news H [O (ae f) 66,O (dg Y) 27,O (nV f) 27]))<|aC 1 (bT ahq rfl rfl rfl rfl:bp E 23 (H.n+2) 4 (.slice none 0 0) (news H [O (ae f) 66,O (dg Y) 27,O (nV f) 27])=some (news H [O (ae f) 66,O (dg Y) 27,O (OG f) 27]))<|aC 1 (bT MG rfl rfl rfl rfl:bp E 2 (H.n+2) 5 (J 0) (news H [O (ae f) 66,O (dg Y) 27,O (OG f) 27])=some (news H [O (ae f) 66,O (dg Y) 27,O (OH f) 27]))<|aC 1 (bT MG rfl rfl rfl rfl:bp E 2 (H.n+2) 6 (J 0) (news H [O (ae f) 66,O (dg Y) 27,O (OH f) 27])=some (news H [O (ae f) 66,O (dg Y) 27,O (OI f) 27]))<|aC 1 (bT Du rfl rfl rfl rfl:bp E 4 (H.n+2) 7 Y (news H [O (ae f) 66,O (dg Y) 27,O (OI f) 27])=some (news H [O (ae f) 66,O (dg Y) 27,O (OJ f Y) 27]))<|aC 1 (bT MG rfl rfl rfl rfl:bp E 2 (H.n+2) 8 (J 0) (news H [O (ae f) 66,O (dg Y) 27,O (OJ f Y) 27])=some (news H [O (ae f) 66,O (dg Y) 27,O (pi f Y) 27]))<|Z 0 (dy cv bH rfl rfl rfl:ay E 27 (H.n+2) 0 (news H [O (ae f) 66,O (dg Y) 27,O (pi f Y) 27])=some (.agg (pi f Y).toArray))<|aC 0 (bT bH rfl rfl rfl rfl:bp E 27 (H.n+1) 0 (.agg (pi f Y).toArray) (news H [O (ae f) 66,O (dg Y) 27,O (pi f Y) 27])=some (news H [O (ae f) 66,O (pi f Y) 27,O (pi f Y) 27]))<|aj [] ((dy cv bH rfl rfl rfl):ay E 27 (H.n+1) 0 (news H [O (ae f) 66,O (pi f Y) 27,O (pi f Y) 27])=some (.agg (pi f Y).toArray))<|gM 0 [.agg (pi f Y).toArray] (.agg (pi f Y).toArray) (news H [O (ae f) 66,O (pi f Y) 27,O (pi f Y) 27]) [H.n+2,H.n+2,H.n+2,H.n+2,H.n+2,H.n+2,H.n+2,H.n+1] aQ aZ (by rw [gF,h1,h2,h3] <;> rfl)
 refine cS 1 f.k 4 ?_ ?_ <;> intro h4 dT
 ·exact aC 2 (bT oW rfl rfl rfl rfl:bp E 9 (H.n+2) 3 (.string ⟨#[]⟩) (news H [O (ae f) 66,O (dg Y) 27,O (ae f) 27])=some (news H [O (ae f) 66,O (dg Y) 27,O (nV f) 27]))<|aC 1 (bT qn rfl rfl rfl rfl:bp E 25 (H.n+2) 12 (.slice none 0 0) (news H [O (ae f) 66,O (dg Y) 27,O (nV f) 27])=some (news H [O (ae f) 66,O (dg Y) 27,O (ss f) 27]))<|Z 0 (dy cv bH rfl rfl rfl:ay E 27 (H.n+2) 0 (news H [O (ae f) 66,O (dg Y) 27,O (ss f) 27])=some (.agg (ss f).toArray))<|aC 0 (bT bH rfl rfl rfl rfl:bp E 27 (H.n+1) 0 (.agg (ss f).toArray) (news H [O (ae f) 66,O (dg Y) 27,O (ss f) 27])=some (K6 H f))<|aj [] ((dy cv bH rfl rfl rfl):ay E 27 (H.n+1) 0 (K6 H f)=some (.agg (ss f).toArray))<|gM 0 [.agg (ss f).toArray] (.agg (ss f).toArray) (K6 H f) [H.n+2,H.n+2,H.n+2,H.n+1] aQ aZ (by rw [gF,h1,h2,h3,h4] <;> rfl)
 refine cS 1 f.k 5 ?_ ?_ <;> intro h5 ff
 ·exact aC 2 (bT oW rfl rfl rfl rfl:bp E 9 (H.n+2) 3 (.string ⟨#[]⟩) (news H [O (ae f) 66,O (dg Y) 27,O (ae f) 27])=some (news H [O (ae f) 66,O (dg Y) 27,O (nV f) 27]))<|aC 1 (bT dL rfl rfl rfl rfl:bp E 3 (H.n+2) 9 (J 0) (news H [O (ae f) 66,O (dg Y) 27,O (nV f) 27])=some (news H [O (ae f) 66,O (dg Y) 27,O (OA f) 27]))<|aC 1 (bT uC rfl rfl rfl rfl:bp E 24 (H.n+2) 10 (.slice none 0 0) (news H [O (ae f) 66,O (dg Y) 27,O (OA f) 27])=some (news H [O (ae f) 66,O (dg Y) 27,O (OB f) 27]))<|aC 1 (bT qn rfl rfl rfl rfl:bp E 25 (H.n+2) 12 (.slice none 0 0) (news H [O (ae f) 66,O (dg Y) 27,O (OB f) 27])=some (news H [O (ae f) 66,O (dg Y) 27,O (su f) 27]))<|Z 0 (dy cv bH rfl rfl rfl:ay E 27 (H.n+2) 0 (news H [O (ae f) 66,O (dg Y) 27,O (su f) 27])=some (.agg (su f).toArray))<|aC 0 (bT bH rfl rfl rfl rfl:bp E 27 (H.n+1) 0 (.agg (su f).toArray) (news H [O (ae f) 66,O (dg Y) 27,O (su f) 27])=some (K7 H f))<|aj [] ((dy cv bH rfl rfl rfl):ay E 27 (H.n+1) 0 (K7 H f)=some (.agg (su f).toArray))<|gM 0 [.agg (su f).toArray] (.agg (su f).toArray) (K7 H f) [H.n+2,H.n+2,H.n+2,H.n+2,H.n+2,H.n+1] aQ aZ (by rw [gF,h1,h2,h3,h4,h5] <;> rfl)
 refine cS 1 f.k 6 ?_ ?_ <;> intro h6 e7
 ·exact aC 2 (bT dL rfl rfl rfl rfl:bp E 3 (H.n+2) 1 (J 0) (news H [O (ae f) 66,O (dg Y) 27,O (ae f) 27])=some (news H [O (ae f) 66,O (dg Y) 27,O (OC f) 27]))<|aC 1 (bT Du rfl rfl rfl rfl:bp E 4 (H.n+2) 11 Y (news H [O (ae f) 66,O (dg Y) 27,O (OC f) 27])=some (news H [O (ae f) 66,O (dg Y) 27,O (OD f Y) 27]))<|aC 1 (bT dL rfl rfl rfl rfl:bp E 3 (H.n+2) 9 (J 0) (news H [O (ae f) 66,O (dg Y) 27,O (OD f Y) 27])=some (news H [O (ae f) 66,O (dg Y) 27,O (OE f Y) 27]))<|aC 1 (bT uC rfl rfl rfl rfl:bp E 24 (H.n+2) 10 (.slice none 0 0) (news H [O (ae f) 66,O (dg Y) 27,O (OE f Y) 27])=some (news H [O (ae f) 66,O (dg Y) 27,O (OF f Y) 27]))<|aC 1 (bT qn rfl rfl rfl rfl:bp E 25 (H.n+2) 12 (.slice none 0 0) (news H [O (ae f) 66,O (dg Y) 27,O (OF f Y) 27])=some (news H [O (ae f) 66,O (dg Y) 27,O (pj f Y) 27]))<|Z 0 (dy cv bH rfl rfl rfl:ay E 27 (H.n+2) 0 (news H [O (ae f) 66,O (dg Y) 27,O (pj f Y) 27])=some (.agg (pj f Y).toArray))<|aC 0 (bT bH rfl rfl rfl rfl:bp E 27 (H.n+1) 0 (.agg (pj f Y).toArray) (news H [O (ae f) 66,O (dg Y) 27,O (pj f Y) 27])=some (news H [O (ae f) 66,O (pj f Y) 27,O (pj f Y) 27]))<|aj [] ((dy cv bH rfl rfl rfl):ay E 27 (H.n+1) 0 (news H [O (ae f) 66,O (pj f Y) 27,O (pj f Y) 27])=some (.agg (pj f Y).toArray))<|gM 0 [.agg (pj f Y).toArray] (.agg (pj f Y).toArray) (news H [O (ae f) 66,O (pj f Y) 27,O (pj f Y) 27]) [H.n+2,H.n+2,H.n+2,H.n+2,H.n+2,H.n+2,H.n+1] aQ aZ (by rw [gF,h1,h2,h3,h4,h5,h6] <;> rfl)
 refine cS 1 f.k 7 ?_ ?_ <;> intro h7 mR
 ·exact aC 2 (bT qn rfl rfl rfl rfl:bp E 25 (H.n+2) 12 (.slice none 0 0) (news H [O (ae f) 66,O (dg Y) 27,O (ae f) 27])=some (news H [O (ae f) 66,O (dg Y) 27,O (sv f) 27]))<|Z 0 (dy cv bH rfl rfl rfl:ay E 27 (H.n+2) 0 (news H [O (ae f) 66,O (dg Y) 27,O (sv f) 27])=some (.agg (sv f).toArray))<|aC 0 (bT bH rfl rfl rfl rfl:bp E 27 (H.n+1) 0 (.agg (sv f).toArray) (news H [O (ae f) 66,O (dg Y) 27,O (sv f) 27])=some (K8 H f))<|aj [] ((dy cv bH rfl rfl rfl):ay E 27 (H.n+1) 0 (K8 H f)=some (.agg (sv f).toArray))<|gM 0 [.agg (sv f).toArray] (.agg (sv f).toArray) (K8 H f) [H.n+2,H.n+2,H.n+1] aQ aZ (by rw [gF,h1,h2,h3,h4,h5,h6,h7] <;> rfl)
 exact Z 1 (dy cv bH rfl rfl rfl:ay E 27 (H.n+2) 0 (news H [O (ae f) 66,O (dg Y) 27,O (ae f) 27])=some (.agg (ae f).toArray))<|aC 0 (bT bH rfl rfl rfl rfl:bp E 27 (H.n+1) 0 (.agg (ae f).toArray) (news H [O (ae f) 66,O (dg Y) 27,O (ae f) 27])=some (K9 H f))<|aj [] ((dy cv bH rfl rfl rfl):ay E 27 (H.n+1) 0 (K9 H f)=some (.agg (ae f).toArray))<|gM 0 [.agg (ae f).toArray] (.agg (ae f).toArray) (K9 H f) [H.n+2,H.n+1] aQ aZ (by rw [gF,h1,h2,h3,h4,h5,h6,h7] <;> rfl)
noncomputable abbrev iA H1 f:=news H1 [O (ae (gF f)) 27]
theorem aee (f:dZ) (X:U) (hx:aa E G X) {H:U} (y:aa E X H):aI E X 46 [.agg (ae f).toArray] H [] (fun v H'=>v=.bool (jd (gF f))):=by
 refine br Tryz.f46 y ?_
 obtain ⟨_,H1,c1,af,y1,rfl⟩:=ad6 f X hx (y.news [O (ae f) 66])
 have cI:=dA af
 refine Z 2 (dy hO fp rfl rfl rfl:ay E 66 (H.n+0) 0 (news H [O (ae f) 66])=some (.agg (ae f).toArray))<|ad 0 c1<|aC 1 (bT bH rfl rfl rfl rfl:bp E 27 (H1.n+0) 0 (.agg (ae (gF f)).toArray) (news H1 (am (dg Y)))=some (iA H1 f))<|Z 1 (aR (iA H1 f) 0 1 aJ)<|cS 0 ((gF f).op) 0 ?_ ?_ <;> intro h1 q1
 ·refine Z 2 (aR (iA H1 f) 0 2 jH)<|cS 0 ((gF f).v) 0 ?_ ?_ <;> intro h2 cw
  ·refine Z 3 (aR (iA H1 f) 0 3 ct)<|oS 0 (((gF f).s).toList==(⟨#[]⟩:ByteArray).toList) (fun h3=>?_) fun h3=>?_
   ·refine Z 3 (aR (iA H1 f) 0 4 jI)<|cS 1 (((gF f).nm:Nat):Int) 0 ?_ ?_ <;> intro h4 dT
    ·refine Z 3 (aR (iA H1 f) 0 5 dX)<|cS 0 ((gF f).wide) 0 ?_ ?_ <;> intro h5 ff
     ·refine Z 3 (aR (iA H1 f) 0 6 dX)<|cS 0 ((gF f).off) 0 ?_ ?_ <;> intro h6 e7
      ·refine aK [aB 2]<|?_
       rcases ep ((gF f).ha) with h7 |h7
       ·exact aj [dP aN (iA H1 f)] ((aR (iA H1 f) 0 7 gV).trans (congrArg (fun q=>some (Value.bool q)) h7))<|aV 13 Y (iA H1 f) [H1.n+0] aQ aZ (by rw [jd,h1,h2,h3,h4,h5,h6,h7] <;> rfl)
       refine aj [dP Y (iA H1 f)] ((aR (iA H1 f) 0 7 gV).trans (congrArg (fun q=>some (Value.bool q)) h7))<|Z 4 (aR (iA H1 f) 0 8 dX)<|cS 0 ((gF f).at_) 0 ?_ ?_ <;> intro h8 x6
       ·refine Z 3 (aR (iA H1 f) 0 9 aJ)<|cS 0 ((gF f).how) 0 ?_ ?_ <;> intro h9 uw
        ·refine Z 3 (aR (iA H1 f) 0 10 iI)<|cS 1 (((gF f).nn:Nat):Int) 0 ?_ ?_ <;> intro h10 Ag
         ·refine aK [aB 2]<|?_
          rcases ep ((gF f).fk) with h11 |h11
          ·exact aj [dP aN (iA H1 f)] ((aR (iA H1 f) 0 11 gV).trans (congrArg (fun q=>some (Value.bool q)) h11))<|aV 5 Y (iA H1 f) [H1.n+0] aQ aZ (by rw [jd,h1,h2,h3,h4,h5,h6,h7,h8,h9,h10,h11] <;> rfl)
          refine aj [dP Y (iA H1 f)] ((aR (iA H1 f) 0 11 gV).trans (congrArg (fun q=>some (Value.bool q)) h11))<|Z 4 (aR (iA H1 f) 0 12 dK)<|cS 1 (((gF f).an:Nat):Int) 0 ?_ ?_ <;> intro h12 Ah
          ·exact aV 2 aN (iA H1 f) [H1.n+0] aQ aZ (by rw [jd,h1,h2,h3,h4,h5,h6,h7,h8,h9,h10,h11,h12] <;> rfl)
          exact aV 2 Y (iA H1 f) [H1.n+0] aQ aZ (by rw [jd,h1,h2,h3,h4,h5,h6,h7,h8,h9,h10,h11,h12] <;> rfl)
         exact aV 6 Y (iA H1 f) [H1.n+0] aQ aZ (by rw [jd,h1,h2,h3,h4,h5,h6,h7,h8,h9,h10] <;> rfl)
        exact aV 8 Y (iA H1 f) [H1.n+0] aQ aZ (by rw [jd,h1,h2,h3,h4,h5,h6,h7,h8,h9] <;> rfl)
       exact aV 10 Y (iA H1 f) [H1.n+0] aQ aZ (by rw [jd,h1,h2,h3,h4,h5,h6,h7,h8] <;> rfl)
      exact aV 14 Y (iA H1 f) [H1.n+0] aQ aZ (by rw [jd,h1,h2,h3,h4,h5,h6] <;> rfl)
     exact aV 16 Y (iA H1 f) [H1.n+0] aQ aZ (by rw [jd,h1,h2,h3,h4,h5] <;> rfl)
    exact aV 18 Y (iA H1 f) [H1.n+0] aQ aZ (by rw [jd,h1,h2,h3,h4] <;> rfl)
   exact aV 20 Y (iA H1 f) [H1.n+0] aQ aZ (by rw [jd,h1,h2,h3] <;> rfl)
  exact aV 22 Y (iA H1 f) [H1.n+0] aQ aZ (by rw [jd,h1,h2] <;> rfl)
 exact aV 23 Y (iA H1 f) [H1.n+0] aQ aZ (by rw [jd,h1] <;> rfl)
end Go.Proofs.YtbehemdcaiigeaaGreatDoor
