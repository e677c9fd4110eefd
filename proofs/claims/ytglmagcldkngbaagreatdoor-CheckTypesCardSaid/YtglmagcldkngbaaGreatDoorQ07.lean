/- Part of the proof that CheckTypes answers true. -/
import Derived.Test.YtglmagcldkngbaaGreatDoorQ06
set_option linter.unusedVariables false
set_option linter.unusedSimpArgs false
set_option maxRecDepth 100000
set_option maxHeartbeats 4000000
namespace Go.Proofs.YtglmagcldkngbaaGreatDoor
open Go Go.Am
theorem vx:rm E #[173,173] 127 1 8=true:=an
noncomputable def TQ:Code:=cw [1,1,0,0,0] (cx Tryz.f117)
noncomputable abbrev qU H2 cJ:=news H2 [O [pt cJ 0] 127]
theorem MS (p:Nat) (nb:Nat) (s:ByteArray) (n:Nat) (e5:Int) (R:Option (Int×Int)):∀(m:Nat) (at_:Int) (dp:Int) (nd:Int) (w:Nat) (wp:Nat) (xs:List Value) (q:Nat) (ps:List Nat) (H:Z),aa E G H→(kp:H.get p=some (O (iF s at_ dp nd (hC w wp)) 151))→(fG:H.get nb=some (O (xs++[sc q 0 ps.length 2]) 176))→(b9:H.get q=some (O (oL ps) 127))→(hA:sB s n)→(hs:(s.size:Int)<100000)→(ce:G.n≤p)→(gn:G.n≤nb)→(k9:p≠nb)→(b0:0≤e5)→(b1:e5≤at_)→(a1:at_≤s.size)→(hn:((s.size:Int)-e5).toNat≤n)→(hw:w=0∨w=1)→(np:iZ xs)→(hR:sE w (k8 s at_ dp) R)→(eJ:G.n≤q)→(dq:p≠q)→(je:nb≠q)→(d8:(ps.length:Int)≤at_+w+2)→2*((s.size:Int)-at_).toNat+(1-w)=m→
  bV E G 40 TQ [(0,pt p 0),(3,pt nb 0)] H [p,nb,q] (fun x T H'=>(x=(.exit 0)∧∃(eW ss qx:Int) (ip sw:Nat),T=aP [(3,pt nb 0)]∧(H'.get p=some (gb s eW ss qx (hC ip sw))∧e5≤eW∧eW≤s.size∧(ip=0∨ip=1)∧(ip=0→R=some (eW,ss))∧(ip=1→R=none)))):=by
 refine dJ fun m ih=>?_
 intro at_ dp nd w wp xs q ps H y kp fG b9 hA hs ce gn k9 b0 b1 a1 hn hw np hR eJ dq je d8 hm
 refine cN y ?_
 have gH:=y.wf.lt kp
 have rZ:=y.wf.lt fG
 have qP:=y.wf.lt b9
 rcases hw with rfl |rfl
 ·rcases df (decide (at_<(s.size:Int))) with h2 |h2
  ·have cv:=fD h2
   obtain ⟨_,H1,c1,ak,y1,bE⟩:=tK p s at_ dp nd ⟨#[124,41]⟩ y kp J hs J J
   rcases bE with ⟨rfl,mM⟩ |⟨rfl,py,oF⟩
   ·have c8:H.n+0≤H1.n:=ak.n
    have cS:=y.kept ak aq fG
    have bZ:=y.kept ak aq kp
    obtain ⟨_,H2,c2,aF,ar,cX⟩:=Rg p s at_ dp nd n y1 bZ J hs J J hA J J
    rcases cX with ⟨cJ,gO,rz,jG,rfl,fi,iP,oD,bj⟩ |⟨cJ,gO,rz,jG,qv,rfl,fi,iP,oD,bj⟩
    ·have cB:H1.n+0≤H2.n:=aF.n
     have g2:=ar.n
     have eY:=y.kept ak aq b9
     have gC:=y1.kept aF bU eY
     obtain ⟨cf,bc⟩:∃ ao,ao=((qU H2 cJ).set q .dead).new (O (oL (ps++[cJ])) 127):=⟨_,rfl⟩
     have aM:aa E G cf:=pM (ar.news [O [pt cJ 0] 127]) bc J (by rw [dj];simp only [dX,e3];omega)
     have ek:cf.n=H2.n+2:=by rw [pN bc,dj] <;> rfl
     have tg:cf.get (H2.n+1)=some (O (oL (ps++[cJ])) 127):=pO bc
     have ed:=y1.kept aF bU cS
     have eo:=jU (ar.news [O [pt cJ 0] 127]) bc J (ar.old ed [O [pt cJ 0] 127])
     obtain ⟨b6,aN⟩:∃ ao,ao=cf.set nb (O (xs++[sc (H2.n+1) 0 ((ps++[cJ]).length) 2]) 176):=⟨_,rfl⟩
     have cu:aa E G b6:=aN▸aM.set _ J J
     have gm:b6.n=cf.n+0:=by rw [aN,Z.cI] <;> rfl
     have fo:=bz aN
     have eU:=jU (ar.news [O [pt cJ 0] 127]) bc J (ar.old fi [O [pt cJ 0] 127])
     have eG:=bW aN J eU
     have zW:=bW aN J tg
     exact Y 3 (ag 4 kB kp)<|Y 5 (ag 1 av kp)<|Y 3 (ag 0 bA kp)<|ay 1 h2<|ac 3 c1<|aE [am 1]<|io [] (bk:p<H1.n∨H1.n≤p) (bk:p<H1.n∨H1.n≤p) (bk:p<H1.n∨H1.n≤p) (bk:p<H1.n∨H1.n≤p) (bk:p≠nb) (bk:p<H1.n∨H1.n≤p)<|az [] (bk:q<H1.n∨H1.n≤q)<|aE [am 3]<|az [bw (sc q 0 ps.length 2) H1] (wv np cS)<|ac 1 c2<|az [] (dO y1 bZ:cK H1 H2 [p]=true)<|g8 1 (show gZ E #[173,173] (sc q 0 ps.length 2) (sc (H2.n+0) 0 1 3) (qU H2 cJ)=some (sc (H2.n+1) 0 ((ps++[cJ]).length) 2,cf,[q],[q,H2.n+0]) from (pd vx rfl (show g9 (qU H2 cJ) 1 (sc (H2.n+0) 0 1 3)=some (1,[pt cJ 0],[H2.n+0]) from js (aR [O [pt cJ 0] 127] H2 0 _ rfl) (gg rfl)) rfl (ar.old gC [O [pt cJ 0] 127]) (by rw [Cp];omega) J).trans (by rw [E4 ps cJ,E5 ps cJ,bc] <;> rfl))<|az [] (dO (ar.news [O [pt cJ 0] 127]) (ar.old gC [O [pt cJ 0] 127]):cK (qU H2 cJ) cf [q]=true)<|aB 2 (te (wz np eo rfl rfl) aN)<|az [] (dO aM eo:cK cf b6 [nb]=true)<|ji 0 [(0,pt p 0),(3,pt nb 0)] b6 [p,q,nb] aW aJ (ih _ J gO rz jG 0 0 xs (H2.n+1) (ps++[cJ]) _ cu eG fo zW hA hs ce gn k9 b0 J J hn J np (.go ((D6 J (fun h=>mM ⟨J,h⟩) iP J).symm.trans (hR.1 rfl))) J J J (by simp only [List.length_append,dX,e3];omega) rfl)
    have cB:H1.n+0≤H2.n:=aF.n
    have g2:=ar.n
    have eY:=y.kept ak aq b9
    have gC:=y1.kept aF bU eY
    obtain ⟨cf,bc⟩:∃ ao,ao=((qU H2 cJ).set q .dead).new (O (oL (ps++[cJ])) 127):=⟨_,rfl⟩
    have aM:aa E G cf:=pM (ar.news [O [pt cJ 0] 127]) bc J (by rw [dj];simp only [dX,e3];omega)
    have ek:cf.n=H2.n+2:=by rw [pN bc,dj] <;> rfl
    have tg:cf.get (H2.n+1)=some (O (oL (ps++[cJ])) 127):=pO bc
    have ed:=y1.kept aF bU cS
    have eo:=jU (ar.news [O [pt cJ 0] 127]) bc J (ar.old ed [O [pt cJ 0] 127])
    obtain ⟨b6,aN⟩:∃ ao,ao=cf.set nb (O (xs++[sc (H2.n+1) 0 ((ps++[cJ]).length) 2]) 176):=⟨_,rfl⟩
    have cu:aa E G b6:=aN▸aM.set _ J J
    have gm:b6.n=cf.n+0:=by rw [aN,Z.cI] <;> rfl
    have fo:=bz aN
    have eU:=jU (ar.news [O [pt cJ 0] 127]) bc J (ar.old fi [O [pt cJ 0] 127])
    have eG:=bW aN J eU
    have zW:=bW aN J tg
    exact Y 3 (ag 4 kB kp)<|Y 5 (ag 1 av kp)<|Y 3 (ag 0 bA kp)<|ay 1 h2<|ac 3 c1<|aE [am 1]<|io [] (bk:p<H1.n∨H1.n≤p) (bk:p<H1.n∨H1.n≤p) (bk:p<H1.n∨H1.n≤p) (bk:p<H1.n∨H1.n≤p) (bk:p≠nb) (bk:p<H1.n∨H1.n≤p)<|az [] (bk:q<H1.n∨H1.n≤q)<|aE [am 3]<|az [bw (sc q 0 ps.length 2) H1] (wv np cS)<|ac 1 c2<|az [] (dO y1 bZ:cK H1 H2 [p]=true)<|g8 1 (show gZ E #[173,173] (sc q 0 ps.length 2) (sc (H2.n+0) 0 1 3) (qU H2 cJ)=some (sc (H2.n+1) 0 ((ps++[cJ]).length) 2,cf,[q],[q,H2.n+0]) from (pd vx rfl (show g9 (qU H2 cJ) 1 (sc (H2.n+0) 0 1 3)=some (1,[pt cJ 0],[H2.n+0]) from js (aR [O [pt cJ 0] 127] H2 0 _ rfl) (gg rfl)) rfl (ar.old gC [O [pt cJ 0] 127]) (by rw [Cp];omega) J).trans (by rw [E4 ps cJ,E5 ps cJ,bc] <;> rfl))<|az [] (dO (ar.news [O [pt cJ 0] 127]) (ar.old gC [O [pt cJ 0] 127]):cK (qU H2 cJ) cf [q]=true)<|aB 2 (te (wz np eo rfl rfl) aN)<|az [] (dO aM eo:cK cf b6 [nb]=true)<|ji 0 [(0,pt p 0),(3,pt nb 0)] b6 [p,q,nb] aW aJ (ih _ J gO rz jG 1 qv xs (H2.n+1) (ps++[cJ]) _ cu eG fo zW hA hs ce gn k9 b0 J J hn J np (.bad ((hR.1 rfl).symm.trans (D5 J (fun h=>mM ⟨J,h⟩) iP))) J J J (by simp only [List.length_append,dX,e3];omega) rfl)
   have bZ:=y.kept ak aq kp
   exact Y 3 (ag 4 kB kp)<|Y 5 (ag 1 av kp)<|Y 3 (ag 0 bA kp)<|ay 1 h2<|ac 3 c1<|c5 2 [(3,pt nb 0)] (.exit 0) H1 [] aL aZ ⟨rfl,at_,dp,nd,0,wp,rfl,⟨bZ,J,J,J,fun _=>(hR.1 rfl).symm.trans (sQ (fun h=>h.2 oF)),fun h=>absurd h (by decide)⟩⟩
  have cv:=fM h2
  exact Y 3 (ag 4 kB kp)<|Y 5 (ag 1 av kp)<|Y 3 (ag 0 bA kp)<|ay 1 h2<|c5 3 [(3,pt nb 0)] (.exit 0) H [] aL aZ ⟨rfl,at_,dp,nd,0,wp,rfl,⟨kp,J,J,J,fun _=>(hR.1 rfl).symm.trans (sQ (fun h=>absurd h.1 J)),fun h=>absurd h (by decide)⟩⟩
 exact Y 3 (ag 4 kB kp)<|c5 5 [(3,pt nb 0)] (.exit 0) H [] aL aZ ⟨rfl,at_,dp,nd,1,wp,rfl,⟨kp,J,J,J,fun h=>absurd h (by decide),fun _=>hR.2 rfl⟩⟩
noncomputable def TP:Code:=cw [1,1,0,0,0] (cx Tryz.f117)
noncomputable abbrev Ai H2 cJ:=news H2 [O [pt cJ 0] 127,O [pt cJ 0] 127]
theorem TL (p:Nat) (nb:Nat) (s:ByteArray) (n:Nat) (e5:Int) (R:Option (Int×Int)):∀(m:Nat) (at_:Int) (dp:Int) (nd:Int) (w:Nat) (wp:Nat) (xs:List Value) (H:Z),aa E G H→(kp:H.get p=some (O (iF s at_ dp nd (hC w wp)) 151))→(fG:H.get nb=some (O (xs++[.slice none 0 0]) 176))→(hA:sB s n)→(hs:(s.size:Int)<100000)→(ce:G.n≤p)→(gn:G.n≤nb)→(k9:p≠nb)→(b0:0≤e5)→(b1:e5≤at_)→(a1:at_≤s.size)→(hn:((s.size:Int)-e5).toNat≤n)→(hw:w=0∨w=1)→(np:iZ xs)→(hR:sE w (k8 s at_ dp) R)→2*((s.size:Int)-at_).toNat+(1-w)=m→
  bV E G 40 TP [(0,pt p 0),(3,pt nb 0)] H [p,nb] (fun x T H'=>(x=(.exit 0)∧∃(eW ss qx:Int) (ip sw:Nat),T=aP [(3,pt nb 0)]∧(H'.get p=some (gb s eW ss qx (hC ip sw))∧e5≤eW∧eW≤s.size∧(ip=0∨ip=1)∧(ip=0→R=some (eW,ss))∧(ip=1→R=none)))):=by
 refine dJ fun m ih=>?_
 intro at_ dp nd w wp xs H y kp fG hA hs ce gn k9 b0 b1 a1 hn hw np hR hm
 refine cN y ?_
 have gH:=y.wf.lt kp
 have rZ:=y.wf.lt fG
 rcases hw with rfl |rfl
 ·rcases df (decide (at_<(s.size:Int))) with h2 |h2
  ·have cv:=fD h2
   obtain ⟨_,H1,c1,ak,y1,bE⟩:=tK p s at_ dp nd ⟨#[124,41]⟩ y kp J hs J J
   rcases bE with ⟨rfl,mM⟩ |⟨rfl,py,oF⟩
   ·have c8:H.n+0≤H1.n:=ak.n
    have cS:=y.kept ak aq fG
    have bZ:=y.kept ak aq kp
    obtain ⟨_,H2,c2,aF,ar,cX⟩:=Rg p s at_ dp nd n y1 bZ J hs J J hA J J
    rcases cX with ⟨cJ,gO,rz,jG,rfl,fi,iP,oD,bj⟩ |⟨cJ,gO,rz,jG,qv,rfl,fi,iP,oD,bj⟩
    ·have cB:H1.n+0≤H2.n:=aF.n
     have g2:=ar.n
     have ed:=y1.kept aF bU cS
     obtain ⟨cf,bc⟩:∃ ao,ao=(Ai H2 cJ).set nb (O (xs++[sc (H2.n+1) 0 1 2]) 176):=⟨_,rfl⟩
     have aM:aa E G cf:=bc▸(ar.news [O [pt cJ 0] 127,O [pt cJ 0] 127]).set _ J (by rw [dj];simp only [dX,e3];omega)
     have ek:cf.n=H2.n+2:=by rw [bc,Z.cI,dj] <;> rfl
     have tg:=bW bc J (aR [O [pt cJ 0] 127,O [pt cJ 0] 127] H2 1 _ rfl)
     have eo:=bz bc
     have eU:=bW bc J (ar.old fi [O [pt cJ 0] 127,O [pt cJ 0] 127])
     exact Y 3 (ag 4 kB kp)<|Y 5 (ag 1 av kp)<|Y 3 (ag 0 bA kp)<|ay 1 h2<|ac 3 c1<|aE [am 1]<|io [] (bk:p<H1.n∨H1.n≤p) (bk:p<H1.n∨H1.n≤p) (bk:p<H1.n∨H1.n≤p) (bk:p<H1.n∨H1.n≤p) (bk:p≠nb) (bk:p<H1.n∨H1.n≤p)<|aE [am 3]<|az [bw (.slice none 0 0) H1] (wv np cS)<|ac 1 c2<|az [] (dO y1 bZ:cK H1 H2 [p]=true)<|g8 1 (show gZ E #[173,173] (.slice none 0 0) (sc (H2.n+0) 0 1 3) (qU H2 cJ)=some (sc (H2.n+1) 0 1 2,Ai H2 cJ,[],[H2.n+0]) from sM vx rfl (show g9 (qU H2 cJ) 1 (sc (H2.n+0) 0 1 3)=some (1,[pt cJ 0],[H2.n+0]) from js (aR [O [pt cJ 0] 127] H2 0 _ rfl) (gg rfl)) rfl (by decide) (by decide))<|aB 2 (te (wz np (ar.old ed [O [pt cJ 0] 127,O [pt cJ 0] 127]) rfl rfl) bc)<|az [] (dO (ar.news [O [pt cJ 0] 127,O [pt cJ 0] 127]) (ar.old ed [O [pt cJ 0] 127,O [pt cJ 0] 127]):cK (Ai H2 cJ) cf [nb]=true)<|ji 0 [(0,pt p 0),(3,pt nb 0)] cf [p,nb] aW aJ (MS p nb s n e5 R _ gO rz jG 0 0 xs (H2.n+1) [cJ] _ aM eU eo tg hA hs ce gn k9 b0 J J hn J np (.go ((D6 J (fun h=>mM ⟨J,h⟩) iP J).symm.trans (hR.1 rfl))) J J J (by simp only [List.length_append,dX,e3];omega) rfl)
    have cB:H1.n+0≤H2.n:=aF.n
    have g2:=ar.n
    have ed:=y1.kept aF bU cS
    obtain ⟨cf,bc⟩:∃ ao,ao=(Ai H2 cJ).set nb (O (xs++[sc (H2.n+1) 0 1 2]) 176):=⟨_,rfl⟩
    have aM:aa E G cf:=bc▸(ar.news [O [pt cJ 0] 127,O [pt cJ 0] 127]).set _ J (by rw [dj];simp only [dX,e3];omega)
    have ek:cf.n=H2.n+2:=by rw [bc,Z.cI,dj] <;> rfl
    have tg:=bW bc J (aR [O [pt cJ 0] 127,O [pt cJ 0] 127] H2 1 _ rfl)
    have eo:=bz bc
    have eU:=bW bc J (ar.old fi [O [pt cJ 0] 127,O [pt cJ 0] 127])
    exact Y 3 (ag 4 kB kp)<|Y 5 (ag 1 av kp)<|Y 3 (ag 0 bA kp)<|ay 1 h2<|ac 3 c1<|aE [am 1]<|io [] (bk:p<H1.n∨H1.n≤p) (bk:p<H1.n∨H1.n≤p) (bk:p<H1.n∨H1.n≤p) (bk:p<H1.n∨H1.n≤p) (bk:p≠nb) (bk:p<H1.n∨H1.n≤p)<|aE [am 3]<|az [bw (.slice none 0 0) H1] (wv np cS)<|ac 1 c2<|az [] (dO y1 bZ:cK H1 H2 [p]=true)<|g8 1 (show gZ E #[173,173] (.slice none 0 0) (sc (H2.n+0) 0 1 3) (qU H2 cJ)=some (sc (H2.n+1) 0 1 2,Ai H2 cJ,[],[H2.n+0]) from sM vx rfl (show g9 (qU H2 cJ) 1 (sc (H2.n+0) 0 1 3)=some (1,[pt cJ 0],[H2.n+0]) from js (aR [O [pt cJ 0] 127] H2 0 _ rfl) (gg rfl)) rfl (by decide) (by decide))<|aB 2 (te (wz np (ar.old ed [O [pt cJ 0] 127,O [pt cJ 0] 127]) rfl rfl) bc)<|az [] (dO (ar.news [O [pt cJ 0] 127,O [pt cJ 0] 127]) (ar.old ed [O [pt cJ 0] 127,O [pt cJ 0] 127]):cK (Ai H2 cJ) cf [nb]=true)<|ji 0 [(0,pt p 0),(3,pt nb 0)] cf [p,nb] aW aJ (MS p nb s n e5 R _ gO rz jG 1 qv xs (H2.n+1) [cJ] _ aM eU eo tg hA hs ce gn k9 b0 J J hn J np (.bad ((hR.1 rfl).symm.trans (D5 J (fun h=>mM ⟨J,h⟩) iP))) J J J (by simp only [List.length_append,dX,e3];omega) rfl)
   have bZ:=y.kept ak aq kp
   exact Y 3 (ag 4 kB kp)<|Y 5 (ag 1 av kp)<|Y 3 (ag 0 bA kp)<|ay 1 h2<|ac 3 c1<|c5 2 [(3,pt nb 0)] (.exit 0) H1 [] aL aZ ⟨rfl,at_,dp,nd,0,wp,rfl,⟨bZ,J,J,J,fun _=>(hR.1 rfl).symm.trans (sQ (fun h=>h.2 oF)),fun h=>absurd h (by decide)⟩⟩
  have cv:=fM h2
  exact Y 3 (ag 4 kB kp)<|Y 5 (ag 1 av kp)<|Y 3 (ag 0 bA kp)<|ay 1 h2<|c5 3 [(3,pt nb 0)] (.exit 0) H [] aL aZ ⟨rfl,at_,dp,nd,0,wp,rfl,⟨kp,J,J,J,fun _=>(hR.1 rfl).symm.trans (sQ (fun h=>absurd h.1 J)),fun h=>absurd h (by decide)⟩⟩
 exact Y 3 (ag 4 kB kp)<|c5 5 [(3,pt nb 0)] (.exit 0) H [] aL aZ ⟨rfl,at_,dp,nd,1,wp,rfl,⟨kp,J,J,J,fun h=>absurd h (by decide),fun _=>hR.2 rfl⟩⟩
theorem KP (p:Nat) (s:ByteArray) (at_:Int) (dp:Int) (nd:Int) (n:Nat) {H:Z} (y:aa E G H) (kp:H.get p=some (gb s at_ dp nd (.pointer none))) (ce:G.n≤p) (hs:(s.size:Int)<100000) (a0:0≤at_) (a1:at_≤s.size) (hA:sB s n) (hn:((s.size:Int)-at_).toNat≤n):aV E G 117 [pt p 0] H [p] (fun v H'=>wY s p at_ 0 (k8 s at_ dp) v H'):=by
 refine bB Tryz.f117 y ?_
 have gH:=y.wf.lt kp
 obtain ⟨_,H1,c1,ak,y1,dk,vm,iB,rfl,uW,EP,qh,ei⟩:=AL p s at_ dp nd 0 0 2 y kp J hs J J J
 have JG:=y1.wf.lt qh
 obtain ⟨_,_,H2,c2,aF,ar,rfl,sq,Se,vn,Sj,GV,rfl,n4,kw,Db,Cf,tN,yw⟩:=(TL p dk s n at_ (k8 s at_ dp) _ at_ dp iB 0 0 vm _ y1 ei qh hA hs ce J J J J J J J uW (.go rfl) rfl).code
 have cB:H1.n+0≤H2.n:=aF.n
 refine ac 2 c1<|bx 1 c2<|?_
 rcases Cf with rfl |rfl
 ·exact bf 2 (pt dk 0) H2 [p,p,dk] aJ aZ (.inl ⟨_,sq,Se,vn,rfl,n4,tN rfl,J,J⟩)
 exact bf 2 (pt dk 0) H2 [p,p,dk] aJ aZ (.inr ⟨_,sq,Se,vn,GV,rfl,n4,yw rfl,J,J⟩)
noncomputable def TD:Code:=cw [1,1,0,0,0] (cx Tryz.f98)
noncomputable abbrev qV H3 c7:=news H3 [O [pt c7 0] 127]
theorem Mi (p:Nat) (nb:Nat) (s:ByteArray) (n:Nat) (e5:Int) (R:Option (Int×Int)):∀(m:Nat) (at_:Int) (dp:Int) (nd:Int) (w:Nat) (wp:Nat) (xs:List Value) (q:Nat) (ps:List Nat) (H:Z),aa E G H→(kp:H.get p=some (O (iF s at_ dp nd (hC w wp)) 151))→(fG:H.get nb=some (O (xs++[sc q 0 ps.length 2]) 176))→(b9:H.get q=some (O (oL ps) 127))→(hA:sB s n)→(hs:(s.size:Int)<100000)→(ce:G.n≤p)→(gn:G.n≤nb)→(k9:p≠nb)→(b0:0≤e5)→(b1:e5≤at_)→(a1:at_≤s.size)→(hn:((s.size:Int)-e5).toNat≤n)→(hw:w=0∨w=1)→(np:iZ xs)→(hR:sE w (nP s at_ dp) R)→(eJ:G.n≤q)→(dq:p≠q)→(je:nb≠q)→(d8:(ps.length:Int)≤at_+w+2)→((s.size:Int)-at_).toNat=m→
  bV E G 30 TD [(0,pt p 0),(3,pt nb 0)] H [p,nb,q] (fun x T H'=>(x=(.exit 0)∧∃(eW ss qx:Int) (ip sw:Nat),T=aP [(3,pt nb 0)]∧(H'.get p=some (gb s eW ss qx (hC ip sw))∧e5≤eW∧eW≤s.size∧(ip=0∨ip=1)∧(ip=0→R=some (eW,ss))∧(ip=1→R=none)))):=by
 refine dJ fun m ih=>?_
 intro at_ dp nd w wp xs q ps H y kp fG b9 hA hs ce gn k9 b0 b1 a1 hn hw np hR eJ dq je d8 hm
 refine cN y ?_
 have gH:=y.wf.lt kp
 have rZ:=y.wf.lt fG
 have qP:=y.wf.lt b9
 rcases hw with rfl |rfl
 ·obtain ⟨_,H1,c1,ak,y1,bE⟩:=tK p s at_ dp nd ⟨#[124]⟩ y kp J hs J J
  rcases bE with ⟨rfl,mM⟩ |⟨rfl,py,oF⟩
  ·have bZ:=y.kept ak aq kp
   exact ac 1 c1<|c5 0 [(3,pt nb 0)] (.exit 0) H1 [] aL aZ ⟨rfl,at_,dp,nd,0,wp,rfl,⟨bZ,J,J,J,fun _=>(hR.1 rfl).symm.trans (DT mM),fun h=>absurd h (by decide)⟩⟩
  have c8:H.n+0≤H1.n:=ak.n
  have bZ:=y.kept ak aq kp
  obtain ⟨aK,e2⟩:∃ ao,ao=H1.set p (O (iF s (at_+1) dp nd (hC 0 wp)) 151):=⟨_,rfl⟩
  have ar:aa E G aK:=e2▸y1.set _ J J
  have cB:aK.n=H1.n+0:=by rw [e2,Z.cI] <;> rfl
  have cV:=bz e2
  have cS:=y.kept ak aq fG
  have ed:=bW e2 J cS
  obtain ⟨_,H3,c3,bq,aM,fq⟩:=KP p s (at_+1) dp nd n ar cV J hs J J hA J
  rcases fq with ⟨c7,fW,lp,kq,rfl,gX,jn,qb,ec⟩ |⟨c7,fW,lp,kq,sn,rfl,gX,jn,qb,ec⟩
  ·have ek:aK.n+0≤H3.n:=bq.n
   have g3:=aM.n
   have eY:=y.kept ak aq b9
   have gC:=bW e2 J eY
   have hM:=ar.kept bq bU gC
   obtain ⟨b6,aN⟩:∃ ao,ao=((qV H3 c7).set q .dead).new (O (oL (ps++[c7])) 127):=⟨_,rfl⟩
   have cu:aa E G b6:=pM (aM.news [O [pt c7 0] 127]) aN J (by rw [dj];simp only [dX,e3];omega)
   have gm:b6.n=H3.n+2:=by rw [pN aN,dj] <;> rfl
   have kU:b6.get (H3.n+1)=some (O (oL (ps++[c7])) 127):=pO aN
   have eo:=ar.kept bq bU ed
   have fo:=jU (aM.news [O [pt c7 0] 127]) aN J (aM.old eo [O [pt c7 0] 127])
   obtain ⟨d6,bJ⟩:∃ ao,ao=b6.set nb (O (xs++[sc (H3.n+1) 0 ((ps++[c7]).length) 2]) 176):=⟨_,rfl⟩
   have dQ:aa E G d6:=bJ▸cu.set _ J J
   have iR:d6.n=b6.n+0:=by rw [bJ,Z.cI] <;> rfl
   have i6:=bz bJ
   have eG:=jU (aM.news [O [pt c7 0] 127]) aN J (aM.old gX [O [pt c7 0] 127])
   have e8:=bW bJ J eG
   have rU:=bW bJ J kU
   exact ac 1 c1<|Y 3 (ag 1 av bZ)<|aH 0 (at_+1)<|aB 2 (stx 1 (M (at_+1)) dK bZ e2)<|io [] (bk:p<aK.n∨aK.n≤p) (bk:p<aK.n∨aK.n≤p) (bk:p<aK.n∨aK.n≤p) (bk:p<aK.n∨aK.n≤p) (bk:p≠nb) (bk:p<aK.n∨aK.n≤p)<|az [] (bk:q<aK.n∨aK.n≤q)<|aE [am 3]<|az [bw (sc q 0 ps.length 2) aK] (wv np ed)<|ac 1 c3<|az [] (dO ar cV:cK aK H3 [p]=true)<|g8 1 (show gZ E #[173,173] (sc q 0 ps.length 2) (sc (H3.n+0) 0 1 3) (qV H3 c7)=some (sc (H3.n+1) 0 ((ps++[c7]).length) 2,b6,[q],[q,H3.n+0]) from (pd vx rfl (show g9 (qV H3 c7) 1 (sc (H3.n+0) 0 1 3)=some (1,[pt c7 0],[H3.n+0]) from js (aR [O [pt c7 0] 127] H3 0 _ rfl) (gg rfl)) rfl (aM.old hM [O [pt c7 0] 127]) (by rw [Cp];omega) J).trans (by rw [E4 ps c7,E5 ps c7,aN] <;> rfl))<|az [] (dO (aM.news [O [pt c7 0] 127]) (aM.old hM [O [pt c7 0] 127]):cK (qV H3 c7) b6 [q]=true)<|aB 2 (te (wz np fo rfl rfl) bJ)<|az [] (dO cu fo:cK b6 d6 [nb]=true)<|ji 0 [(0,pt p 0),(3,pt nb 0)] d6 [p,p,q,nb] aW aJ (ih _ J fW lp kq 0 0 xs (H3.n+1) (ps++[c7]) _ dQ e8 i6 rU hA hs ce gn k9 b0 J J hn J np (.go ((DV py oF jn J).symm.trans (hR.1 rfl))) J J J (by simp only [List.length_append,dX,e3];omega) rfl)
  have ek:aK.n+0≤H3.n:=bq.n
  have g3:=aM.n
  have eY:=y.kept ak aq b9
  have gC:=bW e2 J eY
  have hM:=ar.kept bq bU gC
  obtain ⟨b6,aN⟩:∃ ao,ao=((qV H3 c7).set q .dead).new (O (oL (ps++[c7])) 127):=⟨_,rfl⟩
  have cu:aa E G b6:=pM (aM.news [O [pt c7 0] 127]) aN J (by rw [dj];simp only [dX,e3];omega)
  have gm:b6.n=H3.n+2:=by rw [pN aN,dj] <;> rfl
  have kU:b6.get (H3.n+1)=some (O (oL (ps++[c7])) 127):=pO aN
  have eo:=ar.kept bq bU ed
  have fo:=jU (aM.news [O [pt c7 0] 127]) aN J (aM.old eo [O [pt c7 0] 127])
  obtain ⟨d6,bJ⟩:∃ ao,ao=b6.set nb (O (xs++[sc (H3.n+1) 0 ((ps++[c7]).length) 2]) 176):=⟨_,rfl⟩
  have dQ:aa E G d6:=bJ▸cu.set _ J J
  have iR:d6.n=b6.n+0:=by rw [bJ,Z.cI] <;> rfl
  have i6:=bz bJ
  have eG:=jU (aM.news [O [pt c7 0] 127]) aN J (aM.old gX [O [pt c7 0] 127])
  have e8:=bW bJ J eG
  have rU:=bW bJ J kU
  exact ac 1 c1<|Y 3 (ag 1 av bZ)<|aH 0 (at_+1)<|aB 2 (stx 1 (M (at_+1)) dK bZ e2)<|io [] (bk:p<aK.n∨aK.n≤p) (bk:p<aK.n∨aK.n≤p) (bk:p<aK.n∨aK.n≤p) (bk:p<aK.n∨aK.n≤p) (bk:p≠nb) (bk:p<aK.n∨aK.n≤p)<|az [] (bk:q<aK.n∨aK.n≤q)<|aE [am 3]<|az [bw (sc q 0 ps.length 2) aK] (wv np ed)<|ac 1 c3<|az [] (dO ar cV:cK aK H3 [p]=true)<|g8 1 (show gZ E #[173,173] (sc q 0 ps.length 2) (sc (H3.n+0) 0 1 3) (qV H3 c7)=some (sc (H3.n+1) 0 ((ps++[c7]).length) 2,b6,[q],[q,H3.n+0]) from (pd vx rfl (show g9 (qV H3 c7) 1 (sc (H3.n+0) 0 1 3)=some (1,[pt c7 0],[H3.n+0]) from js (aR [O [pt c7 0] 127] H3 0 _ rfl) (gg rfl)) rfl (aM.old hM [O [pt c7 0] 127]) (by rw [Cp];omega) J).trans (by rw [E4 ps c7,E5 ps c7,aN] <;> rfl))<|az [] (dO (aM.news [O [pt c7 0] 127]) (aM.old hM [O [pt c7 0] 127]):cK (qV H3 c7) b6 [q]=true)<|aB 2 (te (wz np fo rfl rfl) bJ)<|az [] (dO cu fo:cK b6 d6 [nb]=true)<|ji 0 [(0,pt p 0),(3,pt nb 0)] d6 [p,p,q,nb] aW aJ (ih _ J fW lp kq 1 sn xs (H3.n+1) (ps++[c7]) _ dQ e8 i6 rU hA hs ce gn k9 b0 J J hn J np (.bad ((hR.1 rfl).symm.trans (DU py oF jn))) J J J (by simp only [List.length_append,dX,e3];omega) rfl)
 obtain ⟨_,H1,c1,ak,y1,rfl⟩:=Gj p s at_ dp nd wp ⟨#[124]⟩ y kp J hs J J
 have bZ:=y.kept ak aq kp
 exact ac 1 c1<|c5 0 [(3,pt nb 0)] (.exit 0) H1 [] aL aZ ⟨rfl,at_,dp,nd,1,wp,rfl,⟨bZ,J,J,J,fun h=>absurd h (by decide),fun _=>hR.2 rfl⟩⟩
noncomputable def TC:Code:=cw [1,1,0,0,0] (cx Tryz.f98)
noncomputable abbrev p6 jY c7:=([pt jY 0,pt c7 0]:List Value)
noncomputable abbrev Aj H3 c7 jY:=news H3 [O [pt c7 0] 127,O (p6 jY c7) 127]
theorem Mh (p:Nat) (nb:Nat) (s:ByteArray) (n:Nat) (e5:Int) (R:Option (Int×Int)):∀(m:Nat) (at_:Int) (dp:Int) (nd:Int) (w:Nat) (wp:Nat) (xs:List Value) (q:Nat) (jY:Nat) (H:Z),aa E G H→(kp:H.get p=some (O (iF s at_ dp nd (hC w wp)) 151))→(fG:H.get nb=some (O (xs++[sc q 0 1 3]) 176))→(b9:H.get q=some (O [pt jY 0] 127))→(hA:sB s n)→(hs:(s.size:Int)<100000)→(ce:G.n≤p)→(gn:G.n≤nb)→(k9:p≠nb)→(b0:0≤e5)→(b1:e5≤at_)→(a1:at_≤s.size)→(hn:((s.size:Int)-e5).toNat≤n)→(hw:w=0∨w=1)→(np:iZ xs)→(hR:sE w (nP s at_ dp) R)→(eJ:G.n≤q)→(dq:p≠q)→(je:nb≠q)→((s.size:Int)-at_).toNat=m→
  bV E G 30 TC [(0,pt p 0),(3,pt nb 0)] H [p,nb,q] (fun x T H'=>(x=(.exit 0)∧∃(eW ss qx:Int) (ip sw:Nat),T=aP [(3,pt nb 0)]∧(H'.get p=some (gb s eW ss qx (hC ip sw))∧e5≤eW∧eW≤s.size∧(ip=0∨ip=1)∧(ip=0→R=some (eW,ss))∧(ip=1→R=none)))):=by
 refine dJ fun m ih=>?_
 intro at_ dp nd w wp xs q jY H y kp fG b9 hA hs ce gn k9 b0 b1 a1 hn hw np hR eJ dq je hm
 refine cN y ?_
 have gH:=y.wf.lt kp
 have rZ:=y.wf.lt fG
 have qP:=y.wf.lt b9
 rcases hw with rfl |rfl
 ·obtain ⟨_,H1,c1,ak,y1,bE⟩:=tK p s at_ dp nd ⟨#[124]⟩ y kp J hs J J
  rcases bE with ⟨rfl,mM⟩ |⟨rfl,py,oF⟩
  ·have bZ:=y.kept ak aq kp
   exact ac 1 c1<|c5 0 [(3,pt nb 0)] (.exit 0) H1 [] aL aZ ⟨rfl,at_,dp,nd,0,wp,rfl,⟨bZ,J,J,J,fun _=>(hR.1 rfl).symm.trans (DT mM),fun h=>absurd h (by decide)⟩⟩
  have c8:H.n+0≤H1.n:=ak.n
  have bZ:=y.kept ak aq kp
  obtain ⟨aK,e2⟩:∃ ao,ao=H1.set p (O (iF s (at_+1) dp nd (hC 0 wp)) 151):=⟨_,rfl⟩
  have ar:aa E G aK:=e2▸y1.set _ J J
  have cB:aK.n=H1.n+0:=by rw [e2,Z.cI] <;> rfl
  have cV:=bz e2
  have cS:=y.kept ak aq fG
  have ed:=bW e2 J cS
  obtain ⟨_,H3,c3,bq,aM,fq⟩:=KP p s (at_+1) dp nd n ar cV J hs J J hA J
  rcases fq with ⟨c7,fW,lp,kq,rfl,gX,jn,qb,ec⟩ |⟨c7,fW,lp,kq,sn,rfl,gX,jn,qb,ec⟩
  ·have ek:aK.n+0≤H3.n:=bq.n
   have g3:=aM.n
   have eY:=y.kept ak aq b9
   have gC:=bW e2 J eY
   have hM:=ar.kept bq bU gC
   have eo:=ar.kept bq bU ed
   obtain ⟨b6,aN⟩:∃ ao,ao=(Aj H3 c7 jY).set nb (O (xs++[sc (H3.n+1) 0 2 2]) 176):=⟨_,rfl⟩
   have cu:aa E G b6:=aN▸(aM.news [O [pt c7 0] 127,O (p6 jY c7) 127]).set _ J (by rw [dj];simp only [dX,e3];omega)
   have gm:b6.n=H3.n+2:=by rw [aN,Z.cI,dj] <;> rfl
   have kU:=bW aN J (aR [O [pt c7 0] 127,O (p6 jY c7) 127] H3 1 _ rfl)
   have fo:=bz aN
   have eG:=bW aN J (aM.old gX [O [pt c7 0] 127,O (p6 jY c7) 127])
   exact ac 1 c1<|Y 3 (ag 1 av bZ)<|aH 0 (at_+1)<|aB 2 (stx 1 (M (at_+1)) dK bZ e2)<|io [] (bk:p<aK.n∨aK.n≤p) (bk:p<aK.n∨aK.n≤p) (bk:p<aK.n∨aK.n≤p) (bk:p<aK.n∨aK.n≤p) (bk:p≠nb) (bk:p<aK.n∨aK.n≤p)<|aE [am 3]<|az [bw (sc q 0 1 3) aK] (wv np ed)<|ac 1 c3<|az [] (dO ar cV:cK aK H3 [p]=true)<|g8 1 (show gZ E #[173,173] (sc q 0 1 3) (sc (H3.n+0) 0 1 3) (qV H3 c7)=some (sc (H3.n+1) 0 2 2,Aj H3 c7 jY,[],[q,H3.n+0]) from Bm (c:=1) vx rfl (show g9 (qV H3 c7) 1 (sc (H3.n+0) 0 1 3)=some (1,[pt c7 0],[H3.n+0]) from js (aR [O [pt c7 0] 127] H3 0 _ rfl) (gg rfl)) rfl (aM.old hM [O [pt c7 0] 127]) (gg rfl) (by decide) (by decide))<|aB 2 (te (wz np (aM.old eo [O [pt c7 0] 127,O (p6 jY c7) 127]) rfl rfl) aN)<|az [] (dO (aM.news [O [pt c7 0] 127,O (p6 jY c7) 127]) (aM.old eo [O [pt c7 0] 127,O (p6 jY c7) 127]):cK (Aj H3 c7 jY) b6 [nb]=true)<|ji 0 [(0,pt p 0),(3,pt nb 0)] b6 [p,p,nb] aW aJ (Mi p nb s n e5 R _ fW lp kq 0 0 xs (H3.n+1) ([jY,c7]) _ cu eG fo kU hA hs ce gn k9 b0 J J hn J np (.go ((DV py oF jn J).symm.trans (hR.1 rfl))) J J J (by simp only [List.length_append,dX,e3];omega) rfl)
  have ek:aK.n+0≤H3.n:=bq.n
  have g3:=aM.n
  have eY:=y.kept ak aq b9
  have gC:=bW e2 J eY
  have hM:=ar.kept bq bU gC
  have eo:=ar.kept bq bU ed
  obtain ⟨b6,aN⟩:∃ ao,ao=(Aj H3 c7 jY).set nb (O (xs++[sc (H3.n+1) 0 2 2]) 176):=⟨_,rfl⟩
  have cu:aa E G b6:=aN▸(aM.news [O [pt c7 0] 127,O (p6 jY c7) 127]).set _ J (by rw [dj];simp only [dX,e3];omega)
  have gm:b6.n=H3.n+2:=by rw [aN,Z.cI,dj] <;> rfl
  have kU:=bW aN J (aR [O [pt c7 0] 127,O (p6 jY c7) 127] H3 1 _ rfl)
  have fo:=bz aN
  have eG:=bW aN J (aM.old gX [O [pt c7 0] 127,O (p6 jY c7) 127])
  exact ac 1 c1<|Y 3 (ag 1 av bZ)<|aH 0 (at_+1)<|aB 2 (stx 1 (M (at_+1)) dK bZ e2)<|io [] (bk:p<aK.n∨aK.n≤p) (bk:p<aK.n∨aK.n≤p) (bk:p<aK.n∨aK.n≤p) (bk:p<aK.n∨aK.n≤p) (bk:p≠nb) (bk:p<aK.n∨aK.n≤p)<|aE [am 3]<|az [bw (sc q 0 1 3) aK] (wv np ed)<|ac 1 c3<|az [] (dO ar cV:cK aK H3 [p]=true)<|g8 1 (show gZ E #[173,173] (sc q 0 1 3) (sc (H3.n+0) 0 1 3) (qV H3 c7)=some (sc (H3.n+1) 0 2 2,Aj H3 c7 jY,[],[q,H3.n+0]) from Bm (c:=1) vx rfl (show g9 (qV H3 c7) 1 (sc (H3.n+0) 0 1 3)=some (1,[pt c7 0],[H3.n+0]) from js (aR [O [pt c7 0] 127] H3 0 _ rfl) (gg rfl)) rfl (aM.old hM [O [pt c7 0] 127]) (gg rfl) (by decide) (by decide))<|aB 2 (te (wz np (aM.old eo [O [pt c7 0] 127,O (p6 jY c7) 127]) rfl rfl) aN)<|az [] (dO (aM.news [O [pt c7 0] 127,O (p6 jY c7) 127]) (aM.old eo [O [pt c7 0] 127,O (p6 jY c7) 127]):cK (Aj H3 c7 jY) b6 [nb]=true)<|ji 0 [(0,pt p 0),(3,pt nb 0)] b6 [p,p,nb] aW aJ (Mi p nb s n e5 R _ fW lp kq 1 sn xs (H3.n+1) ([jY,c7]) _ cu eG fo kU hA hs ce gn k9 b0 J J hn J np (.bad ((hR.1 rfl).symm.trans (DU py oF jn))) J J J (by simp only [List.length_append,dX,e3];omega) rfl)
 obtain ⟨_,H1,c1,ak,y1,rfl⟩:=Gj p s at_ dp nd wp ⟨#[124]⟩ y kp J hs J J
 have bZ:=y.kept ak aq kp
 exact ac 1 c1<|c5 0 [(3,pt nb 0)] (.exit 0) H1 [] aL aZ ⟨rfl,at_,dp,nd,1,wp,rfl,⟨bZ,J,J,J,fun h=>absurd h (by decide),fun _=>hR.2 rfl⟩⟩
theorem aeq (p:Nat) (s:ByteArray) (at_:Int) (dp:Int) (nd:Int) (n:Nat) {H:Z} (y:aa E G H) (kp:H.get p=some (gb s at_ dp nd (.pointer none))) (ce:G.n≤p) (hs:(s.size:Int)<100000) (a0:0≤at_) (a1:at_≤s.size) (hA:sB s n) (hn:((s.size:Int)-at_).toNat≤n):aV E G 98 [pt p 0] H [p] (fun v H'=>wY s p at_ 0 (nO s at_ dp) v H'):=by
 refine bB Tryz.f98 y ?_
 have gH:=y.wf.lt kp
 obtain ⟨_,H1,c1,ak,y1,bE⟩:=KP p s at_ dp nd n y kp J hs J J hA J
 rcases bE with ⟨dk,dW,ln,iB,rfl,ei,fk,ma,b7⟩ |⟨dk,dW,ln,iB,nD,rfl,ei,fk,ma,b7⟩
 ·have c8:H.n+0≤H1.n:=ak.n
  have g1:=y1.n
  obtain ⟨_,H2,c2,aF,ar,cJ,wO,jG,rfl,wy,zN,tj,fi⟩:=Re p s dW ln iB 0 0 3 (H1.n+0) (y1.news [O [pt dk 0] 127]) (y1.old ei [O [pt dk 0] 127]) J hs J J J
  have cB:=d9 aF
  have g2:=ar.n
  have qe:=(y1.news [O [pt dk 0] 127]).kept aF bU (aR [O [pt dk 0] 127] H1 0 _ rfl)
  have abf:=ar.wf.lt tj
  rw [dj] at zN;simp only [dX,e3] at zN
  obtain ⟨_,_,H3,c3,bq,aM,rfl,m8,GR,GS,ahm,LP,rfl,mQ,ky,Gn,IS,AN,Dc⟩:=(Mh p cJ s n dW (nP s dW ln) _ dW ln jG 0 0 wO (H1.n+0) dk _ ar fi tj qe hA hs ce J J J J J J J wy (.go rfl) J J J rfl).code
  have ek:H2.n+0≤H3.n:=bq.n
  refine ac 3 c1<|ac 1 c2<|bx 1 c3<|?_
  rcases IS with rfl |rfl
  ·exact bf 2 (pt cJ 0) H3 [p,p,p,cJ,H1.n+0] aJ aZ (.inl ⟨_,m8,GR,GS,rfl,mQ,(DW fk J).trans (AN rfl),J,J⟩)
  exact bf 2 (pt cJ 0) H3 [p,p,p,cJ,H1.n+0] aJ aZ (.inr ⟨_,m8,GR,GS,LP,rfl,mQ,(DW fk J).trans (Dc rfl),J,J⟩)
 have c8:H.n+0≤H1.n:=ak.n
 have g1:=y1.n
 obtain ⟨_,H2,c2,aF,ar,cJ,wO,jG,rfl,wy,zN,tj,fi⟩:=Re p s dW ln iB 1 nD 3 (H1.n+0) (y1.news [O [pt dk 0] 127]) (y1.old ei [O [pt dk 0] 127]) J hs J J J
 have cB:=d9 aF
 have g2:=ar.n
 have qe:=(y1.news [O [pt dk 0] 127]).kept aF bU (aR [O [pt dk 0] 127] H1 0 _ rfl)
 have abf:=ar.wf.lt tj
 rw [dj] at zN;simp only [dX,e3] at zN
 obtain ⟨_,_,H3,c3,bq,aM,rfl,m8,GR,GS,ahm,LP,rfl,mQ,ky,Gn,IS,AN,Dc⟩:=(Mh p cJ s n dW none _ dW ln jG 1 nD wO (H1.n+0) dk _ ar fi tj qe hA hs ce J J J J J J J wy (.bad rfl) J J J rfl).code
 have ek:H2.n+0≤H3.n:=bq.n
 refine ac 3 c1<|ac 1 c2<|bx 1 c3<|?_
 rcases IS with rfl |rfl
 ·exact bf 2 (pt cJ 0) H3 [p,p,p,cJ,H1.n+0] aJ aZ (absurd (AN rfl) aW)
 exact bf 2 (pt cJ 0) H3 [p,p,p,cJ,H1.n+0] aJ aZ (.inr ⟨_,m8,GR,GS,LP,rfl,mQ,Mj fk,J,J⟩)
theorem Mg (s:ByteArray):∀ n,sB s n
 |0=>fun p at_ dp nd H y kp ce hs a0 a1 h=>absurd h (Nat.not_lt_zero _)
 |n+1=>fun p at_ dp nd H y kp ce hs a0 a1 h=>aeq p s at_ dp nd n y kp ce hs a0 a1 (Mg s n) J
theorem aew (s:ByteArray) {H:Z} (y:aa E G H):aV E G 82 [.string s] H [] (fun v H'=>(∃ a,v=.tuple #[a,.pointer none]∧oV s=true)∨∃ a b,v=.tuple #[a,pt b 0]∧oV s=false):=by
 have g0:=y.n
 refine bB Tryz.f82 y ?_
 refine aD 4 ((s.size:Int)>200) ?_ ?_ <;> intro h1 q1
 ·exact af 5 (.tuple #[.pointer none,pt (H.n+0) 0]) (news H [O [M 0,.iface 41 (M 2)] 140]) (.inr ⟨_,_,rfl,(by rw [oV,decide_eq_true J];rfl)⟩)
 have hs:(s.size:Int)<100000:=J
 obtain ⟨_,H1,c1,ak,y1,bE⟩:=Mg s (((s.size:Int)-0).toNat+1) (H.n+0) 0 0 0 (y.news [O (iF s 0 0 0 (.pointer none)) 151]) (aR [O (iF s 0 0 0 (.pointer none)) 151] H 0 _ rfl) J J J J J
 rcases bE with ⟨dk,dW,ln,iB,rfl,ei,fk,ma,b7⟩ |⟨dk,dW,ln,iB,nD,rfl,ei,fk,ma,b7⟩
 ·have c8:=d9 ak
  refine ac 5 c1<|Y 4 (ag 1 av ei)<|aD 2 (dW<(s.size:Int)) ?_ ?_ <;> intro h3 cY
  ·obtain ⟨_,H2,c2,aF,ar,cJ,jG,qv,rfl,fi⟩:=q6 (H.n+0) s dW ln iB 0 0 2 y1 ei J hs J J J
   have cB:H1.n+0≤H2.n:=aF.n
   exact ac 2 c2<|Y 4 (ag 4 kB fi)<|bf 2 (.tuple #[pt dk 0,pt qv 0]) H2 [H.n+0,H.n+0] aJ aL (.inr ⟨_,_,rfl,Ra fk J⟩)
  exact Y 4 (ag 4 kB ei)<|bf 2 (.tuple #[pt dk 0,.pointer none]) H1 [H.n+0] aJ aL (.inl ⟨_,rfl,Rb J fk J⟩)
 have c8:=d9 ak
 refine ac 5 c1<|Y 4 (ag 1 av ei)<|aD 2 (dW<(s.size:Int)) ?_ ?_ <;> intro h3 cY
 ·obtain ⟨_,H2,c2,aF,ar,cJ,jG,qv,rfl,fi⟩:=q6 (H.n+0) s dW ln iB 1 nD 2 y1 ei J hs J J J
  have cB:H1.n+0≤H2.n:=aF.n
  exact ac 2 c2<|Y 4 (ag 4 kB fi)<|bf 2 (.tuple #[pt dk 0,pt qv 0]) H2 [H.n+0,H.n+0] aJ aL (.inr ⟨_,_,rfl,KO fk⟩)
 exact Y 4 (ag 4 kB ei)<|bf 2 (.tuple #[pt dk 0,pt nD 0]) H1 [H.n+0] aJ aL (.inr ⟨_,_,rfl,KO fk⟩)
theorem Rd (s:ByteArray) {H:Z} (y:aa E G H):aV E G 71 [.string s] H [] (fun v H'=>(v=.nilIface∧oV s=true)∨∃ b,v=.iface 128 (pt b 0)∧oV s=false):=by
 refine bB Tryz.f71 y ?_
 obtain ⟨_,H1,c1,ak,y1,bE⟩:=aew s y
 rcases bE with ⟨pa,rfl,hx⟩ |⟨pa,pb,rfl,hx⟩
 ·exact ac 2 c1<|af 8 .nilIface H1 (.inl ⟨rfl,hx⟩)
 exact ac 2 c1<|af 10 (.iface 128 (pt pb 0)) H1 (.inr ⟨_,rfl,hx⟩)
def jg (op:Int) (a s:ByteArray):Bool:=jh a&&(lV s&&((op==1)||((op==2)||(((op==3)||(op==4))&&oV s))))
noncomputable abbrev ug op a s:=([M op,.string a,.string s]:List Value)
noncomputable abbrev tD H op a s:=news H (n7 (ug op a s))
theorem abo (op:Int) (a:ByteArray) (s:ByteArray) {H:Z} (y:aa E G H) (ha:(a.size:Int)<100000):aV E G 55 [.agg (ug op a s).toArray] H [] (fun v H'=>v=(.bool (jg op a s))):=by
 refine bB Tryz.f55 y ?_
 refine Y 3 (aQ (tD H op a s) 0 1 bA)<|?_
 cases h1:(jh a) with
 |true=>
  refine ac 0 (cP h1 (CE a J (y.news (n7 (ug op a s)))))<|Y 3 (aQ (tD H op a s) 0 2 bA)<|?_
  cases h2:(lV s) with
  |true=>
   refine ac 0 (cP h2 (Pm s (y.news (n7 (ug op a s)))))<|Y 3 (aQ (tD H op a s) 0 0 av)<|aY 0 op 1 ?_ ?_ <;> intro h3 cY
   ·exact af 2 aw (tD H op a s) (by rw [jg,h1,h2,h3] <;> rfl)
   refine aY 1 op 2 ?_ ?_ <;> intro h4 cO
   ·exact af 2 aw (tD H op a s) (by rw [jg,h1,h2,h3,h4] <;> rfl)
   refine aY 1 op 3 ?_ ?_ <;> intro h5 dc
   ·obtain ⟨_,H1,c1,ak,y1,bE⟩:=Rd s (y.news (n7 (ug op a s)))
    refine Y 2 (aQ (tD H op a s) 0 2 bA)<|?_
    rcases bE with ⟨rfl,hx⟩ |⟨cb,rfl,hx⟩
    ·exact ac 0 c1<|af 2 aw H1 (by rw [jg,h1,h2,h3,h4,h5,hx] <;> rfl)
    exact ac 0 c1<|af 2 U H1 (by rw [jg,h1,h2,h3,h4,h5,hx] <;> rfl)
   refine aY 1 op 4 ?_ ?_ <;> intro h6 di
   ·obtain ⟨_,H1,c1,ak,y1,bE⟩:=Rd s (y.news (n7 (ug op a s)))
    refine Y 2 (aQ (tD H op a s) 0 2 bA)<|?_
    rcases bE with ⟨rfl,hx⟩ |⟨cb,rfl,hx⟩
    ·exact ac 0 c1<|af 2 aw H1 (by rw [jg,h1,h2,h3,h4,h5,h6,hx] <;> rfl)
    exact ac 0 c1<|af 2 U H1 (by rw [jg,h1,h2,h3,h4,h5,h6,hx] <;> rfl)
   exact af 2 U (tD H op a s) (by rw [jg,h1,h2,h3,h4,h5,h6] <;> rfl)
  |false=>
   exact ac 0 (cP h2 (Pm s (y.news (n7 (ug op a s)))))<|af 3 U (tD H op a s) (by rw [jg,h1,h2] <;> rfl)
 |false=>
  exact ac 0 (cP h1 (CE a J (y.news (n7 (ug op a s)))))<|af 4 U (tD H op a s) (by rw [jg,h1] <;> rfl)
theorem abn (op:Int) (a:ByteArray) (s:ByteArray) (ha:(a.size:Int)<100000):∀{H:Z},aa E G H→bF E 55 [.agg (ug op a s).toArray] H (.ret (.bool (jg op a s))) H []:=by
 obtain ⟨_,_,c,_,_,rfl⟩:=abo op a s eH ha
 exact fun y=>eh (Gf _) (.ground rfl) c y
structure dR where
 (k op v:Int) (s:ByteArray) (pm:Option Addr) (nm br:Nat) (wide off:Int) (ha:Bool) (at_ how:Int) (aX:Option Addr) (nn bo:Nat) (d8:Bool) (pk:Option Addr) (aj ax:Nat)
abbrev ai (f:dR):List Value:=[M f.k,M f.op,ap f.v,.string f.s,.slice f.pm f.nm f.br,M f.wide,M f.off,.bool f.ha,M f.at_,M f.how,.slice f.aX f.nn f.bo,.bool f.d8,.slice f.pk f.aj f.ax]
abbrev iq:=Int×ByteArray×ByteArray
inductive bh where
 |mk (f:dR) (ms:List iq) (ns:List ByteArray) (kids:List bh)
def bh.f:bh→dR |.mk f _ _ _=>f
def bh.ms:bh→List iq |.mk _ m _ _=>m
def bh.ns:bh→List ByteArray |.mk _ _ n _=>n
def bh.kids:bh→List bh |.mk _ _ _ k=>k
def uE (kids:List bh):List Value:=kids.flatMap fun x=>ai x.f
def uQ (ms:List iq):List Value:=ms.flatMap fun m=>[M m.1,.string m.2.1,.string m.2.2]
def jy (X:Z) (p:Option Addr) (n:Nat) (cs:List Value):Prop:=n=0∨∃ b ro t,p=some ⟨b,0,none⟩∧X.get b=some (.cells cs t ro)
theorem jy.open {X:Z} {p:Option Addr} {n:Nat} {cs:List Value} (h:jy X p n cs) (hn:n≠0):∃ b ro t,p=some ⟨b,0,none⟩∧X.get b=some (.cells cs t ro):=h.resolve_left hn
structure e9 (X:Z) (x:bh):Prop where
 nm:x.f.nm=x.ms.length
 nn:x.f.nn=x.ns.length
 aj:x.f.aj=x.kids.length
 q4:jy X x.f.pm x.f.nm (uQ x.ms)
 rn:jy X x.f.aX x.f.nn (mW x.ns)
 rk:jy X x.f.pk x.f.aj (uE x.kids)
 bm:x.f.nm<281474976710656
 fO:x.f.nn<281474976710656
 ot:x.f.aj<281474976710656
 GN:0≤x.f.v∧x.f.v<18446744073709551616
inductive jb (X:Z):bh→Prop
 |mk {x:bh}:e9 X x→(∀ k∈x.kids,jb X k)→jb X x
theorem e9.rV {X:Z} {x:bh} (a:e9 X x) {i:Nat} (h:i<x.f.aj):∃ k,x.kids[i]?=some k:=⟨_,fU (a.aj▸h)⟩
theorem e9.CA {X:Z} {x:bh} (a:e9 X x) {i:Nat} (h:i<x.f.nm):∃ k,x.ms[i]?=some k:=⟨_,fU (a.nm▸h)⟩
theorem e9.Fl {X:Z} {x:bh} (a:e9 X x) {i:Nat} (h:i<x.f.nn):∃ k,x.ns[i]?=some k:=⟨_,fU (a.nn▸h)⟩
theorem gK {E:Env} {G X H:Z} (a:aa E G X) (b:aa E X H):aa E G H:=⟨b.wf,Nat.le_trans a.n b.n,a.d4,fun i hi=>(b.get i (Nat.lt_of_lt_of_le hi a.n)).trans (a.get i hi)⟩
theorem W3 {E:Env} {G X:Z} (a:aa E G X):aa E X X:=⟨a.wf,Nat.le_refl _,a.yc,fun _ _=>rfl⟩
theorem jy.up {E:Env} {X H:Z} (y:aa E X H) (wf:cW X) {p:Option Addr} {n:Nat} {cs:List Value} (h:jy X p n cs):jy H p n cs:=by
 rcases h with h |⟨b,ro,t,h1,h2⟩
 ·exact .inl h
 ·exact .inr ⟨b,ro,t,h1,y.cell h2 (wf.lt h2)⟩
theorem e9.up {E:Env} {X H:Z} (y:aa E X H) (wf:cW X) {x:bh} (a:e9 X x):e9 H x:=⟨a.nm,a.nn,a.aj,a.q4.up y wf,a.rn.up y wf,a.rk.up y wf,a.bm,a.fO,a.ot,a.GN⟩
theorem jb.up {E:Env} {X H:Z} (y:aa E X H) (wf:cW X) {x:bh} (h:jb X x):jb H x:=by
 induction h with
 |mk a _ ih=>exact .mk (a.up y wf) ih
theorem Ep {α:Type} {g:α→List Value} {n:Nat} (hg:∀ a,(g a).length=n):∀{l:List α} {i:Nat} {a:α},l[i]?=some a→((l.flatMap g).drop (i*n)).take n=g a∧i*n+n≤(l.flatMap g).length
 |[],i,a,h=>by simp at h
 |x::l,0,a,h=>by
  simp only [List.getElem?_cons_zero,bH] at h
  subst h
  rw [List.flatMap_cons,Nat.zero_mul,List.drop_zero]
  exact ⟨by rw [List.take_append_of_le_length (by rw [hg];exact Nat.le_refl _),List.take_of_length_le (by rw [hg];exact Nat.le_refl _)],by rw [List.length_append,hg];omega⟩
 |x::l,i+1,a,h=>by
  rw [List.getElem?_cons_succ] at h
  obtain ⟨h1,h2⟩:=Ep hg h
  rw [List.flatMap_cons]
  refine ⟨?_,by rw [List.length_append,hg,Nat.succ_mul];omega⟩
  rw [Nat.succ_mul,Nat.add_comm (i*n) n,← hg x,← List.drop_drop,List.drop_left,hg x]
  exact h1
theorem Ji {kids:List bh} {i:Nat} {x:bh} (h:kids[i]?=some x):((uE kids).drop (i*13)).take 13=ai x.f∧i*13+13≤(uE kids).length:=Ep (g:=fun x:bh=>ai x.f) (n:=13) (fun _=>rfl) h
theorem JI {ms:List iq} {i:Nat} {m:iq} (h:ms[i]?=some m):((uQ ms).drop (i*3)).take 3=[M m.1,.string m.2.1,.string m.2.2]∧i*3+3≤(uQ ms).length:=Ep (g:=fun m:iq=>[M m.1,.string m.2.1,.string m.2.2]) (n:=3) (fun _=>rfl) h
theorem Bz {l c:List Value} {o n j:Nat} (h:(l.drop o).take n=c) (hj:j<n):l[o+j]?=c[j]?:=by
 rw [← h,List.getElem?_take,if_pos hj,List.getElem?_drop]
theorem mP {b off i:Nat} {H:Z} {kids:List bh} {e t:TypeId} {ro:Bool} {x:bh} (ha:E.agg t=some true) (hs:E.size t=some 13) (hb:H.get b=some (.cells (uE kids) e ro)) (hi:kids[i]?=some x) (ho:off=i*13):al E t b off H=some (.agg (ai x.f).toArray):=by
 subst ho
 obtain ⟨h1,h2⟩:=Ji hi
 exact cd ha hs hb (Nat.ble_eq_true_of_le h2) h1
theorem ZI {b off i j:Nat} {H:Z} {kids:List bh} {e t:TypeId} {ro:Bool} {x:bh} {v:Value} (ha:E.agg t=some false) (hb:H.get b=some (.cells (uE kids) e ro)) (hi:kids[i]?=some x) (hj:j<13) (ho:off=i*13+j) (hv:(ai x.f)[j]?=some v):al E t b off H=some v:=by
 subst ho
 exact cH ha hb ((Bz (Ji hi).1 hj).trans hv)
theorem Fj {b off i:Nat} {H:Z} {ms:List iq} {e t:TypeId} {ro:Bool} {m:iq} (ha:E.agg t=some true) (hs:E.size t=some 3) (hb:H.get b=some (.cells (uQ ms) e ro)) (hi:ms[i]?=some m) (ho:off=i*3):al E t b off H=some (.agg #[M m.1,.string m.2.1,.string m.2.2]):=by
 subst ho
 obtain ⟨h1,h2⟩:=JI hi
 exact cd ha hs hb (Nat.ble_eq_true_of_le h2) h1
theorem Fk {b off i j:Nat} {H:Z} {ms:List iq} {e t:TypeId} {ro:Bool} {m:iq} {v:Value} (ha:E.agg t=some false) (hb:H.get b=some (.cells (uQ ms) e ro)) (hi:ms[i]?=some m) (hj:j<3) (ho:off=i*3+j) (hv:[M m.1,Value.string m.2.1,.string m.2.2][j]?=some v):al E t b off H=some v:=by
 subst ho
 exact cH ha hb ((Bz (JI hi).1 hj).trans hv)
theorem CU {b off i:Nat} {H:Z} {ns:List ByteArray} {e t:TypeId} {ro:Bool} {s:ByteArray} (ha:E.agg t=some false) (hb:H.get b=some (.cells (mW ns) e ro)) (hi:ns[i]?=some s) (ho:off=i*1):al E t b off H=some (.string s):=by
 subst ho
 refine cH ha hb ?_
 rw [Nat.mul_one,mW,List.getElem?_map,hi];rfl
theorem nv {α:Type} {l:List α} {i:Nat} {a:α} (h:l[i]?=some a):a∈l:=List.mem_of_getElem? h
def mx (x y:Int):Int:=if y>x then y else x
mutual
def lA:bh→Int
 |.mk f ms ns kids=>oW kids (mz (mz (1+(f.nm:Nat))+(f.nn:Nat)))
def oW:List bh→Int→Int
 |[],n=>n
 |x::xs,n=>if n≤300 then oW xs (mz (n+lA x)) else n
end
theorem Rs (x:bh):lA x=oW x.kids (mz (mz (1+(x.f.nm:Nat))+(x.f.nn:Nat))):=by cases x;rfl
theorem aeV {kids:List bh} {i:Nat} {x:bh} {n:Int} (h:kids[i]?=some x) (hn:n≤300):oW (kids.drop i) n=oW (kids.drop (i+1)) (mz (n+lA x)):=by
 rw [drop_cons h,oW,if_pos hn]
theorem Rq {kids:List bh} {i:Nat} {n:Int} (h:kids.length≤i∨¬ n≤300):oW (kids.drop i) n=n:=by
 rcases h with h |h
 ·rw [List.drop_of_length_le h];rfl
 ·cases kids.drop i with
  |nil=>rfl
  |cons=>rw [oW,if_neg h]
def iA:List iq→Bool
 |[]=>true
 |m::ms=>!(decide ((m.2.2.size:Int)>250))&&!(decide ((m.2.1.size:Int)>400))&&iA ms
def lx:List ByteArray→Bool
 |[]=>true
 |s::ns=>!(decide ((s.size:Int)>400))&&lx ns
mutual
def qn:bh→Bool
 |.mk f ms ns kids=>!(decide (lA (.mk f ms ns kids)>300))&&(!(decide ((f.s.size:Int)>400))&&(iA ms&&(lx ns&&mX kids)))
def mX:List bh→Bool
 |[]=>true
 |x::xs=>qn x&&mX xs
end
def jt (f:dR):Int:=bif f.k != 6 then 4 else bif decide (f.op≤6) then 1 else bif decide (f.op≤8) then 2 else 3
theorem RB (f:dR):1≤jt f∧jt f≤4:=by
 unfold jt
 cases f.k != 6 <;> cases decide (f.op≤6) <;> cases decide (f.op≤8) <;> decide
def bump (f:dR) (i:Nat) (k:dR):Bool:=decide ((f.k=6∧((f.aj:Nat):Int)=2∧jt k<jt f+i)∨(f.k=7∧((f.aj:Nat):Int)=1∧k.k=6))
theorem uc {f k:dR} {i:Nat} (h:(f.k=6∧(f.aj:Int)=2∧jt k<jt f+i)∨(f.k=7∧(f.aj:Int)=1∧k.k=6)):bump f i k=true:=decide_eq_true h
theorem nR {f k:dR} {i:Nat} (h:¬ ((f.k=6∧(f.aj:Int)=2∧jt k<jt f+i)∨(f.k=7∧(f.aj:Int)=1∧k.k=6))):bump f i k=false:=decide_eq_false h
def yE (f:dR):Bool:=f.k==6&&((f.aj:Nat):Int)==2
mutual
def e7:bh→Int
 |.mk f ms ns kids=>bif decide (f.k<4) then 0 else bif decide (f.k>7) then 0 else bif yE f then lP f 0 kids 0 else mz (lP f 0 kids 0+1)
def lP (f:dR):Nat→List bh→Int→Int
 |_,[],m=>m
 |i,x::xs,m=>lP f (i+1) xs (mx m (bif bump f i x.f then mz (e7 x+1) else e7 x))
end
theorem lQ (x:bh):e7 x=bif decide (x.f.k<4) then 0 else bif decide (x.f.k>7) then 0 else bif yE x.f then lP x.f 0 x.kids 0 else mz (lP x.f 0 x.kids 0+1):=by cases x;rfl
theorem uU {f:dR} {kids:List bh} {i:Nat} {x:bh} {m R:Int} (h:kids[i]?=some x) (hR:lP f i (kids.drop i) m=R) (hb:bump f i x.f=true):lP f (i+1) (kids.drop (i+1)) (mx m (mz (e7 x+1)))=R:=by
 rw [drop_cons h,lP,hb] at hR;exact hR
theorem n6 {f:dR} {kids:List bh} {i:Nat} {x:bh} {m R:Int} (h:kids[i]?=some x) (hR:lP f i (kids.drop i) m=R) (hb:bump f i x.f=false):lP f (i+1) (kids.drop (i+1)) (mx m (e7 x))=R:=by
 rw [drop_cons h,lP,hb] at hR;exact hR
theorem PC {f:dR} {kids:List bh} {i:Nat} {m:Int} (h:kids.length≤i):lP f i (kids.drop i) m=m:=by rw [List.drop_of_length_le h];rfl
theorem uR {x y:Int} (h:y>x):mx x y=y:=if_pos h
theorem uS {x y:Int} (h:¬ y>x):mx x y=x:=if_neg h
theorem q7 (x:bh):qn x=(!(decide (lA x>300))&&(!(decide ((x.f.s.size:Int)>400))&&(iA x.ms&&(lx x.ns&&mX x.kids)))):=by cases x;rfl
theorem Pw {ms:List iq} {i:Nat} {m:iq} {R:Bool} (h:ms[i]?=some m) (hR:iA (ms.drop i)=R) (h1:decide ((m.2.2.size:Int)>250)=false) (h2:decide ((m.2.1.size:Int)>400)=false):iA (ms.drop (i+1))=R:=by
 rw [drop_cons h,iA,h1,h2] at hR;exact hR
theorem Pr {ms:List iq} {i:Nat} {m:iq} {R:Bool} (h:ms[i]?=some m) (hR:iA (ms.drop i)=R) (h1:decide ((m.2.2.size:Int)>250)=true):R=false:=by
 rw [drop_cons h,iA,h1] at hR;exact hR.symm
theorem Pt {ms:List iq} {i:Nat} {m:iq} {R:Bool} (h:ms[i]?=some m) (hR:iA (ms.drop i)=R) (h1:decide ((m.2.2.size:Int)>250)=false) (h2:decide ((m.2.1.size:Int)>400)=true):R=false:=by
 rw [drop_cons h,iA,h1,h2] at hR;exact hR.symm
theorem Pu {ms:List iq} {i:Nat} {R:Bool} (hR:iA (ms.drop i)=R) (h:ms.length≤i):R=true:=by rw [List.drop_of_length_le h] at hR;exact hR.symm
theorem ab3 {ns:List ByteArray} {i:Nat} {s:ByteArray} {R:Bool} (h:ns[i]?=some s) (hR:lx (ns.drop i)=R) (h1:decide ((s.size:Int)>400)=false):lx (ns.drop (i+1))=R:=by
 rw [drop_cons h,lx,h1] at hR;exact hR
theorem ab1 {ns:List ByteArray} {i:Nat} {s:ByteArray} {R:Bool} (h:ns[i]?=some s) (hR:lx (ns.drop i)=R) (h1:decide ((s.size:Int)>400)=true):R=false:=by
 rw [drop_cons h,lx,h1] at hR;exact hR.symm
theorem ab2 {ns:List ByteArray} {i:Nat} {R:Bool} (hR:lx (ns.drop i)=R) (h:ns.length≤i):R=true:=by rw [List.drop_of_length_le h] at hR;exact hR.symm
theorem aeK {kids:List bh} {i:Nat} {x:bh} {R:Bool} (h:kids[i]?=some x) (hR:mX (kids.drop i)=R) (h1:qn x=true):mX (kids.drop (i+1))=R:=by
 rw [drop_cons h,mX,h1] at hR;exact hR
theorem aeI {kids:List bh} {i:Nat} {x:bh} {R:Bool} (h:kids[i]?=some x) (hR:mX (kids.drop i)=R) (h1:qn x=false):R=false:=by
 rw [drop_cons h,mX,h1] at hR;exact hR.symm
theorem aeJ {kids:List bh} {i:Nat} {R:Bool} (hR:mX (kids.drop i)=R) (h:kids.length≤i):R=true:=by rw [List.drop_of_length_le h] at hR;exact hR.symm
theorem hI {t e sz:Nat} {p:Option Addr} {n c b:Nat} {i:Int} (hu:E.ul t=some (.slice e)) (hs:E.size e=some sz) (hp:p=some ⟨b,0,none⟩) (h0:0≤i) (h1:i<(n:Int)):gk E t (.slice p n c) (M i)=some (pt b (0+i.toNat*sz)):=by
 simp only [gk,hu,hp,hs,decide_eq_true h0,decide_eq_true h1,Bool.and_self,cond_true]
noncomputable abbrev pD H f:=news H [O (ai f) 27]
theorem RO (f:dR) (X:Z) (hx:aa E G X) {H:Z} (y:aa E X H):aV E X 53 [.agg (ai f).toArray] H [] (fun v H'=>v=M (jt f)):=by
 refine bB Tryz.f53 y ?_
 refine Y 3 (aQ (pD H f) 0 0 av)<|d7 0 f.k 6 ?_ ?_ <;> intro h1 q1
 ·exact af 2 (M 4) (pD H f) (by rw [jt,h1];rfl)
 refine Y 2 (aQ (pD H f) 0 1 av)<|aD 0 (f.op≤6) ?_ ?_ <;> intro h2 cv
 ·exact af 2 (M 1) (pD H f) (by rw [jt,h1,h2];rfl)
 refine Y 2 (aQ (pD H f) 0 1 av)<|aD 0 (f.op≤8) ?_ ?_ <;> intro h3 cY
 ·exact af 2 (M 2) (pD H f) (by rw [jt,h1,h2,h3];rfl)
 exact af 2 (M 3) (pD H f) (by rw [jt,h1,h2,h3];rfl)
theorem Gb (f:dR) (X:Z) (hx:aa E G X) {H:Z} (y:aa E X H):aV E X 18 [.agg (ai f).toArray] H [] (fun v H'=>v=M (jt f)):=by
 refine bB Tryz.f18 y ?_
 refine Y 3 (aQ (pD H f) 0 0 av)<|d7 0 f.k 6 ?_ ?_ <;> intro h1 q1
 ·exact af 1 (M 4) (pD H f) (by rw [jt,h1];rfl)
 refine Y 1 (aQ (pD H f) 0 1 av)<|aD 0 (f.op≤6) ?_ ?_ <;> intro h2 cv
 ·exact af 1 (M 1) (pD H f) (by rw [jt,h1,h2];rfl)
 refine Y 1 (aQ (pD H f) 0 1 av)<|aD 0 (f.op≤8) ?_ ?_ <;> intro h3 cY
 ·exact af 1 (M 2) (pD H f) (by rw [jt,h1,h2,h3];rfl)
 exact af 1 (M 3) (pD H f) (by rw [jt,h1,h2,h3];rfl)
noncomputable def VL:Code:=cw [1,1,0,1,0,0] (cx Tryz.f11)
theorem aeW (x:bh) (X:Z) (hx:aa E G X) (a:e9 X x) (fm:∀ k∈x.kids,∀{H:Z},aa E X H→aV E X 11 [.agg (ai k.f).toArray] H [] (fun v _=>v=M (lA k))) (bX:Nat) (R:Int):∀(m:Nat) (aO:Int) (bl:Int) (H:Z),aa E X H→(kb:H.get bX=some (O (ai x.f) 27))→(x0:0≤bl)→(hR:oW (x.kids.drop bl.toNat) aO=R)→((x.f.aj:Int)-bl).toNat=m→
  bV E X 33 VL [(1,pt bX 0),(3,M aO),(4,M bl)] H [] (fun fB T H'=>(fB=(.exit 0)∧∃(z3:Int),T=aP [(3,M z3)]∧(R=z3))):=by
 refine dJ fun m ih=>?_
 intro aO bl H y kb x0 hR hm
 have ot:=a.ot
 refine cN y ?_
 refine Y 2 (ag 12 ef kb)<|aD 1 (bl<(x.f.aj:Int)) ?_ ?_ <;> intro h1 q1
 ·refine aD 2 (aO≤300) ?_ ?_ <;> intro h2 cv
  ·obtain ⟨d1,j0,t1,fb,dT⟩:=a.rk.open J
   have fH:=hx.wf.lt dT
   obtain ⟨aC,m2⟩:=a.rV (i:=bl.toNat) J
   obtain ⟨_,H1,c1,ak,y1,rfl⟩:=fm aC (nv m2) y
   have fP:=y.kept ak aq kb
   exact Y 3 (ag 12 ef kb)<|gY 1 H (hI my ct fb J J:gk E 25 (.slice x.f.pk x.f.aj x.f.ax) (M bl)=some (pt d1 (0+bl.toNat*13)))<|Y 0 (mP c4 ct (y.cell dT fH) m2 J:al E 27 d1 (0+bl.toNat*13) H=some (.agg (ai aC.f).toArray))<|ac 0 c1<|aH 3 (bl+1)<|du 1 [(1,pt bX 0),(3,M (IntKind.i64.wrap (aO+(lA aC)))),(4,M (bl+1))] H1 (ih _ J (IntKind.i64.wrap (aO+(lA aC))) (bl+1) _ y1 fP J (by rw [gp J];exact (aeV m2 J).symm.trans hR) rfl)
  exact cF 1 [(3,M aO)] (.exit 0) H ⟨rfl,aO,rfl,hR.symm.trans (Rq (by have:=a.aj;omega))⟩
 exact cF 2 [(3,M aO)] (.exit 0) H ⟨rfl,aO,rfl,hR.symm.trans (Rq (by have:=a.aj;omega))⟩
theorem aeX (x:bh) (X:Z) (hx:aa E G X) (a:e9 X x) (fm:∀ k∈x.kids,∀{H:Z},aa E X H→aV E X 11 [.agg (ai k.f).toArray] H [] (fun v _=>v=M (lA k))) {H:Z} (y:aa E X H):aV E X 11 [.agg (ai x.f).toArray] H [] (fun v H'=>v=M (lA x)):=by
 refine bB Tryz.f11 y ?_
 obtain ⟨_,_,H1,c1,ak,y1,rfl,iK,rfl,aI⟩:=(aeW x X hx a fm (H.n+0) (oW (x.kids.drop 0) (IntKind.i64.wrap ((IntKind.i64.wrap (1+(x.f.nm:Int)))+(x.f.nn:Int)))) _ (IntKind.i64.wrap ((IntKind.i64.wrap (1+(x.f.nm:Int)))+(x.f.nn:Int))) 0 _ (y.news [O (ai x.f) 27]) (aR [O (ai x.f) 27] H 0 _ rfl) J rfl rfl).code
 exact Y 3 (aQ (news H [O (ai x.f) 27]) 0 4 k3)<|Y 3 (aQ (news H [O (ai x.f) 27]) 0 10 jz)<|bx 4 c1<|af 2 (M iK) H1 (congrArg M (aI.symm.trans (Rs x).symm))
theorem treeSize (x:bh) (X:Z) (hx:aa E G X) (hs:jb X x):∀{H:Z},aa E X H→aV E X 11 [.agg (ai x.f).toArray] H [] (fun v _=>v=M (lA x)):=by
 induction hs with
 |@mk x a hk ih=>exact fun y=>aeX x X hx a (fun k hk=>ih k hk) y
noncomputable def UN:Code:=cw [1,0,1,0,0] (cx Tryz.f12)
theorem abF (x:bh) (X:Z) (hx:aa E G X) (a:e9 X x) (R:Bool):∀(m:Nat) (aO:Int) (H:Z),aa E X H→(x0:0≤aO)→(hR:iA (x.ms.drop aO.toNat)=R)→((x.f.nm:Int)-aO).toNat=m→
  bV E X 29 UN [(0,.slice x.f.pm x.f.nm x.f.br),(3,M aO)] H [] (fun fB T H'=>(fB=(.exit 0)∧T=aP [(0,.slice x.f.pm x.f.nm x.f.br)]∧(R=true))∨(fB=.ret∧T=aP [(2,U)]∧(R=false))):=by
 refine dJ fun m ih=>?_
 intro aO H y x0 hR hm
 have bm:=a.bm
 refine cN y ?_
 refine aD 3 (aO<(x.f.nm:Int)) ?_ ?_ <;> intro h1 q1
 ·obtain ⟨d1,j0,t1,fb,dT⟩:=a.q4.open J
  have fH:=hx.wf.lt dT
  obtain ⟨aC,m2⟩:=a.CA (i:=aO.toNat) J
  refine gY 2 H (hI wK qr fb J J:gk E 23 (.slice x.f.pm x.f.nm x.f.br) (M aO)=some (pt d1 (0+aO.toNat*3)))<|Y 1 (show al E 9 d1 ((0+aO.toNat*3)+2) H=some (.string aC.2.2) from Fk (j:=2) bA (y.cell dT fH) m2 (by decide) J rfl)<|aD 1 ((aC.2.2.size:Int)>250) ?_ ?_ <;> intro h2 cv
  ·exact cF 3 [(2,U)] .ret H (.inr ⟨rfl,rfl,Pr m2 hR h2⟩)
  refine gY 3 H (hI wK qr fb J J:gk E 23 (.slice x.f.pm x.f.nm x.f.br) (M aO)=some (pt d1 (0+aO.toNat*3)))<|Y 1 (show al E 9 d1 ((0+aO.toNat*3)+1) H=some (.string aC.2.1) from Fk (j:=1) bA (y.cell dT fH) m2 (by decide) J rfl)<|aD 1 ((aC.2.1.size:Int)>400) ?_ ?_ <;> intro h3 cY
  ·exact cF 2 [(2,U)] .ret H (.inr ⟨rfl,rfl,Pt m2 hR h2 h3⟩)
  exact aH 2 (aO+1)<|du 1 [(0,.slice x.f.pm x.f.nm x.f.br),(3,M (aO+1))] H (ih _ J (aO+1) _ y J (by rw [gp J];exact (Pw m2 hR h2 h3)) rfl)
 exact cF 0 [(0,.slice x.f.pm x.f.nm x.f.br)] (.exit 0) H (.inl ⟨rfl,rfl,Pu hR (by have:=a.nm;omega)⟩)
theorem adG (x:bh) (X:Z) (hx:aa E G X) (a:e9 X x) {H:Z} (y:aa E X H):aV E X 12 [.slice x.f.pm x.f.nm x.f.br] H [] (fun v H'=>v=.bool (iA x.ms&&decide ((x.f.nm:Int)≤10))):=by
 refine bB Tryz.f12 y ?_
 obtain ⟨_,_,H1,c1,ak,y1,bE⟩:=(abF x X hx a (iA (x.ms.drop 0)) _ 0 _ y J rfl rfl).code
 rcases bE with ⟨rfl,rfl,aI⟩ |⟨rfl,rfl,aI⟩
 ·refine bx 2 c1<|aD 2 ((x.f.nm:Int)≤10) ?_ ?_ <;> intro h2 cv
  ·exact af 1 aw H1 (by rw [show iA x.ms=_ from aI,h2] <;> rfl)
  exact af 1 U H1 (by rw [show iA x.ms=_ from aI,h2] <;> rfl)
 exact bx 2 c1<|af 0 U H1 (by rw [show iA x.ms=_ from aI] <;> rfl)
noncomputable def UO:Code:=cw [1,1,0,1,0,0] (cx Tryz.f6)
theorem Pq (x:bh) (X:Z) (hx:aa E G X) (a:e9 X x) (bX:Nat) (R:Bool):∀(m:Nat) (aO:Int) (H:Z),aa E X H→(kb:H.get bX=some (O (ai x.f) 27))→(x0:0≤aO)→(hR:iA (x.ms.drop aO.toNat)=R)→((x.f.nm:Int)-aO).toNat=m→
  bV E X 80 UO [(1,pt bX 0),(3,M aO)] H [] (fun fB T H'=>(fB=(.exit 0)∧T=aP [(1,pt bX 0)]∧(R=true))∨(fB=.ret∧T=aP [(2,U)]∧(R=false))):=by
 refine dJ fun m ih=>?_
 intro aO H y kb x0 hR hm
 have bm:=a.bm
 refine cN y ?_
 refine Y 2 (ag 4 k3 kb)<|aD 1 (aO<(x.f.nm:Int)) ?_ ?_ <;> intro h1 q1
 ·obtain ⟨d1,j0,t1,fb,dT⟩:=a.q4.open J
  have fH:=hx.wf.lt dT
  obtain ⟨aC,m2⟩:=a.CA (i:=aO.toNat) J
  refine Y 1 (ag 4 k3 kb)<|gY 1 H (hI wK qr fb J J:gk E 23 (.slice x.f.pm x.f.nm x.f.br) (M aO)=some (pt d1 (0+aO.toNat*3)))<|Y 1 (show al E 9 d1 ((0+aO.toNat*3)+2) H=some (.string aC.2.2) from Fk (j:=2) bA (y.cell dT fH) m2 (by decide) J rfl)<|aD 1 ((aC.2.2.size:Int)>250) ?_ ?_ <;> intro h2 cv
  ·exact cF 3 [(2,U)] .ret H (.inr ⟨rfl,rfl,Pr m2 hR h2⟩)
  refine Y 2 (ag 4 k3 kb)<|gY 1 H (hI wK qr fb J J:gk E 23 (.slice x.f.pm x.f.nm x.f.br) (M aO)=some (pt d1 (0+aO.toNat*3)))<|Y 1 (show al E 9 d1 ((0+aO.toNat*3)+1) H=some (.string aC.2.1) from Fk (j:=1) bA (y.cell dT fH) m2 (by decide) J rfl)<|aD 1 ((aC.2.1.size:Int)>400) ?_ ?_ <;> intro h3 cY
  ·exact cF 2 [(2,U)] .ret H (.inr ⟨rfl,rfl,Pt m2 hR h2 h3⟩)
  exact aH 2 (aO+1)<|du 1 [(1,pt bX 0),(3,M (aO+1))] H (ih _ J (aO+1) _ y kb J (by rw [gp J];exact (Pw m2 hR h2 h3)) rfl)
 exact cF 0 [(1,pt bX 0)] (.exit 0) H (.inl ⟨rfl,rfl,Pu hR (by have:=a.nm;omega)⟩)
noncomputable def US:Code:=cw [1,1,1,0,1,0,0] (cx Tryz.f6)
theorem P0 (x:bh) (X:Z) (hx:aa E G X) (a:e9 X x) (bX:Nat) (R:Bool):∀(m:Nat) (bl:Int) (H:Z),aa E X H→(kb:H.get bX=some (O (ai x.f) 27))→(x0:0≤bl)→(hR:lx (x.ns.drop bl.toNat)=R)→((x.f.nn:Int)-bl).toNat=m→
  bV E X 80 US [(1,pt bX 0),(4,M bl)] H [] (fun fB T H'=>(fB=(.exit 2)∧T=aP [(1,pt bX 0)]∧(R=true))∨(fB=.ret∧T=aP [(2,U)]∧(R=false))):=by
 refine dJ fun m ih=>?_
 intro bl H y kb x0 hR hm
 have fO:=a.fO
 refine cN y ?_
 refine Y 2 (ag 10 jz kb)<|aD 1 (bl<(x.f.nn:Int)) ?_ ?_ <;> intro h1 q1
 ·obtain ⟨d1,j0,t1,fb,dT⟩:=a.rn.open J
  have fH:=hx.wf.lt dT
  obtain ⟨aC,m2⟩:=a.Fl (i:=bl.toNat) J
  refine Y 1 (ag 10 jz kb)<|gY 1 H (hI Dq nC fb J J:gk E 24 (.slice x.f.aX x.f.nn x.f.bo) (M bl)=some (pt d1 (0+bl.toNat*1)))<|Y 0 (CU bA (y.cell dT fH) m2 J:al E 9 d1 (0+bl.toNat*1) H=some (.string aC))<|aD 1 ((aC.size:Int)>400) ?_ ?_ <;> intro h2 cv
  ·exact cF 1 [(2,U)] .ret H (.inr ⟨rfl,rfl,ab1 m2 hR h2⟩)
  exact aH 1 (bl+1)<|du 1 [(1,pt bX 0),(4,M (bl+1))] H (ih _ J (bl+1) _ y kb J (by rw [gp J];exact (ab3 m2 hR h2)) rfl)
 exact cF 0 [(1,pt bX 0)] (.exit 2) H (.inl ⟨rfl,rfl,ab2 hR (by have:=a.nn;omega)⟩)
noncomputable def Uf:Code:=cw [1,1,1,1,0,1,0,0] (cx Tryz.f6)
theorem OF (x:bh) (X:Z) (hx:aa E G X) (a:e9 X x) (fm:∀ k∈x.kids,∀{H:Z},aa E X H→aV E X 6 [.agg (ai k.f).toArray] H [] (fun v _=>v=.bool (qn k))) (bX:Nat) (R:Bool):∀(m:Nat) (ah:Int) (H:Z),aa E X H→(kb:H.get bX=some (O (ai x.f) 27))→(x0:0≤ah)→(hR:mX (x.kids.drop ah.toNat)=R)→((x.f.aj:Int)-ah).toNat=m→
  bV E X 80 Uf [(1,pt bX 0),(5,M ah)] H [] (fun fB T H'=>(fB=(.exit 4)∧T=aP []∧(R=true))∨(fB=.ret∧T=aP [(2,U)]∧(R=false))):=by
 refine dJ fun m ih=>?_
 intro ah H y kb x0 hR hm
 have ot:=a.ot
 refine cN y ?_
 refine Y 2 (ag 12 ef kb)<|aD 1 (ah<(x.f.aj:Int)) ?_ ?_ <;> intro h1 q1
 ·obtain ⟨d1,j0,t1,fb,dT⟩:=a.rk.open J
  have fH:=hx.wf.lt dT
  obtain ⟨aC,m2⟩:=a.rV (i:=ah.toNat) J
  obtain ⟨_,H1,c1,ak,y1,bE⟩:=eL (fm aC (nv m2) y)
  refine Y 1 (ag 12 ef kb)<|gY 1 H (hI my ct fb J J:gk E 25 (.slice x.f.pk x.f.aj x.f.ax) (M ah)=some (pt d1 (0+ah.toNat*13)))<|Y 0 (mP c4 ct (y.cell dT fH) m2 J:al E 27 d1 (0+ah.toNat*13) H=some (.agg (ai aC.f).toArray))<|?_
  rcases bE with ⟨rfl,b7⟩ |⟨rfl,b7⟩
  ·have fP:=y.kept ak aq kb
   exact ac 0 c1<|aH 2 (ah+1)<|du 1 [(1,pt bX 0),(5,M (ah+1))] H1 (ih _ J (ah+1) _ y1 fP J (by rw [gp J];exact (aeK m2 hR b7)) rfl)
  exact ac 0 c1<|cF 2 [(2,U)] .ret H1 (.inr ⟨rfl,rfl,aeI m2 hR b7⟩)
 exact cF 0 [] (.exit 4) H (.inl ⟨rfl,rfl,aeJ hR (by have:=a.aj;omega)⟩)
theorem abE {x:bh} (h1:(iA x.ms&&decide ((x.f.nm:Int)≤10))=false) (h2:decide ((x.f.nm:Int)≤10)=true):iA x.ms=false:=by
 rw [h2,Bool.and_true] at h1;exact h1
theorem aeM (x:bh) (X:Z) (hx:aa E G X) (a:e9 X x) (hs:jb X x) (fm:∀ k∈x.kids,∀{H:Z},aa E X H→aV E X 6 [.agg (ai k.f).toArray] H [] (fun v _=>v=.bool (qn k))) {H:Z} (y:aa E X H):aV E X 6 [.agg (ai x.f).toArray] H [] (fun v H'=>v=.bool (qn x)):=by
 refine bB Tryz.f6 y ?_
 obtain ⟨_,H1,c1,ak,y1,rfl⟩:=treeSize x X hx hs (y.news [O (ai x.f) 27])
 have aS:=(y.news [O (ai x.f) 27]).kept ak aq (aR [O (ai x.f) 27] H 0 _ rfl)
 refine Y 2 (dt c4 ct rfl rfl rfl:al E 27 (H.n+0) 0 (news H [O (ai x.f) 27])=some (.agg (ai x.f).toArray))<|ac 0 c1<|aD 0 ((lA x)>300) ?_ ?_ <;> intro h1 q1
 ·exact af 5 U H1 (by rw [q7,h1];rfl)
 refine Y 2 (ag 3 bA aS)<|aD 1 ((x.f.s.size:Int)>400) ?_ ?_ <;> intro h2 cv
 ·exact af 4 U H1 (by rw [q7,h1,h2];rfl)
 obtain ⟨_,H2,c2,aF,ar,cX⟩:=eL (adG x X hx a y1)
 refine Y 3 (ag 4 k3 aS)<|?_
 rcases cX with ⟨rfl,bj⟩ |⟨rfl,bj⟩
 ·have ca:=y1.kept aF aq aS
  obtain ⟨_,_,H3,c3,bq,aM,fq⟩:=(Pq x X hx a (H.n+0) (iA (x.ms.drop 0)) _ 0 _ ar ca J rfl rfl).code
  refine ac 0 c2<|?_
  rcases fq with ⟨rfl,rfl,ky⟩ |⟨rfl,rfl,ky⟩
  ·have fL:=ar.kept bq aq ca
   obtain ⟨_,_,H4,eg,ee,cu,jr⟩:=(P0 x X hx a (H.n+0) (lx (x.ns.drop 0)) _ 0 _ aM fL J rfl rfl).code
   refine bx 5 c3<|?_
   rcases jr with ⟨rfl,rfl,lh⟩ |⟨rfl,rfl,lh⟩
   ·have kj:=aM.kept ee aq fL
    obtain ⟨_,_,H5,fF,ej,dQ,ny⟩:=(OF x X hx a fm (H.n+0) (mX (x.kids.drop 0)) _ 0 _ cu kj J rfl rfl).code
    refine bx 1 eg<|?_
    rcases ny with ⟨rfl,rfl,se⟩ |⟨rfl,rfl,se⟩
    ·exact bx 1 fF<|af 1 aw H5 (by rw [q7,h1,h2,show iA x.ms=_ from ky,show lx x.ns=_ from lh,show mX x.kids=_ from se];rfl)
    exact bx 1 fF<|af 0 U H5 (by rw [q7,h1,h2,show iA x.ms=_ from ky,show lx x.ns=_ from lh,show mX x.kids=_ from se];rfl)
   exact bx 1 eg<|af 0 U H4 (by rw [q7,h1,h2,show iA x.ms=_ from ky,show lx x.ns=_ from lh];rfl)
  exact bx 5 c3<|af 0 U H3 (by rw [q7,h1,h2,show iA x.ms=_ from ky];rfl)
 have ca:=y1.kept aF aq aS
 refine ac 0 c2<|Y 3 (ag 4 k3 ca)<|aD 1 ((x.f.nm:Int)≤10) ?_ ?_ <;> intro h4 cO
 ·exact af 3 U H2 (by rw [q7,h1,h2,abE bj h4];rfl)
 obtain ⟨_,_,H3,c3,bq,aM,fq⟩:=(Pq x X hx a (H.n+0) (iA (x.ms.drop 0)) _ 0 _ ar ca J rfl rfl).code
 rcases fq with ⟨rfl,rfl,ky⟩ |⟨rfl,rfl,ky⟩
 ·have fL:=ar.kept bq aq ca
  obtain ⟨_,_,H4,eg,ee,cu,jr⟩:=(P0 x X hx a (H.n+0) (lx (x.ns.drop 0)) _ 0 _ aM fL J rfl rfl).code
  refine bx 3 c3<|?_
  rcases jr with ⟨rfl,rfl,lh⟩ |⟨rfl,rfl,lh⟩
  ·have kj:=aM.kept ee aq fL
   obtain ⟨_,_,H5,fF,ej,dQ,ny⟩:=(OF x X hx a fm (H.n+0) (mX (x.kids.drop 0)) _ 0 _ cu kj J rfl rfl).code
   refine bx 1 eg<|?_
   rcases ny with ⟨rfl,rfl,se⟩ |⟨rfl,rfl,se⟩
   ·exact bx 1 fF<|af 1 aw H5 (by rw [q7,h1,h2,show iA x.ms=_ from ky,show lx x.ns=_ from lh,show mX x.kids=_ from se];rfl)
   exact bx 1 fF<|af 0 U H5 (by rw [q7,h1,h2,show iA x.ms=_ from ky,show lx x.ns=_ from lh,show mX x.kids=_ from se];rfl)
  exact bx 1 eg<|af 0 U H4 (by rw [q7,h1,h2,show iA x.ms=_ from ky,show lx x.ns=_ from lh];rfl)
 exact bx 3 c3<|af 0 U H3 (by rw [q7,h1,h2,show iA x.ms=_ from ky];rfl)
theorem afQ (x:bh) (X:Z) (hx:aa E G X) (hs:jb X x):∀{H:Z},aa E X H→aV E X 6 [.agg (ai x.f).toArray] H [] (fun v _=>v=.bool (qn x)):=by
 induction hs with
 |@mk x a hk ih=>exact fun y=>aeM x X hx a (.mk a hk) (fun k hk=>ih k hk) y
theorem RR {f:dR} (h:f.k=6∧(f.aj:Int)=2):yE f=true:=by
 rw [yE,beq_iff_eq.2 h.1,beq_iff_eq.2 h.2];rfl
theorem AX {f:dR} (h:¬ (f.k=6∧(f.aj:Int)=2)):yE f=false:=by
 cases ht:yE f with
 |false=>rfl
 |true=>
  rw [yE,dZ,beq_iff_eq,beq_iff_eq] at ht
  exact absurd ht h
noncomputable abbrev fR H (x:bh):=news H [O (ai x.f) 27]
theorem afK (x:bh) (X:Z) (hx:aa E G X) (a:e9 X x) (k:Int) (c:bh) {H:Z} (y:aa E X H) (rP:0≤k) (j1:k<(x.f.aj:Int)) (mk:x.kids[k.toNat]?=some c):aV E X 31 [.agg (ai x.f).toArray,M k] H [] (fun v H'=>v=.bool (decide (jt c.f<jt x.f+k))):=by
 refine bB Tryz.f31 y ?_
 have ot:=a.ot
 obtain ⟨d1,j0,t1,fb,dT⟩:=a.rk.open J
 have fH:=hx.wf.lt dT
 have ajl:=RB c.f
 obtain ⟨_,H1,c1,ak,y1,rfl⟩:=RO c.f X hx (y.news [O (ai x.f) 27])
 have aS:=(y.news [O (ai x.f) 27]).kept ak aq (aR [O (ai x.f) 27] H 0 _ rfl)
 have ajm:=RB x.f
 obtain ⟨_,H2,c2,aF,ar,rfl⟩:=RO x.f X hx y1
 rcases df (decide ((jt c.f)<((jt x.f)+k))) with h1 |h1
 ·have q1:=fD h1
  exact aE [am 1]<|Y 1 (aQ (fR H x) 0 12 ef)<|gY 1 (fR H x) (hI my ct fb J J:gk E 25 (.slice x.f.pk x.f.aj x.f.ax) (M k)=some (pt d1 (0+k.toNat*13)))<|Y 0 (mP c4 ct ((y.news [O (ai x.f) 27]).cell dT fH) mk J:al E 27 d1 (0+k.toNat*13) (fR H x)=some (.agg (ai c.f).toArray))<|ac 0 c1<|Y 0 (cd c4 ct aS rfl rfl:al E 27 (H.n+0) 0 H1=some (.agg (ai x.f).toArray))<|ac 0 c2<|aH 1 ((jt x.f)+k)<|ay 0 h1<|af 1 aw H2 (by rw [h1])
 have q1:=fM h1
 exact aE [am 1]<|Y 1 (aQ (fR H x) 0 12 ef)<|gY 1 (fR H x) (hI my ct fb J J:gk E 25 (.slice x.f.pk x.f.aj x.f.ax) (M k)=some (pt d1 (0+k.toNat*13)))<|Y 0 (mP c4 ct ((y.news [O (ai x.f) 27]).cell dT fH) mk J:al E 27 d1 (0+k.toNat*13) (fR H x)=some (.agg (ai c.f).toArray))<|ac 0 c1<|Y 0 (cd c4 ct aS rfl rfl:al E 27 (H.n+0) 0 H1=some (.agg (ai x.f).toArray))<|ac 0 c2<|aH 1 ((jt x.f)+k)<|ay 0 h1<|af 1 U H2 (by rw [h1])
noncomputable def UR:Code:=cw [1,1,1,1,0,1,0,0] (cx Tryz.f19)
theorem CF (x:bh) (X:Z) (hx:aa E G X) (a:e9 X x) (fm:∀ k∈x.kids,∀{H:Z},aa E X H→aV E X 19 [.agg (ai k.f).toArray] H [] (fun v _=>v=M (e7 k))) (bX:Nat) (AY:Bool) (As:Bool) (j2:AY=true→x.f.k=6∧(x.f.aj:Int)=2) (Za:AY=false→¬ (x.f.k=6∧(x.f.aj:Int)=2)) (j1:As=true→x.f.k=7∧(x.f.aj:Int)=1) (Ox:As=false→¬ (x.f.k=7∧(x.f.aj:Int)=1)) (R:Int):∀(m:Nat) (aO:Int) (iI:Int) (H:Z),aa E X H→(kb:H.get bX=some (O (ai x.f) 27))→(x0:0≤iI)→(hR:lP x.f iI.toNat (x.kids.drop iI.toNat) aO=R)→((x.f.aj:Int)-iI).toNat=m→
  bV E X 69 UR [(1,pt bX 0),(3,M aO),(4,.bool AY),(5,.bool As),(36,.slice x.f.pk x.f.aj x.f.ax),(37,M (x.f.aj:Int)),(38,M iI)] H [] (fun fB T H'=>(fB=(.exit 0)∧∃(z3:Int),T=aP [(3,M z3),(4,.bool AY)]∧(R=z3))):=by
 refine dJ fun m ih=>?_
 intro aO iI H y kb x0 hR hm
 have ot:=a.ot
 refine cN y ?_
 refine aD 0 (iI<(x.f.aj:Int)) ?_ ?_ <;> intro h1 q1
 ·obtain ⟨d1,j0,t1,fb,dT⟩:=a.rk.open J
  have fH:=hx.wf.lt dT
  obtain ⟨aC,m2⟩:=a.rV (i:=iI.toNat) J
  obtain ⟨_,H1,c1,ak,y1,rfl⟩:=fm aC (nv m2) (y.news [O (ai aC.f) 27])
  have c8:=d9 ak
  have aS:=(y.news [O (ai aC.f) 27]).kept ak aq (aR [O (ai aC.f) 27] H 0 _ rfl)
  refine gY 1 H (hI my ct fb J J:gk E 25 (.slice x.f.pk x.f.aj x.f.ax) (M iI)=some (pt d1 (0+iI.toNat*13)))<|Y 0 (mP c4 ct (y.cell dT fH) m2 J:al E 27 d1 (0+iI.toNat*13) H=some (.agg (ai aC.f).toArray))<|aB 2 (bG ct rfl rfl rfl rfl:bu E 27 (H.n+0) 0 (.agg (ai aC.f).toArray) (news H [O [M 0,M 0,ap 0,.string ⟨#[]⟩,.slice none 0 0,M 0,M 0,U,M 0,M 0,.slice none 0 0,U,.slice none 0 0] 27])=some (news H [O (ai aC.f) 27]))<|Y 0 (dt c4 ct rfl rfl rfl:al E 27 (H.n+0) 0 (news H [O (ai aC.f) 27])=some (.agg (ai aC.f).toArray))<|ac 0 c1<|?_
  cases AY with
  |true=>
   have e2:=j2 rfl
   have fP:=(y.news [O (ai aC.f) 27]).kept ak aq (y.old kb [O (ai aC.f) 27])
   obtain ⟨_,H2,c2,aF,ar,cX⟩:=eL (afK x X hx a iI aC y1 J J m2)
   refine Y 3 (cd c4 ct fP rfl rfl:al E 27 bX 0 H1=some (.agg (ai x.f).toArray))<|?_
   rcases cX with ⟨rfl,bj⟩ |⟨rfl,bj⟩
   ·have cB:H1.n+0≤H2.n:=aF.n
    have ac5:=fD bj
    have ls:=y1.kept aF aq fP
    exact ac 1 c2<|aH 10 (iI+1)<|dY 1 [(1,pt bX 0),(3,M (mx aO (IntKind.i64.wrap ((e7 aC)+1)))),(4,aw),(5,.bool As),(36,.slice x.f.pk x.f.aj x.f.ax),(37,M (x.f.aj:Int)),(38,M (iI+1))] H2 [H.n+0] aJ (ih _ J (mx aO (IntKind.i64.wrap ((e7 aC)+1))) (iI+1) _ ar ls J (by rw [gp J];exact (uU m2 hR (uc J))) rfl)
   have cB:H1.n+0≤H2.n:=aF.n
   have ac5:=fM bj
   refine ac 1 c2<|?_
   cases As with
   |true=>
    have HI:=j1 rfl
    have ca:=y1.kept aF aq aS
    refine Y 5 (ag 0 av ca)<|aY 0 aC.f.k 6 ?_ ?_ <;> intro h5 dc
    ·have ls:=y1.kept aF aq fP
     exact aH 9 (iI+1)<|dY 1 [(1,pt bX 0),(3,M (mx aO (IntKind.i64.wrap ((e7 aC)+1)))),(4,aw),(5,aw),(36,.slice x.f.pk x.f.aj x.f.ax),(37,M (x.f.aj:Int)),(38,M (iI+1))] H2 [H.n+0] aJ (ih _ J (mx aO (IntKind.i64.wrap ((e7 aC)+1))) (iI+1) _ ar ls J (by rw [gp J];exact (uU m2 hR (uc J))) rfl)
    have ls:=y1.kept aF aq fP
    exact aH 6 (iI+1)<|dY 1 [(1,pt bX 0),(3,M (mx aO (e7 aC))),(4,aw),(5,aw),(36,.slice x.f.pk x.f.aj x.f.ax),(37,M (x.f.aj:Int)),(38,M (iI+1))] H2 [H.n+0] aJ (ih _ J (mx aO (e7 aC)) (iI+1) _ ar ls J (by rw [gp J];exact (n6 m2 hR (nR J))) rfl)
   |false=>
    have HI:=Ox rfl
    have ls:=y1.kept aF aq fP
    exact aH 10 (iI+1)<|dY 1 [(1,pt bX 0),(3,M (mx aO (e7 aC))),(4,aw),(5,U),(36,.slice x.f.pk x.f.aj x.f.ax),(37,M (x.f.aj:Int)),(38,M (iI+1))] H2 [H.n+0] aJ (ih _ J (mx aO (e7 aC)) (iI+1) _ ar ls J (by rw [gp J];exact (n6 m2 hR (nR J))) rfl)
  |false=>
   have e2:=Za rfl
   cases As with
   |true=>
    have HI:=j1 rfl
    refine Y 8 (ag 0 av aS)<|aY 0 aC.f.k 6 ?_ ?_ <;> intro h4 cO
    ·have fP:=(y.news [O (ai aC.f) 27]).kept ak aq (y.old kb [O (ai aC.f) 27])
     exact aH 9 (iI+1)<|dY 1 [(1,pt bX 0),(3,M (mx aO (IntKind.i64.wrap ((e7 aC)+1)))),(4,U),(5,aw),(36,.slice x.f.pk x.f.aj x.f.ax),(37,M (x.f.aj:Int)),(38,M (iI+1))] H1 [H.n+0] aJ (ih _ J (mx aO (IntKind.i64.wrap ((e7 aC)+1))) (iI+1) _ y1 fP J (by rw [gp J];exact (uU m2 hR (uc J))) rfl)
    have fP:=(y.news [O (ai aC.f) 27]).kept ak aq (y.old kb [O (ai aC.f) 27])
    exact aH 6 (iI+1)<|dY 1 [(1,pt bX 0),(3,M (mx aO (e7 aC))),(4,U),(5,aw),(36,.slice x.f.pk x.f.aj x.f.ax),(37,M (x.f.aj:Int)),(38,M (iI+1))] H1 [H.n+0] aJ (ih _ J (mx aO (e7 aC)) (iI+1) _ y1 fP J (by rw [gp J];exact (n6 m2 hR (nR J))) rfl)
   |false=>
    have HI:=Ox rfl
    have fP:=(y.news [O (ai aC.f) 27]).kept ak aq (y.old kb [O (ai aC.f) 27])
    exact aH 13 (iI+1)<|dY 1 [(1,pt bX 0),(3,M (mx aO (e7 aC))),(4,U),(5,U),(36,.slice x.f.pk x.f.aj x.f.ax),(37,M (x.f.aj:Int)),(38,M (iI+1))] H1 [H.n+0] aJ (ih _ J (mx aO (e7 aC)) (iI+1) _ y1 fP J (by rw [gp J];exact (n6 m2 hR (nR J))) rfl)
 exact cF 0 [(3,M aO),(4,.bool AY)] (.exit 0) H ⟨rfl,aO,rfl,hR.symm.trans (PC (by have:=a.aj;omega))⟩
theorem abO (x:bh) (X:Z) (hx:aa E G X) (a:e9 X x) (fm:∀ k∈x.kids,∀{H:Z},aa E X H→aV E X 19 [.agg (ai k.f).toArray] H [] (fun v _=>v=M (e7 k))) {H:Z} (y:aa E X H):aV E X 19 [.agg (ai x.f).toArray] H [] (fun v H'=>v=M (e7 x)):=by
 refine bB Tryz.f19 y ?_
 rcases df (x.f.k==6) with h1 |h1
 ·have q1:=pr h1
  rcases df ((x.f.aj:Int)==2) with h2 |h2
  ·have cv:=pr h2
   refine aE [am 2]<|Y 1 (aQ (fR H x) 0 0 av)<|ay 0 h1<|Y 2 (aQ (fR H x) 0 12 ef)<|ay 1 h2<|Y 2 (aQ (fR H x) 0 0 av)<|ay 0 (beq_eq_false_iff_ne.2 J:(x.f.k==7)=false)<|Y 5 (aQ (fR H x) 0 0 av)<|aD 0 (x.f.k<4) ?_ ?_ <;> intro h3 cY
   ·exact af 3 (M 0) (fR H x) (by rw [lQ,h3];rfl)
   refine Y 2 (aQ (fR H x) 0 0 av)<|aD 0 (x.f.k>7) ?_ ?_ <;> intro h4 cO
   ·exact af 2 (M 0) (fR H x) (by rw [lQ,h3,h4];rfl)
   obtain ⟨_,_,H1,c1,ak,y1,rfl,iK,rfl,aI⟩:=(CF x X hx a fm (H.n+0) true false (fun _=>by omega) (fun h=>by cases h) (fun h=>by cases h) (fun _=>by omega) (lP x.f 0 x.kids 0) _ 0 0 _ (y.news [O (ai x.f) 27]) (aR [O (ai x.f) 27] H 0 _ rfl) J rfl rfl).code
   exact Y 2 (aQ (fR H x) 0 12 ef)<|bx 2 c1<|af 3 (M iK) H1 (by rw [lQ,h3,h4,RR J,aI];rfl)
  have cv:=tu h2
  refine aE [am 2]<|Y 1 (aQ (fR H x) 0 0 av)<|ay 0 h1<|Y 2 (aQ (fR H x) 0 12 ef)<|ay 1 h2<|Y 2 (aQ (fR H x) 0 0 av)<|ay 0 (beq_eq_false_iff_ne.2 J:(x.f.k==7)=false)<|Y 5 (aQ (fR H x) 0 0 av)<|aD 0 (x.f.k<4) ?_ ?_ <;> intro h3 cY
  ·exact af 3 (M 0) (fR H x) (by rw [lQ,h3];rfl)
  refine Y 2 (aQ (fR H x) 0 0 av)<|aD 0 (x.f.k>7) ?_ ?_ <;> intro h4 cO
  ·exact af 2 (M 0) (fR H x) (by rw [lQ,h3,h4];rfl)
  obtain ⟨_,_,H1,c1,ak,y1,rfl,iK,rfl,aI⟩:=(CF x X hx a fm (H.n+0) false false (fun h=>by cases h) (fun _=>by omega) (fun h=>by cases h) (fun _=>by omega) (lP x.f 0 x.kids 0) _ 0 0 _ (y.news [O (ai x.f) 27]) (aR [O (ai x.f) 27] H 0 _ rfl) J rfl rfl).code
  exact Y 2 (aQ (fR H x) 0 12 ef)<|bx 2 c1<|af 4 (M (IntKind.i64.wrap (iK+1))) H1 (by rw [lQ,h3,h4,AX J,aI];rfl)
 have q1:=tu h1
 rcases df (x.f.k==7) with h2 |h2
 ·have cv:=pr h2
  rcases df ((x.f.aj:Int)==1) with h3 |h3
  ·have cY:=pr h3
   refine aE [am 2]<|Y 1 (aQ (fR H x) 0 0 av)<|ay 0 h1<|Y 3 (aQ (fR H x) 0 0 av)<|ay 0 h2<|Y 2 (aQ (fR H x) 0 12 ef)<|ay 1 h3<|Y 4 (aQ (fR H x) 0 0 av)<|aD 0 (x.f.k<4) ?_ ?_ <;> intro h4 cO
   ·exact af 3 (M 0) (fR H x) (by rw [lQ,h4];rfl)
   refine Y 2 (aQ (fR H x) 0 0 av)<|aD 0 (x.f.k>7) ?_ ?_ <;> intro h5 dc
   ·exact af 2 (M 0) (fR H x) (by rw [lQ,h4,h5];rfl)
   obtain ⟨_,_,H1,c1,ak,y1,rfl,iK,rfl,aI⟩:=(CF x X hx a fm (H.n+0) false true (fun h=>by cases h) (fun _=>by omega) (fun _=>by omega) (fun h=>by cases h) (lP x.f 0 x.kids 0) _ 0 0 _ (y.news [O (ai x.f) 27]) (aR [O (ai x.f) 27] H 0 _ rfl) J rfl rfl).code
   exact Y 2 (aQ (fR H x) 0 12 ef)<|bx 2 c1<|af 4 (M (IntKind.i64.wrap (iK+1))) H1 (by rw [lQ,h4,h5,AX J,aI];rfl)
  have cY:=tu h3
  refine aE [am 2]<|Y 1 (aQ (fR H x) 0 0 av)<|ay 0 h1<|Y 3 (aQ (fR H x) 0 0 av)<|ay 0 h2<|Y 2 (aQ (fR H x) 0 12 ef)<|ay 1 h3<|Y 4 (aQ (fR H x) 0 0 av)<|aD 0 (x.f.k<4) ?_ ?_ <;> intro h4 cO
  ·exact af 3 (M 0) (fR H x) (by rw [lQ,h4];rfl)
  refine Y 2 (aQ (fR H x) 0 0 av)<|aD 0 (x.f.k>7) ?_ ?_ <;> intro h5 dc
  ·exact af 2 (M 0) (fR H x) (by rw [lQ,h4,h5];rfl)
  obtain ⟨_,_,H1,c1,ak,y1,rfl,iK,rfl,aI⟩:=(CF x X hx a fm (H.n+0) false false (fun h=>by cases h) (fun _=>by omega) (fun h=>by cases h) (fun _=>by omega) (lP x.f 0 x.kids 0) _ 0 0 _ (y.news [O (ai x.f) 27]) (aR [O (ai x.f) 27] H 0 _ rfl) J rfl rfl).code
  exact Y 2 (aQ (fR H x) 0 12 ef)<|bx 2 c1<|af 4 (M (IntKind.i64.wrap (iK+1))) H1 (by rw [lQ,h4,h5,AX J,aI];rfl)
 have cv:=tu h2
 refine aE [am 2]<|Y 1 (aQ (fR H x) 0 0 av)<|ay 0 h1<|Y 3 (aQ (fR H x) 0 0 av)<|ay 0 h2<|Y 5 (aQ (fR H x) 0 0 av)<|aD 0 (x.f.k<4) ?_ ?_ <;> intro h3 cY
 ·exact af 3 (M 0) (fR H x) (by rw [lQ,h3];rfl)
 refine Y 2 (aQ (fR H x) 0 0 av)<|aD 0 (x.f.k>7) ?_ ?_ <;> intro h4 cO
 ·exact af 2 (M 0) (fR H x) (by rw [lQ,h3,h4];rfl)
 obtain ⟨_,_,H1,c1,ak,y1,rfl,iK,rfl,aI⟩:=(CF x X hx a fm (H.n+0) false false (fun h=>by cases h) (fun _=>by omega) (fun h=>by cases h) (fun _=>by omega) (lP x.f 0 x.kids 0) _ 0 0 _ (y.news [O (ai x.f) 27]) (aR [O (ai x.f) 27] H 0 _ rfl) J rfl rfl).code
 exact Y 2 (aQ (fR H x) 0 12 ef)<|bx 2 c1<|af 4 (M (IntKind.i64.wrap (iK+1))) H1 (by rw [lQ,h3,h4,AX J,aI];rfl)
theorem afM (x:bh) (X:Z) (hx:aa E G X) (hs:jb X x):∀{H:Z},aa E X H→aV E X 19 [.agg (ai x.f).toArray] H [] (fun v _=>v=M (e7 x)):=by
 induction hs with
 |@mk x a hk ih=>exact fun y=>abO x X hx a (fun k hk=>ih k hk) y
noncomputable def Vw:Code:=cw [1,1,1,0,1,0,0] (cx Tryz.f10)
theorem adv (x:bh) (X:Z) (hx:aa E G X) (a:e9 X x) (fm:∀ k∈x.kids,∀{H:Z},aa E X H→aV E X 10 [.agg (ai k.f).toArray] H [] (fun v _=>v=M (e7 k))) (bX:Nat) (R:Int):∀(m:Nat) (aO:Int) (bl:Int) (H:Z),aa E X H→(kb:H.get bX=some (O (ai x.f) 27))→(x0:0≤bl)→(hR:lP x.f bl.toNat (x.kids.drop bl.toNat) aO=R)→((x.f.aj:Int)-bl).toNat=m→
  bV E X 99 Vw [(1,pt bX 0),(3,M aO),(4,M bl)] H [] (fun fB T H'=>(fB=(.exit 0)∧∃(z3:Int),T=aP [(1,pt bX 0),(3,M z3)]∧(R=z3))):=by
 refine dJ fun m ih=>?_
 intro aO bl H y kb x0 hR hm
 have ot:=a.ot
 refine cN y ?_
 refine Y 2 (ag 12 ef kb)<|aD 1 (bl<(x.f.aj:Int)) ?_ ?_ <;> intro h1 q1
 ·obtain ⟨d1,j0,t1,fb,dT⟩:=a.rk.open J
  have fH:=hx.wf.lt dT
  obtain ⟨aC,m2⟩:=a.rV (i:=bl.toNat) J
  obtain ⟨_,H1,c1,ak,y1,rfl⟩:=fm aC (nv m2) y
  have fP:=y.kept ak aq kb
  refine Y 1 (ag 12 ef kb)<|gY 1 H (hI my ct fb J J:gk E 25 (.slice x.f.pk x.f.aj x.f.ax) (M bl)=some (pt d1 (0+bl.toNat*13)))<|Y 0 (mP c4 ct (y.cell dT fH) m2 J:al E 27 d1 (0+bl.toNat*13) H=some (.agg (ai aC.f).toArray))<|ac 0 c1<|Y 2 (ag 0 av fP)<|aY 0 x.f.k 6 ?_ ?_ <;> intro h2 cv
  ·refine Y 2 (ag 12 ef fP)<|aY 1 (x.f.aj:Int) 2 ?_ ?_ <;> intro h3 cY
   ·rcases df (bl==0) with h4 |h4
    ·have cO:=pr h4
     have m3:x.kids[0]?=some aC:=(show bl.toNat=0 by omega)▸m2
     obtain ⟨_,H2,c2,aF,ar,rfl⟩:=Gb aC.f X hx y1
     have ls:=y1.kept aF aq fP
     obtain ⟨_,H3,c3,bq,aM,rfl⟩:=Gb x.f X hx ar
     rcases df (decide ((jt aC.f)<(jt x.f))) with h5 |h5
     ·have dc:=fD h5
      have oK:=ar.kept bq aq ls
      refine aE [am 0]<|ay 1 h4<|Y 2 (ag 12 ef fP)<|gY 0 H1 (hI my ct fb J J:gk E 25 (.slice x.f.pk x.f.aj x.f.ax) (M 0)=some (pt d1 (0+0)))<|Y 0 (mP c4 ct (y1.cell dT fH) m3 J:al E 27 d1 (0+0) H1=some (.agg (ai aC.f).toArray))<|ac 0 c2<|Y 0 (cd c4 ct ls rfl rfl:al E 27 bX 0 H2=some (.agg (ai x.f).toArray))<|ac 0 c3<|ay 0 h5<|Y 7 (ag 0 av oK)<|ay 0 (beq_eq_false_iff_ne.2 J:(x.f.k==7)=false)<|aD 6 ((IntKind.i64.wrap ((e7 aC)+1))>aO) ?_ ?_ <;> intro h6 di
      ·exact aH 3 (bl+1)<|du 1 [(1,pt bX 0),(3,M (IntKind.i64.wrap ((e7 aC)+1))),(4,M (bl+1))] H3 (ih _ J (IntKind.i64.wrap ((e7 aC)+1)) (bl+1) _ aM oK J (by rw [gp J];have hh:=(uU m2 hR (uc J));rwa [uR di] at hh) rfl)
      exact aH 1 (bl+1)<|du 1 [(1,pt bX 0),(3,M aO),(4,M (bl+1))] H3 (ih _ J aO (bl+1) _ aM oK J (by rw [gp J];have hh:=(uU m2 hR (uc J));rwa [uS di] at hh) rfl)
     have dc:=fM h5
     have oK:=ar.kept bq aq ls
     refine aE [am 0]<|ay 1 h4<|Y 2 (ag 12 ef fP)<|gY 0 H1 (hI my ct fb J J:gk E 25 (.slice x.f.pk x.f.aj x.f.ax) (M 0)=some (pt d1 (0+0)))<|Y 0 (mP c4 ct (y1.cell dT fH) m3 J:al E 27 d1 (0+0) H1=some (.agg (ai aC.f).toArray))<|ac 0 c2<|Y 0 (cd c4 ct ls rfl rfl:al E 27 bX 0 H2=some (.agg (ai x.f).toArray))<|ac 0 c3<|ay 0 h5<|ay 3 (beq_eq_false_iff_ne.2 J:(bl==1)=false)<|Y 4 (ag 0 av oK)<|ay 0 (beq_eq_false_iff_ne.2 J:(x.f.k==7)=false)<|aD 6 ((e7 aC)>aO) ?_ ?_ <;> intro h6 di
     ·exact aH 3 (bl+1)<|du 1 [(1,pt bX 0),(3,M (e7 aC)),(4,M (bl+1))] H3 (ih _ J (e7 aC) (bl+1) _ aM oK J (by rw [gp J];have hh:=(n6 m2 hR (nR J));rwa [uR di] at hh) rfl)
     exact aH 1 (bl+1)<|du 1 [(1,pt bX 0),(3,M aO),(4,M (bl+1))] H3 (ih _ J aO (bl+1) _ aM oK J (by rw [gp J];have hh:=(n6 m2 hR (nR J));rwa [uS di] at hh) rfl)
    have cO:=tu h4
    have m3:x.kids[1]?=some aC:=(show bl.toNat=1 by omega)▸m2
    obtain ⟨_,H2,c2,aF,ar,rfl⟩:=Gb aC.f X hx y1
    have ls:=y1.kept aF aq fP
    obtain ⟨_,H3,c3,bq,aM,rfl⟩:=Gb x.f X hx ar
    rcases df (decide ((jt aC.f)≤(jt x.f))) with h5 |h5
    ·have dc:=fD h5
     have oK:=ar.kept bq aq ls
     refine aE [am 0]<|ay 1 h4<|ay 4 (beq_iff_eq.2 J:(bl==1)=true)<|Y 2 (ag 12 ef fP)<|gY 0 H1 (hI my ct fb J J:gk E 25 (.slice x.f.pk x.f.aj x.f.ax) (M 1)=some (pt d1 (0+13)))<|Y 0 (mP c4 ct (y1.cell dT fH) m3 J:al E 27 d1 (0+13) H1=some (.agg (ai aC.f).toArray))<|ac 0 c2<|Y 0 (cd c4 ct ls rfl rfl:al E 27 bX 0 H2=some (.agg (ai x.f).toArray))<|ac 0 c3<|ay 0 h5<|Y 6 (ag 0 av oK)<|ay 0 (beq_eq_false_iff_ne.2 J:(x.f.k==7)=false)<|aD 6 ((IntKind.i64.wrap ((e7 aC)+1))>aO) ?_ ?_ <;> intro h6 di
     ·exact aH 3 (bl+1)<|du 1 [(1,pt bX 0),(3,M (IntKind.i64.wrap ((e7 aC)+1))),(4,M (bl+1))] H3 (ih _ J (IntKind.i64.wrap ((e7 aC)+1)) (bl+1) _ aM oK J (by rw [gp J];have hh:=(uU m2 hR (uc J));rwa [uR di] at hh) rfl)
     exact aH 1 (bl+1)<|du 1 [(1,pt bX 0),(3,M aO),(4,M (bl+1))] H3 (ih _ J aO (bl+1) _ aM oK J (by rw [gp J];have hh:=(uU m2 hR (uc J));rwa [uS di] at hh) rfl)
    have dc:=fM h5
    have oK:=ar.kept bq aq ls
    refine aE [am 0]<|ay 1 h4<|ay 4 (beq_iff_eq.2 J:(bl==1)=true)<|Y 2 (ag 12 ef fP)<|gY 0 H1 (hI my ct fb J J:gk E 25 (.slice x.f.pk x.f.aj x.f.ax) (M 1)=some (pt d1 (0+13)))<|Y 0 (mP c4 ct (y1.cell dT fH) m3 J:al E 27 d1 (0+13) H1=some (.agg (ai aC.f).toArray))<|ac 0 c2<|Y 0 (cd c4 ct ls rfl rfl:al E 27 bX 0 H2=some (.agg (ai x.f).toArray))<|ac 0 c3<|ay 0 h5<|Y 3 (ag 0 av oK)<|ay 0 (beq_eq_false_iff_ne.2 J:(x.f.k==7)=false)<|aD 6 ((e7 aC)>aO) ?_ ?_ <;> intro h6 di
    ·exact aH 3 (bl+1)<|du 1 [(1,pt bX 0),(3,M (e7 aC)),(4,M (bl+1))] H3 (ih _ J (e7 aC) (bl+1) _ aM oK J (by rw [gp J];have hh:=(n6 m2 hR (nR J));rwa [uR di] at hh) rfl)
    exact aH 1 (bl+1)<|du 1 [(1,pt bX 0),(3,M aO),(4,M (bl+1))] H3 (ih _ J aO (bl+1) _ aM oK J (by rw [gp J];have hh:=(n6 m2 hR (nR J));rwa [uS di] at hh) rfl)
   refine Y 2 (ag 0 av fP)<|ay 0 (beq_eq_false_iff_ne.2 J:(x.f.k==7)=false)<|aD 6 ((e7 aC)>aO) ?_ ?_ <;> intro h4 cO
   ·exact aH 3 (bl+1)<|du 1 [(1,pt bX 0),(3,M (e7 aC)),(4,M (bl+1))] H1 (ih _ J (e7 aC) (bl+1) _ y1 fP J (by rw [gp J];have hh:=(n6 m2 hR (nR J));rwa [uR cO] at hh) rfl)
   exact aH 1 (bl+1)<|du 1 [(1,pt bX 0),(3,M aO),(4,M (bl+1))] H1 (ih _ J aO (bl+1) _ y1 fP J (by rw [gp J];have hh:=(n6 m2 hR (nR J));rwa [uS cO] at hh) rfl)
  refine Y 3 (ag 0 av fP)<|aY 0 x.f.k 7 ?_ ?_ <;> intro h3 cY
  ·refine Y 2 (ag 12 ef fP)<|aY 1 (x.f.aj:Int) 1 ?_ ?_ <;> intro h4 cO
   ·have m3:x.kids[0]?=some aC:=(show bl.toNat=0 by omega)▸m2
    refine Y 3 (ag 12 ef fP)<|gY 0 H1 (hI my ct fb J J:gk E 25 (.slice x.f.pk x.f.aj x.f.ax) (M 0)=some (pt d1 (0+0)))<|Y 1 (show al E 3 d1 (0+0) H1=some (M aC.f.k) from ZI (j:=0) av (y1.cell dT fH) m3 (by decide) J rfl)<|aY 0 aC.f.k 6 ?_ ?_ <;> intro h5 dc
    ·refine aD 6 ((IntKind.i64.wrap ((e7 aC)+1))>aO) ?_ ?_ <;> intro h6 di
     ·exact aH 3 (bl+1)<|du 1 [(1,pt bX 0),(3,M (IntKind.i64.wrap ((e7 aC)+1))),(4,M (bl+1))] H1 (ih _ J (IntKind.i64.wrap ((e7 aC)+1)) (bl+1) _ y1 fP J (by rw [gp J];have hh:=(uU m2 hR (uc J));rwa [uR di] at hh) rfl)
     exact aH 1 (bl+1)<|du 1 [(1,pt bX 0),(3,M aO),(4,M (bl+1))] H1 (ih _ J aO (bl+1) _ y1 fP J (by rw [gp J];have hh:=(uU m2 hR (uc J));rwa [uS di] at hh) rfl)
    refine aD 3 ((e7 aC)>aO) ?_ ?_ <;> intro h6 di
    ·exact aH 3 (bl+1)<|du 1 [(1,pt bX 0),(3,M (e7 aC)),(4,M (bl+1))] H1 (ih _ J (e7 aC) (bl+1) _ y1 fP J (by rw [gp J];have hh:=(n6 m2 hR (nR J));rwa [uR di] at hh) rfl)
    exact aH 1 (bl+1)<|du 1 [(1,pt bX 0),(3,M aO),(4,M (bl+1))] H1 (ih _ J aO (bl+1) _ y1 fP J (by rw [gp J];have hh:=(n6 m2 hR (nR J));rwa [uS di] at hh) rfl)
   refine aD 5 ((e7 aC)>aO) ?_ ?_ <;> intro h5 dc
   ·exact aH 3 (bl+1)<|du 1 [(1,pt bX 0),(3,M (e7 aC)),(4,M (bl+1))] H1 (ih _ J (e7 aC) (bl+1) _ y1 fP J (by rw [gp J];have hh:=(n6 m2 hR (nR J));rwa [uR dc] at hh) rfl)
   exact aH 1 (bl+1)<|du 1 [(1,pt bX 0),(3,M aO),(4,M (bl+1))] H1 (ih _ J aO (bl+1) _ y1 fP J (by rw [gp J];have hh:=(n6 m2 hR (nR J));rwa [uS dc] at hh) rfl)
  refine aD 6 ((e7 aC)>aO) ?_ ?_ <;> intro h4 cO
  ·exact aH 3 (bl+1)<|du 1 [(1,pt bX 0),(3,M (e7 aC)),(4,M (bl+1))] H1 (ih _ J (e7 aC) (bl+1) _ y1 fP J (by rw [gp J];have hh:=(n6 m2 hR (nR J));rwa [uR cO] at hh) rfl)
  exact aH 1 (bl+1)<|du 1 [(1,pt bX 0),(3,M aO),(4,M (bl+1))] H1 (ih _ J aO (bl+1) _ y1 fP J (by rw [gp J];have hh:=(n6 m2 hR (nR J));rwa [uS cO] at hh) rfl)
 exact cF 0 [(1,pt bX 0),(3,M aO)] (.exit 0) H ⟨rfl,aO,rfl,hR.symm.trans (PC (by have:=a.aj;omega))⟩
theorem adw (x:bh) (X:Z) (hx:aa E G X) (a:e9 X x) (fm:∀ k∈x.kids,∀{H:Z},aa E X H→aV E X 10 [.agg (ai k.f).toArray] H [] (fun v _=>v=M (e7 k))) {H:Z} (y:aa E X H):aV E X 10 [.agg (ai x.f).toArray] H [] (fun v H'=>v=M (e7 x)):=by
 refine bB Tryz.f10 y ?_
 refine Y 3 (aQ (fR H x) 0 0 av)<|aD 0 (x.f.k<4) ?_ ?_ <;> intro h1 q1
 ·exact af 3 (M 0) (fR H x) (by rw [lQ,h1];rfl)
 refine Y 2 (aQ (fR H x) 0 0 av)<|aD 0 (x.f.k>7) ?_ ?_ <;> intro h2 cv
 ·exact af 2 (M 0) (fR H x) (by rw [lQ,h1,h2];rfl)
 obtain ⟨_,_,H1,c1,ak,y1,rfl,iK,rfl,aI⟩:=(adv x X hx a fm (H.n+0) (lP x.f 0 x.kids 0) _ 0 0 _ (y.news [O (ai x.f) 27]) (aR [O (ai x.f) 27] H 0 _ rfl) J rfl rfl).code
 have aS:=(y.news [O (ai x.f) 27]).kept ak aq (aR [O (ai x.f) 27] H 0 _ rfl)
 refine bx 3 c1<|Y 1 (ag 0 av aS)<|aY 0 x.f.k 6 ?_ ?_ <;> intro h3 cY
 ·refine Y 2 (ag 12 ef aS)<|aY 1 (x.f.aj:Int) 2 ?_ ?_ <;> intro h4 cO
  ·exact af 3 (M iK) H1 (by rw [lQ,h1,h2,RR J,aI];rfl)
  exact af 4 (M (IntKind.i64.wrap (iK+1))) H1 (by rw [lQ,h1,h2,AX J,aI];rfl)
 exact af 5 (M (IntKind.i64.wrap (iK+1))) H1 (by rw [lQ,h1,h2,AX J,aI];rfl)
theorem adu (x:bh) (X:Z) (hx:aa E G X) (hs:jb X x):∀{H:Z},aa E X H→aV E X 10 [.agg (ai x.f).toArray] H [] (fun v _=>v=M (e7 x)):=by
 induction hs with
 |@mk x a hk ih=>exact fun y=>adw x X hx a (fun k hk=>ih k hk) y
theorem pF {G X H:Z} {g:FuncId} {args:List Value} {Q:Value→Z→Prop} (y:aa E X H) (h:aV E G g args H [] Q):aV E X g args H [] Q:=by
 obtain ⟨v,H',c,x,z,q⟩:=h
 exact ⟨v,H',c,x,y.step x z.wf aL,q⟩
theorem Py (s:ByteArray) (h:(s.size:Int)<100000) {H:Z} (y:aa E G H):bF E 69 [.string s] H (.ret (.bool (jh s))) H []:=CE s h y
noncomputable def tq (m:iq):Bool:=jg m.1 m.2.1 m.2.2
theorem Fe (m:iq) (h:(m.2.1.size:Int)<100000) {H:Z} (y:aa E G H):bF E 55 [.agg #[M m.1,.string m.2.1,.string m.2.2]] H (.ret (.bool (tq m))) H []:=abn m.1 m.2.1 m.2.2 h y
def wk (b:Nat):Bool:=!(FloatKind.f64.format.order b b==some .eq)
def tG (v:Int):Int:=bif wk v.toNat&&(v != 9218868437227405314) then 9221120237041090561 else v
theorem acg (d:Ieee.Datum):(d.order d==some .eq)=!(d matches .nan ..):=by
 cases d with
 |nan=>rfl
 |infinity s=>cases s <;> rfl
 |number s m i=>simp [Ieee.Datum.order]
theorem PA {b:Nat} (h:b<9223372036854775808):wk b=decide (9218868437227405312<b):=by
 have e:FloatKind.f64.format.order b b=(FloatKind.f64.format.read b).order (FloatKind.f64.format.read b):=rfl
 have h1:FloatKind.f64.format.signWeight=9223372036854775808:=by decide
 have h2:FloatKind.f64.format.infRung=9218868437227405312:=by decide
 have h3:FloatKind.f64.format.binade=4503599627370496:=by decide
 rw [wk,e,acg,Bool.not_not]
 unfold Ieee.Format.read
 simp only [h1,h2,h3]
 rw [Nat.mod_eq_of_lt h]
 by_cases c1:b<4503599627370496
 ·rw [if_pos c1];exact (decide_eq_false J).symm
 ·rw [if_neg c1]
  by_cases c2:b<9218868437227405312
  ·rw [if_pos c2];exact (decide_eq_false J).symm
  ·rw [if_neg c2]
   by_cases c3:b=9218868437227405312
   ·rw [if_pos c3];exact (decide_eq_false J).symm
   ·rw [if_neg c3];exact (decide_eq_true J).symm
def mj:List ByteArray→Bool
 |[]=>false
 |s::ns=>!jh s||mj ns
noncomputable def mg:List iq→Bool
 |[]=>false
 |m::ms=>!tq m||mg ms
structure jX (x:bh):Prop where
 ms:∀ m∈x.ms,(m.2.1.size:Int)<100000
 ns:∀ s∈x.ns,(s.size:Int)<100000
 aj:x.f.aj<1000
inductive mC:bh→Prop
 |mk {x:bh}:jX x→(∀ k∈x.kids,mC k)→mC x
noncomputable def mh (x:bh):Bool:=!(decide (x.f.how<0))&&(!(decide (x.f.how>2))&&(!(x.f.how==0&&decide (((x.f.nn:Nat):Int)>0))&&(!(decide (((x.f.nn:Nat):Int)>16))&&!mj x.ns)))
def hD (f:dR):dR:=
 bif f.k==1 then { f with v:=0 } else bif f.k==2 then { f with s:=⟨#[]⟩ } else
 bif f.k==3 then { f with s:=⟨#[]⟩,pm:=none,nm:=0,br:=0,wide:=0,off:=0,ha:=false,at_:=0 } else
 bif f.k==4 then { f with s:=⟨#[]⟩,pk:=none,aj:=0,ax:=0 } else
 bif f.k==5 then { f with s:=⟨#[]⟩,how:=0,aX:=none,nn:=0,bo:=0,pk:=none,aj:=0,ax:=0 } else
 bif f.k==6 then { f with op:=0,d8:=false,how:=0,aX:=none,nn:=0,bo:=0,pk:=none,aj:=0,ax:=0 } else
 bif f.k==7 then { f with pk:=none,aj:=0,ax:=0 } else f
def jV (g:dR):Bool:=(g.op==0)&&((g.v==0)&&((g.s.toList==(⟨#[]⟩:ByteArray).toList)&&((((g.nm:Nat):Int)==0)&&((g.wide==0)&&((g.off==0)&&(!g.ha&&((g.at_==0)&&((g.how==0)&&((((g.nn:Nat):Int)==0)&&(!g.d8&&(((g.aj:Nat):Int)==0)))))))))))
theorem Y4 (b:Nat) {H:Z} (y:aa E G H):aV E G 67 [.float .f64 b] H [] (fun v H'=>v=(.bool (wk b))):=by
 refine bB Tryz.f67 y ?_
 refine d5 3 (!(FloatKind.f64.format.order b b==some .eq)) (fun h1=>?_) fun h1=>?_
 ·exact af 1 aw H (by rw [wk,h1])
 exact af 1 U H (by rw [wk,h1])
theorem isNaN (b:Nat):∀{H:Z},aa E G H→bF E 67 [.float .f64 b] H (.ret (.bool (wk b))) H []:=by
 obtain ⟨_,_,c,_,_,rfl⟩:=Y4 b eH
 exact fun y=>eh (et rfl) (.ground rfl) c y
theorem agv (u:Int) {H:Z} (y:aa E G H):aV E G 54 [ap u] H [] (fun v H'=>v=(ap (tG u))):=by
 refine bB Tryz.f54 y ?_
 refine ac 2 (HU u:bF E 68 [ap u] H (.ret (.float .f64 u.toNat)) H [])<|?_
 cases h1:(wk (u.toNat)) with
 |true=>
  refine ac 0 (cP h1 (isNaN (u.toNat) y))<|d7 2 u 9218868437227405314 ?_ ?_ <;> intro h2 cv
  ·exact af 2 (ap 9221120237041090561) H (by rw [tG,h1,h2] <;> rfl)
  exact af 3 (ap u) H (by rw [tG,h1,h2] <;> rfl)
 |false=>
  exact ac 0 (cP h1 (isNaN (u.toNat) y))<|af 4 (ap u) H (by rw [tG,h1] <;> rfl)
theorem Lp (u:Int):∀{H:Z},aa E G H→bF E 54 [ap u] H (.ret (ap (tG u))) H []:=by
 obtain ⟨_,_,c,_,_,rfl⟩:=agv u eH
 exact fun y=>eh (et rfl) (.ground rfl) c y
theorem abJ (s:ByteArray) (X:Z) (hx:aa E G X) {H:Z} (y:aa E X H) (hz:(s.size:Int)<100000):aV E X 77 [.string s] H [] (fun v H'=>v=.bool (!jh s)):=by
 refine bB Tryz.f77 y ?_
 cases h1:(jh s) with
 |true=>
  exact ac 2 (cP h1 (Py s hz (gK hx y)))<|af 2 U H rfl
 |false=>
  exact ac 2 (cP h1 (Py s hz (gK hx y)))<|af 2 aw H rfl
noncomputable abbrev Bv (m:iq):=([M m.1,.string m.2.1,.string m.2.2]:List Value)
noncomputable abbrev JU H (m:iq):=news H (n7 (Bv m))
theorem abk (m:iq) (X:Z) (hx:aa E G X) {H:Z} (y:aa E X H) (hz:(m.2.1.size:Int)<100000):aV E X 58 [.agg (Bv m).toArray] H [] (fun v H'=>v=.bool (!tq m)):=by
 refine bB Tryz.f58 y ?_
 refine Y 2 (dt Bj qr rfl rfl rfl:al E 40 (H.n+0) 0 (JU H m)=some (.agg (Bv m).toArray))<|?_
 cases h1:(tq m) with
 |true=>
  exact ac 0 (cP h1 (Fe m hz (gK hx (y.news (n7 (Bv m))))))<|af 2 U (JU H m) rfl
 |false=>
  exact ac 0 (cP h1 (Fe m hz (gK hx (y.news (n7 (Bv m))))))<|af 2 aw (JU H m) rfl
noncomputable def TG:Code:=cw [1,0,1,0,0] (cx Tryz.f87)
theorem SL (x:bh) (X:Z) (hx:aa E G X) (a:e9 X x) (hz:jX x) (R:Bool):∀(m:Nat) (b5:Int) (H:Z),aa E X H→(x0:0≤b5)→(hR:mj (x.ns.drop b5.toNat)=R)→((x.f.nn:Int)-b5).toNat=m→
  bV E X 19 TG [(0,.slice x.f.aX x.f.nn x.f.bo),(1,bS 77),(7,M (x.f.nn:Int)),(8,M b5)] H [] (fun fB T H'=>(fB=(.exit 0)∧T=aP []∧(R=false))∨(fB=.ret∧∃(z4:Int),T=aP [(4,M z4)]∧((R=true)∧(0≤z4)))):=by
 refine dJ fun m ih=>?_
 intro b5 H y x0 hR hm
 have bd:=a.fO
 refine cN y ?_
 refine aD 0 (b5<(x.f.nn:Int)) ?_ ?_ <;> intro h1 q1
 ·obtain ⟨d1,j0,t1,fb,dT⟩:=a.rn.open J
  have fH:=hx.wf.lt dT
  obtain ⟨aC,m2⟩:=a.Fl (i:=b5.toNat) J
  obtain ⟨_,H1,c1,ak,y1,bE⟩:=eL (abJ aC X hx y (hz.ns aC (nv m2)))
  refine gY 5 H (hI Dq nC fb J J:gk E 24 (.slice x.f.aX x.f.nn x.f.bo) (M b5)=some (pt d1 (0+b5.toNat*1)))<|Y 0 (CU bA (y.cell dT fH) m2 J:al E 9 d1 (0+b5.toNat*1) H=some (.string aC))<|?_
  rcases bE with ⟨rfl,b7⟩ |⟨rfl,b7⟩
  ·exact ac 0 c1<|cF 2 [(4,M b5)] .ret H1 (.inr ⟨rfl,b5,rfl,⟨sK (F:=mj) (fun _ _=>rfl) m2 hR b7,J⟩⟩)
  exact ac 0 c1<|aH 0 (b5+1)<|du 1 [(0,.slice x.f.aX x.f.nn x.f.bo),(1,bS 77),(7,M (x.f.nn:Int)),(8,M (b5+1))] H1 (ih _ J (b5+1) _ y1 J (by rw [gp J];exact (sL (F:=mj) (fun _ _=>rfl) m2 hR b7)) rfl)
 exact cF 0 [] (.exit 0) H (.inl ⟨rfl,rfl,sJ (F:=mj) rfl hR (by have:=a.nn;omega)⟩)
theorem YR (x:bh) (X:Z) (hx:aa E G X) (a:e9 X x) (hz:jX x) {H:Z} (y:aa E X H):aV E X 87 [.slice x.f.aX x.f.nn x.f.bo,bS 77] H [] (fun v H'=>(∃ n:Int,v=M n∧0≤n∧mj x.ns=true)∨(v=M (-1)∧mj x.ns=false)):=by
 refine bB Tryz.f87 y ?_
 obtain ⟨_,_,H1,c1,ak,y1,bE⟩:=(SL x X hx a hz (mj x.ns) _ 0 _ y J rfl rfl).code
 rcases bE with ⟨rfl,rfl,aI⟩ |⟨rfl,fV,rfl,aI,gv⟩
 ·exact bx 4 c1<|af 1 (M (-1)) H1 (.inr ⟨rfl,aI⟩)
 exact bx 4 c1<|af 0 (M fV) H1 (.inl ⟨_,rfl,gv,aI⟩)
theorem NZ (x:bh) (X:Z) (hx:aa E G X) (a:e9 X x) (hz:jX x) {H:Z} (y:aa E X H):aV E X 76 [.slice x.f.aX x.f.nn x.f.bo,bS 77] H [] (fun v H'=>v=.bool (mj x.ns)):=by
 refine bB Tryz.f76 y ?_
 obtain ⟨_,H1,c1,ak,y1,bE⟩:=YR x X hx a hz y
 rcases bE with ⟨vj,rfl,pz,b7⟩ |⟨rfl,b7⟩
 ·exact ac 3 c1<|ay 0 (decide_eq_true J:(decide (vj≥0))=true)<|af 1 aw H1 (by rw [b7])
 exact ac 3 c1<|af 2 U H1 (by rw [b7])
noncomputable def TF:Code:=cw [1,0,1,0,0] (cx Tryz.f74)
theorem SK (x:bh) (X:Z) (hx:aa E G X) (a:e9 X x) (hz:jX x) (R:Bool):∀(m:Nat) (b5:Int) (H:Z),aa E X H→(x0:0≤b5)→(hR:mg (x.ms.drop b5.toNat)=R)→((x.f.nm:Int)-b5).toNat=m→
  bV E X 19 TF [(0,.slice x.f.pm x.f.nm x.f.br),(1,bS 58),(7,M (x.f.nm:Int)),(8,M b5)] H [] (fun fB T H'=>(fB=(.exit 0)∧T=aP []∧(R=false))∨(fB=.ret∧∃(z4:Int),T=aP [(4,M z4)]∧((R=true)∧(0≤z4)))):=by
 refine dJ fun m ih=>?_
 intro b5 H y x0 hR hm
 have bd:=a.bm
 refine cN y ?_
 refine aD 0 (b5<(x.f.nm:Int)) ?_ ?_ <;> intro h1 q1
 ·obtain ⟨d1,j0,t1,fb,dT⟩:=a.q4.open J
  have fH:=hx.wf.lt dT
  obtain ⟨aC,m2⟩:=a.CA (i:=b5.toNat) J
  obtain ⟨_,H1,c1,ak,y1,bE⟩:=eL (abk aC X hx y (hz.ms aC (nv m2)))
  refine gY 5 H (hI wK qr fb J J:gk E 23 (.slice x.f.pm x.f.nm x.f.br) (M b5)=some (pt d1 (0+b5.toNat*3)))<|Y 0 (Fj Bj qr (y.cell dT fH) m2 J:al E 40 d1 (0+b5.toNat*3) H=some (.agg #[M aC.1,.string aC.2.1,.string aC.2.2]))<|?_
  rcases bE with ⟨rfl,b7⟩ |⟨rfl,b7⟩
  ·exact ac 0 c1<|cF 2 [(4,M b5)] .ret H1 (.inr ⟨rfl,b5,rfl,⟨sK (F:=mg) (fun _ _=>rfl) m2 hR b7,J⟩⟩)
  exact ac 0 c1<|aH 0 (b5+1)<|du 1 [(0,.slice x.f.pm x.f.nm x.f.br),(1,bS 58),(7,M (x.f.nm:Int)),(8,M (b5+1))] H1 (ih _ J (b5+1) _ y1 J (by rw [gp J];exact (sL (F:=mg) (fun _ _=>rfl) m2 hR b7)) rfl)
 exact cF 0 [] (.exit 0) H (.inl ⟨rfl,rfl,sJ (F:=mg) rfl hR (by have:=a.nm;omega)⟩)
theorem YQ (x:bh) (X:Z) (hx:aa E G X) (a:e9 X x) (hz:jX x) {H:Z} (y:aa E X H):aV E X 74 [.slice x.f.pm x.f.nm x.f.br,bS 58] H [] (fun v H'=>(∃ n:Int,v=M n∧0≤n∧mg x.ms=true)∨(v=M (-1)∧mg x.ms=false)):=by
 refine bB Tryz.f74 y ?_
 obtain ⟨_,_,H1,c1,ak,y1,bE⟩:=(SK x X hx a hz (mg x.ms) _ 0 _ y J rfl rfl).code
 rcases bE with ⟨rfl,rfl,aI⟩ |⟨rfl,fV,rfl,aI,gv⟩
 ·exact bx 4 c1<|af 1 (M (-1)) H1 (.inr ⟨rfl,aI⟩)
 exact bx 4 c1<|af 0 (M fV) H1 (.inl ⟨_,rfl,gv,aI⟩)
theorem EF (x:bh) (X:Z) (hx:aa E G X) (a:e9 X x) (hz:jX x) {H:Z} (y:aa E X H):aV E X 57 [.slice x.f.pm x.f.nm x.f.br,bS 58] H [] (fun v H'=>v=.bool (mg x.ms)):=by
 refine bB Tryz.f57 y ?_
 obtain ⟨_,H1,c1,ak,y1,bE⟩:=YQ x X hx a hz y
 rcases bE with ⟨vj,rfl,pz,b7⟩ |⟨rfl,b7⟩
 ·exact ac 3 c1<|ay 0 (decide_eq_true J:(decide (vj≥0))=true)<|af 1 aw H1 (by rw [b7])
 exact ac 3 c1<|af 2 U H1 (by rw [b7])
noncomputable def qY (x:bh):Bool:=(Int.fdiv x.f.v (2 ^ 63)==0)&&((tG x.f.v==x.f.v)&&(x.f.v != 9218868437227405314))
noncomputable def AV (x:bh):Bool:=tq (1,⟨#[97]⟩,x.f.s)
noncomputable def iD (x:bh):Bool:=
 !((!(x.f.s.toList==(⟨#[]⟩:ByteArray).toList))&&!jC x.f.s)&&(!(decide (((x.f.nm:Nat):Int)>10))&&(!(decide (x.f.wide<0))&&(!(decide (x.f.wide>35184372088832))&&(!(decide (x.f.off<(-35184372088832)))&&(!(decide (x.f.off>35184372088832)) &&
  (!(Int.tmod x.f.at_ 1000 != 0)&&(!(decide (x.f.at_<(-1125899906842624)))&&(!(decide (x.f.at_>1125899906842624))&&(!(!x.f.ha&&(x.f.at_ != 0))&&!mg x.ms)))))))))
noncomputable def sP (x:bh):Bool:=jC x.f.s&&decide (((x.f.aj:Nat):Int)≤4)
noncomputable def qJ (x:bh):Bool:=hasB x.f.s (rd oB)&&(mh x&&decide (((x.f.aj:Nat):Int)≤4))
noncomputable def lS (x:bh):Bool:=decide (x.f.op≥1)&&(decide (x.f.op≤11)&&(mh x&&(((x.f.aj:Nat):Int)==2)))
def we (x:bh):Bool:=((x.f.aj:Nat):Int)==1
noncomputable def nj (x:bh):Bool:=
 bif x.f.k==1 then qY x else bif x.f.k==2 then AV x else bif x.f.k==3 then iD x else bif x.f.k==4 then sP x else bif x.f.k==5 then qJ x else bif x.f.k==6 then lS x else we x
noncomputable def gI (x:bh):Bool:=!(decide (x.f.k<1))&&(!(decide (x.f.k>7))&&(jV (hD x.f)&&nj x))
mutual
noncomputable def jH:bh→Bool
 |.mk f ms ns kids=>gI (.mk f ms ns kids)&&!kC kids
noncomputable def kC:List bh→Bool
 |[]=>false
 |x::xs=>!jH x||kC xs
end
theorem jI (x:bh):jH x=(gI x&&!kC x.kids):=by cases x;rw [jH];rfl
theorem Mv:kC []=false:=by rw [kC]
theorem Bp (x:bh) (l:List bh):kC (x::l)=(!jH x||kC l):=by rw [kC]
noncomputable abbrev dg H (x:bh):=news H [O (ai x.f) 68]
theorem Qk (x:bh) (X:Z) (hx:aa E G X) (a:e9 X x) (hz:jX x) {H:Z} (y:aa E X H):aV E X 61 [.agg (ai x.f).toArray] H [] (fun v H'=>v=.bool (mh x)):=by
 refine bB Tryz.f61 y ?_
 refine Y 4 (aQ (dg H x) 0 9 av)<|aD 0 (x.f.how<0) ?_ ?_ <;> intro h1 q1
 ·exact af 7 U (dg H x) (by rw [mh,h1] <;> rfl)
 refine Y 3 (aQ (dg H x) 0 9 av)<|aD 0 (x.f.how>2) ?_ ?_ <;> intro h2 cv
 ·exact af 6 U (dg H x) (by rw [mh,h1,h2] <;> rfl)
 refine Y 4 (aQ (dg H x) 0 9 av)<|aY 0 x.f.how 0 ?_ ?_ <;> intro h3 cY
 ·refine Y 3 (aQ (dg H x) 0 10 jz)<|aD 1 ((x.f.nn:Int)>0) ?_ ?_ <;> intro h4 cO
  ·exact af 5 U (dg H x) (by rw [mh,h1,h2,h3,h4] <;> rfl)
  refine Y 5 (aQ (dg H x) 0 10 jz)<|aD 1 ((x.f.nn:Int)>16) ?_ ?_ <;> intro h5 dc
  ·exact af 2 U (dg H x) (by rw [mh,h1,h2,h3,h4,h5] <;> rfl)
  obtain ⟨_,H1,c1,ak,y1,bE⟩:=eL (NZ x X hx a hz (y.news [O (ai x.f) 68]))
  refine Y 3 (aQ (dg H x) 0 10 jz)<|?_
  rcases bE with ⟨rfl,b7⟩ |⟨rfl,b7⟩
  ·exact ac 0 c1<|af 2 U H1 (by rw [mh,h1,h2,h3,h4,h5,b7] <;> rfl)
  exact ac 0 c1<|af 2 aw H1 (by rw [mh,h1,h2,h3,h4,h5,b7] <;> rfl)
 refine Y 6 (aQ (dg H x) 0 10 jz)<|aD 1 ((x.f.nn:Int)>16) ?_ ?_ <;> intro h4 cO
 ·exact af 2 U (dg H x) (by rw [mh,h1,h2,h3,h4] <;> rfl)
 obtain ⟨_,H1,c1,ak,y1,bE⟩:=eL (NZ x X hx a hz (y.news [O (ai x.f) 68]))
 refine Y 3 (aQ (dg H x) 0 10 jz)<|?_
 rcases bE with ⟨rfl,b7⟩ |⟨rfl,b7⟩
 ·exact ac 0 c1<|af 2 U H1 (by rw [mh,h1,h2,h3,h4,b7] <;> rfl)
 exact ac 0 c1<|af 2 aw H1 (by rw [mh,h1,h2,h3,h4,b7] <;> rfl)
theorem acG (x:bh) (X:Z) (hx:aa E G X) (a:e9 X x) (hz:jX x) {H:Z} (y:aa E X H):aV E X 32 [.agg (ai x.f).toArray] H [] (fun v H'=>v=.bool (qY x)):=by
 refine bB Tryz.f32 y ?_
 rcases df ((Int.fdiv x.f.v (2 ^ 63))==0) with h1 |h1
 ·rcases df ((tG x.f.v)==x.f.v) with h2 |h2
  ·rcases df (x.f.v != 9218868437227405314) with h3 |h3
   ·exact aE [am 1]<|Y 2 (aQ (dg H x) 0 2 kZ)<|ay 1 h1<|Y 3 (aQ (dg H x) 0 2 kZ)<|ac 0 (Lp x.f.v (gK hx (y.news [O (ai x.f) 68])))<|Y 2 (aQ (dg H x) 0 2 kZ)<|ay 0 h2<|Y 4 (aQ (dg H x) 0 2 kZ)<|ay 0 h3<|af 2 aw (dg H x) (by rw [qY,h1,h2,h3] <;> rfl)
   exact aE [am 1]<|Y 2 (aQ (dg H x) 0 2 kZ)<|ay 1 h1<|Y 3 (aQ (dg H x) 0 2 kZ)<|ac 0 (Lp x.f.v (gK hx (y.news [O (ai x.f) 68])))<|Y 2 (aQ (dg H x) 0 2 kZ)<|ay 0 h2<|Y 4 (aQ (dg H x) 0 2 kZ)<|ay 0 h3<|af 2 U (dg H x) (by rw [qY,h1,h2,h3] <;> rfl)
  exact aE [am 1]<|Y 2 (aQ (dg H x) 0 2 kZ)<|ay 1 h1<|Y 3 (aQ (dg H x) 0 2 kZ)<|ac 0 (Lp x.f.v (gK hx (y.news [O (ai x.f) 68])))<|Y 2 (aQ (dg H x) 0 2 kZ)<|ay 0 h2<|af 4 U (dg H x) (by rw [qY,h1,h2] <;> rfl)
 exact aE [am 1]<|Y 2 (aQ (dg H x) 0 2 kZ)<|ay 1 h1<|af 5 U (dg H x) (by rw [qY,h1] <;> rfl)
theorem acJ (x:bh) (X:Z) (hx:aa E G X) (a:e9 X x) (hz:jX x) {H:Z} (y:aa E X H):aV E X 33 [.agg (ai x.f).toArray] H [] (fun v H'=>v=.bool (AV x)):=by
 refine bB Tryz.f33 y ?_
 refine Y 4 (aQ (dg H x) 0 3 bA)<|?_
 cases h1:(tq (1,⟨#[97]⟩,x.f.s)) with
 |true=>
  exact ac 1 (cP h1 (Fe (1,⟨#[97]⟩,x.f.s) (show ((1:Nat):Int)<100000 by decide) (gK hx (y.news [O (ai x.f) 68]))))<|af 1 aw (dg H x) (by rw [AV,h1] <;> rfl)
 |false=>
  exact ac 1 (cP h1 (Fe (1,⟨#[97]⟩,x.f.s) (show ((1:Nat):Int)<100000 by decide) (gK hx (y.news [O (ai x.f) 68]))))<|af 1 U (dg H x) (by rw [AV,h1] <;> rfl)
theorem acI (x:bh) (X:Z) (hx:aa E G X) (a:e9 X x) (hz:jX x) {H:Z} (y:aa E X H):aV E X 34 [.agg (ai x.f).toArray] H [] (fun v H'=>v=.bool (iD x)):=by
 refine bB Tryz.f34 y ?_
 refine Y 4 (aQ (dg H x) 0 3 bA)<|d5 0 (!(x.f.s.toList==(⟨#[]⟩:ByteArray).toList)) (fun h1=>?_) fun h1=>?_
 ·refine Y 3 (aQ (dg H x) 0 3 bA)<|?_
  cases h2:(jC x.f.s) with
  |true=>
   refine ac 0 (cP h2 (Er x.f.s (gK hx (y.news [O (ai x.f) 68]))))<|Y 5 (aQ (dg H x) 0 4 k3)<|aD 1 ((x.f.nm:Int)>10) ?_ ?_ <;> intro h3 cY
   ·exact af 10 U (dg H x) (by rw [iD,h1,h2,h3] <;> rfl)
   refine Y 4 (aQ (dg H x) 0 5 fQ)<|aD 0 (x.f.wide<0) ?_ ?_ <;> intro h4 cO
   ·exact af 8 U (dg H x) (by rw [iD,h1,h2,h3,h4] <;> rfl)
   refine Y 4 (aQ (dg H x) 0 5 fQ)<|aD 0 (x.f.wide>35184372088832) ?_ ?_ <;> intro h5 dc
   ·exact af 6 U (dg H x) (by rw [iD,h1,h2,h3,h4,h5] <;> rfl)
   refine Y 4 (aQ (dg H x) 0 6 fQ)<|aD 0 (x.f.off<(-35184372088832)) ?_ ?_ <;> intro h6 di
   ·exact af 4 U (dg H x) (by rw [iD,h1,h2,h3,h4,h5,h6] <;> rfl)
   refine Y 4 (aQ (dg H x) 0 6 fQ)<|aD 0 (x.f.off>35184372088832) ?_ ?_ <;> intro h7 gM
   ·exact af 2 U (dg H x) (by rw [iD,h1,h2,h3,h4,h5,h6,h7] <;> rfl)
   refine Y 3 (aQ (dg H x) 0 8 fQ)<|d7 1 (Int.tmod x.f.at_ 1000) 0 ?_ ?_ <;> intro h8 lT
   ·exact af 7 U (dg H x) (by rw [iD,h1,h2,h3,h4,h5,h6,h7,h8] <;> rfl)
   refine Y 3 (aQ (dg H x) 0 8 fQ)<|aD 0 (x.f.at_<(-1125899906842624)) ?_ ?_ <;> intro h9 oQ
   ·exact af 6 U (dg H x) (by rw [iD,h1,h2,h3,h4,h5,h6,h7,h8,h9] <;> rfl)
   refine Y 4 (aQ (dg H x) 0 8 fQ)<|aD 0 (x.f.at_>1125899906842624) ?_ ?_ <;> intro h10 oP
   ·exact af 4 U (dg H x) (by rw [iD,h1,h2,h3,h4,h5,h6,h7,h8,h9,h10] <;> rfl)
   refine aE [am 3]<|?_
   rcases df x.f.ha with h11 |h11
   ·obtain ⟨_,H1,c1,ak,y1,bE⟩:=eL (EF x X hx a hz (y.news [O (ai x.f) 68]))
    refine az [bw aw (dg H x)] ((aQ (dg H x) 0 7 fK).trans (congrArg (fun q=>some (Value.bool q)) h11))<|Y 6 (aQ (dg H x) 0 4 k3)<|?_
    rcases bE with ⟨rfl,b7⟩ |⟨rfl,b7⟩
    ·exact ac 0 c1<|af 2 U H1 (by rw [iD,h1,h2,h3,h4,h5,h6,h7,h8,h9,h10,h11,b7] <;> rfl)
    exact ac 0 c1<|af 2 aw H1 (by rw [iD,h1,h2,h3,h4,h5,h6,h7,h8,h9,h10,h11,b7] <;> rfl)
   refine az [bw U (dg H x)] ((aQ (dg H x) 0 7 fK).trans (congrArg (fun q=>some (Value.bool q)) h11))<|Y 4 (aQ (dg H x) 0 8 fQ)<|d7 0 x.f.at_ 0 ?_ ?_ <;> intro h12 ql
   ·exact af 3 U (dg H x) (by rw [iD,h1,h2,h3,h4,h5,h6,h7,h8,h9,h10,h11,h12] <;> rfl)
   obtain ⟨_,H1,c1,ak,y1,bE⟩:=eL (EF x X hx a hz (y.news [O (ai x.f) 68]))
   refine Y 4 (aQ (dg H x) 0 4 k3)<|?_
   rcases bE with ⟨rfl,b7⟩ |⟨rfl,b7⟩
   ·exact ac 0 c1<|af 2 U H1 (by rw [iD,h1,h2,h3,h4,h5,h6,h7,h8,h9,h10,h11,h12,b7] <;> rfl)
   exact ac 0 c1<|af 2 aw H1 (by rw [iD,h1,h2,h3,h4,h5,h6,h7,h8,h9,h10,h11,h12,b7] <;> rfl)
  |false=>
   exact ac 0 (cP h2 (Er x.f.s (gK hx (y.news [O (ai x.f) 68]))))<|af 13 U (dg H x) (by rw [iD,h1,h2] <;> rfl)
 refine Y 5 (aQ (dg H x) 0 4 k3)<|aD 1 ((x.f.nm:Int)>10) ?_ ?_ <;> intro h2 cv
 ·exact af 10 U (dg H x) (by rw [iD,h1,h2] <;> rfl)
 refine Y 4 (aQ (dg H x) 0 5 fQ)<|aD 0 (x.f.wide<0) ?_ ?_ <;> intro h3 cY
 ·exact af 8 U (dg H x) (by rw [iD,h1,h2,h3] <;> rfl)
 refine Y 4 (aQ (dg H x) 0 5 fQ)<|aD 0 (x.f.wide>35184372088832) ?_ ?_ <;> intro h4 cO
 ·exact af 6 U (dg H x) (by rw [iD,h1,h2,h3,h4] <;> rfl)
 refine Y 4 (aQ (dg H x) 0 6 fQ)<|aD 0 (x.f.off<(-35184372088832)) ?_ ?_ <;> intro h5 dc
 ·exact af 4 U (dg H x) (by rw [iD,h1,h2,h3,h4,h5] <;> rfl)
 refine Y 4 (aQ (dg H x) 0 6 fQ)<|aD 0 (x.f.off>35184372088832) ?_ ?_ <;> intro h6 di
 ·exact af 2 U (dg H x) (by rw [iD,h1,h2,h3,h4,h5,h6] <;> rfl)
 refine Y 3 (aQ (dg H x) 0 8 fQ)<|d7 1 (Int.tmod x.f.at_ 1000) 0 ?_ ?_ <;> intro h7 gM
 ·exact af 7 U (dg H x) (by rw [iD,h1,h2,h3,h4,h5,h6,h7] <;> rfl)
 refine Y 3 (aQ (dg H x) 0 8 fQ)<|aD 0 (x.f.at_<(-1125899906842624)) ?_ ?_ <;> intro h8 lT
 ·exact af 6 U (dg H x) (by rw [iD,h1,h2,h3,h4,h5,h6,h7,h8] <;> rfl)
 refine Y 4 (aQ (dg H x) 0 8 fQ)<|aD 0 (x.f.at_>1125899906842624) ?_ ?_ <;> intro h9 oQ
 ·exact af 4 U (dg H x) (by rw [iD,h1,h2,h3,h4,h5,h6,h7,h8,h9] <;> rfl)
 refine aE [am 3]<|?_
 rcases df x.f.ha with h10 |h10
 ·obtain ⟨_,H1,c1,ak,y1,bE⟩:=eL (EF x X hx a hz (y.news [O (ai x.f) 68]))
  refine az [bw aw (dg H x)] ((aQ (dg H x) 0 7 fK).trans (congrArg (fun q=>some (Value.bool q)) h10))<|Y 6 (aQ (dg H x) 0 4 k3)<|?_
  rcases bE with ⟨rfl,b7⟩ |⟨rfl,b7⟩
  ·exact ac 0 c1<|af 2 U H1 (by rw [iD,h1,h2,h3,h4,h5,h6,h7,h8,h9,h10,b7] <;> rfl)
  exact ac 0 c1<|af 2 aw H1 (by rw [iD,h1,h2,h3,h4,h5,h6,h7,h8,h9,h10,b7] <;> rfl)
 refine az [bw U (dg H x)] ((aQ (dg H x) 0 7 fK).trans (congrArg (fun q=>some (Value.bool q)) h10))<|Y 4 (aQ (dg H x) 0 8 fQ)<|d7 0 x.f.at_ 0 ?_ ?_ <;> intro h11 ym
 ·exact af 3 U (dg H x) (by rw [iD,h1,h2,h3,h4,h5,h6,h7,h8,h9,h10,h11] <;> rfl)
 obtain ⟨_,H1,c1,ak,y1,bE⟩:=eL (EF x X hx a hz (y.news [O (ai x.f) 68]))
 refine Y 4 (aQ (dg H x) 0 4 k3)<|?_
 rcases bE with ⟨rfl,b7⟩ |⟨rfl,b7⟩
 ·exact ac 0 c1<|af 2 U H1 (by rw [iD,h1,h2,h3,h4,h5,h6,h7,h8,h9,h10,h11,b7] <;> rfl)
 exact ac 0 c1<|af 2 aw H1 (by rw [iD,h1,h2,h3,h4,h5,h6,h7,h8,h9,h10,h11,b7] <;> rfl)
theorem acD (x:bh) (X:Z) (hx:aa E G X) (a:e9 X x) (hz:jX x) {H:Z} (y:aa E X H):aV E X 35 [.agg (ai x.f).toArray] H [] (fun v H'=>v=.bool (sP x)):=by
 refine bB Tryz.f35 y ?_
 refine Y 4 (aQ (dg H x) 0 3 bA)<|?_
 cases h1:(jC x.f.s) with
 |true=>
  refine ac 0 (cP h1 (Er x.f.s (gK hx (y.news [O (ai x.f) 68]))))<|Y 3 (aQ (dg H x) 0 12 ef)<|aD 1 ((x.f.aj:Int)≤4) ?_ ?_ <;> intro h2 cv
  ·exact af 2 aw (dg H x) (by rw [sP,h1,h2] <;> rfl)
  exact af 2 U (dg H x) (by rw [sP,h1,h2] <;> rfl)
 |false=>
  exact ac 0 (cP h1 (Er x.f.s (gK hx (y.news [O (ai x.f) 68]))))<|af 3 U (dg H x) (by rw [sP,h1] <;> rfl)
theorem acE (x:bh) (X:Z) (hx:aa E G X) (a:e9 X x) (hz:jX x) {H:Z} (y:aa E X H):aV E X 36 [.agg (ai x.f).toArray] H [] (fun v H'=>v=.bool (qJ x)):=by
 refine bB Tryz.f36 y ?_
 obtain ⟨_,H1,c1,ak,y1,eJ,rfl,Iv,x4⟩:=pF (y.news [O (ai x.f) 68]) (NP (gK hx (y.news [O (ai x.f) 68])))
 have aS:=(y.news [O (ai x.f) 68]).kept ak aq (aR [O (ai x.f) 68] H 0 _ rfl)
 obtain ⟨_,H2,c2,aF,ar,cX⟩:=eL (pF y1 (Ic eJ (rd oB) 15 x.f.s (gK hx y1) x4 (by decide)))
 rcases cX with ⟨rfl,bj⟩ |⟨rfl,bj⟩
 ·have ca:=y1.kept aF aq aS
  obtain ⟨_,H3,c3,bq,aM,fq⟩:=eL (Qk x X hx a hz ar)
  rcases fq with ⟨rfl,ec⟩ |⟨rfl,ec⟩
  ·have fL:=ar.kept bq aq ca
   rcases df (decide ((x.f.aj:Int)≤4)) with h3 |h3
   ·exact ac 2 c1<|Y 2 (ag 3 bA aS)<|ac 0 c2<|Y 1 (cd ir fN ca rfl rfl:al E 68 (H.n+0) 0 H2=some (.agg (ai x.f).toArray))<|ac 0 c3<|Y 4 (ag 12 ef fL)<|ay 1 h3<|af 2 aw H3 (by rw [qJ,bj,ec,h3] <;> rfl)
   exact ac 2 c1<|Y 2 (ag 3 bA aS)<|ac 0 c2<|Y 1 (cd ir fN ca rfl rfl:al E 68 (H.n+0) 0 H2=some (.agg (ai x.f).toArray))<|ac 0 c3<|Y 4 (ag 12 ef fL)<|ay 1 h3<|af 2 U H3 (by rw [qJ,bj,ec,h3] <;> rfl)
  exact ac 2 c1<|Y 2 (ag 3 bA aS)<|ac 0 c2<|Y 1 (cd ir fN ca rfl rfl:al E 68 (H.n+0) 0 H2=some (.agg (ai x.f).toArray))<|ac 0 c3<|af 4 U H3 (by rw [qJ,bj,ec] <;> rfl)
 exact ac 2 c1<|Y 2 (ag 3 bA aS)<|ac 0 c2<|af 5 U H2 (by rw [qJ,bj] <;> rfl)
theorem acH (x:bh) (X:Z) (hx:aa E G X) (a:e9 X x) (hz:jX x) {H:Z} (y:aa E X H):aV E X 37 [.agg (ai x.f).toArray] H [] (fun v H'=>v=.bool (lS x)):=by
 refine bB Tryz.f37 y ?_
 refine Y 4 (aQ (dg H x) 0 1 av)<|aD 0 (x.f.op≥1) ?_ ?_ <;> intro h1 q1
 ·refine Y 3 (aQ (dg H x) 0 1 av)<|aD 0 (x.f.op≤11) ?_ ?_ <;> intro h2 cv
  ·obtain ⟨_,H1,c1,ak,y1,bE⟩:=eL (Qk x X hx a hz (y.news [O (ai x.f) 68]))
   refine Y 2 (dt ir fN rfl rfl rfl:al E 68 (H.n+0) 0 (dg H x)=some (.agg (ai x.f).toArray))<|?_
   rcases bE with ⟨rfl,b7⟩ |⟨rfl,b7⟩
   ·have aS:=(y.news [O (ai x.f) 68]).kept ak aq (aR [O (ai x.f) 68] H 0 _ rfl)
    refine ac 0 c1<|Y 4 (ag 12 ef aS)<|aY 1 (x.f.aj:Int) 2 ?_ ?_ <;> intro h4 cO
    ·exact af 2 aw H1 (by rw [lS,h1,h2,b7,h4] <;> rfl)
    exact af 2 U H1 (by rw [lS,h1,h2,b7,h4] <;> rfl)
   exact ac 0 c1<|af 4 U H1 (by rw [lS,h1,h2,b7] <;> rfl)
  exact af 6 U (dg H x) (by rw [lS,h1,h2] <;> rfl)
 exact af 7 U (dg H x) (by rw [lS,h1] <;> rfl)
theorem acF (x:bh) (X:Z) (hx:aa E G X) (a:e9 X x) (hz:jX x) {H:Z} (y:aa E X H):aV E X 38 [.agg (ai x.f).toArray] H [] (fun v H'=>v=.bool (we x)):=by
 refine bB Tryz.f38 y ?_
 refine Y 4 (aQ (dg H x) 0 12 ef)<|aY 1 (x.f.aj:Int) 1 ?_ ?_ <;> intro h1 q1
 ·exact af 1 aw (dg H x) (by rw [we,h1] <;> rfl)
 exact af 1 U (dg H x) (by rw [we,h1] <;> rfl)
noncomputable abbrev sT (f:dR):=([M f.k,M f.op,ap 0,.string f.s,.slice f.pm f.nm f.br,M f.wide,M f.off,.bool f.ha,M f.at_,M f.how,.slice f.aX f.nn f.bo,.bool f.d8,.slice f.pk f.aj f.ax]:List Value)
noncomputable abbrev JV H (f:dR):=news H [O (ai f) 68,O (sT f) 27,O (sT f) 27]
noncomputable abbrev nV (f:dR):=([M f.k,M f.op,ap f.v,.string ⟨#[]⟩,.slice f.pm f.nm f.br,M f.wide,M f.off,.bool f.ha,M f.at_,M f.how,.slice f.aX f.nn f.bo,.bool f.d8,.slice f.pk f.aj f.ax]:List Value)
noncomputable abbrev JW H (f:dR):=news H [O (ai f) 68,O (nV f) 27,O (nV f) 27]
noncomputable abbrev sU (f:dR):=([M f.k,M f.op,ap f.v,.string ⟨#[]⟩,.slice f.pm f.nm f.br,M f.wide,M f.off,.bool f.ha,M f.at_,M f.how,.slice f.aX f.nn f.bo,.bool f.d8,.slice none 0 0]:List Value)
noncomputable abbrev JX H (f:dR):=news H [O (ai f) 68,O (sU f) 27,O (sU f) 27]
noncomputable abbrev sV (f:dR):=([M f.k,M f.op,ap f.v,.string ⟨#[]⟩,.slice f.pm f.nm f.br,M f.wide,M f.off,.bool f.ha,M f.at_,M 0,.slice none 0 0,.bool f.d8,.slice none 0 0]:List Value)
noncomputable abbrev JY H (f:dR):=news H [O (ai f) 68,O (sV f) 27,O (sV f) 27]
noncomputable abbrev sW (f:dR):=([M f.k,M f.op,ap f.v,.string f.s,.slice f.pm f.nm f.br,M f.wide,M f.off,.bool f.ha,M f.at_,M f.how,.slice f.aX f.nn f.bo,.bool f.d8,.slice none 0 0]:List Value)
noncomputable abbrev JZ H (f:dR):=news H [O (ai f) 68,O (sW f) 27,O (sW f) 27]
noncomputable abbrev J0 H f:=news H [O (ai f) 68,O (ai f) 27,O (ai f) 27]
noncomputable abbrev dS U:=([M 0,M 0,ap 0,.string ⟨#[]⟩,.slice none 0 0,M 0,M 0,U,M 0,M 0,.slice none 0 0,U,.slice none 0 0]:List Value)
noncomputable abbrev Nh (f:dR):=([M f.k,M f.op,ap f.v,.string ⟨#[]⟩,.slice none 0 0,M f.wide,M f.off,.bool f.ha,M f.at_,M f.how,.slice f.aX f.nn f.bo,.bool f.d8,.slice f.pk f.aj f.ax]:List Value)
noncomputable abbrev Ni (f:dR):=([M f.k,M f.op,ap f.v,.string ⟨#[]⟩,.slice none 0 0,M 0,M f.off,.bool f.ha,M f.at_,M f.how,.slice f.aX f.nn f.bo,.bool f.d8,.slice f.pk f.aj f.ax]:List Value)
noncomputable abbrev Nj (f:dR):=([M f.k,M f.op,ap f.v,.string ⟨#[]⟩,.slice none 0 0,M 0,M 0,.bool f.ha,M f.at_,M f.how,.slice f.aX f.nn f.bo,.bool f.d8,.slice f.pk f.aj f.ax]:List Value)
noncomputable abbrev Nk (f:dR) U:=([M f.k,M f.op,ap f.v,.string ⟨#[]⟩,.slice none 0 0,M 0,M 0,U,M f.at_,M f.how,.slice f.aX f.nn f.bo,.bool f.d8,.slice f.pk f.aj f.ax]:List Value)
noncomputable abbrev pg (f:dR) U:=([M f.k,M f.op,ap f.v,.string ⟨#[]⟩,.slice none 0 0,M 0,M 0,U,M 0,M f.how,.slice f.aX f.nn f.bo,.bool f.d8,.slice f.pk f.aj f.ax]:List Value)
noncomputable abbrev Na (f:dR):=([M f.k,M f.op,ap f.v,.string ⟨#[]⟩,.slice f.pm f.nm f.br,M f.wide,M f.off,.bool f.ha,M f.at_,M 0,.slice f.aX f.nn f.bo,.bool f.d8,.slice f.pk f.aj f.ax]:List Value)
noncomputable abbrev Nb (f:dR):=([M f.k,M f.op,ap f.v,.string ⟨#[]⟩,.slice f.pm f.nm f.br,M f.wide,M f.off,.bool f.ha,M f.at_,M 0,.slice none 0 0,.bool f.d8,.slice f.pk f.aj f.ax]:List Value)
noncomputable abbrev Nc (f:dR):=([M f.k,M 0,ap f.v,.string f.s,.slice f.pm f.nm f.br,M f.wide,M f.off,.bool f.ha,M f.at_,M f.how,.slice f.aX f.nn f.bo,.bool f.d8,.slice f.pk f.aj f.ax]:List Value)
noncomputable abbrev Nd (f:dR) U:=([M f.k,M 0,ap f.v,.string f.s,.slice f.pm f.nm f.br,M f.wide,M f.off,.bool f.ha,M f.at_,M f.how,.slice f.aX f.nn f.bo,U,.slice f.pk f.aj f.ax]:List Value)
noncomputable abbrev Nf (f:dR) U:=([M f.k,M 0,ap f.v,.string f.s,.slice f.pm f.nm f.br,M f.wide,M f.off,.bool f.ha,M f.at_,M 0,.slice f.aX f.nn f.bo,U,.slice f.pk f.aj f.ax]:List Value)
noncomputable abbrev Ng (f:dR) U:=([M f.k,M 0,ap f.v,.string f.s,.slice f.pm f.nm f.br,M f.wide,M f.off,.bool f.ha,M f.at_,M 0,.slice none 0 0,U,.slice f.pk f.aj f.ax]:List Value)
noncomputable abbrev ph (f:dR) U:=([M f.k,M 0,ap f.v,.string f.s,.slice f.pm f.nm f.br,M f.wide,M f.off,.bool f.ha,M f.at_,M 0,.slice none 0 0,U,.slice none 0 0]:List Value)
theorem acC (f:dR) (X:Z) (hx:aa E G X) {H:Z} (y:aa E X H):aV E X 62 [.agg (ai f).toArray] H [] (fun v H'=>v=.agg (ai (hD f)).toArray):=by
 refine bB Tryz.f62 y ?_
 refine Y 3 (dt c4 ct rfl rfl rfl:al E 27 (H.n+0) 0 (news H [O (ai f) 68,O (dS U) 27])=some (.agg (ai f).toArray))<|aB 1 (bG ct rfl rfl rfl rfl:bu E 27 (H.n+2) 0 (.agg (ai f).toArray) (news H [O (ai f) 68,O (dS U) 27,O (dS U) 27])=some (news H [O (ai f) 68,O (dS U) 27,O (ai f) 27]))<|Y 1 (aQ (news H [O (ai f) 68,O (dS U) 27,O (ai f) 27]) 2 0 av)<|aY 0 f.k 1 ?_ ?_ <;> intro h1 q1
 ·exact aB 2 (bG Dm rfl rfl rfl rfl:bu E 22 (H.n+2) 2 (ap 0) (news H [O (ai f) 68,O (dS U) 27,O (ai f) 27])=some (news H [O (ai f) 68,O (dS U) 27,O (sT f) 27]))<|Y 0 (dt c4 ct rfl rfl rfl:al E 27 (H.n+2) 0 (news H [O (ai f) 68,O (dS U) 27,O (sT f) 27])=some (.agg (sT f).toArray))<|aB 0 (bG ct rfl rfl rfl rfl:bu E 27 (H.n+1) 0 (.agg (sT f).toArray) (news H [O (ai f) 68,O (dS U) 27,O (sT f) 27])=some (JV H f))<|az [] ((dt c4 ct rfl rfl rfl):al E 27 (H.n+1) 0 (JV H f)=some (.agg (sT f).toArray))<|fI 0 [.agg (sT f).toArray] (.agg (sT f).toArray) (JV H f) [H.n+2,H.n+2,H.n+1] aJ aL (by rw [hD,h1] <;> rfl)
 refine aY 1 f.k 2 ?_ ?_ <;> intro h2 cv
 ·exact aB 2 (bG nC rfl rfl rfl rfl:bu E 9 (H.n+2) 3 (.string ⟨#[]⟩) (news H [O (ai f) 68,O (dS U) 27,O (ai f) 27])=some (news H [O (ai f) 68,O (dS U) 27,O (nV f) 27]))<|Y 0 (dt c4 ct rfl rfl rfl:al E 27 (H.n+2) 0 (news H [O (ai f) 68,O (dS U) 27,O (nV f) 27])=some (.agg (nV f).toArray))<|aB 0 (bG ct rfl rfl rfl rfl:bu E 27 (H.n+1) 0 (.agg (nV f).toArray) (news H [O (ai f) 68,O (dS U) 27,O (nV f) 27])=some (JW H f))<|az [] ((dt c4 ct rfl rfl rfl):al E 27 (H.n+1) 0 (JW H f)=some (.agg (nV f).toArray))<|fI 0 [.agg (nV f).toArray] (.agg (nV f).toArray) (JW H f) [H.n+2,H.n+2,H.n+1] aJ aL (by rw [hD,h1,h2] <;> rfl)
 refine aY 1 f.k 3 ?_ ?_ <;> intro h3 cY
 ·exact aB 2 (bG nC rfl rfl rfl rfl:bu E 9 (H.n+2) 3 (.string ⟨#[]⟩) (news H [O (ai f) 68,O (dS U) 27,O (ai f) 27])=some (news H [O (ai f) 68,O (dS U) 27,O (nV f) 27]))<|aB 1 (bG afr rfl rfl rfl rfl:bu E 23 (H.n+2) 4 (.slice none 0 0) (news H [O (ai f) 68,O (dS U) 27,O (nV f) 27])=some (news H [O (ai f) 68,O (dS U) 27,O (Nh f) 27]))<|aB 1 (bG Lh rfl rfl rfl rfl:bu E 2 (H.n+2) 5 (M 0) (news H [O (ai f) 68,O (dS U) 27,O (Nh f) 27])=some (news H [O (ai f) 68,O (dS U) 27,O (Ni f) 27]))<|aB 1 (bG Lh rfl rfl rfl rfl:bu E 2 (H.n+2) 6 (M 0) (news H [O (ai f) 68,O (dS U) 27,O (Ni f) 27])=some (news H [O (ai f) 68,O (dS U) 27,O (Nj f) 27]))<|aB 1 (bG si rfl rfl rfl rfl:bu E 4 (H.n+2) 7 U (news H [O (ai f) 68,O (dS U) 27,O (Nj f) 27])=some (news H [O (ai f) 68,O (dS U) 27,O (Nk f U) 27]))<|aB 1 (bG Lh rfl rfl rfl rfl:bu E 2 (H.n+2) 8 (M 0) (news H [O (ai f) 68,O (dS U) 27,O (Nk f U) 27])=some (news H [O (ai f) 68,O (dS U) 27,O (pg f U) 27]))<|Y 0 (dt c4 ct rfl rfl rfl:al E 27 (H.n+2) 0 (news H [O (ai f) 68,O (dS U) 27,O (pg f U) 27])=some (.agg (pg f U).toArray))<|aB 0 (bG ct rfl rfl rfl rfl:bu E 27 (H.n+1) 0 (.agg (pg f U).toArray) (news H [O (ai f) 68,O (dS U) 27,O (pg f U) 27])=some (news H [O (ai f) 68,O (pg f U) 27,O (pg f U) 27]))<|az [] ((dt c4 ct rfl rfl rfl):al E 27 (H.n+1) 0 (news H [O (ai f) 68,O (pg f U) 27,O (pg f U) 27])=some (.agg (pg f U).toArray))<|fI 0 [.agg (pg f U).toArray] (.agg (pg f U).toArray) (news H [O (ai f) 68,O (pg f U) 27,O (pg f U) 27]) [H.n+2,H.n+2,H.n+2,H.n+2,H.n+2,H.n+2,H.n+2,H.n+1] aJ aL (by rw [hD,h1,h2,h3] <;> rfl)
 refine aY 1 f.k 4 ?_ ?_ <;> intro h4 cO
 ·exact aB 2 (bG nC rfl rfl rfl rfl:bu E 9 (H.n+2) 3 (.string ⟨#[]⟩) (news H [O (ai f) 68,O (dS U) 27,O (ai f) 27])=some (news H [O (ai f) 68,O (dS U) 27,O (nV f) 27]))<|aB 1 (bG qq rfl rfl rfl rfl:bu E 25 (H.n+2) 12 (.slice none 0 0) (news H [O (ai f) 68,O (dS U) 27,O (nV f) 27])=some (news H [O (ai f) 68,O (dS U) 27,O (sU f) 27]))<|Y 0 (dt c4 ct rfl rfl rfl:al E 27 (H.n+2) 0 (news H [O (ai f) 68,O (dS U) 27,O (sU f) 27])=some (.agg (sU f).toArray))<|aB 0 (bG ct rfl rfl rfl rfl:bu E 27 (H.n+1) 0 (.agg (sU f).toArray) (news H [O (ai f) 68,O (dS U) 27,O (sU f) 27])=some (JX H f))<|az [] ((dt c4 ct rfl rfl rfl):al E 27 (H.n+1) 0 (JX H f)=some (.agg (sU f).toArray))<|fI 0 [.agg (sU f).toArray] (.agg (sU f).toArray) (JX H f) [H.n+2,H.n+2,H.n+2,H.n+1] aJ aL (by rw [hD,h1,h2,h3,h4] <;> rfl)
 refine aY 1 f.k 5 ?_ ?_ <;> intro h5 dc
 ·exact aB 2 (bG nC rfl rfl rfl rfl:bu E 9 (H.n+2) 3 (.string ⟨#[]⟩) (news H [O (ai f) 68,O (dS U) 27,O (ai f) 27])=some (news H [O (ai f) 68,O (dS U) 27,O (nV f) 27]))<|aB 1 (bG dK rfl rfl rfl rfl:bu E 3 (H.n+2) 9 (M 0) (news H [O (ai f) 68,O (dS U) 27,O (nV f) 27])=some (news H [O (ai f) 68,O (dS U) 27,O (Na f) 27]))<|aB 1 (bG ve rfl rfl rfl rfl:bu E 24 (H.n+2) 10 (.slice none 0 0) (news H [O (ai f) 68,O (dS U) 27,O (Na f) 27])=some (news H [O (ai f) 68,O (dS U) 27,O (Nb f) 27]))<|aB 1 (bG qq rfl rfl rfl rfl:bu E 25 (H.n+2) 12 (.slice none 0 0) (news H [O (ai f) 68,O (dS U) 27,O (Nb f) 27])=some (news H [O (ai f) 68,O (dS U) 27,O (sV f) 27]))<|Y 0 (dt c4 ct rfl rfl rfl:al E 27 (H.n+2) 0 (news H [O (ai f) 68,O (dS U) 27,O (sV f) 27])=some (.agg (sV f).toArray))<|aB 0 (bG ct rfl rfl rfl rfl:bu E 27 (H.n+1) 0 (.agg (sV f).toArray) (news H [O (ai f) 68,O (dS U) 27,O (sV f) 27])=some (JY H f))<|az [] ((dt c4 ct rfl rfl rfl):al E 27 (H.n+1) 0 (JY H f)=some (.agg (sV f).toArray))<|fI 0 [.agg (sV f).toArray] (.agg (sV f).toArray) (JY H f) [H.n+2,H.n+2,H.n+2,H.n+2,H.n+2,H.n+1] aJ aL (by rw [hD,h1,h2,h3,h4,h5] <;> rfl)
 refine aY 1 f.k 6 ?_ ?_ <;> intro h6 di
 ·exact aB 2 (bG dK rfl rfl rfl rfl:bu E 3 (H.n+2) 1 (M 0) (news H [O (ai f) 68,O (dS U) 27,O (ai f) 27])=some (news H [O (ai f) 68,O (dS U) 27,O (Nc f) 27]))<|aB 1 (bG si rfl rfl rfl rfl:bu E 4 (H.n+2) 11 U (news H [O (ai f) 68,O (dS U) 27,O (Nc f) 27])=some (news H [O (ai f) 68,O (dS U) 27,O (Nd f U) 27]))<|aB 1 (bG dK rfl rfl rfl rfl:bu E 3 (H.n+2) 9 (M 0) (news H [O (ai f) 68,O (dS U) 27,O (Nd f U) 27])=some (news H [O (ai f) 68,O (dS U) 27,O (Nf f U) 27]))<|aB 1 (bG ve rfl rfl rfl rfl:bu E 24 (H.n+2) 10 (.slice none 0 0) (news H [O (ai f) 68,O (dS U) 27,O (Nf f U) 27])=some (news H [O (ai f) 68,O (dS U) 27,O (Ng f U) 27]))<|aB 1 (bG qq rfl rfl rfl rfl:bu E 25 (H.n+2) 12 (.slice none 0 0) (news H [O (ai f) 68,O (dS U) 27,O (Ng f U) 27])=some (news H [O (ai f) 68,O (dS U) 27,O (ph f U) 27]))<|Y 0 (dt c4 ct rfl rfl rfl:al E 27 (H.n+2) 0 (news H [O (ai f) 68,O (dS U) 27,O (ph f U) 27])=some (.agg (ph f U).toArray))<|aB 0 (bG ct rfl rfl rfl rfl:bu E 27 (H.n+1) 0 (.agg (ph f U).toArray) (news H [O (ai f) 68,O (dS U) 27,O (ph f U) 27])=some (news H [O (ai f) 68,O (ph f U) 27,O (ph f U) 27]))<|az [] ((dt c4 ct rfl rfl rfl):al E 27 (H.n+1) 0 (news H [O (ai f) 68,O (ph f U) 27,O (ph f U) 27])=some (.agg (ph f U).toArray))<|fI 0 [.agg (ph f U).toArray] (.agg (ph f U).toArray) (news H [O (ai f) 68,O (ph f U) 27,O (ph f U) 27]) [H.n+2,H.n+2,H.n+2,H.n+2,H.n+2,H.n+2,H.n+1] aJ aL (by rw [hD,h1,h2,h3,h4,h5,h6] <;> rfl)
 refine aY 1 f.k 7 ?_ ?_ <;> intro h7 gM
 ·exact aB 2 (bG qq rfl rfl rfl rfl:bu E 25 (H.n+2) 12 (.slice none 0 0) (news H [O (ai f) 68,O (dS U) 27,O (ai f) 27])=some (news H [O (ai f) 68,O (dS U) 27,O (sW f) 27]))<|Y 0 (dt c4 ct rfl rfl rfl:al E 27 (H.n+2) 0 (news H [O (ai f) 68,O (dS U) 27,O (sW f) 27])=some (.agg (sW f).toArray))<|aB 0 (bG ct rfl rfl rfl rfl:bu E 27 (H.n+1) 0 (.agg (sW f).toArray) (news H [O (ai f) 68,O (dS U) 27,O (sW f) 27])=some (JZ H f))<|az [] ((dt c4 ct rfl rfl rfl):al E 27 (H.n+1) 0 (JZ H f)=some (.agg (sW f).toArray))<|fI 0 [.agg (sW f).toArray] (.agg (sW f).toArray) (JZ H f) [H.n+2,H.n+2,H.n+1] aJ aL (by rw [hD,h1,h2,h3,h4,h5,h6,h7] <;> rfl)
 exact Y 1 (dt c4 ct rfl rfl rfl:al E 27 (H.n+2) 0 (news H [O (ai f) 68,O (dS U) 27,O (ai f) 27])=some (.agg (ai f).toArray))<|aB 0 (bG ct rfl rfl rfl rfl:bu E 27 (H.n+1) 0 (.agg (ai f).toArray) (news H [O (ai f) 68,O (dS U) 27,O (ai f) 27])=some (J0 H f))<|az [] ((dt c4 ct rfl rfl rfl):al E 27 (H.n+1) 0 (J0 H f)=some (.agg (ai f).toArray))<|fI 0 [.agg (ai f).toArray] (.agg (ai f).toArray) (J0 H f) [H.n+2,H.n+1] aJ aL (by rw [hD,h1,h2,h3,h4,h5,h6,h7] <;> rfl)
noncomputable abbrev iQ H1 f:=news H1 [O (ai (hD f)) 27]
theorem acK (f:dR) (X:Z) (hx:aa E G X) {H:Z} (y:aa E X H):aV E X 39 [.agg (ai f).toArray] H [] (fun v H'=>v=.bool (jV (hD f))):=by
 refine bB Tryz.f39 y ?_
 obtain ⟨_,H1,c1,ak,y1,rfl⟩:=acC f X hx (y.news [O (ai f) 68])
 have c8:=d9 ak
 refine Y 2 (dt ir fN rfl rfl rfl:al E 68 (H.n+0) 0 (news H [O (ai f) 68])=some (.agg (ai f).toArray))<|ac 0 c1<|aB 1 (bG ct rfl rfl rfl rfl:bu E 27 (H1.n+0) 0 (.agg (ai (hD f)).toArray) (news H1 (au (dS U)))=some (iQ H1 f))<|Y 1 (aQ (iQ H1 f) 0 1 av)<|aY 0 ((hD f).op) 0 ?_ ?_ <;> intro h1 q1
 ·refine Y 2 (aQ (iQ H1 f) 0 2 kZ)<|aY 0 ((hD f).v) 0 ?_ ?_ <;> intro h2 cv
  ·refine Y 3 (aQ (iQ H1 f) 0 3 bA)<|d5 0 (((hD f).s).toList==(⟨#[]⟩:ByteArray).toList) (fun h3=>?_) fun h3=>?_
   ·refine Y 3 (aQ (iQ H1 f) 0 4 k3)<|aY 1 (((hD f).nm:Nat):Int) 0 ?_ ?_ <;> intro h4 cO
    ·refine Y 3 (aQ (iQ H1 f) 0 5 fQ)<|aY 0 ((hD f).wide) 0 ?_ ?_ <;> intro h5 dc
     ·refine Y 3 (aQ (iQ H1 f) 0 6 fQ)<|aY 0 ((hD f).off) 0 ?_ ?_ <;> intro h6 di
      ·refine aE [am 2]<|?_
       rcases df ((hD f).ha) with h7 |h7
       ·exact az [bw aw (iQ H1 f)] ((aQ (iQ H1 f) 0 7 fK).trans (congrArg (fun q=>some (Value.bool q)) h7))<|bf 13 U (iQ H1 f) [H1.n+0] aJ aL (by rw [jV,h1,h2,h3,h4,h5,h6,h7] <;> rfl)
       refine az [bw U (iQ H1 f)] ((aQ (iQ H1 f) 0 7 fK).trans (congrArg (fun q=>some (Value.bool q)) h7))<|Y 4 (aQ (iQ H1 f) 0 8 fQ)<|aY 0 ((hD f).at_) 0 ?_ ?_ <;> intro h8 lT
       ·refine Y 3 (aQ (iQ H1 f) 0 9 av)<|aY 0 ((hD f).how) 0 ?_ ?_ <;> intro h9 oQ
        ·refine Y 3 (aQ (iQ H1 f) 0 10 jz)<|aY 1 (((hD f).nn:Nat):Int) 0 ?_ ?_ <;> intro h10 oP
         ·refine aE [am 2]<|?_
          rcases df ((hD f).d8) with h11 |h11
          ·exact az [bw aw (iQ H1 f)] ((aQ (iQ H1 f) 0 11 fK).trans (congrArg (fun q=>some (Value.bool q)) h11))<|bf 5 U (iQ H1 f) [H1.n+0] aJ aL (by rw [jV,h1,h2,h3,h4,h5,h6,h7,h8,h9,h10,h11] <;> rfl)
          refine az [bw U (iQ H1 f)] ((aQ (iQ H1 f) 0 11 fK).trans (congrArg (fun q=>some (Value.bool q)) h11))<|Y 4 (aQ (iQ H1 f) 0 12 ef)<|aY 1 (((hD f).aj:Nat):Int) 0 ?_ ?_ <;> intro h12 ql
          ·exact bf 2 aw (iQ H1 f) [H1.n+0] aJ aL (by rw [jV,h1,h2,h3,h4,h5,h6,h7,h8,h9,h10,h11,h12] <;> rfl)
          exact bf 2 U (iQ H1 f) [H1.n+0] aJ aL (by rw [jV,h1,h2,h3,h4,h5,h6,h7,h8,h9,h10,h11,h12] <;> rfl)
         exact bf 6 U (iQ H1 f) [H1.n+0] aJ aL (by rw [jV,h1,h2,h3,h4,h5,h6,h7,h8,h9,h10] <;> rfl)
        exact bf 8 U (iQ H1 f) [H1.n+0] aJ aL (by rw [jV,h1,h2,h3,h4,h5,h6,h7,h8,h9] <;> rfl)
       exact bf 10 U (iQ H1 f) [H1.n+0] aJ aL (by rw [jV,h1,h2,h3,h4,h5,h6,h7,h8] <;> rfl)
      exact bf 14 U (iQ H1 f) [H1.n+0] aJ aL (by rw [jV,h1,h2,h3,h4,h5,h6] <;> rfl)
     exact bf 16 U (iQ H1 f) [H1.n+0] aJ aL (by rw [jV,h1,h2,h3,h4,h5] <;> rfl)
    exact bf 18 U (iQ H1 f) [H1.n+0] aJ aL (by rw [jV,h1,h2,h3,h4] <;> rfl)
   exact bf 20 U (iQ H1 f) [H1.n+0] aJ aL (by rw [jV,h1,h2,h3] <;> rfl)
  exact bf 22 U (iQ H1 f) [H1.n+0] aJ aL (by rw [jV,h1,h2] <;> rfl)
 exact bf 23 U (iQ H1 f) [H1.n+0] aJ aL (by rw [jV,h1] <;> rfl)
end Go.Proofs.YtglmagcldkngbaaGreatDoor
