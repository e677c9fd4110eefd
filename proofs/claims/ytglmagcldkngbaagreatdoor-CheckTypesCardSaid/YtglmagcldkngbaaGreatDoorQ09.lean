/- Part of the proof that CheckTypes answers true. -/
import Derived.Test.YtglmagcldkngbaaGreatDoorQ08
set_option linter.unusedVariables false
set_option linter.unusedSimpArgs false
set_option maxRecDepth 100000
set_option maxHeartbeats 4000000
namespace Go.Proofs.YtglmagcldkngbaaGreatDoor
open Go Go.Am
theorem DR:rm E #[98,98] 100 3 56=true:=an
theorem KA (p:Nat) (s:ByteArray) (at_:Int) (op:Int) (n:Nat) {H:Z} (y:aa E G H) (kp:H.get p=some (lz s at_ op 0)) (ce:G.n≤p) (hs:(s.size:Int)<100000) (a0:0≤at_) (a1:at_≤s.size) (hA:vq s n) (hn:((s.size:Int)-at_).toNat≤n):aV E G 89 [pt p 0] H [p] (fun v H'=>Bh s p at_ 0 (k8 s at_ op) v H'):=by
 have g0:=y.n
 refine bB Tryz.f89 y ?_
 have gH:=y.wf.lt kp
 obtain ⟨_,_,H1,c1,ak,y1,rfl,Sd,Si,ahp,A4,wR,tV,A5,wS,A7,A6,rfl,Jp,OQ,aI,gv,Oh,pI,KW⟩:=(adD p (H.n+1) (H.n+0) s n at_ (k8 s at_ op) _ at_ op 0 _ (y.news [O dI 100,O eT 100]) (y.old kp [O dI 100,O eT 100]) (aR [O dI 100,O eT 100] H 1 _ rfl) (aR [O dI 100,O eT 100] H 0 _ rfl) hs ce J J J J J J J J J hA J (fun _=>rfl) (fun h=>absurd h J) rfl).code
 have c8:=uT ak
 refine aB 3 (bG cZ rfl rfl rfl rfl:bu E 100 (H.n+1) 0 (.agg (List.toArray eT)) (news H [O dI 100,O dI 100])=some (news H [O dI 100,O eT 100]))<|bx 0 c1<|?_
 rcases Oh with rfl |Oh
 ·exact az [] ((cd fz cZ OQ rfl rfl):al E 100 (H.n+0) 0 H1=some (.agg #[ab A4,.slice wR tV A5,.slice wS A7 A6]))<|fI 0 [.agg #[ab A4,.slice wR tV A5,.slice wS A7 A6]] (.agg #[ab A4,.slice wR tV A5,.slice wS A7 A6]) H1 [H.n+1,p,H.n+1,H.n+0] aJ aZ (.inl ⟨Sd,Si,⟨_,_,_,_,_,_,_,rfl⟩,Jp,pI rfl,J,J⟩)
 exact az [] ((cd fz cZ OQ rfl rfl):al E 100 (H.n+0) 0 H1=some (.agg #[ab A4,.slice wR tV A5,.slice wS A7 A6]))<|fI 0 [.agg #[ab A4,.slice wR tV A5,.slice wS A7 A6]] (.agg #[ab A4,.slice wR tV A5,.slice wS A7 A6]) H1 [H.n+1,p,H.n+1,H.n+0] aJ aZ (.inr ⟨Sd,Si,ahp,⟨_,_,_,_,_,_,_,rfl⟩,Jp,KW J,J,J,J⟩)
noncomputable def Vl:Code:=cw [1,1,0,0,0] (cx Tryz.f79)
noncomputable abbrev qW H3 cj cq cn ck cr cm cl:=news H3 (bt (en cj cq cn ck cr cm cl))
theorem QF (p:Nat) (nb:Nat) (rb:Nat) (s:ByteArray) (n:Nat) (e5:Int) (R:Option (Int×Int)):∀(m:Nat) (at_:Int) (op:Int) (wr:Int) (q:Nat) (l:List hP) (H:Z),aa E G H→(kp:H.get p=some (O (fS s at_ op wr) 119))→(bp:H.get nb=some (O [ab 124,.slice none 0 0,sc q 0 l.length 6] 100))→(b9:H.get q=some (O (oO l) 100))→(hs:(s.size:Int)<100000)→(ce:G.n≤p)→(gn:G.n≤nb)→(d1:p≠nb)→(b0:0≤e5)→(b1:e5≤at_)→(a1:at_≤s.size)→(me:wr=0∨0<wr)→(hA:vq s n)→(hn:((s.size:Int)-e5).toNat≤n)→(hR:wr=0→nP s at_ op=R)→(hN:0<wr→R=none)→(eJ:G.n≤q)→(e1:p≠q)→(e2:nb≠q)→(d8:(l.length:Int)≤at_+wr+2)→2*((s.size:Int)-at_).toNat+(1-wr).toNat=m→
  bV E G 25 Vl [(0,pt p 0),(2,pt rb 0),(3,pt nb 0)] H [p,nb,q] (fun x T H'=>(x=(.exit 0)∧∃(eW su jv:Int) (LM:Option Addr) (LL LK:Nat),T=aP [(2,pt rb 0),(3,pt nb 0)]∧(H'.get p=some (lz s eW su jv)∧H'.get nb=some (O [ab 124,.slice none 0 0,.slice LM LL LK] 100)∧e5≤eW∧eW≤s.size∧(jv=0∨0<jv)∧(jv=0→R=some (eW,su))∧(0<jv→R=none)))):=by
 refine dJ fun m ih=>?_
 intro at_ op wr q l H y kp bp b9 hs ce gn d1 b0 b1 a1 me hA hn hR hN eJ e1 e2 d8 hm
 refine cN y ?_
 have gH:=y.wf.lt kp
 have rZ:=y.wf.lt bp
 have qP:=y.wf.lt b9
 rcases me with rfl |me
 ·obtain ⟨_,H1,c1,ak,y1,bE⟩:=tI p s at_ op 124 y kp J hs J J
  rcases bE with ⟨rfl,rN⟩ |⟨rfl,td,v7⟩
  ·have bZ:=y.kept ak aq kp
   have cS:=y.kept ak aq bp
   exact ac 1 c1<|c5 0 [(2,pt rb 0),(3,pt nb 0)] (.exit 0) H1 [] aL aZ ⟨rfl,at_,op,0,some ⟨q,0,none⟩,l.length,6,rfl,⟨bZ,cS,J,J,J,fun _=>(hR rfl).symm.trans (DT (r0 rN)),fun h=>absurd h J⟩⟩
  have c8:H.n+0≤H1.n:=ak.n
  have bZ:=y.kept ak aq kp
  obtain ⟨aK,e2⟩:∃ ao,ao=H1.set p (O (fS s (at_+1) op 0) 119):=⟨_,rfl⟩
  have ar:aa E G aK:=e2▸y1.set _ J J
  have cB:aK.n=H1.n+0:=by rw [e2,Z.cI] <;> rfl
  have cV:=bz e2
  have cS:=y.kept ak aq bp
  have ed:=bW e2 J cS
  obtain ⟨_,H3,c3,bq,aM,fq⟩:=KA p s (at_+1) op n ar cV J hs J J hA J
  rcases fq with ⟨fW,ml,⟨cj,cq,cn,ck,cr,cm,cl,rfl⟩,gX,jn,qb,ec⟩ |⟨fW,ml,wN,⟨cj,cq,cn,ck,cr,cm,cl,rfl⟩,gX,jn,Of,qb,ec⟩
  ·have ek:aK.n+0≤H3.n:=bq.n
   have g3:=aM.n
   have eY:=y.kept ak aq b9
   have gC:=bW e2 J eY
   have hM:=ar.kept bq bU gC
   obtain ⟨b6,aN⟩:∃ ao,ao=((qW H3 cj cq cn ck cr cm cl).set q .dead).new (O (oO (l++[hP.mk cj cq cn ck cr cm cl])) 100):=⟨_,rfl⟩
   have cu:aa E G b6:=pM (aM.news (bt (en cj cq cn ck cr cm cl))) aN J (by rw [dj];simp only [dX,e3];omega)
   have gm:b6.n=H3.n+2:=by rw [pN aN,dj] <;> rfl
   have kU:b6.get (H3.n+1)=some (O (oO (l++[hP.mk cj cq cn ck cr cm cl])) 100):=pO aN
   have eo:=ar.kept bq bU ed
   have fo:=jU (aM.news (bt (en cj cq cn ck cr cm cl))) aN J (aM.old eo (bt (en cj cq cn ck cr cm cl)))
   obtain ⟨d6,bJ⟩:∃ ao,ao=b6.set nb (O [ab 124,.slice none 0 0,sc (H3.n+1) 0 ((l++[hP.mk cj cq cn ck cr cm cl]).length) 6] 100):=⟨_,rfl⟩
   have dQ:aa E G d6:=bJ▸cu.set _ J J
   have iR:d6.n=b6.n+0:=by rw [bJ,Z.cI] <;> rfl
   have i6:=bz bJ
   have eG:=jU (aM.news (bt (en cj cq cn ck cr cm cl))) aN J (aM.old gX (bt (en cj cq cn ck cr cm cl)))
   have e8:=bW bJ J eG
   have rU:=bW bJ J kU
   exact ac 1 c1<|Y 3 (ag 1 av bZ)<|aH 0 (at_+1)<|aB 2 (stx 1 (M (at_+1)) dK bZ e2)<|qo [] (bk:p<aK.n∨aK.n≤p) (bk:p≠nb) (bk:p<aK.n∨aK.n≤p)<|Y 1 (ag 2 vy ed)<|ac 1 c3<|az [] (dO ar cV:cK aK H3 [p]=true)<|g8 1 (show gZ E #[98,98] (sc q 0 l.length 6) (sc (H3.n+0) 0 1 3) (qW H3 cj cq cn ck cr cm cl)=some (sc (H3.n+1) 0 ((l++[hP.mk cj cq cn ck cr cm cl]).length) 6,b6,[q],[q,H3.n+0]) from (pd DR rfl (show g9 (qW H3 cj cq cn ck cr cm cl) 3 (sc (H3.n+0) 0 1 3)=some (1,[ab cj,.slice cq cn ck,.slice cr cm cl],[H3.n+0]) from js (aR (bt (en cj cq cn ck cr cm cl)) H3 0 _ rfl) (gg rfl)) rfl (aM.old hM (bt (en cj cq cn ck cr cm cl))) (by rw [Ao];omega) J).trans (by rw [FO l cj cq cn ck cr cm cl,FP l cj cq cn ck cr cm cl,aN] <;> rfl))<|az [] (dO (aM.news (bt (en cj cq cn ck cr cm cl))) (aM.old hM (bt (en cj cq cn ck cr cm cl))):cK (qW H3 cj cq cn ck cr cm cl) b6 [q]=true)<|aB 1 (stx 2 (sc (H3.n+1) 0 ((l++[hP.mk cj cq cn ck cr cm cl]).length) 6) wI fo bJ)<|az [] (dO cu fo:cK b6 d6 [nb]=true)<|ji 0 [(0,pt p 0),(2,pt rb 0),(3,pt nb 0)] d6 [p,p,q,nb] aW aJ (ih _ J fW ml 0 (H3.n+1) (l++[hP.mk cj cq cn ck cr cm cl]) _ dQ e8 i6 rU hs ce gn d1 b0 J J J hA hn (fun _=>(DV td (qi v7) jn J).symm.trans (hR rfl)) (fun h=>absurd h J) J J J (by simp only [List.length_append,dX,e3];omega) rfl)
  have ek:aK.n+0≤H3.n:=bq.n
  have g3:=aM.n
  have eY:=y.kept ak aq b9
  have gC:=bW e2 J eY
  have hM:=ar.kept bq bU gC
  obtain ⟨b6,aN⟩:∃ ao,ao=((qW H3 cj cq cn ck cr cm cl).set q .dead).new (O (oO (l++[hP.mk cj cq cn ck cr cm cl])) 100):=⟨_,rfl⟩
  have cu:aa E G b6:=pM (aM.news (bt (en cj cq cn ck cr cm cl))) aN J (by rw [dj];simp only [dX,e3];omega)
  have gm:b6.n=H3.n+2:=by rw [pN aN,dj] <;> rfl
  have kU:b6.get (H3.n+1)=some (O (oO (l++[hP.mk cj cq cn ck cr cm cl])) 100):=pO aN
  have eo:=ar.kept bq bU ed
  have fo:=jU (aM.news (bt (en cj cq cn ck cr cm cl))) aN J (aM.old eo (bt (en cj cq cn ck cr cm cl)))
  obtain ⟨d6,bJ⟩:∃ ao,ao=b6.set nb (O [ab 124,.slice none 0 0,sc (H3.n+1) 0 ((l++[hP.mk cj cq cn ck cr cm cl]).length) 6] 100):=⟨_,rfl⟩
  have dQ:aa E G d6:=bJ▸cu.set _ J J
  have iR:d6.n=b6.n+0:=by rw [bJ,Z.cI] <;> rfl
  have i6:=bz bJ
  have eG:=jU (aM.news (bt (en cj cq cn ck cr cm cl))) aN J (aM.old gX (bt (en cj cq cn ck cr cm cl)))
  have e8:=bW bJ J eG
  have rU:=bW bJ J kU
  exact ac 1 c1<|Y 3 (ag 1 av bZ)<|aH 0 (at_+1)<|aB 2 (stx 1 (M (at_+1)) dK bZ e2)<|qo [] (bk:p<aK.n∨aK.n≤p) (bk:p≠nb) (bk:p<aK.n∨aK.n≤p)<|Y 1 (ag 2 vy ed)<|ac 1 c3<|az [] (dO ar cV:cK aK H3 [p]=true)<|g8 1 (show gZ E #[98,98] (sc q 0 l.length 6) (sc (H3.n+0) 0 1 3) (qW H3 cj cq cn ck cr cm cl)=some (sc (H3.n+1) 0 ((l++[hP.mk cj cq cn ck cr cm cl]).length) 6,b6,[q],[q,H3.n+0]) from (pd DR rfl (show g9 (qW H3 cj cq cn ck cr cm cl) 3 (sc (H3.n+0) 0 1 3)=some (1,[ab cj,.slice cq cn ck,.slice cr cm cl],[H3.n+0]) from js (aR (bt (en cj cq cn ck cr cm cl)) H3 0 _ rfl) (gg rfl)) rfl (aM.old hM (bt (en cj cq cn ck cr cm cl))) (by rw [Ao];omega) J).trans (by rw [FO l cj cq cn ck cr cm cl,FP l cj cq cn ck cr cm cl,aN] <;> rfl))<|az [] (dO (aM.news (bt (en cj cq cn ck cr cm cl))) (aM.old hM (bt (en cj cq cn ck cr cm cl))):cK (qW H3 cj cq cn ck cr cm cl) b6 [q]=true)<|aB 1 (stx 2 (sc (H3.n+1) 0 ((l++[hP.mk cj cq cn ck cr cm cl]).length) 6) wI fo bJ)<|az [] (dO cu fo:cK b6 d6 [nb]=true)<|ji 0 [(0,pt p 0),(2,pt rb 0),(3,pt nb 0)] d6 [p,p,q,nb] aW aJ (ih _ J fW ml wN (H3.n+1) (l++[hP.mk cj cq cn ck cr cm cl]) _ dQ e8 i6 rU hs ce gn d1 b0 J J J hA hn (fun h=>absurd h J) (fun _=>(hR rfl).symm.trans (DU td (qi v7) jn)) J J J (by simp only [List.length_append,dX,e3];omega) rfl)
 obtain ⟨_,H1,c1,ak,y1,rfl⟩:=C8 p s at_ op wr 124 y kp J hs J J J
 have bZ:=y.kept ak aq kp
 have cS:=y.kept ak aq bp
 exact ac 1 c1<|c5 0 [(2,pt rb 0),(3,pt nb 0)] (.exit 0) H1 [] aL aZ ⟨rfl,at_,op,wr,some ⟨q,0,none⟩,l.length,6,rfl,⟨bZ,cS,J,J,J,fun h=>absurd h J,fun _=>hN J⟩⟩
noncomputable def Vm:Code:=cw [1,1,0,0,0] (cx Tryz.f79)
noncomputable abbrev p8 xa eC xn xc eD eB eA cj cq cn ck cr cm cl:=([ab xa,.slice eC xn xc,.slice eD eB eA,ab cj,.slice cq cn ck,.slice cr cm cl]:List Value)
noncomputable abbrev An H3 cj cq cn ck cr cm cl xa eC xn xc eD eB eA:=news H3 [O (en cj cq cn ck cr cm cl) 100,O (p8 xa eC xn xc eD eB eA cj cq cn ck cr cm cl) 100]
theorem QG (p:Nat) (nb:Nat) (rb:Nat) (s:ByteArray) (n:Nat) (e5:Int) (R:Option (Int×Int)):∀(m:Nat) (at_:Int) (op:Int) (wr:Int) (q:Nat) (xa:Int) (eC:Option Addr) (xn:Nat) (xc:Nat) (eD:Option Addr) (eB:Nat) (eA:Nat) (H:Z),aa E G H→(kp:H.get p=some (O (fS s at_ op wr) 119))→(bp:H.get nb=some (O [ab 124,.slice none 0 0,sc q 0 1 3] 100))→(b9:H.get q=some (O (kF xa eC xn xc eD eB eA) 100))→(hs:(s.size:Int)<100000)→(ce:G.n≤p)→(gn:G.n≤nb)→(d1:p≠nb)→(b0:0≤e5)→(b1:e5≤at_)→(a1:at_≤s.size)→(me:wr=0∨0<wr)→(hA:vq s n)→(hn:((s.size:Int)-e5).toNat≤n)→(hR:wr=0→nP s at_ op=R)→(hN:0<wr→R=none)→(eJ:G.n≤q)→(e1:p≠q)→(e2:nb≠q)→2*((s.size:Int)-at_).toNat+(1-wr).toNat=m→
  bV E G 25 Vm [(0,pt p 0),(2,pt rb 0),(3,pt nb 0)] H [p,nb,q] (fun x T H'=>(x=(.exit 0)∧∃(eW su jv:Int) (LM:Option Addr) (LL LK:Nat),T=aP [(2,pt rb 0),(3,pt nb 0)]∧(H'.get p=some (lz s eW su jv)∧H'.get nb=some (O [ab 124,.slice none 0 0,.slice LM LL LK] 100)∧e5≤eW∧eW≤s.size∧(jv=0∨0<jv)∧(jv=0→R=some (eW,su))∧(0<jv→R=none)))):=by
 refine dJ fun m ih=>?_
 intro at_ op wr q xa eC xn xc eD eB eA H y kp bp b9 hs ce gn d1 b0 b1 a1 me hA hn hR hN eJ e1 e2 hm
 refine cN y ?_
 have gH:=y.wf.lt kp
 have rZ:=y.wf.lt bp
 have qP:=y.wf.lt b9
 rcases me with rfl |me
 ·obtain ⟨_,H1,c1,ak,y1,bE⟩:=tI p s at_ op 124 y kp J hs J J
  rcases bE with ⟨rfl,rN⟩ |⟨rfl,td,v7⟩
  ·have bZ:=y.kept ak aq kp
   have cS:=y.kept ak aq bp
   exact ac 1 c1<|c5 0 [(2,pt rb 0),(3,pt nb 0)] (.exit 0) H1 [] aL aZ ⟨rfl,at_,op,0,some ⟨q,0,none⟩,1,3,rfl,⟨bZ,cS,J,J,J,fun _=>(hR rfl).symm.trans (DT (r0 rN)),fun h=>absurd h J⟩⟩
  have c8:H.n+0≤H1.n:=ak.n
  have bZ:=y.kept ak aq kp
  obtain ⟨aK,e2⟩:∃ ao,ao=H1.set p (O (fS s (at_+1) op 0) 119):=⟨_,rfl⟩
  have ar:aa E G aK:=e2▸y1.set _ J J
  have cB:aK.n=H1.n+0:=by rw [e2,Z.cI] <;> rfl
  have cV:=bz e2
  have cS:=y.kept ak aq bp
  have ed:=bW e2 J cS
  obtain ⟨_,H3,c3,bq,aM,fq⟩:=KA p s (at_+1) op n ar cV J hs J J hA J
  rcases fq with ⟨fW,ml,⟨cj,cq,cn,ck,cr,cm,cl,rfl⟩,gX,jn,qb,ec⟩ |⟨fW,ml,wN,⟨cj,cq,cn,ck,cr,cm,cl,rfl⟩,gX,jn,Of,qb,ec⟩
  ·have ek:aK.n+0≤H3.n:=bq.n
   have g3:=aM.n
   have eY:=y.kept ak aq b9
   have gC:=bW e2 J eY
   have hM:=ar.kept bq bU gC
   have eo:=ar.kept bq bU ed
   obtain ⟨b6,aN⟩:∃ ao,ao=(An H3 cj cq cn ck cr cm cl xa eC xn xc eD eB eA).set nb (O [ab 124,.slice none 0 0,sc (H3.n+1) 0 2 6] 100):=⟨_,rfl⟩
   have cu:aa E G b6:=aN▸(aM.news [O (en cj cq cn ck cr cm cl) 100,O (p8 xa eC xn xc eD eB eA cj cq cn ck cr cm cl) 100]).set _ J (by rw [dj];simp only [dX,e3];omega)
   have gm:b6.n=H3.n+2:=by rw [aN,Z.cI,dj] <;> rfl
   have kU:=bW aN J (aR [O (en cj cq cn ck cr cm cl) 100,O (p8 xa eC xn xc eD eB eA cj cq cn ck cr cm cl) 100] H3 1 _ rfl)
   have fo:=bz aN
   have eG:=bW aN J (aM.old gX [O (en cj cq cn ck cr cm cl) 100,O (p8 xa eC xn xc eD eB eA cj cq cn ck cr cm cl) 100])
   exact ac 1 c1<|Y 3 (ag 1 av bZ)<|aH 0 (at_+1)<|aB 2 (stx 1 (M (at_+1)) dK bZ e2)<|qo [] (bk:p<aK.n∨aK.n≤p) (bk:p≠nb) (bk:p<aK.n∨aK.n≤p)<|Y 1 (ag 2 vy ed)<|ac 1 c3<|az [] (dO ar cV:cK aK H3 [p]=true)<|g8 1 (show gZ E #[98,98] (sc q 0 1 3) (sc (H3.n+0) 0 1 3) (qW H3 cj cq cn ck cr cm cl)=some (sc (H3.n+1) 0 2 6,An H3 cj cq cn ck cr cm cl xa eC xn xc eD eB eA,[],[q,H3.n+0]) from Bm (c:=1) DR rfl (show g9 (qW H3 cj cq cn ck cr cm cl) 3 (sc (H3.n+0) 0 1 3)=some (1,[ab cj,.slice cq cn ck,.slice cr cm cl],[H3.n+0]) from js (aR (bt (en cj cq cn ck cr cm cl)) H3 0 _ rfl) (gg rfl)) rfl (aM.old hM (bt (en cj cq cn ck cr cm cl))) (gg rfl) (by decide) (by decide))<|aB 1 (stx 2 (sc (H3.n+1) 0 2 6) wI (aM.old eo [O (en cj cq cn ck cr cm cl) 100,O (p8 xa eC xn xc eD eB eA cj cq cn ck cr cm cl) 100]) aN)<|az [] (dO (aM.news [O (en cj cq cn ck cr cm cl) 100,O (p8 xa eC xn xc eD eB eA cj cq cn ck cr cm cl) 100]) (aM.old eo [O (en cj cq cn ck cr cm cl) 100,O (p8 xa eC xn xc eD eB eA cj cq cn ck cr cm cl) 100]):cK (An H3 cj cq cn ck cr cm cl xa eC xn xc eD eB eA) b6 [nb]=true)<|ji 0 [(0,pt p 0),(2,pt rb 0),(3,pt nb 0)] b6 [p,p,nb] aW aJ (QF p nb rb s n e5 R _ fW ml 0 (H3.n+1) ([hP.mk xa eC xn xc eD eB eA,hP.mk cj cq cn ck cr cm cl]) _ cu eG fo kU hs ce gn d1 b0 J J J hA hn (fun _=>(DV td (qi v7) jn J).symm.trans (hR rfl)) (fun h=>absurd h J) J J J (by simp only [List.length_append,dX,e3];omega) rfl)
  have ek:aK.n+0≤H3.n:=bq.n
  have g3:=aM.n
  have eY:=y.kept ak aq b9
  have gC:=bW e2 J eY
  have hM:=ar.kept bq bU gC
  have eo:=ar.kept bq bU ed
  obtain ⟨b6,aN⟩:∃ ao,ao=(An H3 cj cq cn ck cr cm cl xa eC xn xc eD eB eA).set nb (O [ab 124,.slice none 0 0,sc (H3.n+1) 0 2 6] 100):=⟨_,rfl⟩
  have cu:aa E G b6:=aN▸(aM.news [O (en cj cq cn ck cr cm cl) 100,O (p8 xa eC xn xc eD eB eA cj cq cn ck cr cm cl) 100]).set _ J (by rw [dj];simp only [dX,e3];omega)
  have gm:b6.n=H3.n+2:=by rw [aN,Z.cI,dj] <;> rfl
  have kU:=bW aN J (aR [O (en cj cq cn ck cr cm cl) 100,O (p8 xa eC xn xc eD eB eA cj cq cn ck cr cm cl) 100] H3 1 _ rfl)
  have fo:=bz aN
  have eG:=bW aN J (aM.old gX [O (en cj cq cn ck cr cm cl) 100,O (p8 xa eC xn xc eD eB eA cj cq cn ck cr cm cl) 100])
  exact ac 1 c1<|Y 3 (ag 1 av bZ)<|aH 0 (at_+1)<|aB 2 (stx 1 (M (at_+1)) dK bZ e2)<|qo [] (bk:p<aK.n∨aK.n≤p) (bk:p≠nb) (bk:p<aK.n∨aK.n≤p)<|Y 1 (ag 2 vy ed)<|ac 1 c3<|az [] (dO ar cV:cK aK H3 [p]=true)<|g8 1 (show gZ E #[98,98] (sc q 0 1 3) (sc (H3.n+0) 0 1 3) (qW H3 cj cq cn ck cr cm cl)=some (sc (H3.n+1) 0 2 6,An H3 cj cq cn ck cr cm cl xa eC xn xc eD eB eA,[],[q,H3.n+0]) from Bm (c:=1) DR rfl (show g9 (qW H3 cj cq cn ck cr cm cl) 3 (sc (H3.n+0) 0 1 3)=some (1,[ab cj,.slice cq cn ck,.slice cr cm cl],[H3.n+0]) from js (aR (bt (en cj cq cn ck cr cm cl)) H3 0 _ rfl) (gg rfl)) rfl (aM.old hM (bt (en cj cq cn ck cr cm cl))) (gg rfl) (by decide) (by decide))<|aB 1 (stx 2 (sc (H3.n+1) 0 2 6) wI (aM.old eo [O (en cj cq cn ck cr cm cl) 100,O (p8 xa eC xn xc eD eB eA cj cq cn ck cr cm cl) 100]) aN)<|az [] (dO (aM.news [O (en cj cq cn ck cr cm cl) 100,O (p8 xa eC xn xc eD eB eA cj cq cn ck cr cm cl) 100]) (aM.old eo [O (en cj cq cn ck cr cm cl) 100,O (p8 xa eC xn xc eD eB eA cj cq cn ck cr cm cl) 100]):cK (An H3 cj cq cn ck cr cm cl xa eC xn xc eD eB eA) b6 [nb]=true)<|ji 0 [(0,pt p 0),(2,pt rb 0),(3,pt nb 0)] b6 [p,p,nb] aW aJ (QF p nb rb s n e5 R _ fW ml wN (H3.n+1) ([hP.mk xa eC xn xc eD eB eA,hP.mk cj cq cn ck cr cm cl]) _ cu eG fo kU hs ce gn d1 b0 J J J hA hn (fun h=>absurd h J) (fun _=>(hR rfl).symm.trans (DU td (qi v7) jn)) J J J (by simp only [List.length_append,dX,e3];omega) rfl)
 obtain ⟨_,H1,c1,ak,y1,rfl⟩:=C8 p s at_ op wr 124 y kp J hs J J J
 have bZ:=y.kept ak aq kp
 have cS:=y.kept ak aq bp
 exact ac 1 c1<|c5 0 [(2,pt rb 0),(3,pt nb 0)] (.exit 0) H1 [] aL aZ ⟨rfl,at_,op,wr,some ⟨q,0,none⟩,1,3,rfl,⟨bZ,cS,J,J,J,fun h=>absurd h J,fun _=>hN J⟩⟩
noncomputable abbrev PO H1 bL bQ bP bM bR bO bN:=news H1 [O (dN bL bQ bP bM bR bO bN) 100,O dI 100]
noncomputable abbrev oz (H1:Z):=([ab 124,.slice none 0 0,sc (H1.n+0) 0 1 3]:List Value)
noncomputable abbrev PP (H1:Z) bL bQ bP bM bR bO bN:=news H1 [O (dN bL bQ bP bM bR bO bN) 100,O (oz H1) 100]
noncomputable abbrev mI lD lC lB:=([ab 124,.slice none 0 0,.slice lD lC lB]:List Value)
theorem adj (p:Nat) (s:ByteArray) (at_:Int) (op:Int) (n:Nat) {H:Z} (y:aa E G H) (kp:H.get p=some (lz s at_ op 0)) (ce:G.n≤p) (hs:(s.size:Int)<100000) (a0:0≤at_) (a1:at_≤s.size) (hA:vq s n) (hn:((s.size:Int)-at_).toNat≤n):aV E G 79 [pt p 0] H [p] (fun v H'=>Bh s p at_ 0 (nO s at_ op) v H'):=by
 have g0:=y.n
 refine bB Tryz.f79 y ?_
 have gH:=y.wf.lt kp
 obtain ⟨_,H1,c1,ak,y1,bE⟩:=KA p s at_ op n (y.news (bt dI)) (y.old kp (bt dI)) J hs J J hA J
 rcases bE with ⟨dW,r4,⟨bL,bQ,bP,bM,bR,bO,bN,rfl⟩,ei,fk,ma,b7⟩ |⟨dW,r4,o6,⟨bL,bQ,bP,bM,bR,bO,bN,rfl⟩,ei,fk,hw1,ma,b7⟩
 ·have c8:=d9 ak
  have g1:=y1.n
  have aS:=(y.news (bt dI)).kept ak bU (aR (bt dI) H 0 _ rfl)
  obtain ⟨_,_,H2,c2,aF,ar,rfl,sq,GU,LQ,lD,lC,lB,rfl,n4,Jl,kw,Db,Cg,tN,yw⟩:=(QG p (H1.n+1) (H.n+0) s n dW (nP s dW r4) _ dW r4 0 (H1.n+0) bL bQ bP bM bR bO bN _ (y1.news [O (dN bL bQ bP bM bR bO bN) 100,O (oz H1) 100]) (y1.old ei [O (dN bL bQ bP bM bR bO bN) 100,O (oz H1) 100]) (aR [O (dN bL bQ bP bM bR bO bN) 100,O (oz H1) 100] H1 1 _ rfl) (aR [O (dN bL bQ bP bM bR bO bN) 100,O (oz H1) 100] H1 0 _ rfl) hs ce J J J J J J hA J (fun _=>rfl) (fun h=>absurd h J) J J J rfl).code
  have cB:=uT aF
  have ca:=(y1.news [O (dN bL bQ bP bM bR bO bN) 100,O (oz H1) 100]).kept aF bU (y1.old aS [O (dN bL bQ bP bM bR bO bN) 100,O (oz H1) 100])
  obtain ⟨cf,bc⟩:∃ ao,ao=H2.set (H.n+0) (O (mI lD lC lB) 100):=⟨_,rfl⟩
  have ek:cf.n=H2.n+0:=by rw [bc,Z.cI] <;> rfl
  have fL:=bz bc
  refine ac 2 c1<|aB 3 (bG cZ rfl rfl rfl rfl:bu E 100 (H1.n+1) 0 (.agg (oz H1).toArray) (PO H1 bL bQ bP bM bR bO bN)=some (PP H1 bL bQ bP bM bR bO bN))<|bx 0 c2<|Y 0 (cd fz cZ Jl rfl rfl:al E 100 (H1.n+1) 0 H2=some (.agg (mI lD lC lB).toArray))<|aB 0 (stx 0 (.agg (mI lD lC lB).toArray) cZ ca bc)<|?_
  rcases Cg with rfl |Cg
  ·have eU:=bW bc J n4
   exact az [] ((cd fz cZ fL rfl rfl):al E 100 (H.n+0) 0 cf=some (.agg (mI lD lC lB).toArray))<|fI 0 [.agg (mI lD lC lB).toArray] (.agg (mI lD lC lB).toArray) cf [p,H1.n+1,p,H1.n+1,H1.n+0,H.n+0] aJ aZ (.inl ⟨sq,GU,⟨_,_,_,_,_,_,_,rfl⟩,eU,(DW fk J).trans (tN rfl),J,J⟩)
  have eU:=bW bc J n4
  exact az [] ((cd fz cZ fL rfl rfl):al E 100 (H.n+0) 0 cf=some (.agg (mI lD lC lB).toArray))<|fI 0 [.agg (mI lD lC lB).toArray] (.agg (mI lD lC lB).toArray) cf [p,H1.n+1,p,H1.n+1,H1.n+0,H.n+0] aJ aZ (.inr ⟨sq,GU,LQ,⟨_,_,_,_,_,_,_,rfl⟩,eU,(DW fk J).trans (yw J),J,J,J⟩)
 have c8:=d9 ak
 have g1:=y1.n
 have aS:=(y.news (bt dI)).kept ak bU (aR (bt dI) H 0 _ rfl)
 obtain ⟨_,_,H2,c2,aF,ar,rfl,sq,GU,LQ,lD,lC,lB,rfl,n4,Jl,kw,Db,Cg,tN,yw⟩:=(QG p (H1.n+1) (H.n+0) s n dW none _ dW r4 o6 (H1.n+0) bL bQ bP bM bR bO bN _ (y1.news [O (dN bL bQ bP bM bR bO bN) 100,O (oz H1) 100]) (y1.old ei [O (dN bL bQ bP bM bR bO bN) 100,O (oz H1) 100]) (aR [O (dN bL bQ bP bM bR bO bN) 100,O (oz H1) 100] H1 1 _ rfl) (aR [O (dN bL bQ bP bM bR bO bN) 100,O (oz H1) 100] H1 0 _ rfl) hs ce J J J J J J hA J (fun h=>absurd h J) (fun _=>rfl) J J J rfl).code
 have cB:=uT aF
 have ca:=(y1.news [O (dN bL bQ bP bM bR bO bN) 100,O (oz H1) 100]).kept aF bU (y1.old aS [O (dN bL bQ bP bM bR bO bN) 100,O (oz H1) 100])
 obtain ⟨cf,bc⟩:∃ ao,ao=H2.set (H.n+0) (O (mI lD lC lB) 100):=⟨_,rfl⟩
 have ek:cf.n=H2.n+0:=by rw [bc,Z.cI] <;> rfl
 have fL:=bz bc
 refine ac 2 c1<|aB 3 (bG cZ rfl rfl rfl rfl:bu E 100 (H1.n+1) 0 (.agg (oz H1).toArray) (PO H1 bL bQ bP bM bR bO bN)=some (PP H1 bL bQ bP bM bR bO bN))<|bx 0 c2<|Y 0 (cd fz cZ Jl rfl rfl:al E 100 (H1.n+1) 0 H2=some (.agg (mI lD lC lB).toArray))<|aB 0 (stx 0 (.agg (mI lD lC lB).toArray) cZ ca bc)<|?_
 rcases Cg with rfl |Cg
 ·exact az [] ((cd fz cZ fL rfl rfl):al E 100 (H.n+0) 0 cf=some (.agg (mI lD lC lB).toArray))<|fI 0 [.agg (mI lD lC lB).toArray] (.agg (mI lD lC lB).toArray) cf [p,H1.n+1,p,H1.n+1,H1.n+0,H.n+0] aJ aZ (absurd (tN rfl) aW)
 have eU:=bW bc J n4
 exact az [] ((cd fz cZ fL rfl rfl):al E 100 (H.n+0) 0 cf=some (.agg (mI lD lC lB).toArray))<|fI 0 [.agg (mI lD lC lB).toArray] (.agg (mI lD lC lB).toArray) cf [p,H1.n+1,p,H1.n+1,H1.n+0,H.n+0] aJ aZ (.inr ⟨sq,GU,LQ,⟨_,_,_,_,_,_,_,rfl⟩,eU,Mj fk,J,J,J⟩)
theorem Mf (s:ByteArray):∀ n,vq s n
 |0=>fun p at_ op H y kp ce hs a0 a1 h=>absurd h (Nat.not_lt_zero _)
 |n+1=>fun p at_ op H y kp ce hs a0 a1 h=>adj p s at_ op n y kp ce hs a0 a1 (Mf s n) J
noncomputable abbrev FH H:=news H (bt dI)
noncomputable abbrev FI H1:=news H1 (bt dI)
noncomputable abbrev ff H1 bL bQ bP bM bR bO bN:=news H1 (bt (dN bL bQ bP bM bR bO bN))
theorem adz (s:ByteArray) {H:Z} (y:aa E G H):aV E G 65 [.string s] H [] (fun v H'=>(∃ a b,Bg a∧v=.tuple #[a,b,M 0]∧oV s=true)∨(∃ a b w,Bg a∧v=.tuple #[a,b,M w]∧0<w∧oV s=false)):=by
 have g0:=y.n
 refine bB Tryz.f65 y ?_
 refine aD 5 ((s.size:Int)>200) ?_ ?_ <;> intro h1 q1
 ·exact aB 1 (bG cZ rfl rfl rfl rfl:bu E 100 (H.n+0) 0 (.agg (List.toArray dI)) (FH H)=some (FH H))<|aE [am 1]<|qo [] ((dt fz cZ rfl rfl rfl):al E 100 (H.n+0) 0 (FH H)=some (.agg (List.toArray dI))) (j5 (M 0)) (j5 (M 2))<|fI 0 [.agg (List.toArray dI),M 0,M 2] (.tuple #[.agg (List.toArray dI),M 0,M 2]) (FH H) [H.n+0] aJ aL (.inr ⟨_,_,_,⟨_,_,_,_,_,_,_,rfl⟩,rfl,J,(by rw [oV,decide_eq_true J];rfl)⟩)
 have hs:(s.size:Int)<100000:=J
 obtain ⟨_,H1,c1,ak,y1,bE⟩:=Mf s (((s.size:Int)-0).toNat+1) (H.n+1) 0 0 (y.news [O dI 100,O (fS s 0 0 0) 119]) (aR [O dI 100,O (fS s 0 0 0) 119] H 1 _ rfl) J J J J J
 rcases bE with ⟨dW,r4,⟨bL,bQ,bP,bM,bR,bO,bN,rfl⟩,ei,fk,ma,b7⟩ |⟨dW,r4,o6,⟨bL,bQ,bP,bM,bR,bO,bN,rfl⟩,ei,fk,hw1,ma,b7⟩
 ·have c8:=uT ak
  have aS:=(y.news [O dI 100,O (fS s 0 0 0) 119]).kept ak bU (aR [O dI 100,O (fS s 0 0 0) 119] H 0 _ rfl)
  refine ac 5 c1<|aB 1 (bG cZ rfl rfl rfl rfl:bu E 100 (H1.n+0) 0 (.agg (dN bL bQ bP bM bR bO bN).toArray) (FI H1)=some (ff H1 bL bQ bP bM bR bO bN))<|Y 3 (ag 3 av (y1.old ei (bt (dN bL bQ bP bM bR bO bN))))<|Y 5 (ag 1 av (y1.old ei (bt (dN bL bQ bP bM bR bO bN))))<|aD 2 (dW<(s.size:Int)) ?_ ?_ <;> intro h3 cY
  ·obtain ⟨aK,e2⟩:∃ ao,ao=(ff H1 bL bQ bP bM bR bO bN).set (H.n+1) (O (fS s dW r4 2) 119):=⟨_,rfl⟩
   have ar:aa E G aK:=e2▸(y1.news (bt (dN bL bQ bP bM bR bO bN))).set _ J (by rw [dj];simp only [dX,e3];omega)
   have cB:aK.n=H1.n+1:=by rw [e2,Z.cI,dj] <;> rfl
   have qe:=bW e2 J (aR (bt (dN bL bQ bP bM bR bO bN)) H1 0 _ rfl)
   have jF:=bz e2
   have ca:=bW e2 J (y1.old aS (bt (dN bL bQ bP bM bR bO bN)))
   obtain ⟨cf,bc⟩:∃ ao,ao=aK.set (H.n+0) (O (dN bL bQ bP bM bR bO bN) 100):=⟨_,rfl⟩
   have ek:cf.n=aK.n+0:=by rw [bc,Z.cI] <;> rfl
   have fL:=bz bc
   exact aB 4 (stx 3 (M 2) dK (y1.old ei (bt (dN bL bQ bP bM bR bO bN))) e2)<|io [] (bk:(H.n+0)<aK.n∨aK.n≤(H.n+0)) (bk:(H.n+0)<aK.n∨aK.n≤(H.n+0)) (bk:(H.n+0)<aK.n∨aK.n≤(H.n+0)) (bk:(H.n+0)≠(H.n+1)) (bk:(H.n+0)<aK.n∨aK.n≤(H.n+0)) (bk:(H.n+0)<aK.n∨aK.n≤(H.n+0))<|Lc [] (bk:(H.n+0)<aK.n∨aK.n≤(H.n+0)) (bk:(H.n+0)<aK.n∨aK.n≤(H.n+0)) (bk:(H.n+0)≠(H.n+1)) (bk:(H.n+0)<aK.n∨aK.n≤(H.n+0))<|Y 0 (cd fz cZ qe rfl rfl:al E 100 (H1.n+0) 0 aK=some (.agg (dN bL bQ bP bM bR bO bN).toArray))<|Y 3 (ag 1 av jF)<|Y 3 (ag 3 av jF)<|aB 0 (stx 0 (.agg (dN bL bQ bP bM bR bO bN).toArray) cZ ca bc)<|az [] (dO ar ca:cK aK cf [H.n+0]=true)<|aE [am 1]<|qo [] ((cd fz cZ fL rfl rfl):al E 100 (H.n+0) 0 cf=some (.agg (dN bL bQ bP bM bR bO bN).toArray)) (j5 (M dW)) (j5 (M 2))<|fI 0 [.agg (dN bL bQ bP bM bR bO bN).toArray,M dW,M 2] (.tuple #[.agg (dN bL bQ bP bM bR bO bN).toArray,M dW,M 2]) cf [H.n+1,H1.n+0,H.n+1,H.n+0] aJ aL (.inr ⟨_,_,_,⟨_,_,_,_,_,_,_,rfl⟩,rfl,J,Ra fk J⟩)
  obtain ⟨aK,e2⟩:∃ ao,ao=(ff H1 bL bQ bP bM bR bO bN).set (H.n+0) (O (dN bL bQ bP bM bR bO bN) 100):=⟨_,rfl⟩
  have cB:aK.n=H1.n+1:=by rw [e2,Z.cI,dj] <;> rfl
  have ca:=bz e2
  exact aE [am 0]<|io [] (bk:(H.n+0)<(ff H1 bL bQ bP bM bR bO bN).n∨(ff H1 bL bQ bP bM bR bO bN).n≤(H.n+0)) (bk:(H.n+0)<(ff H1 bL bQ bP bM bR bO bN).n∨(ff H1 bL bQ bP bM bR bO bN).n≤(H.n+0)) (bk:(H.n+0)<(ff H1 bL bQ bP bM bR bO bN).n∨(ff H1 bL bQ bP bM bR bO bN).n≤(H.n+0)) (bk:(H.n+0)≠(H.n+1)) (bk:(H.n+0)<(ff H1 bL bQ bP bM bR bO bN).n∨(ff H1 bL bQ bP bM bR bO bN).n≤(H.n+0)) (bk:(H.n+0)<(ff H1 bL bQ bP bM bR bO bN).n∨(ff H1 bL bQ bP bM bR bO bN).n≤(H.n+0))<|Lc [] (bk:(H.n+0)<(ff H1 bL bQ bP bM bR bO bN).n∨(ff H1 bL bQ bP bM bR bO bN).n≤(H.n+0)) (bk:(H.n+0)<(ff H1 bL bQ bP bM bR bO bN).n∨(ff H1 bL bQ bP bM bR bO bN).n≤(H.n+0)) (bk:(H.n+0)≠(H.n+1)) (bk:(H.n+0)<(ff H1 bL bQ bP bM bR bO bN).n∨(ff H1 bL bQ bP bM bR bO bN).n≤(H.n+0))<|Y 0 (dt fz cZ rfl rfl rfl:al E 100 (H1.n+0) 0 (ff H1 bL bQ bP bM bR bO bN)=some (.agg (dN bL bQ bP bM bR bO bN).toArray))<|Y 3 (ag 1 av (y1.old ei (bt (dN bL bQ bP bM bR bO bN))))<|Y 3 (ag 3 av (y1.old ei (bt (dN bL bQ bP bM bR bO bN))))<|aB 0 (stx 0 (.agg (dN bL bQ bP bM bR bO bN).toArray) cZ (y1.old aS (bt (dN bL bQ bP bM bR bO bN))) e2)<|az [] (dO (y1.news (bt (dN bL bQ bP bM bR bO bN))) (y1.old aS (bt (dN bL bQ bP bM bR bO bN))):cK (ff H1 bL bQ bP bM bR bO bN) aK [H.n+0]=true)<|aE [am 1]<|qo [] ((cd fz cZ ca rfl rfl):al E 100 (H.n+0) 0 aK=some (.agg (dN bL bQ bP bM bR bO bN).toArray)) (j5 (M dW)) (j5 (M 0))<|fI 0 [.agg (dN bL bQ bP bM bR bO bN).toArray,M dW,M 0] (.tuple #[.agg (dN bL bQ bP bM bR bO bN).toArray,M dW,M 0]) aK [H.n+1,H1.n+0,H.n+0] aJ aL (.inl ⟨_,_,⟨_,_,_,_,_,_,_,rfl⟩,rfl,Rb J fk J⟩)
 have c8:=uT ak
 have aS:=(y.news [O dI 100,O (fS s 0 0 0) 119]).kept ak bU (aR [O dI 100,O (fS s 0 0 0) 119] H 0 _ rfl)
 obtain ⟨aK,e2⟩:∃ ao,ao=(ff H1 bL bQ bP bM bR bO bN).set (H.n+0) (O (dN bL bQ bP bM bR bO bN) 100):=⟨_,rfl⟩
 have cB:aK.n=H1.n+1:=by rw [e2,Z.cI,dj] <;> rfl
 have ca:=bz e2
 exact ac 5 c1<|aB 1 (bG cZ rfl rfl rfl rfl:bu E 100 (H1.n+0) 0 (.agg (dN bL bQ bP bM bR bO bN).toArray) (FI H1)=some (ff H1 bL bQ bP bM bR bO bN))<|Y 3 (ag 3 av (y1.old ei (bt (dN bL bQ bP bM bR bO bN))))<|ay 0 (beq_eq_false_iff_ne.2 J:(o6==0)=false)<|aE [am 1]<|io [] (bk:(H.n+0)<(ff H1 bL bQ bP bM bR bO bN).n∨(ff H1 bL bQ bP bM bR bO bN).n≤(H.n+0)) (bk:(H.n+0)<(ff H1 bL bQ bP bM bR bO bN).n∨(ff H1 bL bQ bP bM bR bO bN).n≤(H.n+0)) (bk:(H.n+0)<(ff H1 bL bQ bP bM bR bO bN).n∨(ff H1 bL bQ bP bM bR bO bN).n≤(H.n+0)) (bk:(H.n+0)≠(H.n+1)) (bk:(H.n+0)<(ff H1 bL bQ bP bM bR bO bN).n∨(ff H1 bL bQ bP bM bR bO bN).n≤(H.n+0)) (bk:(H.n+0)<(ff H1 bL bQ bP bM bR bO bN).n∨(ff H1 bL bQ bP bM bR bO bN).n≤(H.n+0))<|Lc [] (bk:(H.n+0)<(ff H1 bL bQ bP bM bR bO bN).n∨(ff H1 bL bQ bP bM bR bO bN).n≤(H.n+0)) (bk:(H.n+0)<(ff H1 bL bQ bP bM bR bO bN).n∨(ff H1 bL bQ bP bM bR bO bN).n≤(H.n+0)) (bk:(H.n+0)≠(H.n+1)) (bk:(H.n+0)<(ff H1 bL bQ bP bM bR bO bN).n∨(ff H1 bL bQ bP bM bR bO bN).n≤(H.n+0))<|Y 0 (dt fz cZ rfl rfl rfl:al E 100 (H1.n+0) 0 (ff H1 bL bQ bP bM bR bO bN)=some (.agg (dN bL bQ bP bM bR bO bN).toArray))<|Y 3 (ag 1 av (y1.old ei (bt (dN bL bQ bP bM bR bO bN))))<|Y 3 (ag 3 av (y1.old ei (bt (dN bL bQ bP bM bR bO bN))))<|aB 0 (stx 0 (.agg (dN bL bQ bP bM bR bO bN).toArray) cZ (y1.old aS (bt (dN bL bQ bP bM bR bO bN))) e2)<|az [] (dO (y1.news (bt (dN bL bQ bP bM bR bO bN))) (y1.old aS (bt (dN bL bQ bP bM bR bO bN))):cK (ff H1 bL bQ bP bM bR bO bN) aK [H.n+0]=true)<|aE [am 1]<|qo [] ((cd fz cZ ca rfl rfl):al E 100 (H.n+0) 0 aK=some (.agg (dN bL bQ bP bM bR bO bN).toArray)) (j5 (M dW)) (j5 (M o6))<|fI 0 [.agg (dN bL bQ bP bM bR bO bN).toArray,M dW,M o6] (.tuple #[.agg (dN bL bQ bP bM bR bO bN).toArray,M dW,M o6]) aK [H.n+1,H1.n+0,H.n+0] aJ aL (.inr ⟨_,_,_,⟨_,_,_,_,_,_,_,rfl⟩,rfl,J,KO fk⟩)
noncomputable abbrev vF o a s:=([M o,.string a,.string s]:List Value)
theorem adC (o:Int) (a:ByteArray) (s:ByteArray) {H:Z} (y:aa E G H) (ha:(a.size:Int)<100000):aV E G 45 [.agg (vF o a s).toArray] H [] (fun v H'=>v=(.bool (jg o a s))):=by
 refine bB Tryz.f45 y ?_
 obtain ⟨_,H1,c1,ak,y1,bE⟩:=adz s (y.news (n7 (vF o a s)))
 refine Y 3 (aQ (news H (n7 (vF o a s))) 0 2 bA)<|?_
 rcases bE with ⟨_,pb,⟨bL,bQ,bP,bM,bR,bO,bN,rfl⟩,rfl,hx⟩ |⟨_,pb,o6,⟨bL,bQ,bP,bM,bR,bO,bN,rfl⟩,rfl,hw1,hx⟩
 ·have c8:=d9 ak
  have aS:=(y.news (n7 (vF o a s))).kept ak aq (aR (n7 (vF o a s)) H 0 _ rfl)
  refine ac 0 c1<|aB 5 (bG cZ rfl rfl rfl rfl:bu E 100 (H1.n+0) 0 (.agg (dN bL bQ bP bM bR bO bN).toArray) (FI H1)=some (ff H1 bL bQ bP bM bR bO bN))<|Y 3 (ag 1 bA (y1.old aS (bt (dN bL bQ bP bM bR bO bN))))<|?_
  cases h2:(jh a) with
  |true=>
   refine ac 0 (cP h2 (AB a J (y1.news (bt (dN bL bQ bP bM bR bO bN)))))<|Y 2 (ag 2 bA (y1.old aS (bt (dN bL bQ bP bM bR bO bN))))<|?_
   cases h3:(lV s) with
   |true=>
    refine ac 0 (cP h3 (AD s (y1.news (bt (dN bL bQ bP bM bR bO bN)))))<|Y 3 (ag 0 av (y1.old aS (bt (dN bL bQ bP bM bR bO bN))))<|aY 0 o 1 ?_ ?_ <;> intro h4 cO
    ·exact bf 6 aw (ff H1 bL bQ bP bM bR bO bN) [H1.n+0] aJ aL (by rw [jg,h2,h3,h4,hx] <;> rfl)
    refine Y 2 (ag 0 av (y1.old aS (bt (dN bL bQ bP bM bR bO bN))))<|aY 0 o 2 ?_ ?_ <;> intro h5 dc
    ·exact bf 5 aw (ff H1 bL bQ bP bM bR bO bN) [H1.n+0] aJ aL (by rw [jg,h2,h3,h4,h5,hx] <;> rfl)
    refine Y 3 (ag 0 av (y1.old aS (bt (dN bL bQ bP bM bR bO bN))))<|aY 0 o 3 ?_ ?_ <;> intro h6 di
    ·exact bf 9 aw (ff H1 bL bQ bP bM bR bO bN) [H1.n+0] aJ aL (by rw [jg,h2,h3,h4,h5,h6,hx] <;> rfl)
    refine Y 2 (ag 0 av (y1.old aS (bt (dN bL bQ bP bM bR bO bN))))<|aY 0 o 4 ?_ ?_ <;> intro h7 gM
    ·exact bf 8 aw (ff H1 bL bQ bP bM bR bO bN) [H1.n+0] aJ aL (by rw [jg,h2,h3,h4,h5,h6,h7,hx] <;> rfl)
    exact bf 6 U (ff H1 bL bQ bP bM bR bO bN) [H1.n+0] aJ aL (by rw [jg,h2,h3,h4,h5,h6,h7,hx] <;> rfl)
   |false=>
    exact ac 0 (cP h3 (AD s (y1.news (bt (dN bL bQ bP bM bR bO bN)))))<|bf 4 U (ff H1 bL bQ bP bM bR bO bN) [H1.n+0] aJ aL (by rw [jg,h2,h3,hx] <;> rfl)
  |false=>
   exact ac 0 (cP h2 (AB a J (y1.news (bt (dN bL bQ bP bM bR bO bN)))))<|bf 5 U (ff H1 bL bQ bP bM bR bO bN) [H1.n+0] aJ aL (by rw [jg,h2,hx] <;> rfl)
 have c8:=d9 ak
 have aS:=(y.news (n7 (vF o a s))).kept ak aq (aR (n7 (vF o a s)) H 0 _ rfl)
 refine ac 0 c1<|aB 5 (bG cZ rfl rfl rfl rfl:bu E 100 (H1.n+0) 0 (.agg (dN bL bQ bP bM bR bO bN).toArray) (FI H1)=some (ff H1 bL bQ bP bM bR bO bN))<|Y 3 (ag 1 bA (y1.old aS (bt (dN bL bQ bP bM bR bO bN))))<|?_
 cases h2:(jh a) with
 |true=>
  refine ac 0 (cP h2 (AB a J (y1.news (bt (dN bL bQ bP bM bR bO bN)))))<|Y 2 (ag 2 bA (y1.old aS (bt (dN bL bQ bP bM bR bO bN))))<|?_
  cases h3:(lV s) with
  |true=>
   refine ac 0 (cP h3 (AD s (y1.news (bt (dN bL bQ bP bM bR bO bN)))))<|Y 3 (ag 0 av (y1.old aS (bt (dN bL bQ bP bM bR bO bN))))<|aY 0 o 1 ?_ ?_ <;> intro h4 cO
   ·exact bf 6 aw (ff H1 bL bQ bP bM bR bO bN) [H1.n+0] aJ aL (by rw [jg,h2,h3,h4,hx] <;> rfl)
   refine Y 2 (ag 0 av (y1.old aS (bt (dN bL bQ bP bM bR bO bN))))<|aY 0 o 2 ?_ ?_ <;> intro h5 dc
   ·exact bf 5 aw (ff H1 bL bQ bP bM bR bO bN) [H1.n+0] aJ aL (by rw [jg,h2,h3,h4,h5,hx] <;> rfl)
   refine Y 3 (ag 0 av (y1.old aS (bt (dN bL bQ bP bM bR bO bN))))<|aY 0 o 3 ?_ ?_ <;> intro h6 di
   ·exact ay 4 (beq_eq_false_iff_ne.2 J:(o6==0)=false)<|bf 4 U (ff H1 bL bQ bP bM bR bO bN) [H1.n+0] aJ aL (by rw [jg,h2,h3,h4,h5,h6,hx] <;> rfl)
   refine Y 2 (ag 0 av (y1.old aS (bt (dN bL bQ bP bM bR bO bN))))<|aY 0 o 4 ?_ ?_ <;> intro h7 gM
   ·exact ay 3 (beq_eq_false_iff_ne.2 J:(o6==0)=false)<|bf 4 U (ff H1 bL bQ bP bM bR bO bN) [H1.n+0] aJ aL (by rw [jg,h2,h3,h4,h5,h6,h7,hx] <;> rfl)
   exact bf 6 U (ff H1 bL bQ bP bM bR bO bN) [H1.n+0] aJ aL (by rw [jg,h2,h3,h4,h5,h6,h7,hx] <;> rfl)
  |false=>
   exact ac 0 (cP h3 (AD s (y1.news (bt (dN bL bQ bP bM bR bO bN)))))<|bf 4 U (ff H1 bL bQ bP bM bR bO bN) [H1.n+0] aJ aL (by rw [jg,h2,h3,hx] <;> rfl)
 |false=>
  exact ac 0 (cP h2 (AB a J (y1.news (bt (dN bL bQ bP bM bR bO bN)))))<|bf 5 U (ff H1 bL bQ bP bM bR bO bN) [H1.n+0] aJ aL (by rw [jg,h2,hx] <;> rfl)
theorem QM (o:Int) (a:ByteArray) (s:ByteArray) (ha:(a.size:Int)<100000):∀{H:Z},aa E G H→bF E 45 [.agg (vF o a s).toArray] H (.ret (.bool (jg o a s))) H []:=by
 obtain ⟨_,_,c,_,_,rfl⟩:=adC o a s eH ha
 exact fun y=>eh (Gf _) (.ground rfl) c y
theorem PZ (s:ByteArray) (l:List ByteArray):mj (s::l)=(!jh s||mj l):=rfl
theorem PY {b:Bool} (h:b=true):(!b)=false:=by rw [h];rfl
theorem PW {b:Bool} (h:b=false):(!b)=true:=by rw [h];rfl
theorem JM {x:bh} (h:mj x.ns=false) (h1:0≤x.f.how∧x.f.how≤2∧(x.f.how=0→(x.f.nn:Int)=0)∧(x.f.nn:Int)≤16):mh x=true:=by
 rw [mh,h,decide_eq_false (show ¬ x.f.how<0 by omega),decide_eq_false (show ¬ x.f.how>2 by omega),decide_eq_false (show ¬ (x.f.nn:Int)>16 by omega)]
 cases e:(x.f.how==0) with
 |false=>rfl
 |true=>rw [decide_eq_false (show ¬ (x.f.nn:Int)>0 by have:=h1.2.2.1 (pr e);omega)];rfl
theorem Aa {x:bh} (h:mj x.ns=true∨¬ (0≤x.f.how∧x.f.how≤2∧(x.f.how=0→(x.f.nn:Int)=0)∧(x.f.nn:Int)≤16)):mh x=false:=by
 cases e:mh x with
 |false=>rfl
 |true=>
  simp only [mh,dZ,Bool.not_eq_true',decide_eq_false_iff_not,Bool.and_eq_false_iff,beq_eq_false_iff_ne] at e
  obtain ⟨e1,e2,bc,aN,bJ⟩:=e
  rcases h with h |h
  ·rw [bJ] at h;cases h
  ·exact absurd ⟨J,J,fun h0=>by rcases bc with bc |bc <;> omega,J⟩ h
noncomputable def Ff:Array Field:=match fr E.P (underlying 40) with |some (.struct fs)=>fs |_=>#[]
noncomputable def mf (i:Nat):Field:=(Ff.toList[i]?).getD default
theorem abj:Ff=#[mf 0,mf 1,mf 2]:=an
noncomputable abbrev vI k a t:=([.int .i64 k,.string a,.string t]:List Value)
theorem abm (k:Int) (a t:ByteArray):fr E.P (Op.equalIn (9999+1) 40 (.agg (vI k a t).toArray) (.agg (vI k a t).toArray))=some true:=by
 rw [Op.equalIn]
 rw [pH (a:=.struct Ff) an]
 simp only []
 rw [pH (a:=E.P) (by rfl)]
 rw [if_neg (by rw [show E.P.stoodInHeld 40=false by kernel_rfl];simp)]
 have hq:=HM (xs:=#[.int .i64 k,.string a,.string t]) (ys:=#[.int .i64 k,.string a,.string t]) [(mf 0,k==k),(mf 1,a==a),(mf 2,t==t)] (by
  intro f hf st
  simp only [List.mem_cons,aq,or_false] at hf
  rcases hf with rfl |rfl |rfl
  ·exact zB (a:=.int .i64 k) (b:=.int .i64 k) an an an an
  ·exact zB (a:=.string a) (b:=.string a) an an an an
  ·exact zB (a:=.string t) (b:=.string t) an an an an)
 have e:([(mf 0,k==k),(mf 1,a==a),(mf 2,t==t)].all (·.2))=true:=by
  simp only [List.all_cons,List.all_nil,beq_self_eq_true,D0.2 rfl,Bool.and_self]
 rw [e] at hq
 have vW:fr E.P (forIn Ff ((none:Option Bool),()) (zA #[.int .i64 k,.string a,.string t] #[.int .i64 k,.string a,.string t]))=some (none,()):=by
  rw [abj,← Array.forIn_toList];exact hq
 exact (pH vW).trans rfl
theorem abl (k:Int) (a t:ByteArray):Ej E .neq 40 (.tmp 114) (.tmp 119) (.agg (vI k a t).toArray) (.agg (vI k a t).toArray)=some U:=by
 have h:fr E.P (do eqGuard .neq 40 (.tmp 114) (.tmp 119) (.agg (vI k a t).toArray) (.agg (vI k a t).toArray);binOp .neq 40 (.agg (vI k a t).toArray) (.agg (vI k a t).toArray))=some U:=by
  rw [pH (a:=()) an]
  exact (pH (abm k a t)).trans rfl
 show (match fr E.P _ with |some v=>bif ground v then some v else none |none=>none)=_
 rw [h];rfl
def gU (f g:dR):Bool:=!(f.k != g.k)&&(!(f.op != g.op)&&(!(f.v != g.v)&&(!(!(f.s.toList==g.s.toList))&&(!(((f.nm:Nat):Int) != ((g.nm:Nat):Int))&&(!(f.wide != g.wide)&&(!(f.off != g.off)&&((f.ha==g.ha)&&(!(f.at_ != g.at_)&&(!(f.how != g.how) &&
 (!(((f.nn:Nat):Int) != ((g.nn:Nat):Int))&&((f.d8==g.d8)&&!(((f.aj:Nat):Int) != ((g.aj:Nat):Int)))))))))))))
theorem aeA (f:dR):gU f f=true:=by simp [gU]
noncomputable def Vv:Code:=cw [1,0,1,0,0] (cx Tryz.f48)
theorem adt (x:bh) (X:Z) (hx:aa E G X) (a:e9 X x) (hz:jX x) (bX:Nat) (R:Bool):∀(m:Nat) (aO:Int) (H:Z),aa E X H→(kb:H.get bX=some (O (ai x.f) 27))→(x0:0≤aO)→(hR:mj (x.ns.drop aO.toNat)=R)→((x.f.nn:Int)-aO).toNat=m→
  bV E X 43 Vv [(1,pt bX 0),(3,M aO)] H [] (fun fB T H'=>(fB=(.exit 0)∧T=aP [(1,pt bX 0)]∧(R=false))∨(fB=.ret∧T=aP [(2,U)]∧(R=true))):=by
 refine dJ fun m ih=>?_
 intro aO H y kb x0 hR hm
 have fO:=a.fO
 refine cN y ?_
 refine Y 2 (ag 10 jz kb)<|aD 1 (aO<(x.f.nn:Int)) ?_ ?_ <;> intro h1 q1
 ·obtain ⟨d1,j0,t1,fb,dT⟩:=a.rn.open J
  have fH:=hx.wf.lt dT
  obtain ⟨aC,m2⟩:=a.Fl (i:=aO.toNat) J
  refine Y 1 (ag 10 jz kb)<|gY 1 H (hI Dq nC fb J J:gk E 24 (.slice x.f.aX x.f.nn x.f.bo) (M aO)=some (pt d1 (0+aO.toNat*1)))<|Y 0 (CU bA (y.cell dT fH) m2 J:al E 9 d1 (0+aO.toNat*1) H=some (.string aC))<|?_
  cases h2:(jh aC) with
  |true=>
   exact ac 0 (cP h2 (AB aC (hz.ns aC (nv m2)) (gK hx y)))<|aH 2 (aO+1)<|du 1 [(1,pt bX 0),(3,M (aO+1))] H (ih _ J (aO+1) _ y kb J (by rw [gp J];exact (sL (F:=mj) PZ m2 hR (PY h2))) rfl)
  |false=>
   exact ac 0 (cP h2 (AB aC (hz.ns aC (nv m2)) (gK hx y)))<|cF 2 [(2,U)] .ret H (.inr ⟨rfl,rfl,sK (F:=mj) PZ m2 hR (PW h2)⟩)
 exact cF 0 [(1,pt bX 0)] (.exit 0) H (.inl ⟨rfl,rfl,sJ (F:=mj) rfl hR (by have:=a.nn;omega)⟩)
theorem Kx (x:bh) (X:Z) (hx:aa E G X) (a:e9 X x) (hz:jX x) {H:Z} (y:aa E X H):aV E X 48 [.agg (ai x.f).toArray] H [] (fun v H'=>v=.bool (mh x)):=by
 refine bB Tryz.f48 y ?_
 obtain ⟨_,_,H1,c1,ak,y1,bE⟩:=(adt x X hx a hz (H.n+0) (mj (x.ns.drop 0)) _ 0 _ (y.news [O (ai x.f) 27]) (aR [O (ai x.f) 27] H 0 _ rfl) J rfl rfl).code
 rcases bE with ⟨rfl,rfl,aI⟩ |⟨rfl,rfl,aI⟩
 ·have aS:=(y.news [O (ai x.f) 27]).kept ak aq (aR [O (ai x.f) 27] H 0 _ rfl)
  refine bx 3 c1<|Y 1 (ag 9 av aS)<|aY 0 x.f.how 0 ?_ ?_ <;> intro h2 cv
  ·refine Y 2 (ag 10 jz aS)<|aY 1 (x.f.nn:Int) 0 ?_ ?_ <;> intro h3 cY
   ·refine Y 7 (ag 10 jz aS)<|aD 1 ((x.f.nn:Int)≤16) ?_ ?_ <;> intro h4 cO
    ·exact af 2 aw H1 (congrArg Value.bool (JM aI J).symm)
    exact af 2 U H1 (congrArg Value.bool (Aa (.inr J)).symm)
   exact Y 3 (ag 9 av aS)<|ay 0 (beq_eq_false_iff_ne.2 J:(x.f.how==1)=false)<|Y 3 (ag 9 av aS)<|ay 0 (beq_eq_false_iff_ne.2 J:(x.f.how==2)=false)<|af 4 U H1 (congrArg Value.bool (Aa (.inr J)).symm)
  refine Y 4 (ag 9 av aS)<|aY 0 x.f.how 1 ?_ ?_ <;> intro h3 cY
  ·refine Y 5 (ag 10 jz aS)<|aD 1 ((x.f.nn:Int)≤16) ?_ ?_ <;> intro h4 cO
   ·exact af 2 aw H1 (congrArg Value.bool (JM aI J).symm)
   exact af 2 U H1 (congrArg Value.bool (Aa (.inr J)).symm)
  refine Y 3 (ag 9 av aS)<|aY 0 x.f.how 2 ?_ ?_ <;> intro h4 cO
  ·refine Y 3 (ag 10 jz aS)<|aD 1 ((x.f.nn:Int)≤16) ?_ ?_ <;> intro h5 dc
   ·exact af 2 aw H1 (congrArg Value.bool (JM aI J).symm)
   exact af 2 U H1 (congrArg Value.bool (Aa (.inr J)).symm)
  exact af 4 U H1 (congrArg Value.bool (Aa (.inr J)).symm)
 exact bx 3 c1<|af 0 U H1 (congrArg Value.bool (Aa (.inl aI)).symm)
noncomputable def VH:Code:=cw [1,1,0,1,0,0] (cx Tryz.f49)
noncomputable abbrev iz (f:dR) pm nm br aX nn bo pk aj ax:=([M f.k,M f.op,ap f.v,.string f.s,.slice pm nm br,M f.wide,M f.off,.bool f.ha,M f.at_,M f.how,.slice aX nn bo,.bool f.d8,.slice pk aj ax]:List Value)
theorem Gl (x:bh) (X:Z) (hx:aa E G X) (a:e9 X x) (f:dR) (pm:Option Addr) (nm:Nat) (br:Nat) (aX:Option Addr) (nn:Nat) (bo:Nat) (pk:Option Addr) (aj:Nat) (ax:Nat) (sm:(pm=x.f.pm∧nm=x.f.nm)∨nm=0) (ba:Nat) (bX:Nat):∀(m:Nat) (ah:Int) (H:Z),aa E X H→(ka:H.get ba=some (O (iz f pm nm br aX nn bo pk aj ax) 27))→(kb:H.get bX=some (O (ai x.f) 27))→(x0:0≤ah)→((nm:Int)-ah).toNat=m→
  bV E X 158 VH [(2,pt ba 0),(3,pt bX 0),(5,M ah)] H [] (fun fB T H'=>(fB=(.exit 0)∧T=aP [(2,pt ba 0),(3,pt bX 0)])):=by
 refine dJ fun m ih=>?_
 intro ah H y ka kb x0 hm
 have bd:=a.bm
 refine cN y ?_
 refine Y 2 (ag 4 k3 ka)<|aD 1 (ah<(nm:Int)) ?_ ?_ <;> intro h1 q1
 ·obtain ⟨rfl,rfl⟩:=sm.resolve_right J
  obtain ⟨d1,j0,t1,fb,dT⟩:=a.q4.open J
  have fH:=hx.wf.lt dT
  obtain ⟨aC,m2⟩:=a.CA (i:=ah.toNat) J
  exact Y 1 (ag 4 k3 ka)<|gY 1 H (hI wK qr fb J J:gk E 23 (.slice x.f.pm x.f.nm br) (M ah)=some (pt d1 (0+ah.toNat*3)))<|Y 0 (Fj Bj qr (y.cell dT fH) m2 J:al E 40 d1 (0+ah.toNat*3) H=some (.agg #[M aC.1,.string aC.2.1,.string aC.2.2]))<|Y 1 (ag 4 k3 kb)<|gY 1 H (hI wK qr fb J J:gk E 23 (.slice x.f.pm x.f.nm x.f.br) (M ah)=some (pt d1 (0+ah.toNat*3)))<|Y 0 (Fj Bj qr (y.cell dT fH) m2 J:al E 40 d1 (0+ah.toNat*3) H=some (.agg #[M aC.1,.string aC.2.1,.string aC.2.2]))<|az [bw U H] (abl aC.1 aC.2.1 aC.2.2)<|aH 1 (ah+1)<|du 1 [(2,pt ba 0),(3,pt bX 0),(5,M (ah+1))] H (ih _ J (ah+1) _ y ka kb J rfl)
 exact cF 0 [(2,pt ba 0),(3,pt bX 0)] (.exit 0) H ⟨rfl,rfl⟩
noncomputable def VI:Code:=cw [1,1,1,0,1,0,0] (cx Tryz.f49)
theorem Gm (x:bh) (X:Z) (hx:aa E G X) (a:e9 X x) (f:dR) (pm:Option Addr) (nm:Nat) (br:Nat) (aX:Option Addr) (nn:Nat) (bo:Nat) (pk:Option Addr) (aj:Nat) (ax:Nat) (wG:(aX=x.f.aX∧nn=x.f.nn)∨nn=0) (ba:Nat) (bX:Nat):∀(m:Nat) (bD:Int) (H:Z),aa E X H→(ka:H.get ba=some (O (iz f pm nm br aX nn bo pk aj ax) 27))→(kb:H.get bX=some (O (ai x.f) 27))→(x0:0≤bD)→((nn:Int)-bD).toNat=m→
  bV E X 158 VI [(2,pt ba 0),(3,pt bX 0),(6,M bD)] H [] (fun fB T H'=>(fB=(.exit 2)∧T=aP [(2,pt ba 0),(3,pt bX 0)])):=by
 refine dJ fun m ih=>?_
 intro bD H y ka kb x0 hm
 have bd:=a.fO
 refine cN y ?_
 refine Y 2 (ag 10 jz ka)<|aD 1 (bD<(nn:Int)) ?_ ?_ <;> intro h1 q1
 ·obtain ⟨rfl,rfl⟩:=wG.resolve_right J
  obtain ⟨d1,j0,t1,fb,dT⟩:=a.rn.open J
  have fH:=hx.wf.lt dT
  obtain ⟨aC,m2⟩:=a.Fl (i:=bD.toNat) J
  have w1:(!(aC.toList==aC.toList))=false:=(by rw [beq_self_eq_true];rfl)
  exact Y 1 (ag 10 jz ka)<|gY 1 H (hI Dq nC fb J J:gk E 24 (.slice x.f.aX x.f.nn bo) (M bD)=some (pt d1 (0+bD.toNat*1)))<|Y 0 (CU bA (y.cell dT fH) m2 J:al E 9 d1 (0+bD.toNat*1) H=some (.string aC))<|Y 1 (ag 10 jz kb)<|gY 1 H (hI Dq nC fb J J:gk E 24 (.slice x.f.aX x.f.nn x.f.bo) (M bD)=some (pt d1 (0+bD.toNat*1)))<|Y 0 (CU bA (y.cell dT fH) m2 J:al E 9 d1 (0+bD.toNat*1) H=some (.string aC))<|ay 0 w1<|aH 1 (bD+1)<|du 1 [(2,pt ba 0),(3,pt bX 0),(6,M (bD+1))] H (ih _ J (bD+1) _ y ka kb J rfl)
 exact cF 0 [(2,pt ba 0),(3,pt bX 0)] (.exit 2) H ⟨rfl,rfl⟩
noncomputable def VG:Code:=cw [1,1,1,1,0,1,0,0] (cx Tryz.f49)
theorem Gk (x:bh) (X:Z) (hx:aa E G X) (a:e9 X x) (f:dR) (pm:Option Addr) (nm:Nat) (br:Nat) (aX:Option Addr) (nn:Nat) (bo:Nat) (pk:Option Addr) (aj:Nat) (ax:Nat) (AP:(pk=x.f.pk∧aj=x.f.aj)∨aj=0) (fm:∀ k∈x.kids,∀{H:Z},aa E X H→aV E X 49 [.agg (ai k.f).toArray,.agg (ai k.f).toArray] H [] (fun v _=>v=aw)) (ba:Nat) (bX:Nat):∀(m:Nat) (bg:Int) (H:Z),aa E X H→(ka:H.get ba=some (O (iz f pm nm br aX nn bo pk aj ax) 27))→(kb:H.get bX=some (O (ai x.f) 27))→(x0:0≤bg)→((aj:Int)-bg).toNat=m→
  bV E X 158 VG [(2,pt ba 0),(3,pt bX 0),(7,M bg)] H [] (fun fB T H'=>(fB=(.exit 4)∧T=aP [])):=by
 refine dJ fun m ih=>?_
 intro bg H y ka kb x0 hm
 have bd:=a.ot
 refine cN y ?_
 refine Y 2 (ag 12 ef ka)<|aD 1 (bg<(aj:Int)) ?_ ?_ <;> intro h1 q1
 ·obtain ⟨rfl,rfl⟩:=AP.resolve_right J
  obtain ⟨d1,j0,t1,fb,dT⟩:=a.rk.open J
  have fH:=hx.wf.lt dT
  obtain ⟨aC,m2⟩:=a.rV (i:=bg.toNat) J
  obtain ⟨_,H1,c1,ak,y1,rfl⟩:=fm aC (nv m2) y
  have Zf:=y.kept ak aq ka
  have fP:=y.kept ak aq kb
  exact Y 1 (ag 12 ef ka)<|gY 1 H (hI my ct fb J J:gk E 25 (.slice x.f.pk x.f.aj ax) (M bg)=some (pt d1 (0+bg.toNat*13)))<|Y 0 (mP c4 ct (y.cell dT fH) m2 J:al E 27 d1 (0+bg.toNat*13) H=some (.agg (ai aC.f).toArray))<|Y 1 (ag 12 ef kb)<|gY 1 H (hI my ct fb J J:gk E 25 (.slice x.f.pk x.f.aj x.f.ax) (M bg)=some (pt d1 (0+bg.toNat*13)))<|Y 0 (mP c4 ct (y.cell dT fH) m2 J:al E 27 d1 (0+bg.toNat*13) H=some (.agg (ai aC.f).toArray))<|ac 0 c1<|aH 2 (bg+1)<|du 1 [(2,pt ba 0),(3,pt bX 0),(7,M (bg+1))] H1 (ih _ J (bg+1) _ y1 Zf fP J rfl)
 exact cF 0 [] (.exit 4) H ⟨rfl,rfl⟩
noncomputable abbrev dm H (f:dR) pm nm br aX nn bo pk aj ax (x:bh):=news H [O (iz f pm nm br aX nn bo pk aj ax) 27,O (ai x.f) 27]
theorem tL (x:bh) (X:Z) (hx:aa E G X) (a:e9 X x) (f:dR) (pm:Option Addr) (nm:Nat) (br:Nat) (aX:Option Addr) (nn:Nat) (bo:Nat) (pk:Option Addr) (aj:Nat) (ax:Nat) {H:Z} (y:aa E X H) (sm:(pm=x.f.pm∧nm=x.f.nm)∨nm=0) (wG:(aX=x.f.aX∧nn=x.f.nn)∨nn=0) (AP:(pk=x.f.pk∧aj=x.f.aj)∨aj=0) (fm:∀ k∈x.kids,∀{H:Z},aa E X H→aV E X 49 [.agg (ai k.f).toArray,.agg (ai k.f).toArray] H [] (fun v _=>v=aw)):aV E X 49 [.agg (iz f pm nm br aX nn bo pk aj ax).toArray,.agg (ai x.f).toArray] H [] (fun v H'=>v=.bool (gU ({ f with pm:=pm,nm:=nm,br:=br,aX:=aX,nn:=nn,bo:=bo,pk:=pk,aj:=aj,ax:=ax }) x.f)):=by
 refine bB Tryz.f49 y ?_
 refine Y 4 (aQ (dm H f pm nm br aX nn bo pk aj ax x) 0 0 av)<|Y 1 (aQ (dm H f pm nm br aX nn bo pk aj ax x) 1 0 av)<|d7 0 f.k x.f.k ?_ ?_ <;> intro h1 q1
 ·exact af 25 U (dm H f pm nm br aX nn bo pk aj ax x) (by rw [gU,h1] <;> rfl)
 refine Y 2 (aQ (dm H f pm nm br aX nn bo pk aj ax x) 0 1 av)<|Y 1 (aQ (dm H f pm nm br aX nn bo pk aj ax x) 1 1 av)<|d7 0 f.op x.f.op ?_ ?_ <;> intro h2 cv
 ·exact af 24 U (dm H f pm nm br aX nn bo pk aj ax x) (by rw [gU,h1,h2] <;> rfl)
 refine Y 3 (aQ (dm H f pm nm br aX nn bo pk aj ax x) 0 2 kZ)<|Y 1 (aQ (dm H f pm nm br aX nn bo pk aj ax x) 1 2 kZ)<|d7 0 f.v x.f.v ?_ ?_ <;> intro h3 cY
 ·exact af 22 U (dm H f pm nm br aX nn bo pk aj ax x) (by rw [gU,h1,h2,h3] <;> rfl)
 refine Y 3 (aQ (dm H f pm nm br aX nn bo pk aj ax x) 0 3 bA)<|Y 1 (aQ (dm H f pm nm br aX nn bo pk aj ax x) 1 3 bA)<|d5 0 (!(f.s.toList==x.f.s.toList)) (fun h4=>?_) fun h4=>?_
 ·exact af 20 U (dm H f pm nm br aX nn bo pk aj ax x) (by rw [gU,h1,h2,h3,h4] <;> rfl)
 refine Y 3 (aQ (dm H f pm nm br aX nn bo pk aj ax x) 0 4 k3)<|Y 2 (aQ (dm H f pm nm br aX nn bo pk aj ax x) 1 4 k3)<|d7 1 (nm:Int) (x.f.nm:Int) ?_ ?_ <;> intro h5 dc
 ·exact af 18 U (dm H f pm nm br aX nn bo pk aj ax x) (by rw [gU,h1,h2,h3,h4,h5] <;> rfl)
 refine Y 3 (aQ (dm H f pm nm br aX nn bo pk aj ax x) 0 5 fQ)<|Y 1 (aQ (dm H f pm nm br aX nn bo pk aj ax x) 1 5 fQ)<|d7 0 f.wide x.f.wide ?_ ?_ <;> intro h6 di
 ·exact af 16 U (dm H f pm nm br aX nn bo pk aj ax x) (by rw [gU,h1,h2,h3,h4,h5,h6] <;> rfl)
 refine Y 3 (aQ (dm H f pm nm br aX nn bo pk aj ax x) 0 6 fQ)<|Y 1 (aQ (dm H f pm nm br aX nn bo pk aj ax x) 1 6 fQ)<|d7 0 f.off x.f.off ?_ ?_ <;> intro h7 gM
 ·exact af 14 U (dm H f pm nm br aX nn bo pk aj ax x) (by rw [gU,h1,h2,h3,h4,h5,h6,h7] <;> rfl)
 refine aE [am 2]<|?_
 rcases df f.ha with h8 |h8
 ·refine az [bw aw (dm H f pm nm br aX nn bo pk aj ax x)] ((aQ (dm H f pm nm br aX nn bo pk aj ax x) 0 7 fK).trans (congrArg (fun q=>some (Value.bool q)) h8))<|aE [am 0]<|?_
  rcases df x.f.ha with h9 |h9
  ·refine az [bw aw (dm H f pm nm br aX nn bo pk aj ax x)] ((aQ (dm H f pm nm br aX nn bo pk aj ax x) 1 7 fK).trans (congrArg (fun q=>some (Value.bool q)) h9))<|Y 4 (aQ (dm H f pm nm br aX nn bo pk aj ax x) 0 8 fQ)<|Y 1 (aQ (dm H f pm nm br aX nn bo pk aj ax x) 1 8 fQ)<|d7 0 f.at_ x.f.at_ ?_ ?_ <;> intro h10 oP
   ·exact af 10 U (dm H f pm nm br aX nn bo pk aj ax x) (by rw [gU,h1,h2,h3,h4,h5,h6,h7,h8,h9,h10] <;> rfl)
   refine Y 3 (aQ (dm H f pm nm br aX nn bo pk aj ax x) 0 9 av)<|Y 1 (aQ (dm H f pm nm br aX nn bo pk aj ax x) 1 9 av)<|d7 0 f.how x.f.how ?_ ?_ <;> intro h11 ym
   ·exact af 8 U (dm H f pm nm br aX nn bo pk aj ax x) (by rw [gU,h1,h2,h3,h4,h5,h6,h7,h8,h9,h10,h11] <;> rfl)
   refine Y 3 (aQ (dm H f pm nm br aX nn bo pk aj ax x) 0 10 jz)<|Y 2 (aQ (dm H f pm nm br aX nn bo pk aj ax x) 1 10 jz)<|d7 1 (nn:Int) (x.f.nn:Int) ?_ ?_ <;> intro h12 ql
   ·exact af 6 U (dm H f pm nm br aX nn bo pk aj ax x) (by rw [gU,h1,h2,h3,h4,h5,h6,h7,h8,h9,h10,h11,h12] <;> rfl)
   refine aE [am 2]<|?_
   rcases df f.d8 with eX |eX
   ·refine az [bw aw (dm H f pm nm br aX nn bo pk aj ax x)] ((aQ (dm H f pm nm br aX nn bo pk aj ax x) 0 11 fK).trans (congrArg (fun q=>some (Value.bool q)) eX))<|aE [am 0]<|?_
    rcases df x.f.d8 with fc |fc
    ·refine az [bw aw (dm H f pm nm br aX nn bo pk aj ax x)] ((aQ (dm H f pm nm br aX nn bo pk aj ax x) 1 11 fK).trans (congrArg (fun q=>some (Value.bool q)) fc))<|Y 4 (aQ (dm H f pm nm br aX nn bo pk aj ax x) 0 12 ef)<|Y 2 (aQ (dm H f pm nm br aX nn bo pk aj ax x) 1 12 ef)<|d7 1 (aj:Int) (x.f.aj:Int) ?_ ?_ <;> intro ij u6
     ·exact af 2 U (dm H f pm nm br aX nn bo pk aj ax x) (by rw [gU,h1,h2,h3,h4,h5,h6,h7,h8,h9,h10,h11,h12,eX,fc,ij] <;> rfl)
     obtain ⟨_,_,H1,c1,ak,y1,rfl,rfl⟩:=(Gl x X hx a f pm nm br aX nn bo pk aj ax sm (H.n+0) (H.n+1) _ 0 _ (y.news [O (iz f pm nm br aX nn bo pk aj ax) 27,O (ai x.f) 27]) (aR [O (iz f pm nm br aX nn bo pk aj ax) 27,O (ai x.f) 27] H 0 _ rfl) (aR [O (iz f pm nm br aX nn bo pk aj ax) 27,O (ai x.f) 27] H 1 _ rfl) J rfl).code
     have aS:=(y.news [O (iz f pm nm br aX nn bo pk aj ax) 27,O (ai x.f) 27]).kept ak aq (aR [O (iz f pm nm br aX nn bo pk aj ax) 27,O (ai x.f) 27] H 0 _ rfl)
     have gQ:=(y.news [O (iz f pm nm br aX nn bo pk aj ax) 27,O (ai x.f) 27]).kept ak aq (aR [O (iz f pm nm br aX nn bo pk aj ax) 27,O (ai x.f) 27] H 1 _ rfl)
     obtain ⟨_,_,H2,c2,aF,ar,rfl,rfl⟩:=(Gm x X hx a f pm nm br aX nn bo pk aj ax wG (H.n+0) (H.n+1) _ 0 _ y1 aS gQ J rfl).code
     have ca:=y1.kept aF aq aS
     have jF:=y1.kept aF aq gQ
     obtain ⟨_,_,H3,c3,bq,aM,rfl,rfl⟩:=(Gk x X hx a f pm nm br aX nn bo pk aj ax AP fm (H.n+0) (H.n+1) _ 0 _ ar ca jF J rfl).code
     exact bx 2 c1<|bx 1 c2<|bx 1 c3<|af 1 aw H3 (by rw [gU,h1,h2,h3,h4,h5,h6,h7,h8,h9,h10,h11,h12,eX,fc,ij] <;> rfl)
    exact az [bw U (dm H f pm nm br aX nn bo pk aj ax x)] ((aQ (dm H f pm nm br aX nn bo pk aj ax x) 1 11 fK).trans (congrArg (fun q=>some (Value.bool q)) fc))<|af 5 U (dm H f pm nm br aX nn bo pk aj ax x) (by rw [gU,h1,h2,h3,h4,h5,h6,h7,h8,h9,h10,h11,h12,eX,fc] <;> rfl)
   refine az [bw U (dm H f pm nm br aX nn bo pk aj ax x)] ((aQ (dm H f pm nm br aX nn bo pk aj ax x) 0 11 fK).trans (congrArg (fun q=>some (Value.bool q)) eX))<|aE [am 0]<|?_
   rcases df x.f.d8 with fc |fc
   ·exact az [bw aw (dm H f pm nm br aX nn bo pk aj ax x)] ((aQ (dm H f pm nm br aX nn bo pk aj ax x) 1 11 fK).trans (congrArg (fun q=>some (Value.bool q)) fc))<|af 5 U (dm H f pm nm br aX nn bo pk aj ax x) (by rw [gU,h1,h2,h3,h4,h5,h6,h7,h8,h9,h10,h11,h12,eX,fc] <;> rfl)
   refine az [bw U (dm H f pm nm br aX nn bo pk aj ax x)] ((aQ (dm H f pm nm br aX nn bo pk aj ax x) 1 11 fK).trans (congrArg (fun q=>some (Value.bool q)) fc))<|Y 4 (aQ (dm H f pm nm br aX nn bo pk aj ax x) 0 12 ef)<|Y 2 (aQ (dm H f pm nm br aX nn bo pk aj ax x) 1 12 ef)<|d7 1 (aj:Int) (x.f.aj:Int) ?_ ?_ <;> intro ij u6
   ·exact af 2 U (dm H f pm nm br aX nn bo pk aj ax x) (by rw [gU,h1,h2,h3,h4,h5,h6,h7,h8,h9,h10,h11,h12,eX,fc,ij] <;> rfl)
   obtain ⟨_,_,H1,c1,ak,y1,rfl,rfl⟩:=(Gl x X hx a f pm nm br aX nn bo pk aj ax sm (H.n+0) (H.n+1) _ 0 _ (y.news [O (iz f pm nm br aX nn bo pk aj ax) 27,O (ai x.f) 27]) (aR [O (iz f pm nm br aX nn bo pk aj ax) 27,O (ai x.f) 27] H 0 _ rfl) (aR [O (iz f pm nm br aX nn bo pk aj ax) 27,O (ai x.f) 27] H 1 _ rfl) J rfl).code
   have aS:=(y.news [O (iz f pm nm br aX nn bo pk aj ax) 27,O (ai x.f) 27]).kept ak aq (aR [O (iz f pm nm br aX nn bo pk aj ax) 27,O (ai x.f) 27] H 0 _ rfl)
   have gQ:=(y.news [O (iz f pm nm br aX nn bo pk aj ax) 27,O (ai x.f) 27]).kept ak aq (aR [O (iz f pm nm br aX nn bo pk aj ax) 27,O (ai x.f) 27] H 1 _ rfl)
   obtain ⟨_,_,H2,c2,aF,ar,rfl,rfl⟩:=(Gm x X hx a f pm nm br aX nn bo pk aj ax wG (H.n+0) (H.n+1) _ 0 _ y1 aS gQ J rfl).code
   have ca:=y1.kept aF aq aS
   have jF:=y1.kept aF aq gQ
   obtain ⟨_,_,H3,c3,bq,aM,rfl,rfl⟩:=(Gk x X hx a f pm nm br aX nn bo pk aj ax AP fm (H.n+0) (H.n+1) _ 0 _ ar ca jF J rfl).code
   exact bx 2 c1<|bx 1 c2<|bx 1 c3<|af 1 aw H3 (by rw [gU,h1,h2,h3,h4,h5,h6,h7,h8,h9,h10,h11,h12,eX,fc,ij] <;> rfl)
  exact az [bw U (dm H f pm nm br aX nn bo pk aj ax x)] ((aQ (dm H f pm nm br aX nn bo pk aj ax x) 1 7 fK).trans (congrArg (fun q=>some (Value.bool q)) h9))<|af 13 U (dm H f pm nm br aX nn bo pk aj ax x) (by rw [gU,h1,h2,h3,h4,h5,h6,h7,h8,h9] <;> rfl)
 refine az [bw U (dm H f pm nm br aX nn bo pk aj ax x)] ((aQ (dm H f pm nm br aX nn bo pk aj ax x) 0 7 fK).trans (congrArg (fun q=>some (Value.bool q)) h8))<|aE [am 0]<|?_
 rcases df x.f.ha with h9 |h9
 ·exact az [bw aw (dm H f pm nm br aX nn bo pk aj ax x)] ((aQ (dm H f pm nm br aX nn bo pk aj ax x) 1 7 fK).trans (congrArg (fun q=>some (Value.bool q)) h9))<|af 13 U (dm H f pm nm br aX nn bo pk aj ax x) (by rw [gU,h1,h2,h3,h4,h5,h6,h7,h8,h9] <;> rfl)
 refine az [bw U (dm H f pm nm br aX nn bo pk aj ax x)] ((aQ (dm H f pm nm br aX nn bo pk aj ax x) 1 7 fK).trans (congrArg (fun q=>some (Value.bool q)) h9))<|Y 4 (aQ (dm H f pm nm br aX nn bo pk aj ax x) 0 8 fQ)<|Y 1 (aQ (dm H f pm nm br aX nn bo pk aj ax x) 1 8 fQ)<|d7 0 f.at_ x.f.at_ ?_ ?_ <;> intro h10 oP
 ·exact af 10 U (dm H f pm nm br aX nn bo pk aj ax x) (by rw [gU,h1,h2,h3,h4,h5,h6,h7,h8,h9,h10] <;> rfl)
 refine Y 3 (aQ (dm H f pm nm br aX nn bo pk aj ax x) 0 9 av)<|Y 1 (aQ (dm H f pm nm br aX nn bo pk aj ax x) 1 9 av)<|d7 0 f.how x.f.how ?_ ?_ <;> intro h11 ym
 ·exact af 8 U (dm H f pm nm br aX nn bo pk aj ax x) (by rw [gU,h1,h2,h3,h4,h5,h6,h7,h8,h9,h10,h11] <;> rfl)
 refine Y 3 (aQ (dm H f pm nm br aX nn bo pk aj ax x) 0 10 jz)<|Y 2 (aQ (dm H f pm nm br aX nn bo pk aj ax x) 1 10 jz)<|d7 1 (nn:Int) (x.f.nn:Int) ?_ ?_ <;> intro h12 ql
 ·exact af 6 U (dm H f pm nm br aX nn bo pk aj ax x) (by rw [gU,h1,h2,h3,h4,h5,h6,h7,h8,h9,h10,h11,h12] <;> rfl)
 refine aE [am 2]<|?_
 rcases df f.d8 with eX |eX
 ·refine az [bw aw (dm H f pm nm br aX nn bo pk aj ax x)] ((aQ (dm H f pm nm br aX nn bo pk aj ax x) 0 11 fK).trans (congrArg (fun q=>some (Value.bool q)) eX))<|aE [am 0]<|?_
  rcases df x.f.d8 with fc |fc
  ·refine az [bw aw (dm H f pm nm br aX nn bo pk aj ax x)] ((aQ (dm H f pm nm br aX nn bo pk aj ax x) 1 11 fK).trans (congrArg (fun q=>some (Value.bool q)) fc))<|Y 4 (aQ (dm H f pm nm br aX nn bo pk aj ax x) 0 12 ef)<|Y 2 (aQ (dm H f pm nm br aX nn bo pk aj ax x) 1 12 ef)<|d7 1 (aj:Int) (x.f.aj:Int) ?_ ?_ <;> intro ij u6
   ·exact af 2 U (dm H f pm nm br aX nn bo pk aj ax x) (by rw [gU,h1,h2,h3,h4,h5,h6,h7,h8,h9,h10,h11,h12,eX,fc,ij] <;> rfl)
   obtain ⟨_,_,H1,c1,ak,y1,rfl,rfl⟩:=(Gl x X hx a f pm nm br aX nn bo pk aj ax sm (H.n+0) (H.n+1) _ 0 _ (y.news [O (iz f pm nm br aX nn bo pk aj ax) 27,O (ai x.f) 27]) (aR [O (iz f pm nm br aX nn bo pk aj ax) 27,O (ai x.f) 27] H 0 _ rfl) (aR [O (iz f pm nm br aX nn bo pk aj ax) 27,O (ai x.f) 27] H 1 _ rfl) J rfl).code
   have aS:=(y.news [O (iz f pm nm br aX nn bo pk aj ax) 27,O (ai x.f) 27]).kept ak aq (aR [O (iz f pm nm br aX nn bo pk aj ax) 27,O (ai x.f) 27] H 0 _ rfl)
   have gQ:=(y.news [O (iz f pm nm br aX nn bo pk aj ax) 27,O (ai x.f) 27]).kept ak aq (aR [O (iz f pm nm br aX nn bo pk aj ax) 27,O (ai x.f) 27] H 1 _ rfl)
   obtain ⟨_,_,H2,c2,aF,ar,rfl,rfl⟩:=(Gm x X hx a f pm nm br aX nn bo pk aj ax wG (H.n+0) (H.n+1) _ 0 _ y1 aS gQ J rfl).code
   have ca:=y1.kept aF aq aS
   have jF:=y1.kept aF aq gQ
   obtain ⟨_,_,H3,c3,bq,aM,rfl,rfl⟩:=(Gk x X hx a f pm nm br aX nn bo pk aj ax AP fm (H.n+0) (H.n+1) _ 0 _ ar ca jF J rfl).code
   exact bx 2 c1<|bx 1 c2<|bx 1 c3<|af 1 aw H3 (by rw [gU,h1,h2,h3,h4,h5,h6,h7,h8,h9,h10,h11,h12,eX,fc,ij] <;> rfl)
  exact az [bw U (dm H f pm nm br aX nn bo pk aj ax x)] ((aQ (dm H f pm nm br aX nn bo pk aj ax x) 1 11 fK).trans (congrArg (fun q=>some (Value.bool q)) fc))<|af 5 U (dm H f pm nm br aX nn bo pk aj ax x) (by rw [gU,h1,h2,h3,h4,h5,h6,h7,h8,h9,h10,h11,h12,eX,fc] <;> rfl)
 refine az [bw U (dm H f pm nm br aX nn bo pk aj ax x)] ((aQ (dm H f pm nm br aX nn bo pk aj ax x) 0 11 fK).trans (congrArg (fun q=>some (Value.bool q)) eX))<|aE [am 0]<|?_
 rcases df x.f.d8 with fc |fc
 ·exact az [bw aw (dm H f pm nm br aX nn bo pk aj ax x)] ((aQ (dm H f pm nm br aX nn bo pk aj ax x) 1 11 fK).trans (congrArg (fun q=>some (Value.bool q)) fc))<|af 5 U (dm H f pm nm br aX nn bo pk aj ax x) (by rw [gU,h1,h2,h3,h4,h5,h6,h7,h8,h9,h10,h11,h12,eX,fc] <;> rfl)
 refine az [bw U (dm H f pm nm br aX nn bo pk aj ax x)] ((aQ (dm H f pm nm br aX nn bo pk aj ax x) 1 11 fK).trans (congrArg (fun q=>some (Value.bool q)) fc))<|Y 4 (aQ (dm H f pm nm br aX nn bo pk aj ax x) 0 12 ef)<|Y 2 (aQ (dm H f pm nm br aX nn bo pk aj ax x) 1 12 ef)<|d7 1 (aj:Int) (x.f.aj:Int) ?_ ?_ <;> intro ij u6
 ·exact af 2 U (dm H f pm nm br aX nn bo pk aj ax x) (by rw [gU,h1,h2,h3,h4,h5,h6,h7,h8,h9,h10,h11,h12,eX,fc,ij] <;> rfl)
 obtain ⟨_,_,H1,c1,ak,y1,rfl,rfl⟩:=(Gl x X hx a f pm nm br aX nn bo pk aj ax sm (H.n+0) (H.n+1) _ 0 _ (y.news [O (iz f pm nm br aX nn bo pk aj ax) 27,O (ai x.f) 27]) (aR [O (iz f pm nm br aX nn bo pk aj ax) 27,O (ai x.f) 27] H 0 _ rfl) (aR [O (iz f pm nm br aX nn bo pk aj ax) 27,O (ai x.f) 27] H 1 _ rfl) J rfl).code
 have aS:=(y.news [O (iz f pm nm br aX nn bo pk aj ax) 27,O (ai x.f) 27]).kept ak aq (aR [O (iz f pm nm br aX nn bo pk aj ax) 27,O (ai x.f) 27] H 0 _ rfl)
 have gQ:=(y.news [O (iz f pm nm br aX nn bo pk aj ax) 27,O (ai x.f) 27]).kept ak aq (aR [O (iz f pm nm br aX nn bo pk aj ax) 27,O (ai x.f) 27] H 1 _ rfl)
 obtain ⟨_,_,H2,c2,aF,ar,rfl,rfl⟩:=(Gm x X hx a f pm nm br aX nn bo pk aj ax wG (H.n+0) (H.n+1) _ 0 _ y1 aS gQ J rfl).code
 have ca:=y1.kept aF aq aS
 have jF:=y1.kept aF aq gQ
 obtain ⟨_,_,H3,c3,bq,aM,rfl,rfl⟩:=(Gk x X hx a f pm nm br aX nn bo pk aj ax AP fm (H.n+0) (H.n+1) _ 0 _ ar ca jF J rfl).code
 exact bx 2 c1<|bx 1 c2<|bx 1 c3<|af 1 aw H3 (by rw [gU,h1,h2,h3,h4,h5,h6,h7,h8,h9,h10,h11,h12,eX,fc,ij] <;> rfl)
theorem Pp (m:iq) (l:List iq):mg (m::l)=(!tq m||mg l):=rfl
def u0 (f:dR):dR:=
 { k:=f.k,op:=bif f.k==6 then f.op else 0,v:=bif f.k==1 then f.v else 0,s:=bif f.k==2||(f.k==3||(f.k==4||f.k==5)) then f.s else ⟨#[]⟩,pm:=bif f.k==3 then f.pm else none,nm:=bif f.k==3 then f.nm else 0,br:=bif f.k==3 then f.br else 0,wide:=bif f.k==3 then f.wide else 0,off:=bif f.k==3 then f.off else 0,ha:=bif f.k==3 then f.ha else false,at_:=bif f.k==3 then f.at_ else 0,how:=bif f.k==5||f.k==6 then f.how else 0,aX:=bif f.k==5||f.k==6 then f.aX else none,nn:=bif f.k==5||f.k==6 then f.nn else 0,bo:=bif f.k==5||f.k==6 then f.bo else 0,d8:=bif f.k==6 then f.d8 else false,pk:=bif decide (f.k≥4) then f.pk else none,aj:=bif decide (f.k≥4) then f.aj else 0,ax:=bif decide (f.k≥4) then f.ax else 0 }
theorem Sf {a b:Int}:(!(a != b))=(b==a):=by
 cases e:b==a with
 |true=>rw [pr e];simp
 |false=>simp only [bne,Bool.not_not];rw [beq_eq_false_iff_ne] at e ⊢;exact fun h=>e h.symm
theorem yj {f:dR} (h:f.k=1∨f.k=2∨f.k=3∨f.k=4∨f.k=5∨f.k=6∨f.k=7):gU (u0 f) f=jV (hD f):=by
 have tl:((⟨#[]⟩:ByteArray).toList==f.s.toList)=(f.s.toList==(⟨#[]⟩:ByteArray).toList):=by rw [Bool.eq_iff_iff,beq_iff_eq,beq_iff_eq];exact eq_comm
 rcases h with h |h |h |h |h |h |h <;>
 ·simp only [gU,u0,jV,hD,h,Sf,Bool.not_not,Int.reduceBEq,cond_true,cond_false,Bool.or_false,Bool.or_true,Bool.true_or,Bool.false_or,beq_self_eq_true,Bool.true_and,Bool.and_true,Int.natCast_zero,tl,Int.reduceLE,ge_iff_le,decide_true,decide_false]
  try (cases f.ha <;> cases f.d8 <;> simp)
  try rfl
theorem FT {f:dR} (h:f.k=1):gU ⟨f.k,0,f.v,⟨#[]⟩,none,0,0,0,0,false,0,0,none,0,0,false,none,0,0⟩ f=jV (hD f):=by
 rw [← yj J];congr 1;simp [u0,h]
theorem Qb {f:dR} (h:f.k=2):gU ⟨f.k,0,0,f.s,none,0,0,0,0,false,0,0,none,0,0,false,none,0,0⟩ f=jV (hD f):=by
 rw [← yj J];congr 1;simp [u0,h]
theorem Qc {f:dR} (h:f.k=3):gU ⟨f.k,0,0,f.s,f.pm,f.nm,f.br,f.wide,f.off,f.ha,f.at_,0,none,0,0,false,none,0,0⟩ f=jV (hD f):=by
 rw [← yj J];congr 1;simp [u0,h]
theorem Qd {f:dR} (h:f.k=4):gU ⟨f.k,0,0,f.s,none,0,0,0,0,false,0,0,none,0,0,false,f.pk,f.aj,f.ax⟩ f=jV (hD f):=by
 rw [← yj J];congr 1;simp [u0,h]
theorem Qe {f:dR} (h:f.k=5):gU ⟨f.k,0,0,f.s,none,0,0,0,0,false,0,f.how,f.aX,f.nn,f.bo,false,f.pk,f.aj,f.ax⟩ f=jV (hD f):=by
 rw [← yj J];congr 1;simp [u0,h]
theorem aci {f:dR} (h:f.k=6):gU ⟨f.k,f.op,0,⟨#[]⟩,none,0,0,0,0,false,0,f.how,f.aX,f.nn,f.bo,f.d8,f.pk,f.aj,f.ax⟩ f=jV (hD f):=by
 rw [← yj J];congr 1;simp [u0,h]
theorem Qf {f:dR} (h:f.k=7):gU ⟨f.k,0,0,⟨#[]⟩,none,0,0,0,0,false,0,0,none,0,0,false,f.pk,f.aj,f.ax⟩ f=jV (hD f):=by
 rw [← yj J];congr 1;simp [u0,h]
theorem uV {x:bh} (hk:1≤x.f.k∧x.f.k≤7) (hz:jV (hD x.f)=true) (ha:nj x=true):gI x=true:=by
 rw [gI,hz,ha,decide_eq_false (show ¬ x.f.k<1 by omega),decide_eq_false (show ¬ x.f.k>7 by omega)];rfl
theorem jT {x:bh} (h:¬ (1≤x.f.k∧x.f.k≤7)∨jV (hD x.f)=false∨nj x=false):gI x=false:=by
 rcases h with h |h |h
 ·by_cases h1:x.f.k<1
  ·rw [gI,decide_eq_true h1];rfl
  ·rw [gI,decide_eq_true (show x.f.k>7 by omega),Bool.not_true,Bool.false_and,Bool.and_false]
 ·rw [gI,h,Bool.false_and,Bool.and_false,Bool.and_false]
 ·rw [gI,h,Bool.and_false,Bool.and_false,Bool.and_false]
theorem vb {x:bh} (h:gI x=true) (hb:kC x.kids=false):jH x=true:=by rw [jI,h,hb];rfl
theorem jJ {x:bh} (h:gI x=false∨kC x.kids=true):jH x=false:=by
 rcases h with h |h
 ·rw [jI,h,Bool.false_and]
 ·rw [jI,h,Bool.not_true,Bool.and_false]
theorem P2 {x:bh} (hv:0≤x.f.v∧x.f.v<18446744073709551616) (h:x.f.v≤9218868437227405312∨x.f.v=9221120237041090561):qY x=true:=by
 have hf:Int.fdiv x.f.v (2 ^ 63)=0:=by rw [Int.fdiv_eq_ediv_of_nonneg _ J];omega
 have hn:tG x.f.v=x.f.v:=by
  rw [tG,PA J]
  rcases h with h |h
  ·rw [decide_eq_false J];rfl
  ·rw [h];rfl
 rw [qY,hf,hn,beq_self_eq_true,beq_self_eq_true,show (x.f.v != 9218868437227405314)=true from by rw [bne_iff_ne];omega];rfl
theorem ab4 {x:bh} (hv:0≤x.f.v∧x.f.v<18446744073709551616) (h:¬ (x.f.v≤9218868437227405312∨x.f.v=9221120237041090561)):qY x=false:=by
 cases e:qY x with
 |false=>rfl
 |true=>
  simp only [qY,dZ,beq_iff_eq,bne_iff_ne] at e
  obtain ⟨e1,e2,bc⟩:=e
  rw [Int.fdiv_eq_ediv_of_nonneg _ J] at e1
  have hl:x.f.v<9223372036854775808:=J
  rw [tG,PA J,decide_eq_true J,show (x.f.v != 9218868437227405314)=true from by rw [bne_iff_ne];exact bc] at e2
  exact absurd (.inr e2.symm) h
theorem RK (x:bh):AV x=lV x.f.s:=by
 show jg 1 ⟨#[97]⟩ x.f.s=_
 rw [jg,JK]
 simp
noncomputable def wB (x:bh):Bool:=
 !((!(x.f.s.toList==(⟨#[]⟩:ByteArray).toList))&&!jC x.f.s)&&(!(decide (((x.f.nm:Nat):Int)>10))&&(!(decide (x.f.wide<0))&&(!(decide (x.f.wide>35184372088832))&&(!(decide (x.f.off<(-35184372088832)))&&(!(decide (x.f.off>35184372088832)) &&
  (!(Int.tmod x.f.at_ 1000 != 0)&&(!(decide (x.f.at_<(-1125899906842624)))&&(!(decide (x.f.at_>1125899906842624))&&!(!x.f.ha&&(x.f.at_ != 0))))))))))
theorem Qq {x:bh} {a b:Bool} (h:a=wB x) (e:b=(a&&!mg (x.ms.drop 0))):iD x=b:=by
 rw [e,h,List.drop_zero,iD,wB];simp only [Bool.and_assoc]
theorem FY {x:bh} (hs:(x.f.s.toList==(⟨#[]⟩:ByteArray).toList)=true∨jC x.f.s=true) (h:(x.f.nm:Int)≤10∧0≤x.f.wide∧x.f.wide≤35184372088832∧-35184372088832≤x.f.off∧x.f.off≤35184372088832∧-1125899906842624≤x.f.at_∧x.f.at_≤1125899906842624)
  (ht:Int.tmod x.f.at_ 1000=0) (ha:x.f.ha=true∨x.f.at_=0):true=wB x:=by
 rw [wB,decide_eq_false (show ¬ (x.f.nm:Int)>10 by omega),decide_eq_false (show ¬ x.f.wide<0 by omega),decide_eq_false (show ¬ x.f.wide>35184372088832 by omega),decide_eq_false (show ¬ x.f.off<(-35184372088832) by omega),
  decide_eq_false (show ¬ x.f.off>35184372088832 by omega),decide_eq_false (show ¬ x.f.at_<(-1125899906842624) by omega),decide_eq_false (show ¬ x.f.at_>1125899906842624 by omega),ht]
 rcases hs with hs |hs <;> rcases ha with ha |ha <;> rw [hs,ha] <;> simp
theorem mm {x:bh} (h:((x.f.s.toList==(⟨#[]⟩:ByteArray).toList)=false∧jC x.f.s=false)∨¬ ((x.f.nm:Int)≤10∧0≤x.f.wide∧x.f.wide≤35184372088832∧-35184372088832≤x.f.off∧x.f.off≤35184372088832∧-1125899906842624≤x.f.at_∧x.f.at_≤1125899906842624)∨
  Int.tmod x.f.at_ 1000≠0∨(x.f.ha=false∧x.f.at_≠0)):false=wB x:=by
 cases e:wB x with
 |false=>rfl
 |true=>
  simp only [wB,dZ,Bool.not_eq_true',decide_eq_false_iff_not,Bool.and_eq_false_iff,Bool.not_eq_false',bne_eq_false_iff_eq] at e
  obtain ⟨e1,e2,bc,aN,bJ,eF,la,ahQ,ahR,zx⟩:=e
  rcases h with h |h |h |h
  ·rcases e1 with e1 |e1
   ·rw [h.1] at e1;cases e1
   ·rw [h.2] at e1;cases e1
  ·exact absurd ⟨J,J,J,J,J,J,J⟩ h
  ·exact absurd la h
  ·rcases zx with zx |zx
   ·rw [h.1] at zx;cases zx
   ·exact absurd zx h.2
theorem acS {l:List iq} {i:Nat} {m:iq} {R:Bool} (hm:l[i]?=some m) (h:tq m=true) (hR:(true&&!mg (l.drop i))=R):(true&&!mg (l.drop (i+1)))=R:=by rw [drop_cons hm,Pp,h] at hR;exact hR
theorem acR {l:List iq} {i:Nat} {m:iq} {R:Bool} (hm:l[i]?=some m) (h:tq m=false) (hR:(true&&!mg (l.drop i))=R):false=R:=by rw [drop_cons hm,Pp,h] at hR;exact hR
theorem acQ {l:List iq} {i:Nat} {b R:Bool} (hR:(b&&!mg (l.drop i))=R) (h:l.length≤i):b=R:=by rw [List.drop_of_length_le h] at hR;rw [← hR];cases b <;> rfl
noncomputable def Vt:Code:=cw [1,0,1,0,0] (cx Tryz.f25)
theorem adq (x:bh) (X:Z) (hx:aa E G X) (a:e9 X x) (ih1:∀ k∈x.kids,∀{H:Z},aa E X H→aV E X 25 [.agg (ai k.f).toArray] H [] (fun v _=>v=.bool (jH k))) (bX:Nat) (R:Bool):∀(m:Nat) (aO:Int) (H:Z),aa E X H→(kb:H.get bX=some (O (ai x.f) 27))→(x0:0≤aO)→(hR:kC (x.kids.drop aO.toNat)=R)→((x.f.aj:Int)-aO).toNat=m→
  bV E X 226 Vt [(1,pt bX 0),(3,M aO)] H [] (fun fB T H'=>(fB=(.exit 0)∧T=aP [(1,pt bX 0)]∧(R=false))∨(fB=.ret∧T=aP [(2,U)]∧(R=true))):=by
 refine dJ fun m ih=>?_
 intro aO H y kb x0 hR hm
 have ot:=a.ot
 refine cN y ?_
 refine Y 2 (ag 12 ef kb)<|aD 1 (aO<(x.f.aj:Int)) ?_ ?_ <;> intro h1 q1
 ·obtain ⟨d1,j0,t1,fb,dT⟩:=a.rk.open J
  have fH:=hx.wf.lt dT
  obtain ⟨aC,m2⟩:=a.rV (i:=aO.toNat) J
  obtain ⟨_,H1,c1,ak,y1,bE⟩:=eL (ih1 aC (nv m2) y)
  refine Y 1 (ag 12 ef kb)<|gY 1 H (hI my ct fb J J:gk E 25 (.slice x.f.pk x.f.aj x.f.ax) (M aO)=some (pt d1 (0+aO.toNat*13)))<|Y 0 (mP c4 ct (y.cell dT fH) m2 J:al E 27 d1 (0+aO.toNat*13) H=some (.agg (ai aC.f).toArray))<|?_
  rcases bE with ⟨rfl,b7⟩ |⟨rfl,b7⟩
  ·have fP:=y.kept ak aq kb
   exact ac 0 c1<|aH 2 (aO+1)<|du 1 [(1,pt bX 0),(3,M (aO+1))] H1 (ih _ J (aO+1) _ y1 fP J (by rw [gp J];exact (sL (F:=kC) Bp m2 hR (PY b7))) rfl)
  exact ac 0 c1<|cF 2 [(2,U)] .ret H1 (.inr ⟨rfl,rfl,sK (F:=kC) Bp m2 hR (PW b7)⟩)
 exact cF 0 [(1,pt bX 0)] (.exit 0) H (.inl ⟨rfl,rfl,sJ (F:=kC) Mv hR (by have:=a.aj;omega)⟩)
noncomputable def Vz:Code:=cw [1,1,1,1,0,1,0,1,1,1,1,1,0,1,1,1,1,0,0] (cx Tryz.f25)
theorem adA (x:bh) (X:Z) (hx:aa E G X) (a:e9 X x) (hz:jX x) (bX:Nat) (b4:Nat) (R:Bool):∀(m:Nat) (ah:Bool) (bD:Int) (H:Z),aa E X H→(kb:H.get bX=some (O (ai x.f) 27))→(x0:0≤bD)→(hR:(ah&&!mg (x.ms.drop bD.toNat))=R)→((x.f.nm:Int)-bD).toNat=m→
  bV E X 226 Vz [(1,pt bX 0),(4,pt b4 0),(5,.bool ah),(6,M bD)] H [] (fun fB T H'=>(fB=(.exit 3)∧∃(z5:Bool),T=aP [(1,pt bX 0),(4,pt b4 0),(5,.bool z5)]∧(z5=R))):=by
 refine dJ fun m ih=>?_
 intro ah bD H y kb x0 hR hm
 have bm:=a.bm
 refine cN y ?_
 refine Y 2 (ag 4 k3 kb)<|aD 1 (bD<(x.f.nm:Int)) ?_ ?_ <;> intro h1 q1
 ·cases ah with
  |true=>
   obtain ⟨d1,j0,t1,fb,dT⟩:=a.q4.open J
   have fH:=hx.wf.lt dT
   obtain ⟨aC,m2⟩:=a.CA (i:=bD.toNat) J
   refine Y 3 (ag 4 k3 kb)<|gY 1 H (hI wK qr fb J J:gk E 23 (.slice x.f.pm x.f.nm x.f.br) (M bD)=some (pt d1 (0+bD.toNat*3)))<|Y 0 (Fj Bj qr (y.cell dT fH) m2 J:al E 40 d1 (0+bD.toNat*3) H=some (.agg #[M aC.1,.string aC.2.1,.string aC.2.2]))<|?_
   cases h3:(tq aC) with
   |true=>
    exact ac 0 (cP h3 (QM aC.1 aC.2.1 aC.2.2 (hz.ms aC (nv m2)) (gK hx y)))<|aH 3 (bD+1)<|du 1 [(1,pt bX 0),(4,pt b4 0),(5,aw),(6,M (bD+1))] H (ih _ J true (bD+1) _ y kb J (by rw [gp J];exact (acS m2 h3 hR)) rfl)
   |false=>
    exact ac 0 (cP h3 (QM aC.1 aC.2.1 aC.2.2 (hz.ms aC (nv m2)) (gK hx y)))<|aH 3 (bD+1)<|du 1 [(1,pt bX 0),(4,pt b4 0),(5,U),(6,M (bD+1))] H (ih _ J false (bD+1) _ y kb J (by rw [gp J];exact (acR m2 h3 hR)) rfl)
  |false=>
   exact aH 5 (bD+1)<|du 1 [(1,pt bX 0),(4,pt b4 0),(5,U),(6,M (bD+1))] H (ih _ J false (bD+1) _ y kb J hR rfl)
 exact cF 0 [(1,pt bX 0),(4,pt b4 0),(5,.bool ah)] (.exit 3) H ⟨rfl,ah,rfl,acQ hR (by have:=a.nm;omega)⟩
noncomputable def VA:Code:=cw [1,1,1,1,0,1,0,1,1,1,1,1,0,1,1,0] (cx Tryz.f25)
theorem adB (x:bh) (X:Z) (hx:aa E G X) (a:e9 X x) (bX:Nat) (b4:Nat)  {H:Z} (y:aa E X H) (kb:H.get bX=some (O (ai x.f) 27)) :
  jL E X 226 VA [(1,pt bX 0),(4,pt b4 0)] H [] (fun fB T H'=>(fB=.normal∧∃(z5:Bool),T=aP [(1,pt bX 0),(4,pt b4 0),(5,.bool z5)]∧(z5=wB x))):=by
 refine mq y ?_
 refine Y 1 (ag 3 bA kb)<|d5 0 (x.f.s.toList==(⟨#[]⟩:ByteArray).toList) (fun h1=>?_) fun h1=>?_
 ·refine Y 4 (ag 4 k3 kb)<|aD 1 ((x.f.nm:Int)≤10) ?_ ?_ <;> intro h2 cv
  ·refine Y 3 (ag 5 fQ kb)<|aD 0 (x.f.wide≥0) ?_ ?_ <;> intro h3 cY
   ·refine Y 3 (ag 5 fQ kb)<|aD 0 (x.f.wide≤35184372088832) ?_ ?_ <;> intro h4 cO
    ·refine Y 3 (ag 6 fQ kb)<|aD 0 (x.f.off≥(-35184372088832)) ?_ ?_ <;> intro h5 dc
     ·refine Y 3 (ag 6 fQ kb)<|aD 0 (x.f.off≤35184372088832) ?_ ?_ <;> intro h6 di
      ·refine Y 3 (ag 8 fQ kb)<|aD 0 (x.f.at_≥(-1125899906842624)) ?_ ?_ <;> intro h7 gM
       ·refine Y 3 (ag 8 fQ kb)<|aD 0 (x.f.at_≤1125899906842624) ?_ ?_ <;> intro h8 lT
        ·refine Y 3 (ag 8 fQ kb)<|aY 1 (Int.tmod x.f.at_ 1000) 0 ?_ ?_ <;> intro h9 oQ
         ·refine aE [am 2]<|?_
          rcases df x.f.ha with h10 |h10
          ·exact az [bw aw H] ((ag 7 fK kb).trans (congrArg (fun q=>some (Value.bool q)) h10))<|cM 4 [(1,pt bX 0),(4,pt b4 0),(5,aw)] .normal H ⟨rfl,true,rfl,FY (by first |exact .inl h1 |exact .inr h1) J (by first |assumption |omega) (by first |exact .inl (by assumption) |exact .inr J)⟩
          refine az [bw U H] ((ag 7 fK kb).trans (congrArg (fun q=>some (Value.bool q)) h10))<|Y 2 (ag 8 fQ kb)<|aY 0 x.f.at_ 0 ?_ ?_ <;> intro h11 ym
          ·exact cM 3 [(1,pt bX 0),(4,pt b4 0),(5,aw)] .normal H ⟨rfl,true,rfl,FY (by first |exact .inl h1 |exact .inr h1) J (by first |assumption |omega) (by first |exact .inl (by assumption) |exact .inr J)⟩
          exact cM 3 [(1,pt bX 0),(4,pt b4 0),(5,U)] .normal H ⟨rfl,false,rfl,mm (by first |exact .inl ⟨by assumption,by assumption⟩ |exact .inr (.inl J) |exact .inr (.inr (.inl (by assumption))) |exact .inr (.inr (.inr ⟨by assumption,by first |assumption |omega⟩)))⟩
         exact cM 4 [(1,pt bX 0),(4,pt b4 0),(5,U)] .normal H ⟨rfl,false,rfl,mm (by first |exact .inl ⟨by assumption,by assumption⟩ |exact .inr (.inl J) |exact .inr (.inr (.inl (by assumption))) |exact .inr (.inr (.inr ⟨by assumption,by first |assumption |omega⟩)))⟩
        exact cM 6 [(1,pt bX 0),(4,pt b4 0),(5,U)] .normal H ⟨rfl,false,rfl,mm (by first |exact .inl ⟨by assumption,by assumption⟩ |exact .inr (.inl J) |exact .inr (.inr (.inl (by assumption))) |exact .inr (.inr (.inr ⟨by assumption,by first |assumption |omega⟩)))⟩
       exact cM 8 [(1,pt bX 0),(4,pt b4 0),(5,U)] .normal H ⟨rfl,false,rfl,mm (by first |exact .inl ⟨by assumption,by assumption⟩ |exact .inr (.inl J) |exact .inr (.inr (.inl (by assumption))) |exact .inr (.inr (.inr ⟨by assumption,by first |assumption |omega⟩)))⟩
      exact cM 10 [(1,pt bX 0),(4,pt b4 0),(5,U)] .normal H ⟨rfl,false,rfl,mm (by first |exact .inl ⟨by assumption,by assumption⟩ |exact .inr (.inl J) |exact .inr (.inr (.inl (by assumption))) |exact .inr (.inr (.inr ⟨by assumption,by first |assumption |omega⟩)))⟩
     exact cM 12 [(1,pt bX 0),(4,pt b4 0),(5,U)] .normal H ⟨rfl,false,rfl,mm (by first |exact .inl ⟨by assumption,by assumption⟩ |exact .inr (.inl J) |exact .inr (.inr (.inl (by assumption))) |exact .inr (.inr (.inr ⟨by assumption,by first |assumption |omega⟩)))⟩
    exact cM 14 [(1,pt bX 0),(4,pt b4 0),(5,U)] .normal H ⟨rfl,false,rfl,mm (by first |exact .inl ⟨by assumption,by assumption⟩ |exact .inr (.inl J) |exact .inr (.inr (.inl (by assumption))) |exact .inr (.inr (.inr ⟨by assumption,by first |assumption |omega⟩)))⟩
   exact cM 16 [(1,pt bX 0),(4,pt b4 0),(5,U)] .normal H ⟨rfl,false,rfl,mm (by first |exact .inl ⟨by assumption,by assumption⟩ |exact .inr (.inl J) |exact .inr (.inr (.inl (by assumption))) |exact .inr (.inr (.inr ⟨by assumption,by first |assumption |omega⟩)))⟩
  exact cM 18 [(1,pt bX 0),(4,pt b4 0),(5,U)] .normal H ⟨rfl,false,rfl,mm (by first |exact .inl ⟨by assumption,by assumption⟩ |exact .inr (.inl J) |exact .inr (.inr (.inl (by assumption))) |exact .inr (.inr (.inr ⟨by assumption,by first |assumption |omega⟩)))⟩
 refine Y 2 (ag 3 bA kb)<|?_
 cases h2:(jC x.f.s) with
 |true=>
  refine ac 0 (cP h2 (F7 x.f.s (gK hx y)))<|Y 3 (ag 4 k3 kb)<|aD 1 ((x.f.nm:Int)≤10) ?_ ?_ <;> intro h3 cY
  ·refine Y 3 (ag 5 fQ kb)<|aD 0 (x.f.wide≥0) ?_ ?_ <;> intro h4 cO
   ·refine Y 3 (ag 5 fQ kb)<|aD 0 (x.f.wide≤35184372088832) ?_ ?_ <;> intro h5 dc
    ·refine Y 3 (ag 6 fQ kb)<|aD 0 (x.f.off≥(-35184372088832)) ?_ ?_ <;> intro h6 di
     ·refine Y 3 (ag 6 fQ kb)<|aD 0 (x.f.off≤35184372088832) ?_ ?_ <;> intro h7 gM
      ·refine Y 3 (ag 8 fQ kb)<|aD 0 (x.f.at_≥(-1125899906842624)) ?_ ?_ <;> intro h8 lT
       ·refine Y 3 (ag 8 fQ kb)<|aD 0 (x.f.at_≤1125899906842624) ?_ ?_ <;> intro h9 oQ
        ·refine Y 3 (ag 8 fQ kb)<|aY 1 (Int.tmod x.f.at_ 1000) 0 ?_ ?_ <;> intro h10 oP
         ·refine aE [am 2]<|?_
          rcases df x.f.ha with h11 |h11
          ·exact az [bw aw H] ((ag 7 fK kb).trans (congrArg (fun q=>some (Value.bool q)) h11))<|cM 4 [(1,pt bX 0),(4,pt b4 0),(5,aw)] .normal H ⟨rfl,true,rfl,FY (by first |exact .inl h1 |exact .inr h2) J (by first |assumption |omega) (by first |exact .inl (by assumption) |exact .inr J)⟩
          refine az [bw U H] ((ag 7 fK kb).trans (congrArg (fun q=>some (Value.bool q)) h11))<|Y 2 (ag 8 fQ kb)<|aY 0 x.f.at_ 0 ?_ ?_ <;> intro h12 ql
          ·exact cM 3 [(1,pt bX 0),(4,pt b4 0),(5,aw)] .normal H ⟨rfl,true,rfl,FY (by first |exact .inl h1 |exact .inr h2) J (by first |assumption |omega) (by first |exact .inl (by assumption) |exact .inr J)⟩
          exact cM 3 [(1,pt bX 0),(4,pt b4 0),(5,U)] .normal H ⟨rfl,false,rfl,mm (by first |exact .inl ⟨by assumption,by assumption⟩ |exact .inr (.inl J) |exact .inr (.inr (.inl (by assumption))) |exact .inr (.inr (.inr ⟨by assumption,by first |assumption |omega⟩)))⟩
         exact cM 4 [(1,pt bX 0),(4,pt b4 0),(5,U)] .normal H ⟨rfl,false,rfl,mm (by first |exact .inl ⟨by assumption,by assumption⟩ |exact .inr (.inl J) |exact .inr (.inr (.inl (by assumption))) |exact .inr (.inr (.inr ⟨by assumption,by first |assumption |omega⟩)))⟩
        exact cM 6 [(1,pt bX 0),(4,pt b4 0),(5,U)] .normal H ⟨rfl,false,rfl,mm (by first |exact .inl ⟨by assumption,by assumption⟩ |exact .inr (.inl J) |exact .inr (.inr (.inl (by assumption))) |exact .inr (.inr (.inr ⟨by assumption,by first |assumption |omega⟩)))⟩
       exact cM 8 [(1,pt bX 0),(4,pt b4 0),(5,U)] .normal H ⟨rfl,false,rfl,mm (by first |exact .inl ⟨by assumption,by assumption⟩ |exact .inr (.inl J) |exact .inr (.inr (.inl (by assumption))) |exact .inr (.inr (.inr ⟨by assumption,by first |assumption |omega⟩)))⟩
      exact cM 10 [(1,pt bX 0),(4,pt b4 0),(5,U)] .normal H ⟨rfl,false,rfl,mm (by first |exact .inl ⟨by assumption,by assumption⟩ |exact .inr (.inl J) |exact .inr (.inr (.inl (by assumption))) |exact .inr (.inr (.inr ⟨by assumption,by first |assumption |omega⟩)))⟩
     exact cM 12 [(1,pt bX 0),(4,pt b4 0),(5,U)] .normal H ⟨rfl,false,rfl,mm (by first |exact .inl ⟨by assumption,by assumption⟩ |exact .inr (.inl J) |exact .inr (.inr (.inl (by assumption))) |exact .inr (.inr (.inr ⟨by assumption,by first |assumption |omega⟩)))⟩
    exact cM 14 [(1,pt bX 0),(4,pt b4 0),(5,U)] .normal H ⟨rfl,false,rfl,mm (by first |exact .inl ⟨by assumption,by assumption⟩ |exact .inr (.inl J) |exact .inr (.inr (.inl (by assumption))) |exact .inr (.inr (.inr ⟨by assumption,by first |assumption |omega⟩)))⟩
   exact cM 16 [(1,pt bX 0),(4,pt b4 0),(5,U)] .normal H ⟨rfl,false,rfl,mm (by first |exact .inl ⟨by assumption,by assumption⟩ |exact .inr (.inl J) |exact .inr (.inr (.inl (by assumption))) |exact .inr (.inr (.inr ⟨by assumption,by first |assumption |omega⟩)))⟩
  exact cM 18 [(1,pt bX 0),(4,pt b4 0),(5,U)] .normal H ⟨rfl,false,rfl,mm (by first |exact .inl ⟨by assumption,by assumption⟩ |exact .inr (.inl J) |exact .inr (.inr (.inl (by assumption))) |exact .inr (.inr (.inr ⟨by assumption,by first |assumption |omega⟩)))⟩
 |false=>
  exact ac 0 (cP h2 (F7 x.f.s (gK hx y)))<|cM 20 [(1,pt bX 0),(4,pt b4 0),(5,U)] .normal H ⟨rfl,false,rfl,mm (by first |exact .inl ⟨by assumption,by assumption⟩ |exact .inr (.inl J) |exact .inr (.inr (.inl (by assumption))) |exact .inr (.inr (.inr ⟨by assumption,by first |assumption |omega⟩)))⟩
theorem vg (k:bh) {X:Z} (hx:aa E G X) (hs:jb X k):∀{H:Z},aa E X H→aV E X 49 [.agg (ai k.f).toArray,.agg (ai k.f).toArray] H [] (fun v _=>v=aw):=by
 induction hs with
 |@mk x a hk ih=>
  intro H y
  have h:=tL x X hx a x.f x.f.pm x.f.nm x.f.br x.f.aX x.f.nn x.f.bo x.f.pk x.f.aj x.f.ax y (.inl ⟨rfl,rfl⟩) (.inl ⟨rfl,rfl⟩) (.inl ⟨rfl,rfl⟩) ih
  rw [show ({ x.f with pm:=x.f.pm,nm:=x.f.nm,br:=x.f.br,aX:=x.f.aX,nn:=x.f.nn,bo:=x.f.bo,pk:=x.f.pk,aj:=x.f.aj,ax:=x.f.ax }:dR)=x.f from rfl,aeA] at h
  exact h
theorem FU {f:dR} {b:Bool} (h:f.k=6) (hb:f.d8=b):gU ⟨f.k,f.op,0,⟨#[]⟩,none,0,0,0,0,false,0,f.how,f.aX,f.nn,f.bo,b,f.pk,f.aj,f.ax⟩ f=jV (hD f):=by subst hb;exact aci h
noncomputable abbrev PQ H1 (x:bh):=news H1 [O [M x.f.k,M 0,ap x.f.v,.string x.f.s,.slice x.f.pm x.f.nm x.f.br,M x.f.wide,M x.f.off,.bool x.f.ha,M x.f.at_,M x.f.how,.slice x.f.aX x.f.nn x.f.bo,.bool x.f.d8,.slice x.f.pk x.f.aj x.f.ax] 27]
noncomputable abbrev PR H1 (x:bh):=news H1 [O [M x.f.k,M 0,ap 0,.string x.f.s,.slice x.f.pm x.f.nm x.f.br,M x.f.wide,M x.f.off,.bool x.f.ha,M x.f.at_,M x.f.how,.slice x.f.aX x.f.nn x.f.bo,.bool x.f.d8,.slice x.f.pk x.f.aj x.f.ax] 27]
noncomputable abbrev PS H1 (x:bh):=news H1 [O [M x.f.k,M 0,ap 0,.string x.f.s,.slice x.f.pm x.f.nm x.f.br,M x.f.wide,M x.f.off,.bool x.f.ha,M x.f.at_,M 0,.slice x.f.aX x.f.nn x.f.bo,.bool x.f.d8,.slice x.f.pk x.f.aj x.f.ax] 27]
noncomputable abbrev PT H1 (x:bh):=news H1 [O [M x.f.k,M 0,ap 0,.string x.f.s,.slice x.f.pm x.f.nm x.f.br,M x.f.wide,M x.f.off,.bool x.f.ha,M x.f.at_,M 0,.slice none 0 0,.bool x.f.d8,.slice x.f.pk x.f.aj x.f.ax] 27]
noncomputable abbrev bK (x:bh) U:=([M x.f.k,M 0,ap 0,.string ⟨#[]⟩,.slice none 0 0,M 0,M 0,U,M 0,M 0,.slice none 0 0,U,.slice none 0 0]:List Value)
noncomputable abbrev pn (x:bh) U:=([M x.f.k,M 0,ap x.f.v,.string ⟨#[]⟩,.slice none 0 0,M 0,M 0,U,M 0,M 0,.slice none 0 0,U,.slice none 0 0]:List Value)
noncomputable abbrev gP (x:bh) U:=([M x.f.k,M 0,ap 0,.string x.f.s,.slice none 0 0,M 0,M 0,U,M 0,M 0,.slice none 0 0,U,.slice none 0 0]:List Value)
noncomputable abbrev vH (x:bh) U:=([M x.f.k,M 0,ap 0,.string x.f.s,.slice x.f.pm x.f.nm x.f.br,M x.f.wide,M x.f.off,.bool x.f.ha,M x.f.at_,M 0,.slice none 0 0,U,.slice none 0 0]:List Value)
noncomputable abbrev Nn (x:bh) U:=([M x.f.k,M 0,ap 0,.string x.f.s,.slice x.f.pm x.f.nm x.f.br,M x.f.wide,M x.f.off,.bool x.f.ha,M x.f.at_,M 0,.slice none 0 0,U,.slice x.f.pk x.f.aj x.f.ax]:List Value)
noncomputable abbrev p9 (x:bh) U:=([M x.f.k,M 0,ap 0,.string x.f.s,.slice none 0 0,M 0,M 0,U,M 0,M 0,.slice none 0 0,U,.slice x.f.pk x.f.aj x.f.ax]:List Value)
noncomputable abbrev l7 (x:bh) U:=([M x.f.k,M 0,ap 0,.string x.f.s,.slice none 0 0,M 0,M 0,U,M 0,M x.f.how,.slice x.f.aX x.f.nn x.f.bo,U,.slice x.f.pk x.f.aj x.f.ax]:List Value)
noncomputable abbrev kG (x:bh) U:=([M x.f.k,M 0,ap 0,.string x.f.s,.slice none 0 0,M 0,M 0,U,M 0,M x.f.how,.slice none 0 0,U,.slice none 0 0]:List Value)
noncomputable abbrev kH (x:bh) U:=([M x.f.k,M 0,ap 0,.string x.f.s,.slice none 0 0,M 0,M 0,U,M 0,M x.f.how,.slice x.f.aX x.f.nn x.f.bo,U,.slice none 0 0]:List Value)
noncomputable abbrev mJ (x:bh) U:=([M x.f.k,M x.f.op,ap 0,.string ⟨#[]⟩,.slice none 0 0,M 0,M 0,U,M 0,M 0,.slice none 0 0,U,.slice none 0 0]:List Value)
noncomputable abbrev zm (x:bh) U aw:=([M x.f.k,M x.f.op,ap 0,.string ⟨#[]⟩,.slice none 0 0,M 0,M 0,U,M 0,M 0,.slice none 0 0,aw,.slice none 0 0]:List Value)
noncomputable abbrev zn (x:bh) U aw:=([M x.f.k,M x.f.op,ap 0,.string ⟨#[]⟩,.slice none 0 0,M 0,M 0,U,M 0,M x.f.how,.slice none 0 0,aw,.slice none 0 0]:List Value)
noncomputable abbrev zo (x:bh) U aw:=([M x.f.k,M x.f.op,ap 0,.string ⟨#[]⟩,.slice none 0 0,M 0,M 0,U,M 0,M x.f.how,.slice x.f.aX x.f.nn x.f.bo,aw,.slice none 0 0]:List Value)
noncomputable abbrev pi (x:bh) U aw:=([M x.f.k,M x.f.op,ap 0,.string ⟨#[]⟩,.slice none 0 0,M 0,M 0,U,M 0,M x.f.how,.slice x.f.aX x.f.nn x.f.bo,aw,.slice x.f.pk x.f.aj x.f.ax]:List Value)
noncomputable abbrev zp (x:bh) U:=([M x.f.k,M x.f.op,ap 0,.string ⟨#[]⟩,.slice none 0 0,M 0,M 0,U,M 0,M x.f.how,.slice none 0 0,U,.slice none 0 0]:List Value)
noncomputable abbrev zq (x:bh) U:=([M x.f.k,M x.f.op,ap 0,.string ⟨#[]⟩,.slice none 0 0,M 0,M 0,U,M 0,M x.f.how,.slice x.f.aX x.f.nn x.f.bo,U,.slice none 0 0]:List Value)
noncomputable abbrev pj (x:bh) U:=([M x.f.k,M x.f.op,ap 0,.string ⟨#[]⟩,.slice none 0 0,M 0,M 0,U,M 0,M x.f.how,.slice x.f.aX x.f.nn x.f.bo,U,.slice x.f.pk x.f.aj x.f.ax]:List Value)
noncomputable abbrev vG (x:bh) U:=([M x.f.k,M 0,ap 0,.string ⟨#[]⟩,.slice none 0 0,M 0,M 0,U,M 0,M 0,.slice none 0 0,U,.slice x.f.pk x.f.aj x.f.ax]:List Value)
theorem ad5 (x:bh) (X:Z) (hx:aa E G X) (a:e9 X x) (hz:jX x) (ih1:∀ k∈x.kids,∀{H:Z},aa E X H→aV E X 25 [.agg (ai k.f).toArray] H [] (fun v _=>v=.bool (jH k))) (hs:∀ k∈x.kids,jb X k) {H:Z} (y:aa E X H):aV E X 25 [.agg (ai x.f).toArray] H [] (fun v H'=>v=.bool (jH x)):=by
 refine bB Tryz.f25 y ?_
 obtain ⟨_,_,H1,c1,ak,y1,bE⟩:=(adq x X hx a ih1 (H.n+0) (kC (x.kids.drop 0)) _ 0 _ (y.news [O (ai x.f) 27]) (aR [O (ai x.f) 27] H 0 _ rfl) J rfl rfl).code
 rcases bE with ⟨rfl,rfl,aI⟩ |⟨rfl,rfl,aI⟩
 ·have c8:=d9 ak
  have aS:=(y.news [O (ai x.f) 27]).kept ak aq (aR [O (ai x.f) 27] H 0 _ rfl)
  refine bx 3 c1<|Y 1 (ag 0 av aS)<|aB 2 (bG ct rfl rfl rfl rfl:bu E 27 (H1.n+0) 0 (.agg (bK x U).toArray) (news H1 (au (dS U)))=some (news H1 (au (bK x U))))<|Y 2 (ag 0 av (y1.old aS (au (bK x U))))<|aY 0 x.f.k 1 ?_ ?_ <;> intro h2 cv
  ·refine Y 2 (ag 2 kZ (y1.old aS (au (bK x U))))<|aB 1 (bG Dm rfl rfl rfl rfl:bu E 22 (H1.n+0) 2 (ap x.f.v) (news H1 (au (bK x U)))=some (news H1 (au (pn x U))))<|Y 1 (ag 2 kZ (y1.old aS (au (pn x U))))<|aD 0 (x.f.v≤9218868437227405312) ?_ ?_ <;> intro h3 cY
   ·obtain ⟨_,H2,c2,aF,ar,cX⟩:=eL (tL x X hx a ⟨x.f.k,0,x.f.v,⟨#[]⟩,none,0,0,0,0,false,0,0,none,0,0,false,none,0,0⟩ none 0 0 none 0 0 none 0 0 (y1.news (au (pn x U))) (.inr rfl) (.inr rfl) (.inr rfl) (fun k hk=>vg k hx (hs k hk)))
    refine Y 5 (dt c4 ct rfl rfl rfl:al E 27 (H1.n+0) 0 (news H1 (au (pn x U)))=some (.agg (pn x U).toArray))<|Y 0 (cd c4 ct (y1.old aS (au (pn x U))) rfl rfl:al E 27 (H.n+0) 0 (news H1 (au (pn x U)))=some (.agg (ai x.f).toArray))<|?_
    rcases cX with ⟨rfl,bj⟩ |⟨rfl,bj⟩
    ·have cB:=d9 aF
     exact ac 0 c2<|bf 2 aw H2 [H1.n+0,H1.n+0] aJ aL (congrArg Value.bool (vb (uV J ((FT J).symm.trans bj) ((zb J).trans (P2 a.GN J))) aI).symm)
    have cB:=d9 aF
    exact ac 0 c2<|bf 2 U H2 [H1.n+0,H1.n+0] aJ aL (congrArg Value.bool (jJ (.inl (jT (.inr (.inl ((FT J).symm.trans bj)))))).symm)
   refine Y 2 (ag 2 kZ (y1.old aS (au (pn x U))))<|aY 0 x.f.v 9221120237041090561 ?_ ?_ <;> intro h4 cO
   ·obtain ⟨_,H2,c2,aF,ar,cX⟩:=eL (tL x X hx a ⟨x.f.k,0,x.f.v,⟨#[]⟩,none,0,0,0,0,false,0,0,none,0,0,false,none,0,0⟩ none 0 0 none 0 0 none 0 0 (y1.news (au (pn x U))) (.inr rfl) (.inr rfl) (.inr rfl) (fun k hk=>vg k hx (hs k hk)))
    refine Y 4 (dt c4 ct rfl rfl rfl:al E 27 (H1.n+0) 0 (news H1 (au (pn x U)))=some (.agg (pn x U).toArray))<|Y 0 (cd c4 ct (y1.old aS (au (pn x U))) rfl rfl:al E 27 (H.n+0) 0 (news H1 (au (pn x U)))=some (.agg (ai x.f).toArray))<|?_
    rcases cX with ⟨rfl,bj⟩ |⟨rfl,bj⟩
    ·have cB:=d9 aF
     exact ac 0 c2<|bf 2 aw H2 [H1.n+0,H1.n+0] aJ aL (congrArg Value.bool (vb (uV J ((FT J).symm.trans bj) ((zb J).trans (P2 a.GN J))) aI).symm)
    have cB:=d9 aF
    exact ac 0 c2<|bf 2 U H2 [H1.n+0,H1.n+0] aJ aL (congrArg Value.bool (jJ (.inl (jT (.inr (.inl ((FT J).symm.trans bj)))))).symm)
   exact bf 6 U (news H1 (au (pn x U))) [H1.n+0,H1.n+0] aJ aL (congrArg Value.bool (jJ (.inl (jT (.inr (.inr ((zb J).trans (ab4 a.GN J))))))).symm)
  refine aY 1 x.f.k 2 ?_ ?_ <;> intro h3 cY
  ·refine Y 2 (ag 3 bA (y1.old aS (au (bK x U))))<|aB 1 (bG nC rfl rfl rfl rfl:bu E 9 (H1.n+0) 3 (.string x.f.s) (news H1 (au (bK x U)))=some (news H1 (au (gP x U))))<|Y 1 (ag 3 bA (y1.old aS (au (gP x U))))<|?_
   cases h4:(lV x.f.s) with
   |true=>
    obtain ⟨_,H2,c2,aF,ar,cX⟩:=eL (tL x X hx a ⟨x.f.k,0,0,x.f.s,none,0,0,0,0,false,0,0,none,0,0,false,none,0,0⟩ none 0 0 none 0 0 none 0 0 (y1.news (au (gP x U))) (.inr rfl) (.inr rfl) (.inr rfl) (fun k hk=>vg k hx (hs k hk)))
    refine ac 0 (cP h4 (AD x.f.s (gK hx (y1.news (au (gP x U))))))<|Y 3 (dt c4 ct rfl rfl rfl:al E 27 (H1.n+0) 0 (news H1 (au (gP x U)))=some (.agg (gP x U).toArray))<|Y 0 (cd c4 ct (y1.old aS (au (gP x U))) rfl rfl:al E 27 (H.n+0) 0 (news H1 (au (gP x U)))=some (.agg (ai x.f).toArray))<|?_
    rcases cX with ⟨rfl,bj⟩ |⟨rfl,bj⟩
    ·have cB:=d9 aF
     exact ac 0 c2<|bf 2 aw H2 [H1.n+0,H1.n+0] aJ aL (congrArg Value.bool (vb (uV J ((Qb J).symm.trans bj) ((Bn J).trans ((RK x).trans h4))) aI).symm)
    have cB:=d9 aF
    exact ac 0 c2<|bf 2 U H2 [H1.n+0,H1.n+0] aJ aL (congrArg Value.bool (jJ (.inl (jT (.inr (.inl ((Qb J).symm.trans bj)))))).symm)
   |false=>
    exact ac 0 (cP h4 (AD x.f.s (gK hx (y1.news (au (gP x U))))))<|bf 5 U (news H1 (au (gP x U))) [H1.n+0,H1.n+0] aJ aL (congrArg Value.bool (jJ (.inl (jT (.inr (.inr ((Bn J).trans ((RK x).trans h4))))))).symm)
  refine aY 1 x.f.k 3 ?_ ?_ <;> intro h4 cO
  ·obtain ⟨_,_,H2,c2,aF,ar,rfl,Sb,rfl,kw⟩:=adB x X hx a (H.n+0) (H1.n+0) (y1.news (au (vH x U))) (y1.old aS (au (vH x U)))
   have cB:=d9 aF
   have qe:=(y1.news (au (vH x U))).kept aF aq (aR (au (vH x U)) H1 0 _ rfl)
   have ca:=(y1.news (au (vH x U))).kept aF aq (y1.old aS (au (vH x U)))
   obtain ⟨_,_,H3,c3,bq,aM,rfl,li,rfl,ky⟩:=(adA x X hx a hz (H.n+0) (H1.n+0) (Sb&&!mg (x.ms.drop 0)) _ Sb 0 _ ar ca J rfl rfl).code
   have ek:H2.n+0≤H3.n:=bq.n
   refine Y 1 (cd c4 ct (y1.old aS (au (bK x U))) rfl rfl:al E 27 (H.n+0) 0 (news H1 (au (bK x U)))=some (.agg (ai x.f).toArray))<|aB 0 (bG ct rfl rfl rfl rfl:bu E 27 (H1.n+0) 0 (.agg (ai x.f).toArray) (news H1 (au (bK x U)))=some (news H1 [O (ai x.f) 27]))<|aB 1 (bG dK rfl rfl rfl rfl:bu E 3 (H1.n+0) 1 (M 0) (news H1 [O (ai x.f) 27])=some (PQ H1 x))<|aB 1 (bG Dm rfl rfl rfl rfl:bu E 22 (H1.n+0) 2 (ap 0) (PQ H1 x)=some (PR H1 x))<|aB 1 (bG dK rfl rfl rfl rfl:bu E 3 (H1.n+0) 9 (M 0) (PR H1 x)=some (PS H1 x))<|aB 1 (bG ve rfl rfl rfl rfl:bu E 24 (H1.n+0) 10 (.slice none 0 0) (PS H1 x)=some (PT H1 x))<|aB 1 (bG si rfl rfl rfl rfl:bu E 4 (H1.n+0) 11 U (PT H1 x)=some (news H1 (au (Nn x U))))<|aB 1 (bG qq rfl rfl rfl rfl:bu E 25 (H1.n+0) 12 (.slice none 0 0) (news H1 (au (Nn x U)))=some (news H1 (au (vH x U))))<|gi 0 1 c2<|bx 1 c3<|?_
   cases li with
   |true=>
    have I6:=ar.kept bq aq qe
    have fL:=ar.kept bq aq ca
    obtain ⟨_,H4,eg,ee,cu,jr⟩:=eL (tL x X hx a ⟨x.f.k,0,0,x.f.s,x.f.pm,x.f.nm,x.f.br,x.f.wide,x.f.off,x.f.ha,x.f.at_,0,none,0,0,false,none,0,0⟩ x.f.pm x.f.nm x.f.br none 0 0 none 0 0 aM (.inl ⟨rfl,rfl⟩) (.inr rfl) (.inr rfl) (fun k hk=>vg k hx (hs k hk)))
    refine Y 2 (cd c4 ct I6 rfl rfl:al E 27 (H1.n+0) 0 H3=some (.agg (vH x U).toArray))<|Y 0 (cd c4 ct fL rfl rfl:al E 27 (H.n+0) 0 H3=some (.agg (ai x.f).toArray))<|?_
    rcases jr with ⟨rfl,ld⟩ |⟨rfl,ld⟩
    ·have gm:H3.n+0≤H4.n:=ee.n
     exact ac 0 eg<|bf 2 aw H4 [H1.n+0,H1.n+0,H1.n+0,H1.n+0,H1.n+0,H1.n+0,H1.n+0,H1.n+0] aJ aL (congrArg Value.bool (vb (uV J ((Qc J).symm.trans ld) ((zc J).trans (Qq kw ky))) aI).symm)
    have gm:H3.n+0≤H4.n:=ee.n
    exact ac 0 eg<|bf 2 U H4 [H1.n+0,H1.n+0,H1.n+0,H1.n+0,H1.n+0,H1.n+0,H1.n+0,H1.n+0] aJ aL (congrArg Value.bool (jJ (.inl (jT (.inr (.inl ((Qc J).symm.trans ld)))))).symm)
   |false=>
    exact bf 4 U H3 [H1.n+0,H1.n+0,H1.n+0,H1.n+0,H1.n+0,H1.n+0,H1.n+0,H1.n+0] aJ aL (congrArg Value.bool (jJ (.inl (jT (.inr (.inr ((zc J).trans (Qq kw ky))))))).symm)
  refine aY 1 x.f.k 4 ?_ ?_ <;> intro h5 dc
  ·refine aE [am 0]<|qo [] (dx H1 (au (bK x U))) (bk:(H1.n+0)≠(H.n+0)) (dx H1 (au (bK x U)))<|Y 1 (ag 3 bA (y1.old aS (au (bK x U))))<|Y 1 (ag 12 ef (y1.old aS (au (bK x U))))<|aB 1 (bG nC rfl rfl rfl rfl:bu E 9 (H1.n+0) 3 (.string x.f.s) (news H1 (au (bK x U)))=some (news H1 (au (gP x U))))<|az [] (dO (y1.news (au (bK x U))) (aR (au (bK x U)) H1 0 _ rfl):cK (news H1 (au (bK x U))) (news H1 (au (gP x U))) [H1.n+0]=true)<|aB 1 (bG qq rfl rfl rfl rfl:bu E 25 (H1.n+0) 12 (.slice x.f.pk x.f.aj x.f.ax) (news H1 (au (gP x U)))=some (news H1 (au (p9 x U))))<|az [] (dO (y1.news (au (gP x U))) (aR (au (gP x U)) H1 0 _ rfl):cK (news H1 (au (gP x U))) (news H1 (au (p9 x U))) [H1.n+0]=true)<|Y 1 (ag 3 bA (y1.old aS (au (p9 x U))))<|?_
   cases h6:(jC x.f.s) with
   |true=>
    refine ac 0 (cP h6 (F7 x.f.s (gK hx (y1.news (au (p9 x U))))))<|Y 2 (ag 12 ef (y1.old aS (au (p9 x U))))<|aD 1 ((x.f.aj:Int)≤4) ?_ ?_ <;> intro h7 gM
    ·obtain ⟨_,H2,c2,aF,ar,cX⟩:=eL (tL x X hx a ⟨x.f.k,0,0,x.f.s,none,0,0,0,0,false,0,0,none,0,0,false,x.f.pk,x.f.aj,x.f.ax⟩ none 0 0 none 0 0 x.f.pk x.f.aj x.f.ax (y1.news (au (p9 x U))) (.inr rfl) (.inr rfl) (.inl ⟨rfl,rfl⟩) (fun k hk=>vg k hx (hs k hk)))
     refine Y 4 (dt c4 ct rfl rfl rfl:al E 27 (H1.n+0) 0 (news H1 (au (p9 x U)))=some (.agg (p9 x U).toArray))<|Y 0 (cd c4 ct (y1.old aS (au (p9 x U))) rfl rfl:al E 27 (H.n+0) 0 (news H1 (au (p9 x U)))=some (.agg (ai x.f).toArray))<|?_
     rcases cX with ⟨rfl,bj⟩ |⟨rfl,bj⟩
     ·have cB:=d9 aF
      exact ac 0 c2<|bf 2 aw H2 [H1.n+0,H1.n+0,H1.n+0] aJ aL (congrArg Value.bool (vb (uV J ((Qd J).symm.trans bj) ((w8 J).trans (by rw [sP,h6,h7] <;> rfl))) aI).symm)
     have cB:=d9 aF
     exact ac 0 c2<|bf 2 U H2 [H1.n+0,H1.n+0,H1.n+0] aJ aL (congrArg Value.bool (jJ (.inl (jT (.inr (.inl ((Qd J).symm.trans bj)))))).symm)
    exact bf 6 U (news H1 (au (p9 x U))) [H1.n+0,H1.n+0,H1.n+0] aJ aL (congrArg Value.bool (jJ (.inl (jT (.inr (.inr ((w8 J).trans (by rw [sP,h6,h7] <;> rfl))))))).symm)
   |false=>
    exact ac 0 (cP h6 (F7 x.f.s (gK hx (y1.news (au (p9 x U))))))<|bf 7 U (news H1 (au (p9 x U))) [H1.n+0,H1.n+0,H1.n+0] aJ aL (congrArg Value.bool (jJ (.inl (jT (.inr (.inr ((w8 J).trans (by rw [sP,h6] <;> rfl))))))).symm)
  refine aY 1 x.f.k 5 ?_ ?_ <;> intro h6 di
  ·obtain ⟨_,H2,c2,aF,ar,eJ,rfl,Iv,x4⟩:=pF (y1.news (au (l7 x U))) (QJ (gK hx (y1.news (au (l7 x U)))))
   have cB:=d9 aF
   have qe:=(y1.news (au (l7 x U))).kept aF aq (aR (au (l7 x U)) H1 0 _ rfl)
   obtain ⟨_,H3,c3,bq,aM,fq⟩:=eL (pF ar (Kw eJ (rd oB) 15 x.f.s (gK hx ar) x4 (by decide)))
   rcases fq with ⟨rfl,ec⟩ |⟨rfl,ec⟩
   ·have ek:H2.n+0≤H3.n:=bq.n
    have ca:=(y1.news (au (l7 x U))).kept aF aq (y1.old aS (au (l7 x U)))
    have fL:=ar.kept bq aq ca
    obtain ⟨_,H4,eg,ee,cu,jr⟩:=eL (Kx x X hx a hz aM)
    rcases jr with ⟨rfl,ld⟩ |⟨rfl,ld⟩
    ·have gm:H3.n+0≤H4.n:=ee.n
     have kj:=aM.kept ee aq fL
     rcases df (decide ((x.f.aj:Int)≤4)) with h9 |h9
     ·have I6:=ar.kept bq aq qe
      have Zm:=aM.kept ee aq I6
      obtain ⟨_,H5,fF,ej,dQ,ny⟩:=eL (tL x X hx a ⟨x.f.k,0,0,x.f.s,none,0,0,0,0,false,0,x.f.how,x.f.aX,x.f.nn,x.f.bo,false,x.f.pk,x.f.aj,x.f.ax⟩ none 0 0 x.f.aX x.f.nn x.f.bo x.f.pk x.f.aj x.f.ax cu (.inr rfl) (.inl ⟨rfl,rfl⟩) (.inl ⟨rfl,rfl⟩) (fun k hk=>vg k hx (hs k hk)))
      refine aE [am 0]<|io [] (dx H1 (au (bK x U))) (bk:(H1.n+0)≠(H.n+0)) (dx H1 (au (bK x U))) (dx H1 (au (bK x U))) (bk:(H1.n+0)≠(H.n+0)) (dx H1 (au (bK x U)))<|io [] (dx H1 (au (bK x U))) (bk:(H1.n+0)≠(H.n+0)) (dx H1 (au (bK x U))) (dx H1 (au (bK x U))) (bk:(H1.n+0)≠(H.n+0)) (dx H1 (au (bK x U)))<|io [] (dx H1 (au (bK x U))) (bk:(H1.n+0)≠(H.n+0)) (dx H1 (au (bK x U))) (dx H1 (au (bK x U))) (bk:(H1.n+0)≠(H.n+0)) (dx H1 (au (bK x U)))<|Y 1 (ag 3 bA (y1.old aS (au (bK x U))))<|Y 1 (ag 9 av (y1.old aS (au (bK x U))))<|Y 1 (ag 10 jz (y1.old aS (au (bK x U))))<|Y 1 (ag 12 ef (y1.old aS (au (bK x U))))<|aB 1 (bG nC rfl rfl rfl rfl:bu E 9 (H1.n+0) 3 (.string x.f.s) (news H1 (au (bK x U)))=some (news H1 (au (gP x U))))<|az [] (dO (y1.news (au (bK x U))) (aR (au (bK x U)) H1 0 _ rfl):cK (news H1 (au (bK x U))) (news H1 (au (gP x U))) [H1.n+0]=true)<|aB 1 (bG dK rfl rfl rfl rfl:bu E 3 (H1.n+0) 9 (M x.f.how) (news H1 (au (gP x U)))=some (news H1 (au (kG x U))))<|az [] (dO (y1.news (au (gP x U))) (aR (au (gP x U)) H1 0 _ rfl):cK (news H1 (au (gP x U))) (news H1 (au (kG x U))) [H1.n+0]=true)<|aB 1 (bG ve rfl rfl rfl rfl:bu E 24 (H1.n+0) 10 (.slice x.f.aX x.f.nn x.f.bo) (news H1 (au (kG x U)))=some (news H1 (au (kH x U))))<|az [] (dO (y1.news (au (kG x U))) (aR (au (kG x U)) H1 0 _ rfl):cK (news H1 (au (kG x U))) (news H1 (au (kH x U))) [H1.n+0]=true)<|aB 1 (bG qq rfl rfl rfl rfl:bu E 25 (H1.n+0) 12 (.slice x.f.pk x.f.aj x.f.ax) (news H1 (au (kH x U)))=some (news H1 (au (l7 x U))))<|az [] (dO (y1.news (au (kH x U))) (aR (au (kH x U)) H1 0 _ rfl):cK (news H1 (au (kH x U))) (news H1 (au (l7 x U))) [H1.n+0]=true)<|Y 1 (ag 3 bA (y1.old aS (au (l7 x U))))<|ac 0 c2<|ac 0 c3<|Y 1 (cd c4 ct fL rfl rfl:al E 27 (H.n+0) 0 H3=some (.agg (ai x.f).toArray))<|ac 0 eg<|Y 3 (ag 12 ef kj)<|ay 1 h9<|Y 4 (cd c4 ct Zm rfl rfl:al E 27 (H1.n+0) 0 H4=some (.agg (l7 x U).toArray))<|Y 0 (cd c4 ct kj rfl rfl:al E 27 (H.n+0) 0 H4=some (.agg (ai x.f).toArray))<|?_
      rcases ny with ⟨rfl,BJ⟩ |⟨rfl,BJ⟩
      ·have iR:H4.n+0≤H5.n:=ej.n
       exact ac 0 fF<|bf 2 aw H5 [H1.n+0,H1.n+0,H1.n+0,H1.n+0,H1.n+0] aJ aL (congrArg Value.bool (vb (uV J ((Qe J).symm.trans BJ) ((vz J).trans (by rw [qJ,ec,ld,h9] <;> rfl))) aI).symm)
      have iR:H4.n+0≤H5.n:=ej.n
      exact ac 0 fF<|bf 2 U H5 [H1.n+0,H1.n+0,H1.n+0,H1.n+0,H1.n+0] aJ aL (congrArg Value.bool (jJ (.inl (jT (.inr (.inl ((Qe J).symm.trans BJ)))))).symm)
     exact aE [am 0]<|io [] (dx H1 (au (bK x U))) (bk:(H1.n+0)≠(H.n+0)) (dx H1 (au (bK x U))) (dx H1 (au (bK x U))) (bk:(H1.n+0)≠(H.n+0)) (dx H1 (au (bK x U)))<|io [] (dx H1 (au (bK x U))) (bk:(H1.n+0)≠(H.n+0)) (dx H1 (au (bK x U))) (dx H1 (au (bK x U))) (bk:(H1.n+0)≠(H.n+0)) (dx H1 (au (bK x U)))<|io [] (dx H1 (au (bK x U))) (bk:(H1.n+0)≠(H.n+0)) (dx H1 (au (bK x U))) (dx H1 (au (bK x U))) (bk:(H1.n+0)≠(H.n+0)) (dx H1 (au (bK x U)))<|Y 1 (ag 3 bA (y1.old aS (au (bK x U))))<|Y 1 (ag 9 av (y1.old aS (au (bK x U))))<|Y 1 (ag 10 jz (y1.old aS (au (bK x U))))<|Y 1 (ag 12 ef (y1.old aS (au (bK x U))))<|aB 1 (bG nC rfl rfl rfl rfl:bu E 9 (H1.n+0) 3 (.string x.f.s) (news H1 (au (bK x U)))=some (news H1 (au (gP x U))))<|az [] (dO (y1.news (au (bK x U))) (aR (au (bK x U)) H1 0 _ rfl):cK (news H1 (au (bK x U))) (news H1 (au (gP x U))) [H1.n+0]=true)<|aB 1 (bG dK rfl rfl rfl rfl:bu E 3 (H1.n+0) 9 (M x.f.how) (news H1 (au (gP x U)))=some (news H1 (au (kG x U))))<|az [] (dO (y1.news (au (gP x U))) (aR (au (gP x U)) H1 0 _ rfl):cK (news H1 (au (gP x U))) (news H1 (au (kG x U))) [H1.n+0]=true)<|aB 1 (bG ve rfl rfl rfl rfl:bu E 24 (H1.n+0) 10 (.slice x.f.aX x.f.nn x.f.bo) (news H1 (au (kG x U)))=some (news H1 (au (kH x U))))<|az [] (dO (y1.news (au (kG x U))) (aR (au (kG x U)) H1 0 _ rfl):cK (news H1 (au (kG x U))) (news H1 (au (kH x U))) [H1.n+0]=true)<|aB 1 (bG qq rfl rfl rfl rfl:bu E 25 (H1.n+0) 12 (.slice x.f.pk x.f.aj x.f.ax) (news H1 (au (kH x U)))=some (news H1 (au (l7 x U))))<|az [] (dO (y1.news (au (kH x U))) (aR (au (kH x U)) H1 0 _ rfl):cK (news H1 (au (kH x U))) (news H1 (au (l7 x U))) [H1.n+0]=true)<|Y 1 (ag 3 bA (y1.old aS (au (l7 x U))))<|ac 0 c2<|ac 0 c3<|Y 1 (cd c4 ct fL rfl rfl:al E 27 (H.n+0) 0 H3=some (.agg (ai x.f).toArray))<|ac 0 eg<|Y 3 (ag 12 ef kj)<|ay 1 h9<|bf 6 U H4 [H1.n+0,H1.n+0,H1.n+0,H1.n+0,H1.n+0] aJ aL (congrArg Value.bool (jJ (.inl (jT (.inr (.inr ((vz J).trans (by rw [qJ,ec,ld,h9] <;> rfl))))))).symm)
    have gm:H3.n+0≤H4.n:=ee.n
    exact aE [am 0]<|io [] (dx H1 (au (bK x U))) (bk:(H1.n+0)≠(H.n+0)) (dx H1 (au (bK x U))) (dx H1 (au (bK x U))) (bk:(H1.n+0)≠(H.n+0)) (dx H1 (au (bK x U)))<|io [] (dx H1 (au (bK x U))) (bk:(H1.n+0)≠(H.n+0)) (dx H1 (au (bK x U))) (dx H1 (au (bK x U))) (bk:(H1.n+0)≠(H.n+0)) (dx H1 (au (bK x U)))<|io [] (dx H1 (au (bK x U))) (bk:(H1.n+0)≠(H.n+0)) (dx H1 (au (bK x U))) (dx H1 (au (bK x U))) (bk:(H1.n+0)≠(H.n+0)) (dx H1 (au (bK x U)))<|Y 1 (ag 3 bA (y1.old aS (au (bK x U))))<|Y 1 (ag 9 av (y1.old aS (au (bK x U))))<|Y 1 (ag 10 jz (y1.old aS (au (bK x U))))<|Y 1 (ag 12 ef (y1.old aS (au (bK x U))))<|aB 1 (bG nC rfl rfl rfl rfl:bu E 9 (H1.n+0) 3 (.string x.f.s) (news H1 (au (bK x U)))=some (news H1 (au (gP x U))))<|az [] (dO (y1.news (au (bK x U))) (aR (au (bK x U)) H1 0 _ rfl):cK (news H1 (au (bK x U))) (news H1 (au (gP x U))) [H1.n+0]=true)<|aB 1 (bG dK rfl rfl rfl rfl:bu E 3 (H1.n+0) 9 (M x.f.how) (news H1 (au (gP x U)))=some (news H1 (au (kG x U))))<|az [] (dO (y1.news (au (gP x U))) (aR (au (gP x U)) H1 0 _ rfl):cK (news H1 (au (gP x U))) (news H1 (au (kG x U))) [H1.n+0]=true)<|aB 1 (bG ve rfl rfl rfl rfl:bu E 24 (H1.n+0) 10 (.slice x.f.aX x.f.nn x.f.bo) (news H1 (au (kG x U)))=some (news H1 (au (kH x U))))<|az [] (dO (y1.news (au (kG x U))) (aR (au (kG x U)) H1 0 _ rfl):cK (news H1 (au (kG x U))) (news H1 (au (kH x U))) [H1.n+0]=true)<|aB 1 (bG qq rfl rfl rfl rfl:bu E 25 (H1.n+0) 12 (.slice x.f.pk x.f.aj x.f.ax) (news H1 (au (kH x U)))=some (news H1 (au (l7 x U))))<|az [] (dO (y1.news (au (kH x U))) (aR (au (kH x U)) H1 0 _ rfl):cK (news H1 (au (kH x U))) (news H1 (au (l7 x U))) [H1.n+0]=true)<|Y 1 (ag 3 bA (y1.old aS (au (l7 x U))))<|ac 0 c2<|ac 0 c3<|Y 1 (cd c4 ct fL rfl rfl:al E 27 (H.n+0) 0 H3=some (.agg (ai x.f).toArray))<|ac 0 eg<|bf 8 U H4 [H1.n+0,H1.n+0,H1.n+0,H1.n+0,H1.n+0] aJ aL (congrArg Value.bool (jJ (.inl (jT (.inr (.inr ((vz J).trans (by rw [qJ,ec,ld] <;> rfl))))))).symm)
   have ek:H2.n+0≤H3.n:=bq.n
   exact aE [am 0]<|io [] (dx H1 (au (bK x U))) (bk:(H1.n+0)≠(H.n+0)) (dx H1 (au (bK x U))) (dx H1 (au (bK x U))) (bk:(H1.n+0)≠(H.n+0)) (dx H1 (au (bK x U)))<|io [] (dx H1 (au (bK x U))) (bk:(H1.n+0)≠(H.n+0)) (dx H1 (au (bK x U))) (dx H1 (au (bK x U))) (bk:(H1.n+0)≠(H.n+0)) (dx H1 (au (bK x U)))<|io [] (dx H1 (au (bK x U))) (bk:(H1.n+0)≠(H.n+0)) (dx H1 (au (bK x U))) (dx H1 (au (bK x U))) (bk:(H1.n+0)≠(H.n+0)) (dx H1 (au (bK x U)))<|Y 1 (ag 3 bA (y1.old aS (au (bK x U))))<|Y 1 (ag 9 av (y1.old aS (au (bK x U))))<|Y 1 (ag 10 jz (y1.old aS (au (bK x U))))<|Y 1 (ag 12 ef (y1.old aS (au (bK x U))))<|aB 1 (bG nC rfl rfl rfl rfl:bu E 9 (H1.n+0) 3 (.string x.f.s) (news H1 (au (bK x U)))=some (news H1 (au (gP x U))))<|az [] (dO (y1.news (au (bK x U))) (aR (au (bK x U)) H1 0 _ rfl):cK (news H1 (au (bK x U))) (news H1 (au (gP x U))) [H1.n+0]=true)<|aB 1 (bG dK rfl rfl rfl rfl:bu E 3 (H1.n+0) 9 (M x.f.how) (news H1 (au (gP x U)))=some (news H1 (au (kG x U))))<|az [] (dO (y1.news (au (gP x U))) (aR (au (gP x U)) H1 0 _ rfl):cK (news H1 (au (gP x U))) (news H1 (au (kG x U))) [H1.n+0]=true)<|aB 1 (bG ve rfl rfl rfl rfl:bu E 24 (H1.n+0) 10 (.slice x.f.aX x.f.nn x.f.bo) (news H1 (au (kG x U)))=some (news H1 (au (kH x U))))<|az [] (dO (y1.news (au (kG x U))) (aR (au (kG x U)) H1 0 _ rfl):cK (news H1 (au (kG x U))) (news H1 (au (kH x U))) [H1.n+0]=true)<|aB 1 (bG qq rfl rfl rfl rfl:bu E 25 (H1.n+0) 12 (.slice x.f.pk x.f.aj x.f.ax) (news H1 (au (kH x U)))=some (news H1 (au (l7 x U))))<|az [] (dO (y1.news (au (kH x U))) (aR (au (kH x U)) H1 0 _ rfl):cK (news H1 (au (kH x U))) (news H1 (au (l7 x U))) [H1.n+0]=true)<|Y 1 (ag 3 bA (y1.old aS (au (l7 x U))))<|ac 0 c2<|ac 0 c3<|bf 9 U H3 [H1.n+0,H1.n+0,H1.n+0,H1.n+0,H1.n+0] aJ aL (congrArg Value.bool (jJ (.inl (jT (.inr (.inr ((vz J).trans (by rw [qJ,ec] <;> rfl))))))).symm)
  refine aY 1 x.f.k 6 ?_ ?_ <;> intro h7 gM
  ·rcases df x.f.d8 with h8 |h8
   ·refine aE [am 0]<|io [] (dx H1 (au (bK x U))) (bk:(H1.n+0)≠(H.n+0)) (dx H1 (au (bK x U))) (dx H1 (au (bK x U))) (bk:(H1.n+0)≠(H.n+0)) (dx H1 (au (bK x U)))<|io [] (dx H1 (au (bK x U))) (bk:(H1.n+0)≠(H.n+0)) (dx H1 (au (bK x U))) (dx H1 (au (bK x U))) (bk:(H1.n+0)≠(H.n+0)) (dx H1 (au (bK x U)))<|io [] (dx H1 (au (bK x U))) (bk:(H1.n+0)≠(H.n+0)) (dx H1 (au (bK x U))) (dx H1 (au (bK x U))) (bk:(H1.n+0)≠(H.n+0)) (dx H1 (au (bK x U)))<|io [] (dx H1 (au (bK x U))) (bk:(H1.n+0)≠(H.n+0)) (dx H1 (au (bK x U))) (dx H1 (au (bK x U))) (bk:(H1.n+0)≠(H.n+0)) (dx H1 (au (bK x U)))<|io [] (dx H1 (au (bK x U))) (bk:(H1.n+0)≠(H.n+0)) (dx H1 (au (bK x U))) (dx H1 (au (bK x U))) (bk:(H1.n+0)≠(H.n+0)) (dx H1 (au (bK x U)))<|Y 1 (ag 1 av (y1.old aS (au (bK x U))))<|aE [am 0]<|az [bw aw (news H1 (au (bK x U)))] ((ag 11 fK (y1.old aS (au (bK x U)))).trans (congrArg (fun q=>some (Value.bool q)) h8))<|Y 1 (ag 9 av (y1.old aS (au (bK x U))))<|Y 1 (ag 10 jz (y1.old aS (au (bK x U))))<|Y 1 (ag 12 ef (y1.old aS (au (bK x U))))<|aB 1 (bG dK rfl rfl rfl rfl:bu E 3 (H1.n+0) 1 (M x.f.op) (news H1 (au (bK x U)))=some (news H1 (au (mJ x U))))<|az [] (dO (y1.news (au (bK x U))) (aR (au (bK x U)) H1 0 _ rfl):cK (news H1 (au (bK x U))) (news H1 (au (mJ x U))) [H1.n+0]=true)<|aB 1 (bG si rfl rfl rfl rfl:bu E 4 (H1.n+0) 11 aw (news H1 (au (mJ x U)))=some (news H1 (au (zm x U aw))))<|az [] (dO (y1.news (au (mJ x U))) (aR (au (mJ x U)) H1 0 _ rfl):cK (news H1 (au (mJ x U))) (news H1 (au (zm x U aw))) [H1.n+0]=true)<|aB 1 (bG dK rfl rfl rfl rfl:bu E 3 (H1.n+0) 9 (M x.f.how) (news H1 (au (zm x U aw)))=some (news H1 (au (zn x U aw))))<|az [] (dO (y1.news (au (zm x U aw))) (aR (au (zm x U aw)) H1 0 _ rfl):cK (news H1 (au (zm x U aw))) (news H1 (au (zn x U aw))) [H1.n+0]=true)<|aB 1 (bG ve rfl rfl rfl rfl:bu E 24 (H1.n+0) 10 (.slice x.f.aX x.f.nn x.f.bo) (news H1 (au (zn x U aw)))=some (news H1 (au (zo x U aw))))<|az [] (dO (y1.news (au (zn x U aw))) (aR (au (zn x U aw)) H1 0 _ rfl):cK (news H1 (au (zn x U aw))) (news H1 (au (zo x U aw))) [H1.n+0]=true)<|aB 1 (bG qq rfl rfl rfl rfl:bu E 25 (H1.n+0) 12 (.slice x.f.pk x.f.aj x.f.ax) (news H1 (au (zo x U aw)))=some (news H1 (au (pi x U aw))))<|az [] (dO (y1.news (au (zo x U aw))) (aR (au (zo x U aw)) H1 0 _ rfl):cK (news H1 (au (zo x U aw))) (news H1 (au (pi x U aw))) [H1.n+0]=true)<|Y 1 (ag 1 av (y1.old aS (au (pi x U aw))))<|aD 0 (x.f.op≥1) ?_ ?_ <;> intro h9 oQ
    ·refine Y 2 (ag 1 av (y1.old aS (au (pi x U aw))))<|aD 0 (x.f.op≤11) ?_ ?_ <;> intro h10 oP
     ·obtain ⟨_,H2,c2,aF,ar,cX⟩:=eL (Kx x X hx a hz (y1.news (au (pi x U aw))))
      refine Y 2 (cd c4 ct (y1.old aS (au (pi x U aw))) rfl rfl:al E 27 (H.n+0) 0 (news H1 (au (pi x U aw)))=some (.agg (ai x.f).toArray))<|?_
      rcases cX with ⟨rfl,bj⟩ |⟨rfl,bj⟩
      ·have cB:=d9 aF
       have qe:=(y1.news (au (pi x U aw))).kept aF aq (aR (au (pi x U aw)) H1 0 _ rfl)
       have ca:=(y1.news (au (pi x U aw))).kept aF aq (y1.old aS (au (pi x U aw)))
       refine ac 0 c2<|Y 3 (ag 12 ef ca)<|aY 1 (x.f.aj:Int) 2 ?_ ?_ <;> intro h12 ql
       ·obtain ⟨_,H3,c3,bq,aM,fq⟩:=eL (tL x X hx a ⟨x.f.k,x.f.op,0,⟨#[]⟩,none,0,0,0,0,false,0,x.f.how,x.f.aX,x.f.nn,x.f.bo,true,x.f.pk,x.f.aj,x.f.ax⟩ none 0 0 x.f.aX x.f.nn x.f.bo x.f.pk x.f.aj x.f.ax ar (.inr rfl) (.inl ⟨rfl,rfl⟩) (.inl ⟨rfl,rfl⟩) (fun k hk=>vg k hx (hs k hk)))
        refine Y 4 (cd c4 ct qe rfl rfl:al E 27 (H1.n+0) 0 H2=some (.agg (pi x U aw).toArray))<|Y 0 (cd c4 ct ca rfl rfl:al E 27 (H.n+0) 0 H2=some (.agg (ai x.f).toArray))<|?_
        rcases fq with ⟨rfl,ec⟩ |⟨rfl,ec⟩
        ·have ek:H2.n+0≤H3.n:=bq.n
         exact ac 0 c3<|bf 2 aw H3 [H1.n+0,H1.n+0,H1.n+0,H1.n+0,H1.n+0,H1.n+0] aJ aL (congrArg Value.bool (vb (uV J ((FU J (by assumption)).symm.trans ec) ((or J).trans (by rw [lS,h9,h10,bj,h12] <;> rfl))) aI).symm)
        have ek:H2.n+0≤H3.n:=bq.n
        exact ac 0 c3<|bf 2 U H3 [H1.n+0,H1.n+0,H1.n+0,H1.n+0,H1.n+0,H1.n+0] aJ aL (congrArg Value.bool (jJ (.inl (jT (.inr (.inl ((FU J (by assumption)).symm.trans ec)))))).symm)
       exact bf 6 U H2 [H1.n+0,H1.n+0,H1.n+0,H1.n+0,H1.n+0,H1.n+0] aJ aL (congrArg Value.bool (jJ (.inl (jT (.inr (.inr ((or J).trans (by rw [lS,h9,h10,bj,h12] <;> rfl))))))).symm)
      have cB:=d9 aF
      exact ac 0 c2<|bf 8 U H2 [H1.n+0,H1.n+0,H1.n+0,H1.n+0,H1.n+0,H1.n+0] aJ aL (congrArg Value.bool (jJ (.inl (jT (.inr (.inr ((or J).trans (by rw [lS,h9,h10,bj] <;> rfl))))))).symm)
     exact bf 10 U (news H1 (au (pi x U aw))) [H1.n+0,H1.n+0,H1.n+0,H1.n+0,H1.n+0,H1.n+0] aJ aL (congrArg Value.bool (jJ (.inl (jT (.inr (.inr ((or J).trans (by rw [lS,h9,h10] <;> rfl))))))).symm)
    exact bf 11 U (news H1 (au (pi x U aw))) [H1.n+0,H1.n+0,H1.n+0,H1.n+0,H1.n+0,H1.n+0] aJ aL (congrArg Value.bool (jJ (.inl (jT (.inr (.inr ((or J).trans (by rw [lS,h9] <;> rfl))))))).symm)
   refine aE [am 0]<|io [] (dx H1 (au (bK x U))) (bk:(H1.n+0)≠(H.n+0)) (dx H1 (au (bK x U))) (dx H1 (au (bK x U))) (bk:(H1.n+0)≠(H.n+0)) (dx H1 (au (bK x U)))<|io [] (dx H1 (au (bK x U))) (bk:(H1.n+0)≠(H.n+0)) (dx H1 (au (bK x U))) (dx H1 (au (bK x U))) (bk:(H1.n+0)≠(H.n+0)) (dx H1 (au (bK x U)))<|io [] (dx H1 (au (bK x U))) (bk:(H1.n+0)≠(H.n+0)) (dx H1 (au (bK x U))) (dx H1 (au (bK x U))) (bk:(H1.n+0)≠(H.n+0)) (dx H1 (au (bK x U)))<|io [] (dx H1 (au (bK x U))) (bk:(H1.n+0)≠(H.n+0)) (dx H1 (au (bK x U))) (dx H1 (au (bK x U))) (bk:(H1.n+0)≠(H.n+0)) (dx H1 (au (bK x U)))<|io [] (dx H1 (au (bK x U))) (bk:(H1.n+0)≠(H.n+0)) (dx H1 (au (bK x U))) (dx H1 (au (bK x U))) (bk:(H1.n+0)≠(H.n+0)) (dx H1 (au (bK x U)))<|Y 1 (ag 1 av (y1.old aS (au (bK x U))))<|aE [am 0]<|az [bw U (news H1 (au (bK x U)))] ((ag 11 fK (y1.old aS (au (bK x U)))).trans (congrArg (fun q=>some (Value.bool q)) h8))<|Y 1 (ag 9 av (y1.old aS (au (bK x U))))<|Y 1 (ag 10 jz (y1.old aS (au (bK x U))))<|Y 1 (ag 12 ef (y1.old aS (au (bK x U))))<|aB 1 (bG dK rfl rfl rfl rfl:bu E 3 (H1.n+0) 1 (M x.f.op) (news H1 (au (bK x U)))=some (news H1 (au (mJ x U))))<|az [] (dO (y1.news (au (bK x U))) (aR (au (bK x U)) H1 0 _ rfl):cK (news H1 (au (bK x U))) (news H1 (au (mJ x U))) [H1.n+0]=true)<|aB 1 (bG si rfl rfl rfl rfl:bu E 4 (H1.n+0) 11 U (news H1 (au (mJ x U)))=some (news H1 (au (mJ x U))))<|az [] (dO (y1.news (au (mJ x U))) (aR (au (mJ x U)) H1 0 _ rfl):cK (news H1 (au (mJ x U))) (news H1 (au (mJ x U))) [H1.n+0]=true)<|aB 1 (bG dK rfl rfl rfl rfl:bu E 3 (H1.n+0) 9 (M x.f.how) (news H1 (au (mJ x U)))=some (news H1 (au (zp x U))))<|az [] (dO (y1.news (au (mJ x U))) (aR (au (mJ x U)) H1 0 _ rfl):cK (news H1 (au (mJ x U))) (news H1 (au (zp x U))) [H1.n+0]=true)<|aB 1 (bG ve rfl rfl rfl rfl:bu E 24 (H1.n+0) 10 (.slice x.f.aX x.f.nn x.f.bo) (news H1 (au (zp x U)))=some (news H1 (au (zq x U))))<|az [] (dO (y1.news (au (zp x U))) (aR (au (zp x U)) H1 0 _ rfl):cK (news H1 (au (zp x U))) (news H1 (au (zq x U))) [H1.n+0]=true)<|aB 1 (bG qq rfl rfl rfl rfl:bu E 25 (H1.n+0) 12 (.slice x.f.pk x.f.aj x.f.ax) (news H1 (au (zq x U)))=some (news H1 (au (pj x U))))<|az [] (dO (y1.news (au (zq x U))) (aR (au (zq x U)) H1 0 _ rfl):cK (news H1 (au (zq x U))) (news H1 (au (pj x U))) [H1.n+0]=true)<|Y 1 (ag 1 av (y1.old aS (au (pj x U))))<|aD 0 (x.f.op≥1) ?_ ?_ <;> intro h9 oQ
   ·refine Y 2 (ag 1 av (y1.old aS (au (pj x U))))<|aD 0 (x.f.op≤11) ?_ ?_ <;> intro h10 oP
    ·obtain ⟨_,H2,c2,aF,ar,cX⟩:=eL (Kx x X hx a hz (y1.news (au (pj x U))))
     refine Y 2 (cd c4 ct (y1.old aS (au (pj x U))) rfl rfl:al E 27 (H.n+0) 0 (news H1 (au (pj x U)))=some (.agg (ai x.f).toArray))<|?_
     rcases cX with ⟨rfl,bj⟩ |⟨rfl,bj⟩
     ·have cB:=d9 aF
      have qe:=(y1.news (au (pj x U))).kept aF aq (aR (au (pj x U)) H1 0 _ rfl)
      have ca:=(y1.news (au (pj x U))).kept aF aq (y1.old aS (au (pj x U)))
      refine ac 0 c2<|Y 3 (ag 12 ef ca)<|aY 1 (x.f.aj:Int) 2 ?_ ?_ <;> intro h12 ql
      ·obtain ⟨_,H3,c3,bq,aM,fq⟩:=eL (tL x X hx a ⟨x.f.k,x.f.op,0,⟨#[]⟩,none,0,0,0,0,false,0,x.f.how,x.f.aX,x.f.nn,x.f.bo,false,x.f.pk,x.f.aj,x.f.ax⟩ none 0 0 x.f.aX x.f.nn x.f.bo x.f.pk x.f.aj x.f.ax ar (.inr rfl) (.inl ⟨rfl,rfl⟩) (.inl ⟨rfl,rfl⟩) (fun k hk=>vg k hx (hs k hk)))
       refine Y 4 (cd c4 ct qe rfl rfl:al E 27 (H1.n+0) 0 H2=some (.agg (pj x U).toArray))<|Y 0 (cd c4 ct ca rfl rfl:al E 27 (H.n+0) 0 H2=some (.agg (ai x.f).toArray))<|?_
       rcases fq with ⟨rfl,ec⟩ |⟨rfl,ec⟩
       ·have ek:H2.n+0≤H3.n:=bq.n
        exact ac 0 c3<|bf 2 aw H3 [H1.n+0,H1.n+0,H1.n+0,H1.n+0,H1.n+0,H1.n+0] aJ aL (congrArg Value.bool (vb (uV J ((FU J (by assumption)).symm.trans ec) ((or J).trans (by rw [lS,h9,h10,bj,h12] <;> rfl))) aI).symm)
       have ek:H2.n+0≤H3.n:=bq.n
       exact ac 0 c3<|bf 2 U H3 [H1.n+0,H1.n+0,H1.n+0,H1.n+0,H1.n+0,H1.n+0] aJ aL (congrArg Value.bool (jJ (.inl (jT (.inr (.inl ((FU J (by assumption)).symm.trans ec)))))).symm)
      exact bf 6 U H2 [H1.n+0,H1.n+0,H1.n+0,H1.n+0,H1.n+0,H1.n+0] aJ aL (congrArg Value.bool (jJ (.inl (jT (.inr (.inr ((or J).trans (by rw [lS,h9,h10,bj,h12] <;> rfl))))))).symm)
     have cB:=d9 aF
     exact ac 0 c2<|bf 8 U H2 [H1.n+0,H1.n+0,H1.n+0,H1.n+0,H1.n+0,H1.n+0] aJ aL (congrArg Value.bool (jJ (.inl (jT (.inr (.inr ((or J).trans (by rw [lS,h9,h10,bj] <;> rfl))))))).symm)
    exact bf 10 U (news H1 (au (pj x U))) [H1.n+0,H1.n+0,H1.n+0,H1.n+0,H1.n+0,H1.n+0] aJ aL (congrArg Value.bool (jJ (.inl (jT (.inr (.inr ((or J).trans (by rw [lS,h9,h10] <;> rfl))))))).symm)
   exact bf 11 U (news H1 (au (pj x U))) [H1.n+0,H1.n+0,H1.n+0,H1.n+0,H1.n+0,H1.n+0] aJ aL (congrArg Value.bool (jJ (.inl (jT (.inr (.inr ((or J).trans (by rw [lS,h9] <;> rfl))))))).symm)
  refine aY 1 x.f.k 7 ?_ ?_ <;> intro h8 lT
  ·refine Y 2 (ag 12 ef (y1.old aS (au (bK x U))))<|aB 1 (bG qq rfl rfl rfl rfl:bu E 25 (H1.n+0) 12 (.slice x.f.pk x.f.aj x.f.ax) (news H1 (au (bK x U)))=some (news H1 (au (vG x U))))<|Y 1 (ag 12 ef (y1.old aS (au (vG x U))))<|aY 1 (x.f.aj:Int) 1 ?_ ?_ <;> intro h9 oQ
   ·obtain ⟨_,H2,c2,aF,ar,cX⟩:=eL (tL x X hx a ⟨x.f.k,0,0,⟨#[]⟩,none,0,0,0,0,false,0,0,none,0,0,false,x.f.pk,x.f.aj,x.f.ax⟩ none 0 0 none 0 0 x.f.pk x.f.aj x.f.ax (y1.news (au (vG x U))) (.inr rfl) (.inr rfl) (.inl ⟨rfl,rfl⟩) (fun k hk=>vg k hx (hs k hk)))
    refine Y 3 (dt c4 ct rfl rfl rfl:al E 27 (H1.n+0) 0 (news H1 (au (vG x U)))=some (.agg (vG x U).toArray))<|Y 0 (cd c4 ct (y1.old aS (au (vG x U))) rfl rfl:al E 27 (H.n+0) 0 (news H1 (au (vG x U)))=some (.agg (ai x.f).toArray))<|?_
    rcases cX with ⟨rfl,bj⟩ |⟨rfl,bj⟩
    ·have cB:=d9 aF
     exact ac 0 c2<|bf 2 aw H2 [H1.n+0,H1.n+0] aJ aL (congrArg Value.bool (vb (uV J ((Qf J).symm.trans bj) ((zd J).trans (by rw [we,h9] <;> rfl))) aI).symm)
    have cB:=d9 aF
    exact ac 0 c2<|bf 2 U H2 [H1.n+0,H1.n+0] aJ aL (congrArg Value.bool (jJ (.inl (jT (.inr (.inl ((Qf J).symm.trans bj)))))).symm)
   exact bf 5 U (news H1 (au (vG x U))) [H1.n+0,H1.n+0] aJ aL (congrArg Value.bool (jJ (.inl (jT (.inr (.inr ((zd J).trans (by rw [we,h9] <;> rfl))))))).symm)
  exact bf 5 U (news H1 (au (bK x U))) [H1.n+0] aJ aL (congrArg Value.bool (jJ (.inl (jT (.inl J)))).symm)
 exact bx 3 c1<|af 0 U H1 (congrArg Value.bool (jJ (.inr aI)).symm)
theorem afP (x:bh) (X:Z) (hx:aa E G X) (hs:jb X x):mC x→∀{H:Z},aa E X H→aV E X 25 [.agg (ai x.f).toArray] H [] (fun v _=>v=.bool (jH x)):=by
 induction hs with
 |@mk x a hk ih=>
  intro hf H y
  cases hf with
  |mk hz hf=>exact ad5 x X hx a hz (fun k hk=>ih k hk (hf k hk)) hk y
def jR (ks:List Int):List Value:=ks.map M
theorem IX (ks:List Int):(jR ks).length=ks.length:=List.length_map ..
def cc (ks:List Int) (i:Nat):Int:=ks.getD i 0
theorem uA {ks:List Int} {i:Nat} (h:i<ks.length):ks[i]?=some (cc ks i)∧(jR ks)[i]?=some (M (cc ks i)):=by
 have e:ks[i]?=some (cc ks i):=by rw [cc,List.getD_eq_getElem?_getD,fU h];rfl
 exact ⟨e,by rw [jR,List.getElem?_map,e];rfl⟩
theorem fZ {b off i:Nat} {H:Z} {ks:List Int} {e t:TypeId} {ro:Bool} (ha:E.agg t=some false) (hb:H.get b=some (.cells (jR ks) e ro)) (hi:i<ks.length) (ho:off=i*1):al E t b off H=some (M (cc ks i)):=by
 subst ho
 exact cH ha hb (by rw [Nat.mul_one];exact (uA hi).2)
def e6 (v:Int):List Int→Bool
 |[]=>false
 |k::ks=>(v==k)||e6 v ks
def kg:List Int→List Int→Bool
 |[],[]=>true
 |a::us,b::bs=>!(a != b)&&kg us bs
 |_,_=>false
theorem Wu {us bs:List Int} {i:Nat} {R:Bool} (ha:i<us.length) (hb:i<bs.length) (hR:kg (us.drop i) (bs.drop i)=R) (h:(cc us i != cc bs i)=false):kg (us.drop (i+1)) (bs.drop (i+1))=R:=by
 rw [drop_cons (uA ha).1,drop_cons (uA hb).1,kg,h] at hR;exact hR
theorem Wt {us bs:List Int} {i:Nat} {R:Bool} (ha:i<us.length) (hb:i<bs.length) (hR:kg (us.drop i) (bs.drop i)=R) (h:(cc us i != cc bs i)=true):R=false:=by
 rw [drop_cons (uA ha).1,drop_cons (uA hb).1,kg,h] at hR;exact hR.symm
theorem Ws {us bs:List Int} {i:Nat} {R:Bool} (hR:kg (us.drop i) (bs.drop i)=R) (ha:us.length≤i) (hb:bs.length≤i):R=true:=by
 rw [List.drop_of_length_le ha,List.drop_of_length_le hb] at hR;exact hR.symm
theorem zC:∀{us bs:List Int},us.length≠bs.length→kg us bs=false
 |[],[],h=>absurd rfl h
 |[],_::_,_=>rfl
 |_::_,[],_=>rfl
 |a::us,b::bs,h=>by
  rw [kg,zC (fun e=>h (by simp [e])),Bool.and_false]
def hZ (f:dR) (a b:Int):Int:=
 bif decide (mx a b>2) then 0 else bif f.d8&&!decide (f.op≤6) then 0 else
 bif (a==1)&&(b==1) then (bif decide (f.op≤6)&&!f.d8 then 0 else bif decide (f.how>0) then 0 else mx a b) else
 bif a != b then (bif decide (f.how>0) then 0 else mx a b) else mx a b
def rD:List (ByteArray×List Int×Int):=
 [(⟨#[97,98,115]⟩,[2],2),(⟨#[116,105,109,101]⟩,[],1),(⟨#[118,101,99,116,111,114]⟩,[1],2),
  (⟨#[114,97,116,101]⟩,[3],2),(⟨#[105,110,99,114,101,97,115,101]⟩,[3],2),(⟨#[100,101,108,116,97]⟩,[3],2),
  (⟨#[115,117,109]⟩,[2],2),(⟨#[97,118,103]⟩,[2],2),(⟨#[109,105,110]⟩,[2],2),(⟨#[109,97,120]⟩,[2],2),(⟨#[99,111,117,110,116]⟩,[2],2),
  (⟨#[116,111,112,107]⟩,[1,2],2),(⟨#[98,111,116,116,111,109,107]⟩,[1,2],2)]
def nX (s:ByteArray):List (ByteArray×List Int×Int)→Option (List Int×Int)
 |[]=>none
 |e::l=>bif s==e.1 then some e.2 else nX s l
def ow (s:ByteArray) (ks:List Int):Int:=match nX s rD with
 |none=>0
 |some (ts,g)=>bif kg ts ks then g else 0
def kn (f:dR) (ks:List Int):Int:=
 bif e6 0 ks then 0 else bif f.k==1 then 1 else bif f.k==2 then 4 else bif f.k==3 then (bif decide (f.wide>0) then 3 else 2) else
 bif f.k==6 then hZ f (cc ks 0) (cc ks 1) else bif f.k==7 then (bif decide (cc ks 0>2) then 0 else cc ks 0) else ow f.s ks
mutual
def dM:bh→Int
 |.mk f _ _ kids=>kn f (km kids)
def km:List bh→List Int
 |[]=>[]
 |x::xs=>dM x::km xs
end
theorem lu (x:bh):dM x=kn x.f (km x.kids):=by cases x;rw [dM];rfl
theorem zY:∀ l:List bh,(km l).length=l.length
 |[]=>by rw [km];rfl
 |x::l=>by rw [km,dX,zY l,dX]
theorem E3 {kids:List bh} {i:Nat} {x:bh} {ks R:List Int} (h:kids[i]?=some x) (hR:ks++km (kids.drop i)=R):(ks++[dM x])++km (kids.drop (i+1))=R:=by
 rw [drop_cons h,km] at hR;rw [List.append_assoc];exact hR
theorem E2 {kids:List bh} {i:Nat} {ks R:List Int} (hR:ks++km (kids.drop i)=R) (h:kids.length≤i):R=ks:=by
 rw [List.drop_of_length_le h,km,List.append_nil] at hR;exact hR.symm
theorem Ou (ks:List Int) (v:Int):((jR ks).drop 0).take (ks.length*1)++[M v]=jR (ks++[v]):=by
 rw [List.drop_zero,List.take_of_length_le (by rw [IX];omega)]
 simp [jR]
theorem Ov (ks:List Int) (v:Int):(ks++[v]).length=ks.length+1:=by simp
def Forms (H:Z) (m:Nat):Prop:=∀ s,(nX s rD=none∧n5 E 50 (.map (some m)) (.string s) true H=some (.tuple #[.agg #[.slice none 0 0,M 0],.bool false],H,[],[m]))∨
 ∃(p:Option Addr) (n c:Nat) (ts:List Int) (g:Int),nX s rD=some (ts,g)∧n5 E 50 (.map (some m)) (.string s) true H=some (.tuple #[.agg #[.slice p n c,M g],.bool true],H,[],[m])∧jy H p n (jR ts)∧n=ts.length∧n<3
noncomputable def T9:Code:=cw [1,0,1,0,0] (cx Tryz.f42)
theorem Y1 (p:Option Addr) (n:Nat) (c:Nat) (ts:List Int) (v:Int) (R:Bool):∀(m:Nat) (b5:Int) (H:Z),aa E G H→(hr:jy H p n (jR ts))→(hn:n=ts.length)→(hb:n<281474976710656)→(x0:0≤b5)→(hR:e6 v (ts.drop b5.toNat)=R)→((n:Int)-b5).toNat=m→
  bV E G 19 T9 [(0,.slice p n c),(1,M v),(7,M (n:Int)),(8,M b5)] H [] (fun x T H'=>(x=(.exit 0)∧T=aP []∧(R=false))∨(x=.ret∧∃(z4:Int),T=aP [(4,M z4)]∧((R=true)∧(0≤z4)))):=by
 refine dJ fun m ih=>?_
 intro b5 H y hr hn hb x0 hR hm
 refine cN y ?_
 refine aD 0 (b5<(n:Int)) ?_ ?_ <;> intro h1 q1
 ·obtain ⟨d1,j0,t1,fb,dT⟩:=hr.open J
  refine gY 5 H (hI Dr dK fb J J:gk E 44 (.slice p n c) (M b5)=some (pt d1 (0+b5.toNat*1)))<|Y 0 (fZ av dT J J:al E 3 d1 (0+b5.toNat*1) H=some (M (cc ts b5.toNat)))<|aY 0 v (cc ts b5.toNat) ?_ ?_ <;> intro h2 cv
  ·exact cF 2 [(4,M b5)] .ret H (.inr ⟨rfl,b5,rfl,⟨sK (F:=e6 v) (g:=fun k=>v==k) (fun _ _=>rfl) (uA (ks:=ts) (i:=b5.toNat) J).1 hR h2,J⟩⟩)
  exact aH 0 (b5+1)<|du 1 [(0,.slice p n c),(1,M v),(7,M (n:Int)),(8,M (b5+1))] H (ih _ J (b5+1) _ y hr hn hb J (by rw [gp J];exact (sL (F:=e6 v) (g:=fun k=>v==k) (fun _ _=>rfl) (uA (ks:=ts) (i:=b5.toNat) J).1 hR h2)) rfl)
 exact cF 0 [] (.exit 0) H (.inl ⟨rfl,rfl,sJ (F:=e6 v) rfl hR J⟩)
theorem Y0 (p:Option Addr) (n:Nat) (c:Nat) (ts:List Int) (v:Int) {H:Z} (y:aa E G H) (hr:jy H p n (jR ts)) (hn:n=ts.length) (hb:n<281474976710656):aV E G 42 [.slice p n c,M v] H [] (fun u H'=>(∃ n:Int,u=M n∧0≤n∧e6 v ts=true)∨(u=M (-1)∧e6 v ts=false)):=by
 refine bB Tryz.f42 y ?_
 obtain ⟨_,_,H1,c1,ak,y1,bE⟩:=(Y1 p n c ts v (e6 v ts) _ 0 _ y hr hn hb J rfl rfl).code
 rcases bE with ⟨rfl,rfl,aI⟩ |⟨rfl,fV,rfl,aI,gv⟩
 ·exact bx 4 c1<|af 1 (M (-1)) H1 (.inr ⟨rfl,aI⟩)
 exact bx 4 c1<|af 0 (M fV) H1 (.inl ⟨_,rfl,gv,aI⟩)
theorem On (p:Option Addr) (n:Nat) (c:Nat) (ts:List Int) (v:Int) {H:Z} (y:aa E G H) (hr:jy H p n (jR ts)) (hn:n=ts.length) (hb:n<281474976710656):aV E G 21 [.slice p n c,M v] H [] (fun u H'=>u=.bool (e6 v ts)):=by
 refine bB Tryz.f21 y ?_
 obtain ⟨_,H1,c1,ak,y1,bE⟩:=Y0 p n c ts v y hr hn hb
 rcases bE with ⟨vj,rfl,pz,b7⟩ |⟨rfl,b7⟩
 ·exact ac 3 c1<|ay 0 (decide_eq_true J:(decide (vj≥0))=true)<|af 1 aw H1 (by rw [b7])
 exact ac 3 c1<|af 2 U H1 (by rw [b7])
noncomputable def T8:Code:=cw [1,1,0,1,0,0] (cx Tryz.f24)
theorem YZ (p:Option Addr) (n:Nat) (c:Nat) (ts:List Int) (p2:Option Addr) (n2:Nat) (c2:Nat) (us:List Int) (R:Bool):∀(m:Nat) (fJ:Int) (H:Z),aa E G H→(hr:jy H p n (jR ts))→(hn:n=ts.length)→(hb:n<281474976710656)→(xK:jy H p2 n2 (jR us))→(hn2:n2=us.length)→(EQ:n=n2)→(x0:0≤fJ)→(hR:kg (ts.drop fJ.toNat) (us.drop fJ.toNat)=R)→((n:Int)-fJ).toNat=m→
  bV E G 26 T8 [(0,.slice p n c),(1,.slice p2 n2 c2),(12,M (n:Int)),(13,M fJ)] H [] (fun x T H'=>(x=(.exit 0)∧T=aP []∧(R=true))∨(x=.ret∧T=aP [(4,U)]∧(R=false))):=by
 refine dJ fun m ih=>?_
 intro fJ H y hr hn hb xK hn2 EQ x0 hR hm
 refine cN y ?_
 refine aD 0 (fJ<(n:Int)) ?_ ?_ <;> intro h1 q1
 ·obtain ⟨d1,j0,t1,fb,dT⟩:=hr.open J
  obtain ⟨d2,q5,t2,Ny,N1⟩:=xK.open J
  rcases df ((cc ts fJ.toNat) != (cc us fJ.toNat)) with h2 |h2
  ·exact aE [am 1]<|gY 2 H (hI Dr dK fb J J:gk E 44 (.slice p n c) (M fJ)=some (pt d1 (0+fJ.toNat*1)))<|Y 0 (fZ av dT J J:al E 3 d1 (0+fJ.toNat*1) H=some (M (cc ts fJ.toNat)))<|gY 2 H (hI Dr dK Ny J J:gk E 44 (.slice p2 n2 c2) (M fJ)=some (pt d2 (0+fJ.toNat*1)))<|Y 0 (fZ av N1 J J:al E 3 d2 (0+fJ.toNat*1) H=some (M (cc us fJ.toNat)))<|ay 0 h2<|cF 1 [(4,U)] .ret H (.inr ⟨rfl,rfl,Wt J J hR h2⟩)
  exact aE [am 1]<|gY 2 H (hI Dr dK fb J J:gk E 44 (.slice p n c) (M fJ)=some (pt d1 (0+fJ.toNat*1)))<|Y 0 (fZ av dT J J:al E 3 d1 (0+fJ.toNat*1) H=some (M (cc ts fJ.toNat)))<|gY 2 H (hI Dr dK Ny J J:gk E 44 (.slice p2 n2 c2) (M fJ)=some (pt d2 (0+fJ.toNat*1)))<|Y 0 (fZ av N1 J J:al E 3 d2 (0+fJ.toNat*1) H=some (M (cc us fJ.toNat)))<|ay 0 h2<|aH 0 (fJ+1)<|du 1 [(0,.slice p n c),(1,.slice p2 n2 c2),(12,M (n:Int)),(13,M (fJ+1))] H (ih _ J (fJ+1) _ y hr hn hb xK hn2 EQ J (by rw [gp J];exact (Wu J J hR h2)) rfl)
 exact cF 0 [] (.exit 0) H (.inl ⟨rfl,rfl,Ws hR J J⟩)
theorem Om (p:Option Addr) (n:Nat) (c:Nat) (ts:List Int) (p2:Option Addr) (n2:Nat) (c2:Nat) (us:List Int) {H:Z} (y:aa E G H) (hr:jy H p n (jR ts)) (hn:n=ts.length) (hb:n<281474976710656) (xK:jy H p2 n2 (jR us)) (hn2:n2=us.length):aV E G 24 [.slice p n c,.slice p2 n2 c2] H [] (fun u H'=>u=.bool (kg ts us)):=by
 refine bB Tryz.f24 y ?_
 refine d7 5 (n:Int) (n2:Int) ?_ ?_ <;> intro h1 q1
 ·exact af 1 U H (by rw [zC J])
 obtain ⟨_,_,H1,c1,ak,y1,bE⟩:=(YZ p n c ts p2 n2 c2 us (kg ts us) _ 0 _ y hr hn hb xK hn2 J J rfl rfl).code
 rcases bE with ⟨rfl,rfl,aI⟩ |⟨rfl,rfl,aI⟩
 ·exact bx 3 c1<|af 1 aw H1 (by rw [aI])
 exact bx 3 c1<|af 0 U H1 (by rw [aI])
noncomputable abbrev ga H f:=news H [O (ai f) 27]
theorem T6 (f:dR) (X:Z) (hx:aa E G X) (u:Int) (v:Int) {H:Z} (y:aa E X H):aV E X 22 [.agg (ai f).toArray,M u,M v] H [] (fun w H'=>w=M (hZ f u v)):=by
 refine bB Tryz.f22 y ?_
 refine Y 3 (aQ (ga H f) 0 1 av)<|aD 0 (f.op≤6) ?_ ?_ <;> intro h1 q1
 ·refine aD 4 ((mx u v)>2) ?_ ?_ <;> intro h2 cv
  ·exact af 4 (M 0) (ga H f) (by rw [hZ,h1,h2] <;> rfl)
  refine aE [am 1]<|?_
  rcases df f.d8 with h3 |h3
  ·refine az [bw aw (ga H f)] ((aQ (ga H f) 0 11 fK).trans (congrArg (fun q=>some (Value.bool q)) h3))<|aY 7 u 1 ?_ ?_ <;> intro h4 cO
   ·refine aY 2 v 1 ?_ ?_ <;> intro h5 dc
    ·refine aE [am 4]<|az [bw aw (ga H f)] ((aQ (ga H f) 0 11 fK).trans (congrArg (fun q=>some (Value.bool q)) h3))<|Y 3 (aQ (ga H f) 0 9 av)<|aD 0 (f.how>0) ?_ ?_ <;> intro h6 di
     ·exact af 1 (M 0) (ga H f) (by rw [hZ,h1,h2,h3,h4,h5,h6] <;> rfl)
     exact af 4 (M (mx u v)) (ga H f) (by rw [hZ,h1,h2,h3,h4,h5,h6] <;> rfl)
    refine d7 4 u v ?_ ?_ <;> intro h6 di
    ·refine Y 2 (aQ (ga H f) 0 9 av)<|aD 0 (f.how>0) ?_ ?_ <;> intro h7 gM
     ·exact af 1 (M 0) (ga H f) (by rw [hZ,h1,h2,h3,h4,h5,h6,h7] <;> rfl)
     exact af 4 (M (mx u v)) (ga H f) (by rw [hZ,h1,h2,h3,h4,h5,h6,h7] <;> rfl)
    exact af 5 (M (mx u v)) (ga H f) (by rw [hZ,h1,h2,h3,h4,h5,h6] <;> rfl)
   refine d7 5 u v ?_ ?_ <;> intro h5 dc
   ·refine Y 2 (aQ (ga H f) 0 9 av)<|aD 0 (f.how>0) ?_ ?_ <;> intro h6 di
    ·exact af 1 (M 0) (ga H f) (by rw [hZ,h1,h2,h3,h4,h5,h6] <;> rfl)
    exact af 4 (M (mx u v)) (ga H f) (by rw [hZ,h1,h2,h3,h4,h5,h6] <;> rfl)
   exact af 5 (M (mx u v)) (ga H f) (by rw [hZ,h1,h2,h3,h4,h5] <;> rfl)
  refine az [bw U (ga H f)] ((aQ (ga H f) 0 11 fK).trans (congrArg (fun q=>some (Value.bool q)) h3))<|aY 5 u 1 ?_ ?_ <;> intro h4 cO
  ·refine aY 2 v 1 ?_ ?_ <;> intro h5 dc
   ·exact aE [am 4]<|az [bw U (ga H f)] ((aQ (ga H f) 0 11 fK).trans (congrArg (fun q=>some (Value.bool q)) h3))<|af 3 (M 0) (ga H f) (by rw [hZ,h1,h2,h3,h4,h5] <;> rfl)
   refine d7 4 u v ?_ ?_ <;> intro h6 di
   ·refine Y 2 (aQ (ga H f) 0 9 av)<|aD 0 (f.how>0) ?_ ?_ <;> intro h7 gM
    ·exact af 1 (M 0) (ga H f) (by rw [hZ,h1,h2,h3,h4,h5,h6,h7] <;> rfl)
    exact af 4 (M (mx u v)) (ga H f) (by rw [hZ,h1,h2,h3,h4,h5,h6,h7] <;> rfl)
   exact af 5 (M (mx u v)) (ga H f) (by rw [hZ,h1,h2,h3,h4,h5,h6] <;> rfl)
  refine d7 5 u v ?_ ?_ <;> intro h5 dc
  ·refine Y 2 (aQ (ga H f) 0 9 av)<|aD 0 (f.how>0) ?_ ?_ <;> intro h6 di
   ·exact af 1 (M 0) (ga H f) (by rw [hZ,h1,h2,h3,h4,h5,h6] <;> rfl)
   exact af 4 (M (mx u v)) (ga H f) (by rw [hZ,h1,h2,h3,h4,h5,h6] <;> rfl)
  exact af 5 (M (mx u v)) (ga H f) (by rw [hZ,h1,h2,h3,h4,h5] <;> rfl)
 refine aD 4 ((mx u v)>2) ?_ ?_ <;> intro h2 cv
 ·exact af 4 (M 0) (ga H f) (by rw [hZ,h1,h2] <;> rfl)
 refine aE [am 1]<|?_
 rcases df f.d8 with h3 |h3
 ·exact az [bw aw (ga H f)] ((aQ (ga H f) 0 11 fK).trans (congrArg (fun q=>some (Value.bool q)) h3))<|af 7 (M 0) (ga H f) (by rw [hZ,h1,h2,h3] <;> rfl)
 refine az [bw U (ga H f)] ((aQ (ga H f) 0 11 fK).trans (congrArg (fun q=>some (Value.bool q)) h3))<|aY 5 u 1 ?_ ?_ <;> intro h4 cO
 ·refine aY 2 v 1 ?_ ?_ <;> intro h5 dc
  ·refine Y 6 (aQ (ga H f) 0 9 av)<|aD 0 (f.how>0) ?_ ?_ <;> intro h6 di
   ·exact af 1 (M 0) (ga H f) (by rw [hZ,h1,h2,h3,h4,h5,h6] <;> rfl)
   exact af 4 (M (mx u v)) (ga H f) (by rw [hZ,h1,h2,h3,h4,h5,h6] <;> rfl)
  refine d7 4 u v ?_ ?_ <;> intro h6 di
  ·refine Y 2 (aQ (ga H f) 0 9 av)<|aD 0 (f.how>0) ?_ ?_ <;> intro h7 gM
   ·exact af 1 (M 0) (ga H f) (by rw [hZ,h1,h2,h3,h4,h5,h6,h7] <;> rfl)
   exact af 4 (M (mx u v)) (ga H f) (by rw [hZ,h1,h2,h3,h4,h5,h6,h7] <;> rfl)
  exact af 5 (M (mx u v)) (ga H f) (by rw [hZ,h1,h2,h3,h4,h5,h6] <;> rfl)
 refine d7 5 u v ?_ ?_ <;> intro h5 dc
 ·refine Y 2 (aQ (ga H f) 0 9 av)<|aD 0 (f.how>0) ?_ ?_ <;> intro h6 di
  ·exact af 1 (M 0) (ga H f) (by rw [hZ,h1,h2,h3,h4,h5,h6] <;> rfl)
  exact af 4 (M (mx u v)) (ga H f) (by rw [hZ,h1,h2,h3,h4,h5,h6] <;> rfl)
 exact af 5 (M (mx u v)) (ga H f) (by rw [hZ,h1,h2,h3,h4,h5] <;> rfl)
theorem o3:E.ul 50=some (.map 9 48):=an
theorem o4:E.ul 9=some .string:=an
theorem Sm:E.zero 48=some (.agg #[.slice none 0 0,M 0]):=an
inductive yZ (H:Z):List MapEntry→List (ByteArray×List Int×Int)→Prop
 |nil:yZ H [] []
 |cons {k:ByteArray} {p:Option Addr} {n c:Nat} {ts:List Int} {g:Int} {b:Nat} {es:List MapEntry} {l:List (ByteArray×List Int×Int)}:jy H p n (jR ts)→n=ts.length→n<3→yZ H es l→yZ H (⟨.string k,.agg #[.slice p n c,M g],b⟩::es) ((k,ts,g)::l)
theorem yZ.find {H:Z} {es:List MapEntry} {l:List (ByteArray×List Int×Int)} (h:yZ H es l) (s:ByteArray):(nX s l=none∧pu (.string s) es=some none)∨
  ∃(p:Option Addr) (n c:Nat) (ts:List Int) (g:Int),nX s l=some (ts,g)∧pu (.string s) es=some (some (.agg #[.slice p n c,M g]))∧jy H p n (jR ts)∧n=ts.length∧n<3:=by
 induction h with
 |nil=>exact .inl ⟨rfl,rfl⟩
 |@cons k p n c ts g b es l h1 h2 h3 _ ih=>
  cases hk:(s==k) with
  |true=>exact .inr ⟨p,n,c,ts,g,by simp only [nX,hk,cond_true],by simp only [pu,hk,cond_true],h1,h2,h3⟩
  |false=>simpa only [nX,pu,hk,cond_false] using ih
theorem WZ {H:Z} {m ax:Nat} {es:List MapEntry} (hb:H.get m=some (.map es ax)) (h:yZ H es rD):Forms H m:=fun s=>by
 have hd:qM .string (.string s)=true:=rfl
 have hg:ground (.agg #[.slice none 0 0,M 0])=true:=rfl
 rcases h.find s with ⟨h1,h2⟩ |⟨p,n,c,ts,g,h1,h2,h3⟩
 ·exact .inl ⟨h1,by simp only [n5,o3,o4,Sm,hd,cond_true,hb,h2,hg]⟩
 ·exact .inr ⟨p,n,c,ts,g,h1,by simp only [n5,o3,o4,Sm,hd,cond_true,hb,h2],h3⟩
theorem OI {f:dR} {ks:List Int} (h:e6 0 ks=true):kn f ks=0:=by rw [kn,h];rfl
theorem OJ {f:dR} {ks:List Int} (h:e6 0 ks=false) (h1:f.k=1):kn f ks=1:=by rw [kn,h,h1];rfl
theorem OK {f:dR} {ks:List Int} (h:e6 0 ks=false) (h1:f.k=2):kn f ks=4:=by rw [kn,h,h1];rfl
theorem OL {f:dR} {ks:List Int} (h:e6 0 ks=false) (h1:f.k=3) (h2:f.wide>0):kn f ks=3:=by rw [kn,h,h1,decide_eq_true h2];rfl
theorem OM {f:dR} {ks:List Int} (h:e6 0 ks=false) (h1:f.k=3) (h2:¬ f.wide>0):kn f ks=2:=by rw [kn,h,h1,decide_eq_false h2];rfl
theorem Zz {f:dR} {ks:List Int} (h:e6 0 ks=false) (h1:f.k=6):kn f ks=hZ f (cc ks 0) (cc ks 1):=by rw [kn,h,h1];rfl
theorem ZA {f:dR} {ks:List Int} (h:e6 0 ks=false) (h1:f.k=7) (h2:cc ks 0>2):kn f ks=0:=by rw [kn,h,h1,decide_eq_true h2];rfl
theorem ZB {f:dR} {ks:List Int} (h:e6 0 ks=false) (h1:f.k=7) (h2:¬ cc ks 0>2):kn f ks=cc ks 0:=by rw [kn,h,h1,decide_eq_false h2];rfl
theorem zZ {f:dR} {ks:List Int} (h:e6 0 ks=false) (h1:f.k≠1) (h2:f.k≠2) (h3:f.k≠3) (h6:f.k≠6) (h7:f.k≠7):kn f ks=ow f.s ks:=by
 rw [kn,h,beq_eq_false_iff_ne.2 h1,beq_eq_false_iff_ne.2 h2,beq_eq_false_iff_ne.2 h3,beq_eq_false_iff_ne.2 h6,beq_eq_false_iff_ne.2 h7];rfl
theorem MO {s:ByteArray} {ks:List Int} (h:nX s rD=none):ow s ks=0:=by rw [ow,h]
theorem MN {s:ByteArray} {ks ts:List Int} {g:Int} (h:nX s rD=some (ts,g)) (he:kg ts ks=false):ow s ks=0:=by rw [ow,h];simp only [he,cond_false]
theorem MP {s:ByteArray} {ks ts:List Int} {g:Int} (h:nX s rD=some (ts,g)) (he:kg ts ks=true):ow s ks=g:=by rw [ow,h];simp only [he,cond_true]
theorem QY {H:Z} (wf:cW H) {p:Option Addr} {n:Nat} {cs:List Value} (l:List dL) (h:jy H p n cs):jy (news H l) p n cs:=by
 rcases h with h |⟨b,ro,t,h1,h2⟩
 ·exact .inl h
 ·exact .inr ⟨b,ro,t,h1,(Ab l H b (wf.lt h2)).trans h2⟩
def WA (h:Nat):List MapEntry:=[⟨.string ⟨#[97,98,115]⟩,.agg #[sc (h+1) 0 1 3,M 2],0⟩,⟨.string ⟨#[116,105,109,101]⟩,.agg #[.slice none 0 0,M 1],1⟩,⟨.string ⟨#[118,101,99,116,111,114]⟩,.agg #[sc (h+2) 0 1 3,M 2],2⟩,⟨.string ⟨#[114,97,116,101]⟩,.agg #[sc (h+4) 0 1 3,M 2],3⟩,⟨.string ⟨#[105,110,99,114,101,97,115,101]⟩,.agg #[sc (h+5) 0 1 3,M 2],4⟩,⟨.string ⟨#[100,101,108,116,97]⟩,.agg #[sc (h+6) 0 1 3,M 2],5⟩,⟨.string ⟨#[115,117,109]⟩,.agg #[sc (h+8) 0 1 3,M 2],6⟩,⟨.string ⟨#[97,118,103]⟩,.agg #[sc (h+9) 0 1 3,M 2],7⟩,⟨.string ⟨#[109,105,110]⟩,.agg #[sc (h+10) 0 1 3,M 2],8⟩,⟨.string ⟨#[109,97,120]⟩,.agg #[sc (h+11) 0 1 3,M 2],9⟩,⟨.string ⟨#[99,111,117,110,116]⟩,.agg #[sc (h+12) 0 1 3,M 2],10⟩,⟨.string ⟨#[116,111,112,107]⟩,.agg #[sc (h+14) 0 2 5,M 2],11⟩,⟨.string ⟨#[98,111,116,116,111,109,107]⟩,.agg #[sc (h+15) 0 2 5,M 2],12⟩]
def WB:List dL:=[.cells [M 2] 3 false,.cells [M 1] 3 false,.cells [.string ⟨#[114,97,116,101]⟩,.string ⟨#[105,110,99,114,101,97,115,101]⟩,.string ⟨#[100,101,108,116,97]⟩] 9 false,.cells [M 3] 3 false,.cells [M 3] 3 false,.cells [M 3] 3 false,.cells [.string ⟨#[115,117,109]⟩,.string ⟨#[97,118,103]⟩,.string ⟨#[109,105,110]⟩,.string ⟨#[109,97,120]⟩,.string ⟨#[99,111,117,110,116]⟩] 9 false,.cells [M 2] 3 false,.cells [M 2] 3 false,.cells [M 2] 3 false,.cells [M 2] 3 false,.cells [M 2] 3 false,.cells [.string ⟨#[116,111,112,107]⟩,.string ⟨#[98,111,116,116,111,109,107]⟩] 9 false,.cells [M 1,M 2] 3 false,.cells [M 1,M 2] 3 false]
def da (h j q:Nat):List dL:=.map ((WA h).take j) j::WB.take q
noncomputable def TX:Code:=cw [1,1,0,1,0,0] (cx Tryz.f23)
theorem WW {H:Z} (y:aa E G H):bV E G 49 TX [(1,.map (some (H.n+0))),(15,sc (H.n+3) 0 3 7),(16,M 3),(17,M 0)] (news H (da H.n 3 3)) [H.n+0] (fun x T H'=>x=(.exit 0)∧T=aP [(1,.map (some (H.n+0)))]∧H'=(news H (da H.n 6 6))):=by
 have g0:=y.n
 refine bV.next' (y.news (da H.n 3 3)) (p4 [am 1,bw (.string ⟨#[114,97,116,101]⟩) (news H (da H.n 3 3)),am 4,.val dw (news H (da H.n 4 4)) [H.n+0] [H.n+0],am 1] [(1,.map (some (H.n+0))),(15,sc (H.n+3) 0 3 7),(16,M 3),(17,M 1)] .normal (news H (da H.n 4 4)) [H.n+0] (fun _ ku=>th (aQ (news H (da H.n 3 3)) 3 0 bA) (i7 o3 o4 rfl rfl an rfl:g5 E 50 (.map (some (H.n+0))) (.string ⟨#[114,97,116,101]⟩) (.agg #[sc (H.n+4) 0 1 3,M 2]) (news H (da H.n 3 4))=some (dw,news H (da H.n 4 4),[H.n+0],[H.n+0])) ku)) aW ?_
 refine bV.next' (y.news (da H.n 4 4)) (p4 [am 1,bw (.string ⟨#[105,110,99,114,101,97,115,101]⟩) (news H (da H.n 4 4)),am 4,.val dw (news H (da H.n 5 5)) [H.n+0] [H.n+0],am 1] [(1,.map (some (H.n+0))),(15,sc (H.n+3) 0 3 7),(16,M 3),(17,M 2)] .normal (news H (da H.n 5 5)) [H.n+0] (fun _ ku=>th (aQ (news H (da H.n 4 4)) 3 1 bA) (i7 o3 o4 rfl rfl an rfl:g5 E 50 (.map (some (H.n+0))) (.string ⟨#[105,110,99,114,101,97,115,101]⟩) (.agg #[sc (H.n+5) 0 1 3,M 2]) (news H (da H.n 4 5))=some (dw,news H (da H.n 5 5),[H.n+0],[H.n+0])) ku)) aW ?_
 refine bV.next' (y.news (da H.n 5 5)) (p4 [am 1,bw (.string ⟨#[100,101,108,116,97]⟩) (news H (da H.n 5 5)),am 4,.val dw (news H (da H.n 6 6)) [H.n+0] [H.n+0],am 1] [(1,.map (some (H.n+0))),(15,sc (H.n+3) 0 3 7),(16,M 3),(17,M 3)] .normal (news H (da H.n 6 6)) [H.n+0] (fun _ ku=>th (aQ (news H (da H.n 5 5)) 3 2 bA) (i7 o3 o4 rfl rfl an rfl:g5 E 50 (.map (some (H.n+0))) (.string ⟨#[100,101,108,116,97]⟩) (.agg #[sc (H.n+6) 0 1 3,M 2]) (news H (da H.n 5 6))=some (dw,news H (da H.n 6 6),[H.n+0],[H.n+0])) ku)) aW ?_
 exact bV.last' (y.news (da H.n 6 6)) (p4 [am 0] [(1,.map (some (H.n+0)))] (.exit 0) (news H (da H.n 6 6)) [] (fun _ ku=>ku)) aW aL aZ ⟨rfl,rfl,rfl⟩
noncomputable def TY:Code:=cw [1,1,1,0,1,0,0] (cx Tryz.f23)
theorem WX {H:Z} (y:aa E G H):bV E G 49 TY [(1,.map (some (H.n+0))),(26,sc (H.n+7) 0 5 11),(27,M 5),(28,M 0)] (news H (da H.n 6 7)) [H.n+0] (fun x T H'=>x=(.exit 2)∧T=aP [(1,.map (some (H.n+0)))]∧H'=(news H (da H.n 11 12))):=by
 have g0:=y.n
 refine bV.next' (y.news (da H.n 6 7)) (p4 [am 1,bw (.string ⟨#[115,117,109]⟩) (news H (da H.n 6 7)),am 4,.val dw (news H (da H.n 7 8)) [H.n+0] [H.n+0],am 1] [(1,.map (some (H.n+0))),(26,sc (H.n+7) 0 5 11),(27,M 5),(28,M 1)] .normal (news H (da H.n 7 8)) [H.n+0] (fun _ ku=>th (aQ (news H (da H.n 6 7)) 7 0 bA) (i7 o3 o4 rfl rfl an rfl:g5 E 50 (.map (some (H.n+0))) (.string ⟨#[115,117,109]⟩) (.agg #[sc (H.n+8) 0 1 3,M 2]) (news H (da H.n 6 8))=some (dw,news H (da H.n 7 8),[H.n+0],[H.n+0])) ku)) aW ?_
 refine bV.next' (y.news (da H.n 7 8)) (p4 [am 1,bw (.string ⟨#[97,118,103]⟩) (news H (da H.n 7 8)),am 4,.val dw (news H (da H.n 8 9)) [H.n+0] [H.n+0],am 1] [(1,.map (some (H.n+0))),(26,sc (H.n+7) 0 5 11),(27,M 5),(28,M 2)] .normal (news H (da H.n 8 9)) [H.n+0] (fun _ ku=>th (aQ (news H (da H.n 7 8)) 7 1 bA) (i7 o3 o4 rfl rfl an rfl:g5 E 50 (.map (some (H.n+0))) (.string ⟨#[97,118,103]⟩) (.agg #[sc (H.n+9) 0 1 3,M 2]) (news H (da H.n 7 9))=some (dw,news H (da H.n 8 9),[H.n+0],[H.n+0])) ku)) aW ?_
 refine bV.next' (y.news (da H.n 8 9)) (p4 [am 1,bw (.string ⟨#[109,105,110]⟩) (news H (da H.n 8 9)),am 4,.val dw (news H (da H.n 9 10)) [H.n+0] [H.n+0],am 1] [(1,.map (some (H.n+0))),(26,sc (H.n+7) 0 5 11),(27,M 5),(28,M 3)] .normal (news H (da H.n 9 10)) [H.n+0] (fun _ ku=>th (aQ (news H (da H.n 8 9)) 7 2 bA) (i7 o3 o4 rfl rfl an rfl:g5 E 50 (.map (some (H.n+0))) (.string ⟨#[109,105,110]⟩) (.agg #[sc (H.n+10) 0 1 3,M 2]) (news H (da H.n 8 10))=some (dw,news H (da H.n 9 10),[H.n+0],[H.n+0])) ku)) aW ?_
 refine bV.next' (y.news (da H.n 9 10)) (p4 [am 1,bw (.string ⟨#[109,97,120]⟩) (news H (da H.n 9 10)),am 4,.val dw (news H (da H.n 10 11)) [H.n+0] [H.n+0],am 1] [(1,.map (some (H.n+0))),(26,sc (H.n+7) 0 5 11),(27,M 5),(28,M 4)] .normal (news H (da H.n 10 11)) [H.n+0] (fun _ ku=>th (aQ (news H (da H.n 9 10)) 7 3 bA) (i7 o3 o4 rfl rfl an rfl:g5 E 50 (.map (some (H.n+0))) (.string ⟨#[109,97,120]⟩) (.agg #[sc (H.n+11) 0 1 3,M 2]) (news H (da H.n 9 11))=some (dw,news H (da H.n 10 11),[H.n+0],[H.n+0])) ku)) aW ?_
 refine bV.next' (y.news (da H.n 10 11)) (p4 [am 1,bw (.string ⟨#[99,111,117,110,116]⟩) (news H (da H.n 10 11)),am 4,.val dw (news H (da H.n 11 12)) [H.n+0] [H.n+0],am 1] [(1,.map (some (H.n+0))),(26,sc (H.n+7) 0 5 11),(27,M 5),(28,M 5)] .normal (news H (da H.n 11 12)) [H.n+0] (fun _ ku=>th (aQ (news H (da H.n 10 11)) 7 4 bA) (i7 o3 o4 rfl rfl an rfl:g5 E 50 (.map (some (H.n+0))) (.string ⟨#[99,111,117,110,116]⟩) (.agg #[sc (H.n+12) 0 1 3,M 2]) (news H (da H.n 10 12))=some (dw,news H (da H.n 11 12),[H.n+0],[H.n+0])) ku)) aW ?_
 exact bV.last' (y.news (da H.n 11 12)) (p4 [am 0] [(1,.map (some (H.n+0)))] (.exit 2) (news H (da H.n 11 12)) [] (fun _ ku=>ku)) aW aL aZ ⟨rfl,rfl,rfl⟩
noncomputable def TZ:Code:=cw [1,1,1,1,0,1,0,0] (cx Tryz.f23)
noncomputable abbrev Ak (H:Z):=news H (da H.n 13 15)
theorem WY {H:Z} (y:aa E G H):bV E G 49 TZ [(1,.map (some (H.n+0))),(37,sc (H.n+13) 0 2 5),(38,M 2),(39,M 0)] (news H (da H.n 11 13)) [H.n+0] (fun x T H'=>x=(.exit 4)∧T=aP [(1,.map (some (H.n+0)))]∧H'=(Ak H)):=by
 have g0:=y.n
 refine bV.next' (y.news (da H.n 11 13)) (p4 [am 1,bw (.string ⟨#[116,111,112,107]⟩) (news H (da H.n 11 13)),am 4,.val dw (news H (da H.n 12 14)) [H.n+0] [H.n+0],am 1] [(1,.map (some (H.n+0))),(37,sc (H.n+13) 0 2 5),(38,M 2),(39,M 1)] .normal (news H (da H.n 12 14)) [H.n+0] (fun _ ku=>th (aQ (news H (da H.n 11 13)) 13 0 bA) (i7 o3 o4 rfl rfl an rfl:g5 E 50 (.map (some (H.n+0))) (.string ⟨#[116,111,112,107]⟩) (.agg #[sc (H.n+14) 0 2 5,M 2]) (news H (da H.n 11 14))=some (dw,news H (da H.n 12 14),[H.n+0],[H.n+0])) ku)) aW ?_
 refine bV.next' (y.news (da H.n 12 14)) (p4 [am 1,bw (.string ⟨#[98,111,116,116,111,109,107]⟩) (news H (da H.n 12 14)),am 4,.val dw (Ak H) [H.n+0] [H.n+0],am 1] [(1,.map (some (H.n+0))),(37,sc (H.n+13) 0 2 5),(38,M 2),(39,M 2)] .normal (Ak H) [H.n+0] (fun _ ku=>th (aQ (news H (da H.n 12 14)) 13 1 bA) (i7 o3 o4 rfl rfl an rfl:g5 E 50 (.map (some (H.n+0))) (.string ⟨#[98,111,116,116,111,109,107]⟩) (.agg #[sc (H.n+15) 0 2 5,M 2]) (news H (da H.n 12 15))=some (dw,Ak H,[H.n+0],[H.n+0])) ku)) aW ?_
 exact bV.last' (y.news (da H.n 13 15)) (p4 [am 0] [(1,.map (some (H.n+0)))] (.exit 4) (Ak H) [] (fun _ ku=>ku)) aW aL aZ ⟨rfl,rfl,rfl⟩
theorem MW  {H:Z} (y:aa E G H):aV E G 23 [] H [] (fun v H'=>∃ m,v=.map (some m)∧Forms H' m):=by
 refine bB Tryz.f23 y ?_
 obtain ⟨_,_,_,Tv,_,_,rfl,rfl,rfl⟩:=(WW y).code
 obtain ⟨_,_,_,Tw,_,_,rfl,rfl,rfl⟩:=(WX y).code
 obtain ⟨_,_,_,Tx,_,_,rfl,rfl,rfl⟩:=(WY y).code
 exact g8 4 (i7 o3 o4 rfl rfl an rfl:g5 E 50 (.map (some (H.n+0))) (.string ⟨#[97,98,115]⟩) (.agg #[sc (H.n+1) 0 1 3,M 2]) (news H (da H.n 0 1))=some (dw,news H (da H.n 1 1),[H.n+0],[H.n+0]))<|g8 1 (i7 o3 o4 rfl rfl an rfl:g5 E 50 (.map (some (H.n+0))) (.string ⟨#[116,105,109,101]⟩) (.agg #[.slice none 0 0,M 1]) (news H (da H.n 1 1))=some (dw,news H (da H.n 2 1),[H.n+0],[H.n+0]))<|g8 2 (i7 o3 o4 rfl rfl an rfl:g5 E 50 (.map (some (H.n+0))) (.string ⟨#[118,101,99,116,111,114]⟩) (.agg #[sc (H.n+2) 0 1 3,M 2]) (news H (da H.n 2 2))=some (dw,news H (da H.n 3 2),[H.n+0],[H.n+0]))<|bx 5 Tv<|bx 3 Tw<|bx 3 Tx<|bf 2 (.map (some (H.n+0))) (Ak H) [H.n+0,H.n+0,H.n+0,H.n+0,H.n+0,H.n+0] (by intro q hq;simp only [List.mem_cons,aq,or_false,false_or,dj,show (da H.n 13 15).length=16 from rfl] at hq ⊢;omega) aL ⟨_,rfl,WZ (aR (da H.n 13 15) H 0 _ rfl) (.cons (.inr ⟨_,false,_,rfl,aR (da H.n 13 15) H 1 _ rfl⟩) rfl (by decide) (.cons (.inl rfl) rfl (by decide) (.cons (.inr ⟨_,false,_,rfl,aR (da H.n 13 15) H 2 _ rfl⟩) rfl (by decide) (.cons (.inr ⟨_,false,_,rfl,aR (da H.n 13 15) H 4 _ rfl⟩) rfl (by decide) (.cons (.inr ⟨_,false,_,rfl,aR (da H.n 13 15) H 5 _ rfl⟩) rfl (by decide) (.cons (.inr ⟨_,false,_,rfl,aR (da H.n 13 15) H 6 _ rfl⟩) rfl (by decide) (.cons (.inr ⟨_,false,_,rfl,aR (da H.n 13 15) H 8 _ rfl⟩) rfl (by decide) (.cons (.inr ⟨_,false,_,rfl,aR (da H.n 13 15) H 9 _ rfl⟩) rfl (by decide) (.cons (.inr ⟨_,false,_,rfl,aR (da H.n 13 15) H 10 _ rfl⟩) rfl (by decide) (.cons (.inr ⟨_,false,_,rfl,aR (da H.n 13 15) H 11 _ rfl⟩) rfl (by decide) (.cons (.inr ⟨_,false,_,rfl,aR (da H.n 13 15) H 12 _ rfl⟩) rfl (by decide) (.cons (.inr ⟨_,false,_,rfl,aR (da H.n 13 15) H 14 _ rfl⟩) rfl (by decide) (.cons (.inr ⟨_,false,_,rfl,aR (da H.n 13 15) H 15 _ rfl⟩) rfl (by decide) .nil)))))))))))))⟩
end Go.Proofs.YtglmagcldkngbaaGreatDoor
