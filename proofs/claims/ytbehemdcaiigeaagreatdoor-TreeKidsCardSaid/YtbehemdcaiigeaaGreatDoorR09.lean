/- Part of the proof that TreeKids answers true. -/
import Derived.Test.YtbehemdcaiigeaaGreatDoorR08
import Derived.Test.YtbehemdcaiigeaaGreatDoorR06
set_option linter.unusedVariables false
set_option linter.unusedSimpArgs false
set_option maxRecDepth 100000
set_option maxHeartbeats 4000000
namespace Go.Proofs.YtbehemdcaiigeaaGreatDoor
open Go Go.Am
theorem D5:nO E #[83,83] 85 3 56=true:=av
theorem LY (p:Nat) (s:ByteArray) (at_:Int) (op:Int) (n:Nat) {H:U} (y:aa E G H) (kp:H.get p=some (lk s at_ op 0)) (bY:G.n≤p) (hs:(s.size:Int)<100000) (a0:0≤at_) (a1:at_≤s.size) (hA:uZ s n) (hn:((s.size:Int)-at_).toNat≤n):aI E G 103 [pt p 0] H [p] (fun v H'=>A4 s p at_ 0 (kN s at_ op) v H'):=by
 have g0:=y.n
 refine br Tryz.f103 y ?_
 have gi:=y.wf.lt kp
 obtain ⟨_,_,H1,c1,af,y1,rfl,Ud,Uf,aiZ,AS,AX,AW,AT,wN,AV,AU,rfl,Qc,Qe,cM,lE,PN,S0,S1⟩:=(afp p (H.n+1) (H.n+0) s n at_ (kN s at_ op) _ at_ op 0 _ (y.news [O dw 85,O lP 85]) (y.old kp [O dw 85,O lP 85]) (aL [O dw 85,O lP 85] H 1 _ rfl) (aL [O dw 85,O lP 85] H 0 _ rfl) hs bY D D D D D D D D D hA D (fun _=>rfl) (fun h=>absurd h D) rfl).code
 have cI:=oK af
 refine aC 3 (bT cR rfl rfl rfl rfl:bp E 85 (H.n+1) 0 (.agg (List.toArray lP)) (news H [O dw 85,O dw 85])=some (news H [O dw 85,O lP 85]))<|bW 0 c1<|?_
 rcases PN with rfl |PN
 ·exact aj [] ((cg e5 cR Qe rfl rfl):ay E 85 (H.n+0) 0 H1=some (.agg #[ab AS,.slice AX AW AT,.slice wN AV AU]))<|gM 0 [.agg #[ab AS,.slice AX AW AT,.slice wN AV AU]] (.agg #[ab AS,.slice AX AW AT,.slice wN AV AU]) H1 [H.n+1,p,H.n+1,H.n+0] aQ bi (.inl ⟨Ud,Uf,⟨_,_,_,_,_,_,_,rfl⟩,Qc,S0 rfl,D,D⟩)
 exact aj [] ((cg e5 cR Qe rfl rfl):ay E 85 (H.n+0) 0 H1=some (.agg #[ab AS,.slice AX AW AT,.slice wN AV AU]))<|gM 0 [.agg #[ab AS,.slice AX AW AT,.slice wN AV AU]] (.agg #[ab AS,.slice AX AW AT,.slice wN AV AU]) H1 [H.n+1,p,H.n+1,H.n+0] aQ bi (.inr ⟨Ud,Uf,aiZ,⟨_,_,_,_,_,_,_,rfl⟩,Qc,S1 D,D,D,D⟩)
noncomputable def WT:Code:=cN [1,1,0,0,0] (cH Tryz.f82)
noncomputable abbrev qS H3 b8 ce cd b9 cf cc ca:=news H3 (bo (d5 b8 ce cd b9 cf cc ca))
theorem Sf (p:Nat) (nb:Nat) (rb:Nat) (s:ByteArray) (n:Nat) (eN:Int) (R:Option (Int×Int)):∀(m:Nat) (at_:Int) (op:Int) (wr:Int) (q:Nat) (l:List gU) (H:U),aa E G H→(kp:H.get p=some (O (fC s at_ op wr) 123))→(bn:H.get nb=some (O [ab 124,.slice none 0 0,sc q 0 l.length 6] 85))→(aX:H.get q=some (O (oL l) 85))→(hs:(s.size:Int)<100000)→(bY:G.n≤p)→(gn:G.n≤nb)→(d1:p≠nb)→(b0:0≤eN)→(b1:eN≤at_)→(a1:at_≤s.size)→(lY:wr=0∨0<wr)→(hA:uZ s n)→(hn:((s.size:Int)-eN).toNat≤n)→(hR:wr=0→nN s at_ op=R)→(hN:0<wr→R=none)→(aY:G.n≤q)→(e1:p≠q)→(e2:nb≠q)→(fk:(l.length:Int)≤at_+wr+2)→2*((s.size:Int)-at_).toNat+(1-wr).toNat=m→
  cy E G 25 WT [(0,pt p 0),(2,pt rb 0),(3,pt nb 0)] H [p,nb,q] (fun x T H'=>(x=(.exit 0)∧∃(eJ sb jc:Int) (Nf:Option Addr) (Nd Nc:Nat),T=bl [(2,pt rb 0),(3,pt nb 0)]∧(H'.get p=some (lk s eJ sb jc)∧H'.get nb=some (O [ab 124,.slice none 0 0,.slice Nf Nd Nc] 85)∧eN≤eJ∧eJ≤s.size∧(jc=0∨0<jc)∧(jc=0→R=some (eJ,sb))∧(0<jc→R=none)))):=by
 refine d8 fun m ih=>?_
 intro at_ op wr q l H y kp bn aX hs bY gn d1 b0 b1 a1 lY hA hn hR hN aY e1 e2 fk hm
 refine c9 y ?_
 have gi:=y.wf.lt kp
 have rO:=y.wf.lt bn
 have iX:=y.wf.lt aX
 rcases lY with rfl |lY
 ·obtain ⟨_,H1,c1,af,y1,b7⟩:=s8 p s at_ op 124 y kp D hs D D
  rcases b7 with ⟨rfl,ry⟩ |⟨rfl,sN,vF⟩
  ·have bV:=y.kept af ai kp
   have cK:=y.kept af ai bn
   exact ad 1 c1<|en 0 [(2,pt rb 0),(3,pt nb 0)] (.exit 0) H1 [] aZ bi ⟨rfl,at_,op,0,some ⟨q,0,none⟩,l.length,6,rfl,⟨bV,cK,D,D,D,fun _=>(hR rfl).symm.trans (D8 (rQ ry)),fun h=>absurd h D⟩⟩
  have cI:H.n+0≤H1.n:=af.n
  have bV:=y.kept af ai kp
  obtain ⟨aF,e2⟩:∃ ao,ao=H1.set p (O (fC s (at_+1) op 0) 123):=⟨_,rfl⟩
  have ah:aa E G aF:=e2▸y1.set _ D D
  have cl:aF.n=H1.n+0:=by rw [e2,U.cB] <;> rfl
  have cP:=bC e2
  have cK:=y.kept af ai bn
  have dS:=bu e2 D cK
  obtain ⟨_,H3,c3,aW,az,fo⟩:=LY p s (at_+1) op n ah cP D hs D D hA D
  rcases fo with ⟨fH,ma,⟨b8,ce,cd,b9,cf,cc,ca,rfl⟩,e6,iM,oz,eh⟩ |⟨fH,ma,wK,⟨b8,ce,cd,b9,cf,cc,ca,rfl⟩,e6,iM,PK,oz,eh⟩
  ·have dD:aF.n+0≤H3.n:=aW.n
   have g3:=az.n
   have cE:=y.kept af ai aX
   have dQ:=bu e2 D cE
   have fr:=ah.kept aW bB dQ
   obtain ⟨bF,aG⟩:∃ ao,ao=((qS H3 b8 ce cd b9 cf cc ca).set q .dead).new (O (oL (l++[gU.mk b8 ce cd b9 cf cc ca])) 85):=⟨_,rfl⟩
   have bz:aa E G bF:=th (az.news (bo (d5 b8 ce cd b9 cf cc ca))) aG D (by rw [bU];simp only [cj,cF];omega)
   have fB:bF.n=H3.n+2:=by rw [ti aG,bU] <;> rfl
   have jB:bF.get (H3.n+1)=some (O (oL (l++[gU.mk b8 ce cd b9 cf cc ca])) 85):=tj aG
   have d6:=ah.kept aW bB dS
   have eZ:=lF (az.news (bo (d5 b8 ce cd b9 cf cc ca))) aG D (az.old d6 (bo (d5 b8 ce cd b9 cf cc ca)))
   obtain ⟨db,bS⟩:∃ ao,ao=bF.set nb (O [ab 124,.slice none 0 0,sc (H3.n+1) 0 ((l++[gU.mk b8 ce cd b9 cf cc ca]).length) 6] 85):=⟨_,rfl⟩
   have cG:aa E G db:=bS▸bz.set _ D D
   have gk:db.n=bF.n+0:=by rw [bS,U.cB] <;> rfl
   have iN:=bC bS
   have ek:=lF (az.news (bo (d5 b8 ce cd b9 cf cc ca))) aG D (az.old e6 (bo (d5 b8 ce cd b9 cf cc ca)))
   have eR:=bu bS D ek
   have qc:=bu bS D jB
   exact ad 1 c1<|Z 3 (ag 1 aJ bV)<|ap 0 (at_+1)<|aC 2 (stx 1 (J (at_+1)) dL bV e2)<|oU [] (aT:p<aF.n∨aF.n≤p) (aT:p≠nb) (aT:p<aF.n∨aF.n≤p)<|Z 1 (ag 2 vc dS)<|ad 1 c3<|aj [] (cU ah cP:bZ aF H3 [p]=true)<|eL 1 (show eW E #[83,83] (sc q 0 l.length 6) (sc (H3.n+0) 0 1 3) (qS H3 b8 ce cd b9 cf cc ca)=some (sc (H3.n+1) 0 ((l++[gU.mk b8 ce cd b9 cf cc ca]).length) 6,bF,[q],[q,H3.n+0]) from (sk D5 rfl (show hG (qS H3 b8 ce cd b9 cf cc ca) 3 (sc (H3.n+0) 0 1 3)=some (1,[ab b8,.slice ce cd b9,.slice cf cc ca],[H3.n+0]) from gt (aL (bo (d5 b8 ce cd b9 cf cc ca)) H3 0 _ rfl) (ec rfl)) rfl (az.old fr (bo (d5 b8 ce cd b9 cf cc ca))) (by rw [z3];omega) D).trans (by rw [Gj l b8 ce cd b9 cf cc ca,Gk l b8 ce cd b9 cf cc ca,aG] <;> rfl))<|aj [] (cU (az.news (bo (d5 b8 ce cd b9 cf cc ca))) (az.old fr (bo (d5 b8 ce cd b9 cf cc ca))):bZ (qS H3 b8 ce cd b9 cf cc ca) bF [q]=true)<|aC 1 (stx 2 (sc (H3.n+1) 0 ((l++[gU.mk b8 ce cd b9 cf cc ca]).length) 6) wE eZ bS)<|aj [] (cU bz eZ:bZ bF db [nb]=true)<|kW 0 [(0,pt p 0),(2,pt rb 0),(3,pt nb 0)] db [p,p,q,nb] bD aQ (ih _ D fH ma 0 (H3.n+1) (l++[gU.mk b8 ce cd b9 cf cc ca]) _ cG eR iN qc hs bY gn d1 b0 D D D hA hn (fun _=>(Ea sN (qg vF) iM D).symm.trans (hR rfl)) (fun h=>absurd h D) D D D (by simp only [List.length_append,cj,cF];omega) rfl)
  have dD:aF.n+0≤H3.n:=aW.n
  have g3:=az.n
  have cE:=y.kept af ai aX
  have dQ:=bu e2 D cE
  have fr:=ah.kept aW bB dQ
  obtain ⟨bF,aG⟩:∃ ao,ao=((qS H3 b8 ce cd b9 cf cc ca).set q .dead).new (O (oL (l++[gU.mk b8 ce cd b9 cf cc ca])) 85):=⟨_,rfl⟩
  have bz:aa E G bF:=th (az.news (bo (d5 b8 ce cd b9 cf cc ca))) aG D (by rw [bU];simp only [cj,cF];omega)
  have fB:bF.n=H3.n+2:=by rw [ti aG,bU] <;> rfl
  have jB:bF.get (H3.n+1)=some (O (oL (l++[gU.mk b8 ce cd b9 cf cc ca])) 85):=tj aG
  have d6:=ah.kept aW bB dS
  have eZ:=lF (az.news (bo (d5 b8 ce cd b9 cf cc ca))) aG D (az.old d6 (bo (d5 b8 ce cd b9 cf cc ca)))
  obtain ⟨db,bS⟩:∃ ao,ao=bF.set nb (O [ab 124,.slice none 0 0,sc (H3.n+1) 0 ((l++[gU.mk b8 ce cd b9 cf cc ca]).length) 6] 85):=⟨_,rfl⟩
  have cG:aa E G db:=bS▸bz.set _ D D
  have gk:db.n=bF.n+0:=by rw [bS,U.cB] <;> rfl
  have iN:=bC bS
  have ek:=lF (az.news (bo (d5 b8 ce cd b9 cf cc ca))) aG D (az.old e6 (bo (d5 b8 ce cd b9 cf cc ca)))
  have eR:=bu bS D ek
  have qc:=bu bS D jB
  exact ad 1 c1<|Z 3 (ag 1 aJ bV)<|ap 0 (at_+1)<|aC 2 (stx 1 (J (at_+1)) dL bV e2)<|oU [] (aT:p<aF.n∨aF.n≤p) (aT:p≠nb) (aT:p<aF.n∨aF.n≤p)<|Z 1 (ag 2 vc dS)<|ad 1 c3<|aj [] (cU ah cP:bZ aF H3 [p]=true)<|eL 1 (show eW E #[83,83] (sc q 0 l.length 6) (sc (H3.n+0) 0 1 3) (qS H3 b8 ce cd b9 cf cc ca)=some (sc (H3.n+1) 0 ((l++[gU.mk b8 ce cd b9 cf cc ca]).length) 6,bF,[q],[q,H3.n+0]) from (sk D5 rfl (show hG (qS H3 b8 ce cd b9 cf cc ca) 3 (sc (H3.n+0) 0 1 3)=some (1,[ab b8,.slice ce cd b9,.slice cf cc ca],[H3.n+0]) from gt (aL (bo (d5 b8 ce cd b9 cf cc ca)) H3 0 _ rfl) (ec rfl)) rfl (az.old fr (bo (d5 b8 ce cd b9 cf cc ca))) (by rw [z3];omega) D).trans (by rw [Gj l b8 ce cd b9 cf cc ca,Gk l b8 ce cd b9 cf cc ca,aG] <;> rfl))<|aj [] (cU (az.news (bo (d5 b8 ce cd b9 cf cc ca))) (az.old fr (bo (d5 b8 ce cd b9 cf cc ca))):bZ (qS H3 b8 ce cd b9 cf cc ca) bF [q]=true)<|aC 1 (stx 2 (sc (H3.n+1) 0 ((l++[gU.mk b8 ce cd b9 cf cc ca]).length) 6) wE eZ bS)<|aj [] (cU bz eZ:bZ bF db [nb]=true)<|kW 0 [(0,pt p 0),(2,pt rb 0),(3,pt nb 0)] db [p,p,q,nb] bD aQ (ih _ D fH ma wK (H3.n+1) (l++[gU.mk b8 ce cd b9 cf cc ca]) _ cG eR iN qc hs bY gn d1 b0 D D D hA hn (fun h=>absurd h D) (fun _=>(hR rfl).symm.trans (D9 sN (qg vF) iM)) D D D (by simp only [List.length_append,cj,cF];omega) rfl)
 obtain ⟨_,H1,c1,af,y1,rfl⟩:=Db p s at_ op wr 124 y kp D hs D D D
 have bV:=y.kept af ai kp
 have cK:=y.kept af ai bn
 exact ad 1 c1<|en 0 [(2,pt rb 0),(3,pt nb 0)] (.exit 0) H1 [] aZ bi ⟨rfl,at_,op,wr,some ⟨q,0,none⟩,l.length,6,rfl,⟨bV,cK,D,D,D,fun h=>absurd h D,fun _=>hN D⟩⟩
noncomputable def WU:Code:=cN [1,1,0,0,0] (cH Tryz.f82)
noncomputable abbrev p6 xa ef xn xc eg ee ed b8 ce cd b9 cf cc ca:=([ab xa,.slice ef xn xc,.slice eg ee ed,ab b8,.slice ce cd b9,.slice cf cc ca]:List Value)
noncomputable abbrev z1 H3 b8 ce cd b9 cf cc ca xa ef xn xc eg ee ed:=news H3 [O (d5 b8 ce cd b9 cf cc ca) 85,O (p6 xa ef xn xc eg ee ed b8 ce cd b9 cf cc ca) 85]
theorem Sg (p:Nat) (nb:Nat) (rb:Nat) (s:ByteArray) (n:Nat) (eN:Int) (R:Option (Int×Int)):∀(m:Nat) (at_:Int) (op:Int) (wr:Int) (q:Nat) (xa:Int) (ef:Option Addr) (xn:Nat) (xc:Nat) (eg:Option Addr) (ee:Nat) (ed:Nat) (H:U),aa E G H→(kp:H.get p=some (O (fC s at_ op wr) 123))→(bn:H.get nb=some (O [ab 124,.slice none 0 0,sc q 0 1 3] 85))→(aX:H.get q=some (O (j3 xa ef xn xc eg ee ed) 85))→(hs:(s.size:Int)<100000)→(bY:G.n≤p)→(gn:G.n≤nb)→(d1:p≠nb)→(b0:0≤eN)→(b1:eN≤at_)→(a1:at_≤s.size)→(lY:wr=0∨0<wr)→(hA:uZ s n)→(hn:((s.size:Int)-eN).toNat≤n)→(hR:wr=0→nN s at_ op=R)→(hN:0<wr→R=none)→(aY:G.n≤q)→(e1:p≠q)→(e2:nb≠q)→2*((s.size:Int)-at_).toNat+(1-wr).toNat=m→
  cy E G 25 WU [(0,pt p 0),(2,pt rb 0),(3,pt nb 0)] H [p,nb,q] (fun x T H'=>(x=(.exit 0)∧∃(eJ sb jc:Int) (Nf:Option Addr) (Nd Nc:Nat),T=bl [(2,pt rb 0),(3,pt nb 0)]∧(H'.get p=some (lk s eJ sb jc)∧H'.get nb=some (O [ab 124,.slice none 0 0,.slice Nf Nd Nc] 85)∧eN≤eJ∧eJ≤s.size∧(jc=0∨0<jc)∧(jc=0→R=some (eJ,sb))∧(0<jc→R=none)))):=by
 refine d8 fun m ih=>?_
 intro at_ op wr q xa ef xn xc eg ee ed H y kp bn aX hs bY gn d1 b0 b1 a1 lY hA hn hR hN aY e1 e2 hm
 refine c9 y ?_
 have gi:=y.wf.lt kp
 have rO:=y.wf.lt bn
 have iX:=y.wf.lt aX
 rcases lY with rfl |lY
 ·obtain ⟨_,H1,c1,af,y1,b7⟩:=s8 p s at_ op 124 y kp D hs D D
  rcases b7 with ⟨rfl,ry⟩ |⟨rfl,sN,vF⟩
  ·have bV:=y.kept af ai kp
   have cK:=y.kept af ai bn
   exact ad 1 c1<|en 0 [(2,pt rb 0),(3,pt nb 0)] (.exit 0) H1 [] aZ bi ⟨rfl,at_,op,0,some ⟨q,0,none⟩,1,3,rfl,⟨bV,cK,D,D,D,fun _=>(hR rfl).symm.trans (D8 (rQ ry)),fun h=>absurd h D⟩⟩
  have cI:H.n+0≤H1.n:=af.n
  have bV:=y.kept af ai kp
  obtain ⟨aF,e2⟩:∃ ao,ao=H1.set p (O (fC s (at_+1) op 0) 123):=⟨_,rfl⟩
  have ah:aa E G aF:=e2▸y1.set _ D D
  have cl:aF.n=H1.n+0:=by rw [e2,U.cB] <;> rfl
  have cP:=bC e2
  have cK:=y.kept af ai bn
  have dS:=bu e2 D cK
  obtain ⟨_,H3,c3,aW,az,fo⟩:=LY p s (at_+1) op n ah cP D hs D D hA D
  rcases fo with ⟨fH,ma,⟨b8,ce,cd,b9,cf,cc,ca,rfl⟩,e6,iM,oz,eh⟩ |⟨fH,ma,wK,⟨b8,ce,cd,b9,cf,cc,ca,rfl⟩,e6,iM,PK,oz,eh⟩
  ·have dD:aF.n+0≤H3.n:=aW.n
   have g3:=az.n
   have cE:=y.kept af ai aX
   have dQ:=bu e2 D cE
   have fr:=ah.kept aW bB dQ
   have d6:=ah.kept aW bB dS
   obtain ⟨bF,aG⟩:∃ ao,ao=(z1 H3 b8 ce cd b9 cf cc ca xa ef xn xc eg ee ed).set nb (O [ab 124,.slice none 0 0,sc (H3.n+1) 0 2 6] 85):=⟨_,rfl⟩
   have bz:aa E G bF:=aG▸(az.news [O (d5 b8 ce cd b9 cf cc ca) 85,O (p6 xa ef xn xc eg ee ed b8 ce cd b9 cf cc ca) 85]).set _ D (by rw [bU];simp only [cj,cF];omega)
   have fB:bF.n=H3.n+2:=by rw [aG,U.cB,bU] <;> rfl
   have jB:=bu aG D (aL [O (d5 b8 ce cd b9 cf cc ca) 85,O (p6 xa ef xn xc eg ee ed b8 ce cd b9 cf cc ca) 85] H3 1 _ rfl)
   have eZ:=bC aG
   have ek:=bu aG D (az.old e6 [O (d5 b8 ce cd b9 cf cc ca) 85,O (p6 xa ef xn xc eg ee ed b8 ce cd b9 cf cc ca) 85])
   exact ad 1 c1<|Z 3 (ag 1 aJ bV)<|ap 0 (at_+1)<|aC 2 (stx 1 (J (at_+1)) dL bV e2)<|oU [] (aT:p<aF.n∨aF.n≤p) (aT:p≠nb) (aT:p<aF.n∨aF.n≤p)<|Z 1 (ag 2 vc dS)<|ad 1 c3<|aj [] (cU ah cP:bZ aF H3 [p]=true)<|eL 1 (show eW E #[83,83] (sc q 0 1 3) (sc (H3.n+0) 0 1 3) (qS H3 b8 ce cd b9 cf cc ca)=some (sc (H3.n+1) 0 2 6,z1 H3 b8 ce cd b9 cf cc ca xa ef xn xc eg ee ed,[],[q,H3.n+0]) from Bc (c:=1) D5 rfl (show hG (qS H3 b8 ce cd b9 cf cc ca) 3 (sc (H3.n+0) 0 1 3)=some (1,[ab b8,.slice ce cd b9,.slice cf cc ca],[H3.n+0]) from gt (aL (bo (d5 b8 ce cd b9 cf cc ca)) H3 0 _ rfl) (ec rfl)) rfl (az.old fr (bo (d5 b8 ce cd b9 cf cc ca))) (ec rfl) (by decide) (by decide))<|aC 1 (stx 2 (sc (H3.n+1) 0 2 6) wE (az.old d6 [O (d5 b8 ce cd b9 cf cc ca) 85,O (p6 xa ef xn xc eg ee ed b8 ce cd b9 cf cc ca) 85]) aG)<|aj [] (cU (az.news [O (d5 b8 ce cd b9 cf cc ca) 85,O (p6 xa ef xn xc eg ee ed b8 ce cd b9 cf cc ca) 85]) (az.old d6 [O (d5 b8 ce cd b9 cf cc ca) 85,O (p6 xa ef xn xc eg ee ed b8 ce cd b9 cf cc ca) 85]):bZ (z1 H3 b8 ce cd b9 cf cc ca xa ef xn xc eg ee ed) bF [nb]=true)<|kW 0 [(0,pt p 0),(2,pt rb 0),(3,pt nb 0)] bF [p,p,nb] bD aQ (Sf p nb rb s n eN R _ fH ma 0 (H3.n+1) ([gU.mk xa ef xn xc eg ee ed,gU.mk b8 ce cd b9 cf cc ca]) _ bz ek eZ jB hs bY gn d1 b0 D D D hA hn (fun _=>(Ea sN (qg vF) iM D).symm.trans (hR rfl)) (fun h=>absurd h D) D D D (by simp only [List.length_append,cj,cF];omega) rfl)
  have dD:aF.n+0≤H3.n:=aW.n
  have g3:=az.n
  have cE:=y.kept af ai aX
  have dQ:=bu e2 D cE
  have fr:=ah.kept aW bB dQ
  have d6:=ah.kept aW bB dS
  obtain ⟨bF,aG⟩:∃ ao,ao=(z1 H3 b8 ce cd b9 cf cc ca xa ef xn xc eg ee ed).set nb (O [ab 124,.slice none 0 0,sc (H3.n+1) 0 2 6] 85):=⟨_,rfl⟩
  have bz:aa E G bF:=aG▸(az.news [O (d5 b8 ce cd b9 cf cc ca) 85,O (p6 xa ef xn xc eg ee ed b8 ce cd b9 cf cc ca) 85]).set _ D (by rw [bU];simp only [cj,cF];omega)
  have fB:bF.n=H3.n+2:=by rw [aG,U.cB,bU] <;> rfl
  have jB:=bu aG D (aL [O (d5 b8 ce cd b9 cf cc ca) 85,O (p6 xa ef xn xc eg ee ed b8 ce cd b9 cf cc ca) 85] H3 1 _ rfl)
  have eZ:=bC aG
  have ek:=bu aG D (az.old e6 [O (d5 b8 ce cd b9 cf cc ca) 85,O (p6 xa ef xn xc eg ee ed b8 ce cd b9 cf cc ca) 85])
  exact ad 1 c1<|Z 3 (ag 1 aJ bV)<|ap 0 (at_+1)<|aC 2 (stx 1 (J (at_+1)) dL bV e2)<|oU [] (aT:p<aF.n∨aF.n≤p) (aT:p≠nb) (aT:p<aF.n∨aF.n≤p)<|Z 1 (ag 2 vc dS)<|ad 1 c3<|aj [] (cU ah cP:bZ aF H3 [p]=true)<|eL 1 (show eW E #[83,83] (sc q 0 1 3) (sc (H3.n+0) 0 1 3) (qS H3 b8 ce cd b9 cf cc ca)=some (sc (H3.n+1) 0 2 6,z1 H3 b8 ce cd b9 cf cc ca xa ef xn xc eg ee ed,[],[q,H3.n+0]) from Bc (c:=1) D5 rfl (show hG (qS H3 b8 ce cd b9 cf cc ca) 3 (sc (H3.n+0) 0 1 3)=some (1,[ab b8,.slice ce cd b9,.slice cf cc ca],[H3.n+0]) from gt (aL (bo (d5 b8 ce cd b9 cf cc ca)) H3 0 _ rfl) (ec rfl)) rfl (az.old fr (bo (d5 b8 ce cd b9 cf cc ca))) (ec rfl) (by decide) (by decide))<|aC 1 (stx 2 (sc (H3.n+1) 0 2 6) wE (az.old d6 [O (d5 b8 ce cd b9 cf cc ca) 85,O (p6 xa ef xn xc eg ee ed b8 ce cd b9 cf cc ca) 85]) aG)<|aj [] (cU (az.news [O (d5 b8 ce cd b9 cf cc ca) 85,O (p6 xa ef xn xc eg ee ed b8 ce cd b9 cf cc ca) 85]) (az.old d6 [O (d5 b8 ce cd b9 cf cc ca) 85,O (p6 xa ef xn xc eg ee ed b8 ce cd b9 cf cc ca) 85]):bZ (z1 H3 b8 ce cd b9 cf cc ca xa ef xn xc eg ee ed) bF [nb]=true)<|kW 0 [(0,pt p 0),(2,pt rb 0),(3,pt nb 0)] bF [p,p,nb] bD aQ (Sf p nb rb s n eN R _ fH ma wK (H3.n+1) ([gU.mk xa ef xn xc eg ee ed,gU.mk b8 ce cd b9 cf cc ca]) _ bz ek eZ jB hs bY gn d1 b0 D D D hA hn (fun h=>absurd h D) (fun _=>(hR rfl).symm.trans (D9 sN (qg vF) iM)) D D D (by simp only [List.length_append,cj,cF];omega) rfl)
 obtain ⟨_,H1,c1,af,y1,rfl⟩:=Db p s at_ op wr 124 y kp D hs D D D
 have bV:=y.kept af ai kp
 have cK:=y.kept af ai bn
 exact ad 1 c1<|en 0 [(2,pt rb 0),(3,pt nb 0)] (.exit 0) H1 [] aZ bi ⟨rfl,at_,op,wr,some ⟨q,0,none⟩,1,3,rfl,⟨bV,cK,D,D,D,fun h=>absurd h D,fun _=>hN D⟩⟩
noncomputable abbrev Q8 H1 bJ bO bN bK bP bM bL:=news H1 [O (dx bJ bO bN bK bP bM bL) 85,O dw 85]
noncomputable abbrev ou (H1:U):=([ab 124,.slice none 0 0,sc (H1.n+0) 0 1 3]:List Value)
noncomputable abbrev Q9 (H1:U) bJ bO bN bK bP bM bL:=news H1 [O (dx bJ bO bN bK bP bM bL) 85,O (ou H1) 85]
noncomputable abbrev mB lp ln lm:=([ab 124,.slice none 0 0,.slice lp ln lm]:List Value)
theorem ae6 (p:Nat) (s:ByteArray) (at_:Int) (op:Int) (n:Nat) {H:U} (y:aa E G H) (kp:H.get p=some (lk s at_ op 0)) (bY:G.n≤p) (hs:(s.size:Int)<100000) (a0:0≤at_) (a1:at_≤s.size) (hA:uZ s n) (hn:((s.size:Int)-at_).toNat≤n):aI E G 82 [pt p 0] H [p] (fun v H'=>A4 s p at_ 0 (nM s at_ op) v H'):=by
 have g0:=y.n
 refine br Tryz.f82 y ?_
 have gi:=y.wf.lt kp
 obtain ⟨_,H1,c1,af,y1,b7⟩:=LY p s at_ op n (y.news (bo dw)) (y.old kp (bo dw)) D hs D D hA D
 rcases b7 with ⟨dH,rS,⟨bJ,bO,bN,bK,bP,bM,bL,rfl⟩,dV,dR,g9,cq⟩ |⟨dH,rS,o4,⟨bJ,bO,bN,bK,bP,bM,bL,rfl⟩,dV,dR,hw1,g9,cq⟩
 ·have cI:=dA af
  have g1:=y1.n
  have aP:=(y.news (bo dw)).kept af bB (aL (bo dw) H 0 _ rfl)
  obtain ⟨_,_,H2,c2,ar,ah,rfl,r8,HT,Ni,lp,ln,lm,rfl,pI,Kq,kV,Dh,B6,uz,ya⟩:=(Sg p (H1.n+1) (H.n+0) s n dH (nN s dH rS) _ dH rS 0 (H1.n+0) bJ bO bN bK bP bM bL _ (y1.news [O (dx bJ bO bN bK bP bM bL) 85,O (ou H1) 85]) (y1.old dV [O (dx bJ bO bN bK bP bM bL) 85,O (ou H1) 85]) (aL [O (dx bJ bO bN bK bP bM bL) 85,O (ou H1) 85] H1 1 _ rfl) (aL [O (dx bJ bO bN bK bP bM bL) 85,O (ou H1) 85] H1 0 _ rfl) hs bY D D D D D D hA D (fun _=>rfl) (fun h=>absurd h D) D D D rfl).code
  have cl:=oK ar
  have cL:=(y1.news [O (dx bJ bO bN bK bP bM bL) 85,O (ou H1) 85]).kept ar bB (y1.old aP [O (dx bJ bO bN bK bP bM bL) 85,O (ou H1) 85])
  obtain ⟨bk,aM⟩:∃ ao,ao=H2.set (H.n+0) (O (mB lp ln lm) 85):=⟨_,rfl⟩
  have az:aa E G bk:=aM▸ah.set _ D D
  have dD:bk.n=H2.n+0:=by rw [aM,U.cB] <;> rfl
  have ei:=bC aM
  refine ad 2 c1<|aC 3 (bT cR rfl rfl rfl rfl:bp E 85 (H1.n+1) 0 (.agg (ou H1).toArray) (Q8 H1 bJ bO bN bK bP bM bL)=some (Q9 H1 bJ bO bN bK bP bM bL))<|bW 0 c2<|Z 0 (cg e5 cR Kq rfl rfl:ay E 85 (H1.n+1) 0 H2=some (.agg (mB lp ln lm).toArray))<|aC 0 (stx 0 (.agg (mB lp ln lm).toArray) cR cL aM)<|?_
  rcases B6 with rfl |B6
  ·have eF:=bu aM D pI
   exact aj [] ((cg e5 cR ei rfl rfl):ay E 85 (H.n+0) 0 bk=some (.agg (mB lp ln lm).toArray))<|gM 0 [.agg (mB lp ln lm).toArray] (.agg (mB lp ln lm).toArray) bk [p,H1.n+1,p,H1.n+1,H1.n+0,H.n+0] aQ bi (.inl ⟨r8,HT,⟨_,_,_,_,_,_,_,rfl⟩,eF,(Eb dR D).trans (uz rfl),D,D⟩)
  have eF:=bu aM D pI
  exact aj [] ((cg e5 cR ei rfl rfl):ay E 85 (H.n+0) 0 bk=some (.agg (mB lp ln lm).toArray))<|gM 0 [.agg (mB lp ln lm).toArray] (.agg (mB lp ln lm).toArray) bk [p,H1.n+1,p,H1.n+1,H1.n+0,H.n+0] aQ bi (.inr ⟨r8,HT,Ni,⟨_,_,_,_,_,_,_,rfl⟩,eF,(Eb dR D).trans (ya D),D,D,D⟩)
 have cI:=dA af
 have g1:=y1.n
 have aP:=(y.news (bo dw)).kept af bB (aL (bo dw) H 0 _ rfl)
 obtain ⟨_,_,H2,c2,ar,ah,rfl,r8,HT,Ni,lp,ln,lm,rfl,pI,Kq,kV,Dh,B6,uz,ya⟩:=(Sg p (H1.n+1) (H.n+0) s n dH none _ dH rS o4 (H1.n+0) bJ bO bN bK bP bM bL _ (y1.news [O (dx bJ bO bN bK bP bM bL) 85,O (ou H1) 85]) (y1.old dV [O (dx bJ bO bN bK bP bM bL) 85,O (ou H1) 85]) (aL [O (dx bJ bO bN bK bP bM bL) 85,O (ou H1) 85] H1 1 _ rfl) (aL [O (dx bJ bO bN bK bP bM bL) 85,O (ou H1) 85] H1 0 _ rfl) hs bY D D D D D D hA D (fun h=>absurd h D) (fun _=>rfl) D D D rfl).code
 have cl:=oK ar
 have cL:=(y1.news [O (dx bJ bO bN bK bP bM bL) 85,O (ou H1) 85]).kept ar bB (y1.old aP [O (dx bJ bO bN bK bP bM bL) 85,O (ou H1) 85])
 obtain ⟨bk,aM⟩:∃ ao,ao=H2.set (H.n+0) (O (mB lp ln lm) 85):=⟨_,rfl⟩
 have az:aa E G bk:=aM▸ah.set _ D D
 have dD:bk.n=H2.n+0:=by rw [aM,U.cB] <;> rfl
 have ei:=bC aM
 refine ad 2 c1<|aC 3 (bT cR rfl rfl rfl rfl:bp E 85 (H1.n+1) 0 (.agg (ou H1).toArray) (Q8 H1 bJ bO bN bK bP bM bL)=some (Q9 H1 bJ bO bN bK bP bM bL))<|bW 0 c2<|Z 0 (cg e5 cR Kq rfl rfl:ay E 85 (H1.n+1) 0 H2=some (.agg (mB lp ln lm).toArray))<|aC 0 (stx 0 (.agg (mB lp ln lm).toArray) cR cL aM)<|?_
 rcases B6 with rfl |B6
 ·exact aj [] ((cg e5 cR ei rfl rfl):ay E 85 (H.n+0) 0 bk=some (.agg (mB lp ln lm).toArray))<|gM 0 [.agg (mB lp ln lm).toArray] (.agg (mB lp ln lm).toArray) bk [p,H1.n+1,p,H1.n+1,H1.n+0,H.n+0] aQ bi (absurd (uz rfl) bD)
 have eF:=bu aM D pI
 exact aj [] ((cg e5 cR ei rfl rfl):ay E 85 (H.n+0) 0 bk=some (.agg (mB lp ln lm).toArray))<|gM 0 [.agg (mB lp ln lm).toArray] (.agg (mB lp ln lm).toArray) bk [p,H1.n+1,p,H1.n+1,H1.n+0,H.n+0] aQ bi (.inr ⟨r8,HT,Ni,⟨_,_,_,_,_,_,_,rfl⟩,eF,NL dR,D,D,D⟩)
theorem NH (s:ByteArray):∀ n,uZ s n
 |0=>fun p at_ op H y kp bY hs a0 a1 h=>absurd h (Nat.not_lt_zero _)
 |n+1=>fun p at_ op H y kp bY hs a0 a1 h=>ae6 p s at_ op n y kp bY hs a0 a1 (NH s n) D
noncomputable abbrev FY H:=news H (bo dw)
noncomputable abbrev FZ H1:=news H1 (bo dw)
noncomputable abbrev eT H1 bJ bO bN bK bP bM bL:=news H1 (bo (dx bJ bO bN bK bP bM bL))
theorem afl (s:ByteArray) {H:U} (y:aa E G H):aI E G 54 [.string s] H [] (fun v H'=>(∃ a b,A3 a∧v=.tuple #[a,b,J 0]∧oR s=true)∨(∃ a b w,A3 a∧v=.tuple #[a,b,J w]∧0<w∧oR s=false)):=by
 have g0:=y.n
 refine br Tryz.f54 y ?_
 refine aO 5 ((s.size:Int)>200) ?_ ?_ <;> intro h1 q1
 ·exact aC 1 (bT cR rfl rfl rfl rfl:bp E 85 (H.n+0) 0 (.agg (List.toArray dw)) (FY H)=some (FY H))<|aK [aB 1]<|oU [] ((dy e5 cR rfl rfl rfl):ay E 85 (H.n+0) 0 (FY H)=some (.agg (List.toArray dw))) (r5 (J 0)) (r5 (J 2))<|gM 0 [.agg (List.toArray dw),J 0,J 2] (.tuple #[.agg (List.toArray dw),J 0,J 2]) (FY H) [H.n+0] aQ aZ (.inr ⟨_,_,_,⟨_,_,_,_,_,_,_,rfl⟩,rfl,D,(by rw [oR,decide_eq_true D];rfl)⟩)
 have hs:(s.size:Int)<100000:=D
 obtain ⟨_,H1,c1,af,y1,b7⟩:=NH s (((s.size:Int)-0).toNat+1) (H.n+1) 0 0 (y.news [O dw 85,O (fC s 0 0 0) 123]) (aL [O dw 85,O (fC s 0 0 0) 123] H 1 _ rfl) D D D D D
 rcases b7 with ⟨dH,rS,⟨bJ,bO,bN,bK,bP,bM,bL,rfl⟩,dV,dR,g9,cq⟩ |⟨dH,rS,o4,⟨bJ,bO,bN,bK,bP,bM,bL,rfl⟩,dV,dR,hw1,g9,cq⟩
 ·have cI:=oK af
  have aP:=(y.news [O dw 85,O (fC s 0 0 0) 123]).kept af bB (aL [O dw 85,O (fC s 0 0 0) 123] H 0 _ rfl)
  refine ad 5 c1<|aC 1 (bT cR rfl rfl rfl rfl:bp E 85 (H1.n+0) 0 (.agg (dx bJ bO bN bK bP bM bL).toArray) (FZ H1)=some (eT H1 bJ bO bN bK bP bM bL))<|Z 3 (ag 3 aJ (y1.old dV (bo (dx bJ bO bN bK bP bM bL))))<|Z 5 (ag 1 aJ (y1.old dV (bo (dx bJ bO bN bK bP bM bL))))<|aO 2 (dH<(s.size:Int)) ?_ ?_ <;> intro h3 dv
  ·obtain ⟨aF,e2⟩:∃ ao,ao=(eT H1 bJ bO bN bK bP bM bL).set (H.n+1) (O (fC s dH rS 2) 123):=⟨_,rfl⟩
   have ah:aa E G aF:=e2▸(y1.news (bo (dx bJ bO bN bK bP bM bL))).set _ D (by rw [bU];simp only [cj,cF];omega)
   have cl:aF.n=H1.n+1:=by rw [e2,U.cB,bU] <;> rfl
   have iW:=bu e2 D (aL (bo (dx bJ bO bN bK bP bM bL)) H1 0 _ rfl)
   have sO:=bC e2
   have cL:=bu e2 D (y1.old aP (bo (dx bJ bO bN bK bP bM bL)))
   obtain ⟨bk,aM⟩:∃ ao,ao=aF.set (H.n+0) (O (dx bJ bO bN bK bP bM bL) 85):=⟨_,rfl⟩
   have az:aa E G bk:=aM▸ah.set _ D D
   have dD:bk.n=aF.n+0:=by rw [aM,U.cB] <;> rfl
   have ei:=bC aM
   exact aC 4 (stx 3 (J 2) dL (y1.old dV (bo (dx bJ bO bN bK bP bM bL))) e2)<|gT [] (aT:(H.n+0)<aF.n∨aF.n≤(H.n+0)) (aT:(H.n+0)<aF.n∨aF.n≤(H.n+0)) (aT:(H.n+0)<aF.n∨aF.n≤(H.n+0)) (aT:(H.n+0)≠(H.n+1)) (aT:(H.n+0)<aF.n∨aF.n≤(H.n+0)) (aT:(H.n+0)<aF.n∨aF.n≤(H.n+0))<|My [] (aT:(H.n+0)<aF.n∨aF.n≤(H.n+0)) (aT:(H.n+0)<aF.n∨aF.n≤(H.n+0)) (aT:(H.n+0)≠(H.n+1)) (aT:(H.n+0)<aF.n∨aF.n≤(H.n+0))<|Z 0 (cg e5 cR iW rfl rfl:ay E 85 (H1.n+0) 0 aF=some (.agg (dx bJ bO bN bK bP bM bL).toArray))<|Z 3 (ag 1 aJ sO)<|Z 3 (ag 3 aJ sO)<|aC 0 (stx 0 (.agg (dx bJ bO bN bK bP bM bL).toArray) cR cL aM)<|aj [] (cU ah cL:bZ aF bk [H.n+0]=true)<|aK [aB 1]<|oU [] ((cg e5 cR ei rfl rfl):ay E 85 (H.n+0) 0 bk=some (.agg (dx bJ bO bN bK bP bM bL).toArray)) (r5 (J dH)) (r5 (J 2))<|gM 0 [.agg (dx bJ bO bN bK bP bM bL).toArray,J dH,J 2] (.tuple #[.agg (dx bJ bO bN bK bP bM bL).toArray,J dH,J 2]) bk [H.n+1,H1.n+0,H.n+1,H.n+0] aQ aZ (.inr ⟨_,_,_,⟨_,_,_,_,_,_,_,rfl⟩,rfl,D,SN dR D⟩)
  obtain ⟨aF,e2⟩:∃ ao,ao=(eT H1 bJ bO bN bK bP bM bL).set (H.n+0) (O (dx bJ bO bN bK bP bM bL) 85):=⟨_,rfl⟩
  have ah:aa E G aF:=e2▸(y1.news (bo (dx bJ bO bN bK bP bM bL))).set _ D (by rw [bU];simp only [cj,cF];omega)
  have cl:aF.n=H1.n+1:=by rw [e2,U.cB,bU] <;> rfl
  have cL:=bC e2
  exact aK [aB 0]<|gT [] (aT:(H.n+0)<(eT H1 bJ bO bN bK bP bM bL).n∨(eT H1 bJ bO bN bK bP bM bL).n≤(H.n+0)) (aT:(H.n+0)<(eT H1 bJ bO bN bK bP bM bL).n∨(eT H1 bJ bO bN bK bP bM bL).n≤(H.n+0)) (aT:(H.n+0)<(eT H1 bJ bO bN bK bP bM bL).n∨(eT H1 bJ bO bN bK bP bM bL).n≤(H.n+0)) (aT:(H.n+0)≠(H.n+1)) (aT:(H.n+0)<(eT H1 bJ bO bN bK bP bM bL).n∨(eT H1 bJ bO bN bK bP bM bL).n≤(H.n+0)) (aT:(H.n+0)<(eT H1 bJ bO bN bK bP bM bL).n∨(eT H1 bJ bO bN bK bP bM bL).n≤(H.n+0))<|My [] (aT:(H.n+0)<(eT H1 bJ bO bN bK bP bM bL).n∨(eT H1 bJ bO bN bK bP bM bL).n≤(H.n+0)) (aT:(H.n+0)<(eT H1 bJ bO bN bK bP bM bL).n∨(eT H1 bJ bO bN bK bP bM bL).n≤(H.n+0)) (aT:(H.n+0)≠(H.n+1)) (aT:(H.n+0)<(eT H1 bJ bO bN bK bP bM bL).n∨(eT H1 bJ bO bN bK bP bM bL).n≤(H.n+0))<|Z 0 (dy e5 cR rfl rfl rfl:ay E 85 (H1.n+0) 0 (eT H1 bJ bO bN bK bP bM bL)=some (.agg (dx bJ bO bN bK bP bM bL).toArray))<|Z 3 (ag 1 aJ (y1.old dV (bo (dx bJ bO bN bK bP bM bL))))<|Z 3 (ag 3 aJ (y1.old dV (bo (dx bJ bO bN bK bP bM bL))))<|aC 0 (stx 0 (.agg (dx bJ bO bN bK bP bM bL).toArray) cR (y1.old aP (bo (dx bJ bO bN bK bP bM bL))) e2)<|aj [] (cU (y1.news (bo (dx bJ bO bN bK bP bM bL))) (y1.old aP (bo (dx bJ bO bN bK bP bM bL))):bZ (eT H1 bJ bO bN bK bP bM bL) aF [H.n+0]=true)<|aK [aB 1]<|oU [] ((cg e5 cR cL rfl rfl):ay E 85 (H.n+0) 0 aF=some (.agg (dx bJ bO bN bK bP bM bL).toArray)) (r5 (J dH)) (r5 (J 0))<|gM 0 [.agg (dx bJ bO bN bK bP bM bL).toArray,J dH,J 0] (.tuple #[.agg (dx bJ bO bN bK bP bM bL).toArray,J dH,J 0]) aF [H.n+1,H1.n+0,H.n+0] aQ aZ (.inl ⟨_,_,⟨_,_,_,_,_,_,_,rfl⟩,rfl,SO D dR D⟩)
 have cI:=oK af
 have aP:=(y.news [O dw 85,O (fC s 0 0 0) 123]).kept af bB (aL [O dw 85,O (fC s 0 0 0) 123] H 0 _ rfl)
 obtain ⟨aF,e2⟩:∃ ao,ao=(eT H1 bJ bO bN bK bP bM bL).set (H.n+0) (O (dx bJ bO bN bK bP bM bL) 85):=⟨_,rfl⟩
 have ah:aa E G aF:=e2▸(y1.news (bo (dx bJ bO bN bK bP bM bL))).set _ D (by rw [bU];simp only [cj,cF];omega)
 have cl:aF.n=H1.n+1:=by rw [e2,U.cB,bU] <;> rfl
 have cL:=bC e2
 exact ad 5 c1<|aC 1 (bT cR rfl rfl rfl rfl:bp E 85 (H1.n+0) 0 (.agg (dx bJ bO bN bK bP bM bL).toArray) (FZ H1)=some (eT H1 bJ bO bN bK bP bM bL))<|Z 3 (ag 3 aJ (y1.old dV (bo (dx bJ bO bN bK bP bM bL))))<|aH 0 (beq_eq_false_iff_ne.2 D:(o4==0)=false)<|aK [aB 1]<|gT [] (aT:(H.n+0)<(eT H1 bJ bO bN bK bP bM bL).n∨(eT H1 bJ bO bN bK bP bM bL).n≤(H.n+0)) (aT:(H.n+0)<(eT H1 bJ bO bN bK bP bM bL).n∨(eT H1 bJ bO bN bK bP bM bL).n≤(H.n+0)) (aT:(H.n+0)<(eT H1 bJ bO bN bK bP bM bL).n∨(eT H1 bJ bO bN bK bP bM bL).n≤(H.n+0)) (aT:(H.n+0)≠(H.n+1)) (aT:(H.n+0)<(eT H1 bJ bO bN bK bP bM bL).n∨(eT H1 bJ bO bN bK bP bM bL).n≤(H.n+0)) (aT:(H.n+0)<(eT H1 bJ bO bN bK bP bM bL).n∨(eT H1 bJ bO bN bK bP bM bL).n≤(H.n+0))<|My [] (aT:(H.n+0)<(eT H1 bJ bO bN bK bP bM bL).n∨(eT H1 bJ bO bN bK bP bM bL).n≤(H.n+0)) (aT:(H.n+0)<(eT H1 bJ bO bN bK bP bM bL).n∨(eT H1 bJ bO bN bK bP bM bL).n≤(H.n+0)) (aT:(H.n+0)≠(H.n+1)) (aT:(H.n+0)<(eT H1 bJ bO bN bK bP bM bL).n∨(eT H1 bJ bO bN bK bP bM bL).n≤(H.n+0))<|Z 0 (dy e5 cR rfl rfl rfl:ay E 85 (H1.n+0) 0 (eT H1 bJ bO bN bK bP bM bL)=some (.agg (dx bJ bO bN bK bP bM bL).toArray))<|Z 3 (ag 1 aJ (y1.old dV (bo (dx bJ bO bN bK bP bM bL))))<|Z 3 (ag 3 aJ (y1.old dV (bo (dx bJ bO bN bK bP bM bL))))<|aC 0 (stx 0 (.agg (dx bJ bO bN bK bP bM bL).toArray) cR (y1.old aP (bo (dx bJ bO bN bK bP bM bL))) e2)<|aj [] (cU (y1.news (bo (dx bJ bO bN bK bP bM bL))) (y1.old aP (bo (dx bJ bO bN bK bP bM bL))):bZ (eT H1 bJ bO bN bK bP bM bL) aF [H.n+0]=true)<|aK [aB 1]<|oU [] ((cg e5 cR cL rfl rfl):ay E 85 (H.n+0) 0 aF=some (.agg (dx bJ bO bN bK bP bM bL).toArray)) (r5 (J dH)) (r5 (J o4))<|gM 0 [.agg (dx bJ bO bN bK bP bM bL).toArray,J dH,J o4] (.tuple #[.agg (dx bJ bO bN bK bP bM bL).toArray,J dH,J o4]) aF [H.n+1,H1.n+0,H.n+0] aQ aZ (.inr ⟨_,_,_,⟨_,_,_,_,_,_,_,rfl⟩,rfl,D,Mb dR⟩)
noncomputable abbrev vo o a s:=([J o,.string a,.string s]:List Value)
theorem afo (o:Int) (a:ByteArray) (s:ByteArray) {H:U} (y:aa E G H) (ha:(a.size:Int)<100000):aI E G 23 [.agg (vo o a s).toArray] H [] (fun v H'=>v=(.bool (iO o a s))):=by
 refine br Tryz.f23 y ?_
 obtain ⟨_,H1,c1,af,y1,b7⟩:=afl s (y.news (i9 (vo o a s)))
 refine Z 3 (aR (news H (i9 (vo o a s))) 0 2 ct)<|?_
 rcases b7 with ⟨_,pb,⟨bJ,bO,bN,bK,bP,bM,bL,rfl⟩,rfl,hx⟩ |⟨_,pb,o4,⟨bJ,bO,bN,bK,bP,bM,bL,rfl⟩,rfl,hw1,hx⟩
 ·have cI:=dA af
  have aP:=(y.news (i9 (vo o a s))).kept af ai (aL (i9 (vo o a s)) H 0 _ rfl)
  refine ad 0 c1<|aC 5 (bT cR rfl rfl rfl rfl:bp E 85 (H1.n+0) 0 (.agg (dx bJ bO bN bK bP bM bL).toArray) (FZ H1)=some (eT H1 bJ bO bN bK bP bM bL))<|Z 3 (ag 1 ct (y1.old aP (bo (dx bJ bO bN bK bP bM bL))))<|?_
  cases h2:(iY a) with
  |true=>
   refine ad 0 (c5 h2 (Aj a D (y1.news (bo (dx bJ bO bN bK bP bM bL)))))<|Z 2 (ag 2 ct (y1.old aP (bo (dx bJ bO bN bK bP bM bL))))<|?_
   cases h3:(lG s) with
   |true=>
    refine ad 0 (c5 h3 (Al s (y1.news (bo (dx bJ bO bN bK bP bM bL)))))<|Z 3 (ag 0 aJ (y1.old aP (bo (dx bJ bO bN bK bP bM bL))))<|cS 0 o 1 ?_ ?_ <;> intro h4 dT
    ·exact aV 6 aN (eT H1 bJ bO bN bK bP bM bL) [H1.n+0] aQ aZ (by rw [iO,h2,h3,h4,hx] <;> rfl)
    refine Z 2 (ag 0 aJ (y1.old aP (bo (dx bJ bO bN bK bP bM bL))))<|cS 0 o 2 ?_ ?_ <;> intro h5 ff
    ·exact aV 5 aN (eT H1 bJ bO bN bK bP bM bL) [H1.n+0] aQ aZ (by rw [iO,h2,h3,h4,h5,hx] <;> rfl)
    refine Z 3 (ag 0 aJ (y1.old aP (bo (dx bJ bO bN bK bP bM bL))))<|cS 0 o 3 ?_ ?_ <;> intro h6 e7
    ·exact aV 9 aN (eT H1 bJ bO bN bK bP bM bL) [H1.n+0] aQ aZ (by rw [iO,h2,h3,h4,h5,h6,hx] <;> rfl)
    refine Z 2 (ag 0 aJ (y1.old aP (bo (dx bJ bO bN bK bP bM bL))))<|cS 0 o 4 ?_ ?_ <;> intro h7 mR
    ·exact aV 8 aN (eT H1 bJ bO bN bK bP bM bL) [H1.n+0] aQ aZ (by rw [iO,h2,h3,h4,h5,h6,h7,hx] <;> rfl)
    exact aV 6 Y (eT H1 bJ bO bN bK bP bM bL) [H1.n+0] aQ aZ (by rw [iO,h2,h3,h4,h5,h6,h7,hx] <;> rfl)
   |false=>
    exact ad 0 (c5 h3 (Al s (y1.news (bo (dx bJ bO bN bK bP bM bL)))))<|aV 4 Y (eT H1 bJ bO bN bK bP bM bL) [H1.n+0] aQ aZ (by rw [iO,h2,h3,hx] <;> rfl)
  |false=>
   exact ad 0 (c5 h2 (Aj a D (y1.news (bo (dx bJ bO bN bK bP bM bL)))))<|aV 5 Y (eT H1 bJ bO bN bK bP bM bL) [H1.n+0] aQ aZ (by rw [iO,h2,hx] <;> rfl)
 have cI:=dA af
 have aP:=(y.news (i9 (vo o a s))).kept af ai (aL (i9 (vo o a s)) H 0 _ rfl)
 refine ad 0 c1<|aC 5 (bT cR rfl rfl rfl rfl:bp E 85 (H1.n+0) 0 (.agg (dx bJ bO bN bK bP bM bL).toArray) (FZ H1)=some (eT H1 bJ bO bN bK bP bM bL))<|Z 3 (ag 1 ct (y1.old aP (bo (dx bJ bO bN bK bP bM bL))))<|?_
 cases h2:(iY a) with
 |true=>
  refine ad 0 (c5 h2 (Aj a D (y1.news (bo (dx bJ bO bN bK bP bM bL)))))<|Z 2 (ag 2 ct (y1.old aP (bo (dx bJ bO bN bK bP bM bL))))<|?_
  cases h3:(lG s) with
  |true=>
   refine ad 0 (c5 h3 (Al s (y1.news (bo (dx bJ bO bN bK bP bM bL)))))<|Z 3 (ag 0 aJ (y1.old aP (bo (dx bJ bO bN bK bP bM bL))))<|cS 0 o 1 ?_ ?_ <;> intro h4 dT
   ·exact aV 6 aN (eT H1 bJ bO bN bK bP bM bL) [H1.n+0] aQ aZ (by rw [iO,h2,h3,h4,hx] <;> rfl)
   refine Z 2 (ag 0 aJ (y1.old aP (bo (dx bJ bO bN bK bP bM bL))))<|cS 0 o 2 ?_ ?_ <;> intro h5 ff
   ·exact aV 5 aN (eT H1 bJ bO bN bK bP bM bL) [H1.n+0] aQ aZ (by rw [iO,h2,h3,h4,h5,hx] <;> rfl)
   refine Z 3 (ag 0 aJ (y1.old aP (bo (dx bJ bO bN bK bP bM bL))))<|cS 0 o 3 ?_ ?_ <;> intro h6 e7
   ·exact aH 4 (beq_eq_false_iff_ne.2 D:(o4==0)=false)<|aV 4 Y (eT H1 bJ bO bN bK bP bM bL) [H1.n+0] aQ aZ (by rw [iO,h2,h3,h4,h5,h6,hx] <;> rfl)
   refine Z 2 (ag 0 aJ (y1.old aP (bo (dx bJ bO bN bK bP bM bL))))<|cS 0 o 4 ?_ ?_ <;> intro h7 mR
   ·exact aH 3 (beq_eq_false_iff_ne.2 D:(o4==0)=false)<|aV 4 Y (eT H1 bJ bO bN bK bP bM bL) [H1.n+0] aQ aZ (by rw [iO,h2,h3,h4,h5,h6,h7,hx] <;> rfl)
   exact aV 6 Y (eT H1 bJ bO bN bK bP bM bL) [H1.n+0] aQ aZ (by rw [iO,h2,h3,h4,h5,h6,h7,hx] <;> rfl)
  |false=>
   exact ad 0 (c5 h3 (Al s (y1.news (bo (dx bJ bO bN bK bP bM bL)))))<|aV 4 Y (eT H1 bJ bO bN bK bP bM bL) [H1.n+0] aQ aZ (by rw [iO,h2,h3,hx] <;> rfl)
 |false=>
  exact ad 0 (c5 h2 (Aj a D (y1.news (bo (dx bJ bO bN bK bP bM bL)))))<|aV 5 Y (eT H1 bJ bO bN bK bP bM bL) [H1.n+0] aQ aZ (by rw [iO,h2,hx] <;> rfl)
theorem Sm (o:Int) (a:ByteArray) (s:ByteArray) (ha:(a.size:Int)<100000):∀{H:U},aa E G H→bE E 23 [.agg (vo o a s).toArray] H (.ret (.bool (iO o a s))) H []:=by
 obtain ⟨_,_,c,_,_,rfl⟩:=afo o a s gE ha
 exact fun y=>gx (GS _) (.ground rfl) c y
theorem Rp (s:ByteArray) (l:List ByteArray):l9 (s::l)=(!iY s||l9 l):=rfl
theorem Ro {b:Bool} (h:b=true):(!b)=false:=by rw [h];rfl
theorem Rm {b:Bool} (h:b=false):(!b)=true:=by rw [h];rfl
theorem KU {x:aw} (h:l9 x.ns=false) (h1:0≤x.f.how∧x.f.how≤2∧(x.f.how=0→(x.f.nn:Int)=0)∧(x.f.nn:Int)≤16):kT x=true:=by
 rw [kT,h,decide_eq_false (show ¬ x.f.how<0 by omega),decide_eq_false (show ¬ x.f.how>2 by omega),decide_eq_false (show ¬ (x.f.nn:Int)>16 by omega)]
 cases e:(x.f.how==0) with
 |false=>rfl
 |true=>rw [decide_eq_false (show ¬ (x.f.nn:Int)>0 by have:=h1.2.2.1 (pu e);omega)];rfl
theorem zS {x:aw} (h:l9 x.ns=true∨¬ (0≤x.f.how∧x.f.how≤2∧(x.f.how=0→(x.f.nn:Int)=0)∧(x.f.nn:Int)≤16)):kT x=false:=by
 cases e:kT x with
 |false=>rfl
 |true=>
  simp only [kT,dI,Bool.not_eq_true',decide_eq_false_iff_not,Bool.and_eq_false_iff,beq_eq_false_iff_ne] at e
  obtain ⟨e1,e2,aM,aG,bS⟩:=e
  rcases h with h |h
  ·rw [bS] at h;cases h
  ·exact absurd ⟨D,D,fun h0=>by rcases aM with aM |aM <;> omega,D⟩ h
noncomputable def FD:Array Field:=match e3 E.P (underlying 39) with |some (.struct fs)=>fs |_=>#[]
noncomputable def mf (i:Nat):Field:=(FD.toList[i]?).getD default
theorem acN:FD=#[mf 0,mf 1,mf 2]:=av
noncomputable abbrev vr k a t:=([.int .i64 k,.string a,.string t]:List Value)
theorem acR (k:Int) (a t:ByteArray):e3 E.P (Op.equalIn (9999+1) 39 (.agg (vr k a t).toArray) (.agg (vr k a t).toArray))=some true:=by
 rw [Op.equalIn]
 rw [pM (a:=.struct FD) av]
 simp only []
 rw [pM (a:=E.P) (by rfl)]
 rw [if_neg (by rw [show E.P.stoodInHeld 39=false by kernel_rfl];simp)]
 have hq:=I7 (xs:=#[.int .i64 k,.string a,.string t]) (ys:=#[.int .i64 k,.string a,.string t]) [(mf 0,k==k),(mf 1,a==a),(mf 2,t==t)] (by
  intro f hf st
  simp only [List.mem_cons,ai,or_false] at hf
  rcases hf with rfl |rfl |rfl
  ·exact zu (a:=.int .i64 k) (b:=.int .i64 k) av av av av
  ·exact zu (a:=.string a) (b:=.string a) av av av av
  ·exact zu (a:=.string t) (b:=.string t) av av av av)
 have e:([(mf 0,k==k),(mf 1,a==a),(mf 2,t==t)].all (·.2))=true:=by
  simp only [List.all_cons,List.all_nil,beq_self_eq_true,NU.2 rfl,Bool.and_self]
 rw [e] at hq
 have pD:e3 E.P (forIn FD ((none:Option Bool),()) (zr #[.int .i64 k,.string a,.string t] #[.int .i64 k,.string a,.string t]))=some (none,()):=by
  rw [acN,← Array.forIn_toList];exact hq
 exact (pM pD).trans rfl
theorem acQ (k:Int) (a t:ByteArray):EF E .neq 39 (.tmp 114) (.tmp 119) (.agg (vr k a t).toArray) (.agg (vr k a t).toArray)=some Y:=by
 have h:e3 E.P (do eqGuard .neq 39 (.tmp 114) (.tmp 119) (.agg (vr k a t).toArray) (.agg (vr k a t).toArray);binOp .neq 39 (.agg (vr k a t).toArray) (.agg (vr k a t).toArray))=some Y:=by
  rw [pM (a:=()) av]
  exact (pM (acR k a t)).trans rfl
 show (match e3 E.P _ with |some v=>bif ground v then some v else none |none=>none)=_
 rw [h];rfl
def gB (f g:dZ):Bool:=!(f.k != g.k)&&(!(f.op != g.op)&&(!(f.v != g.v)&&(!(!(f.s.toList==g.s.toList))&&(!(((f.nm:Nat):Int) != ((g.nm:Nat):Int))&&(!(f.wide != g.wide)&&(!(f.off != g.off)&&((f.ha==g.ha)&&(!(f.at_ != g.at_)&&(!(f.how != g.how) &&
 (!(((f.nn:Nat):Int) != ((g.nn:Nat):Int))&&((f.fk==g.fk)&&!(((f.an:Nat):Int) != ((g.an:Nat):Int)))))))))))))
theorem agr (f:dZ):gB f f=true:=by simp [gB]
noncomputable def W2:Code:=cN [1,0,1,0,0] (cH Tryz.f26)
theorem aff (x:aw) (X:U) (hx:aa E G X) (a:dG X x) (hz:lu x) (bw:Nat) (R:Bool):∀(m:Nat) (aD:Int) (H:U),aa E X H→(kb:H.get bw=some (O (ae x.f) 27))→(x0:0≤aD)→(hR:l9 (x.ns.drop aD.toNat)=R)→((x.f.nn:Int)-aD).toNat=m→
  cy E X 43 W2 [(1,pt bw 0),(3,J aD)] H [] (fun eI T H'=>(eI=(.exit 0)∧T=bl [(1,pt bw 0)]∧(R=false))∨(eI=.ret∧T=bl [(2,Y)]∧(R=true))):=by
 refine d8 fun m ih=>?_
 intro aD H y kb x0 hR hm
 have fm:=a.fm
 refine c9 y ?_
 refine Z 2 (ag 10 iI kb)<|aO 1 (aD<(x.f.nn:Int)) ?_ ?_ <;> intro h1 q1
 ·obtain ⟨d1,jC,t1,eE,dh⟩:=a.rn.open D
  have eG:=hx.wf.lt dh
  obtain ⟨au,m2⟩:=a.FK (i:=aD.toNat) D
  refine Z 1 (ag 10 iI kb)<|et 1 H (gz Dx oW eE D D:fE E 24 (.slice x.f.bf x.f.nn x.f.bg) (J aD)=some (pt d1 (0+aD.toNat*1)))<|Z 0 (CU ct (y.cell dh eG) m2 D:ay E 9 d1 (0+aD.toNat*1) H=some (.string au))<|?_
  cases h2:(iY au) with
  |true=>
   exact ad 0 (c5 h2 (Aj au (hz.ns au (lb m2)) (gg hx y)))<|ap 2 (aD+1)<|dU 1 [(1,pt bw 0),(3,J (aD+1))] H (ih _ D (aD+1) _ y kb D (by rw [fR D];exact (vg (F:=l9) Rp m2 hR (Ro h2))) rfl)
  |false=>
   exact ad 0 (c5 h2 (Aj au (hz.ns au (lb m2)) (gg hx y)))<|dF 2 [(2,Y)] .ret H (.inr ⟨rfl,rfl,vf (F:=l9) Rp m2 hR (Rm h2)⟩)
 exact dF 0 [(1,pt bw 0)] (.exit 0) H (.inl ⟨rfl,rfl,ve (F:=l9) rfl hR (by have:=a.nn;omega)⟩)
theorem LV (x:aw) (X:U) (hx:aa E G X) (a:dG X x) (hz:lu x) {H:U} (y:aa E X H):aI E X 26 [.agg (ae x.f).toArray] H [] (fun v H'=>v=.bool (kT x)):=by
 refine br Tryz.f26 y ?_
 obtain ⟨_,_,H1,c1,af,y1,b7⟩:=(aff x X hx a hz (H.n+0) (l9 (x.ns.drop 0)) _ 0 _ (y.news [O (ae x.f) 27]) (aL [O (ae x.f) 27] H 0 _ rfl) D rfl rfl).code
 rcases b7 with ⟨rfl,rfl,cM⟩ |⟨rfl,rfl,cM⟩
 ·have aP:=(y.news [O (ae x.f) 27]).kept af ai (aL [O (ae x.f) 27] H 0 _ rfl)
  refine bW 3 c1<|Z 1 (ag 9 aJ aP)<|cS 0 x.f.how 0 ?_ ?_ <;> intro h2 cw
  ·refine Z 2 (ag 10 iI aP)<|cS 1 (x.f.nn:Int) 0 ?_ ?_ <;> intro h3 dv
   ·refine Z 7 (ag 10 iI aP)<|aO 1 ((x.f.nn:Int)≤16) ?_ ?_ <;> intro h4 dT
    ·exact al 2 aN H1 (congrArg Value.bool (KU cM D).symm)
    exact al 2 Y H1 (congrArg Value.bool (zS (.inr D)).symm)
   exact Z 3 (ag 9 aJ aP)<|aH 0 (beq_eq_false_iff_ne.2 D:(x.f.how==1)=false)<|Z 3 (ag 9 aJ aP)<|aH 0 (beq_eq_false_iff_ne.2 D:(x.f.how==2)=false)<|al 4 Y H1 (congrArg Value.bool (zS (.inr D)).symm)
  refine Z 4 (ag 9 aJ aP)<|cS 0 x.f.how 1 ?_ ?_ <;> intro h3 dv
  ·refine Z 5 (ag 10 iI aP)<|aO 1 ((x.f.nn:Int)≤16) ?_ ?_ <;> intro h4 dT
   ·exact al 2 aN H1 (congrArg Value.bool (KU cM D).symm)
   exact al 2 Y H1 (congrArg Value.bool (zS (.inr D)).symm)
  refine Z 3 (ag 9 aJ aP)<|cS 0 x.f.how 2 ?_ ?_ <;> intro h4 dT
  ·refine Z 3 (ag 10 iI aP)<|aO 1 ((x.f.nn:Int)≤16) ?_ ?_ <;> intro h5 ff
   ·exact al 2 aN H1 (congrArg Value.bool (KU cM D).symm)
   exact al 2 Y H1 (congrArg Value.bool (zS (.inr D)).symm)
  exact al 4 Y H1 (congrArg Value.bool (zS (.inr D)).symm)
 exact bW 3 c1<|al 0 Y H1 (congrArg Value.bool (zS (.inl cM)).symm)
noncomputable def Xf:Code:=cN [1,1,0,1,0,0] (cH Tryz.f27)
noncomputable abbrev io (f:dZ) pm nm bj bf nn bg pk an ak:=([J f.k,J f.op,ax f.v,.string f.s,.slice pm nm bj,J f.wide,J f.off,.bool f.ha,J f.at_,J f.how,.slice bf nn bg,.bool f.fk,.slice pk an ak]:List Value)
theorem G5 (x:aw) (X:U) (hx:aa E G X) (a:dG X x) (f:dZ) (pm:Option Addr) (nm:Nat) (bj:Nat) (bf:Option Addr) (nn:Nat) (bg:Nat) (pk:Option Addr) (an:Nat) (ak:Nat) (sm:(pm=x.f.pm∧nm=x.f.nm)∨nm=0) (ba:Nat) (bw:Nat):∀(m:Nat) (aE:Int) (H:U),aa E X H→(ka:H.get ba=some (O (io f pm nm bj bf nn bg pk an ak) 27))→(kb:H.get bw=some (O (ae x.f) 27))→(x0:0≤aE)→((nm:Int)-aE).toNat=m→
  cy E X 158 Xf [(2,pt ba 0),(3,pt bw 0),(5,J aE)] H [] (fun eI T H'=>(eI=(.exit 0)∧T=bl [(2,pt ba 0),(3,pt bw 0)])):=by
 refine d8 fun m ih=>?_
 intro aE H y ka kb x0 hm
 have bd:=a.bm
 refine c9 y ?_
 refine Z 2 (ag 4 jI ka)<|aO 1 (aE<(nm:Int)) ?_ ?_ <;> intro h1 q1
 ·obtain ⟨rfl,rfl⟩:=sm.resolve_right D
  obtain ⟨d1,jC,t1,eE,dh⟩:=a.wx.open D
  have eG:=hx.wf.lt dh
  obtain ⟨au,m2⟩:=a.xQ (i:=aE.toNat) D
  exact Z 1 (ag 4 jI ka)<|et 1 H (gz tg qo eE D D:fE E 23 (.slice x.f.pm x.f.nm bj) (J aE)=some (pt d1 (0+aE.toNat*3)))<|Z 0 (zP A7 qo (y.cell dh eG) m2 D:ay E 39 d1 (0+aE.toNat*3) H=some (.agg #[J au.1,.string au.2.1,.string au.2.2]))<|Z 1 (ag 4 jI kb)<|et 1 H (gz tg qo eE D D:fE E 23 (.slice x.f.pm x.f.nm x.f.bj) (J aE)=some (pt d1 (0+aE.toNat*3)))<|Z 0 (zP A7 qo (y.cell dh eG) m2 D:ay E 39 d1 (0+aE.toNat*3) H=some (.agg #[J au.1,.string au.2.1,.string au.2.2]))<|aj [dP Y H] (acQ au.1 au.2.1 au.2.2)<|ap 1 (aE+1)<|dU 1 [(2,pt ba 0),(3,pt bw 0),(5,J (aE+1))] H (ih _ D (aE+1) _ y ka kb D rfl)
 exact dF 0 [(2,pt ba 0),(3,pt bw 0)] (.exit 0) H ⟨rfl,rfl⟩
noncomputable def Xg:Code:=cN [1,1,1,0,1,0,0] (cH Tryz.f27)
theorem G6 (x:aw) (X:U) (hx:aa E G X) (a:dG X x) (f:dZ) (pm:Option Addr) (nm:Nat) (bj:Nat) (bf:Option Addr) (nn:Nat) (bg:Nat) (pk:Option Addr) (an:Nat) (ak:Nat) (AC:(bf=x.f.bf∧nn=x.f.nn)∨nn=0) (ba:Nat) (bw:Nat):∀(m:Nat) (dM:Int) (H:U),aa E X H→(ka:H.get ba=some (O (io f pm nm bj bf nn bg pk an ak) 27))→(kb:H.get bw=some (O (ae x.f) 27))→(x0:0≤dM)→((nn:Int)-dM).toNat=m→
  cy E X 158 Xg [(2,pt ba 0),(3,pt bw 0),(6,J dM)] H [] (fun eI T H'=>(eI=(.exit 2)∧T=bl [(2,pt ba 0),(3,pt bw 0)])):=by
 refine d8 fun m ih=>?_
 intro dM H y ka kb x0 hm
 have bd:=a.fm
 refine c9 y ?_
 refine Z 2 (ag 10 iI ka)<|aO 1 (dM<(nn:Int)) ?_ ?_ <;> intro h1 q1
 ·obtain ⟨rfl,rfl⟩:=AC.resolve_right D
  obtain ⟨d1,jC,t1,eE,dh⟩:=a.rn.open D
  have eG:=hx.wf.lt dh
  obtain ⟨au,m2⟩:=a.FK (i:=dM.toNat) D
  have w1:(!(au.toList==au.toList))=false:=(by rw [beq_self_eq_true];rfl)
  exact Z 1 (ag 10 iI ka)<|et 1 H (gz Dx oW eE D D:fE E 24 (.slice x.f.bf x.f.nn bg) (J dM)=some (pt d1 (0+dM.toNat*1)))<|Z 0 (CU ct (y.cell dh eG) m2 D:ay E 9 d1 (0+dM.toNat*1) H=some (.string au))<|Z 1 (ag 10 iI kb)<|et 1 H (gz Dx oW eE D D:fE E 24 (.slice x.f.bf x.f.nn x.f.bg) (J dM)=some (pt d1 (0+dM.toNat*1)))<|Z 0 (CU ct (y.cell dh eG) m2 D:ay E 9 d1 (0+dM.toNat*1) H=some (.string au))<|aH 0 w1<|ap 1 (dM+1)<|dU 1 [(2,pt ba 0),(3,pt bw 0),(6,J (dM+1))] H (ih _ D (dM+1) _ y ka kb D rfl)
 exact dF 0 [(2,pt ba 0),(3,pt bw 0)] (.exit 2) H ⟨rfl,rfl⟩
noncomputable def Xe:Code:=cN [1,1,1,1,0,1,0,0] (cH Tryz.f27)
theorem G4 (x:aw) (X:U) (hx:aa E G X) (a:dG X x) (f:dZ) (pm:Option Addr) (nm:Nat) (bj:Nat) (bf:Option Addr) (nn:Nat) (bg:Nat) (pk:Option Addr) (an:Nat) (ak:Nat) (Az:(pk=x.f.pk∧an=x.f.an)∨an=0) (gr:∀ k∈x.kids,∀{H:U},aa E X H→aI E X 27 [.agg (ae k.f).toArray,.agg (ae k.f).toArray] H [] (fun v _=>v=aN)) (ba:Nat) (bw:Nat):∀(m:Nat) (jb:Int) (H:U),aa E X H→(ka:H.get ba=some (O (io f pm nm bj bf nn bg pk an ak) 27))→(kb:H.get bw=some (O (ae x.f) 27))→(x0:0≤jb)→((an:Int)-jb).toNat=m→
  cy E X 158 Xe [(2,pt ba 0),(3,pt bw 0),(7,J jb)] H [] (fun eI T H'=>(eI=(.exit 4)∧T=bl [])):=by
 refine d8 fun m ih=>?_
 intro jb H y ka kb x0 hm
 have bd:=a.lL
 refine c9 y ?_
 refine Z 2 (ag 12 dK ka)<|aO 1 (jb<(an:Int)) ?_ ?_ <;> intro h1 q1
 ·obtain ⟨rfl,rfl⟩:=Az.resolve_right D
  obtain ⟨d1,jC,t1,eE,dh⟩:=a.rk.open D
  have eG:=hx.wf.lt dh
  obtain ⟨au,m2⟩:=a.ua (i:=jb.toNat) D
  obtain ⟨_,H1,c1,af,y1,rfl⟩:=gr au (lb m2) y
  have abf:=y.kept af ai ka
  have fz:=y.kept af ai kb
  exact Z 1 (ag 12 dK ka)<|et 1 H (gz jS bH eE D D:fE E 25 (.slice x.f.pk x.f.an ak) (J jb)=some (pt d1 (0+jb.toNat*13)))<|Z 0 (kR cv bH (y.cell dh eG) m2 D:ay E 27 d1 (0+jb.toNat*13) H=some (.agg (ae au.f).toArray))<|Z 1 (ag 12 dK kb)<|et 1 H (gz jS bH eE D D:fE E 25 (.slice x.f.pk x.f.an x.f.ak) (J jb)=some (pt d1 (0+jb.toNat*13)))<|Z 0 (kR cv bH (y.cell dh eG) m2 D:ay E 27 d1 (0+jb.toNat*13) H=some (.agg (ae au.f).toArray))<|ad 0 c1<|ap 2 (jb+1)<|dU 1 [(2,pt ba 0),(3,pt bw 0),(7,J (jb+1))] H1 (ih _ D (jb+1) _ y1 abf fz D rfl)
 exact dF 0 [] (.exit 4) H ⟨rfl,rfl⟩
noncomputable abbrev da H (f:dZ) pm nm bj bf nn bg pk an ak (x:aw):=news H [O (io f pm nm bj bf nn bg pk an ak) 27,O (ae x.f) 27]
theorem td (x:aw) (X:U) (hx:aa E G X) (a:dG X x) (f:dZ) (pm:Option Addr) (nm:Nat) (bj:Nat) (bf:Option Addr) (nn:Nat) (bg:Nat) (pk:Option Addr) (an:Nat) (ak:Nat) {H:U} (y:aa E X H) (sm:(pm=x.f.pm∧nm=x.f.nm)∨nm=0) (AC:(bf=x.f.bf∧nn=x.f.nn)∨nn=0) (Az:(pk=x.f.pk∧an=x.f.an)∨an=0) (gr:∀ k∈x.kids,∀{H:U},aa E X H→aI E X 27 [.agg (ae k.f).toArray,.agg (ae k.f).toArray] H [] (fun v _=>v=aN)):aI E X 27 [.agg (io f pm nm bj bf nn bg pk an ak).toArray,.agg (ae x.f).toArray] H [] (fun v H'=>v=.bool (gB ({ f with pm:=pm,nm:=nm,bj:=bj,bf:=bf,nn:=nn,bg:=bg,pk:=pk,an:=an,ak:=ak }) x.f)):=by
 refine br Tryz.f27 y ?_
 refine Z 4 (aR (da H f pm nm bj bf nn bg pk an ak x) 0 0 aJ)<|Z 1 (aR (da H f pm nm bj bf nn bg pk an ak x) 1 0 aJ)<|iD 0 f.k x.f.k ?_ ?_ <;> intro h1 q1
 ·exact al 25 Y (da H f pm nm bj bf nn bg pk an ak x) (by rw [gB,h1] <;> rfl)
 refine Z 2 (aR (da H f pm nm bj bf nn bg pk an ak x) 0 1 aJ)<|Z 1 (aR (da H f pm nm bj bf nn bg pk an ak x) 1 1 aJ)<|iD 0 f.op x.f.op ?_ ?_ <;> intro h2 cw
 ·exact al 24 Y (da H f pm nm bj bf nn bg pk an ak x) (by rw [gB,h1,h2] <;> rfl)
 refine Z 3 (aR (da H f pm nm bj bf nn bg pk an ak x) 0 2 jH)<|Z 1 (aR (da H f pm nm bj bf nn bg pk an ak x) 1 2 jH)<|iD 0 f.v x.f.v ?_ ?_ <;> intro h3 dv
 ·exact al 22 Y (da H f pm nm bj bf nn bg pk an ak x) (by rw [gB,h1,h2,h3] <;> rfl)
 refine Z 3 (aR (da H f pm nm bj bf nn bg pk an ak x) 0 3 ct)<|Z 1 (aR (da H f pm nm bj bf nn bg pk an ak x) 1 3 ct)<|oS 0 (!(f.s.toList==x.f.s.toList)) (fun h4=>?_) fun h4=>?_
 ·exact al 20 Y (da H f pm nm bj bf nn bg pk an ak x) (by rw [gB,h1,h2,h3,h4] <;> rfl)
 refine Z 3 (aR (da H f pm nm bj bf nn bg pk an ak x) 0 4 jI)<|Z 2 (aR (da H f pm nm bj bf nn bg pk an ak x) 1 4 jI)<|iD 1 (nm:Int) (x.f.nm:Int) ?_ ?_ <;> intro h5 ff
 ·exact al 18 Y (da H f pm nm bj bf nn bg pk an ak x) (by rw [gB,h1,h2,h3,h4,h5] <;> rfl)
 refine Z 3 (aR (da H f pm nm bj bf nn bg pk an ak x) 0 5 dX)<|Z 1 (aR (da H f pm nm bj bf nn bg pk an ak x) 1 5 dX)<|iD 0 f.wide x.f.wide ?_ ?_ <;> intro h6 e7
 ·exact al 16 Y (da H f pm nm bj bf nn bg pk an ak x) (by rw [gB,h1,h2,h3,h4,h5,h6] <;> rfl)
 refine Z 3 (aR (da H f pm nm bj bf nn bg pk an ak x) 0 6 dX)<|Z 1 (aR (da H f pm nm bj bf nn bg pk an ak x) 1 6 dX)<|iD 0 f.off x.f.off ?_ ?_ <;> intro h7 mR
 ·exact al 14 Y (da H f pm nm bj bf nn bg pk an ak x) (by rw [gB,h1,h2,h3,h4,h5,h6,h7] <;> rfl)
 refine aK [aB 2]<|?_
 rcases ep f.ha with h8 |h8
 ·refine aj [dP aN (da H f pm nm bj bf nn bg pk an ak x)] ((aR (da H f pm nm bj bf nn bg pk an ak x) 0 7 gV).trans (congrArg (fun q=>some (Value.bool q)) h8))<|aK [aB 0]<|?_
  rcases ep x.f.ha with h9 |h9
  ·refine aj [dP aN (da H f pm nm bj bf nn bg pk an ak x)] ((aR (da H f pm nm bj bf nn bg pk an ak x) 1 7 gV).trans (congrArg (fun q=>some (Value.bool q)) h9))<|Z 4 (aR (da H f pm nm bj bf nn bg pk an ak x) 0 8 dX)<|Z 1 (aR (da H f pm nm bj bf nn bg pk an ak x) 1 8 dX)<|iD 0 f.at_ x.f.at_ ?_ ?_ <;> intro h10 Ag
   ·exact al 10 Y (da H f pm nm bj bf nn bg pk an ak x) (by rw [gB,h1,h2,h3,h4,h5,h6,h7,h8,h9,h10] <;> rfl)
   refine Z 3 (aR (da H f pm nm bj bf nn bg pk an ak x) 0 9 aJ)<|Z 1 (aR (da H f pm nm bj bf nn bg pk an ak x) 1 9 aJ)<|iD 0 f.how x.f.how ?_ ?_ <;> intro h11 LK
   ·exact al 8 Y (da H f pm nm bj bf nn bg pk an ak x) (by rw [gB,h1,h2,h3,h4,h5,h6,h7,h8,h9,h10,h11] <;> rfl)
   refine Z 3 (aR (da H f pm nm bj bf nn bg pk an ak x) 0 10 iI)<|Z 2 (aR (da H f pm nm bj bf nn bg pk an ak x) 1 10 iI)<|iD 1 (nn:Int) (x.f.nn:Int) ?_ ?_ <;> intro h12 Ah
   ·exact al 6 Y (da H f pm nm bj bf nn bg pk an ak x) (by rw [gB,h1,h2,h3,h4,h5,h6,h7,h8,h9,h10,h11,h12] <;> rfl)
   refine aK [aB 2]<|?_
   rcases ep f.fk with lV |lV
   ·refine aj [dP aN (da H f pm nm bj bf nn bg pk an ak x)] ((aR (da H f pm nm bj bf nn bg pk an ak x) 0 11 gV).trans (congrArg (fun q=>some (Value.bool q)) lV))<|aK [aB 0]<|?_
    rcases ep x.f.fk with jo |jo
    ·refine aj [dP aN (da H f pm nm bj bf nn bg pk an ak x)] ((aR (da H f pm nm bj bf nn bg pk an ak x) 1 11 gV).trans (congrArg (fun q=>some (Value.bool q)) jo))<|Z 4 (aR (da H f pm nm bj bf nn bg pk an ak x) 0 12 dK)<|Z 2 (aR (da H f pm nm bj bf nn bg pk an ak x) 1 12 dK)<|iD 1 (an:Int) (x.f.an:Int) ?_ ?_ <;> intro rm LL
     ·exact al 2 Y (da H f pm nm bj bf nn bg pk an ak x) (by rw [gB,h1,h2,h3,h4,h5,h6,h7,h8,h9,h10,h11,h12,lV,jo,rm] <;> rfl)
     obtain ⟨_,_,H1,c1,af,y1,rfl,rfl⟩:=(G5 x X hx a f pm nm bj bf nn bg pk an ak sm (H.n+0) (H.n+1) _ 0 _ (y.news [O (io f pm nm bj bf nn bg pk an ak) 27,O (ae x.f) 27]) (aL [O (io f pm nm bj bf nn bg pk an ak) 27,O (ae x.f) 27] H 0 _ rfl) (aL [O (io f pm nm bj bf nn bg pk an ak) 27,O (ae x.f) 27] H 1 _ rfl) D rfl).code
     have aP:=(y.news [O (io f pm nm bj bf nn bg pk an ak) 27,O (ae x.f) 27]).kept af ai (aL [O (io f pm nm bj bf nn bg pk an ak) 27,O (ae x.f) 27] H 0 _ rfl)
     have jg:=(y.news [O (io f pm nm bj bf nn bg pk an ak) 27,O (ae x.f) 27]).kept af ai (aL [O (io f pm nm bj bf nn bg pk an ak) 27,O (ae x.f) 27] H 1 _ rfl)
     obtain ⟨_,_,H2,c2,ar,ah,rfl,rfl⟩:=(G6 x X hx a f pm nm bj bf nn bg pk an ak AC (H.n+0) (H.n+1) _ 0 _ y1 aP jg D rfl).code
     have cL:=y1.kept ar ai aP
     have sO:=y1.kept ar ai jg
     obtain ⟨_,_,H3,c3,aW,az,rfl,rfl⟩:=(G4 x X hx a f pm nm bj bf nn bg pk an ak Az gr (H.n+0) (H.n+1) _ 0 _ ah cL sO D rfl).code
     exact bW 2 c1<|bW 1 c2<|bW 1 c3<|al 1 aN H3 (by rw [gB,h1,h2,h3,h4,h5,h6,h7,h8,h9,h10,h11,h12,lV,jo,rm] <;> rfl)
    exact aj [dP Y (da H f pm nm bj bf nn bg pk an ak x)] ((aR (da H f pm nm bj bf nn bg pk an ak x) 1 11 gV).trans (congrArg (fun q=>some (Value.bool q)) jo))<|al 5 Y (da H f pm nm bj bf nn bg pk an ak x) (by rw [gB,h1,h2,h3,h4,h5,h6,h7,h8,h9,h10,h11,h12,lV,jo] <;> rfl)
   refine aj [dP Y (da H f pm nm bj bf nn bg pk an ak x)] ((aR (da H f pm nm bj bf nn bg pk an ak x) 0 11 gV).trans (congrArg (fun q=>some (Value.bool q)) lV))<|aK [aB 0]<|?_
   rcases ep x.f.fk with jo |jo
   ·exact aj [dP aN (da H f pm nm bj bf nn bg pk an ak x)] ((aR (da H f pm nm bj bf nn bg pk an ak x) 1 11 gV).trans (congrArg (fun q=>some (Value.bool q)) jo))<|al 5 Y (da H f pm nm bj bf nn bg pk an ak x) (by rw [gB,h1,h2,h3,h4,h5,h6,h7,h8,h9,h10,h11,h12,lV,jo] <;> rfl)
   refine aj [dP Y (da H f pm nm bj bf nn bg pk an ak x)] ((aR (da H f pm nm bj bf nn bg pk an ak x) 1 11 gV).trans (congrArg (fun q=>some (Value.bool q)) jo))<|Z 4 (aR (da H f pm nm bj bf nn bg pk an ak x) 0 12 dK)<|Z 2 (aR (da H f pm nm bj bf nn bg pk an ak x) 1 12 dK)<|iD 1 (an:Int) (x.f.an:Int) ?_ ?_ <;> intro rm LL
   ·exact al 2 Y (da H f pm nm bj bf nn bg pk an ak x) (by rw [gB,h1,h2,h3,h4,h5,h6,h7,h8,h9,h10,h11,h12,lV,jo,rm] <;> rfl)
   obtain ⟨_,_,H1,c1,af,y1,rfl,rfl⟩:=(G5 x X hx a f pm nm bj bf nn bg pk an ak sm (H.n+0) (H.n+1) _ 0 _ (y.news [O (io f pm nm bj bf nn bg pk an ak) 27,O (ae x.f) 27]) (aL [O (io f pm nm bj bf nn bg pk an ak) 27,O (ae x.f) 27] H 0 _ rfl) (aL [O (io f pm nm bj bf nn bg pk an ak) 27,O (ae x.f) 27] H 1 _ rfl) D rfl).code
   have aP:=(y.news [O (io f pm nm bj bf nn bg pk an ak) 27,O (ae x.f) 27]).kept af ai (aL [O (io f pm nm bj bf nn bg pk an ak) 27,O (ae x.f) 27] H 0 _ rfl)
   have jg:=(y.news [O (io f pm nm bj bf nn bg pk an ak) 27,O (ae x.f) 27]).kept af ai (aL [O (io f pm nm bj bf nn bg pk an ak) 27,O (ae x.f) 27] H 1 _ rfl)
   obtain ⟨_,_,H2,c2,ar,ah,rfl,rfl⟩:=(G6 x X hx a f pm nm bj bf nn bg pk an ak AC (H.n+0) (H.n+1) _ 0 _ y1 aP jg D rfl).code
   have cL:=y1.kept ar ai aP
   have sO:=y1.kept ar ai jg
   obtain ⟨_,_,H3,c3,aW,az,rfl,rfl⟩:=(G4 x X hx a f pm nm bj bf nn bg pk an ak Az gr (H.n+0) (H.n+1) _ 0 _ ah cL sO D rfl).code
   exact bW 2 c1<|bW 1 c2<|bW 1 c3<|al 1 aN H3 (by rw [gB,h1,h2,h3,h4,h5,h6,h7,h8,h9,h10,h11,h12,lV,jo,rm] <;> rfl)
  exact aj [dP Y (da H f pm nm bj bf nn bg pk an ak x)] ((aR (da H f pm nm bj bf nn bg pk an ak x) 1 7 gV).trans (congrArg (fun q=>some (Value.bool q)) h9))<|al 13 Y (da H f pm nm bj bf nn bg pk an ak x) (by rw [gB,h1,h2,h3,h4,h5,h6,h7,h8,h9] <;> rfl)
 refine aj [dP Y (da H f pm nm bj bf nn bg pk an ak x)] ((aR (da H f pm nm bj bf nn bg pk an ak x) 0 7 gV).trans (congrArg (fun q=>some (Value.bool q)) h8))<|aK [aB 0]<|?_
 rcases ep x.f.ha with h9 |h9
 ·exact aj [dP aN (da H f pm nm bj bf nn bg pk an ak x)] ((aR (da H f pm nm bj bf nn bg pk an ak x) 1 7 gV).trans (congrArg (fun q=>some (Value.bool q)) h9))<|al 13 Y (da H f pm nm bj bf nn bg pk an ak x) (by rw [gB,h1,h2,h3,h4,h5,h6,h7,h8,h9] <;> rfl)
 refine aj [dP Y (da H f pm nm bj bf nn bg pk an ak x)] ((aR (da H f pm nm bj bf nn bg pk an ak x) 1 7 gV).trans (congrArg (fun q=>some (Value.bool q)) h9))<|Z 4 (aR (da H f pm nm bj bf nn bg pk an ak x) 0 8 dX)<|Z 1 (aR (da H f pm nm bj bf nn bg pk an ak x) 1 8 dX)<|iD 0 f.at_ x.f.at_ ?_ ?_ <;> intro h10 Ag
 ·exact al 10 Y (da H f pm nm bj bf nn bg pk an ak x) (by rw [gB,h1,h2,h3,h4,h5,h6,h7,h8,h9,h10] <;> rfl)
 refine Z 3 (aR (da H f pm nm bj bf nn bg pk an ak x) 0 9 aJ)<|Z 1 (aR (da H f pm nm bj bf nn bg pk an ak x) 1 9 aJ)<|iD 0 f.how x.f.how ?_ ?_ <;> intro h11 LK
 ·exact al 8 Y (da H f pm nm bj bf nn bg pk an ak x) (by rw [gB,h1,h2,h3,h4,h5,h6,h7,h8,h9,h10,h11] <;> rfl)
 refine Z 3 (aR (da H f pm nm bj bf nn bg pk an ak x) 0 10 iI)<|Z 2 (aR (da H f pm nm bj bf nn bg pk an ak x) 1 10 iI)<|iD 1 (nn:Int) (x.f.nn:Int) ?_ ?_ <;> intro h12 Ah
 ·exact al 6 Y (da H f pm nm bj bf nn bg pk an ak x) (by rw [gB,h1,h2,h3,h4,h5,h6,h7,h8,h9,h10,h11,h12] <;> rfl)
 refine aK [aB 2]<|?_
 rcases ep f.fk with lV |lV
 ·refine aj [dP aN (da H f pm nm bj bf nn bg pk an ak x)] ((aR (da H f pm nm bj bf nn bg pk an ak x) 0 11 gV).trans (congrArg (fun q=>some (Value.bool q)) lV))<|aK [aB 0]<|?_
  rcases ep x.f.fk with jo |jo
  ·refine aj [dP aN (da H f pm nm bj bf nn bg pk an ak x)] ((aR (da H f pm nm bj bf nn bg pk an ak x) 1 11 gV).trans (congrArg (fun q=>some (Value.bool q)) jo))<|Z 4 (aR (da H f pm nm bj bf nn bg pk an ak x) 0 12 dK)<|Z 2 (aR (da H f pm nm bj bf nn bg pk an ak x) 1 12 dK)<|iD 1 (an:Int) (x.f.an:Int) ?_ ?_ <;> intro rm LL
   ·exact al 2 Y (da H f pm nm bj bf nn bg pk an ak x) (by rw [gB,h1,h2,h3,h4,h5,h6,h7,h8,h9,h10,h11,h12,lV,jo,rm] <;> rfl)
   obtain ⟨_,_,H1,c1,af,y1,rfl,rfl⟩:=(G5 x X hx a f pm nm bj bf nn bg pk an ak sm (H.n+0) (H.n+1) _ 0 _ (y.news [O (io f pm nm bj bf nn bg pk an ak) 27,O (ae x.f) 27]) (aL [O (io f pm nm bj bf nn bg pk an ak) 27,O (ae x.f) 27] H 0 _ rfl) (aL [O (io f pm nm bj bf nn bg pk an ak) 27,O (ae x.f) 27] H 1 _ rfl) D rfl).code
   have aP:=(y.news [O (io f pm nm bj bf nn bg pk an ak) 27,O (ae x.f) 27]).kept af ai (aL [O (io f pm nm bj bf nn bg pk an ak) 27,O (ae x.f) 27] H 0 _ rfl)
   have jg:=(y.news [O (io f pm nm bj bf nn bg pk an ak) 27,O (ae x.f) 27]).kept af ai (aL [O (io f pm nm bj bf nn bg pk an ak) 27,O (ae x.f) 27] H 1 _ rfl)
   obtain ⟨_,_,H2,c2,ar,ah,rfl,rfl⟩:=(G6 x X hx a f pm nm bj bf nn bg pk an ak AC (H.n+0) (H.n+1) _ 0 _ y1 aP jg D rfl).code
   have cL:=y1.kept ar ai aP
   have sO:=y1.kept ar ai jg
   obtain ⟨_,_,H3,c3,aW,az,rfl,rfl⟩:=(G4 x X hx a f pm nm bj bf nn bg pk an ak Az gr (H.n+0) (H.n+1) _ 0 _ ah cL sO D rfl).code
   exact bW 2 c1<|bW 1 c2<|bW 1 c3<|al 1 aN H3 (by rw [gB,h1,h2,h3,h4,h5,h6,h7,h8,h9,h10,h11,h12,lV,jo,rm] <;> rfl)
  exact aj [dP Y (da H f pm nm bj bf nn bg pk an ak x)] ((aR (da H f pm nm bj bf nn bg pk an ak x) 1 11 gV).trans (congrArg (fun q=>some (Value.bool q)) jo))<|al 5 Y (da H f pm nm bj bf nn bg pk an ak x) (by rw [gB,h1,h2,h3,h4,h5,h6,h7,h8,h9,h10,h11,h12,lV,jo] <;> rfl)
 refine aj [dP Y (da H f pm nm bj bf nn bg pk an ak x)] ((aR (da H f pm nm bj bf nn bg pk an ak x) 0 11 gV).trans (congrArg (fun q=>some (Value.bool q)) lV))<|aK [aB 0]<|?_
 rcases ep x.f.fk with jo |jo
 ·exact aj [dP aN (da H f pm nm bj bf nn bg pk an ak x)] ((aR (da H f pm nm bj bf nn bg pk an ak x) 1 11 gV).trans (congrArg (fun q=>some (Value.bool q)) jo))<|al 5 Y (da H f pm nm bj bf nn bg pk an ak x) (by rw [gB,h1,h2,h3,h4,h5,h6,h7,h8,h9,h10,h11,h12,lV,jo] <;> rfl)
 refine aj [dP Y (da H f pm nm bj bf nn bg pk an ak x)] ((aR (da H f pm nm bj bf nn bg pk an ak x) 1 11 gV).trans (congrArg (fun q=>some (Value.bool q)) jo))<|Z 4 (aR (da H f pm nm bj bf nn bg pk an ak x) 0 12 dK)<|Z 2 (aR (da H f pm nm bj bf nn bg pk an ak x) 1 12 dK)<|iD 1 (an:Int) (x.f.an:Int) ?_ ?_ <;> intro rm LL
 ·exact al 2 Y (da H f pm nm bj bf nn bg pk an ak x) (by rw [gB,h1,h2,h3,h4,h5,h6,h7,h8,h9,h10,h11,h12,lV,jo,rm] <;> rfl)
 obtain ⟨_,_,H1,c1,af,y1,rfl,rfl⟩:=(G5 x X hx a f pm nm bj bf nn bg pk an ak sm (H.n+0) (H.n+1) _ 0 _ (y.news [O (io f pm nm bj bf nn bg pk an ak) 27,O (ae x.f) 27]) (aL [O (io f pm nm bj bf nn bg pk an ak) 27,O (ae x.f) 27] H 0 _ rfl) (aL [O (io f pm nm bj bf nn bg pk an ak) 27,O (ae x.f) 27] H 1 _ rfl) D rfl).code
 have aP:=(y.news [O (io f pm nm bj bf nn bg pk an ak) 27,O (ae x.f) 27]).kept af ai (aL [O (io f pm nm bj bf nn bg pk an ak) 27,O (ae x.f) 27] H 0 _ rfl)
 have jg:=(y.news [O (io f pm nm bj bf nn bg pk an ak) 27,O (ae x.f) 27]).kept af ai (aL [O (io f pm nm bj bf nn bg pk an ak) 27,O (ae x.f) 27] H 1 _ rfl)
 obtain ⟨_,_,H2,c2,ar,ah,rfl,rfl⟩:=(G6 x X hx a f pm nm bj bf nn bg pk an ak AC (H.n+0) (H.n+1) _ 0 _ y1 aP jg D rfl).code
 have cL:=y1.kept ar ai aP
 have sO:=y1.kept ar ai jg
 obtain ⟨_,_,H3,c3,aW,az,rfl,rfl⟩:=(G4 x X hx a f pm nm bj bf nn bg pk an ak Az gr (H.n+0) (H.n+1) _ 0 _ ah cL sO D rfl).code
 exact bW 2 c1<|bW 1 c2<|bW 1 c3<|al 1 aN H3 (by rw [gB,h1,h2,h3,h4,h5,h6,h7,h8,h9,h10,h11,h12,lV,jo,rm] <;> rfl)
theorem QO (m:fS) (l:List fS):ld (m::l)=(!qf m||ld l):=rfl
def uv (f:dZ):dZ:=
 { k:=f.k,op:=bif f.k==6 then f.op else 0,v:=bif f.k==1 then f.v else 0,s:=bif f.k==2||(f.k==3||(f.k==4||f.k==5)) then f.s else ⟨#[]⟩,pm:=bif f.k==3 then f.pm else none,nm:=bif f.k==3 then f.nm else 0,bj:=bif f.k==3 then f.bj else 0,wide:=bif f.k==3 then f.wide else 0,off:=bif f.k==3 then f.off else 0,ha:=bif f.k==3 then f.ha else false,at_:=bif f.k==3 then f.at_ else 0,how:=bif f.k==5||f.k==6 then f.how else 0,bf:=bif f.k==5||f.k==6 then f.bf else none,nn:=bif f.k==5||f.k==6 then f.nn else 0,bg:=bif f.k==5||f.k==6 then f.bg else 0,fk:=bif f.k==6 then f.fk else false,pk:=bif decide (f.k≥4) then f.pk else none,an:=bif decide (f.k≥4) then f.an else 0,ak:=bif decide (f.k≥4) then f.ak else 0 }
theorem aiV {a b:Int}:(!(a != b))=(b==a):=by
 cases e:b==a with
 |true=>rw [pu e];simp
 |false=>simp only [bne,Bool.not_not];rw [beq_eq_false_iff_ne] at e ⊢;exact fun h=>e h.symm
theorem x3 {f:dZ} (h:f.k=1∨f.k=2∨f.k=3∨f.k=4∨f.k=5∨f.k=6∨f.k=7):gB (uv f) f=jd (gF f):=by
 have tl:((⟨#[]⟩:ByteArray).toList==f.s.toList)=(f.s.toList==(⟨#[]⟩:ByteArray).toList):=by rw [Bool.eq_iff_iff,beq_iff_eq,beq_iff_eq];exact eq_comm
 rcases h with h |h |h |h |h |h |h <;>
 ·simp only [gB,uv,jd,gF,h,aiV,Bool.not_not,Int.reduceBEq,cond_true,cond_false,Bool.or_false,Bool.or_true,Bool.true_or,Bool.false_or,beq_self_eq_true,Bool.true_and,Bool.and_true,Int.natCast_zero,tl,Int.reduceLE,ge_iff_le,decide_true,decide_false]
  try (cases f.ha <;> cases f.fk <;> simp)
  try rfl
theorem Gx {f:dZ} (h:f.k=1):gB ⟨f.k,0,f.v,⟨#[]⟩,none,0,0,0,0,false,0,0,none,0,0,false,none,0,0⟩ f=jd (gF f):=by
 rw [← x3 D];congr 1;simp [uv,h]
theorem RD {f:dZ} (h:f.k=2):gB ⟨f.k,0,0,f.s,none,0,0,0,0,false,0,0,none,0,0,false,none,0,0⟩ f=jd (gF f):=by
 rw [← x3 D];congr 1;simp [uv,h]
theorem RE {f:dZ} (h:f.k=3):gB ⟨f.k,0,0,f.s,f.pm,f.nm,f.bj,f.wide,f.off,f.ha,f.at_,0,none,0,0,false,none,0,0⟩ f=jd (gF f):=by
 rw [← x3 D];congr 1;simp [uv,h]
theorem RF {f:dZ} (h:f.k=4):gB ⟨f.k,0,0,f.s,none,0,0,0,0,false,0,0,none,0,0,false,f.pk,f.an,f.ak⟩ f=jd (gF f):=by
 rw [← x3 D];congr 1;simp [uv,h]
theorem RG {f:dZ} (h:f.k=5):gB ⟨f.k,0,0,f.s,none,0,0,0,0,false,0,f.how,f.bf,f.nn,f.bg,false,f.pk,f.an,f.ak⟩ f=jd (gF f):=by
 rw [← x3 D];congr 1;simp [uv,h]
theorem ad0 {f:dZ} (h:f.k=6):gB ⟨f.k,f.op,0,⟨#[]⟩,none,0,0,0,0,false,0,f.how,f.bf,f.nn,f.bg,f.fk,f.pk,f.an,f.ak⟩ f=jd (gF f):=by
 rw [← x3 D];congr 1;simp [uv,h]
theorem RH {f:dZ} (h:f.k=7):gB ⟨f.k,0,0,⟨#[]⟩,none,0,0,0,0,false,0,0,none,0,0,false,f.pk,f.an,f.ak⟩ f=jd (gF f):=by
 rw [← x3 D];congr 1;simp [uv,h]
theorem qi {x:aw} (hk:1≤x.f.k∧x.f.k≤7) (hz:jd (gF x.f)=true) (ha:mA x=true):gK x=true:=by
 rw [gK,hz,ha,decide_eq_false (show ¬ x.f.k<1 by omega),decide_eq_false (show ¬ x.f.k>7 by omega)];rfl
theorem jp {x:aw} (h:¬ (1≤x.f.k∧x.f.k≤7)∨jd (gF x.f)=false∨mA x=false):gK x=false:=by
 rcases h with h |h |h
 ·by_cases h1:x.f.k<1
  ·rw [gK,decide_eq_true h1];rfl
  ·rw [gK,decide_eq_true (show x.f.k>7 by omega),Bool.not_true,Bool.false_and,Bool.and_false]
 ·rw [gK,h,Bool.false_and,Bool.and_false,Bool.and_false]
 ·rw [gK,h,Bool.and_false,Bool.and_false,Bool.and_false]
theorem r0 {x:aw} (h:gK x=true) (hb:jJ x.kids=false):fb x=true:=by rw [i3,h,hb];rfl
theorem jj {x:aw} (h:gK x=false∨jJ x.kids=true):fb x=false:=by
 rcases h with h |h
 ·rw [i3,h,Bool.false_and]
 ·rw [i3,h,Bool.not_true,Bool.and_false]
theorem Rt {x:aw} (hv:0≤x.f.v∧x.f.v<18446744073709551616) (h:x.f.v≤9218868437227405312∨x.f.v=9221120237041090561):qU x=true:=by
 have hf:Int.fdiv x.f.v (2 ^ 63)=0:=by rw [Int.fdiv_eq_ediv_of_nonneg _ D];omega
 have hn:s6 x.f.v=x.f.v:=by
  rw [s6,QZ D]
  rcases h with h |h
  ·rw [decide_eq_false D];rfl
  ·rw [h];rfl
 rw [qU,hf,hn,beq_self_eq_true,beq_self_eq_true,show (x.f.v != 9218868437227405314)=true from by rw [bne_iff_ne];omega];rfl
theorem Rs {x:aw} (hv:0≤x.f.v∧x.f.v<18446744073709551616) (h:¬ (x.f.v≤9218868437227405312∨x.f.v=9221120237041090561)):qU x=false:=by
 cases e:qU x with
 |false=>rfl
 |true=>
  simp only [qU,dI,beq_iff_eq,bne_iff_ne] at e
  obtain ⟨e1,e2,aM⟩:=e
  rw [Int.fdiv_eq_ediv_of_nonneg _ D] at e1
  have hl:x.f.v<9223372036854775808:=D
  rw [s6,QZ D,decide_eq_true D,show (x.f.v != 9218868437227405314)=true from by rw [bne_iff_ne];exact aM] at e2
  exact absurd (.inr e2.symm) h
theorem TF (x:aw):AJ x=lG x.f.s:=by
 show iO 1 ⟨#[97]⟩ x.f.s=_
 rw [iO,KS]
 simp
noncomputable def wm (x:aw):Bool:=
 !((!(x.f.s.toList==(⟨#[]⟩:ByteArray).toList))&&!hU x.f.s)&&(!(decide (((x.f.nm:Nat):Int)>10))&&(!(decide (x.f.wide<0))&&(!(decide (x.f.wide>35184372088832))&&(!(decide (x.f.off<(-35184372088832)))&&(!(decide (x.f.off>35184372088832)) &&
  (!(Int.tmod x.f.at_ 1000 != 0)&&(!(decide (x.f.at_<(-1125899906842624)))&&(!(decide (x.f.at_>1125899906842624))&&!(!x.f.ha&&(x.f.at_ != 0))))))))))
theorem R0 {x:aw} {a b:Bool} (h:a=wm x) (e:b=(a&&!ld (x.ms.drop 0))):ic x=b:=by
 rw [e,h,List.drop_zero,ic,wm];simp only [Bool.and_assoc]
theorem GB {x:aw} (hs:(x.f.s.toList==(⟨#[]⟩:ByteArray).toList)=true∨hU x.f.s=true) (h:(x.f.nm:Int)≤10∧0≤x.f.wide∧x.f.wide≤35184372088832∧-35184372088832≤x.f.off∧x.f.off≤35184372088832∧-1125899906842624≤x.f.at_∧x.f.at_≤1125899906842624)
  (ht:Int.tmod x.f.at_ 1000=0) (ha:x.f.ha=true∨x.f.at_=0):true=wm x:=by
 rw [wm,decide_eq_false (show ¬ (x.f.nm:Int)>10 by omega),decide_eq_false (show ¬ x.f.wide<0 by omega),decide_eq_false (show ¬ x.f.wide>35184372088832 by omega),decide_eq_false (show ¬ x.f.off<(-35184372088832) by omega),
  decide_eq_false (show ¬ x.f.off>35184372088832 by omega),decide_eq_false (show ¬ x.f.at_<(-1125899906842624) by omega),decide_eq_false (show ¬ x.f.at_>1125899906842624 by omega),ht]
 rcases hs with hs |hs <;> rcases ha with ha |ha <;> rw [hs,ha] <;> simp
theorem mc {x:aw} (h:((x.f.s.toList==(⟨#[]⟩:ByteArray).toList)=false∧hU x.f.s=false)∨¬ ((x.f.nm:Int)≤10∧0≤x.f.wide∧x.f.wide≤35184372088832∧-35184372088832≤x.f.off∧x.f.off≤35184372088832∧-1125899906842624≤x.f.at_∧x.f.at_≤1125899906842624)∨
  Int.tmod x.f.at_ 1000≠0∨(x.f.ha=false∧x.f.at_≠0)):false=wm x:=by
 cases e:wm x with
 |false=>rfl
 |true=>
  simp only [wm,dI,Bool.not_eq_true',decide_eq_false_iff_not,Bool.and_eq_false_iff,Bool.not_eq_false',bne_eq_false_iff_eq] at e
  obtain ⟨e1,e2,aM,aG,bS,dO,g8,tI,ajr,zo⟩:=e
  rcases h with h |h |h |h
  ·rcases e1 with e1 |e1
   ·rw [h.1] at e1;cases e1
   ·rw [h.2] at e1;cases e1
  ·exact absurd ⟨D,D,D,D,D,D,D⟩ h
  ·exact absurd g8 h
  ·rcases zo with zo |zo
   ·rw [h.1] at zo;cases zo
   ·exact absurd zo h.2
theorem aex {l:List fS} {i:Nat} {m:fS} {R:Bool} (hm:l[i]?=some m) (h:qf m=true) (hR:(true&&!ld (l.drop i))=R):(true&&!ld (l.drop (i+1)))=R:=by rw [drop_cons hm,QO,h] at hR;exact hR
theorem aew {l:List fS} {i:Nat} {m:fS} {R:Bool} (hm:l[i]?=some m) (h:qf m=false) (hR:(true&&!ld (l.drop i))=R):false=R:=by rw [drop_cons hm,QO,h] at hR;exact hR
theorem aev {l:List fS} {i:Nat} {b R:Bool} (hR:(b&&!ld (l.drop i))=R) (h:l.length≤i):b=R:=by rw [List.drop_of_length_le h] at hR;rw [← hR];cases b <;> rfl
noncomputable def W0:Code:=cN [1,0,1,0,0] (cH Tryz.f14)
theorem afc (x:aw) (X:U) (hx:aa E G X) (a:dG X x) (ih1:∀ k∈x.kids,∀{H:U},aa E X H→aI E X 14 [.agg (ae k.f).toArray] H [] (fun v _=>v=.bool (fb k))) (bw:Nat) (R:Bool):∀(m:Nat) (aD:Int) (H:U),aa E X H→(kb:H.get bw=some (O (ae x.f) 27))→(x0:0≤aD)→(hR:jJ (x.kids.drop aD.toNat)=R)→((x.f.an:Int)-aD).toNat=m→
  cy E X 226 W0 [(1,pt bw 0),(3,J aD)] H [] (fun eI T H'=>(eI=(.exit 0)∧T=bl [(1,pt bw 0)]∧(R=false))∨(eI=.ret∧T=bl [(2,Y)]∧(R=true))):=by
 refine d8 fun m ih=>?_
 intro aD H y kb x0 hR hm
 have lL:=a.lL
 refine c9 y ?_
 refine Z 2 (ag 12 dK kb)<|aO 1 (aD<(x.f.an:Int)) ?_ ?_ <;> intro h1 q1
 ·obtain ⟨d1,jC,t1,eE,dh⟩:=a.rk.open D
  have eG:=hx.wf.lt dh
  obtain ⟨au,m2⟩:=a.ua (i:=aD.toNat) D
  obtain ⟨_,H1,c1,af,y1,b7⟩:=fh (ih1 au (lb m2) y)
  refine Z 1 (ag 12 dK kb)<|et 1 H (gz jS bH eE D D:fE E 25 (.slice x.f.pk x.f.an x.f.ak) (J aD)=some (pt d1 (0+aD.toNat*13)))<|Z 0 (kR cv bH (y.cell dh eG) m2 D:ay E 27 d1 (0+aD.toNat*13) H=some (.agg (ae au.f).toArray))<|?_
  rcases b7 with ⟨rfl,cq⟩ |⟨rfl,cq⟩
  ·have fz:=y.kept af ai kb
   exact ad 0 c1<|ap 2 (aD+1)<|dU 1 [(1,pt bw 0),(3,J (aD+1))] H1 (ih _ D (aD+1) _ y1 fz D (by rw [fR D];exact (vg (F:=jJ) yV m2 hR (Ro cq))) rfl)
  exact ad 0 c1<|dF 2 [(2,Y)] .ret H1 (.inr ⟨rfl,rfl,vf (F:=jJ) yV m2 hR (Rm cq)⟩)
 exact dF 0 [(1,pt bw 0)] (.exit 0) H (.inl ⟨rfl,rfl,ve (F:=jJ) Eg hR (by have:=a.an;omega)⟩)
noncomputable def W7:Code:=cN [1,1,1,1,0,1,0,1,1,1,1,1,0,1,1,1,1,0,0] (cH Tryz.f14)
theorem afm (x:aw) (X:U) (hx:aa E G X) (a:dG X x) (hz:lu x) (bw:Nat) (b4:Nat) (R:Bool):∀(m:Nat) (aE:Bool) (dM:Int) (H:U),aa E X H→(kb:H.get bw=some (O (ae x.f) 27))→(x0:0≤dM)→(hR:(aE&&!ld (x.ms.drop dM.toNat))=R)→((x.f.nm:Int)-dM).toNat=m→
  cy E X 226 W7 [(1,pt bw 0),(4,pt b4 0),(5,.bool aE),(6,J dM)] H [] (fun eI T H'=>(eI=(.exit 3)∧∃(gP:Bool),T=bl [(1,pt bw 0),(4,pt b4 0),(5,.bool gP)]∧(gP=R))):=by
 refine d8 fun m ih=>?_
 intro aE dM H y kb x0 hR hm
 have bm:=a.bm
 refine c9 y ?_
 refine Z 2 (ag 4 jI kb)<|aO 1 (dM<(x.f.nm:Int)) ?_ ?_ <;> intro h1 q1
 ·cases aE with
  |true=>
   obtain ⟨d1,jC,t1,eE,dh⟩:=a.wx.open D
   have eG:=hx.wf.lt dh
   obtain ⟨au,m2⟩:=a.xQ (i:=dM.toNat) D
   refine Z 3 (ag 4 jI kb)<|et 1 H (gz tg qo eE D D:fE E 23 (.slice x.f.pm x.f.nm x.f.bj) (J dM)=some (pt d1 (0+dM.toNat*3)))<|Z 0 (zP A7 qo (y.cell dh eG) m2 D:ay E 39 d1 (0+dM.toNat*3) H=some (.agg #[J au.1,.string au.2.1,.string au.2.2]))<|?_
   cases h3:(qf au) with
   |true=>
    exact ad 0 (c5 h3 (Sm au.1 au.2.1 au.2.2 (hz.ms au (lb m2)) (gg hx y)))<|ap 3 (dM+1)<|dU 1 [(1,pt bw 0),(4,pt b4 0),(5,aN),(6,J (dM+1))] H (ih _ D true (dM+1) _ y kb D (by rw [fR D];exact (aex m2 h3 hR)) rfl)
   |false=>
    exact ad 0 (c5 h3 (Sm au.1 au.2.1 au.2.2 (hz.ms au (lb m2)) (gg hx y)))<|ap 3 (dM+1)<|dU 1 [(1,pt bw 0),(4,pt b4 0),(5,Y),(6,J (dM+1))] H (ih _ D false (dM+1) _ y kb D (by rw [fR D];exact (aew m2 h3 hR)) rfl)
  |false=>
   exact ap 5 (dM+1)<|dU 1 [(1,pt bw 0),(4,pt b4 0),(5,Y),(6,J (dM+1))] H (ih _ D false (dM+1) _ y kb D hR rfl)
 exact dF 0 [(1,pt bw 0),(4,pt b4 0),(5,.bool aE)] (.exit 3) H ⟨rfl,aE,rfl,aev hR (by have:=a.nm;omega)⟩
noncomputable def W8:Code:=cN [1,1,1,1,0,1,0,1,1,1,1,1,0,1,1,0] (cH Tryz.f14)
theorem afn (x:aw) (X:U) (hx:aa E G X) (a:dG X x) (bw:Nat) (b4:Nat)  {H:U} (y:aa E X H) (kb:H.get bw=some (O (ae x.f) 27)) :
  jF E X 226 W8 [(1,pt bw 0),(4,pt b4 0)] H [] (fun eI T H'=>(eI=.normal∧∃(gP:Bool),T=bl [(1,pt bw 0),(4,pt b4 0),(5,.bool gP)]∧(gP=wm x))):=by
 refine nA y ?_
 refine Z 1 (ag 3 ct kb)<|oS 0 (x.f.s.toList==(⟨#[]⟩:ByteArray).toList) (fun h1=>?_) fun h1=>?_
 ·refine Z 4 (ag 4 jI kb)<|aO 1 ((x.f.nm:Int)≤10) ?_ ?_ <;> intro h2 cw
  ·refine Z 3 (ag 5 dX kb)<|aO 0 (x.f.wide≥0) ?_ ?_ <;> intro h3 dv
   ·refine Z 3 (ag 5 dX kb)<|aO 0 (x.f.wide≤35184372088832) ?_ ?_ <;> intro h4 dT
    ·refine Z 3 (ag 6 dX kb)<|aO 0 (x.f.off≥(-35184372088832)) ?_ ?_ <;> intro h5 ff
     ·refine Z 3 (ag 6 dX kb)<|aO 0 (x.f.off≤35184372088832) ?_ ?_ <;> intro h6 e7
      ·refine Z 3 (ag 8 dX kb)<|aO 0 (x.f.at_≥(-1125899906842624)) ?_ ?_ <;> intro h7 mR
       ·refine Z 3 (ag 8 dX kb)<|aO 0 (x.f.at_≤1125899906842624) ?_ ?_ <;> intro h8 x6
        ·refine Z 3 (ag 8 dX kb)<|cS 1 (Int.tmod x.f.at_ 1000) 0 ?_ ?_ <;> intro h9 uw
         ·refine aK [aB 2]<|?_
          rcases ep x.f.ha with h10 |h10
          ·exact aj [dP aN H] ((ag 7 gV kb).trans (congrArg (fun q=>some (Value.bool q)) h10))<|fu 4 [(1,pt bw 0),(4,pt b4 0),(5,aN)] .normal H ⟨rfl,true,rfl,GB (by first |exact .inl h1 |exact .inr h1) D (by first |assumption |omega) (by first |exact .inl (by assumption) |exact .inr D)⟩
          refine aj [dP Y H] ((ag 7 gV kb).trans (congrArg (fun q=>some (Value.bool q)) h10))<|Z 2 (ag 8 dX kb)<|cS 0 x.f.at_ 0 ?_ ?_ <;> intro h11 LK
          ·exact fu 3 [(1,pt bw 0),(4,pt b4 0),(5,aN)] .normal H ⟨rfl,true,rfl,GB (by first |exact .inl h1 |exact .inr h1) D (by first |assumption |omega) (by first |exact .inl (by assumption) |exact .inr D)⟩
          exact fu 3 [(1,pt bw 0),(4,pt b4 0),(5,Y)] .normal H ⟨rfl,false,rfl,mc (by first |exact .inl ⟨by assumption,by assumption⟩ |exact .inr (.inl D) |exact .inr (.inr (.inl (by assumption))) |exact .inr (.inr (.inr ⟨by assumption,by first |assumption |omega⟩)))⟩
         exact fu 4 [(1,pt bw 0),(4,pt b4 0),(5,Y)] .normal H ⟨rfl,false,rfl,mc (by first |exact .inl ⟨by assumption,by assumption⟩ |exact .inr (.inl D) |exact .inr (.inr (.inl (by assumption))) |exact .inr (.inr (.inr ⟨by assumption,by first |assumption |omega⟩)))⟩
        exact fu 6 [(1,pt bw 0),(4,pt b4 0),(5,Y)] .normal H ⟨rfl,false,rfl,mc (by first |exact .inl ⟨by assumption,by assumption⟩ |exact .inr (.inl D) |exact .inr (.inr (.inl (by assumption))) |exact .inr (.inr (.inr ⟨by assumption,by first |assumption |omega⟩)))⟩
       exact fu 8 [(1,pt bw 0),(4,pt b4 0),(5,Y)] .normal H ⟨rfl,false,rfl,mc (by first |exact .inl ⟨by assumption,by assumption⟩ |exact .inr (.inl D) |exact .inr (.inr (.inl (by assumption))) |exact .inr (.inr (.inr ⟨by assumption,by first |assumption |omega⟩)))⟩
      exact fu 10 [(1,pt bw 0),(4,pt b4 0),(5,Y)] .normal H ⟨rfl,false,rfl,mc (by first |exact .inl ⟨by assumption,by assumption⟩ |exact .inr (.inl D) |exact .inr (.inr (.inl (by assumption))) |exact .inr (.inr (.inr ⟨by assumption,by first |assumption |omega⟩)))⟩
     exact fu 12 [(1,pt bw 0),(4,pt b4 0),(5,Y)] .normal H ⟨rfl,false,rfl,mc (by first |exact .inl ⟨by assumption,by assumption⟩ |exact .inr (.inl D) |exact .inr (.inr (.inl (by assumption))) |exact .inr (.inr (.inr ⟨by assumption,by first |assumption |omega⟩)))⟩
    exact fu 14 [(1,pt bw 0),(4,pt b4 0),(5,Y)] .normal H ⟨rfl,false,rfl,mc (by first |exact .inl ⟨by assumption,by assumption⟩ |exact .inr (.inl D) |exact .inr (.inr (.inl (by assumption))) |exact .inr (.inr (.inr ⟨by assumption,by first |assumption |omega⟩)))⟩
   exact fu 16 [(1,pt bw 0),(4,pt b4 0),(5,Y)] .normal H ⟨rfl,false,rfl,mc (by first |exact .inl ⟨by assumption,by assumption⟩ |exact .inr (.inl D) |exact .inr (.inr (.inl (by assumption))) |exact .inr (.inr (.inr ⟨by assumption,by first |assumption |omega⟩)))⟩
  exact fu 18 [(1,pt bw 0),(4,pt b4 0),(5,Y)] .normal H ⟨rfl,false,rfl,mc (by first |exact .inl ⟨by assumption,by assumption⟩ |exact .inr (.inl D) |exact .inr (.inr (.inl (by assumption))) |exact .inr (.inr (.inr ⟨by assumption,by first |assumption |omega⟩)))⟩
 refine Z 2 (ag 3 ct kb)<|?_
 cases h2:(hU x.f.s) with
 |true=>
  refine ad 0 (c5 h2 (GL x.f.s (gg hx y)))<|Z 3 (ag 4 jI kb)<|aO 1 ((x.f.nm:Int)≤10) ?_ ?_ <;> intro h3 dv
  ·refine Z 3 (ag 5 dX kb)<|aO 0 (x.f.wide≥0) ?_ ?_ <;> intro h4 dT
   ·refine Z 3 (ag 5 dX kb)<|aO 0 (x.f.wide≤35184372088832) ?_ ?_ <;> intro h5 ff
    ·refine Z 3 (ag 6 dX kb)<|aO 0 (x.f.off≥(-35184372088832)) ?_ ?_ <;> intro h6 e7
     ·refine Z 3 (ag 6 dX kb)<|aO 0 (x.f.off≤35184372088832) ?_ ?_ <;> intro h7 mR
      ·refine Z 3 (ag 8 dX kb)<|aO 0 (x.f.at_≥(-1125899906842624)) ?_ ?_ <;> intro h8 x6
       ·refine Z 3 (ag 8 dX kb)<|aO 0 (x.f.at_≤1125899906842624) ?_ ?_ <;> intro h9 uw
        ·refine Z 3 (ag 8 dX kb)<|cS 1 (Int.tmod x.f.at_ 1000) 0 ?_ ?_ <;> intro h10 Ag
         ·refine aK [aB 2]<|?_
          rcases ep x.f.ha with h11 |h11
          ·exact aj [dP aN H] ((ag 7 gV kb).trans (congrArg (fun q=>some (Value.bool q)) h11))<|fu 4 [(1,pt bw 0),(4,pt b4 0),(5,aN)] .normal H ⟨rfl,true,rfl,GB (by first |exact .inl h1 |exact .inr h2) D (by first |assumption |omega) (by first |exact .inl (by assumption) |exact .inr D)⟩
          refine aj [dP Y H] ((ag 7 gV kb).trans (congrArg (fun q=>some (Value.bool q)) h11))<|Z 2 (ag 8 dX kb)<|cS 0 x.f.at_ 0 ?_ ?_ <;> intro h12 Ah
          ·exact fu 3 [(1,pt bw 0),(4,pt b4 0),(5,aN)] .normal H ⟨rfl,true,rfl,GB (by first |exact .inl h1 |exact .inr h2) D (by first |assumption |omega) (by first |exact .inl (by assumption) |exact .inr D)⟩
          exact fu 3 [(1,pt bw 0),(4,pt b4 0),(5,Y)] .normal H ⟨rfl,false,rfl,mc (by first |exact .inl ⟨by assumption,by assumption⟩ |exact .inr (.inl D) |exact .inr (.inr (.inl (by assumption))) |exact .inr (.inr (.inr ⟨by assumption,by first |assumption |omega⟩)))⟩
         exact fu 4 [(1,pt bw 0),(4,pt b4 0),(5,Y)] .normal H ⟨rfl,false,rfl,mc (by first |exact .inl ⟨by assumption,by assumption⟩ |exact .inr (.inl D) |exact .inr (.inr (.inl (by assumption))) |exact .inr (.inr (.inr ⟨by assumption,by first |assumption |omega⟩)))⟩
        exact fu 6 [(1,pt bw 0),(4,pt b4 0),(5,Y)] .normal H ⟨rfl,false,rfl,mc (by first |exact .inl ⟨by assumption,by assumption⟩ |exact .inr (.inl D) |exact .inr (.inr (.inl (by assumption))) |exact .inr (.inr (.inr ⟨by assumption,by first |assumption |omega⟩)))⟩
       exact fu 8 [(1,pt bw 0),(4,pt b4 0),(5,Y)] .normal H ⟨rfl,false,rfl,mc (by first |exact .inl ⟨by assumption,by assumption⟩ |exact .inr (.inl D) |exact .inr (.inr (.inl (by assumption))) |exact .inr (.inr (.inr ⟨by assumption,by first |assumption |omega⟩)))⟩
      exact fu 10 [(1,pt bw 0),(4,pt b4 0),(5,Y)] .normal H ⟨rfl,false,rfl,mc (by first |exact .inl ⟨by assumption,by assumption⟩ |exact .inr (.inl D) |exact .inr (.inr (.inl (by assumption))) |exact .inr (.inr (.inr ⟨by assumption,by first |assumption |omega⟩)))⟩
     exact fu 12 [(1,pt bw 0),(4,pt b4 0),(5,Y)] .normal H ⟨rfl,false,rfl,mc (by first |exact .inl ⟨by assumption,by assumption⟩ |exact .inr (.inl D) |exact .inr (.inr (.inl (by assumption))) |exact .inr (.inr (.inr ⟨by assumption,by first |assumption |omega⟩)))⟩
    exact fu 14 [(1,pt bw 0),(4,pt b4 0),(5,Y)] .normal H ⟨rfl,false,rfl,mc (by first |exact .inl ⟨by assumption,by assumption⟩ |exact .inr (.inl D) |exact .inr (.inr (.inl (by assumption))) |exact .inr (.inr (.inr ⟨by assumption,by first |assumption |omega⟩)))⟩
   exact fu 16 [(1,pt bw 0),(4,pt b4 0),(5,Y)] .normal H ⟨rfl,false,rfl,mc (by first |exact .inl ⟨by assumption,by assumption⟩ |exact .inr (.inl D) |exact .inr (.inr (.inl (by assumption))) |exact .inr (.inr (.inr ⟨by assumption,by first |assumption |omega⟩)))⟩
  exact fu 18 [(1,pt bw 0),(4,pt b4 0),(5,Y)] .normal H ⟨rfl,false,rfl,mc (by first |exact .inl ⟨by assumption,by assumption⟩ |exact .inr (.inl D) |exact .inr (.inr (.inl (by assumption))) |exact .inr (.inr (.inr ⟨by assumption,by first |assumption |omega⟩)))⟩
 |false=>
  exact ad 0 (c5 h2 (GL x.f.s (gg hx y)))<|fu 20 [(1,pt bw 0),(4,pt b4 0),(5,Y)] .normal H ⟨rfl,false,rfl,mc (by first |exact .inl ⟨by assumption,by assumption⟩ |exact .inr (.inl D) |exact .inr (.inr (.inl (by assumption))) |exact .inr (.inr (.inr ⟨by assumption,by first |assumption |omega⟩)))⟩
theorem uD (k:aw) {X:U} (hx:aa E G X) (hs:gm X k):∀{H:U},aa E X H→aI E X 27 [.agg (ae k.f).toArray,.agg (ae k.f).toArray] H [] (fun v _=>v=aN):=by
 induction hs with
 |@mk x a hk ih=>
  intro H y
  have h:=td x X hx a x.f x.f.pm x.f.nm x.f.bj x.f.bf x.f.nn x.f.bg x.f.pk x.f.an x.f.ak y (.inl ⟨rfl,rfl⟩) (.inl ⟨rfl,rfl⟩) (.inl ⟨rfl,rfl⟩) ih
  rw [show ({ x.f with pm:=x.f.pm,nm:=x.f.nm,bj:=x.f.bj,bf:=x.f.bf,nn:=x.f.nn,bg:=x.f.bg,pk:=x.f.pk,an:=x.f.an,ak:=x.f.ak }:dZ)=x.f from rfl,agr] at h
  exact h
theorem Gy {f:dZ} {b:Bool} (h:f.k=6) (hb:f.fk=b):gB ⟨f.k,f.op,0,⟨#[]⟩,none,0,0,0,0,false,0,f.how,f.bf,f.nn,f.bg,b,f.pk,f.an,f.ak⟩ f=jd (gF f):=by subst hb;exact ad0 h
noncomputable abbrev Ra H1 (x:aw):=news H1 [O [J x.f.k,J 0,ax x.f.v,.string x.f.s,.slice x.f.pm x.f.nm x.f.bj,J x.f.wide,J x.f.off,.bool x.f.ha,J x.f.at_,J x.f.how,.slice x.f.bf x.f.nn x.f.bg,.bool x.f.fk,.slice x.f.pk x.f.an x.f.ak] 27]
noncomputable abbrev Rb H1 (x:aw):=news H1 [O [J x.f.k,J 0,ax 0,.string x.f.s,.slice x.f.pm x.f.nm x.f.bj,J x.f.wide,J x.f.off,.bool x.f.ha,J x.f.at_,J x.f.how,.slice x.f.bf x.f.nn x.f.bg,.bool x.f.fk,.slice x.f.pk x.f.an x.f.ak] 27]
noncomputable abbrev Rc H1 (x:aw):=news H1 [O [J x.f.k,J 0,ax 0,.string x.f.s,.slice x.f.pm x.f.nm x.f.bj,J x.f.wide,J x.f.off,.bool x.f.ha,J x.f.at_,J 0,.slice x.f.bf x.f.nn x.f.bg,.bool x.f.fk,.slice x.f.pk x.f.an x.f.ak] 27]
noncomputable abbrev Rd H1 (x:aw):=news H1 [O [J x.f.k,J 0,ax 0,.string x.f.s,.slice x.f.pm x.f.nm x.f.bj,J x.f.wide,J x.f.off,.bool x.f.ha,J x.f.at_,J 0,.slice none 0 0,.bool x.f.fk,.slice x.f.pk x.f.an x.f.ak] 27]
noncomputable abbrev bI (x:aw) Y:=([J x.f.k,J 0,ax 0,.string ⟨#[]⟩,.slice none 0 0,J 0,J 0,Y,J 0,J 0,.slice none 0 0,Y,.slice none 0 0]:List Value)
noncomputable abbrev pp (x:aw) Y:=([J x.f.k,J 0,ax x.f.v,.string ⟨#[]⟩,.slice none 0 0,J 0,J 0,Y,J 0,J 0,.slice none 0 0,Y,.slice none 0 0]:List Value)
noncomputable abbrev gw (x:aw) Y:=([J x.f.k,J 0,ax 0,.string x.f.s,.slice none 0 0,J 0,J 0,Y,J 0,J 0,.slice none 0 0,Y,.slice none 0 0]:List Value)
noncomputable abbrev vq (x:aw) Y:=([J x.f.k,J 0,ax 0,.string x.f.s,.slice x.f.pm x.f.nm x.f.bj,J x.f.wide,J x.f.off,.bool x.f.ha,J x.f.at_,J 0,.slice none 0 0,Y,.slice none 0 0]:List Value)
noncomputable abbrev OM (x:aw) Y:=([J x.f.k,J 0,ax 0,.string x.f.s,.slice x.f.pm x.f.nm x.f.bj,J x.f.wide,J x.f.off,.bool x.f.ha,J x.f.at_,J 0,.slice none 0 0,Y,.slice x.f.pk x.f.an x.f.ak]:List Value)
noncomputable abbrev p7 (x:aw) Y:=([J x.f.k,J 0,ax 0,.string x.f.s,.slice none 0 0,J 0,J 0,Y,J 0,J 0,.slice none 0 0,Y,.slice x.f.pk x.f.an x.f.ak]:List Value)
noncomputable abbrev lQ (x:aw) Y:=([J x.f.k,J 0,ax 0,.string x.f.s,.slice none 0 0,J 0,J 0,Y,J 0,J x.f.how,.slice x.f.bf x.f.nn x.f.bg,Y,.slice x.f.pk x.f.an x.f.ak]:List Value)
noncomputable abbrev j4 (x:aw) Y:=([J x.f.k,J 0,ax 0,.string x.f.s,.slice none 0 0,J 0,J 0,Y,J 0,J x.f.how,.slice none 0 0,Y,.slice none 0 0]:List Value)
noncomputable abbrev j5 (x:aw) Y:=([J x.f.k,J 0,ax 0,.string x.f.s,.slice none 0 0,J 0,J 0,Y,J 0,J x.f.how,.slice x.f.bf x.f.nn x.f.bg,Y,.slice none 0 0]:List Value)
noncomputable abbrev mC (x:aw) Y:=([J x.f.k,J x.f.op,ax 0,.string ⟨#[]⟩,.slice none 0 0,J 0,J 0,Y,J 0,J 0,.slice none 0 0,Y,.slice none 0 0]:List Value)
noncomputable abbrev y4 (x:aw) Y aN:=([J x.f.k,J x.f.op,ax 0,.string ⟨#[]⟩,.slice none 0 0,J 0,J 0,Y,J 0,J 0,.slice none 0 0,aN,.slice none 0 0]:List Value)
noncomputable abbrev y5 (x:aw) Y aN:=([J x.f.k,J x.f.op,ax 0,.string ⟨#[]⟩,.slice none 0 0,J 0,J 0,Y,J 0,J x.f.how,.slice none 0 0,aN,.slice none 0 0]:List Value)
noncomputable abbrev y6 (x:aw) Y aN:=([J x.f.k,J x.f.op,ax 0,.string ⟨#[]⟩,.slice none 0 0,J 0,J 0,Y,J 0,J x.f.how,.slice x.f.bf x.f.nn x.f.bg,aN,.slice none 0 0]:List Value)
noncomputable abbrev pn (x:aw) Y aN:=([J x.f.k,J x.f.op,ax 0,.string ⟨#[]⟩,.slice none 0 0,J 0,J 0,Y,J 0,J x.f.how,.slice x.f.bf x.f.nn x.f.bg,aN,.slice x.f.pk x.f.an x.f.ak]:List Value)
noncomputable abbrev y7 (x:aw) Y:=([J x.f.k,J x.f.op,ax 0,.string ⟨#[]⟩,.slice none 0 0,J 0,J 0,Y,J 0,J x.f.how,.slice none 0 0,Y,.slice none 0 0]:List Value)
noncomputable abbrev y8 (x:aw) Y:=([J x.f.k,J x.f.op,ax 0,.string ⟨#[]⟩,.slice none 0 0,J 0,J 0,Y,J 0,J x.f.how,.slice x.f.bf x.f.nn x.f.bg,Y,.slice none 0 0]:List Value)
noncomputable abbrev po (x:aw) Y:=([J x.f.k,J x.f.op,ax 0,.string ⟨#[]⟩,.slice none 0 0,J 0,J 0,Y,J 0,J x.f.how,.slice x.f.bf x.f.nn x.f.bg,Y,.slice x.f.pk x.f.an x.f.ak]:List Value)
noncomputable abbrev vp (x:aw) Y:=([J x.f.k,J 0,ax 0,.string ⟨#[]⟩,.slice none 0 0,J 0,J 0,Y,J 0,J 0,.slice none 0 0,Y,.slice x.f.pk x.f.an x.f.ak]:List Value)
theorem afS (x:aw) (X:U) (hx:aa E G X) (a:dG X x) (hz:lu x) (ih1:∀ k∈x.kids,∀{H:U},aa E X H→aI E X 14 [.agg (ae k.f).toArray] H [] (fun v _=>v=.bool (fb k))) (hs:∀ k∈x.kids,gm X k) {H:U} (y:aa E X H):aI E X 14 [.agg (ae x.f).toArray] H [] (fun v H'=>v=.bool (fb x)):=by
 refine br Tryz.f14 y ?_
 obtain ⟨_,_,H1,c1,af,y1,b7⟩:=(afc x X hx a ih1 (H.n+0) (jJ (x.kids.drop 0)) _ 0 _ (y.news [O (ae x.f) 27]) (aL [O (ae x.f) 27] H 0 _ rfl) D rfl rfl).code
 rcases b7 with ⟨rfl,rfl,cM⟩ |⟨rfl,rfl,cM⟩
 ·have cI:=dA af
  have aP:=(y.news [O (ae x.f) 27]).kept af ai (aL [O (ae x.f) 27] H 0 _ rfl)
  refine bW 3 c1<|Z 1 (ag 0 aJ aP)<|aC 2 (bT bH rfl rfl rfl rfl:bp E 27 (H1.n+0) 0 (.agg (bI x Y).toArray) (news H1 (am (dg Y)))=some (news H1 (am (bI x Y))))<|Z 2 (ag 0 aJ (y1.old aP (am (bI x Y))))<|cS 0 x.f.k 1 ?_ ?_ <;> intro h2 cw
  ·refine Z 2 (ag 2 jH (y1.old aP (am (bI x Y))))<|aC 1 (bT Dt rfl rfl rfl rfl:bp E 22 (H1.n+0) 2 (ax x.f.v) (news H1 (am (bI x Y)))=some (news H1 (am (pp x Y))))<|Z 1 (ag 2 jH (y1.old aP (am (pp x Y))))<|aO 0 (x.f.v≤9218868437227405312) ?_ ?_ <;> intro h3 dv
   ·obtain ⟨_,H2,c2,ar,ah,dC⟩:=fh (td x X hx a ⟨x.f.k,0,x.f.v,⟨#[]⟩,none,0,0,0,0,false,0,0,none,0,0,false,none,0,0⟩ none 0 0 none 0 0 none 0 0 (y1.news (am (pp x Y))) (.inr rfl) (.inr rfl) (.inr rfl) (fun k hk=>uD k hx (hs k hk)))
    refine Z 5 (dy cv bH rfl rfl rfl:ay E 27 (H1.n+0) 0 (news H1 (am (pp x Y)))=some (.agg (pp x Y).toArray))<|Z 0 (cg cv bH (y1.old aP (am (pp x Y))) rfl rfl:ay E 27 (H.n+0) 0 (news H1 (am (pp x Y)))=some (.agg (ae x.f).toArray))<|?_
    rcases dC with ⟨rfl,cJ⟩ |⟨rfl,cJ⟩
    ·have cl:=dA ar
     exact ad 0 c2<|aV 2 aN H2 [H1.n+0,H1.n+0] aQ aZ (congrArg Value.bool (r0 (qi D ((Gx D).symm.trans cJ) ((wZ D).trans (Rt a.DG D))) cM).symm)
    have cl:=dA ar
    exact ad 0 c2<|aV 2 Y H2 [H1.n+0,H1.n+0] aQ aZ (congrArg Value.bool (jj (.inl (jp (.inr (.inl ((Gx D).symm.trans cJ)))))).symm)
   refine Z 2 (ag 2 jH (y1.old aP (am (pp x Y))))<|cS 0 x.f.v 9221120237041090561 ?_ ?_ <;> intro h4 dT
   ·obtain ⟨_,H2,c2,ar,ah,dC⟩:=fh (td x X hx a ⟨x.f.k,0,x.f.v,⟨#[]⟩,none,0,0,0,0,false,0,0,none,0,0,false,none,0,0⟩ none 0 0 none 0 0 none 0 0 (y1.news (am (pp x Y))) (.inr rfl) (.inr rfl) (.inr rfl) (fun k hk=>uD k hx (hs k hk)))
    refine Z 4 (dy cv bH rfl rfl rfl:ay E 27 (H1.n+0) 0 (news H1 (am (pp x Y)))=some (.agg (pp x Y).toArray))<|Z 0 (cg cv bH (y1.old aP (am (pp x Y))) rfl rfl:ay E 27 (H.n+0) 0 (news H1 (am (pp x Y)))=some (.agg (ae x.f).toArray))<|?_
    rcases dC with ⟨rfl,cJ⟩ |⟨rfl,cJ⟩
    ·have cl:=dA ar
     exact ad 0 c2<|aV 2 aN H2 [H1.n+0,H1.n+0] aQ aZ (congrArg Value.bool (r0 (qi D ((Gx D).symm.trans cJ) ((wZ D).trans (Rt a.DG D))) cM).symm)
    have cl:=dA ar
    exact ad 0 c2<|aV 2 Y H2 [H1.n+0,H1.n+0] aQ aZ (congrArg Value.bool (jj (.inl (jp (.inr (.inl ((Gx D).symm.trans cJ)))))).symm)
   exact aV 6 Y (news H1 (am (pp x Y))) [H1.n+0,H1.n+0] aQ aZ (congrArg Value.bool (jj (.inl (jp (.inr (.inr ((wZ D).trans (Rs a.DG D))))))).symm)
  refine cS 1 x.f.k 2 ?_ ?_ <;> intro h3 dv
  ·refine Z 2 (ag 3 ct (y1.old aP (am (bI x Y))))<|aC 1 (bT oW rfl rfl rfl rfl:bp E 9 (H1.n+0) 3 (.string x.f.s) (news H1 (am (bI x Y)))=some (news H1 (am (gw x Y))))<|Z 1 (ag 3 ct (y1.old aP (am (gw x Y))))<|?_
   cases h4:(lG x.f.s) with
   |true=>
    obtain ⟨_,H2,c2,ar,ah,dC⟩:=fh (td x X hx a ⟨x.f.k,0,0,x.f.s,none,0,0,0,0,false,0,0,none,0,0,false,none,0,0⟩ none 0 0 none 0 0 none 0 0 (y1.news (am (gw x Y))) (.inr rfl) (.inr rfl) (.inr rfl) (fun k hk=>uD k hx (hs k hk)))
    refine ad 0 (c5 h4 (Al x.f.s (gg hx (y1.news (am (gw x Y))))))<|Z 3 (dy cv bH rfl rfl rfl:ay E 27 (H1.n+0) 0 (news H1 (am (gw x Y)))=some (.agg (gw x Y).toArray))<|Z 0 (cg cv bH (y1.old aP (am (gw x Y))) rfl rfl:ay E 27 (H.n+0) 0 (news H1 (am (gw x Y)))=some (.agg (ae x.f).toArray))<|?_
    rcases dC with ⟨rfl,cJ⟩ |⟨rfl,cJ⟩
    ·have cl:=dA ar
     exact ad 0 c2<|aV 2 aN H2 [H1.n+0,H1.n+0] aQ aZ (congrArg Value.bool (r0 (qi D ((RD D).symm.trans cJ) ((Bd D).trans ((TF x).trans h4))) cM).symm)
    have cl:=dA ar
    exact ad 0 c2<|aV 2 Y H2 [H1.n+0,H1.n+0] aQ aZ (congrArg Value.bool (jj (.inl (jp (.inr (.inl ((RD D).symm.trans cJ)))))).symm)
   |false=>
    exact ad 0 (c5 h4 (Al x.f.s (gg hx (y1.news (am (gw x Y))))))<|aV 5 Y (news H1 (am (gw x Y))) [H1.n+0,H1.n+0] aQ aZ (congrArg Value.bool (jj (.inl (jp (.inr (.inr ((Bd D).trans ((TF x).trans h4))))))).symm)
  refine cS 1 x.f.k 3 ?_ ?_ <;> intro h4 dT
  ·obtain ⟨_,_,H2,c2,ar,ah,rfl,Uc,rfl,kV⟩:=afn x X hx a (H.n+0) (H1.n+0) (y1.news (am (vq x Y))) (y1.old aP (am (vq x Y)))
   have cl:=dA ar
   have iW:=(y1.news (am (vq x Y))).kept ar ai (aL (am (vq x Y)) H1 0 _ rfl)
   have cL:=(y1.news (am (vq x Y))).kept ar ai (y1.old aP (am (vq x Y)))
   obtain ⟨_,_,H3,c3,aW,az,rfl,aiU,rfl,kD⟩:=(afm x X hx a hz (H.n+0) (H1.n+0) (Uc&&!ld (x.ms.drop 0)) _ Uc 0 _ ah cL D rfl rfl).code
   have dD:H2.n+0≤H3.n:=aW.n
   refine Z 1 (cg cv bH (y1.old aP (am (bI x Y))) rfl rfl:ay E 27 (H.n+0) 0 (news H1 (am (bI x Y)))=some (.agg (ae x.f).toArray))<|aC 0 (bT bH rfl rfl rfl rfl:bp E 27 (H1.n+0) 0 (.agg (ae x.f).toArray) (news H1 (am (bI x Y)))=some (news H1 [O (ae x.f) 27]))<|aC 1 (bT dL rfl rfl rfl rfl:bp E 3 (H1.n+0) 1 (J 0) (news H1 [O (ae x.f) 27])=some (Ra H1 x))<|aC 1 (bT Dt rfl rfl rfl rfl:bp E 22 (H1.n+0) 2 (ax 0) (Ra H1 x)=some (Rb H1 x))<|aC 1 (bT dL rfl rfl rfl rfl:bp E 3 (H1.n+0) 9 (J 0) (Rb H1 x)=some (Rc H1 x))<|aC 1 (bT uC rfl rfl rfl rfl:bp E 24 (H1.n+0) 10 (.slice none 0 0) (Rc H1 x)=some (Rd H1 x))<|aC 1 (bT Du rfl rfl rfl rfl:bp E 4 (H1.n+0) 11 Y (Rd H1 x)=some (news H1 (am (OM x Y))))<|aC 1 (bT qn rfl rfl rfl rfl:bp E 25 (H1.n+0) 12 (.slice none 0 0) (news H1 (am (OM x Y)))=some (news H1 (am (vq x Y))))<|gS 0 1 c2<|bW 1 c3<|?_
   cases aiU with
   |true=>
    have Cc:=ah.kept aW ai iW
    have ei:=ah.kept aW ai cL
    obtain ⟨_,H4,cY,c4,bz,nv⟩:=fh (td x X hx a ⟨x.f.k,0,0,x.f.s,x.f.pm,x.f.nm,x.f.bj,x.f.wide,x.f.off,x.f.ha,x.f.at_,0,none,0,0,false,none,0,0⟩ x.f.pm x.f.nm x.f.bj none 0 0 none 0 0 az (.inl ⟨rfl,rfl⟩) (.inr rfl) (.inr rfl) (fun k hk=>uD k hx (hs k hk)))
    refine Z 2 (cg cv bH Cc rfl rfl:ay E 27 (H1.n+0) 0 H3=some (.agg (vq x Y).toArray))<|Z 0 (cg cv bH ei rfl rfl:ay E 27 (H.n+0) 0 H3=some (.agg (ae x.f).toArray))<|?_
    rcases nv with ⟨rfl,pA⟩ |⟨rfl,pA⟩
    ·have fB:H3.n+0≤H4.n:=c4.n
     exact ad 0 cY<|aV 2 aN H4 [H1.n+0,H1.n+0,H1.n+0,H1.n+0,H1.n+0,H1.n+0,H1.n+0,H1.n+0] aQ aZ (congrArg Value.bool (r0 (qi D ((RE D).symm.trans pA) ((vh D).trans (R0 kV kD))) cM).symm)
    have fB:H3.n+0≤H4.n:=c4.n
    exact ad 0 cY<|aV 2 Y H4 [H1.n+0,H1.n+0,H1.n+0,H1.n+0,H1.n+0,H1.n+0,H1.n+0,H1.n+0] aQ aZ (congrArg Value.bool (jj (.inl (jp (.inr (.inl ((RE D).symm.trans pA)))))).symm)
   |false=>
    exact aV 4 Y H3 [H1.n+0,H1.n+0,H1.n+0,H1.n+0,H1.n+0,H1.n+0,H1.n+0,H1.n+0] aQ aZ (congrArg Value.bool (jj (.inl (jp (.inr (.inr ((vh D).trans (R0 kV kD))))))).symm)
  refine cS 1 x.f.k 4 ?_ ?_ <;> intro h5 ff
  ·refine aK [aB 0]<|oU [] (de H1 (am (bI x Y))) (aT:(H1.n+0)≠(H.n+0)) (de H1 (am (bI x Y)))<|Z 1 (ag 3 ct (y1.old aP (am (bI x Y))))<|Z 1 (ag 12 dK (y1.old aP (am (bI x Y))))<|aC 1 (bT oW rfl rfl rfl rfl:bp E 9 (H1.n+0) 3 (.string x.f.s) (news H1 (am (bI x Y)))=some (news H1 (am (gw x Y))))<|aj [] (cU (y1.news (am (bI x Y))) (aL (am (bI x Y)) H1 0 _ rfl):bZ (news H1 (am (bI x Y))) (news H1 (am (gw x Y))) [H1.n+0]=true)<|aC 1 (bT qn rfl rfl rfl rfl:bp E 25 (H1.n+0) 12 (.slice x.f.pk x.f.an x.f.ak) (news H1 (am (gw x Y)))=some (news H1 (am (p7 x Y))))<|aj [] (cU (y1.news (am (gw x Y))) (aL (am (gw x Y)) H1 0 _ rfl):bZ (news H1 (am (gw x Y))) (news H1 (am (p7 x Y))) [H1.n+0]=true)<|Z 1 (ag 3 ct (y1.old aP (am (p7 x Y))))<|?_
   cases h6:(hU x.f.s) with
   |true=>
    refine ad 0 (c5 h6 (GL x.f.s (gg hx (y1.news (am (p7 x Y))))))<|Z 2 (ag 12 dK (y1.old aP (am (p7 x Y))))<|aO 1 ((x.f.an:Int)≤4) ?_ ?_ <;> intro h7 mR
    ·obtain ⟨_,H2,c2,ar,ah,dC⟩:=fh (td x X hx a ⟨x.f.k,0,0,x.f.s,none,0,0,0,0,false,0,0,none,0,0,false,x.f.pk,x.f.an,x.f.ak⟩ none 0 0 none 0 0 x.f.pk x.f.an x.f.ak (y1.news (am (p7 x Y))) (.inr rfl) (.inr rfl) (.inl ⟨rfl,rfl⟩) (fun k hk=>uD k hx (hs k hk)))
     refine Z 4 (dy cv bH rfl rfl rfl:ay E 27 (H1.n+0) 0 (news H1 (am (p7 x Y)))=some (.agg (p7 x Y).toArray))<|Z 0 (cg cv bH (y1.old aP (am (p7 x Y))) rfl rfl:ay E 27 (H.n+0) 0 (news H1 (am (p7 x Y)))=some (.agg (ae x.f).toArray))<|?_
     rcases dC with ⟨rfl,cJ⟩ |⟨rfl,cJ⟩
     ·have cl:=dA ar
      exact ad 0 c2<|aV 2 aN H2 [H1.n+0,H1.n+0,H1.n+0] aQ aZ (congrArg Value.bool (r0 (qi D ((RF D).symm.trans cJ) ((vi D).trans (by rw [so,h6,h7] <;> rfl))) cM).symm)
     have cl:=dA ar
     exact ad 0 c2<|aV 2 Y H2 [H1.n+0,H1.n+0,H1.n+0] aQ aZ (congrArg Value.bool (jj (.inl (jp (.inr (.inl ((RF D).symm.trans cJ)))))).symm)
    exact aV 6 Y (news H1 (am (p7 x Y))) [H1.n+0,H1.n+0,H1.n+0] aQ aZ (congrArg Value.bool (jj (.inl (jp (.inr (.inr ((vi D).trans (by rw [so,h6,h7] <;> rfl))))))).symm)
   |false=>
    exact ad 0 (c5 h6 (GL x.f.s (gg hx (y1.news (am (p7 x Y))))))<|aV 7 Y (news H1 (am (p7 x Y))) [H1.n+0,H1.n+0,H1.n+0] aQ aZ (congrArg Value.bool (jj (.inl (jp (.inr (.inr ((vi D).trans (by rw [so,h6] <;> rfl))))))).symm)
  refine cS 1 x.f.k 5 ?_ ?_ <;> intro h6 e7
  ·obtain ⟨_,H2,c2,ar,ah,aY,rfl,JG,xL⟩:=Gw (y1.news (am (lQ x Y))) (Sj (gg hx (y1.news (am (lQ x Y)))))
   have cl:=dA ar
   have iW:=(y1.news (am (lQ x Y))).kept ar ai (aL (am (lQ x Y)) H1 0 _ rfl)
   obtain ⟨_,H3,c3,aW,az,fo⟩:=fh (Gw ah (LU aY (qr pz) 15 x.f.s (gg hx ah) xL (by decide)))
   rcases fo with ⟨rfl,eh⟩ |⟨rfl,eh⟩
   ·have dD:H2.n+0≤H3.n:=aW.n
    have cL:=(y1.news (am (lQ x Y))).kept ar ai (y1.old aP (am (lQ x Y)))
    have ei:=ah.kept aW ai cL
    obtain ⟨_,H4,cY,c4,bz,nv⟩:=fh (LV x X hx a hz az)
    rcases nv with ⟨rfl,pA⟩ |⟨rfl,pA⟩
    ·have fB:H3.n+0≤H4.n:=c4.n
     have ir:=az.kept c4 ai ei
     rcases ep (decide ((x.f.an:Int)≤4)) with h9 |h9
     ·have Cc:=ah.kept aW ai iW
      have rJ:=az.kept c4 ai Cc
      obtain ⟨_,H5,dz,cV,cG,oN⟩:=fh (td x X hx a ⟨x.f.k,0,0,x.f.s,none,0,0,0,0,false,0,x.f.how,x.f.bf,x.f.nn,x.f.bg,false,x.f.pk,x.f.an,x.f.ak⟩ none 0 0 x.f.bf x.f.nn x.f.bg x.f.pk x.f.an x.f.ak bz (.inr rfl) (.inl ⟨rfl,rfl⟩) (.inl ⟨rfl,rfl⟩) (fun k hk=>uD k hx (hs k hk)))
      refine aK [aB 0]<|gT [] (de H1 (am (bI x Y))) (aT:(H1.n+0)≠(H.n+0)) (de H1 (am (bI x Y))) (de H1 (am (bI x Y))) (aT:(H1.n+0)≠(H.n+0)) (de H1 (am (bI x Y)))<|gT [] (de H1 (am (bI x Y))) (aT:(H1.n+0)≠(H.n+0)) (de H1 (am (bI x Y))) (de H1 (am (bI x Y))) (aT:(H1.n+0)≠(H.n+0)) (de H1 (am (bI x Y)))<|gT [] (de H1 (am (bI x Y))) (aT:(H1.n+0)≠(H.n+0)) (de H1 (am (bI x Y))) (de H1 (am (bI x Y))) (aT:(H1.n+0)≠(H.n+0)) (de H1 (am (bI x Y)))<|Z 1 (ag 3 ct (y1.old aP (am (bI x Y))))<|Z 1 (ag 9 aJ (y1.old aP (am (bI x Y))))<|Z 1 (ag 10 iI (y1.old aP (am (bI x Y))))<|Z 1 (ag 12 dK (y1.old aP (am (bI x Y))))<|aC 1 (bT oW rfl rfl rfl rfl:bp E 9 (H1.n+0) 3 (.string x.f.s) (news H1 (am (bI x Y)))=some (news H1 (am (gw x Y))))<|aj [] (cU (y1.news (am (bI x Y))) (aL (am (bI x Y)) H1 0 _ rfl):bZ (news H1 (am (bI x Y))) (news H1 (am (gw x Y))) [H1.n+0]=true)<|aC 1 (bT dL rfl rfl rfl rfl:bp E 3 (H1.n+0) 9 (J x.f.how) (news H1 (am (gw x Y)))=some (news H1 (am (j4 x Y))))<|aj [] (cU (y1.news (am (gw x Y))) (aL (am (gw x Y)) H1 0 _ rfl):bZ (news H1 (am (gw x Y))) (news H1 (am (j4 x Y))) [H1.n+0]=true)<|aC 1 (bT uC rfl rfl rfl rfl:bp E 24 (H1.n+0) 10 (.slice x.f.bf x.f.nn x.f.bg) (news H1 (am (j4 x Y)))=some (news H1 (am (j5 x Y))))<|aj [] (cU (y1.news (am (j4 x Y))) (aL (am (j4 x Y)) H1 0 _ rfl):bZ (news H1 (am (j4 x Y))) (news H1 (am (j5 x Y))) [H1.n+0]=true)<|aC 1 (bT qn rfl rfl rfl rfl:bp E 25 (H1.n+0) 12 (.slice x.f.pk x.f.an x.f.ak) (news H1 (am (j5 x Y)))=some (news H1 (am (lQ x Y))))<|aj [] (cU (y1.news (am (j5 x Y))) (aL (am (j5 x Y)) H1 0 _ rfl):bZ (news H1 (am (j5 x Y))) (news H1 (am (lQ x Y))) [H1.n+0]=true)<|Z 1 (ag 3 ct (y1.old aP (am (lQ x Y))))<|ad 0 c2<|ad 0 c3<|Z 1 (cg cv bH ei rfl rfl:ay E 27 (H.n+0) 0 H3=some (.agg (ae x.f).toArray))<|ad 0 cY<|Z 3 (ag 12 dK ir)<|aH 1 h9<|Z 4 (cg cv bH rJ rfl rfl:ay E 27 (H1.n+0) 0 H4=some (.agg (lQ x Y).toArray))<|Z 0 (cg cv bH ir rfl rfl:ay E 27 (H.n+0) 0 H4=some (.agg (ae x.f).toArray))<|?_
      rcases oN with ⟨rfl,BC⟩ |⟨rfl,BC⟩
      ·have gk:H4.n+0≤H5.n:=cV.n
       exact ad 0 dz<|aV 2 aN H5 [H1.n+0,H1.n+0,H1.n+0,H1.n+0,H1.n+0] aQ aZ (congrArg Value.bool (r0 (qi D ((RG D).symm.trans BC) ((vj D).trans (by rw [qF,eh,pA,h9] <;> rfl))) cM).symm)
      have gk:H4.n+0≤H5.n:=cV.n
      exact ad 0 dz<|aV 2 Y H5 [H1.n+0,H1.n+0,H1.n+0,H1.n+0,H1.n+0] aQ aZ (congrArg Value.bool (jj (.inl (jp (.inr (.inl ((RG D).symm.trans BC)))))).symm)
     exact aK [aB 0]<|gT [] (de H1 (am (bI x Y))) (aT:(H1.n+0)≠(H.n+0)) (de H1 (am (bI x Y))) (de H1 (am (bI x Y))) (aT:(H1.n+0)≠(H.n+0)) (de H1 (am (bI x Y)))<|gT [] (de H1 (am (bI x Y))) (aT:(H1.n+0)≠(H.n+0)) (de H1 (am (bI x Y))) (de H1 (am (bI x Y))) (aT:(H1.n+0)≠(H.n+0)) (de H1 (am (bI x Y)))<|gT [] (de H1 (am (bI x Y))) (aT:(H1.n+0)≠(H.n+0)) (de H1 (am (bI x Y))) (de H1 (am (bI x Y))) (aT:(H1.n+0)≠(H.n+0)) (de H1 (am (bI x Y)))<|Z 1 (ag 3 ct (y1.old aP (am (bI x Y))))<|Z 1 (ag 9 aJ (y1.old aP (am (bI x Y))))<|Z 1 (ag 10 iI (y1.old aP (am (bI x Y))))<|Z 1 (ag 12 dK (y1.old aP (am (bI x Y))))<|aC 1 (bT oW rfl rfl rfl rfl:bp E 9 (H1.n+0) 3 (.string x.f.s) (news H1 (am (bI x Y)))=some (news H1 (am (gw x Y))))<|aj [] (cU (y1.news (am (bI x Y))) (aL (am (bI x Y)) H1 0 _ rfl):bZ (news H1 (am (bI x Y))) (news H1 (am (gw x Y))) [H1.n+0]=true)<|aC 1 (bT dL rfl rfl rfl rfl:bp E 3 (H1.n+0) 9 (J x.f.how) (news H1 (am (gw x Y)))=some (news H1 (am (j4 x Y))))<|aj [] (cU (y1.news (am (gw x Y))) (aL (am (gw x Y)) H1 0 _ rfl):bZ (news H1 (am (gw x Y))) (news H1 (am (j4 x Y))) [H1.n+0]=true)<|aC 1 (bT uC rfl rfl rfl rfl:bp E 24 (H1.n+0) 10 (.slice x.f.bf x.f.nn x.f.bg) (news H1 (am (j4 x Y)))=some (news H1 (am (j5 x Y))))<|aj [] (cU (y1.news (am (j4 x Y))) (aL (am (j4 x Y)) H1 0 _ rfl):bZ (news H1 (am (j4 x Y))) (news H1 (am (j5 x Y))) [H1.n+0]=true)<|aC 1 (bT qn rfl rfl rfl rfl:bp E 25 (H1.n+0) 12 (.slice x.f.pk x.f.an x.f.ak) (news H1 (am (j5 x Y)))=some (news H1 (am (lQ x Y))))<|aj [] (cU (y1.news (am (j5 x Y))) (aL (am (j5 x Y)) H1 0 _ rfl):bZ (news H1 (am (j5 x Y))) (news H1 (am (lQ x Y))) [H1.n+0]=true)<|Z 1 (ag 3 ct (y1.old aP (am (lQ x Y))))<|ad 0 c2<|ad 0 c3<|Z 1 (cg cv bH ei rfl rfl:ay E 27 (H.n+0) 0 H3=some (.agg (ae x.f).toArray))<|ad 0 cY<|Z 3 (ag 12 dK ir)<|aH 1 h9<|aV 6 Y H4 [H1.n+0,H1.n+0,H1.n+0,H1.n+0,H1.n+0] aQ aZ (congrArg Value.bool (jj (.inl (jp (.inr (.inr ((vj D).trans (by rw [qF,eh,pA,h9] <;> rfl))))))).symm)
    have fB:H3.n+0≤H4.n:=c4.n
    exact aK [aB 0]<|gT [] (de H1 (am (bI x Y))) (aT:(H1.n+0)≠(H.n+0)) (de H1 (am (bI x Y))) (de H1 (am (bI x Y))) (aT:(H1.n+0)≠(H.n+0)) (de H1 (am (bI x Y)))<|gT [] (de H1 (am (bI x Y))) (aT:(H1.n+0)≠(H.n+0)) (de H1 (am (bI x Y))) (de H1 (am (bI x Y))) (aT:(H1.n+0)≠(H.n+0)) (de H1 (am (bI x Y)))<|gT [] (de H1 (am (bI x Y))) (aT:(H1.n+0)≠(H.n+0)) (de H1 (am (bI x Y))) (de H1 (am (bI x Y))) (aT:(H1.n+0)≠(H.n+0)) (de H1 (am (bI x Y)))<|Z 1 (ag 3 ct (y1.old aP (am (bI x Y))))<|Z 1 (ag 9 aJ (y1.old aP (am (bI x Y))))<|Z 1 (ag 10 iI (y1.old aP (am (bI x Y))))<|Z 1 (ag 12 dK (y1.old aP (am (bI x Y))))<|aC 1 (bT oW rfl rfl rfl rfl:bp E 9 (H1.n+0) 3 (.string x.f.s) (news H1 (am (bI x Y)))=some (news H1 (am (gw x Y))))<|aj [] (cU (y1.news (am (bI x Y))) (aL (am (bI x Y)) H1 0 _ rfl):bZ (news H1 (am (bI x Y))) (news H1 (am (gw x Y))) [H1.n+0]=true)<|aC 1 (bT dL rfl rfl rfl rfl:bp E 3 (H1.n+0) 9 (J x.f.how) (news H1 (am (gw x Y)))=some (news H1 (am (j4 x Y))))<|aj [] (cU (y1.news (am (gw x Y))) (aL (am (gw x Y)) H1 0 _ rfl):bZ (news H1 (am (gw x Y))) (news H1 (am (j4 x Y))) [H1.n+0]=true)<|aC 1 (bT uC rfl rfl rfl rfl:bp E 24 (H1.n+0) 10 (.slice x.f.bf x.f.nn x.f.bg) (news H1 (am (j4 x Y)))=some (news H1 (am (j5 x Y))))<|aj [] (cU (y1.news (am (j4 x Y))) (aL (am (j4 x Y)) H1 0 _ rfl):bZ (news H1 (am (j4 x Y))) (news H1 (am (j5 x Y))) [H1.n+0]=true)<|aC 1 (bT qn rfl rfl rfl rfl:bp E 25 (H1.n+0) 12 (.slice x.f.pk x.f.an x.f.ak) (news H1 (am (j5 x Y)))=some (news H1 (am (lQ x Y))))<|aj [] (cU (y1.news (am (j5 x Y))) (aL (am (j5 x Y)) H1 0 _ rfl):bZ (news H1 (am (j5 x Y))) (news H1 (am (lQ x Y))) [H1.n+0]=true)<|Z 1 (ag 3 ct (y1.old aP (am (lQ x Y))))<|ad 0 c2<|ad 0 c3<|Z 1 (cg cv bH ei rfl rfl:ay E 27 (H.n+0) 0 H3=some (.agg (ae x.f).toArray))<|ad 0 cY<|aV 8 Y H4 [H1.n+0,H1.n+0,H1.n+0,H1.n+0,H1.n+0] aQ aZ (congrArg Value.bool (jj (.inl (jp (.inr (.inr ((vj D).trans (by rw [qF,eh,pA] <;> rfl))))))).symm)
   have dD:H2.n+0≤H3.n:=aW.n
   exact aK [aB 0]<|gT [] (de H1 (am (bI x Y))) (aT:(H1.n+0)≠(H.n+0)) (de H1 (am (bI x Y))) (de H1 (am (bI x Y))) (aT:(H1.n+0)≠(H.n+0)) (de H1 (am (bI x Y)))<|gT [] (de H1 (am (bI x Y))) (aT:(H1.n+0)≠(H.n+0)) (de H1 (am (bI x Y))) (de H1 (am (bI x Y))) (aT:(H1.n+0)≠(H.n+0)) (de H1 (am (bI x Y)))<|gT [] (de H1 (am (bI x Y))) (aT:(H1.n+0)≠(H.n+0)) (de H1 (am (bI x Y))) (de H1 (am (bI x Y))) (aT:(H1.n+0)≠(H.n+0)) (de H1 (am (bI x Y)))<|Z 1 (ag 3 ct (y1.old aP (am (bI x Y))))<|Z 1 (ag 9 aJ (y1.old aP (am (bI x Y))))<|Z 1 (ag 10 iI (y1.old aP (am (bI x Y))))<|Z 1 (ag 12 dK (y1.old aP (am (bI x Y))))<|aC 1 (bT oW rfl rfl rfl rfl:bp E 9 (H1.n+0) 3 (.string x.f.s) (news H1 (am (bI x Y)))=some (news H1 (am (gw x Y))))<|aj [] (cU (y1.news (am (bI x Y))) (aL (am (bI x Y)) H1 0 _ rfl):bZ (news H1 (am (bI x Y))) (news H1 (am (gw x Y))) [H1.n+0]=true)<|aC 1 (bT dL rfl rfl rfl rfl:bp E 3 (H1.n+0) 9 (J x.f.how) (news H1 (am (gw x Y)))=some (news H1 (am (j4 x Y))))<|aj [] (cU (y1.news (am (gw x Y))) (aL (am (gw x Y)) H1 0 _ rfl):bZ (news H1 (am (gw x Y))) (news H1 (am (j4 x Y))) [H1.n+0]=true)<|aC 1 (bT uC rfl rfl rfl rfl:bp E 24 (H1.n+0) 10 (.slice x.f.bf x.f.nn x.f.bg) (news H1 (am (j4 x Y)))=some (news H1 (am (j5 x Y))))<|aj [] (cU (y1.news (am (j4 x Y))) (aL (am (j4 x Y)) H1 0 _ rfl):bZ (news H1 (am (j4 x Y))) (news H1 (am (j5 x Y))) [H1.n+0]=true)<|aC 1 (bT qn rfl rfl rfl rfl:bp E 25 (H1.n+0) 12 (.slice x.f.pk x.f.an x.f.ak) (news H1 (am (j5 x Y)))=some (news H1 (am (lQ x Y))))<|aj [] (cU (y1.news (am (j5 x Y))) (aL (am (j5 x Y)) H1 0 _ rfl):bZ (news H1 (am (j5 x Y))) (news H1 (am (lQ x Y))) [H1.n+0]=true)<|Z 1 (ag 3 ct (y1.old aP (am (lQ x Y))))<|ad 0 c2<|ad 0 c3<|aV 9 Y H3 [H1.n+0,H1.n+0,H1.n+0,H1.n+0,H1.n+0] aQ aZ (congrArg Value.bool (jj (.inl (jp (.inr (.inr ((vj D).trans (by rw [qF,eh] <;> rfl))))))).symm)
  refine cS 1 x.f.k 6 ?_ ?_ <;> intro h7 mR
  ·rcases ep x.f.fk with h8 |h8
   ·refine aK [aB 0]<|gT [] (de H1 (am (bI x Y))) (aT:(H1.n+0)≠(H.n+0)) (de H1 (am (bI x Y))) (de H1 (am (bI x Y))) (aT:(H1.n+0)≠(H.n+0)) (de H1 (am (bI x Y)))<|gT [] (de H1 (am (bI x Y))) (aT:(H1.n+0)≠(H.n+0)) (de H1 (am (bI x Y))) (de H1 (am (bI x Y))) (aT:(H1.n+0)≠(H.n+0)) (de H1 (am (bI x Y)))<|gT [] (de H1 (am (bI x Y))) (aT:(H1.n+0)≠(H.n+0)) (de H1 (am (bI x Y))) (de H1 (am (bI x Y))) (aT:(H1.n+0)≠(H.n+0)) (de H1 (am (bI x Y)))<|gT [] (de H1 (am (bI x Y))) (aT:(H1.n+0)≠(H.n+0)) (de H1 (am (bI x Y))) (de H1 (am (bI x Y))) (aT:(H1.n+0)≠(H.n+0)) (de H1 (am (bI x Y)))<|gT [] (de H1 (am (bI x Y))) (aT:(H1.n+0)≠(H.n+0)) (de H1 (am (bI x Y))) (de H1 (am (bI x Y))) (aT:(H1.n+0)≠(H.n+0)) (de H1 (am (bI x Y)))<|Z 1 (ag 1 aJ (y1.old aP (am (bI x Y))))<|aK [aB 0]<|aj [dP aN (news H1 (am (bI x Y)))] ((ag 11 gV (y1.old aP (am (bI x Y)))).trans (congrArg (fun q=>some (Value.bool q)) h8))<|Z 1 (ag 9 aJ (y1.old aP (am (bI x Y))))<|Z 1 (ag 10 iI (y1.old aP (am (bI x Y))))<|Z 1 (ag 12 dK (y1.old aP (am (bI x Y))))<|aC 1 (bT dL rfl rfl rfl rfl:bp E 3 (H1.n+0) 1 (J x.f.op) (news H1 (am (bI x Y)))=some (news H1 (am (mC x Y))))<|aj [] (cU (y1.news (am (bI x Y))) (aL (am (bI x Y)) H1 0 _ rfl):bZ (news H1 (am (bI x Y))) (news H1 (am (mC x Y))) [H1.n+0]=true)<|aC 1 (bT Du rfl rfl rfl rfl:bp E 4 (H1.n+0) 11 aN (news H1 (am (mC x Y)))=some (news H1 (am (y4 x Y aN))))<|aj [] (cU (y1.news (am (mC x Y))) (aL (am (mC x Y)) H1 0 _ rfl):bZ (news H1 (am (mC x Y))) (news H1 (am (y4 x Y aN))) [H1.n+0]=true)<|aC 1 (bT dL rfl rfl rfl rfl:bp E 3 (H1.n+0) 9 (J x.f.how) (news H1 (am (y4 x Y aN)))=some (news H1 (am (y5 x Y aN))))<|aj [] (cU (y1.news (am (y4 x Y aN))) (aL (am (y4 x Y aN)) H1 0 _ rfl):bZ (news H1 (am (y4 x Y aN))) (news H1 (am (y5 x Y aN))) [H1.n+0]=true)<|aC 1 (bT uC rfl rfl rfl rfl:bp E 24 (H1.n+0) 10 (.slice x.f.bf x.f.nn x.f.bg) (news H1 (am (y5 x Y aN)))=some (news H1 (am (y6 x Y aN))))<|aj [] (cU (y1.news (am (y5 x Y aN))) (aL (am (y5 x Y aN)) H1 0 _ rfl):bZ (news H1 (am (y5 x Y aN))) (news H1 (am (y6 x Y aN))) [H1.n+0]=true)<|aC 1 (bT qn rfl rfl rfl rfl:bp E 25 (H1.n+0) 12 (.slice x.f.pk x.f.an x.f.ak) (news H1 (am (y6 x Y aN)))=some (news H1 (am (pn x Y aN))))<|aj [] (cU (y1.news (am (y6 x Y aN))) (aL (am (y6 x Y aN)) H1 0 _ rfl):bZ (news H1 (am (y6 x Y aN))) (news H1 (am (pn x Y aN))) [H1.n+0]=true)<|Z 1 (ag 1 aJ (y1.old aP (am (pn x Y aN))))<|aO 0 (x.f.op≥1) ?_ ?_ <;> intro h9 uw
    ·refine Z 2 (ag 1 aJ (y1.old aP (am (pn x Y aN))))<|aO 0 (x.f.op≤11) ?_ ?_ <;> intro h10 Ag
     ·obtain ⟨_,H2,c2,ar,ah,dC⟩:=fh (LV x X hx a hz (y1.news (am (pn x Y aN))))
      refine Z 2 (cg cv bH (y1.old aP (am (pn x Y aN))) rfl rfl:ay E 27 (H.n+0) 0 (news H1 (am (pn x Y aN)))=some (.agg (ae x.f).toArray))<|?_
      rcases dC with ⟨rfl,cJ⟩ |⟨rfl,cJ⟩
      ·have cl:=dA ar
       have iW:=(y1.news (am (pn x Y aN))).kept ar ai (aL (am (pn x Y aN)) H1 0 _ rfl)
       have cL:=(y1.news (am (pn x Y aN))).kept ar ai (y1.old aP (am (pn x Y aN)))
       refine ad 0 c2<|Z 3 (ag 12 dK cL)<|cS 1 (x.f.an:Int) 2 ?_ ?_ <;> intro h12 Ah
       ·obtain ⟨_,H3,c3,aW,az,fo⟩:=fh (td x X hx a ⟨x.f.k,x.f.op,0,⟨#[]⟩,none,0,0,0,0,false,0,x.f.how,x.f.bf,x.f.nn,x.f.bg,true,x.f.pk,x.f.an,x.f.ak⟩ none 0 0 x.f.bf x.f.nn x.f.bg x.f.pk x.f.an x.f.ak ah (.inr rfl) (.inl ⟨rfl,rfl⟩) (.inl ⟨rfl,rfl⟩) (fun k hk=>uD k hx (hs k hk)))
        refine Z 4 (cg cv bH iW rfl rfl:ay E 27 (H1.n+0) 0 H2=some (.agg (pn x Y aN).toArray))<|Z 0 (cg cv bH cL rfl rfl:ay E 27 (H.n+0) 0 H2=some (.agg (ae x.f).toArray))<|?_
        rcases fo with ⟨rfl,eh⟩ |⟨rfl,eh⟩
        ·have dD:H2.n+0≤H3.n:=aW.n
         exact ad 0 c3<|aV 2 aN H3 [H1.n+0,H1.n+0,H1.n+0,H1.n+0,H1.n+0,H1.n+0] aQ aZ (congrArg Value.bool (r0 (qi D ((Gy D (by assumption)).symm.trans eh) ((nP D).trans (by rw [mb,h9,h10,cJ,h12] <;> rfl))) cM).symm)
        have dD:H2.n+0≤H3.n:=aW.n
        exact ad 0 c3<|aV 2 Y H3 [H1.n+0,H1.n+0,H1.n+0,H1.n+0,H1.n+0,H1.n+0] aQ aZ (congrArg Value.bool (jj (.inl (jp (.inr (.inl ((Gy D (by assumption)).symm.trans eh)))))).symm)
       exact aV 6 Y H2 [H1.n+0,H1.n+0,H1.n+0,H1.n+0,H1.n+0,H1.n+0] aQ aZ (congrArg Value.bool (jj (.inl (jp (.inr (.inr ((nP D).trans (by rw [mb,h9,h10,cJ,h12] <;> rfl))))))).symm)
      have cl:=dA ar
      exact ad 0 c2<|aV 8 Y H2 [H1.n+0,H1.n+0,H1.n+0,H1.n+0,H1.n+0,H1.n+0] aQ aZ (congrArg Value.bool (jj (.inl (jp (.inr (.inr ((nP D).trans (by rw [mb,h9,h10,cJ] <;> rfl))))))).symm)
     exact aV 10 Y (news H1 (am (pn x Y aN))) [H1.n+0,H1.n+0,H1.n+0,H1.n+0,H1.n+0,H1.n+0] aQ aZ (congrArg Value.bool (jj (.inl (jp (.inr (.inr ((nP D).trans (by rw [mb,h9,h10] <;> rfl))))))).symm)
    exact aV 11 Y (news H1 (am (pn x Y aN))) [H1.n+0,H1.n+0,H1.n+0,H1.n+0,H1.n+0,H1.n+0] aQ aZ (congrArg Value.bool (jj (.inl (jp (.inr (.inr ((nP D).trans (by rw [mb,h9] <;> rfl))))))).symm)
   refine aK [aB 0]<|gT [] (de H1 (am (bI x Y))) (aT:(H1.n+0)≠(H.n+0)) (de H1 (am (bI x Y))) (de H1 (am (bI x Y))) (aT:(H1.n+0)≠(H.n+0)) (de H1 (am (bI x Y)))<|gT [] (de H1 (am (bI x Y))) (aT:(H1.n+0)≠(H.n+0)) (de H1 (am (bI x Y))) (de H1 (am (bI x Y))) (aT:(H1.n+0)≠(H.n+0)) (de H1 (am (bI x Y)))<|gT [] (de H1 (am (bI x Y))) (aT:(H1.n+0)≠(H.n+0)) (de H1 (am (bI x Y))) (de H1 (am (bI x Y))) (aT:(H1.n+0)≠(H.n+0)) (de H1 (am (bI x Y)))<|gT [] (de H1 (am (bI x Y))) (aT:(H1.n+0)≠(H.n+0)) (de H1 (am (bI x Y))) (de H1 (am (bI x Y))) (aT:(H1.n+0)≠(H.n+0)) (de H1 (am (bI x Y)))<|gT [] (de H1 (am (bI x Y))) (aT:(H1.n+0)≠(H.n+0)) (de H1 (am (bI x Y))) (de H1 (am (bI x Y))) (aT:(H1.n+0)≠(H.n+0)) (de H1 (am (bI x Y)))<|Z 1 (ag 1 aJ (y1.old aP (am (bI x Y))))<|aK [aB 0]<|aj [dP Y (news H1 (am (bI x Y)))] ((ag 11 gV (y1.old aP (am (bI x Y)))).trans (congrArg (fun q=>some (Value.bool q)) h8))<|Z 1 (ag 9 aJ (y1.old aP (am (bI x Y))))<|Z 1 (ag 10 iI (y1.old aP (am (bI x Y))))<|Z 1 (ag 12 dK (y1.old aP (am (bI x Y))))<|aC 1 (bT dL rfl rfl rfl rfl:bp E 3 (H1.n+0) 1 (J x.f.op) (news H1 (am (bI x Y)))=some (news H1 (am (mC x Y))))<|aj [] (cU (y1.news (am (bI x Y))) (aL (am (bI x Y)) H1 0 _ rfl):bZ (news H1 (am (bI x Y))) (news H1 (am (mC x Y))) [H1.n+0]=true)<|aC 1 (bT Du rfl rfl rfl rfl:bp E 4 (H1.n+0) 11 Y (news H1 (am (mC x Y)))=some (news H1 (am (mC x Y))))<|aj [] (cU (y1.news (am (mC x Y))) (aL (am (mC x Y)) H1 0 _ rfl):bZ (news H1 (am (mC x Y))) (news H1 (am (mC x Y))) [H1.n+0]=true)<|aC 1 (bT dL rfl rfl rfl rfl:bp E 3 (H1.n+0) 9 (J x.f.how) (news H1 (am (mC x Y)))=some (news H1 (am (y7 x Y))))<|aj [] (cU (y1.news (am (mC x Y))) (aL (am (mC x Y)) H1 0 _ rfl):bZ (news H1 (am (mC x Y))) (news H1 (am (y7 x Y))) [H1.n+0]=true)<|aC 1 (bT uC rfl rfl rfl rfl:bp E 24 (H1.n+0) 10 (.slice x.f.bf x.f.nn x.f.bg) (news H1 (am (y7 x Y)))=some (news H1 (am (y8 x Y))))<|aj [] (cU (y1.news (am (y7 x Y))) (aL (am (y7 x Y)) H1 0 _ rfl):bZ (news H1 (am (y7 x Y))) (news H1 (am (y8 x Y))) [H1.n+0]=true)<|aC 1 (bT qn rfl rfl rfl rfl:bp E 25 (H1.n+0) 12 (.slice x.f.pk x.f.an x.f.ak) (news H1 (am (y8 x Y)))=some (news H1 (am (po x Y))))<|aj [] (cU (y1.news (am (y8 x Y))) (aL (am (y8 x Y)) H1 0 _ rfl):bZ (news H1 (am (y8 x Y))) (news H1 (am (po x Y))) [H1.n+0]=true)<|Z 1 (ag 1 aJ (y1.old aP (am (po x Y))))<|aO 0 (x.f.op≥1) ?_ ?_ <;> intro h9 uw
   ·refine Z 2 (ag 1 aJ (y1.old aP (am (po x Y))))<|aO 0 (x.f.op≤11) ?_ ?_ <;> intro h10 Ag
    ·obtain ⟨_,H2,c2,ar,ah,dC⟩:=fh (LV x X hx a hz (y1.news (am (po x Y))))
     refine Z 2 (cg cv bH (y1.old aP (am (po x Y))) rfl rfl:ay E 27 (H.n+0) 0 (news H1 (am (po x Y)))=some (.agg (ae x.f).toArray))<|?_
     rcases dC with ⟨rfl,cJ⟩ |⟨rfl,cJ⟩
     ·have cl:=dA ar
      have iW:=(y1.news (am (po x Y))).kept ar ai (aL (am (po x Y)) H1 0 _ rfl)
      have cL:=(y1.news (am (po x Y))).kept ar ai (y1.old aP (am (po x Y)))
      refine ad 0 c2<|Z 3 (ag 12 dK cL)<|cS 1 (x.f.an:Int) 2 ?_ ?_ <;> intro h12 Ah
      ·obtain ⟨_,H3,c3,aW,az,fo⟩:=fh (td x X hx a ⟨x.f.k,x.f.op,0,⟨#[]⟩,none,0,0,0,0,false,0,x.f.how,x.f.bf,x.f.nn,x.f.bg,false,x.f.pk,x.f.an,x.f.ak⟩ none 0 0 x.f.bf x.f.nn x.f.bg x.f.pk x.f.an x.f.ak ah (.inr rfl) (.inl ⟨rfl,rfl⟩) (.inl ⟨rfl,rfl⟩) (fun k hk=>uD k hx (hs k hk)))
       refine Z 4 (cg cv bH iW rfl rfl:ay E 27 (H1.n+0) 0 H2=some (.agg (po x Y).toArray))<|Z 0 (cg cv bH cL rfl rfl:ay E 27 (H.n+0) 0 H2=some (.agg (ae x.f).toArray))<|?_
       rcases fo with ⟨rfl,eh⟩ |⟨rfl,eh⟩
       ·have dD:H2.n+0≤H3.n:=aW.n
        exact ad 0 c3<|aV 2 aN H3 [H1.n+0,H1.n+0,H1.n+0,H1.n+0,H1.n+0,H1.n+0] aQ aZ (congrArg Value.bool (r0 (qi D ((Gy D (by assumption)).symm.trans eh) ((nP D).trans (by rw [mb,h9,h10,cJ,h12] <;> rfl))) cM).symm)
       have dD:H2.n+0≤H3.n:=aW.n
       exact ad 0 c3<|aV 2 Y H3 [H1.n+0,H1.n+0,H1.n+0,H1.n+0,H1.n+0,H1.n+0] aQ aZ (congrArg Value.bool (jj (.inl (jp (.inr (.inl ((Gy D (by assumption)).symm.trans eh)))))).symm)
      exact aV 6 Y H2 [H1.n+0,H1.n+0,H1.n+0,H1.n+0,H1.n+0,H1.n+0] aQ aZ (congrArg Value.bool (jj (.inl (jp (.inr (.inr ((nP D).trans (by rw [mb,h9,h10,cJ,h12] <;> rfl))))))).symm)
     have cl:=dA ar
     exact ad 0 c2<|aV 8 Y H2 [H1.n+0,H1.n+0,H1.n+0,H1.n+0,H1.n+0,H1.n+0] aQ aZ (congrArg Value.bool (jj (.inl (jp (.inr (.inr ((nP D).trans (by rw [mb,h9,h10,cJ] <;> rfl))))))).symm)
    exact aV 10 Y (news H1 (am (po x Y))) [H1.n+0,H1.n+0,H1.n+0,H1.n+0,H1.n+0,H1.n+0] aQ aZ (congrArg Value.bool (jj (.inl (jp (.inr (.inr ((nP D).trans (by rw [mb,h9,h10] <;> rfl))))))).symm)
   exact aV 11 Y (news H1 (am (po x Y))) [H1.n+0,H1.n+0,H1.n+0,H1.n+0,H1.n+0,H1.n+0] aQ aZ (congrArg Value.bool (jj (.inl (jp (.inr (.inr ((nP D).trans (by rw [mb,h9] <;> rfl))))))).symm)
  refine cS 1 x.f.k 7 ?_ ?_ <;> intro h8 x6
  ·refine Z 2 (ag 12 dK (y1.old aP (am (bI x Y))))<|aC 1 (bT qn rfl rfl rfl rfl:bp E 25 (H1.n+0) 12 (.slice x.f.pk x.f.an x.f.ak) (news H1 (am (bI x Y)))=some (news H1 (am (vp x Y))))<|Z 1 (ag 12 dK (y1.old aP (am (vp x Y))))<|cS 1 (x.f.an:Int) 1 ?_ ?_ <;> intro h9 uw
   ·obtain ⟨_,H2,c2,ar,ah,dC⟩:=fh (td x X hx a ⟨x.f.k,0,0,⟨#[]⟩,none,0,0,0,0,false,0,0,none,0,0,false,x.f.pk,x.f.an,x.f.ak⟩ none 0 0 none 0 0 x.f.pk x.f.an x.f.ak (y1.news (am (vp x Y))) (.inr rfl) (.inr rfl) (.inl ⟨rfl,rfl⟩) (fun k hk=>uD k hx (hs k hk)))
    refine Z 3 (dy cv bH rfl rfl rfl:ay E 27 (H1.n+0) 0 (news H1 (am (vp x Y)))=some (.agg (vp x Y).toArray))<|Z 0 (cg cv bH (y1.old aP (am (vp x Y))) rfl rfl:ay E 27 (H.n+0) 0 (news H1 (am (vp x Y)))=some (.agg (ae x.f).toArray))<|?_
    rcases dC with ⟨rfl,cJ⟩ |⟨rfl,cJ⟩
    ·have cl:=dA ar
     exact ad 0 c2<|aV 2 aN H2 [H1.n+0,H1.n+0] aQ aZ (congrArg Value.bool (r0 (qi D ((RH D).symm.trans cJ) ((w4 D).trans (by rw [vQ,h9] <;> rfl))) cM).symm)
    have cl:=dA ar
    exact ad 0 c2<|aV 2 Y H2 [H1.n+0,H1.n+0] aQ aZ (congrArg Value.bool (jj (.inl (jp (.inr (.inl ((RH D).symm.trans cJ)))))).symm)
   exact aV 5 Y (news H1 (am (vp x Y))) [H1.n+0,H1.n+0] aQ aZ (congrArg Value.bool (jj (.inl (jp (.inr (.inr ((w4 D).trans (by rw [vQ,h9] <;> rfl))))))).symm)
  exact aV 5 Y (news H1 (am (bI x Y))) [H1.n+0] aQ aZ (congrArg Value.bool (jj (.inl (jp (.inl D)))).symm)
 exact bW 3 c1<|al 0 Y H1 (congrArg Value.bool (jj (.inr cM)).symm)
theorem ahP (x:aw) (X:U) (hx:aa E G X) (hs:gm X x):nK x→∀{H:U},aa E X H→aI E X 14 [.agg (ae x.f).toArray] H [] (fun v _=>v=.bool (fb x)):=by
 induction hs with
 |@mk x a hk ih=>
  intro hf H y
  cases hf with
  |mk hz hf=>exact afS x X hx a hz (fun k hk=>ih k hk (hf k hk)) hk y
theorem afV {x:aw} (hn:di x≤64) (h:fb x=true):mS x=true:=by rw [mS,h,decide_eq_true hn];rfl
theorem Su {x:aw} (h:¬ di x≤64∨fb x=false):mS x=false:=by
 rcases h with h |h
 ·rw [mS,decide_eq_false h,Bool.false_and]
 ·rw [mS,h,Bool.and_false]
theorem XF (x:aw) (X:U) (hx:aa E G X) (hs:gm X x) (hf:nK x) {H:U} (y:aa E X H):aI E X 6 [.agg (ae x.f).toArray] H [] (fun v H'=>v=.bool (mS x)):=by
 refine br Tryz.f6 y ?_
 obtain ⟨_,H1,c1,af,y1,b7⟩:=fh (ahP x X hx hs hf (y.news [O (ae x.f) 27]))
 refine Z 2 (dy cv bH rfl rfl rfl:ay E 27 (H.n+0) 0 (news H [O (ae x.f) 27])=some (.agg (ae x.f).toArray))<|?_
 rcases b7 with ⟨rfl,cq⟩ |⟨rfl,cq⟩
 ·have aP:=(y.news [O (ae x.f) 27]).kept af ai (aL [O (ae x.f) 27] H 0 _ rfl)
  obtain ⟨_,H2,c2,ar,ah,rfl⟩:=afg x X hx hs y1
  refine ad 0 c1<|Z 1 (cg cv bH aP rfl rfl:ay E 27 (H.n+0) 0 H1=some (.agg (ae x.f).toArray))<|ad 0 c2<|aO 0 ((di x)≤64) ?_ ?_ <;> intro h2 cw
  ·exact al 2 aN H2 (congrArg Value.bool (afV D cq).symm)
  exact al 2 Y H2 (congrArg Value.bool (Su (.inl D)).symm)
 exact ad 0 c1<|al 3 Y H1 (congrArg Value.bool (Su (.inr cq)).symm)
theorem Ib:nO E #[42,9] 5 1 1=true:=av
def iQ (t:ByteArray):List Value:=(t.data.map fun b=>Value.int .u8 b.toNat).toList
theorem Ht (t:ByteArray):(iQ t).length=t.size:=by simp [iQ]
theorem ahw (t s:ByteArray):iQ t++iQ s=iQ (t++s):=by
 simp [iQ,ByteArray.data_append]
theorem MI (t:ByteArray):(iQ t).all one=true:=by
 rw [List.all_eq_true]
 intro v hv
 simp only [iQ,Array.toList_map,List.mem_map] at hv
 obtain ⟨b,_,rfl⟩:=hv
 rfl
theorem TE:∀ l:List UInt8,m6 (l.map fun b=>Value.int .u8 b.toNat)=some l
 |[]=>rfl
 |b::l=>by
  simp only [List.map_cons,m6,TE l]
  simp
theorem Mu {H:U} (s:ByteArray):hG H 1 (.string s)=some (s.size,iQ s,[]):=rfl
theorem Xr {s d t b o:Nat} {i:TypeInfo} {H:U} {c:List Value} {e:TypeId} (hs:E.ul s=some (.pointer t)) (hd:E.ul d=some .unsafePointer) (hi:E.info t=some i) (hz:Nat.blt 0 i.size=true) (k:H.get b=some (.cells c e false)) (ho:Nat.blt o c.length=true) :
  lO E s d (pt b o) H=some (pt b o,H,[],[b]):=by
 simp only [lO,pt,hs,hd,hi,k,ho,hz,Bool.and_self,cond_true]
theorem Xq {s d u b o:Nat} {i:TypeInfo} {H:U} {c:List Value} {e:TypeId} (hs:E.ul s=some .unsafePointer) (hd:E.ul d=some (.pointer u)) (hi:E.info u=some i) (k:H.get b=some (.cells c e false)) (ho:(E.tight e&&liesAt E.P E.P.depth e (c.length / E.P.cellsOf e) o u 1)=true) :
  lO E s d (pt b o) H=some (pt b o,H,[],[b]):=by
 simp only [lO,pt,hs,hd,hi,k,ho,cond_true]
theorem Vb {T:Nat} (hT:T=44∨T=46) {c:List Value} (hc:c.length=2):(E.tight T&&liesAt E.P E.P.depth T (c.length / E.P.cellsOf T) 0 44 1)=true:=by
 rw [hc]
 rcases hT with rfl |rfl
 ·kernel_rfl
 ·kernel_rfl
theorem aeN {t b e k:Nat} (hu:E.ul t=some (.pointer e)) (hs:E.size e=some (k+1)):Bo E .neq t (pt b 0) (pt b 0)=some Y:=by
 simp only [Bo,sB,pt,hu,hs,Nat.beq_refl,cond_true,Bool.not_true]
noncomputable def TG:TypeInfo:=(E.info 44).getD default
theorem Wd (b:Nat) (sl:Value) (T:Nat) {H:U} (y:aa E G H) (kb:H.get b=some (.cells [.pointer none,sl] T false)) (hT:T=44∨T=46) (cr:G.n≤b):aI E G 83 [pt b 0] H [b] (fun v H'=>v=cZ∧H'.get b=some (.cells [pt b 0,sl] T false)):=by
 refine br Tryz.f83 y ?_
 have zO:=y.wf.lt kb
 obtain ⟨aS,e1⟩:∃ ao,ao=H.set b (.cells [pt b 0,sl] T false):=⟨_,rfl⟩
 have y1:aa E G aS:=e1▸y.set _ D D
 have fP:=bC e1
 exact Z 3 (ag 0 Ih kb)<|eL 3 (Xr (t:=44) (i:=TG) av av av av kb rfl:lO E 41 70 (pt b 0) H=some (pt b 0,H,[],[b]))<|ad 0 (show bE E 105 [pt b 0] H (.ret (pt b 0)) H [] from Rl)<|eL 0 (Xq (u:=44) (i:=TG) av av av kb (Vb hT rfl):lO E 70 41 (pt b 0) H=some (pt b 0,H,[],[b]))<|aC 2 (stx 0 (pt b 0) aht kb e1)<|aV 0 (.tuple #[]) aS [b] bD bi ⟨rfl,fP⟩
theorem Wg (b:Nat) (sl:Value) (T:Nat) {H:U} (y:aa E G H) (kb:H.get b=some (.cells [pt b 0,sl] T false)) (hT:T=44∨T=46) (cr:G.n≤b):aI E G 83 [pt b 0] H [] (fun v H'=>v=cZ∧H'.get b=some (.cells [pt b 0,sl] T false)):=by
 refine br Tryz.f83 y ?_
 exact Z 3 (ag 0 Ih kb)<|Z 4 (ag 0 Ih kb)<|et 1 H (aeN (e:=44) (k:=1) av av:Bo E .neq 41 (pt b 0) (pt b 0)=some Y)<|al 0 (.tuple #[]) H ⟨rfl,kb⟩
theorem aI.wide {E:Env} {G H:U} {g:FuncId} {args:List Value} {V W:List Nat} {Q:Value→U→Prop} (h:aI E G g args H V Q) (s:∀ q∈V,q∈W):aI E G g args H W Q:=by
 obtain ⟨v,H',c,x,y,q⟩:=h
 exact ⟨v,H',c.norm fun q hq=>.inl (s q hq),x.wider s,y,q⟩
theorem Eu (b:Nat) (dE sl:Value) (T:Nat) {H:U} (y:aa E G H) (kb:H.get b=some (.cells [dE,sl] T false)) (hp:dE=.pointer none∨dE=pt b 0) (hT:T=44∨T=46) (cr:G.n≤b):aI E G 83 [pt b 0] H [b] (fun v H'=>v=cZ∧H'.get b=some (.cells [pt b 0,sl] T false)):=by
 rcases hp with rfl |rfl
 ·exact Wd b sl T y kb hT cr
 ·exact aI.wide (Wg b sl T y kb hT cr) bD
theorem UP {ts:Array TypeId} {e sz oo:Nat} (hc:nO E ts e sz oo=true) {H:U} {x:Value} {R:List Nat} {new:List Value} (hs:pP x sz=true) (hx:hG H sz x=some (0,new,R)) (ho:new.all one=true):eW E ts (.slice none 0 0) x H=some (.slice none 0 0,H,[],R):=by
 obtain ⟨i,h1,h2,h3⟩:=Bb hc
 rw [h3 hs hx ho]
 rfl
theorem ag1 {H:U} {s:ByteArray} (h:s.size=0):hG H 1 (.string s)=some (0,iQ s,[]):=by rw [Mu,h]
theorem ahv (t s:ByteArray):((iQ t).drop 0).take (t.size*1)++iQ s=iQ (t++s):=by
 rw [List.drop_zero,Nat.mul_one,← Ht t,List.take_length,ahw]
theorem cm (t s:ByteArray):(t++s).size=t.size+s.size:=ByteArray.size_append
theorem N3 {s:ByteArray} (h:s.size=0):s=ByteArray.empty:=by
 cases s with |mk d=>cases d with |mk l=>cases l with
  |nil=>rfl
  |cons a l=>cases h
theorem aiN (b q:Nat) (dE:Value) (t s:ByteArray) (T:Nat) {H:U} (y:aa E G H) (kb:H.get b=some (.cells [dE,.slice none 0 0] T false)) (hz:s.size=0) (hp:dE=.pointer none∨dE=pt b 0) (hT:T=44∨T=46) (cr:G.n≤b):aI E G 56 [pt b 0,.string s] H [b] (fun v H'=>v=.tuple #[.int .i64 (s.size:Int),.nilIface]∧H'.get b=some (.cells [pt b 0,.slice none 0 0] T false)):=by
 refine br Tryz.f56 y ?_
 have zO:=y.wf.lt kb
 obtain ⟨_,H1,c1,af,y1,rfl,qL⟩:=Eu b dE (.slice none 0 0) T y kb hp hT cr
 have cI:H.n+0≤H1.n:=af.n
 obtain ⟨aF,e2⟩:∃ ao,ao=H1.set b (.cells [pt b 0,.slice none 0 0] T false):=⟨_,rfl⟩
 have ah:aa E G aF:=e2▸y1.set _ D D
 have j7:=bC e2
 exact ad 3 c1<|Z 4 (ag 1 i5 qL)<|eL 1 (UP Ib rfl (ag1 hz) (MI s):eW E #[42,9] (.slice none 0 0) (.string s) H1=some (.slice none 0 0,H1,[],[]))<|aC 2 (stx 1 (.slice none 0 0) Hr qL e2)<|aV 4 (.tuple #[J (s.size:Int),.nilIface]) aF [b,b] bD bi ⟨rfl,j7⟩
theorem aiM (b q:Nat) (dE:Value) (t s:ByteArray) (T:Nat) {H:U} (y:aa E G H) (kb:H.get b=some (.cells [dE,.slice none 0 0] T false)) (hz:0<s.size) (hs:s.size≤1000000000) (hp:dE=.pointer none∨dE=pt b 0) (hT:T=44∨T=46) (cr:G.n≤b):aI E G 56 [pt b 0,.string s] H [b] (fun v H'=>v=.tuple #[.int .i64 (s.size:Int),.nilIface]∧∃ q',H.n≤q'∧H'.get b=some (.cells [pt b 0,sc q' 0 s.size 2] T false)∧H'.get q'=some (O (iQ s) 5)):=by
 refine br Tryz.f56 y ?_
 have zO:=y.wf.lt kb
 obtain ⟨_,H1,c1,af,y1,rfl,qL⟩:=Eu b dE (.slice none 0 0) T y kb hp hT cr
 have cI:H.n+0≤H1.n:=af.n
 obtain ⟨aF,e2⟩:∃ ao,ao=(news H1 [O (iQ s) 5]).set b (.cells [pt b 0,sc (H1.n+0) 0 s.size 2] T false):=⟨_,rfl⟩
 have ah:aa E G aF:=e2▸(y1.news [O (iQ s) 5]).set _ D (by rw [bU];simp only [cj,cF];omega)
 have cl:aF.n=H1.n+1:=by rw [e2,U.cB,bU] <;> rfl
 have iW:=bu e2 D (aL [O (iQ s) 5] H1 0 _ rfl)
 have j7:=bC e2
 exact ad 3 c1<|Z 4 (ag 1 i5 qL)<|eL 1 (wX Ib rfl (Mu s) (MI s) hz D:eW E #[42,9] (.slice none 0 0) (.string s) H1=some (sc (H1.n+0) 0 s.size 2,news H1 [O (iQ s) 5],[],[]))<|aC 2 (stx 1 (sc (H1.n+0) 0 s.size 2) Hr (y1.old qL [O (iQ s) 5]) e2)<|aV 4 (.tuple #[J (s.size:Int),.nilIface]) aF [b,b] bD bi ⟨rfl,H1.n+0,D,j7,iW⟩
theorem T8 (b q:Nat) (dE:Value) (t s:ByteArray) (T:Nat) {H:U} (y:aa E G H) (kb:H.get b=some (.cells [dE,sc q 0 t.size 2] T false)) (aX:H.get q=some (O (iQ t) 5)) (hs:t.size+s.size≤1000000000) (aY:G.n≤q) (ZF:q≠b) (hp:dE=.pointer none∨dE=pt b 0) (hT:T=44∨T=46) (cr:G.n≤b):aI E G 56 [pt b 0,.string s] H [b,q] (fun v H'=>v=.tuple #[.int .i64 (s.size:Int),.nilIface]∧∃ q',H.n≤q'∧H'.get b=some (.cells [pt b 0,sc q' 0 (t.size+s.size) 2] T false)∧H'.get q'=some (O (iQ (t++s)) 5)):=by
 refine br Tryz.f56 y ?_
 have zO:=y.wf.lt kb
 have iX:=y.wf.lt aX
 obtain ⟨_,H1,c1,af,y1,rfl,qL⟩:=Eu b dE (sc q 0 t.size 2) T y kb hp hT cr
 have cI:H.n+0≤H1.n:=af.n
 have cE:=y.kept af bB aX
 obtain ⟨aF,e2⟩:∃ ao,ao=(H1.set q .dead).new (O (iQ (t++s)) 5):=⟨_,rfl⟩
 have ah:aa E G aF:=th y1 e2 D D
 have cl:aF.n=H1.n+1:=by rw [ti e2] <;> rfl
 have iW:aF.get (H1.n+0)=some (O (iQ (t++s)) 5):=tj e2
 have j7:=lF y1 e2 D qL
 obtain ⟨bk,aM⟩:∃ ao,ao=aF.set b (.cells [pt b 0,sc (H1.n+0) 0 (t.size+s.size) 2] T false):=⟨_,rfl⟩
 have az:aa E G bk:=aM▸ah.set _ D D
 have dD:bk.n=aF.n+0:=by rw [aM,U.cB] <;> rfl
 have t4:=bC aM
 have Cc:=bu aM D iW
 exact ad 3 c1<|Z 4 (ag 1 i5 qL)<|eL 1 (show eW E #[42,9] (sc q 0 t.size 2) (.string s) H1=some (sc (H1.n+0) 0 (t.size+s.size) 2,aF,[q],[q]) from (sk Ib rfl (Mu s) (MI s) cE (by rw [Ht];omega) D).trans (by rw [ahv,e2] <;> rfl))<|aC 2 (stx 1 (sc (H1.n+0) 0 (t.size+s.size) 2) Hr j7 aM)<|aV 4 (.tuple #[J (s.size:Int),.nilIface]) bk [b,q,b] bD bi ⟨rfl,H1.n+0,D,t4,Cc⟩
theorem V3:E.P.cellsOf 5=1:=av
theorem ah3 {q:Nat} {t:ByteArray} {H:U} (aX:H.get q=some (O (iQ t) 5)) (h0:0<t.size) (hm:t.size≤1000000000):yk E #[64,3] (pt q 0) (.int .i64 (t.size:Int)) H=some (.string t,H.set q .dead,[q],[q]):=by
 have hu:E.ul 64=some (.pointer 5):=by kernel_rfl
 have hl:=Ht t
 have hr:row H q 0 t.size=some (iQ t):=by rw [GV aX D,List.drop_zero,← hl,List.take_length]
 have hb:m6 (iQ t)=some t.data.toList:=by
  have:=TE t.data.toList
  rw [← this]
  congr 1
  simp [iQ]
 have c1:(decide ((0:Int)<t.size)&&decide ((t.size:Int)≤(most:Int))&&Nat.beq (E.P.cellsOf 5) 1&&Nat.beq 5 5)=true:=by
  have a1:decide ((0:Int)<t.size)=true:=decide_eq_true D
  have a2:decide ((t.size:Int)≤(most:Int))=true:=decide_eq_true (by show (t.size:Int)≤1099511627776;omega)
  rw [a1,a2,V3];rfl
 show ((match E.ul 64,H.get q with
  |some (.pointer e),some (.cells cs e' false)=>
   bif decide ((0:Int)<t.size)&&decide ((t.size:Int)≤(most:Int))&&Nat.beq (E.P.cellsOf e) 1&&Nat.beq e e' then
    match row H q 0 (t.size:Int).toNat with
    |some xs=>match m6 xs with
     |some s=>some (.string ⟨s.toArray⟩,H.set q .dead,[q],[q])
     |none=>none
    |none=>none
   else none
  |_,_=>none):pd)=_
 rw [hu,aX]
 simp only [c1,cond_true,Int.toNat_natCast,hr,hb,Array.toArray_toList]
theorem ah1 {q n:Nat} (h:0<n):yj (sc q 0 n 2)=some (pt q 0):=by
 show (bif Nat.blt 0 n then some (pt q 0) else none)=_
 rw [show Nat.blt 0 n=true from Nat.ble_eq_true_of_le h];rfl
theorem ag7 (b:Nat) (dE:Value) (T:Nat) {H:U} (y:aa E G H) (kb:H.get b=some (.cells [dE,.slice none 0 0] T false)) (hT:T=44∨T=46) (cr:G.n≤b):aI E G 17 [pt b 0] H [] (fun v H'=>v=.string ⟨#[]⟩):=by
 refine br Tryz.f17 y ?_
 exact aK [aB 0]<|Z 3 (ag 1 i5 kb)<|et 0 H (show yj (.slice none 0 0)=some (.pointer none) from rfl)<|Z 3 (ag 1 i5 kb)<|eL 1 (show yk E #[64,3] (.pointer none) (J 0) H=some (.string ⟨#[]⟩,H,[],[]) from rfl)<|al 1 (.string ⟨#[]⟩) H rfl
theorem Tu (b q:Nat) (dE:Value) (t:ByteArray) (T:Nat) {H:U} (y:aa E G H) (kb:H.get b=some (.cells [dE,sc q 0 t.size 2] T false)) (aX:H.get q=some (O (iQ t) 5)) (h0:0<t.size) (hs:t.size≤1000000000) (aY:G.n≤q) (ZF:q≠b) (hT:T=44∨T=46) (cr:G.n≤b):aI E G 17 [pt b 0] H [q] (fun v H'=>v=.string t):=by
 refine br Tryz.f17 y ?_
 have iX:=y.wf.lt aX
 obtain ⟨aS,e1⟩:∃ ao,ao=H.set q .dead:=⟨_,rfl⟩
 exact aK [aB 0]<|Z 3 (ag 1 i5 kb)<|et 0 H (ah1 h0:yj (sc q 0 t.size 2)=some (pt q 0))<|Z 3 (ag 1 i5 kb)<|eL 1 (show yk E #[64,3] (pt q 0) (J (t.size:Int)) H=some (.string t,aS,[q],[q]) from (ah3 aX h0 hs).trans (by rw [e1]))<|aj [] (cU y aX:bZ H aS [q]=true)<|aV 1 (.string t) aS [q] bD bi rfl
def cn (H:U) (b:Nat) (t:ByteArray) (T q:Nat):Prop:=
 ∃ dE:Value,(dE=.pointer none∨dE=pt b 0)∧
  ((t.size=0∧q=b∧H.get b=some (.cells [dE,.slice none 0 0] T false))∨
   (0<t.size∧q≠b∧H.get b=some (.cells [dE,sc q 0 t.size 2] T false)∧H.get q=some (.cells (iQ t) 5 false)))
theorem cn.lt {H:U} {b T q:Nat} {t:ByteArray} (h:cn H b t T q) {E:Env} {G:U} (y:aa E G H):b<H.n∧q<H.n:=by
 obtain ⟨dE,_,⟨_,rfl,k⟩ |⟨_,_,k,aX⟩⟩:=h
 ·exact ⟨y.wf.lt k,y.wf.lt k⟩
 ·exact ⟨y.wf.lt k,y.wf.lt aX⟩
theorem cn.move {H H':U} {b T q:Nat} {t:ByteArray} (h:cn H b t T q) (kp:∀ i o,i=b∨i=q→H.get i=some o→H'.get i=some o):cn H' b t T q:=by
 obtain ⟨dE,hp,⟨h0,rfl,k⟩ |⟨h0,hq,k,aX⟩⟩:=h
 ·exact ⟨dE,hp,.inl ⟨h0,rfl,kp _ _ (.inl rfl) k⟩⟩
 ·exact ⟨dE,hp,.inr ⟨h0,hq,kp _ _ (.inl rfl) k,kp _ _ (.inr rfl) aX⟩⟩
theorem cn.news {H:U} {b T q:Nat} {t:ByteArray} {E:Env} {G:U} (y:aa E G H) (h:cn H b t T q) (l:List df):cn (Go.Am.news H l) b t T q:=h.move fun _ _ _ k=>y.old k l
theorem cn.kept {H H':U} {b T q:Nat} {t:ByteArray} {E:Env} {G:U} {V:List Nat} (y:aa E G H) (h:cn H b t T q) (x:cX V H H') (hb:b∉V) (hq:q∉V):cn H' b t T q:=h.move fun i _ hi k=>y.kept x (by rcases hi with rfl |rfl <;> assumption) k
theorem cn.start {H:U} {b T:Nat} (k:H.get b=some (.cells [.pointer none,.slice none 0 0] T false)):cn H b ByteArray.empty T b:=⟨_,.inl rfl,.inl ⟨rfl,rfl,k⟩⟩
theorem O1 {t:ByteArray} (h:t.size=0) (s:ByteArray):t++s=s:=by rw [N3 h];exact ByteArray.empty_append
theorem aiL (b q T:Nat) (t s:ByteArray) {H:U} (y:aa E G H) (B:cn H b t T q) (hT:T=44∨T=46) (cr:G.n≤b) (aY:G.n≤q) (hs:t.size+s.size≤1000000000):aI E G 56 [pt b 0,.string s] H [b,q] (fun v H'=>v=.tuple #[.int .i64 (s.size:Int),.nilIface]∧∃ q',cn H' b (t++s) T q'∧G.n≤q'∧(q'=b∨H.n≤q')):=by
 have gn:=y.n
 obtain ⟨dE,hp,⟨h0,rfl,k⟩ |⟨h0,hq,k,aX⟩⟩:=B
 ·by_cases hz:s.size=0
  ·exact (aI.wide (aiN q q dE t s T y k hz hp hT cr) bD).mono fun v H' ⟨e,k'⟩=>⟨e,q,⟨_,.inr rfl,.inl ⟨by rw [cm];omega,rfl,k'⟩⟩,cr,.inl rfl⟩
  ·refine (aI.wide (aiM q q dE t s T y k D D hp hT cr) bD).mono fun v H' ⟨e,q',pD,k1,k2⟩=>⟨e,q',⟨_,.inr rfl,.inr ⟨by rw [cm];omega,?_,?_,?_⟩⟩,D,.inr pD⟩
   ·have:=y.wf.lt k;omega
   ·rw [O1 h0];exact k1
   ·rw [O1 h0];exact k2
 ·refine (T8 b q dE t s T y k aX hs aY hq hp hT cr).mono fun v H' ⟨e,q',pD,k1,k2⟩=>⟨e,q',⟨_,.inr rfl,.inr ⟨by rw [cm];omega,?_,?_,k2⟩⟩,D,.inr pD⟩
  ·have:=y.wf.lt k;omega
  ·rw [cm];exact k1
theorem ag8 (b q T:Nat) (t:ByteArray) {H:U} (y:aa E G H) (B:cn H b t T q) (hT:T=44∨T=46) (cr:G.n≤b) (aY:G.n≤q) (hs:t.size≤1000000000):aI E G 17 [pt b 0] H [q] (fun v H'=>v=.string t):=by
 obtain ⟨dE,hp,⟨h0,rfl,k⟩ |⟨h0,hq,k,aX⟩⟩:=B
 ·exact (aI.wide (ag7 q dE T y k hT cr) bD).mono fun v H' e=>by rw [e,N3 h0];rfl
 ·exact Tu b q dE t T y k aX h0 hs aY hq hT cr
def bX:List ByteArray→ByteArray
 |[]=>ByteArray.empty
 |w::l=>w++bX l
theorem P0 {ws:List ByteArray} {i:Nat} {w t R:ByteArray} (hw:(eH ws)[i]?=some (.string w)) (h:t++bX (ws.drop i)=R):(t++w)++bX (ws.drop (i+1))=R:=by
 simp only [eH,List.getElem?_map,Option.map_eq_some_iff] at hw
 obtain ⟨a,ha,e⟩:=hw
 cases e
 obtain ⟨hi,rfl⟩:=List.getElem?_eq_some_iff.1 ha
 rw [List.drop_eq_getElem_cons hi] at h
 rw [← h,bX,ByteArray.append_assoc]
theorem abb {ws:List ByteArray} {i:Nat} {t R:ByteArray} (hi:ws.length≤i) (h:t++bX (ws.drop i)=R):t=R:=by
 rw [List.drop_eq_nil_of_le hi] at h
 rw [← h];exact ByteArray.append_empty.symm
theorem abc {t w l R:ByteArray} (h:(t++w)++l=R):t.size+w.size≤R.size:=by
 rw [← h,cm,cm];omega
noncomputable def WS:Code:=cN [1,0,0] (cH Tryz.f29)
theorem R3 (a:Nat) (b:Nat) (ws:List ByteArray) (c:Nat) (R:ByteArray) (N:Nat) (q0:Nat):∀(m:Nat) (cx:Int) (q:Nat) (t:ByteArray) (H:U),aa E G H→(ka:H.get a=some (O (eH ws) 9))→(hB:cn H b t 46 q)→(hl:ws.length<100000)→(x0:0≤cx)→(hR:t++bX (ws.drop cx.toNat)=R)→(hs:R.size≤1000000000)→(cr:G.n≤b)→(aY:G.n≤q)→(rh:a≠b)→(tH:a≠q)→(wj:q=b∨q=q0∨N≤q)→(hN:N≤H.n)→((ws.length:Int)-cx).toNat=m→
  cy E G 18 WS [(0,pt b 0),(6,sc a 0 ws.length c),(7,J (ws.length:Int)),(8,J cx)] H [b,q] (fun x T H'=>(x=(.exit 0)∧∃(kf:Nat),T=bl []∧(cn H' b R 46 kf∧G.n≤kf∧(kf=b∨kf=q0∨N≤kf)))):=by
 refine d8 fun m ih=>?_
 intro cx q t H y ka hB hl x0 hR hs cr aY rh tH wj hN hm
 refine c9 y ?_
 have KN:=y.wf.lt ka
 refine aO 0 (cx<(ws.length:Int)) ?_ ?_ <;> intro h1 q1
 ·obtain ⟨jr,sV,lX⟩:=yr (ws:=ws) (i:=cx.toNat) D
  obtain ⟨_,H1,c1,af,y1,rfl,q1,fq,gX,fL⟩:=aiL b q 46 t jr y hB (.inr rfl) cr aY (by have:=abc (P0 lX hR);omega)
  have cI:H.n+0≤H1.n:=af.n
  have sS:=fq.lt y1
  have Cb:=y.kept af bB ka
  exact bR 0 cx (ws.length:Int)<|Z 0 (show ay E 9 a (0+cx.toNat*1) H=some (.string jr) from d7 ct ka (show (eH ws)[0+cx.toNat*1]?=_ by rw [show 0+cx.toNat*1=cx.toNat by omega];exact lX))<|ad 5 c1<|ap 0 (cx+1)<|kW 1 [(0,pt b 0),(6,sc a 0 ws.length c),(7,J (ws.length:Int)),(8,J (cx+1))] H1 [b,q] bD aQ (ih _ D (cx+1) q1 (t++jr) _ y1 Cb fq hl D (by rw [fR D];exact P0 lX hR) hs cr gX rh D D D rfl)
 exact en 0 [] (.exit 0) H [] aZ bi ⟨rfl,q,rfl,⟨abb D hR▸hB,aY,wj⟩⟩
theorem aeR (a b q:Nat) (ws:List ByteArray) (c:Nat) (t:ByteArray) {H:U} (y:aa E G H) (ka:H.get a=some (O (eH ws) 9)) (hB:cn H b t 46 q) (hl:ws.length<100000) (hs:(t++bX ws).size≤1000000000) (cr:G.n≤b) (aY:G.n≤q) (rh:a≠b) (tH:a≠q):aI E G 29 [pt b 0,sc a 0 ws.length c] H [b,q] (fun v H'=>v=cZ∧∃ q',cn H' b (t++bX ws) 46 q'∧G.n≤q'∧(q'=b∨q'=q∨H.n≤q')):=by
 refine br Tryz.f29 y ?_
 obtain ⟨_,_,H1,c1,af,y1,rfl,LM,rfl,Jq⟩:=(R3 a b ws c (t++bX ws) H.n q _ 0 q t _ y ka hB hl D rfl hs cr aY rh tH (.inr (.inl rfl)) (Nat.le_refl _) rfl).code
 exact bW 3 c1<|aV 0 (.tuple #[]) H1 [b,q] bD bi ⟨rfl,LM,Jq⟩
end Go.Proofs.YtbehemdcaiigeaaGreatDoor
