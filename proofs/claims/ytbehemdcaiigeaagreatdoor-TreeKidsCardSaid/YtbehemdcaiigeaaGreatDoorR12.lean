/- Part of the proof that TreeKids answers true. -/
import Derived.Test.YtbehemdcaiigeaaGreatDoorR11
import Derived.Test.YtbehemdcaiigeaaGreatDoorR10
import Derived.Test.YtbehemdcaiigeaaGreatDoorR07
import Derived.ChangeArms
import Derived.OpenShut
import Derived.Test.YtbehemdcaiigeaaGreatDoorRows
import Derived.LaidHandle
import Derived.FnData
set_option linter.unusedVariables false
set_option linter.unusedSimpArgs false
set_option maxRecDepth 100000
set_option maxHeartbeats 4000000
namespace Go.Proofs.YtbehemdcaiigeaaGreatDoor
open Go Go.Am
theorem Ny:nO E #[24,24] 9 1 16=true:=av
structure si (x:aw):Prop where
 nm:x.f.nm≤10
 w0:0≤x.f.wide
 w1:x.f.wide≤35184372088832
 o0:-35184372088832≤x.f.off
 o1:x.f.off≤35184372088832
 a0:-1125899906842624≤x.f.at_
 a1:x.f.at_≤1125899906842624
 ops:∀ m∈x.ms,1≤m.1∧m.1≤4
theorem MX {k:Int} (h0:1≤k) (h1:k≤4):(mq k).size≤2:=by
 rcases show k=1∨k=2∨k=3∨k=4 by omega with rfl |rfl |rfl |rfl <;> decide
theorem agW {l:List ByteArray} {w:ByteArray}:(l++[w]).length=l.length+1:=by simp
theorem SZ (l:List ByteArray):(eH l).length=l.length:=by simp [eH]
theorem aiO (l:List ByteArray) (w:ByteArray):((eH l).drop 0).take (l.length*1)++[Value.string w]=eH (l++[w]):=by
 rw [List.drop_zero,Nat.mul_one,← SZ l,List.take_length]
 simp [eH]
theorem QU {ms:List fS} {i:Nat} {m:fS} (h:ms[i]?=some m):(ms.take i).map no++[no m]=(ms.take (i+1)).map no:=by
 obtain ⟨hi,rfl⟩:=List.getElem?_eq_some_iff.1 h
 rw [List.take_succ_eq_append_getElem hi,List.map_append];rfl
noncomputable def WM:Code:=cN [1,1,0,1,0,1,0,1,0,0] (cH Tryz.f33)
noncomputable abbrev m8 (au:fS):=([.string ((au.2.1++(mq au.1))++(kC au.2.2))]:List Value)
noncomputable abbrev z2 H1 (au:fS):=news H1 (dJ (m8 au))
noncomputable abbrev Re H:=news H [O [J 0,.string ⟨#[]⟩,.string ⟨#[]⟩] 39]
noncomputable abbrev m9 (au:fS):=([J au.1,.string au.2.1,.string au.2.2]:List Value)
noncomputable abbrev F0 H (au:fS):=news H (i9 (m9 au))
theorem ael (x:aw) (X:U) (hx:aa E G X) (a:dG X x) (ok:si x) (sh:gN x=true) (b bw:Nat):∀(m:Nat) (jE:Int) (q:Nat) (ws:List ByteArray) (H:U),aa E X H→(is:H.get bw=some (O (ae x.f) 27))→(aX:H.get q=some (O (eH ws) 9))→(x0:0≤jE)→(hw:ws=(x.ms.take jE.toNat).map no)→(aY:X.n≤q)→(dq:bw≠q)→((x.f.nm:Int)-jE).toNat=m→
  cy E X 77 WM [(0,pt b 0),(3,pt bw 0),(4,sc q 0 ws.length 2),(22,.slice x.f.pm x.f.nm x.f.bj),(23,J (x.f.nm:Int)),(24,J jE)] H [q] (fun eI T H'=>(eI=(.exit 0)∧T=bl [(0,pt b 0),(3,pt bw 0),(4,.slice none 0 0)]∧(x.ms=[]))∨(eI=(.exit 0)∧∃(iS:Nat) (yJ:List ByteArray),T=bl [(0,pt b 0),(3,pt bw 0),(4,sc iS 0 yJ.length 2)]∧(yJ=x.ms.map no∧H'.get iS=some (O (eH yJ) 9)∧X.n≤iS))):=by
 refine d8 fun m ih=>?_
 intro jE q ws H y is aX x0 hw aY dq hm
 have bm:=a.bm
 have xU:=ok.nm
 have hnm:=a.nm
 have PL:ws.length≤10:=by rw [hw,List.length_map,List.length_take];omega
 refine c9 y ?_
 have Cv:=y.wf.lt is
 have iX:=y.wf.lt aX
 refine aO 0 (jE<(x.f.nm:Int)) ?_ ?_ <;> intro h1 q1
 ·obtain ⟨d1,jC,t1,eE,dh⟩:=a.wx.open D
  have eG:=hx.wf.lt dh
  obtain ⟨au,m2⟩:=a.xQ (i:=jE.toNat) D
  have C1:=ok.ops au (lb m2)
  have agV:=Ha sh au (lb m2)
  have aiP:=MX C1.1 C1.2
  have aeW:=GC au.2.2
  obtain ⟨_,H1,c1,af,y1,r1,rfl,tW,Ky⟩:=T2 hx (y.news (i9 (m9 au)))
  have cI:=dA af
  have g1:=y1.n
  have aP:=(y.news (i9 (m9 au))).kept af ai (aL (i9 (m9 au)) H 0 _ rfl)
  have w1:0≤(au.1-1):=by (have e1:ByteArray.size ⟨#[34]⟩=1:=rfl;(try simp only [cm]);omega)
  have w2:(au.1-1)<(4:Int):=by (have e1:ByteArray.size ⟨#[34]⟩=1:=rfl;(try simp only [cm]);omega)
  have w3:ByteArray.size au.2.1+ByteArray.size (mq au.1)≤1000000000:=by (have e1:ByteArray.size ⟨#[34]⟩=1:=rfl;(try simp only [cm]);omega)
  have eo:ByteArray.size (au.2.1++(mq au.1))+ByteArray.size (kC au.2.2)≤1000000000:=by (have e1:ByteArray.size ⟨#[34]⟩=1:=rfl;(try simp only [cm]);omega)
  have cE:=(y.news (i9 (m9 au))).kept af ai (y.old aX (i9 (m9 au)))
  obtain ⟨aF,e2⟩:∃ ao,ao=((z2 H1 au).set q .dead).new (O (eH (ws++[(au.2.1++(mq au.1))++(kC au.2.2)])) 9):=⟨_,rfl⟩
  have ah:aa E X aF:=th (y1.news (dJ (m8 au))) e2 D (by rw [bU];simp only [cj,cF];omega)
  have cl:aF.n=H1.n+2:=by rw [ti e2,bU] <;> rfl
  have abg:aF.get (H1.n+1)=some (O (eH (ws++[(au.2.1++(mq au.1))++(kC au.2.2)])) 9):=tj e2
  have fz:=(y.news (i9 (m9 au))).kept af ai (y.old is (i9 (m9 au)))
  have kQ:=lF (y1.news (dJ (m8 au))) e2 D (y1.old fz (dJ (m8 au)))
  exact et 0 H (gz tg AI eE D D:fE E 23 (.slice x.f.pm x.f.nm x.f.bj) (J jE)=some (pt d1 (0+jE.toNat*3)))<|Z 0 (zP NA AI (y.cell dh eG) m2 D:ay E 39 d1 (0+jE.toNat*3) H=some (.agg (m9 au).toArray))<|aC 1 (bT AI rfl rfl rfl rfl:bp E 39 (H.n+0) 0 (.agg (m9 au).toArray) (Re H)=some (F0 H au))<|Z 2 (aR (F0 H au) 0 1 ct)<|ad 0 c1<|Z 1 (ag 0 aJ aP)<|ap 0 (au.1-1)<|eM [.ak] w1 w2<|Z 0 (d7 ct Ky (T1 D D):ay E 9 r1 (0+(au.1-1).toNat*1) H1=some (.string (mq au.1)))<|aj [.ak] w3<|Z 1 (ag 2 ct aP)<|ad 0 (LO au.2.2 D (gg hx y1))<|aj [.ak] eo<|eL 1 (show eW E #[24,24] (sc q 0 ws.length 2) (sc (H1.n+0) 0 1 3) (z2 H1 au)=some (sc (H1.n+1) 0 ((ws++[(au.2.1++(mq au.1))++(kC au.2.2)]).length) 2,aF,[q],[q,H1.n+0]) from (sk Ny rfl (show hG (z2 H1 au) 1 (sc (H1.n+0) 0 1 3)=some (1,[.string ((au.2.1++(mq au.1))++(kC au.2.2))],[H1.n+0]) from gt (aL (dJ (m8 au)) H1 0 _ rfl) (ec rfl)) rfl (y1.old cE (dJ (m8 au))) (by rw [SZ];omega) D).trans (by rw [aiO ws ((au.2.1++(mq au.1))++(kC au.2.2)),agW,e2] <;> rfl))<|aj [] (cU (y1.news (dJ (m8 au))) (y1.old cE (dJ (m8 au))):bZ (z2 H1 au) aF [q]=true)<|ap 1 (jE+1)<|kW 1 [(0,pt b 0),(3,pt bw 0),(4,sc (H1.n+1) 0 ((ws++[(au.2.1++(mq au.1))++(kC au.2.2)]).length) 2),(22,.slice x.f.pm x.f.nm x.f.bj),(23,J (x.f.nm:Int)),(24,J (jE+1))] aF [H.n+0,q] aQ aQ (ih _ D (jE+1) (H1.n+1) (ws++[(au.2.1++(mq au.1))++(kC au.2.2)]) _ ah kQ abg D (by rw [hw,fR D];exact QU m2) D D rfl)
 exact en 0 [(0,pt b 0),(3,pt bw 0),(4,sc q 0 ws.length 2)] (.exit 0) H [] aZ bi (.inr ⟨rfl,q,ws,rfl,⟨by rw [hw,List.take_of_length_le D],aX,aY⟩⟩)
noncomputable def WL:Code:=cN [1,1,0,1,0,1,0,1,0,0] (cH Tryz.f33)
noncomputable abbrev Rf H1 (au:fS):=news H1 [O (m8 au) 9,O (m8 au) 9]
theorem RY (x:aw) (X:U) (hx:aa E G X) (a:dG X x) (ok:si x) (sh:gN x=true) (b bw:Nat):∀(m:Nat) (jE:Int) (H:U),aa E X H→(is:H.get bw=some (O (ae x.f) 27))→(x0:jE=0)→((x.f.nm:Int)-jE).toNat=m→
  cy E X 77 WL [(0,pt b 0),(3,pt bw 0),(4,.slice none 0 0),(22,.slice x.f.pm x.f.nm x.f.bj),(23,J (x.f.nm:Int)),(24,J jE)] H [] (fun eI T H'=>(eI=(.exit 0)∧T=bl [(0,pt b 0),(3,pt bw 0),(4,.slice none 0 0)]∧(x.ms=[]))∨(eI=(.exit 0)∧∃(iS:Nat) (yJ:List ByteArray),T=bl [(0,pt b 0),(3,pt bw 0),(4,sc iS 0 yJ.length 2)]∧(yJ=x.ms.map no∧H'.get iS=some (O (eH yJ) 9)∧X.n≤iS))):=by
 refine d8 fun m ih=>?_
 intro jE H y is x0 hm
 have bm:=a.bm
 have xU:=ok.nm
 have hnm:=a.nm
 refine c9 y ?_
 have Cv:=y.wf.lt is
 refine aO 0 (jE<(x.f.nm:Int)) ?_ ?_ <;> intro h1 q1
 ·obtain ⟨d1,jC,t1,eE,dh⟩:=a.wx.open D
  have eG:=hx.wf.lt dh
  obtain ⟨au,m2⟩:=a.xQ (i:=jE.toNat) D
  have C1:=ok.ops au (lb m2)
  have agV:=Ha sh au (lb m2)
  have aiP:=MX C1.1 C1.2
  have aeW:=GC au.2.2
  obtain ⟨_,H1,c1,af,y1,r1,rfl,tW,Ky⟩:=T2 hx (y.news (i9 (m9 au)))
  have cI:=dA af
  have g1:=y1.n
  have aP:=(y.news (i9 (m9 au))).kept af ai (aL (i9 (m9 au)) H 0 _ rfl)
  have w1:0≤(au.1-1):=by (have e1:ByteArray.size ⟨#[34]⟩=1:=rfl;(try simp only [cm]);omega)
  have w2:(au.1-1)<(4:Int):=by (have e1:ByteArray.size ⟨#[34]⟩=1:=rfl;(try simp only [cm]);omega)
  have w3:ByteArray.size au.2.1+ByteArray.size (mq au.1)≤1000000000:=by (have e1:ByteArray.size ⟨#[34]⟩=1:=rfl;(try simp only [cm]);omega)
  have eo:ByteArray.size (au.2.1++(mq au.1))+ByteArray.size (kC au.2.2)≤1000000000:=by (have e1:ByteArray.size ⟨#[34]⟩=1:=rfl;(try simp only [cm]);omega)
  have fz:=(y.news (i9 (m9 au))).kept af ai (y.old is (i9 (m9 au)))
  exact et 0 H (gz tg AI eE D D:fE E 23 (.slice x.f.pm x.f.nm x.f.bj) (J jE)=some (pt d1 (0+jE.toNat*3)))<|Z 0 (zP NA AI (y.cell dh eG) m2 D:ay E 39 d1 (0+jE.toNat*3) H=some (.agg (m9 au).toArray))<|aC 1 (bT AI rfl rfl rfl rfl:bp E 39 (H.n+0) 0 (.agg (m9 au).toArray) (Re H)=some (F0 H au))<|Z 2 (aR (F0 H au) 0 1 ct)<|ad 0 c1<|Z 1 (ag 0 aJ aP)<|ap 0 (au.1-1)<|eM [.ak] w1 w2<|Z 0 (d7 ct Ky (T1 D D):ay E 9 r1 (0+(au.1-1).toNat*1) H1=some (.string (mq au.1)))<|aj [.ak] w3<|Z 1 (ag 2 ct aP)<|ad 0 (LO au.2.2 D (gg hx y1))<|aj [.ak] eo<|eL 1 (show eW E #[24,24] (.slice none 0 0) (sc (H1.n+0) 0 1 3) (z2 H1 au)=some (sc (H1.n+1) 0 1 2,Rf H1 au,[],[H1.n+0]) from wX Ny rfl (show hG (z2 H1 au) 1 (sc (H1.n+0) 0 1 3)=some (1,[.string ((au.2.1++(mq au.1))++(kC au.2.2))],[H1.n+0]) from gt (aL (dJ (m8 au)) H1 0 _ rfl) (ec rfl)) rfl (by decide) (by decide))<|ap 1 (jE+1)<|kW 1 [(0,pt b 0),(3,pt bw 0),(4,sc (H1.n+1) 0 1 2),(22,.slice x.f.pm x.f.nm x.f.bj),(23,J (x.f.nm:Int)),(24,J (jE+1))] (Rf H1 au) [H.n+0] aQ aQ (ael x X hx a ok sh b bw _ (jE+1) (H1.n+1) ([(au.2.1++(mq au.1))++(kC au.2.2)]) _ (y1.news [O (m8 au) 9,O (m8 au) 9]) (y1.old fz [O (m8 au) 9,O (m8 au) 9]) (aL [O (m8 au) 9,O (m8 au) 9] H1 1 _ rfl) D (by rw [fR D,← QU m2,x0];rfl) D D rfl)
 exact dF 0 [(0,pt b 0),(3,pt bw 0),(4,.slice none 0 0)] (.exit 0) H (.inl ⟨rfl,rfl,List.length_eq_zero_iff.1 D⟩)
theorem Hu (v:Int):-(v.natAbs:Int)≤Int.tdiv v 1000∧Int.tdiv v 1000≤v.natAbs:=by
 rcases Int.le_total 0 v with h |h
 ·rw [Int.tdiv_eq_ediv_of_nonneg h];omega
 ·have e:Int.tdiv v 1000=-((-v) / 1000):=by
   rw [← Int.tdiv_eq_ediv_of_nonneg (show 0≤-v by omega),Int.neg_tdiv];omega
  rw [e];omega
noncomputable def WQ:Code:=cN [1,1,1,0] (cH Tryz.f33)
noncomputable abbrev IN (x:aw):=([.string ⟨#[91]⟩,.string (mK x.f.wide),.string ⟨#[93]⟩]:List Value)
theorem aeu (x:aw) (X:U) (hx:aa E G X) (a:dG X x) (ok:si x) (sh:gN x=true) (b bw:Nat) (q:Nat) (t:ByteArray) {H:U} (y:aa E X H) (is:H.get bw=some (O (ae x.f) 27)) (hB:cn H b t 46 q) (cr:X.n≤b) (aY:X.n≤q) (IX:bw≠b) (IY:bw≠q) (hz:(t++jq (decide (x.f.wide>0)) (bX [⟨#[91]⟩,mK x.f.wide,⟨#[93]⟩])).size≤1000000000) :
  jF E X 77 WQ [(0,pt b 0),(3,pt bw 0)] H [b,q] (fun eI T H'=>(eI=.normal∧∃(iS:Nat),T=bl [(0,pt b 0),(3,pt bw 0)]∧(cn H' b (t++jq (decide (x.f.wide>0)) (bX [⟨#[91]⟩,mK x.f.wide,⟨#[93]⟩])) 46 iS∧X.n≤iS∧(iS=b∨iS=q∨H.n≤iS)))):=by
 have g0:=y.n
 have bm:=a.bm
 have xU:=ok.nm
 have hnm:=a.nm
 have sM:=hz
 simp only [cm] at sM
 refine nA y ?_
 have Cv:=y.wf.lt is
 refine Z 1 (ag 5 dX is)<|aO 0 (x.f.wide>0) ?_ ?_ <;> intro h1 q1
 ·have k7:=hB.lt y
  rw [n4 h1] at hz
  obtain ⟨_,H1,c1,af,y1,rfl,eO,fq,gX,fL⟩:=li hx (H.n+0) b q [⟨#[91]⟩,mK x.f.wide,⟨#[93]⟩] 7 t (y.news (dJ (IN x))) (aL (dJ (IN x)) H 0 _ rfl) (cn.news y hB (dJ (IN x))) (by show 3<100000;omega) hz cr aY D D
  have lh:eO=b∨eO=q∨H.n≤eO:=by (try simp only [bU,cj,cF] at fL);omega
  clear fL
  exact Z 2 (ag 5 dX is)<|ad 0 (Qr x.f.wide (by have:=ok.w0;have:=ok.o0;omega) (by have:=ok.w1;have:=ok.o1;omega) (gg hx y))<|ad 1 c1<|js 0 [(0,pt b 0),(3,pt bw 0)] .normal H1 [b,q] (mD<|wc (.inl rfl)<|wc (.inr (.inl rfl))<|wn) bi ⟨rfl,eO,rfl,⟨kO (by rw [n4 h1]) fq,gX,lh⟩⟩
 exact js 0 [(0,pt b 0),(3,pt bw 0)] .normal H [] aZ bi ⟨rfl,q,rfl,⟨kO (by rw [Aa h1];exact ByteArray.append_empty) hB,aY,.inr (.inl rfl)⟩⟩
noncomputable def WN:Code:=cN [1,1,1,1,0] (cH Tryz.f33)
noncomputable abbrev IP (x:aw):=([.string ⟨#[32,64,32]⟩,.string (rz (Int.tdiv x.f.at_ 1000))]:List Value)
theorem aer (x:aw) (X:U) (hx:aa E G X) (a:dG X x) (ok:si x) (sh:gN x=true) (b bw:Nat) (q:Nat) (t:ByteArray) {H:U} (y:aa E X H) (is:H.get bw=some (O (ae x.f) 27)) (hB:cn H b t 46 q) (cr:X.n≤b) (aY:X.n≤q) (IX:bw≠b) (IY:bw≠q) (hz:(t++jq (x.f.ha) (bX [⟨#[32,64,32]⟩,rz (Int.tdiv x.f.at_ 1000)])).size≤1000000000) :
  jF E X 77 WN [(0,pt b 0),(3,pt bw 0)] H [b,q] (fun eI T H'=>(eI=.normal∧∃(iS:Nat),T=bl [(0,pt b 0),(3,pt bw 0)]∧(cn H' b (t++jq (x.f.ha) (bX [⟨#[32,64,32]⟩,rz (Int.tdiv x.f.at_ 1000)])) 46 iS∧X.n≤iS∧(iS=b∨iS=q∨H.n≤iS)))):=by
 have g0:=y.n
 have bm:=a.bm
 have xU:=ok.nm
 have hnm:=a.nm
 have sM:=hz
 simp only [cm] at sM
 refine nA y ?_
 have Cv:=y.wf.lt is
 refine aK [aB 0]<|?_
 rcases ep x.f.ha with h1 |h1
 ·have w1:((J (IntKind.i64.wrap (Int.tdiv x.f.at_ 1000))):Value)=(J (Int.tdiv x.f.at_ 1000)):=(by rw [kX (by have:=ok.a0;have:=ok.a1;have:=Hu x.f.at_;omega) (by have:=ok.a0;have:=ok.a1;have:=Hu x.f.at_;omega)])
  have k7:=hB.lt y
  rw [n4 h1] at hz
  obtain ⟨_,H1,c1,af,y1,rfl,eO,fq,gX,fL⟩:=li hx (H.n+0) b q [⟨#[32,64,32]⟩,rz (Int.tdiv x.f.at_ 1000)] 5 t (y.news (dJ (IP x))) (aL (dJ (IP x)) H 0 _ rfl) (cn.news y hB (dJ (IP x))) (by show 2<100000;omega) hz cr aY D D
  have lh:eO=b∨eO=q∨H.n≤eO:=by (try simp only [bU,cj,cF] at fL);omega
  clear fL
  exact aj [dP aN H] ((ag 7 gV is).trans (congrArg (fun q=>some (Value.bool q)) h1))<|Z 2 (ag 8 dX is)<|aj [.as (J (Int.tdiv x.f.at_ 1000))] w1<|ad 0 (aak (Int.tdiv x.f.at_ 1000) (by have:=ok.a0;have:=ok.a1;have:=Hu x.f.at_;omega) (by have:=ok.a0;have:=ok.a1;have:=Hu x.f.at_;omega) (gg hx y))<|ad 1 c1<|js 0 [(0,pt b 0),(3,pt bw 0)] .normal H1 [b,q] (mD<|wc (.inl rfl)<|wc (.inr (.inl rfl))<|wn) bi ⟨rfl,eO,rfl,⟨kO (by rw [n4 h1]) fq,gX,lh⟩⟩
 exact aj [dP Y H] ((ag 7 gV is).trans (congrArg (fun q=>some (Value.bool q)) h1))<|js 0 [(0,pt b 0),(3,pt bw 0)] .normal H [] aZ bi ⟨rfl,q,rfl,⟨kO (by rw [Aa h1];exact ByteArray.append_empty) hB,aY,.inr (.inl rfl)⟩⟩
noncomputable def WP:Code:=cN [1,1,1,1,1] (cH Tryz.f33)
noncomputable abbrev IQ (x:aw):=([.string ⟨#[32,111,102,102,115,101,116,32]⟩,.string (mK x.f.off)]:List Value)
theorem aet (x:aw) (X:U) (hx:aa E G X) (a:dG X x) (ok:si x) (sh:gN x=true) (b bw:Nat) (q:Nat) (t:ByteArray) {H:U} (y:aa E X H) (is:H.get bw=some (O (ae x.f) 27)) (hB:cn H b t 46 q) (cr:X.n≤b) (aY:X.n≤q) (IX:bw≠b) (IY:bw≠q) (hz:(t++jq (x.f.off != 0) (bX [⟨#[32,111,102,102,115,101,116,32]⟩,mK x.f.off])).size≤1000000000) :
  jF E X 77 WP [(0,pt b 0),(3,pt bw 0)] H [b,q] (fun eI T H'=>(eI=.normal∧∃(iS:Nat),T=bl []∧(cn H' b (t++jq (x.f.off != 0) (bX [⟨#[32,111,102,102,115,101,116,32]⟩,mK x.f.off])) 46 iS∧X.n≤iS∧(iS=b∨iS=q∨H.n≤iS)))):=by
 have g0:=y.n
 have bm:=a.bm
 have xU:=ok.nm
 have hnm:=a.nm
 have sM:=hz
 simp only [cm] at sM
 refine nA y ?_
 have Cv:=y.wf.lt is
 refine Z 1 (ag 6 dX is)<|iD 0 x.f.off 0 ?_ ?_ <;> intro h1 q1
 ·have k7:=hB.lt y
  rw [n4 h1] at hz
  obtain ⟨_,H1,c1,af,y1,rfl,eO,fq,gX,fL⟩:=li hx (H.n+0) b q [⟨#[32,111,102,102,115,101,116,32]⟩,mK x.f.off] 5 t (y.news (dJ (IQ x))) (aL (dJ (IQ x)) H 0 _ rfl) (cn.news y hB (dJ (IQ x))) (by show 2<100000;omega) hz cr aY D D
  have lh:eO=b∨eO=q∨H.n≤eO:=by (try simp only [bU,cj,cF] at fL);omega
  clear fL
  exact Z 2 (ag 6 dX is)<|ad 0 (Qr x.f.off (by have:=ok.w0;have:=ok.o0;omega) (by have:=ok.w1;have:=ok.o1;omega) (gg hx y))<|ad 1 c1<|js 0 [] .normal H1 [b,q] (mD<|wc (.inl rfl)<|wc (.inr (.inl rfl))<|wn) bi ⟨rfl,eO,rfl,⟨kO (by rw [n4 h1]) fq,gX,lh⟩⟩
 exact js 0 [] .normal H [] aZ bi ⟨rfl,q,rfl,⟨kO (by rw [Aa h1];exact ByteArray.append_empty) hB,aY,.inr (.inl rfl)⟩⟩
noncomputable def WO:Code:=cN [1,1,0] (cH Tryz.f33)
noncomputable abbrev za:=([.string ⟨#[123]⟩,.string (fF ⟨#[44,32]⟩ []),.string ⟨#[125]⟩]:List Value)
noncomputable abbrev zb qx:=([.string ⟨#[123]⟩,.string (fF ⟨#[44,32]⟩ qx),.string ⟨#[125]⟩]:List Value)
theorem aes (x:aw) (X:U) (hx:aa E G X) (a:dG X x) (ok:si x) (sh:gN x=true) (b bw:Nat) (q:Nat) (t:ByteArray) {H:U} (y:aa E X H) (is:H.get bw=some (O (ae x.f) 27)) (hB:cn H b t 46 q) (cr:X.n≤b) (aY:X.n≤q) (IX:bw≠b) (IY:bw≠q) (hz:(t++jq (decide ((x.f.nm:Int)>0)||(x.f.s.toList==(⟨#[]⟩:ByteArray).toList)) (bX [⟨#[123]⟩,fF ⟨#[44,32]⟩ (x.ms.map no),⟨#[125]⟩])).size≤1000000000) :
  jF E X 77 WO [(0,pt b 0),(3,pt bw 0)] H [b,q] (fun eI T H'=>(eI=.normal∧∃(iS:Nat),T=bl [(0,pt b 0),(3,pt bw 0)]∧(cn H' b (t++jq (decide ((x.f.nm:Int)>0)||(x.f.s.toList==(⟨#[]⟩:ByteArray).toList)) (bX [⟨#[123]⟩,fF ⟨#[44,32]⟩ (x.ms.map no),⟨#[125]⟩])) 46 iS∧X.n≤iS∧(iS=b∨iS=q∨H.n≤iS)))):=by
 have g0:=y.n
 have bm:=a.bm
 have xU:=ok.nm
 have hnm:=a.nm
 have sM:=hz
 simp only [cm] at sM
 refine nA y ?_
 have Cv:=y.wf.lt is
 refine Z 1 (ag 4 jI is)<|aO 1 ((x.f.nm:Int)>0) ?_ ?_ <;> intro h1 q1
 ·rw [n4 (by rw [h1];rfl)] at hz
  have B4:=hz
  simp only [bX,cm] at B4
  obtain ⟨_,_,H1,c1,af,y1,b7⟩:=(RY x X hx a ok sh b bw _ 0 _ y is rfl rfl).code
  refine Z 4 (ag 4 jI is)<|?_
  rcases b7 with ⟨rfl,rfl,AD⟩ |⟨rfl,DX,qx,rfl,uB,Cl,agC⟩
  ·have cI:H.n+0≤H1.n:=af.n
   have g1:=y1.n
   obtain ⟨_,H2,c2,ar,ah,rfl⟩:=Fl hx (p:=none) (ws:=[]) (c:=0) y1 (.inl rfl) (by show 0<100000;omega) (fun h=>absurd rfl h) (Nat.zero_le _)
   have cl:H1.n+0≤H2.n:=ar.n
   have g2:=ah.n
   have k7:=hB.lt y
   have p4:=cn.kept y hB af ai ai
   have w5:=cn.kept y1 p4 ar ai ai
   obtain ⟨_,H3,c3,aW,az,rfl,i4,nf,py,ke⟩:=li hx (H2.n+0) b q [⟨#[123]⟩,fF ⟨#[44,32]⟩ [],⟨#[125]⟩] 7 t (ah.news (dJ za)) (aL (dJ za) H2 0 _ rfl) (cn.news ah w5 (dJ za)) (by show 3<100000;omega) (by rw [AD] at hz;exact hz) cr aY D D
   have qk:i4=b∨i4=q∨H.n≤i4:=by (try simp only [bU,cj,cF] at ke);omega
   clear ke
   exact bW 2 c1<|ad 2 c2<|ad 1 c3<|js 0 [(0,pt b 0),(3,pt bw 0)] .normal H3 [b,q] (mD<|wc (.inl rfl)<|wc (.inr (.inl rfl))<|wn) bi ⟨rfl,i4,rfl,⟨kO (by rw [n4 (by rw [h1];rfl),AD];rfl) nf,py,qk⟩⟩
  have cI:H.n+0≤H1.n:=af.n
  obtain ⟨_,H2,c2,ar,ah,rfl⟩:=Fl hx (p:=some ⟨DX,0,none⟩) (ws:=qx) (c:=2) y1 (.inr ⟨DX,false,9,rfl,Cl⟩) (by rw [uB,List.length_map];omega) (fun _=>.inl rfl) (by rw [uB];omega)
  have cl:H1.n+0≤H2.n:=ar.n
  have k7:=hB.lt y
  have p4:=cn.kept y hB af ai ai
  have w5:=cn.kept y1 p4 ar ai ai
  obtain ⟨_,H3,c3,aW,az,rfl,i4,nf,py,ke⟩:=li hx (H2.n+0) b q [⟨#[123]⟩,fF ⟨#[44,32]⟩ qx,⟨#[125]⟩] 7 t (ah.news (dJ (zb qx))) (aL (dJ (zb qx)) H2 0 _ rfl) (cn.news ah w5 (dJ (zb qx))) (by show 3<100000;omega) (by rw [uB];exact hz) cr aY D D
  have qk:i4=b∨i4=q∨H.n≤i4:=by (try simp only [bU,cj,cF] at ke);omega
  clear ke
  exact bW 2 c1<|ad 2 c2<|ad 1 c3<|js 0 [(0,pt b 0),(3,pt bw 0)] .normal H3 [b,q] (mD<|wc (.inl rfl)<|wc (.inr (.inl rfl))<|wn) bi ⟨rfl,i4,rfl,⟨kO (by rw [n4 (by rw [h1];rfl),uB]) nf,py,qk⟩⟩
 refine Z 2 (ag 3 ct is)<|oS 0 (x.f.s.toList==(⟨#[]⟩:ByteArray).toList) (fun h2=>?_) fun h2=>?_
 ·have cw:=Tx h2
  rw [n4 (by rw [h1,h2];rfl)] at hz
  have B4:=hz
  simp only [bX,cm] at B4
  obtain ⟨_,_,H1,c1,af,y1,b7⟩:=(RY x X hx a ok sh b bw _ 0 _ y is rfl rfl).code
  refine Z 3 (ag 4 jI is)<|?_
  rcases b7 with ⟨rfl,rfl,AD⟩ |⟨rfl,DX,qx,rfl,uB,Cl,agC⟩
  ·have cI:H.n+0≤H1.n:=af.n
   have g1:=y1.n
   obtain ⟨_,H2,c2,ar,ah,rfl⟩:=Fl hx (p:=none) (ws:=[]) (c:=0) y1 (.inl rfl) (by show 0<100000;omega) (fun h=>absurd rfl h) (Nat.zero_le _)
   have cl:H1.n+0≤H2.n:=ar.n
   have g2:=ah.n
   have k7:=hB.lt y
   have p4:=cn.kept y hB af ai ai
   have w5:=cn.kept y1 p4 ar ai ai
   obtain ⟨_,H3,c3,aW,az,rfl,i4,nf,py,ke⟩:=li hx (H2.n+0) b q [⟨#[123]⟩,fF ⟨#[44,32]⟩ [],⟨#[125]⟩] 7 t (ah.news (dJ za)) (aL (dJ za) H2 0 _ rfl) (cn.news ah w5 (dJ za)) (by show 3<100000;omega) (by rw [AD] at hz;exact hz) cr aY D D
   have qk:i4=b∨i4=q∨H.n≤i4:=by (try simp only [bU,cj,cF] at ke);omega
   clear ke
   exact bW 2 c1<|ad 2 c2<|ad 1 c3<|js 0 [(0,pt b 0),(3,pt bw 0)] .normal H3 [b,q] (mD<|wc (.inl rfl)<|wc (.inr (.inl rfl))<|wn) bi ⟨rfl,i4,rfl,⟨kO (by rw [n4 (by rw [h1,h2];rfl),AD];rfl) nf,py,qk⟩⟩
  have cI:H.n+0≤H1.n:=af.n
  obtain ⟨_,H2,c2,ar,ah,rfl⟩:=Fl hx (p:=some ⟨DX,0,none⟩) (ws:=qx) (c:=2) y1 (.inr ⟨DX,false,9,rfl,Cl⟩) (by rw [uB,List.length_map];omega) (fun _=>.inl rfl) (by rw [uB];omega)
  have cl:H1.n+0≤H2.n:=ar.n
  have k7:=hB.lt y
  have p4:=cn.kept y hB af ai ai
  have w5:=cn.kept y1 p4 ar ai ai
  obtain ⟨_,H3,c3,aW,az,rfl,i4,nf,py,ke⟩:=li hx (H2.n+0) b q [⟨#[123]⟩,fF ⟨#[44,32]⟩ qx,⟨#[125]⟩] 7 t (ah.news (dJ (zb qx))) (aL (dJ (zb qx)) H2 0 _ rfl) (cn.news ah w5 (dJ (zb qx))) (by show 3<100000;omega) (by rw [uB];exact hz) cr aY D D
  have qk:i4=b∨i4=q∨H.n≤i4:=by (try simp only [bU,cj,cF] at ke);omega
  clear ke
  exact bW 2 c1<|ad 2 c2<|ad 1 c3<|js 0 [(0,pt b 0),(3,pt bw 0)] .normal H3 [b,q] (mD<|wc (.inl rfl)<|wc (.inr (.inl rfl))<|wn) bi ⟨rfl,i4,rfl,⟨kO (by rw [n4 (by rw [h1,h2];rfl),uB]) nf,py,qk⟩⟩
 exact js 1 [(0,pt b 0),(3,pt bw 0)] .normal H [] aZ bi ⟨rfl,q,rfl,⟨kO (by rw [Aa (by rw [h1,h2];rfl)];exact ByteArray.append_empty) hB,aY,.inr (.inl rfl)⟩⟩
theorem aem (x:aw) (X:U) (hx:aa E G X) (a:dG X x) (b q:Nat) (t:ByteArray) {H:U} (y:aa E X H) (hB:cn H b t 46 q) (cr:X.n≤b) (aY:X.n≤q) (ok:si x) (sh:gN x=true) (hs:(t++wo x).size≤1000000000):aI E X 33 [pt b 0,.agg (ae x.f).toArray] H [b,q] (fun v H'=>v=cZ∧∃ q',cn H' b (t++wo x) 46 q'∧X.n≤q'∧(q'=b∨q'=q∨H.n≤q')):=by
 refine br Tryz.f33 y ?_
 have hz:=hs
 simp only [wo,cm] at hz
 have k7:=hB.lt y
 obtain ⟨_,H1,c1,af,y1,rfl,eO,fq,gX,fL⟩:=li hx (H.n+1) b q [x.f.s] 3 t (y.news [O (ae x.f) 27,O [.string x.f.s] 9]) (aL [O (ae x.f) 27,O [.string x.f.s] 9] H 1 _ rfl) (cn.news y hB [O (ae x.f) 27,O [.string x.f.s] 9]) (by show 1<100000;omega) (by simp only [cm];omega) cr aY D D
 have cI:=oK af
 have aP:=(y.news [O (ae x.f) 27,O [.string x.f.s] 9]).kept af bB (aL [O (ae x.f) 27,O [.string x.f.s] 9] H 0 _ rfl)
 have sS:=fq.lt y1
 have lh:eO=b∨eO=q∨H.n+1≤eO:=by (try simp only [bU,cj,cF] at fL);omega
 clear fL
 obtain ⟨_,_,H2,c2,ar,ah,rfl,DY,rfl,ES⟩:=aes x X hx a ok sh b (H.n+0) eO (t++bX [x.f.s]) y1 aP fq cr gX D D (by simp only [cm];omega)
 have cl:H1.n+0≤H2.n:=ar.n
 have ib:=ES.2.2
 have vS:=ES.1.lt ah
 have pL:DY=b∨DY=q∨H.n+1≤DY:=by (try simp only [bU,cj,cF] at ib);omega
 clear ib
 have cL:=y1.kept ar bB aP
 obtain ⟨_,_,H3,c3,aW,az,rfl,DZ,rfl,ET⟩:=aeu x X hx a ok sh b (H.n+0) DY ((t++bX [x.f.s])++jq (decide ((x.f.nm:Int)>0)||(x.f.s.toList==(⟨#[]⟩:ByteArray).toList)) (bX [⟨#[123]⟩,fF ⟨#[44,32]⟩ (x.ms.map no),⟨#[125]⟩])) ah cL ES.1 cr ES.2.1 D D (by simp only [cm];omega)
 have dD:H2.n+0≤H3.n:=aW.n
 have ke:=ET.2.2
 have Qy:=ET.1.lt az
 have qk:DZ=b∨DZ=q∨H.n+1≤DZ:=by (try simp only [bU,cj,cF] at ke);omega
 clear ke
 have ei:=ah.kept aW bB cL
 obtain ⟨_,_,H4,cY,c4,bz,rfl,D0,rfl,EU⟩:=aer x X hx a ok sh b (H.n+0) DZ (((t++bX [x.f.s])++jq (decide ((x.f.nm:Int)>0)||(x.f.s.toList==(⟨#[]⟩:ByteArray).toList)) (bX [⟨#[123]⟩,fF ⟨#[44,32]⟩ (x.ms.map no),⟨#[125]⟩]))++jq (decide (x.f.wide>0)) (bX [⟨#[91]⟩,mK x.f.wide,⟨#[93]⟩])) az ei ET.1 cr ET.2.1 D D (by simp only [cm];omega)
 have fB:H3.n+0≤H4.n:=c4.n
 have wk:=EU.2.2
 have Qz:=EU.1.lt bz
 have Ae:D0=b∨D0=q∨H.n+1≤D0:=by (try simp only [bU,cj,cF] at wk);omega
 clear wk
 have ir:=az.kept c4 bB ei
 obtain ⟨_,_,H5,dz,cV,cG,rfl,HW,rfl,Jp⟩:=aet x X hx a ok sh b (H.n+0) D0 ((((t++bX [x.f.s])++jq (decide ((x.f.nm:Int)>0)||(x.f.s.toList==(⟨#[]⟩:ByteArray).toList)) (bX [⟨#[123]⟩,fF ⟨#[44,32]⟩ (x.ms.map no),⟨#[125]⟩]))++jq (decide (x.f.wide>0)) (bX [⟨#[91]⟩,mK x.f.wide,⟨#[93]⟩]))++jq (x.f.ha) (bX [⟨#[32,64,32]⟩,rz (Int.tdiv x.f.at_ 1000)])) bz ir EU.1 cr EU.2.1 D D (by simp only [cm];omega)
 have gk:H4.n+0≤H5.n:=cV.n
 have wl:=Jp.2.2
 have C6:HW=b∨HW=q∨H.n+1≤HW:=by (try simp only [bU,cj,cF] at wl);omega
 clear wl
 exact Z 3 (aR (news H [O (ae x.f) 27]) 0 3 ct)<|ad 1 c1<|gS 0 1 c2<|gS 0 1 c3<|gS 0 1 cY<|gS 0 0 dz<|aV 0 (.tuple #[]) H5 [b,q,b,eO,b,DY,b,DZ,b,D0] (mD<|wc (.inl rfl)<|wc (.inr (.inl rfl))<|wc (.inl rfl)<|wc (wi lh D)<|wc (.inl rfl)<|wc (wi pL D)<|wc (.inl rfl)<|wc (wi qk D)<|wc (.inl rfl)<|wc (wi Ae D)<|wn) bi ⟨rfl,HW,kO (by simp only [wo,ByteArray.append_assoc]) Jp.1,Jp.2.1,rW C6⟩
noncomputable abbrev nu H (x:aw):=news H [O (ae x.f) 27]
theorem aeJ (x:aw) (X:U) (hx:aa E G X) (a:dG X x) (F:aw→ByteArray) (b q:Nat) (t:ByteArray) {H:U} (y:aa E X H) (hk:x.f.k=1) (hv:wS x.f.v) (hB:cn H b t 46 q) (cr:X.n≤b) (aY:X.n≤q) (hs:(t++gR F x).size≤1000000000):aI E X 16 [pt b 0,.agg (ae x.f).toArray] H [b,q] (fun v H'=>v=cZ∧∃ q',cn H' b (t++gR F x) 46 q'∧X.n≤q'∧(q'=b∨q'=q∨H.n≤q')):=by
 refine br Tryz.f16 y ?_
 have hp:_:=RM (F:=F) hk
 have hz:=hs
 rw [hp] at hz
 simp only [j8,cm] at hz
 have w1:(x.f.k==1)=true:=(by rw [hk];rfl)
 have k7:=hB.lt y
 obtain ⟨_,H1,c1,af,y1,rfl,eO,fq,gX,fL⟩:=li hx (H.n+1) b q [wG (qT x.f.v)] 3 t (y.news [O (ae x.f) 27,O [.string (wG (qT x.f.v))] 9]) (aL [O (ae x.f) 27,O [.string (wG (qT x.f.v))] 9] H 1 _ rfl) (cn.news y hB [O (ae x.f) 27,O [.string (wG (qT x.f.v))] 9]) (by show 1<100000;omega) (by simp only [cm];omega) cr aY D D
 have lh:eO=b∨eO=q∨H.n+1≤eO:=by (try simp only [bU,cj,cF] at fL);omega
 clear fL
 exact Z 2 (aR (nu H x) 0 0 aJ)<|aH 0 w1<|Z 3 (aR (nu H x) 0 2 jH)<|ad 0 (adJ x.f.v hv (gg hx (y.news [O (ae x.f) 27])))<|ad 0 (ahU (qT x.f.v) (gg hx (y.news [O (ae x.f) 27])))<|ad 1 c1<|aV 0 (.tuple #[]) H1 [b,q] (mD<|wc (.inl rfl)<|wc (.inr (.inl rfl))<|wn) bi ⟨rfl,eO,(by rw [hp];exact kO (by (try simp only [j8,ByteArray.append_assoc,ByteArray.append_empty,ByteArray.empty_append])) fq),gX,rW lh⟩
theorem aeM (x:aw) (X:U) (hx:aa E G X) (a:dG X x) (F:aw→ByteArray) (b q:Nat) (t:ByteArray) {H:U} (y:aa E X H) (hk:x.f.k=2) (hq:x.f.s.size≤400) (hB:cn H b t 46 q) (cr:X.n≤b) (aY:X.n≤q) (hs:(t++gR F x).size≤1000000000):aI E X 16 [pt b 0,.agg (ae x.f).toArray] H [b,q] (fun v H'=>v=cZ∧∃ q',cn H' b (t++gR F x) 46 q'∧X.n≤q'∧(q'=b∨q'=q∨H.n≤q')):=by
 refine br Tryz.f16 y ?_
 have hp:_:=RN (F:=F) hk
 have hz:=hs
 rw [hp] at hz
 simp only [j8,cm] at hz
 have w1:(x.f.k==1)=false:=(by rw [hk];rfl)
 have w2:(x.f.k==2)=true:=(by rw [hk];rfl)
 have k7:=hB.lt y
 obtain ⟨_,H1,c1,af,y1,rfl,eO,fq,gX,fL⟩:=li hx (H.n+1) b q [kC x.f.s] 3 t (y.news [O (ae x.f) 27,O [.string (kC x.f.s)] 9]) (aL [O (ae x.f) 27,O [.string (kC x.f.s)] 9] H 1 _ rfl) (cn.news y hB [O (ae x.f) 27,O [.string (kC x.f.s)] 9]) (by show 1<100000;omega) (by simp only [cm];omega) cr aY D D
 have lh:eO=b∨eO=q∨H.n+1≤eO:=by (try simp only [bU,cj,cF] at fL);omega
 clear fL
 exact Z 2 (aR (nu H x) 0 0 aJ)<|aH 0 w1<|aH 1 w2<|Z 3 (aR (nu H x) 0 3 ct)<|ad 0 (LO x.f.s hq (gg hx (y.news [O (ae x.f) 27])))<|ad 1 c1<|aV 0 (.tuple #[]) H1 [b,q] (mD<|wc (.inl rfl)<|wc (.inr (.inl rfl))<|wn) bi ⟨rfl,eO,(by rw [hp];exact kO (by (try simp only [j8,ByteArray.append_assoc,ByteArray.append_empty,ByteArray.empty_append])) fq),gX,rW lh⟩
theorem aeL (x:aw) (X:U) (hx:aa E G X) (a:dG X x) (F:aw→ByteArray) (b q:Nat) (t:ByteArray) {H:U} (y:aa E X H) (hk:x.f.k=3) (hr:si x) (hsh:gN x=true) (hB:cn H b t 46 q) (cr:X.n≤b) (aY:X.n≤q) (hs:(t++gR F x).size≤1000000000):aI E X 16 [pt b 0,.agg (ae x.f).toArray] H [b,q] (fun v H'=>v=cZ∧∃ q',cn H' b (t++gR F x) 46 q'∧X.n≤q'∧(q'=b∨q'=q∨H.n≤q')):=by
 have g0:=y.n
 refine br Tryz.f16 y ?_
 have hp:_:=RO (F:=F) hk
 have hz:=hs
 rw [hp] at hz
 simp only [j8,cm] at hz
 have w1:(x.f.k==1)=false:=(by rw [hk];rfl)
 have w2:(x.f.k==2)=false:=(by rw [hk];rfl)
 have w3:(x.f.k==3)=true:=(by rw [hk];rfl)
 have k7:=hB.lt y
 obtain ⟨_,H1,c1,af,y1,rfl,eO,fq,gX,fL⟩:=aem x X hx a b q t (y.news [O (ae x.f) 27]) (cn.news y hB [O (ae x.f) 27]) cr aY hr hsh (by rw [hp] at hs;exact hs)
 have lh:eO=b∨eO=q∨H.n+1≤eO:=by (try simp only [bU,cj,cF] at fL);omega
 clear fL
 exact Z 2 (aR (nu H x) 0 0 aJ)<|aH 0 w1<|aH 1 w2<|aH 1 w3<|Z 2 (dy cv bH rfl rfl rfl:ay E 27 (H.n+0) 0 (nu H x)=some (.agg (ae x.f).toArray))<|ad 0 c1<|aV 0 (.tuple #[]) H1 [b,q] (mD<|wc (.inl rfl)<|wc (.inr (.inl rfl))<|wn) bi ⟨rfl,eO,(by rw [hp];exact kO (by (try simp only [j8,ByteArray.append_assoc,ByteArray.append_empty,ByteArray.empty_append])) fq),gX,rW lh⟩
theorem aeG (x:aw) (X:U) (hx:aa E G X) (a:dG X x) (F:aw→ByteArray) (b q:Nat) (t:ByteArray) {H:U} (y:aa E X H) (hk:x.f.k=4) (k9:∀ k∈x.kids,pf X F k) (hB:cn H b t 46 q) (cr:X.n≤b) (aY:X.n≤q) (hs:(t++gR F x).size≤1000000000):aI E X 16 [pt b 0,.agg (ae x.f).toArray] H [b,q] (fun v H'=>v=cZ∧∃ q',cn H' b (t++gR F x) 46 q'∧X.n≤q'∧(q'=b∨q'=q∨H.n≤q')):=by
 refine br Tryz.f16 y ?_
 have hp:_:=Lv (F:=F) hk
 have hz:=hs
 rw [hp] at hz
 simp only [j8,cm] at hz
 have w1:(x.f.k==1)=false:=(by rw [hk];rfl)
 have w2:(x.f.k==2)=false:=(by rw [hk];rfl)
 have w3:(x.f.k==3)=false:=(by rw [hk];rfl)
 have eo:(x.f.k==4)=true:=(by rw [hk];rfl)
 have k7:=hB.lt y
 obtain ⟨_,H1,c1,af,y1,rfl,eO,fq,gX,fL⟩:=li hx (H.n+1) b q [x.f.s] 3 t (y.news [O (ae x.f) 27,O [.string x.f.s] 9]) (aL [O (ae x.f) 27,O [.string x.f.s] 9] H 1 _ rfl) (cn.news y hB [O (ae x.f) 27,O [.string x.f.s] 9]) (by show 1<100000;omega) (by simp only [cm];omega) cr aY D D
 have cI:=oK af
 have aP:=(y.news [O (ae x.f) 27,O [.string x.f.s] 9]).kept af bB (aL [O (ae x.f) 27,O [.string x.f.s] 9] H 0 _ rfl)
 have sS:=fq.lt y1
 have lh:eO=b∨eO=q∨H.n+1≤eO:=by (try simp only [bU,cj,cF] at fL);omega
 clear fL
 obtain ⟨_,H2,c2,ar,ah,rfl,ie,iV,k4,ib⟩:=Kl x X hx a F k9 b eO (t++bX [x.f.s]) y1 fq cr gX (by simp only [cm];omega)
 have cl:H1.n+0≤H2.n:=ar.n
 have pL:ie=b∨ie=q∨H.n+1≤ie:=by (try simp only [bU,cj,cF] at ib);omega
 clear ib
 exact Z 2 (aR (nu H x) 0 0 aJ)<|aH 0 w1<|aH 1 w2<|aH 1 w3<|aH 1 eo<|Z 3 (aR (nu H x) 0 3 ct)<|ad 1 c1<|Z 1 (cg cv bH aP rfl rfl:ay E 27 (H.n+0) 0 H1=some (.agg (ae x.f).toArray))<|ad 0 c2<|aV 0 (.tuple #[]) H2 [b,q,b,eO] (mD<|wc (.inl rfl)<|wc (.inr (.inl rfl))<|wc (.inl rfl)<|wc (wi lh D)<|wn) bi ⟨rfl,ie,(by rw [hp];exact kO (by (try simp only [j8,ByteArray.append_assoc,ByteArray.append_empty,ByteArray.empty_append])) iV),k4,rW pL⟩
noncomputable abbrev sw:=([.string ⟨#[98,121]⟩,.string ⟨#[119,105,116,104,111,117,116]⟩]:List Value)
theorem aeH (x:aw) (X:U) (hx:aa E G X) (a:dG X x) (F:aw→ByteArray) (b q:Nat) (t:ByteArray) {H:U} (y:aa E X H) (hk:x.f.k=5) (k9:∀ k∈x.kids,pf X F k) (h0:0≤x.f.how) (hw:x.f.how≤2) (hl:x.ns.length<100000) (hj:(fF ⟨#[44,32]⟩ x.ns).size≤900000000) (hB:cn H b t 46 q) (cr:X.n≤b) (aY:X.n≤q) (hs:(t++gR F x).size≤1000000000):aI E X 16 [pt b 0,.agg (ae x.f).toArray] H [b,q] (fun v H'=>v=cZ∧∃ q',cn H' b (t++gR F x) 46 q'∧X.n≤q'∧(q'=b∨q'=q∨H.n≤q')):=by
 refine br Tryz.f16 y ?_
 have hp:_:=Lw (F:=F) hk
 have hz:=hs
 rw [hp] at hz
 simp only [j8,cm] at hz
 have w1:(x.f.k==1)=false:=(by rw [hk];rfl)
 have w2:(x.f.k==2)=false:=(by rw [hk];rfl)
 have w3:(x.f.k==3)=false:=(by rw [hk];rfl)
 have eo:(x.f.k==4)=false:=(by rw [hk];rfl)
 have iE:(x.f.k==5)=true:=(by rw [hk];rfl)
 have k7:=hB.lt y
 obtain ⟨_,H1,c1,af,y1,rfl,eO,fq,gX,fL⟩:=li hx (H.n+1) b q [x.f.s] 3 t (y.news [O (ae x.f) 27,O [.string x.f.s] 9]) (aL [O (ae x.f) 27,O [.string x.f.s] 9] H 1 _ rfl) (cn.news y hB [O (ae x.f) 27,O [.string x.f.s] 9]) (by show 1<100000;omega) (by simp only [cm];omega) cr aY D D
 have cI:=oK af
 have g1:=y1.n
 have aP:=(y.news [O (ae x.f) 27,O [.string x.f.s] 9]).kept af bB (aL [O (ae x.f) 27,O [.string x.f.s] 9] H 0 _ rfl)
 have jg:=(y.news [O (ae x.f) 27,O [.string x.f.s] 9]).kept af bB (aL [O (ae x.f) 27,O [.string x.f.s] 9] H 1 _ rfl)
 have sS:=fq.lt y1
 have lh:eO=b∨eO=q∨H.n+1≤eO:=by (try simp only [bU,cj,cF] at fL);omega
 clear fL
 refine Z 2 (aR (nu H x) 0 0 aJ)<|aH 0 w1<|aH 1 w2<|aH 1 w3<|aH 1 eo<|aH 1 iE<|Z 3 (aR (nu H x) 0 3 ct)<|ad 1 c1<|Z 1 (ag 9 aJ aP)<|aO 0 (x.f.how>0) ?_ ?_ <;> intro h1 q1
 ·rw [n4 h1] at hz
  obtain ⟨_,H2,c2,ar,ah,rfl,ie,iV,k4,ib⟩:=li hx (H1.n+0) b eO [⟨#[32]⟩] 3 (t++bX [x.f.s]) (y1.news [O [.string ⟨#[32]⟩] 9]) (aL [O [.string ⟨#[32]⟩] 9] H1 0 _ rfl) (cn.news y1 fq [O [.string ⟨#[32]⟩] 9]) (by show 1<100000;omega) (by simp only [cm];omega) cr gX D D
  have cl:=dA ar
  have g2:=ah.n
  have iW:=(y1.news [O [.string ⟨#[32]⟩] 9]).kept ar bB (aL [O [.string ⟨#[32]⟩] 9] H1 0 _ rfl)
  have vS:=iV.lt ah
  have pL:ie=b∨ie=q∨H.n+1≤ie:=by (try simp only [bU,cj,cF] at ib);omega
  clear ib
  have cL:=(y1.news [O [.string ⟨#[32]⟩] 9]).kept ar bB (y1.old aP [O [.string ⟨#[32]⟩] 9])
  obtain ⟨_,H3,c3,aW,az,rfl,i4,nf,py,ke⟩:=FM x X hx a (H2.n+0) b ie 5 ⟨#[98,121]⟩ ⟨#[119,105,116,104,111,117,116]⟩ ((t++bX [x.f.s])++bX [⟨#[32]⟩]) (ah.news (dJ sw)) (aL (dJ sw) H2 0 _ rfl) (cn.news ah iV (dJ sw)) hw cr k4 hl hj (fun h=>by rw [nq,if_pos h] at hz;simp only [cm] at hz ⊢;omega)
  have dD:=dA aW
  have Qy:=nf.lt az
  have qk:i4=b∨i4=q∨H.n+1≤i4:=by (try simp only [bU,cj,cF] at ke);omega
  clear ke
  have ei:=(ah.news (dJ sw)).kept aW bB (ah.old cL (dJ sw))
  obtain ⟨_,H4,cY,c4,bz,rfl,qY,Bz,ER,wk⟩:=Kl x X hx a F k9 b i4 (((t++bX [x.f.s])++bX [⟨#[32]⟩])++nq x ⟨#[98,121]⟩ ⟨#[119,105,116,104,111,117,116]⟩) az nf cr py (by simp only [cm];omega)
  have fB:H3.n+0≤H4.n:=c4.n
  have Ae:qY=b∨qY=q∨H.n+1≤qY:=by (try simp only [bU,cj,cF] at wk);omega
  clear wk
  exact ad 2 c2<|Z 1 (cg cv bH cL rfl rfl:ay E 27 (H.n+0) 0 H2=some (.agg (ae x.f).toArray))<|ad 1 c3<|Z 1 (cg cv bH ei rfl rfl:ay E 27 (H.n+0) 0 H3=some (.agg (ae x.f).toArray))<|ad 0 cY<|aV 0 (.tuple #[]) H4 [b,q,b,eO,b,ie,b,i4] (mD<|wc (.inl rfl)<|wc (.inr (.inl rfl))<|wc (.inl rfl)<|wc (wi lh D)<|wc (.inl rfl)<|wc (wi pL D)<|wc (.inl rfl)<|wc (wi qk D)<|wn) bi ⟨rfl,qY,(by rw [hp];exact kO (by rw [n4 h1];(try simp only [j8,ByteArray.append_assoc,ByteArray.append_empty,ByteArray.empty_append])) Bz),ER,rW Ae⟩
 obtain ⟨_,H2,c2,ar,ah,rfl,ie,iV,k4,ib⟩:=FM x X hx a (H1.n+0) b eO 5 ⟨#[98,121]⟩ ⟨#[119,105,116,104,111,117,116]⟩ (t++bX [x.f.s]) (y1.news (dJ sw)) (aL (dJ sw) H1 0 _ rfl) (cn.news y1 fq (dJ sw)) hw cr gX hl hj (fun h=>by rw [nq,if_pos h] at hz;simp only [cm] at hz ⊢;omega)
 have cl:=dA ar
 have vS:=iV.lt ah
 have pL:ie=b∨ie=q∨H.n+1≤ie:=by (try simp only [bU,cj,cF] at ib);omega
 clear ib
 have cL:=(y1.news (dJ sw)).kept ar bB (y1.old aP (dJ sw))
 obtain ⟨_,H3,c3,aW,az,rfl,i4,nf,py,ke⟩:=Kl x X hx a F k9 b ie ((t++bX [x.f.s])++nq x ⟨#[98,121]⟩ ⟨#[119,105,116,104,111,117,116]⟩) ah iV cr k4 (by simp only [cm];omega)
 have dD:H2.n+0≤H3.n:=aW.n
 have qk:i4=b∨i4=q∨H.n+1≤i4:=by (try simp only [bU,cj,cF] at ke);omega
 clear ke
 exact Z 1 (cg cv bH aP rfl rfl:ay E 27 (H.n+0) 0 H1=some (.agg (ae x.f).toArray))<|ad 1 c2<|Z 1 (cg cv bH cL rfl rfl:ay E 27 (H.n+0) 0 H2=some (.agg (ae x.f).toArray))<|ad 0 c3<|aV 0 (.tuple #[]) H3 [b,q,b,eO,b,ie] (mD<|wc (.inl rfl)<|wc (.inr (.inl rfl))<|wc (.inl rfl)<|wc (wi lh D)<|wc (.inl rfl)<|wc (wi pL D)<|wn) bi ⟨rfl,i4,(by rw [hp];exact kO (by rw [Aa h1];(try simp only [j8,ByteArray.append_assoc,ByteArray.append_empty,ByteArray.empty_append])) nf),py,rW qk⟩
noncomputable abbrev sx (x:aw):=([.string ⟨#[32]⟩,.string (q3 x.f.op),.string ⟨#[32]⟩]:List Value)
noncomputable abbrev xe:=([.string ⟨#[98,111,111,108,32]⟩]:List Value)
noncomputable abbrev sy:=([.string ⟨#[111,110]⟩,.string ⟨#[105,103,110,111,114,105,110,103]⟩]:List Value)
theorem aeK (x:aw) (X:U) (hx:aa E G X) (a:dG X x) (F:aw→ByteArray) (c d:aw) (b q:Nat) (t:ByteArray) {H:U} (y:aa E X H) (hk:x.f.k=6) (k9:∀ k∈x.kids,pf X F k) (hc:x.kids=[c,d]) (sT:x.kids[0]?=some c) (md:x.kids[1]?=some d) (hn:x.f.an=2) (h2:1≤x.f.op) (h3:x.f.op≤11) (h0:0≤x.f.how) (hw:x.f.how≤2) (hl:x.ns.length<100000) (hj:(fF ⟨#[44,32]⟩ x.ns).size≤900000000) (hB:cn H b t 46 q) (cr:X.n≤b) (aY:X.n≤q) (hs:(t++gR F x).size≤1000000000):aI E X 16 [pt b 0,.agg (ae x.f).toArray] H [b,q] (fun v H'=>v=cZ∧∃ q',cn H' b (t++gR F x) 46 q'∧X.n≤q'∧(q'=b∨q'=q∨H.n≤q')):=by
 refine br Tryz.f16 y ?_
 have hp:_:=Lx (F:=F) hk hc
 have hz:=hs
 rw [hp] at hz
 simp only [j8,cm] at hz
 have w1:(x.f.k==1)=false:=(by rw [hk];rfl)
 have w2:(x.f.k==2)=false:=(by rw [hk];rfl)
 have w3:(x.f.k==3)=false:=(by rw [hk];rfl)
 have eo:(x.f.k==4)=false:=(by rw [hk];rfl)
 have iE:(x.f.k==5)=false:=(by rw [hk];rfl)
 have lH:(x.f.k==6)=true:=(by rw [hk];rfl)
 obtain ⟨d1,jC,t1,eE,dh⟩:=a.rk.open D
 have eG:=hx.wf.lt dh
 obtain ⟨_,H1,c1,af,y1,rfl⟩:=Hx x X hx a 0 c (y.news [O (ae x.f) 27]) D D sT
 have cI:=dA af
 have g1:=y1.n
 have aP:=(y.news [O (ae x.f) 27]).kept af ai (aL [O (ae x.f) 27] H 0 _ rfl)
 have k7:=hB.lt y
 have p4:=cn.kept (y.news [O (ae x.f) 27]) (cn.news y hB [O (ae x.f) 27]) af ai ai
 obtain ⟨_,H2,c2,ar,ah,rfl,ie,iV,k4,ib⟩:=Cg c X hx F (k9 c (List.mem_of_getElem? sT)) (decide (eP c.f<eP x.f+0)) b q t y1 p4 cr aY (by simp only [cm];omega)
 have cl:H1.n+0≤H2.n:=ar.n
 have g2:=ah.n
 have vS:=iV.lt ah
 have pL:ie=b∨ie=q∨H.n+1≤ie:=by (try simp only [bU,cj,cF] at ib);omega
 clear ib
 obtain ⟨_,H3,c3,aW,az,s7,rfl,ajL,Qd⟩:=agK hx ah
 have dD:H2.n+0≤H3.n:=aW.n
 have g3:=az.n
 have akc:=az.wf.lt Qd
 have cL:=y1.kept ar bB aP
 have ei:=ah.kept aW ai cL
 have NW:=cn.kept ah iV aW ai ai
 obtain ⟨_,H4,cY,c4,bz,rfl,qY,Bz,ER,wk⟩:=li hx (H3.n+0) b ie [⟨#[32]⟩,q3 x.f.op,⟨#[32]⟩] 7 (t++mH F c (decide (eP c.f<eP x.f+0))) (az.news (dJ (sx x))) (aL (dJ (sx x)) H3 0 _ rfl) (cn.news az NW (dJ (sx x))) (by show 3<100000;omega) (by simp only [cm];omega) cr k4 D D
 have fB:=dA c4
 have g4:=bz.n
 have vH:=(az.news (dJ (sx x))).kept c4 bB (aL (dJ (sx x)) H3 0 _ rfl)
 have Qz:=Bz.lt bz
 have Ae:qY=b∨qY=q∨H.n+1≤qY:=by (try simp only [bU,cj,cF] at wk);omega
 clear wk
 have ir:=(az.news (dJ (sx x))).kept c4 bB (az.old ei (dJ (sx x)))
 refine Z 2 (aR (nu H x) 0 0 aJ)<|aH 0 w1<|aH 1 w2<|aH 1 w3<|aH 1 eo<|aH 1 iE<|aH 1 lH<|aK [aB 0]<|Z 2 (aR (nu H x) 0 12 dK)<|et 0 (nu H x) (gz jS bH eE D D:fE E 25 (.slice x.f.pk x.f.an x.f.ak) (J 0)=some (pt d1 (0+0)))<|Z 0 (kR cv bH ((y.news [O (ae x.f) 27]).cell dh eG) sT D:ay E 27 d1 (0+0) (nu H x)=some (.agg (ae c.f).toArray))<|Z 0 (dy cv bH rfl rfl rfl:ay E 27 (H.n+0) 0 (nu H x)=some (.agg (ae x.f).toArray))<|ad 0 c1<|ad 0 c2<|aj [] (cn.yu y1 p4:bZ H1 H2 [b,q]=true)<|ad 1 c3<|Z 1 (ag 1 aJ ei)<|ap 0 (x.f.op-1)<|bR 0 (x.f.op-1) (11:Int)<|Z 0 (d7 ct Qd (agJ D D):ay E 9 s7 (0+(x.f.op-1).toNat*1) H3=some (.string (q3 x.f.op)))<|ad 1 cY<|aj [] (cn.yu (az.news (dJ (sx x))) (cn.news az NW (dJ (sx x))):bZ (news H3 (dJ (sx x))) H4 [b,ie]=true)<|aK [aB 0]<|?_
 rcases ep x.f.fk with h1 |h1
 ·rw [n4 h1] at hz
  obtain ⟨_,H5,dz,cV,cG,rfl,qZ,BA,Jm,wl⟩:=li hx (H4.n+0) b qY [⟨#[98,111,111,108,32]⟩] 3 ((t++mH F c (decide (eP c.f<eP x.f+0)))++bX [⟨#[32]⟩,q3 x.f.op,⟨#[32]⟩]) (bz.news (dJ xe)) (aL (dJ xe) H4 0 _ rfl) (cn.news bz Bz (dJ xe)) (by show 1<100000;omega) (by simp only [cm];omega) cr ER D D
  have gk:=dA cV
  have Ph:=cG.n
  have ajW:=(bz.news (dJ xe)).kept cV bB (aL (dJ xe) H4 0 _ rfl)
  have acD:=BA.lt cG
  have C6:qZ=b∨qZ=q∨H.n+1≤qZ:=by (try simp only [bU,cj,cF] at wl);omega
  clear wl
  have l5:=(bz.news (dJ xe)).kept cV bB (bz.old ir (dJ xe))
  obtain ⟨_,fj,gH,fO,ea,rfl,As,Pr,Yt,Rx⟩:=FM x X hx a (H5.n+0) b qZ 5 ⟨#[111,110]⟩ ⟨#[105,103,110,111,114,105,110,103]⟩ (((t++mH F c (decide (eP c.f<eP x.f+0)))++bX [⟨#[32]⟩,q3 x.f.op,⟨#[32]⟩])++bX [⟨#[98,111,111,108,32]⟩]) (cG.news (dJ sy)) (aL (dJ sy) H5 0 _ rfl) (cn.news cG BA (dJ sy)) hw cr Jm hl hj (fun h=>by rw [nq,if_pos h] at hz;simp only [cm] at hz ⊢;omega)
  have lC:=dA fO
  have akb:=Pr.lt ea
  have aey:As=b∨As=q∨H.n+1≤As:=by (try simp only [bU,cj,cF] at Rx);omega
  clear Rx
  have sQ:=(cG.news (dJ sy)).kept fO bB (cG.old l5 (dJ sy))
  obtain ⟨_,iy,kn,iF,gC,rfl⟩:=Hx x X hx a 1 d ea D D md
  have qh:fj.n+0≤iy.n:=iF.n
  have NY:=cn.kept ea Pr iF ai ai
  obtain ⟨_,jT,m7,kI,kY,rfl,GZ,YE,Yv,Rz⟩:=Cg d X hx F (k9 d (List.mem_of_getElem? md)) (decide (eP d.f<eP x.f+1)) b As ((((t++mH F c (decide (eP c.f<eP x.f+0)))++bX [⟨#[32]⟩,q3 x.f.op,⟨#[32]⟩])++bX [⟨#[98,111,111,108,32]⟩])++nq x ⟨#[111,110]⟩ ⟨#[105,103,110,111,114,105,110,103]⟩) gC NY cr Yt (by simp only [cm];omega)
  have z4:iy.n+0≤jT.n:=kI.n
  have aeA:GZ=b∨GZ=q∨H.n+1≤GZ:=by (try simp only [bU,cj,cF] at Rz);omega
  clear Rz
  exact aj [dP aN H4] ((ag 11 gV ir).trans (congrArg (fun q=>some (Value.bool q)) h1))<|ad 2 dz<|Z 1 (cg cv bH l5 rfl rfl:ay E 27 (H.n+0) 0 H5=some (.agg (ae x.f).toArray))<|ad 1 gH<|Z 2 (ag 12 dK sQ)<|et 0 fj (gz jS bH eE D D:fE E 25 (.slice x.f.pk x.f.an x.f.ak) (J 1)=some (pt d1 (0+13)))<|Z 0 (kR cv bH (ea.cell dh eG) md D:ay E 27 d1 (0+13) fj=some (.agg (ae d.f).toArray))<|Z 0 (cg cv bH sQ rfl rfl:ay E 27 (H.n+0) 0 fj=some (.agg (ae x.f).toArray))<|ad 0 kn<|ad 0 m7<|aj [] (cn.yu gC NY:bZ iy jT [b,As]=true)<|aV 0 (.tuple #[]) jT [b,q,b,ie,b,qY,b,qZ,b,As] (mD<|wc (.inl rfl)<|wc (.inr (.inl rfl))<|wc (.inl rfl)<|wc (wi pL D)<|wc (.inl rfl)<|wc (wi Ae D)<|wc (.inl rfl)<|wc (wi C6 D)<|wc (.inl rfl)<|wc (wi aey D)<|wn) bi ⟨rfl,GZ,(by rw [hp];exact kO (by rw [n4 h1];(try simp only [j8,ByteArray.append_assoc,ByteArray.append_empty,ByteArray.empty_append])) YE),Yv,rW aeA⟩
 obtain ⟨_,H5,dz,cV,cG,rfl,qZ,BA,Jm,wl⟩:=FM x X hx a (H4.n+0) b qY 5 ⟨#[111,110]⟩ ⟨#[105,103,110,111,114,105,110,103]⟩ ((t++mH F c (decide (eP c.f<eP x.f+0)))++bX [⟨#[32]⟩,q3 x.f.op,⟨#[32]⟩]) (bz.news (dJ sy)) (aL (dJ sy) H4 0 _ rfl) (cn.news bz Bz (dJ sy)) hw cr ER hl hj (fun h=>by rw [nq,if_pos h] at hz;simp only [cm] at hz ⊢;omega)
 have gk:=dA cV
 have acD:=BA.lt cG
 have C6:qZ=b∨qZ=q∨H.n+1≤qZ:=by (try simp only [bU,cj,cF] at wl);omega
 clear wl
 have l5:=(bz.news (dJ sy)).kept cV bB (bz.old ir (dJ sy))
 obtain ⟨_,fj,gH,fO,ea,rfl⟩:=Hx x X hx a 1 d cG D D md
 have lC:H5.n+0≤fj.n:=fO.n
 have NX:=cn.kept cG BA fO ai ai
 obtain ⟨_,iy,kn,iF,gC,rfl,GY,YD,Yu,Ry⟩:=Cg d X hx F (k9 d (List.mem_of_getElem? md)) (decide (eP d.f<eP x.f+1)) b qZ (((t++mH F c (decide (eP c.f<eP x.f+0)))++bX [⟨#[32]⟩,q3 x.f.op,⟨#[32]⟩])++nq x ⟨#[111,110]⟩ ⟨#[105,103,110,111,114,105,110,103]⟩) ea NX cr Jm (by simp only [cm];omega)
 have qh:fj.n+0≤iy.n:=iF.n
 have aez:GY=b∨GY=q∨H.n+1≤GY:=by (try simp only [bU,cj,cF] at Ry);omega
 clear Ry
 exact aj [dP Y H4] ((ag 11 gV ir).trans (congrArg (fun q=>some (Value.bool q)) h1))<|Z 1 (cg cv bH ir rfl rfl:ay E 27 (H.n+0) 0 H4=some (.agg (ae x.f).toArray))<|ad 1 dz<|Z 2 (ag 12 dK l5)<|et 0 H5 (gz jS bH eE D D:fE E 25 (.slice x.f.pk x.f.an x.f.ak) (J 1)=some (pt d1 (0+13)))<|Z 0 (kR cv bH (cG.cell dh eG) md D:ay E 27 d1 (0+13) H5=some (.agg (ae d.f).toArray))<|Z 0 (cg cv bH l5 rfl rfl:ay E 27 (H.n+0) 0 H5=some (.agg (ae x.f).toArray))<|ad 0 gH<|ad 0 kn<|aj [] (cn.yu ea NX:bZ fj iy [b,qZ]=true)<|aV 0 (.tuple #[]) iy [b,q,b,ie,b,qY,b,qZ] (mD<|wc (.inl rfl)<|wc (.inr (.inl rfl))<|wc (.inl rfl)<|wc (wi pL D)<|wc (.inl rfl)<|wc (wi Ae D)<|wc (.inl rfl)<|wc (wi C6 D)<|wn) bi ⟨rfl,GY,(by rw [hp];exact kO (by rw [Aa h1];(try simp only [j8,ByteArray.append_assoc,ByteArray.append_empty,ByteArray.empty_append])) YD),Yu,rW aez⟩
theorem aeI (x:aw) (X:U) (hx:aa E G X) (a:dG X x) (F:aw→ByteArray) (c:aw) (b q:Nat) (t:ByteArray) {H:U} (y:aa E X H) (hk:x.f.k=7) (k9:∀ k∈x.kids,pf X F k) (hc:x.kids=[c]) (sT:x.kids[0]?=some c) (hn:x.f.an=1) (hB:cn H b t 46 q) (cr:X.n≤b) (aY:X.n≤q) (hs:(t++gR F x).size≤1000000000):aI E X 16 [pt b 0,.agg (ae x.f).toArray] H [b,q] (fun v H'=>v=cZ∧∃ q',cn H' b (t++gR F x) 46 q'∧X.n≤q'∧(q'=b∨q'=q∨H.n≤q')):=by
 refine br Tryz.f16 y ?_
 have hp:_:=Ly (F:=F) hk hc
 have hz:=hs
 rw [hp] at hz
 simp only [j8,cm] at hz
 have w1:(x.f.k==1)=false:=(by rw [hk];rfl)
 have w2:(x.f.k==2)=false:=(by rw [hk];rfl)
 have w3:(x.f.k==3)=false:=(by rw [hk];rfl)
 have eo:(x.f.k==4)=false:=(by rw [hk];rfl)
 have iE:(x.f.k==5)=false:=(by rw [hk];rfl)
 have lH:(x.f.k==6)=false:=(by rw [hk];rfl)
 have tn:(x.f.k==7)=true:=(by rw [hk];rfl)
 have k7:=hB.lt y
 obtain ⟨_,H1,c1,af,y1,rfl,eO,fq,gX,fL⟩:=li hx (H.n+1) b q [⟨#[45]⟩] 3 t (y.news [O (ae x.f) 27,O [.string ⟨#[45]⟩] 9]) (aL [O (ae x.f) 27,O [.string ⟨#[45]⟩] 9] H 1 _ rfl) (cn.news y hB [O (ae x.f) 27,O [.string ⟨#[45]⟩] 9]) (by show 1<100000;omega) (by simp only [cm];omega) cr aY D D
 have cI:=oK af
 have g1:=y1.n
 have aP:=(y.news [O (ae x.f) 27,O [.string ⟨#[45]⟩] 9]).kept af bB (aL [O (ae x.f) 27,O [.string ⟨#[45]⟩] 9] H 0 _ rfl)
 have jg:=(y.news [O (ae x.f) 27,O [.string ⟨#[45]⟩] 9]).kept af bB (aL [O (ae x.f) 27,O [.string ⟨#[45]⟩] 9] H 1 _ rfl)
 have sS:=fq.lt y1
 have lh:eO=b∨eO=q∨H.n+1≤eO:=by (try simp only [bU,cj,cF] at fL);omega
 clear fL
 obtain ⟨d1,jC,t1,eE,dh⟩:=a.rk.open D
 have eG:=hx.wf.lt dh
 rcases ep (c.f.k==6) with h1 |h1
 ·have q1:=pu h1
  rw [h1] at hz
  obtain ⟨_,H2,c2,ar,ah,rfl,ie,iV,k4,ib⟩:=Cg c X hx F (k9 c (List.mem_of_getElem? sT)) true b eO (t++bX [⟨#[45]⟩]) y1 fq cr gX (by simp only [cm];omega)
  have cl:H1.n+0≤H2.n:=ar.n
  have pL:ie=b∨ie=q∨H.n+1≤ie:=by (try simp only [bU,cj,cF] at ib);omega
  clear ib
  exact Z 2 (aR (nu H x) 0 0 aJ)<|aH 0 w1<|aH 1 w2<|aH 1 w3<|aH 1 eo<|aH 1 iE<|aH 1 lH<|aH 1 tn<|ad 3 c1<|Z 2 (ag 12 dK aP)<|et 0 H1 (gz jS bH eE D D:fE E 25 (.slice x.f.pk x.f.an x.f.ak) (J 0)=some (pt d1 (0+0)))<|Z 0 (kR cv bH (y1.cell dh eG) sT D:ay E 27 d1 (0+0) H1=some (.agg (ae c.f).toArray))<|Z 1 (ag 12 dK aP)<|et 0 H1 (gz jS bH eE D D:fE E 25 (.slice x.f.pk x.f.an x.f.ak) (J 0)=some (pt d1 (0+0)))<|Z 1 (show ay E 3 d1 (0+0) H1=some (J c.f.k) from Kn (j:=0) aJ (y1.cell dh eG) sT (by decide) D rfl)<|aH 0 h1<|ad 0 c2<|aj [] (cn.yu y1 fq:bZ H1 H2 [b,eO]=true)<|aV 0 (.tuple #[]) H2 [b,q,b,eO] (mD<|wc (.inl rfl)<|wc (.inr (.inl rfl))<|wc (.inl rfl)<|wc (wi lh D)<|wn) bi ⟨rfl,ie,(by rw [hp];exact kO (by rw [h1];(try simp only [j8,ByteArray.append_assoc,ByteArray.append_empty,ByteArray.empty_append])) iV),k4,rW pL⟩
 have q1:=sX h1
 rw [h1] at hz
 obtain ⟨_,H2,c2,ar,ah,rfl,ie,iV,k4,ib⟩:=Cg c X hx F (k9 c (List.mem_of_getElem? sT)) false b eO (t++bX [⟨#[45]⟩]) y1 fq cr gX (by simp only [cm];omega)
 have cl:H1.n+0≤H2.n:=ar.n
 have pL:ie=b∨ie=q∨H.n+1≤ie:=by (try simp only [bU,cj,cF] at ib);omega
 clear ib
 exact Z 2 (aR (nu H x) 0 0 aJ)<|aH 0 w1<|aH 1 w2<|aH 1 w3<|aH 1 eo<|aH 1 iE<|aH 1 lH<|aH 1 tn<|ad 3 c1<|Z 2 (ag 12 dK aP)<|et 0 H1 (gz jS bH eE D D:fE E 25 (.slice x.f.pk x.f.an x.f.ak) (J 0)=some (pt d1 (0+0)))<|Z 0 (kR cv bH (y1.cell dh eG) sT D:ay E 27 d1 (0+0) H1=some (.agg (ae c.f).toArray))<|Z 1 (ag 12 dK aP)<|et 0 H1 (gz jS bH eE D D:fE E 25 (.slice x.f.pk x.f.an x.f.ak) (J 0)=some (pt d1 (0+0)))<|Z 1 (show ay E 3 d1 (0+0) H1=some (J c.f.k) from Kn (j:=0) aJ (y1.cell dh eG) sT (by decide) D rfl)<|aH 0 h1<|ad 0 c2<|aj [] (cn.yu y1 fq:bZ H1 H2 [b,eO]=true)<|aV 0 (.tuple #[]) H2 [b,q,b,eO] (mD<|wc (.inl rfl)<|wc (.inr (.inl rfl))<|wc (.inl rfl)<|wc (wi lh D)<|wn) bi ⟨rfl,ie,(by rw [hp];exact kO (by rw [h1];(try simp only [j8,ByteArray.append_assoc,ByteArray.append_empty,ByteArray.empty_append])) iV),k4,rW pL⟩
theorem TA {g:aw→Nat}:∀{l:List aw} {k:aw},k∈l→g k≤(l.map g).sum
 |[],k,h=>by cases h
 |y::l,k,h=>by
  rw [List.map_cons,List.sum_cons]
  rcases List.mem_cons.1 h with rfl |h
  ·omega
  ·have:=TA (g:=g) h
   omega
theorem Ta {X:U} {x k:aw} (hl:gm X x) (hs:gN x=true) (hk:k∈x.kids):1≤gZ k∧gZ k+1≤gZ x:=by
 cases hl with
 |mk a hkids=>
  have h3:=Dm hs
  have b1:=a.bm
  have b2:=a.fm
  rw [Hc x] at h3 ⊢
  have e:jv (jv (1+(x.f.nm:Nat))+(x.f.nn:Nat))=1+(x.f.nm:Int)+(x.f.nn:Int):=by
   rw [tk (x:=1+(x.f.nm:Int)) D D,tk D D]
  rw [e] at h3 ⊢
  have hc:∀ k∈x.kids,1≤gZ k∧gZ k≤300∧(((gZ k).toNat:Nat):Int)≤gZ k:=fun k hk=>by
   have:=Ez 0 (hkids k hk) (r4 hs k hk)
   omega
  have h4:=Dn (g:=fun k=>(gZ k).toNat) x.kids (1+(x.f.nm:Int)+(x.f.nn:Int)) hc D D h3
  have h5:=TA (g:=fun k=>(gZ k).toNat) hk
  have h6:=hc k hk
  omega
theorem zR (x y:Int):x≤mx x y∧y≤mx x y∧(mx x y=x∨mx x y=y):=by
 unfold mx
 split
 ·exact ⟨D,D,.inr rfl⟩
 ·exact ⟨D,D,.inl rfl⟩
theorem K0 {f:dZ} {B:Int} (hB:B≤100000):∀(l:List aw) (i:Nat) (m:Int),(∀ k∈l,0≤di k∧di k≤B)→0≤m→m≤iZ f i l m∧iZ f i l m≤mx m (B+1)∧∀ k∈l,di k≤iZ f i l m
 |[],i,m,_,h0=>by
  rw [iZ]
  exact ⟨Int.le_refl _,(zR m _).1,fun k hk=>by cases hk⟩
 |x::l,i,m,h,h0=>by
  rw [iZ]
  obtain ⟨a1,a2⟩:=h x (List.mem_cons_self ..)
  have hw:jv (di x+1)=di x+1:=tk D D
  rw [hw]
  have hv:∃ v,(bif bump f i x.f then di x+1 else di x)=v∧di x≤v∧v≤B+1:=by
   cases bump f i x.f
   ·exact ⟨_,rfl,Int.le_refl _,by show di x≤B+1;omega⟩
   ·exact ⟨_,rfl,by show di x≤di x+1;omega,by show di x+1≤B+1;omega⟩
  obtain ⟨v,hv,v1,v2⟩:=hv
  rw [hv]
  have g1:=zR m v
  have g2:=zR m (B+1)
  have ih:=K0 (f:=f) hB l (i+1) (mx m v) (fun k hk=>h k (List.mem_cons_of_mem _ hk)) D
  have g3:=zR (mx m v) (B+1)
  refine ⟨D,D,fun k hk=>?_⟩
  rcases List.mem_cons.1 hk with rfl |hk
  ·omega
  ·exact ih.2.2 k hk
theorem adv {X:U} {x:aw} (hl:gm X x):gN x=true→0≤di x∧di x≤2*gZ x:=by
 induction hl with
 |@mk x a hk ih=>
  intro hs
  have h3:=Dm hs
  have hl:gm X x:=.mk a hk
  have hc:=Ez 0 hl hs
  have h:∀ k∈x.kids,0≤di k∧di k≤2*gZ x-2:=fun k hm=>by
   have h1:=ih k hm (r4 hs k hm)
   have h2:=Ta hl hs hm
   omega
  obtain ⟨b1,b2,_⟩:=K0 (f:=x.f) (B:=2*gZ x-2) D x.kids 0 0 h D
  have g:=zR 0 (2*gZ x-2+1)
  rw [kU x]
  cases decide (x.f.k<4)
  ·cases decide (x.f.k>7)
   ·cases uE x.f
    ·show 0≤jv (iZ x.f 0 x.kids 0+1)∧jv (iZ x.f 0 x.kids 0+1)≤_
     rw [tk D D]
     omega
    ·show 0≤iZ x.f 0 x.kids 0∧iZ x.f 0 x.kids 0≤_
     omega
   ·show (0:Int)≤0∧(0:Int)≤_
    omega
  ·show (0:Int)≤0∧(0:Int)≤_
   omega
theorem adu {X:U} {x k:aw} (hl:gm X x) (hs:gN x=true) (hk:k∈x.kids) (h4:4≤x.f.k) (h7:x.f.k≤7):di k≤di x:=by
 have h3:=Dm hs
 have h:∀ k∈x.kids,0≤di k∧di k≤600:=fun k hm=>by
  cases hl with
  |mk a hkids=>
   have h1:=adv (hkids k hm) (r4 hs k hm)
   have h2:=Ta (.mk a hkids) hs hm
   omega
 obtain ⟨b1,b2,b3⟩:=K0 (f:=x.f) (B:=600) D x.kids 0 0 h D
 have g:=zR 0 ((600:Int)+1)
 have b4:=b3 k hk
 rw [kU x,decide_eq_false (show ¬ x.f.k<4 by omega),decide_eq_false (show ¬ x.f.k>7 by omega)]
 cases uE x.f
 ·show di k≤jv (iZ x.f 0 x.kids 0+1)
  rw [tk D D]
  omega
 ·exact b4
theorem Br {X:U} {x:aw} (hs:gm X x):gN x=true→nK x:=by
 induction hs with
 |@mk x a hk ih=>
  intro h
  have h1:=Ha h
  have h2:=S7 h
  have h3:x.f.an<1000:=by
   have hc:∀ k∈x.kids,1≤gZ k∧gZ k≤300∧(((fun _=>1:aw→Nat) k:Nat):Int)≤gZ k:=fun k hm=>by
    have:=Ez 0 (hk k hm) (r4 h k hm)
    exact ⟨this.1,this.2.1,this.1⟩
   have h4:=Dm h
   have b1:=a.bm
   have b2:=a.fm
   rw [Hc x] at h4
   have e:jv (jv (1+(x.f.nm:Nat))+(x.f.nn:Nat))=1+(x.f.nm:Int)+(x.f.nn:Int):=by
    rw [tk (x:=1+(x.f.nm:Int)) D D,tk D D]
   rw [e] at h4
   have:=Dn (g:=fun _=>1) x.kids _ hc D D h4
   have hsum:∀ l:List aw,(l.map fun _=>1).sum=l.length:=by
    intro l
    induction l with
    |nil=>rfl
    |cons y l ih=>rw [List.map_cons,List.sum_cons,ih,cj];omega
   rw [hsum] at this
   have:=a.an
   omega
  exact .mk ⟨fun m hm=>by have:=h1 m hm;omega,fun s hm=>by have:=h2 s hm;omega,h3⟩ fun k hm=>ih k hm (r4 h k hm)
theorem acP {m:fS} (h:qf m=true):1≤m.1∧m.1≤4:=by
 simp only [qf,iO,dI,Bool.or_eq_true,beq_iff_eq] at h
 omega
theorem QN:∀{l:List fS},ld l=false→∀ m∈l,qf m=true
 |[],_,m,h=>by cases h
 |y::l,h,m,hm=>by
  rw [ld,Bool.or_eq_false_iff,Bool.not_eq_false'] at h
  rcases List.mem_cons.1 hm with rfl |hm
  ·exact h.1
  ·exact QN h.2 m hm
theorem Dc {x:aw} (h:fb x=true):1≤x.f.k∧x.f.k≤7∧jd (gF x.f)=true:=by
 rw [i3,gK] at h
 simp only [dI,Bool.not_eq_true',decide_eq_false_iff_not] at h
 exact ⟨D,D,h.1.2.2.1⟩
theorem adI {x:aw} (hv:0≤x.f.v∧x.f.v<18446744073709551616) (h:fb x=true) (hk:x.f.k=1):wS x.f.v:=by
 have a:=wv h
 rw [wZ hk] at a
 refine ⟨hv.1,?_⟩
 by_cases c:x.f.v≤9218868437227405312∨x.f.v=9221120237041090561
 ·exact c
 ·rw [Rs hv c] at a;cases a
theorem RZ {x:aw} (h:fb x=true) (hk:x.f.k=3):si x:=by
 have a:=wv h
 rw [vh hk,ic] at a
 simp only [dI,Bool.not_eq_true',decide_eq_false_iff_not] at a
 obtain ⟨_,a1,a2,a3,a4,a5,_,a6,a7,_,a8⟩:=a
 exact ⟨D,D,D,D,D,D,D,fun m hm=>acP (QN a8 m hm)⟩
theorem FL {x:aw} (h:kT x=true):0≤x.f.how∧x.f.how≤2∧x.f.nn≤16:=by
 rw [kT] at h
 simp only [dI,Bool.not_eq_true',decide_eq_false_iff_not] at h
 omega
theorem Pn {x:aw} (h:fb x=true) (hk:x.f.k=5):kT x=true∧x.f.an≤4:=by
 have a:=wv h
 rw [vj hk,qF] at a
 simp only [dI,decide_eq_true_eq] at a
 exact ⟨a.2.1,D⟩
theorem Vt {x:aw} (h:fb x=true) (hk:x.f.k=4):x.f.an≤4:=by
 have a:=wv h
 rw [vi hk,so] at a
 simp only [dI,decide_eq_true_eq] at a
 omega
theorem Lt {x:aw} (h:fb x=true) (hk:x.f.k=6):kT x=true∧x.f.an=2∧1≤x.f.op∧x.f.op≤11:=by
 have a:=wv h
 rw [nP hk,mb] at a
 simp only [dI,decide_eq_true_eq,beq_iff_eq] at a
 exact ⟨a.2.2.1,D,D,D⟩
theorem Fw {x:aw} (h:fb x=true) (hk:x.f.k=7):x.f.an=1:=by
 have a:=wv h
 rw [w4 hk,vQ] at a
 simp only [beq_iff_eq] at a
 omega
theorem Uk {x:aw} (h:fb x=true) (hk:x.f.k≤3):x.f.an=0:=by
 obtain ⟨h1,_,hz⟩:=Dc h
 rcases show x.f.k=1∨x.f.k=2∨x.f.k=3 by omega with e |e |e <;>
 ·rw [gF,e] at hz
  simp only [jd,dI,beq_iff_eq] at hz
  have:=hz.2.2.2.2.2.2.2.2.2.2.2
  simp at this
  omega
theorem J8 (sep:ByteArray) (hs:sep.size=2):∀{l:List ByteArray},(fF sep l).size≤2*l.length+(bX l).size
 |[]=>by simp [fF,bX]
 |w::l=>by
  rw [fF,cm,J7,bX,cm,cj,hs]
  omega
theorem Ij {K:Nat}:∀{l:List ByteArray},(∀ w∈l,w.size≤K)→(bX l).size≤K*l.length
 |[],_=>by simp [bX]
 |w::l,h=>by
  rw [bX,cm,cj,Nat.mul_succ]
  have h1:=h w (List.mem_cons_self ..)
  have h2:=Ij (K:=K) (l:=l) fun v hv=>h v (List.mem_cons_of_mem _ hv)
  omega
theorem KV {x:aw} (h:gN x=true) (hn:x.ns.length≤16):(fF ⟨#[44,32]⟩ x.ns).size≤7000:=by
 have h1:=J8 ⟨#[44,32]⟩ rfl (l:=x.ns)
 have h2:=Ij (K:=400) (S7 h)
 omega
theorem MM {x:aw} {X:U} (a:dG X x) (h:x.f.an=2):∃ c d,x.kids=[c,d]:=by
 have hl:x.kids.length=2:=by rw [← a.an];exact h
 match hk:x.kids,hl with
 |[c,d],_=>exact ⟨c,d,rfl⟩
theorem Ln {x:aw} {X:U} (a:dG X x) (h:x.f.an=1):∃ c,x.kids=[c]:=by
 have hl:x.kids.length=1:=by rw [← a.an];exact h
 match hk:x.kids,hl with
 |[c],_=>exact ⟨c,rfl⟩
theorem RT (x:aw) (X:U) (hx:aa E G X) (a:dG X x) (hr:fb x=true) (sh:gN x=true) (F:aw→ByteArray) (k9:∀ k∈x.kids,pf X F k):∀(b q:Nat) (t:ByteArray) {H:U} (y:aa E X H),cn H b t 46 q→X.n≤b→X.n≤q→(t++gR F x).size≤1000000000→aI E X 16 [pt b 0,.agg (ae x.f).toArray] H [b,q] (fun v H'=>v=cZ∧∃ q',cn H' b (t++gR F x) 46 q'∧X.n≤q'∧(q'=b∨q'=q∨H.n≤q')):=by
 intro b q t H y hB cr aY hs
 obtain ⟨k1,Fr,_⟩:=Dc hr
 rcases show x.f.k=1∨x.f.k=2∨x.f.k=3∨x.f.k=4∨x.f.k=5∨x.f.k=6∨x.f.k=7 by omega with hk |hk |hk |hk |hk |hk |hk
 ·exact aeJ x X hx a F b q t y hk (adI a.DG hr hk) hB cr aY hs
 ·exact aeM x X hx a F b q t y hk (Mm sh) hB cr aY hs
 ·exact aeL x X hx a F b q t y hk (RZ hr hk) sh hB cr aY hs
 ·exact aeG x X hx a F b q t y hk k9 hB cr aY hs
 ·obtain ⟨hn,_⟩:=Pn hr hk
  obtain ⟨n0,n1,n2⟩:=FL hn
  have Fb:=a.nn
  exact aeH x X hx a F b q t y hk k9 n0 n1 D (by have:=KV sh D;omega) hB cr aY hs
 ·obtain ⟨hn,hn2,dE,p1⟩:=Lt hr hk
  obtain ⟨n0,n1,n2⟩:=FL hn
  have Fb:=a.nn
  obtain ⟨c,d,hc⟩:=MM a hn2
  exact aeK x X hx a F c d b q t y hk k9 hc (by rw [hc];rfl) (by rw [hc];rfl) hn2 dE p1 n0 n1 D (by have:=KV sh D;omega) hB cr aY hs
 ·obtain ⟨c,hc⟩:=Ln a (Fw hr hk)
  exact aeI x X hx a F c b q t y hk k9 hc (by rw [hc];rfl) (Fw hr hk) hB cr aY hs
noncomputable def og:Nat→aw→ByteArray
 |0,_=>ByteArray.empty
 |n+1,x=>gR (og n) x
theorem Is {P:Nat→aw→Prop}:∀{l:List aw},(∀ k∈l,∃ N,∀ n,N≤n→P n k)→∃ N,∀ n,N≤n→∀ k∈l,P n k
 |[],_=>⟨0,fun _ _ k hk=>by cases hk⟩
 |y::l,h=>by
  obtain ⟨pY,h1⟩:=h y (List.mem_cons_self ..)
  obtain ⟨Ur,h2⟩:=Is (l:=l) fun k hk=>h k (List.mem_cons_of_mem _ hk)
  refine ⟨pY+Ur,fun n hn k hk=>?_⟩
  rcases List.mem_cons.1 hk with rfl |hk
  ·exact h1 n D
  ·exact h2 n D k hk
theorem RQ {X:U} (hx:aa E G X) {x:aw} (hl:gm X x):fb x=true→gN x=true→∃ N,∀ n,N≤n→pf X (og n) x:=by
 induction hl with
 |@mk x a hk ih=>
  intro hr sh
  obtain ⟨N,hN⟩:=Is (l:=x.kids) fun k hm=>ih k hm (Dd hr k hm) (r4 sh k hm)
  refine ⟨N+1,fun n hn=>?_⟩
  obtain ⟨m,rfl⟩:∃ m,n=m+1:=⟨n-1,D⟩
  exact RT x X hx a hr sh (og m) (hN m D)
theorem Kj (F:aw→ByteArray) (k:aw) (i:Bool):kJ (F k) (mH F k i):=by
 cases i
 ·exact kJ.refl _
 ·exact ((kJ.refl _).post _).pre _
theorem P8 {F:aw→ByteArray} {x k:aw} (h:k∈x.kids):kJ (F k) (j8 F x):=by
 refine (kJ.post ?_ _).pre _
 rw [lA,if_pos rfl]
 exact aa9 (List.mem_map.2 ⟨k,h,rfl⟩)
theorem aef {X:U} {x:aw} (a:dG X x) (hr:fb x=true) (F:aw→ByteArray):∀ k∈x.kids,kJ (F k) (gR F x):=by
 intro k hm
 obtain ⟨k1,Fr,_⟩:=Dc hr
 have hnk:=a.an
 have hpos:0<x.kids.length:=List.length_pos_of_mem hm
 rcases show x.f.k≤3∨x.f.k=4∨x.f.k=5∨x.f.k=6∨x.f.k=7 by omega with hk |hk |hk |hk |hk
 ·have:=Uk hr hk
  omega
 ·rw [Lv hk];exact (P8 hm).pre _
 ·rw [Lw hk];exact (((P8 hm).pre _).pre _).pre _
 ·obtain ⟨c,d,hc⟩:=MM a (Lt hr hk).2.1
  rw [Lx hk hc]
  rw [hc] at hm
  rcases List.mem_cons.1 hm with rfl |hm
  ·exact (Kj F _ _).post _
  ·rw [List.mem_singleton.1 hm]
   exact ((((Kj F _ _).pre _).pre _).pre _).pre _
 ·obtain ⟨c,hc⟩:=Ln a (Fw hr hk)
  rw [Ly hk hc]
  rw [hc] at hm
  rw [List.mem_singleton.1 hm]
  exact (Kj F _ _).pre _
theorem RR {X:U} {x k:aw} (a:dG X x) (hr:fb x=true) (h:k∈x.kids):4≤x.f.k∧x.f.k≤7:=by
 obtain ⟨k1,Fr,_⟩:=Dc hr
 have hnk:=a.an
 have hpos:0<x.kids.length:=List.length_pos_of_mem h
 refine ⟨?_,Fr⟩
 by_cases hk:x.f.k≤3
 ·have:=Uk hr hk
  omega
 ·omega
def oV (g:aw→Nat) (l:List aw):Nat:=(l.map g).sum
theorem NE (F:aw→ByteArray):∀ l:List aw,(bX (l.map F)).size=oV (fun k=>(F k).size) l
 |[]=>rfl
 |k::l=>by
  rw [List.map_cons,bX,cm,NE F l,oV,oV,List.map_cons,List.sum_cons]
theorem Kk (F:aw→ByteArray) (k:aw) (i:Bool):(mH F k i).size≤(F k).size+2:=by
 cases i
 ·show (F k).size≤_;omega
 ·show (bX [⟨#[40]⟩]++(F k++bX [⟨#[41]⟩])).size≤_
  rw [cm,cm]
  have e1:(bX [⟨#[40]⟩]).size=1:=rfl
  have e2:(bX [⟨#[41]⟩]).size=1:=rfl
  omega
theorem P9 (F:aw→ByteArray) (x:aw):(j8 F x).size≤2+2*x.kids.length+oV (fun k=>(F k).size) x.kids:=by
 rw [j8,cm,cm,lA,if_pos rfl]
 have e1:(bX [⟨#[40]⟩]).size=1:=rfl
 have e2:(bX [⟨#[41]⟩]).size=1:=rfl
 have h:=J8 ⟨#[44,32]⟩ rfl (l:=x.kids.map F)
 rw [NE,List.length_map] at h
 omega
theorem a1 (w:ByteArray):(bX [w]).size=w.size:=by rw [bX,bX,cm];rfl
theorem a2 (w v:ByteArray):(bX [w,v]).size=w.size+v.size:=by rw [bX,cm,a1]
theorem a3 (w v u:ByteArray):(bX [w,v,u]).size=w.size+v.size+u.size:=by rw [bX,cm,a2];omega
theorem a4 (w v u s:ByteArray):(bX [w,v,u,s]).size=w.size+v.size+u.size+s.size:=by rw [bX,cm,a3];omega
theorem QY {x:aw} (h:gN x=true) (hn:x.ns.length≤16) (w1 w2:ByteArray) (h1:w1.size≤10) (h2:w2.size≤10):(nq x w1 w2).size≤7100:=by
 unfold nq
 split
 ·rw [a4,zN,cm,cm]
  have e0:(⟨#[32]⟩:ByteArray).size=1:=rfl
  have e1:(⟨#[40]⟩:ByteArray).size=1:=rfl
  have e2:(⟨#[41]⟩:ByteArray).size=1:=rfl
  have:=KV h hn
  have:(wJ x.f.how w1 w2).size≤10:=by unfold wJ;split <;> assumption
  omega
 ·exact Nat.zero_le _
theorem acS {m:fS} (h:1≤m.1∧m.1≤4) (hz:m.2.1.size≤400):(no m).size≤1300:=by
 rw [no,cm,cm]
 have:=MX h.1 h.2
 have:=GC m.2.2
 omega
theorem aen {x:aw} {X:U} (a:dG X x) (ok:si x) (sh:gN x=true):(wo x).size≤15000:=by
 have h1:=Ab (decide ((x.f.nm:Int)>0)||(x.f.s.toList==(⟨#[]⟩:ByteArray).toList)) (bX [⟨#[123]⟩,fF ⟨#[44,32]⟩ (x.ms.map no),⟨#[125]⟩])
 have h2:=Ab (decide (x.f.wide>0)) (bX [⟨#[91]⟩,mK x.f.wide,⟨#[93]⟩])
 have h3:=Ab x.f.ha (bX [⟨#[32,64,32]⟩,rz (Int.tdiv x.f.at_ 1000)])
 have h4:=Ab (x.f.off != 0) (bX [⟨#[32,111,102,102,115,101,116,32]⟩,mK x.f.off])
 rw [a3] at h1 h2
 rw [a2] at h3 h4
 have l1:=Qs x.f.wide
 have l2:=Qs x.f.off
 have l3:=aal (Int.tdiv x.f.at_ 1000)
 have e1:(⟨#[123]⟩:ByteArray).size=1:=rfl
 have e2:(⟨#[125]⟩:ByteArray).size=1:=rfl
 have aM:(⟨#[91]⟩:ByteArray).size=1:=rfl
 have aG:(⟨#[93]⟩:ByteArray).size=1:=rfl
 have bS:(⟨#[32,64,32]⟩:ByteArray).size=3:=rfl
 have dO:(⟨#[32,111,102,102,115,101,116,32]⟩:ByteArray).size=8:=rfl
 have hs:=Mm sh
 have hj:=J8 ⟨#[44,32]⟩ rfl (l:=x.ms.map no)
 have hm:=Ij (K:=1300) (l:=x.ms.map no) fun w hw=>by
  obtain ⟨m,hm,rfl⟩:=List.mem_map.1 hw
  exact acS (ok.ops m hm) (Ha sh m hm).2
 rw [List.length_map] at hj hm
 have hn:=ok.nm
 have hnm:=a.nm
 have:1300*x.ms.length≤1300*10:=Nat.mul_le_mul_left _ D
 rw [wo,cm,cm,cm,cm,a1]
 omega
theorem ahh {c d:aw} (g:aw→Nat):oV g [c,d]=g c+g d:=by simp [oV]
theorem ahe {c:aw} (g:aw→Nat):oV g [c]=g c:=by simp [oV]
theorem aeg {X:U} {x:aw} (a:dG X x) (hr:fb x=true) (sh:gN x=true) (F:aw→ByteArray):(gR F x).size≤19000+oV (fun k=>(F k).size) x.kids:=by
 obtain ⟨k1,Fr,_⟩:=Dc hr
 have hs:=Mm sh
 have hnk:=a.an
 have Fb:=a.nn
 have e0:(⟨#[32]⟩:ByteArray).size=1:=rfl
 rcases show x.f.k=1∨x.f.k=2∨x.f.k=3∨x.f.k=4∨x.f.k=5∨x.f.k=6∨x.f.k=7 by omega with hk |hk |hk |hk |hk |hk |hk
 ·rw [RM hk,a1]
  have h1:=ahV (qT x.f.v)
  have h2:=adK x.f.v
  omega
 ·rw [RN hk,a1]
  have:=GC x.f.s
  omega
 ·rw [RO hk]
  have:=aen a (RZ hr hk) sh
  omega
 ·rw [Lv hk,cm,a1]
  have:=P9 F x
  have:=Vt hr hk
  omega
 ·rw [Lw hk,cm,cm,cm,a1]
  obtain ⟨hn,h4⟩:=Pn hr hk
  have:=FL hn
  have h1:=Ab (decide (x.f.how>0)) (bX [⟨#[32]⟩])
  rw [a1] at h1
  have:=QY sh D ⟨#[98,121]⟩ ⟨#[119,105,116,104,111,117,116]⟩ (by decide) (by decide)
  have:=P9 F x
  omega
 ·obtain ⟨hn,hn2,dE,p1⟩:=Lt hr hk
  obtain ⟨c,d,hc⟩:=MM a hn2
  have:=FL hn
  rw [Lx hk hc,hc,ahh,cm,cm,cm,cm,a3]
  have h1:=Ab x.f.fk (bX [⟨#[98,111,111,108,32]⟩])
  rw [a1] at h1
  have e1:(⟨#[98,111,111,108,32]⟩:ByteArray).size=5:=rfl
  have:=QY sh D ⟨#[111,110]⟩ ⟨#[105,103,110,111,114,105,110,103]⟩ (by decide) (by decide)
  have h2:=Kk F c (decide (eP c.f<eP x.f+0))
  have h3:=Kk F d (decide (eP d.f<eP x.f+1))
  have h4:(q3 x.f.op).size≤2:=by
   generalize x.f.op=o at dE p1
   rcases show o=1∨o=2∨o=3∨o=4∨o=5∨o=6∨o=7∨o=8∨o=9∨o=10∨o=11 by omega with rfl |rfl |rfl |rfl |rfl |rfl |rfl |rfl |rfl |rfl |rfl <;> decide
  omega
 ·obtain ⟨c,hc⟩:=Ln a (Fw hr hk)
  rw [Ly hk hc,hc,ahe,cm,a1]
  have e1:(⟨#[45]⟩:ByteArray).size=1:=rfl
  have h2:=Kk F c (c.f.k==6)
  omega
theorem Ty {g h:aw→Nat} {K:Nat}:∀{l:List aw},(∀ k∈l,g k≤K*h k)→oV g l≤K*oV h l
 |[],_=>by simp [oV]
 |k::l,hh=>by
  have h1:=hh k (List.mem_cons_self ..)
  have h2:=Ty (g:=g) (h:=h) (K:=K) (l:=l) fun y hy=>hh y (List.mem_cons_of_mem _ hy)
  unfold oV at h2 ⊢
  rw [List.map_cons,List.sum_cons,List.map_cons,List.sum_cons,Nat.mul_add]
  omega
theorem TP {X:U}:∀(n:Nat) {x:aw},gm X x→fb x=true→gN x=true→(og n x).size≤20000*tF n x
 |0,x,_,_,_=>Nat.zero_le _
 |n+1,x,hl,hr,sh=>by
  cases hl with
  |mk a hk=>
   have h1:=aeg a hr sh (og n)
   have h2:=Ty (g:=fun k=>(og n k).size) (h:=tF n) (K:=20000) (l:=x.kids) fun k hm=>TP n (hk k hm) (Dd hr k hm) (r4 sh k hm)
   rw [og,tF,Nat.mul_add]
   unfold oV at h2
   unfold oV at h1
   omega
theorem MN {X:U} (n:Nat) {x:aw} (hl:gm X x) (hr:fb x=true) (sh:gN x=true):(og n x).size≤6000000:=by
 have h1:=TP n hl hr sh
 have h2:=Ez n hl sh
 have h3:tF n x≤300:=D
 have:=Nat.mul_le_mul_left 20000 h3
 omega
def Pc (s:ByteArray):dZ:=⟨3,0,0,s,none,0,0,0,0,false,0,0,none,0,0,false,none,0,0⟩
def zv (k op:Int) (b n:Nat):dZ:=⟨k,op,0,⟨#[]⟩,none,0,0,0,0,false,0,0,none,0,0,false,some ⟨b,0,none⟩,n,2*n+1⟩
def lI (s:ByteArray):aw:=.mk (Pc s) [] [] []
def AR (b:Nat):aw:=.mk (zv 6 7 b 2) [] [] [lI ⟨#[97]⟩,lI ⟨#[98]⟩]
def AQ (b:Nat):aw:=.mk (zv 7 0 b 1) [] [] [lI ⟨#[99]⟩]
def uQ (b1 b2 b3:Nat):aw:=.mk (zv 6 9 b3 2) [] [] [AR b1,AQ b2]
theorem HL:(0:Int)≤0∧(0:Int)<18446744073709551616:=by decide
theorem UU {X:U} (s:ByteArray):dG X (lI s):=⟨rfl,rfl,rfl,.inl rfl,.inl rfl,.inl rfl,ec rfl,ec rfl,ec rfl,HL,fun h=>absurd rfl h⟩
theorem KH {X:U} (s:ByteArray):gm X (lI s):=.mk (UU s) fun k h=>by cases h
theorem KG {X:U} {b1 b2 b3:Nat} (k1:X.get b1=some (O (la [lI ⟨#[97]⟩,lI ⟨#[98]⟩]) 27)) (k2:X.get b2=some (O (la [lI ⟨#[99]⟩]) 27)) (jh:X.get b3=some (O (la [AR b1,AQ b2]) 27)):gm X (uQ b1 b2 b3):=by
 refine .mk ⟨rfl,rfl,rfl,.inl rfl,.inl rfl,.inr ⟨b3,false,27,rfl,jh⟩,ec rfl,ec rfl,ec rfl,HL,fun h=>absurd rfl h⟩ fun k h=>?_
 rcases List.mem_cons.1 h with rfl |h
 ·refine .mk ⟨rfl,rfl,rfl,.inl rfl,.inl rfl,.inr ⟨b1,false,27,rfl,k1⟩,ec rfl,ec rfl,ec rfl,HL,fun h=>absurd rfl h⟩ fun k h=>?_
  rcases List.mem_cons.1 h with rfl |h
  ·exact KH _
  ·rw [List.mem_singleton.1 h];exact KH _
 ·rw [List.mem_singleton.1 h]
  refine .mk ⟨rfl,rfl,rfl,.inl rfl,.inl rfl,.inr ⟨b2,false,27,rfl,k2⟩,ec rfl,ec rfl,ec rfl,HL,fun h=>absurd rfl h⟩ fun k h=>?_
  rw [List.mem_singleton.1 h];exact KH _
theorem MZ {c:UInt8} (h:ii (ac ⟨#[c]⟩ 0)=true) (hl:gJ (ac ⟨#[c]⟩ 0)=true):isWord ⟨#[c]⟩=true:=by
 have e:gd ii ⟨#[c]⟩ 0=1:=by
  rw [gd,dif_pos ⟨by show (0:Int)<1;omega,h⟩,gd,dif_neg (fun q=>by have h1:=q.1;have h2:(0:Int)+1<1:=h1;omega)]
  rfl
 rw [isWord,e,hl]
 rfl
theorem Jg {s:ByteArray} (h1:decide ((s.size:Int)>200)=false) (h2:hasB s (qr pz)=false) (h3:hasB s (qr t9)=false) (h4:isWord s=true):hU s=true:=by
 rw [hU,h1,h2,h3,h4];rfl
theorem Yf:hU ⟨#[97]⟩=true:=Jg av av av (MZ av av)
theorem Yg:hU ⟨#[98]⟩=true:=Jg av av av (MZ av av)
theorem Yh:hU ⟨#[99]⟩=true:=Jg av av av (MZ av av)
theorem KB {s:ByteArray} (h:hU s=true):fb (lI s)=true:=by
 refine r0 (qi ⟨(by decide:(1:Int)≤3),(by decide:(3:Int)≤7)⟩ av ?_) (by rw [show (lI s).kids=[] from rfl,Eg])
 rw [vh rfl,ic,show (lI s).f.s=s from rfl,h,Bool.not_true,Bool.and_false]
 rfl
theorem Km {x:aw} (h:gK x=true) (hk:∀ k∈x.kids,fb k=true):fb x=true:=by
 refine r0 h ?_
 have:∀ l:List aw,(∀ k∈l,fb k=true)→jJ l=false:=by
  intro l
  induction l with
  |nil=>intro _;exact Eg
  |cons y l ih=>
   intro h
   rw [yV,h y (List.mem_cons_self ..),ih fun k hk=>h k (List.mem_cons_of_mem _ hk)];rfl
 exact this _ hk
theorem ahf (b:Nat):fb (AR b)=true:=Km (qi ⟨(by decide:(1:Int)≤6),(by decide:(6:Int)≤7)⟩ av (by rw [nP rfl];kernel_rfl)) fun k h=>by
 rcases List.mem_cons.1 h with rfl |h
 ·exact KB Yf
 ·rw [List.mem_singleton.1 h];exact KB Yg
theorem ace (b:Nat):fb (AQ b)=true:=Km (qi ⟨(by decide:(1:Int)≤7),(by decide:(7:Int)≤7)⟩ av (by rw [w4 rfl];kernel_rfl)) fun k h=>by
 rw [List.mem_singleton.1 h];exact KB Yh
theorem A9 (b1 b2 b3:Nat):fb (uQ b1 b2 b3)=true:=Km (qi ⟨(by decide:(1:Int)≤6),(by decide:(6:Int)≤7)⟩ av (by rw [nP rfl];kernel_rfl)) fun k h=>by
 rcases List.mem_cons.1 h with rfl |h
 ·exact ahf _
 ·rw [List.mem_singleton.1 h];exact ace _
theorem Il (b1 b2 b3:Nat):gN (uQ b1 b2 b3)=true:=av
theorem Ik (b1 b2 b3:Nat):di (uQ b1 b2 b3)=1:=av
def NF:ByteArray:=⟨#[40,97,32,43,32,98,41,32,42,32,45,99]⟩
theorem NG (b1 b2 b3 n:Nat):og (n+3) (uQ b1 b2 b3)=NF:=av
theorem aI.down {E:Env} {G X H:U} {g:FuncId} {args:List Value} {Q:Value→U→Prop} (hx:aa E G X) (h:aI E X g args H [] Q):aI E G g args H [] Q:=by
 obtain ⟨v,H',c,x,y,q⟩:=h
 exact ⟨v,H',c,x,gg hx y,q⟩
section
variable {K:U} {b1 b2 b3:Nat}
theorem aeE (y:aa E G K) (k1:K.get b1=some (O (la [lI ⟨#[97]⟩,lI ⟨#[98]⟩]) 27)) (k2:K.get b2=some (O (la [lI ⟨#[99]⟩]) 27)) (jh:K.get b3=some (O (la [AR b1,AQ b2]) 27)):aI E G 7 [.agg (ae (zv 6 9 b3 2)).toArray] K [] (fun v _=>v=.tuple #[.string NF,.nilIface]):=by
 have hl:=KG k1 k2 jh
 obtain ⟨N,hN⟩:=RQ y hl (A9 ..) (Il ..)
 have h:=LG (uQ b1 b2 b3) K y (og (N+3)) (hN (N+3) D) (EO y) hl (Br hl (Il ..)) (A9 ..) (by rw [mS,A9,Ik];rfl) (by rw [NG];decide)
 rw [NG] at h
 exact aI.down y h
theorem ads (y:aa E G K) (k1:K.get b1=some (O (la [lI ⟨#[97]⟩,lI ⟨#[98]⟩]) 27)) (k2:K.get b2=some (O (la [lI ⟨#[99]⟩]) 27)) (jh:K.get b3=some (O (la [AR b1,AQ b2]) 27)):aI E G 8 [.agg (ae (zv 6 9 b3 2)).toArray] K [] (fun v _=>v=J 1):=by
 have h:=Hy (uQ b1 b2 b3) K y (KG k1 k2 jh) (EO y)
 rw [Ik] at h
 exact aI.down y h
theorem afR (y:aa E G K) (k1:K.get b1=some (O (la [lI ⟨#[97]⟩,lI ⟨#[98]⟩]) 27)) (k2:K.get b2=some (O (la [lI ⟨#[99]⟩]) 27)) (jh:K.get b3=some (O (la [AR b1,AQ b2]) 27)):aI E G 10 [.agg (ae (zv 6 9 b3 2)).toArray] K [] (fun v _=>v=aN):=by
 have hl:=KG k1 k2 jh
 have h:=TK (uQ b1 b2 b3) K y hl (Br hl (Il ..)) (A9 ..) (EO y)
 rw [show mS (uQ b1 b2 b3)=true by rw [mS,A9,Ik];rfl] at h
 exact aI.down y h
end
theorem adD:jx (.tuple #[.string ⟨#[]⟩,.iface 40 (J 6)]):=.tuple fun x hx=>by
 simp only [List.mem_cons,ai,or_false] at hx
 rcases hx with rfl |rfl
 ·exact .ground rfl
 ·exact .iface (.ground rfl)
theorem aeD {H:U} (y:aa E G H):bE E 7 [.agg (dg Y).toArray] H (.ret (.tuple #[.string ⟨#[]⟩,.iface 40 (J 6)])) H []:=by
 obtain ⟨my,c⟩:=R6 (f:=300) (g:=7) (args:=[.agg (dg Y).toArray]) (v:=.tuple #[.string ⟨#[]⟩,.iface 40 (J 6)]) av
 exact gx (iP rfl) adD c y
theorem WC {H:U} (y:aa E G H):bE E 11 [.iface 40 (J 6)] H (.ret (J 6)) H []:=by
 obtain ⟨my,c⟩:=R6 (f:=300) (g:=11) (args:=[.iface 40 (J 6)]) (v:=J 6) av
 exact gx (fun x hx=>by rw [List.mem_singleton.1 hx];exact .iface (.ground rfl)) (.ground rfl) c y
noncomputable abbrev xb s Y:=([J 3,J 0,ax 0,.string s,.slice none 0 0,J 0,J 0,Y,J 0,J 0,.slice none 0 0,Y,.slice none 0 0]:List Value)
theorem M0 (s:ByteArray) {H:U} (y:aa E G H):aI E G 9 [.string s] H [] (fun v H'=>v=.agg (ae (Pc s)).toArray):=by
 refine br Tryz.f9 y ?_
 exact aC 3 (bT bH rfl rfl rfl rfl:bp E 27 (H.n+0) 0 (.agg (xb s Y).toArray) (news H (am (dg Y)))=some (news H (am (xb s Y))))<|aj [] ((dy cv bH rfl rfl rfl):ay E 27 (H.n+0) 0 (news H (am (xb s Y)))=some (.agg (xb s Y).toArray))<|gM 0 [.agg (xb s Y).toArray] (.agg (xb s Y).toArray) (news H (am (xb s Y))) [H.n+0] aQ aZ rfl
noncomputable abbrev y9 Y:=([J 3,J 0,ax 0,.string ⟨#[97]⟩,.slice none 0 0,J 0,J 0,Y,J 0,J 0,.slice none 0 0,Y,.slice none 0 0,J 3,J 0,ax 0,.string ⟨#[98]⟩,.slice none 0 0,J 0,J 0,Y,J 0,J 0,.slice none 0 0,Y,.slice none 0 0]:List Value)
noncomputable abbrev xd Y (H2:U):=([J 6,J 7,ax 0,.string ⟨#[]⟩,.slice none 0 0,J 0,J 0,Y,J 0,J 0,.slice none 0 0,Y,sc (H2.n+0) 0 2 5]:List Value)
noncomputable abbrev lR Y:=([J 3,J 0,ax 0,.string ⟨#[99]⟩,.slice none 0 0,J 0,J 0,Y,J 0,J 0,.slice none 0 0,Y,.slice none 0 0]:List Value)
noncomputable abbrev lS Y (H2:U) (H3:U):=([J 6,J 7,ax 0,.string ⟨#[]⟩,.slice none 0 0,J 0,J 0,Y,J 0,J 0,.slice none 0 0,Y,sc (H2.n+0) 0 2 5,J 7,J 0,ax 0,.string ⟨#[]⟩,.slice none 0 0,J 0,J 0,Y,J 0,J 0,.slice none 0 0,Y,sc (H3.n+0) 0 1 3]:List Value)
noncomputable abbrev lT Y (H3:U):=([J 6,J 9,ax 0,.string ⟨#[]⟩,.slice none 0 0,J 0,J 0,Y,J 0,J 0,.slice none 0 0,Y,sc (H3.n+1) 0 2 5]:List Value)
theorem UW  {H:U} (y:aa E G H):aI E G 4 [] H [] (fun v H'=>v=aN):=by
 refine br Tryz.f4 y ?_
 obtain ⟨_,H1,c1,af,y1,rfl⟩:=M0 ⟨#[97]⟩ y
 have cI:H.n+0≤H1.n:=af.n
 obtain ⟨_,H2,c2,ar,ah,rfl⟩:=M0 ⟨#[98]⟩ y1
 have cl:H1.n+0≤H2.n:=ar.n
 obtain ⟨_,H3,c3,aW,az,rfl⟩:=M0 ⟨#[99]⟩ (ah.news [O (y9 Y) 27,O (xd Y H2) 27])
 have dD:=oK aW
 have P2:=(ah.news [O (y9 Y) 27,O (xd Y H2) 27]).kept aW ai (aL [O (y9 Y) 27,O (xd Y H2) 27] H2 0 _ rfl)
 obtain ⟨_,H4,cY,c4,bz,rfl⟩:=aeE (b1:=H2.n+0) (b2:=H3.n+0) (b3:=H3.n+1) (az.news [O (lR Y) 27,O (lS Y H2 H3) 27,O (lT Y H3) 27]) (az.old P2 [O (lR Y) 27,O (lS Y H2 H3) 27,O (lT Y H3) 27]) (aL [O (lR Y) 27,O (lS Y H2 H3) 27,O (lT Y H3) 27] H3 0 _ rfl) (aL [O (lR Y) 27,O (lS Y H2 H3) 27,O (lT Y H3) 27] H3 1 _ rfl)
 have fB:=CF c4
 have vH:=(az.news [O (lR Y) 27,O (lS Y H2 H3) 27,O (lT Y H3) 27]).kept c4 ai (aL [O (lR Y) 27,O (lS Y H2 H3) 27,O (lT Y H3) 27] H3 0 _ rfl)
 have jB:=(az.news [O (lR Y) 27,O (lS Y H2 H3) 27,O (lT Y H3) 27]).kept c4 ai (aL [O (lR Y) 27,O (lS Y H2 H3) 27,O (lT Y H3) 27] H3 1 _ rfl)
 have P3:=(az.news [O (lR Y) 27,O (lS Y H2 H3) 27,O (lT Y H3) 27]).kept c4 ai (aL [O (lR Y) 27,O (lS Y H2 H3) 27,O (lT Y H3) 27] H3 2 _ rfl)
 have Fq:=(az.news [O (lR Y) 27,O (lS Y H2 H3) 27,O (lT Y H3) 27]).kept c4 ai (az.old P2 [O (lR Y) 27,O (lS Y H2 H3) 27,O (lT Y H3) 27])
 obtain ⟨_,H5,dz,cV,cG,rfl⟩:=ads (b1:=H2.n+0) (b2:=H3.n+0) (b3:=H3.n+1) bz Fq vH jB
 have gk:H4.n+0≤H5.n:=cV.n
 have abn:=bz.kept cV ai P3
 have abl:=bz.kept cV ai Fq
 have Cd:=bz.kept cV ai vH
 have qc:=bz.kept cV ai jB
 obtain ⟨_,fj,gH,fO,ea,rfl⟩:=afR (b1:=H2.n+0) (b2:=H3.n+0) (b3:=H3.n+1) cG abl Cd qc
 have lC:H5.n+0≤fj.n:=fO.n
 exact ad 1 c1<|ad 0 c2<|aC 3 (bT bH rfl rfl rfl rfl:bp E 27 (H2.n+1) 0 (.agg (xd Y H2).toArray) (news H2 [O (y9 Y) 27,O (dg Y) 27])=some (news H2 [O (y9 Y) 27,O (xd Y H2) 27]))<|Z 0 (dy cv bH rfl rfl rfl:ay E 27 (H2.n+1) 0 (news H2 [O (y9 Y) 27,O (xd Y H2) 27])=some (.agg (xd Y H2).toArray))<|ad 0 c3<|aC 5 (bT bH rfl rfl rfl rfl:bp E 27 (H3.n+2) 0 (.agg (lT Y H3).toArray) (news H3 [O (lR Y) 27,O (lS Y H2 H3) 27,O (dg Y) 27])=some (news H3 [O (lR Y) 27,O (lS Y H2 H3) 27,O (lT Y H3) 27]))<|aj [] (cU (az.news [O (lR Y) 27,O (lS Y H2 H3) 27,O (dg Y) 27]) (aL [O (lR Y) 27,O (lS Y H2 H3) 27,O (dg Y) 27] H3 2 _ rfl):bZ (news H3 [O (lR Y) 27,O (lS Y H2 H3) 27,O (dg Y) 27]) (news H3 [O (lR Y) 27,O (lS Y H2 H3) 27,O (lT Y H3) 27]) [H3.n+2]=true)<|Z 0 (dy cv bH rfl rfl rfl:ay E 27 (H3.n+2) 0 (news H3 [O (lR Y) 27,O (lS Y H2 H3) 27,O (lT Y H3) 27])=some (.agg (lT Y H3).toArray))<|ad 0 cY<|ad 6 (aeD bz)<|Z 12 (cg cv bH P3 rfl rfl:ay E 27 (H3.n+2) 0 H4=some (.agg (lT Y H3).toArray))<|ad 0 dz<|Z 3 (cg cv bH abn rfl rfl:ay E 27 (H3.n+2) 0 H5=some (.agg (lT Y H3).toArray))<|ad 0 gH<|ad 3 (WC ea)<|aV 3 aN fj [H2.n+1,H3.n+2] aQ aZ rfl
theorem UV {H:U} (y:aa E G H):bE E 4 [] H (.ret aN) H []:=by
 obtain ⟨_,_,c,_,_,rfl⟩:=UW gE
 exact gx (iP rfl) (.ground rfl) c y
theorem ag3 {R w:ByteArray} {p:Nat} {x y:Int} (he:R.extract p (p+w.size)=w) (hf:(p:Int)<x→false=true) (h0:0≤x) (e:y=x+w.size) (hn:((R.extract x.toNat y.toNat).toList==w.toList)=false):(p:Int)<x+1→false=true:=by
 intro hp
 by_cases h:(p:Int)<x
 ·exact hf h
 ·exfalso
  subst e
  have e1:x.toNat=p:=D
  have e2:(x+(w.size:Int)).toNat=p+w.size:=D
  rw [e1,e2,he] at hn
  simp at hn
noncomputable def Xk:Code:=cN [1,1,1,1,1,0,1,0,0,1,0,0,1,1,1,0,1,0,0] (cH Tryz.f3)
theorem ag2 (X:U) (R w:ByteArray) (p:Nat) (ci:Int) (bw:Nat) (hp:p+w.size≤R.size) (he:R.extract p (p+w.size)=w) (hz:R.size≤1000000000):∀(m:Nat) (cx:Bool) (e8:Int) (H:U),aa E X H→(x0:0≤e8)→(x1:e8≤(R.size:Int)+1)→(hf:(p:Int)<e8→cx=true)→((R.size:Int)+2-e8).toNat=m→
  cy E X 79 Xk [(1,pt bw 0),(3,.string R),(5,J ci),(6,.string w),(8,.bool cx),(9,J e8)] H [] (fun eI T H'=>(eI=(.exit 2)∧T=bl [(1,pt bw 0),(3,.string R),(5,J ci),(8,aN)])):=by
 refine d8 fun m ih=>?_
 intro cx e8 H y x0 x1 hf hm
 refine c9 y ?_
 refine ap 3 (e8+(w.size:Int))<|aO 2 ((e8+(w.size:Int))≤(R.size:Int)) ?_ ?_ <;> intro h1 q1
 ·cases cx with
  |true=>
   exact ap 5 (e8+1)<|dU 1 [(1,pt bw 0),(3,.string R),(5,J ci),(6,.string w),(8,aN),(9,J (e8+1))] H (ih _ D true (e8+1) _ y D D (fun _=>rfl) rfl)
  |false=>
   refine ap 7 (e8+(w.size:Int))<|oU [.ak] (by omega:0≤e8) (by omega:e8≤(e8+(w.size:Int))) (by omega:(e8+(w.size:Int))≤(R.size:Int))<|oS 1 ((R.extract e8.toNat (e8+(w.size:Int)).toNat).toList==w.toList) (fun h3=>?_) fun h3=>?_
   ·exact ap 3 (e8+1)<|dU 1 [(1,pt bw 0),(3,.string R),(5,J ci),(6,.string w),(8,aN),(9,J (e8+1))] H (ih _ D true (e8+1) _ y D D (fun _=>rfl) rfl)
   exact ap 3 (e8+1)<|dU 1 [(1,pt bw 0),(3,.string R),(5,J ci),(6,.string w),(8,Y),(9,J (e8+1))] H (ih _ D false (e8+1) _ y D D (ag3 he hf x0 rfl h3) rfl)
 exact dF 0 [(1,pt bw 0),(3,.string R),(5,J ci),(8,.bool cx)] (.exit 2) H ⟨rfl,(by rw [hf D])⟩
noncomputable def Wh:Code:=cN [1,1,1,1,1,0,1,0,0] (cH Tryz.f3)
theorem abD (x:aw) (X:U) (hx:aa E G X) (a:dG X x) (F:aw→ByteArray) (R:ByteArray) (Z7:∀ k∈x.kids,∀{H:U},aa E X H→aI E X 7 [.agg (ae k.f).toArray] H [] (fun v _=>v=.tuple #[.string (F k),.nilIface])) (Z8:∀ k∈x.kids,gm X k) (hs:gm X x) (hn:∀ k∈x.kids,di k≤di x) (hi:∀ k∈x.kids,kJ (F k) R) (hz:R.size≤1000000000) (bw:Nat):∀(m:Nat) (aE:Int) (H:U),aa E X H→(is:H.get bw=some (O (ae x.f) 27))→(x0:0≤aE)→((x.f.an:Int)-aE).toNat=m→
  cy E X 79 Wh [(1,pt bw 0),(3,.string R),(5,J aE)] H [] (fun eI T H'=>(eI=(.exit 0)∧T=bl [])):=by
 refine d8 fun m ih=>?_
 intro aE H y is x0 hm
 have lL:=a.lL
 refine c9 y ?_
 refine Z 2 (ag 12 dK is)<|aO 1 (aE<(x.f.an:Int)) ?_ ?_ <;> intro h1 q1
 ·obtain ⟨d1,jC,t1,eE,dh⟩:=a.rk.open D
  have eG:=hx.wf.lt dh
  obtain ⟨au,m2⟩:=a.ua (i:=aE.toNat) D
  obtain ⟨dE,Zz,JD⟩:=(hi au (lb m2)).at
  obtain ⟨_,H1,c1,af,y1,rfl⟩:=Z7 au (lb m2) y
  have fz:=y.kept af ai is
  obtain ⟨_,H2,c2,ar,ah,rfl⟩:=Hy au X hx (Z8 au (lb m2)) y1
  have kQ:=y1.kept ar ai fz
  obtain ⟨_,H3,c3,aW,az,rfl⟩:=Hy x X hx hs ah
  obtain ⟨_,_,H4,cY,c4,bz,rfl,rfl⟩:=(ag2 X R (F au) dE aE bw Zz JD hz _ false 0 _ az D D (fun h=>by omega) rfl).code
  have nk:=ah.kept aW ai kQ
  have abk:=az.kept c4 ai nk
  exact Z 1 (ag 12 dK is)<|et 1 H (gz jS bH eE D D:fE E 25 (.slice x.f.pk x.f.an x.f.ak) (J aE)=some (pt d1 (0+aE.toNat*13)))<|Z 0 (kR cv bH (y.cell dh eG) m2 D:ay E 27 d1 (0+aE.toNat*13) H=some (.agg (ae au.f).toArray))<|ad 0 c1<|aK [aB 4]<|Z 4 (ag 12 dK fz)<|et 1 H1 (gz jS bH eE D D:fE E 25 (.slice x.f.pk x.f.an x.f.ak) (J aE)=some (pt d1 (0+aE.toNat*13)))<|Z 0 (kR cv bH (y1.cell dh eG) m2 D:ay E 27 d1 (0+aE.toNat*13) H1=some (.agg (ae au.f).toArray))<|ad 0 c2<|Z 0 (cg cv bH kQ rfl rfl:ay E 27 bw 0 H2=some (.agg (ae x.f).toArray))<|ad 0 c3<|aH 0 (show (decide ((di au)>(di x)))=false from decide_eq_false (by have:=hn au (lb m2);omega))<|bW 3 cY<|ap 3 (aE+1)<|dU 1 [(1,pt bw 0),(3,.string R),(5,J (aE+1))] H4 (ih _ D (aE+1) _ bz abk D rfl)
 exact dF 0 [] (.exit 0) H ⟨rfl,rfl⟩
theorem abF {X:U} {x:aw} (hx:aa E G X) (hs:gm X x) (sh:gN x=true) (hR:mS x=true):∃ F:aw→ByteArray,
  (∀ k∈x.kids,∀{H:U},aa E X H→aI E X 7 [.agg (ae k.f).toArray] H [] (fun v _=>v=.tuple #[.string (F k),.nilIface]))∧
  (∀{H:U},aa E X H→aI E X 7 [.agg (ae x.f).toArray] H [] (fun v _=>v=.tuple #[.string (gR F x),.nilIface]))∧
  (∀ k∈x.kids,kJ (F k) (gR F x))∧(∀ k∈x.kids,di k≤di x)∧(∀ k∈x.kids,gm X k)∧(gR F x).size≤1000000000:=by
 have YI:=hR
 rw [mS,dI,decide_eq_true_eq] at hR
 obtain ⟨hn,hr⟩:=hR
 cases hs with
 |mk a hk=>
  have hs:gm X x:=.mk a hk
  obtain ⟨pY,h1⟩:=Is (l:=x.kids) fun k hm=>RQ hx (hk k hm) (Dd hr k hm) (r4 sh k hm)
  have Y4:=Br hs sh
  have hN:∀ k∈x.kids,di k≤di x:=fun k hm=>adu hs sh hm (RR a hr hm).1 (RR a hr hm).2
  refine ⟨og pY,fun k hm {H} y=>?_,fun {H} y=>?_,aef a hr (og pY),hN,hk,?_⟩
  ·have JJ:=Dd hr k hm
   have hks:=r4 sh k hm
   have hkn:=hN k hm
   exact LG k X hx (og pY) (h1 pY (Nat.le_refl _) k hm) y (hk k hm) (Br (hk k hm) hks) JJ (by rw [mS,JJ,decide_eq_true D];rfl) (by have:=MN pY (hk k hm) JJ hks;omega)
  ·have h2:pf X (og (pY+1)) x:=RT x X hx a hr sh (og pY) (h1 pY (Nat.le_refl _))
   exact LG x X hx (og (pY+1)) h2 y hs Y4 hr YI (by have:=MN (pY+1) hs hr sh;omega)
  ·have:=MN (pY+1) hs hr sh
   exact Nat.le_trans this D
theorem ahL (x:aw) (X:U) (hx:aa E G X) (hs:gm X x) {H:U} (y:aa E X H):aI E X 3 [.agg (ae x.f).toArray] H [] (fun v H'=>v=aN):=by
 refine br Tryz.f3 y ?_
 have UX:dG X x:=by cases hs;assumption
 obtain ⟨_,H1,c1,af,y1,b7⟩:=fh (ahR x X hx hs (y.news [O (ae x.f) 27]))
 refine ad 2 (UV (gg hx (y.news [O (ae x.f) 27])))<|Z 1 (dy cv bH rfl rfl rfl:ay E 27 (H.n+0) 0 (news H [O (ae x.f) 27])=some (.agg (ae x.f).toArray))<|?_
 rcases b7 with ⟨rfl,cq⟩ |⟨rfl,cq⟩
 ·have aP:=(y.news [O (ae x.f) 27]).kept af ai (aL [O (ae x.f) 27] H 0 _ rfl)
  have hf:=Br hs cq
  obtain ⟨_,H2,c2,ar,ah,dC⟩:=fh (XF x X hx hs hf y1)
  refine ad 0 c1<|Z 2 (cg cv bH aP rfl rfl:ay E 27 (H.n+0) 0 H1=some (.agg (ae x.f).toArray))<|?_
  rcases dC with ⟨rfl,cJ⟩ |⟨rfl,cJ⟩
  ·have cL:=y1.kept ar ai aP
   obtain ⟨F,hK,hP,hI,hN,hL,hZ⟩:=abF hx hs cq cJ
   obtain ⟨_,H3,c3,aW,az,rfl⟩:=hP ah
   have ei:=ah.kept aW ai cL
   obtain ⟨_,_,H4,cY,c4,bz,rfl,rfl⟩:=(abD x X hx UX F (gR F x) hK hL hs hN hI hZ (H.n+0) _ 0 _ az ei D rfl).code
   exact ad 0 c2<|Z 2 (cg cv bH cL rfl rfl:ay E 27 (H.n+0) 0 H2=some (.agg (ae x.f).toArray))<|ad 0 c3<|bW 8 cY<|al 1 aN H4 rfl
  exact ad 0 c2<|al 3 aN H2 rfl
 exact ad 0 c1<|al 4 aN H1 rfl
theorem IA {w:World} {a:Addr} {v:Value} (h:w.cell? a=some v):a.block<w.heap.size∧a.spot=none:=by
 unfold World.cell? at h
 split at h
 ·rename_i c e f hc
  refine ⟨(Array.getElem?_eq_some_iff.1 hc).1,?_⟩
  cases hs:a.spot with
  |none=>rfl
  |some q=>rw [hs] at h;cases h
 ·cases h
theorem V1 {w:World} {a:Addr} {k:Nat} {v:Value} (h:w.cell? (a.add k)=some v):w.cell? ⟨a.block,a.off+k,none⟩=some v:=by
 unfold Addr.add at h
 by_cases hk:k=0
 ·rw [if_pos hk] at h
  subst hk
  have:=(IA h).2
  obtain ⟨b,o,s⟩:=a
  simp only at this
  subst this
  exact h
 ·rw [if_neg hk] at h;exact h
theorem add_add {w:World} {a:Addr} {k r:Nat} {v:Value} (h:w.cell? ((a.add k).add r)=some v):w.cell? ⟨a.block,a.off+(k+r),none⟩=some v:=by
 have h1:=V1 h
 have e1:(a.add k).block=a.block:=by unfold Addr.add;split <;> rfl
 have e2:(a.add k).off=a.off+k:=by unfold Addr.add;split <;> (try rfl);omega
 rw [e1,e2] at h1
 rw [← Nat.add_assoc];exact h1
theorem Og {w:World} {base n:Nat} {a:Addr} {c:List Value} (h:w.cells? base a n=some c):c.length=n∧∀ r,r<n→w.cell? (a.add r)=c[r]?:=by
 unfold World.cells? at h
 split at h
 ·exact ⟨by have:=mapM_some_length h;simpa using this,fun r hr=>mapM_some_get h r r (by simp [hr])⟩
 ·cases h
theorem Fz {α:Type}:∀{n:Nat} {Q:Nat→α→Prop},(∀ i,i<n→∃ x,Q i x)→∃ l:List α,l.length=n∧∀(i:Nat) x,l[i]?=some x→Q i x
 |0,Q,_=>⟨[],rfl,fun i x h=>by simp at h⟩
 |n+1,Q,h=>by
  obtain ⟨x,hx⟩:=h 0 D
  obtain ⟨l,h1,h2⟩:=Fz (n:=n) (Q:=fun i=>Q (i+1)) (fun i hi=>h (i+1) D)
  refine ⟨x::l,by simp [h1],fun i y hy=>?_⟩
  cases i with
  |zero=>simp at hy;subst hy;exact hx
  |succ i=>simp at hy;exact h2 i y hy
structure kj (w:World) (H:U) (φ:bA):Prop where
 wf:cz H
 ej:E.ej≤H.n
 free:∀ i,H.n≤i→φ i=none
 iL:∀ g,g<E.ej→∃ l,φ g=some l∧l.cD=g∧l.off=0
 rows:∀ i l o,φ i=some l→H.get i=some o→∃ c e,o=.cells c e true∧∀(j:Nat) x,c[j]?=some x→∃ y,w.cell? ⟨l.cD,l.off+j,none⟩=some y∧be φ x y
theorem kj.rel {w:World} {H:U} {φ:bA} (h:kj w H φ):Rel E w.heap.size H φ w:=by
 refine ⟨Nat.le_refl _,fun i l o hi hl ho=>?_,fun i l hi hl hv=>?_,fun i j l m hi hj hij hl hm hw hv=>?_,h.iL⟩
 ·obtain ⟨c,e,rfl,k⟩:=h.rows i l o hl ho
  exact k
 ·cases hg:H.get i with
  |none=>rw [hg] at hv;cases hv
  |some o=>
   obtain ⟨c,e,rfl,k⟩:=h.rows i l o hl hg
   rw [hg] at hv
   cases c with
   |nil=>cases hv
   |cons x c=>
    obtain ⟨y,hy,_⟩:=k 0 x rfl
    exact (IA hy).1
 ·cases hg:H.get i with
  |none=>rw [hg] at hw;cases hw
  |some o=>
   obtain ⟨c,e,rfl,k⟩:=h.rows i l o hl hg
   rw [hg] at hw
   cases hw
structure km (H:U) (φ:bA) (H':U) (aU:bA):Prop where
 n:H.n≤H'.n
 get:∀ i,i<H.n→H'.get i=H.get i
 eq:∀ i,i<H.n→aU i=φ i
theorem km.refl (H:U) (φ:bA):km H φ H φ:=⟨Nat.le_refl _,fun _ _=>rfl,fun _ _=>rfl⟩
theorem km.trans {A B C:U} {α β γ:bA} (h:km A α B β) (k:km B β C γ):km A α C γ:=
 ⟨Nat.le_trans h.n k.n,fun i hi=>(k.get i (Nat.lt_of_lt_of_le hi h.n)).trans (h.get i hi),fun i hi=>(k.eq i (Nat.lt_of_lt_of_le hi h.n)).trans (h.eq i hi)⟩
theorem km.sub {w:World} {H H':U} {φ aU:bA} (r:kj w H φ) (h:km H φ H' aU):∀ i l,φ i=some l→aU i=some l:=fun i l hl=>by
 by_cases hi:i<H.n
 ·rw [h.eq i hi];exact hl
 ·rw [r.free i D] at hl;cases hl
theorem km.Fy {w:World} {H H':U} {φ aU:bA} (r:kj w H φ) (r':kj w H' aU) (h:km H φ H' aU) {x:aw} (hx:gm H x):gm H' x:=
 hx.up (E:=E) ⟨r'.wf,h.n,r.ej,h.get⟩ r.wf
theorem kj.add {w:World} {H:U} {φ:bA} (r:kj w H φ) {c:List Value} (e:TypeId) {l:Am.Loc} (hc:∀(j:Nat) x,c[j]?=some x→∃ y,w.cell? ⟨l.cD,l.off+j,none⟩=some y∧be φ x y) :
  ∃ H' aU,kj w H' aU∧km H φ H' aU∧H'.get H.n=some (.cells c e true)∧aU H.n=some l:=by
 have qD:∀ i,i≠H.n→(if i=H.n then some l else φ i)=φ i:=fun i h=>if_neg h
 have sub:∀ i m,φ i=some m→(if i=H.n then some l else φ i)=some m:=fun i m hm=>by
  by_cases hi:i=H.n
  ·rw [hi,r.free H.n (Nat.le_refl _)] at hm;cases hm
  ·rw [qD i hi];exact hm
 have EP:(H.new (.cells c e true)).get H.n=some (.cells c e true):=by rw [U.jn,if_pos rfl]
 refine ⟨H.new (.cells c e true),fun i=>if i=H.n then some l else φ i,⟨r.wf.new _,Nat.le_trans r.ej (by rw [U.qO];omega),fun i hi=>?_,fun g hg=>?_,fun i m o hm ho=>?_⟩,⟨by rw [U.qO];omega,fun i hi=>?_,fun i hi=>qD i D⟩,EP,if_pos rfl⟩
 ·rw [U.qO] at hi
  show (if i=H.n then some l else φ i)=none
  rw [qD i D];exact r.free i D
 ·obtain ⟨m,h1,h2⟩:=r.iL g hg
  exact ⟨m,sub g m h1,h2⟩
 ·by_cases hi:i=H.n
  ·subst hi
   rw [EP] at ho
   injection ho with ho
   subst ho
   have hm:(if H.n=H.n then some l else φ H.n)=some m:=hm
   rw [if_pos rfl] at hm
   injection hm with hm
   subst hm
   exact ⟨c,e,rfl,fun j x hx=>let ⟨y,h1,h2⟩:=hc j x hx;⟨y,h1,h2.mono sub⟩⟩
  ·have hm:(if i=H.n then some l else φ i)=some m:=hm
   rw [qD i hi] at hm
   rw [U.jn,if_neg (fun e=>hi e.symm)] at ho
   obtain ⟨c',e',h1,h2⟩:=r.rows i m o hm ho
   exact ⟨c',e',h1,fun j x hx=>let ⟨y,h3,h4⟩:=h2 j x hx;⟨y,h3,h4.mono sub⟩⟩
 ·rw [U.jn,if_neg D]
theorem kj.slice {w:World} {H:U} {φ:bA} (r:kj w H φ) {a:Addr} {len cap:Nat} (hle:len≤cap) {c:List Value} (e:TypeId) (hc:len≠0→∀(j:Nat) x,c[j]?=some x→∃ y,w.cell? ⟨a.block,a.off+j,none⟩=some y∧be φ x y) (hs:len≠0→a.spot=none) :
  ∃ H' aU p k,kj w H' aU∧km H φ H' aU∧ls H' p len c∧be aU (.slice p len k) (.slice (some a) len cap)∧(len≠0→u7 len k):=by
 by_cases h0:len=0
 ·subst h0
  exact ⟨H,φ,some ⟨0,0,some 0⟩,0,r,km.refl ..,.inl rfl,.AB a cap,fun h=>absurd rfl h⟩
 ·obtain ⟨H',aU,r',u,h1,h2⟩:=r.add (l:=⟨a.block,a.off,0⟩) e (hc h0)
  have hsp:=hs h0
  refine ⟨H',aU,some ⟨H.n,0,none⟩,2*cap+1,r',u,.inr ⟨H.n,true,e,rfl,h1⟩,?_⟩
  have:=be.oa (φ:=aU) H.n 0 len cap ⟨a.block,a.off,0⟩ h2 hle
  obtain ⟨b,o,s⟩:=a
  simp only at hsp
  subst hsp
  exact ⟨this,fun _=>.inr ⟨cap,rfl,hle⟩⟩
section
variable {Q:Type} {enc:TypeId×Value→Q} {w:World}
noncomputable abbrev ja (enc:TypeId×Value→Q) (w:World):=DataW.trod enc Tryz.prog w 0 (fun _=>true) true
theorem xZ {n t:Nat} {k:IntKind} (ht:Tryz.prog.underlying t=some (.int k)) {c:List Value} {x:DataW Q×List MemPlace} (h:ja enc w n t c=some x):∃ v,c=[.int k v]:=by
 obtain ⟨v,h1,_⟩:=DataW.trod_int ht h;exact ⟨v,h1⟩
theorem aih {v:Int} (h:(Lit.int .u64 v).wf=true):0≤v∧v<18446744073709551616:=by
 simp [Lit.wf,IntKind.min,IntKind.max,IntKind.signed,IntKind.bits] at h
 omega
theorem adU {n t:Nat} {k:IntKind} (ht:Tryz.prog.underlying t=some (.int k)) {c:List Value} {x:DataW Q×List MemPlace} (h:ja enc w n t c=some x):∃ v,c=[.int k v]∧(Lit.int k v).wf=true:=by
 obtain ⟨v,h1,h2⟩:=DataW.trod_int ht h;exact ⟨v,h1,by first |exact h2 |exact h2.1 |exact h2.2⟩
theorem Ru {n t:Nat} (ht:Tryz.prog.underlying t=some .bool) {c:List Value} {x:DataW Q×List MemPlace} (h:ja enc w n t c=some x):∃ v,c=[.bool v]:=by
 obtain ⟨v,h1,_⟩:=DataW.trod_bool ht h;exact ⟨v,h1⟩
theorem Gt {n t:Nat} (ht:Tryz.prog.underlying t=some .string) {c:List Value} {x:DataW Q×List MemPlace} (h:ja enc w n t c=some x):∃ v:ByteArray,c=[.string v]:=by
 obtain ⟨v,h1,_⟩:=DataW.trod_string ht h;exact ⟨v,h1⟩
theorem c3:Tryz.prog.cellsOf 3=1:=av
theorem qB:Tryz.prog.cellsOf 9=1:=av
theorem oq:Tryz.prog.cellsOf 27=13:=av
theorem Vp:Tryz.prog.cellsOf 39=3:=av
theorem I6 {a:Addr} {sz i n e:Nat} {y:Option (DataW Q×List MemPlace)} (hs:y.isSome=true) (h:(w.cells? 0 (a.add (i*sz)) sz).bind (ja enc w n e)=y) :
  ∃ c x,w.cells? 0 (a.add (i*sz)) sz=some c∧ja enc w n e c=some x∧c.length=sz∧∀ r v,c[r]?=some v→w.cell? ⟨a.block,a.off+(i*sz+r),none⟩=some v:=by
 obtain ⟨x,hx⟩:=Option.isSome_iff_exists.1 hs
 rw [hx,Option.bind_eq_some_iff] at h
 obtain ⟨c,h1,h2⟩:=h
 obtain ⟨h3,h4⟩:=Og h1
 exact ⟨c,x,h1,h2,h3,fun r v hv=>add_add ((h4 r (by have:=(List.getElem?_eq_some_iff.1 hv).1;omega)).trans hv)⟩
theorem Mt {a:Addr} {sz:Nat} {c:List Value} (h:w.cells? 0 (a.add (0*sz)) sz=some c) (hz:0<sz):a.spot=none:=by
 obtain ⟨h1,h2⟩:=Og h
 have h3:=h2 0 hz
 obtain ⟨v,hv⟩:∃ v,c[0]?=some v:=⟨c[0],gI D⟩
 rw [hv,Nat.zero_mul] at h3
 have e:(a.add 0).add 0=a:=rfl
 rw [e] at h3
 exact (IA h3).2
theorem T0 {t e:Nat} (ht:Tryz.prog.underlying t=some (.slice e)) {es sp:List (DataW Q)}:(DataW.slice es sp).weights Tryz.prog t=(es.length+sp.length)*Tryz.prog.bytesOf e::(DataW.weightsAll Tryz.prog e es++DataW.weightsAll Tryz.prog e sp):=by
 rw [DataW.weights,ht]
theorem aim {t:Nat} {fs:Array Field} (ht:Tryz.prog.underlying t=some (.struct fs)) {ps:List (DataW Q)}:(DataW.agg ps).weights Tryz.prog t=DataW.weightsEach Tryz.prog (fs.toList.map (·.type)) ps:=by
 rw [DataW.weights,ht]
theorem TZ:∀{ts:List TypeId} {ds:List (DataW Q)} {i:Nat} {t:TypeId} {d:DataW Q},ts[i]?=some t→ds[i]?=some d→∀ q∈d.weights Tryz.prog t,q∈DataW.weightsEach Tryz.prog ts ds
 |[],ds,i,t,d,h,_,q,_=>by simp at h
 |t0::ts,[],i,t,d,_,h,q,_=>by simp at h
 |t0::ts,d0::ds,i,t,d,h1,h2,q,hq=>by
  rw [DataW.weightsEach]
  cases i with
  |zero=>simp at h1 h2;subst h1;subst h2;exact List.mem_append_left _ hq
  |succ i=>simp at h1 h2;exact List.mem_append_right _ (TZ h1 h2 q hq)
theorem TY:∀{e:TypeId} {ds:List (DataW Q)} {d:DataW Q},d∈ds→∀ q∈d.weights Tryz.prog e,q∈DataW.weightsAll Tryz.prog e ds
 |e,[],d,h,q,_=>by cases h
 |e,d0::ds,d,h,q,hq=>by
  rw [DataW.weightsAll]
  rcases List.mem_cons.1 h with rfl |h
  ·exact List.mem_append_left _ hq
  ·exact List.mem_append_right _ (TY h q hq)
theorem U0:Tryz.prog.bytesOf 9=16:=av
theorem UZ:Tryz.prog.bytesOf 39=40:=av
theorem UY:16≤Tryz.prog.bytesOf 27:=ec av
def ra (t:Nat) (x:DataW Q×List MemPlace):Prop:=∀ q∈x.1.weights Tryz.prog t,q≤140737488351232
theorem ra.len {t e len b:Nat} {es sp:List (DataW Q)} {ps:List MemPlace} (h:ra t (.slice es sp,ps)) (ht:Tryz.prog.underlying t=some (.slice e)) (hb:16≤Tryz.prog.bytesOf e) (hl:es.length=len):len<281474976710656:=by
 have h1:=h ((es.length+sp.length)*Tryz.prog.bytesOf e) (by show _∈(DataW.slice es sp).weights Tryz.prog t;rw [T0 ht];simp)
 have h2:=Nat.mul_le_mul_left (es.length+sp.length) hb
 omega
theorem ado {fuel:Nat} {v:Value} {x:DataW Q×List MemPlace} (h:ja enc w fuel 24 [v]=some x) (hw:ra 24 x) {H:U} {φ:bA} (r:kj w H φ) :
  ∃ H' aU p n k,∃ ns:List ByteArray,kj w H' aU∧km H φ H' aU∧n=ns.length∧n<281474976710656∧ls H' p n (eH ns)∧be aU (.slice p n k) v∧(n≠0→u7 n k):=by
 rcases DataW.trod_slice Tryz.underlying24 h with ⟨h1,_⟩ |⟨a,len,cap,elems,rest,n,rfl,h1,zH,_,hle,hcap,hlen,hel,_⟩
 ·injection h1 with h1
  subst h1
  exact ⟨H,φ,none,0,0,[],r,km.refl ..,rfl,D,.inl rfl,.uo,fun h=>absurd rfl h⟩
 ·injection h1 with h1
  subst h1
  rw [qB] at hel
  have el:∀ i,i<len→∃ s:ByteArray,w.cell? ⟨a.block,a.off+i,none⟩=some (.string s)∧(i=0→a.spot=none):=fun i hi=>by
   obtain ⟨c,y,h1,h2,h3,h4⟩:=I6 (by rw [gI D];rfl) (hel i hi)
   obtain ⟨s,rfl⟩:=Gt Tryz.underlying9 h2
   refine ⟨s,by have:=h4 0 _ rfl;rwa [Nat.mul_one] at this,fun h0=>?_⟩
   subst h0
   exact Mt h1 D
  obtain ⟨ns,l1,l2⟩:=Fz el
  obtain ⟨H',aU,p,k,r',u,hr,hv,hc⟩:=r.slice (a:=a) hle (c:=eH ns) 9 (fun _ j x hx=>by
   rw [eH,List.getElem?_map] at hx
   cases hj:ns[j]? with
   |none=>rw [hj] at hx;cases hx
   |some s=>
    rw [hj] at hx
    simp only [Option.map_some,bx] at hx
    subst hx
    exact ⟨_,(l2 j s hj).1,.string s⟩) (fun h0=>(el 0 D).elim fun s hs=>hs.2 rfl)
  subst zH
  exact ⟨H',aU,p,len,k,ns,r',u,l1.symm,hw.len (b:=0) Tryz.underlying24 (Nat.le_of_eq U0.symm) (by simpa using hlen),hr,hv,hc⟩
theorem acY {fuel:Nat} {v:Value} {x:DataW Q×List MemPlace} (h:ja enc w fuel 23 [v]=some x) (hw:ra 23 x) {H:U} {φ:bA} (r:kj w H φ) :
  ∃ H' aU p n k,∃ ms:List fS,kj w H' aU∧km H φ H' aU∧n=ms.length∧n<281474976710656∧ls H' p n (ui ms)∧be aU (.slice p n k) v:=by
 rcases DataW.trod_slice Tryz.underlying23 h with ⟨h1,_⟩ |⟨a,len,cap,elems,rest,n,rfl,h1,zH,_,hle,hcap,hlen,hel,_⟩
 ·injection h1 with h1
  subst h1
  exact ⟨H,φ,none,0,0,[],r,km.refl ..,rfl,D,.inl rfl,.uo⟩
 ·injection h1 with h1
  subst h1
  rw [Vp] at hel
  have el:∀ i,i<len→∃ m:fS,(∀ r v,[J m.1,Value.string m.2.1,.string m.2.2][r]?=some v→w.cell? ⟨a.block,a.off+(i*3+r),none⟩=some v)∧(i=0→a.spot=none):=fun i hi=>by
   obtain ⟨c,y,h1,h2,h3,h4⟩:=I6 (by rw [gI D];rfl) (hel i hi)
   obtain ⟨xs,m,_,_,_,hx,hf⟩:=DataW.trod_struct Tryz.underlying39 h2
   have hx:xs.length=3:=hx
   have f0:=show ja enc w m 3 ((c.drop 0).take (Tryz.prog.cellsOf 3))=xs[0]? from hf 0 _ rfl
   have f1:=show ja enc w m 9 ((c.drop 1).take (Tryz.prog.cellsOf 9))=xs[1]? from hf 1 _ rfl
   have f2:=show ja enc w m 9 ((c.drop 2).take (Tryz.prog.cellsOf 9))=xs[2]? from hf 2 _ rfl
   rw [gI D] at f0 f1 f2
   rw [c3] at f0
   rw [qB] at f1 f2
   obtain ⟨o,e0⟩:=xZ Tryz.underlying3 f0
   obtain ⟨s,e1⟩:=Gt Tryz.underlying9 f1
   obtain ⟨t,e2⟩:=Gt Tryz.underlying9 f2
   have hc:c=[J o,.string s,.string t]:=by
    match c,h3 with
    |[c0,c1,c2],_=>
     simp at e0 e1 e2
     rw [e0,e1,e2]
   refine ⟨(o,s,t),fun r v hv=>h4 r v (by rw [hc];exact hv),fun h0=>?_⟩
   subst h0
   exact Mt h1 D
  obtain ⟨ms,l1,l2⟩:=Fz el
  obtain ⟨H',aU,p,k,r',u,hr,hv,_⟩:=r.slice (a:=a) hle (c:=ui ms) 39 (fun _ j x hx=>by
   have hjl:(ui ms).length=ms.length*3:=by
    rw [ui,List.length_flatMap]
    simp only [cj,cF,List.map_const',List.sum_replicate_nat]
   have hj:=(List.getElem?_eq_some_iff.1 hx).1
   have hi:j / 3<ms.length:=D
   obtain ⟨g1,g2⟩:=KQ (gI hi)
   have g3:=EE (j:=j%3) g1 D
   rw [show j / 3*3+j%3=j by omega,hx] at g3
   have g4:=(l2 (j / 3) _ (gI hi)).1 (j%3) x g3.symm
   rw [show j / 3*3+j%3=j by omega] at g4
   refine ⟨x,g4,?_⟩
   have hr:j%3=0∨j%3=1∨j%3=2:=D
   rcases hr with e |e |e <;> rw [e] at g3 <;> simp only [List.getElem?_cons_zero,List.getElem?_cons_succ,bx] at g3 <;> subst g3
   ·exact .int _ _
   ·exact .string _
   ·exact .string _) (fun h0=>(el 0 D).elim fun s hs=>hs.2 rfl)
  subst zH
  exact ⟨H',aU,p,len,k,ms,r',u,l1.symm,hw.len (b:=0) Tryz.underlying23 (by rw [UZ];omega) (by simpa using hlen),hr,hv⟩
theorem Qa {n:Nat} (ih:∀ c x,ja enc w n 27 c=some x→ra 27 x→∀ H φ,kj w H φ→∃ H' aU t,kj w H' aU∧km H φ H' aU∧gm H' t∧eb aU (ae t.f) c):∀(cs:List (List Value)),(∀ c∈cs,∃ x,ja enc w n 27 c=some x∧ra 27 x)→∀ H φ,kj w H φ→
  ∃ H' aU,∃ ts:List aw,kj w H' aU∧km H φ H' aU∧ts.length=cs.length∧(∀ t∈ts,gm H' t)∧∀(i:Nat) t c,ts[i]?=some t→cs[i]?=some c→eb aU (ae t.f) c
 |[],_,H,φ,r=>⟨H,φ,[],r,km.refl ..,rfl,(fun t ht=>by cases ht),(fun i t c ht=>by simp at ht)⟩
 |c::cs,h,H,φ,r=>by
  obtain ⟨x,hx,Z0⟩:=h c bD
  obtain ⟨H1,e4,t,r1,u1,l1,e1⟩:=ih c x hx Z0 H φ r
  obtain ⟨H2,o8,ts,r2,u2,l2,k2,e2⟩:=Qa ih cs (fun c hc=>h c (List.mem_cons_of_mem _ hc)) H1 e4 r1
  refine ⟨H2,o8,t::ts,r2,u1.trans u2,by simp [l2],fun q hq=>?_,fun i q d hq hd=>?_⟩
  ·rcases List.mem_cons.1 hq with rfl |hq
   ·exact u2.Fy r1 r2 l1
   ·exact k2 q hq
  ·cases i with
   |zero=>simp at hq hd;subst hq;subst hd;exact e1.mono (u2.sub r1)
   |succ i=>simp at hq hd;exact e2 i q d hq hd
theorem TM:∀(fuel:Nat) (c:List Value) (x:DataW Q×List MemPlace),ja enc w fuel 27 c=some x→ra 27 x→∀ H φ,kj w H φ→∃ H' aU t,kj w H' aU∧km H φ H' aU∧gm H' t∧eb aU (ae t.f) c
 |0,c,x,h,hw,H,φ,r=>by simp [DataW.trod] at h
 |fuel+1,c,x,h,hw,H,φ,r=>by
  obtain ⟨xs,n,hn,xC,hl,hx,hf⟩:=DataW.trod_struct Tryz.underlying27 h
  have hn:fuel=n:=D
  subst hn
  have hx:xs.length=13:=hx
  subst xC
  have B3:∀(i:Nat) (t:TypeId) y,([3,3,22,9,23,2,2,4,2,3,24,4,25]:List TypeId)[i]?=some t→xs[i]?=some y→ra t y:=fun i t y h1 h2 q hq=>by
   refine hw q ?_
   show q∈(DataW.agg (xs.map (·.1))).weights Tryz.prog 27
   rw [aim Tryz.underlying27]
   exact TZ (i:=i) (t:=t) (d:=y.1) h1 (by rw [List.getElem?_map,h2];rfl) q hq
  rw [oq] at hl
  have f0:=(show ja enc w fuel 3 ((c.drop 0).take (Tryz.prog.cellsOf 3))=xs[0]? from hf 0 _ rfl).trans (gI (show 0<xs.length by omega))
  have f1:=(show ja enc w fuel 3 ((c.drop 1).take (Tryz.prog.cellsOf 3))=xs[1]? from hf 1 _ rfl).trans (gI (show 1<xs.length by omega))
  have f2:=(show ja enc w fuel 22 ((c.drop 2).take (Tryz.prog.cellsOf 22))=xs[2]? from hf 2 _ rfl).trans (gI (show 2<xs.length by omega))
  have f3:=(show ja enc w fuel 9 ((c.drop 3).take (Tryz.prog.cellsOf 9))=xs[3]? from hf 3 _ rfl).trans (gI (show 3<xs.length by omega))
  have f4:=(show ja enc w fuel 23 ((c.drop 4).take (Tryz.prog.cellsOf 23))=xs[4]? from hf 4 _ rfl).trans (gI (show 4<xs.length by omega))
  have f5:=(show ja enc w fuel 2 ((c.drop 5).take (Tryz.prog.cellsOf 2))=xs[5]? from hf 5 _ rfl).trans (gI (show 5<xs.length by omega))
  have f6:=(show ja enc w fuel 2 ((c.drop 6).take (Tryz.prog.cellsOf 2))=xs[6]? from hf 6 _ rfl).trans (gI (show 6<xs.length by omega))
  have f7:=(show ja enc w fuel 4 ((c.drop 7).take (Tryz.prog.cellsOf 4))=xs[7]? from hf 7 _ rfl).trans (gI (show 7<xs.length by omega))
  have f8:=(show ja enc w fuel 2 ((c.drop 8).take (Tryz.prog.cellsOf 2))=xs[8]? from hf 8 _ rfl).trans (gI (show 8<xs.length by omega))
  have f9:=(show ja enc w fuel 3 ((c.drop 9).take (Tryz.prog.cellsOf 3))=xs[9]? from hf 9 _ rfl).trans (gI (show 9<xs.length by omega))
  have f10:=(show ja enc w fuel 24 ((c.drop 10).take (Tryz.prog.cellsOf 24))=xs[10]? from hf 10 _ rfl).trans (gI (show 10<xs.length by omega))
  have f11:=(show ja enc w fuel 4 ((c.drop 11).take (Tryz.prog.cellsOf 4))=xs[11]? from hf 11 _ rfl).trans (gI (show 11<xs.length by omega))
  have f12:=(show ja enc w fuel 25 ((c.drop 12).take (Tryz.prog.cellsOf 25))=xs[12]? from hf 12 _ rfl).trans (gI (show 12<xs.length by omega))
  have c1:∀ t,t∈[2,3,4,9,22,23,24,25]→Tryz.prog.cellsOf t=1:=by
   intro t ht
   simp only [List.mem_cons,ai,or_false] at ht
   rcases ht with rfl |rfl |rfl |rfl |rfl |rfl |rfl |rfl <;> kernel_rfl
  rw [c1 2 bD] at f5 f6 f8
  rw [c1 3 bD] at f0 f1 f9
  rw [c1 4 bD] at f7 f11
  rw [c1 9 bD] at f3
  rw [c1 22 bD] at f2
  rw [c1 23 bD] at f4
  rw [c1 24 bD] at f10
  rw [c1 25 bD] at f12
  match c,hl with
  |[v0,v1,v2,v3,v4,TU,v6,ak6,TV,ak7,v10,v11,MQ],_=>
   simp only [List.drop_zero,List.drop_succ_cons,List.take_succ_cons,List.take_zero] at f0 f1 f2 f3 f4 f5 f6 f7 f8 f9 f10 f11 f12
   obtain ⟨k,e⟩:=xZ Tryz.underlying3 f0;injection e with e;subst e
   obtain ⟨op,e⟩:=xZ Tryz.underlying3 f1;injection e with e;subst e
   obtain ⟨aii,e,ZO⟩:=adU Tryz.underlying22 f2;injection e with e;subst e
   obtain ⟨s,e⟩:=Gt Tryz.underlying9 f3;injection e with e;subst e
   obtain ⟨wide,e⟩:=xZ Tryz.underlying2 f5;injection e with e;subst e
   obtain ⟨off,e⟩:=xZ Tryz.underlying2 f6;injection e with e;subst e
   obtain ⟨ha,e⟩:=Ru Tryz.underlying4 f7;injection e with e;subst e
   obtain ⟨at_,e⟩:=xZ Tryz.underlying2 f8;injection e with e;subst e
   obtain ⟨how,e⟩:=xZ Tryz.underlying3 f9;injection e with e;subst e
   obtain ⟨fk,e⟩:=Ru Tryz.underlying4 f11;injection e with e;subst e
   obtain ⟨H1,e4,pm,nm,bj,ms,r1,u1,m1,m2,uh,acI⟩:=acY f4 (B3 4 23 _ rfl (gI _)) r
   obtain ⟨H2,o8,bf,nn,bg,ns,r2,u2,n1,n2,rP,adh,adi⟩:=ado f10 (B3 10 24 _ rfl (gI _)) r1
   have kids:∃ H3 A0 pk an ak,∃ ts:List aw,kj w H3 A0∧km H2 o8 H3 A0∧an=ts.length∧an<281474976710656∧ls H3 pk an (la ts)∧be A0 (.slice pk an ak) MQ∧∀ t∈ts,gm H3 t:=by
    have JS:=B3 12 25 _ rfl (gI (show 12<xs.length by omega))
    rcases DataW.trod_slice Tryz.underlying25 f12 with ⟨h1,_⟩ |⟨a,len,cap,elems,rest,n,ajF,h1,zH,_,hle,hcap,hlen,hel,_⟩
    ·injection h1 with h1
     subst h1
     exact ⟨H2,o8,none,0,0,[],r2,km.refl ..,rfl,D,.inl rfl,.uo,fun t ht=>by cases ht⟩
    ·injection h1 with h1
     subst h1
     rw [oq] at hel
     have el:∀ i,i<len→∃ c:List Value,(∃ y,ja enc w n 27 c=some y∧ra 27 y)∧c.length=13∧(∀ r v,c[r]?=some v→w.cell? ⟨a.block,a.off+(i*13+r),none⟩=some v)∧(i=0→a.spot=none):=fun i hi=>by
      obtain ⟨c,y,h1,h2,h3,h4⟩:=I6 (by rw [gI D];rfl) (hel i hi)
      have YZ:elems[i]?=some y:=by rw [← hel i hi,h1];exact h2
      refine ⟨c,⟨y,h2,fun q hq=>JS q ?_⟩,h3,h4,fun h0=>?_⟩
      ·rw [zH]
       show q∈(DataW.slice _ _).weights Tryz.prog 25
       rw [T0 Tryz.underlying25]
       exact List.mem_cons_of_mem _ (List.mem_append_left _ (TY (List.mem_map_of_mem (List.mem_of_getElem? YZ)) q hq))
      subst h0
      exact Mt h1 D
     obtain ⟨css,l1,l2⟩:=Fz el
     obtain ⟨H3,A0,ts,s7,u3,t1,t2,t3⟩:=Qa (n:=n) (fun c y hy Z1=>TM n c y hy Z1) css (fun c hc=>by
      obtain ⟨i,hi⟩:=List.getElem?_of_mem hc
      exact (l2 i c hi).1) H2 o8 r2
     obtain ⟨H4,ai6,p,vG,LQ,u4,hr,hv,_⟩:=s7.slice (a:=a) hle (c:=la ts) 27 (fun _ j x hx=>by
      have hjl:(la ts).length=ts.length*13:=by
       rw [la,List.length_flatMap]
       simp only [cj,cF,List.map_const',List.sum_replicate_nat]
      have hj:=(List.getElem?_eq_some_iff.1 hx).1
      have hi:j / 13<ts.length:=D
      obtain ⟨g1,g2⟩:=Ki (gI hi)
      have g3:=EE (j:=j%13) g1 D
      rw [show j / 13*13+j%13=j by omega,hx] at g3
      have hic:j / 13<css.length:=D
      have lr:=t3 (j / 13) _ _ (gI hi) (gI hic)
      obtain ⟨y,hy,hxy⟩:=lr.get g3.symm
      have g4:=(l2 (j / 13) _ (gI hic)).2.2.1 (j%13) y hy
      rw [show j / 13*13+j%13=j by omega] at g4
      exact ⟨y,g4,hxy⟩) (fun h0=>(el 0 D).elim fun c hc=>hc.2.2.2 rfl)
     rw [zH] at JS
     exact ⟨H4,ai6,p,len,vG,ts,LQ,u3.trans u4,D,JS.len (b:=0) Tryz.underlying25 UY (by simpa using hlen),hr,hv,fun t ht=>u4.Fy s7 LQ (t2 t ht)⟩
   obtain ⟨H3,A0,pk,an,ak,ts,s7,u3,k1,k2,jh,vG,zK⟩:=kids
   have up:∀{p:Option Addr} {n:Nat} {cs:List Value},ls H2 p n cs→ls H3 p n cs:=fun h=>h.up (E:=E) ⟨s7.wf,u3.n,r2.ej,u3.get⟩ r2.wf
   have ah5:∀{p:Option Addr} {n:Nat} {cs:List Value},ls H1 p n cs→ls H2 p n cs:=fun h=>h.up (E:=E) ⟨r2.wf,u2.n,r1.ej,u2.get⟩ r1.wf
   refine ⟨H3,A0,.mk ⟨k,op,aii,s,pm,nm,bj,wide,off,ha,at_,how,bf,nn,bg,fk,pk,an,ak⟩ ms ns ts,s7,(u1.trans u2).trans u3,.mk ⟨m1,n1,k1,up (ah5 uh),up rP,jh,m2,n2,k2,aih ZO,adi⟩ zK,?_⟩
   exact .cons (.int _ _) (.cons (.int _ _) (.cons (.int _ _) (.cons (.string _) (.cons ((acI.mono (u2.sub r1)).mono (u3.sub r2)) (.cons (.int _ _) (.cons (.int _ _) (.cons (.bool _) (.cons (.int _ _) (.cons (.int _ _) (.cons (adh.mono (u3.sub r2)) (.cons (.bool _) (.cons vG (.nil _)))))))))))))
termination_by fuel=>fuel
decreasing_by omega
end
end Go.Proofs.YtbehemdcaiigeaaGreatDoor
set_option maxRecDepth 1000000
namespace Go.Proofs.YtbehemdcaiigeaaGreatDoor
open Go Go.Am
mutual
def nc:DataW Unit→Option (List Value)
 |.lit l=>some [l.value]
 |.agg ds=>Bs ds
 |_=>none
def Bs:List (DataW Unit)→Option (List Value)
 |[]=>some []
 |d::ds=>match nc d,Bs ds with
  |some a,some b=>some (a++b)
  |_,_=>none
end
def w9:List (Nat×Nat)→Nat→Option Nat
 |[],o=>some o
 |(off,sz)::l,o=>bif Nat.beq off o then w9 l (o+sz) else none
def Fu (P:Program) (t:TypeId):Bool:=match P.underlying t with
 |some (.struct fs)=>(match w9 (fs.toList.map fun f=>(f.offset,P.cellsOf f.type)) 0 with |some n=>Nat.beq n (P.cellsOf t) |none=>false)
 |some (.array n e)=>Nat.beq (P.cellsOf t) (n*P.cellsOf e)
 |_=>true
theorem Mk:∀(Ay:List (Nat×Nat)) (o n:Nat) (xs:List (DataW Unit×List MemPlace)) (cs vs:List Value),w9 Ay o=some n→cs.length=n→Ay.length=xs.length→
  (∀(i:Nat) s x,Ay[i]?=some s→xs[i]?=some x→∀ v,nc x.1=some v→(cs.drop s.1).take s.2=v)→Bs (xs.map (·.1))=some vs→cs.drop o=vs
 |[],o,n,xs,cs,vs,h,hl,hx,_,hf=>by
  have:xs=[]:=List.eq_nil_of_length_eq_zero hx.symm
  subst this
  simp only [w9,bx] at h
  simp only [List.map_nil,Bs,bx] at hf
  subst hf
  exact List.drop_of_length_le D
 |(off,sz)::Ay,o,n,[],cs,vs,h,hl,hx,_,hf=>by simp at hx
 |(off,sz)::Ay,o,n,x::xs,cs,vs,h,hl,hx,hk,hf=>by
  simp only [w9] at h
  cases hb:Nat.beq off o with
  |false=>rw [hb] at h;cases h
  |true=>
   rw [hb] at h
   have:=Nat.eq_of_beq_eq_true hb
   subst this
   simp only [List.map_cons,Bs] at hf
   split at hf
   ·rename_i a b ha hb
    injection hf with hf
    subst hf
    have h1:=hk 0 (off,sz) x rfl rfl a ha
    have h2:=Mk Ay (off+sz) n xs cs b h hl (by simpa using hx) (fun i s y hs hy=>hk (i+1) s y (by simpa using hs) (by simpa using hy)) hb
    rw [← h1,← h2,← List.drop_drop,List.take_append_drop]
   ·cases hf
theorem Ou (sz:Nat):∀(n k:Nat),w9 ((List.range' k n).map fun i=>(i*sz,sz)) (k*sz)=some ((k+n)*sz)
 |0,k=>rfl
 |n+1,k=>by
  rw [List.range'_succ,List.map_cons]
  have e:k*sz+sz=(k+1)*sz:=by rw [Nat.succ_mul]
  simp only [w9,Nat.beq_refl,cond_true,e]
  rw [Ou sz n (k+1)]
  congr 2;omega
def wq (P:Program):Nat→TypeId→Bool
 |0,_=>false
 |k+1,t=>match P.underlying t with
  |some .bool |some (.int _) |some (.float _) |some .string=>true
  |some (.struct fs)=>Fu P t&&fs.toList.all fun f=>wq P k f.type
  |some (.array _ e)=>Fu P t&&wq P k e
  |_=>false
theorem MK {w:World} {base:Nat} {sp:Nat→Bool} {held:Bool}:∀(k fuel:Nat) (t:TypeId) (cs:List Value) (x:DataW Unit×List MemPlace) (vs:List Value),wq Tryz.prog k t=true→
  DataW.trod (fun _=>()) Tryz.prog w base sp held fuel t cs=some x→nc x.1=some vs→cs=vs
 |0,_,t,cs,x,vs,hp,h,_=>by cases hp
 |k+1,fuel,t,cs,x,vs,hp,h,hf=>by
  cases hu:Tryz.prog.underlying t with
  |none=>rw [wq,hu] at hp;cases hp
  |some d=>
   cases d with
   |struct fs=>
    obtain ⟨xs,n,hn,rfl,hl,hx,hk⟩:=DataW.trod_struct hu h
    rw [wq,hu] at hp
    obtain ⟨rr,hp⟩:=Bool.and_eq_true_iff.1 hp
    have hp:=List.all_eq_true.1 hp
    unfold Fu at rr
    rw [hu] at rr
    simp only at rr
    split at rr
    ·rename_i n' hc
     have hn':=Nat.eq_of_beq_eq_true rr
     subst hn'
     exact Mk _ 0 _ xs cs vs hc hl (by simpa using hx.symm) (fun i s y hs hy v hv=>by
      rw [List.getElem?_map] at hs
      cases E3:fs.toList[i]? with
      |none=>rw [E3] at hs;cases hs
      |some f=>
       rw [E3] at hs
       simp only [Option.map_some,bx] at hs
       subst hs
       exact MK k n f.type _ y v (hp f (List.mem_of_getElem? E3)) ((hk i f (by simpa using E3)).trans hy) hv) hf
    ·cases rr
   |array n e=>
    obtain ⟨xs,m,hm,rfl,hl,hx,hk⟩:=DataW.trod_array hu h
    rw [wq,hu] at hp
    obtain ⟨rr,hp⟩:=Bool.and_eq_true_iff.1 hp
    unfold Fu at rr
    rw [hu] at rr
    have rr:=Nat.eq_of_beq_eq_true rr
    have hc:=Ou (Tryz.prog.cellsOf e) n 0
    rw [Nat.zero_mul,Nat.zero_add] at hc
    exact Mk _ 0 _ xs cs vs hc D (by simp [hx]) (fun i s y hs hy v hv=>by
     rw [List.getElem?_map] at hs
     have hi:i<n:=by have:=(List.getElem?_eq_some_iff.1 hy).1;omega
     rw [List.getElem?_range' hi] at hs
     simp only [Option.map_some,bx,Nat.zero_add,Nat.one_mul] at hs
     subst hs
     exact MK k m e _ y v hp ((hk i hi).trans hy) hv) hf
   |bool=>
    obtain ⟨b,rfl,rfl⟩:=DataW.trod_bool hu h
    simp only [nc,Lit.value,bx] at hf;exact hf
   |int k=>
    obtain ⟨b,rfl,rfl,_⟩:=DataW.trod_int hu h
    simp only [nc,Lit.value,bx] at hf;exact hf
   |string=>
    obtain ⟨b,rfl,rfl,_⟩:=DataW.trod_string hu h
    simp only [nc,Lit.value,bx] at hf
    rw [← hf]
   |float kk=>
    cases fuel with
    |zero=>simp [DataW.trod] at h
    |succ fuel=>
    unfold DataW.trod at h
    rw [hu] at h
    split at h <;> simp_all
    obtain ⟨⟨rfl,_⟩,rfl⟩:=h
    simp only [nc,Lit.value,bx] at hf
    exact hf
   |_=>rw [wq,hu] at hp;cases hp
end Go.Proofs.YtbehemdcaiigeaaGreatDoor
