/- Part of the proof that CheckTypes answers true. -/
import Derived.Test.YtglmagcldkngbaaGreatDoorQ04
set_option linter.unusedVariables false
set_option linter.unusedSimpArgs false
set_option maxRecDepth 100000
set_option maxHeartbeats 4000000
namespace Go.Proofs.YtglmagcldkngbaaGreatDoor
open Go Go.Am
noncomputable def U1:Code:=cw [1,0] (cx Tryz.f125)
theorem acj (c:Int) (b1:Nat) (b2:Nat) (pl:Bool) (was:Int)  {H:Z} (y:aa E G H) (k1:H.get b1=some (O [.bool pl] 4)) (k2:H.get b2=some (O [ab was] 5)) (hb:b1≠b2) :
  jL E G 48 U1 [(0,ab c),(1,pt b1 0),(2,pt b2 0)] H [] (fun x T H'=>(x=.normal∧∃(z5:Bool),T=aP [(0,ab c),(1,pt b1 0),(2,pt b2 0),(5,.bool z5)])):=by
 refine mq y ?_
 cases h1:(eZ c) with
 |true=>
  exact ac 1 (cP h1 (z7 c y))<|cM 7 [(0,ab c),(1,pt b1 0),(2,pt b2 0),(5,aw)] .normal H ⟨rfl,true,rfl⟩
 |false=>
  refine ac 1 (cP h1 (z7 c y))<|?_
  cases h2:(hH c) with
  |true=>
   exact ac 2 (cP h2 (tn c y))<|cM 6 [(0,ab c),(1,pt b1 0),(2,pt b2 0),(5,aw)] .normal H ⟨rfl,true,rfl⟩
  |false=>
   refine ac 2 (cP h2 (tn c y))<|aY 3 c 46 ?_ ?_ <;> intro h3 cY
   ·exact cM 4 [(0,ab c),(1,pt b1 0),(2,pt b2 0),(5,aw)] .normal H ⟨rfl,true,rfl⟩
   refine aY 3 c 43 ?_ ?_ <;> intro h4 cO
   ·refine Y 3 (ag 0 fK k1)<|?_
    cases pl with
    |true=>
     refine Y 2 (ag 0 cy k2)<|aY 0 was 101 ?_ ?_ <;> intro h6 di
     ·exact cM 5 [(0,ab c),(1,pt b1 0),(2,pt b2 0),(5,aw)] .normal H ⟨rfl,true,rfl⟩
     refine Y 1 (ag 0 cy k2)<|aY 0 was 69 ?_ ?_ <;> intro h7 gM
     ·exact cM 4 [(0,ab c),(1,pt b1 0),(2,pt b2 0),(5,aw)] .normal H ⟨rfl,true,rfl⟩
     exact cM 4 [(0,ab c),(1,pt b1 0),(2,pt b2 0),(5,U)] .normal H ⟨rfl,false,rfl⟩
    |false=>
     exact cM 5 [(0,ab c),(1,pt b1 0),(2,pt b2 0),(5,U)] .normal H ⟨rfl,false,rfl⟩
   refine aY 2 c 45 ?_ ?_ <;> intro h5 dc
   ·refine Y 2 (ag 0 fK k1)<|?_
    cases pl with
    |true=>
     refine Y 2 (ag 0 cy k2)<|aY 0 was 101 ?_ ?_ <;> intro h7 gM
     ·exact cM 5 [(0,ab c),(1,pt b1 0),(2,pt b2 0),(5,aw)] .normal H ⟨rfl,true,rfl⟩
     refine Y 1 (ag 0 cy k2)<|aY 0 was 69 ?_ ?_ <;> intro h8 lT
     ·exact cM 4 [(0,ab c),(1,pt b1 0),(2,pt b2 0),(5,aw)] .normal H ⟨rfl,true,rfl⟩
     exact cM 4 [(0,ab c),(1,pt b1 0),(2,pt b2 0),(5,U)] .normal H ⟨rfl,false,rfl⟩
    |false=>
     exact cM 5 [(0,ab c),(1,pt b1 0),(2,pt b2 0),(5,U)] .normal H ⟨rfl,false,rfl⟩
   exact cM 7 [(0,ab c),(1,pt b1 0),(2,pt b2 0),(5,U)] .normal H ⟨rfl,false,rfl⟩
noncomputable def U2:Code:=cw [1,1,0] (cx Tryz.f125)
theorem ack (c:Int) (b1:Nat) (b2:Nat) (pl:Bool) (was:Int) (z5:Bool)  {H:Z} (y:aa E G H) (k1:H.get b1=some (O [.bool pl] 4)) (k2:H.get b2=some (O [ab was] 5)) (hb:b1≠b2) (vM:G.n≤b1) :
  jL E G 48 U2 [(0,ab c),(1,pt b1 0),(2,pt b2 0),(5,.bool z5)] H [b1] (fun x T H'=>(x=.normal∧∃(ja:Bool),T=aP [(0,ab c),(2,pt b2 0),(5,.bool z5)]∧(H'.get b1=some (O [.bool ja] 4)))):=by
 refine mq y ?_
 have abd:=y.wf.lt k1
 refine Y 0 (ag 0 cy k2)<|d7 0 was 0 ?_ ?_ <;> intro h1 q1
 ·refine Y 0 (ag 0 fK k1)<|?_
  cases pl with
  |true=>
   refine Y 1 (ag 0 cy k2)<|?_
   cases h3:(hH was) with
   |true=>
    obtain ⟨aU,e1⟩:∃ ao,ao=H.set b1 (O [aw] 4):=⟨_,rfl⟩
    have uB:=bz e1
    exact ac 0 (cP h3 (tn was y))<|aB 3 (stx 0 aw si k1 e1)<|i8 0 [(0,ab c),(2,pt b2 0),(5,.bool z5)] .normal aU [b1] aW aZ ⟨rfl,true,rfl,uB⟩
   |false=>
    refine ac 0 (cP h3 (tn was y))<|Y 1 (ag 0 cy k2)<|aY 0 was 46 ?_ ?_ <;> intro h4 cO
    ·obtain ⟨aU,e1⟩:∃ ao,ao=H.set b1 (O [aw] 4):=⟨_,rfl⟩
     have uB:=bz e1
     exact aB 2 (stx 0 aw si k1 e1)<|i8 0 [(0,ab c),(2,pt b2 0),(5,.bool z5)] .normal aU [b1] aW aZ ⟨rfl,true,rfl,uB⟩
    obtain ⟨aU,e1⟩:∃ ao,ao=H.set b1 (O [U] 4):=⟨_,rfl⟩
    have uB:=bz e1
    exact aB 2 (stx 0 U si k1 e1)<|i8 0 [(0,ab c),(2,pt b2 0),(5,.bool z5)] .normal aU [b1] aW aZ ⟨rfl,false,rfl,uB⟩
  |false=>
   obtain ⟨aU,e1⟩:∃ ao,ao=H.set b1 (O [U] 4):=⟨_,rfl⟩
   have uB:=bz e1
   exact aB 2 (stx 0 U si k1 e1)<|i8 0 [(0,ab c),(2,pt b2 0),(5,.bool z5)] .normal aU [b1] aW aZ ⟨rfl,false,rfl,uB⟩
 exact i8 0 [(0,ab c),(2,pt b2 0),(5,.bool z5)] .normal H [] aL aZ ⟨rfl,pl,rfl,k1⟩
theorem ab5 (c:Int) (b1:Nat) (b2:Nat) (pl:Bool) (was:Int) {H:Z} (y:aa E G H) (k1:H.get b1=some (O [.bool pl] 4)) (k2:H.get b2=some (O [.int .u8 was] 5)) (hb:b1≠b2) (vM:G.n≤b1) (jD:G.n≤b2):aV E G 125 [ab c,pt b1 0,pt b2 0] H [b1,b2] (fun v H'=>∃(ok acT:Bool) (agI:Int),v=.bool ok∧H'.get b1=some (O [.bool acT] 4)∧H'.get b2=some (O [.int .u8 agI] 5)):=by
 refine bB Tryz.f125 y ?_
 have wh:=y.wf.lt k2
 obtain ⟨_,_,H1,c1,ak,y1,rfl,iL,rfl⟩:=acj c b1 b2 pl was  y k1 k2 hb
 have c8:H.n+0≤H1.n:=ak.n
 have uB:=y.kept ak aq k1
 have hJ:=y.kept ak aq k2
 obtain ⟨_,_,H2,c2,aF,ar,rfl,sx,rfl,n4⟩:=ack c b1 b2 pl was iL  y1 uB hJ hb vM
 have cB:H1.n+0≤H2.n:=aF.n
 have Cm:=y1.kept aF bU hJ
 obtain ⟨cf,bc⟩:∃ ao,ao=H2.set b2 (O [ab c] 5):=⟨_,rfl⟩
 have Zi:=bz bc
 have Zh:=bW bc J n4
 exact gi 1 1 c1<|gi 0 1 c2<|aB 1 (stx 0 (ab c) oe Cm bc)<|bf 2 (.bool iL) cf [b1,b2] aW aZ ⟨_,_,_,rfl,Zh,Zi⟩
noncomputable def VU:Code:=cw [1,1,0,0,0] (cx Tryz.f101)
theorem agU (b:Nat) (b1:Nat) (b2:Nat) (s:ByteArray) (at_:Int):∀(m:Nat) (ah:Int) (pl:Bool) (was:Int) (H:Z),aa E G H→(kb:H.get b=some (O (cT s at_) 135))→(k1:H.get b1=some (O [.bool pl] 4))→(k2:H.get b2=some (O [ab was] 5))→(hs:(s.size:Int)<100000)→(a0:0≤at_)→(a1:at_≤s.size)→(x0:at_≤ah)→(x1:ah≤s.size)→(hb:b1≠b2)→(vM:G.n≤b1)→(jD:G.n≤b2)→(d1:b≠b1)→(d2:b≠b2)→((s.size:Int)-ah).toNat=m→
  bV E G 29 VU [(1,.func (.func 125) #[] #[pt b1 0,pt b2 0]),(2,pt b 0),(5,M ah)] H [b1,b2] (fun x T H'=>(x=(.exit 0)∧∃(z5:Int) (ja:Bool) (ahz:Int),T=aP [(2,pt b 0),(5,M z5)]∧(H'.get b1=some (O [.bool ja] 4)∧H'.get b2=some (O [.int .u8 ahz] 5)∧at_≤z5∧z5≤s.size))):=by
 refine dJ fun m ih=>?_
 intro ah pl was H y kb k1 k2 hs a0 a1 x0 x1 hb vM jD d1 d2 hm
 refine cN y ?_
 refine Y 2 (ag 0 bA kb)<|aD 1 (ah<(s.size:Int)) ?_ ?_ <;> intro h1 q1
 ·obtain ⟨_,H1,c1,ak,y1,x7,O8,Pf,rfl,Oy,Oz⟩:=ab5 (ad s ah) b1 b2 pl was y k1 k2 hb vM jD
  refine Y 3 (ag 0 bA kb)<|aG 1 ah (s.size:Int)<|ac 0 c1<|?_
  cases x7 with
  |true=>
   have gB:=y.kept ak bU kb
   exact aH 2 (ah+1)<|dY 1 [(1,.func (.func 125) #[] #[pt b1 0,pt b2 0]),(2,pt b 0),(5,M (ah+1))] H1 [b1,b2] aW (ih _ J (ah+1) O8 Pf _ y1 gB Oy Oz hs a0 a1 J J hb vM jD d1 d2 rfl)
  |false=>
   exact c5 1 [(2,pt b 0),(5,M ah)] (.exit 0) H1 [b1,b2] aW aZ ⟨rfl,ah,O8,Pf,rfl,⟨Oy,Oz,J,J⟩⟩
 exact c5 2 [(2,pt b 0),(5,M ah)] (.exit 0) H [] aL aZ ⟨rfl,ah,pl,was,rfl,⟨k1,k2,J,J⟩⟩
theorem R2 (s:ByteArray) (at_:Int) (b1:Nat) (b2:Nat) (pl:Bool) (was:Int) {H:Z} (y:aa E G H) (k1:H.get b1=some (O [.bool pl] 4)) (k2:H.get b2=some (O [.int .u8 was] 5)) (hb:b1≠b2) (vM:G.n≤b1) (jD:G.n≤b2) (hs:(s.size:Int)<100000) (a0:0≤at_) (a1:at_≤s.size):aV E G 101 [.agg (cT s at_).toArray,.func (.func 125) #[] #[pt b1 0,pt b2 0]] H [b1,b2] (fun v H'=>∃(x:ByteArray),v=.string x∧at_+x.size≤s.size):=by
 refine bB Tryz.f101 y ?_
 have abd:=y.wf.lt k1
 have wh:=y.wf.lt k2
 obtain ⟨_,_,H1,c1,ak,y1,rfl,iL,kY,ajL,rfl,Jp,aiC,aI,gv⟩:=(agU (H.n+0) b1 b2 s at_ _ at_ pl was _ (y.news (lg (cT s at_))) (aR (lg (cT s at_)) H 0 _ rfl) (y.old k1 (lg (cT s at_))) (y.old k2 (lg (cT s at_))) hs a0 a1 J J hb vM jD J J rfl).code
 have aS:=(y.news (lg (cT s at_))).kept ak bU (aR (lg (cT s at_)) H 0 _ rfl)
 exact Y 3 (aQ (news H (lg (cT s at_))) 0 1 av)<|bx 1 c1<|Y 1 (ag 0 bA aS)<|Y 1 (ag 1 av aS)<|aE [am 0]<|qo [.ax] (by omega:0≤at_) (by omega:at_≤iL) (by omega:iL≤(s.size:Int))<|bf 1 (.string (s.extract at_.toNat iL.toNat)) H1 [b1,b2] aW aZ ⟨_,rfl,by simp only [iy];omega⟩
noncomputable abbrev pC H s at_:=news H [O (cT s at_) 135,O cL 112]
noncomputable abbrev sR wx:=([M 3,M 0,.string wx]:List Value)
noncomputable abbrev sS wx:=([M 2,M 0,.string wx]:List Value)
theorem aaX (s:ByteArray) (at_:Int) {H:Z} (y:aa E G H) (hs:(s.size:Int)<100000) (a0:0≤at_) (a1:at_<s.size):aV E G 106 [.agg (cT s at_).toArray] H [] (fun v H'=>∃(k:Int) (a:Int) (t:ByteArray) (n:Int),v=(.tuple #[.agg #[M k,M a,.string t],M n])∧(0≤n∧at_+n≤s.size∧k≠1)):=by
 have g0:=y.n
 refine bB Tryz.f106 y ?_
 have w1:0≤at_:=by first |omega |(simp only [iy];omega)
 have w2:at_≤(s.size:Int):=by first |omega |(simp only [iy];omega)
 have w3:0≤(0:Int):=by first |omega |(simp only [iy];omega)
 have rc:(0:Int)<((s.extract at_.toNat s.size).size:Int):=by first |omega |(simp only [iy];omega)
 refine Y 4 (aQ (pC H s at_) 0 0 bA)<|Y 1 (aQ (pC H s at_) 0 1 av)<|eV [.ax] w1 w2<|aE [am 1]<|eV [.ax] w3 rc<|?_
 cases h1:(hH (ad (s.extract at_.toNat s.size) 0)) with
 |true=>
  obtain ⟨_,H1,c1,ak,y1,wx,rfl,YB⟩:=R2 s at_ (H.n+2) (H.n+3) true 0 (y.news [O (cT s at_) 135,O cL 112,O [aw] 4,O [ab 0] 5]) (aR [O (cT s at_) 135,O cL 112,O [aw] 4,O [ab 0] 5] H 2 _ rfl) (aR [O (cT s at_) 135,O cL 112,O [aw] 4,O [ab 0] 5] H 3 _ rfl) J J J hs a0 J
  have c8:H.n+4≤H1.n:=by have h:=ak.n;rw [dj] at h;exact h
  have gQ:=(y.news [O (cT s at_) 135,O cL 112,O [aw] 4,O [ab 0] 5]).kept ak bU (aR [O (cT s at_) 135,O cL 112,O [aw] 4,O [ab 0] 5] H 1 _ rfl)
  obtain ⟨agA,Lq,IN⟩:=RX wx
  refine ac 0 (cP h1 (tn (ad (s.extract at_.toNat s.size) 0) (y.news [O (cT s at_) 135,O cL 112])))<|aB 5 (bG si rfl rfl rfl rfl:bu E 4 (H.n+2) 0 aw (news H [O (cT s at_) 135,O cL 112,O [U] 4,O [ab 0] 5])=some (news H [O (cT s at_) 135,O cL 112,O [aw] 4,O [ab 0] 5]))<|aB 0 (bG oe rfl rfl rfl rfl:bu E 5 (H.n+3) 0 (ab 0) (news H [O (cT s at_) 135,O cL 112,O [aw] 4,O [ab 0] 5])=some (news H [O (cT s at_) 135,O cL 112,O [aw] 4,O [ab 0] 5]))<|Y 0 (dt p0 pL rfl rfl rfl:al E 135 (H.n+0) 0 (news H [O (cT s at_) 135,O cL 112,O [aw] 4,O [ab 0] 5])=some (.agg (cT s at_).toArray))<|ac 1 c1<|ac 2 (IN y1)<|?_
  cases Lq with
  |true=>
   obtain ⟨aX,po,ID⟩:=Rv wx
   refine ac 8 (ID y1)<|?_
   cases po with
   |true=>
    obtain ⟨aK,e2⟩:∃ ao,ao=H1.set (H.n+1) (O cL 112):=⟨_,rfl⟩
    have cB:aK.n=H1.n+0:=by rw [e2,Z.cI] <;> rfl
    have jF:=bz e2
    exact aB 8 (stx 0 (.agg (List.toArray cL)) e4 gQ e2)<|aE [am 0]<|eV [] ((cd j9 e4 jF rfl rfl):al E 112 (H.n+1) 0 aK=some (.agg (List.toArray cL))) (j5 (M 0))<|fI 0 [.agg (List.toArray cL),M 0] (.tuple #[.agg (List.toArray cL),M 0]) aK [H.n+2,H.n+3,H.n+2,H.n+3,H.n+1] aJ aL ⟨0,0,⟨#[]⟩,0,rfl,J,J,J⟩
   |false=>
    obtain ⟨aK,e2⟩:∃ ao,ao=H1.set (H.n+1) (O (sR wx) 112):=⟨_,rfl⟩
    have cB:aK.n=H1.n+0:=by rw [e2,Z.cI] <;> rfl
    have jF:=bz e2
    exact aB 11 (stx 0 (.agg (sR wx).toArray) e4 gQ e2)<|aE [am 0]<|eV [] ((cd j9 e4 jF rfl rfl):al E 112 (H.n+1) 0 aK=some (.agg (sR wx).toArray)) (j5 (M (wx.size:Int)))<|fI 0 [.agg (sR wx).toArray,M (wx.size:Int)] (.tuple #[.agg (sR wx).toArray,M (wx.size:Int)]) aK [H.n+2,H.n+3,H.n+2,H.n+3,H.n+1] aJ aL ⟨3,0,wx,(wx.size:Int),rfl,J,J,J⟩
  |false=>
   obtain ⟨aK,e2⟩:∃ ao,ao=H1.set (H.n+1) (O (sS wx) 112):=⟨_,rfl⟩
   have cB:aK.n=H1.n+0:=by rw [e2,Z.cI] <;> rfl
   have jF:=bz e2
   exact aB 11 (stx 0 (.agg (sS wx).toArray) e4 gQ e2)<|aE [am 0]<|eV [] ((cd j9 e4 jF rfl rfl):al E 112 (H.n+1) 0 aK=some (.agg (sS wx).toArray)) (j5 (M (wx.size:Int)))<|fI 0 [.agg (sS wx).toArray,M (wx.size:Int)] (.tuple #[.agg (sS wx).toArray,M (wx.size:Int)]) aK [H.n+2,H.n+3,H.n+2,H.n+3,H.n+1] aJ aL ⟨2,0,wx,(wx.size:Int),rfl,J,J,J⟩
 |false=>
  refine ac 0 (cP h1 (tn (ad (s.extract at_.toNat s.size) 0) (y.news [O (cT s at_) 135,O cL 112])))<|aE [am 2]<|eV [.ax] w3 rc<|d7 0 (ad (s.extract at_.toNat s.size) 0) 46 ?_ ?_ <;> intro h2 cv
  ·exact aB 6 (bG e4 rfl rfl rfl rfl:bu E 112 (H.n+1) 0 (.agg (List.toArray cL)) (pC H s at_)=some (pC H s at_))<|aE [am 0]<|eV [] ((dt j9 e4 rfl rfl rfl):al E 112 (H.n+1) 0 (pC H s at_)=some (.agg (List.toArray cL))) (j5 (M 0))<|fI 0 [.agg (List.toArray cL),M 0] (.tuple #[.agg (List.toArray cL),M 0]) (pC H s at_) [H.n+1] aJ aL ⟨0,0,⟨#[]⟩,0,rfl,J,J,J⟩
  refine aY 3 ((s.extract at_.toNat s.size).size:Int) 1 ?_ ?_ <;> intro h3 cY
  ·exact aB 5 (bG e4 rfl rfl rfl rfl:bu E 112 (H.n+1) 0 (.agg (List.toArray cL)) (pC H s at_)=some (pC H s at_))<|aE [am 0]<|eV [] ((dt j9 e4 rfl rfl rfl):al E 112 (H.n+1) 0 (pC H s at_)=some (.agg (List.toArray cL))) (j5 (M 0))<|fI 0 [.agg (List.toArray cL),M 0] (.tuple #[.agg (List.toArray cL),M 0]) (pC H s at_) [H.n+1] aJ aL ⟨0,0,⟨#[]⟩,0,rfl,J,J,J⟩
  have yI:0≤(1:Int):=by first |omega |(simp only [iy];omega)
  have DA:(1:Int)<((s.extract at_.toNat s.size).size:Int):=by first |omega |(simp only [iy];omega)
  refine aE [am 2]<|eV [.ax] yI DA<|?_
  cases h4:(hH (ad (s.extract at_.toNat s.size) 1)) with
  |true=>
   obtain ⟨_,H1,c1,ak,y1,wx,rfl,YB⟩:=R2 s at_ (H.n+2) (H.n+3) true 0 (y.news [O (cT s at_) 135,O cL 112,O [aw] 4,O [ab 0] 5]) (aR [O (cT s at_) 135,O cL 112,O [aw] 4,O [ab 0] 5] H 2 _ rfl) (aR [O (cT s at_) 135,O cL 112,O [aw] 4,O [ab 0] 5] H 3 _ rfl) J J J hs a0 J
   have c8:H.n+4≤H1.n:=by have h:=ak.n;rw [dj] at h;exact h
   have gQ:=(y.news [O (cT s at_) 135,O cL 112,O [aw] 4,O [ab 0] 5]).kept ak bU (aR [O (cT s at_) 135,O cL 112,O [aw] 4,O [ab 0] 5] H 1 _ rfl)
   obtain ⟨agA,Lq,IN⟩:=RX wx
   refine ac 0 (cP h4 (tn (ad (s.extract at_.toNat s.size) 1) (y.news [O (cT s at_) 135,O cL 112])))<|aB 5 (bG si rfl rfl rfl rfl:bu E 4 (H.n+2) 0 aw (news H [O (cT s at_) 135,O cL 112,O [U] 4,O [ab 0] 5])=some (news H [O (cT s at_) 135,O cL 112,O [aw] 4,O [ab 0] 5]))<|aB 0 (bG oe rfl rfl rfl rfl:bu E 5 (H.n+3) 0 (ab 0) (news H [O (cT s at_) 135,O cL 112,O [aw] 4,O [ab 0] 5])=some (news H [O (cT s at_) 135,O cL 112,O [aw] 4,O [ab 0] 5]))<|Y 0 (dt p0 pL rfl rfl rfl:al E 135 (H.n+0) 0 (news H [O (cT s at_) 135,O cL 112,O [aw] 4,O [ab 0] 5])=some (.agg (cT s at_).toArray))<|ac 1 c1<|ac 2 (IN y1)<|?_
   cases Lq with
   |true=>
    obtain ⟨aX,po,ID⟩:=Rv wx
    refine ac 8 (ID y1)<|?_
    cases po with
    |true=>
     obtain ⟨aK,e2⟩:∃ ao,ao=H1.set (H.n+1) (O cL 112):=⟨_,rfl⟩
     have cB:aK.n=H1.n+0:=by rw [e2,Z.cI] <;> rfl
     have jF:=bz e2
     exact aB 8 (stx 0 (.agg (List.toArray cL)) e4 gQ e2)<|aE [am 0]<|eV [] ((cd j9 e4 jF rfl rfl):al E 112 (H.n+1) 0 aK=some (.agg (List.toArray cL))) (j5 (M 0))<|fI 0 [.agg (List.toArray cL),M 0] (.tuple #[.agg (List.toArray cL),M 0]) aK [H.n+2,H.n+3,H.n+2,H.n+3,H.n+1] aJ aL ⟨0,0,⟨#[]⟩,0,rfl,J,J,J⟩
    |false=>
     obtain ⟨aK,e2⟩:∃ ao,ao=H1.set (H.n+1) (O (sR wx) 112):=⟨_,rfl⟩
     have cB:aK.n=H1.n+0:=by rw [e2,Z.cI] <;> rfl
     have jF:=bz e2
     exact aB 11 (stx 0 (.agg (sR wx).toArray) e4 gQ e2)<|aE [am 0]<|eV [] ((cd j9 e4 jF rfl rfl):al E 112 (H.n+1) 0 aK=some (.agg (sR wx).toArray)) (j5 (M (wx.size:Int)))<|fI 0 [.agg (sR wx).toArray,M (wx.size:Int)] (.tuple #[.agg (sR wx).toArray,M (wx.size:Int)]) aK [H.n+2,H.n+3,H.n+2,H.n+3,H.n+1] aJ aL ⟨3,0,wx,(wx.size:Int),rfl,J,J,J⟩
   |false=>
    obtain ⟨aK,e2⟩:∃ ao,ao=H1.set (H.n+1) (O (sS wx) 112):=⟨_,rfl⟩
    have cB:aK.n=H1.n+0:=by rw [e2,Z.cI] <;> rfl
    have jF:=bz e2
    exact aB 11 (stx 0 (.agg (sS wx).toArray) e4 gQ e2)<|aE [am 0]<|eV [] ((cd j9 e4 jF rfl rfl):al E 112 (H.n+1) 0 aK=some (.agg (sS wx).toArray)) (j5 (M (wx.size:Int)))<|fI 0 [.agg (sS wx).toArray,M (wx.size:Int)] (.tuple #[.agg (sS wx).toArray,M (wx.size:Int)]) aK [H.n+2,H.n+3,H.n+2,H.n+3,H.n+1] aJ aL ⟨2,0,wx,(wx.size:Int),rfl,J,J,J⟩
  |false=>
   exact ac 0 (cP h4 (tn (ad (s.extract at_.toNat s.size) 1) (y.news [O (cT s at_) 135,O cL 112])))<|aB 4 (bG e4 rfl rfl rfl rfl:bu E 112 (H.n+1) 0 (.agg (List.toArray cL)) (pC H s at_)=some (pC H s at_))<|aE [am 0]<|eV [] ((dt j9 e4 rfl rfl rfl):al E 112 (H.n+1) 0 (pC H s at_)=some (.agg (List.toArray cL))) (j5 (M 0))<|fI 0 [.agg (List.toArray cL),M 0] (.tuple #[.agg (List.toArray cL),M 0]) (pC H s at_) [H.n+1] aJ aL ⟨0,0,⟨#[]⟩,0,rfl,J,J,J⟩
theorem aaW (s:ByteArray) (at_:Int) (hs:(s.size:Int)<100000) (a0:0≤at_) (a1:at_<s.size):∃(k:Int) (a:Int) (t:ByteArray) (n:Int),(0≤n∧at_+n≤s.size∧k≠1)∧∀{H:Z},aa E G H→bF E 106 [.agg (cT s at_).toArray] H (.ret (.tuple #[.agg #[M k,M a,.string t],M n])) H []:=by
 obtain ⟨_,_,c,_,_,k,a,t,n,rfl,hs⟩:=aaX s at_ eH hs a0 a1
 exact ⟨k,a,t,n,hs,fun y=>eh (et rfl) (Dn _ _ _ _) c y⟩
theorem Xq (s:ByteArray) (t:ByteArray) {H:Z} (y:aa E G H):aV E G 155 [.string s,.string t] H [] (fun v H'=>∃(b:Bool),v=(.bool b)∧(b=true→t.size≤s.size)):=by
 refine bB Tryz.f155 y ?_
 refine aD 5 ((s.size:Int)≥(t.size:Int)) ?_ ?_ <;> intro h1 q1
 ·refine aE [am 3]<|eV [.ax] (by omega:0≤(t.size:Int)) (by omega:(t.size:Int)≤(s.size:Int))<|d5 1 ((s.extract 0 (t.size:Int).toNat).toList==t.toList) (fun h2=>?_) fun h2=>?_
  ·exact af 2 aw H ⟨true,rfl,fun h=>by omega⟩
  exact af 2 U H ⟨false,rfl,fun h=>absurd h aW⟩
 exact af 3 U H ⟨false,rfl,fun h=>absurd h aW⟩
theorem Xp (s:ByteArray) (t:ByteArray):∃(b:Bool),(b=true→t.size≤s.size)∧∀{H:Z},aa E G H→bF E 155 [.string s,.string t] H (.ret (.bool b)) H []:=by
 obtain ⟨_,_,c,_,_,b,rfl,hs⟩:=Xq s t eH
 exact ⟨b,hs,fun y=>eh (et rfl) (.ground rfl) c y⟩
theorem Xs (s:ByteArray) (t:ByteArray) {H:Z} (y:aa E G H):aV E G 129 [.string s,.string t] H [] (fun v H'=>∃(b:Bool),v=(.bool b)∧(b=true→t.size≤s.size)):=by
 refine bB Tryz.f129 y ?_
 obtain ⟨pb,jZ,oG⟩:=Xp s t
 exact ac 3 (oG y)<|af 1 (.bool pb) H ⟨pb,rfl,jZ⟩
theorem Xr (s:ByteArray) (t:ByteArray):∃(b:Bool),(b=true→t.size≤s.size)∧∀{H:Z},aa E G H→bF E 129 [.string s,.string t] H (.ret (.bool b)) H []:=by
 obtain ⟨_,_,c,_,_,b,rfl,hs⟩:=Xs s t eH
 exact ⟨b,hs,fun y=>eh (et rfl) (.ground rfl) c y⟩
theorem aeR {i:Int} (h0:0≤i) (h1:i<22):∃ t:ByteArray,sg[0+i.toNat*1]?=some (.string t)∧0<t.size:=by
 have key:(sg.all fun v=>match v with |.string t=>Nat.blt 0 t.size |_=>false)=true:=by kernel_rfl
 have hl:sg.length=22:=by kernel_rfl
 have hlt:i.toNat<sg.length:=J
 have:=List.all_eq_true.1 key sg[i.toNat] (List.getElem_mem hlt)
 rw [show 0+i.toNat*1=i.toNat by omega,fU hlt]
 split at this
 ·rename_i t e
  rw [e]
  exact ⟨t,rfl,by simpa using this⟩
 ·cases this
noncomputable def VK:Code:=cw [1,0,1,0,0] (cx Tryz.f108)
theorem aeT (b:Nat) (b1:Nat) (b2:Nat) (s:ByteArray) (at_:Int):∀(m:Nat) (b5:Int) (H:Z),aa E G H→(kb:H.get b=some (O (cT s at_) 135))→(ks:H.get b1=some (O sg 9))→(kt:H.get b2=some (O cL 112))→(hs:(s.size:Int)<100000)→(a0:0≤at_)→(a1:at_<s.size)→(x0:0≤b5)→(x1:b5≤22)→(jD:G.n≤b2)→(d1:b≠b2)→(d2:b1≠b2)→(22-b5).toNat=m→
  bV E G 25 VK [(1,pt b 0),(2,pt b2 0),(6,sc b1 0 22 45),(7,M 22),(8,M b5)] H [b2] (fun x T H'=>(x=(.exit 0)∧T=aP [(2,pt b2 0)]∧(H'.get b2=some (O [.int .i64 0,.int .i64 0,.string ⟨#[]⟩] 112)))∨(x=.ret∧∃(z3:Int) (zt:ByteArray),T=aP [(2,pt b2 0),(3,M z3)]∧(H'.get b2=some (O [.int .i64 5,.int .i64 0,.string zt] 112)∧0≤z3∧at_+z3≤s.size))):=by
 refine dJ fun m ih=>?_
 intro b5 H y kb ks kt hs a0 a1 x0 x1 jD d1 d2 hm
 refine cN y ?_
 have wh:=y.wf.lt kt
 refine aD 0 (b5<22) ?_ ?_ <;> intro h1 q1
 ·obtain ⟨ob,xL,aik⟩:=aeR (i:=b5) J J
  obtain ⟨Au,oG,Yg⟩:=Xr (s.extract at_.toNat s.size) ob
  refine aG 0 b5 (22:Int)<|Y 0 (cH bA ks xL:al E 9 b1 (0+b5.toNat*1) H=some (.string ob))<|Y 2 (ag 0 bA kb)<|Y 1 (ag 1 av kb)<|eV [.ax] (by omega:0≤at_) (by omega:at_≤(s.size:Int))<|ac 1 (Yg y)<|?_
  cases Au with
  |true=>
   obtain ⟨aU,e1⟩:∃ ao,ao=H.set b2 (O [M 5,M 0,.string ob] 112):=⟨_,rfl⟩
   have hJ:=bz e1
   exact aB 4 (stx 0 (.agg #[M 5,M 0,.string ob]) e4 kt e1)<|c5 1 [(2,pt b2 0),(3,M (ob.size:Int))] .ret aU [b2] aW aZ (.inr ⟨rfl,(ob.size:Int),ob,rfl,⟨hJ,J,by have:=oG rfl;simp only [iy] at this;omega⟩⟩)
  |false=>
   exact aH 0 (b5+1)<|du 1 [(1,pt b 0),(2,pt b2 0),(6,sc b1 0 22 45),(7,M 22),(8,M (b5+1))] H (ih _ J (b5+1) _ y kb ks kt hs a0 a1 J J jD d1 d2 rfl)
 exact c5 0 [(2,pt b2 0)] (.exit 0) H [] aL aZ (.inl ⟨rfl,rfl,kt⟩)
theorem aa2 (s:ByteArray) (at_:Int) {H:Z} (y:aa E G H) (hs:(s.size:Int)<100000) (a0:0≤at_) (a1:at_<s.size):aV E G 108 [.agg (cT s at_).toArray] H [] (fun v H'=>∃(k:Int) (a:Int) (t:ByteArray) (n:Int),v=(.tuple #[.agg #[M k,M a,.string t],M n])∧(0≤n∧at_+n≤s.size∧k≠1)):=by
 have g0:=y.n
 refine bB Tryz.f108 y ?_
 obtain ⟨_,_,H1,c1,ak,y1,bE⟩:=(aeT (H.n+0) (H.n+2) (H.n+1) s at_ _ 0 _ (y.news [O (cT s at_) 135,O cL 112,O sg 9]) (aR [O (cT s at_) 135,O cL 112,O sg 9] H 0 _ rfl) (aR [O (cT s at_) 135,O cL 112,O sg 9] H 2 _ rfl) (aR [O (cT s at_) 135,O cL 112,O sg 9] H 1 _ rfl) hs a0 a1 J J J J J rfl).code
 refine ac 3 (aeS (y.news [O (cT s at_) 135,O cL 112]))<|?_
 rcases bE with ⟨rfl,rfl,rW⟩ |⟨rfl,iK,ig,rfl,rW,aI,gv⟩
 ·have c8:=ya ak
  obtain ⟨aK,e2⟩:∃ ao,ao=H1.set (H.n+1) (O cL 112):=⟨_,rfl⟩
  have cB:aK.n=H1.n+0:=by rw [e2,Z.cI] <;> rfl
  have jF:=bz e2
  exact bx 2 c1<|aB 1 (stx 0 (.agg (List.toArray cL)) e4 rW e2)<|aE [am 0]<|eV [] ((cd j9 e4 jF rfl rfl):al E 112 (H.n+1) 0 aK=some (.agg (List.toArray cL))) (j5 (M 0))<|fI 0 [.agg (List.toArray cL),M 0] (.tuple #[.agg (List.toArray cL),M 0]) aK [H.n+1,H.n+1] aJ aL ⟨0,0,⟨#[]⟩,0,rfl,J,J,J⟩
 have c8:=ya ak
 exact bx 2 c1<|eV [] ((cd j9 e4 rW rfl rfl):al E 112 (H.n+1) 0 H1=some (.agg #[M 5,M 0,.string ig])) (j5 (M iK))<|fI 0 [.agg #[M 5,M 0,.string ig],M iK] (.tuple #[.agg #[M 5,M 0,.string ig],M iK]) H1 [H.n+1] aJ aL ⟨5,0,ig,iK,rfl,J,J,J⟩
theorem aa1 (s:ByteArray) (at_:Int) (hs:(s.size:Int)<100000) (a0:0≤at_) (a1:at_<s.size):∃(k:Int) (a:Int) (t:ByteArray) (n:Int),(0≤n∧at_+n≤s.size∧k≠1)∧∀{H:Z},aa E G H→bF E 108 [.agg (cT s at_).toArray] H (.ret (.tuple #[.agg #[M k,M a,.string t],M n])) H []:=by
 obtain ⟨_,_,c,_,_,k,a,t,n,rfl,hs⟩:=aa2 s at_ eH hs a0 a1
 exact ⟨k,a,t,n,hs,fun y=>eh (et rfl) (Dn _ _ _ _) c y⟩
def dP (s:ByteArray) (i lo hi:Int):Prop:=i<s.size∧lo≤ad s i∧ad s i≤hi
instance {s:ByteArray} {i lo hi:Int}:Decidable (dP s i lo hi):=by unfold dP;infer_instance
def gh (s:ByteArray) (i:Int):Int:=
 if ad s i<128 then 1 else if 194≤ad s i∧ad s i<224 then (if dP s (i+1) 128 191 then 2 else 0) else
 if 224≤ad s i∧ad s i<240 then (if dP s (i+1) (if ad s i=224 then 160 else 128) (if ad s i=237 then 159 else 191)∧dP s (i+2) 128 191 then 3 else 0) else
 if 240≤ad s i∧ad s i<245 then (if dP s (i+1) (if ad s i=240 then 144 else 128) (if ad s i=244 then 143 else 191)∧dP s (i+2) 128 191∧dP s (i+3) 128 191 then 4 else 0) else 0
theorem KN (s:ByteArray) (i:Int):0≤gh s i∧(i<s.size→i+gh s i≤s.size):=by
 unfold gh dP
 repeat' split
 all_goals omega
def fE (s:ByteArray) (i:Int):Bool:=if h:i<s.size then (if h2:0<gh s i then fE s (i+gh s i) else false) else true
termination_by ((s.size:Int)-i).toNat
decreasing_by omega
theorem IZ {s:ByteArray} {k i lo hi:Int} (h0:0≤k) (h1:k≤s.size) (hi0:0≤i):dP (s.extract k.toNat s.size) i lo hi↔dP s (k+i) lo hi:=by
 unfold dP
 have hs:=yz s k.toNat
 by_cases h:k+i<s.size
 ·rw [Hr s k.toNat i hi0 J,show (k.toNat:Int)+i=k+i by omega]
  omega
 ·omega
theorem aep {s:ByteArray} {k i:Int} (h0:0≤k) (h1:k≤s.size) (hi:0≤i) (h:k+i<s.size):gh (s.extract k.toNat s.size) i=gh s (k+i):=by
 unfold gh
 simp only [IZ h0 h1 (show 0≤i+1 by omega),IZ h0 h1 (show 0≤i+2 by omega),IZ h0 h1 (show 0≤i+3 by omega),Hr s k.toNat i hi J,show (k.toNat:Int)+i=k+i by omega,Int.add_assoc]
theorem Lo {s:ByteArray} {k i:Int} (h0:0≤k) (h1:k≤s.size) (hi:0≤i):fE (s.extract k.toNat s.size) i=fE s (k+i):=by
 have hs:=yz s k.toNat
 rw [fE.eq_def (s.extract k.toNat s.size) i,fE.eq_def s (k+i)]
 by_cases h:k+i<s.size
 ·rw [dif_pos J,dif_pos h,aep h0 h1 hi h]
  split
  ·rename_i h2
   rw [Lo h0 h1 (show 0≤i+gh s (k+i) by omega),Int.add_assoc]
  ·rfl
 ·rw [dif_neg J,dif_neg h]
termination_by ((s.size:Int)-(k+i)).toNat
decreasing_by omega
theorem wM {x:ByteArray} {n:Int} {R:Bool} (hR:fE x 0=R) (h:0<(x.size:Int)) (hr:gh x 0=n) (hn:0<n):fE (x.extract n.toNat x.size) 0=R:=by
 have:=KN x 0
 rw [Lo J J J,← hR,fE.eq_def x 0,dif_pos J,dif_pos J,hr]
 simp
theorem wL {x:ByteArray} {R:Bool} (hR:fE x 0=R) (h:0<(x.size:Int)) (hr:gh x 0=0):R=false:=by
 rw [← hR,fE.eq_def x 0,dif_pos J,dif_neg J]
theorem agr {x:ByteArray} {R:Bool} (hR:fE x 0=R) (h:¬ 0<(x.size:Int)):R=true:=by
 rw [← hR,fE.eq_def x 0,dif_neg J]
theorem KM {x:ByteArray} {i:Int} (h:ad x i<128):gh x i=1:=by rw [gh,if_pos h]
def O2 (x:ByteArray):Prop:=∀ j:Nat,j<8→ad x j<128
theorem yG {x:ByteArray} {R:Bool} (hR:fE x 0=R) (h:8≤(x.size:Int)) (hl:O2 x):fE (x.extract 8 x.size) 0=R:=by
 have e:fE (x.extract (8:Int).toNat x.size) 0=fE x (8+0):=Lo J J J
 have st:∀ j:Nat,j<8→fE x (j:Int)=fE x ((j:Int)+1):=fun j hj=>by
  rw [fE.eq_def x (j:Int),dif_pos J,KM (hl j hj),dif_pos J]
 have aex:=st 0 J;have s1:=st 1 J;have s2:=st 2 J;have KS:=st 3 J
 have Da:=st 4 J;have KT:=st 5 J;have mV:=st 6 J;have aey:=st 7 J
 refine e.trans ?_
 rw [← hR]
 exact (aex.trans (s1.trans (s2.trans (KS.trans (Da.trans (KT.trans (mV.trans aey))))))).symm
theorem xe (x:Int):BitVec.ofInt 64 (IntKind.u64.wrap x)=BitVec.ofInt 64 x:=by
 apply BitVec.eq_of_toInt_eq
 rw [BitVec.toInt_ofInt,BitVec.toInt_ofInt]
 unfold IntKind.wrap
 simp only [IntKind.bits,IntKind.signed,Bool.false_and,Bool.false_eq_true,if_false]
 exact Int.emod_bmod ..
theorem Bq (v:BitVec 64):BitVec.ofInt 64 (v.toNat:Int)=v:=by simp
def na (k:Nat) (x:Int):Prop:=(BitVec.ofInt 64 x).getLsbD k=true
theorem jB {k:Nat} {a b:Int} (h:na k a):na k (IntKind.u64.wrap ((BitVec.ofInt 64 a |||BitVec.ofInt 64 b).toNat:Int)):=by
 unfold na at *;rw [xe,Bq,BitVec.getLsbD_or,h];rfl
theorem w9 {k:Nat} {a b:Int} (h:na k b):na k (IntKind.u64.wrap ((BitVec.ofInt 64 a |||BitVec.ofInt 64 b).toNat:Int)):=by
 unfold na at *;rw [xe,Bq,BitVec.getLsbD_or,h,Bool.or_true]
theorem Tc {k:Nat} {a:Int} (h:na k a):na k (IntKind.u64.wrap a):=by unfold na at *;rw [xe,h]
theorem Tb {b:Int} (j:Nat) (hj:j<8) (h0:128≤b) (h1:b<256):na (8*j+7) (b*2 ^ (8*j)):=by
 obtain ⟨n,rfl⟩:=Int.eq_ofNat_of_zero_le (show 0≤b by omega)
 unfold na
 rw [show ((n:Int)*2 ^ (8*j))=((n*2 ^ (8*j):Nat):Int) by push_cast;rfl,BitVec.ofInt_natCast,BitVec.getLsbD_ofNat,Nat.mul_comm n,Nat.testBit_two_pow_mul]
 rw [show decide (8*j+7<64)=true from decide_eq_true J,show decide (8*j+7≥8*j)=true from decide_eq_true J,show 8*j+7-8*j=7 by omega]
 simp only [Bool.true_and,Nat.testBit,Nat.shiftRight_eq_div_pow]
 have:n / 2 ^ 7=1:=J
 rw [this];rfl
def y2 (w:Int) (x:ByteArray):Prop:=∀ j:Nat,j<8→128≤ad x j→na (8*j+7) w
theorem BU {a b:Int} {x:ByteArray} (h:y2 a x):y2 (IntKind.u64.wrap ((BitVec.ofInt 64 a |||BitVec.ofInt 64 b).toNat:Int)) x:=fun j hj hb=>by
 have:=h j hj hb
 unfold na at *;rw [xe,Bq,BitVec.getLsbD_or,this];rfl
theorem BV {a b:Int} {x:ByteArray} (h:y2 b x):y2 (IntKind.u64.wrap ((BitVec.ofInt 64 a |||BitVec.ofInt 64 b).toNat:Int)) x:=fun j hj hb=>by
 have:=h j hj hb
 unfold na at *;rw [xe,Bq,BitVec.getLsbD_or,this,Bool.or_true]
theorem xE {w:Int} {x:ByteArray} (h:y2 w x) (e:(IntKind.u64.wrap ((BitVec.ofInt 64 w &&& BitVec.ofInt 64 9259542123273814144).toNat:Int)==0)=true):O2 x:=fun j hj=>by
 rw [Int.lt_iff_add_one_le]
 refine Classical.byContradiction fun hn=>?_
 have hb:=h j hj J
 have e1:=congrArg (BitVec.ofInt 64) (pr e)
 rw [xe,Bq] at e1
 have e2:=congrArg (fun v=>v.getLsbD (8*j+7)) e1
 simp only [BitVec.getLsbD_and] at e2
 unfold na at hb
 rw [hb,Bool.true_and] at e2
 have:j=0∨j=1∨j=2∨j=3∨j=4∨j=5∨j=6∨j=7:=J
 rcases this with rfl |rfl |rfl |rfl |rfl |rfl |rfl |rfl <;> exact absurd e2 (by decide)
abbrev c6 (s:ByteArray) (k:Int):ByteArray:=s.extract k.toNat s.size
theorem mr (s:ByteArray) (k:Int):(c6 s k).size=s.size-k.toNat:=yz s k.toNat
theorem Dt {x:ByteArray} {R:Bool} (hR:fE x 0=R) (h:0<(x.size:Int)) (hl:ad x 0<128):fE (c6 x 1) 0=R:=wM hR h (KM hl) J
theorem Ku {x:ByteArray} {i:Int} (h:194≤ad x i∧ad x i<224):gh x i=if dP x (i+1) 128 191 then 2 else 0:=by rw [gh,if_neg J,if_pos h]
theorem F3 {x:ByteArray} {i:Int} (h:ad x i=224):gh x i=if dP x (i+1) 160 191∧dP x (i+2) 128 191 then 3 else 0:=by rw [gh,if_neg J,if_neg J,if_pos J,if_pos h,if_neg (show ¬ ad x i=237 by omega)]
theorem F4 {x:ByteArray} {i:Int} (h:225≤ad x i∧ad x i<237∨ad x i=238∨ad x i=239):gh x i=if dP x (i+1) 128 191∧dP x (i+2) 128 191 then 3 else 0:=by rw [gh,if_neg J,if_neg J,if_pos J,if_neg (show ¬ ad x i=224 by omega),if_neg (show ¬ ad x i=237 by omega)]
theorem F5 {x:ByteArray} {i:Int} (h:ad x i=237):gh x i=if dP x (i+1) 128 159∧dP x (i+2) 128 191 then 3 else 0:=by rw [gh,if_neg J,if_neg J,if_pos J,if_neg (show ¬ ad x i=224 by omega),if_pos h]
theorem C5 {x:ByteArray} {i:Int} (h:ad x i=240):gh x i=if dP x (i+1) 144 191∧dP x (i+2) 128 191∧dP x (i+3) 128 191 then 4 else 0:=by rw [gh,if_neg J,if_neg J,if_neg J,if_pos J,if_pos h,if_neg (show ¬ ad x i=244 by omega)]
theorem C6 {x:ByteArray} {i:Int} (h:241≤ad x i∧ad x i≤243):gh x i=if dP x (i+1) 128 191∧dP x (i+2) 128 191∧dP x (i+3) 128 191 then 4 else 0:=by rw [gh,if_neg J,if_neg J,if_neg J,if_pos J,if_neg (show ¬ ad x i=240 by omega),if_neg (show ¬ ad x i=244 by omega)]
theorem C7 {x:ByteArray} {i:Int} (h:ad x i=244):gh x i=if dP x (i+1) 128 143∧dP x (i+2) 128 191∧dP x (i+3) 128 191 then 4 else 0:=by rw [gh,if_neg J,if_neg J,if_neg J,if_pos J,if_neg (show ¬ ad x i=240 by omega),if_pos h]
theorem Kv {x:ByteArray} {i:Int} (h:128≤ad x i) (h2:ad x i<194∨245≤ad x i):gh x i=0:=by rw [gh,if_neg J,if_neg J,if_neg J,if_neg J]
theorem Qx {x:ByteArray} (h:194≤ad x 0∧ad x 0<224):gh x 0=if dP x 1 128 191 then 2 else 0:=Ku h
theorem Qy {x:ByteArray} (h:ad x 0=224):gh x 0=if dP x 1 160 191∧dP x 2 128 191 then 3 else 0:=F3 h
theorem Qz {x:ByteArray} (h:225≤ad x 0∧ad x 0<237∨ad x 0=238∨ad x 0=239):gh x 0=if dP x 1 128 191∧dP x 2 128 191 then 3 else 0:=F4 h
theorem QA {x:ByteArray} (h:ad x 0=237):gh x 0=if dP x 1 128 159∧dP x 2 128 191 then 3 else 0:=F5 h
theorem QB {x:ByteArray} (h:ad x 0=240):gh x 0=if dP x 1 144 191∧dP x 2 128 191∧dP x 3 128 191 then 4 else 0:=C5 h
theorem QC {x:ByteArray} (h:241≤ad x 0∧ad x 0≤243):gh x 0=if dP x 1 128 191∧dP x 2 128 191∧dP x 3 128 191 then 4 else 0:=C6 h
theorem QD {x:ByteArray} (h:ad x 0=244):gh x 0=if dP x 1 128 143∧dP x 2 128 191∧dP x 3 128 191 then 4 else 0:=C7 h
theorem adc {x:ByteArray} (h:128≤ad x 0) (h2:ad x 0<194∨245≤ad x 0):gh x 0=0:=Kv h h2
theorem vA {b:Int} (j:Nat) (hj:j<8) (h0:128≤b) (h1:b<256):na (8*j+7) (IntKind.u64.wrap (IntKind.u64.wrap b*2 ^ (8*j))):=by
 rw [iU (x:=b) J J];exact Tc (Tb j hj h0 h1)
abbrev r6 (a b:Int):Int:=IntKind.u64.wrap ((BitVec.ofInt 64 a |||BitVec.ofInt 64 b).toNat:Int)
def mH (s:ByteArray):Int:=r6 (r6 (r6 (r6 (r6 (r6 (r6 (IntKind.u64.wrap (ad s 0)) (IntKind.u64.wrap (IntKind.u64.wrap (ad s 1)*2 ^ 8))) (IntKind.u64.wrap (IntKind.u64.wrap (ad s 2)*2 ^ 16))) (IntKind.u64.wrap (IntKind.u64.wrap (ad s 3)*2 ^ 24)))
 (IntKind.u64.wrap (IntKind.u64.wrap (ad s 4)*2 ^ 32))) (IntKind.u64.wrap (IntKind.u64.wrap (ad s 5)*2 ^ 40))) (IntKind.u64.wrap (IntKind.u64.wrap (ad s 6)*2 ^ 48))) (IntKind.u64.wrap (IntKind.u64.wrap (ad s 7)*2 ^ 56))
theorem xD (s:ByteArray):y2 (mH s) s:=fun j hj hb=>by
 have h2:=jc s j
 unfold mH
 have:j=0∨j=1∨j=2∨j=3∨j=4∨j=5∨j=6∨j=7:=J
 rcases this with rfl |rfl |rfl |rfl |rfl |rfl |rfl |rfl
 ·have:=vA 0 J hb h2
  rw [show (2:Int) ^ (8*0)=1 by decide,Int.mul_one] at this
  unfold na at this
  rw [xe] at this
  exact jB (jB (jB (jB (jB (jB (jB this))))))
 ·exact jB (jB (jB (jB (jB (jB (w9 (vA 1 J hb h2)))))))
 ·exact jB (jB (jB (jB (jB (w9 (vA 2 J hb h2))))))
 ·exact jB (jB (jB (jB (w9 (vA 3 J hb h2)))))
 ·exact jB (jB (jB (w9 (vA 4 J hb h2))))
 ·exact jB (jB (w9 (vA 5 J hb h2)))
 ·exact jB (w9 (vA 6 J hb h2))
 ·exact w9 (vA 7 J hb h2)
theorem K2 {x:ByteArray} {R:Bool} (hR:fE x 0=R) (h:8≤(x.size:Int)) (e:(IntKind.u64.wrap ((BitVec.ofInt 64 (mH x) &&& BitVec.ofInt 64 9259542123273814144).toNat:Int)==0)=true):fE (c6 x 8) 0=R:=yG hR h (xE (xD x) e)
theorem Gz (x:ByteArray) (a b:Int) (h0:0≤a) (h1:a≤x.size) (hb:0≤b):c6 (c6 x a) b=c6 x (a+b):=by
 unfold c6;rw [RC x a.toNat b.toNat J,show a.toNat+b.toNat=(a+b).toNat by omega]
theorem aeY {x:ByteArray} {R:Bool} (hR:fE x 0=R) (h:16≤(x.size:Int)) (e:(IntKind.u64.wrap ((BitVec.ofInt 64 (r6 (mH x) (mH (c6 x 8))) &&& BitVec.ofInt 64 9259542123273814144).toNat:Int)==0)=true):fE (c6 x 16) 0=R:=by
 have h1:=yG hR J (xE (BU (xD x)) e)
 have h2:=yG (x:=c6 x 8) h1 (by have:=mr x 8;omega) (xE (BV (xD _)) e)
 have h2:fE (c6 (c6 x 8) 8) 0=R:=h2
 rw [Gz x 8 8 J J J] at h2
 exact h2
theorem aeZ {x:ByteArray} {R:Bool} (hR:fE x 0=R) (h:32≤(x.size:Int)) (e:(IntKind.u64.wrap ((BitVec.ofInt 64 (r6 (r6 (mH x) (mH (c6 x 8))) (r6 (mH (c6 x 16)) (mH (c6 x 24)))) &&& BitVec.ofInt 64 9259542123273814144).toNat:Int)==0)=true):fE (c6 x 32) 0=R:=by
 have h1:=yG hR J (xE (BU (BU (xD x))) e)
 have h2:=yG (x:=c6 x 8) h1 (by have:=mr x 8;omega) (xE (BU (BV (xD _))) e)
 have h2:fE (c6 (c6 x 8) 8) 0=R:=h2
 rw [Gz x 8 8 J J J] at h2
 have h3:=yG h2 (by have:=mr x 16;show 8≤(((c6 x 16).size:Nat):Int);omega) (xE (BV (BU (xD _))) e)
 have h3:fE (c6 (c6 x 16) 8) 0=R:=h3
 rw [Gz x 16 8 J J J] at h3
 have h4:=yG h3 (by have:=mr x 24;show 8≤(((c6 x 24).size:Nat):Int);omega) (xE (BV (BV (xD _))) e)
 have h4:fE (c6 (c6 x 24) 8) 0=R:=h4
 rw [Gz x 24 8 J J J] at h4
 exact h4
def lV (s:ByteArray):Bool:=decide ((s.size:Int)≤200)&&fE s 0
theorem JK:jh ⟨#[97]⟩=true:=by unfold jh;rw [gT,gT,dif_pos (by decide),dif_neg (by decide),ByteArray.toList_eq,ByteArray.toList_eq];decide
def oN (a s:ByteArray):Bool:=jh a&&lV s
def yr (a s:ByteArray):Bool:=oN a s&&!pp s
theorem ago {s:ByteArray} {i:Int} {R:Bool} (hR:fE s i=R) (h:i<s.size) (hn:gh s i≠0):fE s (i+gh s i)=R:=by
 have:=KN s i
 rw [fE.eq_def s i,dif_pos h,dif_pos J] at hR;exact hR
theorem agp {s:ByteArray} {i:Int} {R:Bool} (hR:fE s i=R) (h:i<s.size) (hn:gh s i=0):R=false:=by
 rw [fE.eq_def s i,dif_pos h,dif_neg J] at hR;exact hR.symm
theorem agq {s:ByteArray} {i:Int} {R:Bool} (hR:fE s i=R) (h:¬ i<s.size):R=true:=by
 rw [fE.eq_def s i,dif_neg h] at hR;exact hR.symm
theorem ag3 (s:ByteArray) {H:Z} (y:aa E G H) (hs:8≤(s.size:Int)):aV E G 163 [.string s] H [] (fun v H'=>v=(ap (mH s))):=by
 refine bB Tryz.f163 y ?_
 exact aE [am 0]<|aG 1 (0:Int) (s.size:Int)<|aG 2 (1:Int) (s.size:Int)<|aG 4 (2:Int) (s.size:Int)<|aG 4 (3:Int) (s.size:Int)<|aG 4 (4:Int) (s.size:Int)<|aG 4 (5:Int) (s.size:Int)<|aG 4 (6:Int) (s.size:Int)<|aG 4 (7:Int) (s.size:Int)<|af 4 (ap (IntKind.u64.wrap ((BitVec.ofInt 64 (IntKind.u64.wrap ((BitVec.ofInt 64 (IntKind.u64.wrap ((BitVec.ofInt 64 (IntKind.u64.wrap ((BitVec.ofInt 64 (IntKind.u64.wrap ((BitVec.ofInt 64 (IntKind.u64.wrap ((BitVec.ofInt 64 (IntKind.u64.wrap ((BitVec.ofInt 64 (IntKind.u64.wrap (ad s 0)) |||BitVec.ofInt 64 (IntKind.u64.wrap ((IntKind.u64.wrap (ad s 1))*2 ^ 8))).toNat:Int)) |||BitVec.ofInt 64 (IntKind.u64.wrap ((IntKind.u64.wrap (ad s 2))*2 ^ 16))).toNat:Int)) |||BitVec.ofInt 64 (IntKind.u64.wrap ((IntKind.u64.wrap (ad s 3))*2 ^ 24))).toNat:Int)) |||BitVec.ofInt 64 (IntKind.u64.wrap ((IntKind.u64.wrap (ad s 4))*2 ^ 32))).toNat:Int)) |||BitVec.ofInt 64 (IntKind.u64.wrap ((IntKind.u64.wrap (ad s 5))*2 ^ 40))).toNat:Int)) |||BitVec.ofInt 64 (IntKind.u64.wrap ((IntKind.u64.wrap (ad s 6))*2 ^ 48))).toNat:Int)) |||BitVec.ofInt 64 (IntKind.u64.wrap ((IntKind.u64.wrap (ad s 7))*2 ^ 56))).toNat:Int))) H rfl
theorem qu (s:ByteArray) (hs:8≤(s.size:Int)):∀{H:Z},aa E G H→bF E 163 [.string s] H (.ret (ap (mH s))) H []:=by
 obtain ⟨_,_,c,_,_,rfl⟩:=ag3 s eH hs
 exact fun y=>eh (et rfl) (.ground rfl) c y
noncomputable def Um:Code:=cw [1,0,0,0,1,0,1,0,1,0,1,0,1,0,1,1,0,1,0,0] (cx Tryz.f145)
theorem Z0 (n0:Nat) (R:Bool):∀(m:Nat) (x0:ByteArray) (H:Z),aa E G H→(h0:x0.size≤n0)→(hR:fE x0 0=R)→x0.size=m→
  bV E G 169 Um [(0,.string x0)] H [] (fun x T H'=>(x=(.exit 2)∧∃(z0:ByteArray),T=aP [(0,.string z0)]∧((z0.size≤n0)∧(fE z0 0=R)))):=by
 refine dJ fun m ih=>?_
 intro x0 H y h0 hR hm
 refine cN y ?_
 rcases df (decide ((x0.size:Int)>32)) with h1 |h1
 ·have q1:=fD h1
  have wH:=mr x0 8
  have afp:=mr x0 16
  have GF:=mr x0 24
  rcases df ((IntKind.u64.wrap ((BitVec.ofInt 64 (IntKind.u64.wrap ((BitVec.ofInt 64 (IntKind.u64.wrap ((BitVec.ofInt 64 (mH x0) |||BitVec.ofInt 64 (mH (c6 x0 8))).toNat:Int)) |||BitVec.ofInt 64 (IntKind.u64.wrap ((BitVec.ofInt 64 (mH (c6 x0 16)) |||BitVec.ofInt 64 (mH (c6 x0 24))).toNat:Int))).toNat:Int)) &&& BitVec.ofInt 64 9259542123273814144).toNat:Int))==0) with h2 |h2
  ·have GG:=mr x0 32
   exact ay 2 h1<|ac 2 (qu x0 J y)<|aE [am 0]<|eV [.ax] (by omega:0≤(8:Int)) (by omega:(8:Int)≤(x0.size:Int))<|ac 0 (qu (c6 x0 8) J y)<|aE [am 1]<|eV [.ax] (by omega:0≤(16:Int)) (by omega:(16:Int)≤(x0.size:Int))<|ac 0 (qu (c6 x0 16) J y)<|aE [am 0]<|eV [.ax] (by omega:0≤(24:Int)) (by omega:(24:Int)≤(x0.size:Int))<|ac 0 (qu (c6 x0 24) J y)<|ay 3 h2<|aE [am 1]<|eV [.ax] (by omega:0≤(32:Int)) (by omega:(32:Int)≤(x0.size:Int))<|du 1 [(0,.string (c6 x0 32))] H (ih _ J (c6 x0 32) _ y J (aeZ hR J h2) rfl)
  have cv:=tu h2
  exact ay 2 h1<|ac 2 (qu x0 J y)<|aE [am 0]<|eV [.ax] (by omega:0≤(8:Int)) (by omega:(8:Int)≤(x0.size:Int))<|ac 0 (qu (c6 x0 8) J y)<|aE [am 1]<|eV [.ax] (by omega:0≤(16:Int)) (by omega:(16:Int)≤(x0.size:Int))<|ac 0 (qu (c6 x0 16) J y)<|aE [am 0]<|eV [.ax] (by omega:0≤(24:Int)) (by omega:(24:Int)≤(x0.size:Int))<|ac 0 (qu (c6 x0 24) J y)<|ay 3 h2<|cF 1 [(0,.string x0)] (.exit 2) H ⟨rfl,x0,rfl,⟨h0,hR⟩⟩
 exact ay 2 h1<|cF 2 [(0,.string x0)] (.exit 2) H ⟨rfl,x0,rfl,⟨h0,hR⟩⟩
noncomputable def U7:Code:=cw [1,0,0,0,1,0,1,0] (cx Tryz.f145)
theorem acp (s:ByteArray) (c:Int) (R:Bool)  {H:Z} (y:aa E G H) (hs:0<(s.size:Int)) (hc:ad s 0=c) (hR:fE s 0=R) :
  jL E G 169 U7 [(0,.string s),(3,ab c)] H [] (fun x T H'=>(x=.normal∧T=aP [(0,.string s),(3,ab c)]∧(128≤c))∨(x=(.exit 1)∧∃(z0:ByteArray),T=aP [(0,.string z0)]∧((z0.size<s.size)∧(fE z0 0=R)))):=by
 refine mq y ?_
 refine aD 1 (c<128) ?_ ?_ <;> intro h1 q1
 ·have wH:=mr s 1
  refine aE [am 0]<|eV [.ax] (by omega:0≤(1:Int)) (by omega:(1:Int)≤(s.size:Int))<|aD 3 (((c6 s 1).size:Int)>8) ?_ ?_ <;> intro h2 cv
  ·refine ac 2 (qu (c6 s 1) J y)<|aY 1 (IntKind.u64.wrap ((BitVec.ofInt 64 (mH (c6 s 1)) &&& BitVec.ofInt 64 9259542123273814144).toNat:Int)) 0 ?_ ?_ <;> intro h3 cY
   ·have afp:=mr (c6 s 1) 8
    rcases df (decide (((c6 (c6 s 1) 8).size:Int)>16)) with h4 |h4
    ·have cO:=fD h4
     have GF:=mr (c6 (c6 s 1) 8) 8
     rcases df ((IntKind.u64.wrap ((BitVec.ofInt 64 (IntKind.u64.wrap ((BitVec.ofInt 64 (mH (c6 (c6 s 1) 8)) |||BitVec.ofInt 64 (mH (c6 (c6 (c6 s 1) 8) 8))).toNat:Int)) &&& BitVec.ofInt 64 9259542123273814144).toNat:Int))==0) with h5 |h5
     ·have GG:=mr (c6 (c6 s 1) 8) 16
      obtain ⟨_,_,H1,c1,ak,y1,rfl,so,rfl,aI,gv⟩:=(Z0 (c6 (c6 (c6 s 1) 8) 16).size R _ (c6 (c6 (c6 s 1) 8) 16) _ y (Nat.le_refl _) (aeY (K2 (Dt hR hs J) J h3) J h5) rfl).code
      exact aE [am 1]<|eV [.ax] (by omega:0≤(8:Int)) (by omega:(8:Int)≤((c6 s 1).size:Int))<|aE [am 0]<|ay 2 h4<|ac 2 (qu (c6 (c6 s 1) 8) J y)<|aE [am 0]<|eV [.ax] (by omega:0≤(8:Int)) (by omega:(8:Int)≤((c6 (c6 s 1) 8).size:Int))<|ac 0 (qu (c6 (c6 (c6 s 1) 8) 8) J y)<|ay 2 h5<|aE [am 1]<|eV [.ax] (by omega:0≤(16:Int)) (by omega:(16:Int)≤((c6 (c6 s 1) 8).size:Int))<|bx 1 c1<|cM 0 [(0,.string so)] (.exit 1) H1 (.inr ⟨rfl,so,rfl,⟨J,gv⟩⟩)
     have dc:=tu h5
     exact aE [am 1]<|eV [.ax] (by omega:0≤(8:Int)) (by omega:(8:Int)≤((c6 s 1).size:Int))<|aE [am 0]<|ay 2 h4<|ac 2 (qu (c6 (c6 s 1) 8) J y)<|aE [am 0]<|eV [.ax] (by omega:0≤(8:Int)) (by omega:(8:Int)≤((c6 (c6 s 1) 8).size:Int))<|ac 0 (qu (c6 (c6 (c6 s 1) 8) 8) J y)<|ay 2 h5<|cM 1 [(0,.string (c6 (c6 s 1) 8))] (.exit 1) H (.inr ⟨rfl,c6 (c6 s 1) 8,rfl,⟨J,K2 (Dt hR hs J) J h3⟩⟩)
    exact aE [am 1]<|eV [.ax] (by omega:0≤(8:Int)) (by omega:(8:Int)≤((c6 s 1).size:Int))<|aE [am 0]<|ay 2 h4<|cM 2 [(0,.string (c6 (c6 s 1) 8))] (.exit 1) H (.inr ⟨rfl,c6 (c6 s 1) 8,rfl,⟨J,K2 (Dt hR hs J) J h3⟩⟩)
   exact cM 1 [(0,.string (c6 s 1))] (.exit 1) H (.inr ⟨rfl,c6 s 1,rfl,⟨J,Dt hR hs J⟩⟩)
  exact cM 2 [(0,.string (c6 s 1))] (.exit 1) H (.inr ⟨rfl,c6 s 1,rfl,⟨J,Dt hR hs J⟩⟩)
 exact cM 0 [(0,.string s),(3,ab c)] .normal H (.inl ⟨rfl,rfl,J⟩)
noncomputable def U8:Code:=cw [1,0,0,0,1,0,1,1,1,1,1,1,0,1,0,0,0] (cx Tryz.f145)
theorem acq (s:ByteArray) (b:Nat) (lo:Int) (hi:Int)  {H:Z} (y:aa E G H) (kb:H.get b=some (O [ab lo,ab hi] 224)) (hs:0<(s.size:Int)) :
  jL E G 169 U8 [(0,.string s),(6,pt b 0)] H [] (fun x T H'=>(x=.normal∧T=aP [(0,.string s),(94,aw)]∧((s.size:Int)<2∨ad s 1<lo∨hi<ad s 1))∨(x=.normal∧T=aP [(0,.string s),(94,U)]∧(2≤(s.size:Int)∧lo≤ad s 1∧ad s 1≤hi))):=by
 refine mq y ?_
 rcases df (decide ((s.size:Int)<2)) with h1 |h1
 ·have q1:=fD h1
  exact ay 2 h1<|cM 4 [(0,.string s),(94,aw)] .normal H (.inl ⟨rfl,rfl,J⟩)
 have q1:=fM h1
 rcases df (decide ((ad s 1)<lo)) with h2 |h2
 ·have cv:=fD h2
  exact ay 2 h1<|aG 2 (1:Int) (s.size:Int)<|Y 1 (ag 0 cy kb)<|ay 0 h2<|cM 3 [(0,.string s),(94,aw)] .normal H (.inl ⟨rfl,rfl,J⟩)
 have cv:=fM h2
 rcases df (decide (hi<(ad s 1))) with h3 |h3
 ·have cY:=fD h3
  exact ay 2 h1<|aG 2 (1:Int) (s.size:Int)<|Y 1 (ag 0 cy kb)<|ay 0 h2<|Y 3 (ag 1 cy kb)<|aG 1 (1:Int) (s.size:Int)<|ay 0 h3<|cM 1 [(0,.string s),(94,aw)] .normal H (.inl ⟨rfl,rfl,J⟩)
 have cY:=fM h3
 exact ay 2 h1<|aG 2 (1:Int) (s.size:Int)<|Y 1 (ag 0 cy kb)<|ay 0 h2<|Y 3 (ag 1 cy kb)<|aG 1 (1:Int) (s.size:Int)<|ay 0 h3<|cM 1 [(0,.string s),(94,U)] .normal H (.inr ⟨rfl,rfl,J⟩)
noncomputable def U9:Code:=cw [1,0,0,0,1,0,1,1,1,1,1,1,0,1,1,1,0,0,0] (cx Tryz.f145)
theorem Kc (s:ByteArray) (b:Nat) (lo:Int) (hi:Int)  {H:Z} (y:aa E G H) (kb:H.get b=some (O [ab lo,ab hi] 224)) (hs:0<(s.size:Int)) :
  jL E G 169 U9 [(0,.string s),(6,pt b 0)] H [] (fun x T H'=>(x=.normal∧T=aP [(0,.string s),(125,aw)]∧((s.size:Int)<3∨ad s 1<lo∨hi<ad s 1∨ad s 2<128∨191<ad s 2))∨(x=.normal∧T=aP [(0,.string s),(125,U)]∧(3≤(s.size:Int)∧lo≤ad s 1∧ad s 1≤hi∧128≤ad s 2∧ad s 2≤191))):=by
 refine mq y ?_
 rcases df (decide ((s.size:Int)<3)) with h1 |h1
 ·have q1:=fD h1
  exact ay 2 h1<|cM 8 [(0,.string s),(125,aw)] .normal H (.inl ⟨rfl,rfl,J⟩)
 have q1:=fM h1
 rcases df (decide ((ad s 1)<lo)) with h2 |h2
 ·have cv:=fD h2
  exact ay 2 h1<|aG 2 (1:Int) (s.size:Int)<|Y 1 (ag 0 cy kb)<|ay 0 h2<|cM 7 [(0,.string s),(125,aw)] .normal H (.inl ⟨rfl,rfl,J⟩)
 have cv:=fM h2
 rcases df (decide (hi<(ad s 1))) with h3 |h3
 ·have cY:=fD h3
  exact ay 2 h1<|aG 2 (1:Int) (s.size:Int)<|Y 1 (ag 0 cy kb)<|ay 0 h2<|Y 3 (ag 1 cy kb)<|aG 1 (1:Int) (s.size:Int)<|ay 0 h3<|cM 5 [(0,.string s),(125,aw)] .normal H (.inl ⟨rfl,rfl,J⟩)
 have cY:=fM h3
 rcases df (decide ((ad s 2)<128)) with h4 |h4
 ·have cO:=fD h4
  exact ay 2 h1<|aG 2 (1:Int) (s.size:Int)<|Y 1 (ag 0 cy kb)<|ay 0 h2<|Y 3 (ag 1 cy kb)<|aG 1 (1:Int) (s.size:Int)<|ay 0 h3<|aG 3 (2:Int) (s.size:Int)<|ay 0 h4<|cM 3 [(0,.string s),(125,aw)] .normal H (.inl ⟨rfl,rfl,J⟩)
 have cO:=fM h4
 rcases df (decide (191<(ad s 2))) with h5 |h5
 ·have dc:=fD h5
  exact ay 2 h1<|aG 2 (1:Int) (s.size:Int)<|Y 1 (ag 0 cy kb)<|ay 0 h2<|Y 3 (ag 1 cy kb)<|aG 1 (1:Int) (s.size:Int)<|ay 0 h3<|aG 3 (2:Int) (s.size:Int)<|ay 0 h4<|aG 3 (2:Int) (s.size:Int)<|ay 0 h5<|cM 1 [(0,.string s),(125,aw)] .normal H (.inl ⟨rfl,rfl,J⟩)
 have dc:=fM h5
 exact ay 2 h1<|aG 2 (1:Int) (s.size:Int)<|Y 1 (ag 0 cy kb)<|ay 0 h2<|Y 3 (ag 1 cy kb)<|aG 1 (1:Int) (s.size:Int)<|ay 0 h3<|aG 3 (2:Int) (s.size:Int)<|ay 0 h4<|aG 3 (2:Int) (s.size:Int)<|ay 0 h5<|cM 1 [(0,.string s),(125,U)] .normal H (.inr ⟨rfl,rfl,J⟩)
noncomputable def Va:Code:=cw [1,0,0,0,1,0,1,1,1,1,1,1,0,1,1,1,1,1,0,0,0] (cx Tryz.f145)
theorem Kd (s:ByteArray) (b:Nat) (lo:Int) (hi:Int)  {H:Z} (y:aa E G H) (kb:H.get b=some (O [ab lo,ab hi] 224)) (hs:0<(s.size:Int)) :
  jL E G 169 Va [(0,.string s),(6,pt b 0)] H [] (fun x T H'=>(x=.normal∧T=aP [(0,.string s),(166,aw)]∧((s.size:Int)<4∨ad s 1<lo∨hi<ad s 1∨ad s 2<128∨191<ad s 2∨ad s 3<128∨191<ad s 3))∨(x=.normal∧T=aP [(0,.string s),(166,U)]∧(4≤(s.size:Int)∧lo≤ad s 1∧ad s 1≤hi∧128≤ad s 2∧ad s 2≤191∧128≤ad s 3∧ad s 3≤191))):=by
 refine mq y ?_
 rcases df (decide ((s.size:Int)<4)) with h1 |h1
 ·have q1:=fD h1
  exact ay 2 h1<|cM 12 [(0,.string s),(166,aw)] .normal H (.inl ⟨rfl,rfl,J⟩)
 have q1:=fM h1
 rcases df (decide ((ad s 1)<lo)) with h2 |h2
 ·have cv:=fD h2
  exact ay 2 h1<|aG 2 (1:Int) (s.size:Int)<|Y 1 (ag 0 cy kb)<|ay 0 h2<|cM 11 [(0,.string s),(166,aw)] .normal H (.inl ⟨rfl,rfl,J⟩)
 have cv:=fM h2
 rcases df (decide (hi<(ad s 1))) with h3 |h3
 ·have cY:=fD h3
  exact ay 2 h1<|aG 2 (1:Int) (s.size:Int)<|Y 1 (ag 0 cy kb)<|ay 0 h2<|Y 3 (ag 1 cy kb)<|aG 1 (1:Int) (s.size:Int)<|ay 0 h3<|cM 9 [(0,.string s),(166,aw)] .normal H (.inl ⟨rfl,rfl,J⟩)
 have cY:=fM h3
 rcases df (decide ((ad s 2)<128)) with h4 |h4
 ·have cO:=fD h4
  exact ay 2 h1<|aG 2 (1:Int) (s.size:Int)<|Y 1 (ag 0 cy kb)<|ay 0 h2<|Y 3 (ag 1 cy kb)<|aG 1 (1:Int) (s.size:Int)<|ay 0 h3<|aG 3 (2:Int) (s.size:Int)<|ay 0 h4<|cM 7 [(0,.string s),(166,aw)] .normal H (.inl ⟨rfl,rfl,J⟩)
 have cO:=fM h4
 rcases df (decide (191<(ad s 2))) with h5 |h5
 ·have dc:=fD h5
  exact ay 2 h1<|aG 2 (1:Int) (s.size:Int)<|Y 1 (ag 0 cy kb)<|ay 0 h2<|Y 3 (ag 1 cy kb)<|aG 1 (1:Int) (s.size:Int)<|ay 0 h3<|aG 3 (2:Int) (s.size:Int)<|ay 0 h4<|aG 3 (2:Int) (s.size:Int)<|ay 0 h5<|cM 5 [(0,.string s),(166,aw)] .normal H (.inl ⟨rfl,rfl,J⟩)
 have dc:=fM h5
 rcases df (decide ((ad s 3)<128)) with h6 |h6
 ·have di:=fD h6
  exact ay 2 h1<|aG 2 (1:Int) (s.size:Int)<|Y 1 (ag 0 cy kb)<|ay 0 h2<|Y 3 (ag 1 cy kb)<|aG 1 (1:Int) (s.size:Int)<|ay 0 h3<|aG 3 (2:Int) (s.size:Int)<|ay 0 h4<|aG 3 (2:Int) (s.size:Int)<|ay 0 h5<|aG 3 (3:Int) (s.size:Int)<|ay 0 h6<|cM 3 [(0,.string s),(166,aw)] .normal H (.inl ⟨rfl,rfl,J⟩)
 have di:=fM h6
 rcases df (decide (191<(ad s 3))) with h7 |h7
 ·have gM:=fD h7
  exact ay 2 h1<|aG 2 (1:Int) (s.size:Int)<|Y 1 (ag 0 cy kb)<|ay 0 h2<|Y 3 (ag 1 cy kb)<|aG 1 (1:Int) (s.size:Int)<|ay 0 h3<|aG 3 (2:Int) (s.size:Int)<|ay 0 h4<|aG 3 (2:Int) (s.size:Int)<|ay 0 h5<|aG 3 (3:Int) (s.size:Int)<|ay 0 h6<|aG 3 (3:Int) (s.size:Int)<|ay 0 h7<|cM 1 [(0,.string s),(166,aw)] .normal H (.inl ⟨rfl,rfl,J⟩)
 have gM:=fM h7
 exact ay 2 h1<|aG 2 (1:Int) (s.size:Int)<|Y 1 (ag 0 cy kb)<|ay 0 h2<|Y 3 (ag 1 cy kb)<|aG 1 (1:Int) (s.size:Int)<|ay 0 h3<|aG 3 (2:Int) (s.size:Int)<|ay 0 h4<|aG 3 (2:Int) (s.size:Int)<|ay 0 h5<|aG 3 (3:Int) (s.size:Int)<|ay 0 h6<|aG 3 (3:Int) (s.size:Int)<|ay 0 h7<|cM 1 [(0,.string s),(166,U)] .normal H (.inr ⟨rfl,rfl,J⟩)
def HR (c:Nat):Nat:=if c<194 then 241 else if c<224 then 2 else if c=224 then 19 else if c=237 then 35 else if c<240 then 3 else if c=240 then 52 else if c<244 then 4 else if c=244 then 68 else 241
theorem WI {c:Int} (h0:128≤c) (h1:c<256):((194≤c∧c<224)∧(Go.Pinned.utf8FirstZ.map fun (n:Nat)=>Value.int .u8 n)[0+c.toNat*1]?=some (ab 2))∨((c=224)∧(Go.Pinned.utf8FirstZ.map fun (n:Nat)=>Value.int .u8 n)[0+c.toNat*1]?=some (ab 19))∨((225≤c∧c<237∨c=238∨c=239)∧(Go.Pinned.utf8FirstZ.map fun (n:Nat)=>Value.int .u8 n)[0+c.toNat*1]?=some (ab 3))∨((c=237)∧(Go.Pinned.utf8FirstZ.map fun (n:Nat)=>Value.int .u8 n)[0+c.toNat*1]?=some (ab 35))∨((c=240)∧(Go.Pinned.utf8FirstZ.map fun (n:Nat)=>Value.int .u8 n)[0+c.toNat*1]?=some (ab 52))∨((241≤c∧c≤243)∧(Go.Pinned.utf8FirstZ.map fun (n:Nat)=>Value.int .u8 n)[0+c.toNat*1]?=some (ab 4))∨((c=244)∧(Go.Pinned.utf8FirstZ.map fun (n:Nat)=>Value.int .u8 n)[0+c.toNat*1]?=some (ab 68))∨((c<194∨245≤c)∧(Go.Pinned.utf8FirstZ.map fun (n:Nat)=>Value.int .u8 n)[0+c.toNat*1]?=some (ab 241)):=by
 have key:((List.range 256).all fun n=>Nat.blt n 128||(Go.Pinned.utf8FirstZ[n]?==some (HR n)))=true:=by kernel_rfl
 obtain ⟨n,rfl⟩:=Int.eq_ofNat_of_zero_le (show 0≤c by omega)
 have:=List.all_eq_true.1 key n (List.mem_range.2 J)
 rw [Bool.or_eq_true] at this
 have e:Go.Pinned.utf8FirstZ[n]?=some (HR n):=by
  rcases this with h |h
  ·exfalso;simp only [Nat.blt_eq] at h;omega
  ·exact pr h
 rw [show 0+(n:Int).toNat*1=n by omega,List.getElem?_map,e]
 simp only [Option.map_some,bH,Value.int.injEq,true_and]
 unfold HR
 (repeat' split) <;> omega
noncomputable def Ul:Code:=cw [1,0,0,0] (cx Tryz.f145)
noncomputable abbrev tw H1:=news H1 [O [ab 0,ab 0] 224]
noncomputable abbrev JT H1:=news H1 [O [ab 128,ab 191] 224]
theorem ZZ (R:Bool):∀(m:Nat) (x0:ByteArray) (H:Z),aa E G H→(hR:fE x0 0=R)→x0.size=m→
  bV E G 169 Ul [(0,.string x0)] H [] (fun x T H'=>(x=(.exit 0)∧T=aP []∧(R=true))∨(x=.ret∧T=aP [(2,U)]∧(R=false))):=by
 refine dJ fun m ih=>?_
 intro x0 H y hR hm
 have ahM:=jl x0 0
 have d8:=jc x0 0
 refine cN y ?_
 refine aD 2 ((x0.size:Int)>0) ?_ ?_ <;> intro h1 q1
 ·obtain ⟨_,_,H1,c1,ak,y1,bE⟩:=acp x0 (ad x0 0) R  y J rfl hR
  refine aG 1 (0:Int) (x0.size:Int)<|aE [am 0]<|?_
  rcases bE with ⟨rfl,rfl,aI⟩ |⟨rfl,so,rfl,aI,gv⟩
  ·have c8:H.n+0≤H1.n:=ak.n
   refine gi 0 1 c1<|aG 1 (ad x0 0) (256:Int)<|?_
   rcases WI (c:=(ad x0 0)) J (jc _ _) with ⟨kh,hfn⟩ |⟨kh,hfn⟩ |⟨kh,hfn⟩ |⟨kh,hfn⟩ |⟨kh,hfn⟩ |⟨kh,hfn⟩ |⟨kh,hfn⟩ |⟨kh,hfn⟩
   ·have nr:=y.kept ak aq (t7 y)
    have nt:=y.kept ak aq (t8 y)
    obtain ⟨_,_,H2,c2,aF,ar,cX⟩:=acq x0 (H1.n+0) 128 191 (y1.news [O [ab 128,ab 191] 224]) (aR [O [ab 128,ab 191] 224] H1 0 _ rfl) J
    refine Y 0 (cH cy nr hfn:al E 5 5 (0+(ad x0 0).toNat*1) H1=some (ab 2))<|Y 8 (cd ub mZ nt rfl rfl:al E 224 6 0 H1=some (.agg #[ab 128,ab 191]))<|aB 1 (bG mZ rfl rfl rfl rfl:bu E 224 (H1.n+0) 0 (.agg #[ab 128,ab 191]) (tw H1)=some (JT H1))<|aE [am 2]<|?_
    rcases cX with ⟨rfl,rfl,kw⟩ |⟨rfl,rfl,kw⟩
    ·have cB:=d9 aF
     exact gi 0 3 c2<|c5 1 [(2,U)] .ret H2 [H1.n+0] aJ aL (.inr ⟨rfl,rfl,wL hR J ((Qx kh).trans (if_neg (by unfold dP;omega)))⟩)
    have cB:=d9 aF
    have wH:=mr x0 2
    exact gi 0 3 c2<|aE [am 0]<|eV [.ax] (by omega:0≤(2:Int)) (by omega:(2:Int)≤(x0.size:Int))<|dY 1 [(0,.string (c6 x0 2))] H2 [H1.n+0] aJ (ih _ J (c6 x0 2) _ ar (wM hR J ((Qx kh).trans (if_pos (by unfold dP;omega))) J) rfl)
   ·have nr:=y.kept ak aq (t7 y)
    have nt:=y.kept ak aq (t8 y)
    obtain ⟨_,_,H2,c2,aF,ar,cX⟩:=Kc x0 (H1.n+0) 160 191 (y1.news [O [ab 160,ab 191] 224]) (aR [O [ab 160,ab 191] 224] H1 0 _ rfl) J
    refine Y 0 (cH cy nr hfn:al E 5 5 (0+(ad x0 0).toNat*1) H1=some (ab 19))<|Y 8 (cd ub mZ nt rfl rfl:al E 224 6 2 H1=some (.agg #[ab 160,ab 191]))<|aB 1 (bG mZ rfl rfl rfl rfl:bu E 224 (H1.n+0) 0 (.agg #[ab 160,ab 191]) (tw H1)=some (news H1 [O [ab 160,ab 191] 224]))<|aE [am 4]<|?_
    rcases cX with ⟨rfl,rfl,kw⟩ |⟨rfl,rfl,kw⟩
    ·have cB:=d9 aF
     exact gi 0 3 c2<|c5 1 [(2,U)] .ret H2 [H1.n+0] aJ aL (.inr ⟨rfl,rfl,wL hR J ((Qy kh).trans (if_neg (by unfold dP;omega)))⟩)
    have cB:=d9 aF
    have wH:=mr x0 3
    exact gi 0 3 c2<|aE [am 0]<|eV [.ax] (by omega:0≤(3:Int)) (by omega:(3:Int)≤(x0.size:Int))<|dY 1 [(0,.string (c6 x0 3))] H2 [H1.n+0] aJ (ih _ J (c6 x0 3) _ ar (wM hR J ((Qy kh).trans (if_pos (by unfold dP;omega))) J) rfl)
   ·have nr:=y.kept ak aq (t7 y)
    have nt:=y.kept ak aq (t8 y)
    obtain ⟨_,_,H2,c2,aF,ar,cX⟩:=Kc x0 (H1.n+0) 128 191 (y1.news [O [ab 128,ab 191] 224]) (aR [O [ab 128,ab 191] 224] H1 0 _ rfl) J
    refine Y 0 (cH cy nr hfn:al E 5 5 (0+(ad x0 0).toNat*1) H1=some (ab 3))<|Y 8 (cd ub mZ nt rfl rfl:al E 224 6 0 H1=some (.agg #[ab 128,ab 191]))<|aB 1 (bG mZ rfl rfl rfl rfl:bu E 224 (H1.n+0) 0 (.agg #[ab 128,ab 191]) (tw H1)=some (JT H1))<|aE [am 4]<|?_
    rcases cX with ⟨rfl,rfl,kw⟩ |⟨rfl,rfl,kw⟩
    ·have cB:=d9 aF
     exact gi 0 3 c2<|c5 1 [(2,U)] .ret H2 [H1.n+0] aJ aL (.inr ⟨rfl,rfl,wL hR J ((Qz kh).trans (if_neg (by unfold dP;omega)))⟩)
    have cB:=d9 aF
    have wH:=mr x0 3
    exact gi 0 3 c2<|aE [am 0]<|eV [.ax] (by omega:0≤(3:Int)) (by omega:(3:Int)≤(x0.size:Int))<|dY 1 [(0,.string (c6 x0 3))] H2 [H1.n+0] aJ (ih _ J (c6 x0 3) _ ar (wM hR J ((Qz kh).trans (if_pos (by unfold dP;omega))) J) rfl)
   ·have nr:=y.kept ak aq (t7 y)
    have nt:=y.kept ak aq (t8 y)
    obtain ⟨_,_,H2,c2,aF,ar,cX⟩:=Kc x0 (H1.n+0) 128 159 (y1.news [O [ab 128,ab 159] 224]) (aR [O [ab 128,ab 159] 224] H1 0 _ rfl) J
    refine Y 0 (cH cy nr hfn:al E 5 5 (0+(ad x0 0).toNat*1) H1=some (ab 35))<|Y 8 (cd ub mZ nt rfl rfl:al E 224 6 4 H1=some (.agg #[ab 128,ab 159]))<|aB 1 (bG mZ rfl rfl rfl rfl:bu E 224 (H1.n+0) 0 (.agg #[ab 128,ab 159]) (tw H1)=some (news H1 [O [ab 128,ab 159] 224]))<|aE [am 4]<|?_
    rcases cX with ⟨rfl,rfl,kw⟩ |⟨rfl,rfl,kw⟩
    ·have cB:=d9 aF
     exact gi 0 3 c2<|c5 1 [(2,U)] .ret H2 [H1.n+0] aJ aL (.inr ⟨rfl,rfl,wL hR J ((QA kh).trans (if_neg (by unfold dP;omega)))⟩)
    have cB:=d9 aF
    have wH:=mr x0 3
    exact gi 0 3 c2<|aE [am 0]<|eV [.ax] (by omega:0≤(3:Int)) (by omega:(3:Int)≤(x0.size:Int))<|dY 1 [(0,.string (c6 x0 3))] H2 [H1.n+0] aJ (ih _ J (c6 x0 3) _ ar (wM hR J ((QA kh).trans (if_pos (by unfold dP;omega))) J) rfl)
   ·have nr:=y.kept ak aq (t7 y)
    have nt:=y.kept ak aq (t8 y)
    obtain ⟨_,_,H2,c2,aF,ar,cX⟩:=Kd x0 (H1.n+0) 144 191 (y1.news [O [ab 144,ab 191] 224]) (aR [O [ab 144,ab 191] 224] H1 0 _ rfl) J
    refine Y 0 (cH cy nr hfn:al E 5 5 (0+(ad x0 0).toNat*1) H1=some (ab 52))<|Y 8 (cd ub mZ nt rfl rfl:al E 224 6 6 H1=some (.agg #[ab 144,ab 191]))<|aB 1 (bG mZ rfl rfl rfl rfl:bu E 224 (H1.n+0) 0 (.agg #[ab 144,ab 191]) (tw H1)=some (news H1 [O [ab 144,ab 191] 224]))<|aE [am 6]<|?_
    rcases cX with ⟨rfl,rfl,kw⟩ |⟨rfl,rfl,kw⟩
    ·have cB:=d9 aF
     exact gi 0 3 c2<|c5 1 [(2,U)] .ret H2 [H1.n+0] aJ aL (.inr ⟨rfl,rfl,wL hR J ((QB kh).trans (if_neg (by unfold dP;omega)))⟩)
    have cB:=d9 aF
    have wH:=mr x0 4
    exact gi 0 3 c2<|aE [am 0]<|eV [.ax] (by omega:0≤(4:Int)) (by omega:(4:Int)≤(x0.size:Int))<|dY 1 [(0,.string (c6 x0 4))] H2 [H1.n+0] aJ (ih _ J (c6 x0 4) _ ar (wM hR J ((QB kh).trans (if_pos (by unfold dP;omega))) J) rfl)
   ·have nr:=y.kept ak aq (t7 y)
    have nt:=y.kept ak aq (t8 y)
    obtain ⟨_,_,H2,c2,aF,ar,cX⟩:=Kd x0 (H1.n+0) 128 191 (y1.news [O [ab 128,ab 191] 224]) (aR [O [ab 128,ab 191] 224] H1 0 _ rfl) J
    refine Y 0 (cH cy nr hfn:al E 5 5 (0+(ad x0 0).toNat*1) H1=some (ab 4))<|Y 8 (cd ub mZ nt rfl rfl:al E 224 6 0 H1=some (.agg #[ab 128,ab 191]))<|aB 1 (bG mZ rfl rfl rfl rfl:bu E 224 (H1.n+0) 0 (.agg #[ab 128,ab 191]) (tw H1)=some (JT H1))<|aE [am 6]<|?_
    rcases cX with ⟨rfl,rfl,kw⟩ |⟨rfl,rfl,kw⟩
    ·have cB:=d9 aF
     exact gi 0 3 c2<|c5 1 [(2,U)] .ret H2 [H1.n+0] aJ aL (.inr ⟨rfl,rfl,wL hR J ((QC kh).trans (if_neg (by unfold dP;omega)))⟩)
    have cB:=d9 aF
    have wH:=mr x0 4
    exact gi 0 3 c2<|aE [am 0]<|eV [.ax] (by omega:0≤(4:Int)) (by omega:(4:Int)≤(x0.size:Int))<|dY 1 [(0,.string (c6 x0 4))] H2 [H1.n+0] aJ (ih _ J (c6 x0 4) _ ar (wM hR J ((QC kh).trans (if_pos (by unfold dP;omega))) J) rfl)
   ·have nr:=y.kept ak aq (t7 y)
    have nt:=y.kept ak aq (t8 y)
    obtain ⟨_,_,H2,c2,aF,ar,cX⟩:=Kd x0 (H1.n+0) 128 143 (y1.news [O [ab 128,ab 143] 224]) (aR [O [ab 128,ab 143] 224] H1 0 _ rfl) J
    refine Y 0 (cH cy nr hfn:al E 5 5 (0+(ad x0 0).toNat*1) H1=some (ab 68))<|Y 8 (cd ub mZ nt rfl rfl:al E 224 6 8 H1=some (.agg #[ab 128,ab 143]))<|aB 1 (bG mZ rfl rfl rfl rfl:bu E 224 (H1.n+0) 0 (.agg #[ab 128,ab 143]) (tw H1)=some (news H1 [O [ab 128,ab 143] 224]))<|aE [am 6]<|?_
    rcases cX with ⟨rfl,rfl,kw⟩ |⟨rfl,rfl,kw⟩
    ·have cB:=d9 aF
     exact gi 0 3 c2<|c5 1 [(2,U)] .ret H2 [H1.n+0] aJ aL (.inr ⟨rfl,rfl,wL hR J ((QD kh).trans (if_neg (by unfold dP;omega)))⟩)
    have cB:=d9 aF
    have wH:=mr x0 4
    exact gi 0 3 c2<|aE [am 0]<|eV [.ax] (by omega:0≤(4:Int)) (by omega:(4:Int)≤(x0.size:Int))<|dY 1 [(0,.string (c6 x0 4))] H2 [H1.n+0] aJ (ih _ J (c6 x0 4) _ ar (wM hR J ((QD kh).trans (if_pos (by unfold dP;omega))) J) rfl)
   have nr:=y.kept ak aq (t7 y)
   have nt:=y.kept ak aq (t8 y)
   exact Y 0 (cH cy nr hfn:al E 5 5 (0+(ad x0 0).toNat*1) H1=some (ab 241))<|Y 8 (cd ub mZ nt rfl rfl:al E 224 6 30 H1=some (.agg #[ab 0,ab 0]))<|aB 1 (bG mZ rfl rfl rfl rfl:bu E 224 (H1.n+0) 0 (.agg #[ab 0,ab 0]) (tw H1)=some (tw H1))<|c5 8 [(2,U)] .ret (tw H1) [H1.n+0] aJ aL (.inr ⟨rfl,rfl,wL hR J (adc J kh)⟩)
  exact gi 0 1 c1<|du 0 [(0,.string so)] H1 (ih _ J so _ y1 gv rfl)
 exact cF 0 [] (.exit 0) H (.inl ⟨rfl,rfl,agr hR J⟩)
theorem agu (s:ByteArray) {H:Z} (y:aa E G H):aV E G 145 [.string s] H [] (fun v H'=>v=(.bool (fE s 0))):=by
 refine bB Tryz.f145 y ?_
 obtain ⟨_,_,H1,c1,ak,y1,bE⟩:=(ZZ (fE s 0) _ s _ y rfl rfl).code
 rcases bE with ⟨rfl,rfl,aI⟩ |⟨rfl,rfl,aI⟩
 ·exact bx 1 c1<|af 1 aw H1 (by rw [aI])
 exact bx 1 c1<|af 0 U H1 (by rw [aI])
theorem RW (s:ByteArray):∀{H:Z},aa E G H→bF E 145 [.string s] H (.ret (.bool (fE s 0))) H []:=by
 obtain ⟨_,_,c,_,_,rfl⟩:=agu s eH
 exact fun y=>eh (et rfl) (.ground rfl) c y
def rm (E:Env) (ts:Array TypeId) (e:TypeId) (sz ud:Nat):Bool:=
 match ts[0]? with
 |some t=>match E.ul t with
  |some (.slice e')=>Nat.beq e e'&&(match E.info e with
   |some i=>match i.zero with
    |some z=>!A2 E ts&&Nat.beq z.cells.size i.size&&Nat.blt 0 i.size&&Nat.blt 0 i.bytes&&Nat.beq i.size sz&&Nat.beq i.bytes ud
    |none=>false
   |none=>false)
  |_=>false
 |none=>false
theorem Hb {ts:Array TypeId} {e sz ud:Nat} (hc:rm E ts e sz ud=true):∃ i:TypeInfo,i.size=sz∧i.bytes=ud∧∀{s x:Value} {H:Z} {m:Nat} {new:List Value} {R:List Nat},tQ x sz=true→g9 H sz x=some (m,new,R)→new.all one=true→gZ E ts s x H=za E e i s m new R H:=by
 unfold rm at hc
 split at hc
 ·rename_i t h0
  split at hc
  ·rename_i e' hu
   simp only [dZ] at hc
   obtain ⟨he,hc⟩:=hc
   have he:=Nat.eq_of_beq_eq_true he
   subst he
   split at hc
   ·rename_i i hi
    split at hc
    ·rename_i z hz
     simp only [dZ] at hc
     obtain ⟨⟨⟨⟨⟨a1,a2⟩,a3⟩,a4⟩,a5⟩,a6⟩:=hc
     have a5:=Nat.eq_of_beq_eq_true a5
     have a6:=Nat.eq_of_beq_eq_true a6
     refine ⟨i,a5,a6,fun {s x H m new R} hs hsrc ho=>?_⟩
     subst a5
     have:(!A2 E ts&&Nat.beq z.cells.size i.size&&Nat.blt 0 i.size&&Nat.blt 0 i.bytes&&tQ x i.size)=true:=by
      simp only [dZ];exact ⟨⟨⟨⟨a1,a2⟩,a3⟩,a4⟩,hs⟩
     unfold gZ
     simp only [h0,hu,hi,hz]
     rw [this]
     simp only [cond_true,hsrc,ho]
    ·cases hc
   ·cases hc
  ·cases hc
 ·cases hc
theorem KJ {H:Z} {b off n:Nat} {c:List Value} {e:TypeId} {ro:Bool} (h:H.get b=some (.cells c e ro)) (hn:off+n≤c.length):row H b off n=some ((c.drop off).take n):=by
 simp only [row,h,Nat.ble_eq_true_of_le hn,cond_true]
theorem js {H:Z} {b off n cap sz:Nat} {c:List Value} {e:TypeId} {ro:Bool} (h:H.get b=some (.cells c e ro)) (hn:off+n*sz≤c.length):g9 H sz (sc b off n cap)=some (n,(c.drop off).take (n*sz),[b]):=by
 show (match row H b off (n*sz) with |some xs=>some (n,xs,[b]) |none=>none)=_
 rw [KJ h hn]
section
variable {ts:Array TypeId} {e sz ud:Nat} (hc:rm E ts e sz ud=true) {H:Z} {x:Value} {m:Nat} {new:List Value} {R:List Nat} (hs:tQ x sz=true) (hx:g9 H sz x=some (m,new,R)) (ho:new.all one=true)
include hc hs hx ho
theorem sM (hm:0<m) (hb:m*ud≤1099511627776):gZ E ts (.slice none 0 0) x H=some (sc H.n 0 m (2*sz),H.new (.cells new e false),[],R):=by
 obtain ⟨i,h1,h2,h3⟩:=Hb hc
 rw [h3 hs hx ho]
 unfold za
 have e1:Nat.beq m 0=false:=iu J
 have e2:Nat.ble (m*i.bytes) most=true:=Nat.ble_eq_true_of_le (by rw [h2];exact hb)
 simp only [e1,e2,cond_true,cond_false,h1]
theorem Bm {b off n c:Nat} {cs:List Value} {e':TypeId} {ro:Bool} (hg:H.get b=some (.cells cs e' ro)) (hn:off+n*sz≤cs.length) (hcap:c<n+m) (hb:(n+m)*ud≤1099511627776) :
  gZ E ts (sc b off n (2*c+1)) x H=some (sc H.n 0 (n+m) (2*sz),H.new (.cells ((cs.drop off).take (n*sz)++new) e false),[],b::R):=by
 obtain ⟨i,h1,h2,h3⟩:=Hb hc
 rw [h3 hs hx ho]
 unfold za
 have e0:nk (2*c+1)=.known c:=by
  unfold nk
  rw [lO (show (2*c+1)%2=1 by omega)]
  simp only [cond_true];congr 1;omega
 have e1:Nat.ble (n+m) c=false:=by
  cases h:Nat.ble (n+m) c with
  |false=>rfl
  |true=>have:=gg h;omega
 have e2:Nat.ble ((n+m)*i.bytes) most=true:=Nat.ble_eq_true_of_le (by rw [h2];exact hb)
 simp only [sc,e0,e1,e2,cond_true,cond_false,h1]
 rw [KJ hg hn]
theorem pd {b off n:Nat} {cs:List Value} (hg:H.get b=some (.cells cs e false)) (hn:off+n*sz≤cs.length) (hb:(n+m)*ud≤1099511627776) :
  gZ E ts (sc b off n (2*sz)) x H=some (sc H.n 0 (n+m) (2*sz),(H.set b .dead).new (.cells ((cs.drop off).take (n*sz)++new) e false),[b],b::R):=by
 obtain ⟨i,h1,h2,h3⟩:=Hb hc
 rw [h3 hs hx ho]
 unfold za
 have e0:nk (2*sz)=.yF sz:=by
  unfold nk
  rw [iu (show (2*sz)%2≠1 by omega)]
  simp only [cond_false];congr 1;omega
 have e2:Nat.ble ((n+m)*i.bytes) most=true:=Nat.ble_eq_true_of_le (by rw [h2];exact hb)
 have bc:(Nat.ble (off+n*i.size) cs.length&&Nat.beq sz i.size&&Nat.beq e e&&Nat.ble ((n+m)*i.bytes) most)=true:=by
  rw [h1,e2,Nat.ble_eq_true_of_le hn,Nat.beq_refl,Nat.beq_refl];rfl
 simp only [sc,e0,hg,bc,cond_true]
 rw [h1]
end
theorem pO {H K:Z} {b:Nat} {o:dL} (e:K=(H.set b .dead).new o):K.get H.n=some o:=by rw [e,Z.jO,if_pos];rfl
theorem jU {E:Env} {G H K:Z} (y:aa E G H) {b q:Nat} {o o':dL} (e:K=(H.set b .dead).new o) (hne:b≠q) (k:H.get q=some o'):K.get q=some o':=by
 have:=y.wf.lt k
 have hn:(H.set b .dead).n=H.n:=rfl
 rw [e,Z.jO,if_neg J,Z.kP,if_neg hne];exact k
theorem pM {E:Env} {G H K:Z} (y:aa E G H) {b:Nat} {o:dL} (e:K=(H.set b .dead).new o) (h1:G.n≤b) (h2:b<H.n):aa E G K:=e▸((y.set .dead h1 h2).news [o])
theorem pN {H K:Z} {b:Nat} {o:dL} (e:K=(H.set b .dead).new o):K.n=H.n+1:=by rw [e];rfl
theorem UK {E:Env} {ts:Array TypeId} {t e n b off c:Nat} {z:Value} {H:Z} {cs cs':List Value} {e':TypeId} (h0:ts[0]?=some t) (hu:E.ul t=some (.slice e)) (hz:E.zero e=some z) (hg:H.get b=some (.cells cs e' false))
  (hc:(Nat.ble (off+(n+1)*z.cells.size) cs.length&&z.cells.toList.all one&&ground z)=true) (hs:splice cs off (iM z.cells.toList (n+1))=cs') :
  xg E ts (sc b off (n+1) c) H=some (dw,H.set b (.cells cs' e' false),[b],[b]):=by
 simp only [xg,h0,hu,sc,hz,hg,hc,cond_true,hs]
theorem SC:rm E #[122,122] 126 2 32=true:=an
theorem Gf (v:List Value) (h:v.all lI=true:=by rfl):∀ x∈[Value.agg v.toArray],j8 x:=fun x hx=>by
 simp only [List.mem_cons,aq,or_false] at hx
 subst hx
 exact .ground (by show v.toArray.toList.all lI=true;simpa using h)
theorem aaD (s:ByteArray) {H:Z} (y:aa E G H):aV E G 114 [.string s] H [] (fun v H'=>v=(.bool (lV s))):=by
 refine bB Tryz.f114 y ?_
 refine aD 3 ((s.size:Int)≤200) ?_ ?_ <;> intro h1 q1
 ·cases h2:(fE s 0) with
  |true=>
   exact ac 2 (cP h2 (RW s y))<|af 2 aw H (by rw [lV,h1,h2] <;> rfl)
  |false=>
   exact ac 2 (cP h2 (RW s y))<|af 2 U H (by rw [lV,h1,h2] <;> rfl)
 exact af 3 U H (by rw [lV,h1] <;> rfl)
theorem OV (s:ByteArray):∀{H:Z},aa E G H→bF E 114 [.string s] H (.ret (.bool (lV s))) H []:=by
 obtain ⟨_,_,c,_,_,rfl⟩:=aaD s eH
 exact fun y=>eh (et rfl) (.ground rfl) c y
noncomputable abbrev gy a s:=([.string a,.string s]:List Value)
noncomputable abbrev kr H a s:=news H (lR (gy a s))
theorem aaC (a:ByteArray) (s:ByteArray) {H:Z} (y:aa E G H) (ha:(a.size:Int)<1000):aV E G 94 [.agg (gy a s).toArray] H [] (fun v H'=>v=(.bool (oN a s))):=by
 refine bB Tryz.f94 y ?_
 refine Y 3 (aQ (kr H a s) 0 0 bA)<|?_
 cases h1:(jh a) with
 |true=>
  refine ac 0 (cP h1 (CE a J (y.news (lR (gy a s)))))<|Y 2 (aQ (kr H a s) 0 1 bA)<|?_
  cases h2:(lV s) with
  |true=>
   exact ac 0 (cP h2 (OV s (y.news (lR (gy a s)))))<|af 2 aw (kr H a s) (by rw [oN,h1,h2] <;> rfl)
  |false=>
   exact ac 0 (cP h2 (OV s (y.news (lR (gy a s)))))<|af 2 U (kr H a s) (by rw [oN,h1,h2] <;> rfl)
 |false=>
  exact ac 0 (cP h1 (CE a J (y.news (lR (gy a s)))))<|af 3 U (kr H a s) (by rw [oN,h1] <;> rfl)
theorem Ct (a:ByteArray) (s:ByteArray) (ha:(a.size:Int)<1000):∀{H:Z},aa E G H→bF E 94 [.agg (gy a s).toArray] H (.ret (.bool (oN a s))) H []:=by
 obtain ⟨_,_,c,_,_,rfl⟩:=aaC a s eH ha
 exact fun y=>eh (Gf _) (.ground rfl) c y
theorem aaB (a:ByteArray) (s:ByteArray) {H:Z} (y:aa E G H):aV E G 96 [.agg (gy a s).toArray] H [] (fun v H'=>v=(.bool (pp s))):=by
 refine bB Tryz.f96 y ?_
 refine Y 3 (aQ (kr H a s) 0 1 bA)<|d5 0 (s.toList==(⟨#[]⟩:ByteArray).toList) (fun h1=>?_) fun h1=>?_
 ·exact af 1 aw (kr H a s) (by rw [pp,h1] <;> rfl)
 exact af 1 U (kr H a s) (by rw [pp,h1] <;> rfl)
theorem OU (a:ByteArray) (s:ByteArray):∀{H:Z},aa E G H→bF E 96 [.agg (gy a s).toArray] H (.ret (.bool (pp s))) H []:=by
 obtain ⟨_,_,c,_,_,rfl⟩:=aaB a s eH
 exact fun y=>eh (Gf _) (.ground rfl) c y
noncomputable abbrev PE H a s:=news H [O [] 126,O (gy a s) 126]
theorem aaE (z:Nat) (a:ByteArray) (s:ByteArray) {H:Z} (y:aa E G H) (jq:H.get z=some (O [.string a,.string s] 126)):aV E G 91 [sc z 0 1 3] H [] (fun v H'=>∃ b,v=sc b 0 1 4∧H.n≤b∧H'.get b=some (O [.string a,.string s] 126)):=by
 refine bB Tryz.f91 y ?_
 exact g8 5 (show gZ E #[122,122] (sc (H.n+0) 0 0 1) (sc z 0 1 3) (news H [O [] 126])=some (sc (H.n+1) 0 1 4,PE H a s,[],[H.n+0,z]) from Bm (c:=0) SC rfl (show g9 (news H [O [] 126]) 2 (sc z 0 1 3)=some (1,[.string a,.string s],[z]) from js (y.old jq [O [] 126]) (gg rfl)) rfl (aR [O [] 126] H 0 _ rfl) (gg rfl) (by decide) (by decide))<|af 1 (sc (H.n+1) 0 1 4) (PE H a s) ⟨_,rfl,J,aR [O [] 126,O (gy a s) 126] H 1 _ rfl⟩
noncomputable def Uk:Code:=cw [1,0,0] (cx Tryz.f133)
theorem ZY (z:Nat) (a:ByteArray) (s:ByteArray)  {H:Z} (y:aa E G H):bV E G 53 Uk [(0,sc z 0 1 4),(1,M 0),(2,M 1),(3,bS 93),(8,M 1)] H [] (fun x T H'=>(x=(.exit 0)∧T=aP [])):=by
 refine cN y ?_
 exact cF 3 [] (.exit 0) H ⟨rfl,rfl⟩
theorem ae5 (z:Nat) {H:Z} (y:aa E G H):aV E G 133 [sc z 0 1 4,M 0,M 1,bS 93] H [] (fun v H'=>v=dw):=by
 refine bB Tryz.f133 y ?_
 obtain ⟨_,_,H1,c1,ak,y1,rfl,rfl⟩:=(ZY z ⟨#[]⟩ ⟨#[]⟩  y ).code
 exact bx 3 c1<|af 0 (.tuple #[]) H1 rfl
noncomputable def Ui:Code:=cw [1,1,0,0] (cx Tryz.f111)
theorem ZU (z:Nat) (n:Int)  {H:Z} (y:aa E G H):bV E G 148 Ui [(0,sc z 0 1 4),(1,M 0),(2,M 1),(3,M n),(4,bS 93),(10,aw),(11,aw)] H [] (fun x T H'=>(x=.ret∧T=aP [])):=by
 refine cN y ?_
 obtain ⟨_,H1,c1,ak,y1,rfl⟩:=ae5 z y
 exact ac 10 c1<|cF 0 [] .ret H1 ⟨rfl,rfl⟩
theorem acN (z:Nat) (n:Int) {H:Z} (y:aa E G H):aV E G 111 [sc z 0 1 4,M 0,M 1,M n,bS 93] H [] (fun v H'=>v=dw):=by
 refine bB Tryz.f111 y ?_
 obtain ⟨_,_,H1,c1,ak,y1,rfl,rfl⟩:=(ZU z n  y ).code
 exact bx 2 c1<|af 0 (.tuple #[]) H1 rfl
theorem ae6 (z:Nat) {H:Z} (y:aa E G H):aV E G 92 [sc z 0 1 4,bS 93] H [] (fun v H'=>v=dw):=by
 refine bB Tryz.f92 y ?_
 obtain ⟨_,H1,c1,ak,y1,rfl⟩:=acN z 1 y
 exact ac 7 (F2 (f:=400) an (et rfl) (.ground rfl) y:bF E 112 [ap 1] H (.ret (M 1)) H [])<|ac 1 c1<|af 0 (.tuple #[]) H1 rfl
noncomputable def MX:Code:=cw [1,0,1,0,0] (cx Tryz.f115)
theorem ZW (z:Nat) (a:ByteArray) (s:ByteArray) (R:Bool)  {H:Z} (y:aa E G H) (jq:H.get z=some (O (gy a s) 126)) (hR:R=false):bV E G 19 MX [(0,sc z 0 1 4),(1,bS 96),(7,M 1),(8,M 1)] H [] (fun x T H'=>(x=(.exit 0)∧T=aP []∧(R=false))∨(x=.ret∧T=aP [(4,M 0)]∧(R=true))):=by
 refine cN y ?_
 exact cF 1 [] (.exit 0) H (.inl ⟨rfl,rfl,hR⟩)
theorem ZV (z:Nat) (a:ByteArray) (s:ByteArray) (R:Bool)  {H:Z} (y:aa E G H) (jq:H.get z=some (O (gy a s) 126)) (hR:pp s=R):bV E G 19 MX [(0,sc z 0 1 4),(1,bS 96),(7,M 1),(8,M 0)] H [] (fun x T H'=>(x=(.exit 0)∧T=aP []∧(R=false))∨(x=.ret∧T=aP [(4,M 0)]∧(R=true))):=by
 refine cN y ?_
 refine Y 7 (cd rj od jq rfl rfl:al E 126 z 0 H=some (.agg (gy a s).toArray))<|?_
 cases h1:(pp s) with
 |true=>
  exact ac 0 (cP h1 (OU a s y))<|cF 2 [(4,M 0)] .ret H (.inr ⟨rfl,rfl,hR.symm.trans h1⟩)
 |false=>
  exact ac 0 (cP h1 (OU a s y))<|du 2 [(0,sc z 0 1 4),(1,bS 96),(7,M 1),(8,M 1)] H (ZW z a s R  y jq (hR.symm.trans h1))
theorem YY (z:Nat) (a:ByteArray) (s:ByteArray) {H:Z} (y:aa E G H) (jq:H.get z=some (O [.string a,.string s] 126)):aV E G 115 [sc z 0 1 4,bS 96] H [] (fun v H'=>(v=M 0∧pp s=true)∨(v=M (-1)∧pp s=false)):=by
 refine bB Tryz.f115 y ?_
 obtain ⟨_,_,H1,c1,ak,y1,bE⟩:=(ZV z a s (pp s)  y jq rfl).code
 rcases bE with ⟨rfl,rfl,aI⟩ |⟨rfl,rfl,aI⟩
 ·exact bx 4 c1<|af 1 (M (-1)) H1 (.inr ⟨rfl,aI⟩)
 exact bx 4 c1<|af 0 (M 0) H1 (.inl ⟨rfl,aI⟩)
noncomputable def UI:Code:=cw [1,1,1,0,1,0,0] (cx Tryz.f95)
theorem aax (z:Nat) (a:ByteArray) (s:ByteArray)  {H:Z} (y:aa E G H) (jq:H.get z=some (O (gy a s) 126)):bV E G 42 UI [(0,sc z 0 1 4),(1,bS 96),(5,M 0),(6,M 1)] H [] (fun x T H'=>(x=(.exit 0)∧T=aP [(0,sc z 0 1 4),(5,M 0)])):=by
 refine cN y ?_
 exact cF 4 [(0,sc z 0 1 4),(5,M 0)] (.exit 0) H ⟨rfl,rfl⟩
theorem VZ (z:Nat) (a:ByteArray) (s:ByteArray) {H:Z} (y:aa E G H) (jq:H.get z=some (O [.string a,.string s] 126)) (hz:G.n≤z):aV E G 95 [sc z 0 1 4,bS 96] H [z] (fun v H'=>(v=sc z 0 1 4∧H'.get z=some (O [.string a,.string s] 126)∧pp s=false)∨(v=sc z 0 0 4∧pp s=true)):=by
 refine bB Tryz.f95 y ?_
 have aiM:=y.wf.lt jq
 obtain ⟨_,H1,c1,ak,y1,bE⟩:=YY z a s y jq
 rcases bE with ⟨rfl,he⟩ |⟨rfl,he⟩
 ·have c8:H.n+0≤H1.n:=ak.n
  have E0:=y.kept ak aq jq
  obtain ⟨_,_,H2,c2,aF,ar,rfl,rfl⟩:=(aax z a s  y1 E0).code
  have cB:H1.n+0≤H2.n:=aF.n
  have E1:=y1.kept aF aq E0
  obtain ⟨cf,bc⟩:∃ ao,ao=H2.set z (O [.string ⟨#[]⟩,.string ⟨#[]⟩] 126):=⟨_,rfl⟩
  exact ac 3 c1<|bx 6 c2<|g8 3 (show xg E #[122] (sc z 0 1 4) H2=some (dw,cf,[z],[z]) from (UK (n:=0) (cs':=[.string ⟨#[]⟩,.string ⟨#[]⟩]) rfl aga ahs E1 rfl rfl).trans (by rw [bc]))<|bf 4 (sc z 0 0 4) cf [z] aW aZ (.inr ⟨rfl,he⟩)
 have E0:=y.kept ak aq jq
 exact ac 3 c1<|bf 5 (sc z 0 1 4) H1 [] aL aZ (.inl ⟨rfl,E0,he⟩)
noncomputable def MZ:Code:=cw [1,0,1,0,0] (cx Tryz.f97)
theorem aaz (z:Nat) (a:ByteArray) (s:ByteArray) (R:Bool)  {H:Z} (y:aa E G H) (jq:H.get z=some (O (gy a s) 126)) (ha:(a.size:Int)<1000) (hR:R=true):bV E G 39 MZ [(0,sc z 0 1 4),(5,sc z 0 1 4),(6,M 1),(7,M 1)] H [] (fun x T H'=>(x=(.exit 0)∧T=aP [(0,sc z 0 1 4)]∧(R=true))∨(x=.ret∧T=aP [(2,U)]∧(R=false))):=by
 refine cN y ?_
 exact cF 1 [(0,sc z 0 1 4)] (.exit 0) H (.inl ⟨rfl,rfl,hR⟩)
noncomputable abbrev CG H:=news H [O [.string ⟨#[]⟩,.string ⟨#[]⟩] 126]
theorem aay (z:Nat) (a:ByteArray) (s:ByteArray) (R:Bool)  {H:Z} (y:aa E G H) (jq:H.get z=some (O (gy a s) 126)) (ha:(a.size:Int)<1000) (hR:yr a s=R):bV E G 39 MZ [(0,sc z 0 1 4),(5,sc z 0 1 4),(6,M 1),(7,M 0)] H [] (fun x T H'=>(x=(.exit 0)∧T=aP [(0,sc z 0 1 4)]∧(R=true))∨(x=.ret∧T=aP [(2,U)]∧(R=false))):=by
 refine cN y ?_
 cases h1:(oN a s) with
 |true=>
  rcases df (s.toList==(⟨#[]⟩:ByteArray).toList) with h2 |h2
  ·exact Y 3 (cd rj od jq rfl rfl:al E 126 z 0 H=some (.agg (gy a s).toArray))<|aB 2 (bG od rfl rfl rfl rfl:bu E 126 (H.n+0) 0 (.agg (gy a s).toArray) (CG H)=some (kr H a s))<|Y 0 (dt rj od rfl rfl rfl:al E 126 (H.n+0) 0 (kr H a s)=some (.agg (gy a s).toArray))<|ac 0 (cP h1 (Ct a s ha (y.news (lR (gy a s)))))<|Y 3 (aQ (kr H a s) 0 1 bA)<|ay 0 h2<|c5 4 [(2,U)] .ret (kr H a s) [H.n+0] aJ aL (.inr ⟨rfl,rfl,(by rw [← hR,yr,h1,show pp s=true from h2] <;> rfl)⟩)
  exact Y 3 (cd rj od jq rfl rfl:al E 126 z 0 H=some (.agg (gy a s).toArray))<|aB 2 (bG od rfl rfl rfl rfl:bu E 126 (H.n+0) 0 (.agg (gy a s).toArray) (CG H)=some (kr H a s))<|Y 0 (dt rj od rfl rfl rfl:al E 126 (H.n+0) 0 (kr H a s)=some (.agg (gy a s).toArray))<|ac 0 (cP h1 (Ct a s ha (y.news (lR (gy a s)))))<|Y 3 (aQ (kr H a s) 0 1 bA)<|ay 0 h2<|dY 9 [(0,sc z 0 1 4),(5,sc z 0 1 4),(6,M 1),(7,M 1)] (kr H a s) [H.n+0] aJ (aaz z a s R  (y.news (lR (gy a s))) (y.old jq (lR (gy a s))) ha (by rw [← hR,yr,h1,show pp s=false from h2] <;> rfl))
 |false=>
  exact Y 3 (cd rj od jq rfl rfl:al E 126 z 0 H=some (.agg (gy a s).toArray))<|aB 2 (bG od rfl rfl rfl rfl:bu E 126 (H.n+0) 0 (.agg (gy a s).toArray) (CG H)=some (kr H a s))<|Y 0 (dt rj od rfl rfl rfl:al E 126 (H.n+0) 0 (kr H a s)=some (.agg (gy a s).toArray))<|ac 0 (cP h1 (Ct a s ha (y.news (lR (gy a s)))))<|c5 6 [(2,U)] .ret (kr H a s) [H.n+0] aJ aL (.inr ⟨rfl,rfl,(by rw [← hR,yr,h1] <;> rfl)⟩)
theorem aaH (z:Nat) (a:ByteArray) (s:ByteArray) {H:Z} (y:aa E G H) (jq:H.get z=some (O [.string a,.string s] 126)) (ha:(a.size:Int)<1000):aV E G 97 [sc z 0 1 4] H [] (fun v H'=>v=.bool (yr a s)):=by
 refine bB Tryz.f97 y ?_
 obtain ⟨_,_,H1,c1,ak,y1,bE⟩:=(aay z a s (yr a s)  y jq ha rfl).code
 rcases bE with ⟨rfl,rfl,aI⟩ |⟨rfl,rfl,aI⟩
 ·exact bx 4 c1<|af 4 aw H1 (by rw [aI])
 exact bx 4 c1<|af 0 U H1 (by rw [aI])
noncomputable def UJ:Code:=cw [1,0,1,0,0] (cx Tryz.f97)
theorem aaA (z:Nat)  {H:Z} (y:aa E G H):bV E G 39 UJ [(0,sc z 0 0 4),(5,sc z 0 0 4),(6,M 0),(7,M 0)] H [] (fun x T H'=>(x=(.exit 0)∧T=aP [(0,sc z 0 0 4)])):=by
 refine cN y ?_
 exact cF 1 [(0,sc z 0 0 4)] (.exit 0) H ⟨rfl,rfl⟩
theorem aaG (z:Nat) {H:Z} (y:aa E G H):aV E G 97 [sc z 0 0 4] H [] (fun v H'=>v=aw):=by
 refine bB Tryz.f97 y ?_
 obtain ⟨_,_,H1,c1,ak,y1,rfl,rfl⟩:=(aaA z  y ).code
 exact bx 4 c1<|af 4 aw H1 rfl
noncomputable def MY:Code:=cw [1,1,1,0,1,0,0] (cx Tryz.f81)
theorem aar (z:Nat) (a:ByteArray) (s:ByteArray) (R:Bool)  {H:Z} (y:aa E G H) (jq:H.get z=some (O (gy a s) 126)) (ha:(a.size:Int)<1000) (hR:R=true):bV E G 45 MY [(4,sc z 0 1 4),(11,sc z 0 1 4),(12,M 1),(13,M 1)] H [] (fun x T H'=>(x=(.exit 0)∧T=aP [(4,sc z 0 1 4)]∧(R=true))∨(x=.ret∧T=aP [(2,.slice none 0 0),(3,.iface 41 (M 1))]∧(R=false))):=by
 refine cN y ?_
 exact cF 1 [(4,sc z 0 1 4)] (.exit 0) H (.inl ⟨rfl,rfl,hR⟩)
theorem aaq (z:Nat) (a:ByteArray) (s:ByteArray) (R:Bool)  {H:Z} (y:aa E G H) (jq:H.get z=some (O (gy a s) 126)) (ha:(a.size:Int)<1000) (hR:oN a s=R):bV E G 45 MY [(4,sc z 0 1 4),(11,sc z 0 1 4),(12,M 1),(13,M 0)] H [] (fun x T H'=>(x=(.exit 0)∧T=aP [(4,sc z 0 1 4)]∧(R=true))∨(x=.ret∧T=aP [(2,.slice none 0 0),(3,.iface 41 (M 1))]∧(R=false))):=by
 refine cN y ?_
 cases h1:(oN a s) with
 |true=>
  exact Y 3 (cd rj od jq rfl rfl:al E 126 z 0 H=some (.agg (gy a s).toArray))<|aB 2 (bG od rfl rfl rfl rfl:bu E 126 (H.n+0) 0 (.agg (gy a s).toArray) (CG H)=some (kr H a s))<|Y 0 (dt rj od rfl rfl rfl:al E 126 (H.n+0) 0 (kr H a s)=some (.agg (gy a s).toArray))<|ac 0 (cP h1 (Ct a s ha (y.news (lR (gy a s)))))<|dY 9 [(4,sc z 0 1 4),(11,sc z 0 1 4),(12,M 1),(13,M 1)] (kr H a s) [H.n+0] aJ (aar z a s R  (y.news (lR (gy a s))) (y.old jq (lR (gy a s))) ha (hR.symm.trans h1))
 |false=>
  exact Y 3 (cd rj od jq rfl rfl:al E 126 z 0 H=some (.agg (gy a s).toArray))<|aB 2 (bG od rfl rfl rfl rfl:bu E 126 (H.n+0) 0 (.agg (gy a s).toArray) (CG H)=some (kr H a s))<|Y 0 (dt rj od rfl rfl rfl:al E 126 (H.n+0) 0 (kr H a s)=some (.agg (gy a s).toArray))<|ac 0 (cP h1 (Ct a s ha (y.news (lR (gy a s)))))<|c5 6 [(2,.slice none 0 0),(3,.iface 41 (M 1))] .ret (kr H a s) [H.n+0] aJ aL (.inr ⟨rfl,rfl,hR.symm.trans h1⟩)
theorem aaF (q:Nat) (a:ByteArray) (s:ByteArray) {H:Z} (y:aa E G H) (b9:H.get q=some (O [.string a,.string s] 126)) (ha:(a.size:Int)<1000):aV E G 81 [sc q 0 1 3] H [] (fun v H'=>(∃ v1,v=.tuple #[v1,.nilIface]∧oN a s=true)∨(∃ v1,v=.tuple #[v1,.iface 41 (M 1)]∧oN a s=false)):=by
 have g0:=y.n
 refine bB Tryz.f81 y ?_
 obtain ⟨_,H1,c1,ak,y1,z,rfl,hz,jq⟩:=aaE q a s y b9
 have aiN:=y1.wf.lt jq
 obtain ⟨_,H2,c2,aF,ar,rfl⟩:=ae6 z y1
 have cB:H1.n+0≤H2.n:=aF.n
 have E1:=y1.kept aF aq jq
 obtain ⟨_,_,H3,c3,bq,aM,fq⟩:=(aaq z a s (oN a s)  ar E1 ha rfl).code
 refine ac 3 c1<|ac 2 c2<|?_
 rcases fq with ⟨rfl,rfl,ky⟩ |⟨rfl,rfl,ky⟩
 ·have ek:H2.n+0≤H3.n:=bq.n
  have Zk:=ar.kept bq aq E1
  obtain ⟨_,H4,eg,ee,cu,jr⟩:=VZ z a s aM Zk J
  refine bx 3 c3<|?_
  rcases jr with ⟨rfl,ZR,he⟩ |⟨rfl,he⟩
  ·have gm:H3.n+0≤H4.n:=ee.n
   obtain ⟨_,H5,fF,ej,dQ,ny⟩:=eL (aaH z a s cu ZR ha)
   refine ac 1 eg<|?_
   rcases ny with ⟨rfl,hb⟩ |⟨rfl,hb⟩
   ·have iR:H4.n+0≤H5.n:=ej.n
    exact ac 2 fF<|bf 4 (.tuple #[sc z 0 1 4,.nilIface]) H5 [z] aJ aL (.inl ⟨_,rfl,ky⟩)
   have iR:H4.n+0≤H5.n:=ej.n
   exact ac 2 fF<|bf 4 (.tuple #[.slice none 0 0,.iface 41 (M 1)]) H5 [z] aJ aL (absurd hb (by rw [yr,show oN a s=true from ky,he];decide))
  have gm:H3.n+0≤H4.n:=ee.n
  obtain ⟨_,H5,fF,ej,dQ,rfl⟩:=aaG z cu
  have iR:H4.n+0≤H5.n:=ej.n
  exact ac 1 eg<|ac 2 fF<|bf 4 (.tuple #[sc z 0 0 4,.nilIface]) H5 [z] aJ aL (.inl ⟨_,rfl,ky⟩)
 exact bx 3 c3<|af 0 (.tuple #[.slice none 0 0,.iface 41 (M 1)]) H3 (.inr ⟨_,rfl,ky⟩)
noncomputable abbrev zk s:=([.string ⟨#[97]⟩,.string s]:List Value)
theorem abp (s:ByteArray) {H:Z} (y:aa E G H):aV E G 70 [.string s] H [] (fun v H'=>v=(.bool (lV s))):=by
 refine bB Tryz.f70 y ?_
 obtain ⟨_,H1,c1,ak,y1,bE⟩:=aaF (H.n+0) ⟨#[97]⟩ s (y.news (lR (zk s))) (aR (lR (zk s)) H 0 _ rfl) (by decide)
 rcases bE with ⟨v1,rfl,hm⟩ |⟨v1,rfl,hm⟩
 ·have c8:=d9 ak
  have g1:=y1.n
  have aS:=(y.news (lR (zk s))).kept ak aq (aR (lR (zk s)) H 0 _ rfl)
  exact ac 4 c1<|af 8 aw H1 (by rw [oN,JK] at hm;exact congrArg Value.bool hm.symm)
 have c8:=d9 ak
 have g1:=y1.n
 have aS:=(y.news (lR (zk s))).kept ak aq (aR (lR (zk s)) H 0 _ rfl)
 exact ac 4 c1<|af 8 U H1 (by rw [oN,JK] at hm;exact congrArg Value.bool hm.symm)
theorem Pm (s:ByteArray):∀{H:Z},aa E G H→bF E 70 [.string s] H (.ret (.bool (lV s))) H []:=by
 obtain ⟨_,_,c,_,_,rfl⟩:=abp s eH
 exact fun y=>eh (et rfl) (.ground rfl) c y
def iN (bs:List Int):List Value:=bs.map fun n=>.int .u8 n
def mA (bs:List Int):Prop:=∀ x∈bs,0≤x∧x<256
theorem lm {bs:List Int} (hb:mA bs) {i:Nat} (h:i<bs.length):∃ n,(iN bs)[i]?=some (.int .u8 n)∧0≤n∧n<256:=by
 obtain ⟨h0,h1⟩:=hb bs[i] (List.getElem_mem h)
 exact ⟨bs[i],by rw [iN,List.getElem?_map,fU h];rfl,h0,h1⟩
theorem MJ:∀ bs:List Int,∃ l:List UInt8,ue (iN bs)=some l∧l.length=bs.length
 |[]=>⟨[],rfl,rfl⟩
 |x::bs=>by
  obtain ⟨l,h,hl⟩:=MJ bs
  exact ⟨UInt8.ofNat x.toNat::l,by simp only [iN,List.map_cons,ue];rw [show bs.map (fun n=>Value.int .u8 n)=iN bs from rfl,h],by simp [hl]⟩
theorem sh {t e sz b o n:Nat} (k:Nat) {l:Int} (hl:l=(k:Int)) (hu:E.ul t=some (.slice e)) (hs:E.size e=some sz) (hsz:sz=1) (hk:k≤n) :
  ∃ o',o'+(n-k)≤o+n∧pJ E t (sc b o n (2*n+1)) (some (.int .i64 l)) none none=some (sc b o' (n-k) (2*(n-k)+1)):=by
 subst hl
 have e0:nk (2*n+1)=.known n:=by
  unfold nk
  rw [lO (show (2*n+1)%2=1 by omega)]
  simp only [cond_true,show (2*n+1) / 2=n by omega]
 have d1:(decide ((0:Int)≤(k:Int))&&decide ((k:Int)≤(n:Int)))=true:=by
  rw [decide_eq_true J,decide_eq_true J];rfl
 by_cases h:n=k
 ·subst h
  refine ⟨o,J,?_⟩
  simp only [pJ,sc,hu,hs,e0,sO,kW,upto,d1,cond_true,Option.isSome_none,Bool.false_and,cond_false,Int.toNat_natCast,Nat.beq_refl,Nat.ble_eq_true_of_le (Nat.le_refl n)]
 ·refine ⟨o+k,J,?_⟩
  simp only [pJ,sc,hu,hs,e0,sO,kW,upto,d1,cond_true,Option.isSome_none,Bool.false_and,cond_false,Int.toNat_natCast,iu h,hsz,Nat.mul_one,Nat.ble_eq_true_of_le (Nat.le_refl n)]
theorem ae0 {t e sz b o n c:Nat} {l m:Int} (hl:l=(n:Int)) (hm:m=(n:Int)) (hc:c=2*sz) (hu:E.ul t=some (.slice e)) (hs:E.size e=some sz) (hn:0<n) :
  pJ E t (sc b o n c) none (some (.int .i64 l)) (some (.int .i64 m))=some (sc b o n (2*n+1)):=by
 subst hl hm hc
 have e0:nk (2*sz)=.yF sz:=by
  unfold nk
  rw [iu (show (2*sz)%2≠1 by omega)]
  simp only [cond_false,show (2*sz) / 2=sz by omega]
 have d1:(decide ((0:Int)≤(n:Int))&&decide ((n:Int)≤(n:Int)))=true:=by
  rw [decide_eq_true J,decide_eq_true J];rfl
 simp only [pJ,sc,hu,hs,e0,sO,kW,upto,d1,cond_true,cond_false,Int.toNat_natCast,Nat.sub_zero]
 simp [iu (show n≠0 by omega),Nat.ble_eq_true_of_le (Nat.le_refl n)]
theorem U0 {s d e b o n c:Nat} {H:Z} {bs:List Int} {ro:Bool} (hs:E.ul s=some (.slice e)) (hd:E.ul d=some .string) (he:E.ul e=some (.int .u8)) (hg:H.get b=some (.cells (iN bs) e ro)) (hn:o+n≤bs.length) :
  ∃ x:ByteArray,x.size=n∧zj E s d (sc b o n c) H=some (.string x,H,[],[b]):=by
 have hl:(iN bs).length=bs.length:=by simp [iN]
 have hr:row H b o n=some (iN ((bs.drop o).take n)):=by
  rw [KJ hg (by rw [hl];exact hn)]
  simp only [iN,List.map_take,List.map_drop]
 obtain ⟨l,h1,h2⟩:=MJ ((bs.drop o).take n)
 refine ⟨⟨l.toArray⟩,?_,?_⟩
 ·show l.toArray.size=n
  rw [List.size_toArray,h2,List.length_take,List.length_drop];omega
 ·simp only [zj,sc,hs,hd,he,hr,h1]
theorem mA.nil:mA []:=fun x hx=>by cases hx
theorem mA.snoc {bs:List Int} {c:Int} (h:mA bs) (h0:0≤c) (h1:c<256):mA (bs++[c]):=fun x hx=>by
 rcases List.mem_append.1 hx with h2 |h2
 ·exact h x h2
 ·simp only [List.mem_singleton] at h2;subst h2;exact ⟨h0,h1⟩
theorem Hn (bs:List Int) (c:Int):((iN bs).drop 0).take (bs.length*1)++[Value.int .u8 c]=iN (bs++[c]):=by
 have hl:(iN bs).length=bs.length:=by simp [iN]
 rw [List.drop_zero,List.take_of_length_le J]
 simp [iN]
theorem Hm (bs:List Int):(iN bs).length=bs.length:=by simp [iN]
theorem K4 (bs:List Int) (c:Int):(bs++[c]).length=bs.length+1:=by simp
theorem bV.abQ {E:Env} {G H H1:Z} {aA:Nat} {c:Code} {pre mid:List (Tmp×Value)} {V W V':List Nat} {Q:fx→cg→Z→Prop} (y:aa E G H) (h:dF E aA c (aP pre) H [] .normal (aP mid) H1 [] W) (hw:∀ q∈W,q∈V∨(H.n≤q∧q<H1.n)) (hv:∀ q∈V',q∈V∨(H.n≤q∧q<H1.n)) (k:bV E G aA c mid H1 V' Q):bV E G aA c pre H V Q:=by
 have h':=h.post (mG.refl _) hw
 obtain ⟨hx,wf,_⟩:=h' y.wf y.yc
 obtain ⟨n,x,T,H',h1,h2,h3,h4⟩:=k
 have hn':=h2.n
 have key:∀ q∈V++V',q∈V∨(H.n≤q∧q<H'.n):=fun q hq=>by
  rcases List.mem_append.1 hq with hq |hq
  ·exact .inl hq
  ·rcases hv q hq with hq |hq
   ·exact .inl hq
   ·exact .inr ⟨hq.1,J⟩
 refine ⟨n+1,x,T,H',(ol.next h' h1).post (mG.refl _) key,⟨(hx.trans h2).n,fun i hi hn=>(hx.trans h2).keep i hi fun hm=>?_,(hx.trans h2).live,(hx.trans h2).gf⟩,h3,h4⟩
 rcases key i hm with h5 |h5
 ·exact hn h5
 ·omega
theorem ji {pre:List Hint→List Hint} {C:Prop→Prop} {G H:Z} {V:List Nat} {aA:Nat} {c:Code} {gu:List (Tmp×Value)} {Q:fx→cg→Z→Prop} (n:Nat) (post:List (Tmp×Value)) (H':Z) (W:List Nat) {V':List Nat} (hw:∀ q∈W,q∈V∨(H.n≤q∧q<H'.n)) (hv:∀ q∈V',q∈V∨(H.n≤q∧q<H'.n)) (k:bV E G aA c post H' V' Q) (h:(qp E aA 300 c gu post H (pre (jA n []))).map (fun r=>(gx r.1,r.2))=some (C (vd post),.normal,H',W):=by kernel_rfl):fa pre C (y3 aA c G gu H V Q):=
 fun hc y=>bV.abQ y (dF.qZ ok (hc _ (Dl _)) h) hw hv k
theorem WH {c:Int} (h0:0≤c) (h1:c<256):∃ n:Int,(Go.Pinned.utf8FirstZ.map fun (n:Nat)=>Value.int .u8 n)[0+c.toNat*1]?=some (.int .u8 n)∧0≤n∧n<256:=by
 have key:(Go.Pinned.utf8FirstZ.all fun n=>Nat.blt n 256)=true:=by kernel_rfl
 have hl:Go.Pinned.utf8FirstZ.length=256:=by kernel_rfl
 have hlt:c.toNat<Go.Pinned.utf8FirstZ.length:=J
 have:=List.all_eq_true.1 key _ (List.getElem_mem hlt)
 refine ⟨((Go.Pinned.utf8FirstZ[c.toNat]:Nat):Int),?_,J,by simp only [Nat.blt_eq] at this;omega⟩
 rw [show 0+c.toNat*1=c.toNat by omega,List.getElem?_map,fU hlt];rfl
theorem SA {k:Int} (h0:0≤k) (h1:k<16):∃ lo hi:Int,(([.int .u8 128,.int .u8 191,.int .u8 160,.int .u8 191,.int .u8 128,.int .u8 159,.int .u8 144,.int .u8 191,.int .u8 128,.int .u8 143,.int .u8 0,.int .u8 0,.int .u8 0,.int .u8 0,.int .u8 0,.int .u8 0,.int .u8 0,.int .u8 0,.int .u8 0,.int .u8 0,.int .u8 0,.int .u8 0,.int .u8 0,.int .u8 0,.int .u8 0,.int .u8 0,.int .u8 0,.int .u8 0,.int .u8 0,.int .u8 0,.int .u8 0,.int .u8 0]:List Value).drop (0+k.toNat*2)).take 2=[.int .u8 lo,.int .u8 hi]:=by
 have:k=0∨k=1∨k=2∨k=3∨k=4∨k=5∨k=6∨k=7∨k=8∨k=9∨k=10∨k=11∨k=12∨k=13∨k=14∨k=15:=J
 rcases this with rfl |rfl |rfl |rfl |rfl |rfl |rfl |rfl |rfl |rfl |rfl |rfl |rfl |rfl |rfl |rfl <;> exact ⟨_,_,rfl⟩
theorem SB {k:Int} (h1:k<16):Nat.ble (0+k.toNat*2+2) 32=true:=Nat.ble_eq_true_of_le J
theorem aeP {n:Int} (h0:0≤n) (h1:n<256):0≤Int.fdiv n (2 ^ 4)∧Int.fdiv n (2 ^ 4)<16:=by
 rw [Int.fdiv_eq_ediv_of_nonneg _ J];omega
theorem yK (b:Nat) (bs:List Int) (o:Nat) (n:Nat) {H:Z} (y:aa E G H) (kb:H.get b=some (O (iN bs) 5)) (fw:mA bs) (ho:o+n≤bs.length) (h8:8≤n):aV E G 154 [sc b o n (2*n+1)] H [] (fun v H'=>∃ w:Int,v=.int .u64 w):=by
 refine bB Tryz.f154 y ?_
 obtain ⟨jj,lq,ze,zf⟩:=lm fw (i:=o+(0:Int).toNat*1) J
 obtain ⟨lG,nY,Hh,Hj⟩:=lm fw (i:=o+(1:Int).toNat*1) J
 obtain ⟨pe,rF,Mu,Mw⟩:=lm fw (i:=o+(2:Int).toNat*1) J
 obtain ⟨qE,um,Hi,Hk⟩:=lm fw (i:=o+(3:Int).toNat*1) J
 obtain ⟨xd,BM,S3,S5⟩:=lm fw (i:=o+(4:Int).toNat*1) J
 obtain ⟨zg,EG,S4,S6⟩:=lm fw (i:=o+(5:Int).toNat*1) J
 obtain ⟨MG,Xx,ahI,ahK⟩:=lm fw (i:=o+(6:Int).toNat*1) J
 obtain ⟨MH,Xy,ahJ,ahL⟩:=lm fw (i:=o+(7:Int).toNat*1) J
 exact aE [am 0]<|aG 1 (0:Int) (n:Int)<|Y 0 (cH cy kb lq:al E 5 b (o+(0:Int).toNat*1) H=some (ab jj))<|aG 2 (1:Int) (n:Int)<|Y 0 (cH cy kb nY:al E 5 b (o+(1:Int).toNat*1) H=some (ab lG))<|aG 4 (2:Int) (n:Int)<|Y 0 (cH cy kb rF:al E 5 b (o+(2:Int).toNat*1) H=some (ab pe))<|aG 4 (3:Int) (n:Int)<|Y 0 (cH cy kb um:al E 5 b (o+(3:Int).toNat*1) H=some (ab qE))<|aG 4 (4:Int) (n:Int)<|Y 0 (cH cy kb BM:al E 5 b (o+(4:Int).toNat*1) H=some (ab xd))<|aG 4 (5:Int) (n:Int)<|Y 0 (cH cy kb EG:al E 5 b (o+(5:Int).toNat*1) H=some (ab zg))<|aG 4 (6:Int) (n:Int)<|Y 0 (cH cy kb Xx:al E 5 b (o+(6:Int).toNat*1) H=some (ab MG))<|aG 4 (7:Int) (n:Int)<|Y 0 (cH cy kb Xy:al E 5 b (o+(7:Int).toNat*1) H=some (ab MH))<|af 4 (ap (IntKind.u64.wrap ((BitVec.ofInt 64 (IntKind.u64.wrap ((BitVec.ofInt 64 (IntKind.u64.wrap ((BitVec.ofInt 64 (IntKind.u64.wrap ((BitVec.ofInt 64 (IntKind.u64.wrap ((BitVec.ofInt 64 (IntKind.u64.wrap ((BitVec.ofInt 64 (IntKind.u64.wrap ((BitVec.ofInt 64 (IntKind.u64.wrap jj) |||BitVec.ofInt 64 (IntKind.u64.wrap ((IntKind.u64.wrap lG)*2 ^ 8))).toNat:Int)) |||BitVec.ofInt 64 (IntKind.u64.wrap ((IntKind.u64.wrap pe)*2 ^ 16))).toNat:Int)) |||BitVec.ofInt 64 (IntKind.u64.wrap ((IntKind.u64.wrap qE)*2 ^ 24))).toNat:Int)) |||BitVec.ofInt 64 (IntKind.u64.wrap ((IntKind.u64.wrap xd)*2 ^ 32))).toNat:Int)) |||BitVec.ofInt 64 (IntKind.u64.wrap ((IntKind.u64.wrap zg)*2 ^ 40))).toNat:Int)) |||BitVec.ofInt 64 (IntKind.u64.wrap ((IntKind.u64.wrap MG)*2 ^ 48))).toNat:Int)) |||BitVec.ofInt 64 (IntKind.u64.wrap ((IntKind.u64.wrap MH)*2 ^ 56))).toNat:Int))) H ⟨_,rfl⟩
noncomputable def TN:Code:=cw [1,1,0,0,0,1,0,1,0,1,0,1,0,1,0,1,1,0,1,0,0] (cx Tryz.f128)
theorem SZ (b:Nat) (bs:List Int) (n0:Nat):∀(m:Nat) (kz:Nat) (ep:Nat) (H:Z),aa E G H→(kb:H.get b=some (O (iN bs) 5))→(fw:mA bs)→(ho:kz+ep≤bs.length)→(hm0:ep≤n0)→ep=m→
  bV E G 188 TN [(0,sc b kz ep (2*ep+1))] H [] (fun x T H'=>(x=(.exit 2)∧∃(DG:Nat) (nI:Nat),T=aP [(0,sc b DG nI (2*nI+1))]∧(DG+nI≤bs.length∧nI≤n0))):=by
 refine dJ fun m ih=>?_
 intro kz ep H y kb fw ho hm0 hm
 refine cN y ?_
 rcases df (decide ((ep:Int)>32)) with h1 |h1
 ·have q1:=fD h1
  obtain ⟨_,H1,c1,ak,y1,Ls,rfl⟩:=yK b bs kz ep y kb fw J J
  obtain ⟨K5,aie,N6⟩:=sh (b:=b) (o:=kz) (n:=ep) 8 (l:=8) rfl qt oe rfl J
  have gB:=y.kept ak aq kb
  obtain ⟨_,H2,c2,aF,ar,Lt,rfl⟩:=yK b bs K5 (ep-8) y1 gB fw J J
  obtain ⟨oX,IK,vX⟩:=sh (b:=b) (o:=kz) (n:=ep) 16 (l:=16) rfl qt oe rfl J
  have oJ:=y1.kept aF aq gB
  obtain ⟨_,H3,c3,bq,aM,Lu,rfl⟩:=yK b bs oX (ep-16) ar oJ fw J J
  obtain ⟨K7,aih,N8⟩:=sh (b:=b) (o:=kz) (n:=ep) 24 (l:=24) rfl qt oe rfl J
  have zV:=ar.kept bq aq oJ
  obtain ⟨_,H4,eg,ee,cu,agK,rfl⟩:=yK b bs K7 (ep-24) aM zV fw J J
  rcases df ((IntKind.u64.wrap ((BitVec.ofInt 64 (IntKind.u64.wrap ((BitVec.ofInt 64 (IntKind.u64.wrap ((BitVec.ofInt 64 Ls |||BitVec.ofInt 64 Lt).toNat:Int)) |||BitVec.ofInt 64 (IntKind.u64.wrap ((BitVec.ofInt 64 Lu |||BitVec.ofInt 64 agK).toNat:Int))).toNat:Int)) &&& BitVec.ofInt 64 9259542123273814144).toNat:Int))==0) with h2 |h2
  ·obtain ⟨K8,aij,Yo⟩:=sh (b:=b) (o:=kz) (n:=ep) 32 (l:=32) rfl qt oe rfl J
   have Zo:=aM.kept ee aq zV
   exact ay 2 h1<|ac 2 c1<|aE [am 0]<|az [bw (sc b K5 (ep-8) (2*(ep-8)+1)) H1] N6<|ac 0 c2<|aE [am 1]<|az [bw (sc b oX (ep-16) (2*(ep-16)+1)) H2] vX<|ac 0 c3<|aE [am 0]<|az [bw (sc b K7 (ep-24) (2*(ep-24)+1)) H3] N8<|ac 0 eg<|ay 3 h2<|aE [am 1]<|az [bw (sc b K8 (ep-32) (2*(ep-32)+1)) H4] Yo<|du 1 [(0,sc b K8 (ep-32) (2*(ep-32)+1))] H4 (ih _ J K8 (ep-32) _ cu Zo fw J J rfl)
  exact ay 2 h1<|ac 2 c1<|aE [am 0]<|az [bw (sc b K5 (ep-8) (2*(ep-8)+1)) H1] N6<|ac 0 c2<|aE [am 1]<|az [bw (sc b oX (ep-16) (2*(ep-16)+1)) H2] vX<|ac 0 c3<|aE [am 0]<|az [bw (sc b K7 (ep-24) (2*(ep-24)+1)) H3] N8<|ac 0 eg<|ay 3 h2<|cF 1 [(0,sc b kz ep (2*ep+1))] (.exit 2) H4 ⟨rfl,kz,ep,rfl,⟨J,J⟩⟩
 exact ay 2 h1<|cF 2 [(0,sc b kz ep (2*ep+1))] (.exit 2) H ⟨rfl,kz,ep,rfl,⟨J,J⟩⟩
noncomputable def U3:Code:=cw [1,1,0,0,0,1,0,1,0] (cx Tryz.f128)
theorem acl (b:Nat) (bs:List Int) (o:Nat) (n:Nat) (c:Int)  {H:Z} (y:aa E G H) (kb:H.get b=some (O (iN bs) 5)) (fw:mA bs) (ho:o+n≤bs.length) (hn:0<n) :
  jL E G 188 U3 [(0,sc b o n (2*n+1)),(3,ab c)] H [] (fun x T H'=>(x=.normal∧T=aP [(0,sc b o n (2*n+1)),(3,ab c)])∨(x=(.exit 1)∧∃(DG:Nat) (nI:Nat),T=aP [(0,sc b DG nI (2*nI+1))]∧(DG+nI≤bs.length∧nI<n))):=by
 refine mq y ?_
 refine aD 1 (c<128) ?_ ?_ <;> intro h1 q1
 ·obtain ⟨yx,aid,Ym⟩:=sh (b:=b) (o:=o) (n:=n) 1 (l:=1) rfl qt oe rfl J
  refine aE [am 0]<|az [bw (sc b yx (n-1) (2*(n-1)+1)) H] Ym<|aD 3 (((n-1:Nat):Int)>8) ?_ ?_ <;> intro h2 cv
  ·obtain ⟨_,H1,c1,ak,y1,Ls,rfl⟩:=yK b bs yx (n-1) y kb fw J J
   refine ac 2 c1<|aY 1 (IntKind.u64.wrap ((BitVec.ofInt 64 Ls &&& BitVec.ofInt 64 9259542123273814144).toNat:Int)) 0 ?_ ?_ <;> intro h3 cY
   ·obtain ⟨tP,aif,IJ⟩:=sh (b:=b) (o:=yx) (n:=(n-1)) 8 (l:=8) rfl qt oe rfl J
    rcases df (decide ((((n-1)-8:Nat):Int)>16)) with h4 |h4
    ·have cO:=fD h4
     have gB:=y.kept ak aq kb
     obtain ⟨_,H2,c2,aF,ar,Lt,rfl⟩:=yK b bs tP ((n-1)-8) y1 gB fw J J
     obtain ⟨K6,aig,N7⟩:=sh (b:=b) (o:=tP) (n:=((n-1)-8)) 8 (l:=8) rfl qt oe rfl J
     have oJ:=y1.kept aF aq gB
     obtain ⟨_,H3,c3,bq,aM,Lu,rfl⟩:=yK b bs K6 (((n-1)-8)-8) ar oJ fw J J
     rcases df ((IntKind.u64.wrap ((BitVec.ofInt 64 (IntKind.u64.wrap ((BitVec.ofInt 64 Lt |||BitVec.ofInt 64 Lu).toNat:Int)) &&& BitVec.ofInt 64 9259542123273814144).toNat:Int))==0) with h5 |h5
     ·obtain ⟨Ru,aii,Yn⟩:=sh (b:=b) (o:=tP) (n:=((n-1)-8)) 16 (l:=16) rfl qt oe rfl J
      have zV:=ar.kept bq aq oJ
      obtain ⟨_,_,H4,eg,ee,cu,rfl,Sh,LN,rfl,lh,tM⟩:=(SZ b bs (((n-1)-8)-16) _ Ru (((n-1)-8)-16) _ aM zV fw J (Nat.le_refl _) rfl).code
      exact aE [am 1]<|az [bw (sc b tP ((n-1)-8) (2*((n-1)-8)+1)) H1] IJ<|aE [am 0]<|ay 2 h4<|ac 2 c2<|aE [am 0]<|az [bw (sc b K6 (((n-1)-8)-8) (2*(((n-1)-8)-8)+1)) H2] N7<|ac 0 c3<|ay 2 h5<|aE [am 1]<|az [bw (sc b Ru (((n-1)-8)-16) (2*(((n-1)-8)-16)+1)) H3] Yn<|bx 1 eg<|cM 0 [(0,sc b Sh LN (2*LN+1))] (.exit 1) H4 (.inr ⟨rfl,Sh,LN,rfl,⟨J,J⟩⟩)
     have dc:=tu h5
     exact aE [am 1]<|az [bw (sc b tP ((n-1)-8) (2*((n-1)-8)+1)) H1] IJ<|aE [am 0]<|ay 2 h4<|ac 2 c2<|aE [am 0]<|az [bw (sc b K6 (((n-1)-8)-8) (2*(((n-1)-8)-8)+1)) H2] N7<|ac 0 c3<|ay 2 h5<|cM 1 [(0,sc b tP ((n-1)-8) (2*((n-1)-8)+1))] (.exit 1) H3 (.inr ⟨rfl,tP,(n-1)-8,rfl,⟨J,J⟩⟩)
    exact aE [am 1]<|az [bw (sc b tP ((n-1)-8) (2*((n-1)-8)+1)) H1] IJ<|aE [am 0]<|ay 2 h4<|cM 2 [(0,sc b tP ((n-1)-8) (2*((n-1)-8)+1))] (.exit 1) H1 (.inr ⟨rfl,tP,(n-1)-8,rfl,⟨J,J⟩⟩)
   exact cM 1 [(0,sc b yx (n-1) (2*(n-1)+1))] (.exit 1) H1 (.inr ⟨rfl,yx,n-1,rfl,⟨J,J⟩⟩)
  exact cM 2 [(0,sc b yx (n-1) (2*(n-1)+1))] (.exit 1) H (.inr ⟨rfl,yx,n-1,rfl,⟨J,J⟩⟩)
 exact cM 0 [(0,sc b o n (2*n+1)),(3,ab c)] .normal H (.inl ⟨rfl,rfl⟩)
noncomputable def U4:Code:=cw [1,1,0,0,0,1,0,1,1,1,1,1,1,0,1,0,0,0] (cx Tryz.f128)
theorem acm (b:Nat) (bs:List Int) (o:Nat) (n:Nat) (q:Nat) (lo:Int) (hi:Int)  {H:Z} (y:aa E G H) (kb:H.get b=some (O (iN bs) 5)) (b9:H.get q=some (O [ab lo,ab hi] 224)) (fw:mA bs) (ho:o+n≤bs.length) (hn:0<n) :
  jL E G 188 U4 [(0,sc b o n (2*n+1)),(6,pt q 0)] H [] (fun x T H'=>(x=.normal∧T=aP [(0,sc b o n (2*n+1)),(103,aw)])∨(x=.normal∧T=aP [(0,sc b o n (2*n+1)),(103,U)]∧(2≤n))):=by
 refine mq y ?_
 rcases df (decide ((n:Int)<2)) with h1 |h1
 ·exact ay 2 h1<|cM 4 [(0,sc b o n (2*n+1)),(103,aw)] .normal H (.inl ⟨rfl,rfl⟩)
 have q1:=fM h1
 obtain ⟨jj,lq,ze,zf⟩:=lm fw (i:=o+(1:Int).toNat*1) J
 rcases df (decide (jj<lo)) with h2 |h2
 ·exact ay 2 h1<|aG 2 (1:Int) (n:Int)<|Y 0 (cH cy kb lq:al E 5 b (o+(1:Int).toNat*1) H=some (ab jj))<|Y 1 (ag 0 cy b9)<|ay 0 h2<|cM 3 [(0,sc b o n (2*n+1)),(103,aw)] .normal H (.inl ⟨rfl,rfl⟩)
 obtain ⟨lG,nY,Hh,Hj⟩:=lm fw (i:=o+(1:Int).toNat*1) J
 rcases df (decide (hi<lG)) with h3 |h3
 ·exact ay 2 h1<|aG 2 (1:Int) (n:Int)<|Y 0 (cH cy kb lq:al E 5 b (o+(1:Int).toNat*1) H=some (ab jj))<|Y 1 (ag 0 cy b9)<|ay 0 h2<|Y 3 (ag 1 cy b9)<|aG 1 (1:Int) (n:Int)<|Y 0 (cH cy kb nY:al E 5 b (o+(1:Int).toNat*1) H=some (ab lG))<|ay 0 h3<|cM 1 [(0,sc b o n (2*n+1)),(103,aw)] .normal H (.inl ⟨rfl,rfl⟩)
 exact ay 2 h1<|aG 2 (1:Int) (n:Int)<|Y 0 (cH cy kb lq:al E 5 b (o+(1:Int).toNat*1) H=some (ab jj))<|Y 1 (ag 0 cy b9)<|ay 0 h2<|Y 3 (ag 1 cy b9)<|aG 1 (1:Int) (n:Int)<|Y 0 (cH cy kb nY:al E 5 b (o+(1:Int).toNat*1) H=some (ab lG))<|ay 0 h3<|cM 1 [(0,sc b o n (2*n+1)),(103,U)] .normal H (.inr ⟨rfl,rfl,J⟩)
noncomputable def U5:Code:=cw [1,1,0,0,0,1,0,1,1,1,1,1,1,0,1,1,1,0,0,0] (cx Tryz.f128)
theorem acn (b:Nat) (bs:List Int) (o:Nat) (n:Nat) (q:Nat) (lo:Int) (hi:Int)  {H:Z} (y:aa E G H) (kb:H.get b=some (O (iN bs) 5)) (b9:H.get q=some (O [ab lo,ab hi] 224)) (fw:mA bs) (ho:o+n≤bs.length) (hn:0<n) :
  jL E G 188 U5 [(0,sc b o n (2*n+1)),(6,pt q 0)] H [] (fun x T H'=>(x=.normal∧T=aP [(0,sc b o n (2*n+1)),(138,aw)])∨(x=.normal∧T=aP [(0,sc b o n (2*n+1)),(138,U)]∧(3≤n))):=by
 refine mq y ?_
 rcases df (decide ((n:Int)<3)) with h1 |h1
 ·exact ay 2 h1<|cM 8 [(0,sc b o n (2*n+1)),(138,aw)] .normal H (.inl ⟨rfl,rfl⟩)
 have q1:=fM h1
 obtain ⟨jj,lq,ze,zf⟩:=lm fw (i:=o+(1:Int).toNat*1) J
 rcases df (decide (jj<lo)) with h2 |h2
 ·exact ay 2 h1<|aG 2 (1:Int) (n:Int)<|Y 0 (cH cy kb lq:al E 5 b (o+(1:Int).toNat*1) H=some (ab jj))<|Y 1 (ag 0 cy b9)<|ay 0 h2<|cM 7 [(0,sc b o n (2*n+1)),(138,aw)] .normal H (.inl ⟨rfl,rfl⟩)
 obtain ⟨lG,nY,Hh,Hj⟩:=lm fw (i:=o+(1:Int).toNat*1) J
 rcases df (decide (hi<lG)) with h3 |h3
 ·exact ay 2 h1<|aG 2 (1:Int) (n:Int)<|Y 0 (cH cy kb lq:al E 5 b (o+(1:Int).toNat*1) H=some (ab jj))<|Y 1 (ag 0 cy b9)<|ay 0 h2<|Y 3 (ag 1 cy b9)<|aG 1 (1:Int) (n:Int)<|Y 0 (cH cy kb nY:al E 5 b (o+(1:Int).toNat*1) H=some (ab lG))<|ay 0 h3<|cM 5 [(0,sc b o n (2*n+1)),(138,aw)] .normal H (.inl ⟨rfl,rfl⟩)
 obtain ⟨pe,rF,Mu,Mw⟩:=lm fw (i:=o+(2:Int).toNat*1) J
 rcases df (decide (pe<128)) with h4 |h4
 ·exact ay 2 h1<|aG 2 (1:Int) (n:Int)<|Y 0 (cH cy kb lq:al E 5 b (o+(1:Int).toNat*1) H=some (ab jj))<|Y 1 (ag 0 cy b9)<|ay 0 h2<|Y 3 (ag 1 cy b9)<|aG 1 (1:Int) (n:Int)<|Y 0 (cH cy kb nY:al E 5 b (o+(1:Int).toNat*1) H=some (ab lG))<|ay 0 h3<|aG 3 (2:Int) (n:Int)<|Y 0 (cH cy kb rF:al E 5 b (o+(2:Int).toNat*1) H=some (ab pe))<|ay 0 h4<|cM 3 [(0,sc b o n (2*n+1)),(138,aw)] .normal H (.inl ⟨rfl,rfl⟩)
 obtain ⟨qE,um,Hi,Hk⟩:=lm fw (i:=o+(2:Int).toNat*1) J
 rcases df (decide (191<qE)) with h5 |h5
 ·exact ay 2 h1<|aG 2 (1:Int) (n:Int)<|Y 0 (cH cy kb lq:al E 5 b (o+(1:Int).toNat*1) H=some (ab jj))<|Y 1 (ag 0 cy b9)<|ay 0 h2<|Y 3 (ag 1 cy b9)<|aG 1 (1:Int) (n:Int)<|Y 0 (cH cy kb nY:al E 5 b (o+(1:Int).toNat*1) H=some (ab lG))<|ay 0 h3<|aG 3 (2:Int) (n:Int)<|Y 0 (cH cy kb rF:al E 5 b (o+(2:Int).toNat*1) H=some (ab pe))<|ay 0 h4<|aG 3 (2:Int) (n:Int)<|Y 0 (cH cy kb um:al E 5 b (o+(2:Int).toNat*1) H=some (ab qE))<|ay 0 h5<|cM 1 [(0,sc b o n (2*n+1)),(138,aw)] .normal H (.inl ⟨rfl,rfl⟩)
 exact ay 2 h1<|aG 2 (1:Int) (n:Int)<|Y 0 (cH cy kb lq:al E 5 b (o+(1:Int).toNat*1) H=some (ab jj))<|Y 1 (ag 0 cy b9)<|ay 0 h2<|Y 3 (ag 1 cy b9)<|aG 1 (1:Int) (n:Int)<|Y 0 (cH cy kb nY:al E 5 b (o+(1:Int).toNat*1) H=some (ab lG))<|ay 0 h3<|aG 3 (2:Int) (n:Int)<|Y 0 (cH cy kb rF:al E 5 b (o+(2:Int).toNat*1) H=some (ab pe))<|ay 0 h4<|aG 3 (2:Int) (n:Int)<|Y 0 (cH cy kb um:al E 5 b (o+(2:Int).toNat*1) H=some (ab qE))<|ay 0 h5<|cM 1 [(0,sc b o n (2*n+1)),(138,U)] .normal H (.inr ⟨rfl,rfl,J⟩)
noncomputable def U6:Code:=cw [1,1,0,0,0,1,0,1,1,1,1,1,1,0,1,1,1,1,1,0,0,0] (cx Tryz.f128)
theorem aco (b:Nat) (bs:List Int) (o:Nat) (n:Nat) (q:Nat) (lo:Int) (hi:Int)  {H:Z} (y:aa E G H) (kb:H.get b=some (O (iN bs) 5)) (b9:H.get q=some (O [ab lo,ab hi] 224)) (fw:mA bs) (ho:o+n≤bs.length) (hn:0<n) :
  jL E G 188 U6 [(0,sc b o n (2*n+1)),(6,pt q 0)] H [] (fun x T H'=>(x=.normal∧T=aP [(0,sc b o n (2*n+1)),(185,aw)])∨(x=.normal∧T=aP [(0,sc b o n (2*n+1)),(185,U)]∧(4≤n))):=by
 refine mq y ?_
 rcases df (decide ((n:Int)<4)) with h1 |h1
 ·exact ay 2 h1<|cM 12 [(0,sc b o n (2*n+1)),(185,aw)] .normal H (.inl ⟨rfl,rfl⟩)
 have q1:=fM h1
 obtain ⟨jj,lq,ze,zf⟩:=lm fw (i:=o+(1:Int).toNat*1) J
 rcases df (decide (jj<lo)) with h2 |h2
 ·exact ay 2 h1<|aG 2 (1:Int) (n:Int)<|Y 0 (cH cy kb lq:al E 5 b (o+(1:Int).toNat*1) H=some (ab jj))<|Y 1 (ag 0 cy b9)<|ay 0 h2<|cM 11 [(0,sc b o n (2*n+1)),(185,aw)] .normal H (.inl ⟨rfl,rfl⟩)
 obtain ⟨lG,nY,Hh,Hj⟩:=lm fw (i:=o+(1:Int).toNat*1) J
 rcases df (decide (hi<lG)) with h3 |h3
 ·exact ay 2 h1<|aG 2 (1:Int) (n:Int)<|Y 0 (cH cy kb lq:al E 5 b (o+(1:Int).toNat*1) H=some (ab jj))<|Y 1 (ag 0 cy b9)<|ay 0 h2<|Y 3 (ag 1 cy b9)<|aG 1 (1:Int) (n:Int)<|Y 0 (cH cy kb nY:al E 5 b (o+(1:Int).toNat*1) H=some (ab lG))<|ay 0 h3<|cM 9 [(0,sc b o n (2*n+1)),(185,aw)] .normal H (.inl ⟨rfl,rfl⟩)
 obtain ⟨pe,rF,Mu,Mw⟩:=lm fw (i:=o+(2:Int).toNat*1) J
 rcases df (decide (pe<128)) with h4 |h4
 ·exact ay 2 h1<|aG 2 (1:Int) (n:Int)<|Y 0 (cH cy kb lq:al E 5 b (o+(1:Int).toNat*1) H=some (ab jj))<|Y 1 (ag 0 cy b9)<|ay 0 h2<|Y 3 (ag 1 cy b9)<|aG 1 (1:Int) (n:Int)<|Y 0 (cH cy kb nY:al E 5 b (o+(1:Int).toNat*1) H=some (ab lG))<|ay 0 h3<|aG 3 (2:Int) (n:Int)<|Y 0 (cH cy kb rF:al E 5 b (o+(2:Int).toNat*1) H=some (ab pe))<|ay 0 h4<|cM 7 [(0,sc b o n (2*n+1)),(185,aw)] .normal H (.inl ⟨rfl,rfl⟩)
 obtain ⟨qE,um,Hi,Hk⟩:=lm fw (i:=o+(2:Int).toNat*1) J
 rcases df (decide (191<qE)) with h5 |h5
 ·exact ay 2 h1<|aG 2 (1:Int) (n:Int)<|Y 0 (cH cy kb lq:al E 5 b (o+(1:Int).toNat*1) H=some (ab jj))<|Y 1 (ag 0 cy b9)<|ay 0 h2<|Y 3 (ag 1 cy b9)<|aG 1 (1:Int) (n:Int)<|Y 0 (cH cy kb nY:al E 5 b (o+(1:Int).toNat*1) H=some (ab lG))<|ay 0 h3<|aG 3 (2:Int) (n:Int)<|Y 0 (cH cy kb rF:al E 5 b (o+(2:Int).toNat*1) H=some (ab pe))<|ay 0 h4<|aG 3 (2:Int) (n:Int)<|Y 0 (cH cy kb um:al E 5 b (o+(2:Int).toNat*1) H=some (ab qE))<|ay 0 h5<|cM 5 [(0,sc b o n (2*n+1)),(185,aw)] .normal H (.inl ⟨rfl,rfl⟩)
 obtain ⟨xd,BM,S3,S5⟩:=lm fw (i:=o+(3:Int).toNat*1) J
 rcases df (decide (xd<128)) with h6 |h6
 ·exact ay 2 h1<|aG 2 (1:Int) (n:Int)<|Y 0 (cH cy kb lq:al E 5 b (o+(1:Int).toNat*1) H=some (ab jj))<|Y 1 (ag 0 cy b9)<|ay 0 h2<|Y 3 (ag 1 cy b9)<|aG 1 (1:Int) (n:Int)<|Y 0 (cH cy kb nY:al E 5 b (o+(1:Int).toNat*1) H=some (ab lG))<|ay 0 h3<|aG 3 (2:Int) (n:Int)<|Y 0 (cH cy kb rF:al E 5 b (o+(2:Int).toNat*1) H=some (ab pe))<|ay 0 h4<|aG 3 (2:Int) (n:Int)<|Y 0 (cH cy kb um:al E 5 b (o+(2:Int).toNat*1) H=some (ab qE))<|ay 0 h5<|aG 3 (3:Int) (n:Int)<|Y 0 (cH cy kb BM:al E 5 b (o+(3:Int).toNat*1) H=some (ab xd))<|ay 0 h6<|cM 3 [(0,sc b o n (2*n+1)),(185,aw)] .normal H (.inl ⟨rfl,rfl⟩)
 obtain ⟨zg,EG,S4,S6⟩:=lm fw (i:=o+(3:Int).toNat*1) J
 rcases df (decide (191<zg)) with h7 |h7
 ·exact ay 2 h1<|aG 2 (1:Int) (n:Int)<|Y 0 (cH cy kb lq:al E 5 b (o+(1:Int).toNat*1) H=some (ab jj))<|Y 1 (ag 0 cy b9)<|ay 0 h2<|Y 3 (ag 1 cy b9)<|aG 1 (1:Int) (n:Int)<|Y 0 (cH cy kb nY:al E 5 b (o+(1:Int).toNat*1) H=some (ab lG))<|ay 0 h3<|aG 3 (2:Int) (n:Int)<|Y 0 (cH cy kb rF:al E 5 b (o+(2:Int).toNat*1) H=some (ab pe))<|ay 0 h4<|aG 3 (2:Int) (n:Int)<|Y 0 (cH cy kb um:al E 5 b (o+(2:Int).toNat*1) H=some (ab qE))<|ay 0 h5<|aG 3 (3:Int) (n:Int)<|Y 0 (cH cy kb BM:al E 5 b (o+(3:Int).toNat*1) H=some (ab xd))<|ay 0 h6<|aG 3 (3:Int) (n:Int)<|Y 0 (cH cy kb EG:al E 5 b (o+(3:Int).toNat*1) H=some (ab zg))<|ay 0 h7<|cM 1 [(0,sc b o n (2*n+1)),(185,aw)] .normal H (.inl ⟨rfl,rfl⟩)
 exact ay 2 h1<|aG 2 (1:Int) (n:Int)<|Y 0 (cH cy kb lq:al E 5 b (o+(1:Int).toNat*1) H=some (ab jj))<|Y 1 (ag 0 cy b9)<|ay 0 h2<|Y 3 (ag 1 cy b9)<|aG 1 (1:Int) (n:Int)<|Y 0 (cH cy kb nY:al E 5 b (o+(1:Int).toNat*1) H=some (ab lG))<|ay 0 h3<|aG 3 (2:Int) (n:Int)<|Y 0 (cH cy kb rF:al E 5 b (o+(2:Int).toNat*1) H=some (ab pe))<|ay 0 h4<|aG 3 (2:Int) (n:Int)<|Y 0 (cH cy kb um:al E 5 b (o+(2:Int).toNat*1) H=some (ab qE))<|ay 0 h5<|aG 3 (3:Int) (n:Int)<|Y 0 (cH cy kb BM:al E 5 b (o+(3:Int).toNat*1) H=some (ab xd))<|ay 0 h6<|aG 3 (3:Int) (n:Int)<|Y 0 (cH cy kb EG:al E 5 b (o+(3:Int).toNat*1) H=some (ab zg))<|ay 0 h7<|cM 1 [(0,sc b o n (2*n+1)),(185,U)] .normal H (.inr ⟨rfl,rfl,J⟩)
noncomputable def TM:Code:=cw [1,1,0,0,0] (cx Tryz.f128)
theorem SY (b:Nat) (bs:List Int):∀(m:Nat) (kz:Nat) (ep:Nat) (H:Z),aa E G H→(kb:H.get b=some (O (iN bs) 5))→(fw:mA bs)→(ho:kz+ep≤bs.length)→ep=m→
  bV E G 188 TM [(0,sc b kz ep (2*ep+1))] H [] (fun x T H'=>(x=(.exit 0)∧T=aP [])∨(x=.ret∧∃(z2:Bool),T=aP [(2,.bool z2)])):=by
 refine dJ fun m ih=>?_
 intro kz ep H y kb fw ho hm
 refine cN y ?_
 refine aD 2 ((ep:Int)>0) ?_ ?_ <;> intro h1 q1
 ·obtain ⟨jj,lq,ze,zf⟩:=lm fw (i:=kz+(0:Int).toNat*1) J
  obtain ⟨_,_,H1,c1,ak,y1,bE⟩:=acl b bs kz ep jj y kb fw J J
  refine aG 1 (0:Int) (ep:Int)<|Y 0 (cH cy kb lq:al E 5 b (kz+(0:Int).toNat*1) H=some (ab jj))<|aE [am 0]<|?_
  rcases bE with ⟨rfl,rfl⟩ |⟨rfl,Sg,tV,rfl,aI,gv⟩
  ·have c8:H.n+0≤H1.n:=ak.n
   obtain ⟨xp,XM,WC,WD⟩:=WH (c:=jj) ze zf
   have ahT:=aeP WC WD
   have nr:=y.kept ak aq (t7 y)
   obtain ⟨k5,k4,Xl⟩:=SA (k:=(Int.fdiv xp (2 ^ 4))) J J
   have nt:=y.kept ak aq (t8 y)
   refine gi 0 1 c1<|aG 1 jj (256:Int)<|Y 0 (cH cy nr XM:al E 5 5 (0+jj.toNat*1) H1=some (ab xp))<|aG 7 (Int.fdiv xp (2 ^ 4)) (16:Int)<|Y 0 (cd ub mZ nt (SB J) Xl:al E 224 6 (0+(Int.fdiv xp (2 ^ 4)).toNat*2) H1=some (.agg #[ab k5,ab k4]))<|aB 1 (bG mZ rfl rfl rfl rfl:bu E 224 (H1.n+0) 0 (.agg #[ab k5,ab k4]) (news H1 [O [ab 0,ab 0] 224])=some (news H1 [O [ab k5,ab k4] 224]))<|aY 1 (IntKind.i64.wrap (IntKind.u8.wrap ((BitVec.ofInt 8 xp &&& BitVec.ofInt 8 7).toNat:Int))) 2 ?_ ?_ <;> intro h3 cY
   ·have gB:=y.kept ak aq kb
    obtain ⟨_,_,H2,c2,aF,ar,cX⟩:=acm b bs kz ep (H1.n+0) k5 k4 (y1.news [O [ab k5,ab k4] 224]) (y1.old gB [O [ab k5,ab k4] 224]) (aR [O [ab k5,ab k4] 224] H1 0 _ rfl) fw J J
    refine aE [am 0]<|?_
    rcases cX with ⟨rfl,rfl⟩ |⟨rfl,rfl,kw⟩
    ·have cB:=d9 aF
     exact gi 0 3 c2<|c5 1 [(2,U)] .ret H2 [H1.n+0] aJ aL (.inr ⟨rfl,false,rfl⟩)
    have cB:=d9 aF
    obtain ⟨oX,IK,vX⟩:=sh (b:=b) (o:=kz) (n:=ep) 2 (l:=2) rfl qt oe rfl J
    have oJ:=(y1.news [O [ab k5,ab k4] 224]).kept aF aq (y1.old gB [O [ab k5,ab k4] 224])
    exact gi 0 3 c2<|aE [am 0]<|az [bw (sc b oX (ep-2) (2*(ep-2)+1)) H2] vX<|dY 1 [(0,sc b oX (ep-2) (2*(ep-2)+1))] H2 [H1.n+0] aJ (ih _ J oX (ep-2) _ ar oJ fw J rfl)
   refine aY 1 (IntKind.i64.wrap (IntKind.u8.wrap ((BitVec.ofInt 8 xp &&& BitVec.ofInt 8 7).toNat:Int))) 3 ?_ ?_ <;> intro h4 cO
   ·have gB:=y.kept ak aq kb
    obtain ⟨_,_,H2,c2,aF,ar,cX⟩:=acn b bs kz ep (H1.n+0) k5 k4 (y1.news [O [ab k5,ab k4] 224]) (y1.old gB [O [ab k5,ab k4] 224]) (aR [O [ab k5,ab k4] 224] H1 0 _ rfl) fw J J
    refine aE [am 0]<|?_
    rcases cX with ⟨rfl,rfl⟩ |⟨rfl,rfl,kw⟩
    ·have cB:=d9 aF
     exact gi 0 3 c2<|c5 1 [(2,U)] .ret H2 [H1.n+0] aJ aL (.inr ⟨rfl,false,rfl⟩)
    have cB:=d9 aF
    obtain ⟨oX,IK,vX⟩:=sh (b:=b) (o:=kz) (n:=ep) 3 (l:=3) rfl qt oe rfl J
    have oJ:=(y1.news [O [ab k5,ab k4] 224]).kept aF aq (y1.old gB [O [ab k5,ab k4] 224])
    exact gi 0 3 c2<|aE [am 0]<|az [bw (sc b oX (ep-3) (2*(ep-3)+1)) H2] vX<|dY 1 [(0,sc b oX (ep-3) (2*(ep-3)+1))] H2 [H1.n+0] aJ (ih _ J oX (ep-3) _ ar oJ fw J rfl)
   refine aY 1 (IntKind.i64.wrap (IntKind.u8.wrap ((BitVec.ofInt 8 xp &&& BitVec.ofInt 8 7).toNat:Int))) 4 ?_ ?_ <;> intro h5 dc
   ·have gB:=y.kept ak aq kb
    obtain ⟨_,_,H2,c2,aF,ar,cX⟩:=aco b bs kz ep (H1.n+0) k5 k4 (y1.news [O [ab k5,ab k4] 224]) (y1.old gB [O [ab k5,ab k4] 224]) (aR [O [ab k5,ab k4] 224] H1 0 _ rfl) fw J J
    refine aE [am 0]<|?_
    rcases cX with ⟨rfl,rfl⟩ |⟨rfl,rfl,kw⟩
    ·have cB:=d9 aF
     exact gi 0 3 c2<|c5 1 [(2,U)] .ret H2 [H1.n+0] aJ aL (.inr ⟨rfl,false,rfl⟩)
    have cB:=d9 aF
    obtain ⟨oX,IK,vX⟩:=sh (b:=b) (o:=kz) (n:=ep) 4 (l:=4) rfl qt oe rfl J
    have oJ:=(y1.news [O [ab k5,ab k4] 224]).kept aF aq (y1.old gB [O [ab k5,ab k4] 224])
    exact gi 0 3 c2<|aE [am 0]<|az [bw (sc b oX (ep-4) (2*(ep-4)+1)) H2] vX<|dY 1 [(0,sc b oX (ep-4) (2*(ep-4)+1))] H2 [H1.n+0] aJ (ih _ J oX (ep-4) _ ar oJ fw J rfl)
   exact c5 2 [(2,U)] .ret (news H1 [O [ab k5,ab k4] 224]) [H1.n+0] aJ aL (.inr ⟨rfl,false,rfl⟩)
  have gB:=y.kept ak aq kb
  exact gi 0 1 c1<|du 0 [(0,sc b Sg tV (2*tV+1))] H1 (ih _ J Sg tV _ y1 gB fw J rfl)
 exact cF 0 [] (.exit 0) H (.inl ⟨rfl,rfl⟩)
theorem ags (b:Nat) (bs:List Int) (n:Nat) {H:Z} (y:aa E G H) (kb:H.get b=some (O (iN bs) 5)) (fw:mA bs) (ho:n≤bs.length) (hn:0<n):aV E G 128 [sc b 0 n 2] H [] (fun v H'=>∃ x,v=.bool x):=by
 refine bB Tryz.f128 y ?_
 obtain ⟨_,_,H1,c1,ak,y1,bE⟩:=(SY b bs _ 0 n _ y kb fw J rfl).code
 refine gY 6 H (ae0 J J rfl qt oe J:pJ E 192 (sc b 0 n 2) none (some (M (n:Int))) (some (M (n:Int)))=some (sc b 0 n (2*n+1)))<|?_
 rcases bE with ⟨rfl,rfl⟩ |⟨rfl,GQ,rfl⟩
 ·exact bx 1 c1<|af 1 aw H1 ⟨true,rfl⟩
 exact bx 1 c1<|af 0 (.bool GQ) H1 ⟨GQ,rfl⟩
theorem agt {H:Z} (y:aa E G H):bF E 128 [.slice none 0 0] H (.ret aw) H []:=F2 (f:=300) an (et rfl) (.ground rfl) y
theorem y7:rm E #[192,192] 5 1 1=true:=an
noncomputable def Vk:Code:=cw [1,1,1,0,1,0,0] (cx Tryz.f107)
noncomputable abbrev CH H:=news H [O [ab 10] 5]
noncomputable abbrev l5 s ah:=([ab (ad s (ah+1))]:List Value)
noncomputable abbrev CI H s ah:=news H (uZ (l5 s ah))
noncomputable abbrev CJ H s ah:=news H [O [ab (ad s ah)] 5]
theorem Kq (b:Nat) (b2:Nat) (s:ByteArray) (at_:Int):∀(m:Nat) (ah:Int) (q:Nat) (bs:List Int) (H:Z),aa E G H→(kb:H.get b=some (O (cT s at_) 135))→(kt:H.get b2=some (O cL 112))→(b9:H.get q=some (O (iN bs) 5))→(hs:(s.size:Int)<100000)→(a0:0≤at_)→(jD:G.n≤b2)→(d1:b≠b2)→(x0:at_<ah)→(x1:ah≤s.size)→(fw:mA bs)→(b0:0<bs.length)→(d8:(bs.length:Int)≤ah)→(eJ:G.n≤q)→(Wf:q≠b)→(Wg:q≠b2)→((s.size:Int)-ah).toNat=m→
  bV E G 75 Vk [(1,pt b 0),(2,pt b2 0),(4,sc q 0 bs.length 2),(5,M ah)] H [b2,q] (fun x T H'=>(x=(.exit 0)∧T=aP [(2,pt b2 0)]∧(H'.get b2=some (O [.int .i64 0,.int .i64 0,.string ⟨#[]⟩] 112)))∨(x=.ret∧∃(z3:Int) (lY:Int) (m9:Int) (zt:ByteArray),T=aP [(2,pt b2 0),(3,M z3)]∧(H'.get b2=some (O [.int .i64 lY,.int .i64 m9,.string zt] 112)∧0≤z3∧at_+z3≤s.size∧lY≠1))):=by
 refine dJ fun m ih=>?_
 intro ah q bs H y kb kt b9 hs a0 jD d1 x0 x1 fw b0 d8 eJ Wf Wg hm
 have g0:=y.n
 refine cN y ?_
 have z8:=y.wf.lt kb
 have wh:=y.wf.lt kt
 have qP:=y.wf.lt b9
 refine Y 2 (ag 0 bA kb)<|aD 1 (ah<(s.size:Int)) ?_ ?_ <;> intro h1 q1
 ·refine Y 1 (ag 0 bA kb)<|aG 1 ah (s.size:Int)<|aY 2 (ad s ah) 34 ?_ ?_ <;> intro h2 cv
  ·obtain ⟨_,H1,c1,ak,y1,agz,rfl⟩:=ags q bs bs.length y b9 fw J J
   have c8:H.n+0≤H1.n:=ak.n
   refine ac 2 c1<|?_
   cases agz with
   |true=>
    have eY:=y.kept ak aq b9
    obtain ⟨HE,ah2,XE⟩:=U0 (c:=2) (o:=0) (n:=bs.length) (H:=H1) qt agb af9 eY J
    have gB:=y.kept ak aq kb
    have hJ:=y.kept ak aq kt
    obtain ⟨aK,e2⟩:∃ ao,ao=H1.set b2 (O [M 4,M 0,.string HE] 112):=⟨_,rfl⟩
    have cB:aK.n=H1.n+0:=by rw [e2,Z.cI] <;> rfl
    have Cm:=bz e2
    exact aE [am 0]<|io [] (bk:b2<H1.n∨H1.n≤b2) (bk:b2<H1.n∨H1.n≤b2) (bk:b2<H1.n∨H1.n≤b2) (bk:b2≠b) (bk:b2<H1.n∨H1.n≤b2) (bk:b2<H1.n∨H1.n≤b2)<|g8 1 XE<|aH 2 (ah+1)<|Y 1 (ag 1 av gB)<|aH 0 ((ah+1)-at_)<|aB 0 (stx 0 (.agg #[M 4,M 0,.string HE]) e4 hJ e2)<|az [] (dO y1 hJ:cK H1 aK [b2]=true)<|c5 1 [(2,pt b2 0),(3,M ((ah+1)-at_))] .ret aK [b2] aW aZ (.inr ⟨rfl,(ah+1)-at_,4,0,HE,rfl,⟨Cm,J,J,J⟩⟩)
   |false=>
    have hJ:=y.kept ak aq kt
    obtain ⟨aK,e2⟩:∃ ao,ao=H1.set b2 (O cL 112):=⟨_,rfl⟩
    have Cm:=bz e2
    exact aB 2 (stx 0 (.agg (List.toArray cL)) e4 hJ e2)<|c5 1 [(2,pt b2 0),(3,M 0)] .ret aK [b2] aW aZ (.inr ⟨rfl,0,0,0,⟨#[]⟩,rfl,⟨Cm,J,J,J⟩⟩)
  refine aY 1 (ad s ah) 10 ?_ ?_ <;> intro h3 cY
  ·obtain ⟨aU,e1⟩:∃ ao,ao=H.set b2 (O cL 112):=⟨_,rfl⟩
   have hJ:=bz e1
   exact aB 2 (stx 0 (.agg (List.toArray cL)) e4 kt e1)<|c5 1 [(2,pt b2 0),(3,M 0)] .ret aU [b2] aW aZ (.inr ⟨rfl,0,0,0,⟨#[]⟩,rfl,⟨hJ,J,J,J⟩⟩)
  refine aY 1 (ad s ah) 92 ?_ ?_ <;> intro h4 cO
  ·refine aH 2 (ah+1)<|Y 3 (ag 0 bA kb)<|aY 1 (ah+1) (s.size:Int) ?_ ?_ <;> intro h5 dc
   ·obtain ⟨aU,e1⟩:∃ ao,ao=H.set b2 (O cL 112):=⟨_,rfl⟩
    have hJ:=bz e1
    exact aB 3 (stx 0 (.agg (List.toArray cL)) e4 kt e1)<|c5 1 [(2,pt b2 0),(3,M 0)] .ret aU [b2] aW aZ (.inr ⟨rfl,0,0,0,⟨#[]⟩,rfl,⟨hJ,J,J,J⟩⟩)
   refine Y 2 (ag 0 bA kb)<|aG 1 (ah+1) (s.size:Int)<|ac 0 (indexByte ⟨#[34,92,110]⟩ (ad s (ah+1)) y)<|aD 0 ((lL ⟨#[34,92,110]⟩ (ad s (ah+1)))<0) ?_ ?_ <;> intro h6 di
   ·obtain ⟨aU,e1⟩:∃ ao,ao=H.set b2 (O cL 112):=⟨_,rfl⟩
    have hJ:=bz e1
    exact aB 2 (stx 0 (.agg (List.toArray cL)) e4 kt e1)<|c5 1 [(2,pt b2 0),(3,M 0)] .ret aU [b2] aW aZ (.inr ⟨rfl,0,0,0,⟨#[]⟩,rfl,⟨hJ,J,J,J⟩⟩)
   refine Y 2 (ag 0 bA kb)<|aG 1 (ah+1) (s.size:Int)<|aY 2 (ad s (ah+1)) 110 ?_ ?_ <;> intro h7 gM
   ·obtain ⟨aU,e1⟩:∃ ao,ao=((CH H).set q .dead).new (O (iN (bs++[10])) 5):=⟨_,rfl⟩
    have y1:aa E G aU:=pM (y.news [O [ab 10] 5]) e1 J (by rw [dj];simp only [dX,e3];omega)
    have c8:aU.n=H.n+2:=by rw [pN e1,dj] <;> rfl
    have gQ:aU.get (H.n+1)=some (O (iN (bs++[10])) 5):=pO e1
    have gB:=jU (y.news [O [ab 10] 5]) e1 J (y.old kb [O [ab 10] 5])
    have hJ:=jU (y.news [O [ab 10] 5]) e1 J (y.old kt [O [ab 10] 5])
    exact g8 4 (show gZ E #[192,192] (sc q 0 bs.length 2) (sc (H.n+0) 0 1 3) (CH H)=some (sc (H.n+1) 0 ((bs++[10]).length) 2,aU,[q],[q,H.n+0]) from (pd y7 rfl (show g9 (CH H) 1 (sc (H.n+0) 0 1 3)=some (1,[ab 10],[H.n+0]) from js (aR [O [ab 10] 5] H 0 _ rfl) (gg rfl)) rfl (y.old b9 [O [ab 10] 5]) (by rw [Hm];omega) J).trans (by rw [Hn bs 10,K4 bs 10,e1] <;> rfl))<|aH 2 ((ah+1)+1)<|ji 1 [(1,pt b 0),(2,pt b2 0),(4,sc (H.n+1) 0 ((bs++[10]).length) 2),(5,M ((ah+1)+1))] aU [q] aW aJ (ih _ J ((ah+1)+1) (H.n+1) (bs++[10]) _ y1 gB hJ gQ hs a0 jD d1 J J (fw.snoc (by first |exact jl _ _ |decide) (by first |exact jc _ _ |decide)) aW (by simp;omega) J J J rfl)
   obtain ⟨aU,e1⟩:∃ ao,ao=((CI H s ah).set q .dead).new (O (iN (bs++[ad s (ah+1)])) 5):=⟨_,rfl⟩
   have y1:aa E G aU:=pM (y.news (uZ (l5 s ah))) e1 J (by rw [dj];simp only [dX,e3];omega)
   have c8:aU.n=H.n+2:=by rw [pN e1,dj] <;> rfl
   have gQ:aU.get (H.n+1)=some (O (iN (bs++[ad s (ah+1)])) 5):=pO e1
   have gB:=jU (y.news (uZ (l5 s ah))) e1 J (y.old kb (uZ (l5 s ah)))
   have hJ:=jU (y.news (uZ (l5 s ah))) e1 J (y.old kt (uZ (l5 s ah)))
   exact g8 3 (show gZ E #[192,192] (sc q 0 bs.length 2) (sc (H.n+0) 0 1 3) (CI H s ah)=some (sc (H.n+1) 0 ((bs++[ad s (ah+1)]).length) 2,aU,[q],[q,H.n+0]) from (pd y7 rfl (show g9 (CI H s ah) 1 (sc (H.n+0) 0 1 3)=some (1,[ab (ad s (ah+1))],[H.n+0]) from js (aR (uZ (l5 s ah)) H 0 _ rfl) (gg rfl)) rfl (y.old b9 (uZ (l5 s ah))) (by rw [Hm];omega) J).trans (by rw [Hn bs (ad s (ah+1)),K4 bs (ad s (ah+1)),e1] <;> rfl))<|aH 2 ((ah+1)+1)<|ji 1 [(1,pt b 0),(2,pt b2 0),(4,sc (H.n+1) 0 ((bs++[ad s (ah+1)]).length) 2),(5,M ((ah+1)+1))] aU [q] aW aJ (ih _ J ((ah+1)+1) (H.n+1) (bs++[ad s (ah+1)]) _ y1 gB hJ gQ hs a0 jD d1 J J (fw.snoc (by first |exact jl _ _ |decide) (by first |exact jc _ _ |decide)) aW (by simp;omega) J J J rfl)
  obtain ⟨aU,e1⟩:∃ ao,ao=((CJ H s ah).set q .dead).new (O (iN (bs++[ad s ah])) 5):=⟨_,rfl⟩
  have y1:aa E G aU:=pM (y.news [O [ab (ad s ah)] 5]) e1 J (by rw [dj];simp only [dX,e3];omega)
  have c8:aU.n=H.n+2:=by rw [pN e1,dj] <;> rfl
  have gQ:aU.get (H.n+1)=some (O (iN (bs++[ad s ah])) 5):=pO e1
  have gB:=jU (y.news [O [ab (ad s ah)] 5]) e1 J (y.old kb [O [ab (ad s ah)] 5])
  have hJ:=jU (y.news [O [ab (ad s ah)] 5]) e1 J (y.old kt [O [ab (ad s ah)] 5])
  exact g8 4 (show gZ E #[192,192] (sc q 0 bs.length 2) (sc (H.n+0) 0 1 3) (CJ H s ah)=some (sc (H.n+1) 0 ((bs++[ad s ah]).length) 2,aU,[q],[q,H.n+0]) from (pd y7 rfl (show g9 (CJ H s ah) 1 (sc (H.n+0) 0 1 3)=some (1,[ab (ad s ah)],[H.n+0]) from js (aR [O [ab (ad s ah)] 5] H 0 _ rfl) (gg rfl)) rfl (y.old b9 [O [ab (ad s ah)] 5]) (by rw [Hm];omega) J).trans (by rw [Hn bs (ad s ah),K4 bs (ad s ah),e1] <;> rfl))<|aH 2 (ah+1)<|ji 1 [(1,pt b 0),(2,pt b2 0),(4,sc (H.n+1) 0 ((bs++[ad s ah]).length) 2),(5,M (ah+1))] aU [q] aW aJ (ih _ J (ah+1) (H.n+1) (bs++[ad s ah]) _ y1 gB hJ gQ hs a0 jD d1 J J (fw.snoc (by first |exact jl _ _ |decide) (by first |exact jc _ _ |decide)) aW (by simp;omega) J J J rfl)
 exact c5 0 [(2,pt b2 0)] (.exit 0) H [] aL aZ (.inl ⟨rfl,rfl,kt⟩)
noncomputable def Vj:Code:=cw [1,1,1,0,1,0,0] (cx Tryz.f107)
noncomputable abbrev PF H s ah:=news H [O (l5 s ah) 5,O (l5 s ah) 5]
noncomputable abbrev PG H s ah:=news H [O [ab (ad s ah)] 5,O [ab (ad s ah)] 5]
theorem ac7 (b:Nat) (b2:Nat) (s:ByteArray) (at_:Int):∀(m:Nat) (ah:Int) (H:Z),aa E G H→(kb:H.get b=some (O (cT s at_) 135))→(kt:H.get b2=some (O cL 112))→(hs:(s.size:Int)<100000)→(a0:0≤at_)→(jD:G.n≤b2)→(d1:b≠b2)→(x0:at_<ah)→(x1:ah≤s.size)→((s.size:Int)-ah).toNat=m→
  bV E G 75 Vj [(1,pt b 0),(2,pt b2 0),(4,.slice none 0 0),(5,M ah)] H [b2] (fun x T H'=>(x=(.exit 0)∧T=aP [(2,pt b2 0)]∧(H'.get b2=some (O [.int .i64 0,.int .i64 0,.string ⟨#[]⟩] 112)))∨(x=.ret∧∃(z3:Int) (lY:Int) (m9:Int) (zt:ByteArray),T=aP [(2,pt b2 0),(3,M z3)]∧(H'.get b2=some (O [.int .i64 lY,.int .i64 m9,.string zt] 112)∧0≤z3∧at_+z3≤s.size∧lY≠1))):=by
 refine dJ fun m ih=>?_
 intro ah H y kb kt hs a0 jD d1 x0 x1 hm
 have g0:=y.n
 refine cN y ?_
 have z8:=y.wf.lt kb
 have wh:=y.wf.lt kt
 refine Y 2 (ag 0 bA kb)<|aD 1 (ah<(s.size:Int)) ?_ ?_ <;> intro h1 q1
 ·refine Y 1 (ag 0 bA kb)<|aG 1 ah (s.size:Int)<|aY 2 (ad s ah) 34 ?_ ?_ <;> intro h2 cv
  ·obtain ⟨aU,e1⟩:∃ ao,ao=H.set b2 (O [M 4,M 0,.string ⟨#[]⟩] 112):=⟨_,rfl⟩
   have c8:aU.n=H.n+0:=by rw [e1,Z.cI] <;> rfl
   have hJ:=bz e1
   exact ac 2 (agt y)<|aE [am 0]<|io [] (bk:b2<H.n∨H.n≤b2) (bk:b2<H.n∨H.n≤b2) (bk:b2<H.n∨H.n≤b2) (bk:b2≠b) (bk:b2<H.n∨H.n≤b2) (bk:b2<H.n∨H.n≤b2)<|aH 4 (ah+1)<|Y 1 (ag 1 av kb)<|aH 0 ((ah+1)-at_)<|aB 0 (stx 0 (.agg #[M 4,M 0,.string ⟨#[]⟩]) e4 kt e1)<|az [] (dO y kt:cK H aU [b2]=true)<|c5 1 [(2,pt b2 0),(3,M ((ah+1)-at_))] .ret aU [b2] aW aZ (.inr ⟨rfl,(ah+1)-at_,4,0,⟨#[]⟩,rfl,⟨hJ,J,J,J⟩⟩)
  refine aY 1 (ad s ah) 10 ?_ ?_ <;> intro h3 cY
  ·obtain ⟨aU,e1⟩:∃ ao,ao=H.set b2 (O cL 112):=⟨_,rfl⟩
   have hJ:=bz e1
   exact aB 2 (stx 0 (.agg (List.toArray cL)) e4 kt e1)<|c5 1 [(2,pt b2 0),(3,M 0)] .ret aU [b2] aW aZ (.inr ⟨rfl,0,0,0,⟨#[]⟩,rfl,⟨hJ,J,J,J⟩⟩)
  refine aY 1 (ad s ah) 92 ?_ ?_ <;> intro h4 cO
  ·refine aH 2 (ah+1)<|Y 3 (ag 0 bA kb)<|aY 1 (ah+1) (s.size:Int) ?_ ?_ <;> intro h5 dc
   ·obtain ⟨aU,e1⟩:∃ ao,ao=H.set b2 (O cL 112):=⟨_,rfl⟩
    have hJ:=bz e1
    exact aB 3 (stx 0 (.agg (List.toArray cL)) e4 kt e1)<|c5 1 [(2,pt b2 0),(3,M 0)] .ret aU [b2] aW aZ (.inr ⟨rfl,0,0,0,⟨#[]⟩,rfl,⟨hJ,J,J,J⟩⟩)
   refine Y 2 (ag 0 bA kb)<|aG 1 (ah+1) (s.size:Int)<|ac 0 (indexByte ⟨#[34,92,110]⟩ (ad s (ah+1)) y)<|aD 0 ((lL ⟨#[34,92,110]⟩ (ad s (ah+1)))<0) ?_ ?_ <;> intro h6 di
   ·obtain ⟨aU,e1⟩:∃ ao,ao=H.set b2 (O cL 112):=⟨_,rfl⟩
    have hJ:=bz e1
    exact aB 2 (stx 0 (.agg (List.toArray cL)) e4 kt e1)<|c5 1 [(2,pt b2 0),(3,M 0)] .ret aU [b2] aW aZ (.inr ⟨rfl,0,0,0,⟨#[]⟩,rfl,⟨hJ,J,J,J⟩⟩)
   refine Y 2 (ag 0 bA kb)<|aG 1 (ah+1) (s.size:Int)<|aY 2 (ad s (ah+1)) 110 ?_ ?_ <;> intro h7 gM
   ·exact g8 4 (show gZ E #[192,192] (.slice none 0 0) (sc (H.n+0) 0 1 3) (CH H)=some (sc (H.n+1) 0 1 2,news H [O [ab 10] 5,O [ab 10] 5],[],[H.n+0]) from sM y7 rfl (show g9 (CH H) 1 (sc (H.n+0) 0 1 3)=some (1,[ab 10],[H.n+0]) from js (aR [O [ab 10] 5] H 0 _ rfl) (gg rfl)) rfl (by decide) (by decide))<|aH 2 ((ah+1)+1)<|ji 1 [(1,pt b 0),(2,pt b2 0),(4,sc (H.n+1) 0 1 2),(5,M ((ah+1)+1))] (news H [O [ab 10] 5,O [ab 10] 5]) [] aL aJ (Kq b b2 s at_ _ ((ah+1)+1) (H.n+1) [10] _ (y.news [O [ab 10] 5,O [ab 10] 5]) (y.old kb [O [ab 10] 5,O [ab 10] 5]) (y.old kt [O [ab 10] 5,O [ab 10] 5]) (aR [O [ab 10] 5,O [ab 10] 5] H 1 _ rfl) hs a0 jD d1 J J (mA.nil.snoc (c:=10) (by first |exact jl _ _ |decide) (by first |exact jc _ _ |decide)) aW (by simp;omega) J J J rfl)
   exact g8 3 (show gZ E #[192,192] (.slice none 0 0) (sc (H.n+0) 0 1 3) (CI H s ah)=some (sc (H.n+1) 0 1 2,PF H s ah,[],[H.n+0]) from sM y7 rfl (show g9 (CI H s ah) 1 (sc (H.n+0) 0 1 3)=some (1,[ab (ad s (ah+1))],[H.n+0]) from js (aR (uZ (l5 s ah)) H 0 _ rfl) (gg rfl)) rfl (by decide) (by decide))<|aH 2 ((ah+1)+1)<|ji 1 [(1,pt b 0),(2,pt b2 0),(4,sc (H.n+1) 0 1 2),(5,M ((ah+1)+1))] (PF H s ah) [] aL aJ (Kq b b2 s at_ _ ((ah+1)+1) (H.n+1) [ad s (ah+1)] _ (y.news [O (l5 s ah) 5,O (l5 s ah) 5]) (y.old kb [O (l5 s ah) 5,O (l5 s ah) 5]) (y.old kt [O (l5 s ah) 5,O (l5 s ah) 5]) (aR [O (l5 s ah) 5,O (l5 s ah) 5] H 1 _ rfl) hs a0 jD d1 J J (mA.nil.snoc (c:=(ad s (ah+1))) (by first |exact jl _ _ |decide) (by first |exact jc _ _ |decide)) aW (by simp;omega) J J J rfl)
  exact g8 4 (show gZ E #[192,192] (.slice none 0 0) (sc (H.n+0) 0 1 3) (CJ H s ah)=some (sc (H.n+1) 0 1 2,PG H s ah,[],[H.n+0]) from sM y7 rfl (show g9 (CJ H s ah) 1 (sc (H.n+0) 0 1 3)=some (1,[ab (ad s ah)],[H.n+0]) from js (aR [O [ab (ad s ah)] 5] H 0 _ rfl) (gg rfl)) rfl (by decide) (by decide))<|aH 2 (ah+1)<|ji 1 [(1,pt b 0),(2,pt b2 0),(4,sc (H.n+1) 0 1 2),(5,M (ah+1))] (PG H s ah) [] aL aJ (Kq b b2 s at_ _ (ah+1) (H.n+1) [ad s ah] _ (y.news [O [ab (ad s ah)] 5,O [ab (ad s ah)] 5]) (y.old kb [O [ab (ad s ah)] 5,O [ab (ad s ah)] 5]) (y.old kt [O [ab (ad s ah)] 5,O [ab (ad s ah)] 5]) (aR [O [ab (ad s ah)] 5,O [ab (ad s ah)] 5] H 1 _ rfl) hs a0 jD d1 J J (mA.nil.snoc (c:=(ad s ah)) (by first |exact jl _ _ |decide) (by first |exact jc _ _ |decide)) aW (by simp;omega) J J J rfl)
 exact c5 0 [(2,pt b2 0)] (.exit 0) H [] aL aZ (.inl ⟨rfl,rfl,kt⟩)
noncomputable abbrev ye H s at_:=news H [O (cT s at_) 135,O cL 112]
theorem aaZ (s:ByteArray) (at_:Int) {H:Z} (y:aa E G H) (hs:(s.size:Int)<100000) (a0:0≤at_) (a1:at_<s.size):aV E G 107 [.agg (cT s at_).toArray] H [] (fun v H'=>∃(k:Int) (a:Int) (t:ByteArray) (n:Int),v=(.tuple #[.agg #[M k,M a,.string t],M n])∧(0≤n∧at_+n≤s.size∧k≠1)):=by
 have g0:=y.n
 refine bB Tryz.f107 y ?_
 refine Y 4 (aQ (ye H s at_) 0 0 bA)<|Y 1 (aQ (ye H s at_) 0 1 av)<|aG 0 at_ (s.size:Int)<|d7 0 (ad s at_) 34 ?_ ?_ <;> intro h1 q1
 ·exact aB 1 (bG e4 rfl rfl rfl rfl:bu E 112 (H.n+1) 0 (.agg (List.toArray cL)) (ye H s at_)=some (ye H s at_))<|aE [am 0]<|eV [] ((dt j9 e4 rfl rfl rfl):al E 112 (H.n+1) 0 (ye H s at_)=some (.agg (List.toArray cL))) (j5 (M 0))<|fI 0 [.agg (List.toArray cL),M 0] (.tuple #[.agg (List.toArray cL),M 0]) (ye H s at_) [H.n+1] aJ aL ⟨0,0,⟨#[]⟩,0,rfl,J,J,J⟩
 obtain ⟨_,_,H1,c1,ak,y1,bE⟩:=(ac7 (H.n+0) (H.n+1) s at_ _ (at_+1) _ (y.news [O (cT s at_) 135,O cL 112]) (aR [O (cT s at_) 135,O cL 112] H 0 _ rfl) (aR [O (cT s at_) 135,O cL 112] H 1 _ rfl) hs a0 J J J J rfl).code
 refine Y 2 (aQ (ye H s at_) 0 1 av)<|aH 0 (at_+1)<|?_
 rcases bE with ⟨rfl,rfl,rW⟩ |⟨rfl,iK,wV,wT,ig,rfl,rW,aI,gv,Rh⟩
 ·have c8:=uT ak
  obtain ⟨aK,e2⟩:∃ ao,ao=H1.set (H.n+1) (O cL 112):=⟨_,rfl⟩
  have cB:aK.n=H1.n+0:=by rw [e2,Z.cI] <;> rfl
  have jF:=bz e2
  exact bx 1 c1<|aB 1 (stx 0 (.agg (List.toArray cL)) e4 rW e2)<|aE [am 0]<|eV [] ((cd j9 e4 jF rfl rfl):al E 112 (H.n+1) 0 aK=some (.agg (List.toArray cL))) (j5 (M 0))<|fI 0 [.agg (List.toArray cL),M 0] (.tuple #[.agg (List.toArray cL),M 0]) aK [H.n+1,H.n+1] aJ aL ⟨0,0,⟨#[]⟩,0,rfl,J,J,J⟩
 have c8:=uT ak
 exact bx 1 c1<|eV [] ((cd j9 e4 rW rfl rfl):al E 112 (H.n+1) 0 H1=some (.agg #[M wV,M wT,.string ig])) (j5 (M iK))<|fI 0 [.agg #[M wV,M wT,.string ig],M iK] (.tuple #[.agg #[M wV,M wT,.string ig],M iK]) H1 [H.n+1] aJ aL ⟨wV,wT,ig,iK,rfl,J,J,J⟩
theorem aaY (s:ByteArray) (at_:Int) (hs:(s.size:Int)<100000) (a0:0≤at_) (a1:at_<s.size):∃(k:Int) (a:Int) (t:ByteArray) (n:Int),(0≤n∧at_+n≤s.size∧k≠1)∧∀{H:Z},aa E G H→bF E 107 [.agg (cT s at_).toArray] H (.ret (.tuple #[.agg #[M k,M a,.string t],M n])) H []:=by
 obtain ⟨_,_,c,_,_,k,a,t,n,rfl,hs⟩:=aaZ s at_ eH hs a0 a1
 exact ⟨k,a,t,n,hs,fun y=>eh (et rfl) (Dn _ _ _ _) c y⟩
noncomputable def Bs:Code:=cw [1,0,1,0,0] (cx Tryz.f86)
noncomputable abbrev uf:=([bS 105,bS 106,bS 107,bS 108]:List Value)
noncomputable abbrev Bu:=([.int .i64 0,.int .i64 0,.string ⟨#[]⟩]:List Value)
theorem aaw (b:Nat) (b2:Nat) (q:Nat) (s:ByteArray) (at_:Int)  {H:Z} (y:aa E G H) (kb:H.get b=some (O (cT s at_) 135)) (kt:H.get b2=some (O cL 112)) (qN:H.get q=some (O uf 162)) (hs:(s.size:Int)<100000) (a0:0≤at_) (a1:at_<s.size) (jD:G.n≤b2) (d1:b≠b2) (d2:q≠b2) (hw:eZ (ad s at_)=false):bV E G 29 Bs [(1,pt b 0),(2,pt b2 0),(8,sc q 0 4 9),(9,M 4),(10,M 4)] H [b2] (fun x T H'=>(x=(.exit 0)∧T=aP [(2,pt b2 0)]∧(H'.get b2=some (O Bu 112)∧eZ (ad s at_)=false))∨(x=.ret∧∃(z3:Int) (lY:Int) (m9:Int) (zt:ByteArray),T=aP [(2,pt b2 0),(3,M z3)]∧(H'.get b2=some (O [.int .i64 lY,.int .i64 m9,.string zt] 112)∧0≤z3∧at_+z3≤s.size∧qB s at_ lY m9 zt z3))):=by
 refine cN y ?_
 exact c5 1 [(2,pt b2 0)] (.exit 0) H [] aL aZ (.inl ⟨rfl,rfl,⟨kt,hw⟩⟩)
noncomputable abbrev Fv H:=news H (iS cL)
noncomputable abbrev ke dU gE dV:=([M dU,M gE,.string dV]:List Value)
noncomputable abbrev qR H dU gE dV:=news H (iS (ke dU gE dV))
noncomputable abbrev nl dU at_ dV:=([M dU,M at_,.string dV]:List Value)
noncomputable abbrev qS H dU at_ dV:=news H (iS (nl dU at_ dV))
theorem aav (b:Nat) (b2:Nat) (q:Nat) (s:ByteArray) (at_:Int)  {H:Z} (y:aa E G H) (kb:H.get b=some (O (cT s at_) 135)) (kt:H.get b2=some (O cL 112)) (qN:H.get q=some (O uf 162)) (hs:(s.size:Int)<100000) (a0:0≤at_) (a1:at_<s.size) (jD:G.n≤b2) (d1:b≠b2) (d2:q≠b2) (hw:eZ (ad s at_)=false):bV E G 29 Bs [(1,pt b 0),(2,pt b2 0),(8,sc q 0 4 9),(9,M 4),(10,M 3)] H [b2] (fun x T H'=>(x=(.exit 0)∧T=aP [(2,pt b2 0)]∧(H'.get b2=some (O Bu 112)∧eZ (ad s at_)=false))∨(x=.ret∧∃(z3:Int) (lY:Int) (m9:Int) (zt:ByteArray),T=aP [(2,pt b2 0),(3,M z3)]∧(H'.get b2=some (O [.int .i64 lY,.int .i64 m9,.string zt] 112)∧0≤z3∧at_+z3≤s.size∧qB s at_ lY m9 zt z3))):=by
 refine cN y ?_
 have wh:=y.wf.lt kt
 obtain ⟨dU,gE,dV,oZ,wJ,xM⟩:=aa1 s at_ hs a0 a1
 refine Y 2 (ag 3 DS qN)<|Y 2 (cd p0 pL kb rfl rfl:al E 135 b 0 H=some (.agg (cT s at_).toArray))<|ac 0 (xM y)<|aB 4 (bG e4 rfl rfl rfl rfl:bu E 112 (H.n+0) 0 (.agg (ke dU gE dV).toArray) (Fv H)=some (qR H dU gE dV))<|aD 2 (oZ>0) ?_ ?_ <;> intro h1 q1
 ·obtain ⟨aU,e1⟩:∃ ao,ao=(qS H dU at_ dV).set b2 (O (nl dU at_ dV) 112):=⟨_,rfl⟩
  have c8:aU.n=H.n+1:=by rw [e1,Z.cI,dj] <;> rfl
  have hJ:=bz e1
  exact Y 1 (ag 1 av (y.old kb (iS (ke dU gE dV))))<|aB 1 (bG dK rfl rfl rfl rfl:bu E 3 (H.n+0) 1 (M at_) (qR H dU gE dV)=some (qS H dU at_ dV))<|Y 0 (dt j9 e4 rfl rfl rfl:al E 112 (H.n+0) 0 (qS H dU at_ dV)=some (.agg (nl dU at_ dV).toArray))<|aB 1 (stx 0 (.agg (nl dU at_ dV).toArray) e4 (y.old kt (iS (nl dU at_ dV))) e1)<|c5 1 [(2,pt b2 0),(3,M oZ)] .ret aU [H.n+0,H.n+0,b2] aJ aZ (.inr ⟨rfl,oZ,dU,at_,dV,rfl,⟨hJ,J,J,⟨J,rfl,.inr ⟨hw,wJ.2.2⟩⟩⟩⟩)
 exact dY 2 [(1,pt b 0),(2,pt b2 0),(8,sc q 0 4 9),(9,M 4),(10,M 4)] (qR H dU gE dV) [H.n+0] aJ (aaw b b2 q s at_  (y.news (iS (ke dU gE dV))) (y.old kb (iS (ke dU gE dV))) (y.old kt (iS (ke dU gE dV))) (y.old qN (iS (ke dU gE dV))) hs a0 a1 jD d1 d2 hw)
theorem aau (b:Nat) (b2:Nat) (q:Nat) (s:ByteArray) (at_:Int)  {H:Z} (y:aa E G H) (kb:H.get b=some (O (cT s at_) 135)) (kt:H.get b2=some (O cL 112)) (qN:H.get q=some (O uf 162)) (hs:(s.size:Int)<100000) (a0:0≤at_) (a1:at_<s.size) (jD:G.n≤b2) (d1:b≠b2) (d2:q≠b2) (hw:eZ (ad s at_)=false):bV E G 29 Bs [(1,pt b 0),(2,pt b2 0),(8,sc q 0 4 9),(9,M 4),(10,M 2)] H [b2] (fun x T H'=>(x=(.exit 0)∧T=aP [(2,pt b2 0)]∧(H'.get b2=some (O Bu 112)∧eZ (ad s at_)=false))∨(x=.ret∧∃(z3:Int) (lY:Int) (m9:Int) (zt:ByteArray),T=aP [(2,pt b2 0),(3,M z3)]∧(H'.get b2=some (O [.int .i64 lY,.int .i64 m9,.string zt] 112)∧0≤z3∧at_+z3≤s.size∧qB s at_ lY m9 zt z3))):=by
 refine cN y ?_
 have wh:=y.wf.lt kt
 obtain ⟨dU,gE,dV,oZ,wJ,xM⟩:=aaY s at_ hs a0 a1
 refine Y 2 (ag 2 DS qN)<|Y 2 (cd p0 pL kb rfl rfl:al E 135 b 0 H=some (.agg (cT s at_).toArray))<|ac 0 (xM y)<|aB 4 (bG e4 rfl rfl rfl rfl:bu E 112 (H.n+0) 0 (.agg (ke dU gE dV).toArray) (Fv H)=some (qR H dU gE dV))<|aD 2 (oZ>0) ?_ ?_ <;> intro h1 q1
 ·obtain ⟨aU,e1⟩:∃ ao,ao=(qS H dU at_ dV).set b2 (O (nl dU at_ dV) 112):=⟨_,rfl⟩
  have c8:aU.n=H.n+1:=by rw [e1,Z.cI,dj] <;> rfl
  have hJ:=bz e1
  exact Y 1 (ag 1 av (y.old kb (iS (ke dU gE dV))))<|aB 1 (bG dK rfl rfl rfl rfl:bu E 3 (H.n+0) 1 (M at_) (qR H dU gE dV)=some (qS H dU at_ dV))<|Y 0 (dt j9 e4 rfl rfl rfl:al E 112 (H.n+0) 0 (qS H dU at_ dV)=some (.agg (nl dU at_ dV).toArray))<|aB 1 (stx 0 (.agg (nl dU at_ dV).toArray) e4 (y.old kt (iS (nl dU at_ dV))) e1)<|c5 1 [(2,pt b2 0),(3,M oZ)] .ret aU [H.n+0,H.n+0,b2] aJ aZ (.inr ⟨rfl,oZ,dU,at_,dV,rfl,⟨hJ,J,J,⟨J,rfl,.inr ⟨hw,wJ.2.2⟩⟩⟩⟩)
 exact dY 2 [(1,pt b 0),(2,pt b2 0),(8,sc q 0 4 9),(9,M 4),(10,M 3)] (qR H dU gE dV) [H.n+0] aJ (aav b b2 q s at_  (y.news (iS (ke dU gE dV))) (y.old kb (iS (ke dU gE dV))) (y.old kt (iS (ke dU gE dV))) (y.old qN (iS (ke dU gE dV))) hs a0 a1 jD d1 d2 hw)
theorem aat (b:Nat) (b2:Nat) (q:Nat) (s:ByteArray) (at_:Int)  {H:Z} (y:aa E G H) (kb:H.get b=some (O (cT s at_) 135)) (kt:H.get b2=some (O cL 112)) (qN:H.get q=some (O uf 162)) (hs:(s.size:Int)<100000) (a0:0≤at_) (a1:at_<s.size) (jD:G.n≤b2) (d1:b≠b2) (d2:q≠b2) (hw:eZ (ad s at_)=false):bV E G 29 Bs [(1,pt b 0),(2,pt b2 0),(8,sc q 0 4 9),(9,M 4),(10,M 1)] H [b2] (fun x T H'=>(x=(.exit 0)∧T=aP [(2,pt b2 0)]∧(H'.get b2=some (O Bu 112)∧eZ (ad s at_)=false))∨(x=.ret∧∃(z3:Int) (lY:Int) (m9:Int) (zt:ByteArray),T=aP [(2,pt b2 0),(3,M z3)]∧(H'.get b2=some (O [.int .i64 lY,.int .i64 m9,.string zt] 112)∧0≤z3∧at_+z3≤s.size∧qB s at_ lY m9 zt z3))):=by
 refine cN y ?_
 have wh:=y.wf.lt kt
 obtain ⟨dU,gE,dV,oZ,wJ,xM⟩:=aaW s at_ hs a0 a1
 refine Y 2 (ag 1 DS qN)<|Y 2 (cd p0 pL kb rfl rfl:al E 135 b 0 H=some (.agg (cT s at_).toArray))<|ac 0 (xM y)<|aB 4 (bG e4 rfl rfl rfl rfl:bu E 112 (H.n+0) 0 (.agg (ke dU gE dV).toArray) (Fv H)=some (qR H dU gE dV))<|aD 2 (oZ>0) ?_ ?_ <;> intro h1 q1
 ·obtain ⟨aU,e1⟩:∃ ao,ao=(qS H dU at_ dV).set b2 (O (nl dU at_ dV) 112):=⟨_,rfl⟩
  have c8:aU.n=H.n+1:=by rw [e1,Z.cI,dj] <;> rfl
  have hJ:=bz e1
  exact Y 1 (ag 1 av (y.old kb (iS (ke dU gE dV))))<|aB 1 (bG dK rfl rfl rfl rfl:bu E 3 (H.n+0) 1 (M at_) (qR H dU gE dV)=some (qS H dU at_ dV))<|Y 0 (dt j9 e4 rfl rfl rfl:al E 112 (H.n+0) 0 (qS H dU at_ dV)=some (.agg (nl dU at_ dV).toArray))<|aB 1 (stx 0 (.agg (nl dU at_ dV).toArray) e4 (y.old kt (iS (nl dU at_ dV))) e1)<|c5 1 [(2,pt b2 0),(3,M oZ)] .ret aU [H.n+0,H.n+0,b2] aJ aZ (.inr ⟨rfl,oZ,dU,at_,dV,rfl,⟨hJ,J,J,⟨J,rfl,.inr ⟨hw,wJ.2.2⟩⟩⟩⟩)
 exact dY 2 [(1,pt b 0),(2,pt b2 0),(8,sc q 0 4 9),(9,M 4),(10,M 2)] (qR H dU gE dV) [H.n+0] aJ (aau b b2 q s at_  (y.news (iS (ke dU gE dV))) (y.old kb (iS (ke dU gE dV))) (y.old kt (iS (ke dU gE dV))) (y.old qN (iS (ke dU gE dV))) hs a0 a1 jD d1 d2 hw)
theorem aas (b:Nat) (b2:Nat) (q:Nat) (s:ByteArray) (at_:Int)  {H:Z} (y:aa E G H) (kb:H.get b=some (O (cT s at_) 135)) (kt:H.get b2=some (O cL 112)) (qN:H.get q=some (O uf 162)) (hs:(s.size:Int)<100000) (a0:0≤at_) (a1:at_<s.size) (jD:G.n≤b2) (d1:b≠b2) (d2:q≠b2):bV E G 29 Bs [(1,pt b 0),(2,pt b2 0),(8,sc q 0 4 9),(9,M 4),(10,M 0)] H [b2] (fun x T H'=>(x=(.exit 0)∧T=aP [(2,pt b2 0)]∧(H'.get b2=some (O Bu 112)∧eZ (ad s at_)=false))∨(x=.ret∧∃(z3:Int) (lY:Int) (m9:Int) (zt:ByteArray),T=aP [(2,pt b2 0),(3,M z3)]∧(H'.get b2=some (O [.int .i64 lY,.int .i64 m9,.string zt] 112)∧0≤z3∧at_+z3≤s.size∧qB s at_ lY m9 zt z3))):=by
 refine cN y ?_
 have wh:=y.wf.lt kt
 obtain ⟨dU,gE,dV,oZ,wJ,xM⟩:=aa4 s at_ hs a0 a1
 refine Y 2 (ag 0 DS qN)<|Y 2 (cd p0 pL kb rfl rfl:al E 135 b 0 H=some (.agg (cT s at_).toArray))<|ac 0 (xM y)<|aB 4 (bG e4 rfl rfl rfl rfl:bu E 112 (H.n+0) 0 (.agg (ke dU gE dV).toArray) (Fv H)=some (qR H dU gE dV))<|aD 2 (oZ>0) ?_ ?_ <;> intro h1 q1
 ·obtain ⟨aU,e1⟩:∃ ao,ao=(qS H dU at_ dV).set b2 (O (nl dU at_ dV) 112):=⟨_,rfl⟩
  have c8:aU.n=H.n+1:=by rw [e1,Z.cI,dj] <;> rfl
  have hJ:=bz e1
  exact Y 1 (ag 1 av (y.old kb (iS (ke dU gE dV))))<|aB 1 (bG dK rfl rfl rfl rfl:bu E 3 (H.n+0) 1 (M at_) (qR H dU gE dV)=some (qS H dU at_ dV))<|Y 0 (dt j9 e4 rfl rfl rfl:al E 112 (H.n+0) 0 (qS H dU at_ dV)=some (.agg (nl dU at_ dV).toArray))<|aB 1 (stx 0 (.agg (nl dU at_ dV).toArray) e4 (y.old kt (iS (nl dU at_ dV))) e1)<|c5 1 [(2,pt b2 0),(3,M oZ)] .ret aU [H.n+0,H.n+0,b2] aJ aZ (.inr ⟨rfl,oZ,dU,at_,dV,rfl,⟨hJ,J,J,afy wJ.2.2 J⟩⟩)
 exact dY 2 [(1,pt b 0),(2,pt b2 0),(8,sc q 0 4 9),(9,M 4),(10,M 1)] (qR H dU gE dV) [H.n+0] aJ (aat b b2 q s at_  (y.news (iS (ke dU gE dV))) (y.old kb (iS (ke dU gE dV))) (y.old kt (iS (ke dU gE dV))) (y.old qN (iS (ke dU gE dV))) hs a0 a1 jD d1 d2 (ag1 wJ.2.2 J))
theorem aa3 (s:ByteArray) (at_:Int) {H:Z} (y:aa E G H) (hs:(s.size:Int)<100000) (a0:0≤at_) (a1:at_<s.size):aV E G 86 [.agg (cT s at_).toArray] H [] (fun v H'=>∃(k:Int) (a:Int) (t:ByteArray) (n:Int),v=(.tuple #[.agg #[M k,M a,.string t],M n])∧(0≤n∧at_+n≤s.size∧(n=0∧eZ (ad s at_)=false∨qB s at_ k a t n))):=by
 have g0:=y.n
 refine bB Tryz.f86 y ?_
 obtain ⟨_,_,H1,c1,ak,y1,bE⟩:=(aas (H.n+0) (H.n+1) (H.n+2) s at_ (y.news [O (cT s at_) 135,O cL 112,O uf 162]) (aR [O (cT s at_) 135,O cL 112,O uf 162] H 0 _ rfl) (aR [O (cT s at_) 135,O cL 112,O uf 162] H 1 _ rfl) (aR [O (cT s at_) 135,O cL 112,O uf 162] H 2 _ rfl) hs a0 a1 J J J).code
 rcases bE with ⟨rfl,rfl,rW,aI⟩ |⟨rfl,iK,wV,wT,ig,rfl,rW,aI,gv,Rh⟩
 ·have c8:=ya ak
  obtain ⟨aK,e2⟩:∃ ao,ao=H1.set (H.n+1) (O cL 112):=⟨_,rfl⟩
  have cB:aK.n=H1.n+0:=by rw [e2,Z.cI] <;> rfl
  have jF:=bz e2
  exact bx 6 c1<|aB 1 (stx 0 (.agg (List.toArray cL)) e4 rW e2)<|aE [am 0]<|eV [] ((cd j9 e4 jF rfl rfl):al E 112 (H.n+1) 0 aK=some (.agg (List.toArray cL))) (j5 (M 0))<|fI 0 [.agg (List.toArray cL),M 0] (.tuple #[.agg (List.toArray cL),M 0]) aK [H.n+1,H.n+1] aJ aL ⟨0,0,⟨#[]⟩,0,rfl,J,J,.inl ⟨rfl,aI⟩⟩
 have c8:=ya ak
 exact bx 6 c1<|eV [] ((cd j9 e4 rW rfl rfl):al E 112 (H.n+1) 0 H1=some (.agg #[M wV,M wT,.string ig])) (j5 (M iK))<|fI 0 [.agg #[M wV,M wT,.string ig],M iK] (.tuple #[.agg #[M wV,M wT,.string ig],M iK]) H1 [H.n+1] aJ aL ⟨_,_,_,_,rfl,J,J,.inr Rh⟩
theorem O0 (s:ByteArray) (at_:Int) (hs:(s.size:Int)<100000) (a0:0≤at_) (a1:at_<s.size):∃(k:Int) (a:Int) (t:ByteArray) (n:Int),(0≤n∧at_+n≤s.size∧(n=0∧eZ (ad s at_)=false∨qB s at_ k a t n))∧∀{H:Z},aa E G H→bF E 86 [.agg (cT s at_).toArray] H (.ret (.tuple #[.agg #[M k,M a,.string t],M n])) H []:=by
 obtain ⟨_,_,c,_,_,k,a,t,n,rfl,hs⟩:=aa3 s at_ eH hs a0 a1
 exact ⟨k,a,t,n,hs,fun y=>eh (et rfl) (Dn _ _ _ _) c y⟩
def qs (ts:List (Int×Int×ByteArray)):List Value:=ts.flatMap fun x=>[.int .i64 x.1,.int .i64 x.2.1,.string x.2.2]
theorem GJ:∀ ts,(qs ts).length=3*ts.length
 |[]=>rfl
 |x::ts=>by
  have:=GJ ts
  simp only [qs,List.flatMap_cons,List.length_append,dX,e3] at this ⊢
  omega
theorem afX (ts:List (Int×Int×ByteArray)) (k a:Int) (t:ByteArray):((qs ts).drop 0).take (ts.length*3)++[Value.int .i64 k,.int .i64 a,.string t]=qs (ts++[(k,a,t)]):=by
 rw [List.drop_zero,List.take_of_length_le (by rw [GJ];omega)]
 simp [qs]
theorem afY (ts:List (Int×Int×ByteArray)) (k a:Int) (t:ByteArray):(ts++[(k,a,t)]).length=ts.length+1:=by simp
theorem afu {ts:List (Int×Int×ByteArray)} (h:0<ts.length):∃(k a:Int) (t:ByteArray),Nat.ble (0+3) (qs ts).length=true∧((qs ts).drop 0).take 3=[.int .i64 k,.int .i64 a,.string t]∧ts.head?=some (k,a,t):=by
 cases ts with
 |nil=>cases h
 |cons x ts=>
  refine ⟨x.1,x.2.1,x.2.2,?_,rfl,rfl⟩
  rw [GJ]
  exact Nat.ble_eq_true_of_le (by simp only [dX];omega)
end Go.Proofs.YtglmagcldkngbaaGreatDoor
