/- Part of the proof that CheckTypes answers true. -/
import Derived.Test.YtglmagcldkngbaaGreatDoorQ03
import Derived.Shelf.Pu.Clone
import Derived.Test.YtglmagcldkngbaaGreatDoorQ02
set_option linter.unusedVariables false
set_option linter.unusedSimpArgs false
set_option maxRecDepth 100000
set_option maxHeartbeats 4000000
namespace Go.Proofs.YtglmagcldkngbaaGreatDoor
open Go Go.Am
theorem aa9 (c:Int) {H:Z} (y:aa E G H):aV E G 219 [ab c] H [] (fun v H'=>∃(n:Int),v=(ab n)):=by
 refine bB Tryz.f219 y ?_
 exact af 4 (ab (IntKind.u8.wrap ((BitVec.ofInt 8 c |||BitVec.ofInt 8 32).toNat:Int))) H ⟨_,rfl⟩
theorem lower (c:Int):∃(n:Int),∀{H:Z},aa E G H→bF E 219 [ab c] H (.ret (ab n)) H []:=by
 obtain ⟨_,_,c,_,_,n,rfl⟩:=aa9 c eH
 exact ⟨n,fun y=>eh (et rfl) (.ground rfl) c y⟩
noncomputable def Ur:Code:=cw [1,1,1,1,1,1,1,1,0,0,0] (cx Tryz.f206)
theorem aac (a:Nat) (s:ByteArray) (neg:Bool):∀(m:Nat) (ah:Int) (bD:Bool) (bg:Bool) (ds:List Int) (nd:Int) (dp:Int) (aT:Bool) (H:Z),aa E G H→(ka:H.get a=some (O (cQ ds nd dp neg aT) 281))→(h:ll ds nd dp ah)→(hs:(s.size:Int)≤300)→(i0:0≤ah)→(i1:ah≤s.size)→(cU:G.n≤a)→((s.size:Int)-ah).toNat=m→
  bV E G 224 Ur [(0,pt a 0),(1,.string s),(4,U),(5,M ah),(6,.bool bD),(7,.bool bg)] H [a] (fun x T H'=>(x=(.exit 1)∧∃(z5:Int) (nF j6:Bool) (ic:List Int) (ie ja:Int) (zt:Bool),T=aP [(0,pt a 0),(1,.string s),(4,U),(5,M z5),(6,.bool nF),(7,.bool j6)]∧(H'.get a=some (O (cQ ic ie ja neg zt) 281)∧ll ic ie ja z5∧0≤z5∧z5≤s.size))∨(x=.ret∧T=aP [(4,U)])):=by
 refine dJ fun m ih=>?_
 intro ah bD bg ds nd dp aT H y ka h hs i0 i1 cU hm
 have n0:=h.n0
 have qj:=h.qj
 have d0:=h.d0
 have d1:=h.d1
 refine cN y ?_
 have rY:=y.wf.lt ka
 refine aD 3 (ah<(s.size:Int)) ?_ ?_ <;> intro h1 q1
 ·refine aG 2 ah (s.size:Int)<|aY 0 (ad s ah) 95 ?_ ?_ <;> intro h2 cv
  ·exact aH 2 (ah+1)<|du 1 [(0,pt a 0),(1,.string s),(4,U),(5,M (ah+1)),(6,.bool bD),(7,.bool bg)] H (ih _ J (ah+1) bD bg ds nd dp aT _ y ka h.skip hs J J cU rfl)
  refine aG 3 ah (s.size:Int)<|aY 0 (ad s ah) 46 ?_ ?_ <;> intro h3 cY
  ·cases bD with
   |true=>
    exact c5 2 [(4,U)] .ret H [] aL aZ (.inr ⟨rfl,rfl⟩)
   |false=>
    obtain ⟨aU,e1⟩:∃ ao,ao=H.set a (O (cQ ds nd nd neg aT) 281):=⟨_,rfl⟩
    have y1:aa E G aU:=e1▸y.set _ J J
    have fh:=bz e1
    exact aE [am 6]<|az [bw (M nd) H] (it h.len ka)<|aB 2 (te (qG h.len ka) e1)<|aH 1 (ah+1)<|dY 1 [(0,pt a 0),(1,.string s),(4,U),(5,M (ah+1)),(6,aw),(7,.bool bg)] aU [a] aW (ih _ J (ah+1) true bg ds nd nd aT _ y1 fh h.dot hs J J cU rfl)
  refine aG 3 ah (s.size:Int)<|aD 0 (48≤(ad s ah)) ?_ ?_ <;> intro h4 cO
  ·refine aG 3 ah (s.size:Int)<|aD 0 ((ad s ah)≤57) ?_ ?_ <;> intro h5 dc
   ·refine aG 5 ah (s.size:Int)<|aY 0 (ad s ah) 48 ?_ ?_ <;> intro h6 di
    ·refine aE [am 3]<|az [bw (M nd) H] (it h.len ka)<|aY 0 nd 0 ?_ ?_ <;> intro h7 gM
     ·obtain ⟨aU,e1⟩:∃ ao,ao=H.set a (O (cQ ds nd (dp-1) neg aT) 281):=⟨_,rfl⟩
      have y1:aa E G aU:=e1▸y.set _ J J
      have fh:=bz e1
      exact aE [am 3]<|az [bw (M dp) H] (jN h.len ka)<|aH 0 (dp-1)<|aB 2 (te (qG h.len ka) e1)<|aH 1 (ah+1)<|dY 1 [(0,pt a 0),(1,.string s),(4,U),(5,M (ah+1)),(6,.bool bD),(7,aw)] aU [a] aW (ih _ J (ah+1) bD true ds nd (dp-1) aT _ y1 fh h.lead hs J J cU rfl)
     refine aE [am 3]<|az [bw (M nd) H] (it h.len ka)<|aD 0 (nd<800) ?_ ?_ <;> intro h8 lT
     ·obtain ⟨aU,e1⟩:∃ ao,ao=H.set a (O (cQ (ds.set nd.toNat (ad s ah)) nd dp neg aT) 281):=⟨_,rfl⟩
      have y1:aa E G aU:=e1▸y.set _ J J
      have c8:aU.n=H.n+0:=by rw [e1,Z.cI] <;> rfl
      have fh:=bz e1
      obtain ⟨aK,e2⟩:∃ ao,ao=aU.set a (O (cQ (ds.set nd.toNat (ad s ah)) (nd+1) dp neg aT) 281):=⟨_,rfl⟩
      have ar:aa E G aK:=e2▸y1.set _ J J
      have mO:=bz e2
      exact aE [am 3]<|az [bw (M nd) H] (it h.len ka)<|aG 2 ah (s.size:Int)<|aG 2 nd (800:Int)<|aB 0 (te (zw h.len ka J J) e1)<|az [] (dO y ka:cK H aU [a]=true)<|aE [am 2]<|az [bw (M nd) aU] (it (ui h.len) fh)<|aH 0 (nd+1)<|aB 2 (te (vL (ui h.len) fh) e2)<|aH 1 (ah+1)<|dY 1 [(0,pt a 0),(1,.string s),(4,U),(5,M (ah+1)),(6,.bool bD),(7,aw)] aK [a,a] aW (ih _ J (ah+1) bD true (ds.set nd.toNat (ad s ah)) (nd+1) dp aT _ ar mO (h.digit J J J J) hs J J cU rfl)
     refine aG 2 ah (s.size:Int)<|d7 0 (ad s ah) 48 ?_ ?_ <;> intro h9 oQ
     ·obtain ⟨aU,e1⟩:∃ ao,ao=H.set a (O (cQ ds nd dp neg true) 281):=⟨_,rfl⟩
      have y1:aa E G aU:=e1▸y.set _ J J
      have fh:=bz e1
      exact aB 3 (te (BA h.len ka) e1)<|aH 1 (ah+1)<|dY 1 [(0,pt a 0),(1,.string s),(4,U),(5,M (ah+1)),(6,.bool bD),(7,aw)] aU [a] aW (ih _ J (ah+1) bD true ds nd dp true _ y1 fh h.skip hs J J cU rfl)
     exact aH 1 (ah+1)<|du 1 [(0,pt a 0),(1,.string s),(4,U),(5,M (ah+1)),(6,.bool bD),(7,aw)] H (ih _ J (ah+1) bD true ds nd dp aT _ y ka h.skip hs J J cU rfl)
    refine aE [am 4]<|az [bw (M nd) H] (it h.len ka)<|aD 0 (nd<800) ?_ ?_ <;> intro h7 gM
    ·obtain ⟨aU,e1⟩:∃ ao,ao=H.set a (O (cQ (ds.set nd.toNat (ad s ah)) nd dp neg aT) 281):=⟨_,rfl⟩
     have y1:aa E G aU:=e1▸y.set _ J J
     have c8:aU.n=H.n+0:=by rw [e1,Z.cI] <;> rfl
     have fh:=bz e1
     obtain ⟨aK,e2⟩:∃ ao,ao=aU.set a (O (cQ (ds.set nd.toNat (ad s ah)) (nd+1) dp neg aT) 281):=⟨_,rfl⟩
     have ar:aa E G aK:=e2▸y1.set _ J J
     have mO:=bz e2
     exact aE [am 3]<|az [bw (M nd) H] (it h.len ka)<|aG 2 ah (s.size:Int)<|aG 2 nd (800:Int)<|aB 0 (te (zw h.len ka J J) e1)<|az [] (dO y ka:cK H aU [a]=true)<|aE [am 2]<|az [bw (M nd) aU] (it (ui h.len) fh)<|aH 0 (nd+1)<|aB 2 (te (vL (ui h.len) fh) e2)<|aH 1 (ah+1)<|dY 1 [(0,pt a 0),(1,.string s),(4,U),(5,M (ah+1)),(6,.bool bD),(7,aw)] aK [a,a] aW (ih _ J (ah+1) bD true (ds.set nd.toNat (ad s ah)) (nd+1) dp aT _ ar mO (h.digit J J J J) hs J J cU rfl)
    refine aG 2 ah (s.size:Int)<|d7 0 (ad s ah) 48 ?_ ?_ <;> intro h8 lT
    ·obtain ⟨aU,e1⟩:∃ ao,ao=H.set a (O (cQ ds nd dp neg true) 281):=⟨_,rfl⟩
     have y1:aa E G aU:=e1▸y.set _ J J
     have fh:=bz e1
     exact aB 3 (te (BA h.len ka) e1)<|aH 1 (ah+1)<|dY 1 [(0,pt a 0),(1,.string s),(4,U),(5,M (ah+1)),(6,.bool bD),(7,aw)] aU [a] aW (ih _ J (ah+1) bD true ds nd dp true _ y1 fh h.skip hs J J cU rfl)
    exact aH 1 (ah+1)<|du 1 [(0,pt a 0),(1,.string s),(4,U),(5,M (ah+1)),(6,.bool bD),(7,aw)] H (ih _ J (ah+1) bD true ds nd dp aT _ y ka h.skip hs J J cU rfl)
   exact c5 2 [(0,pt a 0),(1,.string s),(4,U),(5,M ah),(6,.bool bD),(7,.bool bg)] (.exit 1) H [] aL aZ (.inl ⟨rfl,ah,bD,bg,ds,nd,dp,aT,rfl,⟨ka,h,i0,i1⟩⟩)
  exact c5 3 [(0,pt a 0),(1,.string s),(4,U),(5,M ah),(6,.bool bD),(7,.bool bg)] (.exit 1) H [] aL aZ (.inl ⟨rfl,ah,bD,bg,ds,nd,dp,aT,rfl,⟨ka,h,i0,i1⟩⟩)
 exact c5 0 [(0,pt a 0),(1,.string s),(4,U),(5,M ah),(6,.bool bD),(7,.bool bg)] (.exit 1) H [] aL aZ (.inl ⟨rfl,ah,bD,bg,ds,nd,dp,aT,rfl,⟨ka,h,i0,i1⟩⟩)
noncomputable def Us:Code:=cw [1,1,1,1,1,1,1,1,1,1,1,0,1,0,1,1,1,1,1,1,0,0,0] (cx Tryz.f206)
theorem Jw (a:Nat) (s:ByteArray) (es:Int):∀(m:Nat) (ah:Int) (fA:Int) (H:Z),aa E G H→(hs:(s.size:Int)≤300)→(i0:0≤ah)→(i1:ah≤s.size)→(e0:0≤fA)→(e1:fA≤200000)→((s.size:Int)-ah).toNat=m→
  bV E G 224 Us [(0,pt a 0),(1,.string s),(4,U),(5,M ah),(8,M es),(9,M fA)] H [] (fun x T H'=>(x=(.exit 5)∧∃(z5:Int) (z9:Int),T=aP [(0,pt a 0),(1,.string s),(4,U),(5,M z5),(8,M es),(9,M z9)]∧((0≤z5)∧(z5≤s.size)∧(0≤z9)∧(z9≤200000)))):=by
 refine dJ fun m ih=>?_
 intro ah fA H y hs i0 i1 e0 e1 hm
 have b7:=jl s ah
 have bj:=jc s ah
 refine cN y ?_
 refine aD 3 (ah<(s.size:Int)) ?_ ?_ <;> intro h1 q1
 ·refine aG 3 ah (s.size:Int)<|aD 0 (48≤(ad s ah)) ?_ ?_ <;> intro h2 cv
  ·refine aG 3 ah (s.size:Int)<|aD 0 ((ad s ah)≤57) ?_ ?_ <;> intro h3 cY
   ·refine aG 6 ah (s.size:Int)<|aY 0 (ad s ah) 95 ?_ ?_ <;> intro h4 cO
    ·exact aH 1 (ah+1)<|du 1 [(0,pt a 0),(1,.string s),(4,U),(5,M (ah+1)),(8,M es),(9,M fA)] H (ih _ J (ah+1) fA _ y hs J J J J rfl)
    refine aD 1 (fA<10000) ?_ ?_ <;> intro h5 dc
    ·exact aH 1 (fA*10)<|aG 2 ah (s.size:Int)<|aH 0 (ad s ah)<|aH 0 ((fA*10)+(ad s ah))<|aH 0 (((fA*10)+(ad s ah))-48)<|aH 2 (ah+1)<|du 1 [(0,pt a 0),(1,.string s),(4,U),(5,M (ah+1)),(8,M es),(9,M (((fA*10)+(ad s ah))-48))] H (ih _ J (ah+1) (((fA*10)+(ad s ah))-48) _ y hs J J J J rfl)
    exact aH 1 (ah+1)<|du 1 [(0,pt a 0),(1,.string s),(4,U),(5,M (ah+1)),(8,M es),(9,M fA)] H (ih _ J (ah+1) fA _ y hs J J J J rfl)
   refine aG 4 ah (s.size:Int)<|aY 0 (ad s ah) 95 ?_ ?_ <;> intro h4 cO
   ·exact aG 4 ah (s.size:Int)<|ay 0 h4<|aH 1 (ah+1)<|du 1 [(0,pt a 0),(1,.string s),(4,U),(5,M (ah+1)),(8,M es),(9,M fA)] H (ih _ J (ah+1) fA _ y hs J J J J rfl)
   exact cF 2 [(0,pt a 0),(1,.string s),(4,U),(5,M ah),(8,M es),(9,M fA)] (.exit 5) H ⟨rfl,ah,fA,rfl,⟨J,J,J,J⟩⟩
  refine aG 5 ah (s.size:Int)<|aY 0 (ad s ah) 95 ?_ ?_ <;> intro h3 cY
  ·exact aG 4 ah (s.size:Int)<|ay 0 h3<|aH 1 (ah+1)<|du 1 [(0,pt a 0),(1,.string s),(4,U),(5,M (ah+1)),(8,M es),(9,M fA)] H (ih _ J (ah+1) fA _ y hs J J J J rfl)
  exact cF 2 [(0,pt a 0),(1,.string s),(4,U),(5,M ah),(8,M es),(9,M fA)] (.exit 5) H ⟨rfl,ah,fA,rfl,⟨J,J,J,J⟩⟩
 exact cF 2 [(0,pt a 0),(1,.string s),(4,U),(5,M ah),(8,M es),(9,M fA)] (.exit 5) H ⟨rfl,ah,fA,rfl,⟨J,J,J,J⟩⟩
noncomputable def Vg:Code:=cw [1,1,1,1,1,1,1,1,1,1,1,0] (cx Tryz.f206)
theorem Qh (a:Nat) (s:ByteArray) (neg:Bool) (ah:Int) (ds:List Int) (nd:Int) (dp:Int) (aT:Bool) {H:Z} (y:aa E G H) (ka:H.get a=some (O (cQ ds nd dp neg aT) 281)) (h:ll ds nd dp ah) (hs:(s.size:Int)≤300) (i0:0≤ah) (i1:ah≤s.size) (cU:G.n≤a) :
  jL E G 224 Vg [(0,pt a 0),(1,.string s),(4,U),(5,M ah)] H [a] (fun x T H'=>(x=.normal∧∃(z5 ja:Int),T=aP [(1,.string s),(4,U),(5,M z5)]∧(H'.get a=some (O (cQ ds nd ja neg aT) 281)∧-500000≤ja∧ja≤500000))∨(x=.ret∧T=aP [(4,U)])):=by
 have d0:=h.d0
 have d1:=h.d1
 refine mq y ?_
 have rY:=y.wf.lt ka
 refine aD 3 (ah<(s.size:Int)) ?_ ?_ <;> intro h1 q1
 ·obtain ⟨x7,BZ⟩:=lower (ad s ah)
  refine aG 3 ah (s.size:Int)<|ac 0 (BZ y)<|aY 0 x7 101 ?_ ?_ <;> intro h2 cv
  ·refine aH 2 (ah+1)<|aD 4 ((ah+1)≥(s.size:Int)) ?_ ?_ <;> intro h3 cY
   ·exact i8 0 [(4,U)] .ret H [] aL aZ (.inr ⟨rfl,rfl⟩)
   refine aG 3 (ah+1) (s.size:Int)<|aY 0 (ad s (ah+1)) 43 ?_ ?_ <;> intro h4 cO
   ·refine aH 2 ((ah+1)+1)<|aD 4 (((ah+1)+1)≥(s.size:Int)) ?_ ?_ <;> intro h5 dc
    ·exact i8 4 [(4,U)] .ret H [] aL aZ (.inr ⟨rfl,rfl⟩)
    refine aG 3 ((ah+1)+1) (s.size:Int)<|aD 0 ((ad s ((ah+1)+1))<48) ?_ ?_ <;> intro h6 di
    ·exact i8 3 [(4,U)] .ret H [] aL aZ (.inr ⟨rfl,rfl⟩)
    refine aG 4 ((ah+1)+1) (s.size:Int)<|aD 0 ((ad s ((ah+1)+1))>57) ?_ ?_ <;> intro h7 gM
    ·exact i8 1 [(4,U)] .ret H [] aL aZ (.inr ⟨rfl,rfl⟩)
    obtain ⟨_,_,H1,c1,ak,y1,rfl,iL,pR,rfl,aI,gv,j3,pI⟩:=(Jw a s 1 _ ((ah+1)+1) 0 _ y hs J J J J rfl).code
    have c8:H.n+0≤H1.n:=ak.n
    have fh:=y.kept ak aq ka
    obtain ⟨aK,e2⟩:∃ ao,ao=H1.set a (O (cQ ds nd (dp+(pR*1)) neg aT) 281):=⟨_,rfl⟩
    have mO:=bz e2
    exact bx 2 c1<|aE [am 2]<|az [bw (M dp) H1] (jN h.len fh)<|aH 2 (pR*1)<|aH 0 (dp+(pR*1))<|aB 2 (te (qG h.len fh) e2)<|i8 0 [(1,.string s),(4,U),(5,M iL)] .normal aK [a] aW aZ (.inl ⟨rfl,iL,dp+(pR*1),rfl,⟨mO,J,J⟩⟩)
   refine aY 1 (ad s (ah+1)) 45 ?_ ?_ <;> intro h5 dc
   ·refine aH 2 ((ah+1)+1)<|aD 5 (((ah+1)+1)≥(s.size:Int)) ?_ ?_ <;> intro h6 di
    ·exact i8 4 [(4,U)] .ret H [] aL aZ (.inr ⟨rfl,rfl⟩)
    refine aG 3 ((ah+1)+1) (s.size:Int)<|aD 0 ((ad s ((ah+1)+1))<48) ?_ ?_ <;> intro h7 gM
    ·exact i8 3 [(4,U)] .ret H [] aL aZ (.inr ⟨rfl,rfl⟩)
    refine aG 4 ((ah+1)+1) (s.size:Int)<|aD 0 ((ad s ((ah+1)+1))>57) ?_ ?_ <;> intro h8 lT
    ·exact i8 1 [(4,U)] .ret H [] aL aZ (.inr ⟨rfl,rfl⟩)
    obtain ⟨_,_,H1,c1,ak,y1,rfl,iL,pR,rfl,aI,gv,j3,pI⟩:=(Jw a s (-1) _ ((ah+1)+1) 0 _ y hs J J J J rfl).code
    have c8:H.n+0≤H1.n:=ak.n
    have fh:=y.kept ak aq ka
    obtain ⟨aK,e2⟩:∃ ao,ao=H1.set a (O (cQ ds nd (dp+(pR*(-1))) neg aT) 281):=⟨_,rfl⟩
    have mO:=bz e2
    exact bx 2 c1<|aE [am 2]<|az [bw (M dp) H1] (jN h.len fh)<|aH 2 (pR*(-1))<|aH 0 (dp+(pR*(-1)))<|aB 2 (te (qG h.len fh) e2)<|i8 0 [(1,.string s),(4,U),(5,M iL)] .normal aK [a] aW aZ (.inl ⟨rfl,iL,dp+(pR*(-1)),rfl,⟨mO,J,J⟩⟩)
   refine ay 4 h3<|aG 3 (ah+1) (s.size:Int)<|aD 0 ((ad s (ah+1))<48) ?_ ?_ <;> intro h6 di
   ·exact i8 3 [(4,U)] .ret H [] aL aZ (.inr ⟨rfl,rfl⟩)
   refine aG 4 (ah+1) (s.size:Int)<|aD 0 ((ad s (ah+1))>57) ?_ ?_ <;> intro h7 gM
   ·exact i8 1 [(4,U)] .ret H [] aL aZ (.inr ⟨rfl,rfl⟩)
   obtain ⟨_,_,H1,c1,ak,y1,rfl,iL,pR,rfl,aI,gv,j3,pI⟩:=(Jw a s 1 _ (ah+1) 0 _ y hs J J J J rfl).code
   have c8:H.n+0≤H1.n:=ak.n
   have fh:=y.kept ak aq ka
   obtain ⟨aK,e2⟩:∃ ao,ao=H1.set a (O (cQ ds nd (dp+(pR*1)) neg aT) 281):=⟨_,rfl⟩
   have mO:=bz e2
   exact bx 2 c1<|aE [am 2]<|az [bw (M dp) H1] (jN h.len fh)<|aH 2 (pR*1)<|aH 0 (dp+(pR*1))<|aB 2 (te (qG h.len fh) e2)<|i8 0 [(1,.string s),(4,U),(5,M iL)] .normal aK [a] aW aZ (.inl ⟨rfl,iL,dp+(pR*1),rfl,⟨mO,J,J⟩⟩)
  exact i8 1 [(1,.string s),(4,U),(5,M ah)] .normal H [] aL aZ (.inl ⟨rfl,ah,dp,rfl,⟨ka,J,J⟩⟩)
 exact i8 2 [(1,.string s),(4,U),(5,M ah)] .normal H [] aL aZ (.inl ⟨rfl,ah,dp,rfl,⟨ka,J,J⟩⟩)
noncomputable def Vf:Code:=cw [1,1,1,1,1,0] (cx Tryz.f206)
theorem acv (a:Nat) (s:ByteArray)  {H:Z} (y:aa E G H) (ka:H.get a=some (O (cQ (List.replicate 800 0) 0 0 false false) 281)) (hs:0<(s.size:Int)) (cU:G.n≤a) :
  jL E G 224 Vf [(0,pt a 0),(1,.string s),(4,U),(5,M 0)] H [a] (fun x T H'=>(x=.normal∧∃(z5:Int) (ahw:Bool),T=aP [(0,pt a 0),(1,.string s),(4,U),(5,M z5)]∧(H'.get a=some (O (cQ (List.replicate 800 0) 0 0 ahw false) 281)∧0≤z5∧z5≤s.size))):=by
 refine mq y ?_
 have rY:=y.wf.lt ka
 refine aG 2 (0:Int) (s.size:Int)<|aY 0 (ad s 0) 43 ?_ ?_ <;> intro h1 q1
 ·exact i8 4 [(0,pt a 0),(1,.string s),(4,U),(5,M 1)] .normal H [] aL aZ ⟨rfl,1,false,rfl,⟨ka,J,J⟩⟩
 refine aY 1 (ad s 0) 45 ?_ ?_ <;> intro h2 cv
 ·obtain ⟨aU,e1⟩:∃ ao,ao=H.set a (O (cQ (List.replicate 800 0) 0 0 true false) 281):=⟨_,rfl⟩
  have fh:=bz e1
  exact aB 7 (te (Nw List.length_replicate ka) e1)<|i8 0 [(0,pt a 0),(1,.string s),(4,U),(5,M 1)] .normal aU [a] aW aZ ⟨rfl,1,true,rfl,⟨fh,J,J⟩⟩
 exact i8 1 [(0,pt a 0),(1,.string s),(4,U),(5,M 0)] .normal H [] aL aZ ⟨rfl,0,false,rfl,⟨ka,J,J⟩⟩
theorem VY (a:Nat) (s:ByteArray) {H:Z} (y:aa E G H) (ka:H.get a=some (O (cQ (List.replicate 800 0) 0 0 false false) 281)) (cU:G.n≤a) (hs:(s.size:Int)≤300):aV E G 206 [pt a 0,.string s] H [a] (fun v H'=>v=U∨∃(ds:List Int) (nd dp:Int) (neg aT:Bool),v=aw∧H'.get a=some (O (cQ ds nd dp neg aT) 281)∧ds.length=800∧(nd=0∨jM ds nd)∧-500000≤dp∧dp≤500000):=by
 refine bB Tryz.f206 y ?_
 have rY:=y.wf.lt ka
 obtain ⟨aU,e1⟩:∃ ao,ao=H.set a (O (cQ (List.replicate 800 0) 0 0 false false) 281):=⟨_,rfl⟩
 have y1:aa E G aU:=e1▸y.set _ J J
 have c8:aU.n=H.n+0:=by rw [e1,Z.cI] <;> rfl
 have fh:=bz e1
 obtain ⟨aK,e2⟩:∃ ao,ao=aU.set a (O (cQ (List.replicate 800 0) 0 0 false false) 281):=⟨_,rfl⟩
 have ar:aa E G aK:=e2▸y1.set _ J J
 have cB:aK.n=aU.n+0:=by rw [e2,Z.cI] <;> rfl
 have mO:=bz e2
 refine aB 5 (te (Nw List.length_replicate ka) e1)<|aB 3 (te (BA List.length_replicate fh) e2)<|aD 3 (0≥(s.size:Int)) ?_ ?_ <;> intro h1 q1
 ·exact bf 0 U aK [a,a] aW aZ (.inl rfl)
 obtain ⟨_,_,H3,c3,bq,aM,rfl,li,GX,rfl,Cs,ky,Gn⟩:=acv a s  ar mO J cU
 have ek:aK.n+0≤H3.n:=bq.n
 obtain ⟨_,_,H4,eg,ee,cu,jr⟩:=(aac a s GX _ li false false (List.replicate 800 0) 0 0 false _ aM Cs (.init J) hs J J cU rfl).code
 refine gi 0 3 c3<|?_
 rcases jr with ⟨rfl,yP,ahk,nG,wU,tX,Sp,A9,rfl,Ju,lK,lh,tM⟩ |⟨rfl,rfl⟩
 ·have gm:H3.n+0≤H4.n:=ee.n
  have ajH:=lK.n0
  have ajI:=lK.qj
  have ajE:=lK.d0
  have ajF:=lK.d1
  refine bx 2 eg<|?_
  cases nG with
  |true=>
   cases ahk with
   |true=>
    have hE:ll wU tX Sp yP:=⟨lK.len,lK.lH,lK.n0,lK.qj,lK.kQ,J,J⟩
    obtain ⟨_,_,H5,fF,ej,dQ,ny⟩:=Qh a s GX yP wU tX Sp A9 cu Ju hE hs J J cU
    refine aE [am 3]<|?_
    rcases ny with ⟨rfl,ahh,ajJ,rfl,ZS,se,KU⟩ |⟨rfl,rfl⟩
    ·refine gi 0 3 fF<|d7 3 ahh (s.size:Int) ?_ ?_ <;> intro h6 di
     ·exact bf 0 U H5 (vc a) aW aZ (.inl rfl)
     exact bf 1 aw H5 (vc a) aW aZ (.inr ⟨_,_,_,_,_,rfl,ZS,(lK.ok J).1,(lK.ok J).2,se,KU⟩)
    exact gi 0 3 fF<|bf 0 U H5 (vc a) aW aZ (.inl rfl)
   |false=>
    obtain ⟨d6,bJ⟩:∃ ao,ao=H4.set a (O (cQ wU tX tX GX A9) 281):=⟨_,rfl⟩
    have dQ:aa E G d6:=bJ▸cu.set _ J J
    have qg:=bz bJ
    have hE:ll wU tX tX yP:=⟨lK.len,lK.lH,lK.n0,lK.qj,lK.kQ,J,J⟩
    obtain ⟨_,_,gF,jd,iW,gN,ab6⟩:=Qh a s GX yP wU tX tX A9 dQ qg hE hs J J cU
    refine aE [am 7]<|az [bw (M tX) H4] (it lK.len Ju)<|aB 2 (te (qG lK.len Ju) bJ)<|?_
    rcases ab6 with ⟨rfl,ahi,ajK,rfl,ZT,aez,aeB⟩ |⟨rfl,rfl⟩
    ·refine gi 0 1 jd<|d7 3 ahi (s.size:Int) ?_ ?_ <;> intro h6 di
     ·exact bf 0 U gF (C9 a) aW aZ (.inl rfl)
     exact bf 1 aw gF (C9 a) aW aZ (.inr ⟨_,_,_,_,_,rfl,ZT,(lK.ok J).1,(lK.ok J).2,aez,aeB⟩)
    exact gi 0 1 jd<|bf 0 U gF (C9 a) aW aZ (.inl rfl)
  |false=>
   exact bf 2 U H4 (Q0 a) aW aZ (.inl rfl)
 exact bx 2 eg<|bf 0 U H4 (Q0 a) aW aZ (.inl rfl)
theorem abb:((List.range 256).all fun n=>n==88||n==120||!(IntKind.u8.wrap (((BitVec.ofInt 8 (n:Int) |||BitVec.ofInt 8 32).toNat:Nat):Int)==120))=true:=an
theorem aba {c:Int} (h0:0≤c) (h1:c<256) (h2:c≠88) (h3:c≠120):IntKind.u8.wrap (((BitVec.ofInt 8 c |||BitVec.ofInt 8 32).toNat:Nat):Int)≠120:=by
 have:=List.all_eq_true.1 abb c.toNat (by simp;omega)
 rw [show (c.toNat:Int)=c by omega] at this
 simp only [Bool.or_eq_true,beq_iff_eq,Bool.not_eq_true',beq_eq_false_iff_ne,ne_eq] at this
 rcases this with (e |e) |e
 ·omega
 ·omega
 ·exact e
def sA (s:ByteArray):Prop:=∀ i:Int,0≤i→i<s.size→Pl (ad s i)
theorem Pl.Aq {c:Int} (h:Pl c):c≠95∧c≠88∧c≠120:=by unfold Pl at h;omega
theorem aa8 (c:Int) {H:Z} (y:aa E G H):aV E G 219 [ab c] H [] (fun v H'=>∃(n:Int),v=(ab n)∧(0≤c→c<256→c≠88→c≠120→n≠120)):=by
 refine bB Tryz.f219 y ?_
 exact af 4 (ab (IntKind.u8.wrap ((BitVec.ofInt 8 c |||BitVec.ofInt 8 32).toNat:Int))) H ⟨_,rfl,aba⟩
theorem O7 (c:Int):∃(n:Int),(0≤c→c<256→c≠88→c≠120→n≠120)∧∀{H:Z},aa E G H→bF E 219 [ab c] H (.ret (ab n)) H []:=by
 obtain ⟨_,_,c,_,_,n,rfl,hs⟩:=aa8 c eH
 exact ⟨n,hs,fun y=>eh (et rfl) (.ground rfl) c y⟩
noncomputable def Vc:Code:=cw [1,0,1,1,0] (cx Tryz.f200)
theorem acs (s:ByteArray)  {H:Z} (y:aa E G H) (hs:0<(s.size:Int)) :
  jL E G 253 Vc [(0,.string s),(2,ap 0),(3,M 0),(4,U),(5,U),(6,U),(7,M 0),(8,U),(9,U)] H [] (fun x T H'=>(x=.normal∧∃(z4:Bool) (j6:Int),T=aP [(0,.string s),(2,ap 0),(3,M 0),(4,.bool z4),(5,U),(6,U),(7,M j6),(8,U),(9,U)]∧((0≤j6)∧(j6≤1)∧(j6≤s.size)))):=by
 refine mq y ?_
 refine aG 2 (0:Int) (s.size:Int)<|aY 0 (ad s 0) 43 ?_ ?_ <;> intro h1 q1
 ·exact cM 4 [(0,.string s),(2,ap 0),(3,M 0),(4,U),(5,U),(6,U),(7,M 1),(8,U),(9,U)] .normal H ⟨rfl,false,1,rfl,⟨J,J,J⟩⟩
 refine aY 1 (ad s 0) 45 ?_ ?_ <;> intro h2 cv
 ·exact cM 5 [(0,.string s),(2,ap 0),(3,M 0),(4,aw),(5,U),(6,U),(7,M 1),(8,U),(9,U)] .normal H ⟨rfl,true,1,rfl,⟨J,J,J⟩⟩
 exact cM 1 [(0,.string s),(2,ap 0),(3,M 0),(4,U),(5,U),(6,U),(7,M 0),(8,U),(9,U)] .normal H ⟨rfl,false,0,rfl,⟨J,J,J⟩⟩
noncomputable def Vd:Code:=cw [1,0,1,1,1,1,1,1,0] (cx Tryz.f200)
theorem acu (s:ByteArray) (neg:Bool) (bg:Int) {H:Z} (y:aa E G H) (gL:sA s) (hs:(s.size:Int)≤300) (i0:0≤bg) (i1:bg≤1) :
  jL E G 253 Vd [(0,.string s),(2,ap 0),(3,M 0),(4,.bool neg),(5,U),(6,U),(7,M bg),(8,U),(9,U),(10,ap 10),(11,M 19),(12,ab 101)] H [] (fun x T H'=>(x=.normal∧T=aP [(0,.string s),(2,ap 0),(3,M 0),(4,.bool neg),(5,U),(6,U),(7,M bg),(8,U),(9,U),(10,ap 10),(11,M 19),(12,ab 101)])):=by
 refine mq y ?_
 refine aH 1 (bg+2)<|aD 2 ((bg+2)<(s.size:Int)) ?_ ?_ <;> intro h1 q1
 ·refine aG 3 bg (s.size:Int)<|aY 0 (ad s bg) 48 ?_ ?_ <;> intro h2 cv
  ·obtain ⟨x7,hx1,BZ⟩:=O7 (ad s (bg+1))
   exact aH 4 (bg+1)<|aG 0 (bg+1) (s.size:Int)<|ac 0 (BZ y)<|ay 0 (beq_false_of_ne (hx1 (jl _ _) (jc _ _) (gL _ J J).Aq.2.1 (gL _ J J).Aq.2.2):(x7==120)=false)<|cM 1 [(0,.string s),(2,ap 0),(3,M 0),(4,.bool neg),(5,U),(6,U),(7,M bg),(8,U),(9,U),(10,ap 10),(11,M 19),(12,ab 101)] .normal H ⟨rfl,rfl⟩
  exact cM 3 [(0,.string s),(2,ap 0),(3,M 0),(4,.bool neg),(5,U),(6,U),(7,M bg),(8,U),(9,U),(10,ap 10),(11,M 19),(12,ab 101)] .normal H ⟨rfl,rfl⟩
 exact cM 4 [(0,.string s),(2,ap 0),(3,M 0),(4,.bool neg),(5,U),(6,U),(7,M bg),(8,U),(9,U),(10,ap 10),(11,M 19),(12,ab 101)] .normal H ⟨rfl,rfl⟩
noncomputable def Up:Code:=cw [1,0,1,1,1,1,1,1,1,1,1,1,1,1,1,0,0,0] (cx Tryz.f200)
theorem aab (s:ByteArray) (neg:Bool):∀(m:Nat) (aC:Int) (ah:Bool) (bg:Int) (fJ:Bool) (rf:Bool) (iH:Int) (iV:Int) (gd:Int) (H:Z),aa E G H→(gL:sA s)→(hs:(s.size:Int)≤300)→(i0:0≤bg)→(i1:bg≤s.size)→(m0:0≤aC∧aC<18446744073709551616)→(n0:0≤iH)→(n1:iH≤bg)→(k0:0≤iV)→(k1:iV≤bg)→(d0:-bg≤gd)→(d1:gd≤bg)→((s.size:Int)-bg).toNat=m→
  bV E G 253 Up [(0,.string s),(2,ap aC),(3,M 0),(4,.bool neg),(5,.bool ah),(6,U),(7,M bg),(8,U),(9,U),(10,ap 10),(11,M 19),(12,ab 101),(13,.bool fJ),(14,.bool rf),(15,M iH),(16,M iV),(17,M gd)] H [] (fun x T H'=>(x=(.exit 1)∧∃(z2:Int) (z5:Bool) (j6:Int) (ahb:Bool) (ahd:Bool) (LG:Int) (LH:Int) (yN:Int),T=aP [(0,.string s),(2,ap z2),(3,M 0),(4,.bool neg),(5,.bool z5),(6,U),(7,M j6),(8,U),(9,U),(10,ap 10),(12,ab 101),(13,.bool ahb),(14,.bool ahd),(15,M LG),(16,M LH),(17,M yN)]∧((0≤j6)∧(j6≤s.size)∧(0≤z2∧z2<18446744073709551616)∧(0≤LG)∧(LG≤300)∧(0≤LH)∧(LH≤300)∧(-300≤yN)∧(yN≤300)))):=by
 refine dJ fun m ih=>?_
 intro aC ah bg fJ rf iH iV gd H y gL hs i0 i1 m0 n0 n1 k0 k1 d0 d1 hm
 refine cN y ?_
 refine aD 3 (bg<(s.size:Int)) ?_ ?_ <;> intro h1 q1
 ·refine aG 2 bg (s.size:Int)<|ay 2 (beq_false_of_ne (gL bg J J).Aq.1:((ad s bg)==95)=false)<|aY 3 (ad s bg) 46 ?_ ?_ <;> intro h2 cv
  ·cases fJ with
   |true=>
    exact cF 3 [(0,.string s),(2,ap aC),(3,M 0),(4,.bool neg),(5,.bool ah),(6,U),(7,M bg),(8,U),(9,U),(10,ap 10),(12,ab 101),(13,aw),(14,.bool rf),(15,M iH),(16,M iV),(17,M gd)] (.exit 1) H ⟨rfl,aC,ah,bg,true,rf,iH,iV,gd,rfl,⟨i0,i1,m0,n0,J,k0,J,J,J⟩⟩
   |false=>
    exact aH 7 (bg+1)<|du 1 [(0,.string s),(2,ap aC),(3,M 0),(4,.bool neg),(5,.bool ah),(6,U),(7,M (bg+1)),(8,U),(9,U),(10,ap 10),(11,M 19),(12,ab 101),(13,aw),(14,.bool rf),(15,M iH),(16,M iV),(17,M iH)] H (ih _ J aC ah (bg+1) true rf iH iV iH _ y gL hs J J m0 J J J J J J rfl)
  refine aD 3 (48≤(ad s bg)) ?_ ?_ <;> intro h3 cY
  ·refine aD 2 ((ad s bg)≤57) ?_ ?_ <;> intro h4 cO
   ·refine aY 5 (ad s bg) 48 ?_ ?_ <;> intro h5 dc
    ·refine aY 2 iH 0 ?_ ?_ <;> intro h6 di
     ·exact aH 2 (gd-1)<|aH 2 (bg+1)<|du 1 [(0,.string s),(2,ap aC),(3,M 0),(4,.bool neg),(5,.bool ah),(6,U),(7,M (bg+1)),(8,U),(9,U),(10,ap 10),(11,M 19),(12,ab 101),(13,.bool fJ),(14,aw),(15,M iH),(16,M iV),(17,M (gd-1))] H (ih _ J aC ah (bg+1) fJ true iH iV (gd-1) _ y gL hs J J m0 J J J J J J rfl)
     refine aH 2 (iH+1)<|aD 3 (iV<19) ?_ ?_ <;> intro h7 gM
     ·exact aH 11 (iV+1)<|aH 2 (bg+1)<|du 1 [(0,.string s),(2,ap (IntKind.u64.wrap ((IntKind.u64.wrap (aC*10))+(IntKind.u64.wrap (IntKind.u8.wrap ((ad s bg)-48)))))),(3,M 0),(4,.bool neg),(5,.bool ah),(6,U),(7,M (bg+1)),(8,U),(9,U),(10,ap 10),(11,M 19),(12,ab 101),(13,.bool fJ),(14,aw),(15,M (iH+1)),(16,M (iV+1)),(17,M gd)] H (ih _ J (IntKind.u64.wrap ((IntKind.u64.wrap (aC*10))+(IntKind.u64.wrap (IntKind.u8.wrap ((ad s bg)-48))))) ah (bg+1) fJ true (iH+1) (iV+1) gd _ y gL hs J J (R8 _) J J J J J J rfl)
     refine d7 1 (ad s bg) 48 ?_ ?_ <;> intro h8 lT
     ·exact aH 2 (bg+1)<|du 1 [(0,.string s),(2,ap aC),(3,M 0),(4,.bool neg),(5,aw),(6,U),(7,M (bg+1)),(8,U),(9,U),(10,ap 10),(11,M 19),(12,ab 101),(13,.bool fJ),(14,aw),(15,M (iH+1)),(16,M iV),(17,M gd)] H (ih _ J aC true (bg+1) fJ true (iH+1) iV gd _ y gL hs J J m0 J J J J J J rfl)
     exact aH 1 (bg+1)<|du 1 [(0,.string s),(2,ap aC),(3,M 0),(4,.bool neg),(5,.bool ah),(6,U),(7,M (bg+1)),(8,U),(9,U),(10,ap 10),(11,M 19),(12,ab 101),(13,.bool fJ),(14,aw),(15,M (iH+1)),(16,M iV),(17,M gd)] H (ih _ J aC ah (bg+1) fJ true (iH+1) iV gd _ y gL hs J J m0 J J J J J J rfl)
    refine aH 3 (iH+1)<|aD 3 (iV<19) ?_ ?_ <;> intro h6 di
    ·exact aH 11 (iV+1)<|aH 2 (bg+1)<|du 1 [(0,.string s),(2,ap (IntKind.u64.wrap ((IntKind.u64.wrap (aC*10))+(IntKind.u64.wrap (IntKind.u8.wrap ((ad s bg)-48)))))),(3,M 0),(4,.bool neg),(5,.bool ah),(6,U),(7,M (bg+1)),(8,U),(9,U),(10,ap 10),(11,M 19),(12,ab 101),(13,.bool fJ),(14,aw),(15,M (iH+1)),(16,M (iV+1)),(17,M gd)] H (ih _ J (IntKind.u64.wrap ((IntKind.u64.wrap (aC*10))+(IntKind.u64.wrap (IntKind.u8.wrap ((ad s bg)-48))))) ah (bg+1) fJ true (iH+1) (iV+1) gd _ y gL hs J J (R8 _) J J J J J J rfl)
    refine d7 1 (ad s bg) 48 ?_ ?_ <;> intro h7 gM
    ·exact aH 2 (bg+1)<|du 1 [(0,.string s),(2,ap aC),(3,M 0),(4,.bool neg),(5,aw),(6,U),(7,M (bg+1)),(8,U),(9,U),(10,ap 10),(11,M 19),(12,ab 101),(13,.bool fJ),(14,aw),(15,M (iH+1)),(16,M iV),(17,M gd)] H (ih _ J aC true (bg+1) fJ true (iH+1) iV gd _ y gL hs J J m0 J J J J J J rfl)
    exact aH 1 (bg+1)<|du 1 [(0,.string s),(2,ap aC),(3,M 0),(4,.bool neg),(5,.bool ah),(6,U),(7,M (bg+1)),(8,U),(9,U),(10,ap 10),(11,M 19),(12,ab 101),(13,.bool fJ),(14,aw),(15,M (iH+1)),(16,M iV),(17,M gd)] H (ih _ J aC ah (bg+1) fJ true (iH+1) iV gd _ y gL hs J J m0 J J J J J J rfl)
   exact cF 11 [(0,.string s),(2,ap aC),(3,M 0),(4,.bool neg),(5,.bool ah),(6,U),(7,M bg),(8,U),(9,U),(10,ap 10),(12,ab 101),(13,.bool fJ),(14,.bool rf),(15,M iH),(16,M iV),(17,M gd)] (.exit 1) H ⟨rfl,aC,ah,bg,fJ,rf,iH,iV,gd,rfl,⟨i0,i1,m0,n0,J,k0,J,J,J⟩⟩
  exact cF 12 [(0,.string s),(2,ap aC),(3,M 0),(4,.bool neg),(5,.bool ah),(6,U),(7,M bg),(8,U),(9,U),(10,ap 10),(12,ab 101),(13,.bool fJ),(14,.bool rf),(15,M iH),(16,M iV),(17,M gd)] (.exit 1) H ⟨rfl,aC,ah,bg,fJ,rf,iH,iV,gd,rfl,⟨i0,i1,m0,n0,J,k0,J,J,J⟩⟩
 exact cF 0 [(0,.string s),(2,ap aC),(3,M 0),(4,.bool neg),(5,.bool ah),(6,U),(7,M bg),(8,U),(9,U),(10,ap 10),(12,ab 101),(13,.bool fJ),(14,.bool rf),(15,M iH),(16,M iV),(17,M gd)] (.exit 1) H ⟨rfl,aC,ah,bg,fJ,rf,iH,iV,gd,rfl,⟨i0,i1,m0,n0,J,k0,J,J,J⟩⟩
noncomputable def Uq:Code:=cw [1,0,1,1,1,1,1,1,1,1,1,1,1,1,1,1,1,1,1,0,1,0,1,1,1,1,1,1,0,0,0] (cx Tryz.f200)
theorem Jv (s:ByteArray) (neg:Bool) (aT:Bool) (mt:Int) (nm:Int) (dp:Int) (es:Int):∀(m:Nat) (bg:Int) (m6:Int) (H:Z),aa E G H→(gL:sA s)→(hs:(s.size:Int)≤300)→(i0:0≤bg)→(i1:bg≤s.size)→(e0:0≤m6)→(e1:m6≤200000)→((s.size:Int)-bg).toNat=m→
  bV E G 253 Uq [(0,.string s),(2,ap mt),(3,M 0),(4,.bool neg),(5,.bool aT),(6,U),(7,M bg),(8,U),(9,U),(16,M nm),(17,M dp),(19,M es),(20,M m6)] H [] (fun x T H'=>(x=(.exit 5)∧∃(j6:Int) (z20:Int),T=aP [(0,.string s),(2,ap mt),(3,M 0),(4,.bool neg),(5,.bool aT),(6,U),(7,M j6),(8,U),(9,U),(16,M nm),(17,M dp),(19,M es),(20,M z20)]∧((0≤j6)∧(j6≤s.size)∧(0≤z20)∧(z20≤200000)))):=by
 refine dJ fun m ih=>?_
 intro bg m6 H y gL hs i0 i1 e0 e1 hm
 have b7:=jl s bg
 have bj:=jc s bg
 refine cN y ?_
 refine aD 3 (bg<(s.size:Int)) ?_ ?_ <;> intro h1 q1
 ·refine aG 3 bg (s.size:Int)<|aD 0 (48≤(ad s bg)) ?_ ?_ <;> intro h2 cv
  ·refine aG 3 bg (s.size:Int)<|aD 0 ((ad s bg)≤57) ?_ ?_ <;> intro h3 cY
   ·refine aG 6 bg (s.size:Int)<|ay 0 (beq_false_of_ne (gL bg J J).Aq.1:((ad s bg)==95)=false)<|aD 1 (m6<10000) ?_ ?_ <;> intro h4 cO
    ·exact aH 1 (m6*10)<|aG 2 bg (s.size:Int)<|aH 0 (ad s bg)<|aH 0 ((m6*10)+(ad s bg))<|aH 0 (((m6*10)+(ad s bg))-48)<|aH 2 (bg+1)<|du 1 [(0,.string s),(2,ap mt),(3,M 0),(4,.bool neg),(5,.bool aT),(6,U),(7,M (bg+1)),(8,U),(9,U),(16,M nm),(17,M dp),(19,M es),(20,M (((m6*10)+(ad s bg))-48))] H (ih _ J (bg+1) (((m6*10)+(ad s bg))-48) _ y gL hs J J J J rfl)
    exact aH 1 (bg+1)<|du 1 [(0,.string s),(2,ap mt),(3,M 0),(4,.bool neg),(5,.bool aT),(6,U),(7,M (bg+1)),(8,U),(9,U),(16,M nm),(17,M dp),(19,M es),(20,M m6)] H (ih _ J (bg+1) m6 _ y gL hs J J J J rfl)
   exact aG 4 bg (s.size:Int)<|ay 0 (beq_false_of_ne (gL bg J J).Aq.1:((ad s bg)==95)=false)<|cF 2 [(0,.string s),(2,ap mt),(3,M 0),(4,.bool neg),(5,.bool aT),(6,U),(7,M bg),(8,U),(9,U),(16,M nm),(17,M dp),(19,M es),(20,M m6)] (.exit 5) H ⟨rfl,bg,m6,rfl,⟨J,J,J,J⟩⟩
  exact aG 5 bg (s.size:Int)<|ay 0 (beq_false_of_ne (gL bg J J).Aq.1:((ad s bg)==95)=false)<|cF 2 [(0,.string s),(2,ap mt),(3,M 0),(4,.bool neg),(5,.bool aT),(6,U),(7,M bg),(8,U),(9,U),(16,M nm),(17,M dp),(19,M es),(20,M m6)] (.exit 5) H ⟨rfl,bg,m6,rfl,⟨J,J,J,J⟩⟩
 exact cF 2 [(0,.string s),(2,ap mt),(3,M 0),(4,.bool neg),(5,.bool aT),(6,U),(7,M bg),(8,U),(9,U),(16,M nm),(17,M dp),(19,M es),(20,M m6)] (.exit 5) H ⟨rfl,bg,m6,rfl,⟨J,J,J,J⟩⟩
noncomputable def Ve:Code:=cw [1,0,1,1,1,1,1,1,1,1,1,1,1,1,1,1,1,1,1,0] (cx Tryz.f200)
theorem Qg (s:ByteArray) (neg:Bool) (aT:Bool) (mt:Int) (nm:Int) (bg:Int) (gd:Int) {H:Z} (y:aa E G H) (gL:sA s) (hs:(s.size:Int)≤300) (i0:0≤bg) (i1:bg≤s.size) (d0:-300≤gd) (d1:gd≤300) :
  jL E G 253 Ve [(0,.string s),(2,ap mt),(3,M 0),(4,.bool neg),(5,.bool aT),(6,U),(7,M bg),(8,U),(9,U),(10,ap 10),(12,ab 101),(16,M nm),(17,M gd)] H [] (fun x T H'=>(x=.normal∧∃(j6:Int) (yN:Int),T=aP [(0,.string s),(2,ap mt),(3,M 0),(4,.bool neg),(5,.bool aT),(6,U),(7,M j6),(8,U),(9,U),(16,M nm),(17,M yN)]∧((0≤j6)∧(j6≤s.size)∧(-500000≤yN)∧(yN≤500000)))∨(x=.ret∧∃(j6:Int),T=aP [(2,ap mt),(3,M 0),(4,.bool neg),(5,.bool aT),(6,U),(7,M j6),(8,U)]∧((0≤j6)∧(j6≤s.size)))):=by
 refine mq y ?_
 refine aD 3 (bg<(s.size:Int)) ?_ ?_ <;> intro h1 q1
 ·obtain ⟨x7,hx1,BZ⟩:=O7 (ad s bg)
  refine aG 3 bg (s.size:Int)<|ac 0 (BZ y)<|aY 1 x7 101 ?_ ?_ <;> intro h2 cv
  ·refine aH 2 (bg+1)<|aD 4 ((bg+1)≥(s.size:Int)) ?_ ?_ <;> intro h3 cY
   ·exact cM 0 [(2,ap mt),(3,M 0),(4,.bool neg),(5,.bool aT),(6,U),(7,M (bg+1)),(8,U)] .ret H (.inr ⟨rfl,bg+1,rfl,⟨J,J⟩⟩)
   refine aG 3 (bg+1) (s.size:Int)<|aY 0 (ad s (bg+1)) 43 ?_ ?_ <;> intro h4 cO
   ·refine aH 2 ((bg+1)+1)<|aD 4 (((bg+1)+1)≥(s.size:Int)) ?_ ?_ <;> intro h5 dc
    ·exact cM 4 [(2,ap mt),(3,M 0),(4,.bool neg),(5,.bool aT),(6,U),(7,M ((bg+1)+1)),(8,U)] .ret H (.inr ⟨rfl,(bg+1)+1,rfl,⟨J,J⟩⟩)
    refine aG 3 ((bg+1)+1) (s.size:Int)<|aD 0 ((ad s ((bg+1)+1))<48) ?_ ?_ <;> intro h6 di
    ·exact cM 3 [(2,ap mt),(3,M 0),(4,.bool neg),(5,.bool aT),(6,U),(7,M ((bg+1)+1)),(8,U)] .ret H (.inr ⟨rfl,(bg+1)+1,rfl,⟨J,J⟩⟩)
    refine aG 4 ((bg+1)+1) (s.size:Int)<|aD 0 ((ad s ((bg+1)+1))>57) ?_ ?_ <;> intro h7 gM
    ·exact cM 1 [(2,ap mt),(3,M 0),(4,.bool neg),(5,.bool aT),(6,U),(7,M ((bg+1)+1)),(8,U)] .ret H (.inr ⟨rfl,(bg+1)+1,rfl,⟨J,J⟩⟩)
    obtain ⟨_,_,H1,c1,ak,y1,rfl,oi,lW,rfl,aI,gv,j3,pI⟩:=(Jv s neg aT mt nm gd 1 _ ((bg+1)+1) 0 _ y gL hs J J J J rfl).code
    have w1:((M (IntKind.i64.wrap (lW*1))):Value)=(M lW):=(by rw [nE J J] <;> congr 1 <;> omega)
    exact bx 2 c1<|aE [am 2]<|az [.as (M lW)] w1<|aH 0 (gd+lW)<|cM 1 [(0,.string s),(2,ap mt),(3,M 0),(4,.bool neg),(5,.bool aT),(6,U),(7,M oi),(8,U),(9,U),(16,M nm),(17,M (gd+lW))] .normal H1 (.inl ⟨rfl,oi,gd+lW,rfl,⟨J,J,J,J⟩⟩)
   refine aY 1 (ad s (bg+1)) 45 ?_ ?_ <;> intro h5 dc
   ·refine aH 2 ((bg+1)+1)<|aD 5 (((bg+1)+1)≥(s.size:Int)) ?_ ?_ <;> intro h6 di
    ·exact cM 4 [(2,ap mt),(3,M 0),(4,.bool neg),(5,.bool aT),(6,U),(7,M ((bg+1)+1)),(8,U)] .ret H (.inr ⟨rfl,(bg+1)+1,rfl,⟨J,J⟩⟩)
    refine aG 3 ((bg+1)+1) (s.size:Int)<|aD 0 ((ad s ((bg+1)+1))<48) ?_ ?_ <;> intro h7 gM
    ·exact cM 3 [(2,ap mt),(3,M 0),(4,.bool neg),(5,.bool aT),(6,U),(7,M ((bg+1)+1)),(8,U)] .ret H (.inr ⟨rfl,(bg+1)+1,rfl,⟨J,J⟩⟩)
    refine aG 4 ((bg+1)+1) (s.size:Int)<|aD 0 ((ad s ((bg+1)+1))>57) ?_ ?_ <;> intro h8 lT
    ·exact cM 1 [(2,ap mt),(3,M 0),(4,.bool neg),(5,.bool aT),(6,U),(7,M ((bg+1)+1)),(8,U)] .ret H (.inr ⟨rfl,(bg+1)+1,rfl,⟨J,J⟩⟩)
    obtain ⟨_,_,H1,c1,ak,y1,rfl,oi,lW,rfl,aI,gv,j3,pI⟩:=(Jv s neg aT mt nm gd (-1) _ ((bg+1)+1) 0 _ y gL hs J J J J rfl).code
    have w1:((M (IntKind.i64.wrap (lW*(-1)))):Value)=(M (0-lW)):=(by rw [nE J J] <;> congr 1 <;> omega)
    exact bx 2 c1<|aE [am 2]<|az [.as (M (0-lW))] w1<|aH 0 (gd+(0-lW))<|cM 1 [(0,.string s),(2,ap mt),(3,M 0),(4,.bool neg),(5,.bool aT),(6,U),(7,M oi),(8,U),(9,U),(16,M nm),(17,M (gd+(0-lW)))] .normal H1 (.inl ⟨rfl,oi,gd+(0-lW),rfl,⟨J,J,J,J⟩⟩)
   refine ay 4 h3<|aG 3 (bg+1) (s.size:Int)<|aD 0 ((ad s (bg+1))<48) ?_ ?_ <;> intro h6 di
   ·exact cM 3 [(2,ap mt),(3,M 0),(4,.bool neg),(5,.bool aT),(6,U),(7,M (bg+1)),(8,U)] .ret H (.inr ⟨rfl,bg+1,rfl,⟨J,J⟩⟩)
   refine aG 4 (bg+1) (s.size:Int)<|aD 0 ((ad s (bg+1))>57) ?_ ?_ <;> intro h7 gM
   ·exact cM 1 [(2,ap mt),(3,M 0),(4,.bool neg),(5,.bool aT),(6,U),(7,M (bg+1)),(8,U)] .ret H (.inr ⟨rfl,bg+1,rfl,⟨J,J⟩⟩)
   obtain ⟨_,_,H1,c1,ak,y1,rfl,oi,lW,rfl,aI,gv,j3,pI⟩:=(Jv s neg aT mt nm gd 1 _ (bg+1) 0 _ y gL hs J J J J rfl).code
   have w1:((M (IntKind.i64.wrap (lW*1))):Value)=(M lW):=(by rw [nE J J] <;> congr 1 <;> omega)
   exact bx 2 c1<|aE [am 2]<|az [.as (M lW)] w1<|aH 0 (gd+lW)<|cM 1 [(0,.string s),(2,ap mt),(3,M 0),(4,.bool neg),(5,.bool aT),(6,U),(7,M oi),(8,U),(9,U),(16,M nm),(17,M (gd+lW))] .normal H1 (.inl ⟨rfl,oi,gd+lW,rfl,⟨J,J,J,J⟩⟩)
  exact cM 3 [(0,.string s),(2,ap mt),(3,M 0),(4,.bool neg),(5,.bool aT),(6,U),(7,M bg),(8,U),(9,U),(16,M nm),(17,M gd)] .normal H (.inl ⟨rfl,bg,gd,rfl,⟨J,J,J,J⟩⟩)
 exact cM 4 [(0,.string s),(2,ap mt),(3,M 0),(4,.bool neg),(5,.bool aT),(6,U),(7,M bg),(8,U),(9,U),(16,M nm),(17,M gd)] .normal H (.inl ⟨rfl,bg,gd,rfl,⟨J,J,J,J⟩⟩)
theorem adh (s:ByteArray) {H:Z} (y:aa E G H) (gL:sA s) (hs:(s.size:Int)≤300):aV E G 200 [.string s] H [] (fun v H'=>∃(m:Int) (e:Int) (d4:Bool) (aT:Bool) (i:Int) (ok:Bool),v=(.tuple #[ap m,M e,.bool d4,.bool aT,U,M i,.bool ok])∧(0≤m∧m<18446744073709551616∧0≤i∧i≤s.size∧-1000000≤e∧e≤1000000)):=by
 refine bB Tryz.f200 y ?_
 refine aD 11 (0≥(s.size:Int)) ?_ ?_ <;> intro h1 q1
 ·exact af 0 (.tuple #[ap 0,M 0,U,U,U,M 0,U]) H ⟨0,0,false,false,0,false,rfl,J,J,J,J,J,J⟩
 obtain ⟨_,_,H1,c1,ak,y1,rfl,fV,oi,rfl,aI,gv,j3⟩:=acs s  y J
 obtain ⟨_,_,H2,c2,aF,ar,rfl,rfl⟩:=acu s fV oi y1 gL hs J J
 obtain ⟨_,_,H3,c3,bq,aM,rfl,m7,li,yQ,ahc,ahe,ahf,wP,ahg,rfl,ky,Gn,ajo,AN,Dc,ajp,ajq,ajr,ajs⟩:=(aab s fV _ 0 false oi false false 0 0 0 _ ar gL hs J J ⟨J,J⟩ J J J J J J rfl).code
 refine gi 0 3 c1<|gi 3 1 c2<|bx 5 c3<|?_
 cases ahe with
 |true=>
  cases ahc with
  |true=>
   obtain ⟨_,_,H4,eg,ee,cu,jr⟩:=Qg s fV li m7 wP yQ ahg aM gL hs J J J J
   refine aE [am 5]<|?_
   rcases jr with ⟨rfl,nG,yO,rfl,lh,tM,aeC,yu⟩ |⟨rfl,nG,rfl,lh,tM⟩
   ·refine gi 0 3 eg<|d7 1 m7 0 ?_ ?_ <;> intro h5 dc
    ·exact aH 2 (yO-wP)<|af 5 (.tuple #[ap m7,M (yO-wP),.bool fV,.bool li,U,M nG,aw]) H4 ⟨m7,yO-wP,fV,li,nG,true,rfl,J,J,J,J,J,J⟩
    exact af 4 (.tuple #[ap m7,M 0,.bool fV,.bool li,U,M nG,aw]) H4 ⟨m7,0,fV,li,nG,true,rfl,J,J,J,J,J,J⟩
   exact gi 0 3 eg<|af 0 (.tuple #[ap m7,M 0,.bool fV,.bool li,U,M nG,U]) H4 ⟨m7,0,fV,li,nG,false,rfl,J,J,J,J,J,J⟩
  |false=>
   obtain ⟨_,_,H4,eg,ee,cu,jr⟩:=Qg s fV li m7 wP yQ ahf aM gL hs J J J J
   refine aE [am 7]<|?_
   rcases jr with ⟨rfl,nG,yO,rfl,lh,tM,aeC,yu⟩ |⟨rfl,nG,rfl,lh,tM⟩
   ·refine gi 0 3 eg<|d7 1 m7 0 ?_ ?_ <;> intro h5 dc
    ·exact aH 2 (yO-wP)<|af 5 (.tuple #[ap m7,M (yO-wP),.bool fV,.bool li,U,M nG,aw]) H4 ⟨m7,yO-wP,fV,li,nG,true,rfl,J,J,J,J,J,J⟩
    exact af 4 (.tuple #[ap m7,M 0,.bool fV,.bool li,U,M nG,aw]) H4 ⟨m7,0,fV,li,nG,true,rfl,J,J,J,J,J,J⟩
   exact gi 0 3 eg<|af 0 (.tuple #[ap m7,M 0,.bool fV,.bool li,U,M nG,U]) H4 ⟨m7,0,fV,li,nG,false,rfl,J,J,J,J,J,J⟩
 |false=>
  exact af 2 (.tuple #[ap m7,M 0,.bool fV,.bool li,U,M yQ,U]) H3 ⟨m7,0,fV,li,yQ,false,rfl,J,J,J,J,J,J⟩
theorem adg (s:ByteArray) (gL:sA s) (hs:(s.size:Int)≤300):∃(m:Int) (e:Int) (d4:Bool) (aT:Bool) (i:Int) (ok:Bool),(0≤m∧m<18446744073709551616∧0≤i∧i≤s.size∧-1000000≤e∧e≤1000000)∧∀{H:Z},aa E G H→bF E 200 [.string s] H (.ret (.tuple #[ap m,M e,.bool d4,.bool aT,U,M i,.bool ok])) H []:=by
 obtain ⟨_,_,c,_,_,m,e,d4,aT,i,ok,rfl,hs⟩:=adh s eH gL hs
 exact ⟨m,e,d4,aT,i,ok,hs,fun y=>eh (et rfl) (.ground rfl) c y⟩
def cR (x:Nat):Prop:=x%9223372036854775808≤9218868437227405312
def DL (c:Nat):Prop:=∃ s n j,Ieee.double.read c=.number s n j∧n≠0
theorem Nq:Ieee.double.signWeight=9223372036854775808:=by decide
theorem HF:Ieee.double.infRung=9218868437227405312:=by decide
theorem cR.read {x:Nat} (h:cR x):∀ s t,Ieee.double.read x≠.nan s t:=by
 intro s t
 unfold cR at h
 unfold Ieee.Format.read
 rw [Nq,HF]
 dsimp only
 split
 ·simp
 ·split
  ·simp
  ·split
   ·simp
   ·omega
theorem cR.word (neg:Bool) (r:Nat) (h:r≤9218868437227405312):cR (Ieee.double.word neg r):=by
 unfold cR Ieee.Format.word
 rw [Nq]
 split <;> omega
theorem cR.number (neg:Bool) (m:Nat) (p:Int):cR (Ieee.double.write (.number neg m p)):=by
 show cR (Ieee.double.nearest neg m p)
 unfold Ieee.Format.nearest
 split
 ·exact .word neg 0 J
 ·refine .word neg _ ?_
  rw [HF]
  exact Nat.min_le_right _ _
theorem cR.infinity (neg:Bool):cR (Ieee.double.write (.infinity neg)):=.word neg _ (by rw [HF];omega)
theorem cR.mul {x c:Nat} (h:cR x) (hc:DL c):(FloatKind.f64.format.mul x c).isSome=true∧cR ((FloatKind.f64.format.mul x c).getD 0):=by
 obtain ⟨t,n,j,e,hn⟩:=hc
 have e2:FloatKind.f64.format.mul x c=((Ieee.double.read x).product (Ieee.double.read c)).map Ieee.double.write:=rfl
 rw [e2,e]
 cases hx:Ieee.double.read x with
 |number s m i=>exact ⟨rfl,.number _ _ _⟩
 |infinity s=>
  have:(Ieee.Datum.infinity s).product (.number t n j)=some (.infinity (s ^^ t)):=by
   simp [Ieee.Datum.product,hn]
  rw [this]
  exact ⟨rfl,.infinity _⟩
 |nan s f=>exact absurd hx (h.read s f)
theorem cR.div {x c:Nat} (h:cR x) (hc:DL c):(FloatKind.f64.format.div x c).isSome=true∧cR ((FloatKind.f64.format.div x c).getD 0):=by
 obtain ⟨t,n,j,e,hn⟩:=hc
 have e2:FloatKind.f64.format.div x c=((Ieee.double.read x).quotient (Ieee.double.fractionBits+2) (Ieee.double.read c)).map Ieee.double.write:=rfl
 rw [e2,e]
 cases hx:Ieee.double.read x with
 |number s m i=>
  have:∃ a b d,(Ieee.Datum.number s m i).quotient (Ieee.double.fractionBits+2) (.number t n j)=some (.number a b d):=by
   simp only [Ieee.Datum.quotient,hn,if_false]
   exact ⟨_,_,_,rfl⟩
  obtain ⟨a,b,d,h1⟩:=this
  rw [h1]
  exact ⟨rfl,.number _ _ _⟩
 |infinity s=>exact ⟨rfl,.infinity _⟩
 |nan s f=>exact absurd hx (h.read s f)
theorem cR.nearest (n:Int):cR (FloatKind.f64.nearest n):=.number _ _ _
theorem cR.neg {x:Nat} (h:cR x):cR (Op.negFloat .f64 x):=by
 have e:Op.negFloat .f64 x=x ^^^ 2 ^ 63:=rfl
 unfold cR at *
 rw [e,show (9223372036854775808:Nat)=2 ^ 63 by decide,Nat.xor_mod_two_pow,Nat.mod_self,Nat.xor_zero]
 exact h
def C1:List Nat:=[4607182418800017408,4621819117588971520,4636737291354636288,4652007308841189376,4666723172467343360,4681608360884174848,4696837146684686336,4711630319722168320,4726483295884279808,4741671816366391296,4756540486875873280,4771362005757984768,4786511204640096256,4801453603149578240,4816244402031689728,4831355200913801216,4846369599423283200,4861130398305394688,4876203697187506176,4891288408196988160,4906019910204099648,4921056587992461136,4936209963552724370]
theorem acX:∀ c∈C1,DL c:=by
 have key:C1.all (fun c=>match Ieee.double.read c with |.number _ n _=>n != 0 |_=>false)=true:=by kernel_rfl
 intro c hc
 have:=List.all_eq_true.1 key c hc
 split at this
 ·rename_i s n j e
  exact ⟨s,n,j,e,by simpa using this⟩
 ·cases this
theorem tH {i:Int} (h0:0≤i) (h1:i<23):∃ c:Nat,(C1.map (Value.float .f64))[0+i.toNat*1]?=some (.float .f64 c)∧DL c:=by
 have hlt:i.toNat<C1.length:=by show i.toNat<23;omega
 refine ⟨C1[i.toNat],?_,acX _ (List.getElem_mem hlt)⟩
 rw [show 0+i.toNat*1=i.toNat by omega,List.getElem?_map,fU hlt];rfl
theorem Wz (m:Int) (e:Int) (d4:Bool) {H:Z} (y:aa E G H) (e0:-1000000≤e) (e1:e≤1000000):aV E G 210 [ap m,M e,.bool d4] H [] (fun v H'=>∃(f:Nat) (b:Bool),v=(.tuple #[.float .f64 f,.bool b])∧(cR f)):=by
 refine bB Tryz.f210 y ?_
 refine Y 4 (ag 0 hX (jx y))<|d7 1 (Int.fdiv m (2 ^ 52)) 0 ?_ ?_ <;> intro h1 q1
 ·exact af 0 (.tuple #[.float .f64 0,U]) H ⟨0,false,rfl,(by unfold cR;omega)⟩
 cases d4 with
 |true=>
  refine aY 8 e 0 ?_ ?_ <;> intro h3 cY
  ·exact af 4 (.tuple #[.float .f64 (Op.negFloat .f64 (FloatKind.f64.nearest m)),aw]) H ⟨Op.negFloat .f64 (FloatKind.f64.nearest m),true,rfl,cR.neg (cR.nearest m)⟩
  refine aD 2 (e>0) ?_ ?_ <;> intro h4 cO
  ·refine aD 2 (e≤37) ?_ ?_ <;> intro h5 dc
   ·refine aD 3 (e>22) ?_ ?_ <;> intro h6 di
    ·obtain ⟨gz,oE,jm⟩:=tH (i:=(e-22)) J J
     refine Y 1 (ag 0 sI (sC y))<|aH 1 (e-22)<|aG 0 (e-22) (23:Int)<|Y 0 (cH sH (sD y) oE:al E 104 27 (0+(e-22).toNat*1) H=some (.float .f64 gz))<|az [.ax] ((cR.mul (cR.neg (cR.nearest m)) jm).1)<|d5 3 (FloatKind.f64.format.order ((FloatKind.f64.format.mul (Op.negFloat .f64 (FloatKind.f64.nearest m)) gz).getD 0) 4831355200913801216==some .gt) (fun h7=>?_) fun h7=>?_
     ·exact af 2 (.tuple #[.float .f64 ((FloatKind.f64.format.mul (Op.negFloat .f64 (FloatKind.f64.nearest m)) gz).getD 0),U]) H ⟨(FloatKind.f64.format.mul (Op.negFloat .f64 (FloatKind.f64.nearest m)) gz).getD 0,false,rfl,(cR.mul (cR.neg (cR.nearest m)) jm).2⟩
     refine d5 2 (FloatKind.f64.format.order ((FloatKind.f64.format.mul (Op.negFloat .f64 (FloatKind.f64.nearest m)) gz).getD 0) 14054727237768577024==some .lt) (fun h8=>?_) fun h8=>?_
     ·exact af 1 (.tuple #[.float .f64 ((FloatKind.f64.format.mul (Op.negFloat .f64 (FloatKind.f64.nearest m)) gz).getD 0),U]) H ⟨(FloatKind.f64.format.mul (Op.negFloat .f64 (FloatKind.f64.nearest m)) gz).getD 0,false,rfl,(cR.mul (cR.neg (cR.nearest m)) jm).2⟩
     obtain ⟨xm,Is,BT⟩:=tH (i:=22) J J
     exact Y 2 (ag 0 sI (sC y))<|Y 2 (cH sH (sD y) Is:al E 104 27 22 H=some (.float .f64 xm))<|az [.ax] ((cR.mul (cR.mul (cR.neg (cR.nearest m)) jm).2 BT).1)<|af 2 (.tuple #[.float .f64 ((FloatKind.f64.format.mul ((FloatKind.f64.format.mul (Op.negFloat .f64 (FloatKind.f64.nearest m)) gz).getD 0) xm).getD 0),aw]) H ⟨(FloatKind.f64.format.mul ((FloatKind.f64.format.mul (Op.negFloat .f64 (FloatKind.f64.nearest m)) gz).getD 0) xm).getD 0,true,rfl,(cR.mul (cR.mul (cR.neg (cR.nearest m)) jm).2 BT).2⟩
    refine d5 1 (FloatKind.f64.format.order (Op.negFloat .f64 (FloatKind.f64.nearest m)) 4831355200913801216==some .gt) (fun h7=>?_) fun h7=>?_
    ·exact af 2 (.tuple #[.float .f64 (Op.negFloat .f64 (FloatKind.f64.nearest m)),U]) H ⟨Op.negFloat .f64 (FloatKind.f64.nearest m),false,rfl,cR.neg (cR.nearest m)⟩
    refine d5 2 (FloatKind.f64.format.order (Op.negFloat .f64 (FloatKind.f64.nearest m)) 14054727237768577024==some .lt) (fun h8=>?_) fun h8=>?_
    ·exact af 1 (.tuple #[.float .f64 (Op.negFloat .f64 (FloatKind.f64.nearest m)),U]) H ⟨Op.negFloat .f64 (FloatKind.f64.nearest m),false,rfl,cR.neg (cR.nearest m)⟩
    obtain ⟨gz,oE,jm⟩:=tH (i:=e) J J
    exact Y 2 (ag 0 sI (sC y))<|aG 1 e (23:Int)<|Y 0 (cH sH (sD y) oE:al E 104 27 (0+e.toNat*1) H=some (.float .f64 gz))<|az [.ax] ((cR.mul (cR.neg (cR.nearest m)) jm).1)<|af 2 (.tuple #[.float .f64 ((FloatKind.f64.format.mul (Op.negFloat .f64 (FloatKind.f64.nearest m)) gz).getD 0),aw]) H ⟨(FloatKind.f64.format.mul (Op.negFloat .f64 (FloatKind.f64.nearest m)) gz).getD 0,true,rfl,(cR.mul (cR.neg (cR.nearest m)) jm).2⟩
   refine aD 3 (e<0) ?_ ?_ <;> intro h6 di
   ·refine aD 2 (e≥(-22)) ?_ ?_ <;> intro h7 gM
    ·obtain ⟨gz,oE,jm⟩:=tH (i:=(0-e)) J J
     exact Y 3 (ag 0 sI (sC y))<|aH 1 (0-e)<|aG 0 (0-e) (23:Int)<|Y 0 (cH sH (sD y) oE:al E 104 27 (0+(0-e).toNat*1) H=some (.float .f64 gz))<|az [.ax] ((cR.div (cR.neg (cR.nearest m)) jm).1)<|af 2 (.tuple #[.float .f64 ((FloatKind.f64.format.div (Op.negFloat .f64 (FloatKind.f64.nearest m)) gz).getD 0),aw]) H ⟨(FloatKind.f64.format.div (Op.negFloat .f64 (FloatKind.f64.nearest m)) gz).getD 0,true,rfl,(cR.div (cR.neg (cR.nearest m)) jm).2⟩
    exact af 2 (.tuple #[.float .f64 (Op.negFloat .f64 (FloatKind.f64.nearest m)),U]) H ⟨Op.negFloat .f64 (FloatKind.f64.nearest m),false,rfl,cR.neg (cR.nearest m)⟩
   exact af 3 (.tuple #[.float .f64 (Op.negFloat .f64 (FloatKind.f64.nearest m)),U]) H ⟨Op.negFloat .f64 (FloatKind.f64.nearest m),false,rfl,cR.neg (cR.nearest m)⟩
  refine aD 4 (e<0) ?_ ?_ <;> intro h5 dc
  ·refine aD 2 (e≥(-22)) ?_ ?_ <;> intro h6 di
   ·obtain ⟨gz,oE,jm⟩:=tH (i:=(0-e)) J J
    exact Y 3 (ag 0 sI (sC y))<|aH 1 (0-e)<|aG 0 (0-e) (23:Int)<|Y 0 (cH sH (sD y) oE:al E 104 27 (0+(0-e).toNat*1) H=some (.float .f64 gz))<|az [.ax] ((cR.div (cR.neg (cR.nearest m)) jm).1)<|af 2 (.tuple #[.float .f64 ((FloatKind.f64.format.div (Op.negFloat .f64 (FloatKind.f64.nearest m)) gz).getD 0),aw]) H ⟨(FloatKind.f64.format.div (Op.negFloat .f64 (FloatKind.f64.nearest m)) gz).getD 0,true,rfl,(cR.div (cR.neg (cR.nearest m)) jm).2⟩
   exact af 2 (.tuple #[.float .f64 (Op.negFloat .f64 (FloatKind.f64.nearest m)),U]) H ⟨Op.negFloat .f64 (FloatKind.f64.nearest m),false,rfl,cR.neg (cR.nearest m)⟩
  exact af 3 (.tuple #[.float .f64 (Op.negFloat .f64 (FloatKind.f64.nearest m)),U]) H ⟨Op.negFloat .f64 (FloatKind.f64.nearest m),false,rfl,cR.neg (cR.nearest m)⟩
 |false=>
  refine aY 5 e 0 ?_ ?_ <;> intro h3 cY
  ·exact af 4 (.tuple #[.float .f64 (FloatKind.f64.nearest m),aw]) H ⟨FloatKind.f64.nearest m,true,rfl,cR.nearest m⟩
  refine aD 2 (e>0) ?_ ?_ <;> intro h4 cO
  ·refine aD 2 (e≤37) ?_ ?_ <;> intro h5 dc
   ·refine aD 3 (e>22) ?_ ?_ <;> intro h6 di
    ·obtain ⟨gz,oE,jm⟩:=tH (i:=(e-22)) J J
     refine Y 1 (ag 0 sI (sC y))<|aH 1 (e-22)<|aG 0 (e-22) (23:Int)<|Y 0 (cH sH (sD y) oE:al E 104 27 (0+(e-22).toNat*1) H=some (.float .f64 gz))<|az [.ax] ((cR.mul (cR.nearest m) jm).1)<|d5 3 (FloatKind.f64.format.order ((FloatKind.f64.format.mul (FloatKind.f64.nearest m) gz).getD 0) 4831355200913801216==some .gt) (fun h7=>?_) fun h7=>?_
     ·exact af 2 (.tuple #[.float .f64 ((FloatKind.f64.format.mul (FloatKind.f64.nearest m) gz).getD 0),U]) H ⟨(FloatKind.f64.format.mul (FloatKind.f64.nearest m) gz).getD 0,false,rfl,(cR.mul (cR.nearest m) jm).2⟩
     refine d5 2 (FloatKind.f64.format.order ((FloatKind.f64.format.mul (FloatKind.f64.nearest m) gz).getD 0) 14054727237768577024==some .lt) (fun h8=>?_) fun h8=>?_
     ·exact af 1 (.tuple #[.float .f64 ((FloatKind.f64.format.mul (FloatKind.f64.nearest m) gz).getD 0),U]) H ⟨(FloatKind.f64.format.mul (FloatKind.f64.nearest m) gz).getD 0,false,rfl,(cR.mul (cR.nearest m) jm).2⟩
     obtain ⟨xm,Is,BT⟩:=tH (i:=22) J J
     exact Y 2 (ag 0 sI (sC y))<|Y 2 (cH sH (sD y) Is:al E 104 27 22 H=some (.float .f64 xm))<|az [.ax] ((cR.mul (cR.mul (cR.nearest m) jm).2 BT).1)<|af 2 (.tuple #[.float .f64 ((FloatKind.f64.format.mul ((FloatKind.f64.format.mul (FloatKind.f64.nearest m) gz).getD 0) xm).getD 0),aw]) H ⟨(FloatKind.f64.format.mul ((FloatKind.f64.format.mul (FloatKind.f64.nearest m) gz).getD 0) xm).getD 0,true,rfl,(cR.mul (cR.mul (cR.nearest m) jm).2 BT).2⟩
    refine d5 1 (FloatKind.f64.format.order (FloatKind.f64.nearest m) 4831355200913801216==some .gt) (fun h7=>?_) fun h7=>?_
    ·exact af 2 (.tuple #[.float .f64 (FloatKind.f64.nearest m),U]) H ⟨FloatKind.f64.nearest m,false,rfl,cR.nearest m⟩
    refine d5 2 (FloatKind.f64.format.order (FloatKind.f64.nearest m) 14054727237768577024==some .lt) (fun h8=>?_) fun h8=>?_
    ·exact af 1 (.tuple #[.float .f64 (FloatKind.f64.nearest m),U]) H ⟨FloatKind.f64.nearest m,false,rfl,cR.nearest m⟩
    obtain ⟨gz,oE,jm⟩:=tH (i:=e) J J
    exact Y 2 (ag 0 sI (sC y))<|aG 1 e (23:Int)<|Y 0 (cH sH (sD y) oE:al E 104 27 (0+e.toNat*1) H=some (.float .f64 gz))<|az [.ax] ((cR.mul (cR.nearest m) jm).1)<|af 2 (.tuple #[.float .f64 ((FloatKind.f64.format.mul (FloatKind.f64.nearest m) gz).getD 0),aw]) H ⟨(FloatKind.f64.format.mul (FloatKind.f64.nearest m) gz).getD 0,true,rfl,(cR.mul (cR.nearest m) jm).2⟩
   refine aD 3 (e<0) ?_ ?_ <;> intro h6 di
   ·refine aD 2 (e≥(-22)) ?_ ?_ <;> intro h7 gM
    ·obtain ⟨gz,oE,jm⟩:=tH (i:=(0-e)) J J
     exact Y 3 (ag 0 sI (sC y))<|aH 1 (0-e)<|aG 0 (0-e) (23:Int)<|Y 0 (cH sH (sD y) oE:al E 104 27 (0+(0-e).toNat*1) H=some (.float .f64 gz))<|az [.ax] ((cR.div (cR.nearest m) jm).1)<|af 2 (.tuple #[.float .f64 ((FloatKind.f64.format.div (FloatKind.f64.nearest m) gz).getD 0),aw]) H ⟨(FloatKind.f64.format.div (FloatKind.f64.nearest m) gz).getD 0,true,rfl,(cR.div (cR.nearest m) jm).2⟩
    exact af 2 (.tuple #[.float .f64 (FloatKind.f64.nearest m),U]) H ⟨FloatKind.f64.nearest m,false,rfl,cR.nearest m⟩
   exact af 3 (.tuple #[.float .f64 (FloatKind.f64.nearest m),U]) H ⟨FloatKind.f64.nearest m,false,rfl,cR.nearest m⟩
  refine aD 4 (e<0) ?_ ?_ <;> intro h5 dc
  ·refine aD 2 (e≥(-22)) ?_ ?_ <;> intro h6 di
   ·obtain ⟨gz,oE,jm⟩:=tH (i:=(0-e)) J J
    exact Y 3 (ag 0 sI (sC y))<|aH 1 (0-e)<|aG 0 (0-e) (23:Int)<|Y 0 (cH sH (sD y) oE:al E 104 27 (0+(0-e).toNat*1) H=some (.float .f64 gz))<|az [.ax] ((cR.div (cR.nearest m) jm).1)<|af 2 (.tuple #[.float .f64 ((FloatKind.f64.format.div (FloatKind.f64.nearest m) gz).getD 0),aw]) H ⟨(FloatKind.f64.format.div (FloatKind.f64.nearest m) gz).getD 0,true,rfl,(cR.div (cR.nearest m) jm).2⟩
   exact af 2 (.tuple #[.float .f64 (FloatKind.f64.nearest m),U]) H ⟨FloatKind.f64.nearest m,false,rfl,cR.nearest m⟩
  exact af 3 (.tuple #[.float .f64 (FloatKind.f64.nearest m),U]) H ⟨FloatKind.f64.nearest m,false,rfl,cR.nearest m⟩
theorem Wy (m:Int) (e:Int) (d4:Bool) (e0:-1000000≤e) (e1:e≤1000000):∃(f:Nat) (b:Bool),(cR f)∧∀{H:Z},aa E G H→bF E 210 [ap m,M e,.bool d4] H (.ret (.tuple #[.float .f64 f,.bool b])) H []:=by
 obtain ⟨_,_,c,_,_,f,b,rfl,hs⟩:=Wz m e d4 eH e0 e1
 exact ⟨f,b,hs,fun y=>eh (et rfl) (.ground rfl) c y⟩
def hO:ByteArray:=⟨#[0,1,2,2,3,3,3,3,4,4,4,4,4,4,4,4,5,5,5,5,5,5,5,5,5,5,5,5,5,5,5,5,6,6,6,6,6,6,6,6,6,6,6,6,6,6,6,6,6,6,6,6,6,6,6,6,6,6,6,6,6,6,6,6,7,7,7,7,7,7,7,7,7,7,7,7,7,7,7,7,7,7,7,7,7,7,7,7,7,7,7,7,7,7,7,7,7,7,7,7,7,7,7,7,7,7,7,7,7,7,7,7,7,7,7,7,7,7,7,7,7,7,7,7,7,7,7,7,8,8,8,8,8,8,8,8,8,8,8,8,8,8,8,8,8,8,8,8,8,8,8,8,8,8,8,8,8,8,8,8,8,8,8,8,8,8,8,8,8,8,8,8,8,8,8,8,8,8,8,8,8,8,8,8,8,8,8,8,8,8,8,8,8,8,8,8,8,8,8,8,8,8,8,8,8,8,8,8,8,8,8,8,8,8,8,8,8,8,8,8,8,8,8,8,8,8,8,8,8,8,8,8,8,8,8,8,8,8,8,8,8,8,8,8,8,8,8,8,8,8,8,8,8,8,8,8]⟩
theorem aaN:((List.range 256).all fun i=>Nat.ble (ad hO (i:Int)).toNat 8)=true:=an
theorem wd:(hO.size:Int)=256:=by decide
theorem wc (x:Int):0≤ad hO (IntKind.u8.wrap x)∧ad hO (IntKind.u8.wrap x)≤8:=by
 have h:=vl x
 have:=List.all_eq_true.1 aaN (IntKind.u8.wrap x).toNat (by simp;omega)
 rw [show (((IntKind.u8.wrap x).toNat:Nat):Int)=IntKind.u8.wrap x by omega] at this
 have:=gg this
 have:=jl hO (IntKind.u8.wrap x)
 omega
theorem aaM (m:Int) {H:Z} (y:aa E G H):aV E G 142 [ap m] H [] (fun v H'=>∃(n:Int),v=(M n)∧(0≤n∧n≤64)):=by
 refine bB Tryz.f142 y ?_
 refine aD 2 (m≥4294967296) ?_ ?_ <;> intro h1 q1
 ·refine aD 5 ((Int.fdiv m (2 ^ 32))≥65536) ?_ ?_ <;> intro h2 cv
  ·refine aD 7 ((Int.fdiv (Int.fdiv m (2 ^ 32)) (2 ^ 16))≥256) ?_ ?_ <;> intro h3 cY
   ·have hl:=wc (Int.fdiv (Int.fdiv (Int.fdiv m (2 ^ 32)) (2 ^ 16)) (2 ^ 8))
    have hr:=vl (Int.fdiv (Int.fdiv (Int.fdiv m (2 ^ 32)) (2 ^ 16)) (2 ^ 8))
    have hz:=wd
    exact aG 9 (IntKind.u8.wrap (Int.fdiv (Int.fdiv (Int.fdiv m (2 ^ 32)) (2 ^ 16)) (2 ^ 8))) (hO.size:Int)<|aH 0 (ad hO (IntKind.u8.wrap (Int.fdiv (Int.fdiv (Int.fdiv m (2 ^ 32)) (2 ^ 16)) (2 ^ 8))))<|aH 0 (56+(ad hO (IntKind.u8.wrap (Int.fdiv (Int.fdiv (Int.fdiv m (2 ^ 32)) (2 ^ 16)) (2 ^ 8)))))<|af 1 (M (56+(ad hO (IntKind.u8.wrap (Int.fdiv (Int.fdiv (Int.fdiv m (2 ^ 32)) (2 ^ 16)) (2 ^ 8)))))) H ⟨_,rfl,J,J⟩
   have hl:=wc (Int.fdiv (Int.fdiv m (2 ^ 32)) (2 ^ 16))
   have hr:=vl (Int.fdiv (Int.fdiv m (2 ^ 32)) (2 ^ 16))
   have hz:=wd
   exact aG 3 (IntKind.u8.wrap (Int.fdiv (Int.fdiv m (2 ^ 32)) (2 ^ 16))) (hO.size:Int)<|aH 0 (ad hO (IntKind.u8.wrap (Int.fdiv (Int.fdiv m (2 ^ 32)) (2 ^ 16))))<|aH 0 (48+(ad hO (IntKind.u8.wrap (Int.fdiv (Int.fdiv m (2 ^ 32)) (2 ^ 16)))))<|af 1 (M (48+(ad hO (IntKind.u8.wrap (Int.fdiv (Int.fdiv m (2 ^ 32)) (2 ^ 16)))))) H ⟨_,rfl,J,J⟩
  refine aD 1 ((Int.fdiv m (2 ^ 32))≥256) ?_ ?_ <;> intro h3 cY
  ·have hl:=wc (Int.fdiv (Int.fdiv m (2 ^ 32)) (2 ^ 8))
   have hr:=vl (Int.fdiv (Int.fdiv m (2 ^ 32)) (2 ^ 8))
   have hz:=wd
   exact aG 9 (IntKind.u8.wrap (Int.fdiv (Int.fdiv m (2 ^ 32)) (2 ^ 8))) (hO.size:Int)<|aH 0 (ad hO (IntKind.u8.wrap (Int.fdiv (Int.fdiv m (2 ^ 32)) (2 ^ 8))))<|aH 0 (40+(ad hO (IntKind.u8.wrap (Int.fdiv (Int.fdiv m (2 ^ 32)) (2 ^ 8)))))<|af 1 (M (40+(ad hO (IntKind.u8.wrap (Int.fdiv (Int.fdiv m (2 ^ 32)) (2 ^ 8)))))) H ⟨_,rfl,J,J⟩
  have hl:=wc (Int.fdiv m (2 ^ 32))
  have hr:=vl (Int.fdiv m (2 ^ 32))
  have hz:=wd
  exact aG 3 (IntKind.u8.wrap (Int.fdiv m (2 ^ 32))) (hO.size:Int)<|aH 0 (ad hO (IntKind.u8.wrap (Int.fdiv m (2 ^ 32))))<|aH 0 (32+(ad hO (IntKind.u8.wrap (Int.fdiv m (2 ^ 32)))))<|af 1 (M (32+(ad hO (IntKind.u8.wrap (Int.fdiv m (2 ^ 32)))))) H ⟨_,rfl,J,J⟩
 refine aD 1 (m≥65536) ?_ ?_ <;> intro h2 cv
 ·refine aD 7 ((Int.fdiv m (2 ^ 16))≥256) ?_ ?_ <;> intro h3 cY
  ·have hl:=wc (Int.fdiv (Int.fdiv m (2 ^ 16)) (2 ^ 8))
   have hr:=vl (Int.fdiv (Int.fdiv m (2 ^ 16)) (2 ^ 8))
   have hz:=wd
   exact aG 9 (IntKind.u8.wrap (Int.fdiv (Int.fdiv m (2 ^ 16)) (2 ^ 8))) (hO.size:Int)<|aH 0 (ad hO (IntKind.u8.wrap (Int.fdiv (Int.fdiv m (2 ^ 16)) (2 ^ 8))))<|aH 0 (24+(ad hO (IntKind.u8.wrap (Int.fdiv (Int.fdiv m (2 ^ 16)) (2 ^ 8)))))<|af 1 (M (24+(ad hO (IntKind.u8.wrap (Int.fdiv (Int.fdiv m (2 ^ 16)) (2 ^ 8)))))) H ⟨_,rfl,J,J⟩
  have hl:=wc (Int.fdiv m (2 ^ 16))
  have hr:=vl (Int.fdiv m (2 ^ 16))
  have hz:=wd
  exact aG 3 (IntKind.u8.wrap (Int.fdiv m (2 ^ 16))) (hO.size:Int)<|aH 0 (ad hO (IntKind.u8.wrap (Int.fdiv m (2 ^ 16))))<|aH 0 (16+(ad hO (IntKind.u8.wrap (Int.fdiv m (2 ^ 16)))))<|af 1 (M (16+(ad hO (IntKind.u8.wrap (Int.fdiv m (2 ^ 16)))))) H ⟨_,rfl,J,J⟩
 refine aD 1 (m≥256) ?_ ?_ <;> intro h3 cY
 ·have hl:=wc (Int.fdiv m (2 ^ 8))
  have hr:=vl (Int.fdiv m (2 ^ 8))
  have hz:=wd
  exact aG 9 (IntKind.u8.wrap (Int.fdiv m (2 ^ 8))) (hO.size:Int)<|aH 0 (ad hO (IntKind.u8.wrap (Int.fdiv m (2 ^ 8))))<|aH 0 (8+(ad hO (IntKind.u8.wrap (Int.fdiv m (2 ^ 8)))))<|af 1 (M (8+(ad hO (IntKind.u8.wrap (Int.fdiv m (2 ^ 8)))))) H ⟨_,rfl,J,J⟩
 have hl:=wc m
 have hr:=vl m
 have hz:=wd
 exact aG 3 (IntKind.u8.wrap m) (hO.size:Int)<|aH 0 (ad hO (IntKind.u8.wrap m))<|aH 0 (0+(ad hO (IntKind.u8.wrap m)))<|af 1 (M (0+(ad hO (IntKind.u8.wrap m)))) H ⟨_,rfl,J,J⟩
theorem aaL (m:Int):∃(n:Int),(0≤n∧n≤64)∧∀{H:Z},aa E G H→bF E 142 [ap m] H (.ret (M n)) H []:=by
 obtain ⟨_,_,c,_,_,n,rfl,hs⟩:=aaM m eH
 exact ⟨n,hs,fun y=>eh (et rfl) (.ground rfl) c y⟩
theorem aa7 (p:Int) {H:Z} (y:aa E G H) (h0:-1000≤p) (h1:p≤1000):aV E G 221 [M p] H [] (fun v H'=>∃(n:Int),v=(M n)∧(-4000≤n∧n≤4000)):=by
 refine bB Tryz.f221 y ?_
 exact aH 2 (p*108853)<|af 2 (M (Int.fdiv (p*108853) (2 ^ 15))) H ⟨_,rfl,by rw [Int.fdiv_eq_ediv_of_nonneg _ J];omega,by rw [Int.fdiv_eq_ediv_of_nonneg _ J];omega⟩
theorem aa6 (p:Int) (h0:-1000≤p) (h1:p≤1000):∃(n:Int),(-4000≤n∧n≤4000)∧∀{H:Z},aa E G H→bF E 221 [M p] H (.ret (M n)) H []:=by
 obtain ⟨_,_,c,_,_,n,rfl,hs⟩:=aa7 p eH h0 h1
 exact ⟨n,hs,fun y=>eh (et rfl) (.ground rfl) c y⟩
theorem abG (x:Int) (z:Int) {H:Z} (y:aa E G H):aV E G 232 [ap x,ap z] H [] (fun v H'=>∃(h:Int) (l:Int),v=(.tuple #[ap h,ap l])):=by
 refine bB Tryz.f232 y ?_
 exact af 50 (.tuple #[ap (IntKind.u64.wrap ((IntKind.u64.wrap ((IntKind.u64.wrap ((Int.fdiv x (2 ^ 32))*(Int.fdiv z (2 ^ 32))))+(Int.fdiv (IntKind.u64.wrap ((IntKind.u64.wrap ((Int.fdiv x (2 ^ 32))*(IntKind.u64.wrap ((BitVec.ofInt 64 z &&& BitVec.ofInt 64 4294967295).toNat:Int))))+(Int.fdiv (IntKind.u64.wrap ((IntKind.u64.wrap ((BitVec.ofInt 64 x &&& BitVec.ofInt 64 4294967295).toNat:Int))*(IntKind.u64.wrap ((BitVec.ofInt 64 z &&& BitVec.ofInt 64 4294967295).toNat:Int)))) (2 ^ 32)))) (2 ^ 32))))+(Int.fdiv (IntKind.u64.wrap ((IntKind.u64.wrap ((BitVec.ofInt 64 (IntKind.u64.wrap ((IntKind.u64.wrap ((Int.fdiv x (2 ^ 32))*(IntKind.u64.wrap ((BitVec.ofInt 64 z &&& BitVec.ofInt 64 4294967295).toNat:Int))))+(Int.fdiv (IntKind.u64.wrap ((IntKind.u64.wrap ((BitVec.ofInt 64 x &&& BitVec.ofInt 64 4294967295).toNat:Int))*(IntKind.u64.wrap ((BitVec.ofInt 64 z &&& BitVec.ofInt 64 4294967295).toNat:Int)))) (2 ^ 32)))) &&& BitVec.ofInt 64 4294967295).toNat:Int))+(IntKind.u64.wrap ((IntKind.u64.wrap ((BitVec.ofInt 64 x &&& BitVec.ofInt 64 4294967295).toNat:Int))*(Int.fdiv z (2 ^ 32)))))) (2 ^ 32)))),ap (IntKind.u64.wrap (x*z))]) H ⟨_,_,rfl⟩
theorem Px (x:Int) (z:Int):∃(h:Int) (l:Int),∀{H:Z},aa E G H→bF E 232 [ap x,ap z] H (.ret (.tuple #[ap h,ap l])) H []:=by
 obtain ⟨_,_,c,_,_,h,l,rfl⟩:=abG x z eH
 exact ⟨h,l,fun y=>eh (et rfl) (.ground rfl) c y⟩
theorem Tk (b:Bool) {H:Z} (y:aa E G H):aV E G 208 [.bool b] H [] (fun v H'=>∃(n:Int),v=(ap n)∧(0≤n∧n≤1)):=by
 refine bB Tryz.f208 y ?_
 cases b with
 |true=>
  exact af 3 (ap 1) H ⟨_,rfl,J,J⟩
 |false=>
  exact af 3 (ap 0) H ⟨_,rfl,J,J⟩
theorem xb (b:Bool):∃(n:Int),(0≤n∧n≤1)∧∀{H:Z},aa E G H→bF E 208 [.bool b] H (.ret (ap n)) H []:=by
 obtain ⟨_,_,c,_,_,n,rfl,hs⟩:=Tk b eH
 exact ⟨n,hs,fun y=>eh (et rfl) (.ground rfl) c y⟩
theorem Tj (b:Bool) {H:Z} (y:aa E G H):aV E G 224 [.bool b] H [] (fun v H'=>∃(n:Int),v=(M n)∧(0≤n∧n≤1)):=by
 refine bB Tryz.f224 y ?_
 cases b with
 |true=>
  exact af 3 (M 1) H ⟨_,rfl,J,J⟩
 |false=>
  exact af 3 (M 0) H ⟨_,rfl,J,J⟩
theorem MF (b:Bool):∃(n:Int),(0≤n∧n≤1)∧∀{H:Z},aa E G H→bF E 224 [.bool b] H (.ret (M n)) H []:=by
 obtain ⟨_,_,c,_,_,n,rfl,hs⟩:=Tj b eH
 exact ⟨n,hs,fun y=>eh (et rfl) (.ground rfl) c y⟩
theorem agd (x:Int) {H:Z} (y:aa E G H):aV E G 225 [ap x] H [] (fun v H'=>∃(n:Int),v=(ap n)):=by
 refine bB Tryz.f225 y ?_
 exact af 5 (ap (IntKind.u64.wrap ((IntKind.u64.wrap (x*2 ^ 2))-2))) H ⟨_,rfl⟩
theorem agc (x:Int):∃(n:Int),∀{H:Z},aa E G H→bF E 225 [ap x] H (.ret (ap n)) H []:=by
 obtain ⟨_,_,c,_,_,n,rfl⟩:=agd x eH
 exact ⟨n,fun y=>eh (et rfl) (.ground rfl) c y⟩
theorem aea (x:Int) {H:Z} (y:aa E G H):aV E G 227 [ap x] H [] (fun v H'=>∃(n:Int),v=(ap n)):=by
 refine bB Tryz.f227 y ?_
 exact af 9 (ap (Int.fdiv (IntKind.u64.wrap ((IntKind.u64.wrap (x+1))+(IntKind.u64.wrap ((BitVec.ofInt 64 (Int.fdiv x (2 ^ 2)) &&& BitVec.ofInt 64 1).toNat:Int)))) (2 ^ 2))) H ⟨_,rfl⟩
theorem QW (x:Int):∃(n:Int),∀{H:Z},aa E G H→bF E 227 [ap x] H (.ret (ap n)) H []:=by
 obtain ⟨_,_,c,_,_,n,rfl⟩:=aea x eH
 exact ⟨n,fun y=>eh (et rfl) (.ground rfl) c y⟩
theorem rE (x:Int) {H:Z}:bF E 209 [.int .u64 x] H (.ret (.float .f64 x.toNat)) H []:=bF.extern ok (fn:=Tryz.f209) (e:=Extern.MathFloatBits.float64frombits) an an an an an rfl rfl rfl
def rB (o:Bool):Value:=match o with |true=>.iface 247 (.int .i64 1) |false=>.nilIface
theorem Ww (o:Bool):j8 (rB o):=by
 cases o
 ·exact .ground rfl
 ·exact .iface (.ground rfl)
theorem NH (f:Nat) (o:Bool):j8 (.tuple #[.float .f64 f,rB o]):=.tuple fun x hx=>by
 simp only [List.mem_cons,aq,or_false] at hx
 rcases hx with rfl |rfl
 ·exact .ground rfl
 ·exact Ww o
theorem acy (m:Int) (e:Int) {H:Z} (y:aa E G H):aV E G 230 [ap m,M e] H [] (fun v H'=>∃(f:Nat) (o:Bool),v=.tuple #[.float .f64 f,rB o]):=by
 refine bB Tryz.f230 y ?_
 refine aY 4 (IntKind.u64.wrap ((BitVec.ofInt 64 m &&& BitVec.ofInt 64 4503599627370496).toNat:Int)) 0 ?_ ?_ <;> intro h1 q1
 ·exact ac 1 (rE m:bF E 209 [ap m] H (.ret (.float .f64 m.toNat)) H [])<|af 2 (.tuple #[.float .f64 m.toNat,.nilIface]) H ⟨_,false,rfl⟩
 refine aD 1 (e≥972) ?_ ?_ <;> intro h2 cv
 ·exact ac 3 (show bF E 209 [ap (IntKind.u64.wrap ((BitVec.ofInt 64 (IntKind.u64.wrap ((BitVec.ofInt 64 m &&& BitVec.ofInt 64 9223372036854775808).toNat:Int)) |||BitVec.ofInt 64 9218868437227405312).toNat:Int))] H (.ret (.float .f64 ((IntKind.u64.wrap ((BitVec.ofInt 64 (IntKind.u64.wrap ((BitVec.ofInt 64 m &&& BitVec.ofInt 64 9223372036854775808).toNat:Int)) |||BitVec.ofInt 64 9218868437227405312).toNat:Int)).toNat))) H [] from rE (IntKind.u64.wrap ((BitVec.ofInt 64 (IntKind.u64.wrap ((BitVec.ofInt 64 m &&& BitVec.ofInt 64 9223372036854775808).toNat:Int)) |||BitVec.ofInt 64 9218868437227405312).toNat:Int)))<|af 3 (.tuple #[.float .f64 ((IntKind.u64.wrap ((BitVec.ofInt 64 (IntKind.u64.wrap ((BitVec.ofInt 64 m &&& BitVec.ofInt 64 9223372036854775808).toNat:Int)) |||BitVec.ofInt 64 9218868437227405312).toNat:Int)).toNat),.iface 247 (M 1)]) H ⟨_,true,rfl⟩
 exact ac 7 (show bF E 209 [ap (IntKind.u64.wrap ((BitVec.ofInt 64 (IntKind.u64.wrap ((BitVec.ofInt 64 m &&& ~~~(BitVec.ofInt 64 4503599627370496)).toNat:Int)) |||BitVec.ofInt 64 (IntKind.u64.wrap ((IntKind.u64.wrap (IntKind.i64.wrap (1075+e)))*2 ^ 52))).toNat:Int))] H (.ret (.float .f64 ((IntKind.u64.wrap ((BitVec.ofInt 64 (IntKind.u64.wrap ((BitVec.ofInt 64 m &&& ~~~(BitVec.ofInt 64 4503599627370496)).toNat:Int)) |||BitVec.ofInt 64 (IntKind.u64.wrap ((IntKind.u64.wrap (IntKind.i64.wrap (1075+e)))*2 ^ 52))).toNat:Int)).toNat))) H [] from rE (IntKind.u64.wrap ((BitVec.ofInt 64 (IntKind.u64.wrap ((BitVec.ofInt 64 m &&& ~~~(BitVec.ofInt 64 4503599627370496)).toNat:Int)) |||BitVec.ofInt 64 (IntKind.u64.wrap ((IntKind.u64.wrap (IntKind.i64.wrap (1075+e)))*2 ^ 52))).toNat:Int)))<|af 2 (.tuple #[.float .f64 ((IntKind.u64.wrap ((BitVec.ofInt 64 (IntKind.u64.wrap ((BitVec.ofInt 64 m &&& ~~~(BitVec.ofInt 64 4503599627370496)).toNat:Int)) |||BitVec.ofInt 64 (IntKind.u64.wrap ((IntKind.u64.wrap (IntKind.i64.wrap (1075+e)))*2 ^ 52))).toNat:Int)).toNat),.nilIface]) H ⟨_,false,rfl⟩
theorem Qj (m:Int) (e:Int):∃(f:Nat) (o:Bool),∀{H:Z},aa E G H→bF E 230 [ap m,M e] H (.ret (.tuple #[.float .f64 f,rB o])) H []:=by
 obtain ⟨_,_,c,_,_,f,o,rfl⟩:=acy m e eH
 exact ⟨f,o,fun y=>eh (et rfl) (NH _ _) c y⟩
theorem Qt {i:Int} (h0:0≤i) (h1:i<696):∃ a b:Int,(Go.Pinned.pow10Rows.flatMap fun x=>[.int .u64 x.1,.int .u64 x.2])[0+i.toNat*2]?=some (Value.int .u64 a)∧(Go.Pinned.pow10Rows.flatMap fun x=>[.int .u64 x.1,.int .u64 x.2])[0+i.toNat*2+1]?=some (Value.int .u64 b):=by
 have h:=FV (fun x:Nat×Nat=>Value.int .u64 x.1) (fun x=>.int .u64 x.2) Go.Pinned.pow10Rows i.toNat
 have hlen:Go.Pinned.pow10Rows.length=696:=by kernel_rfl
 have hlt:i.toNat<Go.Pinned.pow10Rows.length:=J
 rw [fU hlt] at h
 refine ⟨((Go.Pinned.pow10Rows[i.toNat]).1:Nat),((Go.Pinned.pow10Rows[i.toNat]).2:Nat),?_,?_⟩
 ·rw [show 0+i.toNat*2=2*i.toNat by omega];exact h.1
 ·rw [show 0+i.toNat*2+1=2*i.toNat+1 by omega];exact h.2
theorem ac0 (b:Nat) (b0:Int) (b1:Int) (b2:Int) (e:Int) (p:Int) (pB:Int) {H:Z} (y:aa E G H) (kb:H.get b=some (O [.int .u64 b0,.int .u64 b1,.int .i64 b2] 296)) (pv:G.n≤b) (iC:-348≤p) (p1:p<348) (e0:-100000≤e) (e1:e≤100000) (l0:-100000≤pB) (l1:pB≤100000):aV E G 222 [pt b 0,M e,M p,M pB] H [b] (fun v H'=>∃ c0 c1 c2:Int,v=.tuple #[]∧H'.get b=some (O [.int .u64 c0,.int .u64 c1,.int .i64 c2] 296)):=by
 refine bB Tryz.f222 y ?_
 have gn:=iY
 have z8:=y.wf.lt kb
 obtain ⟨CZ,ai0,Yd,aia⟩:=Qt (i:=(p-(-348))) J J
 obtain ⟨aU,e1⟩:∃ ao,ao=H.set b (O [ap CZ,ap b1,M b2] 296):=⟨_,rfl⟩
 have y1:aa E G aU:=e1▸y.set _ J J
 have c8:aU.n=H.n+0:=by rw [e1,Z.cI] <;> rfl
 have gB:=bz e1
 obtain ⟨aiY,Au,ah9,Yf⟩:=Qt (i:=(p-(-348))) J J
 have Ze:=bW e1 J (L0 y)
 obtain ⟨aK,e2⟩:∃ ao,ao=aU.set b (O [ap CZ,ap Au,M b2] 296):=⟨_,rfl⟩
 have ar:aa E G aK:=e2▸y1.set _ J J
 have cB:aK.n=aU.n+0:=by rw [e2,Z.cI] <;> rfl
 have oJ:=bz e2
 obtain ⟨cf,bc⟩:∃ ao,ao=aK.set b (O [ap CZ,ap Au,M (0-((e+pB)+3))] 296):=⟨_,rfl⟩
 have zV:=bz bc
 exact aH 2 (p-(-348))<|aG 0 (p-(-348)) (696:Int)<|Y 1 (cH kZ (L0 y) Yd:al E 22 16 (0+(p-(-348)).toNat*2) H=some (ap CZ))<|aB 2 (stx 0 (ap CZ) Dm kb e1)<|aH 2 (p-(-348))<|aG 0 (p-(-348)) (696:Int)<|Y 1 (cH kZ Ze Yf:al E 22 16 ((0+(p-(-348)).toNat*2)+1) aU=some (ap Au))<|aB 2 (stx 1 (ap Au) Dm gB e2)<|aH 3 (e+pB)<|aH 0 ((e+pB)+3)<|aH 0 (0-((e+pB)+3))<|aB 2 (stx 2 (M (0-((e+pB)+3))) dK oJ bc)<|bf 0 (.tuple #[]) cf [b,b,b] aW aZ ⟨_,_,_,rfl,zV⟩
theorem SI (x:Int):0≤IntKind.i64.wrap (((BitVec.ofInt 64 x &&& BitVec.ofInt 64 63).toNat:Nat):Int):=by
 have h:(BitVec.ofInt 64 x &&& BitVec.ofInt 64 63).toNat≤63:=by
  rw [BitVec.toNat_and]
  exact Nat.and_le_right
 rw [nE J J]
 omega
theorem agf (b:Nat) (b0:Int) (b1:Int) (b2:Int) (x:Int) {H:Z} (y:aa E G H) (kb:H.get b=some (O [.int .u64 b0,.int .u64 b1,.int .i64 b2] 296)):aV E G 223 [ap x,pt b 0] H [] (fun v H'=>∃ n:Int,v=.int .u64 n):=by
 refine bB Tryz.f223 y ?_
 obtain ⟨u7,Kr,xz⟩:=Px x b0
 obtain ⟨mV,Yk,aic⟩:∃ x:Int,IntKind.i64.wrap ((BitVec.ofInt 64 b2 &&& BitVec.ofInt 64 63).toNat:Int)=x∧0≤x:=⟨_,rfl,SI _⟩
 have w1:((M (IntKind.i64.wrap ((BitVec.ofInt 64 b2 &&& BitVec.ofInt 64 63).toNat:Int))):Value)=(M mV):=(by rw [Yk])
 refine Y 5 (ag 0 kZ kb)<|ac 0 (xz y)<|Y 8 (ag 2 av kb)<|az [.as (M mV)] w1<|aE [am 2]<|az [.ax] (by omega:0≤mV)<|aE [am 0]<|az [.ax] (by omega:0≤mV)<|d7 1 (IntKind.u64.wrap ((Int.fdiv u7 (2 ^ (min mV.toNat IntKind.u64.bits)))*2 ^ (min mV.toNat IntKind.u64.bits))) u7 ?_ ?_ <;> intro h1 q1
 ·exact aE [am 1]<|az [.ax] (by omega:0≤mV)<|af 2 (ap (IntKind.u64.wrap ((BitVec.ofInt 64 (Int.fdiv u7 (2 ^ (min mV.toNat IntKind.u64.bits))) |||BitVec.ofInt 64 1).toNat:Int))) H ⟨_,rfl⟩
 obtain ⟨yo,ai8,vS⟩:=Px x b1
 refine Y 4 (ag 1 kZ kb)<|ac 0 (vS y)<|aD 8 (Kr<yo) ?_ ?_ <;> intro h2 cv
 ·obtain ⟨C4,_,BO⟩:=xb true
  rcases df (decide ((IntKind.u64.wrap (Kr-yo))>1)) with h3 |h3
  ·obtain ⟨yq,_,xA⟩:=xb true
   exact ac 0 (BO y)<|aE [am 1]<|aE [am 1]<|az [.ax] (by omega:0≤mV)<|ay 3 h3<|ac 0 (xA y)<|af 2 (ap (IntKind.u64.wrap ((BitVec.ofInt 64 (Int.fdiv (IntKind.u64.wrap (u7-C4)) (2 ^ (min mV.toNat IntKind.u64.bits))) |||BitVec.ofInt 64 yq).toNat:Int))) H ⟨_,rfl⟩
  obtain ⟨yq,_,xA⟩:=xb false
  exact ac 0 (BO y)<|aE [am 1]<|aE [am 1]<|az [.ax] (by omega:0≤mV)<|ay 3 h3<|ac 0 (xA y)<|af 2 (ap (IntKind.u64.wrap ((BitVec.ofInt 64 (Int.fdiv (IntKind.u64.wrap (u7-C4)) (2 ^ (min mV.toNat IntKind.u64.bits))) |||BitVec.ofInt 64 yq).toNat:Int))) H ⟨_,rfl⟩
 obtain ⟨C4,_,BO⟩:=xb false
 rcases df (decide ((IntKind.u64.wrap (Kr-yo))>1)) with h3 |h3
 ·obtain ⟨yq,_,xA⟩:=xb true
  exact ac 0 (BO y)<|aE [am 1]<|aE [am 1]<|az [.ax] (by omega:0≤mV)<|ay 3 h3<|ac 0 (xA y)<|af 2 (ap (IntKind.u64.wrap ((BitVec.ofInt 64 (Int.fdiv (IntKind.u64.wrap (u7-C4)) (2 ^ (min mV.toNat IntKind.u64.bits))) |||BitVec.ofInt 64 yq).toNat:Int))) H ⟨_,rfl⟩
 obtain ⟨yq,_,xA⟩:=xb false
 exact ac 0 (BO y)<|aE [am 1]<|aE [am 1]<|az [.ax] (by omega:0≤mV)<|ay 3 h3<|ac 0 (xA y)<|af 2 (ap (IntKind.u64.wrap ((BitVec.ofInt 64 (Int.fdiv (IntKind.u64.wrap (u7-C4)) (2 ^ (min mV.toNat IntKind.u64.bits))) |||BitVec.ofInt 64 yq).toNat:Int))) H ⟨_,rfl⟩
theorem Po (x y:Int):∃ z:Int,(if y<x then y else x)=z∧(z=x∨z=y)∧z≤x∧z≤y:=by
 by_cases h:y<x
 ·exact ⟨y,if_pos h,.inr rfl,J,J⟩
 ·exact ⟨x,if_neg h,.inl rfl,J,J⟩
theorem acB (d:Int) (p:Int) (tO:Int) {H:Z} (y:aa E G H) (iC:-345≤p) (p1:p≤310):aV E G 211 [ap d,M p,ap tO] H [] (fun v H'=>∃(f:Nat) (o:Bool),v=.tuple #[.float .f64 f,rB o]):=by
 have g0:=y.n
 refine bB Tryz.f211 y ?_
 obtain ⟨d8,ah0,hbc⟩:=aaL d
 obtain ⟨pB,ah6,hlc⟩:=aa6 p J J
 obtain ⟨mn,hmn,mM,zM,X2⟩:=Po 1074 ((53-d8)-pB)
 have w1:((M (if ((53-d8)-pB)<1074 then ((53-d8)-pB) else 1074)):Value)=(M mn):=(by rw [hmn])
 obtain ⟨_,H1,c1,ak,y1,afh,afi,Rw,rfl,b9⟩:=ac0 (H.n+0) 0 0 0 (mn-(64-d8)) p pB (y.news [O [ap 0,ap 0,M 0] 296]) (aR [O [ap 0,ap 0,M 0] 296] H 0 _ rfl) J J J J J J J
 have c8:=d9 ak
 refine ac 3 (hbc y)<|ac 2 (hlc y)<|aH 2 (53-d8)<|aH 1 ((53-d8)-pB)<|az [.as (M mn)] w1<|aH 4 (64-d8)<|aH 0 (mn-(64-d8))<|ac 2 c1<|Y 1 (ag 2 av b9)<|aD 0 (Rw≥64) ?_ ?_ <;> intro h1 q1
 ·exact ac 2 (rE (IntKind.u64.wrap ((BitVec.ofInt 64 tO |||BitVec.ofInt 64 0).toNat:Int)):bF E 209 [ap (IntKind.u64.wrap ((BitVec.ofInt 64 tO |||BitVec.ofInt 64 0).toNat:Int))] H1 (.ret (.float .f64 ((IntKind.u64.wrap ((BitVec.ofInt 64 tO |||BitVec.ofInt 64 0).toNat:Int)).toNat))) H1 [])<|bf 2 (.tuple #[.float .f64 ((IntKind.u64.wrap ((BitVec.ofInt 64 tO |||BitVec.ofInt 64 0).toNat:Int)).toNat),.nilIface]) H1 [H.n+0] aJ aL ⟨_,false,rfl⟩
 obtain ⟨_,H2,c2,aF,ar,us,rfl⟩:=agf (H.n+0) afh afi Rw (IntKind.u64.wrap (d*2 ^ (min (64-d8).toNat IntKind.u64.bits))) y1 b9
 have cB:H1.n+0≤H2.n:=aF.n
 obtain ⟨u7,xz⟩:=agc 9007199254740992
 refine aH 2 (64-d8)<|az [.ax] (by omega:0≤(64-d8))<|ac 0 c2<|ac 2 (xz ar)<|aD 0 (us≥u7) ?_ ?_ <;> intro h2 cv
 ·obtain ⟨bi,Xv,Ij⟩:=MF true
  obtain ⟨yo,vS⟩:=QW (IntKind.u64.wrap ((BitVec.ofInt 64 (Int.fdiv us (2 ^ (min bi.toNat IntKind.u64.bits))) |||BitVec.ofInt 64 (IntKind.u64.wrap ((BitVec.ofInt 64 us &&& BitVec.ofInt 64 1).toNat:Int))).toNat:Int))
  obtain ⟨pf,po,hpk⟩:=Qj (IntKind.u64.wrap ((BitVec.ofInt 64 tO |||BitVec.ofInt 64 yo).toNat:Int)) (0-(mn-bi))
  exact ac 0 (Ij ar)<|aE [am 2]<|az [.ax] (by omega:0≤bi)<|aH 6 (mn-bi)<|ac 3 (vS ar)<|aH 2 (0-(mn-bi))<|ac 0 (hpk ar)<|bf 4 (.tuple #[.float .f64 pf,rB po]) H2 [H.n+0] aJ aL ⟨_,po,rfl⟩
 obtain ⟨bi,Xv,Ij⟩:=MF false
 obtain ⟨yo,vS⟩:=QW (IntKind.u64.wrap ((BitVec.ofInt 64 (Int.fdiv us (2 ^ (min bi.toNat IntKind.u64.bits))) |||BitVec.ofInt 64 (IntKind.u64.wrap ((BitVec.ofInt 64 us &&& BitVec.ofInt 64 1).toNat:Int))).toNat:Int))
 obtain ⟨pf,po,hpk⟩:=Qj (IntKind.u64.wrap ((BitVec.ofInt 64 tO |||BitVec.ofInt 64 yo).toNat:Int)) (0-(mn-bi))
 exact ac 0 (Ij ar)<|aE [am 2]<|az [.ax] (by omega:0≤bi)<|aH 6 (mn-bi)<|ac 3 (vS ar)<|aH 2 (0-(mn-bi))<|ac 0 (hpk ar)<|bf 4 (.tuple #[.float .f64 pf,rB po]) H2 [H.n+0] aJ aL ⟨_,po,rfl⟩
theorem Kf (d:Int) (p:Int) (tO:Int) (iC:-345≤p) (p1:p≤310):∃(f:Nat) (o:Bool),∀{H:Z},aa E G H→bF E 211 [ap d,M p,ap tO] H (.ret (.tuple #[.float .f64 f,rB o])) H []:=by
 obtain ⟨_,_,c,_,_,f,o,rfl⟩:=acB d p tO eH iC p1
 exact ⟨f,o,fun y=>eh (et rfl) (NH _ _) c y⟩
end Go.Proofs.YtglmagcldkngbaaGreatDoor
namespace Go.Proofs.YtglmagcldkngbaaGreatDoor
open Go Go.Am Go.Shelf Go.RowKit
def ad4:Ren:=⟨fun n=>match n with |25=>192 |_=>n,fun t=>match t with |37=>192 |47=>288 |t=>t,fun g=>g⟩
theorem clone_lays:LaysPu.n25 Tryz.prog ad4 where
 mixed:=by kernel_rfl
 f25:=by kernel_rfl
 t0:=ok.ul an
 a0:=sd ok an
 z0:=lU ok an
 v0:=oU ok an
 i0:=by kernel_rfl
 t3:=ok.ul an
 a3:=sd ok an
 z3:=lU ok an
 v3:=oU ok an
 i3:=by kernel_rfl
 t4:=ok.ul an
 a4:=sd ok an
 z4:=lU ok an
 v4:=oU ok an
 i4:=by kernel_rfl
 t5:=ok.ul an
 a5:=sd ok an
 z5:=lU ok an
 v5:=oU ok an
 i5:=by kernel_rfl
 t9:=ok.ul an
 a9:=sd ok an
 z9:=lU ok an
 v9:=oU ok an
 i9:=by kernel_rfl
 t37:=ok.ul an
 a37:=sd ok an
 z37:=lU ok an
 v37:=oU ok an
 i37:=by kernel_rfl
 t47:=ok.ul an
 a47:=sd ok an
 z47:=lU ok an
 v47:=oU ok an
 i47:=by kernel_rfl
theorem bF.ab7 {g:FuncId} {fn:Func} {args:List Value} {v:Value} {H:Z} (hf:E.func g=some fn) (hn:(fn.name== "runtime.NumGoroutine")=false) (hb:fn.body.isNone=false) (ha:args.all ground=true) (hv:ground v=true)
  (h:∀ w,Calls E.P g args.toArray w fun e w'=>e=.returned v∧Go.RowKit.Below w.heap.size w w'):bF E g args H (.ret v) H []:=fun wf cE=>
 ⟨dn.refl ..,wf,fun base φ w args' dr hfr hl=>by
  have:=hl.s4 ha
  subst this
  refine .inl ⟨?_,(h w).mono fun e w' he=>?_⟩
  ·unfold callFunc
   rw [Go.Am.bI (Go.Am.run_program w)]
   simp only [ok.func _ _ hf,hn,Bool.false_eq_true,if_false,hb]
   rfl
  ·obtain ⟨rfl,hs⟩:=he
   refine ⟨φ,⟨fun _ _=>rfl,⟨Nat.le_trans dr.bs hs.size,fun i l o hi hl ho=>?_,fun i l hi hl hlv=>Nat.lt_of_lt_of_le (dr.lt i l hi hl hlv) hs.size,dr.inj,dr.iO⟩,⟨hs.os,hs.tape,hs.output,hs.size,fun B hB _=>hs.block B hB⟩,fun i l h1 h2=>by omega⟩,v,rfl,.r3 hv⟩
   have hb:=dr.blocks i l o hi hl ho
   by_cases hlv:live (H.get i)=true
   ·exact hb.same (hs.block _ (dr.lt i l hi hl hlv))
   ·rw [ho] at hlv
    cases o with
    |cells c e ro=>
     cases ro with
     |false=>cases c <;> exact absurd rfl hlv
     |true=>
      cases c with
      |nil=>intro j x hx;simp at hx
      |cons _ _=>exact absurd rfl hlv
    |map es ax=>exact absurd rfl hlv
    |dead=>trivial⟩
theorem clone (s:ByteArray) (hs:(s.size:Int)≤1000) {H:Z}:bF E 192 [.string s] H (.ret (.string s)) H []:=
 bF.ab7 (fn:=Tryz.f192) an an an rfl rfl fun w=>AnyPu.stringslite_Clone clone_lays s w J
end Go.Proofs.YtglmagcldkngbaaGreatDoor
namespace Go.Proofs.YtglmagcldkngbaaGreatDoor
open Go Go.Am
noncomputable def Uv:Code:=cw [1,1,0,1,0,0] (cx Tryz.f216)
theorem aaf (s:ByteArray) (t:ByteArray) (mn:Int):∀(m:Nat) (bD:Int) (H:Z),aa E G H→(h0:0≤bD)→(b1:mn≤s.size)→(b2:mn≤t.size)→(b3:mn≤1000)→(mn-bD).toNat=m→
  bV E G 36 Uv [(0,.string s),(1,.string t),(5,M mn),(6,M bD)] H [] (fun x T H'=>(x=(.exit 0)∧T=aP [(5,M mn)])∨(x=.ret∧∃(z4:Int),T=aP [(4,M z4)])):=by
 refine dJ fun m ih=>?_
 intro bD H y h0 b1 b2 b3 hm
 refine cN y ?_
 refine aD 2 (bD<mn) ?_ ?_ <;> intro h1 q1
 ·refine aG 2 bD (s.size:Int)<|aD 2 (65≤(ad s bD)) ?_ ?_ <;> intro h2 cv
  ·refine aD 2 ((ad s bD)≤90) ?_ ?_ <;> intro h3 cY
   ·refine aG 7 bD (t.size:Int)<|d7 0 (IntKind.u8.wrap ((ad s bD)+32)) (ad t bD) ?_ ?_ <;> intro h4 cO
    ·exact cF 2 [(4,M bD)] .ret H (.inr ⟨rfl,bD,rfl⟩)
    exact aH 1 (bD+1)<|du 1 [(0,.string s),(1,.string t),(5,M mn),(6,M (bD+1))] H (ih _ J (bD+1) _ y J b1 b2 b3 rfl)
   refine aG 4 bD (t.size:Int)<|d7 0 (ad s bD) (ad t bD) ?_ ?_ <;> intro h4 cO
   ·exact cF 2 [(4,M bD)] .ret H (.inr ⟨rfl,bD,rfl⟩)
   exact aH 1 (bD+1)<|du 1 [(0,.string s),(1,.string t),(5,M mn),(6,M (bD+1))] H (ih _ J (bD+1) _ y J b1 b2 b3 rfl)
  refine aG 5 bD (t.size:Int)<|d7 0 (ad s bD) (ad t bD) ?_ ?_ <;> intro h3 cY
  ·exact cF 2 [(4,M bD)] .ret H (.inr ⟨rfl,bD,rfl⟩)
  exact aH 1 (bD+1)<|du 1 [(0,.string s),(1,.string t),(5,M mn),(6,M (bD+1))] H (ih _ J (bD+1) _ y J b1 b2 b3 rfl)
 exact cF 0 [(5,M mn)] (.exit 0) H (.inl ⟨rfl,rfl⟩)
theorem UX (s:ByteArray) (t:ByteArray) {H:Z} (y:aa E G H) (hs:(s.size:Int)<1000) (ht:(t.size:Int)<1000):aV E G 216 [.string s,.string t] H [] (fun v H'=>∃(n:Int),v=(M n)):=by
 refine bB Tryz.f216 y ?_
 obtain ⟨mn,hmn,mM,zM,X2⟩:=Po (t.size:Int) (s.size:Int)
 have w1:((M (if (s.size:Int)<(t.size:Int) then (s.size:Int) else (t.size:Int))):Value)=(M mn):=(by rw [hmn])
 obtain ⟨_,_,H1,c1,ak,y1,bE⟩:=(aaf s t mn _ 0 _ y J J J J rfl).code
 refine aE [am 4]<|az [.as (M mn)] w1<|?_
 rcases bE with ⟨rfl,rfl⟩ |⟨rfl,fV,rfl⟩
 ·exact bx 2 c1<|af 2 (M mn) H1 ⟨_,rfl⟩
 exact bx 2 c1<|af 0 (M fV) H1 ⟨_,rfl⟩
theorem commonPrefix (s:ByteArray) (t:ByteArray) (hs:(s.size:Int)<1000) (ht:(t.size:Int)<1000):∃(n:Int),∀{H:Z},aa E G H→bF E 216 [.string s,.string t] H (.ret (M n)) H []:=by
 obtain ⟨_,_,c,_,_,n,rfl⟩:=UX s t eH hs ht
 exact ⟨n,fun y=>eh (et rfl) (.ground rfl) c y⟩
theorem aeU (n:Int) {H:Z} (y:aa E G H):aV E G 217 [M n] H [] (fun v H'=>∃(f:Nat),v=(.float .f64 f)):=by
 refine bB Tryz.f217 y ?_
 refine aD 3 (n≥0) ?_ ?_ <;> intro h1 q1
 ·exact ac 2 (rE 9218868437227405312:bF E 209 [ap 9218868437227405312] H (.ret (.float .f64 ((9218868437227405312:Int).toNat))) H [])<|af 1 (.float .f64 ((9218868437227405312:Int).toNat)) H ⟨_,rfl⟩
 exact ac 2 (rE 18442240474082181120:bF E 209 [ap 18442240474082181120] H (.ret (.float .f64 ((18442240474082181120:Int).toNat))) H [])<|af 1 (.float .f64 ((18442240474082181120:Int).toNat)) H ⟨_,rfl⟩
theorem Df (n:Int):∃(f:Nat),∀{H:Z},aa E G H→bF E 217 [M n] H (.ret (.float .f64 f)) H []:=by
 obtain ⟨_,_,c,_,_,f,rfl⟩:=aeU n eH
 exact ⟨f,fun y=>eh (et rfl) (.ground rfl) c y⟩
theorem ae4  {H:Z} (y:aa E G H):aV E G 218 [] H [] (fun v H'=>∃(f:Nat),v=(.float .f64 f)):=by
 refine bB Tryz.f218 y ?_
 exact ac 1 (rE 9221120237041090561:bF E 209 [ap 9221120237041090561] H (.ret (.float .f64 ((9221120237041090561:Int).toNat))) H [])<|af 1 (.float .f64 ((9221120237041090561:Int).toNat)) H ⟨_,rfl⟩
theorem ae3 :∃(f:Nat),∀{H:Z},aa E G H→bF E 218 [] H (.ret (.float .f64 f)) H []:=by
 obtain ⟨_,_,c,_,_,f,rfl⟩:=ae4  eH
 exact ⟨f,fun y=>eh (et rfl) (.ground rfl) c y⟩
noncomputable def Vb:Code:=cw [1,1,1,1,0,1,0,0,0,0] (cx Tryz.f199)
theorem acr (s:ByteArray)  {H:Z} (y:aa E G H) (hs:(s.size:Int)<1000) (b0:0<(s.size:Int)) :
  jL E G 50 Vb [(0,.string s),(5,M 1),(6,M 0),(12,ab (ad s 0))] H [] (fun x T H'=>(x=.normal∧∃(z0:ByteArray) (z5:Int) (nF:Int),T=aP [(0,.string z0),(5,M z5),(6,M nF)]∧((z0.size:Int)<1000))∨(x=(.exit 3)∧∃(z0:ByteArray),T=aP [(0,.string z0)]∧((z0.size:Int)<1000))∨(x=(.exit 0)∧T=aP [])):=by
 refine mq y ?_
 refine aY 0 (ad s 0) 43 ?_ ?_ <;> intro h1 q1
 ·refine aG 2 (0:Int) (s.size:Int)<|aY 0 (ad s 0) 45 ?_ ?_ <;> intro h2 cv
  ·exact aE [am 2]<|eV [.ax] (by omega:0≤(1:Int)) (by omega:(1:Int)≤(s.size:Int))<|cM 1 [(0,.string (s.extract (1:Int).toNat s.size)),(5,M (-1)),(6,M 1)] .normal H (.inl ⟨rfl,s.extract (1:Int).toNat s.size,-1,1,rfl,(by first |omega |(simp only [iy];omega))⟩)
  exact aE [am 1]<|eV [.ax] (by omega:0≤(1:Int)) (by omega:(1:Int)≤(s.size:Int))<|cM 1 [(0,.string (s.extract (1:Int).toNat s.size)),(5,M 1),(6,M 1)] .normal H (.inl ⟨rfl,s.extract (1:Int).toNat s.size,1,1,rfl,(by first |omega |(simp only [iy];omega))⟩)
 refine aY 1 (ad s 0) 45 ?_ ?_ <;> intro h2 cv
 ·exact aG 2 (0:Int) (s.size:Int)<|ay 0 h2<|aE [am 2]<|eV [.ax] (by omega:0≤(1:Int)) (by omega:(1:Int)≤(s.size:Int))<|cM 1 [(0,.string (s.extract (1:Int).toNat s.size)),(5,M (-1)),(6,M 1)] .normal H (.inl ⟨rfl,s.extract (1:Int).toNat s.size,-1,1,rfl,(by first |omega |(simp only [iy];omega))⟩)
 refine aY 1 (ad s 0) 105 ?_ ?_ <;> intro h3 cY
 ·exact cM 1 [(0,.string s),(5,M 1),(6,M 0)] .normal H (.inl ⟨rfl,s,1,0,rfl,(by first |omega |(simp only [iy];omega))⟩)
 refine aY 1 (ad s 0) 73 ?_ ?_ <;> intro h4 cO
 ·exact cM 1 [(0,.string s),(5,M 1),(6,M 0)] .normal H (.inl ⟨rfl,s,1,0,rfl,(by first |omega |(simp only [iy];omega))⟩)
 refine aY 1 (ad s 0) 110 ?_ ?_ <;> intro h5 dc
 ·exact cM 1 [(0,.string s)] (.exit 3) H (.inr (.inl ⟨rfl,s,rfl,(by first |omega |(simp only [iy];omega))⟩))
 refine aY 1 (ad s 0) 78 ?_ ?_ <;> intro h6 di
 ·exact cM 1 [(0,.string s)] (.exit 3) H (.inr (.inl ⟨rfl,s,rfl,(by first |omega |(simp only [iy];omega))⟩))
 exact cM 1 [] (.exit 0) H (.inr (.inr ⟨rfl,rfl⟩))
theorem afe (s:ByteArray) {H:Z} (y:aa E G H) (hs:(s.size:Int)<1000):aV E G 199 [.string s] H [] (fun v H'=>∃(f:Nat) (n:Int) (b:Bool),v=(.tuple #[.float .f64 f,M n,.bool b])):=by
 refine bB Tryz.f199 y ?_
 refine aY 5 (s.size:Int) 0 ?_ ?_ <;> intro h1 q1
 ·exact af 3 (.tuple #[.float .f64 0,M 0,U]) H ⟨_,_,false,rfl⟩
 obtain ⟨_,_,H1,c1,ak,y1,bE⟩:=acr s  y hs J
 refine aG 3 (0:Int) (s.size:Int)<|?_
 rcases bE with ⟨rfl,so,iL,lX,rfl,aI⟩ |⟨rfl,so,rfl,aI⟩ |⟨rfl,rfl⟩
 ·obtain ⟨qF,Ip⟩:=commonPrefix so ⟨#[105,110,102,105,110,105,116,121]⟩ (by first |omega |(simp only [iy];omega)) (by decide)
  refine gi 0 4 c1<|ac 1 (Ip y1)<|aD 2 (3<qF) ?_ ?_ <;> intro h3 cY
  ·refine aD 2 (qF<8) ?_ ?_ <;> intro h4 cO
   ·obtain ⟨v_2,rM⟩:=Df iL
    exact ac 7 (rM y1)<|af 6 (.tuple #[.float .f64 v_2,M (IntKind.i64.wrap (lX+3)),aw]) H1 ⟨_,_,true,rfl⟩
   refine aY 2 qF 3 ?_ ?_ <;> intro h5 dc
   ·obtain ⟨v_2,rM⟩:=Df iL
    exact ac 3 (rM y1)<|af 6 (.tuple #[.float .f64 v_2,M (IntKind.i64.wrap (lX+qF)),aw]) H1 ⟨_,_,true,rfl⟩
   refine aY 2 qF 8 ?_ ?_ <;> intro h6 di
   ·obtain ⟨v_2,rM⟩:=Df iL
    exact ac 2 (rM y1)<|af 6 (.tuple #[.float .f64 v_2,M (IntKind.i64.wrap (lX+qF)),aw]) H1 ⟨_,_,true,rfl⟩
   exact af 4 (.tuple #[.float .f64 0,M 0,U]) H1 ⟨_,_,false,rfl⟩
  refine aY 3 qF 3 ?_ ?_ <;> intro h4 cO
  ·obtain ⟨v_2,rM⟩:=Df iL
   exact ac 3 (rM y1)<|af 6 (.tuple #[.float .f64 v_2,M (IntKind.i64.wrap (lX+qF)),aw]) H1 ⟨_,_,true,rfl⟩
  refine aY 2 qF 8 ?_ ?_ <;> intro h5 dc
  ·obtain ⟨v_2,rM⟩:=Df iL
   exact ac 2 (rM y1)<|af 6 (.tuple #[.float .f64 v_2,M (IntKind.i64.wrap (lX+qF)),aw]) H1 ⟨_,_,true,rfl⟩
  exact af 4 (.tuple #[.float .f64 0,M 0,U]) H1 ⟨_,_,false,rfl⟩
 ·obtain ⟨qF,Ip⟩:=commonPrefix so ⟨#[110,97,110]⟩ (by first |omega |(simp only [iy];omega)) (by decide)
  refine gi 0 4 c1<|ac 1 (Ip y1)<|aY 0 qF 3 ?_ ?_ <;> intro h3 cY
  ·obtain ⟨v_2,rM⟩:=ae3
   exact ac 0 (rM y1)<|af 3 (.tuple #[.float .f64 v_2,M 3,aw]) H1 ⟨_,_,true,rfl⟩
  exact af 3 (.tuple #[.float .f64 0,M 0,U]) H1 ⟨_,_,false,rfl⟩
 exact gi 0 4 c1<|af 3 (.tuple #[.float .f64 0,M 0,U]) H1 ⟨_,_,false,rfl⟩
theorem afd (s:ByteArray) (hs:(s.size:Int)<1000):∃(f:Nat) (n:Int) (b:Bool),∀{H:Z},aa E G H→bF E 199 [.string s] H (.ret (.tuple #[.float .f64 f,M n,.bool b])) H []:=by
 obtain ⟨_,_,c,_,_,f,n,b,rfl⟩:=afe s eH hs
 exact ⟨f,n,b,fun y=>eh (et rfl) (.ground rfl) c y⟩
def DJ (e:Value):Prop:=e=.nilIface∨e=.iface 247 (.int .i64 1)∨e=.iface 247 (.int .i64 2)
theorem NE (o:Bool):DJ (rB o):=by
 cases o
 ·exact .inl rfl
 ·exact .inr (.inl rfl)
theorem WM (a:Nat) (ds:List Int) (nd dp:Int) (neg aT:Bool) {H:Z} (y:aa E G H) (ka:H.get a=some (O (cQ ds nd dp neg aT) 281)) (hl:ds.length=800) (hn:nd=0∨jM ds nd) (cU:G.n≤a) (nZ:-1000000<dp) (jZ:dp<1000000) :
  aV E G 207 [pt a 0,pt 12 0] H [a] (fun v H'=>∃(b:Int) (o:Bool),v=.tuple #[.int .u64 b,.bool o]):=by
 rcases hn with rfl |hn
 ·exact WL a ds dp neg aT y ka hl cU
 ·exact WK a ds nd dp neg aT y ka hn cU nZ jZ
theorem SW (s:ByteArray) {H:Z} (y:aa E G H) (gL:sA s) (hs:(s.size:Int)≤300):aV E G 191 [.string s] H [] (fun v H'=>∃(f:Nat) (n:Int) (e:Value),v=.tuple #[.float .f64 f,.int .i64 n,e]∧DJ e):=by
 have g0:=y.n
 refine bB Tryz.f191 y ?_
 obtain ⟨sf,wG,sb,hsp⟩:=afd s J
 refine ac 4 (hsp y)<|?_
 cases sb with
 |true=>
  exact af 13 (.tuple #[.float .f64 sf,M wG,.nilIface]) H ⟨_,_,_,rfl,.inl rfl⟩
 |false=>
  obtain ⟨q4,re,rg,rt,qm,ro,Yi,hrc⟩:=adg s gL hs
  obtain ⟨ajb,ajc,ai9,aja,ade,adf⟩:=Yi
  refine ac 9 (hrc y)<|?_
  cases ro with
  |true=>
   obtain ⟨ou,ah1,hbc⟩:=xb rg
   refine Y 18 (ag 0 fK (St y))<|ac 1 (hbc y)<|aY 3 q4 0 ?_ ?_ <;> intro h3 cY
   ·exact ac 2 (show bF E 209 [ap (IntKind.u64.wrap ((BitVec.ofInt 64 (IntKind.u64.wrap (ou*2 ^ 63)) |||BitVec.ofInt 64 0).toNat:Int))] H (.ret (.float .f64 ((IntKind.u64.wrap ((BitVec.ofInt 64 (IntKind.u64.wrap (ou*2 ^ 63)) |||BitVec.ofInt 64 0).toNat:Int)).toNat))) H [] from rE (IntKind.u64.wrap ((BitVec.ofInt 64 (IntKind.u64.wrap (ou*2 ^ 63)) |||BitVec.ofInt 64 0).toNat:Int)))<|af 4 (.tuple #[.float .f64 ((IntKind.u64.wrap ((BitVec.ofInt 64 (IntKind.u64.wrap (ou*2 ^ 63)) |||BitVec.ofInt 64 0).toNat:Int)).toNat),M qm,.nilIface]) H ⟨_,_,_,rfl,.inl rfl⟩
   refine aD 1 (re>310) ?_ ?_ <;> intro h4 cO
   ·exact ac 2 (show bF E 209 [ap (IntKind.u64.wrap ((BitVec.ofInt 64 (IntKind.u64.wrap (ou*2 ^ 63)) |||BitVec.ofInt 64 9218868437227405312).toNat:Int))] H (.ret (.float .f64 ((IntKind.u64.wrap ((BitVec.ofInt 64 (IntKind.u64.wrap (ou*2 ^ 63)) |||BitVec.ofInt 64 9218868437227405312).toNat:Int)).toNat))) H [] from rE (IntKind.u64.wrap ((BitVec.ofInt 64 (IntKind.u64.wrap (ou*2 ^ 63)) |||BitVec.ofInt 64 9218868437227405312).toNat:Int)))<|af 5 (.tuple #[.float .f64 ((IntKind.u64.wrap ((BitVec.ofInt 64 (IntKind.u64.wrap (ou*2 ^ 63)) |||BitVec.ofInt 64 9218868437227405312).toNat:Int)).toNat),M qm,.iface 247 (M 1)]) H ⟨_,_,_,rfl,.inr (.inl rfl)⟩
   refine aD 1 (re<(-345)) ?_ ?_ <;> intro h5 dc
   ·exact ac 2 (show bF E 209 [ap (IntKind.u64.wrap ((BitVec.ofInt 64 (IntKind.u64.wrap (ou*2 ^ 63)) |||BitVec.ofInt 64 0).toNat:Int))] H (.ret (.float .f64 ((IntKind.u64.wrap ((BitVec.ofInt 64 (IntKind.u64.wrap (ou*2 ^ 63)) |||BitVec.ofInt 64 0).toNat:Int)).toNat))) H [] from rE (IntKind.u64.wrap ((BitVec.ofInt 64 (IntKind.u64.wrap (ou*2 ^ 63)) |||BitVec.ofInt 64 0).toNat:Int)))<|af 4 (.tuple #[.float .f64 ((IntKind.u64.wrap ((BitVec.ofInt 64 (IntKind.u64.wrap (ou*2 ^ 63)) |||BitVec.ofInt 64 0).toNat:Int)).toNat),M qm,.nilIface]) H ⟨_,_,_,rfl,.inl rfl⟩
   cases rt with
   |true=>
    obtain ⟨FX,Kk,IC⟩:=Kf q4 re (IntKind.u64.wrap (ou*2 ^ 63)) J J
    obtain ⟨acO,ai4,Yh⟩:=Kf (IntKind.u64.wrap (q4+1)) re (IntKind.u64.wrap (ou*2 ^ 63)) J J
    refine ac 5 (IC y)<|ac 11 (Yh y)<|d5 7 (FloatKind.f64.format.order FX acO==some .eq) (fun h7=>?_) fun h7=>?_
    ·exact af 6 (.tuple #[.float .f64 FX,M qm,rB Kk]) H ⟨_,_,_,rfl,NE _⟩
    obtain ⟨_,H1,c1,ak,y1,bE⟩:=VY (H.n+0) (s.extract 0 qm.toNat) (y.news [O (cQ (List.replicate 800 0) 0 0 false false) 281]) (aR [O (cQ (List.replicate 800 0) 0 0 false false) 281] H 0 _ rfl) J (by first |omega |(simp only [iy];omega))
    refine aE [am 2]<|eV [.ax] (by omega:0≤qm) (by omega:qm≤(s.size:Int))<|?_
    rcases bE with rfl |⟨VX,V4,VW,V5,Wj,rfl,kd,dl,k9,uh,ln⟩
    ·have c8:=d9 ak
     exact ac 0 c1<|bf 6 (.tuple #[.float .f64 0,M qm,.iface 247 (M 2)]) H1 [H.n+0] aJ aL ⟨_,_,_,rfl,.inr (.inr rfl)⟩
    have c8:=d9 ak
    obtain ⟨_,H2,c2,aF,ar,BC,WE,rfl⟩:=WM (H.n+0) VX V4 VW V5 Wj y1 kd dl k9 J J J
    have cB:H1.n+0≤H2.n:=aF.n
    refine ac 0 c1<|ac 1 c2<|ac 6 (rE BC:bF E 209 [ap BC] H2 (.ret (.float .f64 BC.toNat)) H2 [])<|?_
    cases WE with
    |true=>
     exact bf 10 (.tuple #[.float .f64 BC.toNat,M qm,.iface 247 (M 1)]) H2 [H.n+0,H.n+0] aJ aL ⟨_,_,_,rfl,.inr (.inl rfl)⟩
    |false=>
     exact bf 8 (.tuple #[.float .f64 BC.toNat,M qm,.nilIface]) H2 [H.n+0,H.n+0] aJ aL ⟨_,_,_,rfl,.inl rfl⟩
   |false=>
    obtain ⟨xf,iJ,aio,YD⟩:=Wy q4 re rg ade adf
    refine ac 5 (YD y)<|?_
    cases iJ with
    |true=>
     exact af 11 (.tuple #[.float .f64 xf,M qm,.nilIface]) H ⟨_,_,_,rfl,.inl rfl⟩
    |false=>
     obtain ⟨FX,Kk,IC⟩:=Kf q4 re (IntKind.u64.wrap (ou*2 ^ 63)) J J
     exact ac 9 (IC y)<|af 13 (.tuple #[.float .f64 FX,M qm,rB Kk]) H ⟨_,_,_,rfl,NE _⟩
  |false=>
   exact af 22 (.tuple #[.float .f64 0,M qm,.iface 247 (M 2)]) H ⟨_,_,_,rfl,.inr (.inr rfl)⟩
theorem WN (s:ByteArray) {H:Z} (y:aa E G H) (gL:sA s) (hs:(s.size:Int)≤300):aV E G 181 [.string s,M 64] H [] (fun v H'=>∃(f:Nat) (n:Int) (e:Value),v=.tuple #[.float .f64 f,.int .i64 n,e]∧DJ e):=by
 refine bB Tryz.f181 y ?_
 obtain ⟨_,H1,c1,ak,y1,w6,G8,ae,rfl,BI⟩:=SW s y gL hs
 exact ac 6 c1<|af 6 (.tuple #[.float .f64 w6,M G8,ae]) H1 ⟨_,_,_,rfl,BI⟩
theorem WJ (s:ByteArray) {H:Z} (y:aa E G H) (gL:sA s) (hs:(s.size:Int)≤300):aV E G 168 [.string s,M 64] H [] (fun v H'=>∃(f:Nat) (e:Value),v=.tuple #[.float .f64 f,e]∧DJ e):=by
 refine bB Tryz.f168 y ?_
 obtain ⟨_,H1,c1,ak,y1,w6,G8,ae,rfl,BI⟩:=WN s y gL hs
 refine ac 4 c1<|d7 10 G8 (s.size:Int) ?_ ?_ <;> intro h1 q1
 ·exact af 3 (.tuple #[.float .f64 0,.iface 247 (M 2)]) H1 ⟨_,_,rfl,.inr (.inr rfl)⟩
 exact af 4 (.tuple #[.float .f64 w6,ae]) H1 ⟨_,_,rfl,BI⟩
theorem afm (t:ByteArray) (s:ByteArray) {H:Z} (y:aa E G H) (hs:(s.size:Int)≤1000):aV E G 182 [.string t,.string s] H [] (fun v H'=>∃ b:Nat,v=pt b 0):=by
 refine bB Tryz.f182 y ?_
 exact aE [am 0]<|ac 2 (clone s hs:bF E 192 [.string s] H (.ret (.string s)) H [])<|Y 0 (ag 0 L9 (Su y))<|af 3 (pt (H.n+0) 0) (news H [O [.string t,.string s,.iface 289 (pt 24 0)] 261]) ⟨_,rfl⟩
theorem adb (t:ByteArray) (s:ByteArray) {H:Z} (y:aa E G H) (hs:(s.size:Int)≤1000):aV E G 183 [.string t,.string s] H [] (fun v H'=>∃ b:Nat,v=pt b 0):=by
 refine bB Tryz.f183 y ?_
 exact aE [am 0]<|ac 2 (clone s hs:bF E 192 [.string s] H (.ret (.string s)) H [])<|Y 0 (ag 0 L9 (Sv y))<|af 3 (pt (H.n+0) 0) (news H [O [.string t,.string s,.iface 289 (pt 25 0)] 261]) ⟨_,rfl⟩
theorem afw (s:ByteArray) {H:Z} (y:aa E G H) (hs:(s.size:Int)≤300):aV E G 169 [.string ⟨#[80,97,114,115,101,70,108,111,97,116]⟩,.string s,M 0,M 64,.iface 247 (M 1)] H [] (fun v H'=>∃ e:Value,e=v):=by
 refine bB Tryz.f169 y ?_
 obtain ⟨_,H1,c1,ak,y1,eb,rfl⟩:=adb ⟨#[80,97,114,115,101,70,108,111,97,116]⟩ s y J
 exact ac 10 c1<|af 2 (.iface 248 (pt eb 0)) H1 ⟨_,rfl⟩
theorem afx (s:ByteArray) {H:Z} (y:aa E G H) (hs:(s.size:Int)≤300):aV E G 169 [.string ⟨#[80,97,114,115,101,70,108,111,97,116]⟩,.string s,M 0,M 64,.iface 247 (M 2)] H [] (fun v H'=>∃ e:Value,e=v):=by
 refine bB Tryz.f169 y ?_
 obtain ⟨_,H1,c1,ak,y1,eb,rfl⟩:=afm ⟨#[80,97,114,115,101,70,108,111,97,116]⟩ s y J
 exact ac 7 c1<|af 2 (.iface 248 (pt eb 0)) H1 ⟨_,rfl⟩
theorem acA (s:ByteArray) {H:Z} (y:aa E G H) (gL:sA s) (hs:(s.size:Int)≤300):aV E G 151 [.string s,M 64] H [] (fun v H'=>∃(f:Nat) (e:Value),v=.tuple #[.float .f64 f,e]):=by
 refine bB Tryz.f151 y ?_
 obtain ⟨_,H1,c1,ak,y1,w6,ae,rfl,BI⟩:=WJ s y gL hs
 refine ac 4 c1<|?_
 rcases BI with rfl |rfl |rfl
 ·exact af 10 (.tuple #[.float .f64 w6,.nilIface]) H1 ⟨_,_,rfl⟩
 ·obtain ⟨_,H2,c2,aF,ar,te,rfl⟩:=afw s y1 hs
  exact ac 11 c2<|af 2 (.tuple #[.float .f64 w6,te]) H2 ⟨_,_,rfl⟩
 obtain ⟨_,H2,c2,aF,ar,te,rfl⟩:=afx s y1 hs
 exact ac 11 c2<|af 2 (.tuple #[.float .f64 w6,te]) H2 ⟨_,_,rfl⟩
theorem afV (s:ByteArray) {H:Z} (y:aa E G H):aV E G 166 [.string s,.string ⟨#[121,119,100,104,109,115]⟩] H [] (fun v H'=>∃ x,v=.string x∧x.size≤s.size):=by
 refine bB Tryz.f166 y ?_
 refine d5 2 (s.toList==(⟨#[]⟩:ByteArray).toList) (fun h1=>?_) fun h1=>?_
 ·exact af 4 (.string s) H ⟨_,rfl,Nat.le_refl _⟩
 obtain ⟨_,H1,c1,ak,y1,qw,rfl,xQ⟩:=RQ s (H.n+0) _ (fun _=>True) (y.news [O (setCells [121,119,100,104,109,115]) 240]) (aR [O (setCells [121,119,100,104,109,115]) 240] H 0 _ rfl) (.of _ fun _ _=>trivial)
 have c8:=d9 ak
 exact ac 10 (SS y)<|aB 4 (bG RH rfl an an rfl:bu E 240 (H.n+0) 0 (.agg (setCells [121,119,100,104,109,115]).toArray) (news H [O (List.replicate 256 U) 240])=some (news H [O (setCells [121,119,100,104,109,115]) 240]))<|ac 3 c1<|bf 1 (.string qw) H1 [H.n+0] aJ aL ⟨_,rfl,xQ.size⟩
theorem afU (s:ByteArray):∃(x:ByteArray),(x.size≤s.size)∧∀{H:Z},aa E G H→bF E 166 [.string s,.string ⟨#[121,119,100,104,109,115]⟩] H (.ret (.string x)) H []:=by
 obtain ⟨_,_,c,_,_,x,rfl,hs⟩:=afV s eH
 exact ⟨x,hs,fun y=>eh (et rfl) (.ground rfl) c y⟩
noncomputable def Un:Code:=cw [1,0,1,1,0,0,0] (cx Tryz.f152)
theorem Z1 (s:ByteArray) (most:Int):∀(m:Nat) (bg:Int) (b5:Int) (H:Z),aa E G H→(b0:0≤b5)→(b1:b5≤s.size)→(hs:(s.size:Int)<1000)→((s.size:Int)-b5).toNat=m→
  bV E G 47 Un [(0,.string s),(1,M most),(7,M bg),(8,M b5)] H [] (fun x T H'=>(x=(.exit 0)∧∃(j6:Int) (LI:Int),T=aP [(0,.string s),(1,M most),(7,M j6),(8,M LI)]∧((0≤LI)∧(LI≤s.size)))∨(x=.ret∧T=aP [(4,M 0),(5,.string ⟨#[]⟩),(6,U)])):=by
 refine dJ fun m ih=>?_
 intro bg b5 H y b0 b1 hs hm
 refine cN y ?_
 refine aD 3 (b5<(s.size:Int)) ?_ ?_ <;> intro h1 q1
 ·refine aG 2 b5 (s.size:Int)<|aD 2 ((ad s b5)<48) ?_ ?_ <;> intro h2 cv
  ·exact cF 3 [(0,.string s),(1,M most),(7,M bg),(8,M b5)] (.exit 0) H (.inl ⟨rfl,bg,b5,rfl,⟨J,J⟩⟩)
  refine aD 2 ((ad s b5)>57) ?_ ?_ <;> intro h3 cY
  ·exact cF 2 [(0,.string s),(1,M most),(7,M bg),(8,M b5)] (.exit 0) H (.inl ⟨rfl,bg,b5,rfl,⟨J,J⟩⟩)
  refine aD 4 (bg>most) ?_ ?_ <;> intro h4 cO
  ·exact cF 4 [(4,M 0),(5,.string ⟨#[]⟩),(6,U)] .ret H (.inr ⟨rfl,rfl⟩)
  exact aH 9 (b5+1)<|du 1 [(0,.string s),(1,M most),(7,M (IntKind.i64.wrap ((IntKind.i64.wrap (10*bg))+(IntKind.i64.wrap (IntKind.u8.wrap ((ad s b5)-48)))))),(8,M (b5+1))] H (ih _ J (IntKind.i64.wrap ((IntKind.i64.wrap (10*bg))+(IntKind.i64.wrap (IntKind.u8.wrap ((ad s b5)-48))))) (b5+1) _ y J J J rfl)
 exact cF 0 [(0,.string s),(1,M most),(7,M bg),(8,M b5)] (.exit 0) H (.inl ⟨rfl,bg,b5,rfl,⟨J,J⟩⟩)
theorem afb (s:ByteArray) (most:Int) {H:Z} (y:aa E G H) (hs:(s.size:Int)<1000):aV E G 152 [.string s,M most] H [] (fun v H'=>∃(n:Int) (x:ByteArray) (b:Bool),v=(.tuple #[M n,.string x,.bool b])∧((b=true→x.size<s.size)∧x.size≤s.size)):=by
 refine bB Tryz.f152 y ?_
 obtain ⟨_,_,H1,c1,ak,y1,bE⟩:=(Z1 s most _ 0 0 _ y J J J rfl).code
 rcases bE with ⟨rfl,oi,tU,rfl,aI,gv⟩ |⟨rfl,rfl⟩
 ·rcases df (decide (tU>0)) with h2 |h2
  ·have cv:=fD h2
   rcases df (decide (oi≤most)) with h3 |h3
   ·exact bx 5 c1<|aE [am 2]<|eV [.ax] (by omega:0≤tU) (by omega:tU≤(s.size:Int))<|ay 1 h2<|ay 3 h3<|af 4 (.tuple #[M oi,.string (s.extract tU.toNat s.size),aw]) H1 ⟨_,_,true,rfl,fun _=>by simp only [iy];omega,by simp only [iy];omega⟩
   exact bx 5 c1<|aE [am 2]<|eV [.ax] (by omega:0≤tU) (by omega:tU≤(s.size:Int))<|ay 1 h2<|ay 3 h3<|af 4 (.tuple #[M oi,.string (s.extract tU.toNat s.size),U]) H1 ⟨_,_,false,rfl,fun h=>absurd h aW,by simp only [iy];omega⟩
  have cv:=fM h2
  exact bx 5 c1<|aE [am 2]<|eV [.ax] (by omega:0≤tU) (by omega:tU≤(s.size:Int))<|ay 1 h2<|af 5 (.tuple #[M oi,.string (s.extract tU.toNat s.size),U]) H1 ⟨_,_,false,rfl,fun h=>absurd h aW,by simp only [iy];omega⟩
 exact bx 5 c1<|af 0 (.tuple #[M 0,.string ⟨#[]⟩,U]) H1 ⟨0,⟨#[]⟩,false,rfl,fun h=>absurd h aW,Nat.zero_le _⟩
theorem afa (s:ByteArray) (most:Int) (hs:(s.size:Int)<1000):∃(n:Int) (x:ByteArray) (b:Bool),((b=true→x.size<s.size)∧x.size≤s.size)∧∀{H:Z},aa E G H→bF E 152 [.string s,M most] H (.ret (.tuple #[M n,.string x,.bool b])) H []:=by
 obtain ⟨_,_,c,_,_,n,x,b,rfl,hs⟩:=afb s most eH hs
 exact ⟨n,x,b,hs,fun y=>eh (et rfl) (.ground rfl) c y⟩
noncomputable def vD:Code:=cw [1,1,0,1,0,0] (cx Tryz.f153)
noncomputable abbrev nU:=([.string ⟨#[121]⟩,M 31536000000,.string ⟨#[119]⟩,M 604800000,.string ⟨#[100]⟩,M 86400000,.string ⟨#[104]⟩,M 3600000,.string ⟨#[109]⟩,M 60000,.string ⟨#[115]⟩,M 1000,.string ⟨#[109,115]⟩,M 1]:List Value)
theorem Z9 (s:ByteArray) (nm:ByteArray)  {H:Z} (y:aa E G H) (hn:nm.size≤s.size) (hs:(s.size:Int)<1000):bV E G 30 vD [(0,.string s),(4,.string nm),(15,.agg (List.toArray nU)),(16,M 7)] H [] (fun x T H'=>(x=(.exit 0)∧T=aP [])∨(x=.ret∧∃(z2:Int) (z3:ByteArray),T=aP [(2,M z2),(3,.string z3)]∧((0≤z2)∧(z2≤6)∧(z3.size≤s.size)))):=by
 refine cN y ?_
 exact cF 1 [] (.exit 0) H (.inl ⟨rfl,rfl⟩)
noncomputable abbrev yd H:=news H [O [.string ⟨#[]⟩,M 0] 220]
noncomputable abbrev Fo H:=news H [O [.string ⟨#[109,115]⟩,M 1] 220]
theorem Z8 (s:ByteArray) (nm:ByteArray)  {H:Z} (y:aa E G H) (hn:nm.size≤s.size) (hs:(s.size:Int)<1000):bV E G 30 vD [(0,.string s),(4,.string nm),(15,.agg (List.toArray nU)),(16,M 6)] H [] (fun x T H'=>(x=(.exit 0)∧T=aP [])∨(x=.ret∧∃(z2:Int) (z3:ByteArray),T=aP [(2,M z2),(3,.string z3)]∧((0≤z2)∧(z2≤6)∧(z3.size≤s.size)))):=by
 refine cN y ?_
 refine aB 5 (bG yB rfl rfl rfl rfl:bu E 220 (H.n+0) 0 (.agg #[.string ⟨#[109,115]⟩,M 1]) (yd H)=some (Fo H))<|Y 1 (aQ (Fo H) 0 0 bA)<|d5 1 ((⟨#[109,115]⟩:ByteArray).toList==nm.toList) (fun h1=>?_) fun h1=>?_
 ·exact aE [am 3]<|eV [.ax] (by omega:0≤(nm.size:Int)) (by omega:(nm.size:Int)≤(s.size:Int))<|c5 2 [(2,M 6),(3,.string (s.extract (nm.size:Int).toNat s.size))] .ret (Fo H) [H.n+0] aJ aL (.inr ⟨rfl,6,s.extract (nm.size:Int).toNat s.size,rfl,⟨J,J,by simp only [iy];omega⟩⟩)
 exact dY 2 [(0,.string s),(4,.string nm),(15,.agg (List.toArray nU)),(16,M 7)] (Fo H) [H.n+0] aJ (Z9 s nm  (y.news [O [.string ⟨#[109,115]⟩,M 1] 220]) hn hs)
noncomputable abbrev Fp H:=news H [O [.string ⟨#[115]⟩,M 1000] 220]
theorem Z7 (s:ByteArray) (nm:ByteArray)  {H:Z} (y:aa E G H) (hn:nm.size≤s.size) (hs:(s.size:Int)<1000):bV E G 30 vD [(0,.string s),(4,.string nm),(15,.agg (List.toArray nU)),(16,M 5)] H [] (fun x T H'=>(x=(.exit 0)∧T=aP [])∨(x=.ret∧∃(z2:Int) (z3:ByteArray),T=aP [(2,M z2),(3,.string z3)]∧((0≤z2)∧(z2≤6)∧(z3.size≤s.size)))):=by
 refine cN y ?_
 refine aB 5 (bG yB rfl rfl rfl rfl:bu E 220 (H.n+0) 0 (.agg #[.string ⟨#[115]⟩,M 1000]) (yd H)=some (Fp H))<|Y 1 (aQ (Fp H) 0 0 bA)<|d5 1 ((⟨#[115]⟩:ByteArray).toList==nm.toList) (fun h1=>?_) fun h1=>?_
 ·exact aE [am 3]<|eV [.ax] (by omega:0≤(nm.size:Int)) (by omega:(nm.size:Int)≤(s.size:Int))<|c5 2 [(2,M 5),(3,.string (s.extract (nm.size:Int).toNat s.size))] .ret (Fp H) [H.n+0] aJ aL (.inr ⟨rfl,5,s.extract (nm.size:Int).toNat s.size,rfl,⟨J,J,by simp only [iy];omega⟩⟩)
 exact dY 2 [(0,.string s),(4,.string nm),(15,.agg (List.toArray nU)),(16,M 6)] (Fp H) [H.n+0] aJ (Z8 s nm  (y.news [O [.string ⟨#[115]⟩,M 1000] 220]) hn hs)
noncomputable abbrev Fq H:=news H [O [.string ⟨#[109]⟩,M 60000] 220]
theorem Z6 (s:ByteArray) (nm:ByteArray)  {H:Z} (y:aa E G H) (hn:nm.size≤s.size) (hs:(s.size:Int)<1000):bV E G 30 vD [(0,.string s),(4,.string nm),(15,.agg (List.toArray nU)),(16,M 4)] H [] (fun x T H'=>(x=(.exit 0)∧T=aP [])∨(x=.ret∧∃(z2:Int) (z3:ByteArray),T=aP [(2,M z2),(3,.string z3)]∧((0≤z2)∧(z2≤6)∧(z3.size≤s.size)))):=by
 refine cN y ?_
 refine aB 5 (bG yB rfl rfl rfl rfl:bu E 220 (H.n+0) 0 (.agg #[.string ⟨#[109]⟩,M 60000]) (yd H)=some (Fq H))<|Y 1 (aQ (Fq H) 0 0 bA)<|d5 1 ((⟨#[109]⟩:ByteArray).toList==nm.toList) (fun h1=>?_) fun h1=>?_
 ·exact aE [am 3]<|eV [.ax] (by omega:0≤(nm.size:Int)) (by omega:(nm.size:Int)≤(s.size:Int))<|c5 2 [(2,M 4),(3,.string (s.extract (nm.size:Int).toNat s.size))] .ret (Fq H) [H.n+0] aJ aL (.inr ⟨rfl,4,s.extract (nm.size:Int).toNat s.size,rfl,⟨J,J,by simp only [iy];omega⟩⟩)
 exact dY 2 [(0,.string s),(4,.string nm),(15,.agg (List.toArray nU)),(16,M 5)] (Fq H) [H.n+0] aJ (Z7 s nm  (y.news [O [.string ⟨#[109]⟩,M 60000] 220]) hn hs)
noncomputable abbrev Fr H:=news H [O [.string ⟨#[104]⟩,M 3600000] 220]
theorem Z5 (s:ByteArray) (nm:ByteArray)  {H:Z} (y:aa E G H) (hn:nm.size≤s.size) (hs:(s.size:Int)<1000):bV E G 30 vD [(0,.string s),(4,.string nm),(15,.agg (List.toArray nU)),(16,M 3)] H [] (fun x T H'=>(x=(.exit 0)∧T=aP [])∨(x=.ret∧∃(z2:Int) (z3:ByteArray),T=aP [(2,M z2),(3,.string z3)]∧((0≤z2)∧(z2≤6)∧(z3.size≤s.size)))):=by
 refine cN y ?_
 refine aB 5 (bG yB rfl rfl rfl rfl:bu E 220 (H.n+0) 0 (.agg #[.string ⟨#[104]⟩,M 3600000]) (yd H)=some (Fr H))<|Y 1 (aQ (Fr H) 0 0 bA)<|d5 1 ((⟨#[104]⟩:ByteArray).toList==nm.toList) (fun h1=>?_) fun h1=>?_
 ·exact aE [am 3]<|eV [.ax] (by omega:0≤(nm.size:Int)) (by omega:(nm.size:Int)≤(s.size:Int))<|c5 2 [(2,M 3),(3,.string (s.extract (nm.size:Int).toNat s.size))] .ret (Fr H) [H.n+0] aJ aL (.inr ⟨rfl,3,s.extract (nm.size:Int).toNat s.size,rfl,⟨J,J,by simp only [iy];omega⟩⟩)
 exact dY 2 [(0,.string s),(4,.string nm),(15,.agg (List.toArray nU)),(16,M 4)] (Fr H) [H.n+0] aJ (Z6 s nm  (y.news [O [.string ⟨#[104]⟩,M 3600000] 220]) hn hs)
noncomputable abbrev Fs H:=news H [O [.string ⟨#[100]⟩,M 86400000] 220]
theorem Z4 (s:ByteArray) (nm:ByteArray)  {H:Z} (y:aa E G H) (hn:nm.size≤s.size) (hs:(s.size:Int)<1000):bV E G 30 vD [(0,.string s),(4,.string nm),(15,.agg (List.toArray nU)),(16,M 2)] H [] (fun x T H'=>(x=(.exit 0)∧T=aP [])∨(x=.ret∧∃(z2:Int) (z3:ByteArray),T=aP [(2,M z2),(3,.string z3)]∧((0≤z2)∧(z2≤6)∧(z3.size≤s.size)))):=by
 refine cN y ?_
 refine aB 5 (bG yB rfl rfl rfl rfl:bu E 220 (H.n+0) 0 (.agg #[.string ⟨#[100]⟩,M 86400000]) (yd H)=some (Fs H))<|Y 1 (aQ (Fs H) 0 0 bA)<|d5 1 ((⟨#[100]⟩:ByteArray).toList==nm.toList) (fun h1=>?_) fun h1=>?_
 ·exact aE [am 3]<|eV [.ax] (by omega:0≤(nm.size:Int)) (by omega:(nm.size:Int)≤(s.size:Int))<|c5 2 [(2,M 2),(3,.string (s.extract (nm.size:Int).toNat s.size))] .ret (Fs H) [H.n+0] aJ aL (.inr ⟨rfl,2,s.extract (nm.size:Int).toNat s.size,rfl,⟨J,J,by simp only [iy];omega⟩⟩)
 exact dY 2 [(0,.string s),(4,.string nm),(15,.agg (List.toArray nU)),(16,M 3)] (Fs H) [H.n+0] aJ (Z5 s nm  (y.news [O [.string ⟨#[100]⟩,M 86400000] 220]) hn hs)
noncomputable abbrev Ft H:=news H [O [.string ⟨#[119]⟩,M 604800000] 220]
theorem Z3 (s:ByteArray) (nm:ByteArray)  {H:Z} (y:aa E G H) (hn:nm.size≤s.size) (hs:(s.size:Int)<1000):bV E G 30 vD [(0,.string s),(4,.string nm),(15,.agg (List.toArray nU)),(16,M 1)] H [] (fun x T H'=>(x=(.exit 0)∧T=aP [])∨(x=.ret∧∃(z2:Int) (z3:ByteArray),T=aP [(2,M z2),(3,.string z3)]∧((0≤z2)∧(z2≤6)∧(z3.size≤s.size)))):=by
 refine cN y ?_
 refine aB 5 (bG yB rfl rfl rfl rfl:bu E 220 (H.n+0) 0 (.agg #[.string ⟨#[119]⟩,M 604800000]) (yd H)=some (Ft H))<|Y 1 (aQ (Ft H) 0 0 bA)<|d5 1 ((⟨#[119]⟩:ByteArray).toList==nm.toList) (fun h1=>?_) fun h1=>?_
 ·exact aE [am 3]<|eV [.ax] (by omega:0≤(nm.size:Int)) (by omega:(nm.size:Int)≤(s.size:Int))<|c5 2 [(2,M 1),(3,.string (s.extract (nm.size:Int).toNat s.size))] .ret (Ft H) [H.n+0] aJ aL (.inr ⟨rfl,1,s.extract (nm.size:Int).toNat s.size,rfl,⟨J,J,by simp only [iy];omega⟩⟩)
 exact dY 2 [(0,.string s),(4,.string nm),(15,.agg (List.toArray nU)),(16,M 2)] (Ft H) [H.n+0] aJ (Z4 s nm  (y.news [O [.string ⟨#[119]⟩,M 604800000] 220]) hn hs)
noncomputable abbrev Fu H:=news H [O [.string ⟨#[121]⟩,M 31536000000] 220]
theorem Z2 (s:ByteArray) (nm:ByteArray)  {H:Z} (y:aa E G H) (hn:nm.size≤s.size) (hs:(s.size:Int)<1000):bV E G 30 vD [(0,.string s),(4,.string nm),(15,.agg (List.toArray nU)),(16,M 0)] H [] (fun x T H'=>(x=(.exit 0)∧T=aP [])∨(x=.ret∧∃(z2:Int) (z3:ByteArray),T=aP [(2,M z2),(3,.string z3)]∧((0≤z2)∧(z2≤6)∧(z3.size≤s.size)))):=by
 refine cN y ?_
 refine aB 5 (bG yB rfl rfl rfl rfl:bu E 220 (H.n+0) 0 (.agg #[.string ⟨#[121]⟩,M 31536000000]) (yd H)=some (Fu H))<|Y 1 (aQ (Fu H) 0 0 bA)<|d5 1 ((⟨#[121]⟩:ByteArray).toList==nm.toList) (fun h1=>?_) fun h1=>?_
 ·exact aE [am 3]<|eV [.ax] (by omega:0≤(nm.size:Int)) (by omega:(nm.size:Int)≤(s.size:Int))<|c5 2 [(2,M 0),(3,.string (s.extract (nm.size:Int).toNat s.size))] .ret (Fu H) [H.n+0] aJ aL (.inr ⟨rfl,0,s.extract (nm.size:Int).toNat s.size,rfl,⟨J,J,by simp only [iy];omega⟩⟩)
 exact dY 2 [(0,.string s),(4,.string nm),(15,.agg (List.toArray nU)),(16,M 1)] (Fu H) [H.n+0] aJ (Z3 s nm  (y.news [O [.string ⟨#[121]⟩,M 31536000000] 220]) hn hs)
theorem ae9 (s:ByteArray) {H:Z} (y:aa E G H) (hs:(s.size:Int)<1000):aV E G 153 [.string s] H [] (fun v H'=>∃(k:Int) (x:ByteArray),v=(.tuple #[M k,.string x])∧(-1≤k∧k≤6∧x.size≤s.size)):=by
 refine bB Tryz.f153 y ?_
 obtain ⟨tx,ail,Yq⟩:=afU s
 obtain ⟨_,_,H1,c1,ak,y1,bE⟩:=(Z2 s (s.extract 0 ((s.size:Int)-(tx.size:Int)).toNat)  y (by simp only [iy];omega) hs).code
 refine ac 6 (Yq y)<|aH 1 ((s.size:Int)-(tx.size:Int))<|eV [.ax] (by omega:0≤((s.size:Int)-(tx.size:Int))) (by omega:((s.size:Int)-(tx.size:Int))≤(s.size:Int))<|Y 1 (cd SF afq (G4 y) rfl rfl:al E 221 4 0 H=some (.agg (List.toArray nU)))<|?_
 rcases bE with ⟨rfl,rfl⟩ |⟨rfl,GQ,iK,rfl,aI,gv,j3⟩
 ·exact bx 1 c1<|af 2 (.tuple #[M (-1),.string ⟨#[]⟩]) H1 ⟨-1,⟨#[]⟩,rfl,J,J,Nat.zero_le _⟩
 exact bx 1 c1<|af 0 (.tuple #[M GQ,.string iK]) H1 ⟨_,_,rfl,J,gv,j3⟩
theorem ae8 (s:ByteArray) (hs:(s.size:Int)<1000):∃(k:Int) (x:ByteArray),(-1≤k∧k≤6∧x.size≤s.size)∧∀{H:Z},aa E G H→bF E 153 [.string s] H (.ret (.tuple #[M k,.string x])) H []:=by
 obtain ⟨_,_,c,_,_,k,x,rfl,hs⟩:=ae9 s eH hs
 exact ⟨k,x,hs,fun y=>eh (et rfl) (.ground rfl) c y⟩
def Br (o:Bool) (k:Int):Value:=match o with |true=>.iface 41 (.int .i64 k) |false=>.nilIface
theorem RT {k:Int} (h0:0≤k) (h1:k<7):∃ n:Int,([.string ⟨#[121]⟩,M 31536000000,.string ⟨#[119]⟩,M 604800000,.string ⟨#[100]⟩,M 86400000,.string ⟨#[104]⟩,M 3600000,.string ⟨#[109]⟩,M 60000,.string ⟨#[115]⟩,M 1000,.string ⟨#[109,115]⟩,M 1]:List Value)[0+k.toNat*2+1]?=some (.int .i64 n)∧0<n:=by
 have:k=0∨k=1∨k=2∨k=3∨k=4∨k=5∨k=6:=J
 rcases this with rfl |rfl |rfl |rfl |rfl |rfl |rfl <;> exact ⟨_,rfl,J⟩
noncomputable def Uj:Code:=cw [1,1,1,0,0,0] (cx Tryz.f127)
theorem ZX :∀(m:Nat) (x0:ByteArray) (bl:Int) (ah:Int) (H:Z),aa E G H→(Bo:0≤ah)→(bs:(x0.size:Int)<1000)→x0.size=m→
  bV E G 63 Uj [(0,.string x0),(4,M bl),(5,M ah)] H [] (fun x T H'=>(x=(.exit 0)∧∃(z4:Int),T=aP [(4,M z4)])∨(x=.ret∧T=aP [(2,M 0),(3,.iface 41 (M 13))])):=by
 refine dJ fun m ih=>?_
 intro x0 bl ah H y Bo bs hm
 refine cN y ?_
 refine d5 1 (!(x0.toList==(⟨#[]⟩:ByteArray).toList)) (fun h1=>?_) fun h1=>?_
 ·have q1:=Dj ((Bool.not_eq_true' _).mp h1)
  obtain ⟨J1,ab0,nb,⟨jP,hn2⟩,hnc⟩:=afa x0 35184372088832 J
  obtain ⟨kk,kx,⟨rI,hk2,zK⟩,hkc⟩:=ae8 ab0 J
  refine ac 1 (hnc y)<|ac 8 (hkc y)<|?_
  cases nb with
  |true=>
   refine aD 10 (kk<ah) ?_ ?_ <;> intro h3 cY
   ·exact cF 6 [(2,M 0),(3,.iface 41 (M 13))] .ret H (.inr ⟨rfl,rfl⟩)
   obtain ⟨JC,XX,ai1⟩:=RT (k:=kk) J J
   refine aG 6 kk (7:Int)<|Y 1 (cH fQ (G4 y) XX:al E 2 4 ((0+kk.toNat*2)+1) H=some (M JC))<|az [.ax] (by omega:JC≠0)<|aD 0 (J1>(IntKind.i64.wrap (Int.tdiv (IntKind.i64.wrap (35184372088832-bl)) JC))) ?_ ?_ <;> intro h4 cO
   ·exact cF 4 [(2,M 0),(3,.iface 41 (M 13))] .ret H (.inr ⟨rfl,rfl⟩)
   obtain ⟨JD,XY,ai2⟩:=RT (k:=kk) J J
   exact aG 4 kk (7:Int)<|Y 1 (cH fQ (G4 y) XY:al E 2 4 ((0+kk.toNat*2)+1) H=some (M JD))<|aH 3 (kk+1)<|du 4 [(0,.string kx),(4,M (IntKind.i64.wrap (bl+(IntKind.i64.wrap (J1*JD))))),(5,M (kk+1))] H (ih _ (by have:=jP rfl;omega) kx (IntKind.i64.wrap (bl+(IntKind.i64.wrap (J1*JD)))) (kk+1) _ y J J rfl)
  |false=>
   exact cF 14 [(2,M 0),(3,.iface 41 (M 13))] .ret H (.inr ⟨rfl,rfl⟩)
 exact cF 0 [(4,M bl)] (.exit 0) H (.inl ⟨rfl,bl,rfl⟩)
theorem MT (k:IntKind) (n:Int) (o:Bool):j8 (.tuple #[.int k n,Br o 13]):=by
 cases o <;> exact .ground rfl
theorem HU (x:Int) {H:Z}:bF E 68 [.int .u64 x] H (.ret (.float .f64 x.toNat)) H []:=bF.extern ok (fn:=Tryz.f68) (e:=Extern.MathFloatBits.float64frombits) an an an an an rfl rfl rfl
theorem GK (x:Nat) {H:Z}:bF E 148 [.float .f64 x] H (.ret (.int .u64 x)) H []:=bF.extern ok (fn:=Tryz.f148) (e:=Extern.MathFloatBits.float64bits) an an an an an rfl rfl rfl
theorem afc (s:ByteArray) {H:Z} (y:aa E G H):aV E G 127 [.string s] H [] (fun v H'=>∃(n:Int) (o:Bool),v=(.tuple #[M n,Br o 13])):=by
 refine bB Tryz.f127 y ?_
 refine d5 3 (s.toList==(⟨#[]⟩:ByteArray).toList) (fun h1=>?_) fun h1=>?_
 ·exact af 5 (.tuple #[M 0,.iface 41 (M 13)]) H ⟨_,true,rfl⟩
 have q1:=Dj h1
 refine aD 3 ((s.size:Int)>200) ?_ ?_ <;> intro h2 cv
 ·exact af 4 (.tuple #[M 0,.iface 41 (M 13)]) H ⟨_,true,rfl⟩
 obtain ⟨_,_,H1,c1,ak,y1,bE⟩:=(ZX  _ s 0 0 _ y J J rfl).code
 rcases bE with ⟨rfl,fV,rfl⟩ |⟨rfl,rfl⟩
 ·exact bx 3 c1<|af 3 (.tuple #[M fV,.nilIface]) H1 ⟨_,false,rfl⟩
 exact bx 3 c1<|af 0 (.tuple #[M 0,.iface 41 (M 13)]) H1 ⟨_,true,rfl⟩
theorem Rv (s:ByteArray):∃(n:Int) (o:Bool),∀{H:Z},aa E G H→bF E 127 [.string s] H (.ret (.tuple #[M n,Br o 13])) H []:=by
 obtain ⟨_,_,c,_,_,n,o,rfl⟩:=afc s eH
 exact ⟨n,o,fun y=>eh (et rfl) (MT _ _ _) c y⟩
theorem abq (n:Int) {H:Z} (y:aa E G H):aV E G 149 [M n] H [] (fun v H'=>∃(f:Nat),v=(.float .f64 f)):=by
 refine bB Tryz.f149 y ?_
 refine aD 3 (n≥0) ?_ ?_ <;> intro h1 q1
 ·exact ac 2 (HU 9218868437227405312:bF E 68 [ap 9218868437227405312] H (.ret (.float .f64 ((9218868437227405312:Int).toNat))) H [])<|af 1 (.float .f64 ((9218868437227405312:Int).toNat)) H ⟨_,rfl⟩
 exact ac 2 (HU 18442240474082181120:bF E 68 [ap 18442240474082181120] H (.ret (.float .f64 ((18442240474082181120:Int).toNat))) H [])<|af 1 (.float .f64 ((18442240474082181120:Int).toNat)) H ⟨_,rfl⟩
theorem JH (n:Int):∃(f:Nat),∀{H:Z},aa E G H→bF E 149 [M n] H (.ret (.float .f64 f)) H []:=by
 obtain ⟨_,_,c,_,_,f,rfl⟩:=abq n eH
 exact ⟨f,fun y=>eh (et rfl) (.ground rfl) c y⟩
theorem agy (s:ByteArray) {H:Z} (y:aa E G H):aV E G 126 [.string s] H [] (fun v H'=>∃(n:Int) (o:Bool),v=(.tuple #[ap n,Br o 13])):=by
 refine bB Tryz.f126 y ?_
 refine d5 3 (s.toList==(⟨#[78,97,78]⟩:ByteArray).toList) (fun h1=>?_) fun h1=>?_
 ·exact af 3 (.tuple #[ap 9221120237041090561,.nilIface]) H ⟨_,false,rfl⟩
 refine d5 1 (s.toList==(⟨#[73,110,102]⟩:ByteArray).toList) (fun h2=>?_) fun h2=>?_
 ·obtain ⟨mf,xI⟩:=JH 1
  exact ac 1 (xI y)<|ac 0 (GK mf:bF E 148 [.float .f64 mf] H (.ret (ap (mf:Int))) H [])<|af 2 (.tuple #[ap (mf:Int),.nilIface]) H ⟨_,false,rfl⟩
 refine d5 1 (s.toList==(⟨#[43,73,110,102]⟩:ByteArray).toList) (fun h3=>?_) fun h3=>?_
 ·obtain ⟨mf,xI⟩:=JH 1
  exact ac 1 (xI y)<|ac 0 (GK mf:bF E 148 [.float .f64 mf] H (.ret (ap (mf:Int))) H [])<|af 2 (.tuple #[ap (mf:Int),.nilIface]) H ⟨_,false,rfl⟩
 refine d5 1 (s.toList==(⟨#[45,73,110,102]⟩:ByteArray).toList) (fun h4=>?_) fun h4=>?_
 ·obtain ⟨mf,xI⟩:=JH (-1)
  exact ac 1 (xI y)<|ac 0 (GK mf:bF E 148 [.float .f64 mf] H (.ret (ap (mf:Int))) H [])<|af 2 (.tuple #[ap (mf:Int),.nilIface]) H ⟨_,false,rfl⟩
 refine aD 3 ((s.size:Int)>200) ?_ ?_ <;> intro h5 dc
 ·exact af 5 (.tuple #[ap 0,.iface 41 (M 13)]) H ⟨_,true,rfl⟩
 obtain ⟨pb,IB,zQ⟩:=plain s
 refine ac 2 (zQ y)<|?_
 cases pb with
 |true=>
  obtain ⟨_,H1,c1,ak,y1,F0,ai7,rfl⟩:=acA s y (IB rfl) J
  exact ac 3 c1<|ac 6 (GK F0:bF E 148 [.float .f64 F0] H1 (.ret (ap (F0:Int))) H1 [])<|af 2 (.tuple #[ap (F0:Int),.nilIface]) H1 ⟨_,false,rfl⟩
 |false=>
  exact af 5 (.tuple #[ap 0,.iface 41 (M 13)]) H ⟨_,true,rfl⟩
theorem RX (s:ByteArray):∃(n:Int) (o:Bool),∀{H:Z},aa E G H→bF E 126 [.string s] H (.ret (.tuple #[ap n,Br o 13])) H []:=by
 obtain ⟨_,_,c,_,_,n,o,rfl⟩:=agy s eH
 exact ⟨n,o,fun y=>eh (et rfl) (MT _ _ _) c y⟩
end Go.Proofs.YtglmagcldkngbaaGreatDoor
namespace Go.Am
section
variable {E:Env} {G H:Z}
theorem bF.fresh {g:FuncId} {args:List Value} {lE:Z} {b n c:Nat} {cs:List Value} {e:TypeId} (low:G2 G) (Lv:cW G) (cE:E.d4≤G.n) (ha:∀ x∈args,j8 x) (hb:G.n≤b) (H9:lE.get b=some (.cells cs e false)) (hc:cs.all ground=true)
  (h:bF E g args G (.ret (sc b 0 n c)) lE []) (y:aa E G H):bF E g args H (.ret (sc H.n 0 n c)) (H.new (.cells cs e false)) []:=fun wf _=>by
 obtain ⟨x1,fT,k⟩:=h Lv cE
 have jP:=x1.n
 have b7:b<lE.n:=fT.lt H9
 have hx:dn [] H (H.new (.cells cs e false)):=by
  refine ⟨by rw [Z.qQ];omega,fun i hi _=>by rw [Z.jO,if_neg J],fun i hi hl=>?_,fun i hi hl=>?_⟩
  ·rwa [Z.jO,if_neg J] at hl
  ·rwa [Z.jO,if_neg J] at hl
 refine ⟨hx,wf.new _,fun base φ w args' dr hf hl=>?_⟩
 let iw:bC:=fun i=>if i<G.n then φ i else none
 have e0:∀ i,i<G.n→iw i=φ i:=fun i hi=>if_pos hi
 have KB:Rel E base G iw w:=by
  refine ⟨dr.bs,fun i l o hi hl ho=>?_,fun i l hi hl hlv=>?_,fun i j l m hi hj hij hl hm hw hv=>?_,fun g hg=>?_⟩
  ·rw [e0 i hi] at hl
   have hb:=dr.blocks i l o (Nat.lt_of_lt_of_le hi y.n) hl (y.cell ho hi)
   have B0:=low i hi
   rw [ho] at B0
   exact hb.low (ψ:=φ) (φ:=iw) (fun i hi=>(e0 i hi).symm) B0
  ·rw [e0 i hi] at hl
   exact dr.lt i l (Nat.lt_of_lt_of_le hi y.n) hl (by rw [y.get i hi];exact hlv)
  ·rw [e0 i hi] at hl
   rw [e0 j hj] at hm
   exact dr.inj i j l m (Nat.lt_of_lt_of_le hi y.n) (Nat.lt_of_lt_of_le hj y.n) hij hl hm (by rw [y.get i hi];exact hw) (by rw [y.get j hj];exact hv)
  ·obtain ⟨l,h1,h2⟩:=dr.iO g hg
   exact ⟨l,by rw [e0 g J];exact h1,h2⟩
 have HT:gw iw G.n lE.n:=fun i h1 h2=>if_neg J
 have pw:eI iw args args':=⟨hl.1,fun i x y hx hy=>ha x (List.mem_of_getElem? hx) φ iw y (hl.2 i x y hx hy)⟩
 have post:∀ e' w',nL E base iw w G lE [] (.ret (sc b 0 n c)) e' w'→nL E base φ w H (H.new (.cells cs e false)) [] (.ret (sc H.n 0 n c)) e' w':=by
  rintro e' w' ⟨fu,ci,he⟩
  have hs:=ci.step
  obtain ⟨u,rfl,hu⟩:=he
  obtain ⟨l,fk,Cb⟩:∃ l,fu b=some l∧∀ be:bC,be H.n=some l→bn be (sc H.n 0 n c) u:=by
   generalize hv:sc b 0 n c=v at hu
   cases hu <;> first
    |(cases hv;done)
    |(injection hv with e1 e2 bc;injection e1 with e1;injection e1 with aN bJ;subst aN;subst bJ;subst e2;subst bc
      refine ⟨_,by assumption,fun be h=>?_⟩
      first
       |exact .mY _ _ _ _ _ h (by assumption)
       |exact .pK _ _ _ _ _ _ h (by assumption) (by assumption))
  have hfr:w.heap.size≤l.dG:=by
   rcases ci.fresh b l hb b7 fk with h |⟨j,hj,_⟩
   ·exact h
   ·cases hj
  have Xw:=ci.rel.blocks b l _ b7 fk H9
  let be:bC:=fun i=>if i=H.n then some l else φ i
  have zy:be H.n=some l:=if_pos rfl
  have qH:∀ i,i≠H.n→be i=φ i:=fun i h=>if_neg h
  have sub:∀ i l,φ i=some l→be i=some l:=fun i l' h=>by
   by_cases hi:i=H.n
   ·rw [hi,hf H.n (Nat.le_refl _) (by rw [Z.qQ];omega)] at h;cases h
   ·rw [qH i hi];exact h
  have Eu:(H.new (.cells cs e false)).get H.n=some (.cells cs e false):=by rw [Z.jO,if_pos rfl]
  have BE:∀ i,i<H.n→(H.new (.cells cs e false)).get i=H.get i:=fun i hi=>by rw [Z.jO,if_neg J]
  refine ⟨be,⟨fun i hi=>qH i (by rw [Z.qQ] at hi;omega),⟨Nat.le_trans dr.bs hs.size,fun i l' o hi hl' ho=>?_,fun i l' hi hl' hlv=>?_,fun i j l' m hi hj hij hl' hm hw hv=>?_,fun g hg=>?_⟩,
   ⟨hs.os,hs.tape,hs.output,hs.size,fun B hB _=>hs.keep B hB fun j hj=>by cases hj⟩,fun i l' h1 h2 h3=>?_⟩,u,rfl,Cb be zy⟩
  ·by_cases tc:i=H.n
   ·subst tc
    rw [zy] at hl';injection hl' with hl';subst hl'
    rw [Eu] at ho;injection ho with ho;subst ho
    obtain ⟨fj,lo,hi',a1,a2,a3,a4,a5⟩:=Xw
    refine ⟨fj,lo,hi',a1,a2,a3,fun j x hx=>?_,a5⟩
    obtain ⟨y',b1,b2⟩:=a4 j x hx
    have hg:=List.all_eq_true.1 hc x (List.mem_of_getElem? hx)
    exact ⟨y',b1,by rw [b2.s4 hg];exact .r3 hg⟩
   ·have hi:i<H.n:=by rw [Z.qQ] at hi;omega
    rw [qH i tc] at hl'
    rw [BE i hi] at ho
    have hb:=dr.blocks i l' o hi hl' ho
    refine mB.mono sub ?_
    by_cases hlv:live (H.get i)=true
    ·exact hb.same (hs.keep _ (dr.lt i l' hi hl' hlv) fun j hj=>by cases hj)
    ·rw [ho] at hlv
     cases o with
     |cells c e ro=>
      cases ro with
      |false=>cases c <;> exact absurd rfl hlv
      |true=>
       cases c with
       |nil=>intro j x hx;simp at hx
       |cons _ _=>exact absurd rfl hlv
     |map es ax=>exact absurd rfl hlv
     |dead=>trivial
  ·by_cases tc:i=H.n
   ·subst tc
    rw [zy] at hl';injection hl' with hl';subst hl'
    exact ci.rel.lt b l b7 fk (by rw [H9];cases cs <;> rfl)
   ·have hi:i<H.n:=by rw [Z.qQ] at hi;omega
    rw [qH i tc] at hl'
    rw [BE i hi] at hlv
    exact Nat.lt_of_lt_of_le (dr.lt i l' hi hl' hlv) hs.size
  ·have old:∀ i l',i<H.n→φ i=some l'→live (H.get i)=true→l'.dG<w.heap.size:=fun i l' hi hl' hv=>dr.lt i l' hi hl' hv
   by_cases tc:i=H.n
   ·subst tc
    rw [zy] at hl';injection hl' with hl';subst hl'
    have EM:j≠H.n:=fun e=>hij e.symm
    have hj:j<H.n:=by rw [Z.qQ] at hj;omega
    rw [qH j EM] at hm
    rw [BE j hj] at hv
    have:=old j m hj hm hv
    omega
   ·have hi:i<H.n:=by rw [Z.qQ] at hi;omega
    rw [qH i tc] at hl'
    rw [BE i hi] at hw
    by_cases EM:j=H.n
    ·subst EM
     rw [zy] at hm;injection hm with hm;subst hm
     have:=old i l' hi hl' (rX hw)
     omega
    ·have hj:j<H.n:=by rw [Z.qQ] at hj;omega
     rw [qH j EM] at hm
     rw [BE j hj] at hv
     exact dr.inj i j l' m hi hj hij hl' hm hw hv
  ·obtain ⟨l',h1,h2⟩:=dr.iO g hg
   exact ⟨l',sub g l' h1,h2⟩
  ·have tc:i=H.n:=by rw [Z.qQ] at h2;omega
   subst tc
   rw [zy] at h3;injection h3 with h3;subst h3
   exact .inl hfr
 rcases k base iw w args' KB HT pw with ⟨he,hc⟩ |⟨v',w',he,oI⟩
 ·exact .inl ⟨he,hc.mono post⟩
 ·exact .inr ⟨v',w',he,post _ _ oI⟩
end
end Go.Am
set_option maxRecDepth 1000000
namespace Go.Proofs.YtglmagcldkngbaaGreatDoor
open Go Go.Am
noncomputable def Q9 (f:Nat) (g:FuncId) (args:List Value):Option (Nat×Nat×Nat×List Value×Nat×Bool):=
 match vB E f g args G with
 |some (.ret (.slice (some ⟨b,0,none⟩) n c),H',W)=>match H'.get b with
  |some (.cells cs e false)=>some (b,n,c,cs,e,(W.all fun q=>Nat.ble 31 q&&Nat.blt q H'.n)&&Nat.ble 31 b&&cs.all ground)
  |_=>none
 |_=>none
theorem Kt {f:Nat} {g:FuncId} {args:List Value} {b n c e:Nat} {cs:List Value} (h:Q9 f g args=some (b,n,c,cs,e,true)) (ha:∀ x∈args,j8 x) {H:Z} (y:aa E G H):bF E g args H (.ret (sc H.n 0 n c)) (H.new (.cells cs e false)) []:=by
 unfold Q9 at h
 split at h
 ·rename_i b1 n1 c1 H1 W hr
  split at h
  ·rename_i HD e1 hg
   simp only [bH,b8,dZ] at h
   obtain ⟨rfl,rfl,rfl,rfl,rfl,⟨hw,hb⟩,hc⟩:=h
   have fj:bF E g args G (.ret (sc b1 0 n1 c1)) H1 W:=Ht sound f g args G _ _ _ hr
   have c0:bF E g args G (.ret (sc b1 0 n1 c1)) H1 []:=fj.norm fun q hq=>.inr (by
    have:=List.all_eq_true.1 hw q hq
    simp only [dZ,Nat.blt_eq] at this
    have h1:=gg this.1
    rw [iY];omega)
   exact bF.fresh L3 Bd Bc ha (by rw [iY];exact gg hb) hg hc c0 y
  ·cases h
 ·cases h
def oB:List Value:=[.string ⟨#[115,117,109]⟩,.string ⟨#[97,118,103]⟩,.string ⟨#[109,105,110]⟩,.string ⟨#[109,97,120]⟩,.string ⟨#[99,111,117,110,116]⟩,.string ⟨#[116,111,112,107]⟩,.string ⟨#[98,111,116,116,111,109,107]⟩]
theorem Xa {H:Z} (y:aa E G H):bF E 72 [.string ⟨#[115,117,109,32,97,118,103,32,109,105,110,32,109,97,120,32,99,111,117,110,116,32,116,111,112,107,32,98,111,116,116,111,109,107]⟩] H (.ret (sc H.n 0 7 15)) (H.new (O oB 9)) []:=Kt (f:=2000) (b:=31) an (et rfl) y
def x3:List Value:=[.string ⟨#[98,121]⟩,.string ⟨#[119,105,116,104,111,117,116]⟩,.string ⟨#[111,110]⟩,.string ⟨#[105,103,110,111,114,105,110,103]⟩,.string ⟨#[98,111,111,108]⟩,.string ⟨#[111,102,102,115,101,116]⟩,.string ⟨#[73,110,102]⟩,.string ⟨#[78,97,78]⟩]
theorem Zx {H:Z} (y:aa E G H):bF E 72 [.string ⟨#[98,121,32,119,105,116,104,111,117,116,32,111,110,32,105,103,110,111,114,105,110,103,32,98,111,111,108,32,111,102,102,115,101,116,32,73,110,102,32,78,97,78]⟩] H (.ret (sc H.n 0 8 17)) (H.new (O x3 9)) []:=Kt (f:=2000) (b:=31) an (et rfl) y
def sg:List Value:=[.string ⟨#[61,61]⟩,.string ⟨#[33,61]⟩,.string ⟨#[61,126]⟩,.string ⟨#[33,126]⟩,.string ⟨#[62,61]⟩,.string ⟨#[60,61]⟩,.string ⟨#[61]⟩,.string ⟨#[62]⟩,.string ⟨#[60]⟩,.string ⟨#[43]⟩,.string ⟨#[45]⟩,.string ⟨#[42]⟩,.string ⟨#[47]⟩,.string ⟨#[37]⟩,.string ⟨#[64]⟩,.string ⟨#[40]⟩,.string ⟨#[41]⟩,.string ⟨#[123]⟩,.string ⟨#[125]⟩,.string ⟨#[91]⟩,.string ⟨#[93]⟩,.string ⟨#[44]⟩]
theorem aeS {H:Z} (y:aa E G H):bF E 72 [.string ⟨#[61,61,32,33,61,32,61,126,32,33,126,32,62,61,32,60,61,32,61,32,62,32,60,32,43,32,45,32,42,32,47,32,37,32,64,32,40,32,41,32,123,32,125,32,91,32,93,32,44]⟩] H (.ret (sc H.n 0 22 45)) (H.new (O sg 9)) []:=Kt (f:=2000) (b:=31) an (et rfl) y
theorem KI (v:List Value) (f:FuncId) (h:v.all lI=true:=by rfl):∀ x∈[Value.agg v.toArray,.func (.func f) #[] #[]],j8 x:=fun x hx=>by
 simp only [List.mem_cons,aq,or_false] at hx
 rcases hx with rfl |rfl
 ·exact .ground (by show v.toArray.toList.all lI=true;simpa using h)
 ·exact .func0 f
theorem Te (c:Int) {H:Z} (y:aa E G H):aV E G 102 [ab c] H [] (fun v H'=>v=(.bool (nQ c))):=by
 refine bB Tryz.f102 y ?_
 refine ac 2 (indexByte ⟨#[32,9,10,13]⟩ c y)<|aD 0 ((lL ⟨#[32,9,10,13]⟩ c)≥0) ?_ ?_ <;> intro h1 q1
 ·exact af 1 aw H (by rw [nQ,h1] <;> rfl)
 exact af 1 U H (by rw [nQ,h1] <;> rfl)
theorem MB (c:Int):∀{H:Z},aa E G H→bF E 102 [ab c] H (.ret (.bool (nQ c))) H []:=by
 obtain ⟨_,_,c,_,_,rfl⟩:=Te c eH
 exact fun y=>eh (et rfl) (.ground rfl) c y
theorem Tf (c:Int) {H:Z} (y:aa E G H):aV E G 104 [ab c] H [] (fun v H'=>v=(.bool (rr c))):=by
 refine bB Tryz.f104 y ?_
 refine d7 2 c 10 ?_ ?_ <;> intro h1 q1
 ·exact af 1 aw H (by rw [rr,h1] <;> rfl)
 exact af 1 U H (by rw [rr,h1] <;> rfl)
theorem MC (c:Int):∀{H:Z},aa E G H→bF E 104 [ab c] H (.ret (.bool (rr c))) H []:=by
 obtain ⟨_,_,c,_,_,rfl⟩:=Tf c eH
 exact fun y=>eh (et rfl) (.ground rfl) c y
theorem ag2 (c:Int) {H:Z} (y:aa E G H):aV E G 123 [ab c] H [] (fun v H'=>v=(.bool (iG c))):=by
 refine bB Tryz.f123 y ?_
 cases h1:(eZ c) with
 |true=>
  exact ac 2 (cP h1 (z7 c y))<|af 3 aw H (by rw [iG,h1] <;> rfl)
 |false=>
  refine ac 2 (cP h1 (z7 c y))<|?_
  cases h2:(hH c) with
  |true=>
   exact ac 2 (cP h2 (tn c y))<|af 2 aw H (by rw [iG,h1,h2] <;> rfl)
  |false=>
   exact ac 2 (cP h2 (tn c y))<|af 2 U H (by rw [iG,h1,h2] <;> rfl)
theorem R4 (c:Int):∀{H:Z},aa E G H→bF E 123 [ab c] H (.ret (.bool (iG c))) H []:=by
 obtain ⟨_,_,c,_,_,rfl⟩:=ag2 c eH
 exact fun y=>eh (et rfl) (.ground rfl) c y
noncomputable def VR:Code:=cw [1,1,0,0,0] (cx Tryz.f101)
noncomputable abbrev cT s at_:=([.string s,M at_]:List Value)
theorem agL (b:Nat) (s:ByteArray) (at_:Int) (R:Int):∀(m:Nat) (ah:Int) (H:Z),aa E G H→(kb:H.get b=some (O (cT s at_) 135))→(hs:(s.size:Int)<100000)→(a0:0≤at_)→(a1:at_≤s.size)→(x0:at_≤ah)→(x1:ah≤s.size)→(hR:gT nQ s ah=R)→((s.size:Int)-ah).toNat=m→
  bV E G 29 VR [(1,bS 102),(2,pt b 0),(5,M ah)] H [] (fun x T H'=>(x=(.exit 0)∧∃(z5:Int),T=aP [(2,pt b 0),(5,M z5)]∧((at_≤z5)∧(z5≤s.size)∧(R=z5)))):=by
 refine dJ fun m ih=>?_
 intro ah H y kb hs a0 a1 x0 x1 hR hm
 refine cN y ?_
 refine Y 2 (ag 0 bA kb)<|aD 1 (ah<(s.size:Int)) ?_ ?_ <;> intro h1 q1
 ·refine Y 3 (ag 0 bA kb)<|aG 1 ah (s.size:Int)<|?_
  cases h2:(nQ (ad s ah)) with
  |true=>
   exact ac 0 (cP h2 (MB (ad s ah) y))<|aH 2 (ah+1)<|du 1 [(1,bS 102),(2,pt b 0),(5,M (ah+1))] H (ih _ J (ah+1) _ y kb hs a0 a1 J J (oT J h2 hR) rfl)
  |false=>
   exact ac 0 (cP h2 (MB (ad s ah) y))<|cF 1 [(2,pt b 0),(5,M ah)] (.exit 0) H ⟨rfl,ah,rfl,⟨J,J,nA h2 hR⟩⟩
 exact cF 2 [(2,pt b 0),(5,M ah)] (.exit 0) H ⟨rfl,ah,rfl,⟨J,J,AJ J hR⟩⟩
noncomputable abbrev tv H s at_:=news H (lg (cT s at_))
theorem agN (s:ByteArray) (at_:Int) {H:Z} (y:aa E G H) (hs:(s.size:Int)<100000) (a0:0≤at_) (a1:at_≤s.size):aV E G 101 [.agg (cT s at_).toArray,bS 102] H [] (fun v H'=>v=(.string (j4 nQ s at_))):=by
 refine bB Tryz.f101 y ?_
 obtain ⟨_,_,H1,c1,ak,y1,rfl,iL,rfl,aI,gv,j3⟩:=(agL (H.n+0) s at_ (gT nQ s at_) _ at_ _ (y.news (lg (cT s at_))) (aR (lg (cT s at_)) H 0 _ rfl) hs a0 a1 J J rfl rfl).code
 have aS:=(y.news (lg (cT s at_))).kept ak aq (aR (lg (cT s at_)) H 0 _ rfl)
 exact Y 3 (aQ (tv H s at_) 0 1 av)<|bx 1 c1<|Y 1 (ag 0 bA aS)<|Y 1 (ag 1 av aS)<|aE [am 0]<|qo [.ax] (by omega:0≤at_) (by omega:at_≤iL) (by omega:iL≤(s.size:Int))<|af 1 (.string (s.extract at_.toNat iL.toNat)) H1 (by rw [j4,j3])
theorem agM (s:ByteArray) (at_:Int) (hs:(s.size:Int)<100000) (a0:0≤at_) (a1:at_≤s.size):∀{H:Z},aa E G H→bF E 101 [.agg (cT s at_).toArray,bS 102] H (.ret (.string (j4 nQ s at_))) H []:=by
 obtain ⟨_,_,c,_,_,rfl⟩:=agN s at_ eH hs a0 a1
 exact fun y=>eh (KI _ _) (.ground rfl) c y
noncomputable def VS:Code:=cw [1,1,0,0,0] (cx Tryz.f101)
theorem agO (b:Nat) (s:ByteArray) (at_:Int) (R:Int):∀(m:Nat) (ah:Int) (H:Z),aa E G H→(kb:H.get b=some (O (cT s at_) 135))→(hs:(s.size:Int)<100000)→(a0:0≤at_)→(a1:at_≤s.size)→(x0:at_≤ah)→(x1:ah≤s.size)→(hR:gT rr s ah=R)→((s.size:Int)-ah).toNat=m→
  bV E G 29 VS [(1,bS 104),(2,pt b 0),(5,M ah)] H [] (fun x T H'=>(x=(.exit 0)∧∃(z5:Int),T=aP [(2,pt b 0),(5,M z5)]∧((at_≤z5)∧(z5≤s.size)∧(R=z5)))):=by
 refine dJ fun m ih=>?_
 intro ah H y kb hs a0 a1 x0 x1 hR hm
 refine cN y ?_
 refine Y 2 (ag 0 bA kb)<|aD 1 (ah<(s.size:Int)) ?_ ?_ <;> intro h1 q1
 ·refine Y 3 (ag 0 bA kb)<|aG 1 ah (s.size:Int)<|?_
  cases h2:(rr (ad s ah)) with
  |true=>
   exact ac 0 (cP h2 (MC (ad s ah) y))<|aH 2 (ah+1)<|du 1 [(1,bS 104),(2,pt b 0),(5,M (ah+1))] H (ih _ J (ah+1) _ y kb hs a0 a1 J J (oT J h2 hR) rfl)
  |false=>
   exact ac 0 (cP h2 (MC (ad s ah) y))<|cF 1 [(2,pt b 0),(5,M ah)] (.exit 0) H ⟨rfl,ah,rfl,⟨J,J,nA h2 hR⟩⟩
 exact cF 2 [(2,pt b 0),(5,M ah)] (.exit 0) H ⟨rfl,ah,rfl,⟨J,J,AJ J hR⟩⟩
theorem agQ (s:ByteArray) (at_:Int) {H:Z} (y:aa E G H) (hs:(s.size:Int)<100000) (a0:0≤at_) (a1:at_≤s.size):aV E G 101 [.agg (cT s at_).toArray,bS 104] H [] (fun v H'=>v=(.string (j4 rr s at_))):=by
 refine bB Tryz.f101 y ?_
 obtain ⟨_,_,H1,c1,ak,y1,rfl,iL,rfl,aI,gv,j3⟩:=(agO (H.n+0) s at_ (gT rr s at_) _ at_ _ (y.news (lg (cT s at_))) (aR (lg (cT s at_)) H 0 _ rfl) hs a0 a1 J J rfl rfl).code
 have aS:=(y.news (lg (cT s at_))).kept ak aq (aR (lg (cT s at_)) H 0 _ rfl)
 exact Y 3 (aQ (tv H s at_) 0 1 av)<|bx 1 c1<|Y 1 (ag 0 bA aS)<|Y 1 (ag 1 av aS)<|aE [am 0]<|qo [.ax] (by omega:0≤at_) (by omega:at_≤iL) (by omega:iL≤(s.size:Int))<|af 1 (.string (s.extract at_.toNat iL.toNat)) H1 (by rw [j4,j3])
theorem agP (s:ByteArray) (at_:Int) (hs:(s.size:Int)<100000) (a0:0≤at_) (a1:at_≤s.size):∀{H:Z},aa E G H→bF E 101 [.agg (cT s at_).toArray,bS 104] H (.ret (.string (j4 rr s at_))) H []:=by
 obtain ⟨_,_,c,_,_,rfl⟩:=agQ s at_ eH hs a0 a1
 exact fun y=>eh (KI _ _) (.ground rfl) c y
noncomputable def VT:Code:=cw [1,1,0,0,0] (cx Tryz.f101)
theorem agR (b:Nat) (s:ByteArray) (at_:Int) (R:Int):∀(m:Nat) (ah:Int) (H:Z),aa E G H→(kb:H.get b=some (O (cT s at_) 135))→(hs:(s.size:Int)<100000)→(a0:0≤at_)→(a1:at_≤s.size)→(x0:at_≤ah)→(x1:ah≤s.size)→(hR:gT iG s ah=R)→((s.size:Int)-ah).toNat=m→
  bV E G 29 VT [(1,bS 123),(2,pt b 0),(5,M ah)] H [] (fun x T H'=>(x=(.exit 0)∧∃(z5:Int),T=aP [(2,pt b 0),(5,M z5)]∧((at_≤z5)∧(z5≤s.size)∧(R=z5)))):=by
 refine dJ fun m ih=>?_
 intro ah H y kb hs a0 a1 x0 x1 hR hm
 refine cN y ?_
 refine Y 2 (ag 0 bA kb)<|aD 1 (ah<(s.size:Int)) ?_ ?_ <;> intro h1 q1
 ·refine Y 3 (ag 0 bA kb)<|aG 1 ah (s.size:Int)<|?_
  cases h2:(iG (ad s ah)) with
  |true=>
   exact ac 0 (cP h2 (R4 (ad s ah) y))<|aH 2 (ah+1)<|du 1 [(1,bS 123),(2,pt b 0),(5,M (ah+1))] H (ih _ J (ah+1) _ y kb hs a0 a1 J J (oT J h2 hR) rfl)
  |false=>
   exact ac 0 (cP h2 (R4 (ad s ah) y))<|cF 1 [(2,pt b 0),(5,M ah)] (.exit 0) H ⟨rfl,ah,rfl,⟨J,J,nA h2 hR⟩⟩
 exact cF 2 [(2,pt b 0),(5,M ah)] (.exit 0) H ⟨rfl,ah,rfl,⟨J,J,AJ J hR⟩⟩
theorem agT (s:ByteArray) (at_:Int) {H:Z} (y:aa E G H) (hs:(s.size:Int)<100000) (a0:0≤at_) (a1:at_≤s.size):aV E G 101 [.agg (cT s at_).toArray,bS 123] H [] (fun v H'=>v=(.string (j4 iG s at_))):=by
 refine bB Tryz.f101 y ?_
 obtain ⟨_,_,H1,c1,ak,y1,rfl,iL,rfl,aI,gv,j3⟩:=(agR (H.n+0) s at_ (gT iG s at_) _ at_ _ (y.news (lg (cT s at_))) (aR (lg (cT s at_)) H 0 _ rfl) hs a0 a1 J J rfl rfl).code
 have aS:=(y.news (lg (cT s at_))).kept ak aq (aR (lg (cT s at_)) H 0 _ rfl)
 exact Y 3 (aQ (tv H s at_) 0 1 av)<|bx 1 c1<|Y 1 (ag 0 bA aS)<|Y 1 (ag 1 av aS)<|aE [am 0]<|qo [.ax] (by omega:0≤at_) (by omega:at_≤iL) (by omega:iL≤(s.size:Int))<|af 1 (.string (s.extract at_.toNat iL.toNat)) H1 (by rw [j4,j3])
theorem agS (s:ByteArray) (at_:Int) (hs:(s.size:Int)<100000) (a0:0≤at_) (a1:at_≤s.size):∀{H:Z},aa E G H→bF E 101 [.agg (cT s at_).toArray,bS 123] H (.ret (.string (j4 iG s at_))) H []:=by
 obtain ⟨_,_,c,_,_,rfl⟩:=agT s at_ eH hs a0 a1
 exact fun y=>eh (KI _ _) (.ground rfl) c y
theorem aaR (s:ByteArray) (at_:Int) {H:Z} (y:aa E G H) (hs:(s.size:Int)<100000) (a0:0≤at_) (a1:at_<s.size):aV E G 85 [.agg (cT s at_).toArray] H [] (fun v H'=>∃(n:Int),v=(M n)∧(0≤n∧at_+n≤s.size∧(eZ (ad s at_)=true→n=0))):=by
 refine bB Tryz.f85 y ?_
 have agJ:=K9 nQ s a0 J
 refine Y 2 (dt p0 pL rfl rfl rfl:al E 135 (H.n+0) 0 (tv H s at_)=some (.agg (cT s at_).toArray))<|ac 0 (agM s at_ hs a0 J (y.news (lg (cT s at_))))<|aY 3 ((j4 nQ s at_).size:Int) 0 ?_ ?_ <;> intro h1 q1
 ·refine Y 2 (aQ (tv H s at_) 0 0 bA)<|Y 1 (aQ (tv H s at_) 0 1 av)<|aG 0 at_ (s.size:Int)<|aY 0 (ad s at_) 35 ?_ ?_ <;> intro h2 cv
  ·have ajx:=K9 rr s a0 J
   exact Y 1 (dt p0 pL rfl rfl rfl:al E 135 (H.n+0) 0 (tv H s at_)=some (.agg (cT s at_).toArray))<|ac 0 (agP s at_ hs a0 J (y.news (lg (cT s at_))))<|af 4 (M ((j4 rr s at_).size:Int)) (tv H s at_) ⟨_,rfl,J,J,fun h=>by have:=JB a0 J ⟨jl _ _,jc _ _⟩ h;omega⟩
  exact af 3 (M ((j4 nQ s at_).size:Int)) (tv H s at_) ⟨_,rfl,J,J,fun h=>by have:=JB a0 J ⟨jl _ _,jc _ _⟩ h;omega⟩
 exact af 4 (M ((j4 nQ s at_).size:Int)) (tv H s at_) ⟨_,rfl,J,J,fun h=>by have:=JB a0 J ⟨jl _ _,jc _ _⟩ h;omega⟩
theorem OZ (s:ByteArray) (at_:Int) (hs:(s.size:Int)<100000) (a0:0≤at_) (a1:at_<s.size):∃(n:Int),(0≤n∧at_+n≤s.size∧(eZ (ad s at_)=true→n=0))∧∀{H:Z},aa E G H→bF E 85 [.agg (cT s at_).toArray] H (.ret (M n)) H []:=by
 obtain ⟨_,_,c,_,_,n,rfl,hs⟩:=aaR s at_ eH hs a0 a1
 exact ⟨n,hs,fun y=>eh (et rfl) (.ground rfl) c y⟩
theorem Dn (k a n:Int) (t:ByteArray):j8 (.tuple #[.agg #[.int .i64 k,.int .i64 a,.string t],.int .i64 n]):=.tuple fun x hx=>by
 simp only [List.mem_cons,aq,or_false] at hx
 rcases hx with rfl |rfl
 ·exact .ground rfl
 ·exact .ground rfl
noncomputable abbrev cL:=([M 0,M 0,.string ⟨#[]⟩]:List Value)
noncomputable abbrev wl H s at_:=news H [O (cT s at_) 135,O cL 112]
noncomputable abbrev Bt s at_:=([M 1,M 0,.string (j4 iG s at_)]:List Value)
noncomputable abbrev JS H s at_:=news H [O (cT s at_) 135,O (Bt s at_) 112]
theorem aa5 (s:ByteArray) (at_:Int) {H:Z} (y:aa E G H) (hs:(s.size:Int)<100000) (a0:0≤at_) (a1:at_<s.size):aV E G 105 [.agg (cT s at_).toArray] H [] (fun v H'=>∃(k:Int) (a:Int) (t:ByteArray) (n:Int),v=(.tuple #[.agg #[M k,M a,.string t],M n])∧(0≤n∧at_+n≤s.size∧DP s at_ k t n)):=by
 refine bB Tryz.f105 y ?_
 refine Y 4 (aQ (wl H s at_) 0 0 bA)<|Y 1 (aQ (wl H s at_) 0 1 av)<|aG 0 at_ (s.size:Int)<|?_
 cases h1:(eZ (ad s at_)) with
 |true=>
  have agJ:=K9 iG s a0 J
  exact ac 0 (cP h1 (z7 (ad s at_) (y.news [O (cT s at_) 135,O cL 112])))<|Y 1 (dt p0 pL rfl rfl rfl:al E 135 (H.n+0) 0 (wl H s at_)=some (.agg (cT s at_).toArray))<|ac 0 (agS s at_ hs a0 J (y.news [O (cT s at_) 135,O cL 112]))<|aB 5 (bG e4 rfl rfl rfl rfl:bu E 112 (H.n+1) 0 (.agg (Bt s at_).toArray) (wl H s at_)=some (JS H s at_))<|aE [am 0]<|eV [] ((dt j9 e4 rfl rfl rfl):al E 112 (H.n+1) 0 (JS H s at_)=some (.agg (Bt s at_).toArray)) (j5 (M ((j4 iG s at_).size:Int)))<|fI 0 [.agg (Bt s at_).toArray,M ((j4 iG s at_).size:Int)] (.tuple #[.agg (Bt s at_).toArray,M ((j4 iG s at_).size:Int)]) (JS H s at_) [H.n+1] aJ aL ⟨_,_,_,_,rfl,J,J,.inl ⟨h1,rfl,rfl,rfl,ag4 a0 a1 h1⟩⟩
 |false=>
  exact ac 0 (cP h1 (z7 (ad s at_) (y.news [O (cT s at_) 135,O cL 112])))<|aB 2 (bG e4 rfl rfl rfl rfl:bu E 112 (H.n+1) 0 (.agg (List.toArray cL)) (wl H s at_)=some (wl H s at_))<|aE [am 0]<|eV [] ((dt j9 e4 rfl rfl rfl):al E 112 (H.n+1) 0 (wl H s at_)=some (.agg (List.toArray cL))) (j5 (M 0))<|fI 0 [.agg (List.toArray cL),M 0] (.tuple #[.agg (List.toArray cL),M 0]) (wl H s at_) [H.n+1] aJ aL ⟨0,0,⟨#[]⟩,0,rfl,J,J,.inr ⟨h1,.inl rfl⟩⟩
theorem aa4 (s:ByteArray) (at_:Int) (hs:(s.size:Int)<100000) (a0:0≤at_) (a1:at_<s.size):∃(k:Int) (a:Int) (t:ByteArray) (n:Int),(0≤n∧at_+n≤s.size∧DP s at_ k t n)∧∀{H:Z},aa E G H→bF E 105 [.agg (cT s at_).toArray] H (.ret (.tuple #[.agg #[M k,M a,.string t],M n])) H []:=by
 obtain ⟨_,_,c,_,_,k,a,t,n,rfl,hs⟩:=aa5 s at_ eH hs a0 a1
 exact ⟨k,a,t,n,hs,fun y=>eh (et rfl) (Dn _ _ _ _) c y⟩
end Go.Proofs.YtglmagcldkngbaaGreatDoor
