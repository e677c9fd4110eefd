/- Part of the proof that CheckKids answers true. -/
import Derived.Test.YtglmagcldkngbaaGreatDoorP05
set_option linter.unusedVariables false
set_option linter.unusedSimpArgs false
set_option maxRecDepth 100000
set_option maxHeartbeats 4000000
namespace Go.Proofs.YtglmagcldkngbaaGreatDoor
open Go Go.Am
noncomputable def N5:Code:=cz [1,0] (bH Tryz.f125)
noncomputable abbrev kG (H:Hp) (l_:List Hint):=au 0::.call (.bool false) H []::au 1::.call (.bool false) H []::au 2::aF::au 2::l_
noncomputable abbrev C9 (H:Hp) (was:Int) (l_:List Hint):=kG H (aI::au 2::vl (.bool true) H::au 1::vl (uB was) H::aF::au 0::vl (uB was) H::l_)
noncomputable abbrev Da (H:Hp) (was:Int) (l_:List Hint):=kG H (aF::au 1::aI::au 1::vl (.bool true) H::au 1::vl (uB was) H::aF::au 0::vl (uB was) H::l_)
theorem Sd (c:Int) (b1:Nat) (b2:Nat) (pl:Bool) (was:Int)  {H:Hp} (y:Gd E G H) (k1:H.get b1=some (.cells [.bool pl] 4 false)) (k2:H.get b2=some (.cells [uB was] 5 false)) (hb:b1≠b2) :
  bt E G 48 N5 [(0,uB c),(1,pt b1 0),(2,pt b2 0)] H [] (fun x T H'=>(x=.normal∧∃(z5:Bool),T=bw [(0,uB c),(1,pt b1 0),(2,pt b2 0),(5,.bool z5)])):=by
 obtain ⟨xQ,dM⟩:=zI c
 cases xQ with
 |true=>
  exact bt.mk y (bf [au 0,.call (.bool true) H [],au 6] [(0,uB c),(1,pt b1 0),(2,pt b2 0),(5,.bool true)] .normal H [] (fun _ r_=>cF (show CC E 122 [uB c] H (.ret (.bool true)) H [] from dM y) r_)) aM aM ⟨rfl,true,rfl⟩
 |false=>
  obtain ⟨K9,lu⟩:=tS c
  cases K9 with
  |true=>
   exact bt.mk y (bf [au 0,.call (.bool false) H [],au 1,.call (.bool true) H [],au 5] [(0,uB c),(1,pt b1 0),(2,pt b2 0),(5,.bool true)] .normal H [] (fun _ r_=>cU (show CC E 122 [uB c] H (.ret (.bool false)) H [] from dM y) (show CC E 124 [uB c] H (.ret (.bool true)) H [] from lu y) r_)) aM aM ⟨rfl,true,rfl⟩
  |false=>
   cases h3:(c==46) with
   |true=>
    exact bt.mk y (bf [au 0,.call (.bool false) H [],au 1,.call (.bool false) H [],au 2,aI,au 3] [(0,uB c),(1,pt b1 0),(2,pt b2 0),(5,.bool true)] .normal H [] (fun _ r_=>eY (show CC E 122 [uB c] H (.ret (.bool false)) H [] from dM y) (show CC E 124 [uB c] H (.ret (.bool false)) H [] from lu y) h3 r_)) aM aM ⟨rfl,true,rfl⟩
   |false=>
    cases h4:(c==43) with
    |true=>
     have w1:aq E 4 b1 0 H=some (.bool pl):=bQ kY k1 rfl
     cases pl with
     |true=>
      have w2:aq E 5 b2 0 H=some (uB was):=bQ cG k2 rfl
      cases h6:(was==101) with
      |true=>
       exact bt.mk y (bf (kG H [aI,au 2,vl (.bool true) H,au 1,vl (uB was) H,aI,au 4]) [(0,uB c),(1,pt b1 0),(2,pt b2 0),(5,.bool true)] .normal H [] (fun _ r_=>fk (show CC E 122 [uB c] H (.ret (.bool false)) H [] from dM y) (show CC E 124 [uB c] H (.ret (.bool false)) H [] from lu y) h3 h4 w1 w2 h6 r_)) aM aM ⟨rfl,true,rfl⟩
      |false=>
       cases h7:(was==69) with
       |true=>
        exact bt.mk y (bf (C9 H was [aI,au 3]) [(0,uB c),(1,pt b1 0),(2,pt b2 0),(5,.bool true)] .normal H [] (fun _ r_=>aE (show CC E 122 [uB c] H (.ret (.bool false)) H [] from dM y) (show CC E 124 [uB c] H (.ret (.bool false)) H [] from lu y) h3 h4 w1 w2 h6 w2<|cF h7 r_)) aM aM ⟨rfl,true,rfl⟩
       |false=>
        exact bt.mk y (bf (C9 H was [aF,au 3]) [(0,uB c),(1,pt b1 0),(2,pt b2 0),(5,.bool false)] .normal H [] (fun _ r_=>aE (show CC E 122 [uB c] H (.ret (.bool false)) H [] from dM y) (show CC E 124 [uB c] H (.ret (.bool false)) H [] from lu y) h3 h4 w1 w2 h6 w2<|cF h7 r_)) aM aM ⟨rfl,false,rfl⟩
     |false=>
      exact bt.mk y (bf (kG H [aI,au 2,vl (.bool false) H,au 4]) [(0,uB c),(1,pt b1 0),(2,pt b2 0),(5,.bool false)] .normal H [] (fun _ r_=>eM (show CC E 122 [uB c] H (.ret (.bool false)) H [] from dM y) (show CC E 124 [uB c] H (.ret (.bool false)) H [] from lu y) h3 h4 w1 r_)) aM aM ⟨rfl,false,rfl⟩
    |false=>
     cases h5:(c==45) with
     |true=>
      have w1:aq E 4 b1 0 H=some (.bool pl):=bQ kY k1 rfl
      cases pl with
      |true=>
       have w2:aq E 5 b2 0 H=some (uB was):=bQ cG k2 rfl
       cases h7:(was==101) with
       |true=>
        exact bt.mk y (bf (kG H [aF,au 1,aI,au 1,vl (.bool true) H,au 1,vl (uB was) H,aI,au 4]) [(0,uB c),(1,pt b1 0),(2,pt b2 0),(5,.bool true)] .normal H [] (fun _ r_=>aE (show CC E 122 [uB c] H (.ret (.bool false)) H [] from dM y) (show CC E 124 [uB c] H (.ret (.bool false)) H [] from lu y) h3 h4 h5 w1 w2 h7 r_)) aM aM ⟨rfl,true,rfl⟩
       |false=>
        cases h8:(was==69) with
        |true=>
         exact bt.mk y (bf (Da H was [aI,au 3]) [(0,uB c),(1,pt b1 0),(2,pt b2 0),(5,.bool true)] .normal H [] (fun _ r_=>aE (show CC E 122 [uB c] H (.ret (.bool false)) H [] from dM y) (show CC E 124 [uB c] H (.ret (.bool false)) H [] from lu y) h3 h4 h5 w1 w2 h7<|cU w2 h8 r_)) aM aM ⟨rfl,true,rfl⟩
        |false=>
         exact bt.mk y (bf (Da H was [aF,au 3]) [(0,uB c),(1,pt b1 0),(2,pt b2 0),(5,.bool false)] .normal H [] (fun _ r_=>aE (show CC E 122 [uB c] H (.ret (.bool false)) H [] from dM y) (show CC E 124 [uB c] H (.ret (.bool false)) H [] from lu y) h3 h4 h5 w1 w2 h7<|cU w2 h8 r_)) aM aM ⟨rfl,false,rfl⟩
      |false=>
       exact bt.mk y (bf (kG H [aF,au 1,aI,au 1,vl (.bool false) H,au 4]) [(0,uB c),(1,pt b1 0),(2,pt b2 0),(5,.bool false)] .normal H [] (fun _ r_=>fG (show CC E 122 [uB c] H (.ret (.bool false)) H [] from dM y) (show CC E 124 [uB c] H (.ret (.bool false)) H [] from lu y) h3 h4 h5 w1 r_)) aM aM ⟨rfl,false,rfl⟩
     |false=>
      exact bt.mk y (bf (kG H [aF,au 1,aF,au 6]) [(0,uB c),(1,pt b1 0),(2,pt b2 0),(5,.bool false)] .normal H [] (fun _ r_=>eM (show CC E 122 [uB c] H (.ret (.bool false)) H [] from dM y) (show CC E 124 [uB c] H (.ret (.bool false)) H [] from lu y) h3 h4 h5 r_)) aM aM ⟨rfl,false,rfl⟩
noncomputable def IE:Code:=cz [1,1,0] (bH Tryz.f125)
noncomputable abbrev Db (was:Int) (H:Hp) (l_:List Hint):=vl (uB was) H::aI::vl (.bool true) H::au 0::vl (uB was) H::.call (.bool false) H []::au 0::vl (uB was) H::l_
theorem Ln (c:Int) (b1:Nat) (b2:Nat) (pl:Bool) (was:Int) (z5:Bool)  {H:Hp} (y:Gd E G H) (k1:H.get b1=some (.cells [.bool pl] 4 false)) (k2:H.get b2=some (.cells [uB was] 5 false)) (hb:b1≠b2) (WO:G.n≤b1) :
  bt E G 48 IE [(0,uB c),(1,pt b1 0),(2,pt b2 0),(5,.bool z5)] H [b1] (fun x T H'=>(x=.normal∧∃(zp:Bool),T=bw [(0,uB c),(2,pt b2 0),(5,.bool z5)]∧(H'.get b1=some (.cells [.bool zp] 4 false)))):=by
 have abt:=y.wf.lt k1
 have w1:aq E 5 b2 0 H=some (uB was):=bQ cG k2 rfl
 cases h1:(was != 0) with
 |true=>
  have w2:aq E 4 b1 0 H=some (.bool pl):=bQ kY k1 rfl
  cases pl with
  |true=>
   obtain ⟨xQ,dM⟩:=tS was
   cases xQ with
   |true=>
    obtain ⟨K1,e1⟩:∃ K_,K_=H.set b1 (.cells [.bool true] 4 false):=⟨_,rfl⟩
    have yB:=aP e1
    exact bt.mk y (bf [vl (uB was) H,aI,vl (.bool true) H,au 0,vl (uB was) H,.call (.bool true) H [],au 2,vl bJ K1] [(0,uB c),(2,pt b2 0),(5,.bool z5)] .normal K1 [b1] (fun _ r_=>fG w1 h1 w2 w1 (show CC E 124 [uB was] H (.ret (.bool true)) H [] from dM y) (show az E 4 b1 0 (.bool true) H=some K1 from (st jS k1 rfl rfl).trans (congrArg some e1.symm)) r_)) aj aJ ⟨rfl,true,rfl,yB⟩
   |false=>
    cases h4:(was==46) with
    |true=>
     obtain ⟨K1,e1⟩:∃ K_,K_=H.set b1 (.cells [.bool true] 4 false):=⟨_,rfl⟩
     have yB:=aP e1
     exact bt.mk y (bf (Db was H [aI,au 1,vl bJ K1]) [(0,uB c),(2,pt b2 0),(5,.bool z5)] .normal K1 [b1] (fun _ r_=>aE w1 h1 w2 w1 (show CC E 124 [uB was] H (.ret (.bool false)) H [] from dM y) w1 h4 (show az E 4 b1 0 (.bool true) H=some K1 from (st jS k1 rfl rfl).trans (congrArg some e1.symm)) r_)) aj aJ ⟨rfl,true,rfl,yB⟩
    |false=>
     obtain ⟨K1,e1⟩:∃ K_,K_=H.set b1 (.cells [.bool false] 4 false):=⟨_,rfl⟩
     have yB:=aP e1
     exact bt.mk y (bf (Db was H [aF,au 1,vl bJ K1]) [(0,uB c),(2,pt b2 0),(5,.bool z5)] .normal K1 [b1] (fun _ r_=>aE w1 h1 w2 w1 (show CC E 124 [uB was] H (.ret (.bool false)) H [] from dM y) w1 h4 (show az E 4 b1 0 (.bool false) H=some K1 from (st jS k1 rfl rfl).trans (congrArg some e1.symm)) r_)) aj aJ ⟨rfl,false,rfl,yB⟩
  |false=>
   obtain ⟨K1,e1⟩:∃ K_,K_=H.set b1 (.cells [.bool false] 4 false):=⟨_,rfl⟩
   have yB:=aP e1
   exact bt.mk y (bf [vl (uB was) H,aI,vl (.bool false) H,au 1,vl bJ K1] [(0,uB c),(2,pt b2 0),(5,.bool z5)] .normal K1 [b1] (fun _ r_=>gm w1 h1 w2 (show az E 4 b1 0 (.bool false) H=some K1 from (st jS k1 rfl rfl).trans (congrArg some e1.symm)) r_)) aj aJ ⟨rfl,false,rfl,yB⟩
 |false=>
  exact bt.mk y (bf [vl (uB was) H,aF] [(0,uB c),(2,pt b2 0),(5,.bool z5)] .normal H [] (fun _ r_=>cU w1 h1 r_)) aM aJ ⟨rfl,pl,rfl,k1⟩
theorem Ug:E.func 125=some Tryz.f125:=ah
theorem Uh:bO Tryz.f125 3=true:=ah
theorem VZ (c:Int) (b1:Nat) (b2:Nat) (pl:Bool) (was:Int) {H:Hp} (y:Gd E G H) (k1:H.get b1=some (.cells [.bool pl] 4 false)) (k2:H.get b2=some (.cells [.int .u8 was] 5 false)) (hb:b1≠b2) (WO:G.n≤b1) (yY:G.n≤b2):aD E G 125 [uB c,pt b1 0,pt b2 0] H [b1,b2] (fun v H'=>∃(ok pl':Bool) (ae5:Int),v=.bool ok∧H'.get b1=some (.cells [.bool pl'] 4 false)∧H'.get b2=some (.cells [.int .u8 ae5] 5 false)):=by
 have An:=y.wf.lt k2
 obtain ⟨_,_,H1,c1,bN,y1,rfl,eL,rfl⟩:=Sd c b1 b2 pl was  y k1 k2 hb
 have jq:H.n+0≤H1.n:=bN.n
 have yB:=y.kept bN aH k1
 have eH:=y.kept bN aH k2
 obtain ⟨_,_,H2,c2,dc,y2,rfl,EB,rfl,Jd⟩:=Ln c b1 b2 pl was eL  y1 yB eH hb WO
 have jI:H1.n+0≤H2.n:=dc.n
 have I8:=y1.kept dc cu eH
 obtain ⟨K3,e3⟩:∃ K_,K_=H2.set b2 (.cells [uB c] 5 false):=⟨_,rfl⟩
 have abe:=aP e3
 have abd:=cZ e3 aa Jd
 exact aD.mk y (dj [au 0,.piece 1 [0,1,2] .normal (bw [(0,uB c),(1,pt b1 0),(2,pt b2 0),(5,.bool eL)]) H1 [],.piece 1 [0,1,2,5] .normal (bw [(0,uB c),(2,pt b2 0),(5,.bool eL)]) H2 [b1],au 0,vl bJ K3,au 1] (.bool eL) K3 [b1,b2] Ug Uh (eY c1 c2 (show az E 5 b2 0 (uB c) H2=some K3 from (st eg I8 rfl rfl).trans (congrArg some e3.symm)) aS)) aj aJ ⟨_,_,_,rfl,abd,abe⟩
noncomputable def Oc:Code:=cz [1,1,0,0,0] (bH Tryz.f101)
theorem Ta (b:Nat) (b1:Nat) (b2:Nat) (s:ByteArray) (at_:Int):∀(m:Nat) (x5:Int) (pl:Bool) (was:Int) (H:Hp),Gd E G H→(kb:H.get b=some (.cells [.string s,iI at_] 135 false))→(k1:H.get b1=some (.cells [.bool pl] 4 false))→(k2:H.get b2=some (.cells [uB was] 5 false))→(hs:(s.size:Int)<100000)→(a0:0≤at_)→(a1:at_≤s.size)→(x0:at_≤x5)→(x1:x5≤s.size)→(hb:b1≠b2)→(WO:G.n≤b1)→(yY:G.n≤b2)→(d1:b≠b1)→(d2:b≠b2)→((s.size:Int)-x5).toNat=m→
  aA E G 29 Oc [(1,.func (.func 125) #[] #[pt b1 0,pt b2 0]),(2,pt b 0),(5,iI x5)] H [b1,b2] (fun x T H'=>(x=(.exit 0)∧∃(z5:Int) (zp:Bool) (zw:Int),T=bw [(2,pt b 0),(5,iI z5)]∧(H'.get b1=some (.cells [.bool zp] 4 false)∧H'.get b2=some (.cells [.int .u8 zw] 5 false)∧at_≤z5∧z5≤s.size))):=by
 intro m
 induction m using Nat.strongRecOn with
 |_ m ih=>
 intro x5 pl was H y kb k1 k2 hs a0 a1 x0 x1 hb WO yY d1 d2 hm
 have w1:aq E 9 b 0 H=some (.string s):=bQ bB kb rfl
 cases h1:(decide (x5<(s.size:Int))) with
 |true=>
  have q1:=aL h1
  have w2:0≤x5:=aa
  have w3:x5<(s.size:Int):=aa
  obtain ⟨_,H1,c1,bN,y1,jg,lp1,lw1,rfl,aba,abc⟩:=VZ (ak s x5) b1 b2 pl was y k1 k2 hb WO yY
  cases jg with
  |true=>
   have w4:=aC (x5+1)
   have gN:=y.kept bN cu kb
   exact aA.next' y (bf [au 1,vl (.string s) H,au 0,aI,au 2,vl (.string s) H,au 0,.ck,.call (.bool true) H1 [b1,b2],au 1,.as (iI (x5+1)),au 0] [(1,.func (.func 125) #[] #[pt b1 0,pt b2 0]),(2,pt b 0),(5,iI (x5+1))] .normal H1 [b1,b2] (fun _ r_=>fk w1 h1 w1 w2 w3 c1 w4 r_)) aj (ih _ aa (x5+1) lp1 lw1 _ y1 gN aba abc hs a0 a1 aa aa hb WO yY d1 d2 rfl)
  |false=>
   exact aA.last' y (bf [au 1,vl (.string s) H,au 0,aI,au 2,vl (.string s) H,au 0,.ck,.call (.bool false) H1 [b1,b2],au 0] [(2,pt b 0),(5,iI x5)] (.exit 0) H1 [b1,b2] (fun _ r_=>fG w1 h1 w1 w2 w3 c1 r_)) aj aj aJ ⟨rfl,x5,lp1,lw1,rfl,⟨aba,abc,by omega,by omega⟩⟩
 |false=>
  exact aA.last' y (bf [au 1,vl (.string s) H,au 0,aF,au 1] [(2,pt b 0),(5,iI x5)] (.exit 0) H [] (fun _ r_=>cU w1 h1 r_)) aj aM aJ ⟨rfl,x5,pl,was,rfl,⟨k1,k2,by omega,by omega⟩⟩
theorem Es (s:ByteArray) (at_:Int) (b1:Nat) (b2:Nat) (pl:Bool) (was:Int) {H:Hp} (y:Gd E G H) (k1:H.get b1=some (.cells [.bool pl] 4 false)) (k2:H.get b2=some (.cells [.int .u8 was] 5 false)) (hb:b1≠b2) (WO:G.n≤b1) (yY:G.n≤b2) (hs:(s.size:Int)<100000) (a0:0≤at_) (a1:at_≤s.size):aD E G 101 [.agg #[.string s,iI at_],.func (.func 125) #[] #[pt b1 0,pt b2 0]] H [b1,b2] (fun v H'=>∃(x:ByteArray),v=.string x∧at_+x.size≤s.size):=by
 have abt:=y.wf.lt k1
 have An:=y.wf.lt k2
 have w1:aq E 3 (H.n+0) 1 (news H [.cells [.string s,iI at_] 135 false])=some (iI at_):=cI aR rfl rfl
 obtain ⟨_,_,H1,c1,bN,y1,rfl,eL,oZ,ai0,rfl,ahJ,ahL,cw,iX⟩:=(Ta (H.n+0) b1 b2 s at_ _ at_ pl was _ (y.news [.cells [.string s,iI at_] 135 false]) (aB [.cells [.string s,iI at_] 135 false] H 0 _ rfl) (y.old k1 [.cells [.string s,iI at_] 135 false]) (y.old k2 [.cells [.string s,iI at_] 135 false]) hs a0 a1 aa aa hb WO yY aa aa rfl).code
 have bz:=(y.news [.cells [.string s,iI at_] 135 false]).kept bN cu (aB [.cells [.string s,iI at_] 135 false] H 0 _ rfl)
 have w2:aq E 9 (H.n+0) 0 H1=some (.string s):=bQ bB bz rfl
 have w3:aq E 3 (H.n+0) 1 H1=some (iI at_):=bQ aR bz rfl
 have w4:0≤at_:=aa
 have w5:at_≤eL:=aa
 have w6:eL≤(s.size:Int):=aa
 exact aD.mk y (dj [au 2,vl (iI at_) (news H [.cells [.string s,iI at_] 135 false]),au 0,.loop [1,2,5] (.exit 0) (bw [(2,pt (H.n+0) 0),(5,iI eL)]) H1 [b1,b2],au 0,vl (.string s) H1,au 0,vl (iI at_) H1,au 0,.ck,au 0] (.string (s.extract at_.toNat eL.toNat)) H1 [b1,b2] A2 A3 (fk w1 c1 w2 w3 w4 w5 w6 aS)) aj aJ ⟨_,rfl,by simp only [ByteArray.size_extract];omega⟩
theorem nT:E.func 106=some Tryz.f106:=ah
theorem nU:bO Tryz.f106 1=true:=ah
noncomputable abbrev aO H s at_:=news H [.cells [.string s,iI at_] 135 false,.cells [iI 0,iI 0,.string ⟨#[]⟩] 112 false]
noncomputable abbrev bG H s at_:=news H [.cells [.string s,iI at_] 135 false,.cells [iI 0,iI 0,.string ⟨#[]⟩] 112 false,.cells [.bool true] 4 false,.cells [uB 0] 5 false]
noncomputable abbrev lV H s at_:=news H [.cells [.string s,iI at_] 135 false,.cells [iI 0,iI 0,.string ⟨#[]⟩] 112 false,.cells [.bool false] 4 false,.cells [uB 0] 5 false]
theorem Jm (s:ByteArray) (at_:Int) {H:Hp} (y:Gd E G H) (hs:(s.size:Int)<100000) (a0:0≤at_) (a1:at_<s.size):aD E G 106 [.agg #[.string s,iI at_]] H [] (fun v H'=>∃(k:Int) (a:Int) (t:ByteArray) (n:Int),v=(.tuple #[.agg #[iI k,iI a,.string t],iI n])∧(0≤n∧at_+n≤s.size)):=by
 have g0:=y.n
 have w1:aq E 9 (H.n+0) 0 (aO H s at_)=some (.string s):=cI bB rfl rfl
 have w2:aq E 3 (H.n+0) 1 (aO H s at_)=some (iI at_):=cI aR rfl rfl
 have w3:0≤at_:=by first |omega |(simp only [ByteArray.size_extract];omega)
 have w4:at_≤(s.size:Int):=by first |omega |(simp only [ByteArray.size_extract];omega)
 have w5:0≤(0:Int):=by first |omega |(simp only [ByteArray.size_extract];omega)
 have w6:(0:Int)<((s.extract at_.toNat s.size).size:Int):=by first |omega |(simp only [ByteArray.size_extract];omega)
 obtain ⟨xQ,dM⟩:=tS (ak (s.extract at_.toNat s.size) 0)
 cases xQ with
 |true=>
  have w7:aq E 135 (H.n+0) 0 (bG H s at_)=some (.agg #[.string s,iI at_]):=fQ iO fS rfl rfl rfl
  obtain ⟨_,H1,c1,bN,y1,wx,rfl,hwx⟩:=Es s at_ (H.n+2) (H.n+3) true 0 (y.news [.cells [.string s,iI at_] 135 false,.cells [iI 0,iI 0,.string ⟨#[]⟩] 112 false,.cells [.bool true] 4 false,.cells [uB 0] 5 false]) (aB [.cells [.string s,iI at_] 135 false,.cells [iI 0,iI 0,.string ⟨#[]⟩] 112 false,.cells [.bool true] 4 false,.cells [uB 0] 5 false] H 2 _ rfl) (aB [.cells [.string s,iI at_] 135 false,.cells [iI 0,iI 0,.string ⟨#[]⟩] 112 false,.cells [.bool true] 4 false,.cells [uB 0] 5 false] H 3 _ rfl) aa aa aa hs a0 aa
  have jq:H.n+4≤H1.n:=by have h:=bN.n;rw [bF] at h;exact h
  have cV:=(y.news [.cells [.string s,iI at_] 135 false,.cells [iI 0,iI 0,.string ⟨#[]⟩] 112 false,.cells [.bool true] 4 false,.cells [uB 0] 5 false]).kept bN cu (aB [.cells [.string s,iI at_] 135 false,.cells [iI 0,iI 0,.string ⟨#[]⟩] 112 false,.cells [.bool true] 4 false,.cells [uB 0] 5 false] H 1 _ rfl)
  obtain ⟨vn,vo,YF⟩:=Em wx
  cases vo with
  |true=>
   obtain ⟨pn,po,hpp⟩:=FR wx
   cases po with
   |true=>
    obtain ⟨K2,e2⟩:∃ K_,K_=H1.set (H.n+1) (.cells [iI 0,iI 0,.string ⟨#[]⟩] 112 false):=⟨_,rfl⟩
    have jI:K2.n=H1.n+0:=by rw [e2,Hp.cT] <;> rfl
    have dz:=aP e2
    exact aD.mk y (CC.de ok (f:=300) (hs:=[au 3,vl (.string s) (aO H s at_),au 0,vl (iI at_) (aO H s at_),.ck,au 1,.ck,.call (.bool true) (aO H s at_) [],au 4,vl bJ (bG H s at_),vl bJ (bG H s at_),vl (.agg #[.string s,iI at_]) (bG H s at_),au 0,.call (.string wx) H1 [H.n+2,H.n+3],au 1,.call (.tuple #[uU vn,nE true 13]) H1 [],au 7,.call (.tuple #[iI pn,nE true 13]) H1 [],au 7,vl bJ K2,au 0]) (vs:=[.agg #[iI 0,iI 0,.string ⟨#[]⟩],iI 0]) (v:=(.tuple #[.agg #[iI 0,iI 0,.string ⟨#[]⟩],iI 0])) (H':=K2) (W:=[H.n+2,H.n+3,H.n+2,H.n+3,H.n+1]) nT nU (kn w1<|kn w2<|kn w3<|kn w4<|kn w5<|kn w6<|kn (show CC E 124 [uB (ak (s.extract at_.toNat s.size) 0)] (aO H s at_) (.ret (.bool true)) (aO H s at_) [] from dM (y.news [.cells [.string s,iI at_] 135 false,.cells [iI 0,iI 0,.string ⟨#[]⟩] 112 false]))<|kn (show az E 4 (H.n+2) 0 (.bool true) (lV H s at_)=some (bG H s at_) from cN jS rfl rfl rfl rfl)<|kn (show az E 5 (H.n+3) 0 (uB 0) (bG H s at_)=some (bG H s at_) from cN eg rfl rfl rfl rfl)<|kn w7<|kn c1<|kn (show CC E 126 [.string wx] H1 (.ret (.tuple #[uU vn,nE true 13])) H1 [] from YF y1)<|kn (show CC E 127 [.string wx] H1 (.ret (.tuple #[iI pn,nE true 13])) H1 [] from hpp y1)<|kn (show az E 112 (H.n+1) 0 (.agg #[iI 0,iI 0,.string ⟨#[]⟩]) H1=some K2 from (st aX cV rfl rfl).trans (congrArg some e2.symm))<|kn (show aq E 112 (H.n+1) 0 K2=some (.agg #[iI 0,iI 0,.string ⟨#[]⟩]) from (o7 cQ aX dz rfl rfl))<|sw (iI 0)<|trivial) ah) aG aM ⟨0,0,⟨#[]⟩,0,rfl,by omega,by omega⟩
   |false=>
    obtain ⟨K2,e2⟩:∃ K_,K_=H1.set (H.n+1) (.cells [iI 3,iI 0,.string wx] 112 false):=⟨_,rfl⟩
    have jI:K2.n=H1.n+0:=by rw [e2,Hp.cT] <;> rfl
    have dz:=aP e2
    exact aD.mk y (CC.de ok (f:=300) (hs:=[au 3,vl (.string s) (aO H s at_),au 0,vl (iI at_) (aO H s at_),.ck,au 1,.ck,.call (.bool true) (aO H s at_) [],au 4,vl bJ (bG H s at_),vl bJ (bG H s at_),vl (.agg #[.string s,iI at_]) (bG H s at_),au 0,.call (.string wx) H1 [H.n+2,H.n+3],au 1,.call (.tuple #[uU vn,nE true 13]) H1 [],au 7,.call (.tuple #[iI pn,nE false 13]) H1 [],au 10,vl bJ K2,au 0]) (vs:=[.agg #[iI 3,iI 0,.string wx],iI (wx.size:Int)]) (v:=(.tuple #[.agg #[iI 3,iI 0,.string wx],iI (wx.size:Int)])) (H':=K2) (W:=[H.n+2,H.n+3,H.n+2,H.n+3,H.n+1]) nT nU (kn w1<|kn w2<|kn w3<|kn w4<|kn w5<|kn w6<|kn (show CC E 124 [uB (ak (s.extract at_.toNat s.size) 0)] (aO H s at_) (.ret (.bool true)) (aO H s at_) [] from dM (y.news [.cells [.string s,iI at_] 135 false,.cells [iI 0,iI 0,.string ⟨#[]⟩] 112 false]))<|kn (show az E 4 (H.n+2) 0 (.bool true) (lV H s at_)=some (bG H s at_) from cN jS rfl rfl rfl rfl)<|kn (show az E 5 (H.n+3) 0 (uB 0) (bG H s at_)=some (bG H s at_) from cN eg rfl rfl rfl rfl)<|kn w7<|kn c1<|kn (show CC E 126 [.string wx] H1 (.ret (.tuple #[uU vn,nE true 13])) H1 [] from YF y1)<|kn (show CC E 127 [.string wx] H1 (.ret (.tuple #[iI pn,nE false 13])) H1 [] from hpp y1)<|kn (show az E 112 (H.n+1) 0 (.agg #[iI 3,iI 0,.string wx]) H1=some K2 from (st aX cV rfl rfl).trans (congrArg some e2.symm))<|kn (show aq E 112 (H.n+1) 0 K2=some (.agg #[iI 3,iI 0,.string wx]) from (o7 cQ aX dz rfl rfl))<|sw (iI (wx.size:Int))<|trivial) ah) aG aM ⟨3,0,wx,(wx.size:Int),rfl,by omega,by omega⟩
  |false=>
   obtain ⟨K2,e2⟩:∃ K_,K_=H1.set (H.n+1) (.cells [iI 2,iI 0,.string wx] 112 false):=⟨_,rfl⟩
   have jI:K2.n=H1.n+0:=by rw [e2,Hp.cT] <;> rfl
   have dz:=aP e2
   exact aD.mk y (CC.de ok (f:=300) (hs:=[au 3,vl (.string s) (aO H s at_),au 0,vl (iI at_) (aO H s at_),.ck,au 1,.ck,.call (.bool true) (aO H s at_) [],au 4,vl bJ (bG H s at_),vl bJ (bG H s at_),vl (.agg #[.string s,iI at_]) (bG H s at_),au 0,.call (.string wx) H1 [H.n+2,H.n+3],au 1,.call (.tuple #[uU vn,nE false 13]) H1 [],au 10,vl bJ K2,au 0]) (vs:=[.agg #[iI 2,iI 0,.string wx],iI (wx.size:Int)]) (v:=(.tuple #[.agg #[iI 2,iI 0,.string wx],iI (wx.size:Int)])) (H':=K2) (W:=[H.n+2,H.n+3,H.n+2,H.n+3,H.n+1]) nT nU (kn w1<|kn w2<|kn w3<|kn w4<|kn w5<|kn w6<|kn (show CC E 124 [uB (ak (s.extract at_.toNat s.size) 0)] (aO H s at_) (.ret (.bool true)) (aO H s at_) [] from dM (y.news [.cells [.string s,iI at_] 135 false,.cells [iI 0,iI 0,.string ⟨#[]⟩] 112 false]))<|kn (show az E 4 (H.n+2) 0 (.bool true) (lV H s at_)=some (bG H s at_) from cN jS rfl rfl rfl rfl)<|kn (show az E 5 (H.n+3) 0 (uB 0) (bG H s at_)=some (bG H s at_) from cN eg rfl rfl rfl rfl)<|kn w7<|kn c1<|kn (show CC E 126 [.string wx] H1 (.ret (.tuple #[uU vn,nE false 13])) H1 [] from YF y1)<|kn (show az E 112 (H.n+1) 0 (.agg #[iI 2,iI 0,.string wx]) H1=some K2 from (st aX cV rfl rfl).trans (congrArg some e2.symm))<|kn (show aq E 112 (H.n+1) 0 K2=some (.agg #[iI 2,iI 0,.string wx]) from (o7 cQ aX dz rfl rfl))<|sw (iI (wx.size:Int))<|trivial) ah) aG aM ⟨2,0,wx,(wx.size:Int),rfl,by omega,by omega⟩
 |false=>
  cases h2:((ak (s.extract at_.toNat s.size) 0) != 46) with
  |true=>
   exact aD.mk y (CC.de ok (f:=300) (hs:=[au 3,vl (.string s) (aO H s at_),au 0,vl (iI at_) (aO H s at_),.ck,au 1,.ck,.call (.bool false) (aO H s at_) [],au 2,.ck,aI,au 5,vl bJ (aO H s at_),au 0]) (vs:=[.agg #[iI 0,iI 0,.string ⟨#[]⟩],iI 0]) (v:=(.tuple #[.agg #[iI 0,iI 0,.string ⟨#[]⟩],iI 0])) (H':=(aO H s at_)) (W:=[H.n+1]) nT nU (kn w1<|kn w2<|kn w3<|kn w4<|kn w5<|kn w6<|kn (show CC E 124 [uB (ak (s.extract at_.toNat s.size) 0)] (aO H s at_) (.ret (.bool false)) (aO H s at_) [] from dM (y.news [.cells [.string s,iI at_] 135 false,.cells [iI 0,iI 0,.string ⟨#[]⟩] 112 false]))<|kn w5<|kn w6<|kn h2<|kn (show az E 112 (H.n+1) 0 (.agg #[iI 0,iI 0,.string ⟨#[]⟩]) (aO H s at_)=some (aO H s at_) from cN aX rfl rfl rfl rfl)<|kn (show aq E 112 (H.n+1) 0 (aO H s at_)=some (.agg #[iI 0,iI 0,.string ⟨#[]⟩]) from (fQ cQ aX rfl rfl rfl))<|sw (iI 0)<|trivial) ah) aG aM ⟨0,0,⟨#[]⟩,0,rfl,by omega,by omega⟩
  |false=>
   cases h3:(((s.extract at_.toNat s.size).size:Int)==1) with
   |true=>
    exact aD.mk y (CC.de ok (f:=300) (hs:=[au 3,vl (.string s) (aO H s at_),au 0,vl (iI at_) (aO H s at_),.ck,au 1,.ck,.call (.bool false) (aO H s at_) [],au 2,.ck,aF,au 2,aI,au 4,vl bJ (aO H s at_),au 0]) (vs:=[.agg #[iI 0,iI 0,.string ⟨#[]⟩],iI 0]) (v:=(.tuple #[.agg #[iI 0,iI 0,.string ⟨#[]⟩],iI 0])) (H':=(aO H s at_)) (W:=[H.n+1]) nT nU (kn w1<|kn w2<|kn w3<|kn w4<|kn w5<|kn w6<|kn (show CC E 124 [uB (ak (s.extract at_.toNat s.size) 0)] (aO H s at_) (.ret (.bool false)) (aO H s at_) [] from dM (y.news [.cells [.string s,iI at_] 135 false,.cells [iI 0,iI 0,.string ⟨#[]⟩] 112 false]))<|kn w5<|kn w6<|kn h2<|kn h3<|kn (show az E 112 (H.n+1) 0 (.agg #[iI 0,iI 0,.string ⟨#[]⟩]) (aO H s at_)=some (aO H s at_) from cN aX rfl rfl rfl rfl)<|kn (show aq E 112 (H.n+1) 0 (aO H s at_)=some (.agg #[iI 0,iI 0,.string ⟨#[]⟩]) from (fQ cQ aX rfl rfl rfl))<|sw (iI 0)<|trivial) ah) aG aM ⟨0,0,⟨#[]⟩,0,rfl,by omega,by omega⟩
   |false=>
    have q3:=bK h3
    have w7:0≤(1:Int):=by first |omega |(simp only [ByteArray.size_extract];omega)
    have w8:(1:Int)<((s.extract at_.toNat s.size).size:Int):=by first |omega |(simp only [ByteArray.size_extract];omega)
    obtain ⟨K9,lu⟩:=tS (ak (s.extract at_.toNat s.size) 1)
    cases K9 with
    |true=>
     have w9:aq E 135 (H.n+0) 0 (bG H s at_)=some (.agg #[.string s,iI at_]):=fQ iO fS rfl rfl rfl
     obtain ⟨_,H1,c1,bN,y1,wx,rfl,hwx⟩:=Es s at_ (H.n+2) (H.n+3) true 0 (y.news [.cells [.string s,iI at_] 135 false,.cells [iI 0,iI 0,.string ⟨#[]⟩] 112 false,.cells [.bool true] 4 false,.cells [uB 0] 5 false]) (aB [.cells [.string s,iI at_] 135 false,.cells [iI 0,iI 0,.string ⟨#[]⟩] 112 false,.cells [.bool true] 4 false,.cells [uB 0] 5 false] H 2 _ rfl) (aB [.cells [.string s,iI at_] 135 false,.cells [iI 0,iI 0,.string ⟨#[]⟩] 112 false,.cells [.bool true] 4 false,.cells [uB 0] 5 false] H 3 _ rfl) aa aa aa hs a0 aa
     have jq:H.n+4≤H1.n:=by have h:=bN.n;rw [bF] at h;exact h
     have cV:=(y.news [.cells [.string s,iI at_] 135 false,.cells [iI 0,iI 0,.string ⟨#[]⟩] 112 false,.cells [.bool true] 4 false,.cells [uB 0] 5 false]).kept bN cu (aB [.cells [.string s,iI at_] 135 false,.cells [iI 0,iI 0,.string ⟨#[]⟩] 112 false,.cells [.bool true] 4 false,.cells [uB 0] 5 false] H 1 _ rfl)
     obtain ⟨vn,vo,YF⟩:=Em wx
     cases vo with
     |true=>
      obtain ⟨pn,po,hpp⟩:=FR wx
      cases po with
      |true=>
       obtain ⟨K2,e2⟩:∃ K_,K_=H1.set (H.n+1) (.cells [iI 0,iI 0,.string ⟨#[]⟩] 112 false):=⟨_,rfl⟩
       have jI:K2.n=H1.n+0:=by rw [e2,Hp.cT] <;> rfl
       have dz:=aP e2
       exact aD.mk y (CC.de ok (f:=300) (hs:=[au 3,vl (.string s) (aO H s at_),au 0,vl (iI at_) (aO H s at_),.ck,au 1,.ck,.call (.bool false) (aO H s at_) [],au 2,.ck,aF,au 2,aF,au 2,.ck,.call (.bool true) (aO H s at_) [],au 4,vl bJ (bG H s at_),vl bJ (bG H s at_),vl (.agg #[.string s,iI at_]) (bG H s at_),au 0,.call (.string wx) H1 [H.n+2,H.n+3],au 1,.call (.tuple #[uU vn,nE true 13]) H1 [],au 7,.call (.tuple #[iI pn,nE true 13]) H1 [],au 7,vl bJ K2,au 0]) (vs:=[.agg #[iI 0,iI 0,.string ⟨#[]⟩],iI 0]) (v:=(.tuple #[.agg #[iI 0,iI 0,.string ⟨#[]⟩],iI 0])) (H':=K2) (W:=[H.n+2,H.n+3,H.n+2,H.n+3,H.n+1]) nT nU (kn w1<|kn w2<|kn w3<|kn w4<|kn w5<|kn w6<|kn (show CC E 124 [uB (ak (s.extract at_.toNat s.size) 0)] (aO H s at_) (.ret (.bool false)) (aO H s at_) [] from dM (y.news [.cells [.string s,iI at_] 135 false,.cells [iI 0,iI 0,.string ⟨#[]⟩] 112 false]))<|kn w5<|kn w6<|kn h2<|kn h3<|kn w7<|kn w8<|kn (show CC E 124 [uB (ak (s.extract at_.toNat s.size) 1)] (aO H s at_) (.ret (.bool true)) (aO H s at_) [] from lu (y.news [.cells [.string s,iI at_] 135 false,.cells [iI 0,iI 0,.string ⟨#[]⟩] 112 false]))<|kn (show az E 4 (H.n+2) 0 (.bool true) (lV H s at_)=some (bG H s at_) from cN jS rfl rfl rfl rfl)<|kn (show az E 5 (H.n+3) 0 (uB 0) (bG H s at_)=some (bG H s at_) from cN eg rfl rfl rfl rfl)<|kn w9<|kn c1<|kn (show CC E 126 [.string wx] H1 (.ret (.tuple #[uU vn,nE true 13])) H1 [] from YF y1)<|kn (show CC E 127 [.string wx] H1 (.ret (.tuple #[iI pn,nE true 13])) H1 [] from hpp y1)<|kn (show az E 112 (H.n+1) 0 (.agg #[iI 0,iI 0,.string ⟨#[]⟩]) H1=some K2 from (st aX cV rfl rfl).trans (congrArg some e2.symm))<|kn (show aq E 112 (H.n+1) 0 K2=some (.agg #[iI 0,iI 0,.string ⟨#[]⟩]) from (o7 cQ aX dz rfl rfl))<|sw (iI 0)<|trivial) ah) aG aM ⟨0,0,⟨#[]⟩,0,rfl,by omega,by omega⟩
      |false=>
       obtain ⟨K2,e2⟩:∃ K_,K_=H1.set (H.n+1) (.cells [iI 3,iI 0,.string wx] 112 false):=⟨_,rfl⟩
       have jI:K2.n=H1.n+0:=by rw [e2,Hp.cT] <;> rfl
       have dz:=aP e2
       exact aD.mk y (CC.de ok (f:=300) (hs:=[au 3,vl (.string s) (aO H s at_),au 0,vl (iI at_) (aO H s at_),.ck,au 1,.ck,.call (.bool false) (aO H s at_) [],au 2,.ck,aF,au 2,aF,au 2,.ck,.call (.bool true) (aO H s at_) [],au 4,vl bJ (bG H s at_),vl bJ (bG H s at_),vl (.agg #[.string s,iI at_]) (bG H s at_),au 0,.call (.string wx) H1 [H.n+2,H.n+3],au 1,.call (.tuple #[uU vn,nE true 13]) H1 [],au 7,.call (.tuple #[iI pn,nE false 13]) H1 [],au 10,vl bJ K2,au 0]) (vs:=[.agg #[iI 3,iI 0,.string wx],iI (wx.size:Int)]) (v:=(.tuple #[.agg #[iI 3,iI 0,.string wx],iI (wx.size:Int)])) (H':=K2) (W:=[H.n+2,H.n+3,H.n+2,H.n+3,H.n+1]) nT nU (kn w1<|kn w2<|kn w3<|kn w4<|kn w5<|kn w6<|kn (show CC E 124 [uB (ak (s.extract at_.toNat s.size) 0)] (aO H s at_) (.ret (.bool false)) (aO H s at_) [] from dM (y.news [.cells [.string s,iI at_] 135 false,.cells [iI 0,iI 0,.string ⟨#[]⟩] 112 false]))<|kn w5<|kn w6<|kn h2<|kn h3<|kn w7<|kn w8<|kn (show CC E 124 [uB (ak (s.extract at_.toNat s.size) 1)] (aO H s at_) (.ret (.bool true)) (aO H s at_) [] from lu (y.news [.cells [.string s,iI at_] 135 false,.cells [iI 0,iI 0,.string ⟨#[]⟩] 112 false]))<|kn (show az E 4 (H.n+2) 0 (.bool true) (lV H s at_)=some (bG H s at_) from cN jS rfl rfl rfl rfl)<|kn (show az E 5 (H.n+3) 0 (uB 0) (bG H s at_)=some (bG H s at_) from cN eg rfl rfl rfl rfl)<|kn w9<|kn c1<|kn (show CC E 126 [.string wx] H1 (.ret (.tuple #[uU vn,nE true 13])) H1 [] from YF y1)<|kn (show CC E 127 [.string wx] H1 (.ret (.tuple #[iI pn,nE false 13])) H1 [] from hpp y1)<|kn (show az E 112 (H.n+1) 0 (.agg #[iI 3,iI 0,.string wx]) H1=some K2 from (st aX cV rfl rfl).trans (congrArg some e2.symm))<|kn (show aq E 112 (H.n+1) 0 K2=some (.agg #[iI 3,iI 0,.string wx]) from (o7 cQ aX dz rfl rfl))<|sw (iI (wx.size:Int))<|trivial) ah) aG aM ⟨3,0,wx,(wx.size:Int),rfl,by omega,by omega⟩
     |false=>
      obtain ⟨K2,e2⟩:∃ K_,K_=H1.set (H.n+1) (.cells [iI 2,iI 0,.string wx] 112 false):=⟨_,rfl⟩
      have jI:K2.n=H1.n+0:=by rw [e2,Hp.cT] <;> rfl
      have dz:=aP e2
      exact aD.mk y (CC.de ok (f:=300) (hs:=[au 3,vl (.string s) (aO H s at_),au 0,vl (iI at_) (aO H s at_),.ck,au 1,.ck,.call (.bool false) (aO H s at_) [],au 2,.ck,aF,au 2,aF,au 2,.ck,.call (.bool true) (aO H s at_) [],au 4,vl bJ (bG H s at_),vl bJ (bG H s at_),vl (.agg #[.string s,iI at_]) (bG H s at_),au 0,.call (.string wx) H1 [H.n+2,H.n+3],au 1,.call (.tuple #[uU vn,nE false 13]) H1 [],au 10,vl bJ K2,au 0]) (vs:=[.agg #[iI 2,iI 0,.string wx],iI (wx.size:Int)]) (v:=(.tuple #[.agg #[iI 2,iI 0,.string wx],iI (wx.size:Int)])) (H':=K2) (W:=[H.n+2,H.n+3,H.n+2,H.n+3,H.n+1]) nT nU (kn w1<|kn w2<|kn w3<|kn w4<|kn w5<|kn w6<|kn (show CC E 124 [uB (ak (s.extract at_.toNat s.size) 0)] (aO H s at_) (.ret (.bool false)) (aO H s at_) [] from dM (y.news [.cells [.string s,iI at_] 135 false,.cells [iI 0,iI 0,.string ⟨#[]⟩] 112 false]))<|kn w5<|kn w6<|kn h2<|kn h3<|kn w7<|kn w8<|kn (show CC E 124 [uB (ak (s.extract at_.toNat s.size) 1)] (aO H s at_) (.ret (.bool true)) (aO H s at_) [] from lu (y.news [.cells [.string s,iI at_] 135 false,.cells [iI 0,iI 0,.string ⟨#[]⟩] 112 false]))<|kn (show az E 4 (H.n+2) 0 (.bool true) (lV H s at_)=some (bG H s at_) from cN jS rfl rfl rfl rfl)<|kn (show az E 5 (H.n+3) 0 (uB 0) (bG H s at_)=some (bG H s at_) from cN eg rfl rfl rfl rfl)<|kn w9<|kn c1<|kn (show CC E 126 [.string wx] H1 (.ret (.tuple #[uU vn,nE false 13])) H1 [] from YF y1)<|kn (show az E 112 (H.n+1) 0 (.agg #[iI 2,iI 0,.string wx]) H1=some K2 from (st aX cV rfl rfl).trans (congrArg some e2.symm))<|kn (show aq E 112 (H.n+1) 0 K2=some (.agg #[iI 2,iI 0,.string wx]) from (o7 cQ aX dz rfl rfl))<|sw (iI (wx.size:Int))<|trivial) ah) aG aM ⟨2,0,wx,(wx.size:Int),rfl,by omega,by omega⟩
    |false=>
     exact aD.mk y (CC.de ok (f:=300) (hs:=[au 3,vl (.string s) (aO H s at_),au 0,vl (iI at_) (aO H s at_),.ck,au 1,.ck,.call (.bool false) (aO H s at_) [],au 2,.ck,aF,au 2,aF,au 2,.ck,.call (.bool false) (aO H s at_) [],au 3,vl bJ (aO H s at_),au 0]) (vs:=[.agg #[iI 0,iI 0,.string ⟨#[]⟩],iI 0]) (v:=(.tuple #[.agg #[iI 0,iI 0,.string ⟨#[]⟩],iI 0])) (H':=(aO H s at_)) (W:=[H.n+1]) nT nU (kn w1<|kn w2<|kn w3<|kn w4<|kn w5<|kn w6<|kn (show CC E 124 [uB (ak (s.extract at_.toNat s.size) 0)] (aO H s at_) (.ret (.bool false)) (aO H s at_) [] from dM (y.news [.cells [.string s,iI at_] 135 false,.cells [iI 0,iI 0,.string ⟨#[]⟩] 112 false]))<|kn w5<|kn w6<|kn h2<|kn h3<|kn w7<|kn w8<|kn (show CC E 124 [uB (ak (s.extract at_.toNat s.size) 1)] (aO H s at_) (.ret (.bool false)) (aO H s at_) [] from lu (y.news [.cells [.string s,iI at_] 135 false,.cells [iI 0,iI 0,.string ⟨#[]⟩] 112 false]))<|kn (show az E 112 (H.n+1) 0 (.agg #[iI 0,iI 0,.string ⟨#[]⟩]) (aO H s at_)=some (aO H s at_) from cN aX rfl rfl rfl rfl)<|kn (show aq E 112 (H.n+1) 0 (aO H s at_)=some (.agg #[iI 0,iI 0,.string ⟨#[]⟩]) from (fQ cQ aX rfl rfl rfl))<|sw (iI 0)<|trivial) ah) aG aM ⟨0,0,⟨#[]⟩,0,rfl,by omega,by omega⟩
theorem Ow (s:ByteArray) (at_:Int) (hs:(s.size:Int)<100000) (a0:0≤at_) (a1:at_<s.size):∃(k:Int) (a:Int) (t:ByteArray) (n:Int),(0≤n∧at_+n≤s.size)∧∀{H:Hp},Gd E G H→CC E 106 [.agg #[.string s,iI at_]] H (.ret (.tuple #[.agg #[iI k,iI a,.string t],iI n])) H []:=by
 obtain ⟨_,_,c,_,_,k,a,t,n,rfl,hs⟩:=Jm s at_ eZ hs a0 a1
 exact ⟨k,a,t,n,hs,fun y=>aW (cq rfl) (qY _ _ _ _) c y⟩
theorem EJ (s:ByteArray) (t:ByteArray) {H:Hp} (y:Gd E G H):aD E G 155 [.string s,.string t] H [] (fun v H'=>∃(b:Bool),v=(.bool b)∧(b=true→t.size≤s.size)):=by
 cases h1:(decide ((s.size:Int)≥(t.size:Int))) with
 |true=>
  have q1:=aL h1
  have w1:0≤(t.size:Int):=aa
  have w2:(t.size:Int)≤(s.size:Int):=aa
  cases h2:((s.extract 0 (t.size:Int).toNat).toList==t.toList) with
  |true=>
   exact bA y [au 4,aI,au 3,.ck,au 0,aI,au 1] (.bool true) H Gq Gr (gm h1 w1 w2 h2 aS) ⟨true,rfl,fun h=>by omega⟩
  |false=>
   exact bA y [au 4,aI,au 3,.ck,au 0,aF,au 1] (.bool false) H Gq Gr (gm h1 w1 w2 h2 aS) ⟨false,rfl,fun h=>absurd h aj⟩
 |false=>
  exact bA y [au 4,aF,au 2] (.bool false) H Gq Gr (cF h1 aS) ⟨false,rfl,fun h=>absurd h aj⟩
theorem IU (s:ByteArray) (t:ByteArray):∃(b:Bool),(b=true→t.size≤s.size)∧∀{H:Hp},Gd E G H→CC E 155 [.string s,.string t] H (.ret (.bool b)) H []:=by
 obtain ⟨_,_,c,_,_,b,rfl,hs⟩:=EJ s t eZ
 exact ⟨b,hs,fun y=>aW (cq rfl) (.ground rfl) c y⟩
theorem GV (s:ByteArray) (t:ByteArray) {H:Hp} (y:Gd E G H):aD E G 129 [.string s,.string t] H [] (fun v H'=>∃(b:Bool),v=(.bool b)∧(b=true→t.size≤s.size)):=by
 obtain ⟨pb,Ak,GY⟩:=IU s t
 exact bA y [au 2,.call (.bool pb) H [],au 0] (.bool pb) H Ui Uj (cF (show CC E 155 [.string s,.string t] H (.ret (.bool pb)) H [] from GY y) aS) ⟨pb,rfl,Ak⟩
theorem KI (s:ByteArray) (t:ByteArray):∃(b:Bool),(b=true→t.size≤s.size)∧∀{H:Hp},Gd E G H→CC E 129 [.string s,.string t] H (.ret (.bool b)) H []:=by
 obtain ⟨_,_,c,_,_,b,rfl,hs⟩:=GV s t eZ
 exact ⟨b,hs,fun y=>aW (cq rfl) (.ground rfl) c y⟩
theorem EW {i:Int} (h0:0≤i) (h1:i<22):∃ t:ByteArray,gD[0+i.toNat*1]?=some (.string t)∧0<t.size:=by
 have key:(gD.all fun v=>match v with |.string t=>Nat.blt 0 t.size |_=>false)=true:=by kernel_rfl
 have hl:gD.length=22:=by kernel_rfl
 have hlt:i.toNat<gD.length:=aa
 have:=List.all_eq_true.1 key gD[i.toNat] (List.getElem_mem hlt)
 rw [show 0+i.toNat*1=i.toNat by omega,bZ hlt]
 split at this
 ·rename_i t e
  rw [e]
  exact ⟨t,rfl,by simpa using this⟩
 ·cases this
noncomputable def XZ:Code:=cz [1,0,1,0,0] (bH Tryz.f108)
theorem ab2 (b:Nat) (b1:Nat) (b2:Nat) (s:ByteArray) (at_:Int):∀(m:Nat) (x8:Int) (H:Hp),Gd E G H→(kb:H.get b=some (.cells [.string s,iI at_] 135 false))→(ks:H.get b1=some (.cells gD 9 false))→(kt:H.get b2=some (.cells [iI 0,iI 0,.string ⟨#[]⟩] 112 false))→(hs:(s.size:Int)<100000)→(a0:0≤at_)→(a1:at_<s.size)→(x0:0≤x8)→(x1:x8≤22)→(yY:G.n≤b2)→(d1:b≠b2)→(d2:b1≠b2)→(22-x8).toNat=m→
  aA E G 25 XZ [(1,pt b 0),(2,pt b2 0),(6,sc b1 0 22 45),(7,iI 22),(8,iI x8)] H [b2] (fun x T H'=>(x=(.exit 0)∧T=bw [(2,pt b2 0)]∧(H'.get b2=some (.cells [.int .i64 0,.int .i64 0,.string ⟨#[]⟩] 112 false)))∨(x=.ret∧∃(z3:Int) (zt:ByteArray),T=bw [(2,pt b2 0),(3,iI z3)]∧(H'.get b2=some (.cells [.int .i64 5,.int .i64 0,.string zt] 112 false)∧0≤z3∧at_+z3≤s.size))):=by
 intro m
 induction m using Nat.strongRecOn with
 |_ m ih=>
 intro x8 H y kb ks kt hs a0 a1 x0 x1 yY d1 d2 hm
 have An:=y.wf.lt kt
 cases h1:(decide (x8<22)) with
 |true=>
  have q1:=aL h1
  have w1:0≤x8:=aa
  have w2:x8<(22:Int):=aa
  obtain ⟨EU,Ru,ahm⟩:=EW (i:=x8) aa aa
  have w3:aq E 9 b1 (0+x8.toNat*1) H=some (.string EU):=bQ bB ks Ru
  have w4:aq E 9 b 0 H=some (.string s):=bQ bB kb rfl
  have w5:aq E 3 b 1 H=some (iI at_):=bQ aR kb rfl
  have w6:0≤at_:=aa
  have w7:at_≤(s.size:Int):=aa
  obtain ⟨Zm,GY,aaL⟩:=KI (s.extract at_.toNat s.size) EU
  cases Zm with
  |true=>
   obtain ⟨K1,e1⟩:∃ K_,K_=H.set b2 (.cells [iI 5,iI 0,.string EU] 112 false):=⟨_,rfl⟩
   have eH:=aP e1
   exact aA.last' y (bf [aI,.ck,vl (.string EU) H,au 1,vl (.string s) H,au 0,vl (iI at_) H,.ck,au 0,.call (.bool true) H [],au 3,vl bJ K1,au 0] [(2,pt b2 0),(3,iI (EU.size:Int))] .ret K1 [b2] (fun _ r_=>aE h1 w1 w2 w3 w4 w5 w6 w7<|cU (show CC E 129 [.string (s.extract at_.toNat s.size),.string EU] H (.ret (.bool true)) H [] from aaL y) (show az E 112 b2 0 (.agg #[iI 5,iI 0,.string EU]) H=some K1 from (st aX kt rfl rfl).trans (congrArg some e1.symm)) r_)) aj aj aJ (.inr (⟨rfl,(EU.size:Int),EU,rfl,⟨eH,by omega,by have:=GY rfl;simp only [ByteArray.size_extract] at this;omega⟩⟩))
  |false=>
   have w8:=aC (x8+1)
   exact aA.next' y (bf [aI,.ck,vl (.string EU) H,au 1,vl (.string s) H,au 0,vl (iI at_) H,.ck,au 0,.call (.bool false) H [],.as (iI (x8+1)),au 0] [(1,pt b 0),(2,pt b2 0),(6,sc b1 0 22 45),(7,iI 22),(8,iI (x8+1))] .normal H [] (fun _ r_=>aE h1 w1 w2 w3 w4 w5 w6 w7<|cU (show CC E 129 [.string (s.extract at_.toNat s.size),.string EU] H (.ret (.bool false)) H [] from aaL y) w8 r_)) aM (ih _ aa (x8+1) _ y kb ks kt hs a0 a1 aa aa yY d1 d2 rfl)
 |false=>
  exact aA.last' y (bf [aF] [(2,pt b2 0)] (.exit 0) H [] (fun _ r_=>cF h1 r_)) aj aM aJ (.inl (⟨rfl,rfl,kt⟩))
theorem Ms:E.func 108=some Tryz.f108:=ah
theorem Mt:bO Tryz.f108 1=true:=ah
noncomputable abbrev rU H s at_:=news H [.cells [.string s,iI at_] 135 false,.cells [iI 0,iI 0,.string ⟨#[]⟩] 112 false,.cells gD 9 false]
theorem Oy (s:ByteArray) (at_:Int) {H:Hp} (y:Gd E G H) (hs:(s.size:Int)<100000) (a0:0≤at_) (a1:at_<s.size):aD E G 108 [.agg #[.string s,iI at_]] H [] (fun v H'=>∃(k:Int) (a:Int) (t:ByteArray) (n:Int),v=(.tuple #[.agg #[iI k,iI a,.string t],iI n])∧(0≤n∧at_+n≤s.size)):=by
 have g0:=y.n
 obtain ⟨_,_,H1,c1,bN,y1,eD⟩:=(ab2 (H.n+0) (H.n+2) (H.n+1) s at_ _ 0 _ (y.news [.cells [.string s,iI at_] 135 false,.cells [iI 0,iI 0,.string ⟨#[]⟩] 112 false,.cells gD 9 false]) (aB [.cells [.string s,iI at_] 135 false,.cells [iI 0,iI 0,.string ⟨#[]⟩] 112 false,.cells gD 9 false] H 0 _ rfl) (aB [.cells [.string s,iI at_] 135 false,.cells [iI 0,iI 0,.string ⟨#[]⟩] 112 false,.cells gD 9 false] H 2 _ rfl) (aB [.cells [.string s,iI at_] 135 false,.cells [iI 0,iI 0,.string ⟨#[]⟩] 112 false,.cells gD 9 false] H 1 _ rfl) hs a0 a1 aa aa aa aa aa rfl).code
 rcases eD with ⟨rfl,rfl,Cb⟩ |⟨rfl,ff,jc,rfl,Cb,cw,iX⟩
 ·have jq:H.n+3≤H1.n:=by have h:=bN.n;rw [bF] at h;exact h
  obtain ⟨K2,e2⟩:∃ K_,K_=H1.set (H.n+1) (.cells [iI 0,iI 0,.string ⟨#[]⟩] 112 false):=⟨_,rfl⟩
  have jI:K2.n=H1.n+0:=by rw [e2,Hp.cT] <;> rfl
  have dz:=aP e2
  exact aD.mk y (CC.de ok (f:=300) (hs:=[au 2,.call (sc (H.n+2) 0 22 45) (rU H s at_) [],au 1,.loop [1,2,6,7,8] (.exit 0) (bw [(2,pt (H.n+1) 0)]) H1 [H.n+1],au 0,vl bJ K2,au 0]) (vs:=[.agg #[iI 0,iI 0,.string ⟨#[]⟩],iI 0]) (v:=(.tuple #[.agg #[iI 0,iI 0,.string ⟨#[]⟩],iI 0])) (H':=K2) (W:=[H.n+1,H.n+1]) Ms Mt (kn (show CC E 72 [.string ⟨#[61,61,32,33,61,32,61,126,32,33,126,32,62,61,32,60,61,32,61,32,62,32,60,32,43,32,45,32,42,32,47,32,37,32,64,32,40,32,41,32,123,32,125,32,91,32,93,32,44]⟩] (aO H s at_) (.ret (sc (H.n+2) 0 22 45)) (rU H s at_) [] from vM (y.news [.cells [.string s,iI at_] 135 false,.cells [iI 0,iI 0,.string ⟨#[]⟩] 112 false]))<|kn c1<|kn (show az E 112 (H.n+1) 0 (.agg #[iI 0,iI 0,.string ⟨#[]⟩]) H1=some K2 from (st aX Cb rfl rfl).trans (congrArg some e2.symm))<|kn (show aq E 112 (H.n+1) 0 K2=some (.agg #[iI 0,iI 0,.string ⟨#[]⟩]) from (o7 cQ aX dz rfl rfl))<|sw (iI 0)<|trivial) ah) aG aM ⟨0,0,⟨#[]⟩,0,rfl,by omega,by omega⟩
 ·have jq:H.n+3≤H1.n:=by have h:=bN.n;rw [bF] at h;exact h
  exact aD.mk y (CC.de ok (f:=300) (hs:=[au 2,.call (sc (H.n+2) 0 22 45) (rU H s at_) [],au 1,.loop [1,2,6,7,8] .ret (bw [(2,pt (H.n+1) 0),(3,iI ff)]) H1 [H.n+1]]) (vs:=[.agg #[iI 5,iI 0,.string jc],iI ff]) (v:=(.tuple #[.agg #[iI 5,iI 0,.string jc],iI ff])) (H':=H1) (W:=[H.n+1]) Ms Mt (kn (show CC E 72 [.string ⟨#[61,61,32,33,61,32,61,126,32,33,126,32,62,61,32,60,61,32,61,32,62,32,60,32,43,32,45,32,42,32,47,32,37,32,64,32,40,32,41,32,123,32,125,32,91,32,93,32,44]⟩] (aO H s at_) (.ret (sc (H.n+2) 0 22 45)) (rU H s at_) [] from vM (y.news [.cells [.string s,iI at_] 135 false,.cells [iI 0,iI 0,.string ⟨#[]⟩] 112 false]))<|kn c1<|kn (show aq E 112 (H.n+1) 0 H1=some (.agg #[iI 5,iI 0,.string jc]) from (o7 cQ aX Cb rfl rfl))<|sw (iI ff)<|trivial) ah) aG aM ⟨5,0,jc,ff,rfl,by omega,by omega⟩
theorem VL (s:ByteArray) (at_:Int) (hs:(s.size:Int)<100000) (a0:0≤at_) (a1:at_<s.size):∃(k:Int) (a:Int) (t:ByteArray) (n:Int),(0≤n∧at_+n≤s.size)∧∀{H:Hp},Gd E G H→CC E 108 [.agg #[.string s,iI at_]] H (.ret (.tuple #[.agg #[iI k,iI a,.string t],iI n])) H []:=by
 obtain ⟨_,_,c,_,_,k,a,t,n,rfl,hs⟩:=Oy s at_ eZ hs a0 a1
 exact ⟨k,a,t,n,hs,fun y=>aW (cq rfl) (qY _ _ _ _) c y⟩
theorem Ur:E.func 163=some Tryz.f163:=ah
theorem Us:bO Tryz.f163 1=true:=ah
theorem Ww (s:ByteArray) {H:Hp} (y:Gd E G H) (hs:8≤(s.size:Int)):aD E G 163 [.string s] H [] (fun v H'=>∃(n:Int),v=(uU n)):=by
 have w1:0≤(0:Int):=aa
 have w2:(0:Int)<(s.size:Int):=aa
 have w3:0≤(1:Int):=aa
 have w4:(1:Int)<(s.size:Int):=aa
 have w5:0≤(2:Int):=aa
 have w6:(2:Int)<(s.size:Int):=aa
 have w7:0≤(3:Int):=aa
 have w8:(3:Int)<(s.size:Int):=aa
 have w9:0≤(4:Int):=aa
 have jE:(4:Int)<(s.size:Int):=aa
 have xU:0≤(5:Int):=aa
 have zb:(5:Int)<(s.size:Int):=aa
 have EC:0≤(6:Int):=aa
 have NH:(6:Int)<(s.size:Int):=aa
 have ZJ:0≤(7:Int):=aa
 have ZK:(7:Int)<(s.size:Int):=aa
 exact bA y [au 1,.ck,au 1,.ck,au 3,.ck,au 3,.ck,au 3,.ck,au 3,.ck,au 3,.ck,au 3,.ck,au 3] (uU (IntKind.u64.wrap ((BitVec.ofInt 64 (IntKind.u64.wrap ((BitVec.ofInt 64 (IntKind.u64.wrap ((BitVec.ofInt 64 (IntKind.u64.wrap ((BitVec.ofInt 64 (IntKind.u64.wrap ((BitVec.ofInt 64 (IntKind.u64.wrap ((BitVec.ofInt 64 (IntKind.u64.wrap ((BitVec.ofInt 64 (IntKind.u64.wrap (ak s 0)) |||BitVec.ofInt 64 (IntKind.u64.wrap ((IntKind.u64.wrap (ak s 1))*2 ^ 8))).toNat:Int)) |||BitVec.ofInt 64 (IntKind.u64.wrap ((IntKind.u64.wrap (ak s 2))*2 ^ 16))).toNat:Int)) |||BitVec.ofInt 64 (IntKind.u64.wrap ((IntKind.u64.wrap (ak s 3))*2 ^ 24))).toNat:Int)) |||BitVec.ofInt 64 (IntKind.u64.wrap ((IntKind.u64.wrap (ak s 4))*2 ^ 32))).toNat:Int)) |||BitVec.ofInt 64 (IntKind.u64.wrap ((IntKind.u64.wrap (ak s 5))*2 ^ 40))).toNat:Int)) |||BitVec.ofInt 64 (IntKind.u64.wrap ((IntKind.u64.wrap (ak s 6))*2 ^ 48))).toNat:Int)) |||BitVec.ofInt 64 (IntKind.u64.wrap ((IntKind.u64.wrap (ak s 7))*2 ^ 56))).toNat:Int))) H Ur Us (aE ag ag w1 w2 ag ag ag w3<|aE w4 ag ag ag ag ag w5 w6<|aE ag ag ag ag ag w7 w8 ag<|aE ag ag ag ag w9 jE ag ag<|aE ag ag ag xU zb ag ag ag<|aE ag ag EC NH ag ag ag ag<|aE ag ZJ ZK ag ag ag ag ag aS) ⟨_,rfl⟩
theorem Eu (s:ByteArray) (hs:8≤(s.size:Int)):∃(n:Int),∀{H:Hp},Gd E G H→CC E 163 [.string s] H (.ret (uU n)) H []:=by
 obtain ⟨_,_,c,_,_,n,rfl⟩:=Ww s eZ hs
 exact ⟨n,fun y=>aW (cq rfl) (.ground rfl) c y⟩
noncomputable def ia:Code:=cz [1,0,0,0,1,0,1,0,1,0,1,0,1,0,1,1,0,1,0,0] (bH Tryz.f145)
noncomputable abbrev Dc vw (H:Hp) En Eo Pc (l_:List Hint):=au 1::aI::au 1::.call (uU vw) H []::au 0::.ck::.call (uU En) H []::au 1::.ck::.call (uU Eo) H []::au 0::.ck::.call (uU Pc) H []::au 2::l_
theorem iy (n0:Nat):∀(m:Nat) (x0:ByteArray) (H:Hp),Gd E G H→(h0:x0.size≤n0)→x0.size=m→
  aA E G 169 ia [(0,.string x0)] H [] (fun x T H'=>(x=(.exit 2)∧∃(z0:ByteArray),T=bw [(0,.string z0)]∧(z0.size≤n0))):=by
 intro m
 induction m using Nat.strongRecOn with
 |_ m ih=>
 intro x0 H y h0 hm
 cases h1:(decide ((x0.size:Int)>32)) with
 |true=>
  have q1:=aL h1
  obtain ⟨vw,KQ⟩:=Eu x0 aa
  have w1:0≤(8:Int):=aa
  have w2:(8:Int)≤(x0.size:Int):=aa
  have sz1:=gk x0 (8:Int).toNat
  obtain ⟨En,Ry⟩:=Eu (x0.extract (8:Int).toNat x0.size) aa
  have w3:0≤(16:Int):=aa
  have w4:(16:Int)≤(x0.size:Int):=aa
  have sz2:=gk x0 (16:Int).toNat
  obtain ⟨Eo,Rz⟩:=Eu (x0.extract (16:Int).toNat x0.size) aa
  have w5:0≤(24:Int):=aa
  have w6:(24:Int)≤(x0.size:Int):=aa
  have sz3:=gk x0 (24:Int).toNat
  obtain ⟨Pc,aa3⟩:=Eu (x0.extract (24:Int).toNat x0.size) aa
  cases h2:((IntKind.u64.wrap ((BitVec.ofInt 64 (IntKind.u64.wrap ((BitVec.ofInt 64 (IntKind.u64.wrap ((BitVec.ofInt 64 vw |||BitVec.ofInt 64 En).toNat:Int)) |||BitVec.ofInt 64 (IntKind.u64.wrap ((BitVec.ofInt 64 Eo |||BitVec.ofInt 64 Pc).toNat:Int))).toNat:Int)) &&& BitVec.ofInt 64 9259542123273814144).toNat:Int))==0) with
  |true=>
   have w7:0≤(32:Int):=aa
   have w8:(32:Int)≤(x0.size:Int):=aa
   have sz4:=gk x0 (32:Int).toNat
   exact aA.next' y (bf (Dc vw H En Eo Pc [aI,au 1,.ck,au 0]) [(0,.string (x0.extract (32:Int).toNat x0.size))] .normal H [] (fun _ r_=>aE ag ag ag h1 ag ag ag (show CC E 163 [.string x0] H (.ret (uU vw)) H [] from KQ y)<|aE ag ag w1 w2 ag (show CC E 163 [.string (x0.extract (8:Int).toNat x0.size)] H (.ret (uU En)) H [] from Ry y) ag ag<|aE ag w3 w4 ag (show CC E 163 [.string (x0.extract (16:Int).toNat x0.size)] H (.ret (uU Eo)) H [] from Rz y) ag ag w5<|aE w6 ag (show CC E 163 [.string (x0.extract (24:Int).toNat x0.size)] H (.ret (uU Pc)) H [] from aa3 y) ag ag ag ag h2<|gm ag ag w7 w8 r_)) aM (ih _ aa (x0.extract (32:Int).toNat x0.size) _ y aa rfl)
  |false=>
   exact aA.last' y (bf (Dc vw H En Eo Pc [aF,au 0]) [(0,.string x0)] (.exit 2) H [] (fun _ r_=>aE ag ag ag h1 ag ag ag (show CC E 163 [.string x0] H (.ret (uU vw)) H [] from KQ y)<|aE ag ag w1 w2 ag (show CC E 163 [.string (x0.extract (8:Int).toNat x0.size)] H (.ret (uU En)) H [] from Ry y) ag ag<|aE ag w3 w4 ag (show CC E 163 [.string (x0.extract (16:Int).toNat x0.size)] H (.ret (uU Eo)) H [] from Rz y) ag ag w5<|aE w6 ag (show CC E 163 [.string (x0.extract (24:Int).toNat x0.size)] H (.ret (uU Pc)) H [] from aa3 y) ag ag ag ag h2<|cU ag ag r_)) aj aM aM ⟨rfl,x0,rfl,h0⟩
 |false=>
  exact aA.last' y (bf [au 1,aF,au 1] [(0,.string x0)] (.exit 2) H [] (fun _ r_=>fk ag ag ag h1 ag ag ag r_)) aj aM aM ⟨rfl,x0,rfl,h0⟩
noncomputable def s0:Code:=cz [1,0,0,0,1,0,1,0] (bH Tryz.f145)
noncomputable abbrev wV vw (H:Hp) (l_:List Hint):=au 0::aI::au 0::.ck::au 2::aI::au 1::.call (uU vw) H []::au 0::aI::au 1::.ck::au 2::l_
theorem ug (s:ByteArray) (c:Int)  {H:Hp} (y:Gd E G H) (hs:0<(s.size:Int)) :
  bt E G 169 s0 [(0,.string s),(3,uB c)] H [] (fun x T H'=>(x=.normal∧T=bw [(0,.string s),(3,uB c)])∨(x=(.exit 1)∧∃(z0:ByteArray),T=bw [(0,.string z0)]∧(z0.size<s.size))):=by
 cases h1:(decide (c<128)) with
 |true=>
  have w1:0≤(1:Int):=aa
  have w2:(1:Int)≤(s.size:Int):=aa
  have sz1:=gk s (1:Int).toNat
  cases h2:(decide (((s.extract (1:Int).toNat s.size).size:Int)>8)) with
  |true=>
   have q2:=aL h2
   obtain ⟨vw,KQ⟩:=Eu (s.extract (1:Int).toNat s.size) aa
   cases h3:((IntKind.u64.wrap ((BitVec.ofInt 64 vw &&& BitVec.ofInt 64 9259542123273814144).toNat:Int))==0) with
   |true=>
    have w3:0≤(8:Int):=aa
    have w4:(8:Int)≤((s.extract (1:Int).toNat s.size).size:Int):=aa
    have sz2:=gk (s.extract (1:Int).toNat s.size) (8:Int).toNat
    cases h4:(decide ((((s.extract (1:Int).toNat s.size).extract (8:Int).toNat (s.extract (1:Int).toNat s.size).size).size:Int)>16)) with
    |true=>
     have q4:=aL h4
     obtain ⟨En,Ry⟩:=Eu ((s.extract (1:Int).toNat s.size).extract (8:Int).toNat (s.extract (1:Int).toNat s.size).size) aa
     have w5:(8:Int)≤(((s.extract (1:Int).toNat s.size).extract (8:Int).toNat (s.extract (1:Int).toNat s.size).size).size:Int):=aa
     have sz3:=gk ((s.extract (1:Int).toNat s.size).extract (8:Int).toNat (s.extract (1:Int).toNat s.size).size) (8:Int).toNat
     obtain ⟨Eo,Rz⟩:=Eu (((s.extract (1:Int).toNat s.size).extract (8:Int).toNat (s.extract (1:Int).toNat s.size).size).extract (8:Int).toNat ((s.extract (1:Int).toNat s.size).extract (8:Int).toNat (s.extract (1:Int).toNat s.size).size).size) aa
     cases h5:((IntKind.u64.wrap ((BitVec.ofInt 64 (IntKind.u64.wrap ((BitVec.ofInt 64 En |||BitVec.ofInt 64 Eo).toNat:Int)) &&& BitVec.ofInt 64 9259542123273814144).toNat:Int))==0) with
     |true=>
      have w6:0≤(16:Int):=aa
      have w7:(16:Int)≤(((s.extract (1:Int).toNat s.size).extract (8:Int).toNat (s.extract (1:Int).toNat s.size).size).size:Int):=aa
      have sz4:=gk ((s.extract (1:Int).toNat s.size).extract (8:Int).toNat (s.extract (1:Int).toNat s.size).size) (16:Int).toNat
      obtain ⟨_,_,H1,c1,bN,y1,rfl,jh,rfl,cw⟩:=(iy (((s.extract (1:Int).toNat s.size).extract (8:Int).toNat (s.extract (1:Int).toNat s.size).size).extract (16:Int).toNat ((s.extract (1:Int).toNat s.size).extract (8:Int).toNat (s.extract (1:Int).toNat s.size).size).size).size _ (((s.extract (1:Int).toNat s.size).extract (8:Int).toNat (s.extract (1:Int).toNat s.size).size).extract (16:Int).toNat ((s.extract (1:Int).toNat s.size).extract (8:Int).toNat (s.extract (1:Int).toNat s.size).size).size) _ y (Nat.le_refl _) rfl).code
      exact bt.mk y (bf (wV vw H [aI,au 1,.call (uU En) H [],au 0,.ck,.call (uU Eo) H [],au 1,aI,au 1,.ck,au 0,.loop [0] (.exit 2) (bw [(0,.string jh)]) H1 []]) [(0,.string jh)] (.exit 1) H1 [] (fun _ r_=>aE h1 w1 w2 h2 (show CC E 163 [.string (s.extract (1:Int).toNat s.size)] H (.ret (uU vw)) H [] from KQ y) h3 w3 w4<|aE ag ag ag h4 ag ag ag (show CC E 163 [.string ((s.extract (1:Int).toNat s.size).extract (8:Int).toNat (s.extract (1:Int).toNat s.size).size)] H (.ret (uU En)) H [] from Ry y)<|aE ag ag w3 w5 ag (show CC E 163 [.string (((s.extract (1:Int).toNat s.size).extract (8:Int).toNat (s.extract (1:Int).toNat s.size).size).extract (8:Int).toNat ((s.extract (1:Int).toNat s.size).extract (8:Int).toNat (s.extract (1:Int).toNat s.size).size).size)] H (.ret (uU Eo)) H [] from Rz y) ag ag<|fk ag h5 ag ag w6 w7 c1 r_)) aM aM (.inr (⟨rfl,jh,rfl,aa⟩))
     |false=>
      have q5:=bK h5
      exact bt.mk y (bf (wV vw H [aI,au 1,.call (uU En) H [],au 0,.ck,.call (uU Eo) H [],au 1,aF,au 0]) [(0,.string ((s.extract (1:Int).toNat s.size).extract (8:Int).toNat (s.extract (1:Int).toNat s.size).size))] (.exit 1) H [] (fun _ r_=>aE h1 w1 w2 h2 (show CC E 163 [.string (s.extract (1:Int).toNat s.size)] H (.ret (uU vw)) H [] from KQ y) h3 w3 w4<|aE ag ag ag h4 ag ag ag (show CC E 163 [.string ((s.extract (1:Int).toNat s.size).extract (8:Int).toNat (s.extract (1:Int).toNat s.size).size)] H (.ret (uU En)) H [] from Ry y)<|aE ag ag w3 w5 ag (show CC E 163 [.string (((s.extract (1:Int).toNat s.size).extract (8:Int).toNat (s.extract (1:Int).toNat s.size).size).extract (8:Int).toNat ((s.extract (1:Int).toNat s.size).extract (8:Int).toNat (s.extract (1:Int).toNat s.size).size).size)] H (.ret (uU Eo)) H [] from Rz y) ag ag<|gm ag h5 ag ag r_)) aM aM (.inr (⟨rfl,(s.extract (1:Int).toNat s.size).extract (8:Int).toNat (s.extract (1:Int).toNat s.size).size,rfl,aa⟩))
    |false=>
     exact bt.mk y (bf (wV vw H [aF,au 1]) [(0,.string ((s.extract (1:Int).toNat s.size).extract (8:Int).toNat (s.extract (1:Int).toNat s.size).size))] (.exit 1) H [] (fun _ r_=>aE h1 w1 w2 h2 (show CC E 163 [.string (s.extract (1:Int).toNat s.size)] H (.ret (uU vw)) H [] from KQ y) h3 w3 w4<|fk ag ag ag h4 ag ag ag r_)) aM aM (.inr (⟨rfl,(s.extract (1:Int).toNat s.size).extract (8:Int).toNat (s.extract (1:Int).toNat s.size).size,rfl,aa⟩))
   |false=>
    have q3:=bK h3
    exact bt.mk y (bf [au 0,aI,au 0,.ck,au 2,aI,au 1,.call (uU vw) H [],au 0,aF,au 0] [(0,.string (s.extract (1:Int).toNat s.size))] (.exit 1) H [] (fun _ r_=>fG h1 w1 w2 h2 (show CC E 163 [.string (s.extract (1:Int).toNat s.size)] H (.ret (uU vw)) H [] from KQ y) h3 r_)) aM aM (.inr (⟨rfl,s.extract (1:Int).toNat s.size,rfl,aa⟩))
  |false=>
   exact bt.mk y (bf [au 0,aI,au 0,.ck,au 2,aF,au 1] [(0,.string (s.extract (1:Int).toNat s.size))] (.exit 1) H [] (fun _ r_=>gm h1 w1 w2 h2 r_)) aM aM (.inr (⟨rfl,s.extract (1:Int).toNat s.size,rfl,aa⟩))
 |false=>
  exact bt.mk y (bf [au 0,aF] [(0,.string s),(3,uB c)] .normal H [] (fun _ r_=>cF h1 r_)) aM aM (.inl (⟨rfl,rfl⟩))
noncomputable def jf:Code:=cz [1,0,0,0,1,0,1,1,1,1,1,1,0,1,0,0,0] (bH Tryz.f145)
theorem jr (s:ByteArray) (b:Nat) (lo:Int) (hi:Int)  {H:Hp} (y:Gd E G H) (kb:H.get b=some (.cells [uB lo,uB hi] 224 false)) (hs:0<(s.size:Int)) :
  bt E G 169 jf [(0,.string s),(6,pt b 0)] H [] (fun x T H'=>(x=.normal∧T=bw [(0,.string s),(94,.bool true)])∨(x=.normal∧T=bw [(0,.string s),(94,.bool false)]∧(2≤(s.size:Int)))):=by
 cases h1:(decide ((s.size:Int)<2)) with
 |true=>
  exact bt.mk y (bf [au 1,aI,au 3] [(0,.string s),(94,.bool true)] .normal H [] (fun _ r_=>aE ag ag ag h1 ag ag ag ag<|cF ag r_)) aM aM (.inl (⟨rfl,rfl⟩))
 |false=>
  have q1:=aQ h1
  have w1:0≤(1:Int):=aa
  have w2:(1:Int)<(s.size:Int):=aa
  have w3:aq E 5 b 0 H=some (uB lo):=bQ cG kb rfl
  cases h2:(decide ((ak s 1)<lo)) with
  |true=>
   exact bt.mk y (bf [au 1,aF,au 1,.ck,au 0,vl (uB lo) H,aI,au 2] [(0,.string s),(94,.bool true)] .normal H [] (fun _ r_=>aE ag ag ag h1 ag ag ag w1<|aE w2 ag ag w3 ag h2 ag ag<|cU ag ag r_)) aM aM (.inl (⟨rfl,rfl⟩))
  |false=>
   have w4:aq E 5 b 1 H=some (uB hi):=bQ cG kb rfl
   cases h3:(decide (hi<(ak s 1))) with
   |true=>
    exact bt.mk y (bf [au 1,aF,au 1,.ck,au 0,vl (uB lo) H,aF,au 2,vl (uB hi) H,au 0,.ck,aI,au 0] [(0,.string s),(94,.bool true)] .normal H [] (fun _ r_=>aE ag ag ag h1 ag ag ag w1<|aE w2 ag ag w3 ag h2 ag ag<|aE ag ag w4 ag ag w1 w2 ag<|eY h3 ag ag r_)) aM aM (.inl (⟨rfl,rfl⟩))
   |false=>
    exact bt.mk y (bf [au 1,aF,au 1,.ck,au 0,vl (uB lo) H,aF,au 2,vl (uB hi) H,au 0,.ck,aF,au 0] [(0,.string s),(94,.bool false)] .normal H [] (fun _ r_=>aE ag ag ag h1 ag ag ag w1<|aE w2 ag ag w3 ag h2 ag ag<|aE ag ag w4 ag ag w1 w2 ag<|eY h3 ag ag r_)) aM aM (.inr (⟨rfl,rfl,aa⟩))
noncomputable def ic:Code:=cz [1,0,0,0,1,0,1,1,1,1,1,1,0,1,1,1,0,0,0] (bH Tryz.f145)
noncomputable abbrev Dd (lo:Int) (H:Hp) (hi:Int) (l_:List Hint):=au 1::aF::au 1::.ck::au 0::vl (uB lo) H::aF::au 2::vl (uB hi) H::au 0::.ck::aF::au 2::.ck::aF::au 2::.ck::l_
theorem iD (s:ByteArray) (b:Nat) (lo:Int) (hi:Int)  {H:Hp} (y:Gd E G H) (kb:H.get b=some (.cells [uB lo,uB hi] 224 false)) (hs:0<(s.size:Int)) :
  bt E G 169 ic [(0,.string s),(6,pt b 0)] H [] (fun x T H'=>(x=.normal∧T=bw [(0,.string s),(125,.bool true)])∨(x=.normal∧T=bw [(0,.string s),(125,.bool false)]∧(3≤(s.size:Int)))):=by
 cases h1:(decide ((s.size:Int)<3)) with
 |true=>
  exact bt.mk y (bf [au 1,aI,au 7] [(0,.string s),(125,.bool true)] .normal H [] (fun _ r_=>aE ag ag ag h1 ag ag ag ag<|eM ag ag ag ag ag r_)) aM aM (.inl (⟨rfl,rfl⟩))
 |false=>
  have q1:=aQ h1
  have w1:0≤(1:Int):=aa
  have w2:(1:Int)<(s.size:Int):=aa
  have w3:aq E 5 b 0 H=some (uB lo):=bQ cG kb rfl
  cases h2:(decide ((ak s 1)<lo)) with
  |true=>
   exact bt.mk y (bf [au 1,aF,au 1,.ck,au 0,vl (uB lo) H,aI,au 6] [(0,.string s),(125,.bool true)] .normal H [] (fun _ r_=>aE ag ag ag h1 ag ag ag w1<|aE w2 ag ag w3 ag h2 ag ag<|fG ag ag ag ag ag ag r_)) aM aM (.inl (⟨rfl,rfl⟩))
  |false=>
   have w4:aq E 5 b 1 H=some (uB hi):=bQ cG kb rfl
   cases h3:(decide (hi<(ak s 1))) with
   |true=>
    exact bt.mk y (bf [au 1,aF,au 1,.ck,au 0,vl (uB lo) H,aF,au 2,vl (uB hi) H,au 0,.ck,aI,au 4] [(0,.string s),(125,.bool true)] .normal H [] (fun _ r_=>aE ag ag ag h1 ag ag ag w1<|aE w2 ag ag w3 ag h2 ag ag<|aE ag ag w4 ag ag w1 w2 ag<|fk h3 ag ag ag ag ag ag r_)) aM aM (.inl (⟨rfl,rfl⟩))
   |false=>
    have w5:0≤(2:Int):=aa
    have w6:(2:Int)<(s.size:Int):=aa
    cases h4:(decide ((ak s 2)<128)) with
    |true=>
     exact bt.mk y (bf [au 1,aF,au 1,.ck,au 0,vl (uB lo) H,aF,au 2,vl (uB hi) H,au 0,.ck,aF,au 2,.ck,aI,au 2] [(0,.string s),(125,.bool true)] .normal H [] (fun _ r_=>aE ag ag ag h1 ag ag ag w1<|aE w2 ag ag w3 ag h2 ag ag<|aE ag ag w4 ag ag w1 w2 ag<|aE h3 ag ag ag ag w5 w6 ag<|eM h4 ag ag ag ag r_)) aM aM (.inl (⟨rfl,rfl⟩))
    |false=>
     cases h5:(decide (191<(ak s 2))) with
     |true=>
      exact bt.mk y (bf (Dd lo H hi [aI,au 0]) [(0,.string s),(125,.bool true)] .normal H [] (fun _ r_=>aE ag ag ag h1 ag ag ag w1<|aE w2 ag ag w3 ag h2 ag ag<|aE ag ag w4 ag ag w1 w2 ag<|aE h3 ag ag ag ag w5 w6 ag<|aE h4 ag ag ag ag w5 w6 ag<|eY h5 ag ag r_)) aM aM (.inl (⟨rfl,rfl⟩))
     |false=>
      exact bt.mk y (bf (Dd lo H hi [aF,au 0]) [(0,.string s),(125,.bool false)] .normal H [] (fun _ r_=>aE ag ag ag h1 ag ag ag w1<|aE w2 ag ag w3 ag h2 ag ag<|aE ag ag w4 ag ag w1 w2 ag<|aE h3 ag ag ag ag w5 w6 ag<|aE h4 ag ag ag ag w5 w6 ag<|eY h5 ag ag r_)) aM aM (.inr (⟨rfl,rfl,aa⟩))
noncomputable def gH:Code:=cz [1,0,0,0,1,0,1,1,1,1,1,1,0,1,1,1,1,1,0,0,0] (bH Tryz.f145)
noncomputable abbrev sx (lo:Int) (H:Hp) (hi:Int) (l_:List Hint):=au 1::aF::au 1::.ck::au 0::vl (uB lo) H::aF::au 2::vl (uB hi) H::au 0::.ck::aF::au 2::.ck::aF::au 2::.ck::l_
theorem gS (s:ByteArray) (b:Nat) (lo:Int) (hi:Int)  {H:Hp} (y:Gd E G H) (kb:H.get b=some (.cells [uB lo,uB hi] 224 false)) (hs:0<(s.size:Int)) :
  bt E G 169 gH [(0,.string s),(6,pt b 0)] H [] (fun x T H'=>(x=.normal∧T=bw [(0,.string s),(166,.bool true)])∨(x=.normal∧T=bw [(0,.string s),(166,.bool false)]∧(4≤(s.size:Int)))):=by
 cases h1:(decide ((s.size:Int)<4)) with
 |true=>
  exact bt.mk y (bf [au 1,aI,au 11] [(0,.string s),(166,.bool true)] .normal H [] (fun _ r_=>aE ag ag ag h1 ag ag ag ag<|aE ag ag ag ag ag ag ag ag<|cF ag r_)) aM aM (.inl (⟨rfl,rfl⟩))
 |false=>
  have q1:=aQ h1
  have w1:0≤(1:Int):=aa
  have w2:(1:Int)<(s.size:Int):=aa
  have w3:aq E 5 b 0 H=some (uB lo):=bQ cG kb rfl
  cases h2:(decide ((ak s 1)<lo)) with
  |true=>
   exact bt.mk y (bf [au 1,aF,au 1,.ck,au 0,vl (uB lo) H,aI,au 10] [(0,.string s),(166,.bool true)] .normal H [] (fun _ r_=>aE ag ag ag h1 ag ag ag w1<|aE w2 ag ag w3 ag h2 ag ag<|aE ag ag ag ag ag ag ag ag<|cU ag ag r_)) aM aM (.inl (⟨rfl,rfl⟩))
  |false=>
   have w4:aq E 5 b 1 H=some (uB hi):=bQ cG kb rfl
   cases h3:(decide (hi<(ak s 1))) with
   |true=>
    exact bt.mk y (bf [au 1,aF,au 1,.ck,au 0,vl (uB lo) H,aF,au 2,vl (uB hi) H,au 0,.ck,aI,au 8] [(0,.string s),(166,.bool true)] .normal H [] (fun _ r_=>aE ag ag ag h1 ag ag ag w1<|aE w2 ag ag w3 ag h2 ag ag<|aE ag ag w4 ag ag w1 w2 ag<|aE h3 ag ag ag ag ag ag ag<|eY ag ag ag r_)) aM aM (.inl (⟨rfl,rfl⟩))
   |false=>
    have w5:0≤(2:Int):=aa
    have w6:(2:Int)<(s.size:Int):=aa
    cases h4:(decide ((ak s 2)<128)) with
    |true=>
     exact bt.mk y (bf [au 1,aF,au 1,.ck,au 0,vl (uB lo) H,aF,au 2,vl (uB hi) H,au 0,.ck,aF,au 2,.ck,aI,au 6] [(0,.string s),(166,.bool true)] .normal H [] (fun _ r_=>aE ag ag ag h1 ag ag ag w1<|aE w2 ag ag w3 ag h2 ag ag<|aE ag ag w4 ag ag w1 w2 ag<|aE h3 ag ag ag ag w5 w6 ag<|aE h4 ag ag ag ag ag ag ag<|cF ag r_)) aM aM (.inl (⟨rfl,rfl⟩))
    |false=>
     cases h5:(decide (191<(ak s 2))) with
     |true=>
      exact bt.mk y (bf (sx lo H hi [aI,au 4]) [(0,.string s),(166,.bool true)] .normal H [] (fun _ r_=>aE ag ag ag h1 ag ag ag w1<|aE w2 ag ag w3 ag h2 ag ag<|aE ag ag w4 ag ag w1 w2 ag<|aE h3 ag ag ag ag w5 w6 ag<|aE h4 ag ag ag ag w5 w6 ag<|fk h5 ag ag ag ag ag ag r_)) aM aM (.inl (⟨rfl,rfl⟩))
     |false=>
      have w7:0≤(3:Int):=aa
      have w8:(3:Int)<(s.size:Int):=aa
      cases h6:(decide ((ak s 3)<128)) with
      |true=>
       exact bt.mk y (bf (sx lo H hi [aF,au 2,.ck,aI,au 2]) [(0,.string s),(166,.bool true)] .normal H [] (fun _ r_=>aE ag ag ag h1 ag ag ag w1<|aE w2 ag ag w3 ag h2 ag ag<|aE ag ag w4 ag ag w1 w2 ag<|aE h3 ag ag ag ag w5 w6 ag<|aE h4 ag ag ag ag w5 w6 ag<|aE h5 ag ag ag ag w7 w8 ag<|eM h6 ag ag ag ag r_)) aM aM (.inl (⟨rfl,rfl⟩))
      |false=>
       cases h7:(decide (191<(ak s 3))) with
       |true=>
        exact bt.mk y (bf (sx lo H hi [aF,au 2,.ck,aF,au 2,.ck,aI,au 0]) [(0,.string s),(166,.bool true)] .normal H [] (fun _ r_=>aE ag ag ag h1 ag ag ag w1<|aE w2 ag ag w3 ag h2 ag ag<|aE ag ag w4 ag ag w1 w2 ag<|aE h3 ag ag ag ag w5 w6 ag<|aE h4 ag ag ag ag w5 w6 ag<|aE h5 ag ag ag ag w7 w8 ag<|aE h6 ag ag ag ag w7 w8 ag<|eY h7 ag ag r_)) aM aM (.inl (⟨rfl,rfl⟩))
       |false=>
        exact bt.mk y (bf (sx lo H hi [aF,au 2,.ck,aF,au 2,.ck,aF,au 0]) [(0,.string s),(166,.bool false)] .normal H [] (fun _ r_=>aE ag ag ag h1 ag ag ag w1<|aE w2 ag ag w3 ag h2 ag ag<|aE ag ag w4 ag ag w1 w2 ag<|aE h3 ag ag ag ag w5 w6 ag<|aE h4 ag ag ag ag w5 w6 ag<|aE h5 ag ag ag ag w7 w8 ag<|aE h6 ag ag ag ag w7 w8 ag<|eY h7 ag ag r_)) aM aM (.inr (⟨rfl,rfl,aa⟩))
theorem Fj {c:Int} (h0:0≤c) (h1:c<256):∃ n:Int,(Go.Pinned.utf8FirstZ.map fun (n:Nat)=>Value.int .u8 n)[0+c.toNat*1]?=some (.int .u8 n)∧0≤n∧n<256:=by
 have key:(Go.Pinned.utf8FirstZ.all fun n=>Nat.blt n 256)=true:=by kernel_rfl
 have hl:Go.Pinned.utf8FirstZ.length=256:=by kernel_rfl
 have hlt:c.toNat<Go.Pinned.utf8FirstZ.length:=aa
 have:=List.all_eq_true.1 key _ (List.getElem_mem hlt)
 refine ⟨((Go.Pinned.utf8FirstZ[c.toNat]:Nat):Int),?_,by omega,by simp only [Nat.blt_eq] at this;omega⟩
 rw [show 0+c.toNat*1=c.toNat by omega,List.getElem?_map,bZ hlt];rfl
theorem Bx {k:Int} (h0:0≤k) (h1:k<16):∃ lo hi:Int,(([.int .u8 128,.int .u8 191,.int .u8 160,.int .u8 191,.int .u8 128,.int .u8 159,.int .u8 144,.int .u8 191,.int .u8 128,.int .u8 143,.int .u8 0,.int .u8 0,.int .u8 0,.int .u8 0,.int .u8 0,.int .u8 0,.int .u8 0,.int .u8 0,.int .u8 0,.int .u8 0,.int .u8 0,.int .u8 0,.int .u8 0,.int .u8 0,.int .u8 0,.int .u8 0,.int .u8 0,.int .u8 0,.int .u8 0,.int .u8 0,.int .u8 0,.int .u8 0]:List Value).drop (0+k.toNat*2)).take 2=[.int .u8 lo,.int .u8 hi]:=by
 have:k=0∨k=1∨k=2∨k=3∨k=4∨k=5∨k=6∨k=7∨k=8∨k=9∨k=10∨k=11∨k=12∨k=13∨k=14∨k=15:=aa
 rcases this with rfl |rfl |rfl |rfl |rfl |rfl |rfl |rfl |rfl |rfl |rfl |rfl |rfl |rfl |rfl |rfl <;> exact ⟨_,_,rfl⟩
theorem E5 {k:Int} (h1:k<16):Nat.ble (0+k.toNat*2+2) 32=true:=Nat.ble_eq_true_of_le aa
theorem ab1 {n:Int} (h0:0≤n) (h1:n<256):0≤Int.fdiv n (2 ^ 4)∧Int.fdiv n (2 ^ 4)<16:=by
 rw [Int.fdiv_eq_ediv_of_nonneg _ aa];omega
noncomputable def IA:Code:=cz [1,0,0,0] (bH Tryz.f145)
noncomputable abbrev iA H1 sW sV:=news H1 [.cells [uB sW,uB sV] 224 false]
noncomputable abbrev ko H1:=news H1 [.cells [uB 0,uB 0] 224 false]
noncomputable abbrev kH (x0:ByteArray) (H1:Hp) IN sW sV (l_:List Hint):=au 1::aI::au 0::.ck::au 0::.piece 1 [0,3] .normal (bw [(0,.string x0),(3,uB (ak x0 0))]) H1 []::au 0::.ck::vl (uB IN) H1::au 6::.ck::vl (.agg #[uB sW,uB sV]) H1::au 0::vl bJ (iA H1 sW sV)::au 0::l_
theorem KZ :∀(m:Nat) (x0:ByteArray) (H:Hp),Gd E G H→x0.size=m→
  aA E G 169 IA [(0,.string x0)] H [] (fun x T H'=>(x=(.exit 0)∧T=bw [])∨(x=.ret∧∃(z2:Bool),T=bw [(2,.bool z2)])):=by
 intro m
 induction m using Nat.strongRecOn with
 |_ m ih=>
 intro x0 H y  hm
 have bg:=eA x0 0
 have bl:=eR x0 0
 cases h1:(decide ((x0.size:Int)>0)) with
 |true=>
  have q1:=aL h1
  have w1:0≤(0:Int):=aa
  have w2:(0:Int)<(x0.size:Int):=aa
  obtain ⟨_,_,H1,c1,bN,y1,eD⟩:=ug x0 (ak x0 0)  y aa
  rcases eD with ⟨rfl,rfl⟩ |⟨rfl,jh,rfl,cw⟩
  ·have jq:H.n+0≤H1.n:=bN.n
   have w3:0≤(ak x0 0):=aa
   have w4:(ak x0 0)<(256:Int):=aa
   obtain ⟨IN,adL,fa1,fb1⟩:=Fj (c:=(ak x0 0)) (eA _ _) (eR _ _)
   have WN:=ab1 fa1 fb1
   have YV:=y.kept bN aH (G_5 y)
   have w5:aq E 5 5 (0+(ak x0 0).toNat*1) H1=some (uB IN):=bQ cG YV adL
   have w6:0≤(Int.fdiv IN (2 ^ 4)):=aa
   have w7:(Int.fdiv IN (2 ^ 4))<(16:Int):=aa
   obtain ⟨sW,sV,adw⟩:=Bx (k:=(Int.fdiv IN (2 ^ 4))) aa aa
   have YW:=y.kept bN aH (G_6 y)
   have w8:aq E 224 6 (0+(Int.fdiv IN (2 ^ 4)).toNat*2) H1=some (.agg #[uB sW,uB sV]):=o7 E6 eB YW (E5 aa) adw
   cases h3:((IntKind.i64.wrap (IntKind.u8.wrap ((BitVec.ofInt 8 IN &&& BitVec.ofInt 8 7).toNat:Int)))==2) with
   |true=>
    obtain ⟨_,_,H2,c2,dc,y2,oP⟩:=jr x0 (H1.n+0) sW sV (y1.news [.cells [uB sW,uB sV] 224 false]) (aB [.cells [uB sW,uB sV] 224 false] H1 0 _ rfl) aa
    rcases oP with ⟨rfl,rfl⟩ |⟨rfl,rfl,JE⟩
    ·have jI:H1.n+1≤H2.n:=by have h:=dc.n;rw [bF] at h;exact h
     exact aA.last' y (bf (kH x0 H1 IN sW sV [aI,au 0,.piece 3 [0,6] .normal (bw [(0,.string x0),(94,.bool true)]) H2 [],au 0]) [(2,.bool false)] .ret H2 [H1.n+0] (fun _ r_=>aE h1 w1 w2 c1 w3 w4 w5 w6<|eM w7 w8 (show az E 224 (H1.n+0) 0 (.agg #[uB sW,uB sV]) (ko H1)=some (iA H1 sW sV) from cN eB rfl rfl rfl rfl) h3 c2 r_)) aj aG aM (.inr (⟨rfl,false,rfl⟩))
    ·have jI:H1.n+1≤H2.n:=by have h:=dc.n;rw [bF] at h;exact h
     have w9:0≤(2:Int):=aa
     have jE:(2:Int)≤(x0.size:Int):=aa
     have sz1:=gk x0 (2:Int).toNat
     exact aA.next' y (bf (kH x0 H1 IN sW sV [aI,au 0,.piece 3 [0,6] .normal (bw [(0,.string x0),(94,.bool false)]) H2 [],au 0,.ck,au 0]) [(0,.string (x0.extract (2:Int).toNat x0.size))] .normal H2 [H1.n+0] (fun _ r_=>aE h1 w1 w2 c1 w3 w4 w5 w6<|fk w7 w8 (show az E 224 (H1.n+0) 0 (.agg #[uB sW,uB sV]) (ko H1)=some (iA H1 sW sV) from cN eB rfl rfl rfl rfl) h3 c2 w9 jE r_)) aG (ih _ aa (x0.extract (2:Int).toNat x0.size) _ y2  rfl)
   |false=>
    cases h4:((IntKind.i64.wrap (IntKind.u8.wrap ((BitVec.ofInt 8 IN &&& BitVec.ofInt 8 7).toNat:Int)))==3) with
    |true=>
     obtain ⟨_,_,H2,c2,dc,y2,oP⟩:=iD x0 (H1.n+0) sW sV (y1.news [.cells [uB sW,uB sV] 224 false]) (aB [.cells [uB sW,uB sV] 224 false] H1 0 _ rfl) aa
     rcases oP with ⟨rfl,rfl⟩ |⟨rfl,rfl,JE⟩
     ·have jI:H1.n+1≤H2.n:=by have h:=dc.n;rw [bF] at h;exact h
      exact aA.last' y (bf (kH x0 H1 IN sW sV [aF,au 0,aI,au 0,.piece 3 [0,6] .normal (bw [(0,.string x0),(125,.bool true)]) H2 [],au 0]) [(2,.bool false)] .ret H2 [H1.n+0] (fun _ r_=>aE h1 w1 w2 c1 w3 w4 w5 w6<|fG w7 w8 (show az E 224 (H1.n+0) 0 (.agg #[uB sW,uB sV]) (ko H1)=some (iA H1 sW sV) from cN eB rfl rfl rfl rfl) h3 h4 c2 r_)) aj aG aM (.inr (⟨rfl,false,rfl⟩))
     ·have jI:H1.n+1≤H2.n:=by have h:=dc.n;rw [bF] at h;exact h
      have w9:0≤(3:Int):=aa
      have jE:(3:Int)≤(x0.size:Int):=aa
      have sz1:=gk x0 (3:Int).toNat
      exact aA.next' y (bf (kH x0 H1 IN sW sV [aF,au 0,aI,au 0,.piece 3 [0,6] .normal (bw [(0,.string x0),(125,.bool false)]) H2 [],au 0,.ck,au 0]) [(0,.string (x0.extract (3:Int).toNat x0.size))] .normal H2 [H1.n+0] (fun _ r_=>aE h1 w1 w2 c1 w3 w4 w5 w6<|aE w7 w8 (show az E 224 (H1.n+0) 0 (.agg #[uB sW,uB sV]) (ko H1)=some (iA H1 sW sV) from cN eB rfl rfl rfl rfl) h3 h4 c2 w9 jE r_)) aG (ih _ aa (x0.extract (3:Int).toNat x0.size) _ y2  rfl)
    |false=>
     cases h5:((IntKind.i64.wrap (IntKind.u8.wrap ((BitVec.ofInt 8 IN &&& BitVec.ofInt 8 7).toNat:Int)))==4) with
     |true=>
      obtain ⟨_,_,H2,c2,dc,y2,oP⟩:=gS x0 (H1.n+0) sW sV (y1.news [.cells [uB sW,uB sV] 224 false]) (aB [.cells [uB sW,uB sV] 224 false] H1 0 _ rfl) aa
      rcases oP with ⟨rfl,rfl⟩ |⟨rfl,rfl,JE⟩
      ·have jI:H1.n+1≤H2.n:=by have h:=dc.n;rw [bF] at h;exact h
       exact aA.last' y (bf (kH x0 H1 IN sW sV [aF,au 0,aF,au 0,aI,au 0,.piece 3 [0,6] .normal (bw [(0,.string x0),(166,.bool true)]) H2 [],au 0]) [(2,.bool false)] .ret H2 [H1.n+0] (fun _ r_=>aE h1 w1 w2 c1 w3 w4 w5 w6<|fk w7 w8 (show az E 224 (H1.n+0) 0 (.agg #[uB sW,uB sV]) (ko H1)=some (iA H1 sW sV) from cN eB rfl rfl rfl rfl) h3 h4 h5 c2 r_)) aj aG aM (.inr (⟨rfl,false,rfl⟩))
      ·have jI:H1.n+1≤H2.n:=by have h:=dc.n;rw [bF] at h;exact h
       have w9:0≤(4:Int):=aa
       have jE:(4:Int)≤(x0.size:Int):=aa
       have sz1:=gk x0 (4:Int).toNat
       exact aA.next' y (bf (kH x0 H1 IN sW sV [aF,au 0,aF,au 0,aI,au 0,.piece 3 [0,6] .normal (bw [(0,.string x0),(166,.bool false)]) H2 [],au 0,.ck,au 0]) [(0,.string (x0.extract (4:Int).toNat x0.size))] .normal H2 [H1.n+0] (fun _ r_=>aE h1 w1 w2 c1 w3 w4 w5 w6<|aE w7 w8 (show az E 224 (H1.n+0) 0 (.agg #[uB sW,uB sV]) (ko H1)=some (iA H1 sW sV) from cN eB rfl rfl rfl rfl) h3 h4 h5 c2 w9<|cF jE r_)) aG (ih _ aa (x0.extract (4:Int).toNat x0.size) _ y2  rfl)
     |false=>
      exact aA.last' y (bf (kH x0 H1 IN sW sV [aF,au 0,aF,au 0,aF,au 1]) [(2,.bool false)] .ret (iA H1 sW sV) [H1.n+0] (fun _ r_=>aE h1 w1 w2 c1 w3 w4 w5 w6<|fG w7 w8 (show az E 224 (H1.n+0) 0 (.agg #[uB sW,uB sV]) (ko H1)=some (iA H1 sW sV) from cN eB rfl rfl rfl rfl) h3 h4 h5 r_)) aj aG aM (.inr (⟨rfl,false,rfl⟩))
  ·exact aA.next' y (bf [au 1,aI,au 0,.ck,au 0,.piece 1 [0,3] (.exit 1) (bw [(0,.string jh)]) H1 []] [(0,.string jh)] .normal H1 [] (fun _ r_=>gm h1 w1 w2 c1 r_)) aM (ih _ aa jh _ y1  rfl)
 |false=>
  exact aA.last' y (bf [au 1,aF] [] (.exit 0) H [] (fun _ r_=>cF h1 r_)) aj aM aM (.inl (⟨rfl,rfl⟩))
theorem ME:E.func 145=some Tryz.f145:=ah
theorem MF:bO Tryz.f145 1=true:=ah
theorem EZ (s:ByteArray) {H:Hp} (y:Gd E G H):aD E G 145 [.string s] H [] (fun v H'=>∃(b:Bool),v=(.bool b)):=by
 obtain ⟨_,_,H1,c1,bN,y1,eD⟩:=(KZ  _ s _ y  rfl).code
 rcases eD with ⟨rfl,rfl⟩ |⟨rfl,yT,rfl⟩
 ·exact bA y [au 0,.loop [0] (.exit 0) (bw []) H1 [],au 0] (.bool true) H1 ME MF (cF c1 aS) ⟨true,rfl⟩
 ·exact bA y [au 0,.loop [0] .ret (bw [(2,.bool yT)]) H1 []] (.bool yT) H1 ME MF (cF c1 aS) ⟨yT,rfl⟩
theorem JR (s:ByteArray):∃(b:Bool),∀{H:Hp},Gd E G H→CC E 145 [.string s] H (.ret (.bool b)) H []:=by
 obtain ⟨_,_,c,_,_,b,rfl⟩:=EZ s eZ
 exact ⟨b,fun y=>aW (cq rfl) (.ground rfl) c y⟩
def tu (E:Env) (ts:Array TypeId) (e:TypeId) (sz TG:Nat):Bool:=
 match ts[0]? with
 |some t=>match E.ul t with
  |some (.slice e')=>Nat.beq e e'&&(match E.info e with
   |some i=>match i.zero with
    |some z=>!Pg E ts&&Nat.beq z.cells.size i.size&&Nat.blt 0 i.size&&Nat.blt 0 i.bytes&&Nat.beq i.size sz&&Nat.beq i.bytes TG
    |none=>false
   |none=>false)
  |_=>false
 |none=>false
theorem J8 {ts:Array TypeId} {e sz TG:Nat} (hc:tu E ts e sz TG=true):∃ i:TypeInfo,i.size=sz∧i.bytes=TG∧∀{s x:Value} {H:Hp} {m:Nat} {new:List Value} {R:List Nat},mN x sz=true→n9 H sz x=some (m,new,R)→new.all one=true→ee E ts s x H=uI E e i s m new R H:=by
 unfold tu at hc
 split at hc
 ·rename_i t h0
  split at hc
  ·rename_i e' hu
   simp only [Bool.and_eq_true] at hc
   obtain ⟨he,hc⟩:=hc
   have he:=Nat.eq_of_beq_eq_true he
   subst he
   split at hc
   ·rename_i i hi
    split at hc
    ·rename_i z hz
     simp only [Bool.and_eq_true] at hc
     obtain ⟨⟨⟨⟨⟨a1,a2⟩,a3⟩,a4⟩,a5⟩,a6⟩:=hc
     have a5:=Nat.eq_of_beq_eq_true a5
     have a6:=Nat.eq_of_beq_eq_true a6
     refine ⟨i,a5,a6,fun {s x H m new R} hs hsrc ho=>?_⟩
     subst a5
     have:(!Pg E ts&&Nat.beq z.cells.size i.size&&Nat.blt 0 i.size&&Nat.blt 0 i.bytes&&mN x i.size)=true:=by
      simp only [Bool.and_eq_true];exact ⟨⟨⟨⟨a1,a2⟩,a3⟩,a4⟩,hs⟩
     unfold ee
     simp only [h0,hu,hi,hz]
     rw [this]
     simp only [cond_true,hsrc,ho]
    ·cases hc
   ·cases hc
  ·cases hc
 ·cases hc
theorem LA {H:Hp} {b off n:Nat} {c:List Value} {e:TypeId} {ro:Bool} (h:H.get b=some (.cells c e ro)) (hn:off+n≤c.length):row H b off n=some ((c.drop off).take n):=by
 simp only [row,h,Nat.ble_eq_true_of_le hn,cond_true]
theorem kK {H:Hp} {b off n cap sz:Nat} {c:List Value} {e:TypeId} {ro:Bool} (h:H.get b=some (.cells c e ro)) (hn:off+n*sz≤c.length):n9 H sz (sc b off n cap)=some (n,(c.drop off).take (n*sz),[b]):=by
 show (match row H b off (n*sz) with |some xs=>some (n,xs,[b]) |none=>none)=_
 rw [LA h hn]
section
variable {ts:Array TypeId} {e sz TG:Nat} (hc:tu E ts e sz TG=true) {H:Hp} {x:Value} {m:Nat} {new:List Value} {R:List Nat} (hs:mN x sz=true) (hx:n9 H sz x=some (m,new,R)) (ho:new.all one=true)
include hc hs hx ho
theorem uH (hm:0<m) (hb:m*TG≤1099511627776):ee E ts (.slice none 0 0) x H=some (sc H.n 0 m (2*sz),H.new (.cells new e false),[],R):=by
 obtain ⟨i,h1,h2,h3⟩:=J8 hc
 rw [h3 hs hx ho]
 unfold uI
 have e1:Nat.beq m 0=false:=uT aa
 have e2:Nat.ble (m*i.bytes) most=true:=Nat.ble_eq_true_of_le (by rw [h2];exact hb)
 simp only [e1,e2,cond_true,cond_false,h1]
theorem Io {b off n c:Nat} {cs:List Value} {e':TypeId} {ro:Bool} (hg:H.get b=some (.cells cs e' ro)) (hn:off+n*sz≤cs.length) (hcap:c<n+m) (hb:(n+m)*TG≤1099511627776) :
  ee E ts (sc b off n (2*c+1)) x H=some (sc H.n 0 (n+m) (2*sz),H.new (.cells ((cs.drop off).take (n*sz)++new) e false),[],b::R):=by
 obtain ⟨i,h1,h2,h3⟩:=J8 hc
 rw [h3 hs hx ho]
 unfold uI
 have e0:tB (2*c+1)=.known c:=by
  unfold tB
  rw [Fz (show (2*c+1)%2=1 by omega)]
  simp only [cond_true];congr 1;omega
 have e1:Nat.ble (n+m) c=false:=by
  cases h:Nat.ble (n+m) c with
  |false=>rfl
  |true=>have:=dm h;omega
 have e2:Nat.ble ((n+m)*i.bytes) most=true:=Nat.ble_eq_true_of_le (by rw [h2];exact hb)
 simp only [sc,e0,e1,e2,cond_true,cond_false,h1]
 rw [LA hg hn]
theorem rz {b off n:Nat} {cs:List Value} (hg:H.get b=some (.cells cs e false)) (hn:off+n*sz≤cs.length) (hb:(n+m)*TG≤1099511627776) :
  ee E ts (sc b off n (2*sz)) x H=some (sc H.n 0 (n+m) (2*sz),(H.set b .dead).new (.cells ((cs.drop off).take (n*sz)++new) e false),[b],b::R):=by
 obtain ⟨i,h1,h2,h3⟩:=J8 hc
 rw [h3 hs hx ho]
 unfold uI
 have e0:tB (2*sz)=.ZH sz:=by
  unfold tB
  rw [uT (show (2*sz)%2≠1 by omega)]
  simp only [cond_false];congr 1;omega
 have e2:Nat.ble ((n+m)*i.bytes) most=true:=Nat.ble_eq_true_of_le (by rw [h2];exact hb)
 have e3:(Nat.ble (off+n*i.size) cs.length&&Nat.beq sz i.size&&Nat.beq e e&&Nat.ble ((n+m)*i.bytes) most)=true:=by
  rw [h1,e2,Nat.ble_eq_true_of_le hn,Nat.beq_refl,Nat.beq_refl];rfl
 simp only [sc,e0,hg,e3,cond_true]
 rw [h1]
end
theorem sM {H K:Hp} {b:Nat} {o:Ob} (e:K=(H.set b .dead).new o):K.get H.n=some o:=by rw [e,Hp.dF,if_pos];rfl
theorem iM {E:Env} {G H K:Hp} (y:Gd E G H) {b q:Nat} {o o':Ob} (e:K=(H.set b .dead).new o) (hne:b≠q) (k:H.get q=some o'):K.get q=some o':=by
 have:=y.wf.lt k
 have hn:(H.set b .dead).n=H.n:=rfl
 rw [e,Hp.dF,if_neg aa,Hp.ek,if_neg hne];exact k
theorem xN {E:Env} {G H K:Hp} (y:Gd E G H) {b:Nat} {o:Ob} (e:K=(H.set b .dead).new o) (h1:G.n≤b) (h2:b<H.n):Gd E G K:=e▸((y.set .dead h1 h2).news [o])
theorem Ek {H K:Hp} {b:Nat} {o:Ob} (e:K=(H.set b .dead).new o):K.n=H.n+1:=by rw [e];rfl
theorem Qe {E:Env} {ts:Array TypeId} {t e n b off c:Nat} {z:Value} {H:Hp} {cs cs':List Value} {e':TypeId} (h0:ts[0]?=some t) (hu:E.ul t=some (.slice e)) (hz:E.zero e=some z) (hg:H.get b=some (.cells cs e' false))
  (hc:(Nat.ble (off+(n+1)*z.cells.size) cs.length&&z.cells.toList.all one&&ground z)=true) (hs:splice cs off (fD z.cells.toList (n+1))=cs') :
  vU E ts (sc b off (n+1) c) H=some (bJ,H.set b (.cells cs' e' false),[b],[b]):=by
 simp only [vU,h0,hu,sc,hz,hg,hc,cond_true,hs]
theorem th:tu E #[122,122] 126 2 32=true:=ah
theorem HE (v:List Value) (h:v.all fj=true:=by rfl):∀ x∈[Value.agg v.toArray],iE x:=fun x hx=>by
 simp only [List.mem_cons,aH,or_false] at hx
 subst hx
 exact .ground (by show v.toArray.toList.all fj=true;simpa using h)
theorem Mu:E.func 114=some Tryz.f114:=ah
theorem Mv:bO Tryz.f114 1=true:=ah
theorem Hf (s:ByteArray) {H:Hp} (y:Gd E G H):aD E G 114 [.string s] H [] (fun v H'=>∃(b:Bool),v=(.bool b)):=by
 cases h1:(decide ((s.size:Int)≤200)) with
 |true=>
  obtain ⟨xQ,dM⟩:=JR s
  exact bA y [au 2,aI,au 1,.call (.bool xQ) H [],au 1] (.bool xQ) H Mu Mv (cU h1 (show CC E 145 [.string s] H (.ret (.bool xQ)) H [] from dM y) aS) ⟨xQ,rfl⟩
 |false=>
  exact bA y [au 2,aF,au 2] (.bool false) H Mu Mv (cF h1 aS) ⟨false,rfl⟩
theorem K8 (s:ByteArray):∃(b:Bool),∀{H:Hp},Gd E G H→CC E 114 [.string s] H (.ret (.bool b)) H []:=by
 obtain ⟨_,_,c,_,_,b,rfl⟩:=Hf s eZ
 exact ⟨b,fun y=>aW (cq rfl) (.ground rfl) c y⟩
theorem Q7:E.func 94=some Tryz.f94:=ah
theorem Q8:bO Tryz.f94 1=true:=ah
noncomputable abbrev bp H a s:=news H [.cells [.string a,.string s] 126 false]
theorem K7 (a:ByteArray) (s:ByteArray) {H:Hp} (y:Gd E G H) (ha:(a.size:Int)<1000):aD E G 94 [.agg #[.string a,.string s]] H [] (fun v H'=>∃(b:Bool),v=(.bool b)):=by
 have w1:aq E 9 (H.n+0) 0 (bp H a s)=some (.string a):=cI bB rfl rfl
 obtain ⟨xQ,dM⟩:=lC a aa
 cases xQ with
 |true=>
  have w2:aq E 9 (H.n+0) 1 (bp H a s)=some (.string s):=cI bB rfl rfl
  obtain ⟨K9,lu⟩:=K8 s
  exact bA y [au 2,vl (.string a) (bp H a s),.call (.bool true) (bp H a s) [],au 1,vl (.string s) (bp H a s),.call (.bool K9) (bp H a s) [],au 1] (.bool K9) (bp H a s) Q7 Q8 (gm w1 (show CC E 69 [.string a] (bp H a s) (.ret (.bool true)) (bp H a s) [] from dM (y.news [.cells [.string a,.string s] 126 false])) w2 (show CC E 114 [.string s] (bp H a s) (.ret (.bool K9)) (bp H a s) [] from lu (y.news [.cells [.string a,.string s] 126 false])) aS) ⟨K9,rfl⟩
 |false=>
  exact bA y [au 2,vl (.string a) (bp H a s),.call (.bool false) (bp H a s) [],au 2] (.bool false) (bp H a s) Q7 Q8 (cU w1 (show CC E 69 [.string a] (bp H a s) (.ret (.bool false)) (bp H a s) [] from dM (y.news [.cells [.string a,.string s] 126 false])) aS) ⟨false,rfl⟩
theorem Jg (a:ByteArray) (s:ByteArray) (ha:(a.size:Int)<1000):∃(b:Bool),∀{H:Hp},Gd E G H→CC E 94 [.agg #[.string a,.string s]] H (.ret (.bool b)) H []:=by
 obtain ⟨_,_,c,_,_,b,rfl⟩:=K7 a s eZ ha
 exact ⟨b,fun y=>aW (HE _) (.ground rfl) c y⟩
theorem Rb:E.func 96=some Tryz.f96:=ah
theorem Rc:bO Tryz.f96 1=true:=ah
theorem Jf (a:ByteArray) (s:ByteArray) {H:Hp} (y:Gd E G H):aD E G 96 [.agg #[.string a,.string s]] H [] (fun v H'=>∃(b:Bool),v=(.bool b)):=by
 have w1:aq E 9 (H.n+0) 1 (bp H a s)=some (.string s):=cI bB rfl rfl
 cases h1:(s.toList==(⟨#[]⟩:ByteArray).toList) with
 |true=>
  exact bA y [au 2,vl (.string s) (bp H a s),aI,au 0] (.bool true) (bp H a s) Rb Rc (cU w1 h1 aS) ⟨true,rfl⟩
 |false=>
  exact bA y [au 2,vl (.string s) (bp H a s),aF,au 0] (.bool false) (bp H a s) Rb Rc (cU w1 h1 aS) ⟨false,rfl⟩
theorem Ou (a:ByteArray) (s:ByteArray):∃(b:Bool),∀{H:Hp},Gd E G H→CC E 96 [.agg #[.string a,.string s]] H (.ret (.bool b)) H []:=by
 obtain ⟨_,_,c,_,_,b,rfl⟩:=Jf a s eZ
 exact ⟨b,fun y=>aW (HE _) (.ground rfl) c y⟩
theorem Yd:E.func 91=some Tryz.f91:=ah
theorem Ye:bO Tryz.f91 1=true:=ah
noncomputable abbrev wo H a s:=news H [.cells [] 126 false,.cells [.string a,.string s] 126 false]
theorem Jh (z:Nat) (a:ByteArray) (s:ByteArray) {H:Hp} (y:Gd E G H) (kz:H.get z=some (.cells [.string a,.string s] 126 false)):aD E G 91 [sc z 0 1 3] H [] (fun v H'=>∃ b,v=sc b 0 1 4∧H.n≤b∧H'.get b=some (.cells [.string a,.string s] 126 false)):=by
 exact bA y [au 4,.val (sc (H.n+1) 0 1 4) (wo H a s) [] [H.n+0,z],au 0] (sc (H.n+1) 0 1 4) (wo H a s) Yd Ye (cF (show ee E #[122,122] (sc (H.n+0) 0 0 1) (sc z 0 1 3) (news H [.cells [] 126 false])=some (sc (H.n+1) 0 1 4,wo H a s,[],[H.n+0,z]) from Io (c:=0) th rfl (show n9 (news H [.cells [] 126 false]) 2 (sc z 0 1 3)=some (1,[.string a,.string s],[z]) from kK (y.old kz [.cells [] 126 false]) (dm rfl)) rfl (aB [.cells [] 126 false] H 0 _ rfl) (dm rfl) (by decide) (by decide)) aS) ⟨_,rfl,by omega,aB [.cells [] 126 false,.cells [.string a,.string s] 126 false] H 1 _ rfl⟩
noncomputable def N0:Code:=cz [1,0,0] (bH Tryz.f133)
theorem KY (z:Nat) (a:ByteArray) (s:ByteArray)  {H:Hp} (y:Gd E G H):aA E G 53 N0 [(0,sc z 0 1 4),(1,iI 0),(2,iI 1),(3,ai 93),(8,iI 1)] H [] (fun x T H'=>(x=(.exit 0)∧T=bw [])):=by
 exact aA.last' y (bf [au 2] [] (.exit 0) H [] (fun _ r_=>r_)) aj aM aM ⟨rfl,rfl⟩
theorem Uk:E.func 133=some Tryz.f133:=ah
theorem Ul:bO Tryz.f133 4=true:=ah
theorem ab6 (z:Nat) {H:Hp} (y:Gd E G H):aD E G 133 [sc z 0 1 4,iI 0,iI 1,ai 93] H [] (fun v H'=>v=bJ):=by
 obtain ⟨_,_,H1,c1,bN,y1,rfl,rfl⟩:=(KY z ⟨#[]⟩ ⟨#[]⟩  y ).code
 exact bA y [au 2,.loop [0,1,2,3,8] (.exit 0) (bw []) H1 []] (.tuple #[]) H1 Uk Ul (cF c1 aS) rfl
noncomputable def Iz:Code:=cz [1,1,0,0] (bH Tryz.f111)
theorem G9 (z:Nat) (n:Int)  {H:Hp} (y:Gd E G H):aA E G 148 Iz [(0,sc z 0 1 4),(1,iI 0),(2,iI 1),(3,iI n),(4,ai 93),(10,.bool true),(11,.bool true)] H [] (fun x T H'=>(x=.ret∧T=bw [])):=by
 obtain ⟨_,H1,c1,bN,y1,rfl⟩:=ab6 z y
 exact aA.last' y (bf [au 9,.call (.tuple #[]) H1 []] [] .ret H1 [] (fun _ r_=>cF c1 r_)) aj aM aM ⟨rfl,rfl⟩
theorem Uc:E.func 111=some Tryz.f111:=ah
theorem Ud:bO Tryz.f111 5=true:=ah
theorem aeM (z:Nat) (n:Int) {H:Hp} (y:Gd E G H):aD E G 111 [sc z 0 1 4,iI 0,iI 1,iI n,ai 93] H [] (fun v H'=>v=bJ):=by
 obtain ⟨_,_,H1,c1,bN,y1,rfl,rfl⟩:=(G9 z n  y ).code
 exact bA y [au 1,.loop [0,1,2,3,4,10,11] .ret (bw []) H1 []] (.tuple #[]) H1 Uc Ud (cF c1 aS) rfl
theorem Yf:E.func 92=some Tryz.f92:=ah
theorem Yg:bO Tryz.f92 2=true:=ah
theorem ZC (z:Nat) {H:Hp} (y:Gd E G H):aD E G 92 [sc z 0 1 4,ai 93] H [] (fun v H'=>v=bJ):=by
 obtain ⟨_,H1,c1,bN,y1,rfl⟩:=aeM z 1 y
 exact bA y [au 6,.call (iI 1) H [],au 0,.call (.tuple #[]) H1 []] (.tuple #[]) H1 Yf Yg (cU (show CC E 112 [uU 1] H (.ret (iI 1)) H [] from V7 (f:=400) ah (cq rfl) (.ground rfl) y) c1 aS) rfl
noncomputable def vD:Code:=cz [1,0,1,0,0] (bH Tryz.f115)
theorem Cd (z:Nat) (a:ByteArray) (s:ByteArray)  {H:Hp} (y:Gd E G H) (kz:H.get z=some (.cells [.string a,.string s] 126 false)):aA E G 19 vD [(0,sc z 0 1 4),(1,ai 96),(7,iI 1),(8,iI 1)] H [] (fun x T H'=>(x=(.exit 0)∧T=bw [])∨(x=.ret∧T=bw [(4,iI 0)])):=by
 exact aA.last' y (bf [au 0] [] (.exit 0) H [] (fun _ r_=>r_)) aj aM aM (.inl (⟨rfl,rfl⟩))
theorem Cc (z:Nat) (a:ByteArray) (s:ByteArray)  {H:Hp} (y:Gd E G H) (kz:H.get z=some (.cells [.string a,.string s] 126 false)):aA E G 19 vD [(0,sc z 0 1 4),(1,ai 96),(7,iI 1),(8,iI 0)] H [] (fun x T H'=>(x=(.exit 0)∧T=bw [])∨(x=.ret∧T=bw [(4,iI 0)])):=by
 have w1:aq E 126 z 0 H=some (.agg #[.string a,.string s]):=o7 qG iT kz rfl rfl
 obtain ⟨xQ,dM⟩:=Ou a s
 cases xQ with
 |true=>
  exact aA.last' y (bf [au 6,vl (.agg #[.string a,.string s]) H,.call (.bool true) H [],au 1] [(4,iI 0)] .ret H [] (fun _ r_=>cU w1 (show CC E 96 [.agg #[.string a,.string s]] H (.ret (.bool true)) H [] from dM y) r_)) aj aM aM (.inr (⟨rfl,rfl⟩))
 |false=>
  exact aA.next' y (bf [au 6,vl (.agg #[.string a,.string s]) H,.call (.bool false) H [],au 1] [(0,sc z 0 1 4),(1,ai 96),(7,iI 1),(8,iI 1)] .normal H [] (fun _ r_=>cU w1 (show CC E 96 [.agg #[.string a,.string s]] H (.ret (.bool false)) H [] from dM y) r_)) aM (Cd z a s  y kz)
theorem Mw:E.func 115=some Tryz.f115:=ah
theorem Mx:bO Tryz.f115 2=true:=ah
theorem Vp (z:Nat) (a:ByteArray) (s:ByteArray) {H:Hp} (y:Gd E G H) (kz:H.get z=some (.cells [.string a,.string s] 126 false)):aD E G 115 [sc z 0 1 4,ai 96] H [] (fun v H'=>v=iI 0∨v=iI (-1)):=by
 obtain ⟨_,_,H1,c1,bN,y1,eD⟩:=(Cc z a s  y kz).code
 rcases eD with ⟨rfl,rfl⟩ |⟨rfl,rfl⟩
 ·exact bA y [au 3,.loop [0,1,7,8] (.exit 0) (bw []) H1 [],au 0] (iI (-1)) H1 Mw Mx (cF c1 aS) (.inr rfl)
 ·exact bA y [au 3,.loop [0,1,7,8] .ret (bw [(4,iI 0)]) H1 []] (iI 0) H1 Mw Mx (cF c1 aS) (.inl rfl)
noncomputable def zh:Code:=cz [1,1,1,0,1,0,0] (bH Tryz.f95)
theorem yE (z:Nat) (a:ByteArray) (s:ByteArray)  {H:Hp} (y:Gd E G H) (kz:H.get z=some (.cells [.string a,.string s] 126 false)):aA E G 42 zh [(0,sc z 0 1 4),(1,ai 96),(5,iI 0),(6,iI 1)] H [] (fun x T H'=>(x=(.exit 0)∧T=bw [(0,sc z 0 1 4),(5,iI 0)])):=by
 exact aA.last' y (bf [au 3] [(0,sc z 0 1 4),(5,iI 0)] (.exit 0) H [] (fun _ r_=>r_)) aj aM aM ⟨rfl,rfl⟩
theorem Q9:E.func 95=some Tryz.f95:=ah
theorem Ra:bO Tryz.f95 2=true:=ah
theorem TX (z:Nat) (a:ByteArray) (s:ByteArray) {H:Hp} (y:Gd E G H) (kz:H.get z=some (.cells [.string a,.string s] 126 false)) (hz:G.n≤z):aD E G 95 [sc z 0 1 4,ai 96] H [z] (fun v H'=>(v=sc z 0 1 4∧H'.get z=some (.cells [.string a,.string s] 126 false))∨v=sc z 0 0 4):=by
 have ahQ:=y.wf.lt kz
 obtain ⟨_,H1,c1,bN,y1,eD⟩:=Vp z a s y kz
 rcases eD with rfl |rfl
 ·have jq:H.n+0≤H1.n:=bN.n
  have Vr:=y.kept bN aH kz
  obtain ⟨_,_,H2,c2,dc,y2,rfl,rfl⟩:=(yE z a s  y1 Vr).code
  have jI:H1.n+0≤H2.n:=dc.n
  have Vs:=y1.kept dc aH Vr
  obtain ⟨K3,e3⟩:∃ K_,K_=H2.set z (.cells [.string ⟨#[]⟩,.string ⟨#[]⟩] 126 false):=⟨_,rfl⟩
  exact aD.mk y (dj [au 2,.call (iI 0) H1 [],au 5,.loop [0,1,5,6] (.exit 0) (bw [(0,sc z 0 1 4),(5,iI 0)]) H2 [],au 2,.val bJ K3 [z] [z],au 3] (sc z 0 0 4) K3 [z] Q9 Ra (eY c1 c2 (show vU E #[122] (sc z 0 1 4) H2=some (bJ,K3,[z],[z]) from (Qe (n:=0) (cs':=[.string ⟨#[]⟩,.string ⟨#[]⟩]) rfl LM L7 Vs rfl rfl).trans (by rw [e3])) aS)) aj aJ (.inr rfl)
 ·have Vr:=y.kept bN aH kz
  exact aD.mk y (dj [au 2,.call (iI (-1)) H1 [],au 4] (sc z 0 1 4) H1 [] Q9 Ra (cF c1 aS)) aM aJ (.inl ⟨rfl,Vr⟩)
noncomputable def yj:Code:=cz [1,0,1,0,0] (bH Tryz.f97)
theorem EM (z:Nat) (a:ByteArray) (s:ByteArray)  {H:Hp} (y:Gd E G H) (kz:H.get z=some (.cells [.string a,.string s] 126 false)) (ha:(a.size:Int)<1000):aA E G 39 yj [(0,sc z 0 1 4),(5,sc z 0 1 4),(6,iI 1),(7,iI 1)] H [] (fun x T H'=>(x=(.exit 0)∧T=bw [(0,sc z 0 1 4)])∨(x=.ret∧∃(z2:Bool),T=bw [(2,.bool z2)])):=by
 exact aA.last' y (bf [au 0] [(0,sc z 0 1 4)] (.exit 0) H [] (fun _ r_=>r_)) aj aM aM (.inl (⟨rfl,rfl⟩))
noncomputable abbrev oB H:=news H [.cells [.string ⟨#[]⟩,.string ⟨#[]⟩] 126 false]
noncomputable abbrev De (a:ByteArray) (s:ByteArray) (H:Hp) (l_:List Hint):=au 2::vl (.agg #[.string a,.string s]) H::au 1::vl bJ (bp H a s)::vl (.agg #[.string a,.string s]) (bp H a s)::l_
noncomputable abbrev Df (a:ByteArray) (s:ByteArray) (H:Hp) (l_:List Hint):=De a s H (.call (.bool true) (bp H a s) []::au 2::vl (.string s) (bp H a s)::l_)
theorem EL (z:Nat) (a:ByteArray) (s:ByteArray)  {H:Hp} (y:Gd E G H) (kz:H.get z=some (.cells [.string a,.string s] 126 false)) (ha:(a.size:Int)<1000):aA E G 39 yj [(0,sc z 0 1 4),(5,sc z 0 1 4),(6,iI 1),(7,iI 0)] H [] (fun x T H'=>(x=(.exit 0)∧T=bw [(0,sc z 0 1 4)])∨(x=.ret∧∃(z2:Bool),T=bw [(2,.bool z2)])):=by
 have w1:aq E 126 z 0 H=some (.agg #[.string a,.string s]):=o7 qG iT kz rfl rfl
 have w2:aq E 126 (H.n+0) 0 (bp H a s)=some (.agg #[.string a,.string s]):=fQ qG iT rfl rfl rfl
 obtain ⟨xQ,dM⟩:=Jg a s ha
 cases xQ with
 |true=>
  have w3:aq E 9 (H.n+0) 1 (bp H a s)=some (.string s):=cI bB rfl rfl
  cases h2:(s.toList==(⟨#[]⟩:ByteArray).toList) with
  |true=>
   exact aA.last' y (bf (Df a s H [aI,au 3]) [(2,.bool false)] .ret (bp H a s) [H.n+0] (fun _ r_=>aE w1 (show az E 126 (H.n+0) 0 (.agg #[.string a,.string s]) (oB H)=some (bp H a s) from cN iT rfl rfl rfl rfl) ag w2 ag (show CC E 94 [.agg #[.string a,.string s]] (bp H a s) (.ret (.bool true)) (bp H a s) [] from dM (y.news [.cells [.string a,.string s] 126 false])) ag ag<|aE ag ag w3 ag h2 ag ag ag<|cF ag r_)) aj aG aM (.inr (⟨rfl,false,rfl⟩))
  |false=>
   exact aA.next' y (bf (Df a s H [aF,au 8]) [(0,sc z 0 1 4),(5,sc z 0 1 4),(6,iI 1),(7,iI 1)] .normal (bp H a s) [H.n+0] (fun _ r_=>aE w1 (show az E 126 (H.n+0) 0 (.agg #[.string a,.string s]) (oB H)=some (bp H a s) from cN iT rfl rfl rfl rfl) ag w2 ag (show CC E 94 [.agg #[.string a,.string s]] (bp H a s) (.ret (.bool true)) (bp H a s) [] from dM (y.news [.cells [.string a,.string s] 126 false])) ag ag<|aE ag ag w3 ag h2 ag ag ag<|eM ag ag ag ag ag r_)) aG (EM z a s  (y.news [.cells [.string a,.string s] 126 false]) (y.old kz [.cells [.string a,.string s] 126 false]) ha)
 |false=>
  exact aA.last' y (bf (De a s H [.call (.bool false) (bp H a s) [],au 5]) [(2,.bool false)] .ret (bp H a s) [H.n+0] (fun _ r_=>aE w1 (show az E 126 (H.n+0) 0 (.agg #[.string a,.string s]) (oB H)=some (bp H a s) from cN iT rfl rfl rfl rfl) ag w2 ag (show CC E 94 [.agg #[.string a,.string s]] (bp H a s) (.ret (.bool false)) (bp H a s) [] from dM (y.news [.cells [.string a,.string s] 126 false])) ag ag<|gm ag ag ag ag r_)) aj aG aM (.inr (⟨rfl,false,rfl⟩))
theorem KE:E.func 97=some Tryz.f97:=ah
theorem KF:bO Tryz.f97 1=true:=ah
theorem Hh (z:Nat) (a:ByteArray) (s:ByteArray) {H:Hp} (y:Gd E G H) (kz:H.get z=some (.cells [.string a,.string s] 126 false)) (ha:(a.size:Int)<1000):aD E G 97 [sc z 0 1 4] H [] (fun v H'=>∃ b,v=.bool b):=by
 obtain ⟨_,_,H1,c1,bN,y1,eD⟩:=(EL z a s  y kz ha).code
 rcases eD with ⟨rfl,rfl⟩ |⟨rfl,yT,rfl⟩
 ·exact bA y [au 3,.loop [0,5,6,7] (.exit 0) (bw [(0,sc z 0 1 4)]) H1 [],au 3] (.bool true) H1 KE KF (cF c1 aS) ⟨true,rfl⟩
 ·exact bA y [au 3,.loop [0,5,6,7] .ret (bw [(2,.bool yT)]) H1 []] (.bool yT) H1 KE KF (cF c1 aS) ⟨yT,rfl⟩
noncomputable def aau:Code:=cz [1,0,1,0,0] (bH Tryz.f97)
theorem Y6 (z:Nat)  {H:Hp} (y:Gd E G H):aA E G 39 aau [(0,sc z 0 0 4),(5,sc z 0 0 4),(6,iI 0),(7,iI 0)] H [] (fun x T H'=>(x=(.exit 0)∧T=bw [(0,sc z 0 0 4)])):=by
 exact aA.last' y (bf [au 0] [(0,sc z 0 0 4)] (.exit 0) H [] (fun _ r_=>r_)) aj aM aM ⟨rfl,rfl⟩
theorem Hg (z:Nat) {H:Hp} (y:Gd E G H):aD E G 97 [sc z 0 0 4] H [] (fun v H'=>∃ b,v=.bool b):=by
 obtain ⟨_,_,H1,c1,bN,y1,rfl,rfl⟩:=(Y6 z  y ).code
 exact bA y [au 3,.loop [0,5,6,7] (.exit 0) (bw [(0,sc z 0 0 4)]) H1 [],au 3] (.bool true) H1 KE KF (cF c1 aS) ⟨true,rfl⟩
noncomputable def qL:Code:=cz [1,1,1,0,1,0,0] (bH Tryz.f81)
theorem yD (z:Nat) (a:ByteArray) (s:ByteArray)  {H:Hp} (y:Gd E G H) (kz:H.get z=some (.cells [.string a,.string s] 126 false)) (ha:(a.size:Int)<1000):aA E G 45 qL [(4,sc z 0 1 4),(11,sc z 0 1 4),(12,iI 1),(13,iI 1)] H [] (fun x T H'=>(x=(.exit 0)∧T=bw [(4,sc z 0 1 4)])∨(x=.ret∧T=bw [(2,.slice none 0 0),(3,.iface 41 (iI 1))])):=by
 exact aA.last' y (bf [au 0] [(4,sc z 0 1 4)] (.exit 0) H [] (fun _ r_=>r_)) aj aM aM (.inl (⟨rfl,rfl⟩))
noncomputable abbrev Dg (a:ByteArray) (s:ByteArray) (H:Hp) (l_:List Hint):=au 2::vl (.agg #[.string a,.string s]) H::au 1::vl bJ (bp H a s)::vl (.agg #[.string a,.string s]) (bp H a s)::l_
theorem yC (z:Nat) (a:ByteArray) (s:ByteArray)  {H:Hp} (y:Gd E G H) (kz:H.get z=some (.cells [.string a,.string s] 126 false)) (ha:(a.size:Int)<1000):aA E G 45 qL [(4,sc z 0 1 4),(11,sc z 0 1 4),(12,iI 1),(13,iI 0)] H [] (fun x T H'=>(x=(.exit 0)∧T=bw [(4,sc z 0 1 4)])∨(x=.ret∧T=bw [(2,.slice none 0 0),(3,.iface 41 (iI 1))])):=by
 have w1:aq E 126 z 0 H=some (.agg #[.string a,.string s]):=o7 qG iT kz rfl rfl
 have w2:aq E 126 (H.n+0) 0 (bp H a s)=some (.agg #[.string a,.string s]):=fQ qG iT rfl rfl rfl
 obtain ⟨xQ,dM⟩:=Jg a s ha
 cases xQ with
 |true=>
  exact aA.next' y (bf (Dg a s H [.call (.bool true) (bp H a s) [],au 8]) [(4,sc z 0 1 4),(11,sc z 0 1 4),(12,iI 1),(13,iI 1)] .normal (bp H a s) [H.n+0] (fun _ r_=>aE w1 (show az E 126 (H.n+0) 0 (.agg #[.string a,.string s]) (oB H)=some (bp H a s) from cN iT rfl rfl rfl rfl) ag w2 ag (show CC E 94 [.agg #[.string a,.string s]] (bp H a s) (.ret (.bool true)) (bp H a s) [] from dM (y.news [.cells [.string a,.string s] 126 false])) ag ag<|fG ag ag ag ag ag ag r_)) aG (yD z a s  (y.news [.cells [.string a,.string s] 126 false]) (y.old kz [.cells [.string a,.string s] 126 false]) ha)
 |false=>
  exact aA.last' y (bf (Dg a s H [.call (.bool false) (bp H a s) [],au 5]) [(2,.slice none 0 0),(3,.iface 41 (iI 1))] .ret (bp H a s) [H.n+0] (fun _ r_=>aE w1 (show az E 126 (H.n+0) 0 (.agg #[.string a,.string s]) (oB H)=some (bp H a s) from cN iT rfl rfl rfl rfl) ag w2 ag (show CC E 94 [.agg #[.string a,.string s]] (bp H a s) (.ret (.bool false)) (bp H a s) [] from dM (y.news [.cells [.string a,.string s] 126 false])) ag ag<|cU ag ag r_)) aj aG aM (.inr (⟨rfl,rfl⟩))
theorem BU:E.func 81=some Tryz.f81:=ah
theorem BV:bO Tryz.f81 1=true:=ah
noncomputable abbrev sy z (H1:Hp) (H2:Hp) (H3:Hp) (l_:List Hint):=au 2::.call (sc z 0 1 4) H1 []::au 1::.call (.tuple #[]) H2 []::au 2::.loop [4,11,12,13] (.exit 0) (bw [(4,sc z 0 1 4)]) H3 []::au 0::l_
theorem Ji (q:Nat) (a:ByteArray) (s:ByteArray) {H:Hp} (y:Gd E G H) (kq:H.get q=some (.cells [.string a,.string s] 126 false)) (ha:(a.size:Int)<1000):aD E G 81 [sc q 0 1 3] H [] (fun v H'=>(∃ v1,v=.tuple #[v1,.nilIface])∨(∃ v1,v=.tuple #[v1,.iface 41 (iI 1)])):=by
 have g0:=y.n
 obtain ⟨_,H1,c1,bN,y1,z,rfl,hz,kz⟩:=Jh q a s y kq
 have ltz:=y1.wf.lt kz
 obtain ⟨_,H2,c2,dc,y2,rfl⟩:=ZC z y1
 have jI:H1.n+0≤H2.n:=dc.n
 have Vs:=y1.kept dc aH kz
 obtain ⟨_,_,H3,c3,gB,y3,AU⟩:=(yC z a s  y2 Vs ha).code
 rcases AU with ⟨rfl,rfl⟩ |⟨rfl,rfl⟩
 ·have xS:H2.n+0≤H3.n:=gB.n
  have aeq:=y2.kept gB aH Vs
  obtain ⟨_,H4,c4,rj,y4,Ht⟩:=TX z a s y3 aeq aa
  rcases Ht with ⟨rfl,kz4⟩ |rfl
  ·have H9:H3.n+0≤H4.n:=rj.n
   obtain ⟨_,H5,c5,vQ,y5,lr,rfl⟩:=Hh z a s y4 kz4 ha
   have Pt:H4.n+0≤H5.n:=vQ.n
   cases lr with
   |true=>
    exact aD.mk y (dj (sy z H1 H2 H3 [.call (sc z 0 1 4) H4 [z],au 1,.call (.bool true) H5 [],au 3]) (.tuple #[sc z 0 1 4,.nilIface]) H5 [z] BU BV (eM c1 c2 c3 c4 c5 aS)) aG aM (.inl ⟨_,rfl⟩)
   |false=>
    exact aD.mk y (dj (sy z H1 H2 H3 [.call (sc z 0 1 4) H4 [z],au 1,.call (.bool false) H5 [],au 3]) (.tuple #[.slice none 0 0,.iface 41 (iI 1)]) H5 [z] BU BV (eM c1 c2 c3 c4 c5 aS)) aG aM (.inr ⟨_,rfl⟩)
  ·have H9:H3.n+0≤H4.n:=rj.n
   obtain ⟨_,H5,c5,vQ,y5,lr,rfl⟩:=Hg z y4
   have Pt:H4.n+0≤H5.n:=vQ.n
   cases lr with
   |true=>
    exact aD.mk y (dj (sy z H1 H2 H3 [.call (sc z 0 0 4) H4 [z],au 1,.call (.bool true) H5 [],au 3]) (.tuple #[sc z 0 0 4,.nilIface]) H5 [z] BU BV (eM c1 c2 c3 c4 c5 aS)) aG aM (.inl ⟨_,rfl⟩)
   |false=>
    exact aD.mk y (dj (sy z H1 H2 H3 [.call (sc z 0 0 4) H4 [z],au 1,.call (.bool false) H5 [],au 3]) (.tuple #[.slice none 0 0,.iface 41 (iI 1)]) H5 [z] BU BV (eM c1 c2 c3 c4 c5 aS)) aG aM (.inr ⟨_,rfl⟩)
 ·exact bA y [au 2,.call (sc z 0 1 4) H1 [],au 1,.call (.tuple #[]) H2 [],au 2,.loop [4,11,12,13] .ret (bw [(2,.slice none 0 0),(3,.iface 41 (iI 1))]) H3 []] (.tuple #[.slice none 0 0,.iface 41 (iI 1)]) H3 BU BV (eY c1 c2 c3 aS) (.inr ⟨_,rfl⟩)
theorem QN:E.func 70=some Tryz.f70:=ah
theorem QO:bO Tryz.f70 1=true:=ah
theorem Cm (s:ByteArray) {H:Hp} (y:Gd E G H):aD E G 70 [.string s] H [] (fun v H'=>∃(b:Bool),v=(.bool b)):=by
 obtain ⟨_,H1,c1,bN,y1,eD⟩:=Ji (H.n+0) ⟨#[97]⟩ s (y.news [.cells [.string ⟨#[97]⟩,.string s] 126 false]) (aB [.cells [.string ⟨#[97]⟩,.string s] 126 false] H 0 _ rfl) (by decide)
 rcases eD with ⟨v1,rfl⟩ |⟨v1,rfl⟩
 ·exact bA y [au 3,.call (.tuple #[v1,.nilIface]) H1 [],au 7] (.bool true) H1 QN QO (cF c1 aS) ⟨true,rfl⟩
 ·exact bA y [au 3,.call (.tuple #[v1,.iface 41 (iI 1)]) H1 [],au 7] (.bool false) H1 QN QO (cF c1 aS) ⟨false,rfl⟩
theorem Hj (s:ByteArray):∃(b:Bool),∀{H:Hp},Gd E G H→CC E 70 [.string s] H (.ret (.bool b)) H []:=by
 obtain ⟨_,_,c,_,_,b,rfl⟩:=Cm s eZ
 exact ⟨b,fun y=>aW (cq rfl) (.ground rfl) c y⟩
def dO (bs:List Int):List Value:=bs.map fun n=>.int .u8 n
def sR (bs:List Int):Prop:=∀ x∈bs,0≤x∧x<256
theorem qk {bs:List Int} (hb:sR bs) {i:Nat} (h:i<bs.length):∃ n,(dO bs)[i]?=some (.int .u8 n)∧0≤n∧n<256:=by
 obtain ⟨h0,h1⟩:=hb bs[i] (List.getElem_mem h)
 exact ⟨bs[i],by rw [dO,List.getElem?_map,bZ h];rfl,h0,h1⟩
theorem ye:∀ bs:List Int,∃ l:List UInt8,kZ (dO bs)=some l∧l.length=bs.length
 |[]=>⟨[],rfl,rfl⟩
 |x::bs=>by
  obtain ⟨l,h,hl⟩:=ye bs
  exact ⟨UInt8.ofNat x.toNat::l,by simp only [dO,List.map_cons,kZ];rw [show bs.map (fun n=>Value.int .u8 n)=dO bs from rfl,h],by simp [hl]⟩
theorem lF {t e sz b o n:Nat} (k:Nat) {l:Int} (hl:l=(k:Int)) (hu:E.ul t=some (.slice e)) (hs:E.size e=some sz) (hsz:sz=1) (hk:k≤n) :
  ∃ o',o'+(n-k)≤o+n∧ja E t (sc b o n (2*n+1)) (some (.int .i64 l)) none none=some (sc b o' (n-k) (2*(n-k)+1)):=by
 subst hl
 have e0:tB (2*n+1)=.known n:=by
  unfold tB
  rw [Fz (show (2*n+1)%2=1 by omega)]
  simp only [cond_true,show (2*n+1) / 2=n by omega]
 have d1:(decide ((0:Int)≤(k:Int))&&decide ((k:Int)≤(n:Int)))=true:=by
  rw [decide_eq_true aa,decide_eq_true aa];rfl
 have d2:(decide (n≤n))=true:=by simp
 by_cases h:n=k
 ·subst h
  refine ⟨o,by omega,?_⟩
  simp only [ja,sc,hu,hs,e0,mB,jv,upto,d1,cond_true,Option.isSome_none,Bool.false_and,cond_false,Int.toNat_natCast,Nat.beq_refl,Nat.ble_eq_true_of_le (Nat.le_refl n)]
 ·refine ⟨o+k,by omega,?_⟩
  simp only [ja,sc,hu,hs,e0,mB,jv,upto,d1,cond_true,Option.isSome_none,Bool.false_and,cond_false,Int.toNat_natCast,uT h,hsz,Nat.mul_one,Nat.ble_eq_true_of_le (Nat.le_refl n)]
theorem SL {t e sz b o n c:Nat} {l m:Int} (hl:l=(n:Int)) (hm:m=(n:Int)) (hc:c=2*sz) (hu:E.ul t=some (.slice e)) (hs:E.size e=some sz) (hn:0<n) :
  ja E t (sc b o n c) none (some (.int .i64 l)) (some (.int .i64 m))=some (sc b o n (2*n+1)):=by
 subst hl hm hc
 have e0:tB (2*sz)=.ZH sz:=by
  unfold tB
  rw [uT (show (2*sz)%2≠1 by omega)]
  simp only [cond_false,show (2*sz) / 2=sz by omega]
 have d1:(decide ((0:Int)≤(n:Int))&&decide ((n:Int)≤(n:Int)))=true:=by
  rw [decide_eq_true aa,decide_eq_true aa];rfl
 simp only [ja,sc,hu,hs,e0,mB,jv,upto,d1,cond_true,cond_false,Int.toNat_natCast,Nat.sub_zero]
 simp [uT (show n≠0 by omega),Nat.ble_eq_true_of_le (Nat.le_refl n)]
theorem Kk {s d e b o n c:Nat} {H:Hp} {bs:List Int} {ro:Bool} (hs:E.ul s=some (.slice e)) (hd:E.ul d=some .string) (he:E.ul e=some (.int .u8)) (hg:H.get b=some (.cells (dO bs) e ro)) (hn:o+n≤bs.length) :
  ∃ x:ByteArray,x.size=n∧qM E s d (sc b o n c) H=some (.string x,H,[],[b]):=by
 have hl:(dO bs).length=bs.length:=by simp [dO]
 have hr:row H b o n=some (dO ((bs.drop o).take n)):=by
  rw [LA hg (by rw [hl];exact hn)]
  simp only [dO,List.map_take,List.map_drop]
 obtain ⟨l,h1,h2⟩:=ye ((bs.drop o).take n)
 refine ⟨⟨l.toArray⟩,?_,?_⟩
 ·show l.toArray.size=n
  rw [List.size_toArray,h2,List.length_take,List.length_drop];omega
 ·simp only [qM,sc,hs,hd,he,hr,h1]
theorem sR.nil:sR []:=fun x hx=>by cases hx
theorem sR.snoc {bs:List Int} {c:Int} (h:sR bs) (h0:0≤c) (h1:c<256):sR (bs++[c]):=fun x hx=>by
 rcases List.mem_append.1 hx with h2 |h2
 ·exact h x h2
 ·simp only [List.mem_singleton] at h2;subst h2;exact ⟨h0,h1⟩
theorem PM (bs:List Int) (c:Int):((dO bs).drop 0).take (bs.length*1)++[Value.int .u8 c]=dO (bs++[c]):=by
 have hl:(dO bs).length=bs.length:=by simp [dO]
 rw [List.drop_zero,List.take_of_length_le aa]
 simp [dO]
theorem XP (bs:List Int):(dO bs).length=bs.length:=by simp [dO]
theorem HH (bs:List Int) (c:Int):(bs++[c]).length=bs.length+1:=by simp
theorem aA.nN {E:Env} {G H H1:Hp} {nt:Nat} {c:Code} {pre mid:List (Tmp×Value)} {V W V':List Nat} {Q:Ex→Tm→Hp→Prop} (y:Gd E G H) (h:CG E nt c (bw pre) H [] .normal (bw mid) H1 [] W) (hw:∀ q∈W,q∈V∨(H.n≤q∧q<H1.n)) (hv:∀ q∈V',q∈V∨(H.n≤q∧q<H1.n)) (k:aA E G nt c mid H1 V' Q):aA E G nt c pre H V Q:=by
 have h':=h.post (sU.refl _) hw
 obtain ⟨hx,wf,_⟩:=h' y.wf y.Zg
 obtain ⟨n,x,T,H',h1,h2,h3,h4⟩:=k
 have hn:=hx.n
 have hn':=h2.n
 have key:∀ q∈V++V',q∈V∨(H.n≤q∧q<H'.n):=fun q hq=>by
  rcases List.mem_append.1 hq with hq |hq
  ·exact .inl hq
  ·rcases hv q hq with hq |hq
   ·exact .inl hq
   ·exact .inr ⟨hq.1,by omega⟩
 refine ⟨n+1,x,T,H',(Ib.next h' h1).post (sU.refl _) key,⟨(hx.trans h2).n,fun i hi hn=>(hx.trans h2).keep i hi fun hm=>?_,(hx.trans h2).live,(hx.trans h2).dA⟩,h3,h4⟩
 rcases key i hm with h5 |h5
 ·exact hn h5
 ·omega
theorem Uo:E.func 154=some Tryz.f154:=ah
theorem Uq:bO Tryz.f154 1=true:=ah
theorem Et (b:Nat) (bs:List Int) (o:Nat) (n:Nat) {H:Hp} (y:Gd E G H) (kb:H.get b=some (.cells (dO bs) 5 false)) (AB:sR bs) (ho:o+n≤bs.length) (h8:8≤n):aD E G 154 [sc b o n (2*n+1)] H [] (fun v H'=>∃ w:Int,v=.int .u64 w):=by
 have w1:0≤(0:Int):=aa
 have w2:(0:Int)<((n:Nat):Int):=aa
 obtain ⟨nR,GW,XL,XM⟩:=qk AB (i:=o+(0:Int).toNat*1) aa
 have w3:aq E 5 b (o+(0:Int).toNat*1) H=some (uB nR):=bQ cG kb GW
 have w4:0≤(1:Int):=aa
 have w5:(1:Int)<((n:Nat):Int):=aa
 obtain ⟨yX,KL,ba2,bb2⟩:=qk AB (i:=o+(1:Int).toNat*1) aa
 have w6:aq E 5 b (o+(1:Int).toNat*1) H=some (uB yX):=bQ cG kb KL
 have w7:0≤(2:Int):=aa
 have w8:(2:Int)<((n:Nat):Int):=aa
 obtain ⟨EG,Rk,ba3,bb3⟩:=qk AB (i:=o+(2:Int).toNat*1) aa
 have w9:aq E 5 b (o+(2:Int).toNat*1) H=some (uB EG):=bQ cG kb Rk
 have jE:0≤(3:Int):=aa
 have xU:(3:Int)<((n:Nat):Int):=aa
 obtain ⟨F7,Rl,ba4,bb4⟩:=qk AB (i:=o+(3:Int).toNat*1) aa
 have zb:aq E 5 b (o+(3:Int).toNat*1) H=some (uB F7):=bQ cG kb Rl
 have EC:0≤(4:Int):=aa
 have NH:(4:Int)<((n:Nat):Int):=aa
 obtain ⟨TF,Yo,ba5,bb5⟩:=qk AB (i:=o+(4:Int).toNat*1) aa
 have ZJ:aq E 5 b (o+(4:Int).toNat*1) H=some (uB TF):=bQ cG kb Yo
 have ZK:0≤(5:Int):=aa
 have w17:(5:Int)<((n:Nat):Int):=aa
 obtain ⟨WJ,Yp,ba6,bb6⟩:=qk AB (i:=o+(5:Int).toNat*1) aa
 have w18:aq E 5 b (o+(5:Int).toNat*1) H=some (uB WJ):=bQ cG kb Yp
 have w19:0≤(6:Int):=aa
 have w20:(6:Int)<((n:Nat):Int):=aa
 obtain ⟨bv7,adC,ba7,bb7⟩:=qk AB (i:=o+(6:Int).toNat*1) aa
 have w21:aq E 5 b (o+(6:Int).toNat*1) H=some (uB bv7):=bQ cG kb adC
 have w22:0≤(7:Int):=aa
 have w23:(7:Int)<((n:Nat):Int):=aa
 obtain ⟨bv8,adD,ba8,bb8⟩:=qk AB (i:=o+(7:Int).toNat*1) aa
 have w24:aq E 5 b (o+(7:Int).toNat*1) H=some (uB bv8):=bQ cG kb adD
 exact bA y [au 1,.ck,vl (uB nR) H,au 1,.ck,vl (uB yX) H,au 3,.ck,vl (uB EG) H,au 3,.ck,vl (uB F7) H,au 3,.ck,vl (uB TF) H,au 3,.ck,vl (uB WJ) H,au 3,.ck,vl (uB bv7) H,au 3,.ck,vl (uB bv8) H,au 3] (uU (IntKind.u64.wrap ((BitVec.ofInt 64 (IntKind.u64.wrap ((BitVec.ofInt 64 (IntKind.u64.wrap ((BitVec.ofInt 64 (IntKind.u64.wrap ((BitVec.ofInt 64 (IntKind.u64.wrap ((BitVec.ofInt 64 (IntKind.u64.wrap ((BitVec.ofInt 64 (IntKind.u64.wrap ((BitVec.ofInt 64 (IntKind.u64.wrap nR) |||BitVec.ofInt 64 (IntKind.u64.wrap ((IntKind.u64.wrap yX)*2 ^ 8))).toNat:Int)) |||BitVec.ofInt 64 (IntKind.u64.wrap ((IntKind.u64.wrap EG)*2 ^ 16))).toNat:Int)) |||BitVec.ofInt 64 (IntKind.u64.wrap ((IntKind.u64.wrap F7)*2 ^ 24))).toNat:Int)) |||BitVec.ofInt 64 (IntKind.u64.wrap ((IntKind.u64.wrap TF)*2 ^ 32))).toNat:Int)) |||BitVec.ofInt 64 (IntKind.u64.wrap ((IntKind.u64.wrap WJ)*2 ^ 40))).toNat:Int)) |||BitVec.ofInt 64 (IntKind.u64.wrap ((IntKind.u64.wrap bv7)*2 ^ 48))).toNat:Int)) |||BitVec.ofInt 64 (IntKind.u64.wrap ((IntKind.u64.wrap bv8)*2 ^ 56))).toNat:Int))) H Uo Uq (aE ag ag w1 w2 ag w3 ag ag<|aE ag w4 w5 ag w6 ag ag ag<|aE ag ag w7 w8 ag w9 ag ag<|aE ag ag ag jE xU ag zb ag<|aE ag ag ag ag EC NH ag ZJ<|aE ag ag ag ag ag ZK w17 ag<|aE w18 ag ag ag ag ag w19 w20<|aE ag w21 ag ag ag ag ag w22<|aE w23 ag w24 ag ag ag ag ag aS) ⟨_,rfl⟩
noncomputable def TK:Code:=cz [1,1,0,0,0,1,0,1,0,1,0,1,0,1,0,1,1,0,1,0,0] (bH Tryz.f128)
noncomputable abbrev Dh vw (H1:Hp) (b:Nat) so2 (gT:Nat) En (H2:Hp) JI Eo (H3:Hp) so6 Pc (H4:Hp) (l_:List Hint):=au 1::aI::au 1::.call (uU vw) H1 []::au 0::vl (sc b so2 (gT-8) (2*(gT-8)+1)) H1::.call (uU En) H2 []::au 1::vl (sc b JI (gT-16) (2*(gT-16)+1)) H2::.call (uU Eo) H3 []::au 0::vl (sc b so6 (gT-24) (2*(gT-24)+1)) H3::.call (uU Pc) H4 []::au 2::l_
theorem XK (b:Nat) (bs:List Int) (n0:Nat):∀(m:Nat) (ru:Nat) (gT:Nat) (H:Hp),Gd E G H→(kb:H.get b=some (.cells (dO bs) 5 false))→(AB:sR bs)→(ho:ru+gT≤bs.length)→(hm0:gT≤n0)→gT=m→
  aA E G 188 TK [(0,sc b ru gT (2*gT+1))] H [] (fun x T H'=>(x=(.exit 2)∧∃(z_o:Nat) (WA:Nat),T=bw [(0,sc b z_o WA (2*WA+1))]∧(z_o+WA≤bs.length∧WA≤n0))):=by
 intro m
 induction m using Nat.strongRecOn with
 |_ m ih=>
 intro ru gT H y kb AB ho hm0 hm
 cases h1:(decide (((gT:Nat):Int)>32)) with
 |true=>
  have q1:=aL h1
  obtain ⟨_,H1,c1,bN,y1,vw,rfl⟩:=Et b bs ru gT y kb AB aa aa
  obtain ⟨so2,ahg,aaU⟩:=lF (b:=b) (o:=ru) (n:=gT) 8 (l:=8) rfl ez eg rfl aa
  have gN:=y.kept bN aH kb
  obtain ⟨_,H2,c2,dc,y2,En,rfl⟩:=Et b bs so2 (gT-8) y1 gN AB aa aa
  obtain ⟨JI,YD,IZ⟩:=lF (b:=b) (o:=ru) (n:=gT) 16 (l:=16) rfl ez eg rfl aa
  have wg:=y1.kept dc aH gN
  obtain ⟨_,H3,c3,gB,y3,Eo,rfl⟩:=Et b bs JI (gT-16) y2 wg AB aa aa
  obtain ⟨so6,ahj,aaW⟩:=lF (b:=b) (o:=ru) (n:=gT) 24 (l:=24) rfl ez eg rfl aa
  have Oo:=y2.kept gB aH wg
  obtain ⟨_,H4,c4,rj,y4,Pc,rfl⟩:=Et b bs so6 (gT-24) y3 Oo AB aa aa
  cases h2:((IntKind.u64.wrap ((BitVec.ofInt 64 (IntKind.u64.wrap ((BitVec.ofInt 64 (IntKind.u64.wrap ((BitVec.ofInt 64 vw |||BitVec.ofInt 64 En).toNat:Int)) |||BitVec.ofInt 64 (IntKind.u64.wrap ((BitVec.ofInt 64 Eo |||BitVec.ofInt 64 Pc).toNat:Int))).toNat:Int)) &&& BitVec.ofInt 64 9259542123273814144).toNat:Int))==0) with
  |true=>
   obtain ⟨so8,ahl,aeg⟩:=lF (b:=b) (o:=ru) (n:=gT) 32 (l:=32) rfl ez eg rfl aa
   have aer:=y3.kept rj aH Oo
   exact aA.next' y (bf (Dh vw H1 b so2 gT En H2 JI Eo H3 so6 Pc H4 [aI,au 1,vl (sc b so8 (gT-32) (2*(gT-32)+1)) H4,au 0]) [(0,sc b so8 (gT-32) (2*(gT-32)+1))] .normal H4 [] (fun _ r_=>aE ag ag ag h1 ag ag ag c1<|aE ag ag aaU ag c2 ag ag ag<|aE IZ ag c3 ag ag aaW ag c4<|aE ag ag ag ag h2 ag ag aeg r_)) aM (ih _ aa so8 (gT-32) _ y4 aer AB aa aa rfl)
  |false=>
   exact aA.last' y (bf (Dh vw H1 b so2 gT En H2 JI Eo H3 so6 Pc H4 [aF,au 0]) [(0,sc b ru gT (2*gT+1))] (.exit 2) H4 [] (fun _ r_=>aE ag ag ag h1 ag ag ag c1<|aE ag ag aaU ag c2 ag ag ag<|aE IZ ag c3 ag ag aaW ag c4<|fk ag ag ag ag h2 ag ag r_)) aj aM aM ⟨rfl,ru,gT,rfl,⟨by omega,by omega⟩⟩
 |false=>
  exact aA.last' y (bf [au 1,aF,au 1] [(0,sc b ru gT (2*gT+1))] (.exit 2) H [] (fun _ r_=>fk ag ag ag h1 ag ag ag r_)) aj aM aM ⟨rfl,ru,gT,rfl,⟨by omega,by omega⟩⟩
noncomputable def qN:Code:=cz [1,1,0,0,0,1,0,1,0] (bH Tryz.f128)
noncomputable abbrev wW (b:Nat) OZ (n:Nat) (H:Hp) vw (H1:Hp) Pw (l_:List Hint):=au 0::aI::au 0::vl (sc b OZ (n-1) (2*(n-1)+1)) H::au 2::aI::au 1::.call (uU vw) H1 []::au 0::aI::au 1::vl (sc b Pw ((n-1)-8) (2*((n-1)-8)+1)) H1::au 2::l_
theorem r8 (b:Nat) (bs:List Int) (o:Nat) (n:Nat) (c:Int)  {H:Hp} (y:Gd E G H) (kb:H.get b=some (.cells (dO bs) 5 false)) (AB:sR bs) (ho:o+n≤bs.length) (hn:0<n) :
  bt E G 188 qN [(0,sc b o n (2*n+1)),(3,uB c)] H [] (fun x T H'=>(x=.normal∧T=bw [(0,sc b o n (2*n+1)),(3,uB c)])∨(x=(.exit 1)∧∃(z_o:Nat) (WA:Nat),T=bw [(0,sc b z_o WA (2*WA+1))]∧(z_o+WA≤bs.length∧WA<n))):=by
 cases h1:(decide (c<128)) with
 |true=>
  obtain ⟨OZ,ahf,Rv⟩:=lF (b:=b) (o:=o) (n:=n) 1 (l:=1) rfl ez eg rfl aa
  cases h2:(decide (((n-1:Nat):Int)>8)) with
  |true=>
   have q2:=aL h2
   obtain ⟨_,H1,c1,bN,y1,vw,rfl⟩:=Et b bs OZ (n-1) y kb AB aa aa
   cases h3:((IntKind.u64.wrap ((BitVec.ofInt 64 vw &&& BitVec.ofInt 64 9259542123273814144).toNat:Int))==0) with
   |true=>
    obtain ⟨Pw,ahh,YC⟩:=lF (b:=b) (o:=OZ) (n:=(n-1)) 8 (l:=8) rfl ez eg rfl aa
    cases h4:(decide ((((n-1)-8:Nat):Int)>16)) with
    |true=>
     have q4:=aL h4
     have gN:=y.kept bN aH kb
     obtain ⟨_,H2,c2,dc,y2,En,rfl⟩:=Et b bs Pw ((n-1)-8) y1 gN AB aa aa
     obtain ⟨so5,ahi,aaV⟩:=lF (b:=b) (o:=Pw) (n:=((n-1)-8)) 8 (l:=8) rfl ez eg rfl aa
     have wg:=y1.kept dc aH gN
     obtain ⟨_,H3,c3,gB,y3,Eo,rfl⟩:=Et b bs so5 (((n-1)-8)-8) y2 wg AB aa aa
     cases h5:((IntKind.u64.wrap ((BitVec.ofInt 64 (IntKind.u64.wrap ((BitVec.ofInt 64 En |||BitVec.ofInt 64 Eo).toNat:Int)) &&& BitVec.ofInt 64 9259542123273814144).toNat:Int))==0) with
     |true=>
      obtain ⟨so7,ahk,aef⟩:=lF (b:=b) (o:=Pw) (n:=((n-1)-8)) 16 (l:=16) rfl ez eg rfl aa
      have Oo:=y2.kept gB aH wg
      obtain ⟨_,_,H4,c4,rj,y4,rfl,Th,JU,rfl,vu,OV⟩:=(XK b bs (((n-1)-8)-16) _ so7 (((n-1)-8)-16) _ y3 Oo AB aa (Nat.le_refl _) rfl).code
      exact bt.mk y (bf (wW b OZ n H vw H1 Pw [aI,au 1,.call (uU En) H2 [],au 0,vl (sc b so5 (((n-1)-8)-8) (2*(((n-1)-8)-8)+1)) H2,.call (uU Eo) H3 [],au 1,aI,au 1,vl (sc b so7 (((n-1)-8)-16) (2*(((n-1)-8)-16)+1)) H3,au 0,.loop [0] (.exit 2) (bw [(0,sc b Th JU (2*JU+1))]) H4 []]) [(0,sc b Th JU (2*JU+1))] (.exit 1) H4 [] (fun _ r_=>aE h1 Rv h2 c1 h3 YC ag ag<|aE ag h4 ag ag ag c2 ag ag<|aE aaV ag c3 ag ag ag h5 ag<|eY ag aef c4 r_)) aM aM (.inr (⟨rfl,Th,JU,rfl,⟨by omega,by omega⟩⟩))
     |false=>
      have q5:=bK h5
      exact bt.mk y (bf (wW b OZ n H vw H1 Pw [aI,au 1,.call (uU En) H2 [],au 0,vl (sc b so5 (((n-1)-8)-8) (2*(((n-1)-8)-8)+1)) H2,.call (uU Eo) H3 [],au 1,aF,au 0]) [(0,sc b Pw ((n-1)-8) (2*((n-1)-8)+1))] (.exit 1) H3 [] (fun _ r_=>aE h1 Rv h2 c1 h3 YC ag ag<|aE ag h4 ag ag ag c2 ag ag<|aE aaV ag c3 ag ag ag h5 ag<|cF ag r_)) aM aM (.inr (⟨rfl,Pw,(n-1)-8,rfl,⟨by omega,by omega⟩⟩))
    |false=>
     exact bt.mk y (bf (wW b OZ n H vw H1 Pw [aF,au 1]) [(0,sc b Pw ((n-1)-8) (2*((n-1)-8)+1))] (.exit 1) H1 [] (fun _ r_=>aE h1 Rv h2 c1 h3 YC ag ag<|eM ag h4 ag ag ag r_)) aM aM (.inr (⟨rfl,Pw,(n-1)-8,rfl,⟨by omega,by omega⟩⟩))
   |false=>
    have q3:=bK h3
    exact bt.mk y (bf [au 0,aI,au 0,vl (sc b OZ (n-1) (2*(n-1)+1)) H,au 2,aI,au 1,.call (uU vw) H1 [],au 0,aF,au 0] [(0,sc b OZ (n-1) (2*(n-1)+1))] (.exit 1) H1 [] (fun _ r_=>eM h1 Rv h2 c1 h3 r_)) aM aM (.inr (⟨rfl,OZ,n-1,rfl,⟨by omega,by omega⟩⟩))
  |false=>
   exact bt.mk y (bf [au 0,aI,au 0,vl (sc b OZ (n-1) (2*(n-1)+1)) H,au 2,aF,au 1] [(0,sc b OZ (n-1) (2*(n-1)+1))] (.exit 1) H [] (fun _ r_=>eY h1 Rv h2 r_)) aM aM (.inr (⟨rfl,OZ,n-1,rfl,⟨by omega,by omega⟩⟩))
 |false=>
  exact bt.mk y (bf [au 0,aF] [(0,sc b o n (2*n+1)),(3,uB c)] .normal H [] (fun _ r_=>cF h1 r_)) aM aM (.inl (⟨rfl,rfl⟩))
noncomputable def iF:Code:=cz [1,1,0,0,0,1,0,1,1,1,1,1,1,0,1,0,0,0] (bH Tryz.f128)
theorem iV (b:Nat) (bs:List Int) (o:Nat) (n:Nat) (q:Nat) (lo:Int) (hi:Int)  {H:Hp} (y:Gd E G H) (kb:H.get b=some (.cells (dO bs) 5 false)) (kq:H.get q=some (.cells [uB lo,uB hi] 224 false)) (AB:sR bs) (ho:o+n≤bs.length) (hn:0<n) :
  bt E G 188 iF [(0,sc b o n (2*n+1)),(6,pt q 0)] H [] (fun x T H'=>(x=.normal∧T=bw [(0,sc b o n (2*n+1)),(103,.bool true)])∨(x=.normal∧T=bw [(0,sc b o n (2*n+1)),(103,.bool false)]∧(2≤n))):=by
 cases h1:(decide (((n:Nat):Int)<2)) with
 |true=>
  exact bt.mk y (bf [au 1,aI,au 3] [(0,sc b o n (2*n+1)),(103,.bool true)] .normal H [] (fun _ r_=>aE ag ag ag h1 ag ag ag ag<|cF ag r_)) aM aM (.inl (⟨rfl,rfl⟩))
 |false=>
  have q1:=aQ h1
  have w1:0≤(1:Int):=aa
  have w2:(1:Int)<((n:Nat):Int):=aa
  obtain ⟨nR,GW,XL,XM⟩:=qk AB (i:=o+(1:Int).toNat*1) aa
  have w3:aq E 5 b (o+(1:Int).toNat*1) H=some (uB nR):=bQ cG kb GW
  have w4:aq E 5 q 0 H=some (uB lo):=bQ cG kq rfl
  cases h2:(decide (nR<lo)) with
  |true=>
   exact bt.mk y (bf [au 1,aF,au 1,.ck,vl (uB nR) H,au 0,vl (uB lo) H,aI,au 2] [(0,sc b o n (2*n+1)),(103,.bool true)] .normal H [] (fun _ r_=>aE ag ag ag h1 ag ag ag w1<|aE w2 ag w3 ag ag w4 ag h2<|gm ag ag ag ag r_)) aM aM (.inl (⟨rfl,rfl⟩))
  |false=>
   have w5:aq E 5 q 1 H=some (uB hi):=bQ cG kq rfl
   obtain ⟨yX,KL,ba2,bb2⟩:=qk AB (i:=o+(1:Int).toNat*1) aa
   have w6:aq E 5 b (o+(1:Int).toNat*1) H=some (uB yX):=bQ cG kb KL
   cases h3:(decide (hi<yX)) with
   |true=>
    exact bt.mk y (bf [au 1,aF,au 1,.ck,vl (uB nR) H,au 0,vl (uB lo) H,aF,au 2,vl (uB hi) H,au 0,.ck,vl (uB yX) H,aI,au 0] [(0,sc b o n (2*n+1)),(103,.bool true)] .normal H [] (fun _ r_=>aE ag ag ag h1 ag ag ag w1<|aE w2 ag w3 ag ag w4 ag h2<|aE ag ag ag ag w5 ag ag w1<|fk w2 ag w6 ag h3 ag ag r_)) aM aM (.inl (⟨rfl,rfl⟩))
   |false=>
    exact bt.mk y (bf [au 1,aF,au 1,.ck,vl (uB nR) H,au 0,vl (uB lo) H,aF,au 2,vl (uB hi) H,au 0,.ck,vl (uB yX) H,aF,au 0] [(0,sc b o n (2*n+1)),(103,.bool false)] .normal H [] (fun _ r_=>aE ag ag ag h1 ag ag ag w1<|aE w2 ag w3 ag ag w4 ag h2<|aE ag ag ag ag w5 ag ag w1<|fk w2 ag w6 ag h3 ag ag r_)) aM aM (.inr (⟨rfl,rfl,aa⟩))
noncomputable def gV:Code:=cz [1,1,0,0,0,1,0,1,1,1,1,1,1,0,1,1,1,0,0,0] (bH Tryz.f128)
noncomputable abbrev Di nR (H:Hp) (lo:Int) (hi:Int) yX EG F7 (l_:List Hint):=au 1::aF::au 1::.ck::vl (uB nR) H::au 0::vl (uB lo) H::aF::au 2::vl (uB hi) H::au 0::.ck::vl (uB yX) H::aF::au 2::.ck::vl (uB EG) H::aF::au 2::.ck::vl (uB F7) H::l_
theorem hJ (b:Nat) (bs:List Int) (o:Nat) (n:Nat) (q:Nat) (lo:Int) (hi:Int)  {H:Hp} (y:Gd E G H) (kb:H.get b=some (.cells (dO bs) 5 false)) (kq:H.get q=some (.cells [uB lo,uB hi] 224 false)) (AB:sR bs) (ho:o+n≤bs.length) (hn:0<n) :
  bt E G 188 gV [(0,sc b o n (2*n+1)),(6,pt q 0)] H [] (fun x T H'=>(x=.normal∧T=bw [(0,sc b o n (2*n+1)),(138,.bool true)])∨(x=.normal∧T=bw [(0,sc b o n (2*n+1)),(138,.bool false)]∧(3≤n))):=by
 cases h1:(decide (((n:Nat):Int)<3)) with
 |true=>
  exact bt.mk y (bf [au 1,aI,au 7] [(0,sc b o n (2*n+1)),(138,.bool true)] .normal H [] (fun _ r_=>aE ag ag ag h1 ag ag ag ag<|eM ag ag ag ag ag r_)) aM aM (.inl (⟨rfl,rfl⟩))
 |false=>
  have q1:=aQ h1
  have w1:0≤(1:Int):=aa
  have w2:(1:Int)<((n:Nat):Int):=aa
  obtain ⟨nR,GW,XL,XM⟩:=qk AB (i:=o+(1:Int).toNat*1) aa
  have w3:aq E 5 b (o+(1:Int).toNat*1) H=some (uB nR):=bQ cG kb GW
  have w4:aq E 5 q 0 H=some (uB lo):=bQ cG kq rfl
  cases h2:(decide (nR<lo)) with
  |true=>
   exact bt.mk y (bf [au 1,aF,au 1,.ck,vl (uB nR) H,au 0,vl (uB lo) H,aI,au 6] [(0,sc b o n (2*n+1)),(138,.bool true)] .normal H [] (fun _ r_=>aE ag ag ag h1 ag ag ag w1<|aE w2 ag w3 ag ag w4 ag h2<|aE ag ag ag ag ag ag ag ag r_)) aM aM (.inl (⟨rfl,rfl⟩))
  |false=>
   have w5:aq E 5 q 1 H=some (uB hi):=bQ cG kq rfl
   obtain ⟨yX,KL,ba2,bb2⟩:=qk AB (i:=o+(1:Int).toNat*1) aa
   have w6:aq E 5 b (o+(1:Int).toNat*1) H=some (uB yX):=bQ cG kb KL
   cases h3:(decide (hi<yX)) with
   |true=>
    exact bt.mk y (bf [au 1,aF,au 1,.ck,vl (uB nR) H,au 0,vl (uB lo) H,aF,au 2,vl (uB hi) H,au 0,.ck,vl (uB yX) H,aI,au 4] [(0,sc b o n (2*n+1)),(138,.bool true)] .normal H [] (fun _ r_=>aE ag ag ag h1 ag ag ag w1<|aE w2 ag w3 ag ag w4 ag h2<|aE ag ag ag ag w5 ag ag w1<|aE w2 ag w6 ag h3 ag ag ag<|eY ag ag ag r_)) aM aM (.inl (⟨rfl,rfl⟩))
   |false=>
    have w7:0≤(2:Int):=aa
    have w8:(2:Int)<((n:Nat):Int):=aa
    obtain ⟨EG,Rk,ba3,bb3⟩:=qk AB (i:=o+(2:Int).toNat*1) aa
    have w9:aq E 5 b (o+(2:Int).toNat*1) H=some (uB EG):=bQ cG kb Rk
    cases h4:(decide (EG<128)) with
    |true=>
     exact bt.mk y (bf [au 1,aF,au 1,.ck,vl (uB nR) H,au 0,vl (uB lo) H,aF,au 2,vl (uB hi) H,au 0,.ck,vl (uB yX) H,aF,au 2,.ck,vl (uB EG) H,aI,au 2] [(0,sc b o n (2*n+1)),(138,.bool true)] .normal H [] (fun _ r_=>aE ag ag ag h1 ag ag ag w1<|aE w2 ag w3 ag ag w4 ag h2<|aE ag ag ag ag w5 ag ag w1<|aE w2 ag w6 ag h3 ag ag ag<|aE ag w7 w8 ag w9 ag h4 ag<|eY ag ag ag r_)) aM aM (.inl (⟨rfl,rfl⟩))
    |false=>
     obtain ⟨F7,Rl,ba4,bb4⟩:=qk AB (i:=o+(2:Int).toNat*1) aa
     have jE:aq E 5 b (o+(2:Int).toNat*1) H=some (uB F7):=bQ cG kb Rl
     cases h5:(decide (191<F7)) with
     |true=>
      exact bt.mk y (bf (Di nR H lo hi yX EG F7 [aI,au 0]) [(0,sc b o n (2*n+1)),(138,.bool true)] .normal H [] (fun _ r_=>aE ag ag ag h1 ag ag ag w1<|aE w2 ag w3 ag ag w4 ag h2<|aE ag ag ag ag w5 ag ag w1<|aE w2 ag w6 ag h3 ag ag ag<|aE ag w7 w8 ag w9 ag h4 ag<|aE ag ag ag w7 w8 ag jE ag<|eY h5 ag ag r_)) aM aM (.inl (⟨rfl,rfl⟩))
     |false=>
      exact bt.mk y (bf (Di nR H lo hi yX EG F7 [aF,au 0]) [(0,sc b o n (2*n+1)),(138,.bool false)] .normal H [] (fun _ r_=>aE ag ag ag h1 ag ag ag w1<|aE w2 ag w3 ag ag w4 ag h2<|aE ag ag ag ag w5 ag ag w1<|aE w2 ag w6 ag h3 ag ag ag<|aE ag w7 w8 ag w9 ag h4 ag<|aE ag ag ag w7 w8 ag jE ag<|eY h5 ag ag r_)) aM aM (.inr (⟨rfl,rfl,aa⟩))
noncomputable def gx:Code:=cz [1,1,0,0,0,1,0,1,1,1,1,1,1,0,1,1,1,1,1,0,0,0] (bH Tryz.f128)
noncomputable abbrev sA nR (H:Hp) (lo:Int) (hi:Int) yX EG F7 (l_:List Hint):=au 1::aF::au 1::.ck::vl (uB nR) H::au 0::vl (uB lo) H::aF::au 2::vl (uB hi) H::au 0::.ck::vl (uB yX) H::aF::au 2::.ck::vl (uB EG) H::aF::au 2::.ck::vl (uB F7) H::l_
theorem gA (b:Nat) (bs:List Int) (o:Nat) (n:Nat) (q:Nat) (lo:Int) (hi:Int)  {H:Hp} (y:Gd E G H) (kb:H.get b=some (.cells (dO bs) 5 false)) (kq:H.get q=some (.cells [uB lo,uB hi] 224 false)) (AB:sR bs) (ho:o+n≤bs.length) (hn:0<n) :
  bt E G 188 gx [(0,sc b o n (2*n+1)),(6,pt q 0)] H [] (fun x T H'=>(x=.normal∧T=bw [(0,sc b o n (2*n+1)),(185,.bool true)])∨(x=.normal∧T=bw [(0,sc b o n (2*n+1)),(185,.bool false)]∧(4≤n))):=by
 cases h1:(decide (((n:Nat):Int)<4)) with
 |true=>
  exact bt.mk y (bf [au 1,aI,au 11] [(0,sc b o n (2*n+1)),(185,.bool true)] .normal H [] (fun _ r_=>aE ag ag ag h1 ag ag ag ag<|aE ag ag ag ag ag ag ag ag<|cF ag r_)) aM aM (.inl (⟨rfl,rfl⟩))
 |false=>
  have q1:=aQ h1
  have w1:0≤(1:Int):=aa
  have w2:(1:Int)<((n:Nat):Int):=aa
  obtain ⟨nR,GW,XL,XM⟩:=qk AB (i:=o+(1:Int).toNat*1) aa
  have w3:aq E 5 b (o+(1:Int).toNat*1) H=some (uB nR):=bQ cG kb GW
  have w4:aq E 5 q 0 H=some (uB lo):=bQ cG kq rfl
  cases h2:(decide (nR<lo)) with
  |true=>
   exact bt.mk y (bf [au 1,aF,au 1,.ck,vl (uB nR) H,au 0,vl (uB lo) H,aI,au 10] [(0,sc b o n (2*n+1)),(185,.bool true)] .normal H [] (fun _ r_=>aE ag ag ag h1 ag ag ag w1<|aE w2 ag w3 ag ag w4 ag h2<|aE ag ag ag ag ag ag ag ag<|gm ag ag ag ag r_)) aM aM (.inl (⟨rfl,rfl⟩))
  |false=>
   have w5:aq E 5 q 1 H=some (uB hi):=bQ cG kq rfl
   obtain ⟨yX,KL,ba2,bb2⟩:=qk AB (i:=o+(1:Int).toNat*1) aa
   have w6:aq E 5 b (o+(1:Int).toNat*1) H=some (uB yX):=bQ cG kb KL
   cases h3:(decide (hi<yX)) with
   |true=>
    exact bt.mk y (bf [au 1,aF,au 1,.ck,vl (uB nR) H,au 0,vl (uB lo) H,aF,au 2,vl (uB hi) H,au 0,.ck,vl (uB yX) H,aI,au 8] [(0,sc b o n (2*n+1)),(185,.bool true)] .normal H [] (fun _ r_=>aE ag ag ag h1 ag ag ag w1<|aE w2 ag w3 ag ag w4 ag h2<|aE ag ag ag ag w5 ag ag w1<|aE w2 ag w6 ag h3 ag ag ag<|fk ag ag ag ag ag ag ag r_)) aM aM (.inl (⟨rfl,rfl⟩))
   |false=>
    have w7:0≤(2:Int):=aa
    have w8:(2:Int)<((n:Nat):Int):=aa
    obtain ⟨EG,Rk,ba3,bb3⟩:=qk AB (i:=o+(2:Int).toNat*1) aa
    have w9:aq E 5 b (o+(2:Int).toNat*1) H=some (uB EG):=bQ cG kb Rk
    cases h4:(decide (EG<128)) with
    |true=>
     exact bt.mk y (bf [au 1,aF,au 1,.ck,vl (uB nR) H,au 0,vl (uB lo) H,aF,au 2,vl (uB hi) H,au 0,.ck,vl (uB yX) H,aF,au 2,.ck,vl (uB EG) H,aI,au 6] [(0,sc b o n (2*n+1)),(185,.bool true)] .normal H [] (fun _ r_=>aE ag ag ag h1 ag ag ag w1<|aE w2 ag w3 ag ag w4 ag h2<|aE ag ag ag ag w5 ag ag w1<|aE w2 ag w6 ag h3 ag ag ag<|aE ag w7 w8 ag w9 ag h4 ag<|fk ag ag ag ag ag ag ag r_)) aM aM (.inl (⟨rfl,rfl⟩))
    |false=>
     obtain ⟨F7,Rl,ba4,bb4⟩:=qk AB (i:=o+(2:Int).toNat*1) aa
     have jE:aq E 5 b (o+(2:Int).toNat*1) H=some (uB F7):=bQ cG kb Rl
     cases h5:(decide (191<F7)) with
     |true=>
      exact bt.mk y (bf (sA nR H lo hi yX EG F7 [aI,au 4]) [(0,sc b o n (2*n+1)),(185,.bool true)] .normal H [] (fun _ r_=>aE ag ag ag h1 ag ag ag w1<|aE w2 ag w3 ag ag w4 ag h2<|aE ag ag ag ag w5 ag ag w1<|aE w2 ag w6 ag h3 ag ag ag<|aE ag w7 w8 ag w9 ag h4 ag<|aE ag ag ag w7 w8 ag jE ag<|fk h5 ag ag ag ag ag ag r_)) aM aM (.inl (⟨rfl,rfl⟩))
     |false=>
      have xU:0≤(3:Int):=aa
      have zb:(3:Int)<((n:Nat):Int):=aa
      obtain ⟨TF,Yo,ba5,bb5⟩:=qk AB (i:=o+(3:Int).toNat*1) aa
      have EC:aq E 5 b (o+(3:Int).toNat*1) H=some (uB TF):=bQ cG kb Yo
      cases h6:(decide (TF<128)) with
      |true=>
       exact bt.mk y (bf (sA nR H lo hi yX EG F7 [aF,au 2,.ck,vl (uB TF) H,aI,au 2]) [(0,sc b o n (2*n+1)),(185,.bool true)] .normal H [] (fun _ r_=>aE ag ag ag h1 ag ag ag w1<|aE w2 ag w3 ag ag w4 ag h2<|aE ag ag ag ag w5 ag ag w1<|aE w2 ag w6 ag h3 ag ag ag<|aE ag w7 w8 ag w9 ag h4 ag<|aE ag ag ag w7 w8 ag jE ag<|aE h5 ag ag ag ag xU zb ag<|fk EC ag h6 ag ag ag ag r_)) aM aM (.inl (⟨rfl,rfl⟩))
      |false=>
       obtain ⟨WJ,Yp,ba6,bb6⟩:=qk AB (i:=o+(3:Int).toNat*1) aa
       have NH:aq E 5 b (o+(3:Int).toNat*1) H=some (uB WJ):=bQ cG kb Yp
       cases h7:(decide (191<WJ)) with
       |true=>
        exact bt.mk y (bf (sA nR H lo hi yX EG F7 [aF,au 2,.ck,vl (uB TF) H,aF,au 2,.ck,vl (uB WJ) H,aI,au 0]) [(0,sc b o n (2*n+1)),(185,.bool true)] .normal H [] (fun _ r_=>aE ag ag ag h1 ag ag ag w1<|aE w2 ag w3 ag ag w4 ag h2<|aE ag ag ag ag w5 ag ag w1<|aE w2 ag w6 ag h3 ag ag ag<|aE ag w7 w8 ag w9 ag h4 ag<|aE ag ag ag w7 w8 ag jE ag<|aE h5 ag ag ag ag xU zb ag<|aE EC ag h6 ag ag ag ag xU<|fk zb ag NH ag h7 ag ag r_)) aM aM (.inl (⟨rfl,rfl⟩))
       |false=>
        exact bt.mk y (bf (sA nR H lo hi yX EG F7 [aF,au 2,.ck,vl (uB TF) H,aF,au 2,.ck,vl (uB WJ) H,aF,au 0]) [(0,sc b o n (2*n+1)),(185,.bool false)] .normal H [] (fun _ r_=>aE ag ag ag h1 ag ag ag w1<|aE w2 ag w3 ag ag w4 ag h2<|aE ag ag ag ag w5 ag ag w1<|aE w2 ag w6 ag h3 ag ag ag<|aE ag w7 w8 ag w9 ag h4 ag<|aE ag ag ag w7 w8 ag jE ag<|aE h5 ag ag ag ag xU zb ag<|aE EC ag h6 ag ag ag ag xU<|fk zb ag NH ag h7 ag ag r_)) aM aM (.inr (⟨rfl,rfl,aa⟩))
noncomputable def aas:Code:=cz [1,1,0,0,0] (bH Tryz.f128)
noncomputable abbrev iB H1 o5 o4:=news H1 [.cells [uB o5,uB o4] 224 false]
noncomputable abbrev kr H1:=news H1 [.cells [uB 0,uB 0] 224 false]
noncomputable abbrev kI nR (H:Hp) (b:Nat) (ru:Nat) (gT:Nat) (H1:Hp) IP o5 o4 (l_:List Hint):=au 1::aI::au 0::.ck::vl (uB nR) H::au 0::.piece 1 [0,3] .normal (bw [(0,sc b ru gT (2*gT+1)),(3,uB nR)]) H1 []::au 0::.ck::vl (uB IP) H1::au 6::.ck::vl (.agg #[uB o5,uB o4]) H1::au 0::vl bJ (iB H1 o5 o4)::au 0::l_
theorem ac9 (b:Nat) (bs:List Int):∀(m:Nat) (ru:Nat) (gT:Nat) (H:Hp),Gd E G H→(kb:H.get b=some (.cells (dO bs) 5 false))→(AB:sR bs)→(ho:ru+gT≤bs.length)→gT=m→
  aA E G 188 aas [(0,sc b ru gT (2*gT+1))] H [] (fun x T H'=>(x=(.exit 0)∧T=bw [])∨(x=.ret∧∃(z2:Bool),T=bw [(2,.bool z2)])):=by
 intro m
 induction m using Nat.strongRecOn with
 |_ m ih=>
 intro ru gT H y kb AB ho hm
 cases h1:(decide (((gT:Nat):Int)>0)) with
 |true=>
  have q1:=aL h1
  have w1:0≤(0:Int):=aa
  have w2:(0:Int)<((gT:Nat):Int):=aa
  obtain ⟨nR,GW,XL,XM⟩:=qk AB (i:=ru+(0:Int).toNat*1) aa
  have w3:aq E 5 b (ru+(0:Int).toNat*1) H=some (uB nR):=bQ cG kb GW
  obtain ⟨_,_,H1,c1,bN,y1,eD⟩:=r8 b bs ru gT nR y kb AB aa aa
  rcases eD with ⟨rfl,rfl⟩ |⟨rfl,Tg,JT,rfl,cw,iX⟩
  ·have jq:H.n+0≤H1.n:=bN.n
   have w4:0≤nR:=aa
   have w5:nR<(256:Int):=aa
   obtain ⟨IP,adM,fa2,fb2⟩:=Fj (c:=nR) XL XM
   have fs2:=ab1 fa2 fb2
   have YV:=y.kept bN aH (G_5 y)
   have w6:aq E 5 5 (0+nR.toNat*1) H1=some (uB IP):=bQ cG YV adM
   have w7:0≤(Int.fdiv IP (2 ^ 4)):=aa
   have w8:(Int.fdiv IP (2 ^ 4))<(16:Int):=aa
   obtain ⟨o5,o4,adx⟩:=Bx (k:=(Int.fdiv IP (2 ^ 4))) aa aa
   have YW:=y.kept bN aH (G_6 y)
   have w9:aq E 224 6 (0+(Int.fdiv IP (2 ^ 4)).toNat*2) H1=some (.agg #[uB o5,uB o4]):=o7 E6 eB YW (E5 aa) adx
   cases h3:((IntKind.i64.wrap (IntKind.u8.wrap ((BitVec.ofInt 8 IP &&& BitVec.ofInt 8 7).toNat:Int)))==2) with
   |true=>
    have gN:=y.kept bN aH kb
    obtain ⟨_,_,H2,c2,dc,y2,oP⟩:=iV b bs ru gT (H1.n+0) o5 o4 (y1.news [.cells [uB o5,uB o4] 224 false]) (y1.old gN [.cells [uB o5,uB o4] 224 false]) (aB [.cells [uB o5,uB o4] 224 false] H1 0 _ rfl) AB aa aa
    rcases oP with ⟨rfl,rfl⟩ |⟨rfl,rfl,JE⟩
    ·have jI:H1.n+1≤H2.n:=by have h:=dc.n;rw [bF] at h;exact h
     exact aA.last' y (bf (kI nR H b ru gT H1 IP o5 o4 [aI,au 0,.piece 3 [0,6] .normal (bw [(0,sc b ru gT (2*gT+1)),(103,.bool true)]) H2 [],au 0]) [(2,.bool false)] .ret H2 [H1.n+0] (fun _ r_=>aE h1 w1 w2 w3 c1 w4 w5 w6<|fG w7 w8 w9 (show az E 224 (H1.n+0) 0 (.agg #[uB o5,uB o4]) (kr H1)=some (iB H1 o5 o4) from cN eB rfl rfl rfl rfl) h3 c2 r_)) aj aG aM (.inr (⟨rfl,false,rfl⟩))
    ·have jI:H1.n+1≤H2.n:=by have h:=dc.n;rw [bF] at h;exact h
     obtain ⟨JI,YD,IZ⟩:=lF (b:=b) (o:=ru) (n:=gT) 2 (l:=2) rfl ez eg rfl aa
     have wg:=(y1.news [.cells [uB o5,uB o4] 224 false]).kept dc aH (y1.old gN [.cells [uB o5,uB o4] 224 false])
     exact aA.next' y (bf (kI nR H b ru gT H1 IP o5 o4 [aI,au 0,.piece 3 [0,6] .normal (bw [(0,sc b ru gT (2*gT+1)),(103,.bool false)]) H2 [],au 0,vl (sc b JI (gT-2) (2*(gT-2)+1)) H2,au 0]) [(0,sc b JI (gT-2) (2*(gT-2)+1))] .normal H2 [H1.n+0] (fun _ r_=>aE h1 w1 w2 w3 c1 w4 w5 w6<|fk w7 w8 w9 (show az E 224 (H1.n+0) 0 (.agg #[uB o5,uB o4]) (kr H1)=some (iB H1 o5 o4) from cN eB rfl rfl rfl rfl) h3 c2 IZ r_)) aG (ih _ aa JI (gT-2) _ y2 wg AB aa rfl)
   |false=>
    cases h4:((IntKind.i64.wrap (IntKind.u8.wrap ((BitVec.ofInt 8 IP &&& BitVec.ofInt 8 7).toNat:Int)))==3) with
    |true=>
     have gN:=y.kept bN aH kb
     obtain ⟨_,_,H2,c2,dc,y2,oP⟩:=hJ b bs ru gT (H1.n+0) o5 o4 (y1.news [.cells [uB o5,uB o4] 224 false]) (y1.old gN [.cells [uB o5,uB o4] 224 false]) (aB [.cells [uB o5,uB o4] 224 false] H1 0 _ rfl) AB aa aa
     rcases oP with ⟨rfl,rfl⟩ |⟨rfl,rfl,JE⟩
     ·have jI:H1.n+1≤H2.n:=by have h:=dc.n;rw [bF] at h;exact h
      exact aA.last' y (bf (kI nR H b ru gT H1 IP o5 o4 [aF,au 0,aI,au 0,.piece 3 [0,6] .normal (bw [(0,sc b ru gT (2*gT+1)),(138,.bool true)]) H2 [],au 0]) [(2,.bool false)] .ret H2 [H1.n+0] (fun _ r_=>aE h1 w1 w2 w3 c1 w4 w5 w6<|fk w7 w8 w9 (show az E 224 (H1.n+0) 0 (.agg #[uB o5,uB o4]) (kr H1)=some (iB H1 o5 o4) from cN eB rfl rfl rfl rfl) h3 h4 c2 r_)) aj aG aM (.inr (⟨rfl,false,rfl⟩))
     ·have jI:H1.n+1≤H2.n:=by have h:=dc.n;rw [bF] at h;exact h
      obtain ⟨JI,YD,IZ⟩:=lF (b:=b) (o:=ru) (n:=gT) 3 (l:=3) rfl ez eg rfl aa
      have wg:=(y1.news [.cells [uB o5,uB o4] 224 false]).kept dc aH (y1.old gN [.cells [uB o5,uB o4] 224 false])
      exact aA.next' y (bf (kI nR H b ru gT H1 IP o5 o4 [aF,au 0,aI,au 0,.piece 3 [0,6] .normal (bw [(0,sc b ru gT (2*gT+1)),(138,.bool false)]) H2 [],au 0,vl (sc b JI (gT-3) (2*(gT-3)+1)) H2,au 0]) [(0,sc b JI (gT-3) (2*(gT-3)+1))] .normal H2 [H1.n+0] (fun _ r_=>aE h1 w1 w2 w3 c1 w4 w5 w6<|aE w7 w8 w9 (show az E 224 (H1.n+0) 0 (.agg #[uB o5,uB o4]) (kr H1)=some (iB H1 o5 o4) from cN eB rfl rfl rfl rfl) h3 h4 c2 IZ r_)) aG (ih _ aa JI (gT-3) _ y2 wg AB aa rfl)
    |false=>
     cases h5:((IntKind.i64.wrap (IntKind.u8.wrap ((BitVec.ofInt 8 IP &&& BitVec.ofInt 8 7).toNat:Int)))==4) with
     |true=>
      have gN:=y.kept bN aH kb
      obtain ⟨_,_,H2,c2,dc,y2,oP⟩:=gA b bs ru gT (H1.n+0) o5 o4 (y1.news [.cells [uB o5,uB o4] 224 false]) (y1.old gN [.cells [uB o5,uB o4] 224 false]) (aB [.cells [uB o5,uB o4] 224 false] H1 0 _ rfl) AB aa aa
      rcases oP with ⟨rfl,rfl⟩ |⟨rfl,rfl,JE⟩
      ·have jI:H1.n+1≤H2.n:=by have h:=dc.n;rw [bF] at h;exact h
       exact aA.last' y (bf (kI nR H b ru gT H1 IP o5 o4 [aF,au 0,aF,au 0,aI,au 0,.piece 3 [0,6] .normal (bw [(0,sc b ru gT (2*gT+1)),(185,.bool true)]) H2 [],au 0]) [(2,.bool false)] .ret H2 [H1.n+0] (fun _ r_=>aE h1 w1 w2 w3 c1 w4 w5 w6<|aE w7 w8 w9 (show az E 224 (H1.n+0) 0 (.agg #[uB o5,uB o4]) (kr H1)=some (iB H1 o5 o4) from cN eB rfl rfl rfl rfl) h3 h4 h5 c2 r_)) aj aG aM (.inr (⟨rfl,false,rfl⟩))
      ·have jI:H1.n+1≤H2.n:=by have h:=dc.n;rw [bF] at h;exact h
       obtain ⟨JI,YD,IZ⟩:=lF (b:=b) (o:=ru) (n:=gT) 4 (l:=4) rfl ez eg rfl aa
       have wg:=(y1.news [.cells [uB o5,uB o4] 224 false]).kept dc aH (y1.old gN [.cells [uB o5,uB o4] 224 false])
       exact aA.next' y (bf (kI nR H b ru gT H1 IP o5 o4 [aF,au 0,aF,au 0,aI,au 0,.piece 3 [0,6] .normal (bw [(0,sc b ru gT (2*gT+1)),(185,.bool false)]) H2 [],au 0,vl (sc b JI (gT-4) (2*(gT-4)+1)) H2,au 0]) [(0,sc b JI (gT-4) (2*(gT-4)+1))] .normal H2 [H1.n+0] (fun _ r_=>aE h1 w1 w2 w3 c1 w4 w5 w6<|aE w7 w8 w9 (show az E 224 (H1.n+0) 0 (.agg #[uB o5,uB o4]) (kr H1)=some (iB H1 o5 o4) from cN eB rfl rfl rfl rfl) h3 h4 h5 c2<|cF IZ r_)) aG (ih _ aa JI (gT-4) _ y2 wg AB aa rfl)
     |false=>
      exact aA.last' y (bf (kI nR H b ru gT H1 IP o5 o4 [aF,au 0,aF,au 0,aF,au 1]) [(2,.bool false)] .ret (iB H1 o5 o4) [H1.n+0] (fun _ r_=>aE h1 w1 w2 w3 c1 w4 w5 w6<|fk w7 w8 w9 (show az E 224 (H1.n+0) 0 (.agg #[uB o5,uB o4]) (kr H1)=some (iB H1 o5 o4) from cN eB rfl rfl rfl rfl) h3 h4 h5 r_)) aj aG aM (.inr (⟨rfl,false,rfl⟩))
  ·have gN:=y.kept bN aH kb
   exact aA.next' y (bf [au 1,aI,au 0,.ck,vl (uB nR) H,au 0,.piece 1 [0,3] (.exit 1) (bw [(0,sc b Tg JT (2*JT+1))]) H1 []] [(0,sc b Tg JT (2*JT+1))] .normal H1 [] (fun _ r_=>eM h1 w1 w2 w3 c1 r_)) aM (ih _ aa Tg JT _ y1 gN AB aa rfl)
 |false=>
  exact aA.last' y (bf [au 1,aF] [] (.exit 0) H [] (fun _ r_=>cF h1 r_)) aj aM aM (.inl (⟨rfl,rfl⟩))
theorem MC:E.func 128=some Tryz.f128:=ah
theorem MD:bO Tryz.f128 1=true:=ah
theorem LN (b:Nat) (bs:List Int) (n:Nat) {H:Hp} (y:Gd E G H) (kb:H.get b=some (.cells (dO bs) 5 false)) (AB:sR bs) (ho:n≤bs.length) (hn:0<n):aD E G 128 [sc b 0 n 2] H [] (fun v H'=>∃ x,v=.bool x):=by
 obtain ⟨_,_,H1,c1,bN,y1,eD⟩:=(ac9 b bs _ 0 n _ y kb AB aa rfl).code
 rcases eD with ⟨rfl,rfl⟩ |⟨rfl,yT,rfl⟩
 ·exact bA y [au 5,vl (sc b 0 n (2*n+1)) H,au 0,.loop [0] (.exit 0) (bw []) H1 [],au 0] (.bool true) H1 MC MD (cU (show ja E 192 (sc b 0 n 2) none (some (iI ((n:Nat):Int))) (some (iI ((n:Nat):Int)))=some (sc b 0 n (2*n+1)) from SL aa aa rfl ez eg aa) c1 aS) ⟨true,rfl⟩
 ·exact bA y [au 5,vl (sc b 0 n (2*n+1)) H,au 0,.loop [0] .ret (bw [(2,.bool yT)]) H1 []] (.bool yT) H1 MC MD (cU (show ja E 192 (sc b 0 n 2) none (some (iI ((n:Nat):Int))) (some (iI ((n:Nat):Int)))=some (sc b 0 n (2*n+1)) from SL aa aa rfl ez eg aa) c1 aS) ⟨yT,rfl⟩
theorem S2 {H:Hp} (y:Gd E G H):CC E 128 [.slice none 0 0] H (.ret (.bool true)) H []:=V7 (f:=300) ah (cq rfl) (.ground rfl) y
end Go.Proofs.YtglmagcldkngbaaGreatDoor
