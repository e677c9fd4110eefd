/- Part of the proof that CheckKids answers true. -/
import Derived.Test.YtglmagcldkngbaaGreatDoorP06
import Derived.Test.YtglmagcldkngbaaGreatDoorP05
set_option linter.unusedVariables false
set_option linter.unusedSimpArgs false
set_option maxRecDepth 100000
set_option maxHeartbeats 4000000
namespace Go.Proofs.YtglmagcldkngbaaGreatDoor
open Go Go.Am
theorem eP:tu E #[192,192] 5 1 1=true:=ah
noncomputable def Qi:Code:=cz [1,1,1,0,1,0,0] (bH Tryz.f107)
noncomputable abbrev oC H:=news H [.cells [uB 10] 5 false]
noncomputable abbrev oD H s x5:=news H [.cells [uB (ak s (x5+1))] 5 false]
noncomputable abbrev oE H s x5:=news H [.cells [uB (ak s x5)] 5 false]
noncomputable abbrev wX (s:ByteArray) (H:Hp) (l_:List Hint):=au 1::vl (.string s) H::au 0::aI::au 0::vl (.string s) H::au 0::.ck::au 1::aF::au 0::aF::au 0::l_
noncomputable abbrev wY (s:ByteArray) (H:Hp) (x5:Int) pE (l_:List Hint):=wX s H (aI::au 1::.as (iI (x5+1))::au 2::vl (.string s) H::au 0::aF::au 1::vl (.string s) H::au 0::.ck::.call (iI pE) H []::l_)
theorem Hz (b:Nat) (b2:Nat) (s:ByteArray) (at_:Int):∀(m:Nat) (x5:Int) (q:Nat) (bs:List Int) (H:Hp),Gd E G H→(kb:H.get b=some (.cells [.string s,iI at_] 135 false))→(kt:H.get b2=some (.cells [iI 0,iI 0,.string ⟨#[]⟩] 112 false))→(kq:H.get q=some (.cells (dO bs) 5 false))→(hs:(s.size:Int)<100000)→(a0:0≤at_)→(yY:G.n≤b2)→(d1:b≠b2)→(x0:at_<x5)→(x1:x5≤s.size)→(AB:sR bs)→(b0:0<bs.length)→(bl:(bs.length:Int)≤x5)→(gq:G.n≤q)→(dq1:q≠b)→(dq2:q≠b2)→((s.size:Int)-x5).toNat=m→
  aA E G 75 Qi [(1,pt b 0),(2,pt b2 0),(4,sc q 0 bs.length 2),(5,iI x5)] H [b2,q] (fun x T H'=>(x=(.exit 0)∧T=bw [(2,pt b2 0)]∧(H'.get b2=some (.cells [.int .i64 0,.int .i64 0,.string ⟨#[]⟩] 112 false)))∨(x=.ret∧∃(z3:Int) (zk:Int) (za:Int) (zt:ByteArray),T=bw [(2,pt b2 0),(3,iI z3)]∧(H'.get b2=some (.cells [.int .i64 zk,.int .i64 za,.string zt] 112 false)∧0≤z3∧at_+z3≤s.size))):=by
 intro m
 induction m using Nat.strongRecOn with
 |_ m ih=>
 intro x5 q bs H y kb kt kq hs a0 yY d1 x0 x1 AB b0 bl gq dq1 dq2 hm
 have g0:=y.n
 have Hi:=y.wf.lt kb
 have An:=y.wf.lt kt
 have R0:=y.wf.lt kq
 have w1:aq E 9 b 0 H=some (.string s):=bQ bB kb rfl
 cases h1:(decide (x5<(s.size:Int))) with
 |true=>
  have q1:=aL h1
  have w2:0≤x5:=aa
  have w3:x5<(s.size:Int):=aa
  cases h2:((ak s x5)==34) with
  |true=>
   obtain ⟨_,H1,c1,bN,y1,vb1,rfl⟩:=LN q bs bs.length y kq AB aa aa
   have jq:H.n+0≤H1.n:=bN.n
   cases vb1 with
   |true=>
    have B6:=y.kept bN aH kq
    obtain ⟨cx2,agE,adH⟩:=Kk (c:=2) (o:=0) (n:=bs.length) (H:=H1) ez S1 S0 B6 aa
    have w4:=aC (x5+1)
    have gN:=y.kept bN aH kb
    have w5:aq E 3 b 1 H1=some (iI at_):=bQ aR gN rfl
    have w6:=aC ((x5+1)-at_)
    have eH:=y.kept bN aH kt
    obtain ⟨K2,e2⟩:∃ K_,K_=H1.set b2 (.cells [iI 4,iI 0,.string cx2] 112 false):=⟨_,rfl⟩
    have jI:K2.n=H1.n+0:=by rw [e2,Hp.cT] <;> rfl
    have I8:=aP e2
    exact aA.last' y (bf [au 1,vl (.string s) H,au 0,aI,au 0,vl (.string s) H,au 0,.ck,au 1,aI,au 1,.call (.bool true) H1 [],au 1,.val (.string cx2) H1 [] [q],au 1,.as (iI (x5+1)),au 0,vl (iI at_) H1,.as (iI ((x5+1)-at_)),vl bJ K2,au 0] [(2,pt b2 0),(3,iI ((x5+1)-at_))] .ret K2 [b2] (fun _ r_=>aE w1 h1 w1 w2 w3 h2 c1 ag<|aE (show b2<H1.n∨H1.n≤b2 from aV) (show b2<H1.n∨H1.n≤b2 from aV) (show b2<H1.n∨H1.n≤b2 from aV) (show b2≠b from aV) (show b2<H1.n∨H1.n≤b2 from aV) (show b2<H1.n∨H1.n≤b2 from aV) ag adH<|aE ag ag ag w4 ag ag w5 ag<|eM w6 ag (show az E 112 b2 0 (.agg #[iI 4,iI 0,.string cx2]) H1=some K2 from (st aX eH rfl rfl).trans (congrArg some e2.symm)) (show bC H1 K2 [b2]=true from kW y1 eH) ag r_)) aj aj aJ (.inr (⟨rfl,(x5+1)-at_,4,0,cx2,rfl,⟨I8,by omega,by omega⟩⟩))
   |false=>
    have eH:=y.kept bN aH kt
    obtain ⟨K2,e2⟩:∃ K_,K_=H1.set b2 (.cells [iI 0,iI 0,.string ⟨#[]⟩] 112 false):=⟨_,rfl⟩
    have I8:=aP e2
    exact aA.last' y (bf [au 1,vl (.string s) H,au 0,aI,au 0,vl (.string s) H,au 0,.ck,au 1,aI,au 1,.call (.bool false) H1 [],au 1,vl bJ K2,au 0] [(2,pt b2 0),(3,iI 0)] .ret K2 [b2] (fun _ r_=>aE w1 h1 w1 w2 w3 h2 c1 (show az E 112 b2 0 (.agg #[iI 0,iI 0,.string ⟨#[]⟩]) H1=some K2 from (st aX eH rfl rfl).trans (congrArg some e2.symm)) r_)) aj aj aJ (.inr (⟨rfl,0,0,0,⟨#[]⟩,rfl,⟨I8,by omega,by omega⟩⟩))
  |false=>
   have q2:=bK h2
   cases h3:((ak s x5)==10) with
   |true=>
    obtain ⟨K1,e1⟩:∃ K_,K_=H.set b2 (.cells [iI 0,iI 0,.string ⟨#[]⟩] 112 false):=⟨_,rfl⟩
    have eH:=aP e1
    exact aA.last' y (bf [au 1,vl (.string s) H,au 0,aI,au 0,vl (.string s) H,au 0,.ck,au 1,aF,au 0,aI,au 1,vl bJ K1,au 0] [(2,pt b2 0),(3,iI 0)] .ret K1 [b2] (fun _ r_=>aE w1 h1 w1 w2 w3 h2 h3 (show az E 112 b2 0 (.agg #[iI 0,iI 0,.string ⟨#[]⟩]) H=some K1 from (st aX kt rfl rfl).trans (congrArg some e1.symm)) r_)) aj aj aJ (.inr (⟨rfl,0,0,0,⟨#[]⟩,rfl,⟨eH,by omega,by omega⟩⟩))
   |false=>
    have q3:=bK h3
    cases h4:((ak s x5)==92) with
    |true=>
     have q4:=bW h4
     have w4:=aC (x5+1)
     cases h5:((x5+1)==(s.size:Int)) with
     |true=>
      have q5:=bW h5
      obtain ⟨K1,e1⟩:∃ K_,K_=H.set b2 (.cells [iI 0,iI 0,.string ⟨#[]⟩] 112 false):=⟨_,rfl⟩
      have eH:=aP e1
      exact aA.last' y (bf (wX s H [aI,au 1,.as (iI (x5+1)),au 2,vl (.string s) H,au 0,aI,au 2,vl bJ K1,au 0]) [(2,pt b2 0),(3,iI 0)] .ret K1 [b2] (fun _ r_=>aE w1 h1 w1 w2 w3 h2 h3 h4<|gm w4 w1 h5 (show az E 112 b2 0 (.agg #[iI 0,iI 0,.string ⟨#[]⟩]) H=some K1 from (st aX kt rfl rfl).trans (congrArg some e1.symm)) r_)) aj aj aJ (.inr (⟨rfl,0,0,0,⟨#[]⟩,rfl,⟨eH,by omega,by omega⟩⟩))
     |false=>
      have q5:=bK h5
      have w5:0≤(x5+1):=aa
      have w6:(x5+1)<(s.size:Int):=aa
      obtain ⟨pE,s7⟩:=indexByte ⟨#[34,92,110]⟩ (ak s (x5+1))
      cases h6:(decide (pE<0)) with
      |true=>
       obtain ⟨K1,e1⟩:∃ K_,K_=H.set b2 (.cells [iI 0,iI 0,.string ⟨#[]⟩] 112 false):=⟨_,rfl⟩
       have eH:=aP e1
       exact aA.last' y (bf (wY s H x5 pE [aI,au 1,vl bJ K1,au 0]) [(2,pt b2 0),(3,iI 0)] .ret K1 [b2] (fun _ r_=>aE w1 h1 w1 w2 w3 h2 h3 h4<|aE w4 w1 h5 w1 w5 w6 (show CC E 103 [.string ⟨#[34,92,110]⟩,uB (ak s (x5+1))] H (.ret (iI pE)) H [] from s7 y) h6<|cF (show az E 112 b2 0 (.agg #[iI 0,iI 0,.string ⟨#[]⟩]) H=some K1 from (st aX kt rfl rfl).trans (congrArg some e1.symm)) r_)) aj aj aJ (.inr (⟨rfl,0,0,0,⟨#[]⟩,rfl,⟨eH,by omega,by omega⟩⟩))
      |false=>
       cases h7:((ak s (x5+1))==110) with
       |true=>
        obtain ⟨K1,e1⟩:∃ K_,K_=((oC H).set q .dead).new (.cells (dO (bs++[10])) 5 false):=⟨_,rfl⟩
        have y1:Gd E G K1:=xN (y.news [.cells [uB 10] 5 false]) e1 aa (by rw [bF];simp only [List.length_cons,List.length_nil];omega)
        have jq:K1.n=H.n+2:=by rw [Ek e1,bF] <;> rfl
        have cV:K1.get (H.n+1)=some (.cells (dO (bs++[10])) 5 false):=sM e1
        have w7:=aC ((x5+1)+1)
        have gN:=iM (y.news [.cells [uB 10] 5 false]) e1 aa (y.old kb [.cells [uB 10] 5 false])
        have eH:=iM (y.news [.cells [uB 10] 5 false]) e1 aa (y.old kt [.cells [uB 10] 5 false])
        exact aA.nN y (bf (wY s H x5 pE [aF,au 1,vl (.string s) H,au 0,.ck,au 1,aI,au 3,.val (sc (H.n+1) 0 ((bs++[10]).length) 2) K1 [q] [q,H.n+0],au 1,.as (iI ((x5+1)+1)),au 0]) [(1,pt b 0),(2,pt b2 0),(4,sc (H.n+1) 0 ((bs++[10]).length) 2),(5,iI ((x5+1)+1))] .normal K1 [q] (fun _ r_=>aE w1 h1 w1 w2 w3 h2 h3 h4<|aE w4 w1 h5 w1 w5 w6 (show CC E 103 [.string ⟨#[34,92,110]⟩,uB (ak s (x5+1))] H (.ret (iI pE)) H [] from s7 y) h6<|fG w1 w5 w6 h7 (show ee E #[192,192] (sc q 0 bs.length 2) (sc (H.n+0) 0 1 3) (oC H)=some (sc (H.n+1) 0 ((bs++[10]).length) 2,K1,[q],[q,H.n+0]) from (rz eP rfl (show n9 (oC H) 1 (sc (H.n+0) 0 1 3)=some (1,[uB 10],[H.n+0]) from kK (aB [.cells [uB 10] 5 false] H 0 _ rfl) (dm rfl)) rfl (y.old kq [.cells [uB 10] 5 false]) (by rw [XP];omega) aa).trans (by rw [PM bs 10,HH bs 10,e1] <;> rfl)) w7 r_)) aj aG (ih _ aa ((x5+1)+1) (H.n+1) (bs++[10]) _ y1 gN eH cV hs a0 yY d1 aa aa (AB.snoc (by first |exact eA _ _ |decide) (by first |exact eR _ _ |decide)) aj (by simp;omega) aa aa aa rfl)
       |false=>
        have q7:=bK h7
        obtain ⟨K1,e1⟩:∃ K_,K_=((oD H s x5).set q .dead).new (.cells (dO (bs++[ak s (x5+1)])) 5 false):=⟨_,rfl⟩
        have y1:Gd E G K1:=xN (y.news [.cells [uB (ak s (x5+1))] 5 false]) e1 aa (by rw [bF];simp only [List.length_cons,List.length_nil];omega)
        have jq:K1.n=H.n+2:=by rw [Ek e1,bF] <;> rfl
        have cV:K1.get (H.n+1)=some (.cells (dO (bs++[ak s (x5+1)])) 5 false):=sM e1
        have w7:=aC ((x5+1)+1)
        have gN:=iM (y.news [.cells [uB (ak s (x5+1))] 5 false]) e1 aa (y.old kb [.cells [uB (ak s (x5+1))] 5 false])
        have eH:=iM (y.news [.cells [uB (ak s (x5+1))] 5 false]) e1 aa (y.old kt [.cells [uB (ak s (x5+1))] 5 false])
        exact aA.nN y (bf (wY s H x5 pE [aF,au 1,vl (.string s) H,au 0,.ck,au 1,aF,au 2,.val (sc (H.n+1) 0 ((bs++[ak s (x5+1)]).length) 2) K1 [q] [q,H.n+0],au 1,.as (iI ((x5+1)+1)),au 0]) [(1,pt b 0),(2,pt b2 0),(4,sc (H.n+1) 0 ((bs++[ak s (x5+1)]).length) 2),(5,iI ((x5+1)+1))] .normal K1 [q] (fun _ r_=>aE w1 h1 w1 w2 w3 h2 h3 h4<|aE w4 w1 h5 w1 w5 w6 (show CC E 103 [.string ⟨#[34,92,110]⟩,uB (ak s (x5+1))] H (.ret (iI pE)) H [] from s7 y) h6<|fG w1 w5 w6 h7 (show ee E #[192,192] (sc q 0 bs.length 2) (sc (H.n+0) 0 1 3) (oD H s x5)=some (sc (H.n+1) 0 ((bs++[ak s (x5+1)]).length) 2,K1,[q],[q,H.n+0]) from (rz eP rfl (show n9 (oD H s x5) 1 (sc (H.n+0) 0 1 3)=some (1,[uB (ak s (x5+1))],[H.n+0]) from kK (aB [.cells [uB (ak s (x5+1))] 5 false] H 0 _ rfl) (dm rfl)) rfl (y.old kq [.cells [uB (ak s (x5+1))] 5 false]) (by rw [XP];omega) aa).trans (by rw [PM bs (ak s (x5+1)),HH bs (ak s (x5+1)),e1] <;> rfl)) w7 r_)) aj aG (ih _ aa ((x5+1)+1) (H.n+1) (bs++[ak s (x5+1)]) _ y1 gN eH cV hs a0 yY d1 aa aa (AB.snoc (by first |exact eA _ _ |decide) (by first |exact eR _ _ |decide)) aj (by simp;omega) aa aa aa rfl)
    |false=>
     have q4:=bK h4
     obtain ⟨K1,e1⟩:∃ K_,K_=((oE H s x5).set q .dead).new (.cells (dO (bs++[ak s x5])) 5 false):=⟨_,rfl⟩
     have y1:Gd E G K1:=xN (y.news [.cells [uB (ak s x5)] 5 false]) e1 aa (by rw [bF];simp only [List.length_cons,List.length_nil];omega)
     have jq:K1.n=H.n+2:=by rw [Ek e1,bF] <;> rfl
     have cV:K1.get (H.n+1)=some (.cells (dO (bs++[ak s x5])) 5 false):=sM e1
     have w4:=aC (x5+1)
     have gN:=iM (y.news [.cells [uB (ak s x5)] 5 false]) e1 aa (y.old kb [.cells [uB (ak s x5)] 5 false])
     have eH:=iM (y.news [.cells [uB (ak s x5)] 5 false]) e1 aa (y.old kt [.cells [uB (ak s x5)] 5 false])
     exact aA.nN y (bf (wX s H [aF,au 3,.val (sc (H.n+1) 0 ((bs++[ak s x5]).length) 2) K1 [q] [q,H.n+0],au 1,.as (iI (x5+1)),au 0]) [(1,pt b 0),(2,pt b2 0),(4,sc (H.n+1) 0 ((bs++[ak s x5]).length) 2),(5,iI (x5+1))] .normal K1 [q] (fun _ r_=>aE w1 h1 w1 w2 w3 h2 h3 h4<|cU (show ee E #[192,192] (sc q 0 bs.length 2) (sc (H.n+0) 0 1 3) (oE H s x5)=some (sc (H.n+1) 0 ((bs++[ak s x5]).length) 2,K1,[q],[q,H.n+0]) from (rz eP rfl (show n9 (oE H s x5) 1 (sc (H.n+0) 0 1 3)=some (1,[uB (ak s x5)],[H.n+0]) from kK (aB [.cells [uB (ak s x5)] 5 false] H 0 _ rfl) (dm rfl)) rfl (y.old kq [.cells [uB (ak s x5)] 5 false]) (by rw [XP];omega) aa).trans (by rw [PM bs (ak s x5),HH bs (ak s x5),e1] <;> rfl)) w4 r_)) aj aG (ih _ aa (x5+1) (H.n+1) (bs++[ak s x5]) _ y1 gN eH cV hs a0 yY d1 aa aa (AB.snoc (by first |exact eA _ _ |decide) (by first |exact eR _ _ |decide)) aj (by simp;omega) aa aa aa rfl)
 |false=>
  exact aA.last' y (bf [au 1,vl (.string s) H,au 0,aF] [(2,pt b2 0)] (.exit 0) H [] (fun _ r_=>cU w1 h1 r_)) aj aM aJ (.inl (⟨rfl,rfl,kt⟩))
noncomputable def Qh:Code:=cz [1,1,1,0,1,0,0] (bH Tryz.f107)
noncomputable abbrev wq H:=news H [.cells [uB 10] 5 false,.cells [uB 10] 5 false]
noncomputable abbrev wu H s x5:=news H [.cells [uB (ak s (x5+1))] 5 false,.cells [uB (ak s (x5+1))] 5 false]
noncomputable abbrev wv H s x5:=news H [.cells [uB (ak s x5)] 5 false,.cells [uB (ak s x5)] 5 false]
noncomputable abbrev wZ (s:ByteArray) (H:Hp) (l_:List Hint):=au 1::vl (.string s) H::au 0::aI::au 0::vl (.string s) H::au 0::.ck::au 1::aF::au 0::aF::au 0::l_
noncomputable abbrev xd (s:ByteArray) (H:Hp) (x5:Int) pE (l_:List Hint):=wZ s H (aI::au 1::.as (iI (x5+1))::au 2::vl (.string s) H::au 0::aF::au 1::vl (.string s) H::au 0::.ck::.call (iI pE) H []::l_)
theorem V6 (b:Nat) (b2:Nat) (s:ByteArray) (at_:Int):∀(m:Nat) (x5:Int) (H:Hp),Gd E G H→(kb:H.get b=some (.cells [.string s,iI at_] 135 false))→(kt:H.get b2=some (.cells [iI 0,iI 0,.string ⟨#[]⟩] 112 false))→(hs:(s.size:Int)<100000)→(a0:0≤at_)→(yY:G.n≤b2)→(d1:b≠b2)→(x0:at_<x5)→(x1:x5≤s.size)→((s.size:Int)-x5).toNat=m→
  aA E G 75 Qh [(1,pt b 0),(2,pt b2 0),(4,.slice none 0 0),(5,iI x5)] H [b2] (fun x T H'=>(x=(.exit 0)∧T=bw [(2,pt b2 0)]∧(H'.get b2=some (.cells [.int .i64 0,.int .i64 0,.string ⟨#[]⟩] 112 false)))∨(x=.ret∧∃(z3:Int) (zk:Int) (za:Int) (zt:ByteArray),T=bw [(2,pt b2 0),(3,iI z3)]∧(H'.get b2=some (.cells [.int .i64 zk,.int .i64 za,.string zt] 112 false)∧0≤z3∧at_+z3≤s.size))):=by
 intro m
 induction m using Nat.strongRecOn with
 |_ m ih=>
 intro x5 H y kb kt hs a0 yY d1 x0 x1 hm
 have g0:=y.n
 have Hi:=y.wf.lt kb
 have An:=y.wf.lt kt
 have w1:aq E 9 b 0 H=some (.string s):=bQ bB kb rfl
 cases h1:(decide (x5<(s.size:Int))) with
 |true=>
  have q1:=aL h1
  have w2:0≤x5:=aa
  have w3:x5<(s.size:Int):=aa
  cases h2:((ak s x5)==34) with
  |true=>
   have w4:=aC (x5+1)
   have w5:aq E 3 b 1 H=some (iI at_):=bQ aR kb rfl
   have w6:=aC ((x5+1)-at_)
   obtain ⟨K1,e1⟩:∃ K_,K_=H.set b2 (.cells [iI 4,iI 0,.string ⟨#[]⟩] 112 false):=⟨_,rfl⟩
   have jq:K1.n=H.n+0:=by rw [e1,Hp.cT] <;> rfl
   have eH:=aP e1
   exact aA.last' y (bf [au 1,vl (.string s) H,au 0,aI,au 0,vl (.string s) H,au 0,.ck,au 1,aI,au 1,.call (.bool true) H [],au 4,.as (iI (x5+1)),au 0,vl (iI at_) H,.as (iI ((x5+1)-at_)),vl bJ K1,au 0] [(2,pt b2 0),(3,iI ((x5+1)-at_))] .ret K1 [b2] (fun _ r_=>aE w1 h1 w1 w2 w3 h2 (show CC E 128 [.slice none 0 0] H (.ret (.bool true)) H [] from S2 y) ag<|aE (show b2<H.n∨H.n≤b2 from aV) (show b2<H.n∨H.n≤b2 from aV) (show b2<H.n∨H.n≤b2 from aV) (show b2≠b from aV) (show b2<H.n∨H.n≤b2 from aV) (show b2<H.n∨H.n≤b2 from aV) ag ag<|aE ag ag w4 ag ag w5 ag w6<|gm ag (show az E 112 b2 0 (.agg #[iI 4,iI 0,.string ⟨#[]⟩]) H=some K1 from (st aX kt rfl rfl).trans (congrArg some e1.symm)) (show bC H K1 [b2]=true from kW y kt) ag r_)) aj aj aJ (.inr (⟨rfl,(x5+1)-at_,4,0,⟨#[]⟩,rfl,⟨eH,by omega,by omega⟩⟩))
  |false=>
   cases h3:((ak s x5)==10) with
   |true=>
    obtain ⟨K1,e1⟩:∃ K_,K_=H.set b2 (.cells [iI 0,iI 0,.string ⟨#[]⟩] 112 false):=⟨_,rfl⟩
    have eH:=aP e1
    exact aA.last' y (bf [au 1,vl (.string s) H,au 0,aI,au 0,vl (.string s) H,au 0,.ck,au 1,aF,au 0,aI,au 1,vl bJ K1,au 0] [(2,pt b2 0),(3,iI 0)] .ret K1 [b2] (fun _ r_=>aE w1 h1 w1 w2 w3 h2 h3 (show az E 112 b2 0 (.agg #[iI 0,iI 0,.string ⟨#[]⟩]) H=some K1 from (st aX kt rfl rfl).trans (congrArg some e1.symm)) r_)) aj aj aJ (.inr (⟨rfl,0,0,0,⟨#[]⟩,rfl,⟨eH,by omega,by omega⟩⟩))
   |false=>
    cases h4:((ak s x5)==92) with
    |true=>
     have w4:=aC (x5+1)
     cases h5:((x5+1)==(s.size:Int)) with
     |true=>
      have q5:=bW h5
      obtain ⟨K1,e1⟩:∃ K_,K_=H.set b2 (.cells [iI 0,iI 0,.string ⟨#[]⟩] 112 false):=⟨_,rfl⟩
      have eH:=aP e1
      exact aA.last' y (bf (wZ s H [aI,au 1,.as (iI (x5+1)),au 2,vl (.string s) H,au 0,aI,au 2,vl bJ K1,au 0]) [(2,pt b2 0),(3,iI 0)] .ret K1 [b2] (fun _ r_=>aE w1 h1 w1 w2 w3 h2 h3 h4<|gm w4 w1 h5 (show az E 112 b2 0 (.agg #[iI 0,iI 0,.string ⟨#[]⟩]) H=some K1 from (st aX kt rfl rfl).trans (congrArg some e1.symm)) r_)) aj aj aJ (.inr (⟨rfl,0,0,0,⟨#[]⟩,rfl,⟨eH,by omega,by omega⟩⟩))
     |false=>
      have q5:=bK h5
      have w5:0≤(x5+1):=aa
      have w6:(x5+1)<(s.size:Int):=aa
      obtain ⟨pE,s7⟩:=indexByte ⟨#[34,92,110]⟩ (ak s (x5+1))
      cases h6:(decide (pE<0)) with
      |true=>
       obtain ⟨K1,e1⟩:∃ K_,K_=H.set b2 (.cells [iI 0,iI 0,.string ⟨#[]⟩] 112 false):=⟨_,rfl⟩
       have eH:=aP e1
       exact aA.last' y (bf (xd s H x5 pE [aI,au 1,vl bJ K1,au 0]) [(2,pt b2 0),(3,iI 0)] .ret K1 [b2] (fun _ r_=>aE w1 h1 w1 w2 w3 h2 h3 h4<|aE w4 w1 h5 w1 w5 w6 (show CC E 103 [.string ⟨#[34,92,110]⟩,uB (ak s (x5+1))] H (.ret (iI pE)) H [] from s7 y) h6<|cF (show az E 112 b2 0 (.agg #[iI 0,iI 0,.string ⟨#[]⟩]) H=some K1 from (st aX kt rfl rfl).trans (congrArg some e1.symm)) r_)) aj aj aJ (.inr (⟨rfl,0,0,0,⟨#[]⟩,rfl,⟨eH,by omega,by omega⟩⟩))
      |false=>
       cases h7:((ak s (x5+1))==110) with
       |true=>
        have w7:=aC ((x5+1)+1)
        exact aA.nN y (bf (xd s H x5 pE [aF,au 1,vl (.string s) H,au 0,.ck,au 1,aI,au 3,.val (sc (H.n+1) 0 1 2) (wq H) [] [H.n+0],au 1,.as (iI ((x5+1)+1)),au 0]) [(1,pt b 0),(2,pt b2 0),(4,sc (H.n+1) 0 1 2),(5,iI ((x5+1)+1))] .normal (wq H) [] (fun _ r_=>aE w1 h1 w1 w2 w3 h2 h3 h4<|aE w4 w1 h5 w1 w5 w6 (show CC E 103 [.string ⟨#[34,92,110]⟩,uB (ak s (x5+1))] H (.ret (iI pE)) H [] from s7 y) h6<|fG w1 w5 w6 h7 (show ee E #[192,192] (.slice none 0 0) (sc (H.n+0) 0 1 3) (oC H)=some (sc (H.n+1) 0 1 2,wq H,[],[H.n+0]) from uH eP rfl (show n9 (oC H) 1 (sc (H.n+0) 0 1 3)=some (1,[uB 10],[H.n+0]) from kK (aB [.cells [uB 10] 5 false] H 0 _ rfl) (dm rfl)) rfl (by decide) (by decide)) w7 r_)) aM aG (Hz b b2 s at_ _ ((x5+1)+1) (H.n+1) [10] _ (y.news [.cells [uB 10] 5 false,.cells [uB 10] 5 false]) (y.old kb [.cells [uB 10] 5 false,.cells [uB 10] 5 false]) (y.old kt [.cells [uB 10] 5 false,.cells [uB 10] 5 false]) (aB [.cells [uB 10] 5 false,.cells [uB 10] 5 false] H 1 _ rfl) hs a0 yY d1 aa aa (sR.nil.snoc (c:=10) (by first |exact eA _ _ |decide) (by first |exact eR _ _ |decide)) aj (by simp;omega) aa aa aa rfl)
       |false=>
        have w7:=aC ((x5+1)+1)
        exact aA.nN y (bf (xd s H x5 pE [aF,au 1,vl (.string s) H,au 0,.ck,au 1,aF,au 2,.val (sc (H.n+1) 0 1 2) (wu H s x5) [] [H.n+0],au 1,.as (iI ((x5+1)+1)),au 0]) [(1,pt b 0),(2,pt b2 0),(4,sc (H.n+1) 0 1 2),(5,iI ((x5+1)+1))] .normal (wu H s x5) [] (fun _ r_=>aE w1 h1 w1 w2 w3 h2 h3 h4<|aE w4 w1 h5 w1 w5 w6 (show CC E 103 [.string ⟨#[34,92,110]⟩,uB (ak s (x5+1))] H (.ret (iI pE)) H [] from s7 y) h6<|fG w1 w5 w6 h7 (show ee E #[192,192] (.slice none 0 0) (sc (H.n+0) 0 1 3) (oD H s x5)=some (sc (H.n+1) 0 1 2,wu H s x5,[],[H.n+0]) from uH eP rfl (show n9 (oD H s x5) 1 (sc (H.n+0) 0 1 3)=some (1,[uB (ak s (x5+1))],[H.n+0]) from kK (aB [.cells [uB (ak s (x5+1))] 5 false] H 0 _ rfl) (dm rfl)) rfl (by decide) (by decide)) w7 r_)) aM aG (Hz b b2 s at_ _ ((x5+1)+1) (H.n+1) [ak s (x5+1)] _ (y.news [.cells [uB (ak s (x5+1))] 5 false,.cells [uB (ak s (x5+1))] 5 false]) (y.old kb [.cells [uB (ak s (x5+1))] 5 false,.cells [uB (ak s (x5+1))] 5 false]) (y.old kt [.cells [uB (ak s (x5+1))] 5 false,.cells [uB (ak s (x5+1))] 5 false]) (aB [.cells [uB (ak s (x5+1))] 5 false,.cells [uB (ak s (x5+1))] 5 false] H 1 _ rfl) hs a0 yY d1 aa aa (sR.nil.snoc (c:=(ak s (x5+1))) (by first |exact eA _ _ |decide) (by first |exact eR _ _ |decide)) aj (by simp;omega) aa aa aa rfl)
    |false=>
     have w4:=aC (x5+1)
     exact aA.nN y (bf (wZ s H [aF,au 3,.val (sc (H.n+1) 0 1 2) (wv H s x5) [] [H.n+0],au 1,.as (iI (x5+1)),au 0]) [(1,pt b 0),(2,pt b2 0),(4,sc (H.n+1) 0 1 2),(5,iI (x5+1))] .normal (wv H s x5) [] (fun _ r_=>aE w1 h1 w1 w2 w3 h2 h3 h4<|cU (show ee E #[192,192] (.slice none 0 0) (sc (H.n+0) 0 1 3) (oE H s x5)=some (sc (H.n+1) 0 1 2,wv H s x5,[],[H.n+0]) from uH eP rfl (show n9 (oE H s x5) 1 (sc (H.n+0) 0 1 3)=some (1,[uB (ak s x5)],[H.n+0]) from kK (aB [.cells [uB (ak s x5)] 5 false] H 0 _ rfl) (dm rfl)) rfl (by decide) (by decide)) w4 r_)) aM aG (Hz b b2 s at_ _ (x5+1) (H.n+1) [ak s x5] _ (y.news [.cells [uB (ak s x5)] 5 false,.cells [uB (ak s x5)] 5 false]) (y.old kb [.cells [uB (ak s x5)] 5 false,.cells [uB (ak s x5)] 5 false]) (y.old kt [.cells [uB (ak s x5)] 5 false,.cells [uB (ak s x5)] 5 false]) (aB [.cells [uB (ak s x5)] 5 false,.cells [uB (ak s x5)] 5 false] H 1 _ rfl) hs a0 yY d1 aa aa (sR.nil.snoc (c:=(ak s x5)) (by first |exact eA _ _ |decide) (by first |exact eR _ _ |decide)) aj (by simp;omega) aa aa aa rfl)
 |false=>
  exact aA.last' y (bf [au 1,vl (.string s) H,au 0,aF] [(2,pt b2 0)] (.exit 0) H [] (fun _ r_=>cU w1 h1 r_)) aj aM aJ (.inl (⟨rfl,rfl,kt⟩))
theorem Gg:E.func 107=some Tryz.f107:=ah
theorem Gh:bO Tryz.f107 1=true:=ah
noncomputable abbrev dU H s at_:=news H [.cells [.string s,iI at_] 135 false,.cells [iI 0,iI 0,.string ⟨#[]⟩] 112 false]
theorem Jn (s:ByteArray) (at_:Int) {H:Hp} (y:Gd E G H) (hs:(s.size:Int)<100000) (a0:0≤at_) (a1:at_<s.size):aD E G 107 [.agg #[.string s,iI at_]] H [] (fun v H'=>∃(k:Int) (a:Int) (t:ByteArray) (n:Int),v=(.tuple #[.agg #[iI k,iI a,.string t],iI n])∧(0≤n∧at_+n≤s.size)):=by
 have g0:=y.n
 have w1:aq E 9 (H.n+0) 0 (dU H s at_)=some (.string s):=cI bB rfl rfl
 have w2:aq E 3 (H.n+0) 1 (dU H s at_)=some (iI at_):=cI aR rfl rfl
 have w3:0≤at_:=aa
 have w4:at_<(s.size:Int):=aa
 cases h1:((ak s at_) != 34) with
 |true=>
  exact aD.mk y (CC.de ok (f:=300) (hs:=[au 3,vl (.string s) (dU H s at_),au 0,vl (iI at_) (dU H s at_),.ck,aI,au 0,vl bJ (dU H s at_),au 0]) (vs:=[.agg #[iI 0,iI 0,.string ⟨#[]⟩],iI 0]) (v:=(.tuple #[.agg #[iI 0,iI 0,.string ⟨#[]⟩],iI 0])) (H':=(dU H s at_)) (W:=[H.n+1]) Gg Gh (kn w1<|kn w2<|kn w3<|kn w4<|kn h1<|kn (show az E 112 (H.n+1) 0 (.agg #[iI 0,iI 0,.string ⟨#[]⟩]) (dU H s at_)=some (dU H s at_) from cN aX rfl rfl rfl rfl)<|kn (show aq E 112 (H.n+1) 0 (dU H s at_)=some (.agg #[iI 0,iI 0,.string ⟨#[]⟩]) from (fQ cQ aX rfl rfl rfl))<|sw (iI 0)<|trivial) ah) aG aM ⟨0,0,⟨#[]⟩,0,rfl,by omega,by omega⟩
 |false=>
  have w5:=aC (at_+1)
  obtain ⟨_,_,H1,c1,bN,y1,eD⟩:=(V6 (H.n+0) (H.n+1) s at_ _ (at_+1) _ (y.news [.cells [.string s,iI at_] 135 false,.cells [iI 0,iI 0,.string ⟨#[]⟩] 112 false]) (aB [.cells [.string s,iI at_] 135 false,.cells [iI 0,iI 0,.string ⟨#[]⟩] 112 false] H 0 _ rfl) (aB [.cells [.string s,iI at_] 135 false,.cells [iI 0,iI 0,.string ⟨#[]⟩] 112 false] H 1 _ rfl) hs a0 aa aa aa aa rfl).code
  rcases eD with ⟨rfl,rfl,Cb⟩ |⟨rfl,ff,HT,HR,jc,rfl,Cb,cw,iX⟩
  ·have jq:H.n+2≤H1.n:=by have h:=bN.n;rw [bF] at h;exact h
   obtain ⟨K2,e2⟩:∃ K_,K_=H1.set (H.n+1) (.cells [iI 0,iI 0,.string ⟨#[]⟩] 112 false):=⟨_,rfl⟩
   have jI:K2.n=H1.n+0:=by rw [e2,Hp.cT] <;> rfl
   have dz:=aP e2
   exact aD.mk y (CC.de ok (f:=300) (hs:=[au 3,vl (.string s) (dU H s at_),au 0,vl (iI at_) (dU H s at_),.ck,aF,au 1,vl (iI at_) (dU H s at_),.as (iI (at_+1)),au 0,.loop [1,2,4,5] (.exit 0) (bw [(2,pt (H.n+1) 0)]) H1 [H.n+1],au 0,vl bJ K2,au 0]) (vs:=[.agg #[iI 0,iI 0,.string ⟨#[]⟩],iI 0]) (v:=(.tuple #[.agg #[iI 0,iI 0,.string ⟨#[]⟩],iI 0])) (H':=K2) (W:=[H.n+1,H.n+1]) Gg Gh (kn w1<|kn w2<|kn w3<|kn w4<|kn h1<|kn w2<|kn w5<|kn c1<|kn (show az E 112 (H.n+1) 0 (.agg #[iI 0,iI 0,.string ⟨#[]⟩]) H1=some K2 from (st aX Cb rfl rfl).trans (congrArg some e2.symm))<|kn (show aq E 112 (H.n+1) 0 K2=some (.agg #[iI 0,iI 0,.string ⟨#[]⟩]) from (o7 cQ aX dz rfl rfl))<|sw (iI 0)<|trivial) ah) aG aM ⟨0,0,⟨#[]⟩,0,rfl,by omega,by omega⟩
  ·have jq:H.n+2≤H1.n:=by have h:=bN.n;rw [bF] at h;exact h
   exact aD.mk y (CC.de ok (f:=300) (hs:=[au 3,vl (.string s) (dU H s at_),au 0,vl (iI at_) (dU H s at_),.ck,aF,au 1,vl (iI at_) (dU H s at_),.as (iI (at_+1)),au 0,.loop [1,2,4,5] .ret (bw [(2,pt (H.n+1) 0),(3,iI ff)]) H1 [H.n+1]]) (vs:=[.agg #[iI HT,iI HR,.string jc],iI ff]) (v:=(.tuple #[.agg #[iI HT,iI HR,.string jc],iI ff])) (H':=H1) (W:=[H.n+1]) Gg Gh (kn w1<|kn w2<|kn w3<|kn w4<|kn h1<|kn w2<|kn w5<|kn c1<|kn (show aq E 112 (H.n+1) 0 H1=some (.agg #[iI HT,iI HR,.string jc]) from (o7 cQ aX Cb rfl rfl))<|sw (iI ff)<|trivial) ah) aG aM ⟨HT,HR,jc,ff,rfl,by omega,by omega⟩
theorem Ox (s:ByteArray) (at_:Int) (hs:(s.size:Int)<100000) (a0:0≤at_) (a1:at_<s.size):∃(k:Int) (a:Int) (t:ByteArray) (n:Int),(0≤n∧at_+n≤s.size)∧∀{H:Hp},Gd E G H→CC E 107 [.agg #[.string s,iI at_]] H (.ret (.tuple #[.agg #[iI k,iI a,.string t],iI n])) H []:=by
 obtain ⟨_,_,c,_,_,k,a,t,n,rfl,hs⟩:=Jn s at_ eZ hs a0 a1
 exact ⟨k,a,t,n,hs,fun y=>aW (cq rfl) (qY _ _ _ _) c y⟩
noncomputable def Qa:Code:=cz [1,0,1,0,0] (bH Tryz.f86)
theorem abp (b:Nat) (b2:Nat) (q:Nat) (s:ByteArray) (at_:Int)  {H:Hp} (y:Gd E G H) (kb:H.get b=some (.cells [.string s,iI at_] 135 false)) (kt:H.get b2=some (.cells [iI 0,iI 0,.string ⟨#[]⟩] 112 false)) (kf:H.get q=some (.cells [ai 105,ai 106,ai 107,ai 108] 162 false)) (hs:(s.size:Int)<100000) (a0:0≤at_) (a1:at_<s.size) (yY:G.n≤b2) (d1:b≠b2) (d2:q≠b2):aA E G 29 Qa [(1,pt b 0),(2,pt b2 0),(8,sc q 0 4 9),(9,iI 4),(10,iI 4)] H [b2] (fun x T H'=>(x=(.exit 0)∧T=bw [(2,pt b2 0)]∧(H'.get b2=some (.cells [.int .i64 0,.int .i64 0,.string ⟨#[]⟩] 112 false)))∨(x=.ret∧∃(z3:Int) (zk:Int) (za:Int) (zt:ByteArray),T=bw [(2,pt b2 0),(3,iI z3)]∧(H'.get b2=some (.cells [.int .i64 zk,.int .i64 za,.string zt] 112 false)∧0≤z3∧at_+z3≤s.size))):=by
 exact aA.last' y (bf [au 0] [(2,pt b2 0)] (.exit 0) H [] (fun _ r_=>r_)) aj aM aJ (.inl (⟨rfl,rfl,kt⟩))
noncomputable abbrev cl H dJ gX dK:=news H [.cells [iI dJ,iI gX,.string dK] 112 false]
noncomputable abbrev cB H dJ at_ dK:=news H [.cells [iI dJ,iI at_,.string dK] 112 false]
noncomputable abbrev jm H:=news H [.cells [iI 0,iI 0,.string ⟨#[]⟩] 112 false]
noncomputable abbrev Dj (H:Hp) (s:ByteArray) (at_:Int) dJ gX dK sK (l_:List Hint):=au 1::vl (ai 108) H::au 1::vl (.agg #[.string s,iI at_]) H::.call (.tuple #[.agg #[iI dJ,iI gX,.string dK],iI sK]) H []::au 3::vl bJ (cl H dJ gX dK)::au 1::l_
theorem abo (b:Nat) (b2:Nat) (q:Nat) (s:ByteArray) (at_:Int)  {H:Hp} (y:Gd E G H) (kb:H.get b=some (.cells [.string s,iI at_] 135 false)) (kt:H.get b2=some (.cells [iI 0,iI 0,.string ⟨#[]⟩] 112 false)) (kf:H.get q=some (.cells [ai 105,ai 106,ai 107,ai 108] 162 false)) (hs:(s.size:Int)<100000) (a0:0≤at_) (a1:at_<s.size) (yY:G.n≤b2) (d1:b≠b2) (d2:q≠b2):aA E G 29 Qa [(1,pt b 0),(2,pt b2 0),(8,sc q 0 4 9),(9,iI 4),(10,iI 3)] H [b2] (fun x T H'=>(x=(.exit 0)∧T=bw [(2,pt b2 0)]∧(H'.get b2=some (.cells [.int .i64 0,.int .i64 0,.string ⟨#[]⟩] 112 false)))∨(x=.ret∧∃(z3:Int) (zk:Int) (za:Int) (zt:ByteArray),T=bw [(2,pt b2 0),(3,iI z3)]∧(H'.get b2=some (.cells [.int .i64 zk,.int .i64 za,.string zt] 112 false)∧0≤z3∧at_+z3≤s.size))):=by
 have An:=y.wf.lt kt
 have w1:aq E 162 q 3 H=some (ai 108):=bQ uG kf rfl
 have w2:aq E 135 b 0 H=some (.agg #[.string s,iI at_]):=o7 iO fS kb rfl rfl
 obtain ⟨dJ,gX,dK,sK,tb1,B4⟩:=VL s at_ hs a0 a1
 cases h1:(decide (sK>0)) with
 |true=>
  have q1:=aL h1
  have w3:aq E 3 b 1 (cl H dJ gX dK)=some (iI at_):=bQ aR (y.old kb [.cells [iI dJ,iI gX,.string dK] 112 false]) rfl
  have w4:aq E 112 (H.n+0) 0 (cB H dJ at_ dK)=some (.agg #[iI dJ,iI at_,.string dK]):=fQ cQ aX rfl rfl rfl
  obtain ⟨K1,e1⟩:∃ K_,K_=(cB H dJ at_ dK).set b2 (.cells [iI dJ,iI at_,.string dK] 112 false):=⟨_,rfl⟩
  have jq:K1.n=H.n+1:=by rw [e1,Hp.cT,bF] <;> rfl
  have eH:=aP e1
  exact aA.last' y (bf (Dj H s at_ dJ gX dK sK [aI,au 0,vl (iI at_) (cl H dJ gX dK),au 0,vl bJ (cB H dJ at_ dK),vl (.agg #[iI dJ,iI at_,.string dK]) (cB H dJ at_ dK),au 0,vl bJ K1,au 0]) [(2,pt b2 0),(3,iI sK)] .ret K1 [H.n+0,H.n+0,b2] (fun _ r_=>aE w1 w2 (show CC E 108 [.agg #[.string s,iI at_]] H (.ret (.tuple #[.agg #[iI dJ,iI gX,.string dK],iI sK])) H [] from B4 y) (show az E 112 (H.n+0) 0 (.agg #[iI dJ,iI gX,.string dK]) (jm H)=some (cl H dJ gX dK) from cN aX rfl rfl rfl rfl) h1 w3 (show az E 3 (H.n+0) 1 (iI at_) (cl H dJ gX dK)=some (cB H dJ at_ dK) from cN bY rfl rfl rfl rfl) w4<|cF (show az E 112 b2 0 (.agg #[iI dJ,iI at_,.string dK]) (cB H dJ at_ dK)=some K1 from (st aX (y.old kt [.cells [iI dJ,iI at_,.string dK] 112 false]) rfl rfl).trans (congrArg some e1.symm)) r_)) aj aG aJ (.inr (⟨rfl,sK,dJ,at_,dK,rfl,⟨eH,by omega,by omega⟩⟩))
 |false=>
  exact aA.next' y (bf (Dj H s at_ dJ gX dK sK [aF,au 1]) [(1,pt b 0),(2,pt b2 0),(8,sc q 0 4 9),(9,iI 4),(10,iI 4)] .normal (cl H dJ gX dK) [H.n+0] (fun _ r_=>eM w1 w2 (show CC E 108 [.agg #[.string s,iI at_]] H (.ret (.tuple #[.agg #[iI dJ,iI gX,.string dK],iI sK])) H [] from B4 y) (show az E 112 (H.n+0) 0 (.agg #[iI dJ,iI gX,.string dK]) (jm H)=some (cl H dJ gX dK) from cN aX rfl rfl rfl rfl) h1 r_)) aG (abp b b2 q s at_  (y.news [.cells [iI dJ,iI gX,.string dK] 112 false]) (y.old kb [.cells [iI dJ,iI gX,.string dK] 112 false]) (y.old kt [.cells [iI dJ,iI gX,.string dK] 112 false]) (y.old kf [.cells [iI dJ,iI gX,.string dK] 112 false]) hs a0 a1 yY d1 d2)
noncomputable abbrev Dk (H:Hp) (s:ByteArray) (at_:Int) dJ gX dK sK (l_:List Hint):=au 1::vl (ai 107) H::au 1::vl (.agg #[.string s,iI at_]) H::.call (.tuple #[.agg #[iI dJ,iI gX,.string dK],iI sK]) H []::au 3::vl bJ (cl H dJ gX dK)::au 1::l_
theorem abn (b:Nat) (b2:Nat) (q:Nat) (s:ByteArray) (at_:Int)  {H:Hp} (y:Gd E G H) (kb:H.get b=some (.cells [.string s,iI at_] 135 false)) (kt:H.get b2=some (.cells [iI 0,iI 0,.string ⟨#[]⟩] 112 false)) (kf:H.get q=some (.cells [ai 105,ai 106,ai 107,ai 108] 162 false)) (hs:(s.size:Int)<100000) (a0:0≤at_) (a1:at_<s.size) (yY:G.n≤b2) (d1:b≠b2) (d2:q≠b2):aA E G 29 Qa [(1,pt b 0),(2,pt b2 0),(8,sc q 0 4 9),(9,iI 4),(10,iI 2)] H [b2] (fun x T H'=>(x=(.exit 0)∧T=bw [(2,pt b2 0)]∧(H'.get b2=some (.cells [.int .i64 0,.int .i64 0,.string ⟨#[]⟩] 112 false)))∨(x=.ret∧∃(z3:Int) (zk:Int) (za:Int) (zt:ByteArray),T=bw [(2,pt b2 0),(3,iI z3)]∧(H'.get b2=some (.cells [.int .i64 zk,.int .i64 za,.string zt] 112 false)∧0≤z3∧at_+z3≤s.size))):=by
 have An:=y.wf.lt kt
 have w1:aq E 162 q 2 H=some (ai 107):=bQ uG kf rfl
 have w2:aq E 135 b 0 H=some (.agg #[.string s,iI at_]):=o7 iO fS kb rfl rfl
 obtain ⟨dJ,gX,dK,sK,tb1,B4⟩:=Ox s at_ hs a0 a1
 cases h1:(decide (sK>0)) with
 |true=>
  have q1:=aL h1
  have w3:aq E 3 b 1 (cl H dJ gX dK)=some (iI at_):=bQ aR (y.old kb [.cells [iI dJ,iI gX,.string dK] 112 false]) rfl
  have w4:aq E 112 (H.n+0) 0 (cB H dJ at_ dK)=some (.agg #[iI dJ,iI at_,.string dK]):=fQ cQ aX rfl rfl rfl
  obtain ⟨K1,e1⟩:∃ K_,K_=(cB H dJ at_ dK).set b2 (.cells [iI dJ,iI at_,.string dK] 112 false):=⟨_,rfl⟩
  have jq:K1.n=H.n+1:=by rw [e1,Hp.cT,bF] <;> rfl
  have eH:=aP e1
  exact aA.last' y (bf (Dk H s at_ dJ gX dK sK [aI,au 0,vl (iI at_) (cl H dJ gX dK),au 0,vl bJ (cB H dJ at_ dK),vl (.agg #[iI dJ,iI at_,.string dK]) (cB H dJ at_ dK),au 0,vl bJ K1,au 0]) [(2,pt b2 0),(3,iI sK)] .ret K1 [H.n+0,H.n+0,b2] (fun _ r_=>aE w1 w2 (show CC E 107 [.agg #[.string s,iI at_]] H (.ret (.tuple #[.agg #[iI dJ,iI gX,.string dK],iI sK])) H [] from B4 y) (show az E 112 (H.n+0) 0 (.agg #[iI dJ,iI gX,.string dK]) (jm H)=some (cl H dJ gX dK) from cN aX rfl rfl rfl rfl) h1 w3 (show az E 3 (H.n+0) 1 (iI at_) (cl H dJ gX dK)=some (cB H dJ at_ dK) from cN bY rfl rfl rfl rfl) w4<|cF (show az E 112 b2 0 (.agg #[iI dJ,iI at_,.string dK]) (cB H dJ at_ dK)=some K1 from (st aX (y.old kt [.cells [iI dJ,iI at_,.string dK] 112 false]) rfl rfl).trans (congrArg some e1.symm)) r_)) aj aG aJ (.inr (⟨rfl,sK,dJ,at_,dK,rfl,⟨eH,by omega,by omega⟩⟩))
 |false=>
  exact aA.next' y (bf (Dk H s at_ dJ gX dK sK [aF,au 1]) [(1,pt b 0),(2,pt b2 0),(8,sc q 0 4 9),(9,iI 4),(10,iI 3)] .normal (cl H dJ gX dK) [H.n+0] (fun _ r_=>eM w1 w2 (show CC E 107 [.agg #[.string s,iI at_]] H (.ret (.tuple #[.agg #[iI dJ,iI gX,.string dK],iI sK])) H [] from B4 y) (show az E 112 (H.n+0) 0 (.agg #[iI dJ,iI gX,.string dK]) (jm H)=some (cl H dJ gX dK) from cN aX rfl rfl rfl rfl) h1 r_)) aG (abo b b2 q s at_  (y.news [.cells [iI dJ,iI gX,.string dK] 112 false]) (y.old kb [.cells [iI dJ,iI gX,.string dK] 112 false]) (y.old kt [.cells [iI dJ,iI gX,.string dK] 112 false]) (y.old kf [.cells [iI dJ,iI gX,.string dK] 112 false]) hs a0 a1 yY d1 d2)
noncomputable abbrev Dl (H:Hp) (s:ByteArray) (at_:Int) dJ gX dK sK (l_:List Hint):=au 1::vl (ai 106) H::au 1::vl (.agg #[.string s,iI at_]) H::.call (.tuple #[.agg #[iI dJ,iI gX,.string dK],iI sK]) H []::au 3::vl bJ (cl H dJ gX dK)::au 1::l_
theorem abm (b:Nat) (b2:Nat) (q:Nat) (s:ByteArray) (at_:Int)  {H:Hp} (y:Gd E G H) (kb:H.get b=some (.cells [.string s,iI at_] 135 false)) (kt:H.get b2=some (.cells [iI 0,iI 0,.string ⟨#[]⟩] 112 false)) (kf:H.get q=some (.cells [ai 105,ai 106,ai 107,ai 108] 162 false)) (hs:(s.size:Int)<100000) (a0:0≤at_) (a1:at_<s.size) (yY:G.n≤b2) (d1:b≠b2) (d2:q≠b2):aA E G 29 Qa [(1,pt b 0),(2,pt b2 0),(8,sc q 0 4 9),(9,iI 4),(10,iI 1)] H [b2] (fun x T H'=>(x=(.exit 0)∧T=bw [(2,pt b2 0)]∧(H'.get b2=some (.cells [.int .i64 0,.int .i64 0,.string ⟨#[]⟩] 112 false)))∨(x=.ret∧∃(z3:Int) (zk:Int) (za:Int) (zt:ByteArray),T=bw [(2,pt b2 0),(3,iI z3)]∧(H'.get b2=some (.cells [.int .i64 zk,.int .i64 za,.string zt] 112 false)∧0≤z3∧at_+z3≤s.size))):=by
 have An:=y.wf.lt kt
 have w1:aq E 162 q 1 H=some (ai 106):=bQ uG kf rfl
 have w2:aq E 135 b 0 H=some (.agg #[.string s,iI at_]):=o7 iO fS kb rfl rfl
 obtain ⟨dJ,gX,dK,sK,tb1,B4⟩:=Ow s at_ hs a0 a1
 cases h1:(decide (sK>0)) with
 |true=>
  have q1:=aL h1
  have w3:aq E 3 b 1 (cl H dJ gX dK)=some (iI at_):=bQ aR (y.old kb [.cells [iI dJ,iI gX,.string dK] 112 false]) rfl
  have w4:aq E 112 (H.n+0) 0 (cB H dJ at_ dK)=some (.agg #[iI dJ,iI at_,.string dK]):=fQ cQ aX rfl rfl rfl
  obtain ⟨K1,e1⟩:∃ K_,K_=(cB H dJ at_ dK).set b2 (.cells [iI dJ,iI at_,.string dK] 112 false):=⟨_,rfl⟩
  have jq:K1.n=H.n+1:=by rw [e1,Hp.cT,bF] <;> rfl
  have eH:=aP e1
  exact aA.last' y (bf (Dl H s at_ dJ gX dK sK [aI,au 0,vl (iI at_) (cl H dJ gX dK),au 0,vl bJ (cB H dJ at_ dK),vl (.agg #[iI dJ,iI at_,.string dK]) (cB H dJ at_ dK),au 0,vl bJ K1,au 0]) [(2,pt b2 0),(3,iI sK)] .ret K1 [H.n+0,H.n+0,b2] (fun _ r_=>aE w1 w2 (show CC E 106 [.agg #[.string s,iI at_]] H (.ret (.tuple #[.agg #[iI dJ,iI gX,.string dK],iI sK])) H [] from B4 y) (show az E 112 (H.n+0) 0 (.agg #[iI dJ,iI gX,.string dK]) (jm H)=some (cl H dJ gX dK) from cN aX rfl rfl rfl rfl) h1 w3 (show az E 3 (H.n+0) 1 (iI at_) (cl H dJ gX dK)=some (cB H dJ at_ dK) from cN bY rfl rfl rfl rfl) w4<|cF (show az E 112 b2 0 (.agg #[iI dJ,iI at_,.string dK]) (cB H dJ at_ dK)=some K1 from (st aX (y.old kt [.cells [iI dJ,iI at_,.string dK] 112 false]) rfl rfl).trans (congrArg some e1.symm)) r_)) aj aG aJ (.inr (⟨rfl,sK,dJ,at_,dK,rfl,⟨eH,by omega,by omega⟩⟩))
 |false=>
  exact aA.next' y (bf (Dl H s at_ dJ gX dK sK [aF,au 1]) [(1,pt b 0),(2,pt b2 0),(8,sc q 0 4 9),(9,iI 4),(10,iI 2)] .normal (cl H dJ gX dK) [H.n+0] (fun _ r_=>eM w1 w2 (show CC E 106 [.agg #[.string s,iI at_]] H (.ret (.tuple #[.agg #[iI dJ,iI gX,.string dK],iI sK])) H [] from B4 y) (show az E 112 (H.n+0) 0 (.agg #[iI dJ,iI gX,.string dK]) (jm H)=some (cl H dJ gX dK) from cN aX rfl rfl rfl rfl) h1 r_)) aG (abn b b2 q s at_  (y.news [.cells [iI dJ,iI gX,.string dK] 112 false]) (y.old kb [.cells [iI dJ,iI gX,.string dK] 112 false]) (y.old kt [.cells [iI dJ,iI gX,.string dK] 112 false]) (y.old kf [.cells [iI dJ,iI gX,.string dK] 112 false]) hs a0 a1 yY d1 d2)
noncomputable abbrev Dm (H:Hp) (s:ByteArray) (at_:Int) dJ gX dK sK (l_:List Hint):=au 1::vl (ai 105) H::au 1::vl (.agg #[.string s,iI at_]) H::.call (.tuple #[.agg #[iI dJ,iI gX,.string dK],iI sK]) H []::au 3::vl bJ (cl H dJ gX dK)::au 1::l_
theorem abl (b:Nat) (b2:Nat) (q:Nat) (s:ByteArray) (at_:Int)  {H:Hp} (y:Gd E G H) (kb:H.get b=some (.cells [.string s,iI at_] 135 false)) (kt:H.get b2=some (.cells [iI 0,iI 0,.string ⟨#[]⟩] 112 false)) (kf:H.get q=some (.cells [ai 105,ai 106,ai 107,ai 108] 162 false)) (hs:(s.size:Int)<100000) (a0:0≤at_) (a1:at_<s.size) (yY:G.n≤b2) (d1:b≠b2) (d2:q≠b2):aA E G 29 Qa [(1,pt b 0),(2,pt b2 0),(8,sc q 0 4 9),(9,iI 4),(10,iI 0)] H [b2] (fun x T H'=>(x=(.exit 0)∧T=bw [(2,pt b2 0)]∧(H'.get b2=some (.cells [.int .i64 0,.int .i64 0,.string ⟨#[]⟩] 112 false)))∨(x=.ret∧∃(z3:Int) (zk:Int) (za:Int) (zt:ByteArray),T=bw [(2,pt b2 0),(3,iI z3)]∧(H'.get b2=some (.cells [.int .i64 zk,.int .i64 za,.string zt] 112 false)∧0≤z3∧at_+z3≤s.size))):=by
 have An:=y.wf.lt kt
 have w1:aq E 162 q 0 H=some (ai 105):=bQ uG kf rfl
 have w2:aq E 135 b 0 H=some (.agg #[.string s,iI at_]):=o7 iO fS kb rfl rfl
 obtain ⟨dJ,gX,dK,sK,tb1,B4⟩:=VM s at_ hs a0 a1
 cases h1:(decide (sK>0)) with
 |true=>
  have q1:=aL h1
  have w3:aq E 3 b 1 (cl H dJ gX dK)=some (iI at_):=bQ aR (y.old kb [.cells [iI dJ,iI gX,.string dK] 112 false]) rfl
  have w4:aq E 112 (H.n+0) 0 (cB H dJ at_ dK)=some (.agg #[iI dJ,iI at_,.string dK]):=fQ cQ aX rfl rfl rfl
  obtain ⟨K1,e1⟩:∃ K_,K_=(cB H dJ at_ dK).set b2 (.cells [iI dJ,iI at_,.string dK] 112 false):=⟨_,rfl⟩
  have jq:K1.n=H.n+1:=by rw [e1,Hp.cT,bF] <;> rfl
  have eH:=aP e1
  exact aA.last' y (bf (Dm H s at_ dJ gX dK sK [aI,au 0,vl (iI at_) (cl H dJ gX dK),au 0,vl bJ (cB H dJ at_ dK),vl (.agg #[iI dJ,iI at_,.string dK]) (cB H dJ at_ dK),au 0,vl bJ K1,au 0]) [(2,pt b2 0),(3,iI sK)] .ret K1 [H.n+0,H.n+0,b2] (fun _ r_=>aE w1 w2 (show CC E 105 [.agg #[.string s,iI at_]] H (.ret (.tuple #[.agg #[iI dJ,iI gX,.string dK],iI sK])) H [] from B4 y) (show az E 112 (H.n+0) 0 (.agg #[iI dJ,iI gX,.string dK]) (jm H)=some (cl H dJ gX dK) from cN aX rfl rfl rfl rfl) h1 w3 (show az E 3 (H.n+0) 1 (iI at_) (cl H dJ gX dK)=some (cB H dJ at_ dK) from cN bY rfl rfl rfl rfl) w4<|cF (show az E 112 b2 0 (.agg #[iI dJ,iI at_,.string dK]) (cB H dJ at_ dK)=some K1 from (st aX (y.old kt [.cells [iI dJ,iI at_,.string dK] 112 false]) rfl rfl).trans (congrArg some e1.symm)) r_)) aj aG aJ (.inr (⟨rfl,sK,dJ,at_,dK,rfl,⟨eH,by omega,by omega⟩⟩))
 |false=>
  exact aA.next' y (bf (Dm H s at_ dJ gX dK sK [aF,au 1]) [(1,pt b 0),(2,pt b2 0),(8,sc q 0 4 9),(9,iI 4),(10,iI 1)] .normal (cl H dJ gX dK) [H.n+0] (fun _ r_=>eM w1 w2 (show CC E 105 [.agg #[.string s,iI at_]] H (.ret (.tuple #[.agg #[iI dJ,iI gX,.string dK],iI sK])) H [] from B4 y) (show az E 112 (H.n+0) 0 (.agg #[iI dJ,iI gX,.string dK]) (jm H)=some (cl H dJ gX dK) from cN aX rfl rfl rfl rfl) h1 r_)) aG (abm b b2 q s at_  (y.news [.cells [iI dJ,iI gX,.string dK] 112 false]) (y.old kb [.cells [iI dJ,iI gX,.string dK] 112 false]) (y.old kt [.cells [iI dJ,iI gX,.string dK] 112 false]) (y.old kf [.cells [iI dJ,iI gX,.string dK] 112 false]) hs a0 a1 yY d1 d2)
theorem Q3:E.func 86=some Tryz.f86:=ah
theorem Q4:bO Tryz.f86 1=true:=ah
theorem Lc (s:ByteArray) (at_:Int) {H:Hp} (y:Gd E G H) (hs:(s.size:Int)<100000) (a0:0≤at_) (a1:at_<s.size):aD E G 86 [.agg #[.string s,iI at_]] H [] (fun v H'=>∃(k:Int) (a:Int) (t:ByteArray) (n:Int),v=(.tuple #[.agg #[iI k,iI a,.string t],iI n])∧(0≤n∧at_+n≤s.size)):=by
 have g0:=y.n
 obtain ⟨_,_,H1,c1,bN,y1,eD⟩:=(abl (H.n+0) (H.n+1) (H.n+2) s at_ (y.news [.cells [.string s,iI at_] 135 false,.cells [iI 0,iI 0,.string ⟨#[]⟩] 112 false,.cells [ai 105,ai 106,ai 107,ai 108] 162 false]) (aB [.cells [.string s,iI at_] 135 false,.cells [iI 0,iI 0,.string ⟨#[]⟩] 112 false,.cells [ai 105,ai 106,ai 107,ai 108] 162 false] H 0 _ rfl) (aB [.cells [.string s,iI at_] 135 false,.cells [iI 0,iI 0,.string ⟨#[]⟩] 112 false,.cells [ai 105,ai 106,ai 107,ai 108] 162 false] H 1 _ rfl) (aB [.cells [.string s,iI at_] 135 false,.cells [iI 0,iI 0,.string ⟨#[]⟩] 112 false,.cells [ai 105,ai 106,ai 107,ai 108] 162 false] H 2 _ rfl) hs a0 a1 aa aa aa).code
 rcases eD with ⟨rfl,rfl,Cb⟩ |⟨rfl,ff,HT,HR,jc,rfl,Cb,cw,iX⟩
 ·have jq:H.n+3≤H1.n:=by have h:=bN.n;rw [bF] at h;exact h
  obtain ⟨K2,e2⟩:∃ K_,K_=H1.set (H.n+1) (.cells [iI 0,iI 0,.string ⟨#[]⟩] 112 false):=⟨_,rfl⟩
  have jI:K2.n=H1.n+0:=by rw [e2,Hp.cT] <;> rfl
  have dz:=aP e2
  exact aD.mk y (CC.de ok (f:=300) (hs:=[au 5,.loop [1,2,8,9,10] (.exit 0) (bw [(2,pt (H.n+1) 0)]) H1 [H.n+1],au 0,vl bJ K2,au 0]) (vs:=[.agg #[iI 0,iI 0,.string ⟨#[]⟩],iI 0]) (v:=(.tuple #[.agg #[iI 0,iI 0,.string ⟨#[]⟩],iI 0])) (H':=K2) (W:=[H.n+1,H.n+1]) Q3 Q4 (kn c1<|kn (show az E 112 (H.n+1) 0 (.agg #[iI 0,iI 0,.string ⟨#[]⟩]) H1=some K2 from (st aX Cb rfl rfl).trans (congrArg some e2.symm))<|kn (show aq E 112 (H.n+1) 0 K2=some (.agg #[iI 0,iI 0,.string ⟨#[]⟩]) from (o7 cQ aX dz rfl rfl))<|sw (iI 0)<|trivial) ah) aG aM ⟨0,0,⟨#[]⟩,0,rfl,by omega,by omega⟩
 ·have jq:H.n+3≤H1.n:=by have h:=bN.n;rw [bF] at h;exact h
  exact aD.mk y (CC.de ok (f:=300) (hs:=[au 5,.loop [1,2,8,9,10] .ret (bw [(2,pt (H.n+1) 0),(3,iI ff)]) H1 [H.n+1]]) (vs:=[.agg #[iI HT,iI HR,.string jc],iI ff]) (v:=(.tuple #[.agg #[iI HT,iI HR,.string jc],iI ff])) (H':=H1) (W:=[H.n+1]) Q3 Q4 (kn c1<|kn (show aq E 112 (H.n+1) 0 H1=some (.agg #[iI HT,iI HR,.string jc]) from (o7 cQ aX Cb rfl rfl))<|sw (iI ff)<|trivial) ah) aG aM ⟨HT,HR,jc,ff,rfl,by omega,by omega⟩
theorem Jo (s:ByteArray) (at_:Int) (hs:(s.size:Int)<100000) (a0:0≤at_) (a1:at_<s.size):∃(k:Int) (a:Int) (t:ByteArray) (n:Int),(0≤n∧at_+n≤s.size)∧∀{H:Hp},Gd E G H→CC E 86 [.agg #[.string s,iI at_]] H (.ret (.tuple #[.agg #[iI k,iI a,.string t],iI n])) H []:=by
 obtain ⟨_,_,c,_,_,k,a,t,n,rfl,hs⟩:=Lc s at_ eZ hs a0 a1
 exact ⟨k,a,t,n,hs,fun y=>aW (cq rfl) (qY _ _ _ _) c y⟩
def mo (ts:List (Int×Int×ByteArray)):List Value:=ts.flatMap fun x=>[.int .i64 x.1,.int .i64 x.2.1,.string x.2.2]
theorem Wn:∀ ts,(mo ts).length=3*ts.length
 |[]=>rfl
 |x::ts=>by
  have:=Wn ts
  simp only [mo,List.flatMap_cons,List.length_append,List.length_cons,List.length_nil] at this ⊢
  omega
theorem acg (ts:List (Int×Int×ByteArray)) (k a:Int) (t:ByteArray):((mo ts).drop 0).take (ts.length*3)++[Value.int .i64 k,.int .i64 a,.string t]=mo (ts++[(k,a,t)]):=by
 rw [List.drop_zero,List.take_of_length_le (by rw [Wn];omega)]
 simp [mo]
theorem SZ (ts:List (Int×Int×ByteArray)) (k a:Int) (t:ByteArray):(ts++[(k,a,t)]).length=ts.length+1:=by simp
theorem acd {ts:List (Int×Int×ByteArray)} (h:0<ts.length):∃(k a:Int) (t:ByteArray),Nat.ble (0+3) (mo ts).length=true∧((mo ts).drop 0).take 3=[.int .i64 k,.int .i64 a,.string t]:=by
 cases ts with
 |nil=>cases h
 |cons x ts=>
  refine ⟨x.1,x.2.1,x.2.2,?_,rfl⟩
  rw [Wn]
  exact Nat.ble_eq_true_of_le (by simp only [List.length_cons];omega)
theorem mS:tu E #[108,108] 112 3 32=true:=ah
noncomputable def TV:Code:=cz [1,1,1,1,0,0,0] (bH Tryz.f73)
noncomputable abbrev eu H fU fT fV:=news H [.cells [iI fU,iI fT,.string fV] 112 false]
noncomputable abbrev Co H fU fT fV p:=news H [.cells [iI fU,iI fT,.string fV] 112 false,.cells [iI p,.iface 41 (iI 5)] 140 false]
noncomputable abbrev rV H:=news H [.cells [iI 0,iI 0,.string ⟨#[]⟩] 112 false]
noncomputable abbrev oF H fU fT fV:=news H [.cells [iI fU,iI fT,.string fV] 112 false,.cells [iI fU,iI fT,.string fV] 112 false]
noncomputable abbrev Dn (p:Int) (H:Hp) (s:ByteArray) yc fU fT fV AY (l_:List Hint):=au 0::vl (iI p) H::au 1::aI::vl (.agg #[.string s,iI p]) H::.call (iI yc) H []::au 1::aF::vl (.agg #[.string s,iI p]) H::.call (.tuple #[.agg #[iI fU,iI fT,.string fV],iI AY]) H []::au 3::vl bJ (eu H fU fT fV)::au 1::l_
theorem Za (b:Nat) (s:ByteArray):∀(m:Nat) (p:Int) (q:Nat) (ts:List (Int×Int×ByteArray)) (H:Hp),Gd E G H→(kb:H.get b=some (.cells [.string s,iI p] 135 false))→(kq:H.get q=some (.cells (mo ts) 112 false))→(hs:(s.size:Int)<100000)→(gb:G.n≤b)→(x0:0≤p)→(x1:p≤s.size)→(b0:0<ts.length)→(bl:(ts.length:Int)≤p)→(gq:G.n≤q)→(dq:q≠b)→((s.size:Int)-p).toNat=m→
  aA E G 52 TV [(0,.string s),(4,sc q 0 ts.length 6),(5,pt b 0)] H [b,q] (fun x T H'=>(x=(.exit 0)∧T=bw [(4,.slice none 0 0)])∨(x=(.exit 0)∧∃(z_q:Nat) (L4:List (Int×Int×ByteArray)),T=bw [(4,sc z_q 0 L4.length 6)]∧(H'.get z_q=some (.cells (mo L4) 112 false)∧0<L4.length))∨(x=.ret∧∃(z_p:Nat),T=bw [(2,.slice none 0 0),(3,.iface 128 (pt z_p 0))])):=by
 intro m
 induction m using Nat.strongRecOn with
 |_ m ih=>
 intro p q ts H y kb kq hs gb x0 x1 b0 bl gq dq hm
 have g0:=y.n
 have Hi:=y.wf.lt kb
 have R0:=y.wf.lt kq
 have w1:aq E 3 b 1 H=some (iI p):=bQ aR kb rfl
 cases h1:(decide (p<(s.size:Int))) with
 |true=>
  have q1:=aL h1
  have w2:aq E 135 b 0 H=some (.agg #[.string s,iI p]):=o7 iO fS kb rfl rfl
  obtain ⟨yc,bl1,KK⟩:=Jk s p hs aa aa
  cases h2:(decide (yc>0)) with
  |true=>
   have q2:=aL h2
   have w3:=aC (p+yc)
   obtain ⟨K1,e1⟩:∃ K_,K_=H.set b (.cells [.string s,iI (p+yc)] 135 false):=⟨_,rfl⟩
   have y1:Gd E G K1:=e1▸y.set _ aa aa
   have jq:K1.n=H.n+0:=by rw [e1,Hp.cT] <;> rfl
   have gN:=aP e1
   have B6:=cZ e1 aa kq
   exact aA.nN y (bf [au 0,vl (iI p) H,au 1,aI,vl (.agg #[.string s,iI p]) H,.call (iI yc) H [],au 1,aI,au 0,vl (iI p) H,au 0,.as (iI (p+yc)),au 0,vl bJ K1] [(0,.string s),(4,sc q 0 ts.length 6),(5,pt b 0)] .normal K1 [b] (fun _ r_=>aE w1 h1 w2 (show CC E 85 [.agg #[.string s,iI p]] H (.ret (iI yc)) H [] from KK y) h2 w1 w3 (show az E 3 b 1 (iI (p+yc)) H=some K1 from (st bY kb rfl rfl).trans (congrArg some e1.symm)) r_)) aj aG (ih _ aa (p+yc) q ts _ y1 gN B6 hs gb aa aa b0 aa aa aa rfl)
  |false=>
   obtain ⟨fU,fT,fV,AY,tb2,Rx⟩:=Jo s p hs aa aa
   cases h3:(AY==0) with
   |true=>
    have w3:aq E 3 b 1 (eu H fU fT fV)=some (iI p):=bQ aR (y.old kb [.cells [iI fU,iI fT,.string fV] 112 false]) rfl
    exact aA.last' y (bf (Dn p H s yc fU fT fV AY [aI,au 0,vl (iI p) (eu H fU fT fV),au 5]) [(2,.slice none 0 0),(3,.iface 128 (pt (H.n+1) 0))] .ret (Co H fU fT fV p) [H.n+0] (fun _ r_=>aE w1 h1 w2 (show CC E 85 [.agg #[.string s,iI p]] H (.ret (iI yc)) H [] from KK y) h2 w2 (show CC E 86 [.agg #[.string s,iI p]] H (.ret (.tuple #[.agg #[iI fU,iI fT,.string fV],iI AY])) H [] from Rx y) (show az E 112 (H.n+0) 0 (.agg #[iI fU,iI fT,.string fV]) (rV H)=some (eu H fU fT fV) from cN aX rfl rfl rfl rfl)<|aE h3 ag ag w3 ag ag ag ag<|eY ag ag ag r_)) aj aG aJ (.inr (.inr (⟨rfl,H.n+1,rfl⟩)))
   |false=>
    have q3:=bK h3
    have w3:aq E 112 (H.n+0) 0 (eu H fU fT fV)=some (.agg #[iI fU,iI fT,.string fV]):=fQ cQ aX rfl rfl rfl
    obtain ⟨K1,e1⟩:∃ K_,K_=((oF H fU fT fV).set q .dead).new (.cells (mo (ts++[(fU,fT,fV)])) 112 false):=⟨_,rfl⟩
    have y1:Gd E G K1:=xN (y.news [.cells [iI fU,iI fT,.string fV] 112 false,.cells [iI fU,iI fT,.string fV] 112 false]) e1 aa (by rw [bF];simp only [List.length_cons,List.length_nil];omega)
    have jq:K1.n=H.n+3:=by rw [Ek e1,bF] <;> rfl
    have cx:K1.get (H.n+2)=some (.cells (mo (ts++[(fU,fT,fV)])) 112 false):=sM e1
    have gN:=iM (y.news [.cells [iI fU,iI fT,.string fV] 112 false,.cells [iI fU,iI fT,.string fV] 112 false]) e1 aa (y.old kb [.cells [iI fU,iI fT,.string fV] 112 false,.cells [iI fU,iI fT,.string fV] 112 false])
    have w4:aq E 3 b 1 K1=some (iI p):=bQ aR gN rfl
    have w5:=aC (p+AY)
    obtain ⟨K2,e2⟩:∃ K_,K_=K1.set b (.cells [.string s,iI (p+AY)] 135 false):=⟨_,rfl⟩
    have y2:Gd E G K2:=e2▸y1.set _ aa aa
    have jI:K2.n=K1.n+0:=by rw [e2,Hp.cT] <;> rfl
    have wg:=aP e2
    have KW:=cZ e2 aa cx
    exact aA.nN y (bf (Dn p H s yc fU fT fV AY [aF,au 0,vl (.agg #[iI fU,iI fT,.string fV]) (eu H fU fT fV),au 0,.val (sc (H.n+2) 0 ((ts++[(fU,fT,fV)]).length) 6) K1 [q] [q,H.n+1],au 1,vl (iI p) K1,au 0,.as (iI (p+AY)),au 0,vl bJ K2]) [(0,.string s),(4,sc (H.n+2) 0 ((ts++[(fU,fT,fV)]).length) 6),(5,pt b 0)] .normal K2 [H.n+0,q,b] (fun _ r_=>aE w1 h1 w2 (show CC E 85 [.agg #[.string s,iI p]] H (.ret (iI yc)) H [] from KK y) h2 w2 (show CC E 86 [.agg #[.string s,iI p]] H (.ret (.tuple #[.agg #[iI fU,iI fT,.string fV],iI AY])) H [] from Rx y) (show az E 112 (H.n+0) 0 (.agg #[iI fU,iI fT,.string fV]) (rV H)=some (eu H fU fT fV) from cN aX rfl rfl rfl rfl)<|fG h3 w3 (show ee E #[108,108] (sc q 0 ts.length 6) (sc (H.n+1) 0 1 3) (oF H fU fT fV)=some (sc (H.n+2) 0 ((ts++[(fU,fT,fV)]).length) 6,K1,[q],[q,H.n+1]) from (rz mS rfl (show n9 (oF H fU fT fV) 3 (sc (H.n+1) 0 1 3)=some (1,[iI fU,iI fT,.string fV],[H.n+1]) from kK (aB [.cells [iI fU,iI fT,.string fV] 112 false,.cells [iI fU,iI fT,.string fV] 112 false] H 1 _ rfl) (dm rfl)) rfl (y.old kq [.cells [iI fU,iI fT,.string fV] 112 false,.cells [iI fU,iI fT,.string fV] 112 false]) (by rw [Wn];omega) aa).trans (by rw [acg ts fU fT fV,SZ ts fU fT fV,e1] <;> rfl)) w4 w5 (show az E 3 b 1 (iI (p+AY)) K1=some K2 from (st bY gN rfl rfl).trans (congrArg some e2.symm)) r_)) aG aG (ih _ aa (p+AY) (H.n+2) (ts++[(fU,fT,fV)]) _ y2 wg KW hs gb aa aa aj (by simp;omega) aa aa rfl)
 |false=>
  exact aA.last' y (bf [au 0,vl (iI p) H,au 1,aF] [(4,sc q 0 ts.length 6)] (.exit 0) H [] (fun _ r_=>cU w1 h1 r_)) aj aM aJ (.inr (.inl (⟨rfl,q,ts,rfl,⟨kq,b0⟩⟩)))
noncomputable def TU:Code:=cz [1,1,1,1,0,0,0] (bH Tryz.f73)
noncomputable abbrev lW H fU fT fV:=news H [.cells [iI fU,iI fT,.string fV] 112 false,.cells [iI fU,iI fT,.string fV] 112 false,.cells [iI fU,iI fT,.string fV] 112 false]
noncomputable abbrev Dp (p:Int) (H:Hp) (s:ByteArray) yc fU fT fV AY (l_:List Hint):=au 0::vl (iI p) H::au 1::aI::vl (.agg #[.string s,iI p]) H::.call (iI yc) H []::au 1::aF::vl (.agg #[.string s,iI p]) H::.call (.tuple #[.agg #[iI fU,iI fT,.string fV],iI AY]) H []::au 3::vl bJ (eu H fU fT fV)::au 1::l_
theorem Y9 (b:Nat) (s:ByteArray):∀(m:Nat) (p:Int) (H:Hp),Gd E G H→(kb:H.get b=some (.cells [.string s,iI p] 135 false))→(hs:(s.size:Int)<100000)→(gb:G.n≤b)→(x0:0≤p)→(x1:p≤s.size)→((s.size:Int)-p).toNat=m→
  aA E G 52 TU [(0,.string s),(4,.slice none 0 0),(5,pt b 0)] H [b] (fun x T H'=>(x=(.exit 0)∧T=bw [(4,.slice none 0 0)])∨(x=(.exit 0)∧∃(z_q:Nat) (L4:List (Int×Int×ByteArray)),T=bw [(4,sc z_q 0 L4.length 6)]∧(H'.get z_q=some (.cells (mo L4) 112 false)∧0<L4.length))∨(x=.ret∧∃(z_p:Nat),T=bw [(2,.slice none 0 0),(3,.iface 128 (pt z_p 0))])):=by
 intro m
 induction m using Nat.strongRecOn with
 |_ m ih=>
 intro p H y kb hs gb x0 x1 hm
 have g0:=y.n
 have Hi:=y.wf.lt kb
 have w1:aq E 3 b 1 H=some (iI p):=bQ aR kb rfl
 cases h1:(decide (p<(s.size:Int))) with
 |true=>
  have q1:=aL h1
  have w2:aq E 135 b 0 H=some (.agg #[.string s,iI p]):=o7 iO fS kb rfl rfl
  obtain ⟨yc,bl1,KK⟩:=Jk s p hs aa aa
  cases h2:(decide (yc>0)) with
  |true=>
   have q2:=aL h2
   have w3:=aC (p+yc)
   obtain ⟨K1,e1⟩:∃ K_,K_=H.set b (.cells [.string s,iI (p+yc)] 135 false):=⟨_,rfl⟩
   have y1:Gd E G K1:=e1▸y.set _ aa aa
   have jq:K1.n=H.n+0:=by rw [e1,Hp.cT] <;> rfl
   have gN:=aP e1
   exact aA.nN y (bf [au 0,vl (iI p) H,au 1,aI,vl (.agg #[.string s,iI p]) H,.call (iI yc) H [],au 1,aI,au 0,vl (iI p) H,au 0,.as (iI (p+yc)),au 0,vl bJ K1] [(0,.string s),(4,.slice none 0 0),(5,pt b 0)] .normal K1 [b] (fun _ r_=>aE w1 h1 w2 (show CC E 85 [.agg #[.string s,iI p]] H (.ret (iI yc)) H [] from KK y) h2 w1 w3 (show az E 3 b 1 (iI (p+yc)) H=some K1 from (st bY kb rfl rfl).trans (congrArg some e1.symm)) r_)) aj aG (ih _ aa (p+yc) _ y1 gN hs gb aa aa rfl)
  |false=>
   obtain ⟨fU,fT,fV,AY,tb2,Rx⟩:=Jo s p hs aa aa
   cases h3:(AY==0) with
   |true=>
    have w3:aq E 3 b 1 (eu H fU fT fV)=some (iI p):=bQ aR (y.old kb [.cells [iI fU,iI fT,.string fV] 112 false]) rfl
    exact aA.last' y (bf (Dp p H s yc fU fT fV AY [aI,au 0,vl (iI p) (eu H fU fT fV),au 5]) [(2,.slice none 0 0),(3,.iface 128 (pt (H.n+1) 0))] .ret (Co H fU fT fV p) [H.n+0] (fun _ r_=>aE w1 h1 w2 (show CC E 85 [.agg #[.string s,iI p]] H (.ret (iI yc)) H [] from KK y) h2 w2 (show CC E 86 [.agg #[.string s,iI p]] H (.ret (.tuple #[.agg #[iI fU,iI fT,.string fV],iI AY])) H [] from Rx y) (show az E 112 (H.n+0) 0 (.agg #[iI fU,iI fT,.string fV]) (rV H)=some (eu H fU fT fV) from cN aX rfl rfl rfl rfl)<|aE h3 ag ag w3 ag ag ag ag<|eY ag ag ag r_)) aj aG aJ (.inr (.inr (⟨rfl,H.n+1,rfl⟩)))
   |false=>
    have q3:=bK h3
    have w3:aq E 112 (H.n+0) 0 (eu H fU fT fV)=some (.agg #[iI fU,iI fT,.string fV]):=fQ cQ aX rfl rfl rfl
    have w4:aq E 3 b 1 (lW H fU fT fV)=some (iI p):=bQ aR (y.old kb [.cells [iI fU,iI fT,.string fV] 112 false,.cells [iI fU,iI fT,.string fV] 112 false,.cells [iI fU,iI fT,.string fV] 112 false]) rfl
    have w5:=aC (p+AY)
    obtain ⟨K1,e1⟩:∃ K_,K_=(lW H fU fT fV).set b (.cells [.string s,iI (p+AY)] 135 false):=⟨_,rfl⟩
    have y1:Gd E G K1:=e1▸(y.news [.cells [iI fU,iI fT,.string fV] 112 false,.cells [iI fU,iI fT,.string fV] 112 false,.cells [iI fU,iI fT,.string fV] 112 false]).set _ aa (by rw [bF];simp only [List.length_cons,List.length_nil];omega)
    have jq:K1.n=H.n+3:=by rw [e1,Hp.cT,bF] <;> rfl
    have cx:=cZ e1 aa (aB [.cells [iI fU,iI fT,.string fV] 112 false,.cells [iI fU,iI fT,.string fV] 112 false,.cells [iI fU,iI fT,.string fV] 112 false] H 2 _ rfl)
    have gN:=aP e1
    exact aA.nN y (bf (Dp p H s yc fU fT fV AY [aF,au 0,vl (.agg #[iI fU,iI fT,.string fV]) (eu H fU fT fV),au 0,.val (sc (H.n+2) 0 1 6) (lW H fU fT fV) [] [H.n+1],au 1,vl (iI p) (lW H fU fT fV),au 0,.as (iI (p+AY)),au 0,vl bJ K1]) [(0,.string s),(4,sc (H.n+2) 0 1 6),(5,pt b 0)] .normal K1 [H.n+0,b] (fun _ r_=>aE w1 h1 w2 (show CC E 85 [.agg #[.string s,iI p]] H (.ret (iI yc)) H [] from KK y) h2 w2 (show CC E 86 [.agg #[.string s,iI p]] H (.ret (.tuple #[.agg #[iI fU,iI fT,.string fV],iI AY])) H [] from Rx y) (show az E 112 (H.n+0) 0 (.agg #[iI fU,iI fT,.string fV]) (rV H)=some (eu H fU fT fV) from cN aX rfl rfl rfl rfl)<|fG h3 w3 (show ee E #[108,108] (.slice none 0 0) (sc (H.n+1) 0 1 3) (oF H fU fT fV)=some (sc (H.n+2) 0 1 6,lW H fU fT fV,[],[H.n+1]) from uH mS rfl (show n9 (oF H fU fT fV) 3 (sc (H.n+1) 0 1 3)=some (1,[iI fU,iI fT,.string fV],[H.n+1]) from kK (aB [.cells [iI fU,iI fT,.string fV] 112 false,.cells [iI fU,iI fT,.string fV] 112 false] H 1 _ rfl) (dm rfl)) rfl (by decide) (by decide)) w4 w5 (show az E 3 b 1 (iI (p+AY)) (lW H fU fT fV)=some K1 from (st bY (y.old kb [.cells [iI fU,iI fT,.string fV] 112 false,.cells [iI fU,iI fT,.string fV] 112 false,.cells [iI fU,iI fT,.string fV] 112 false]) rfl rfl).trans (congrArg some e1.symm)) r_)) aG aG (Za b s _ (p+AY) (H.n+2) ([(fU,fT,fV)]) _ y1 gN cx hs gb aa aa aj (by simp;omega) aa aa rfl)
 |false=>
  exact aA.last' y (bf [au 0,vl (iI p) H,au 1,aF] [(4,.slice none 0 0)] (.exit 0) H [] (fun _ r_=>cU w1 h1 r_)) aj aM aJ (.inl (⟨rfl,rfl⟩))
theorem GN:E.func 73=some Tryz.f73:=ah
theorem GO:bO Tryz.f73 1=true:=ah
noncomputable abbrev lX H s:=news H [.cells [.string s,iI 0] 135 false]
noncomputable abbrev wz H:=news H [.cells [.string ⟨#[]⟩,iI 0] 135 false]
theorem Y8 (s:ByteArray) {H:Hp} (y:Gd E G H) (hs:(s.size:Int)<100000):aD E G 73 [.string s] H [] (fun v H'=>v=.tuple #[.slice none 0 0,.nilIface]∨(∃(q:Nat) (ts:List (Int×Int×ByteArray)),v=.tuple #[sc q 0 ts.length 6,.nilIface]∧H'.get q=some (.cells (mo ts) 112 false)∧0<ts.length)∨v=.tuple #[.slice none 0 0,.iface 41 (iI 11)]∨∃ z,v=.tuple #[.slice none 0 0,.iface 128 (pt z 0)]):=by
 have g0:=y.n
 cases h1:(decide ((s.size:Int)>4000)) with
 |true=>
  exact bA y [au 3,aI,au 2] (.tuple #[.slice none 0 0,.iface 41 (iI 11)]) H GN GO (cF h1 aS) (.inr (.inr (.inl rfl)))
 |false=>
  have q1:=aQ h1
  obtain ⟨_,_,H1,c1,bN,y1,eD⟩:=(Y9 (H.n+0) s _ 0 _ (y.news [.cells [.string s,iI 0] 135 false]) (aB [.cells [.string s,iI 0] 135 false] H 0 _ rfl) hs aa aa aa rfl).code
  rcases eD with ⟨rfl,rfl⟩ |⟨rfl,Xn,Ti,rfl,nZ,sz_1⟩ |⟨rfl,Xm,rfl⟩
  ·have jq:H.n+1≤H1.n:=by have h:=bN.n;rw [bF] at h;exact h
   exact aD.mk y (dj [au 3,aF,au 3,vl bJ (lX H s),.loop [0,4,5] (.exit 0) (bw [(4,.slice none 0 0)]) H1 [H.n+0],au 2] (.tuple #[.slice none 0 0,.nilIface]) H1 [H.n+0,H.n+0] GN GO (eY h1 (show az E 135 (H.n+0) 0 (.agg #[.string s,iI 0]) (wz H)=some (lX H s) from cN fS rfl rfl rfl rfl) c1 aS)) aG aM (.inl rfl)
  ·have jq:H.n+1≤H1.n:=by have h:=bN.n;rw [bF] at h;exact h
   exact aD.mk y (dj [au 3,aF,au 3,vl bJ (lX H s),.loop [0,4,5] (.exit 0) (bw [(4,sc Xn 0 Ti.length 6)]) H1 [H.n+0],au 2] (.tuple #[sc Xn 0 Ti.length 6,.nilIface]) H1 [H.n+0,H.n+0] GN GO (eY h1 (show az E 135 (H.n+0) 0 (.agg #[.string s,iI 0]) (wz H)=some (lX H s) from cN fS rfl rfl rfl rfl) c1 aS)) aG aM (.inr (.inl ⟨_,_,rfl,nZ,sz_1⟩))
  ·have jq:H.n+1≤H1.n:=by have h:=bN.n;rw [bF] at h;exact h
   exact aD.mk y (dj [au 3,aF,au 3,vl bJ (lX H s),.loop [0,4,5] .ret (bw [(2,.slice none 0 0),(3,.iface 128 (pt Xm 0))]) H1 [H.n+0]] (.tuple #[.slice none 0 0,.iface 128 (pt Xm 0)]) H1 [H.n+0,H.n+0] GN GO (eY h1 (show az E 135 (H.n+0) 0 (.agg #[.string s,iI 0]) (wz H)=some (lX H s) from cN fS rfl rfl rfl rfl) c1 aS)) aG aM (.inr (.inr (.inr ⟨_,rfl⟩)))
theorem n7 {α β:Type} {P:Program} {s:Sem α} {f:α→Sem β} {a:α} (h:bU P s=some a):bU P (s >>= f)=bU P (f a):=lD h
noncomputable def NG:Array Field:=match bU E.P (underlying 112) with |some (.struct fs)=>fs |_=>#[]
noncomputable def tf (i:Nat):Field:=(NG.toList[i]?).getD default
theorem SW:NG=#[tf 0,tf 1,tf 2]:=ah
def BM (xs ys:Array Value) (f:Field) (s:Option Bool×Unit):Sem (ForInStep (Option Bool×Unit)):=
 if f.name≠ "_" then do
  let a ← part f.type xs f.offset
  let b ← part f.type ys f.offset
  let r ← Op.equalIn 9999 f.type a b
  if (!r)=true then pure (ForInStep.done (some false,())) else pure (ForInStep.yield (none,()))
 else pure (ForInStep.yield (none,()))
theorem vV {xs ys:Array Value} {f:Field} {a b:Value} {r:Bool} {s:Option Bool×Unit} (hn:decide (f.name= "_")=false) (ha:bU E.P (part f.type xs f.offset)=some a) (hb:bU E.P (part f.type ys f.offset)=some b) (hr:bU E.P (Op.equalIn 9999 f.type a b)=some r) :
  bU E.P (BM xs ys f s)=some (bif r then .yield (none,()) else .done (some false,())):=by
 unfold BM
 rw [if_pos (aQ hn),n7 ha,n7 hb,n7 hr]
 cases r <;> rfl
theorem Qo {xs ys:Array Value}:∀(fs:List Field),(∀ f∈fs,∀ s,∃ r:Bool,bU E.P (BM xs ys f s)=some (bif r then .yield (none,()) else .done (some false,())))→
  ∃ q:Option Bool,bU E.P (forIn fs ((none:Option Bool),()) (BM xs ys))=some (q,())
 |[],_=>⟨none,rfl⟩
 |f::fs,h=>by
  obtain ⟨r,hr⟩:=h f aj (none,())
  rw [List.forIn_cons,n7 hr]
  cases r with
  |false=>exact ⟨some false,rfl⟩
  |true=>exact Qo fs fun f hf=>h f (List.mem_cons_of_mem _ hf)
theorem ZG (k a:Int) (t s:ByteArray):∃ r:Bool,bU E.P (Op.equalIn (9999+1) 112 (.agg #[.int .i64 k,.int .i64 a,.string t]) (.agg #[.int .i64 1,.int .i64 0,.string s]))=some r:=by
 rw [Op.equalIn]
 rw [n7 (a:=.struct NG) ah]
 simp only []
 rw [n7 (a:=E.P) (by rfl)]
 rw [if_neg (by rw [show E.P.stoodInHeld 112=false by kernel_rfl];simp)]
 obtain ⟨q,hq⟩:=Qo (xs:=#[.int .i64 k,.int .i64 a,.string t]) (ys:=#[.int .i64 1,.int .i64 0,.string s]) [tf 0,tf 1,tf 2] (by
  intro f hf st
  simp only [List.mem_cons,aH,or_false] at hf
  rcases hf with rfl |rfl |rfl
  ·exact ⟨k==1,vV (a:=.int .i64 k) (b:=.int .i64 1) ah ah ah ah⟩
  ·exact ⟨a==0,vV (a:=.int .i64 a) (b:=.int .i64 0) ah ah ah ah⟩
  ·exact ⟨t==s,vV (a:=.string t) (b:=.string s) ah ah ah ah⟩)
 have Z3:bU E.P (forIn NG ((none:Option Bool),()) (BM #[.int .i64 k,.int .i64 a,.string t] #[.int .i64 1,.int .i64 0,.string s]))=some (q,()):=by
  rw [SW,← Array.forIn_toList];exact hq
 refine ⟨q.getD true,?_⟩
 refine (n7 Z3).trans ?_
 cases q <;> rfl
theorem acf (k a:Int) (t s:ByteArray):∃ r:Bool,Qp E 112 (.tmp 33) (.tmp 35) (.agg #[.int .i64 k,.int .i64 a,.string t]) (.agg #[.int .i64 1,.int .i64 0,.string s])=some (.bool r):=by
 obtain ⟨r,hr⟩:=ZG k a t s
 refine ⟨r,?_⟩
 have h:bU E.P (do eqGuard .eql 112 (.tmp 33) (.tmp 35) (.agg #[.int .i64 k,.int .i64 a,.string t]) (.agg #[.int .i64 1,.int .i64 0,.string s]);binOp .eql 112 (.agg #[.int .i64 k,.int .i64 a,.string t]) (.agg #[.int .i64 1,.int .i64 0,.string s]))=some (.bool r):=by
  rw [n7 (a:=()) ah]
  exact (n7 hr).trans rfl
 show (match bU E.P _ with |some v=>bif ground v then some v else none |none=>none)=_
 rw [h];rfl
def ju (ws:List ByteArray):List Value:=ws.map .string
theorem aeV {ws:List ByteArray} {i:Nat} (h:i<ws.length):∃ t,(ju ws)[i]?=some (.string t)∧t∈ws:=
 ⟨ws[i],by rw [ju,List.getElem?_map,bZ h];rfl,List.getElem_mem h⟩
def Bt (l:List Value):List ByteArray:=l.filterMap fun v=>match v with |.string s=>some s |_=>none
noncomputable def N7:Code:=cz [1,0,1,0,0] (bH Tryz.f75)
theorem SO (q:Nat) (ws:List ByteArray) (c:Nat) (s:ByteArray):∀(m:Nat) (x8:Int) (H:Hp),Gd E G H→(kq:H.get q=some (.cells (ju ws) 9 false))→(hl:ws.length<100000)→(x0:0≤x8)→(x1:x8≤(ws.length:Int))→((ws.length:Int)-x8).toNat=m→
  aA E G 19 N7 [(0,sc q 0 ws.length c),(1,.string s),(7,iI ((ws.length:Nat):Int)),(8,iI x8)] H [] (fun x T H'=>(x=(.exit 0)∧T=bw [])∨(x=.ret∧∃(z4:Int),T=bw [(4,iI z4)])):=by
 intro m
 induction m using Nat.strongRecOn with
 |_ m ih=>
 intro x8 H y kq hl x0 x1 hm
 cases h1:(decide (x8<((ws.length:Nat):Int))) with
 |true=>
  have q1:=aL h1
  have w1:0≤x8:=aa
  have w2:x8<((ws.length:Nat):Int):=aa
  obtain ⟨EU,Ru,ahe⟩:=aeV (ws:=ws) (i:=0+x8.toNat*1) aa
  have w3:aq E 9 q (0+x8.toNat*1) H=some (.string EU):=bQ bB kq Ru
  cases h2:(s.toList==EU.toList) with
  |true=>
   exact aA.last' y (bf [aI,au 4,.ck,vl (.string EU) H,aI,au 1] [(4,iI x8)] .ret H [] (fun _ r_=>eM h1 w1 w2 w3 h2 r_)) aj aM aM (.inr (⟨rfl,x8,rfl⟩))
  |false=>
   have w4:=aC (x8+1)
   exact aA.next' y (bf [aI,au 4,.ck,vl (.string EU) H,aF,.as (iI (x8+1)),au 0] [(0,sc q 0 ws.length c),(1,.string s),(7,iI ((ws.length:Nat):Int)),(8,iI (x8+1))] .normal H [] (fun _ r_=>fG h1 w1 w2 w3 h2 w4 r_)) aM (ih _ aa (x8+1) _ y kq hl aa aa rfl)
 |false=>
  exact aA.last' y (bf [aF] [] (.exit 0) H [] (fun _ r_=>cF h1 r_)) aj aM aM (.inl (⟨rfl,rfl⟩))
theorem GP:E.func 75=some Tryz.f75:=ah
theorem GQ:bO Tryz.f75 2=true:=ah
theorem O3 (q:Nat) (ws:List ByteArray) (c:Nat) (s:ByteArray) {H:Hp} (y:Gd E G H) (kq:H.get q=some (.cells (ju ws) 9 false)) (hl:ws.length<100000):aD E G 75 [sc q 0 ws.length c,.string s] H [] (fun v H'=>∃ n:Int,v=iI n):=by
 obtain ⟨_,_,H1,c1,bN,y1,eD⟩:=(SO q ws c s _ 0 _ y kq hl aa aa rfl).code
 rcases eD with ⟨rfl,rfl⟩ |⟨rfl,cL,rfl⟩
 ·exact bA y [au 3,.loop [0,1,7,8] (.exit 0) (bw []) H1 [],au 0] (iI (-1)) H1 GP GQ (cF c1 aS) ⟨_,rfl⟩
 ·exact bA y [au 3,.loop [0,1,7,8] .ret (bw [(4,iI cL)]) H1 []] (iI cL) H1 GP GQ (cF c1 aS) ⟨_,rfl⟩
theorem GL:E.func 59=some Tryz.f59:=ah
theorem GM:bO Tryz.f59 2=true:=ah
theorem AH (q:Nat) (ws:List ByteArray) (c:Nat) (s:ByteArray) {H:Hp} (y:Gd E G H) (kq:H.get q=some (.cells (ju ws) 9 false)) (hl:ws.length<100000):aD E G 59 [sc q 0 ws.length c,.string s] H [] (fun v H'=>∃ b,v=.bool b):=by
 obtain ⟨_,H1,c1,bN,y1,wi,rfl⟩:=O3 q ws c s y kq hl
 cases h1:(decide (wi≥0)) with
 |true=>
  exact bA y [au 2,.call (iI wi) H1 [],aI,au 0] (.bool true) H1 GL GM (cU c1 h1 aS) ⟨true,rfl⟩
 |false=>
  exact bA y [au 2,.call (iI wi) H1 [],aF,au 0] (.bool false) H1 GL GM (cU c1 h1 aS) ⟨false,rfl⟩
theorem Yb:E.func 60=some Tryz.f60:=ah
theorem Yc:bO Tryz.f60 0=true:=ah
theorem Nc  {H:Hp} (y:Gd E G H):aD E G 60 [] H [] (fun v H'=>∃ q,v=sc q 0 7 15∧H.n≤q∧H'.get q=some (.cells iw 9 false)):=by
 exact bA y [au 0,.call (sc (H.n+0) 0 7 15) (news H [.cells iw 9 false]) [],au 0] (sc (H.n+0) 0 7 15) (news H [.cells iw 9 false]) Yb Yc (cF (show CC E 72 [.string ⟨#[115,117,109,32,97,118,103,32,109,105,110,32,109,97,120,32,99,111,117,110,116,32,116,111,112,107,32,98,111,116,116,111,109,107]⟩] H (.ret (sc (H.n+0) 0 7 15)) (news H [.cells iw 9 false]) [] from BY y) aS) ⟨_,rfl,by omega,aB [.cells iw 9 false] H 0 _ rfl⟩
theorem tG:E.func 56=some Tryz.f56:=ah
theorem tH:bO Tryz.f56 1=true:=ah
noncomputable abbrev ku H2:=news H2 [.cells qS 9 false]
noncomputable abbrev Dq gq (H1:Hp) (H2:Hp) (l_:List Hint):=au 2::aF::au 0::.call (sc gq 0 7 15) H1 []::au 0::.call (.bool false) H2 []::au 1::.call (sc (H2.n+0) 0 8 17) (ku H2) []::au 0::l_
noncomputable abbrev oQ gq (H1:Hp) (H2:Hp) (H3:Hp) (l_:List Hint):=Dq gq H1 H2 (.call (.bool false) H3 []::au 1::l_)
theorem LJ (s:ByteArray) {H:Hp} (y:Gd E G H):aD E G 56 [.string s] H [] (fun v H'=>∃(b:Bool),v=(.bool b)):=by
 cases h1:(decide ((s.size:Int)>200)) with
 |true=>
  exact bA y [au 2,aI,au 4] (.bool false) H tG tH (cF h1 aS) ⟨false,rfl⟩
 |false=>
  have q1:=aQ h1
  obtain ⟨_,H1,c1,bN,y1,gq,rfl,hgq,kgq⟩:=Nc y
  obtain ⟨_,H2,c2,dc,y2,wb1,rfl⟩:=AH gq (Bt iw) 15 s y1 kgq (by decide)
  cases wb1 with
  |true=>
   exact bA y [au 2,aF,au 0,.call (sc gq 0 7 15) H1 [],au 0,.call (.bool true) H2 [],au 3] (.bool false) H2 tG tH (eY h1 c1 c2 aS) ⟨false,rfl⟩
  |false=>
   obtain ⟨_,H3,c3,gB,y3,wb2,rfl⟩:=AH (H2.n+0) (Bt qS) 17 s (y2.news [.cells qS 9 false]) (aB [.cells qS 9 false] H2 0 _ rfl) (by decide)
   cases wb2 with
   |true=>
    exact bA y (Dq gq H1 H2 [.call (.bool true) H3 [],au 1]) (.bool false) H3 tG tH (eM h1 c1 c2 (show CC E 72 [.string ⟨#[98,121,32,119,105,116,104,111,117,116,32,111,110,32,105,103,110,111,114,105,110,103,32,98,111,111,108,32,111,102,102,115,101,116,32,73,110,102,32,78,97,78]⟩] H2 (.ret (sc (H2.n+0) 0 8 17)) (ku H2) [] from iQ y2) c3 aS) ⟨false,rfl⟩
   |false=>
    have hs:(s.size:Int)<100000:=aa
    obtain ⟨_,H4,c4,rj,y4,Ht⟩:=Y8 s y3 hs
    rcases Ht with rfl |⟨tq,ts,rfl,ktq,hts⟩ |rfl |⟨tz,rfl⟩
    ·exact bA y (oQ gq H1 H2 H3 [.call (.tuple #[.slice none 0 0,.nilIface]) H4 [],au 14]) (.bool false) H4 tG tH (fG h1 c1 c2 (show CC E 72 [.string ⟨#[98,121,32,119,105,116,104,111,117,116,32,111,110,32,105,103,110,111,114,105,110,103,32,98,111,111,108,32,111,102,102,115,101,116,32,73,110,102,32,78,97,78]⟩] H2 (.ret (sc (H2.n+0) 0 8 17)) (ku H2) [] from iQ y2) c3 c4 aS) ⟨false,rfl⟩
    ·cases h5:(((ts.length:Nat):Int)==1) with
     |true=>
      have q5:=bW h5
      have w1:0≤(0:Int):=aa
      have w2:(0:Int)<((ts.length:Nat):Int):=aa
      obtain ⟨ek3,ea3,et3,adZ,aek⟩:=acd hts
      have w3:aq E 112 tq (0+(0:Int).toNat*3) H4=some (.agg #[iI ek3,iI ea3,.string et3]):=o7 cQ aX ktq adZ aek
      obtain ⟨te4,aei⟩:=acf ek3 ea3 et3 s
      exact bA y (oQ gq H1 H2 H3 [.call (.tuple #[sc tq 0 ts.length 6,.nilIface]) H4 [],au 9,aI,au 2,.ck,vl (.agg #[iI ek3,iI ea3,.string et3]) H4,au 1,vl (.bool te4) H4,au 1]) (.bool te4) H4 tG tH (aE h1 c1 c2 (show CC E 72 [.string ⟨#[98,121,32,119,105,116,104,111,117,116,32,111,110,32,105,103,110,111,114,105,110,103,32,98,111,111,108,32,111,102,102,115,101,116,32,73,110,102,32,78,97,78]⟩] H2 (.ret (sc (H2.n+0) 0 8 17)) (ku H2) [] from iQ y2) c3 c4 h5 w1<|eY w2 w3 aei aS) ⟨te4,rfl⟩
     |false=>
      exact bA y (oQ gq H1 H2 H3 [.call (.tuple #[sc tq 0 ts.length 6,.nilIface]) H4 [],au 9,aF,au 3]) (.bool false) H4 tG tH (fk h1 c1 c2 (show CC E 72 [.string ⟨#[98,121,32,119,105,116,104,111,117,116,32,111,110,32,105,103,110,111,114,105,110,103,32,98,111,111,108,32,111,102,102,115,101,116,32,73,110,102,32,78,97,78]⟩] H2 (.ret (sc (H2.n+0) 0 8 17)) (ku H2) [] from iQ y2) c3 c4 h5 aS) ⟨false,rfl⟩
    ·exact bA y (oQ gq H1 H2 H3 [.call (.tuple #[.slice none 0 0,.iface 41 (iI 11)]) H4 [],au 11]) (.bool false) H4 tG tH (fG h1 c1 c2 (show CC E 72 [.string ⟨#[98,121,32,119,105,116,104,111,117,116,32,111,110,32,105,103,110,111,114,105,110,103,32,98,111,111,108,32,111,102,102,115,101,116,32,73,110,102,32,78,97,78]⟩] H2 (.ret (sc (H2.n+0) 0 8 17)) (ku H2) [] from iQ y2) c3 c4 aS) ⟨false,rfl⟩
    ·exact bA y (oQ gq H1 H2 H3 [.call (.tuple #[.slice none 0 0,.iface 128 (pt tz 0)]) H4 [],au 11]) (.bool false) H4 tG tH (fG h1 c1 c2 (show CC E 72 [.string ⟨#[98,121,32,119,105,116,104,111,117,116,32,111,110,32,105,103,110,111,114,105,110,103,32,98,111,111,108,32,111,102,102,115,101,116,32,73,110,102,32,78,97,78]⟩] H2 (.ret (sc (H2.n+0) 0 8 17)) (ku H2) [] from iQ y2) c3 c4 aS) ⟨false,rfl⟩
theorem JQ (s:ByteArray):∃(b:Bool),∀{H:Hp},Gd E G H→CC E 56 [.string s] H (.ret (.bool b)) H []:=by
 obtain ⟨_,_,c,_,_,b,rfl⟩:=LJ s eZ
 exact ⟨b,fun y=>aW (cq rfl) (.ground rfl) c y⟩
def eF:Nat→Nat→Value
 |0,_=>.pointer none
 |_+1,b=>.pointer (some ⟨b,0,none⟩)
structure NP (xs:List Value):Prop where
 len:xs.length=258
 get:∀ i,2≤i→i<258→∃ b:Bool,xs[i]?=some (.bool b)
def gu (k i:Int):List Value:=.int .i64 k::.int .i64 i::List.replicate 256 (.bool false)
theorem NP.new (k i:Int):NP (gu k i):=⟨by unfold gu;rw [List.length_cons,List.length_cons,List.length_replicate],fun j h0 h1=>⟨false,by
 obtain ⟨j,rfl⟩:∃ k,j=k+2:=⟨j-2,by omega⟩
 simp only [gu,List.getElem?_cons_succ,List.getElem?_replicate]
 rw [if_pos aa]⟩⟩
theorem NP.set {xs:List Value} (h:NP xs) (i:Nat) (hi:2≤i) (b:Bool):NP (xs.set i (.bool b)):=⟨by simp [h.len],fun j h0 h1=>by
 rw [List.getElem?_set]
 by_cases e:i=j
 ·subst e;exact ⟨b,by simp [h.len,h1]⟩
 ·rw [if_neg e];exact h.get j h0 h1⟩
theorem TD:E.agg 173=some false:=ah
theorem Wm:E.size 173=some 1:=ah
theorem aal:E.agg 4=some false:=ah
theorem ab9:E.size 4=some 1:=ah
theorem Jw {H:Hp} {a o:Nat} {xs:List Value} {kd:Value} (hl:NP xs) (g:H.get a=some (.cells (xs++[kd]) 176 false)) (h0:2≤o) (h1:o<258):∃ b:Bool,aq E 4 a o H=some (.bool b):=by
 obtain ⟨b,hb⟩:=hl.get o h0 h1
 exact ⟨b,bQ aal g (by rw [List.getElem?_append_left (by rw [hl.len];exact h1)];exact hb)⟩
section
variable {H:Hp} {a:Nat} {xs:List Value} {kd:Value} (hl:NP xs) (g:H.get a=some (.cells (xs++[kd]) 176 false))
include hl g
theorem yJ:aq E 173 a 258 H=some kd:=bQ TD g (by
 have:=hl.len
 rw [List.getElem?_append_right aa,this];rfl)
theorem yK {x:Value} (hx:(Nat.beq x.cells.size 1&&x.cells.toList.all one)=true) (hc:x.cells.toList=[x]):az E 173 a 258 x H=some (H.set a (.cells (xs++[x]) 176 false)):=st Wm g (by
 have:Nat.ble (258+1) (xs++[kd]).length=true:=Nat.ble_eq_true_of_le (by simp [hl.len])
 rw [hx,this];rfl) (by
 have:=mh xs [kd] 0 x
 rw [hl.len] at this
 rw [hc]
 exact this)
theorem oO {o:Nat} {x:Bool} (h0:2≤o) (h1:o<258):az E 4 a o (.bool x) H=some (H.set a (.cells (xs.set o (.bool x)++[kd]) 176 false)):=st ab9 g (by
 have:Nat.ble (o+1) (xs++[kd]).length=true:=Nat.ble_eq_true_of_le (by simp [hl.len];omega)
 show (true&&_)=true
 rw [this];rfl) (by
 show splice (xs++[kd]) o [.bool x]=_
 rw [xH _ _ _ (by simp [hl.len];omega),List.set_append_left _ _ (by rw [hl.len];exact h1)])
end
def oy (ps:List Nat):List Value:=ps.map fun b=>.pointer (some ⟨b,0,none⟩)
theorem Y5 (ps:List Nat):(oy ps).length=ps.length:=by simp [oy]
theorem W7 (ps:List Nat) (b:Nat):((oy ps).drop 0).take (ps.length*1)++[Value.pointer (some ⟨b,0,none⟩)]=oy (ps++[b]):=by
 rw [List.drop_zero,List.take_of_length_le (by rw [Y5];omega)]
 simp [oy]
theorem Je (ps:List Nat) (b:Nat):(ps++[b]).length=ps.length+1:=by simp
theorem j3 {t kt vt:TypeId} {kd:TypeDesc} {H:Hp} {k ck:Nat} {l l':List Ob} {es es':List MapEntry} {key v:Value} (hu:E.ul t=some (.map kt vt)) (hk:E.ul kt=some kd) (hd:AS kd key=true) (hb:l[k]?=some (.map es ck)) (hp:D1 key v ck es=some (es',true)) (hl:l.set k (.map es' (ck+1))=l') :
  cH E t (.map (some (H.n+k))) key v (news H l)=some (bJ,news H l',[H.n+k],[H.n+k]):=by
 simp only [cH,hu,hk,aB l H k _ hb,hd,cond_true,hp]
 rw [rS l H k _ (List.getElem?_eq_some_iff.1 hb).1,hl]
abbrev PQ (s:ByteArray) (p:Nat) (at_:Int) (w:Nat) (v:Value) (H':Hp):Prop:=
 ∃(nb:Nat) (at' pH pF:Int) (w' wp':Nat),v=.pointer (some ⟨nb,0,none⟩)∧H'.get p=some (.cells [.string s,.int .i64 at',.int .i64 pH,.int .i64 pF,eF w' wp'] 151 false)∧at_≤at'∧at'≤s.size∧w≤w'∧(w'=0∨w'=1)
abbrev PR (s:ByteArray) (p:Nat) (at_:Int) (v:Value) (H':Hp):Prop:=
 ∃(nb:Nat) (at' pH pF:Int) (w' wp':Nat),v=.pointer (some ⟨nb,0,none⟩)∧H'.get p=some (.cells [.string s,.int .i64 at',.int .i64 pH,.int .i64 pF,eF w' wp'] 151 false)∧at_≤at'∧at'≤s.size∧(at_<at'∨0<w')∧(w'=0∨w'=1)
def vC (s:ByteArray) (n:Nat):Prop:=∀(p:Nat) (at_ dp nd:Int) (w wp:Nat) {H:Hp},Gd E G H→H.get p=some (.cells [.string s,.int .i64 at_,.int .i64 dp,.int .i64 nd,eF w wp] 151 false)→G.n≤p→(s.size:Int)<100000→0≤at_→at_≤s.size→(w=0∨w=1)→((s.size:Int)-at_).toNat<n→
    aD E G 98 [.pointer (some ⟨p,0,none⟩)] H [p] (PQ s p at_ w)
theorem Gi:E.func 116=some Tryz.f116:=ah
theorem Gj:bO Tryz.f116 3=true:=ah
theorem uY (p:Nat) (s:ByteArray) (at_:Int) (dp:Int) (nd:Int) (w:Nat) (wp:Nat) (k:Int) {H:Hp} (y:Gd E G H) (kp:H.get p=some (.cells [.string s,.int .i64 at_,.int .i64 dp,.int .i64 nd,eF w wp] 151 false)) (gp:G.n≤p) (hs:(s.size:Int)<100000) (a0:0≤at_) (a1:at_≤s.size) (hw:w=0∨w=1):aD E G 116 [pt p 0,iI k,.slice none 0 0] H [p] (fun v H'=>∃ nb xs pF,v=pt nb 0∧NP xs∧H.n≤nb∧H'.get nb=some (.cells (xs++[.slice none 0 0]) 176 false)∧H'.get p=some (.cells [.string s,.int .i64 at_,.int .i64 dp,.int .i64 pF,eF w wp] 151 false)):=by
 have jZ:=y.wf.lt kp
 have w1:aq E 3 p 3 H=some (iI nd):=bQ aR kp rfl
 obtain ⟨K1,e1⟩:∃ K_,K_=H.set p (.cells [.string s,iI at_,iI dp,iI (IntKind.i64.wrap (nd+1)),eF w wp] 151 false):=⟨_,rfl⟩
 have y1:Gd E G K1:=e1▸y.set _ aa aa
 have jq:K1.n=H.n+0:=by rw [e1,Hp.cT] <;> rfl
 have eK:=aP e1
 have w2:aq E 3 p 3 K1=some (iI (IntKind.i64.wrap (nd+1))):=bQ aR eK rfl
 exact aD.mk y (dj [au 3,vl (iI nd) H,au 2,vl bJ K1,au 3,vl (iI (IntKind.i64.wrap (nd+1))) K1,au 3] (pt (K1.n+0) 0) (news K1 [.cells ((gu k (IntKind.i64.wrap (nd+1)))++[.slice none 0 0]) 176 false]) [p] Gi Gj (eY w1 (show az E 3 p 3 (iI (IntKind.i64.wrap (nd+1))) H=some K1 from (st bY kp rfl rfl).trans (congrArg some e1.symm)) w2 aS)) aj aJ ⟨_,_,_,rfl,NP.new _ _,by omega,aB [.cells ((gu k (IntKind.i64.wrap (nd+1)))++[.slice none 0 0]) 176 false] K1 0 _ rfl,y1.old eK [.cells ((gu k (IntKind.i64.wrap (nd+1)))++[.slice none 0 0]) 176 false]⟩
theorem Wg (p:Nat) (s:ByteArray) (at_:Int) (dp:Int) (nd:Int) (w:Nat) (wp:Nat) (k:Int) (r:Nat) {H:Hp} (y:Gd E G H) (kp:H.get p=some (.cells [.string s,.int .i64 at_,.int .i64 dp,.int .i64 nd,eF w wp] 151 false)) (gp:G.n≤p) (hs:(s.size:Int)<100000) (a0:0≤at_) (a1:at_≤s.size) (hw:w=0∨w=1):aD E G 116 [pt p 0,iI k,sc r 0 1 3] H [p] (fun v H'=>∃ nb xs pF,v=pt nb 0∧NP xs∧H.n≤nb∧H'.get nb=some (.cells (xs++[sc r 0 1 3]) 176 false)∧H'.get p=some (.cells [.string s,.int .i64 at_,.int .i64 dp,.int .i64 pF,eF w wp] 151 false)):=by
 have jZ:=y.wf.lt kp
 have w1:aq E 3 p 3 H=some (iI nd):=bQ aR kp rfl
 obtain ⟨K1,e1⟩:∃ K_,K_=H.set p (.cells [.string s,iI at_,iI dp,iI (IntKind.i64.wrap (nd+1)),eF w wp] 151 false):=⟨_,rfl⟩
 have y1:Gd E G K1:=e1▸y.set _ aa aa
 have jq:K1.n=H.n+0:=by rw [e1,Hp.cT] <;> rfl
 have eK:=aP e1
 have w2:aq E 3 p 3 K1=some (iI (IntKind.i64.wrap (nd+1))):=bQ aR eK rfl
 exact aD.mk y (dj [au 3,vl (iI nd) H,au 2,vl bJ K1,au 3,vl (iI (IntKind.i64.wrap (nd+1))) K1,au 3] (pt (K1.n+0) 0) (news K1 [.cells ((gu k (IntKind.i64.wrap (nd+1)))++[sc r 0 1 3]) 176 false]) [p] Gi Gj (eY w1 (show az E 3 p 3 (iI (IntKind.i64.wrap (nd+1))) H=some K1 from (st bY kp rfl rfl).trans (congrArg some e1.symm)) w2 aS)) aj aJ ⟨_,_,_,rfl,NP.new _ _,by omega,aB [.cells ((gu k (IntKind.i64.wrap (nd+1)))++[sc r 0 1 3]) 176 false] K1 0 _ rfl,y1.old eK [.cells ((gu k (IntKind.i64.wrap (nd+1)))++[sc r 0 1 3]) 176 false]⟩
theorem Rd:E.func 99=some Tryz.f99:=ah
theorem Re:bO Tryz.f99 2=true:=ah
theorem qx (p:Nat) (s:ByteArray) (at_:Int) (dp:Int) (nd:Int) (w:Nat) (wp:Nat) (k:Int) {H:Hp} (y:Gd E G H) (kp:H.get p=some (.cells [.string s,.int .i64 at_,.int .i64 dp,.int .i64 nd,eF w wp] 151 false)) (gp:G.n≤p) (hs:(s.size:Int)<100000) (a0:0≤at_) (a1:at_≤s.size) (hw:w=0∨w=1):aD E G 99 [pt p 0,.iface 41 (iI k)] H [p] (fun v H'=>∃ nb pF wp',v=pt nb 0∧H'.get p=some (.cells [.string s,.int .i64 at_,.int .i64 dp,.int .i64 pF,eF 1 wp'] 151 false)):=by
 have jZ:=y.wf.lt kp
 have w1:aq E 128 p 4 H=some (eF w wp):=bQ jx kp rfl
 rcases hw with rfl |rfl
 ·have w2:aq E 3 p 1 H=some (iI at_):=bQ aR kp rfl
  obtain ⟨K1,e1⟩:∃ K_,K_=(news H [.cells [iI at_,.iface 41 (iI k)] 140 false]).set p (.cells [.string s,iI at_,iI dp,iI nd,pt (H.n+0) 0] 151 false):=⟨_,rfl⟩
  have y1:Gd E G K1:=e1▸(y.news [.cells [iI at_,.iface 41 (iI k)] 140 false]).set _ aa (by rw [bF];simp only [List.length_cons,List.length_nil];omega)
  have eK:=aP e1
  obtain ⟨_,H2,c2,dc,y2,iR,xs2,Jv,rfl,np2,Yx,kn2,yZ⟩:=uY p s at_ dp nd 1 (H.n+0) 2 y1 eK aa hs aa aa aa
  exact aD.mk y (dj [au 3,vl (eF 0 wp) H,au 4,vl (iI at_) H,au 4,vl bJ K1,au 0,.call (pt iR 0) H2 [p],au 0] (pt iR 0) H2 [p,p] Rd Re (gm w1 w2 (show az E 128 p 4 (pt (H.n+0) 0) (news H [.cells [iI at_,.iface 41 (iI k)] 140 false])=some K1 from (st O5 (y.old kp [.cells [iI at_,.iface 41 (iI k)] 140 false]) rfl rfl).trans (congrArg some e1.symm)) c2 aS)) aj aJ ⟨_,_,H.n+0,rfl,yZ⟩
 ·obtain ⟨_,H1,c1,bN,y1,fR,Wz,xR,rfl,VX,Vc,Ot,vr⟩:=uY p s at_ dp nd 1 wp 2 y kp aa hs aa aa aa
  exact aD.mk y (dj [au 3,vl (eF 1 wp) H,au 1,.call (pt fR 0) H1 [p],au 0] (pt fR 0) H1 [p] Rd Re (cU w1 c1 aS)) aj aJ ⟨_,_,wp,rfl,vr⟩
theorem A4:E.func 118=some Tryz.f118:=ah
theorem A5:bO Tryz.f118 2=true:=ah
noncomputable abbrev Dr (wp:Nat) (H:Hp) (at_:Int) (s:ByteArray) pE (l_:List Hint):=au 3::vl (eF 0 wp) H::au 4::vl (iI at_) H::au 2::vl (.string s) H::au 0::aI::au 5::vl (.string s) H::au 2::vl (iI at_) H::.ck::.call (iI pE) H []::l_
theorem qy (p:Nat) (s:ByteArray) (at_:Int) (dp:Int) (nd:Int) (w:Nat) (wp:Nat) (t:ByteArray) {H:Hp} (y:Gd E G H) (kp:H.get p=some (.cells [.string s,.int .i64 at_,.int .i64 dp,.int .i64 nd,eF w wp] 151 false)) (gp:G.n≤p) (hs:(s.size:Int)<100000) (a0:0≤at_) (a1:at_≤s.size) (hw:w=0∨w=1):aD E G 118 [pt p 0,.string t] H [] (fun v H'=>v=.bool false∨(v=.bool true∧w=0∧at_<s.size)):=by
 have w1:aq E 128 p 4 H=some (eF w wp):=bQ jx kp rfl
 rcases hw with rfl |rfl
 ·have w2:aq E 3 p 1 H=some (iI at_):=bQ aR kp rfl
  have w3:aq E 9 p 0 H=some (.string s):=bQ bB kp rfl
  cases h2:(decide (at_<(s.size:Int))) with
  |true=>
   have q2:=aL h2
   have w4:0≤at_:=aa
   have w5:at_<(s.size:Int):=aa
   obtain ⟨pE,s7⟩:=indexByte t (ak s at_)
   cases h3:(decide (pE≥0)) with
   |true=>
    exact bA y (Dr wp H at_ s pE [aI,au 1]) (.bool true) H A4 A5 (aE ag ag ag ag w1 ag ag ag<|aE ag ag ag w2 ag ag ag ag<|aE w3 ag ag h2 ag ag ag ag<|aE ag ag ag w3 ag ag ag ag<|aE w2 ag w4 w5 ag (show CC E 103 [.string t,uB (ak s at_)] H (.ret (iI pE)) H [] from s7 y) ag h3<|eY ag ag ag aS) (.inr ⟨rfl,by omega,by omega⟩)
   |false=>
    exact bA y (Dr wp H at_ s pE [aF,au 1]) (.bool false) H A4 A5 (aE ag ag ag ag w1 ag ag ag<|aE ag ag ag w2 ag ag ag ag<|aE w3 ag ag h2 ag ag ag ag<|aE ag ag ag w3 ag ag ag ag<|aE w2 ag w4 w5 ag (show CC E 103 [.string t,uB (ak s at_)] H (.ret (iI pE)) H [] from s7 y) ag h3<|eY ag ag ag aS) (.inl rfl)
  |false=>
   exact bA y [au 3,vl (eF 0 wp) H,au 4,vl (iI at_) H,au 2,vl (.string s) H,au 0,aF,au 3] (.bool false) H A4 A5 (aE ag ag ag ag w1 ag ag ag<|aE ag ag ag w2 ag ag ag ag<|aE w3 ag ag h2 ag ag ag ag<|cF ag aS) (.inl rfl)
 ·exact bA y [au 3,vl (eF 1 wp) H,au 5] (.bool false) H A4 A5 (aE ag ag ag ag w1 ag ag ag<|gm ag ag ag ag aS) (.inl rfl)
theorem MO:E.func 175=some Tryz.f175:=ah
theorem MP:bO Tryz.f175 1=true:=ah
theorem LC (p:Nat) (s:ByteArray) (at_:Int) (dp:Int) (nd:Int) (w:Nat) (wp:Nat) {H:Hp} (y:Gd E G H) (kp:H.get p=some (.cells [.string s,.int .i64 at_,.int .i64 dp,.int .i64 nd,eF w wp] 151 false)) (gp:G.n≤p) (hs:(s.size:Int)<100000) (a0:0≤at_) (a1:at_≤s.size) (hw:w=0∨w=1):aD E G 175 [pt p 0] H [p] (fun v H'=>(v=.tuple #[uB 0,.bool false]∧at_=s.size∧H'.get p=some (.cells [.string s,.int .i64 at_,.int .i64 dp,.int .i64 nd,eF w wp] 151 false))∨(∃ c,v=.tuple #[uB c,.bool true]∧0≤c∧c<256∧at_<s.size∧H'.get p=some (.cells [.string s,.int .i64 (at_+1),.int .i64 dp,.int .i64 nd,eF w wp] 151 false))):=by
 have jZ:=y.wf.lt kp
 have w1:aq E 3 p 1 H=some (iI at_):=bQ aR kp rfl
 have w2:aq E 9 p 0 H=some (.string s):=bQ bB kp rfl
 cases h1:(at_==(s.size:Int)) with
 |true=>
  have q1:=bW h1
  exact aD.mk y (dj [au 4,vl (iI at_) H,au 2,vl (.string s) H,au 0,aI,au 1] (.tuple #[uB 0,.bool false]) H [] MO MP (aE ag ag ag ag w1 ag ag ag<|fG ag w2 ag ag h1 ag aS)) aM aJ (.inl ⟨rfl,by omega,kp⟩)
 |false=>
  have q1:=bK h1
  have w3:=aC (at_+1)
  obtain ⟨K1,e1⟩:∃ K_,K_=H.set p (.cells [.string s,iI (at_+1),iI dp,iI nd,eF w wp] 151 false):=⟨_,rfl⟩
  have eK:=aP e1
  have w4:aq E 9 p 0 K1=some (.string s):=bQ bB eK rfl
  have w5:aq E 3 p 1 K1=some (iI (at_+1)):=bQ aR eK rfl
  have w6:=aC ((at_+1)-1)
  have w7:0≤((at_+1)-1):=aa
  have w8:((at_+1)-1)<(s.size:Int):=aa
  exact aD.mk y (dj [au 4,vl (iI at_) H,au 2,vl (.string s) H,au 0,aF,au 2,vl (iI at_) H,.as (iI (at_+1)),au 1,vl bJ K1,au 2,vl (.string s) K1,au 2,vl (iI (at_+1)) K1,.as (iI ((at_+1)-1)),.ck,au 1] (.tuple #[uB (ak s ((at_+1)-1)),.bool true]) K1 [p] MO MP (aE ag ag ag ag w1 ag ag ag<|aE ag w2 ag ag h1 ag w1 w3<|aE (show az E 3 p 1 (iI (at_+1)) H=some K1 from (st bY kp rfl rfl).trans (congrArg some e1.symm)) ag ag ag ag w4 ag ag<|aE ag ag w5 ag w6 ag w7 w8<|eY ag ag ag aS)) aj aJ (.inr ⟨_,rfl,eA _ _,eR _ _,by omega,eK⟩)
theorem uO:E.func 195=some Tryz.f195:=ah
theorem uP:bO Tryz.f195 1=true:=ah
theorem SH (p:Nat) (s:ByteArray) (at_:Int) (dp:Int) (nd:Int) (w:Nat) (wp:Nat) {H:Hp} (y:Gd E G H) (kp:H.get p=some (.cells [.string s,.int .i64 at_,.int .i64 dp,.int .i64 nd,eF w wp] 151 false)) (gp:G.n≤p) (hs:(s.size:Int)<100000) (a0:0≤at_) (a1:at_≤s.size) (hw:w=0∨w=1):aD E G 195 [pt p 0] H [p] (fun v H'=>(∃(c:Int) (at' pF:Int) (w' wp':Nat),v=.tuple #[uB c,.bool false]∧H'.get p=some (.cells [.string s,.int .i64 at',.int .i64 dp,.int .i64 pF,eF w' wp'] 151 false)∧0≤c∧c<256∧at_≤at'∧at'≤s.size∧w≤w'∧(w'=0∨w'=1)∧(at_<at'∨0<w'))∨(∃(c:Int) (at' pF:Int) (w' wp':Nat),v=.tuple #[uB c,.bool true]∧H'.get p=some (.cells [.string s,.int .i64 at',.int .i64 dp,.int .i64 pF,eF w' wp'] 151 false)∧0≤c∧c<256∧at_≤at'∧at'≤s.size∧w≤w'∧(w'=0∨w'=1)∧(at_<at'∨0<w')∧at_<s.size)):=by
 have w1:aq E 3 p 1 H=some (iI at_):=bQ aR kp rfl
 have w2:aq E 9 p 0 H=some (.string s):=bQ bB kp rfl
 cases h1:(at_==(s.size:Int)) with
 |true=>
  obtain ⟨_,H1,c1,bN,y1,fR,xR,AI,rfl,vr⟩:=qx p s at_ dp nd w wp 2 y kp aa hs aa aa aa
  exact aD.mk y (dj [au 4,vl (iI at_) H,au 2,vl (.string s) H,au 0,aI,au 3,.call (pt fR 0) H1 [p],au 1] (.tuple #[uB 0,.bool false]) H1 [p] uO uP (aE ag ag ag ag w1 ag ag ag<|aE ag w2 ag ag h1 ag ag ag<|cF c1 aS)) aj aJ (.inl ⟨0,at_,xR,1,AI,rfl,vr,by omega,by omega,by omega,by omega,by omega,by omega,by omega⟩)
 |false=>
  have q1:=bK h1
  obtain ⟨_,H1,c1,bN,y1,eD⟩:=qy p s at_ dp nd w wp ⟨#[93,91,94,45]⟩ y kp aa hs aa aa aa
  rcases eD with rfl |⟨rfl,Oi,Oh⟩
  ·have eK:=y.kept bN aH kp
   obtain ⟨_,H2,c2,dc,y2,oP⟩:=LC p s at_ dp nd w wp y1 eK aa hs aa aa aa
   rcases oP with ⟨rfl,ne2,yZ⟩ |⟨VS,rfl,na2,aeC,nl2,yZ⟩
   ·exact aD.mk y (dj [au 4,vl (iI at_) H,au 2,vl (.string s) H,au 0,aF,au 1,.call (.bool false) H1 [],au 1,.call (.tuple #[uB 0,.bool false]) H2 [p],au 9] (.tuple #[uB 0,.bool true]) H2 [p] uO uP (aE ag ag ag ag w1 ag ag ag<|aE ag w2 ag ag h1 ag ag ag<|gm c1 ag ag c2 aS)) aj aJ (.inr ⟨0,at_,nd,w,wp,rfl,yZ,by omega,by omega,by omega,by omega,by omega,by omega,by omega,by omega⟩)
   ·cases h4:(VS==92) with
    |true=>
     obtain ⟨_,H3,c3,gB,y3,AU⟩:=LC p s (at_+1) dp nd w wp y2 yZ aa hs aa aa aa
     rcases AU with ⟨rfl,ne3,Jc⟩ |⟨nc3,rfl,na3,ahV,nl3,Jc⟩
     ·obtain ⟨_,H4,c4,rj,y4,nb4,Pr,Py,rfl,Ty⟩:=qx p s (at_+1) dp nd w wp 2 y3 Jc aa hs aa aa aa
      exact aD.mk y (dj [au 4,vl (iI at_) H,au 2,vl (.string s) H,au 0,aF,au 1,.call (.bool false) H1 [],au 1,.call (.tuple #[uB VS,.bool true]) H2 [p],au 5,aI,au 0,.call (.tuple #[uB 0,.bool false]) H3 [p],au 8,.call (pt nb4 0) H4 [p],au 3] (.tuple #[uB 0,.bool false]) H4 [p,p,p] uO uP (aE ag ag ag ag w1 ag ag ag<|aE ag w2 ag ag h1 ag ag ag<|fk c1 ag ag c2 h4 c3 c4 aS)) aj aJ (.inl ⟨0,at_+1,Pr,1,Py,rfl,Ty,by omega,by omega,by omega,by omega,by omega,by omega,by omega⟩)
     ·exact aD.mk y (dj [au 4,vl (iI at_) H,au 2,vl (.string s) H,au 0,aF,au 1,.call (.bool false) H1 [],au 1,.call (.tuple #[uB VS,.bool true]) H2 [p],au 5,aI,au 0,.call (.tuple #[uB nc3,.bool true]) H3 [p],au 10] (.tuple #[uB nc3,.bool true]) H3 [p,p] uO uP (aE ag ag ag ag w1 ag ag ag<|aE ag w2 ag ag h1 ag ag ag<|fG c1 ag ag c2 h4 c3 aS)) aj aJ (.inr ⟨nc3,(at_+1)+1,nd,w,wp,rfl,Jc,by omega,by omega,by omega,by omega,by omega,by omega,by omega,by omega⟩)
    |false=>
     exact aD.mk y (dj [au 4,vl (iI at_) H,au 2,vl (.string s) H,au 0,aF,au 1,.call (.bool false) H1 [],au 1,.call (.tuple #[uB VS,.bool true]) H2 [p],au 5,aF,au 2] (.tuple #[uB VS,.bool true]) H2 [p] uO uP (aE ag ag ag ag w1 ag ag ag<|aE ag w2 ag ag h1 ag ag ag<|eM c1 ag ag c2 h4 aS)) aj aJ (.inr ⟨VS,at_+1,nd,w,wp,rfl,yZ,by omega,by omega,by omega,by omega,by omega,by omega,by omega,by omega⟩)
  ·have eK:=y.kept bN aH kp
   obtain ⟨_,H2,c2,dc,y2,iR,Jv,Pd,rfl,yZ⟩:=qx p s at_ dp nd w wp 2 y1 eK aa hs aa aa aa
   exact aD.mk y (dj [au 4,vl (iI at_) H,au 2,vl (.string s) H,au 0,aF,au 1,.call (.bool true) H1 [],au 2,.call (pt iR 0) H2 [p],au 1] (.tuple #[uB 0,.bool false]) H2 [p] uO uP (aE ag ag ag ag w1 ag ag ag<|aE ag w2 ag ag h1 ag ag ag<|gm c1 ag ag c2 aS)) aj aJ (.inl ⟨0,at_,Jv,1,Pd,rfl,yZ,by omega,by omega,by omega,by omega,by omega,by omega,by omega⟩)
theorem MQ:E.func 196=some Tryz.f196:=ah
theorem MS:bO Tryz.f196 2=true:=ah
theorem Zw (p:Nat) (s:ByteArray) (at_:Int) (dp:Int) (nd:Int) (w:Nat) (wp:Nat) (f:Int) {H:Hp} (y:Gd E G H) (kp:H.get p=some (.cells [.string s,.int .i64 at_,.int .i64 dp,.int .i64 nd,eF w wp] 151 false)) (gp:G.n≤p) (hs:(s.size:Int)<100000) (a0:0≤at_) (a1:at_≤s.size) (hw:w=0∨w=1) (f0:0≤f) (f1:f<s.size):aD E G 196 [pt p 0,iI f] H [] (fun v H'=>v=iI f∨v=iI (f+1)):=by
 have w1:aq E 9 p 0 H=some (.string s):=bQ bB kp rfl
 have w2:0≤f:=aa
 have w3:f<(s.size:Int):=aa
 cases h1:((ak s f)==92) with
 |true=>
  have w4:=aC (f+1)
  exact bA y [au 3,vl (.string s) H,au 0,.ck,aI,au 0,.as (iI (f+1)),au 0] (iI (f+1)) H MQ MS (eM w1 w2 w3 h1 w4 aS) (.inr rfl)
 |false=>
  exact bA y [au 3,vl (.string s) H,au 0,.ck,aF,au 1] (iI f) H MQ MS (gm w1 w2 w3 h1 aS) (.inl rfl)
noncomputable def aar:Code:=cz [1,1,0,1,0,0] (bH Tryz.f174)
theorem ac8 (nb:Nat):∀(m:Nat) (x7:Int) (xs:List Value) (H:Hp),Gd E G H→(nD:H.get nb=some (.cells (xs++[.slice none 0 0]) 176 false))→(np:NP xs)→(x0:0≤x7)→(x1:x7≤256)→(gn:G.n≤nb)→(256-x7).toNat=m→
  aA E G 17 aar [(3,pt nb 0),(7,iI x7)] H [nb] (fun x T H'=>(x=(.exit 0)∧T=bw [(3,pt nb 0)])):=by
 intro m
 induction m using Nat.strongRecOn with
 |_ m ih=>
 intro x7 xs H y nD np x0 x1 gn hm
 have Ck:=y.wf.lt nD
 cases h1:(decide (x7<256)) with
 |true=>
  have q1:=aL h1
  have w1:0≤x7:=aa
  have w2:x7<(256:Int):=aa
  obtain ⟨K1,e1⟩:∃ K_,K_=H.set nb (.cells ((xs.set (2+x7.toNat*1) (.bool true))++[.slice none 0 0]) 176 false):=⟨_,rfl⟩
  have y1:Gd E G K1:=e1▸y.set _ aa aa
  have eJ:=aP e1
  have w3:=aC (x7+1)
  exact aA.next' y (bf [aI,au 5,.ck,vl bJ K1,.as (iI (x7+1)),au 0] [(3,pt nb 0),(7,iI (x7+1))] .normal K1 [nb] (fun _ r_=>eM h1 w1 w2 (show az E 4 nb (2+x7.toNat*1) (.bool true) H=some K1 from (oO np nD aa aa).trans (congrArg some e1.symm)) w3 r_)) aj (ih _ aa (x7+1) (xs.set (2+x7.toNat*1) (.bool true)) _ y1 eJ (NP.set np (2+x7.toNat*1) aa true) aa aa gn rfl)
 |false=>
  exact aA.last' y (bf [aF] [(3,pt nb 0)] (.exit 0) H [] (fun _ r_=>cF h1 r_)) aj aM aJ ⟨rfl,rfl⟩
theorem Uv:E.func 174=some Tryz.f174:=ah
theorem Uw:bO Tryz.f174 1=true:=ah
theorem abU (p:Nat) (s:ByteArray) (at_:Int) (dp:Int) (nd:Int) (w:Nat) (wp:Nat) {H:Hp} (y:Gd E G H) (kp:H.get p=some (.cells [.string s,.int .i64 at_,.int .i64 dp,.int .i64 nd,eF w wp] 151 false)) (gp:G.n≤p) (hs:(s.size:Int)<100000) (a0:0≤at_) (a1:at_≤s.size) (hw:w=0∨w=1):aD E G 174 [pt p 0] H [p] (fun v H'=>∃ nb pF,v=pt nb 0∧H'.get p=some (.cells [.string s,.int .i64 at_,.int .i64 dp,.int .i64 pF,eF w wp] 151 false)):=by
 have jZ:=y.wf.lt kp
 obtain ⟨_,H1,c1,bN,y1,fR,Wz,xR,rfl,VX,Vc,Ot,vr⟩:=uY p s at_ dp nd w wp 1 y kp aa hs aa aa aa
 have Zc:=y1.wf.lt Ot
 obtain ⟨_,_,H2,c2,dc,y2,rfl,rfl⟩:=(ac8 fR _ 0 Wz _ y1 Ot VX aa aa aa rfl).code
 have jI:H1.n+0≤H2.n:=dc.n
 have lT:=y1.kept dc cu vr
 exact aD.mk y (dj [au 1,.call (pt fR 0) H1 [p],au 1,.loop [3,7] (.exit 0) (bw [(3,pt fR 0)]) H2 [fR],au 1] (pt fR 0) H2 [p,fR] Uv Uw (cU c1 c2 aS)) aG aJ ⟨_,_,rfl,lT⟩
theorem Ux:E.func 176=some Tryz.f176:=ah
theorem Uy:bO Tryz.f176 2=true:=ah
theorem Xg (p:Nat) (s:ByteArray) (at_:Int) (dp:Int) (nd:Int) (w:Nat) (wp:Nat) (c:Int) {H:Hp} (y:Gd E G H) (kp:H.get p=some (.cells [.string s,.int .i64 at_,.int .i64 dp,.int .i64 nd,eF w wp] 151 false)) (gp:G.n≤p) (hs:(s.size:Int)<100000) (a0:0≤at_) (a1:at_≤s.size) (hw:w=0∨w=1) (c0:0≤c) (c1:c<256):aD E G 176 [pt p 0,uB c] H [p] (fun v H'=>∃ nb pF,v=pt nb 0∧H'.get p=some (.cells [.string s,.int .i64 at_,.int .i64 dp,.int .i64 pF,eF w wp] 151 false)):=by
 have jZ:=y.wf.lt kp
 obtain ⟨_,H1,c1,bN,y1,fR,Wz,xR,rfl,VX,Vc,Ot,vr⟩:=uY p s at_ dp nd w wp 1 y kp aa hs aa aa aa
 have Zc:=y1.wf.lt Ot
 have w1:0≤c:=aa
 have w2:c<(256:Int):=aa
 obtain ⟨K2,e2⟩:∃ K_,K_=H1.set fR (.cells ((Wz.set (2+c.toNat*1) (.bool true))++[.slice none 0 0]) 176 false):=⟨_,rfl⟩
 have jI:K2.n=H1.n+0:=by rw [e2,Hp.cT] <;> rfl
 have lT:=cZ e2 aa vr
 exact aD.mk y (dj [au 1,.call (pt fR 0) H1 [p],au 4,.ck,vl bJ K2,au 1] (pt fR 0) K2 [p,fR] Ux Uy (gm c1 w1 w2 (show az E 4 fR (2+c.toNat*1) (.bool true) H1=some K2 from (oO VX Ot aa aa).trans (congrArg some e2.symm)) aS)) aG aJ ⟨_,_,rfl,lT⟩
noncomputable def XX:Code:=cz [1,1,1,1,0,0] (bH Tryz.f186)
theorem Nk (nb:Nat) (hi:Int):∀(m:Nat) (x8:Int) (xs:List Value) (H:Hp),Gd E G H→(nD:H.get nb=some (.cells (xs++[.slice none 0 0]) 176 false))→(np:NP xs)→(x0:0≤x8)→(hi0:0≤hi)→(hi1:hi<256)→(gn:G.n≤nb)→(256-x8).toNat=m→
  aA E G 67 XX [(1,pt nb 0),(5,.bool true),(6,uB hi),(8,iI x8)] H [nb] (fun x T H'=>(x=(.exit 0)∧∃(Tk:List Value),T=bw []∧(NP Tk∧H'.get nb=some (.cells (Tk++[.slice none 0 0]) 176 false)))):=by
 intro m
 induction m using Nat.strongRecOn with
 |_ m ih=>
 intro x8 xs H y nD np x0 hi0 hi1 gn hm
 have Ck:=y.wf.lt nD
 have w1:=aC hi
 cases h1:(decide (x8≤hi)) with
 |true=>
  have q1:=aL h1
  have w2:0≤x8:=aa
  have w3:x8<(256:Int):=aa
  obtain ⟨K1,e1⟩:∃ K_,K_=H.set nb (.cells ((xs.set (2+x8.toNat*1) (.bool true))++[.slice none 0 0]) 176 false):=⟨_,rfl⟩
  have y1:Gd E G K1:=e1▸y.set _ aa aa
  have eJ:=aP e1
  have w4:=aC (x8+1)
  exact aA.next' y (bf [au 3,.as (iI hi),aI,au 4,.ck,vl bJ K1,au 0,.as (iI (x8+1)),au 0] [(1,pt nb 0),(5,.bool true),(6,uB hi),(8,iI (x8+1))] .normal K1 [nb] (fun _ r_=>fG w1 h1 w2 w3 (show az E 4 nb (2+x8.toNat*1) (.bool true) H=some K1 from (oO np nD aa aa).trans (congrArg some e1.symm)) w4 r_)) aj (ih _ aa (x8+1) (xs.set (2+x8.toNat*1) (.bool true)) _ y1 eJ (NP.set np (2+x8.toNat*1) aa true) aa hi0 hi1 gn rfl)
 |false=>
  exact aA.last' y (bf [au 3,.as (iI hi),aF,au 0] [] (.exit 0) H [] (fun _ r_=>cU w1 h1 r_)) aj aM aJ ⟨rfl,xs,rfl,⟨np,nD⟩⟩
noncomputable def XW:Code:=cz [1,1,1,1,0,0] (bH Tryz.f186)
theorem Nj (nb:Nat) (hi:Int) (x:Int)  {H:Hp} (y:Gd E G H):aA E G 67 XW [(1,pt nb 0),(5,.bool false),(6,uB hi),(8,iI x)] H [] (fun x T H'=>(x=(.exit 0)∧T=bw [])):=by
 exact aA.last' y (bf [au 2] [] (.exit 0) H [] (fun _ r_=>r_)) aj aM aM ⟨rfl,rfl⟩
theorem uM:E.func 186=some Tryz.f186:=ah
theorem uN:bO Tryz.f186 2=true:=ah
noncomputable abbrev sB xP (H1:Hp) (p:Nat) (H2:Hp) o6 (K3:Hp) (l_:List Hint):=au 0::.call (.tuple #[uB xP,.bool true]) H1 [p]::au 9::.call (.bool true) H2 []::au 3::vl (iI o6) H2::.as (iI (o6+1))::au 1::vl bJ K3::au 2::vl (iI (o6+1)) K3::au 1::l_
theorem LB (p:Nat) (s:ByteArray) (at_:Int) (dp:Int) (nd:Int) (w:Nat) (wp:Nat) (nb:Nat) (xs:List Value) {H:Hp} (y:Gd E G H) (kp:H.get p=some (.cells [.string s,.int .i64 at_,.int .i64 dp,.int .i64 nd,eF w wp] 151 false)) (gp:G.n≤p) (hs:(s.size:Int)<100000) (a0:0≤at_) (a1:at_≤s.size) (hw:w=0∨w=1) (nD:H.get nb=some (.cells (xs++[.slice none 0 0]) 176 false)) (np:NP xs) (gn:G.n≤nb) (dn:p≠nb):aD E G 186 [pt p 0,pt nb 0] H [p,nb] (fun v H'=>∃(xs':List Value) (at' pF:Int) (w' wp':Nat),v=bJ∧NP xs'∧H'.get nb=some (.cells (xs'++[.slice none 0 0]) 176 false)∧H'.get p=some (.cells [.string s,.int .i64 at',.int .i64 dp,.int .i64 pF,eF w' wp'] 151 false)∧at_≤at'∧at'≤s.size∧w≤w'∧(w'=0∨w'=1)∧(at_<at'∨0<w')):=by
 have jZ:=y.wf.lt kp
 obtain ⟨_,H1,c1,bN,y1,eD⟩:=SH p s at_ dp nd w wp y kp aa hs aa aa aa
 rcases eD with ⟨xP,o6,xR,JZ,AI,rfl,vr,XL,XM,Yk,ei,HW,Ol,lM⟩ |⟨xP,o6,xR,JZ,AI,rfl,vr,XL,XM,Yk,ei,HW,Ol,lM,he1⟩
 ·have w1:=aC xP
  obtain ⟨_,_,H2,c2,dc,y2,rfl,rfl⟩:=(Nj nb xP xP y1).code
  have eJ:=y.kept bN cu nD
  have jD:=y1.kept dc aH eJ
  have lT:=y1.kept dc aH vr
  exact aD.mk y (dj [au 0,.call (.tuple #[uB xP,.bool false]) H1 [p],au 10,.as (iI xP),au 0,.loop [1,5,6,8] (.exit 0) (bw []) H2 []] (.tuple #[]) H2 [p] uM uN (eY c1 w1 c2 aS)) aj aJ ⟨_,o6,xR,JZ,AI,rfl,np,jD,lT,by omega,by omega,by omega,by omega,by omega⟩
 ·have jq:H.n+0≤H1.n:=bN.n
  obtain ⟨_,H2,c2,dc,y2,oP⟩:=qy p s o6 dp xR JZ AI ⟨#[45]⟩ y1 vr aa hs aa aa aa
  rcases oP with rfl |⟨rfl,adY,adU⟩
  ·have w1:=aC xP
   have eJ:=y.kept bN cu nD
   have jD:=y1.kept dc aH eJ
   obtain ⟨_,_,H3,c3,gB,y3,rfl,afe,rfl,aeJ,abk⟩:=(Nk nb xP _ xP xs _ y2 jD np aa aa aa aa rfl).code
   have lT:=y1.kept dc aH vr
   have AQ:=y2.kept gB cu lT
   exact aD.mk y (dj [au 0,.call (.tuple #[uB xP,.bool true]) H1 [p],au 9,.call (.bool false) H2 [],au 1,.as (iI xP),au 0,.loop [1,5,6,8] (.exit 0) (bw []) H3 [nb]] (.tuple #[]) H3 [p,nb] uM uN (gm c1 c2 w1 c3 aS)) aj aJ ⟨_,o6,xR,JZ,AI,rfl,aeJ,abk,AQ,by omega,by omega,by omega,by omega,by omega⟩
  ·have jI:H1.n+0≤H2.n:=dc.n
   have lT:=y1.kept dc aH vr
   have w1:aq E 3 p 1 H2=some (iI o6):=bQ aR lT rfl
   have w2:=aC (o6+1)
   obtain ⟨K3,e3⟩:∃ K_,K_=H2.set p (.cells [.string s,iI (o6+1),iI dp,iI xR,eF JZ AI] 151 false):=⟨_,rfl⟩
   have y3:Gd E G K3:=e3▸y2.set _ aa aa
   have xS:K3.n=H2.n+0:=by rw [e3,Hp.cT] <;> rfl
   have AQ:=aP e3
   have w3:aq E 3 p 1 K3=some (iI (o6+1)):=bQ aR AQ rfl
   obtain ⟨_,H4,c4,rj,y4,Ht⟩:=SH p s (o6+1) dp xR JZ AI y3 AQ aa hs aa aa aa
   rcases Ht with ⟨To,XI,Pr,TA,Py,rfl,Ty,ba4,bb4,ha4,Tu,Tv,aa4,hd4⟩ |⟨To,XI,Pr,TA,Py,rfl,Ty,ba4,bb4,ha4,Tu,Tv,aa4,hd4,he4⟩
   ·have w4:=aC xP
    obtain ⟨_,_,H5,c5,vQ,y5,rfl,rfl⟩:=(Nj nb To xP y4).code
    have eJ:=y.kept bN cu nD
    have jD:=y1.kept dc aH eJ
    have mW:=cZ e3 aa jD
    have pN:=y3.kept rj cu mW
    have B7:=y4.kept vQ aH pN
    have s9:=y4.kept vQ aH Ty
    exact aD.mk y (dj (sB xP H1 p H2 o6 K3 [.call (.tuple #[uB To,.bool false]) H4 [p],au 8,.as (iI xP),au 0,.loop [1,5,6,8] (.exit 0) (bw []) H5 []]) (.tuple #[]) H5 [p,p,p] uM uN (aE c1 c2 w1 w2 (show az E 3 p 1 (iI (o6+1)) H2=some K3 from (st bY lT rfl rfl).trans (congrArg some e3.symm)) w3 c4 w4<|cF c5 aS)) aj aJ ⟨_,XI,Pr,TA,Py,rfl,np,B7,s9,by omega,by omega,by omega,by omega,by omega⟩
   ·have H9:K3.n+0≤H4.n:=rj.n
    cases h4:(decide (To<xP)) with
    |true=>
     obtain ⟨_,H5,c5,vQ,y5,R9⟩:=Zw p s XI dp Pr TA Py (o6+1) y4 Ty aa hs aa aa aa aa aa
     rcases R9 with rfl |rfl
     ·have Pt:H4.n+0≤H5.n:=vQ.n
      have s9:=y4.kept vQ aH Ty
      obtain ⟨K6,e6⟩:∃ K_,K_=H5.set p (.cells [.string s,iI (o6+1),iI dp,iI Pr,eF TA Py] 151 false):=⟨_,rfl⟩
      have y6:Gd E G K6:=e6▸y5.set _ aa aa
      have B8:=aP e6
      obtain ⟨_,H7,c7,TB,y7,nb7,nd7,wp7,rfl,kp7⟩:=qx p s (o6+1) dp Pr TA Py 2 y6 B8 aa hs aa aa aa
      have w4:=aC xP
      have eJ:=y.kept bN cu nD
      have jD:=y1.kept dc aH eJ
      have mW:=cZ e3 aa jD
      have pN:=y3.kept rj cu mW
      have B7:=y4.kept vQ aH pN
      have RG:=cZ e6 aa B7
      have RH:=y6.kept TB cu RG
      obtain ⟨_,_,H8,c8,xt8,y8,rfl,ZV,rfl,Zh,RM⟩:=(Nk nb To _ xP xs _ y7 RH np aa aa aa aa rfl).code
      have Y1:=y7.kept xt8 cu kp7
      exact aD.mk y (dj (sB xP H1 p H2 o6 K3 [.call (.tuple #[uB To,.bool true]) H4 [p],au 8,aI,au 3,.call (iI (o6+1)) H5 [],au 1,vl bJ K6,au 1,.call (pt nb7 0) H7 [p],au 0,.as (iI xP),au 0,.loop [1,5,6,8] (.exit 0) (bw []) H8 [nb]]) (.tuple #[]) H8 [p,p,p,p,p,nb] uM uN (aE c1 c2 w1 w2 (show az E 3 p 1 (iI (o6+1)) H2=some K3 from (st bY lT rfl rfl).trans (congrArg some e3.symm)) w3 c4 h4<|eM c5 (show az E 3 p 1 (iI (o6+1)) H5=some K6 from (st bY s9 rfl rfl).trans (congrArg some e6.symm)) c7 w4 c8 aS)) aj aJ ⟨_,o6+1,nd7,1,wp7,rfl,Zh,RM,Y1,by omega,by omega,by omega,by omega,by omega⟩
     ·have Pt:H4.n+0≤H5.n:=vQ.n
      have s9:=y4.kept vQ aH Ty
      obtain ⟨K6,e6⟩:∃ K_,K_=H5.set p (.cells [.string s,iI ((o6+1)+1),iI dp,iI Pr,eF TA Py] 151 false):=⟨_,rfl⟩
      have y6:Gd E G K6:=e6▸y5.set _ aa aa
      have B8:=aP e6
      obtain ⟨_,H7,c7,TB,y7,nb7,nd7,wp7,rfl,kp7⟩:=qx p s ((o6+1)+1) dp Pr TA Py 2 y6 B8 aa hs aa aa aa
      have w4:=aC xP
      have eJ:=y.kept bN cu nD
      have jD:=y1.kept dc aH eJ
      have mW:=cZ e3 aa jD
      have pN:=y3.kept rj cu mW
      have B7:=y4.kept vQ aH pN
      have RG:=cZ e6 aa B7
      have RH:=y6.kept TB cu RG
      obtain ⟨_,_,H8,c8,xt8,y8,rfl,ZV,rfl,Zh,RM⟩:=(Nk nb To _ xP xs _ y7 RH np aa aa aa aa rfl).code
      have Y1:=y7.kept xt8 cu kp7
      exact aD.mk y (dj (sB xP H1 p H2 o6 K3 [.call (.tuple #[uB To,.bool true]) H4 [p],au 8,aI,au 3,.call (iI ((o6+1)+1)) H5 [],au 1,vl bJ K6,au 1,.call (pt nb7 0) H7 [p],au 0,.as (iI xP),au 0,.loop [1,5,6,8] (.exit 0) (bw []) H8 [nb]]) (.tuple #[]) H8 [p,p,p,p,p,nb] uM uN (aE c1 c2 w1 w2 (show az E 3 p 1 (iI (o6+1)) H2=some K3 from (st bY lT rfl rfl).trans (congrArg some e3.symm)) w3 c4 h4<|eM c5 (show az E 3 p 1 (iI ((o6+1)+1)) H5=some K6 from (st bY s9 rfl rfl).trans (congrArg some e6.symm)) c7 w4 c8 aS)) aj aJ ⟨_,(o6+1)+1,nd7,1,wp7,rfl,Zh,RM,Y1,by omega,by omega,by omega,by omega,by omega⟩
    |false=>
     have w4:=aC xP
     have eJ:=y.kept bN cu nD
     have jD:=y1.kept dc aH eJ
     have mW:=cZ e3 aa jD
     have pN:=y3.kept rj cu mW
     obtain ⟨_,_,H5,c5,vQ,y5,rfl,L6,rfl,VY,Np⟩:=(Nk nb To _ xP xs _ y4 pN np aa aa aa aa rfl).code
     have s9:=y4.kept vQ cu Ty
     exact aD.mk y (dj (sB xP H1 p H2 o6 K3 [.call (.tuple #[uB To,.bool true]) H4 [p],au 8,aF,au 1,.as (iI xP),au 0,.loop [1,5,6,8] (.exit 0) (bw []) H5 [nb]]) (.tuple #[]) H5 [p,p,p,nb] uM uN (aE c1 c2 w1 w2 (show az E 3 p 1 (iI (o6+1)) H2=some K3 from (st bY lT rfl rfl).trans (congrArg some e3.symm)) w3 c4 h4<|cU w4 c5 aS)) aj aJ ⟨_,XI,Pr,TA,Py,rfl,VY,Np,s9,by omega,by omega,by omega,by omega,by omega⟩
noncomputable def TO:Code:=cz [1,1,1,1,1,0,0,0] (bH Tryz.f173)
theorem Qc (p:Nat) (nb:Nat) (s:ByteArray) (dp:Int) (yb:Int) (bn:Bool):∀(m:Nat) (at_:Int) (nd:Int) (w:Nat) (wp:Nat) (xs:List Value) (H:Hp),Gd E G H→(kp:H.get p=some (.cells [.string s,iI at_,iI dp,iI nd,eF w wp] 151 false))→(nD:H.get nb=some (.cells (xs++[.slice none 0 0]) 176 false))→(hs:(s.size:Int)<100000)→(gp:G.n≤p)→(gn:G.n≤nb)→(dn:p≠nb)→(b0:0≤yb)→(b1:yb≤at_)→(a1:at_≤s.size)→(hw:w=0∨w=1)→(np:NP xs)→2*((s.size:Int)-at_).toNat+(1-w)=m→
  aA E G 64 TO [(0,pt p 0),(3,pt nb 0),(4,.bool bn)] H [p,nb] (fun x T H'=>(x=(.exit 0)∧∃(nK zZ:Int) (yU Ey:Nat) (Tk:List Value),T=bw [(0,pt p 0),(3,pt nb 0),(4,.bool bn)]∧(H'.get p=some (.cells [.string s,.int .i64 nK,.int .i64 dp,.int .i64 zZ,eF yU Ey] 151 false)∧NP Tk∧H'.get nb=some (.cells (Tk++[.slice none 0 0]) 176 false)∧yb≤nK∧nK≤s.size∧(yU=0∨yU=1)∧(yU=0→nK<s.size)))):=by
 intro m
 induction m using Nat.strongRecOn with
 |_ m ih=>
 intro at_ nd w wp xs H y kp nD hs gp gn dn b0 b1 a1 hw np hm
 have w1:aq E 128 p 4 H=some (eF w wp):=bQ jx kp rfl
 rcases hw with rfl |rfl
 ·obtain ⟨_,H1,c1,bN,y1,eD⟩:=qy p s at_ dp nd 0 wp ⟨#[93]⟩ y kp aa hs aa aa aa
  rcases eD with rfl |⟨rfl,Oi,Oh⟩
  ·have eK:=y.kept bN aH kp
   have eJ:=y.kept bN aH nD
   obtain ⟨_,H2,c2,dc,y2,xs2,XH,Jv,ZM,Pd,rfl,np2,kn2,yZ,ha2,ig,KM,YK,hd2⟩:=LB p s at_ dp nd 0 wp nb xs y1 eK aa hs aa aa aa eJ np aa aa
   exact aA.next' y (bf [au 2,vl (eF 0 wp) H,au 2,.call (.bool false) H1 [],au 3,.call (.tuple #[]) H2 [p,nb]] [(0,pt p 0),(3,pt nb 0),(4,.bool bn)] .normal H2 [p,nb] (fun _ r_=>eY w1 c1 c2 r_)) aj (ih _ aa XH Jv ZM Pd xs2 _ y2 yZ kn2 hs gp gn dn b0 aa aa aa np2 rfl)
  ·have eK:=y.kept bN aH kp
   have eJ:=y.kept bN aH nD
   exact aA.last' y (bf [au 2,vl (eF 0 wp) H,au 2,.call (.bool true) H1 [],au 1] [(0,pt p 0),(3,pt nb 0),(4,.bool bn)] (.exit 0) H1 [] (fun _ r_=>cU w1 c1 r_)) aj aM aJ ⟨rfl,at_,nd,0,wp,xs,rfl,⟨eK,np,eJ,by omega,by omega,by omega,by omega⟩⟩
 ·exact aA.last' y (bf [au 2,vl (eF 1 wp) H,au 2] [(0,pt p 0),(3,pt nb 0),(4,.bool bn)] (.exit 0) H [] (fun _ r_=>cF w1 r_)) aj aM aJ ⟨rfl,at_,nd,1,wp,xs,rfl,⟨kp,np,nD,by omega,by omega,by omega,by omega⟩⟩
noncomputable def TP:Code:=cz [1,1,1,1,1,1,1,0,1,0,0] (bH Tryz.f173)
theorem Qd (nb:Nat):∀(m:Nat) (nJ:Int) (xs:List Value) (H:Hp),Gd E G H→(nD:H.get nb=some (.cells (xs++[.slice none 0 0]) 176 false))→(np:NP xs)→(x0:0≤nJ)→(x1:nJ≤256)→(gn:G.n≤nb)→(256-nJ).toNat=m→
  aA E G 64 TP [(3,pt nb 0),(4,.bool true),(46,iI nJ)] H [nb] (fun x T H'=>(x=(.exit 2)∧T=bw [(3,pt nb 0)])):=by
 intro m
 induction m using Nat.strongRecOn with
 |_ m ih=>
 intro nJ xs H y nD np x0 x1 gn hm
 have Ck:=y.wf.lt nD
 cases h1:(decide (nJ<256)) with
 |true=>
  have q1:=aL h1
  have w1:0≤nJ:=aa
  have w2:nJ<(256:Int):=aa
  obtain ⟨yb1,YN⟩:=Jw (o:=(2+nJ.toNat*1)) np nD aa aa
  have w3:=YN
  cases yb1 with
  |true=>
   obtain ⟨K1,e1⟩:∃ K_,K_=H.set nb (.cells ((xs.set (2+nJ.toNat*1) (.bool false))++[.slice none 0 0]) 176 false):=⟨_,rfl⟩
   have y1:Gd E G K1:=e1▸y.set _ aa aa
   have eJ:=aP e1
   have w4:=aC (nJ+1)
   exact aA.next' y (bf [aI,au 7,.ck,vl (.bool true) H,au 3,.ck,vl bJ K1,.as (iI (nJ+1)),au 0] [(3,pt nb 0),(4,.bool true),(46,iI (nJ+1))] .normal K1 [nb] (fun _ r_=>aE h1 ag ag ag ag ag ag ag<|aE w1 w2 ag w3 ag ag ag ag<|fk ag w1 w2 ag (show az E 4 nb (2+nJ.toNat*1) (.bool false) H=some K1 from (oO np nD aa aa).trans (congrArg some e1.symm)) (show bC H K1 [nb]=true from kW y nD) w4 r_)) aj (ih _ aa (nJ+1) (xs.set (2+nJ.toNat*1) (.bool false)) _ y1 eJ (NP.set np (2+nJ.toNat*1) aa false) aa aa gn rfl)
  |false=>
   obtain ⟨K1,e1⟩:∃ K_,K_=H.set nb (.cells ((xs.set (2+nJ.toNat*1) (.bool true))++[.slice none 0 0]) 176 false):=⟨_,rfl⟩
   have y1:Gd E G K1:=e1▸y.set _ aa aa
   have eJ:=aP e1
   have w4:=aC (nJ+1)
   exact aA.next' y (bf [aI,au 7,.ck,vl (.bool false) H,au 3,.ck,vl bJ K1,.as (iI (nJ+1)),au 0] [(3,pt nb 0),(4,.bool true),(46,iI (nJ+1))] .normal K1 [nb] (fun _ r_=>aE h1 ag ag ag ag ag ag ag<|aE w1 w2 ag w3 ag ag ag ag<|fk ag w1 w2 ag (show az E 4 nb (2+nJ.toNat*1) (.bool true) H=some K1 from (oO np nD aa aa).trans (congrArg some e1.symm)) (show bC H K1 [nb]=true from kW y nD) w4 r_)) aj (ih _ aa (nJ+1) (xs.set (2+nJ.toNat*1) (.bool true)) _ y1 eJ (NP.set np (2+nJ.toNat*1) aa true) aa aa gn rfl)
 |false=>
  exact aA.last' y (bf [aF] [(3,pt nb 0)] (.exit 2) H [] (fun _ r_=>cF h1 r_)) aj aM aJ ⟨rfl,rfl⟩
noncomputable def TN:Code:=cz [1,1,1,1,1,1,1,0,1,0,0] (bH Tryz.f173)
theorem Qb (nb:Nat):∀(m:Nat) (nJ:Int) (xs:List Value) (H:Hp),Gd E G H→(nD:H.get nb=some (.cells (xs++[.slice none 0 0]) 176 false))→(np:NP xs)→(x0:0≤nJ)→(x1:nJ≤256)→(gn:G.n≤nb)→(256-nJ).toNat=m→
  aA E G 64 TN [(3,pt nb 0),(4,.bool false),(46,iI nJ)] H [nb] (fun x T H'=>(x=(.exit 2)∧T=bw [(3,pt nb 0)])):=by
 intro m
 induction m using Nat.strongRecOn with
 |_ m ih=>
 intro nJ xs H y nD np x0 x1 gn hm
 have Ck:=y.wf.lt nD
 cases h1:(decide (nJ<256)) with
 |true=>
  have q1:=aL h1
  have w1:0≤nJ:=aa
  have w2:nJ<(256:Int):=aa
  obtain ⟨yb1,YN⟩:=Jw (o:=(2+nJ.toNat*1)) np nD aa aa
  have w3:=YN
  cases yb1 with
  |true=>
   obtain ⟨K1,e1⟩:∃ K_,K_=H.set nb (.cells ((xs.set (2+nJ.toNat*1) (.bool true))++[.slice none 0 0]) 176 false):=⟨_,rfl⟩
   have y1:Gd E G K1:=e1▸y.set _ aa aa
   have eJ:=aP e1
   have w4:=aC (nJ+1)
   exact aA.next' y (bf [aI,au 7,.ck,vl (.bool true) H,au 3,.ck,vl bJ K1,.as (iI (nJ+1)),au 0] [(3,pt nb 0),(4,.bool false),(46,iI (nJ+1))] .normal K1 [nb] (fun _ r_=>aE h1 ag ag ag ag ag ag ag<|aE w1 w2 ag w3 ag ag ag ag<|fk ag w1 w2 ag (show az E 4 nb (2+nJ.toNat*1) (.bool true) H=some K1 from (oO np nD aa aa).trans (congrArg some e1.symm)) (show bC H K1 [nb]=true from kW y nD) w4 r_)) aj (ih _ aa (nJ+1) (xs.set (2+nJ.toNat*1) (.bool true)) _ y1 eJ (NP.set np (2+nJ.toNat*1) aa true) aa aa gn rfl)
  |false=>
   obtain ⟨K1,e1⟩:∃ K_,K_=H.set nb (.cells ((xs.set (2+nJ.toNat*1) (.bool false))++[.slice none 0 0]) 176 false):=⟨_,rfl⟩
   have y1:Gd E G K1:=e1▸y.set _ aa aa
   have eJ:=aP e1
   have w4:=aC (nJ+1)
   exact aA.next' y (bf [aI,au 7,.ck,vl (.bool false) H,au 3,.ck,vl bJ K1,.as (iI (nJ+1)),au 0] [(3,pt nb 0),(4,.bool false),(46,iI (nJ+1))] .normal K1 [nb] (fun _ r_=>aE h1 ag ag ag ag ag ag ag<|aE w1 w2 ag w3 ag ag ag ag<|fk ag w1 w2 ag (show az E 4 nb (2+nJ.toNat*1) (.bool false) H=some K1 from (oO np nD aa aa).trans (congrArg some e1.symm)) (show bC H K1 [nb]=true from kW y nD) w4 r_)) aj (ih _ aa (nJ+1) (xs.set (2+nJ.toNat*1) (.bool false)) _ y1 eJ (NP.set np (2+nJ.toNat*1) aa false) aa aa gn rfl)
 |false=>
  exact aA.last' y (bf [aF] [(3,pt nb 0)] (.exit 2) H [] (fun _ r_=>cF h1 r_)) aj aM aJ ⟨rfl,rfl⟩
theorem Bc:E.func 173=some Tryz.f173:=ah
theorem Bd:bO Tryz.f173 1=true:=ah
noncomputable abbrev Ds fR (H1:Hp) (p:Nat) (H2:Hp) (H3:Hp) (H4:Hp) (l_:List Hint):=au 1::.call (pt fR 0) H1 [p]::au 1::.call (.bool false) H2 []::au 3::.call (.tuple #[]) H3 [p,fR]::.loop [0,3,4] (.exit 0) (bw [(0,pt p 0),(3,pt fR 0),(4,.bool false)]) H4 [p,fR]::au 2::l_
noncomputable abbrev Dt fR (H1:Hp) (p:Nat) (H2:Hp) (at_:Int) (K3:Hp) (H4:Hp) (H5:Hp) (l_:List Hint):=au 1::.call (pt fR 0) H1 [p]::au 1::.call (.bool true) H2 []::au 4::vl (iI at_) H2::.as (iI (at_+1))::au 1::vl bJ K3::au 1::.call (.tuple #[]) H4 [p,fR]::.loop [0,3,4] (.exit 0) (bw [(0,pt p 0),(3,pt fR 0),(4,.bool true)]) H5 [p,fR]::au 2::l_
theorem Wd (p:Nat) (s:ByteArray) (at_:Int) (dp:Int) (nd:Int) (w:Nat) (wp:Nat) {H:Hp} (y:Gd E G H) (kp:H.get p=some (.cells [.string s,.int .i64 at_,.int .i64 dp,.int .i64 nd,eF w wp] 151 false)) (gp:G.n≤p) (hs:(s.size:Int)<100000) (a0:0≤at_) (a1:at_≤s.size) (hw:w=0∨w=1):aD E G 173 [pt p 0] H [p] (PQ s p at_ 0):=by
 have jZ:=y.wf.lt kp
 obtain ⟨_,H1,c1,bN,y1,fR,Wz,xR,rfl,VX,Vc,Ot,vr⟩:=uY p s at_ dp nd w wp 1 y kp aa hs aa aa aa
 have Zc:=y1.wf.lt Ot
 obtain ⟨_,H2,c2,dc,y2,oP⟩:=qy p s at_ dp xR w wp ⟨#[94]⟩ y1 vr aa hs aa aa aa
 rcases oP with rfl |⟨rfl,adY,adU⟩
 ·have jI:H1.n+0≤H2.n:=dc.n
  have lT:=y1.kept dc aH vr
  have KX:=y1.kept dc aH Ot
  obtain ⟨_,H3,c3,gB,y3,xs3,HU,Lj,Td,Pe,rfl,np3,kn3,Jc,ha3,tg,U6,YL,hd3⟩:=LB p s at_ dp xR w wp fR Wz y2 lT aa hs aa aa aa KX VX aa aa
  have xS:H2.n+0≤H3.n:=gB.n
  obtain ⟨_,_,H4,c4,rj,y4,rfl,uA,L2,acu,Ab,Tl,rfl,Vz,abz,W6,vu,OV,YQ,abY⟩:=(Qc p fR s dp HU false _ HU Lj Td Pe xs3 _ y3 Jc kn3 hs gp aa aa aa aa aa aa np3 rfl).code
  have H9:H3.n+0≤H4.n:=rj.n
  have w1:aq E 128 p 4 H4=some (eF acu Ab):=bQ jx Vz rfl
  rcases YQ with rfl |rfl
  ·have w2:aq E 3 p 1 H4=some (iI uA):=bQ aR Vz rfl
   have w3:=aC (uA+1)
   obtain ⟨K5,e5⟩:∃ K_,K_=H4.set p (.cells [.string s,iI (uA+1),iI dp,iI L2,eF 0 Ab] 151 false):=⟨_,rfl⟩
   have y5:Gd E G K5:=e5▸y4.set _ aa aa
   have Pt:K5.n=H4.n+0:=by rw [e5,Hp.cT] <;> rfl
   have s9:=aP e5
   have YY:=cZ e5 aa W6
   obtain ⟨_,_,H6,c6,NK,y6,rfl,rfl⟩:=(Qb fR _ 0 Tl _ y5 YY abz aa aa aa rfl).code
   have nn6:K5.n+0≤H6.n:=NK.n
   have B8:=y5.kept NK cu s9
   exact aD.mk y (dj (Ds fR H1 p H2 H3 H4 [vl (eF 0 Ab) H4,au 3,vl (iI uA) H4,.as (iI (uA+1)),au 1,vl bJ K5,au 0,.loop [3,4,46] (.exit 2) (bw [(3,pt fR 0)]) H6 [fR],au 1]) (pt fR 0) H6 [p,p,fR,p,fR,p,fR] Bc Bd (aE c1 c2 c3 c4 w1 w2 w3 (show az E 3 p 1 (iI (uA+1)) H4=some K5 from (st bY Vz rfl rfl).trans (congrArg some e5.symm))<|cF c6 aS)) aG aJ ⟨_,uA+1,dp,L2,0,Ab,rfl,B8,by omega,by omega,by omega,by omega⟩
  ·obtain ⟨_,_,H5,c5,vQ,y5,rfl,rfl⟩:=(Qb fR _ 0 Tl _ y4 W6 abz aa aa aa rfl).code
   have Pt:H4.n+0≤H5.n:=vQ.n
   have s9:=y4.kept vQ cu Vz
   exact aD.mk y (dj (Ds fR H1 p H2 H3 H4 [vl (eF 1 Ab) H4,au 1,.loop [3,4,46] (.exit 2) (bw [(3,pt fR 0)]) H5 [fR],au 1]) (pt fR 0) H5 [p,p,fR,p,fR,fR] Bc Bd (fG c1 c2 c3 c4 w1 c5 aS)) aG aJ ⟨_,uA,dp,L2,1,Ab,rfl,s9,by omega,by omega,by omega,by omega⟩
 ·have jI:H1.n+0≤H2.n:=dc.n
  have lT:=y1.kept dc aH vr
  have w1:aq E 3 p 1 H2=some (iI at_):=bQ aR lT rfl
  have w2:=aC (at_+1)
  obtain ⟨K3,e3⟩:∃ K_,K_=H2.set p (.cells [.string s,iI (at_+1),iI dp,iI xR,eF w wp] 151 false):=⟨_,rfl⟩
  have y3:Gd E G K3:=e3▸y2.set _ aa aa
  have xS:K3.n=H2.n+0:=by rw [e3,Hp.cT] <;> rfl
  have AQ:=aP e3
  have KX:=y1.kept dc aH Ot
  have YX:=cZ e3 aa KX
  obtain ⟨_,H4,c4,rj,y4,xs4,XI,Pr,TA,Py,rfl,np4,kn4,Ty,ha4,Tu,Tv,aa4,hd4⟩:=LB p s (at_+1) dp xR w wp fR Wz y3 AQ aa hs aa aa aa YX VX aa aa
  have H9:K3.n+0≤H4.n:=rj.n
  obtain ⟨_,_,H5,c5,vQ,y5,rfl,uC,L3,acv,Ac,L6,rfl,VA,VY,Np,ET,abX,YR,aim⟩:=(Qc p fR s dp XI true _ XI Pr TA Py xs4 _ y4 Ty kn4 hs gp aa aa aa aa aa aa np4 rfl).code
  have Pt:H4.n+0≤H5.n:=vQ.n
  have w3:aq E 128 p 4 H5=some (eF acv Ac):=bQ jx VA rfl
  rcases YR with rfl |rfl
  ·have w4:aq E 3 p 1 H5=some (iI uC):=bQ aR VA rfl
   have w5:=aC (uC+1)
   obtain ⟨K6,e6⟩:∃ K_,K_=H5.set p (.cells [.string s,iI (uC+1),iI dp,iI L3,eF 0 Ac] 151 false):=⟨_,rfl⟩
   have y6:Gd E G K6:=e6▸y5.set _ aa aa
   have nn6:K6.n=H5.n+0:=by rw [e6,Hp.cT] <;> rfl
   have B8:=aP e6
   have Y0:=cZ e6 aa Np
   obtain ⟨_,_,H7,c7,TB,y7,rfl,rfl⟩:=(Qd fR _ 0 L6 _ y6 Y0 VY aa aa aa rfl).code
   have nn7:K6.n+0≤H7.n:=TB.n
   have aes:=y6.kept TB cu B8
   exact aD.mk y (dj (Dt fR H1 p H2 at_ K3 H4 H5 [vl (eF 0 Ac) H5,au 3,vl (iI uC) H5,.as (iI (uC+1)),au 1,vl bJ K6,au 0,.loop [3,4,46] (.exit 2) (bw [(3,pt fR 0)]) H7 [fR],au 1]) (pt fR 0) H7 [p,p,p,fR,p,fR,p,fR] Bc Bd (aE c1 c2 w1 w2 (show az E 3 p 1 (iI (at_+1)) H2=some K3 from (st bY lT rfl rfl).trans (congrArg some e3.symm)) c4 c5 w3<|gm w4 w5 (show az E 3 p 1 (iI (uC+1)) H5=some K6 from (st bY VA rfl rfl).trans (congrArg some e6.symm)) c7 aS)) aG aJ ⟨_,uC+1,dp,L3,0,Ac,rfl,aes,by omega,by omega,by omega,by omega⟩
  ·obtain ⟨_,_,H6,c6,NK,y6,rfl,rfl⟩:=(Qd fR _ 0 L6 _ y5 Np VY aa aa aa rfl).code
   have nn6:H5.n+0≤H6.n:=NK.n
   have B8:=y5.kept NK cu VA
   exact aD.mk y (dj (Dt fR H1 p H2 at_ K3 H4 H5 [vl (eF 1 Ac) H5,au 1,.loop [3,4,46] (.exit 2) (bw [(3,pt fR 0)]) H6 [fR],au 1]) (pt fR 0) H6 [p,p,p,fR,p,fR,fR] Bc Bd (aE c1 c2 w1 w2 (show az E 3 p 1 (iI (at_+1)) H2=some K3 from (st bY lT rfl rfl).trans (congrArg some e3.symm)) c4 c5 w3<|cF c6 aS)) aG aJ ⟨_,uC,dp,L3,1,Ac,rfl,B8,by omega,by omega,by omega,by omega⟩
theorem Gu:E.func 172=some Tryz.f172:=ah
theorem Gv:bO Tryz.f172 1=true:=ah
theorem We (p:Nat) (s:ByteArray) (at_:Int) (dp:Int) (nd:Int) (w:Nat) (wp:Nat) (n:Nat) {H:Hp} (y:Gd E G H) (kp:H.get p=some (.cells [.string s,.int .i64 at_,.int .i64 dp,.int .i64 nd,eF w wp] 151 false)) (gp:G.n≤p) (hs:(s.size:Int)<100000) (a0:0≤at_) (a1:at_≤s.size) (hw:w=0∨w=1) (hA:vC s n) (hn:((s.size:Int)-at_).toNat≤n) (hlt:at_<s.size):aD E G 172 [pt p 0] H [p] (PR s p at_):=by
 have jZ:=y.wf.lt kp
 have w1:aq E 3 p 2 H=some (iI dp):=bQ aR kp rfl
 cases h1:(dp==32) with
 |true=>
  obtain ⟨_,H1,c1,bN,y1,fR,xR,AI,rfl,vr⟩:=qx p s at_ dp nd w wp 12 y kp aa hs aa aa aa
  exact aD.mk y (dj [au 3,vl (iI dp) H,aI,au 1,.call (pt fR 0) H1 [p],au 0] (pt fR 0) H1 [p] Gu Gv (eY w1 h1 c1 aS)) aj aJ ⟨_,at_,dp,xR,1,AI,rfl,vr,by omega,by omega,by omega,by omega⟩
 |false=>
  have q1:=bK h1
  have w2:aq E 3 p 1 H=some (iI at_):=bQ aR kp rfl
  have w3:=aC (at_+1)
  obtain ⟨K1,e1⟩:∃ K_,K_=H.set p (.cells [.string s,iI (at_+1),iI dp,iI nd,eF w wp] 151 false):=⟨_,rfl⟩
  have y1:Gd E G K1:=e1▸y.set _ aa aa
  have jq:K1.n=H.n+0:=by rw [e1,Hp.cT] <;> rfl
  have eK:=aP e1
  have w4:aq E 3 p 2 K1=some (iI dp):=bQ aR eK rfl
  obtain ⟨K2,e2⟩:∃ K_,K_=K1.set p (.cells [.string s,iI (at_+1),iI (IntKind.i64.wrap (dp+1)),iI nd,eF w wp] 151 false):=⟨_,rfl⟩
  have y2:Gd E G K2:=e2▸y1.set _ aa aa
  have jI:K2.n=K1.n+0:=by rw [e2,Hp.cT] <;> rfl
  have lT:=aP e2
  obtain ⟨_,H3,c3,gB,y3,jQ,HU,Km,Lj,Td,Pe,rfl,Jc,ha3,tg,U6,YL⟩:=hA p (at_+1) (IntKind.i64.wrap (dp+1)) nd w wp y2 lT aa hs aa aa aa aa
  have xS:K2.n+0≤H3.n:=gB.n
  have w5:aq E 3 p 2 H3=some (iI Km):=bQ aR Jc rfl
  obtain ⟨K4,e4⟩:∃ K_,K_=H3.set p (.cells [.string s,iI HU,iI (IntKind.i64.wrap (Km-1)),iI Lj,eF Td Pe] 151 false):=⟨_,rfl⟩
  have y4:Gd E G K4:=e4▸y3.set _ aa aa
  have H9:K4.n=H3.n+0:=by rw [e4,Hp.cT] <;> rfl
  have G6:=aP e4
  obtain ⟨_,H5,c5,vQ,y5,R9⟩:=qy p s HU (IntKind.i64.wrap (Km-1)) Lj Td Pe ⟨#[41]⟩ y4 G6 aa hs aa aa aa
  rcases R9 with rfl |⟨rfl,ag0,agY⟩
  ·have s9:=y4.kept vQ aH G6
   obtain ⟨_,H6,c6,NK,y6,nb6,nd6,wp6,rfl,kp6⟩:=qx p s HU (IntKind.i64.wrap (Km-1)) Lj Td Pe 2 y5 s9 aa hs aa aa aa
   exact aD.mk y (dj [au 3,vl (iI dp) H,aF,au 2,vl (iI at_) H,.as (iI (at_+1)),au 1,vl bJ K1,au 2,vl (iI dp) K1,au 2,vl bJ K2,au 0,.call (pt jQ 0) H3 [p],au 3,vl (iI Km) H3,au 2,vl bJ K4,au 0,.call (.bool false) H5 [],au 2,.call (pt nb6 0) H6 [p],au 0] (pt nb6 0) H6 [p,p,p,p,p] Gu Gv (aE w1 h1 w2 w3 (show az E 3 p 1 (iI (at_+1)) H=some K1 from (st bY kp rfl rfl).trans (congrArg some e1.symm)) w4 (show az E 3 p 2 (iI (IntKind.i64.wrap (dp+1))) K1=some K2 from (st bY eK rfl rfl).trans (congrArg some e2.symm)) c3<|gm w5 (show az E 3 p 2 (iI (IntKind.i64.wrap (Km-1))) H3=some K4 from (st bY Jc rfl rfl).trans (congrArg some e4.symm)) c5 c6 aS)) aj aJ ⟨_,HU,IntKind.i64.wrap (Km-1),nd6,1,wp6,rfl,kp6,by omega,by omega,by omega,by omega⟩
  ·have Pt:K4.n+0≤H5.n:=vQ.n
   have s9:=y4.kept vQ aH G6
   have w6:aq E 3 p 1 H5=some (iI HU):=bQ aR s9 rfl
   have w7:=aC (HU+1)
   obtain ⟨K6,e6⟩:∃ K_,K_=H5.set p (.cells [.string s,iI (HU+1),iI (IntKind.i64.wrap (Km-1)),iI Lj,eF Td Pe] 151 false):=⟨_,rfl⟩
   have B8:=aP e6
   exact aD.mk y (dj [au 3,vl (iI dp) H,aF,au 2,vl (iI at_) H,.as (iI (at_+1)),au 1,vl bJ K1,au 2,vl (iI dp) K1,au 2,vl bJ K2,au 0,.call (pt jQ 0) H3 [p],au 3,vl (iI Km) H3,au 2,vl bJ K4,au 0,.call (.bool true) H5 [],au 3,vl (iI HU) H5,.as (iI (HU+1)),au 1,vl bJ K6,au 1] (pt jQ 0) K6 [p,p,p,p,p] Gu Gv (aE w1 h1 w2 w3 (show az E 3 p 1 (iI (at_+1)) H=some K1 from (st bY kp rfl rfl).trans (congrArg some e1.symm)) w4 (show az E 3 p 2 (iI (IntKind.i64.wrap (dp+1))) K1=some K2 from (st bY eK rfl rfl).trans (congrArg some e2.symm)) c3<|fG w5 (show az E 3 p 2 (iI (IntKind.i64.wrap (Km-1))) H3=some K4 from (st bY Jc rfl rfl).trans (congrArg some e4.symm)) c5 w6 w7 (show az E 3 p 1 (iI (HU+1)) H5=some K6 from (st bY s9 rfl rfl).trans (congrArg some e6.symm)) aS)) aj aJ ⟨_,HU+1,IntKind.i64.wrap (Km-1),Lj,Td,Pe,rfl,B8,by omega,by omega,by omega,by omega⟩
theorem rF:E.func 164=some Tryz.f164:=ah
theorem rG:bO Tryz.f164 1=true:=ah
noncomputable abbrev xe (s:ByteArray) (H:Hp) (at_:Int) pE (K1:Hp) (l_:List Hint):=au 3::vl (.string s) H::au 2::vl (iI at_) H::.ck::au 1::aF::au 1::aF::au 1::aF::au 1::.call (iI pE) H []::aF::au 3::vl (iI at_) H::.as (iI (at_+1))::au 1::vl bJ K1::au 0::l_
theorem Zv (p:Nat) (s:ByteArray) (at_:Int) (dp:Int) (nd:Int) (w:Nat) (wp:Nat) (n:Nat) {H:Hp} (y:Gd E G H) (kp:H.get p=some (.cells [.string s,.int .i64 at_,.int .i64 dp,.int .i64 nd,eF w wp] 151 false)) (gp:G.n≤p) (hs:(s.size:Int)<100000) (a0:0≤at_) (a1:at_≤s.size) (hw:w=0∨w=1) (hA:vC s n) (hn:((s.size:Int)-at_).toNat≤n) (hlt:at_<s.size):aD E G 164 [pt p 0] H [p] (PR s p at_):=by
 have jZ:=y.wf.lt kp
 have w1:aq E 9 p 0 H=some (.string s):=bQ bB kp rfl
 have w2:aq E 3 p 1 H=some (iI at_):=bQ aR kp rfl
 have w3:0≤at_:=aa
 have w4:at_<(s.size:Int):=aa
 cases h1:((ak s at_)==40) with
 |true=>
  obtain ⟨_,H1,c1,bN,y1,fR,o6,T4,xR,JZ,AI,rfl,vr,Yk,ei,HW,Ol⟩:=We p s at_ dp nd w wp n y kp aa hs aa aa aa hA aa aa
  exact aD.mk y (dj [au 3,vl (.string s) H,au 2,vl (iI at_) H,.ck,au 1,aI,au 1,.call (pt fR 0) H1 [p],au 0] (pt fR 0) H1 [p] rF rG (aE ag ag ag ag w1 ag ag ag<|aE ag w2 ag w3 w4 ag ag h1<|cF c1 aS)) aj aJ ⟨_,o6,T4,xR,JZ,AI,rfl,vr,by omega,by omega,by omega,by omega⟩
 |false=>
  cases h2:((ak s at_)==91) with
  |true=>
   have w5:=aC (at_+1)
   obtain ⟨K1,e1⟩:∃ K_,K_=H.set p (.cells [.string s,iI (at_+1),iI dp,iI nd,eF w wp] 151 false):=⟨_,rfl⟩
   have y1:Gd E G K1:=e1▸y.set _ aa aa
   have eK:=aP e1
   obtain ⟨_,H2,c2,dc,y2,iR,XH,dp2,Jv,ZM,Pd,rfl,yZ,ha2,ig,KM,YK⟩:=Wd p s (at_+1) dp nd w wp y1 eK aa hs aa aa aa
   exact aD.mk y (dj [au 3,vl (.string s) H,au 2,vl (iI at_) H,.ck,au 1,aF,au 1,aI,au 3,vl (iI at_) H,.as (iI (at_+1)),au 1,vl bJ K1,au 0,.call (pt iR 0) H2 [p],au 0] (pt iR 0) H2 [p,p] rF rG (aE ag ag ag ag w1 ag ag ag<|aE ag w2 ag w3 w4 ag ag h1<|eM h2 w2 w5 (show az E 3 p 1 (iI (at_+1)) H=some K1 from (st bY kp rfl rfl).trans (congrArg some e1.symm)) c2 aS)) aj aJ ⟨_,XH,dp2,Jv,ZM,Pd,rfl,yZ,by omega,by omega,by omega,by omega⟩
  |false=>
   cases h3:((ak s at_)==46) with
   |true=>
    have w5:=aC (at_+1)
    obtain ⟨K1,e1⟩:∃ K_,K_=H.set p (.cells [.string s,iI (at_+1),iI dp,iI nd,eF w wp] 151 false):=⟨_,rfl⟩
    have y1:Gd E G K1:=e1▸y.set _ aa aa
    have eK:=aP e1
    obtain ⟨_,H2,c2,dc,y2,iR,Jv,rfl,yZ⟩:=abU p s (at_+1) dp nd w wp y1 eK aa hs aa aa aa
    exact aD.mk y (dj [au 3,vl (.string s) H,au 2,vl (iI at_) H,.ck,au 1,aF,au 1,aF,au 1,aI,au 3,vl (iI at_) H,.as (iI (at_+1)),au 1,vl bJ K1,au 0,.call (pt iR 0) H2 [p],au 0] (pt iR 0) H2 [p,p] rF rG (aE ag ag ag ag w1 ag ag ag<|aE ag w2 ag w3 w4 ag ag h1<|fG h2 h3 w2 w5 (show az E 3 p 1 (iI (at_+1)) H=some K1 from (st bY kp rfl rfl).trans (congrArg some e1.symm)) c2 aS)) aj aJ ⟨_,at_+1,dp,Jv,w,wp,rfl,yZ,by omega,by omega,by omega,by omega⟩
   |false=>
    obtain ⟨pE,s7⟩:=indexByte ⟨#[41,93,123,125,94,36,124,42,43,63]⟩ (ak s at_)
    cases h4:(decide (pE≥0)) with
    |true=>
     obtain ⟨_,H1,c1,bN,y1,fR,xR,AI,rfl,vr⟩:=qx p s at_ dp nd w wp 2 y kp aa hs aa aa aa
     exact aD.mk y (dj [au 3,vl (.string s) H,au 2,vl (iI at_) H,.ck,au 1,aF,au 1,aF,au 1,aF,au 1,.call (iI pE) H [],aI,au 2,.call (pt fR 0) H1 [p],au 0] (pt fR 0) H1 [p] rF rG (aE ag ag ag ag w1 ag ag ag<|aE ag w2 ag w3 w4 ag ag h1<|eM h2 h3 (show CC E 103 [.string ⟨#[41,93,123,125,94,36,124,42,43,63]⟩,uB (ak s at_)] H (.ret (iI pE)) H [] from s7 y) h4 c1 aS)) aj aJ ⟨_,at_,dp,xR,1,AI,rfl,vr,by omega,by omega,by omega,by omega⟩
    |false=>
     have w5:=aC (at_+1)
     obtain ⟨K1,e1⟩:∃ K_,K_=H.set p (.cells [.string s,iI (at_+1),iI dp,iI nd,eF w wp] 151 false):=⟨_,rfl⟩
     have y1:Gd E G K1:=e1▸y.set _ aa aa
     have eK:=aP e1
     cases h5:((ak s at_)==92) with
     |true=>
      obtain ⟨_,H2,c2,dc,y2,oP⟩:=LC p s (at_+1) dp nd w wp y1 eK aa hs aa aa aa
      rcases oP with ⟨rfl,ne2,yZ⟩ |⟨VS,rfl,na2,aeC,nl2,yZ⟩
      ·obtain ⟨_,H3,c3,gB,y3,jQ,Lj,Pe,rfl,Jc⟩:=qx p s (at_+1) dp nd w wp 2 y2 yZ aa hs aa aa aa
       exact aD.mk y (dj (xe s H at_ pE K1 [aI,au 0,.call (.tuple #[uB 0,.bool false]) H2 [p],au 8,.call (pt jQ 0) H3 [p],au 0]) (pt jQ 0) H3 [p,p,p] rF rG (aE ag ag ag ag w1 ag ag ag<|aE ag w2 ag w3 w4 ag ag h1<|aE h2 h3 (show CC E 103 [.string ⟨#[41,93,123,125,94,36,124,42,43,63]⟩,uB (ak s at_)] H (.ret (iI pE)) H [] from s7 y) h4 w2 w5 (show az E 3 p 1 (iI (at_+1)) H=some K1 from (st bY kp rfl rfl).trans (congrArg some e1.symm)) h5<|cU c2 c3 aS)) aj aJ ⟨_,at_+1,dp,Lj,1,Pe,rfl,Jc,by omega,by omega,by omega,by omega⟩
      ·obtain ⟨_,H3,c3,gB,y3,jQ,Lj,rfl,Jc⟩:=Xg p s ((at_+1)+1) dp nd w wp VS y2 yZ aa hs aa aa aa aa aa
       exact aD.mk y (dj (xe s H at_ pE K1 [aI,au 0,.call (.tuple #[uB VS,.bool true]) H2 [p],au 10,.call (pt jQ 0) H3 [p],au 0]) (pt jQ 0) H3 [p,p,p] rF rG (aE ag ag ag ag w1 ag ag ag<|aE ag w2 ag w3 w4 ag ag h1<|aE h2 h3 (show CC E 103 [.string ⟨#[41,93,123,125,94,36,124,42,43,63]⟩,uB (ak s at_)] H (.ret (iI pE)) H [] from s7 y) h4 w2 w5 (show az E 3 p 1 (iI (at_+1)) H=some K1 from (st bY kp rfl rfl).trans (congrArg some e1.symm)) h5<|cU c2 c3 aS)) aj aJ ⟨_,(at_+1)+1,dp,Lj,w,wp,rfl,Jc,by omega,by omega,by omega,by omega⟩
     |false=>
      obtain ⟨_,H2,c2,dc,y2,iR,Jv,rfl,yZ⟩:=Xg p s (at_+1) dp nd w wp (ak s at_) y1 eK aa hs aa aa aa (eA _ _) (eR _ _)
      exact aD.mk y (dj (xe s H at_ pE K1 [aF,au 1,.call (pt iR 0) H2 [p],au 0]) (pt iR 0) H2 [p,p] rF rG (aE ag ag ag ag w1 ag ag ag<|aE ag w2 ag w3 w4 ag ag h1<|aE h2 h3 (show CC E 103 [.string ⟨#[41,93,123,125,94,36,124,42,43,63]⟩,uB (ak s at_)] H (.ret (iI pE)) H [] from s7 y) h4 w2 w5 (show az E 3 p 1 (iI (at_+1)) H=some K1 from (st bY kp rfl rfl).trans (congrArg some e1.symm)) h5<|cF c2 aS)) aj aJ ⟨_,at_+1,dp,Jv,w,wp,rfl,yZ,by omega,by omega,by omega,by omega⟩
end Go.Proofs.YtglmagcldkngbaaGreatDoor
namespace Go.Am
inductive Seq (md:Region.Mode) (ops:Array Oper):Array Bool→List Nat→Prop
 |nil {L:Array Bool}:Region.ready md ops L=[]→Seq md ops L []
 |cons {L:Array Bool} {i:Nat} {l:List Nat}:i∈Region.ready md ops L→Seq md ops (L.setIfInBounds i true) l→Seq md ops L (i::l)
theorem FZ {P:Program} {md:Region.Mode} {ops:Array Oper} {Q:Exit→Act→World→Prop}:∀(fuel:Nat) (L:Array Bool) (l:List Nat) (a:Act) (w:World),wpAny P md ops Q fuel L a w→Seq md ops L l→wpOps P ops Q l a w
 |0,L,l,a,w,h,hs=>by
  cases hs with
  |nil _=>exact h.2
  |cons hi _=>rw [h.1] at hi;cases hi
 |fuel+1,L,l,a,w,h,hs=>by
  cases hs with
  |nil hr=>exact h.1 hr
  |cons hi hl=>rw [wpOps_cons];exact wpOp_mono (fun a w hk=>FZ fuel _ _ a w hk hl) (h.2 _ hi)
theorem FI {md:Region.Mode} {ops:Array Oper} {L:Array Bool} (h:∀ i,i<ops.size→L.getD i true=true):Region.ready md ops L=[]:=by
 cases hr:Region.ready md ops L with
 |nil=>rfl
 |cons x l=>
  have:x∈Region.ready md ops L:=by rw [hr];simp
  obtain ⟨o,h1,h2,_⟩:=mem_ready.1 this
  rw [h x (Array.getElem?_eq_some_iff.1 h1).1] at h2;cases h2
theorem Nr {md:Region.Mode} {ops:Array Oper}:∀(fuel t:Nat) (L:Array Bool),L.size=ops.size→Px ops.size L≤fuel→Seq md ops L (Region.linearise.go md ops fuel t L [])
 |0,t,L,hs,hu=>.nil (FI fun i hi=>El aa i hi)
 |fuel+1,t,L,hs,hu=>by
  simp only [Region.linearise.go]
  change Seq md ops L (match (Region.ready md ops L)[t%(Region.ready md ops L).length]? with
   |some i=>Region.linearise.go md ops fuel (t / (Region.ready md ops L).length) (L.setIfInBounds i true) [i]
   |none=>[].reverse)
  split
  ·rename_i i hi
   have hm:=List.mem_of_getElem? hi
   obtain ⟨o,h1,h2,h3⟩:=mem_ready.1 hm
   have hin:=(Array.getElem?_eq_some_iff.1 h1).1
   have hu':=HL hs hin h2
   rw [linearise_go_acc]
   exact .cons hm (Nr fuel _ _ (by simpa using hs) aa)
  ·rename_i hi
   have ad2:Region.ready md ops L=[]:=by
    cases hr:Region.ready md ops L with
    |nil=>rfl
    |cons x xs=>
     rw [hr] at hi
     have hlt:t%(x::xs).length<(x::xs).length:=Nat.mod_lt _ (by simp)
     simp at hi
     simp at hlt
     omega
   exact .nil ad2
def Prec (x y:Nat):List Nat→Prop
 |[]=>True
 |i::l=>if i=x then True else if i=y then False else Prec x y l
theorem Prec.total {x y:Nat} (hne:x≠y):∀ l,Prec x y l∨Prec y x l
 |[]=>.inl trivial
 |i::l=>by
  unfold Prec
  by_cases h1:i=x
  ·left;rw [if_pos h1];trivial
  ·by_cases h2:i=y
   ·right;rw [if_pos h2];trivial
   ·rw [if_neg h1,if_neg h2,if_neg h2,if_neg h1];exact Prec.total hne l
def Xw (g:Nat→Nat) (C:List (Nat×Nat)) (i:Nat) (after:Array Edge):Array Edge:=
 (after.toList.map (fun (e:Edge)=>({ e with on:=g e.on }:Edge))++(C.filter fun (p:Nat×Nat)=>Nat.beq p.2 i).map fun (p:Nat×Nat)=>(⟨g p.1,.data⟩:Edge)).toArray
def jN (ops:Array Oper) (f g:Nat→Nat) (C:List (Nat×Nat)):Array Oper:=
 ((List.range ops.size).map fun k=>match ops[f k]? with
  |some o=>{ o with after:=Xw g C (f k) o.after }
  |none=>default).toArray
structure Bv (ops:Array Oper) (f g:Nat→Nat) (C:List (Nat×Nat)):Prop where
 gf:∀ k,k<ops.size→g (f k)=k∧f k<ops.size
 fg:∀ i,i<ops.size→f (g i)=i∧g i<ops.size
 ng:∀ i,i<ops.size→∀ o,ops[i]?=some o→o.guard=none
 ne:∀ p∈C,p.1≠p.2
theorem Cx {ops:Array Oper} {f g:Nat→Nat} {C:List (Nat×Nat)}:(jN ops f g C).size=ops.size:=by simp [jN]
theorem FE {ops:Array Oper} {f g:Nat→Nat} {C:List (Nat×Nat)} (h:Bv ops f g C) {i:Nat} {o:Oper} (ho:ops[i]?=some o) :
  (jN ops f g C)[g i]?=some { o with after:=Xw g C i o.after }:=by
 have hi:=(Array.getElem?_eq_some_iff.1 ho).1
 obtain ⟨h1,h2⟩:=h.fg i hi
 unfold jN
 rw [List.getElem?_toArray,List.getElem?_map,List.getElem?_range h2]
 simp only [Option.map_some,h1,ho]
theorem Pf {P:Program} {ops:Array Oper} {f g:Nat→Nat} {C:List (Nat×Nat)} (h:Bv ops f g C) {Q:Exit→Act→World→Prop} {i:Nat} {K:Act→World→Prop} {a:Act} {w:World} (hi:i<ops.size)
  (hh:wpOp P (jN ops f g C) Q (g i) K a w):wpOp P ops Q i K a w:=by
 obtain ⟨o,ho⟩:∃ o,ops[i]?=some o:=⟨ops[i],by simp [hi]⟩
 have dy:=h.ng i hi o ho
 unfold wpOp at *
 rw [FE h ho] at hh
 rw [ho]
 simp only at hh ⊢
 have w1:∀ x,Region.wanted o x=true:=fun x=>by unfold Region.wanted;rw [dy]
 rw [if_pos (by unfold Region.wanted;simp only [dy])] at hh
 rw [if_pos (w1 _)]
 exact hh
theorem Jy {md:Region.Mode} {P:Program} {ops:Array Oper} {f g:Nat→Nat} {C:List (Nat×Nat)} (h:Bv ops f g C) (hp:fA md ops) {Q:Exit→Act→World→Prop} :
  ∀(l:List Nat) (L Ls:Array Bool),Seq md ops L l→L.size=ops.size→Ls.size=ops.size→(∀ i,i<ops.size→Ls.getD (g i) false=L.getD i false)→(∀ p∈C,L.getD p.1 false=true∨Prec p.1 p.2 l)→
   Seq md (jN ops f g C) Ls (l.map g)∧∀ a w,wpOps P (jN ops f g C) Q (l.map g) a w→wpOps P ops Q l a w
 |[],L,Ls,hs,h1,h2,hr,ho=>by
  refine ⟨.nil (FI fun k hk=>?_),fun a w h=>h⟩
  rw [Cx] at hk
  cases hs with
  |nil hn=>
   have hall:∀ i,i<ops.size→L.getD i true=true:=fun i hi=>by
    cases hb:L.getD i true with
    |true=>rfl
    |false=>exact (hp L h1 ⟨i,hi,hb⟩ hn).elim
   obtain ⟨h3,h4⟩:=h.gf k hk
   have:=hr (f k) h4
   rw [h3] at this
   rw [kO aa true false,this,kO aa false true]
   exact hall _ h4
 |i::l,L,Ls,hs,h1,h2,hr,ho=>by
  cases hs with
  |cons hi hl=>
   obtain ⟨o,e1,e2,e3⟩:=mem_ready.1 hi
   have hin:=(Array.getElem?_eq_some_iff.1 e1).1
   obtain ⟨g1,g2⟩:=h.fg i hin
   have rel:∀ j,j<ops.size→(Ls.setIfInBounds (g i) true).getD (g j) false=(L.setIfInBounds i true).getD j false:=fun j hj=>by
    rw [ou aa,ou aa]
    by_cases e:i=j
    ·rw [if_pos e,if_pos (by rw [e])]
    ·rw [if_neg e,if_neg (fun e'=>e (by have:=(h.fg j hj).1;rw [← e',g1] at this;exact this))];exact hr j hj
   have ord:∀ p∈C,(L.setIfInBounds i true).getD p.1 false=true∨Prec p.1 p.2 l:=fun p YA=>by
    rw [ou aa]
    rcases ho p YA with h3 |h3
    ·left;split
     ·rfl
     ·exact h3
    ·unfold Prec at h3
     by_cases e:i=p.1
     ·left;rw [if_pos e]
     ·rw [if_neg e] at h3
      by_cases e':i=p.2
      ·rw [if_pos e'] at h3;exact h3.elim
      ·rw [if_neg e'] at h3;exact .inr h3
   obtain ⟨k1,k2⟩:=Jy h hp (P:=P) (Q:=Q) l _ _ hl (by simpa using h1) (by simpa using h2) rel ord
   refine ⟨.cons (mem_ready.2 ⟨_,FE h e1,?_,fun e he hb=>?_⟩) k1,fun a w hw=>?_⟩
   ·rw [kO aa true false,hr i hin,kO aa false true];exact e2
   ·simp only [Xw,List.mem_toArray,List.mem_append,List.mem_map,List.mem_filter] at he
    rcases he with ⟨e0,he0,rfl⟩ |⟨p,⟨Ak,GY⟩,rfl⟩
    ·have:=e3 e0 (by simpa using he0) hb
     have hlt:e0.on<ops.size:=by
      rcases Nat.lt_or_ge e0.on ops.size with h3 |h3
      ·exact h3
      ·rw [Array.getD_eq_getD_getElem?,Array.getElem?_eq_none aa] at this;cases this
     exact (hr _ hlt).trans this
    ·have GY:=Nat.eq_of_beq_eq_true GY
     have h3:L.getD p.1 false=true:=by
      rcases ho p Ak with h3 |h3
      ·exact h3
      ·unfold Prec at h3
       by_cases e:i=p.1
       ·exact absurd (e.symm.trans GY.symm) (h.ne p Ak)
       ·rw [if_neg e,if_pos GY.symm] at h3;exact h3.elim
     have hlt:p.1<ops.size:=by
      rcases Nat.lt_or_ge p.1 ops.size with h4 |h4
      ·exact h4
      ·rw [Array.getD_eq_getD_getElem?,Array.getElem?_eq_none aa] at h3;cases h3
     exact (hr _ hlt).trans h3
   ·rw [List.map_cons,wpOps_cons] at hw
    rw [wpOps_cons]
    exact Pf h hin (wpOp_mono (fun a w hk=>k2 a w hk) hw)
theorem Ql {E:Env} (ok:E.Ok) {nt:Nat} {ops:Array Oper} {d:List (Value×List Value)} {hs:Nat→Hp} {ts:Nat→Tm} {Ws:Nat→List Nat} {ft:Nat→jT} {W:List Nat} (hro:iJ ops=true)
  (hi:indep (Region.before ops) ((List.range ops.size).map ft)=true) (a7:∀ j,j<ops.size→∀ q,q∈Ws j→q∈W)
  (a9:∀(j:Nat) (o:Oper),ops.toList[j]?=some o→Wf (hs j)→E.ng≤(hs j).n→∃ call,ji E call∧qE E call nt ops d o (ts j) (ts (j+1)) (hs j) (hs (j+1)) (Ws j) (ft j)) (wf:Wf (hs 0)) (dy:E.ng≤(hs 0).n) :
  cR W (hs 0) (hs ops.size)∧Wf (hs ops.size)∧∀(base:Nat) (φ:cS) (w:World) (a:Act) (w1 w2:List Nat),SR E base φ w nt ⟨ts 0,hs 0,d,w1⟩ a→gM φ (hs 0).n (hs ops.size).n→
   ∀ md,fA md ops→wpAny E.P md ops (Post E base φ w nt (hs 0) W .normal ⟨ts ops.size,hs ops.size,d,w2⟩) ops.size (Array.replicate ops.size false) a { w with drawn:=w.drawn+1 }:=by
 have aeb:=hro
 unfold iJ at hro
 simp only [Bool.and_eq_true] at hro
 obtain ⟨⟨HG,Pv⟩,ro3⟩:=hro
 have hnd:∀ o∈ops.toList,rL o.op=false:=by
  intro o ho
  unfold Bi at Pv
  rw [Array.all_eq_true_iff_forall_mem] at Pv
  have:=Pv o (by simpa using ho)
  cases hop:o.op <;> rw [hop] at this <;> first
   |rfl
   |cases this
 have GX:∀ j:Nat,j<ops.size→ops.toList[j]?=some ops[j]!∧ops[j]?=some ops[j]!:=fun j hj=>by simp [hj]
 have LP:∀ j,j≤ops.size→Wf (hs j)∧E.ng≤(hs j).n:=by
  intro j
  induction j with
  |zero=>intro _;exact ⟨wf,dy⟩
  |succ j ih=>
   intro hj
   obtain ⟨h1,h2⟩:=ih aa
   obtain ⟨g1,g2⟩:=GX j aa
   obtain ⟨call,hc,hst⟩:=a9 j _ g1 h1 h2
   obtain ⟨k1,k2,_⟩:=yQ ok hc (hnd _ (List.mem_of_getElem? g1)) hst h1 h2
   exact ⟨k2,Nat.le_trans h2 k1.n⟩
 have ex:=fun (j:Nat) (hj:j<ops.size)=>a9 j _ (GX j hj).1 (LP j aa).1 (LP j aa).2
 have st:=fun (j:Nat) (hj:j<ops.size)=>yQ ok (ex j hj).choose_spec.1 (hnd _ (List.mem_of_getElem? (GX j hj).1)) (ex j hj).choose_spec.2 (LP j aa).1 (LP j aa).2
 have Eg:kM E nt ops d hs ts ft:=by
  refine ⟨fun j hj=>(LP j hj).1,(LP 0 aa).2,fun j hj=>(st j hj).1,fun j hj=>?_,fun j hj q hq=>?_,fun i j hij hj hb=>E7 (I2 hi hij hj hb),fun j o ho=>?_⟩
  ·obtain ⟨_,_,h3,h4,_⟩:=st j hj;exact ⟨h3,h4⟩
  ·obtain ⟨_,_,_,_,_,_,h7,_⟩:=st j hj
   exact (h7 q hq).2
  ·have hj:=(Array.getElem?_eq_some_iff.1 ho).1
   have e:ops[j]! = o:=by have:=(GX j hj).2;rw [ho] at this;injection this with this;exact this.symm
   obtain ⟨_,_,_,_,h5,h6,_,v,h8,h9⟩:=st j hj
   rw [e] at h5 h6 h8 h9
   exact ⟨h5,h6,v,h8,fun base φ w a C K Q cM hag hf ht hd hK=>h9 base φ w a C j K Q ho cM hag hf ht hd hK⟩
 have Tt:∀ j,j<ops.size→∀ q,q∈(ft j).w→q∈W:=by
  intro j hj q hq
  obtain ⟨_,_,_,_,_,_,h7,_⟩:=st j hj
  exact a7 j hj q (h7 q hq).1
 have ext:cR W (hs 0) (hs ops.size):=by
  have key:∀ j,j≤ops.size→cR W (hs 0) (hs j):=by
   intro j
   induction j with
   |zero=>intro _;exact cR.refl ..
   |succ j ih=>intro hj;exact ((ih aa).trans ((Eg.ext j aa).wider (Tt j aa))).wider (fun i hi=>by simpa using hi)
  exact key _ (Nat.le_refl _)
 refine ⟨ext,(LP _ (Nat.le_refl _)).1,fun base φ w a w1 w2 gL hf md hp=>?_⟩
 have B3:Rel E base (hs 0) φ w:=gL.rel
 refine FY (φ0:=φ) (w0:=w) (W:=W) (base:=base) Eg hp Tt (fun φ' a' w' h1 h2 h3=>⟨φ',h1,rfl,h2,h3⟩) ops.size _ φ a _ (by simp) ?_ (fun k o ho hl=>?_) ?_
 ·unfold Px
  have:=List.countP_le_length (p:=fun i=>!(Array.replicate ops.size false).getD i true) (l:=List.range ops.size)
  simpa using this
 ·have hk:=(Array.getElem?_eq_some_iff.1 ho).1
  simp [Array.getD_eq_getD_getElem?,hk] at hl
 ·refine .init Eg (fun k hk=>by simp [Array.getD_eq_getD_getElem?,hk]) ?_ gL.tr gL.dr hf ⟨rfl,rfl,rfl,Nat.le_refl _,fun _ _ _=>rfl⟩
  exact ⟨B3.bs,fun i l o h1 h2 h3=>(B3.blocks i l o h1 h2 h3).same rfl,fun i l h1 h2 h3=>B3.lt i l h1 h2 h3,B3.inj,B3.fI⟩
def iq (E:Env) (nt:Nat) (ops:Array Oper) (T:Tm) (H:Hp) (T2:Tm) (H':Hp) (W:List Nat):Prop:=
 Wf H→E.ng≤H.n→∃ T',sU T2 T'∧cR W H H'∧Wf H'∧∀(base:Nat) (φ:cS) (w:World) (a:Act),SR E base φ w nt ⟨T,H,[],[]⟩ a→gM φ H.n H'.n→
  ∀ md,fA md ops→wpAny E.P md ops (Post E base φ w nt H W .normal ⟨T',H',[],[]⟩) ops.size (Array.replicate ops.size false) a { w with drawn:=w.drawn+1 }
theorem iq.nw {E:Env} (ok:E.Ok) {P:Prop} {nt f id:Nat} {ops:Array Oper} {pre post:List (Tmp×Value)} {H H':Hp} {hs:List Hint} {W:List Nat} (hp:P)
  (h:(O4 E nt (f+1) (.region id ops true) pre post H hs).map (fun r=>(jU r.1,r.2))=some (P,.normal,H',W)) (hno:Hx hs=none):iq E nt ops (bw pre) H (bw post) H' W:=by
 obtain ⟨⟨Ps,r⟩,h1,h2⟩:=Option.map_eq_some_iff.1 h
 injection h2 with h2 h3
 subst h3
 have hp:jU Ps:=h2▸hp
 unfold O4 at h1
 split at h1
 ·rename_i WE x1 T1 H1 W1 hr
  simp only [Option.some.injEq,Prod.mk.injEq] at h1
  obtain ⟨rfl,rfl,rfl,rfl⟩:=h1
  rw [dL] at hp
  obtain ⟨hpa,hpb⟩:=hp
  unfold xI at hr
  rw [hno] at hr
  simp only at hr
  cases hro:iJ ops with
  |false=>rw [hro] at hr;cases hr
  |true=>
   rw [hro] at hr
   simp only [cond_true] at hr
   split at hr
   ·rename_i Ps2 T2 H2 W2 fs hs1 jX
    simp only [Option.some.injEq,Prod.mk.injEq] at hr
    obtain ⟨rfl,_,rfl,rfl,_,rfl,_⟩:=hr
    obtain ⟨ht,hpa⟩:=hpa
    rw [dL] at hpa
    have hi:=Jq (vb _ _ _ _ _ _ _ _ _ _ _ jX) ht hpa.1
    have hpa:=hpa.2
    intro wf dy
    obtain ⟨hq,ts,Ws,ft,a1,a2,a3,a4,a5,a6,a7⟩:=qz ok _ _ _ _ _ _ _ _ _ _ _ jX hpa (wD hro)
    simp only [Array.length_toList] at a3 a4 a5 a6
    rw [a6] at hi
    obtain ⟨k1,k2,k3⟩:=Ql ok hro hi a5 a7 (by rw [a1];exact wf) (by rw [a1];exact dy)
    rw [a1,a3] at k1
    rw [a3] at k2
    refine ⟨T2,fun t v hv=>GU hpb t v (Bh _ _ _ hv),k1,k2,fun base φ w a gL hf md hpr=>?_⟩
    have:=k3 base φ w a [] [] (by rw [a1,a2];exact gL) (by rw [a1,a3];exact hf) md hpr
    rw [a1,a3,a4] at this
    exact this
   ·cases hr
 ·cases h1
theorem AZ {P:Program} {id:Nat} {ops:Array Oper} {Q:Exit→Act→World→Prop} {a:Act} {w:World}
  (h:∀ t,∃ Q0:Exit→Act→World→Prop,(∀ e a w,Q0 e a w→Q e a w)∧wpOps P ops Q0 (Region.schedule (P.follows .mixedOrders) ops t) a { w with drawn:=w.drawn+1 }):(Code.region id ops true).wp P Q a w:=fun b k cs=>by
 obtain ⟨Q0,hq,hw⟩:=h (w.tape w.drawn (.order b.fn id))
 obtain ⟨e,a',w',q,r⟩:=wp_ops _ a _ hw b k cs
 exact ⟨e,a',w',hq _ _ _ q,.of_steps (.one step_region_draw) r⟩
theorem Out.forget {E:Env} {base:Nat} {φ φ':cS} {w w':World} {H H1 H2:Hp} {W:List Nat} (h:Out E base φ w H H1 W φ' w') (hx:cR W H H1) (dy:E.ng≤H.n) (hn:H2.n=H1.n) (hg:∀ i,i<H1.n→H2.get i=H1.get i∨(H.n≤i∧H2.get i=some .dead)):Out E base φ w H H2 W φ' w':=by
 have Yy:=hx.n
 refine ⟨fun i hi=>h.ext i aa,⟨h.rel.bs,fun i l o hi hl ho=>?_,fun i l hi hl hv=>?_,fun i j l m hi hj hij hl hm hw hv=>?_,h.rel.fI⟩,h.step,fun i l h1 h2 h3=>?_⟩
 ·rcases hg i aa with e |⟨_,e⟩
  ·exact h.rel.blocks i l o aa hl (e▸ho)
  ·rw [e] at ho;injection ho with ho;subst ho;trivial
 ·rcases hg i aa with e |⟨_,e⟩
  ·exact h.rel.lt i l aa hl (e▸hv)
  ·rw [e] at hv;cases hv
 ·rcases hg i aa with e |⟨_,e⟩
  ·rcases hg j aa with e' |⟨_,e'⟩
   ·exact h.rel.inj i j l m aa aa hij hl hm (e▸hw) (e'▸hv)
   ·rw [e'] at hv;cases hv
  ·rw [e] at hw;cases hw
 ·rcases h.fresh i l h1 aa h3 with h4 |⟨j,hj,m,h4,h5,h6,h7,h8⟩
  ·exact .inl h4
  ·refine .inr ⟨j,hj,m,h4,h5,h6,h7,?_⟩
   rcases hg j aa with e |⟨e',_⟩
   ·rw [e];exact h8
   ·omega
theorem CG.perm {E:Env} {nt id:Nat} {ops:Array Oper} {T T':Tm} {H H2:Hp} {W:List Nat} (hpr:∀ md,fA md ops) (hwf:Wf H→Wf H2)
  (hc:∀ l:List Nat,∃(f g:Nat→Nat) (C:List (Nat×Nat)) (H1:Hp),Bv ops f g C∧(∀ p∈C,Prec p.1 p.2 l)∧iq E nt (jN ops f g C) T H T' H1 W∧(∀ md,fA md (jN ops f g C))∧H2.n=H1.n∧∀ i,i<H1.n→H2.get i=H1.get i∨(H.n≤i∧H2.get i=some .dead)) :
  CG E nt (.region id ops true) T H [] .normal T' H2 [] W:=fun wf dy=>by
 have Z5:cR W H H2:=by
  obtain ⟨f,g,C,H1,_,_,h3,_,hn,hg⟩:=hc []
  obtain ⟨_,_,hx,_⟩:=h3 wf dy
  have Yy:=hx.n
  have same:∀ i,i<H.n→H2.get i=H1.get i:=fun i hi=>by
   rcases hg i aa with e |⟨e,_⟩
   ·exact e
   ·omega
  exact ⟨by omega,fun i hi hm=>(same i hi).trans (hx.keep i hi hm),fun i hi hl=>hx.live i hi (same i hi▸hl),fun i hi hl=>hx.dA i hi (same i hi▸hl)⟩
 refine ⟨Z5,hwf wf,fun base φ w a gL hf=>AZ fun t=>?_⟩
 have key:∀ md t,∃ Q0:Exit→Act→World→Prop,(∀ e a1 w1,Q0 e a1 w1→Post E base φ w nt H W .normal ⟨T',H2,[],[]⟩ e a1 w1)∧wpOps E.P ops Q0 (Region.linearise md ops t) a { w with drawn:=w.drawn+1 }:=by
  intro md t
  have hs:=Nr (md:=md) (ops:=ops) ops.size t (Array.replicate ops.size false) (by simp) (by
   unfold Px
   have:=List.countP_le_length (p:=fun i=>!(Array.replicate ops.size false).getD i true) (l:=List.range ops.size)
   simpa using this)
  obtain ⟨f,g,C,H1,h1,h2,h3,h4,hn,hg⟩:=hc (Region.linearise md ops t)
  obtain ⟨T1,ht,hx,_,hd⟩:=h3 wf dy
  refine ⟨Post E base φ w nt H W .normal ⟨T1,H1,[],[]⟩,fun e a1 w1 ⟨φ',hO,he,KO,jX⟩=>⟨φ',hO.forget hx dy hn hg,he,KO.sub ht,jX⟩,?_⟩
  obtain ⟨k1,k2⟩:=Jy (P:=E.P) (Q:=Post E base φ w nt H W .normal ⟨T1,H1,[],[]⟩) h1 (hpr md) _ _ (Array.replicate ops.size false) hs (by simp) (by simp) (fun i hi=>by
   have:=(h1.fg i hi).2
   simp [Array.getD_eq_getD_getElem?,hi,this]) (fun p hp=>.inr (h2 p hp))
  have:=hd base φ w a gL (fun i h5 h6=>hf i h5 aa) md (h4 md)
  rw [Cx] at this
  exact k2 a _ (FZ _ _ _ a _ this k1)
 unfold Region.schedule
 split
 ·exact key _ _
 ·split <;> exact key _ _
end Go.Am
