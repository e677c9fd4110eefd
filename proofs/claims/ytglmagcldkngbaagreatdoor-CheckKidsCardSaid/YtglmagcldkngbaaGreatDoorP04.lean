/- Part of the proof that CheckKids answers true. -/
import Derived.Test.YtglmagcldkngbaaGreatDoorP03
set_option linter.unusedVariables false
set_option linter.unusedSimpArgs false
set_option maxRecDepth 100000
set_option maxHeartbeats 4000000
namespace Go.Proofs.YtglmagcldkngbaaGreatDoor
open Go Go.Am
theorem mH:E.func 235=some Tryz.f235:=ah
theorem mJ:bO Tryz.f235 2=true:=ah
noncomputable abbrev wF (nd:Int) (H:Hp) (ds:List Int) (n:Int) (l_:List Hint):=au 1::aF::au 4::vl (iI nd) H::aF::au 4::.ck::vl (uB (dg ds n)) H::aI::au 1::.as (iI (n+1))::au 2::vl (iI nd) H::aI::au 3::l_
noncomputable abbrev Cz (nd:Int) (H:Hp) (ds:List Int) (n:Int) (l_:List Hint):=au 1::aF::au 4::vl (iI nd) H::aF::au 4::.ck::vl (uB (dg ds n)) H::aI::au 1::.as (iI (n+1))::au 2::vl (iI nd) H::aF::au 4::.ck::vl (uB (dg ds n)) H::l_
noncomputable abbrev CA (nd:Int) (H:Hp) (ds:List Int) (n:Int) (l_:List Hint):=wF nd H ds n (vl (.bool false) H::au 0::aI::au 2::.as (iI (n-1))::au 1::.ck::vl (uB (dg ds (n-1))) H::au 1::l_)
theorem EV (a:Nat) (ds:List Int) (nd:Int) (dp:Int) (neg:Bool) (tr:Bool) (n:Int) {H:Hp} (y:Gd E G H) (ka:H.get a=some (.cells (bh ds nd dp neg tr) 281 false)) (hd:zc ds nd) (hn:n<1000000000):aD E G 235 [pt a 0,iI n] H [] (fun v H'=>∃ b:Bool,v=.bool b):=by
 have n8:=hd.n8
 cases h1:(decide (n<0)) with
 |true=>
  exact bA y [au 1,aI,au 2] (.bool false) H mH mJ (cF h1 aS) ⟨false,rfl⟩
 |false=>
  have q1:=aQ h1
  have w1:=fX hd.len ka
  cases h2:(decide (n≥nd)) with
  |true=>
   exact bA y [au 1,aF,au 4,vl (iI nd) H,aI,au 1] (.bool false) H mH mJ (eY h1 w1 h2 aS) ⟨false,rfl⟩
  |false=>
   have q2:=aQ h2
   have w2:0≤n:=aa
   have w3:n<(800:Int):=aa
   have w4:=ym (i:=n) hd.len ka aa aa
   cases h3:((dg ds n)==53) with
   |true=>
    have w5:=aC (n+1)
    cases h4:((n+1)==nd) with
    |true=>
     have q4:=bW h4
     have w6:=X0 hd.len ka
     cases tr with
     |true=>
      exact bA y (wF nd H ds n [vl (.bool true) H,au 0]) (.bool true) H mH mJ (aE h1 w1 h2 w2 w3 w4 h3 w5<|eY w1 h4 w6 aS) ⟨true,rfl⟩
     |false=>
      cases h6:(decide (n>0)) with
      |true=>
       have q6:=aL h6
       have w7:=aC (n-1)
       have w8:0≤(n-1):=aa
       have w9:(n-1)<(800:Int):=aa
       have jE:=ym (i:=(n-1)) hd.len ka aa aa
       cases h7:((Int.tmod (IntKind.u8.wrap ((dg ds (n-1))-48)) 2) != 0) with
       |true=>
        exact bA y (CA nd H ds n [aI,au 1]) (.bool true) H mH mJ (aE h1 w1 h2 w2 w3 w4 h3 w5<|aE w1 h4 w6 h6 w7 w8 w9 jE<|cF h7 aS) ⟨true,rfl⟩
       |false=>
        exact bA y (CA nd H ds n [aF,au 1]) (.bool false) H mH mJ (aE h1 w1 h2 w2 w3 w4 h3 w5<|aE w1 h4 w6 h6 w7 w8 w9 jE<|cF h7 aS) ⟨false,rfl⟩
      |false=>
       exact bA y (wF nd H ds n [vl (.bool false) H,au 0,aF,au 2]) (.bool false) H mH mJ (aE h1 w1 h2 w2 w3 w4 h3 w5<|gm w1 h4 w6 h6 aS) ⟨false,rfl⟩
    |false=>
     cases h5:(decide ((dg ds n)≥53)) with
     |true=>
      exact bA y (Cz nd H ds n [aI,au 0]) (.bool true) H mH mJ (aE h1 w1 h2 w2 w3 w4 h3 w5<|fG w1 h4 w2 w3 w4 h5 aS) ⟨true,rfl⟩
     |false=>
      exact bA y (Cz nd H ds n [aF,au 0]) (.bool false) H mH mJ (aE h1 w1 h2 w2 w3 w4 h3 w5<|fG w1 h4 w2 w3 w4 h5 aS) ⟨false,rfl⟩
   |false=>
    cases h4:(decide ((dg ds n)≥53)) with
    |true=>
     exact bA y [au 1,aF,au 4,vl (iI nd) H,aF,au 4,.ck,vl (uB (dg ds n)) H,aF,au 5,.ck,vl (uB (dg ds n)) H,aI,au 0] (.bool true) H mH mJ (aE h1 w1 h2 w2 w3 w4 h3 w2<|eY w3 w4 h4 aS) ⟨true,rfl⟩
    |false=>
     exact bA y [au 1,aF,au 4,vl (iI nd) H,aF,au 4,.ck,vl (uB (dg ds n)) H,aF,au 5,.ck,vl (uB (dg ds n)) H,aF,au 0] (.bool false) H mH mJ (aE h1 w1 h2 w2 w3 w4 h3 w2<|eY w3 w4 h4 aS) ⟨false,rfl⟩
noncomputable def vj:Code:=cz [1,1,1,1,0,1,0,0] (bH Tryz.f229)
theorem wj (a:Nat) (ds:List Int) (nd:Int) (dp:Int) (neg:Bool) (tr:Bool):∀(m:Nat) (x3:Int) (x4:Int) (H:Hp),Gd E G H→(ka:H.get a=some (.cells (bh ds nd dp neg tr) 281 false))→(hd:zc ds nd)→(h0:0≤x3)→(WW:dp≤20)→(dp-x3).toNat=m→
  aA E G 56 vj [(0,pt a 0),(3,iI x3),(4,uU x4)] H [] (fun x T H'=>(x=(.exit 0)∧∃(z3:Int) (z4:Int),T=bw [(0,pt a 0),(3,iI z3),(4,uU z4)]∧(0≤z3))):=by
 intro m
 induction m using Nat.strongRecOn with
 |_ m ih=>
 intro x3 x4 H y ka hd h0 WW hm
 have w1:=jH hd.len ka
 cases h1:(decide (x3<dp)) with
 |true=>
  have q1:=aL h1
  have w2:=fX hd.len ka
  cases h2:(decide (x3<nd)) with
  |true=>
   have w3:0≤x3:=aa
   have w4:x3<(800:Int):=aa
   have w5:=ym (i:=x3) hd.len ka aa aa
   have w6:=aC (x3+1)
   exact aA.next' y (bf [au 3,vl (iI dp) H,aI,au 4,vl (iI nd) H,aI,au 6,.ck,vl (uB (dg ds x3)) H,au 4,.as (iI (x3+1)),au 0] [(0,pt a 0),(3,iI (x3+1)),(4,uU (IntKind.u64.wrap ((IntKind.u64.wrap (x4*10))+(IntKind.u64.wrap (IntKind.u8.wrap ((dg ds x3)-48))))))] .normal H [] (fun _ r_=>aE w1 h1 w2 h2 w3 w4 w5 w6 r_)) aM (ih _ aa (x3+1) (IntKind.u64.wrap ((IntKind.u64.wrap (x4*10))+(IntKind.u64.wrap (IntKind.u8.wrap ((dg ds x3)-48))))) _ y ka hd aa WW rfl)
  |false=>
   exact aA.last' y (bf [au 3,vl (iI dp) H,aI,au 4,vl (iI nd) H,aF,au 0] [(0,pt a 0),(3,iI x3),(4,uU x4)] (.exit 0) H [] (fun _ r_=>gm w1 h1 w2 h2 r_)) aj aM aM ⟨rfl,x3,x4,rfl,aa⟩
 |false=>
  exact aA.last' y (bf [au 3,vl (iI dp) H,aF,au 1] [(0,pt a 0),(3,iI x3),(4,uU x4)] (.exit 0) H [] (fun _ r_=>cU w1 h1 r_)) aj aM aM ⟨rfl,x3,x4,rfl,aa⟩
noncomputable def vp:Code:=cz [1,1,1,1,1,0,0,0] (bH Tryz.f229)
theorem wk (a:Nat) (ds:List Int) (nd:Int) (dp:Int) (neg:Bool) (tr:Bool):∀(m:Nat) (x3:Int) (x4:Int) (H:Hp),Gd E G H→(ka:H.get a=some (.cells (bh ds nd dp neg tr) 281 false))→(WW:dp≤20)→(h0:0≤x3)→(hd:zc ds nd)→(dp-x3).toNat=m→
  aA E G 56 vp [(0,pt a 0),(3,iI x3),(4,uU x4)] H [] (fun x T H'=>(x=(.exit 2)∧∃(z4:Int),T=bw [(0,pt a 0),(4,uU z4)])):=by
 intro m
 induction m using Nat.strongRecOn with
 |_ m ih=>
 intro x3 x4 H y ka WW h0 hd hm
 have w1:=jH hd.len ka
 cases h1:(decide (x3<dp)) with
 |true=>
  have q1:=aL h1
  have w2:=aC (x3+1)
  exact aA.next' y (bf [au 3,vl (iI dp) H,aI,au 3,.as (iI (x3+1)),au 0] [(0,pt a 0),(3,iI (x3+1)),(4,uU (IntKind.u64.wrap (x4*10)))] .normal H [] (fun _ r_=>eY w1 h1 w2 r_)) aM (ih _ aa (x3+1) (IntKind.u64.wrap (x4*10)) _ y ka WW aa hd rfl)
 |false=>
  exact aA.last' y (bf [au 3,vl (iI dp) H,aF] [(0,pt a 0),(4,uU x4)] (.exit 2) H [] (fun _ r_=>cU w1 h1 r_)) aj aM aM ⟨rfl,x4,rfl⟩
theorem GA:E.func 229=some Tryz.f229:=ah
theorem GB:bO Tryz.f229 1=true:=ah
noncomputable abbrev CB (dp:Int) (H:Hp) (a:Nat) ff cL (H1:Hp) Ph (H2:Hp) (l_:List Hint):=au 3::vl (iI dp) H::aF::au 2::.loop [0,3,4] (.exit 0) (bw [(0,pt a 0),(3,iI ff),(4,uU cL)]) H1 []::.loop [0,3,4] (.exit 2) (bw [(0,pt a 0),(4,uU Ph)]) H2 []::au 3::vl (iI dp) H2::l_
theorem D3 (a:Nat) (ds:List Int) (nd:Int) (dp:Int) (neg:Bool) (tr:Bool) {H:Hp} (y:Gd E G H) (ka:H.get a=some (.cells (bh ds nd dp neg tr) 281 false)) (hd:zc ds nd):aD E G 229 [pt a 0] H [] (fun v H'=>∃ n:Int,v=.int .u64 n):=by
 have w1:=jH hd.len ka
 cases h1:(decide (dp>20)) with
 |true=>
  exact bA y [au 3,vl (iI dp) H,aI,au 0] (uU 18446744073709551615) H GA GB (cU w1 h1 aS) ⟨_,rfl⟩
 |false=>
  have q1:=aQ h1
  obtain ⟨_,_,H1,c1,bN,y1,rfl,ff,cL,rfl,cw⟩:=(wj a ds nd dp neg tr _ 0 0 _ y ka hd aa aa rfl).code
  have dX:=y.kept bN aH ka
  obtain ⟨_,_,H2,c2,dc,y2,rfl,Ph,rfl⟩:=(wk a ds nd dp neg tr _ ff cL _ y1 dX aa aa hd rfl).code
  have s8:=y1.kept dc aH dX
  have w2:=jH hd.len s8
  obtain ⟨_,H3,c3,gB,y3,b3,rfl⟩:=EV a ds nd dp neg tr dp y2 s8 hd aa
  cases b3 with
  |true=>
   exact bA y (CB dp H a ff cL H1 Ph H2 [.call (.bool true) H3 [],au 4]) (uU (IntKind.u64.wrap (Ph+1))) H3 GA GB (fG w1 h1 c1 c2 w2 c3 aS) ⟨_,rfl⟩
  |false=>
   exact bA y (CB dp H a ff cL H1 Ph H2 [.call (.bool false) H3 [],au 1]) (uU Ph) H3 GA GB (fG w1 h1 c1 c2 w2 c3 aS) ⟨_,rfl⟩
theorem xD {i:Int} (h0:0≤i) (h1:i<9):∃ n:Int,([.int .i64 1,.int .i64 3,.int .i64 6,.int .i64 9,.int .i64 13,.int .i64 16,.int .i64 19,.int .i64 23,.int .i64 26]:List Value)[0+i.toNat*1]?=some (.int .i64 n)∧1≤n∧n≤27:=by
 have:i=0∨i=1∨i=2∨i=3∨i=4∨i=5∨i=6∨i=7∨i=8:=aa
 rcases this with rfl |rfl |rfl |rfl |rfl |rfl |rfl |rfl |rfl <;> exact ⟨_,rfl,by omega,by omega⟩
theorem zc.first {ds:List Int} {nd:Int} (h:zc ds nd):49≤dg ds 0∧dg ds 0≤57:=⟨h.BZ,(h.qP 0 aa (by have:=h.n1;omega)).2⟩
noncomputable def o9:Code:=cz [1,0,1,1,1,1,1,1,0,0,0] (bH Tryz.f207)
theorem qq (a:Nat) (neg:Bool):∀(m:Nat) (x6:Int) (ds:List Int) (nd:Int) (dp:Int) (tr:Bool) (H:Hp),Gd E G H→(ka:H.get a=some (.cells (bh ds nd dp neg tr) 281 false))→(hd:zc ds nd)→(ga:G.n≤a)→(p0:-30000≤dp)→(p1:dp≤310)→(e0:0≤x6)→(e1:x6+27*(10*dp+dg ds 0)≤100000)→(10*dp+dg ds 0).toNat=m→
  aA E G 243 o9 [(0,pt a 0),(1,pt 12 0),(5,.bool false),(6,iI x6)] H [a] (fun x T H'=>(x=(.exit 0)∧∃(z6:Int) (zd:List Int) (zn zp:Int) (zt:Bool),T=bw [(0,pt a 0),(1,pt 12 0),(5,.bool false),(6,iI z6)]∧(H'.get a=some (.cells (bh zd zn zp neg zt) 281 false)∧zc zd zn∧-30000≤zp∧zp≤0∧0≤z6∧z6≤10000000))):=by
 intro m
 induction m using Nat.strongRecOn with
 |_ m ih=>
 intro x6 ds nd dp tr H y ka hd ga p0 p1 e0 e1 hm
 have hf:=hd.first
 have gn:=vR
 have w1:=jH hd.len ka
 cases h1:(decide (dp>0)) with
 |true=>
  have q1:=aL h1
  have w2:aq E 44 14 0 H=some (sc 26 0 9 19):=bQ tn (Xs y) rfl
  cases h2:(decide (dp≥9)) with
  |true=>
   have q2:=aL h2
   obtain ⟨_,H1,c1,bN,y1,pG,kL,oZ,jc,rfl,nZ,lJ,KN,KJ⟩:=LF a ds nd dp neg tr 27 y ka hd ga aa aa aa aa
   have w3:=aC (x6+27)
   have hf2:=lJ.first
   exact aA.next' y (bf [au 2,vl (iI dp) H,aI,au 3,vl (iI dp) H,vl (sc 26 0 9 19) H,au 0,aI,au 3,.call (.tuple #[]) H1 [a],au 1,.as (iI (x6+27)),au 0] [(0,pt a 0),(1,pt 12 0),(5,.bool false),(6,iI (x6+27))] .normal H1 [a] (fun _ r_=>aE w1 h1 ag ag ag ag w1 ag<|fk w2 ag ag h2 ag c1 w3 r_)) aj (ih _ aa (x6+27) pG kL oZ jc _ y1 nZ lJ ga aa aa aa aa rfl)
  |false=>
   have q2:=aQ h2
   have w3:0≤dp:=aa
   have w4:dp<(9:Int):=aa
   obtain ⟨pn,hpn,pn1,pn2⟩:=xD (i:=dp) aa aa
   have w5:aq E 3 26 (0+dp.toNat*1) H=some (iI pn):=bQ aR (Xt y) hpn
   have w6:((iI (IntKind.i64.wrap (0-pn))):Value)=(iI (-pn)):=(by rw [eU aa aa] <;> congr 1 <;> omega)
   obtain ⟨_,H1,c1,bN,y1,pG,kL,oZ,jc,rfl,nZ,lJ,KN,KJ⟩:=LF a ds nd dp neg tr pn y ka hd ga aa aa aa aa
   have w7:=aC (x6+pn)
   have hf2:=lJ.first
   exact aA.next' y (bf [au 2,vl (iI dp) H,aI,au 3,vl (iI dp) H,vl (sc 26 0 9 19) H,au 0,aF,vl (sc 26 0 9 19) H,au 2,vl (iI dp) H,.ck,vl (iI pn) H,au 2,.as (iI (-pn)),.call (.tuple #[]) H1 [a],au 1,.as (iI (x6+pn)),au 0] [(0,pt a 0),(1,pt 12 0),(5,.bool false),(6,iI (x6+pn))] .normal H1 [a] (fun _ r_=>aE w1 h1 ag ag ag ag w1 ag<|aE w2 ag ag h2 ag ag w2 ag<|aE ag ag ag w1 ag w3 w4 ag<|fG w5 ag ag w6 c1 w7 r_)) aj (ih _ aa (x6+pn) pG kL oZ jc _ y1 nZ lJ ga aa aa aa aa rfl)
 |false=>
  have q1:=aQ h1
  exact aA.last' y (bf [au 2,vl (iI dp) H,aF] [(0,pt a 0),(1,pt 12 0),(5,.bool false),(6,iI x6)] (.exit 0) H [] (fun _ r_=>cU w1 h1 r_)) aj aM aJ ⟨rfl,x6,ds,nd,dp,tr,rfl,⟨ka,hd,by omega,by omega,by omega,by omega⟩⟩
noncomputable def nS:Code:=cz [1,0,1,1,1,1,1,1,1,0,0,0] (bH Tryz.f207)
noncomputable abbrev CD (dp:Int) (H:Hp) (l_:List Hint):=au 2::vl (iI dp) H::aI::au 5::vl (iI dp) H::.as (iI (-dp))::vl (sc 26 0 9 19) H::au 0::l_
noncomputable abbrev CE (dp:Int) (H:Hp) (ds:List Int) (l_:List Hint):=au 2::vl (iI dp) H::aF::au 3::vl (iI dp) H::aI::au 4::vl (uB (dg ds 0)) H::aI::au 5::vl (iI dp) H::.as (iI (-dp))::vl (sc 26 0 9 19) H::au 0::l_
theorem oz (a:Nat) (neg:Bool):∀(m:Nat) (x6:Int) (ds:List Int) (nd:Int) (dp:Int) (tr:Bool) (H:Hp),Gd E G H→(ka:H.get a=some (.cells (bh ds nd dp neg tr) 281 false))→(hd:zc ds nd)→(ga:G.n≤a)→(p0:-30000≤dp)→(p1:dp≤20)→(e0:x6≤10000000)→(e1:-10000000≤x6+27*(10*dp+dg ds 0))→(60-(10*dp+dg ds 0)+100).toNat=m→
  aA E G 243 nS [(0,pt a 0),(1,pt 12 0),(5,.bool false),(6,iI x6)] H [a] (fun x T H'=>(x=(.exit 2)∧∃(z6:Int) (zd:List Int) (zn zp:Int) (zt:Bool),T=bw [(0,pt a 0),(1,pt 12 0),(5,.bool false),(6,iI z6)]∧(H'.get a=some (.cells (bh zd zn zp neg zt) 281 false)∧zc zd zn∧0≤zp∧zp≤20∧-11000000≤z6∧z6≤10000000))):=by
 intro m
 induction m using Nat.strongRecOn with
 |_ m ih=>
 intro x6 ds nd dp tr H y ka hd ga p0 p1 e0 e1 hm
 have hf:=hd.first
 have gn:=vR
 have w1:=jH hd.len ka
 cases h1:(decide (dp<0)) with
 |true=>
  have q1:=aL h1
  have w2:((iI (IntKind.i64.wrap (0-dp))):Value)=(iI (-dp)):=(by rw [eU aa aa] <;> congr 1 <;> omega)
  have w3:aq E 44 14 0 H=some (sc 26 0 9 19):=bQ tn (Xs y) rfl
  cases h2:(decide ((-dp)≥9)) with
  |true=>
   have q2:=aL h2
   obtain ⟨_,H1,c1,bN,y1,pG,kL,oZ,jc,rfl,nZ,lJ,KN,KJ⟩:=D6 a ds nd dp neg tr 27 y ka hd ga aa aa aa aa
   have w4:=aC (x6-27)
   have hf2:=lJ.first
   exact aA.next' y (bf (CD dp H [aI,au 2,.call (.tuple #[]) H1 [a],au 1,.as (iI (x6-27)),au 0]) [(0,pt a 0),(1,pt 12 0),(5,.bool false),(6,iI (x6-27))] .normal H1 [a] (fun _ r_=>aE w1 h1 ag ag ag ag w1 ag<|aE w2 ag w3 ag ag h2 ag c1<|cF w4 r_)) aj (ih _ aa (x6-27) pG kL oZ jc _ y1 nZ lJ ga aa aa aa aa rfl)
  |false=>
   have q2:=aQ h2
   have w4:0≤(-dp):=aa
   have w5:(-dp)<(9:Int):=aa
   obtain ⟨pn,hpn,pn1,pn2⟩:=xD (i:=(-dp)) aa aa
   have w6:aq E 3 26 (0+(-dp).toNat*1) H=some (iI pn):=bQ aR (Xt y) hpn
   obtain ⟨_,H1,c1,bN,y1,pG,kL,oZ,jc,rfl,nZ,lJ,KN,KJ⟩:=D6 a ds nd dp neg tr pn y ka hd ga aa aa aa aa
   have w7:=aC (x6-pn)
   have hf2:=lJ.first
   exact aA.next' y (bf (CD dp H [aF,vl (sc 26 0 9 19) H,au 2,vl (iI dp) H,.as (iI (-dp)),.ck,vl (iI pn) H,au 2,.call (.tuple #[]) H1 [a],au 1,.as (iI (x6-pn)),au 0]) [(0,pt a 0),(1,pt 12 0),(5,.bool false),(6,iI (x6-pn))] .normal H1 [a] (fun _ r_=>aE w1 h1 ag ag ag ag w1 ag<|aE w2 ag w3 ag ag h2 ag ag<|aE w3 ag ag ag ag w1 ag w2<|aE ag w4 w5 ag w6 ag ag c1<|cF w7 r_)) aj (ih _ aa (x6-pn) pG kL oZ jc _ y1 nZ lJ ga aa aa aa aa rfl)
 |false=>
  have q1:=aQ h1
  cases h2:(dp==0) with
  |true=>
   have q2:=bW h2
   have w2:=ym (i:=0) hd.len ka aa aa
   cases h3:(decide ((dg ds 0)<53)) with
   |true=>
    have q3:=aL h3
    have w3:((iI (IntKind.i64.wrap (0-dp))):Value)=(iI (-dp)):=(by rw [eU aa aa] <;> congr 1 <;> omega)
    have w4:aq E 44 14 0 H=some (sc 26 0 9 19):=bQ tn (Xs y) rfl
    cases h4:(decide ((-dp)≥9)) with
    |true=>
     have q4:=aL h4
     obtain ⟨_,H1,c1,bN,y1,pG,kL,oZ,jc,rfl,nZ,lJ,KN,KJ⟩:=D6 a ds nd dp neg tr 27 y ka hd ga aa aa aa aa
     have w5:=aC (x6-27)
     exact aA.next' y (bf (CE dp H ds [aI,au 2,.call (.tuple #[]) H1 [a],au 1,.as (iI (x6-27)),au 0]) [(0,pt a 0),(1,pt 12 0),(5,.bool false),(6,iI (x6-27))] .normal H1 [a] (fun _ r_=>aE w1 h1 w1 h2 w2 h3 ag ag<|aE ag ag w1 ag w3 ag w4 ag<|eM ag h4 ag c1 w5 r_)) aj (ih _ aa (x6-27) pG kL oZ jc _ y1 nZ lJ ga aa aa aa aa rfl)
    |false=>
     have w5:0≤(-dp):=aa
     have w6:(-dp)<(9:Int):=aa
     obtain ⟨pn,hpn,pn1,pn2⟩:=xD (i:=(-dp)) aa aa
     have w7:aq E 3 26 (0+(-dp).toNat*1) H=some (iI pn):=bQ aR (Xt y) hpn
     obtain ⟨_,H1,c1,bN,y1,pG,kL,oZ,jc,rfl,nZ,lJ,KN,KJ⟩:=D6 a ds nd dp neg tr pn y ka hd ga aa aa aa aa
     have w8:=aC (x6-pn)
     have hf2:=lJ.first
     exact aA.next' y (bf (CE dp H ds [aF,vl (sc 26 0 9 19) H,au 2,vl (iI dp) H,.as (iI (-dp)),.ck,vl (iI pn) H,au 2,.call (.tuple #[]) H1 [a],au 1,.as (iI (x6-pn)),au 0]) [(0,pt a 0),(1,pt 12 0),(5,.bool false),(6,iI (x6-pn))] .normal H1 [a] (fun _ r_=>aE w1 h1 w1 h2 w2 h3 ag ag<|aE ag ag w1 ag w3 ag w4 ag<|aE ag h4 ag ag w4 ag ag ag<|aE ag w1 ag w3 ag w5 w6 ag<|eM w7 ag ag c1 w8 r_)) aj (ih _ aa (x6-pn) pG kL oZ jc _ y1 nZ lJ ga aa aa aa aa rfl)
   |false=>
    have q3:=aQ h3
    exact aA.last' y (bf [au 2,vl (iI dp) H,aF,au 3,vl (iI dp) H,aI,au 4,vl (uB (dg ds 0)) H,aF,au 1] [(0,pt a 0),(1,pt 12 0),(5,.bool false),(6,iI x6)] (.exit 2) H [] (fun _ r_=>fG w1 h1 w1 h2 w2 h3 r_)) aj aM aJ ⟨rfl,x6,ds,nd,dp,tr,rfl,⟨ka,hd,by omega,by omega,by omega,by omega⟩⟩
  |false=>
   exact aA.last' y (bf [au 2,vl (iI dp) H,aF,au 3,vl (iI dp) H,aF,au 2] [(0,pt a 0),(1,pt 12 0),(5,.bool false),(6,iI x6)] (.exit 2) H [] (fun _ r_=>gm w1 h1 w1 h2 r_)) aj aM aJ ⟨rfl,x6,ds,nd,dp,tr,rfl,⟨ka,hd,by omega,by omega,by omega,by omega⟩⟩
noncomputable def mU:Code:=cz [1,0,1,1,1,1,1,1,1,1,1,0] (bH Tryz.f207)
theorem nG (a:Nat) (neg:Bool) (x6:Int) (ds:List Int) (nd:Int) (dp:Int) (tr:Bool) {H:Hp} (y:Gd E G H) (ka:H.get a=some (.cells (bh ds nd dp neg tr) 281 false)) (hd:zc ds nd) (ga:G.n≤a) (p0:-30000≤dp) (p1:dp≤20) (e0:-12000000≤x6) (e1:x6≤10000000) :
  bt E G 243 mU [(0,pt a 0),(1,pt 12 0),(5,.bool false),(6,iI x6)] H [a] (fun x T H'=>(x=.normal∧∃(z6:Int) (zd:List Int) (zn zp:Int) (zt:Bool),T=bw [(0,pt a 0),(1,pt 12 0),(5,.bool false),(6,iI z6)]∧(H'.get a=some (.cells (bh zd zn zp neg zt) 281 false)∧zc zd zn∧-20000000000≤zp∧zp≤20∧-12000000≤z6∧z6≤10000000))):=by
 have gn:=vR
 have w1:aq E 3 12 2 H=some (iI (-1023)):=bQ aR (xW y) rfl
 cases h1:(decide (x6<(-1022))) with
 |true=>
  have q1:=aL h1
  have w2:=aC ((-1022)-x6)
  have w3:((iI (IntKind.i64.wrap (0-((-1022)-x6)))):Value)=(iI (-((-1022)-x6))):=(by rw [eU aa aa] <;> congr 1 <;> omega)
  obtain ⟨_,H1,c1,bN,y1,pG,kL,oZ,jc,rfl,nZ,lJ,KN,KJ⟩:=LF a ds nd dp neg tr ((-1022)-x6) y ka hd ga aa aa aa aa
  have w4:=aC (x6+((-1022)-x6))
  exact bt.mk y (bf [au 3,vl (iI (-1023)) H,au 0,aI,au 2,vl (iI (-1023)) H,au 1,.as (iI ((-1022)-x6)),au 2,.as (iI (-((-1022)-x6))),.call (.tuple #[]) H1 [a],au 1,.as (iI (x6+((-1022)-x6))),au 0] [(0,pt a 0),(1,pt 12 0),(5,.bool false),(6,iI (x6+((-1022)-x6)))] .normal H1 [a] (fun _ r_=>fk w1 h1 w1 w2 w3 c1 w4 r_)) aj aJ ⟨rfl,x6+((-1022)-x6),pG,kL,oZ,jc,rfl,⟨nZ,lJ,by omega,by omega,by omega,by omega⟩⟩
 |false=>
  exact bt.mk y (bf [au 3,vl (iI (-1023)) H,au 0,aF] [(0,pt a 0),(1,pt 12 0),(5,.bool false),(6,iI x6)] .normal H [] (fun _ r_=>cU w1 h1 r_)) aM aJ ⟨rfl,x6,ds,nd,dp,tr,rfl,⟨ka,hd,by omega,by omega,by omega,by omega⟩⟩
noncomputable def pg:Code:=cz [1,0,1,1,1,1,1,1,1,1] (bH Tryz.f207)
noncomputable abbrev wG (x6:Int) (a:Nat) fy (H1:Hp) (l_:List Hint):=au 0::.as (iI (x6-1))::au 0::.piece 1 [0,1,5,6] .normal (bw [(0,pt a 0),(1,pt 12 0),(5,.bool false),(6,iI fy)]) H1 [a]::au 3::vl (iI (-1023)) H1::.as (iI (fy-(-1023)))::au 2::vl (uU 11) H1::au 1::l_
noncomputable abbrev CF (x6:Int) (a:Nat) fy (H1:Hp) (H2:Hp) FJ (H3:Hp) (l_:List Hint):=wG x6 a fy H1 (aF::au 3::vl (uU 52) H1::au 1::.call (.tuple #[]) H2 [a]::au 0::.call (uU FJ) H3 []::au 4::vl (uU 52) H3::au 0::aF::au 3::vl (uU 52) H3::au 1::l_)
noncomputable abbrev wH (x6:Int) (a:Nat) fy (H1:Hp) (H2:Hp) FJ (H3:Hp) (l_:List Hint):=wG x6 a fy H1 (aF::au 3::vl (uU 52) H1::au 1::.call (.tuple #[]) H2 [a]::au 0::.call (uU FJ) H3 []::au 4::vl (uU 52) H3::au 0::aI::au 3::.as (iI (fy+1))::au 4::vl (iI (-1023)) H3::.as (iI ((fy+1)-(-1023)))::au 2::vl (uU 11) H3::au 1::l_)
theorem qw (a:Nat) (neg:Bool) (x6:Int) (ds:List Int) (nd:Int) (dp:Int) (tr:Bool) {H:Hp} (y:Gd E G H) (ka:H.get a=some (.cells (bh ds nd dp neg tr) 281 false)) (hd:zc ds nd) (ga:G.n≤a) (p0:-30000≤dp) (p1:dp≤20) (e0:-11000000≤x6) (e1:x6≤10000000) :
  bt E G 243 pg [(0,pt a 0),(1,pt 12 0),(5,.bool false),(6,iI x6)] H [a] (fun x T H'=>(x=(.goto 0)∧∃(z6 z7:Int) (zd:List Int) (zn zp:Int) (zt:Bool),T=bw [(0,pt a 0),(1,pt 12 0),(5,.bool false),(6,iI z6),(7,uU z7)]∧(H'.get a=some (.cells (bh zd zn zp neg zt) 281 false)∧zd.length=800))∨(x=(.goto 1)∧∃(zd:List Int) (zn zp:Int) (zt:Bool),T=bw [(0,pt a 0),(1,pt 12 0)]∧(H'.get a=some (.cells (bh zd zn zp neg zt) 281 false)∧zd.length=800))):=by
 have gn:=vR
 have w1:=aC (x6-1)
 obtain ⟨_,_,H1,c1,bN,y1,rfl,fy,pG,kL,oZ,jc,rfl,nZ,lJ,cw,iX,qV,AX⟩:=nG a neg (x6-1) ds nd dp tr y ka hd ga aa aa aa aa
 have Al:=y.kept bN cu (xW y)
 have w2:aq E 3 12 2 H1=some (iI (-1023)):=bQ aR Al rfl
 have w3:=aC (fy-(-1023))
 have w4:aq E 91 12 1 H1=some (uU 11):=bQ fW Al rfl
 cases h1:(decide ((fy-(-1023))≥2047)) with
 |true=>
  exact bt.mk y (bf (wG x6 a fy H1 [aI]) [(0,pt a 0),(1,pt 12 0)] (.goto 1) H1 [a] (fun _ r_=>aE w1 c1 ag ag ag ag ag w2<|aE ag w3 ag ag ag ag w4 ag<|gm ag ag h1 ag r_)) aj aJ (.inr (⟨rfl,pG,kL,oZ,jc,rfl,⟨nZ,lJ.len⟩⟩))
 |false=>
  have q1:=aQ h1
  have w5:aq E 91 12 0 H1=some (uU 52):=bQ fW Al rfl
  obtain ⟨_,H2,c2,dc,y2,yV,td,EB,yW,rfl,AT,vq,Yz,Ym⟩:=D6 a pG kL oZ neg jc 53 y1 nZ lJ ga aa aa aa aa
  obtain ⟨_,H3,c3,gB,y3,FJ,rfl⟩:=D3 a yV td EB neg yW y2 AT vq
  have I5:=y1.kept dc cu Al
  have sP:=y2.kept gB aH I5
  have w6:aq E 91 12 0 H3=some (uU 52):=bQ fW sP rfl
  cases h2:(FJ==9007199254740992) with
  |true=>
   have w7:=aC (fy+1)
   have w8:aq E 3 12 2 H3=some (iI (-1023)):=bQ aR sP rfl
   have w9:=aC ((fy+1)-(-1023))
   have jE:aq E 91 12 1 H3=some (uU 11):=bQ fW sP rfl
   cases h3:(decide (((fy+1)-(-1023))≥2047)) with
   |true=>
    have G4:=y2.kept gB aH AT
    exact bt.mk y (bf (wH x6 a fy H1 H2 FJ H3 [aI]) [(0,pt a 0),(1,pt 12 0)] (.goto 1) H3 [a,a] (fun _ r_=>aE w1 c1 ag ag ag ag ag w2<|aE ag w3 ag ag ag ag w4 ag<|aE ag ag h1 ag w5 c2 c3 w6<|aE h2 w7 ag ag ag ag ag w8<|aE ag w9 ag ag ag ag jE ag<|gm ag ag h3 ag r_)) aj aJ (.inr (⟨rfl,yV,td,EB,yW,rfl,⟨G4,vq.len⟩⟩))
   |false=>
    cases h4:((IntKind.u64.wrap ((BitVec.ofInt 64 (Int.fdiv FJ (2 ^ 1)) &&& BitVec.ofInt 64 4503599627370496).toNat:Int))==0) with
    |true=>
     have G4:=y2.kept gB aH AT
     exact bt.mk y (bf (wH x6 a fy H1 H2 FJ H3 [aF,au 3,vl (uU 52) H3,au 1,aI,au 2,vl (iI (-1023)) H3,au 0]) [(0,pt a 0),(1,pt 12 0),(5,.bool false),(6,iI (-1023)),(7,uU (Int.fdiv FJ (2 ^ 1)))] (.goto 0) H3 [a,a] (fun _ r_=>aE w1 c1 ag ag ag ag ag w2<|aE ag w3 ag ag ag ag w4 ag<|aE ag ag h1 ag w5 c2 c3 w6<|aE h2 w7 ag ag ag ag ag w8<|aE ag w9 ag ag ag ag jE ag<|fk ag ag h3 ag w6 h4 w8 r_)) aj aJ (.inl (⟨rfl,-1023,Int.fdiv FJ (2 ^ 1),yV,td,EB,yW,rfl,⟨G4,vq.len⟩⟩))
    |false=>
     have G4:=y2.kept gB aH AT
     exact bt.mk y (bf (wH x6 a fy H1 H2 FJ H3 [aF,au 3,vl (uU 52) H3,au 1,aF]) [(0,pt a 0),(1,pt 12 0),(5,.bool false),(6,iI (fy+1)),(7,uU (Int.fdiv FJ (2 ^ 1)))] (.goto 0) H3 [a,a] (fun _ r_=>aE w1 c1 ag ag ag ag ag w2<|aE ag w3 ag ag ag ag w4 ag<|aE ag ag h1 ag w5 c2 c3 w6<|aE h2 w7 ag ag ag ag ag w8<|aE ag w9 ag ag ag ag jE ag<|fG ag ag h3 ag w6 h4 r_)) aj aJ (.inl (⟨rfl,fy+1,Int.fdiv FJ (2 ^ 1),yV,td,EB,yW,rfl,⟨G4,vq.len⟩⟩))
  |false=>
   cases h3:((IntKind.u64.wrap ((BitVec.ofInt 64 FJ &&& BitVec.ofInt 64 4503599627370496).toNat:Int))==0) with
   |true=>
    have w7:aq E 3 12 2 H3=some (iI (-1023)):=bQ aR sP rfl
    have G4:=y2.kept gB aH AT
    exact bt.mk y (bf (CF x6 a fy H1 H2 FJ H3 [aI,au 2,vl (iI (-1023)) H3,au 0]) [(0,pt a 0),(1,pt 12 0),(5,.bool false),(6,iI (-1023)),(7,uU FJ)] (.goto 0) H3 [a,a] (fun _ r_=>aE w1 c1 ag ag ag ag ag w2<|aE ag w3 ag ag ag ag w4 ag<|aE ag ag h1 ag w5 c2 c3 w6<|gm h2 w6 h3 w7 r_)) aj aJ (.inl (⟨rfl,-1023,FJ,yV,td,EB,yW,rfl,⟨G4,vq.len⟩⟩))
   |false=>
    have G4:=y2.kept gB aH AT
    exact bt.mk y (bf (CF x6 a fy H1 H2 FJ H3 [aF]) [(0,pt a 0),(1,pt 12 0),(5,.bool false),(6,iI fy),(7,uU FJ)] (.goto 0) H3 [a,a] (fun _ r_=>aE w1 c1 ag ag ag ag ag w2<|aE ag w3 ag ag ag ag w4 ag<|aE ag ag h1 ag w5 c2 c3 w6<|eY h2 w6 h3 r_)) aj aJ (.inl (⟨rfl,fy,FJ,yV,td,EB,yW,rfl,⟨G4,vq.len⟩⟩))
theorem mF:E.func 207=some Tryz.f207:=ah
theorem mG:bO Tryz.f207 2=true:=ah
noncomputable abbrev CH (nd:Int) (H:Hp) (dp:Int) (a:Nat) fy (H1:Hp) Ev (H2:Hp) (l_:List Hint):=au 6::vl (iI nd) H::aF::au 2::vl (iI dp) H::aF::au 2::vl (iI dp) H::aF::au 0::.loop [0,1,5,6] (.exit 0) (bw [(0,pt a 0),(1,pt 12 0),(5,.bool false),(6,iI fy)]) H1 [a]::.loop [0,1,5,6] (.exit 2) (bw [(0,pt a 0),(1,pt 12 0),(5,.bool false),(6,iI Ev)]) H2 [a]::l_
noncomputable abbrev CI (nd:Int) (H:Hp) (dp:Int) (l_:List Hint):=au 6::vl (iI nd) H::aF::au 2::vl (iI dp) H::aI::au 3::vl (uU 11) H::au 4::vl (iI (-1023)) H::au 6::vl (uU 52) H::au 8::vl (iI (-1023)) H::au 3::vl (uU 11) H::au 6::vl (uU 52) H::au 5::l_
noncomputable abbrev CJ (nd:Int) (H:Hp) (dp:Int) (l_:List Hint):=au 6::vl (iI nd) H::aF::au 2::vl (iI dp) H::aF::au 2::vl (iI dp) H::aI::au 3::vl (iI (-1023)) H::au 4::vl (uU 52) H::au 8::vl (iI (-1023)) H::au 3::vl (uU 11) H::au 6::vl (uU 52) H::au 5::l_
noncomputable abbrev CK (nd:Int) (H:Hp) (dp:Int) (a:Nat) fy (H1:Hp) Ev (H2:Hp) Pj nB (H3:Hp) (l_:List Hint):=CH nd H dp a fy H1 Ev H2 (.piece 0 [0,1,5,6] (.goto 0) (bw [(0,pt a 0),(1,pt 12 0),(5,.bool false),(6,iI Pj),(7,uU nB)]) H3 [a]::au 3::vl (uU 52) H3::au 8::vl (iI (-1023)) H3::au 3::vl (uU 11) H3::au 6::vl (uU 52) H3::au 5::l_)
noncomputable abbrev CL (nd:Int) (H:Hp) (dp:Int) (a:Nat) fy (H1:Hp) Ev (H2:Hp) (H3:Hp) (l_:List Hint):=CH nd H dp a fy H1 Ev H2 (.piece 0 [0,1,5,6] (.goto 1) (bw [(0,pt a 0),(1,pt 12 0)]) H3 [a]::au 3::vl (uU 11) H3::au 4::vl (iI (-1023)) H3::au 6::vl (uU 52) H3::au 8::vl (iI (-1023)) H3::au 3::vl (uU 11) H3::au 6::vl (uU 52) H3::au 5::l_)
theorem Oe (a:Nat) (ds:List Int) (nd:Int) (dp:Int) (neg:Bool) (tr:Bool) {H:Hp} (y:Gd E G H) (ka:H.get a=some (.cells (bh ds nd dp neg tr) 281 false)) (hd:zc ds nd) (ga:G.n≤a) (Ng:-1000000<dp) (Ak:dp<1000000):aD E G 207 [pt a 0,pt 12 0] H [a] (fun v H'=>∃(b:Int) (o:Bool),v=.tuple #[.int .u64 b,.bool o]):=by
 have gn:=vR
 have n1:=hd.n1
 have w1:=fX hd.len ka
 have w2:(nd==0)=false:=beq_false_of_ne aa
 have w3:=jH hd.len ka
 cases h1:(decide (dp>310)) with
 |true=>
  have w4:aq E 91 12 1 H=some (uU 11):=bQ fW (xW y) rfl
  have w5:aq E 3 12 2 H=some (iI (-1023)):=bQ aR (xW y) rfl
  have w6:aq E 91 12 0 H=some (uU 52):=bQ fW (xW y) rfl
  have w7:=yo hd.len ka
  cases neg with
  |true=>
   exact aD.mk y (dj (CI nd H dp [vl (.bool true) H,au 3,vl (uU 52) H,au 3,vl (uU 11) H,au 6]) (.tuple #[uU 18442240474082181120,.bool true]) H [] mF mG (aE w1 w2 w3 h1 ag ag ag ag<|aE w4 ag ag ag ag ag ag w5<|aE ag ag ag w6 ag ag ag ag<|aE ag ag w5 ag ag ag ag ag<|aE w4 ag ag ag ag ag ag ag<|aE ag w6 ag ag ag ag w7 ag<|aE ag ag ag ag w6 ag ag ag<|fk ag ag w4 ag ag ag ag aS)) aM aJ ⟨_,_,rfl⟩
  |false=>
   exact aD.mk y (dj (CI nd H dp [vl (.bool false) H,au 3]) (.tuple #[uU 9218868437227405312,.bool true]) H [] mF mG (aE w1 w2 w3 h1 ag ag ag ag<|aE w4 ag ag ag ag ag ag w5<|aE ag ag ag w6 ag ag ag ag<|aE ag ag w5 ag ag ag ag ag<|aE w4 ag ag ag ag ag ag ag<|fk ag w6 ag ag ag ag w7 aS)) aM aJ ⟨_,_,rfl⟩
 |false=>
  have q1:=aQ h1
  cases h2:(decide (dp<(-330))) with
  |true=>
   have w4:aq E 3 12 2 H=some (iI (-1023)):=bQ aR (xW y) rfl
   have w5:aq E 91 12 0 H=some (uU 52):=bQ fW (xW y) rfl
   have w6:aq E 91 12 1 H=some (uU 11):=bQ fW (xW y) rfl
   have w7:=yo hd.len ka
   cases neg with
   |true=>
    exact aD.mk y (dj (CJ nd H dp [vl (.bool true) H,au 3,vl (uU 52) H,au 3,vl (uU 11) H,au 6]) (.tuple #[uU 9223372036854775808,.bool false]) H [] mF mG (aE w1 w2 w3 h1 w3 h2 w4 w5<|aE ag ag ag ag ag ag w4 ag<|aE ag ag ag ag w6 ag ag ag<|aE ag ag ag ag ag w5 ag ag<|aE ag ag w7 ag ag ag ag ag<|aE w5 ag ag ag ag ag w6 ag<|eY ag ag ag aS)) aM aJ ⟨_,_,rfl⟩
   |false=>
    exact aD.mk y (dj (CJ nd H dp [vl (.bool false) H,au 3]) (.tuple #[uU 0,.bool false]) H [] mF mG (aE w1 w2 w3 h1 w3 h2 w4 w5<|aE ag ag ag ag ag ag w4 ag<|aE ag ag ag ag w6 ag ag ag<|aE ag ag ag ag ag w5 ag ag<|eY ag ag w7 aS)) aM aJ ⟨_,_,rfl⟩
  |false=>
   have q2:=aQ h2
   have hf:=hd.first
   obtain ⟨_,_,H1,c1,bN,y1,rfl,fy,pG,kL,oZ,jc,rfl,nZ,lJ,cw,iX,qV,AX⟩:=(qq a neg _ 0 ds nd dp tr _ y ka hd ga aa aa aa aa rfl).code
   have agL:=lJ.first
   obtain ⟨_,_,H2,c2,dc,y2,rfl,Ev,yV,td,EB,yW,rfl,AT,vq,JE,abV,aij,aeS⟩:=(oz a neg _ fy pG kL oZ jc _ y1 nZ lJ ga aa aa aa aa rfl).code
   obtain ⟨_,_,H3,c3,gB,y3,AU⟩:=qw a neg Ev yV td EB yW y2 AT vq ga aa aa aa aa
   rcases AU with ⟨rfl,Pj,nB,uD,WC,aff,xO,rfl,RN,YO⟩ |⟨rfl,uD,WC,aff,xO,rfl,RN,YO⟩
   ·have Al:=y.kept bN cu (xW y)
    have I5:=y1.kept dc cu Al
    have sP:=y2.kept gB cu I5
    have w4:aq E 91 12 0 H3=some (uU 52):=bQ fW sP rfl
    have w5:aq E 3 12 2 H3=some (iI (-1023)):=bQ aR sP rfl
    have w6:aq E 91 12 1 H3=some (uU 11):=bQ fW sP rfl
    have w7:=yo YO RN
    cases neg with
    |true=>
     exact aD.mk y (dj (CK nd H dp a fy H1 Ev H2 Pj nB H3 [vl (.bool true) H3,au 3,vl (uU 52) H3,au 3,vl (uU 11) H3,au 6]) (.tuple #[uU (IntKind.u64.wrap ((BitVec.ofInt 64 (IntKind.u64.wrap ((BitVec.ofInt 64 (IntKind.u64.wrap ((BitVec.ofInt 64 nB &&& BitVec.ofInt 64 4503599627370495).toNat:Int)) |||BitVec.ofInt 64 (IntKind.u64.wrap ((IntKind.u64.wrap (IntKind.i64.wrap ((BitVec.ofInt 64 (IntKind.i64.wrap (Pj-(-1023))) &&& BitVec.ofInt 64 2047).toNat:Int)))*2 ^ 52))).toNat:Int)) |||BitVec.ofInt 64 9223372036854775808).toNat:Int)),.bool false]) H3 [a,a,a] mF mG (aE w1 w2 w3 h1 w3 h2 c1 c2<|aE c3 w4 ag ag ag ag ag ag<|aE w5 ag ag ag ag ag w6 ag<|aE ag ag ag ag ag ag ag w4<|aE ag ag ag ag w7 ag ag ag<|aE ag ag w4 ag ag ag ag ag<|eM w6 ag ag ag ag aS)) aj aJ ⟨_,_,rfl⟩
    |false=>
     exact aD.mk y (dj (CK nd H dp a fy H1 Ev H2 Pj nB H3 [vl (.bool false) H3,au 3]) (.tuple #[uU (IntKind.u64.wrap ((BitVec.ofInt 64 (IntKind.u64.wrap ((BitVec.ofInt 64 nB &&& BitVec.ofInt 64 4503599627370495).toNat:Int)) |||BitVec.ofInt 64 (IntKind.u64.wrap ((IntKind.u64.wrap (IntKind.i64.wrap ((BitVec.ofInt 64 (IntKind.i64.wrap (Pj-(-1023))) &&& BitVec.ofInt 64 2047).toNat:Int)))*2 ^ 52))).toNat:Int)),.bool false]) H3 [a,a,a] mF mG (aE w1 w2 w3 h1 w3 h2 c1 c2<|aE c3 w4 ag ag ag ag ag ag<|aE w5 ag ag ag ag ag w6 ag<|aE ag ag ag ag ag ag ag w4<|eM ag ag ag ag w7 aS)) aj aJ ⟨_,_,rfl⟩
   ·have Al:=y.kept bN cu (xW y)
    have I5:=y1.kept dc cu Al
    have sP:=y2.kept gB cu I5
    have w4:aq E 91 12 1 H3=some (uU 11):=bQ fW sP rfl
    have w5:aq E 3 12 2 H3=some (iI (-1023)):=bQ aR sP rfl
    have w6:aq E 91 12 0 H3=some (uU 52):=bQ fW sP rfl
    have w7:=yo YO RN
    cases neg with
    |true=>
     exact aD.mk y (dj (CL nd H dp a fy H1 Ev H2 H3 [vl (.bool true) H3,au 3,vl (uU 52) H3,au 3,vl (uU 11) H3,au 6]) (.tuple #[uU 18442240474082181120,.bool true]) H3 [a,a,a] mF mG (aE w1 w2 w3 h1 w3 h2 c1 c2<|aE c3 ag ag ag ag w4 ag ag<|aE ag ag ag ag w5 ag ag ag<|aE w6 ag ag ag ag ag ag w5<|aE ag ag ag ag ag w4 ag ag<|aE ag ag ag ag ag ag w6 ag<|aE ag ag ag w7 ag ag ag ag<|aE ag w6 ag ag ag ag ag w4<|gm ag ag ag ag aS)) aj aJ ⟨_,_,rfl⟩
    |false=>
     exact aD.mk y (dj (CL nd H dp a fy H1 Ev H2 H3 [vl (.bool false) H3,au 3]) (.tuple #[uU 9218868437227405312,.bool true]) H3 [a,a,a] mF mG (aE w1 w2 w3 h1 w3 h2 c1 c2<|aE c3 ag ag ag ag w4 ag ag<|aE ag ag ag ag w5 ag ag ag<|aE w6 ag ag ag ag ag ag w5<|aE ag ag ag ag ag w4 ag ag<|aE ag ag ag ag ag ag w6 ag<|gm ag ag ag w7 aS)) aj aJ ⟨_,_,rfl⟩
noncomputable abbrev Aq (H:Hp) (l_:List Hint):=au 6::vl (iI 0) H::au 4::vl (iI (-1023)) H::au 4::vl (uU 52) H::au 8::vl (iI (-1023)) H::au 3::vl (uU 11) H::au 6::vl (uU 52) H::au 5::l_
theorem Kr (a:Nat) (ds:List Int) (dp:Int) (neg:Bool) (tr:Bool) {H:Hp} (y:Gd E G H) (ka:H.get a=some (.cells (bh ds 0 dp neg tr) 281 false)) (hl:ds.length=800) (ga:G.n≤a):aD E G 207 [pt a 0,pt 12 0] H [a] (fun v H'=>∃(b:Int) (o:Bool),v=.tuple #[.int .u64 b,.bool o]):=by
 have gn:=vR
 have w1:=fX hl ka
 have w2:aq E 3 12 2 H=some (iI (-1023)):=bQ aR (xW y) rfl
 have w3:aq E 91 12 0 H=some (uU 52):=bQ fW (xW y) rfl
 have w4:aq E 91 12 1 H=some (uU 11):=bQ fW (xW y) rfl
 have w5:=yo hl ka
 cases neg with
 |true=>
  exact aD.mk y (dj (Aq H [vl (.bool true) H,au 3,vl (uU 52) H,au 3,vl (uU 11) H,au 6]) (.tuple #[uU 9223372036854775808,.bool false]) H [] mF mG (aE w1 w2 w3 ag ag ag ag ag<|aE ag w2 ag ag ag ag ag w4<|aE ag ag ag ag ag ag ag ag<|aE w3 ag ag ag ag w5 ag ag<|aE ag ag ag w3 ag ag ag ag<|fG ag w4 ag ag ag ag aS)) aM aJ ⟨_,_,rfl⟩
 |false=>
  exact aD.mk y (dj (Aq H [vl (.bool false) H,au 3]) (.tuple #[uU 0,.bool false]) H [] mF mG (aE w1 w2 w3 ag ag ag ag ag<|aE ag w2 ag ag ag ag ag w4<|aE ag ag ag ag ag ag ag ag<|fG w3 ag ag ag ag w5 aS)) aM aJ ⟨_,_,rfl⟩
structure qj (ds:List Int) (nd dp i:Int):Prop where
 len:ds.length=800
 qP:jF ds nd
 n0:0≤nd
 ni:nd≤i
 BZ:0<nd→49≤dg ds 0
 d0:-i≤dp
 d1:dp≤i
theorem qj.init {i:Int} (h:0≤i):qj (List.replicate 800 0) 0 0 i:=⟨List.length_replicate,fun j a b=>by omega,by omega,h,fun e=>by omega,by omega,by omega⟩
theorem qj.skip {ds:List Int} {nd dp i:Int} (h:qj ds nd dp i):qj ds nd dp (i+1):=⟨h.len,h.qP,h.n0,by have:=h.ni;omega,h.BZ,by have:=h.d0;omega,by have:=h.d1;omega⟩
theorem qj.dot {ds:List Int} {nd dp i:Int} (h:qj ds nd dp i):qj ds nd nd (i+1):=⟨h.len,h.qP,h.n0,by have:=h.ni;omega,h.BZ,by have:=h.ni;have:=h.n0;omega,by have:=h.ni;omega⟩
theorem qj.lead {ds:List Int} {nd dp i:Int} (h:qj ds nd dp i):qj ds nd (dp-1) (i+1):=⟨h.len,h.qP,h.n0,by have:=h.ni;omega,h.BZ,by have:=h.d0;omega,by have:=h.d1;omega⟩
theorem qj.digit {ds:List Int} {nd dp i c:Int} (h:qj ds nd dp i) (h0:nd<800) (h1:48≤c) (h2:c≤57) (h3:nd=0→c≠48):qj (ds.set nd.toNat c) (nd+1) dp (i+1):=by
 have n0:=h.n0
 refine ⟨k7 h.len,h.qP.set h.len n0 h0 h1 h2,by omega,by have:=h.ni;omega,fun _=>?_,by have:=h.d0;omega,by have:=h.d1;omega⟩
 rw [qm h.len aa _ 0 aa]
 split
 ·rename_i e;have:=h3 aa;omega
 ·exact h.BZ aa
theorem qj.ok {ds:List Int} {nd dp i:Int} (h:qj ds nd dp i) (hi:i≤400):ds.length=800∧(nd=0∨zc ds nd):=by
 refine ⟨h.len,?_⟩
 have n0:=h.n0
 have ni:=h.ni
 rcases Int.lt_or_le 0 nd with e |e
 ·exact .inr ⟨h.len,h.qP,by omega,by omega,h.BZ e⟩
 ·exact .inl aa
theorem MZ:E.func 219=some Tryz.f219:=ah
theorem M0:bO Tryz.f219 1=true:=ah
theorem VN (c:Int) {H:Hp} (y:Gd E G H):aD E G 219 [uB c] H [] (fun v H'=>∃(n:Int),v=(uB n)):=by
 exact aD.mk y (CC.hH ok (f:=300) (hs:=[au 3]) (v:=(uB (IntKind.u8.wrap ((BitVec.ofInt 8 c |||BitVec.ofInt 8 32).toNat:Int)))) (H':=H) (W:=[]) MZ M0 trivial ah) aM aM ⟨_,rfl⟩
theorem lower (c:Int):∃(n:Int),∀{H:Hp},Gd E G H→CC E 219 [uB c] H (.ret (uB n)) H []:=by
 obtain ⟨_,_,c,_,_,n,rfl⟩:=VN c eZ
 exact ⟨n,fun y=>aW (cq rfl) (.ground rfl) c y⟩
noncomputable def o8:Code:=cz [1,1,1,1,1,1,1,1,0,0,0] (bH Tryz.f206)
noncomputable abbrev kD  (l_:List Hint):=au 2::aI::au 1::.ck::aF::au 2::.ck::aF::au 2::.ck::aI::au 2::.ck::l_
noncomputable abbrev CM (nd:Int) (H:Hp) (l_:List Hint):=kD  (aI::au 4::.ck::aI::au 3::vl (iI nd) H::aF::au 3::vl (iI nd) H::aF::au 1::.ck::l_)
theorem qp (a:Nat) (s:ByteArray) (neg:Bool):∀(m:Nat) (x5:Int) (x6:Bool) (x7:Bool) (ds:List Int) (nd:Int) (dp:Int) (tr:Bool) (H:Hp),Gd E G H→(ka:H.get a=some (.cells (bh ds nd dp neg tr) 281 false))→(h:qj ds nd dp x5)→(hs:(s.size:Int)≤300)→(i0:0≤x5)→(i1:x5≤s.size)→(ga:G.n≤a)→((s.size:Int)-x5).toNat=m→
  aA E G 224 o8 [(0,pt a 0),(1,.string s),(4,.bool false),(5,iI x5),(6,.bool x6),(7,.bool x7)] H [a] (fun x T H'=>(x=(.exit 1)∧∃(z5:Int) (z6 z7:Bool) (zd:List Int) (zn zp:Int) (zt:Bool),T=bw [(0,pt a 0),(1,.string s),(4,.bool false),(5,iI z5),(6,.bool z6),(7,.bool z7)]∧(H'.get a=some (.cells (bh zd zn zp neg zt) 281 false)∧qj zd zn zp z5∧0≤z5∧z5≤s.size))∨(x=.ret∧T=bw [(4,.bool false)])):=by
 intro m
 induction m using Nat.strongRecOn with
 |_ m ih=>
 intro x5 x6 x7 ds nd dp tr H y ka h hs i0 i1 ga hm
 have n0:=h.n0
 have ni:=h.ni
 have d0:=h.d0
 have d1:=h.d1
 have zJ:=y.wf.lt ka
 cases h1:(decide (x5<(s.size:Int))) with
 |true=>
  have q1:=aL h1
  have w1:0≤x5:=aa
  have w2:x5<(s.size:Int):=aa
  cases h2:((ak s x5)==95) with
  |true=>
   have w3:=aC (x5+1)
   exact aA.next' y (bf [au 2,aI,au 1,.ck,aI,au 1,.as (iI (x5+1)),au 0] [(0,pt a 0),(1,.string s),(4,.bool false),(5,iI (x5+1)),(6,.bool x6),(7,.bool x7)] .normal H [] (fun _ r_=>eM h1 w1 w2 h2 w3 r_)) aM (ih _ aa (x5+1) x6 x7 ds nd dp tr _ y ka h.skip hs aa aa ga rfl)
  |false=>
   have q2:=bK h2
   cases h3:((ak s x5)==46) with
   |true=>
    have q3:=bW h3
    cases x6 with
    |true=>
     exact aA.last' y (bf [au 2,aI,au 1,.ck,aF,au 2,.ck,aI,au 1] [(4,.bool false)] .ret H [] (fun _ r_=>fk h1 w1 w2 h2 w1 w2 h3 r_)) aj aM aJ (.inr (⟨rfl,rfl⟩))
    |false=>
     have w3:=fX h.len ka
     obtain ⟨K1,e1⟩:∃ K_,K_=H.set a (.cells (bh ds nd nd neg tr) 281 false):=⟨_,rfl⟩
     have y1:Gd E G K1:=e1▸y.set _ aa aa
     have dX:=aP e1
     have w4:=aC (x5+1)
     exact aA.next' y (bf [au 2,aI,au 1,.ck,aF,au 2,.ck,aI,au 6,vl (iI nd) H,au 1,vl bJ K1,au 0,.as (iI (x5+1)),au 0] [(0,pt a 0),(1,.string s),(4,.bool false),(5,iI (x5+1)),(6,.bool true),(7,.bool x7)] .normal K1 [a] (fun _ r_=>aE h1 w1 w2 h2 w1 w2 h3 w3<|cU (show az E 3 a 801 (iI nd) H=some K1 from (k8 h.len ka).trans (congrArg some e1.symm)) w4 r_)) aj (ih _ aa (x5+1) true x7 ds nd nd tr _ y1 dX h.dot hs aa aa ga rfl)
   |false=>
    have q3:=bK h3
    cases h4:(decide (48≤(ak s x5))) with
    |true=>
     have q4:=aL h4
     cases h5:(decide ((ak s x5)≤57)) with
     |true=>
      have q5:=aL h5
      cases h6:((ak s x5)==48) with
      |true=>
       have q6:=bW h6
       have w3:=fX h.len ka
       cases h7:(nd==0) with
       |true=>
        have w4:=jH h.len ka
        have w5:=aC (dp-1)
        obtain ⟨K1,e1⟩:∃ K_,K_=H.set a (.cells (bh ds nd (dp-1) neg tr) 281 false):=⟨_,rfl⟩
        have y1:Gd E G K1:=e1▸y.set _ aa aa
        have dX:=aP e1
        have w6:=aC (x5+1)
        exact aA.next' y (bf (kD  [aI,au 4,.ck,aI,au 3,vl (iI nd) H,aI,au 3,vl (iI dp) H,.as (iI (dp-1)),au 1,vl bJ K1,au 0,.as (iI (x5+1)),au 0]) [(0,pt a 0),(1,.string s),(4,.bool false),(5,iI (x5+1)),(6,.bool x6),(7,.bool true)] .normal K1 [a] (fun _ r_=>aE h1 w1 w2 h2 w1 w2 h3 w1<|aE w2 h4 w1 w2 h5 w1 w2 h6<|fG w3 h7 w4 w5 (show az E 3 a 801 (iI (dp-1)) H=some K1 from (k8 h.len ka).trans (congrArg some e1.symm)) w6 r_)) aj (ih _ aa (x5+1) x6 true ds nd (dp-1) tr _ y1 dX h.lead hs aa aa ga rfl)
       |false=>
        have q7:=bK h7
        cases h8:(decide (nd<800)) with
        |true=>
         have q8:=aL h8
         have w4:0≤nd:=aa
         have w5:nd<(800:Int):=aa
         obtain ⟨K1,e1⟩:∃ K_,K_=H.set a (.cells (bh (ds.set nd.toNat (ak s x5)) nd dp neg tr) 281 false):=⟨_,rfl⟩
         have y1:Gd E G K1:=e1▸y.set _ aa aa
         have jq:K1.n=H.n+0:=by rw [e1,Hp.cT] <;> rfl
         have dX:=aP e1
         have w6:=fX (k7 h.len) dX
         have w7:=aC (nd+1)
         obtain ⟨K2,e2⟩:∃ K_,K_=K1.set a (.cells (bh (ds.set nd.toNat (ak s x5)) (nd+1) dp neg tr) 281 false):=⟨_,rfl⟩
         have y2:Gd E G K2:=e2▸y1.set _ aa aa
         have s8:=aP e2
         have w8:=aC (x5+1)
         exact aA.next' y (bf (kD  [aI,au 4,.ck,aI,au 3,vl (iI nd) H,aF,au 3,vl (iI nd) H,aI,au 3,vl (iI nd) H,au 1,.ck,au 1,.ck,vl bJ K1,au 2,vl (iI nd) K1,.as (iI (nd+1)),au 1,vl bJ K2,au 0,.as (iI (x5+1)),au 0]) [(0,pt a 0),(1,.string s),(4,.bool false),(5,iI (x5+1)),(6,.bool x6),(7,.bool true)] .normal K2 [a,a] (fun _ r_=>aE h1 w1 w2 h2 w1 w2 h3 w1<|aE w2 h4 w1 w2 h5 w1 w2 h6<|aE w3 h7 w3 h8 ag ag ag ag<|aE ag w3 ag ag ag w1 w2 ag<|aE ag ag w4 w5 ag (show az E 5 a (0+nd.toNat*1) (uB (ak s x5)) H=some K1 from (Fg h.len ka aa aa).trans (congrArg some e1.symm)) (show bC H K1 [a]=true from kW y ka) w6<|eY w7 (show az E 3 a 800 (iI (nd+1)) K1=some K2 from (qn (k7 h.len) dX).trans (congrArg some e2.symm)) w8 r_)) aj (ih _ aa (x5+1) x6 true (ds.set nd.toNat (ak s x5)) (nd+1) dp tr _ y2 s8 (h.digit aa aa aa aa) hs aa aa ga rfl)
        |false=>
         have q8:=aQ h8
         cases h9:((ak s x5) != 48) with
         |true=>
          obtain ⟨K1,e1⟩:∃ K_,K_=H.set a (.cells (bh ds nd dp neg true) 281 false):=⟨_,rfl⟩
          have y1:Gd E G K1:=e1▸y.set _ aa aa
          have dX:=aP e1
          have w4:=aC (x5+1)
          exact aA.next' y (bf (CM nd H [aI,au 2,vl bJ K1,au 0,.as (iI (x5+1)),au 0]) [(0,pt a 0),(1,.string s),(4,.bool false),(5,iI (x5+1)),(6,.bool x6),(7,.bool true)] .normal K1 [a] (fun _ r_=>aE h1 w1 w2 h2 w1 w2 h3 w1<|aE w2 h4 w1 w2 h5 w1 w2 h6<|aE w3 h7 w3 h8 w1 w2 h9 (show az E 4 a 803 (.bool true) H=some K1 from (lP h.len ka).trans (congrArg some e1.symm))<|cF w4 r_)) aj (ih _ aa (x5+1) x6 true ds nd dp true _ y1 dX h.skip hs aa aa ga rfl)
         |false=>
          have w4:=aC (x5+1)
          exact aA.next' y (bf (CM nd H [aF,au 0,.as (iI (x5+1)),au 0]) [(0,pt a 0),(1,.string s),(4,.bool false),(5,iI (x5+1)),(6,.bool x6),(7,.bool true)] .normal H [] (fun _ r_=>aE h1 w1 w2 h2 w1 w2 h3 w1<|aE w2 h4 w1 w2 h5 w1 w2 h6<|aE w3 h7 w3 h8 w1 w2 h9 w4 r_)) aM (ih _ aa (x5+1) x6 true ds nd dp tr _ y ka h.skip hs aa aa ga rfl)
      |false=>
       have q6:=bK h6
       have w3:=fX h.len ka
       cases h7:(decide (nd<800)) with
       |true=>
        have q7:=aL h7
        have w4:0≤nd:=aa
        have w5:nd<(800:Int):=aa
        obtain ⟨K1,e1⟩:∃ K_,K_=H.set a (.cells (bh (ds.set nd.toNat (ak s x5)) nd dp neg tr) 281 false):=⟨_,rfl⟩
        have y1:Gd E G K1:=e1▸y.set _ aa aa
        have jq:K1.n=H.n+0:=by rw [e1,Hp.cT] <;> rfl
        have dX:=aP e1
        have w6:=fX (k7 h.len) dX
        have w7:=aC (nd+1)
        obtain ⟨K2,e2⟩:∃ K_,K_=K1.set a (.cells (bh (ds.set nd.toNat (ak s x5)) (nd+1) dp neg tr) 281 false):=⟨_,rfl⟩
        have y2:Gd E G K2:=e2▸y1.set _ aa aa
        have s8:=aP e2
        have w8:=aC (x5+1)
        exact aA.next' y (bf (kD  [aI,au 4,.ck,aF,au 4,vl (iI nd) H,aI,au 3,vl (iI nd) H,au 1,.ck,au 1,.ck,vl bJ K1,au 2,vl (iI nd) K1,.as (iI (nd+1)),au 1,vl bJ K2,au 0,.as (iI (x5+1)),au 0]) [(0,pt a 0),(1,.string s),(4,.bool false),(5,iI (x5+1)),(6,.bool x6),(7,.bool true)] .normal K2 [a,a] (fun _ r_=>aE h1 w1 w2 h2 w1 w2 h3 w1<|aE w2 h4 w1 w2 h5 w1 w2 h6<|aE w3 h7 ag ag ag ag ag w3<|aE ag ag ag w1 w2 ag ag ag<|aE w4 w5 ag (show az E 5 a (0+nd.toNat*1) (uB (ak s x5)) H=some K1 from (Fg h.len ka aa aa).trans (congrArg some e1.symm)) (show bC H K1 [a]=true from kW y ka) w6 w7 (show az E 3 a 800 (iI (nd+1)) K1=some K2 from (qn (k7 h.len) dX).trans (congrArg some e2.symm))<|cF w8 r_)) aj (ih _ aa (x5+1) x6 true (ds.set nd.toNat (ak s x5)) (nd+1) dp tr _ y2 s8 (h.digit aa aa aa aa) hs aa aa ga rfl)
       |false=>
        have q7:=aQ h7
        cases h8:((ak s x5) != 48) with
        |true=>
         obtain ⟨K1,e1⟩:∃ K_,K_=H.set a (.cells (bh ds nd dp neg true) 281 false):=⟨_,rfl⟩
         have y1:Gd E G K1:=e1▸y.set _ aa aa
         have dX:=aP e1
         have w4:=aC (x5+1)
         exact aA.next' y (bf (kD  [aI,au 4,.ck,aF,au 4,vl (iI nd) H,aF,au 1,.ck,aI,au 2,vl bJ K1,au 0,.as (iI (x5+1)),au 0]) [(0,pt a 0),(1,.string s),(4,.bool false),(5,iI (x5+1)),(6,.bool x6),(7,.bool true)] .normal K1 [a] (fun _ r_=>aE h1 w1 w2 h2 w1 w2 h3 w1<|aE w2 h4 w1 w2 h5 w1 w2 h6<|fk w3 h7 w1 w2 h8 (show az E 4 a 803 (.bool true) H=some K1 from (lP h.len ka).trans (congrArg some e1.symm)) w4 r_)) aj (ih _ aa (x5+1) x6 true ds nd dp true _ y1 dX h.skip hs aa aa ga rfl)
        |false=>
         have w4:=aC (x5+1)
         exact aA.next' y (bf (kD  [aI,au 4,.ck,aF,au 4,vl (iI nd) H,aF,au 1,.ck,aF,au 0,.as (iI (x5+1)),au 0]) [(0,pt a 0),(1,.string s),(4,.bool false),(5,iI (x5+1)),(6,.bool x6),(7,.bool true)] .normal H [] (fun _ r_=>aE h1 w1 w2 h2 w1 w2 h3 w1<|aE w2 h4 w1 w2 h5 w1 w2 h6<|fG w3 h7 w1 w2 h8 w4 r_)) aM (ih _ aa (x5+1) x6 true ds nd dp tr _ y ka h.skip hs aa aa ga rfl)
     |false=>
      exact aA.last' y (bf (kD  [aF,au 1]) [(0,pt a 0),(1,.string s),(4,.bool false),(5,iI x5),(6,.bool x6),(7,.bool x7)] (.exit 1) H [] (fun _ r_=>aE h1 w1 w2 h2 w1 w2 h3 w1<|eM w2 h4 w1 w2 h5 r_)) aj aM aJ (.inl (⟨rfl,x5,x6,x7,ds,nd,dp,tr,rfl,⟨ka,h,i0,i1⟩⟩))
    |false=>
     exact aA.last' y (bf [au 2,aI,au 1,.ck,aF,au 2,.ck,aF,au 2,.ck,aF,au 2] [(0,pt a 0),(1,.string s),(4,.bool false),(5,iI x5),(6,.bool x6),(7,.bool x7)] (.exit 1) H [] (fun _ r_=>aE h1 w1 w2 h2 w1 w2 h3 w1<|cU w2 h4 r_)) aj aM aJ (.inl (⟨rfl,x5,x6,x7,ds,nd,dp,tr,rfl,⟨ka,h,i0,i1⟩⟩))
 |false=>
  exact aA.last' y (bf [au 2,aF] [(0,pt a 0),(1,.string s),(4,.bool false),(5,iI x5),(6,.bool x6),(7,.bool x7)] (.exit 1) H [] (fun _ r_=>cF h1 r_)) aj aM aJ (.inl (⟨rfl,x5,x6,x7,ds,nd,dp,tr,rfl,⟨ka,h,i0,i1⟩⟩))
noncomputable def gw:Code:=cz [1,1,1,1,1,1,1,1,1,1,1,0,1,0,1,1,1,1,1,1,0,0,0] (bH Tryz.f206)
noncomputable abbrev CN  (l_:List Hint):=au 2::aI::au 2::.ck::aI::au 2::.ck::aI::au 5::.ck::aF::au 0::l_
theorem cO (a:Nat) (s:ByteArray) (es:Int):∀(m:Nat) (x5:Int) (x9:Int) (H:Hp),Gd E G H→(hs:(s.size:Int)≤300)→(i0:0≤x5)→(i1:x5≤s.size)→(e0:0≤x9)→(e1:x9≤200000)→((s.size:Int)-x5).toNat=m→
  aA E G 224 gw [(0,pt a 0),(1,.string s),(4,.bool false),(5,iI x5),(8,iI es),(9,iI x9)] H [] (fun x T H'=>(x=(.exit 5)∧∃(z5:Int) (z9:Int),T=bw [(0,pt a 0),(1,.string s),(4,.bool false),(5,iI z5),(8,iI es),(9,iI z9)]∧((0≤z5)∧(z5≤s.size)∧(0≤z9)∧(z9≤200000)))):=by
 intro m
 induction m using Nat.strongRecOn with
 |_ m ih=>
 intro x5 x9 H y hs i0 i1 e0 e1 hm
 have ei:=eA s x5
 have ig:=eR s x5
 cases h1:(decide (x5<(s.size:Int))) with
 |true=>
  have q1:=aL h1
  have w1:0≤x5:=aa
  have w2:x5<(s.size:Int):=aa
  cases h2:(decide (48≤(ak s x5))) with
  |true=>
   have q2:=aL h2
   cases h3:(decide ((ak s x5)≤57)) with
   |true=>
    have q3:=aL h3
    cases h4:((ak s x5)==95) with
    |true=>
     have q4:=bW h4
     have w3:=aC (x5+1)
     exact aA.next' y (bf [au 2,aI,au 2,.ck,aI,au 2,.ck,aI,au 5,.ck,aI,au 0,.as (iI (x5+1)),au 0] [(0,pt a 0),(1,.string s),(4,.bool false),(5,iI (x5+1)),(8,iI es),(9,iI x9)] .normal H [] (fun _ r_=>aE h1 w1 w2 h2 w1 w2 h3 w1<|eY w2 h4 w3 r_)) aM (ih _ aa (x5+1) x9 _ y hs aa aa aa aa rfl)
    |false=>
     have q4:=bK h4
     cases h5:(decide (x9<10000)) with
     |true=>
      have q5:=aL h5
      have w3:=aC (x9*10)
      have w4:=aC (ak s x5)
      have w5:=aC ((x9*10)+(ak s x5))
      have w6:=aC (((x9*10)+(ak s x5))-48)
      have w7:=aC (x5+1)
      exact aA.next' y (bf (CN  [aI,au 0,.as (iI (x9*10)),au 1,.ck,.as (iI (ak s x5)),.as (iI ((x9*10)+(ak s x5))),.as (iI (((x9*10)+(ak s x5))-48)),au 1,.as (iI (x5+1)),au 0]) [(0,pt a 0),(1,.string s),(4,.bool false),(5,iI (x5+1)),(8,iI es),(9,iI (((x9*10)+(ak s x5))-48))] .normal H [] (fun _ r_=>aE h1 w1 w2 h2 w1 w2 h3 w1<|aE w2 h4 h5 w3 w1 w2 w4 w5<|cU w6 w7 r_)) aM (ih _ aa (x5+1) (((x9*10)+(ak s x5))-48) _ y hs aa aa aa aa rfl)
     |false=>
      have w3:=aC (x5+1)
      exact aA.next' y (bf (CN  [aF,au 0,.as (iI (x5+1)),au 0]) [(0,pt a 0),(1,.string s),(4,.bool false),(5,iI (x5+1)),(8,iI es),(9,iI x9)] .normal H [] (fun _ r_=>aE h1 w1 w2 h2 w1 w2 h3 w1<|gm w2 h4 h5 w3 r_)) aM (ih _ aa (x5+1) x9 _ y hs aa aa aa aa rfl)
   |false=>
    cases h4:((ak s x5)==95) with
    |true=>
     have w3:=aC (x5+1)
     exact aA.next' y (bf [au 2,aI,au 2,.ck,aI,au 2,.ck,aF,au 3,.ck,aI,au 3,.ck,aI,au 0,.as (iI (x5+1)),au 0] [(0,pt a 0),(1,.string s),(4,.bool false),(5,iI (x5+1)),(8,iI es),(9,iI x9)] .normal H [] (fun _ r_=>aE h1 w1 w2 h2 w1 w2 h3 w1<|fG w2 h4 w1 w2 h4 w3 r_)) aM (ih _ aa (x5+1) x9 _ y hs aa aa aa aa rfl)
    |false=>
     exact aA.last' y (bf [au 2,aI,au 2,.ck,aI,au 2,.ck,aF,au 3,.ck,aF,au 1] [(0,pt a 0),(1,.string s),(4,.bool false),(5,iI x5),(8,iI es),(9,iI x9)] (.exit 5) H [] (fun _ r_=>aE h1 w1 w2 h2 w1 w2 h3 w1<|cU w2 h4 r_)) aj aM aM ⟨rfl,x5,x9,rfl,⟨aa,aa,aa,aa⟩⟩
  |false=>
   have q2:=aQ h2
   cases h3:((ak s x5)==95) with
   |true=>
    have q3:=bW h3
    have w3:=aC (x5+1)
    exact aA.next' y (bf [au 2,aI,au 2,.ck,aF,au 4,.ck,aI,au 3,.ck,aI,au 0,.as (iI (x5+1)),au 0] [(0,pt a 0),(1,.string s),(4,.bool false),(5,iI (x5+1)),(8,iI es),(9,iI x9)] .normal H [] (fun _ r_=>aE h1 w1 w2 h2 w1 w2 h3 w1<|eY w2 h3 w3 r_)) aM (ih _ aa (x5+1) x9 _ y hs aa aa aa aa rfl)
   |false=>
    exact aA.last' y (bf [au 2,aI,au 2,.ck,aF,au 4,.ck,aF,au 1] [(0,pt a 0),(1,.string s),(4,.bool false),(5,iI x5),(8,iI es),(9,iI x9)] (.exit 5) H [] (fun _ r_=>fk h1 w1 w2 h2 w1 w2 h3 r_)) aj aM aM ⟨rfl,x5,x9,rfl,⟨aa,aa,aa,aa⟩⟩
 |false=>
  exact aA.last' y (bf [au 2,aF,au 1] [(0,pt a 0),(1,.string s),(4,.bool false),(5,iI x5),(8,iI es),(9,iI x9)] (.exit 5) H [] (fun _ r_=>cF h1 r_)) aj aM aM ⟨rfl,x5,x9,rfl,⟨aa,aa,aa,aa⟩⟩
noncomputable def mT:Code:=cz [1,1,1,1,1,1,1,1,1,1,1,0] (bH Tryz.f206)
noncomputable abbrev l9 jg (H:Hp) (x5:Int) (l_:List Hint):=au 2::aI::au 2::.ck::.call (uB jg) H []::aI::au 1::.as (iI (x5+1))::au 3::aF::au 2::.ck::aF::au 0::l_
noncomputable abbrev sk jg (H:Hp) (x5:Int) (l_:List Hint):=au 2::aI::au 2::.ck::.call (uB jg) H []::aI::au 1::.as (iI (x5+1))::au 3::aF::au 2::.ck::aI::au 1::.as (iI ((x5+1)+1))::au 3::l_
noncomputable abbrev CO jg (H:Hp) (x5:Int) (l_:List Hint):=l9 jg H x5 (aI::au 1::.as (iI ((x5+1)+1))::au 4::aF::au 2::.ck::aF::au 3::.ck::l_)
theorem iH (a:Nat) (s:ByteArray) (neg:Bool) (x5:Int) (ds:List Int) (nd:Int) (dp:Int) (tr:Bool) {H:Hp} (y:Gd E G H) (ka:H.get a=some (.cells (bh ds nd dp neg tr) 281 false)) (h:qj ds nd dp x5) (hs:(s.size:Int)≤300) (i0:0≤x5) (i1:x5≤s.size) (ga:G.n≤a) :
  bt E G 224 mT [(0,pt a 0),(1,.string s),(4,.bool false),(5,iI x5)] H [a] (fun x T H'=>(x=.normal∧∃(z5 zp:Int),T=bw [(1,.string s),(4,.bool false),(5,iI z5)]∧(H'.get a=some (.cells (bh ds nd zp neg tr) 281 false)∧-500000≤zp∧zp≤500000))∨(x=.ret∧T=bw [(4,.bool false)])):=by
 have d0:=h.d0
 have d1:=h.d1
 have zJ:=y.wf.lt ka
 cases h1:(decide (x5<(s.size:Int))) with
 |true=>
  have q1:=aL h1
  have w1:0≤x5:=aa
  have w2:x5<(s.size:Int):=aa
  obtain ⟨jg,lz⟩:=lower (ak s x5)
  cases h2:(jg==101) with
  |true=>
   have w3:=aC (x5+1)
   cases h3:(decide ((x5+1)≥(s.size:Int))) with
   |true=>
    exact bt.mk y (bf [au 2,aI,au 2,.ck,.call (uB jg) H [],aI,au 1,.as (iI (x5+1)),au 3,aI] [(4,.bool false)] .ret H [] (fun _ r_=>fk h1 w1 w2 (show CC E 219 [uB (ak s x5)] H (.ret (uB jg)) H [] from lz y) h2 w3 h3 r_)) aM aJ (.inr (⟨rfl,rfl⟩))
   |false=>
    have q3:=aQ h3
    have w4:0≤(x5+1):=aa
    have w5:(x5+1)<(s.size:Int):=aa
    cases h4:((ak s (x5+1))==43) with
    |true=>
     have w6:=aC ((x5+1)+1)
     cases h5:(decide (((x5+1)+1)≥(s.size:Int))) with
     |true=>
      exact bt.mk y (bf (sk jg H x5 [aI,au 3]) [(4,.bool false)] .ret H [] (fun _ r_=>aE h1 w1 w2 (show CC E 219 [uB (ak s x5)] H (.ret (uB jg)) H [] from lz y) h2 w3 h3 w4<|gm w5 h4 w6 h5 r_)) aM aJ (.inr (⟨rfl,rfl⟩))
     |false=>
      have q5:=aQ h5
      have w7:0≤((x5+1)+1):=aa
      have w8:((x5+1)+1)<(s.size:Int):=aa
      cases h6:(decide ((ak s ((x5+1)+1))<48)) with
      |true=>
       exact bt.mk y (bf (sk jg H x5 [aF,au 2,.ck,aI,au 2]) [(4,.bool false)] .ret H [] (fun _ r_=>aE h1 w1 w2 (show CC E 219 [uB (ak s x5)] H (.ret (uB jg)) H [] from lz y) h2 w3 h3 w4<|fk w5 h4 w6 h5 w7 w8 h6 r_)) aM aJ (.inr (⟨rfl,rfl⟩))
      |false=>
       cases h7:(decide ((ak s ((x5+1)+1))>57)) with
       |true=>
        exact bt.mk y (bf (sk jg H x5 [aF,au 2,.ck,aF,au 3,.ck,aI,au 0]) [(4,.bool false)] .ret H [] (fun _ r_=>aE h1 w1 w2 (show CC E 219 [uB (ak s x5)] H (.ret (uB jg)) H [] from lz y) h2 w3 h3 w4<|aE w5 h4 w6 h5 w7 w8 h6 w7<|cU w8 h7 r_)) aM aJ (.inr (⟨rfl,rfl⟩))
       |false=>
        obtain ⟨_,_,H1,c1,bN,y1,rfl,eL,nC,rfl,cw,iX,qV,AX⟩:=(cO a s 1 _ ((x5+1)+1) 0 _ y hs aa aa aa aa rfl).code
        have jq:H.n+0≤H1.n:=bN.n
        have dX:=y.kept bN aH ka
        have w9:=jH h.len dX
        have jE:=aC (nC*1)
        have xU:=aC (dp+(nC*1))
        obtain ⟨K2,e2⟩:∃ K_,K_=H1.set a (.cells (bh ds nd (dp+(nC*1)) neg tr) 281 false):=⟨_,rfl⟩
        have s8:=aP e2
        exact bt.mk y (bf (sk jg H x5 [aF,au 2,.ck,aF,au 3,.ck,aF,au 1,.loop [0,1,4,5,8,9] (.exit 5) (bw [(0,pt a 0),(1,.string s),(4,.bool false),(5,iI eL),(8,iI 1),(9,iI nC)]) H1 [],au 2,vl (iI dp) H1,au 1,.as (iI (nC*1)),.as (iI (dp+(nC*1))),au 1,vl bJ K2]) [(1,.string s),(4,.bool false),(5,iI eL)] .normal K2 [a] (fun _ r_=>aE h1 w1 w2 (show CC E 219 [uB (ak s x5)] H (.ret (uB jg)) H [] from lz y) h2 w3 h3 w4<|aE w5 h4 w6 h5 w7 w8 h6 w7<|fk w8 h7 c1 w9 jE xU (show az E 3 a 801 (iI (dp+(nC*1))) H1=some K2 from (k8 h.len dX).trans (congrArg some e2.symm)) r_)) aj aJ (.inl (⟨rfl,eL,dp+(nC*1),rfl,⟨s8,by omega,by omega⟩⟩))
    |false=>
     cases h5:((ak s (x5+1))==45) with
     |true=>
      have w6:=aC ((x5+1)+1)
      cases h6:(decide (((x5+1)+1)≥(s.size:Int))) with
      |true=>
       exact bt.mk y (bf (l9 jg H x5 [aI,au 1,.as (iI ((x5+1)+1)),au 4,aI,au 3]) [(4,.bool false)] .ret H [] (fun _ r_=>aE h1 w1 w2 (show CC E 219 [uB (ak s x5)] H (.ret (uB jg)) H [] from lz y) h2 w3 h3 w4<|eM w5 h4 h5 w6 h6 r_)) aM aJ (.inr (⟨rfl,rfl⟩))
      |false=>
       have q6:=aQ h6
       have w7:0≤((x5+1)+1):=aa
       have w8:((x5+1)+1)<(s.size:Int):=aa
       cases h7:(decide ((ak s ((x5+1)+1))<48)) with
       |true=>
        exact bt.mk y (bf (l9 jg H x5 [aI,au 1,.as (iI ((x5+1)+1)),au 4,aF,au 2,.ck,aI,au 2]) [(4,.bool false)] .ret H [] (fun _ r_=>aE h1 w1 w2 (show CC E 219 [uB (ak s x5)] H (.ret (uB jg)) H [] from lz y) h2 w3 h3 w4<|aE w5 h4 h5 w6 h6 w7 w8 h7 r_)) aM aJ (.inr (⟨rfl,rfl⟩))
       |false=>
        cases h8:(decide ((ak s ((x5+1)+1))>57)) with
        |true=>
         exact bt.mk y (bf (CO jg H x5 [aI,au 0]) [(4,.bool false)] .ret H [] (fun _ r_=>aE h1 w1 w2 (show CC E 219 [uB (ak s x5)] H (.ret (uB jg)) H [] from lz y) h2 w3 h3 w4<|aE w5 h4 h5 w6 h6 w7 w8 h7<|eY w7 w8 h8 r_)) aM aJ (.inr (⟨rfl,rfl⟩))
        |false=>
         obtain ⟨_,_,H1,c1,bN,y1,rfl,eL,nC,rfl,cw,iX,qV,AX⟩:=(cO a s (-1) _ ((x5+1)+1) 0 _ y hs aa aa aa aa rfl).code
         have jq:H.n+0≤H1.n:=bN.n
         have dX:=y.kept bN aH ka
         have w9:=jH h.len dX
         have jE:=aC (nC*(-1))
         have xU:=aC (dp+(nC*(-1)))
         obtain ⟨K2,e2⟩:∃ K_,K_=H1.set a (.cells (bh ds nd (dp+(nC*(-1))) neg tr) 281 false):=⟨_,rfl⟩
         have s8:=aP e2
         exact bt.mk y (bf (CO jg H x5 [aF,au 1,.loop [0,1,4,5,8,9] (.exit 5) (bw [(0,pt a 0),(1,.string s),(4,.bool false),(5,iI eL),(8,iI (-1)),(9,iI nC)]) H1 [],au 2,vl (iI dp) H1,au 1,.as (iI (nC*(-1))),.as (iI (dp+(nC*(-1)))),au 1,vl bJ K2]) [(1,.string s),(4,.bool false),(5,iI eL)] .normal K2 [a] (fun _ r_=>aE h1 w1 w2 (show CC E 219 [uB (ak s x5)] H (.ret (uB jg)) H [] from lz y) h2 w3 h3 w4<|aE w5 h4 h5 w6 h6 w7 w8 h7<|aE w7 w8 h8 c1 w9 jE xU (show az E 3 a 801 (iI (dp+(nC*(-1)))) H1=some K2 from (k8 h.len dX).trans (congrArg some e2.symm)) r_)) aj aJ (.inl (⟨rfl,eL,dp+(nC*(-1)),rfl,⟨s8,by omega,by omega⟩⟩))
     |false=>
      cases h6:(decide ((ak s (x5+1))<48)) with
      |true=>
       exact bt.mk y (bf (l9 jg H x5 [aF,au 3,aF,au 2,.ck,aI,au 2]) [(4,.bool false)] .ret H [] (fun _ r_=>aE h1 w1 w2 (show CC E 219 [uB (ak s x5)] H (.ret (uB jg)) H [] from lz y) h2 w3 h3 w4<|fk w5 h4 h5 h3 w4 w5 h6 r_)) aM aJ (.inr (⟨rfl,rfl⟩))
      |false=>
       cases h7:(decide ((ak s (x5+1))>57)) with
       |true=>
        exact bt.mk y (bf (l9 jg H x5 [aF,au 3,aF,au 2,.ck,aF,au 3,.ck,aI,au 0]) [(4,.bool false)] .ret H [] (fun _ r_=>aE h1 w1 w2 (show CC E 219 [uB (ak s x5)] H (.ret (uB jg)) H [] from lz y) h2 w3 h3 w4<|aE w5 h4 h5 h3 w4 w5 h6 w4<|cU w5 h7 r_)) aM aJ (.inr (⟨rfl,rfl⟩))
       |false=>
        obtain ⟨_,_,H1,c1,bN,y1,rfl,eL,nC,rfl,cw,iX,qV,AX⟩:=(cO a s 1 _ (x5+1) 0 _ y hs aa aa aa aa rfl).code
        have jq:H.n+0≤H1.n:=bN.n
        have dX:=y.kept bN aH ka
        have w6:=jH h.len dX
        have w7:=aC (nC*1)
        have w8:=aC (dp+(nC*1))
        obtain ⟨K2,e2⟩:∃ K_,K_=H1.set a (.cells (bh ds nd (dp+(nC*1)) neg tr) 281 false):=⟨_,rfl⟩
        have s8:=aP e2
        exact bt.mk y (bf (l9 jg H x5 [aF,au 3,aF,au 2,.ck,aF,au 3,.ck,aF,au 1,.loop [0,1,4,5,8,9] (.exit 5) (bw [(0,pt a 0),(1,.string s),(4,.bool false),(5,iI eL),(8,iI 1),(9,iI nC)]) H1 [],au 2,vl (iI dp) H1,au 1,.as (iI (nC*1)),.as (iI (dp+(nC*1))),au 1,vl bJ K2]) [(1,.string s),(4,.bool false),(5,iI eL)] .normal K2 [a] (fun _ r_=>aE h1 w1 w2 (show CC E 219 [uB (ak s x5)] H (.ret (uB jg)) H [] from lz y) h2 w3 h3 w4<|aE w5 h4 h5 h3 w4 w5 h6 w4<|fk w5 h7 c1 w6 w7 w8 (show az E 3 a 801 (iI (dp+(nC*1))) H1=some K2 from (k8 h.len dX).trans (congrArg some e2.symm)) r_)) aj aJ (.inl (⟨rfl,eL,dp+(nC*1),rfl,⟨s8,by omega,by omega⟩⟩))
  |false=>
   exact bt.mk y (bf [au 2,aI,au 2,.ck,.call (uB jg) H [],aF,au 0] [(1,.string s),(4,.bool false),(5,iI x5)] .normal H [] (fun _ r_=>eM h1 w1 w2 (show CC E 219 [uB (ak s x5)] H (.ret (uB jg)) H [] from lz y) h2 r_)) aM aJ (.inl (⟨rfl,x5,dp,rfl,⟨ka,by omega,by omega⟩⟩))
 |false=>
  have q1:=aQ h1
  exact bt.mk y (bf [au 2,aF,au 1] [(1,.string s),(4,.bool false),(5,iI x5)] .normal H [] (fun _ r_=>cF h1 r_)) aM aJ (.inl (⟨rfl,x5,dp,rfl,⟨ka,by omega,by omega⟩⟩))
noncomputable def yl:Code:=cz [1,1,1,1,1,0] (bH Tryz.f206)
theorem zN (a:Nat) (s:ByteArray)  {H:Hp} (y:Gd E G H) (ka:H.get a=some (.cells (bh (List.replicate 800 0) 0 0 false false) 281 false)) (hs:0<(s.size:Int)) (ga:G.n≤a) :
  bt E G 224 yl [(0,pt a 0),(1,.string s),(4,.bool false),(5,iI 0)] H [a] (fun x T H'=>(x=.normal∧∃(z5:Int) (zg:Bool),T=bw [(0,pt a 0),(1,.string s),(4,.bool false),(5,iI z5)]∧(H'.get a=some (.cells (bh (List.replicate 800 0) 0 0 zg false) 281 false)∧0≤z5∧z5≤s.size))):=by
 have zJ:=y.wf.lt ka
 have w1:0≤(0:Int):=aa
 have w2:(0:Int)<(s.size:Int):=aa
 cases h1:((ak s 0)==43) with
 |true=>
  exact bt.mk y (bf [au 1,.ck,aI,au 3] [(0,pt a 0),(1,.string s),(4,.bool false),(5,iI 1)] .normal H [] (fun _ r_=>eY w1 w2 h1 r_)) aM aJ ⟨rfl,1,false,rfl,⟨ka,by omega,by omega⟩⟩
 |false=>
  cases h2:((ak s 0)==45) with
  |true=>
   obtain ⟨K1,e1⟩:∃ K_,K_=H.set a (.cells (bh (List.replicate 800 0) 0 0 true false) 281 false):=⟨_,rfl⟩
   have dX:=aP e1
   exact bt.mk y (bf [au 1,.ck,aF,au 0,aI,au 6,vl bJ K1] [(0,pt a 0),(1,.string s),(4,.bool false),(5,iI 1)] .normal K1 [a] (fun _ r_=>eM w1 w2 h1 h2 (show az E 4 a 802 (.bool true) H=some K1 from (mD List.length_replicate ka).trans (congrArg some e1.symm)) r_)) aj aJ ⟨rfl,1,true,rfl,⟨dX,by omega,by omega⟩⟩
  |false=>
   exact bt.mk y (bf [au 1,.ck,aF,au 0,aF,au 0] [(0,pt a 0),(1,.string s),(4,.bool false),(5,iI 0)] .normal H [] (fun _ r_=>gm w1 w2 h1 h2 r_)) aM aJ ⟨rfl,0,false,rfl,⟨ka,by omega,by omega⟩⟩
theorem nX:E.func 206=some Tryz.f206:=ah
theorem nY:bO Tryz.f206 2=true:=ah
noncomputable abbrev so (K1:Hp) (K2:Hp) (a:Nat) (s:ByteArray) eX (H3:Hp) (l_:List Hint):=au 4::vl bJ K1::au 2::vl bJ K2::au 2::aF::.piece 3 [0,1,4,5] .normal (bw [(0,pt a 0),(1,.string s),(4,.bool false),(5,iI eX)]) H3 [a]::au 1::l_
noncomputable abbrev wI (K1:Hp) (K2:Hp) (a:Nat) (s:ByteArray) eX (H3:Hp) rq (H4:Hp) (l_:List Hint):=so K1 K2 a s eX H3 (.loop [0,1,4,5,6,7] (.exit 1) (bw [(0,pt a 0),(1,.string s),(4,.bool false),(5,iI rq),(6,.bool true),(7,.bool true)]) H4 [a]::au 3::l_)
noncomputable abbrev wJ (K1:Hp) (K2:Hp) (a:Nat) (s:ByteArray) eX (H3:Hp) rq (H4:Hp) uF (K5:Hp) (l_:List Hint):=so K1 K2 a s eX H3 (.loop [0,1,4,5,6,7] (.exit 1) (bw [(0,pt a 0),(1,.string s),(4,.bool false),(5,iI rq),(6,.bool false),(7,.bool true)]) H4 [a]::au 7::vl (iI uF) H4::au 1::vl bJ K5::l_)
theorem TW (a:Nat) (s:ByteArray) {H:Hp} (y:Gd E G H) (ka:H.get a=some (.cells (bh (List.replicate 800 0) 0 0 false false) 281 false)) (ga:G.n≤a) (hs:(s.size:Int)≤300):aD E G 206 [pt a 0,.string s] H [a] (fun v H'=>v=.bool false∨∃(ds:List Int) (nd dp:Int) (neg tr:Bool),v=.bool true∧H'.get a=some (.cells (bh ds nd dp neg tr) 281 false)∧ds.length=800∧(nd=0∨zc ds nd)∧-500000≤dp∧dp≤500000):=by
 have zJ:=y.wf.lt ka
 obtain ⟨K1,e1⟩:∃ K_,K_=H.set a (.cells (bh (List.replicate 800 0) 0 0 false false) 281 false):=⟨_,rfl⟩
 have y1:Gd E G K1:=e1▸y.set _ aa aa
 have jq:K1.n=H.n+0:=by rw [e1,Hp.cT] <;> rfl
 have dX:=aP e1
 obtain ⟨K2,e2⟩:∃ K_,K_=K1.set a (.cells (bh (List.replicate 800 0) 0 0 false false) 281 false):=⟨_,rfl⟩
 have y2:Gd E G K2:=e2▸y1.set _ aa aa
 have jI:K2.n=K1.n+0:=by rw [e2,Hp.cT] <;> rfl
 have s8:=aP e2
 cases h1:(decide (0≥(s.size:Int))) with
 |true=>
  exact aD.mk y (dj [au 4,vl bJ K1,au 2,vl bJ K2,au 2,aI] (.bool false) K2 [a,a] nX nY (eY (show az E 4 a 802 (.bool false) H=some K1 from (mD List.length_replicate ka).trans (congrArg some e1.symm)) (show az E 4 a 803 (.bool false) K1=some K2 from (lP List.length_replicate dX).trans (congrArg some e2.symm)) h1 aS)) aj aJ (.inl rfl)
 |false=>
  have q1:=aQ h1
  obtain ⟨_,_,H3,c3,gB,y3,rfl,eX,WB,rfl,RN,yO,abW⟩:=zN a s  y2 s8 aa ga
  have xS:K2.n+0≤H3.n:=gB.n
  obtain ⟨_,_,H4,c4,rj,y4,Ht⟩:=(qp a s WB _ eX false false (List.replicate 800 0) 0 0 false _ y3 RN (.init aa) hs aa aa ga rfl).code
  rcases Ht with ⟨rfl,rq,acp,mw,JV,uF,acy,Pm,rfl,RP,pz,vu,OV⟩ |⟨rfl,rfl⟩
  ·have H9:H3.n+0≤H4.n:=rj.n
   have zn0:=pz.n0
   have zni:=pz.ni
   have zd0:=pz.d0
   have zd1:=pz.d1
   cases mw with
   |true=>
    cases acp with
    |true=>
     have hE:qj JV uF acy rq:=⟨pz.len,pz.qP,pz.n0,pz.ni,pz.BZ,by omega,by omega⟩
     obtain ⟨_,_,H5,c5,vQ,y5,R9⟩:=iH a s WB rq JV uF acy Pm y4 RP hE hs aa aa ga
     rcases R9 with ⟨rfl,ZO,aiY,rfl,aez,ET,abX⟩ |⟨rfl,rfl⟩
     ·cases h6:(ZO != (s.size:Int)) with
      |true=>
       exact aD.mk y (dj (wI K1 K2 a s eX H3 rq H4 [.piece 3 [0,1,4,5] .normal (bw [(1,.string s),(4,.bool false),(5,iI ZO)]) H5 [a],au 2,aI]) (.bool false) H5 [a,a,a,a,a] nX nY (fk (show az E 4 a 802 (.bool false) H=some K1 from (mD List.length_replicate ka).trans (congrArg some e1.symm)) (show az E 4 a 803 (.bool false) K1=some K2 from (lP List.length_replicate dX).trans (congrArg some e2.symm)) h1 c3 c4 c5 h6 aS)) aj aJ (.inl rfl)
      |false=>
       have q6:=Bz h6
       exact aD.mk y (dj (wI K1 K2 a s eX H3 rq H4 [.piece 3 [0,1,4,5] .normal (bw [(1,.string s),(4,.bool false),(5,iI ZO)]) H5 [a],au 2,aF,au 0]) (.bool true) H5 [a,a,a,a,a] nX nY (fk (show az E 4 a 802 (.bool false) H=some K1 from (mD List.length_replicate ka).trans (congrArg some e1.symm)) (show az E 4 a 803 (.bool false) K1=some K2 from (lP List.length_replicate dX).trans (congrArg some e2.symm)) h1 c3 c4 c5 h6 aS)) aj aJ (.inr ⟨_,_,_,_,_,rfl,aez,(pz.ok aa).1,(pz.ok aa).2,ET,abX⟩)
     ·exact aD.mk y (dj (wI K1 K2 a s eX H3 rq H4 [.piece 3 [0,1,4,5] .ret (bw [(4,.bool false)]) H5 [a]]) (.bool false) H5 [a,a,a,a,a] nX nY (fG (show az E 4 a 802 (.bool false) H=some K1 from (mD List.length_replicate ka).trans (congrArg some e1.symm)) (show az E 4 a 803 (.bool false) K1=some K2 from (lP List.length_replicate dX).trans (congrArg some e2.symm)) h1 c3 c4 c5 aS)) aj aJ (.inl rfl)
    |false=>
     have w1:=fX pz.len RP
     obtain ⟨K5,e5⟩:∃ K_,K_=H4.set a (.cells (bh JV uF uF WB Pm) 281 false):=⟨_,rfl⟩
     have y5:Gd E G K5:=e5▸y4.set _ aa aa
     have zv:=aP e5
     have hE:qj JV uF uF rq:=⟨pz.len,pz.qP,pz.n0,pz.ni,pz.BZ,by omega,by omega⟩
     obtain ⟨_,_,H6,c6,NK,y6,oc6⟩:=iH a s WB rq JV uF uF Pm y5 zv hE hs aa aa ga
     rcases oc6 with ⟨rfl,ZP,aiZ,rfl,aeA,aeP,aeQ⟩ |⟨rfl,rfl⟩
     ·cases h6:(ZP != (s.size:Int)) with
      |true=>
       exact aD.mk y (dj (wJ K1 K2 a s eX H3 rq H4 uF K5 [.piece 1 [0,1,4,5] .normal (bw [(1,.string s),(4,.bool false),(5,iI ZP)]) H6 [a],au 2,aI]) (.bool false) H6 [a,a,a,a,a,a] nX nY (aE (show az E 4 a 802 (.bool false) H=some K1 from (mD List.length_replicate ka).trans (congrArg some e1.symm)) (show az E 4 a 803 (.bool false) K1=some K2 from (lP List.length_replicate dX).trans (congrArg some e2.symm)) h1 c3 c4 w1 (show az E 3 a 801 (iI uF) H4=some K5 from (k8 pz.len RP).trans (congrArg some e5.symm)) c6<|cF h6 aS)) aj aJ (.inl rfl)
      |false=>
       have q6:=Bz h6
       exact aD.mk y (dj (wJ K1 K2 a s eX H3 rq H4 uF K5 [.piece 1 [0,1,4,5] .normal (bw [(1,.string s),(4,.bool false),(5,iI ZP)]) H6 [a],au 2,aF,au 0]) (.bool true) H6 [a,a,a,a,a,a] nX nY (aE (show az E 4 a 802 (.bool false) H=some K1 from (mD List.length_replicate ka).trans (congrArg some e1.symm)) (show az E 4 a 803 (.bool false) K1=some K2 from (lP List.length_replicate dX).trans (congrArg some e2.symm)) h1 c3 c4 w1 (show az E 3 a 801 (iI uF) H4=some K5 from (k8 pz.len RP).trans (congrArg some e5.symm)) c6<|cF h6 aS)) aj aJ (.inr ⟨_,_,_,_,_,rfl,aeA,(pz.ok aa).1,(pz.ok aa).2,aeP,aeQ⟩)
     ·exact aD.mk y (dj (wJ K1 K2 a s eX H3 rq H4 uF K5 [.piece 1 [0,1,4,5] .ret (bw [(4,.bool false)]) H6 [a]]) (.bool false) H6 [a,a,a,a,a,a] nX nY (aE (show az E 4 a 802 (.bool false) H=some K1 from (mD List.length_replicate ka).trans (congrArg some e1.symm)) (show az E 4 a 803 (.bool false) K1=some K2 from (lP List.length_replicate dX).trans (congrArg some e2.symm)) h1 c3 c4 w1 (show az E 3 a 801 (iI uF) H4=some K5 from (k8 pz.len RP).trans (congrArg some e5.symm)) c6 aS)) aj aJ (.inl rfl)
   |false=>
    exact aD.mk y (dj (so K1 K2 a s eX H3 [.loop [0,1,4,5,6,7] (.exit 1) (bw [(0,pt a 0),(1,.string s),(4,.bool false),(5,iI rq),(6,.bool acp),(7,.bool false)]) H4 [a],au 1]) (.bool false) H4 [a,a,a,a] nX nY (eM (show az E 4 a 802 (.bool false) H=some K1 from (mD List.length_replicate ka).trans (congrArg some e1.symm)) (show az E 4 a 803 (.bool false) K1=some K2 from (lP List.length_replicate dX).trans (congrArg some e2.symm)) h1 c3 c4 aS)) aj aJ (.inl rfl)
  ·exact aD.mk y (dj (so K1 K2 a s eX H3 [.loop [0,1,4,5,6,7] .ret (bw [(4,.bool false)]) H4 [a]]) (.bool false) H4 [a,a,a,a] nX nY (eM (show az E 4 a 802 (.bool false) H=some K1 from (mD List.length_replicate ka).trans (congrArg some e1.symm)) (show az E 4 a 803 (.bool false) K1=some K2 from (lP List.length_replicate dX).trans (congrArg some e2.symm)) h1 c3 c4 aS)) aj aJ (.inl rfl)
theorem OB:((List.range 256).all fun n=>n==88||n==120||!(IntKind.u8.wrap (((BitVec.ofInt 8 (n:Int) |||BitVec.ofInt 8 32).toNat:Nat):Int)==120))=true:=ah
theorem RZ {c:Int} (h0:0≤c) (h1:c<256) (h2:c≠88) (h3:c≠120):IntKind.u8.wrap (((BitVec.ofInt 8 c |||BitVec.ofInt 8 32).toNat:Nat):Int)≠120:=by
 have:=List.all_eq_true.1 OB c.toNat (by simp;omega)
 rw [show ((c.toNat:Nat):Int)=c by omega] at this
 simp only [Bool.or_eq_true,beq_iff_eq,Bool.not_eq_true',beq_eq_false_iff_ne,ne_eq] at this
 rcases this with (e |e) |e
 ·omega
 ·omega
 ·exact e
def vB (s:ByteArray):Prop:=∀ i:Int,0≤i→i<s.size→Pl (ak s i)
theorem Pl.Z8 {c:Int} (h:Pl c):c≠95∧c≠88∧c≠120:=by unfold Pl at h;omega
theorem RY (c:Int) {H:Hp} (y:Gd E G H):aD E G 219 [uB c] H [] (fun v H'=>∃(n:Int),v=(uB n)∧(0≤c→c<256→c≠88→c≠120→n≠120)):=by
 exact aD.mk y (CC.hH ok (f:=300) (hs:=[au 3]) (v:=(uB (IntKind.u8.wrap ((BitVec.ofInt 8 c |||BitVec.ofInt 8 32).toNat:Int)))) (H':=H) (W:=[]) MZ M0 trivial ah) aM aM ⟨_,rfl,RZ⟩
theorem RX (c:Int):∃(n:Int),(0≤c→c<256→c≠88→c≠120→n≠120)∧∀{H:Hp},Gd E G H→CC E 219 [uB c] H (.ret (uB n)) H []:=by
 obtain ⟨_,_,c,_,_,n,rfl,hs⟩:=RY c eZ
 exact ⟨n,hs,fun y=>aW (cq rfl) (.ground rfl) c y⟩
noncomputable def AP:Code:=cz [1,0,1,1,0] (bH Tryz.f200)
theorem Cu (s:ByteArray)  {H:Hp} (y:Gd E G H) (hs:0<(s.size:Int)) :
  bt E G 253 AP [(0,.string s),(2,uU 0),(3,iI 0),(4,.bool false),(5,.bool false),(6,.bool false),(7,iI 0),(8,.bool false),(9,.bool false)] H [] (fun x T H'=>(x=.normal∧∃(z4:Bool) (z7:Int),T=bw [(0,.string s),(2,uU 0),(3,iI 0),(4,.bool z4),(5,.bool false),(6,.bool false),(7,iI z7),(8,.bool false),(9,.bool false)]∧((0≤z7)∧(z7≤1)∧(z7≤s.size)))):=by
 have w1:0≤(0:Int):=aa
 have w2:(0:Int)<(s.size:Int):=aa
 cases h1:((ak s 0)==43) with
 |true=>
  exact bt.mk y (bf [au 1,.ck,aI,au 3] [(0,.string s),(2,uU 0),(3,iI 0),(4,.bool false),(5,.bool false),(6,.bool false),(7,iI 1),(8,.bool false),(9,.bool false)] .normal H [] (fun _ r_=>eY w1 w2 h1 r_)) aM aM ⟨rfl,false,1,rfl,⟨aa,aa,aa⟩⟩
 |false=>
  cases h2:((ak s 0)==45) with
  |true=>
   exact bt.mk y (bf [au 1,.ck,aF,au 0,aI,au 4] [(0,.string s),(2,uU 0),(3,iI 0),(4,.bool true),(5,.bool false),(6,.bool false),(7,iI 1),(8,.bool false),(9,.bool false)] .normal H [] (fun _ r_=>gm w1 w2 h1 h2 r_)) aM aM ⟨rfl,true,1,rfl,⟨aa,aa,aa⟩⟩
  |false=>
   exact bt.mk y (bf [au 1,.ck,aF,au 0,aF,au 0] [(0,.string s),(2,uU 0),(3,iI 0),(4,.bool false),(5,.bool false),(6,.bool false),(7,iI 0),(8,.bool false),(9,.bool false)] .normal H [] (fun _ r_=>gm w1 w2 h1 h2 r_)) aM aM ⟨rfl,false,0,rfl,⟨aa,aa,aa⟩⟩
noncomputable def qO:Code:=cz [1,0,1,1,1,1,1,1,0] (bH Tryz.f200)
theorem si (s:ByteArray) (neg:Bool) (x7:Int) {H:Hp} (y:Gd E G H) (qQ:vB s) (hs:(s.size:Int)≤300) (i0:0≤x7) (i1:x7≤1) :
  bt E G 253 qO [(0,.string s),(2,uU 0),(3,iI 0),(4,.bool neg),(5,.bool false),(6,.bool false),(7,iI x7),(8,.bool false),(9,.bool false),(10,uU 10),(11,iI 19),(12,uB 101)] H [] (fun x T H'=>(x=.normal∧T=bw [(0,.string s),(2,uU 0),(3,iI 0),(4,.bool neg),(5,.bool false),(6,.bool false),(7,iI x7),(8,.bool false),(9,.bool false),(10,uU 10),(11,iI 19),(12,uB 101)])):=by
 have w1:=aC (x7+2)
 cases h1:(decide ((x7+2)<(s.size:Int))) with
 |true=>
  have q1:=aL h1
  have w2:0≤x7:=aa
  have w3:x7<(s.size:Int):=aa
  cases h2:((ak s x7)==48) with
  |true=>
   have w4:=aC (x7+1)
   have w5:0≤(x7+1):=aa
   have w6:(x7+1)<(s.size:Int):=aa
   obtain ⟨jg,hx1,lz⟩:=RX (ak s (x7+1))
   have w7:(jg==120)=false:=beq_false_of_ne (hx1 (eA _ _) (eR _ _) (qQ _ aa aa).Z8.2.1 (qQ _ aa aa).Z8.2.2)
   exact bt.mk y (bf [au 0,.as (iI (x7+2)),au 1,aI,au 2,.ck,aI,au 3,.as (iI (x7+1)),.ck,.call (uB jg) H [],aF,au 0] [(0,.string s),(2,uU 0),(3,iI 0),(4,.bool neg),(5,.bool false),(6,.bool false),(7,iI x7),(8,.bool false),(9,.bool false),(10,uU 10),(11,iI 19),(12,uB 101)] .normal H [] (fun _ r_=>aE w1 h1 w2 w3 h2 w4 w5 w6<|cU (show CC E 219 [uB (ak s (x7+1))] H (.ret (uB jg)) H [] from lz y) w7 r_)) aM aM ⟨rfl,rfl⟩
  |false=>
   exact bt.mk y (bf [au 0,.as (iI (x7+2)),au 1,aI,au 2,.ck,aF,au 2] [(0,.string s),(2,uU 0),(3,iI 0),(4,.bool neg),(5,.bool false),(6,.bool false),(7,iI x7),(8,.bool false),(9,.bool false),(10,uU 10),(11,iI 19),(12,uB 101)] .normal H [] (fun _ r_=>eM w1 h1 w2 w3 h2 r_)) aM aM ⟨rfl,rfl⟩
 |false=>
  exact bt.mk y (bf [au 0,.as (iI (x7+2)),au 1,aF,au 3] [(0,.string s),(2,uU 0),(3,iI 0),(4,.bool neg),(5,.bool false),(6,.bool false),(7,iI x7),(8,.bool false),(9,.bool false),(10,uU 10),(11,iI 19),(12,uB 101)] .normal H [] (fun _ r_=>cU w1 h1 r_)) aM aM ⟨rfl,rfl⟩
noncomputable def je:Code:=cz [1,0,1,1,1,1,1,1,1,1,1,1,1,1,1,0,0,0] (bH Tryz.f200)
noncomputable abbrev kE  (l_:List Hint):=au 2::aI::au 1::.ck::au 1::aF::au 2::aF::au 2::aI::au 1::l_
noncomputable abbrev CP (q9:Int) (l_:List Hint):=kE  (aI::au 4::aI::au 1::aF::au 1::.as (iI (q9+1))::au 2::aF::au 0::l_)
theorem jl (s:ByteArray) (neg:Bool):∀(m:Nat) (x2:Int) (x5:Bool) (x7:Int) (lK:Bool) (Pz:Bool) (q9:Int) (vg:Int) (mQ:Int) (H:Hp),Gd E G H→(qQ:vB s)→(hs:(s.size:Int)≤300)→(i0:0≤x7)→(i1:x7≤s.size)→(m0:0≤x2∧x2<18446744073709551616)→(n0:0≤q9)→(n1:q9≤x7)→(k0:0≤vg)→(k1:vg≤x7)→(d0:-x7≤mQ)→(d1:mQ≤x7)→((s.size:Int)-x7).toNat=m→
  aA E G 253 je [(0,.string s),(2,uU x2),(3,iI 0),(4,.bool neg),(5,.bool x5),(6,.bool false),(7,iI x7),(8,.bool false),(9,.bool false),(10,uU 10),(11,iI 19),(12,uB 101),(13,.bool lK),(14,.bool Pz),(15,iI q9),(16,iI vg),(17,iI mQ)] H [] (fun x T H'=>(x=(.exit 1)∧∃(z2:Int) (z5:Bool) (z7:Int) (z13:Bool) (z14:Bool) (z15:Int) (z16:Int) (ZN:Int),T=bw [(0,.string s),(2,uU z2),(3,iI 0),(4,.bool neg),(5,.bool z5),(6,.bool false),(7,iI z7),(8,.bool false),(9,.bool false),(10,uU 10),(12,uB 101),(13,.bool z13),(14,.bool z14),(15,iI z15),(16,iI z16),(17,iI ZN)]∧((0≤z7)∧(z7≤s.size)∧(0≤z2∧z2<18446744073709551616)∧(0≤z15)∧(z15≤300)∧(0≤z16)∧(z16≤300)∧(-300≤ZN)∧(ZN≤300)))):=by
 intro m
 induction m using Nat.strongRecOn with
 |_ m ih=>
 intro x2 x5 x7 lK Pz q9 vg mQ H y qQ hs i0 i1 m0 n0 n1 k0 k1 d0 d1 hm
 cases h1:(decide (x7<(s.size:Int))) with
 |true=>
  have q1:=aL h1
  have w1:0≤x7:=aa
  have w2:x7<(s.size:Int):=aa
  have w3:((ak s x7)==95)=false:=beq_false_of_ne (qQ x7 aa aa).Z8.1
  cases h2:((ak s x7)==46) with
  |true=>
   cases lK with
   |true=>
    exact aA.last' y (bf [au 2,aI,au 1,.ck,au 1,aF,au 2,aI,au 2] [(0,.string s),(2,uU x2),(3,iI 0),(4,.bool neg),(5,.bool x5),(6,.bool false),(7,iI x7),(8,.bool false),(9,.bool false),(10,uU 10),(12,uB 101),(13,.bool true),(14,.bool Pz),(15,iI q9),(16,iI vg),(17,iI mQ)] (.exit 1) H [] (fun _ r_=>eM h1 w1 w2 w3 h2 r_)) aj aM aM ⟨rfl,x2,x5,x7,true,Pz,q9,vg,mQ,rfl,⟨i0,i1,m0,n0,by omega,k0,by omega,by omega,by omega⟩⟩
   |false=>
    have w4:=aC (x7+1)
    exact aA.next' y (bf [au 2,aI,au 1,.ck,au 1,aF,au 2,aI,au 6,.as (iI (x7+1)),au 0] [(0,.string s),(2,uU x2),(3,iI 0),(4,.bool neg),(5,.bool x5),(6,.bool false),(7,iI (x7+1)),(8,.bool false),(9,.bool false),(10,uU 10),(11,iI 19),(12,uB 101),(13,.bool true),(14,.bool Pz),(15,iI q9),(16,iI vg),(17,iI q9)] .normal H [] (fun _ r_=>fG h1 w1 w2 w3 h2 w4 r_)) aM (ih _ aa x2 x5 (x7+1) true Pz q9 vg q9 _ y qQ hs aa aa m0 aa aa aa aa aa aa rfl)
  |false=>
   have q2:=bK h2
   cases h3:(decide (48≤(ak s x7))) with
   |true=>
    have q3:=aL h3
    cases h4:(decide ((ak s x7)≤57)) with
    |true=>
     have q4:=aL h4
     cases h5:((ak s x7)==48) with
     |true=>
      have q5:=bW h5
      cases h6:(q9==0) with
      |true=>
       have q6:=bW h6
       have w4:=aC (mQ-1)
       have w5:=aC (x7+1)
       exact aA.next' y (bf (kE  [aI,au 4,aI,au 1,aI,au 1,.as (iI (mQ-1)),au 1,.as (iI (x7+1)),au 0]) [(0,.string s),(2,uU x2),(3,iI 0),(4,.bool neg),(5,.bool x5),(6,.bool false),(7,iI (x7+1)),(8,.bool false),(9,.bool false),(10,uU 10),(11,iI 19),(12,uB 101),(13,.bool lK),(14,.bool true),(15,iI q9),(16,iI vg),(17,iI (mQ-1))] .normal H [] (fun _ r_=>aE h1 w1 w2 w3 h2 h3 h4 h5<|eY h6 w4 w5 r_)) aM (ih _ aa x2 x5 (x7+1) lK true q9 vg (mQ-1) _ y qQ hs aa aa m0 aa aa aa aa aa aa rfl)
      |false=>
       have q6:=bK h6
       have w4:=aC (q9+1)
       cases h7:(decide (vg<19)) with
       |true=>
        have q7:=aL h7
        have w5:=aC (vg+1)
        have w6:=aC (x7+1)
        exact aA.next' y (bf (kE  [aI,au 4,aI,au 1,aF,au 1,.as (iI (q9+1)),au 2,aI,au 10,.as (iI (vg+1)),au 1,.as (iI (x7+1)),au 0]) [(0,.string s),(2,uU (IntKind.u64.wrap ((IntKind.u64.wrap (x2*10))+(IntKind.u64.wrap (IntKind.u8.wrap ((ak s x7)-48)))))),(3,iI 0),(4,.bool neg),(5,.bool x5),(6,.bool false),(7,iI (x7+1)),(8,.bool false),(9,.bool false),(10,uU 10),(11,iI 19),(12,uB 101),(13,.bool lK),(14,.bool true),(15,iI (q9+1)),(16,iI (vg+1)),(17,iI mQ)] .normal H [] (fun _ r_=>aE h1 w1 w2 w3 h2 h3 h4 h5<|eM h6 w4 h7 w5 w6 r_)) aM (ih _ aa (IntKind.u64.wrap ((IntKind.u64.wrap (x2*10))+(IntKind.u64.wrap (IntKind.u8.wrap ((ak s x7)-48))))) x5 (x7+1) lK true (q9+1) (vg+1) mQ _ y qQ hs aa aa (vP _) aa aa aa aa aa aa rfl)
       |false=>
        cases h8:((ak s x7) != 48) with
        |true=>
         have q8:=Iu h8
         have w5:=aC (x7+1)
         exact aA.next' y (bf (CP q9 [aI,au 1,.as (iI (x7+1)),au 0]) [(0,.string s),(2,uU x2),(3,iI 0),(4,.bool neg),(5,.bool true),(6,.bool false),(7,iI (x7+1)),(8,.bool false),(9,.bool false),(10,uU 10),(11,iI 19),(12,uB 101),(13,.bool lK),(14,.bool true),(15,iI (q9+1)),(16,iI vg),(17,iI mQ)] .normal H [] (fun _ r_=>aE h1 w1 w2 w3 h2 h3 h4 h5<|eM h6 w4 h7 h8 w5 r_)) aM (ih _ aa x2 true (x7+1) lK true (q9+1) vg mQ _ y qQ hs aa aa m0 aa aa aa aa aa aa rfl)
        |false=>
         have w5:=aC (x7+1)
         exact aA.next' y (bf (CP q9 [aF,au 0,.as (iI (x7+1)),au 0]) [(0,.string s),(2,uU x2),(3,iI 0),(4,.bool neg),(5,.bool x5),(6,.bool false),(7,iI (x7+1)),(8,.bool false),(9,.bool false),(10,uU 10),(11,iI 19),(12,uB 101),(13,.bool lK),(14,.bool true),(15,iI (q9+1)),(16,iI vg),(17,iI mQ)] .normal H [] (fun _ r_=>aE h1 w1 w2 w3 h2 h3 h4 h5<|eM h6 w4 h7 h8 w5 r_)) aM (ih _ aa x2 x5 (x7+1) lK true (q9+1) vg mQ _ y qQ hs aa aa m0 aa aa aa aa aa aa rfl)
     |false=>
      have q5:=bK h5
      have w4:=aC (q9+1)
      cases h6:(decide (vg<19)) with
      |true=>
       have q6:=aL h6
       have w5:=aC (vg+1)
       have w6:=aC (x7+1)
       exact aA.next' y (bf (kE  [aI,au 4,aF,au 2,.as (iI (q9+1)),au 2,aI,au 10,.as (iI (vg+1)),au 1,.as (iI (x7+1)),au 0]) [(0,.string s),(2,uU (IntKind.u64.wrap ((IntKind.u64.wrap (x2*10))+(IntKind.u64.wrap (IntKind.u8.wrap ((ak s x7)-48)))))),(3,iI 0),(4,.bool neg),(5,.bool x5),(6,.bool false),(7,iI (x7+1)),(8,.bool false),(9,.bool false),(10,uU 10),(11,iI 19),(12,uB 101),(13,.bool lK),(14,.bool true),(15,iI (q9+1)),(16,iI (vg+1)),(17,iI mQ)] .normal H [] (fun _ r_=>aE h1 w1 w2 w3 h2 h3 h4 h5<|gm w4 h6 w5 w6 r_)) aM (ih _ aa (IntKind.u64.wrap ((IntKind.u64.wrap (x2*10))+(IntKind.u64.wrap (IntKind.u8.wrap ((ak s x7)-48))))) x5 (x7+1) lK true (q9+1) (vg+1) mQ _ y qQ hs aa aa (vP _) aa aa aa aa aa aa rfl)
      |false=>
       cases h7:((ak s x7) != 48) with
       |true=>
        have q7:=Iu h7
        have w5:=aC (x7+1)
        exact aA.next' y (bf (kE  [aI,au 4,aF,au 2,.as (iI (q9+1)),au 2,aF,au 0,aI,au 1,.as (iI (x7+1)),au 0]) [(0,.string s),(2,uU x2),(3,iI 0),(4,.bool neg),(5,.bool true),(6,.bool false),(7,iI (x7+1)),(8,.bool false),(9,.bool false),(10,uU 10),(11,iI 19),(12,uB 101),(13,.bool lK),(14,.bool true),(15,iI (q9+1)),(16,iI vg),(17,iI mQ)] .normal H [] (fun _ r_=>aE h1 w1 w2 w3 h2 h3 h4 h5<|gm w4 h6 h7 w5 r_)) aM (ih _ aa x2 true (x7+1) lK true (q9+1) vg mQ _ y qQ hs aa aa m0 aa aa aa aa aa aa rfl)
       |false=>
        have q7:=Bz h7
        have w5:=aC (x7+1)
        exact aA.next' y (bf (kE  [aI,au 4,aF,au 2,.as (iI (q9+1)),au 2,aF,au 0,aF,au 0,.as (iI (x7+1)),au 0]) [(0,.string s),(2,uU x2),(3,iI 0),(4,.bool neg),(5,.bool x5),(6,.bool false),(7,iI (x7+1)),(8,.bool false),(9,.bool false),(10,uU 10),(11,iI 19),(12,uB 101),(13,.bool lK),(14,.bool true),(15,iI (q9+1)),(16,iI vg),(17,iI mQ)] .normal H [] (fun _ r_=>aE h1 w1 w2 w3 h2 h3 h4 h5<|gm w4 h6 h7 w5 r_)) aM (ih _ aa x2 x5 (x7+1) lK true (q9+1) vg mQ _ y qQ hs aa aa m0 aa aa aa aa aa aa rfl)
    |false=>
     exact aA.last' y (bf (kE  [aF,au 10]) [(0,.string s),(2,uU x2),(3,iI 0),(4,.bool neg),(5,.bool x5),(6,.bool false),(7,iI x7),(8,.bool false),(9,.bool false),(10,uU 10),(12,uB 101),(13,.bool lK),(14,.bool Pz),(15,iI q9),(16,iI vg),(17,iI mQ)] (.exit 1) H [] (fun _ r_=>fk h1 w1 w2 w3 h2 h3 h4 r_)) aj aM aM ⟨rfl,x2,x5,x7,lK,Pz,q9,vg,mQ,rfl,⟨i0,i1,m0,n0,by omega,k0,by omega,by omega,by omega⟩⟩
   |false=>
    exact aA.last' y (bf [au 2,aI,au 1,.ck,au 1,aF,au 2,aF,au 2,aF,au 11] [(0,.string s),(2,uU x2),(3,iI 0),(4,.bool neg),(5,.bool x5),(6,.bool false),(7,iI x7),(8,.bool false),(9,.bool false),(10,uU 10),(12,uB 101),(13,.bool lK),(14,.bool Pz),(15,iI q9),(16,iI vg),(17,iI mQ)] (.exit 1) H [] (fun _ r_=>fG h1 w1 w2 w3 h2 h3 r_)) aj aM aM ⟨rfl,x2,x5,x7,lK,Pz,q9,vg,mQ,rfl,⟨i0,i1,m0,n0,by omega,k0,by omega,by omega,by omega⟩⟩
 |false=>
  have q1:=aQ h1
  exact aA.last' y (bf [au 2,aF] [(0,.string s),(2,uU x2),(3,iI 0),(4,.bool neg),(5,.bool x5),(6,.bool false),(7,iI x7),(8,.bool false),(9,.bool false),(10,uU 10),(12,uB 101),(13,.bool lK),(14,.bool Pz),(15,iI q9),(16,iI vg),(17,iI mQ)] (.exit 1) H [] (fun _ r_=>cF h1 r_)) aj aM aM ⟨rfl,x2,x5,x7,lK,Pz,q9,vg,mQ,rfl,⟨i0,i1,m0,n0,by omega,k0,by omega,by omega,by omega⟩⟩
noncomputable def dW:Code:=cz [1,0,1,1,1,1,1,1,1,1,1,1,1,1,1,1,1,1,1,0,1,0,1,1,1,1,1,1,0,0,0] (bH Tryz.f200)
noncomputable abbrev CQ  (l_:List Hint):=au 2::aI::au 2::.ck::aI::au 2::.ck::aI::au 5::.ck::aF::au 0::l_
theorem bV (s:ByteArray) (neg:Bool) (tr:Bool) (mt:Int) (nm:Int) (dp:Int) (es:Int):∀(m:Nat) (x7:Int) (E2:Int) (H:Hp),Gd E G H→(qQ:vB s)→(hs:(s.size:Int)≤300)→(i0:0≤x7)→(i1:x7≤s.size)→(e0:0≤E2)→(e1:E2≤200000)→((s.size:Int)-x7).toNat=m→
  aA E G 253 dW [(0,.string s),(2,uU mt),(3,iI 0),(4,.bool neg),(5,.bool tr),(6,.bool false),(7,iI x7),(8,.bool false),(9,.bool false),(16,iI nm),(17,iI dp),(19,iI es),(20,iI E2)] H [] (fun x T H'=>(x=(.exit 5)∧∃(z7:Int) (z20:Int),T=bw [(0,.string s),(2,uU mt),(3,iI 0),(4,.bool neg),(5,.bool tr),(6,.bool false),(7,iI z7),(8,.bool false),(9,.bool false),(16,iI nm),(17,iI dp),(19,iI es),(20,iI z20)]∧((0≤z7)∧(z7≤s.size)∧(0≤z20)∧(z20≤200000)))):=by
 intro m
 induction m using Nat.strongRecOn with
 |_ m ih=>
 intro x7 E2 H y qQ hs i0 i1 e0 e1 hm
 have ei:=eA s x7
 have ig:=eR s x7
 cases h1:(decide (x7<(s.size:Int))) with
 |true=>
  have q1:=aL h1
  have w1:0≤x7:=aa
  have w2:x7<(s.size:Int):=aa
  cases h2:(decide (48≤(ak s x7))) with
  |true=>
   have q2:=aL h2
   cases h3:(decide ((ak s x7)≤57)) with
   |true=>
    have q3:=aL h3
    have w3:((ak s x7)==95)=false:=beq_false_of_ne (qQ x7 aa aa).Z8.1
    cases h4:(decide (E2<10000)) with
    |true=>
     have q4:=aL h4
     have w4:=aC (E2*10)
     have w5:=aC (ak s x7)
     have w6:=aC ((E2*10)+(ak s x7))
     have w7:=aC (((E2*10)+(ak s x7))-48)
     have w8:=aC (x7+1)
     exact aA.next' y (bf (CQ  [aI,au 0,.as (iI (E2*10)),au 1,.ck,.as (iI (ak s x7)),.as (iI ((E2*10)+(ak s x7))),.as (iI (((E2*10)+(ak s x7))-48)),au 1,.as (iI (x7+1)),au 0]) [(0,.string s),(2,uU mt),(3,iI 0),(4,.bool neg),(5,.bool tr),(6,.bool false),(7,iI (x7+1)),(8,.bool false),(9,.bool false),(16,iI nm),(17,iI dp),(19,iI es),(20,iI (((E2*10)+(ak s x7))-48))] .normal H [] (fun _ r_=>aE h1 w1 w2 h2 w1 w2 h3 w1<|aE w2 w3 h4 w4 w1 w2 w5 w6<|cU w7 w8 r_)) aM (ih _ aa (x7+1) (((E2*10)+(ak s x7))-48) _ y qQ hs aa aa aa aa rfl)
    |false=>
     have w4:=aC (x7+1)
     exact aA.next' y (bf (CQ  [aF,au 0,.as (iI (x7+1)),au 0]) [(0,.string s),(2,uU mt),(3,iI 0),(4,.bool neg),(5,.bool tr),(6,.bool false),(7,iI (x7+1)),(8,.bool false),(9,.bool false),(16,iI nm),(17,iI dp),(19,iI es),(20,iI E2)] .normal H [] (fun _ r_=>aE h1 w1 w2 h2 w1 w2 h3 w1<|gm w2 w3 h4 w4 r_)) aM (ih _ aa (x7+1) E2 _ y qQ hs aa aa aa aa rfl)
   |false=>
    have w3:((ak s x7)==95)=false:=beq_false_of_ne (qQ x7 aa aa).Z8.1
    exact aA.last' y (bf [au 2,aI,au 2,.ck,aI,au 2,.ck,aF,au 3,.ck,aF,au 1] [(0,.string s),(2,uU mt),(3,iI 0),(4,.bool neg),(5,.bool tr),(6,.bool false),(7,iI x7),(8,.bool false),(9,.bool false),(16,iI nm),(17,iI dp),(19,iI es),(20,iI E2)] (.exit 5) H [] (fun _ r_=>aE h1 w1 w2 h2 w1 w2 h3 w1<|cU w2 w3 r_)) aj aM aM ⟨rfl,x7,E2,rfl,⟨aa,aa,aa,aa⟩⟩
  |false=>
   have w3:((ak s x7)==95)=false:=beq_false_of_ne (qQ x7 aa aa).Z8.1
   exact aA.last' y (bf [au 2,aI,au 2,.ck,aF,au 4,.ck,aF,au 1] [(0,.string s),(2,uU mt),(3,iI 0),(4,.bool neg),(5,.bool tr),(6,.bool false),(7,iI x7),(8,.bool false),(9,.bool false),(16,iI nm),(17,iI dp),(19,iI es),(20,iI E2)] (.exit 5) H [] (fun _ r_=>fk h1 w1 w2 h2 w1 w2 w3 r_)) aj aM aM ⟨rfl,x7,E2,rfl,⟨aa,aa,aa,aa⟩⟩
 |false=>
  exact aA.last' y (bf [au 2,aF,au 1] [(0,.string s),(2,uU mt),(3,iI 0),(4,.bool neg),(5,.bool tr),(6,.bool false),(7,iI x7),(8,.bool false),(9,.bool false),(16,iI nm),(17,iI dp),(19,iI es),(20,iI E2)] (.exit 5) H [] (fun _ r_=>cF h1 r_)) aj aM aM ⟨rfl,x7,E2,rfl,⟨aa,aa,aa,aa⟩⟩
noncomputable def gW:Code:=cz [1,0,1,1,1,1,1,1,1,1,1,1,1,1,1,1,1,1,1,0] (bH Tryz.f200)
noncomputable abbrev js jg (H:Hp) (x7:Int) (l_:List Hint):=au 2::aI::au 2::.ck::.call (uB jg) H []::au 0::aI::au 1::.as (iI (x7+1))::au 3::aF::au 2::.ck::l_
noncomputable abbrev wK jg (H:Hp) (x7:Int) (l_:List Hint):=js jg H x7 (aF::au 0::aI::au 1::.as (iI ((x7+1)+1))::au 4::aF::au 2::.ck::l_)
noncomputable abbrev CR jg (H:Hp) (x7:Int) (l_:List Hint):=js jg H x7 (aI::au 1::.as (iI ((x7+1)+1))::au 3::aF::au 2::.ck::aF::au 3::.ck::l_)
theorem dZ (s:ByteArray) (neg:Bool) (tr:Bool) (mt:Int) (nm:Int) (x7:Int) (mQ:Int) {H:Hp} (y:Gd E G H) (qQ:vB s) (hs:(s.size:Int)≤300) (i0:0≤x7) (i1:x7≤s.size) (d0:-300≤mQ) (d1:mQ≤300) :
  bt E G 253 gW [(0,.string s),(2,uU mt),(3,iI 0),(4,.bool neg),(5,.bool tr),(6,.bool false),(7,iI x7),(8,.bool false),(9,.bool false),(10,uU 10),(12,uB 101),(16,iI nm),(17,iI mQ)] H [] (fun x T H'=>(x=.normal∧∃(z7:Int) (ZN:Int),T=bw [(0,.string s),(2,uU mt),(3,iI 0),(4,.bool neg),(5,.bool tr),(6,.bool false),(7,iI z7),(8,.bool false),(9,.bool false),(16,iI nm),(17,iI ZN)]∧((0≤z7)∧(z7≤s.size)∧(-500000≤ZN)∧(ZN≤500000)))∨(x=.ret∧∃(z7:Int),T=bw [(2,uU mt),(3,iI 0),(4,.bool neg),(5,.bool tr),(6,.bool false),(7,iI z7),(8,.bool false)]∧((0≤z7)∧(z7≤s.size)))):=by
 cases h1:(decide (x7<(s.size:Int))) with
 |true=>
  have q1:=aL h1
  have w1:0≤x7:=aa
  have w2:x7<(s.size:Int):=aa
  obtain ⟨jg,hx1,lz⟩:=RX (ak s x7)
  cases h2:(jg==101) with
  |true=>
   have w3:=aC (x7+1)
   cases h3:(decide ((x7+1)≥(s.size:Int))) with
   |true=>
    have q3:=aL h3
    exact bt.mk y (bf [au 2,aI,au 2,.ck,.call (uB jg) H [],au 0,aI,au 1,.as (iI (x7+1)),au 3,aI] [(2,uU mt),(3,iI 0),(4,.bool neg),(5,.bool tr),(6,.bool false),(7,iI (x7+1)),(8,.bool false)] .ret H [] (fun _ r_=>fk h1 w1 w2 (show CC E 219 [uB (ak s x7)] H (.ret (uB jg)) H [] from lz y) h2 w3 h3 r_)) aM aM (.inr (⟨rfl,x7+1,rfl,⟨aa,aa⟩⟩))
   |false=>
    have q3:=aQ h3
    have w4:0≤(x7+1):=aa
    have w5:(x7+1)<(s.size:Int):=aa
    cases h4:((ak s (x7+1))==43) with
    |true=>
     have w6:=aC ((x7+1)+1)
     cases h5:(decide (((x7+1)+1)≥(s.size:Int))) with
     |true=>
      have q5:=aL h5
      exact bt.mk y (bf (js jg H x7 [aI,au 1,.as (iI ((x7+1)+1)),au 3,aI,au 3]) [(2,uU mt),(3,iI 0),(4,.bool neg),(5,.bool tr),(6,.bool false),(7,iI ((x7+1)+1)),(8,.bool false)] .ret H [] (fun _ r_=>aE h1 w1 w2 (show CC E 219 [uB (ak s x7)] H (.ret (uB jg)) H [] from lz y) h2 w3 h3 w4<|gm w5 h4 w6 h5 r_)) aM aM (.inr (⟨rfl,(x7+1)+1,rfl,⟨aa,aa⟩⟩))
     |false=>
      have q5:=aQ h5
      have w7:0≤((x7+1)+1):=aa
      have w8:((x7+1)+1)<(s.size:Int):=aa
      cases h6:(decide ((ak s ((x7+1)+1))<48)) with
      |true=>
       exact bt.mk y (bf (js jg H x7 [aI,au 1,.as (iI ((x7+1)+1)),au 3,aF,au 2,.ck,aI,au 2]) [(2,uU mt),(3,iI 0),(4,.bool neg),(5,.bool tr),(6,.bool false),(7,iI ((x7+1)+1)),(8,.bool false)] .ret H [] (fun _ r_=>aE h1 w1 w2 (show CC E 219 [uB (ak s x7)] H (.ret (uB jg)) H [] from lz y) h2 w3 h3 w4<|fk w5 h4 w6 h5 w7 w8 h6 r_)) aM aM (.inr (⟨rfl,(x7+1)+1,rfl,⟨aa,aa⟩⟩))
      |false=>
       cases h7:(decide ((ak s ((x7+1)+1))>57)) with
       |true=>
        exact bt.mk y (bf (CR jg H x7 [aI,au 0]) [(2,uU mt),(3,iI 0),(4,.bool neg),(5,.bool tr),(6,.bool false),(7,iI ((x7+1)+1)),(8,.bool false)] .ret H [] (fun _ r_=>aE h1 w1 w2 (show CC E 219 [uB (ak s x7)] H (.ret (uB jg)) H [] from lz y) h2 w3 h3 w4<|aE w5 h4 w6 h5 w7 w8 h6 w7<|cU w8 h7 r_)) aM aM (.inr (⟨rfl,(x7+1)+1,rfl,⟨aa,aa⟩⟩))
       |false=>
        obtain ⟨_,_,H1,c1,bN,y1,rfl,gY,ij,rfl,cw,iX,qV,AX⟩:=(bV s neg tr mt nm mQ 1 _ ((x7+1)+1) 0 _ y qQ hs aa aa aa aa rfl).code
        have w9:((iI (IntKind.i64.wrap (ij*1))):Value)=(iI ij):=(by rw [eU aa aa] <;> congr 1 <;> omega)
        have jE:=aC (mQ+ij)
        exact bt.mk y (bf (CR jg H x7 [aF,au 1,.loop [0,2,3,4,5,6,7,8,9,16,17,19,20] (.exit 5) (bw [(0,.string s),(2,uU mt),(3,iI 0),(4,.bool neg),(5,.bool tr),(6,.bool false),(7,iI gY),(8,.bool false),(9,.bool false),(16,iI nm),(17,iI mQ),(19,iI 1),(20,iI ij)]) H1 [],au 2,.as (iI ij),.as (iI (mQ+ij)),au 0]) [(0,.string s),(2,uU mt),(3,iI 0),(4,.bool neg),(5,.bool tr),(6,.bool false),(7,iI gY),(8,.bool false),(9,.bool false),(16,iI nm),(17,iI (mQ+ij))] .normal H1 [] (fun _ r_=>aE h1 w1 w2 (show CC E 219 [uB (ak s x7)] H (.ret (uB jg)) H [] from lz y) h2 w3 h3 w4<|aE w5 h4 w6 h5 w7 w8 h6 w7<|eM w8 h7 c1 w9 jE r_)) aM aM (.inl (⟨rfl,gY,mQ+ij,rfl,⟨aa,aa,aa,aa⟩⟩))
    |false=>
     cases h5:((ak s (x7+1))==45) with
     |true=>
      have w6:=aC ((x7+1)+1)
      cases h6:(decide (((x7+1)+1)≥(s.size:Int))) with
      |true=>
       have q6:=aL h6
       exact bt.mk y (bf (js jg H x7 [aF,au 0,aI,au 1,.as (iI ((x7+1)+1)),au 4,aI,au 3]) [(2,uU mt),(3,iI 0),(4,.bool neg),(5,.bool tr),(6,.bool false),(7,iI ((x7+1)+1)),(8,.bool false)] .ret H [] (fun _ r_=>aE h1 w1 w2 (show CC E 219 [uB (ak s x7)] H (.ret (uB jg)) H [] from lz y) h2 w3 h3 w4<|eM w5 h4 h5 w6 h6 r_)) aM aM (.inr (⟨rfl,(x7+1)+1,rfl,⟨aa,aa⟩⟩))
      |false=>
       have q6:=aQ h6
       have w7:0≤((x7+1)+1):=aa
       have w8:((x7+1)+1)<(s.size:Int):=aa
       cases h7:(decide ((ak s ((x7+1)+1))<48)) with
       |true=>
        exact bt.mk y (bf (wK jg H x7 [aI,au 2]) [(2,uU mt),(3,iI 0),(4,.bool neg),(5,.bool tr),(6,.bool false),(7,iI ((x7+1)+1)),(8,.bool false)] .ret H [] (fun _ r_=>aE h1 w1 w2 (show CC E 219 [uB (ak s x7)] H (.ret (uB jg)) H [] from lz y) h2 w3 h3 w4<|aE w5 h4 h5 w6 h6 w7 w8 h7 r_)) aM aM (.inr (⟨rfl,(x7+1)+1,rfl,⟨aa,aa⟩⟩))
       |false=>
        cases h8:(decide ((ak s ((x7+1)+1))>57)) with
        |true=>
         exact bt.mk y (bf (wK jg H x7 [aF,au 3,.ck,aI,au 0]) [(2,uU mt),(3,iI 0),(4,.bool neg),(5,.bool tr),(6,.bool false),(7,iI ((x7+1)+1)),(8,.bool false)] .ret H [] (fun _ r_=>aE h1 w1 w2 (show CC E 219 [uB (ak s x7)] H (.ret (uB jg)) H [] from lz y) h2 w3 h3 w4<|aE w5 h4 h5 w6 h6 w7 w8 h7<|eY w7 w8 h8 r_)) aM aM (.inr (⟨rfl,(x7+1)+1,rfl,⟨aa,aa⟩⟩))
        |false=>
         obtain ⟨_,_,H1,c1,bN,y1,rfl,gY,ij,rfl,cw,iX,qV,AX⟩:=(bV s neg tr mt nm mQ (-1) _ ((x7+1)+1) 0 _ y qQ hs aa aa aa aa rfl).code
         have w9:((iI (IntKind.i64.wrap (ij*(-1)))):Value)=(iI (0-ij)):=(by rw [eU aa aa] <;> congr 1 <;> omega)
         have jE:=aC (mQ+(0-ij))
         exact bt.mk y (bf (wK jg H x7 [aF,au 3,.ck,aF,au 1,.loop [0,2,3,4,5,6,7,8,9,16,17,19,20] (.exit 5) (bw [(0,.string s),(2,uU mt),(3,iI 0),(4,.bool neg),(5,.bool tr),(6,.bool false),(7,iI gY),(8,.bool false),(9,.bool false),(16,iI nm),(17,iI mQ),(19,iI (-1)),(20,iI ij)]) H1 [],au 2,.as (iI (0-ij)),.as (iI (mQ+(0-ij))),au 0]) [(0,.string s),(2,uU mt),(3,iI 0),(4,.bool neg),(5,.bool tr),(6,.bool false),(7,iI gY),(8,.bool false),(9,.bool false),(16,iI nm),(17,iI (mQ+(0-ij)))] .normal H1 [] (fun _ r_=>aE h1 w1 w2 (show CC E 219 [uB (ak s x7)] H (.ret (uB jg)) H [] from lz y) h2 w3 h3 w4<|aE w5 h4 h5 w6 h6 w7 w8 h7<|fG w7 w8 h8 c1 w9 jE r_)) aM aM (.inl (⟨rfl,gY,mQ+(0-ij),rfl,⟨aa,aa,aa,aa⟩⟩))
     |false=>
      cases h6:(decide ((ak s (x7+1))<48)) with
      |true=>
       exact bt.mk y (bf (js jg H x7 [aF,au 0,aF,au 3,aF,au 2,.ck,aI,au 2]) [(2,uU mt),(3,iI 0),(4,.bool neg),(5,.bool tr),(6,.bool false),(7,iI (x7+1)),(8,.bool false)] .ret H [] (fun _ r_=>aE h1 w1 w2 (show CC E 219 [uB (ak s x7)] H (.ret (uB jg)) H [] from lz y) h2 w3 h3 w4<|fk w5 h4 h5 h3 w4 w5 h6 r_)) aM aM (.inr (⟨rfl,x7+1,rfl,⟨aa,aa⟩⟩))
      |false=>
       cases h7:(decide ((ak s (x7+1))>57)) with
       |true=>
        exact bt.mk y (bf (js jg H x7 [aF,au 0,aF,au 3,aF,au 2,.ck,aF,au 3,.ck,aI,au 0]) [(2,uU mt),(3,iI 0),(4,.bool neg),(5,.bool tr),(6,.bool false),(7,iI (x7+1)),(8,.bool false)] .ret H [] (fun _ r_=>aE h1 w1 w2 (show CC E 219 [uB (ak s x7)] H (.ret (uB jg)) H [] from lz y) h2 w3 h3 w4<|aE w5 h4 h5 h3 w4 w5 h6 w4<|cU w5 h7 r_)) aM aM (.inr (⟨rfl,x7+1,rfl,⟨aa,aa⟩⟩))
       |false=>
        obtain ⟨_,_,H1,c1,bN,y1,rfl,gY,ij,rfl,cw,iX,qV,AX⟩:=(bV s neg tr mt nm mQ 1 _ (x7+1) 0 _ y qQ hs aa aa aa aa rfl).code
        have w6:((iI (IntKind.i64.wrap (ij*1))):Value)=(iI ij):=(by rw [eU aa aa] <;> congr 1 <;> omega)
        have w7:=aC (mQ+ij)
        exact bt.mk y (bf (js jg H x7 [aF,au 0,aF,au 3,aF,au 2,.ck,aF,au 3,.ck,aF,au 1,.loop [0,2,3,4,5,6,7,8,9,16,17,19,20] (.exit 5) (bw [(0,.string s),(2,uU mt),(3,iI 0),(4,.bool neg),(5,.bool tr),(6,.bool false),(7,iI gY),(8,.bool false),(9,.bool false),(16,iI nm),(17,iI mQ),(19,iI 1),(20,iI ij)]) H1 [],au 2,.as (iI ij),.as (iI (mQ+ij)),au 0]) [(0,.string s),(2,uU mt),(3,iI 0),(4,.bool neg),(5,.bool tr),(6,.bool false),(7,iI gY),(8,.bool false),(9,.bool false),(16,iI nm),(17,iI (mQ+ij))] .normal H1 [] (fun _ r_=>aE h1 w1 w2 (show CC E 219 [uB (ak s x7)] H (.ret (uB jg)) H [] from lz y) h2 w3 h3 w4<|aE w5 h4 h5 h3 w4 w5 h6 w4<|eM w5 h7 c1 w6 w7 r_)) aM aM (.inl (⟨rfl,gY,mQ+ij,rfl,⟨aa,aa,aa,aa⟩⟩))
  |false=>
   exact bt.mk y (bf [au 2,aI,au 2,.ck,.call (uB jg) H [],au 0,aF,au 2] [(0,.string s),(2,uU mt),(3,iI 0),(4,.bool neg),(5,.bool tr),(6,.bool false),(7,iI x7),(8,.bool false),(9,.bool false),(16,iI nm),(17,iI mQ)] .normal H [] (fun _ r_=>eM h1 w1 w2 (show CC E 219 [uB (ak s x7)] H (.ret (uB jg)) H [] from lz y) h2 r_)) aM aM (.inl (⟨rfl,x7,mQ,rfl,⟨aa,aa,aa,aa⟩⟩))
 |false=>
  exact bt.mk y (bf [au 2,aF,au 3] [(0,.string s),(2,uU mt),(3,iI 0),(4,.bool neg),(5,.bool tr),(6,.bool false),(7,iI x7),(8,.bool false),(9,.bool false),(16,iI nm),(17,iI mQ)] .normal H [] (fun _ r_=>cF h1 r_)) aM aM (.inl (⟨rfl,x7,mQ,rfl,⟨aa,aa,aa,aa⟩⟩))
theorem pL:E.func 200=some Tryz.f200:=ah
theorem pM:bO Tryz.f200 1=true:=ah
noncomputable abbrev wL (s:ByteArray) cL gY (H1:Hp) (H2:Hp) (l_:List Hint):=au 10::aF::.piece 3 [0,2,3,4,5,6,7,8,9] .normal (bw [(0,.string s),(2,uU 0),(3,iI 0),(4,.bool cL),(5,.bool false),(6,.bool false),(7,iI gY),(8,.bool false),(9,.bool false)]) H1 []::au 2::.piece 1 [0,2,3,4,5,6,7,8,9,10,11,12] .normal (bw [(0,.string s),(2,uU 0),(3,iI 0),(4,.bool cL),(5,.bool false),(6,.bool false),(7,iI gY),(8,.bool false),(9,.bool false),(10,uU 10),(11,iI 19),(12,uB 101)]) H2 []::au 4::l_
noncomputable abbrev CT (s:ByteArray) cL gY (H1:Hp) (H2:Hp) jb eX nB nP hU nQ (H3:Hp) (l_:List Hint):=wL s cL gY H1 H2 (.loop [0,2,3,4,5,6,7,8,9,10,11,12,13,14,15,16,17] (.exit 1) (bw [(0,.string s),(2,uU jb),(3,iI 0),(4,.bool cL),(5,.bool eX),(6,.bool false),(7,iI nB),(8,.bool false),(9,.bool false),(10,uU 10),(12,uB 101),(13,.bool true),(14,.bool true),(15,iI nP),(16,iI hU),(17,iI nQ)]) H3 []::au 5::l_)
noncomputable abbrev CU (s:ByteArray) cL gY (H1:Hp) (H2:Hp) jb eX nB nP hU nQ (H3:Hp) (l_:List Hint):=wL s cL gY H1 H2 (.loop [0,2,3,4,5,6,7,8,9,10,11,12,13,14,15,16,17] (.exit 1) (bw [(0,.string s),(2,uU jb),(3,iI 0),(4,.bool cL),(5,.bool eX),(6,.bool false),(7,iI nB),(8,.bool false),(9,.bool false),(10,uU 10),(12,uB 101),(13,.bool false),(14,.bool true),(15,iI nP),(16,iI hU),(17,iI nQ)]) H3 []::au 7::l_)
noncomputable abbrev CV (s:ByteArray) cL gY (H1:Hp) (H2:Hp) jb eX nB nP hU nQ (H3:Hp) mw ny (H4:Hp) (l_:List Hint):=CT s cL gY H1 H2 jb eX nB nP hU nQ H3 (.piece 3 [0,2,3,4,5,6,7,8,9,10,12,16,17] .normal (bw [(0,.string s),(2,uU jb),(3,iI 0),(4,.bool cL),(5,.bool eX),(6,.bool false),(7,iI mw),(8,.bool false),(9,.bool false),(16,iI hU),(17,iI ny)]) H4 []::au 0::l_)
noncomputable abbrev Ar (s:ByteArray) cL gY (H1:Hp) (H2:Hp) jb eX nB nP hU nQ (H3:Hp) mw ny (H4:Hp) (l_:List Hint):=CU s cL gY H1 H2 jb eX nB nP hU nQ H3 (.piece 3 [0,2,3,4,5,6,7,8,9,10,12,16,17] .normal (bw [(0,.string s),(2,uU jb),(3,iI 0),(4,.bool cL),(5,.bool eX),(6,.bool false),(7,iI mw),(8,.bool false),(9,.bool false),(16,iI hU),(17,iI ny)]) H4 []::au 0::l_)
theorem JB (s:ByteArray) {H:Hp} (y:Gd E G H) (qQ:vB s) (hs:(s.size:Int)≤300):aD E G 200 [.string s] H [] (fun v H'=>∃(m:Int) (e:Int) (ng:Bool) (tr:Bool) (i:Int) (ok:Bool),v=(.tuple #[uU m,iI e,.bool ng,.bool tr,.bool false,iI i,.bool ok])∧(0≤m∧m<18446744073709551616∧0≤i∧i≤s.size∧-1000000≤e∧e≤1000000)):=by
 cases h1:(decide (0≥(s.size:Int))) with
 |true=>
  have q1:=aL h1
  exact bA y [au 10,aI] (.tuple #[uU 0,iI 0,.bool false,.bool false,.bool false,iI 0,.bool false]) H pL pM (cF h1 aS) ⟨0,0,false,false,0,false,rfl,by omega,by omega,by omega,by omega,by omega,by omega⟩
 |false=>
  have q1:=aQ h1
  obtain ⟨_,_,H1,c1,bN,y1,rfl,cL,gY,rfl,cw,iX,qV⟩:=Cu s  y aa
  obtain ⟨_,_,H2,c2,dc,y2,rfl,rfl⟩:=si s cL gY y1 qQ hs aa aa
  obtain ⟨_,_,H3,c3,gB,y3,rfl,jb,eX,nB,Xl,aco,nP,hU,nQ,rfl,yO,abW,aik,ail,ain,aio,aip,aiq,air⟩:=(jl s cL _ 0 false gY false false 0 0 0 _ y2 qQ hs aa aa ⟨by omega,by omega⟩ aa aa aa aa aa aa rfl).code
  cases aco with
  |true=>
   cases Xl with
   |true=>
    obtain ⟨_,_,H4,c4,rj,y4,Ht⟩:=dZ s cL eX jb hU nB nQ y3 qQ hs aa aa aa aa
    rcases Ht with ⟨rfl,mw,ny,rfl,vu,OV,aeR,abY⟩ |⟨rfl,mw,rfl,vu,OV⟩
    ·cases h5:(jb != 0) with
     |true=>
      have w1:=aC (ny-hU)
      exact bA y (CV s cL gY H1 H2 jb eX nB nP hU nQ H3 mw ny H4 [aI,au 1,.as (iI (ny-hU)),au 4]) (.tuple #[uU jb,iI (ny-hU),.bool cL,.bool eX,.bool false,iI mw,.bool true]) H4 pL pM (fk h1 c1 c2 c3 c4 h5 w1 aS) ⟨jb,ny-hU,cL,eX,mw,true,rfl,by omega,by omega,by omega,by omega,by omega,by omega⟩
     |false=>
      have q5:=Bz h5
      exact bA y (CV s cL gY H1 H2 jb eX nB nP hU nQ H3 mw ny H4 [aF,au 3]) (.tuple #[uU jb,iI 0,.bool cL,.bool eX,.bool false,iI mw,.bool true]) H4 pL pM (fG h1 c1 c2 c3 c4 h5 aS) ⟨jb,0,cL,eX,mw,true,rfl,by omega,by omega,by omega,by omega,by omega,by omega⟩
    ·exact bA y (CT s cL gY H1 H2 jb eX nB nP hU nQ H3 [.piece 3 [0,2,3,4,5,6,7,8,9,10,12,16,17] .ret (bw [(2,uU jb),(3,iI 0),(4,.bool cL),(5,.bool eX),(6,.bool false),(7,iI mw),(8,.bool false)]) H4 []]) (.tuple #[uU jb,iI 0,.bool cL,.bool eX,.bool false,iI mw,.bool false]) H4 pL pM (eM h1 c1 c2 c3 c4 aS) ⟨jb,0,cL,eX,mw,false,rfl,by omega,by omega,by omega,by omega,by omega,by omega⟩
   |false=>
    obtain ⟨_,_,H4,c4,rj,y4,Ht⟩:=dZ s cL eX jb hU nB nP y3 qQ hs aa aa aa aa
    rcases Ht with ⟨rfl,mw,ny,rfl,vu,OV,aeR,abY⟩ |⟨rfl,mw,rfl,vu,OV⟩
    ·cases h5:(jb != 0) with
     |true=>
      have w1:=aC (ny-hU)
      exact bA y (Ar s cL gY H1 H2 jb eX nB nP hU nQ H3 mw ny H4 [aI,au 1,.as (iI (ny-hU)),au 4]) (.tuple #[uU jb,iI (ny-hU),.bool cL,.bool eX,.bool false,iI mw,.bool true]) H4 pL pM (fk h1 c1 c2 c3 c4 h5 w1 aS) ⟨jb,ny-hU,cL,eX,mw,true,rfl,by omega,by omega,by omega,by omega,by omega,by omega⟩
     |false=>
      have q5:=Bz h5
      exact bA y (Ar s cL gY H1 H2 jb eX nB nP hU nQ H3 mw ny H4 [aF,au 3]) (.tuple #[uU jb,iI 0,.bool cL,.bool eX,.bool false,iI mw,.bool true]) H4 pL pM (fG h1 c1 c2 c3 c4 h5 aS) ⟨jb,0,cL,eX,mw,true,rfl,by omega,by omega,by omega,by omega,by omega,by omega⟩
    ·exact bA y (CU s cL gY H1 H2 jb eX nB nP hU nQ H3 [.piece 3 [0,2,3,4,5,6,7,8,9,10,12,16,17] .ret (bw [(2,uU jb),(3,iI 0),(4,.bool cL),(5,.bool eX),(6,.bool false),(7,iI mw),(8,.bool false)]) H4 []]) (.tuple #[uU jb,iI 0,.bool cL,.bool eX,.bool false,iI mw,.bool false]) H4 pL pM (eM h1 c1 c2 c3 c4 aS) ⟨jb,0,cL,eX,mw,false,rfl,by omega,by omega,by omega,by omega,by omega,by omega⟩
  |false=>
   exact bA y (wL s cL gY H1 H2 [.loop [0,2,3,4,5,6,7,8,9,10,11,12,13,14,15,16,17] (.exit 1) (bw [(0,.string s),(2,uU jb),(3,iI 0),(4,.bool cL),(5,.bool eX),(6,.bool false),(7,iI nB),(8,.bool false),(9,.bool false),(10,uU 10),(12,uB 101),(13,.bool Xl),(14,.bool false),(15,iI nP),(16,iI hU),(17,iI nQ)]) H3 [],au 1]) (.tuple #[uU jb,iI 0,.bool cL,.bool eX,.bool false,iI nB,.bool false]) H3 pL pM (gm h1 c1 c2 c3 aS) ⟨jb,0,cL,eX,nB,false,rfl,by omega,by omega,by omega,by omega,by omega,by omega⟩
theorem ON (s:ByteArray) (qQ:vB s) (hs:(s.size:Int)≤300):∃(m:Int) (e:Int) (ng:Bool) (tr:Bool) (i:Int) (ok:Bool),(0≤m∧m<18446744073709551616∧0≤i∧i≤s.size∧-1000000≤e∧e≤1000000)∧∀{H:Hp},Gd E G H→CC E 200 [.string s] H (.ret (.tuple #[uU m,iI e,.bool ng,.bool tr,.bool false,iI i,.bool ok])) H []:=by
 obtain ⟨_,_,c,_,_,m,e,ng,tr,i,ok,rfl,hs⟩:=JB s eZ qQ hs
 exact ⟨m,e,ng,tr,i,ok,hs,fun y=>aW (cq rfl) (.ground rfl) c y⟩
def NN (x:Nat):Prop:=x%9223372036854775808≤9218868437227405312
def L8 (c:Nat):Prop:=∃ s n j,Ieee.double.read c=.number s n j∧n≠0
theorem IF:Ieee.double.signWeight=9223372036854775808:=by decide
theorem F9:Ieee.double.infRung=9218868437227405312:=by decide
theorem NN.read {x:Nat} (h:NN x):∀ s t,Ieee.double.read x≠.nan s t:=by
 intro s t
 unfold NN at h
 unfold Ieee.Format.read
 rw [IF,F9]
 dsimp only
 split
 ·simp
 ·split
  ·simp
  ·split
   ·simp
   ·omega
theorem NN.word (neg:Bool) (r:Nat) (h:r≤9218868437227405312):NN (Ieee.double.word neg r):=by
 unfold NN Ieee.Format.word
 rw [IF]
 split <;> omega
theorem NN.number (neg:Bool) (m:Nat) (p:Int):NN (Ieee.double.write (.number neg m p)):=by
 show NN (Ieee.double.nearest neg m p)
 unfold Ieee.Format.nearest
 split
 ·exact .word neg 0 aa
 ·refine .word neg _ ?_
  rw [F9]
  exact Nat.min_le_right _ _
theorem NN.infinity (neg:Bool):NN (Ieee.double.write (.infinity neg)):=.word neg _ (by rw [F9];omega)
theorem NN.mul {x c:Nat} (h:NN x) (hc:L8 c):(FloatKind.f64.format.mul x c).isSome=true∧NN ((FloatKind.f64.format.mul x c).getD 0):=by
 obtain ⟨t,n,j,e,hn⟩:=hc
 have e2:FloatKind.f64.format.mul x c=((Ieee.double.read x).product (Ieee.double.read c)).map Ieee.double.write:=rfl
 rw [e2,e]
 cases hx:Ieee.double.read x with
 |number s m i=>exact ⟨rfl,.number _ _ _⟩
 |infinity s=>
  have:(Ieee.Datum.infinity s).product (.number t n j)=some (.infinity (s ^^ t)):=by
   simp [Ieee.Datum.product,hn]
  rw [this]
  exact ⟨rfl,.infinity _⟩
 |nan s f=>exact absurd hx (h.read s f)
theorem NN.div {x c:Nat} (h:NN x) (hc:L8 c):(FloatKind.f64.format.div x c).isSome=true∧NN ((FloatKind.f64.format.div x c).getD 0):=by
 obtain ⟨t,n,j,e,hn⟩:=hc
 have e2:FloatKind.f64.format.div x c=((Ieee.double.read x).quotient (Ieee.double.fractionBits+2) (Ieee.double.read c)).map Ieee.double.write:=rfl
 rw [e2,e]
 cases hx:Ieee.double.read x with
 |number s m i=>
  have:∃ a b d,(Ieee.Datum.number s m i).quotient (Ieee.double.fractionBits+2) (.number t n j)=some (.number a b d):=by
   simp only [Ieee.Datum.quotient,hn,if_false]
   exact ⟨_,_,_,rfl⟩
  obtain ⟨a,b,d,h1⟩:=this
  rw [h1]
  exact ⟨rfl,.number _ _ _⟩
 |infinity s=>exact ⟨rfl,.infinity _⟩
 |nan s f=>exact absurd hx (h.read s f)
theorem NN.nearest (n:Int):NN (FloatKind.f64.nearest n):=.number _ _ _
theorem NN.neg {x:Nat} (h:NN x):NN (Op.negFloat .f64 x):=by
 have e:Op.negFloat .f64 x=x ^^^ 2 ^ 63:=rfl
 unfold NN at *
 rw [e,show (9223372036854775808:Nat)=2 ^ 63 by decide,Nat.xor_mod_two_pow,Nat.mod_self,Nat.xor_zero]
 exact h
def D0:List Nat:=[4607182418800017408,4621819117588971520,4636737291354636288,4652007308841189376,4666723172467343360,4681608360884174848,4696837146684686336,4711630319722168320,4726483295884279808,4741671816366391296,4756540486875873280,4771362005757984768,4786511204640096256,4801453603149578240,4816244402031689728,4831355200913801216,4846369599423283200,4861130398305394688,4876203697187506176,4891288408196988160,4906019910204099648,4921056587992461136,4936209963552724370]
theorem OL:∀ c∈D0,L8 c:=by
 have key:D0.all (fun c=>match Ieee.double.read c with |.number _ n _=>n != 0 |_=>false)=true:=by kernel_rfl
 intro c hc
 have:=List.all_eq_true.1 key c hc
 split at this
 ·rename_i s n j e
  exact ⟨s,n,j,e,by simpa using this⟩
 ·cases this
theorem iS {i:Int} (h0:0≤i) (h1:i<23):∃ c:Nat,(D0.map (Value.float .f64))[0+i.toNat*1]?=some (.float .f64 c)∧L8 c:=by
 have hlt:i.toNat<D0.length:=by show i.toNat<23;omega
 refine ⟨D0[i.toNat],?_,OL _ (List.getElem_mem hlt)⟩
 rw [show 0+i.toNat*1=i.toNat by omega,List.getElem?_map,bZ hlt];rfl
theorem dB:E.func 210=some Tryz.f210:=ah
theorem dD:bO Tryz.f210 3=true:=ah
noncomputable abbrev wM (H:Hp) (l_:List Hint):=au 3::vl (uU 52) H::au 0::aF::au 7::aF::au 1::aI::au 1::aI::au 2::aF::au 0::l_
noncomputable abbrev CW (H:Hp) (l_:List Hint):=au 3::vl (uU 52) H::au 0::aF::au 7::aF::au 1::aI::au 1::aF::au 2::aI::au 1::l_
noncomputable abbrev wO (H:Hp) (l_:List Hint):=au 3::vl (uU 52) H::au 0::aF::au 4::aF::au 1::aI::au 1::aI::au 2::aF::au 0::l_
noncomputable abbrev CX (H:Hp) (l_:List Hint):=au 3::vl (uU 52) H::au 0::aF::au 4::aF::au 1::aI::au 1::aF::au 2::aI::au 1::l_
noncomputable abbrev wP (H:Hp) (e:Int) k9 (l_:List Hint):=au 3::vl (uU 52) H::au 0::aF::au 7::aF::au 1::aI::au 1::aI::au 2::aI::au 0::vl (sc 27 0 23 47) H::au 0::.as (iI (e-22))::.ck::vl (.float .f64 k9) H::.ck::au 2::l_
noncomputable abbrev wQ (H:Hp) (e:Int) k9 (l_:List Hint):=au 3::vl (uU 52) H::au 0::aF::au 4::aF::au 1::aI::au 1::aI::au 2::aI::au 0::vl (sc 27 0 23 47) H::au 0::.as (iI (e-22))::.ck::vl (.float .f64 k9) H::.ck::au 2::l_
theorem Od (m:Int) (e:Int) (ng:Bool) {H:Hp} (y:Gd E G H) (e0:-1000000≤e) (e1:e≤1000000):aD E G 210 [uU m,iI e,.bool ng] H [] (fun v H'=>∃(f:Nat) (b:Bool),v=(.tuple #[.float .f64 f,.bool b])∧(NN f)):=by
 have w1:aq E 91 12 0 H=some (uU 52):=bQ fW (xW y) rfl
 cases h1:((Int.fdiv m (2 ^ 52)) != 0) with
 |true=>
  exact bA y [au 3,vl (uU 52) H,au 0,aI] (.tuple #[.float .f64 0,.bool false]) H dB dD (cU w1 h1 aS) ⟨0,false,rfl,(by unfold NN;omega)⟩
 |false=>
  cases ng with
  |true=>
   cases h3:(e==0) with
   |true=>
    exact bA y [au 3,vl (uU 52) H,au 0,aF,au 7,aI,au 3] (.tuple #[.float .f64 (Op.negFloat .f64 (FloatKind.f64.nearest m)),.bool true]) H dB dD (eY w1 h1 h3 aS) ⟨Op.negFloat .f64 (FloatKind.f64.nearest m),true,rfl,NN.neg (NN.nearest m)⟩
   |false=>
    cases h4:(decide (e>0)) with
    |true=>
     have q4:=aL h4
     cases h5:(decide (e≤37)) with
     |true=>
      have q5:=aL h5
      cases h6:(decide (e>22)) with
      |true=>
       have q6:=aL h6
       have w2:aq E 306 15 0 H=some (sc 27 0 23 47):=bQ kN (Ig y) rfl
       have w3:=aC (e-22)
       have w4:0≤(e-22):=aa
       have w5:(e-22)<(23:Int):=aa
       obtain ⟨k9,we,gI⟩:=iS (i:=(e-22)) aa aa
       have w6:aq E 104 27 (0+(e-22).toNat*1) H=some (.float .f64 k9):=bQ iN (ED y) we
       have w7:=(NN.mul (NN.neg (NN.nearest m)) gI).1
       cases h7:(FloatKind.f64.format.order ((FloatKind.f64.format.mul (Op.negFloat .f64 (FloatKind.f64.nearest m)) k9).getD 0) 4831355200913801216==some .gt) with
       |true=>
        exact bA y (wP H e k9 [aI,au 1]) (.tuple #[.float .f64 ((FloatKind.f64.format.mul (Op.negFloat .f64 (FloatKind.f64.nearest m)) k9).getD 0),.bool false]) H dB dD (aE w1 h1 h3 h4 h5 h6 w2 w3<|eM w4 w5 w6 w7 h7 aS) ⟨(FloatKind.f64.format.mul (Op.negFloat .f64 (FloatKind.f64.nearest m)) k9).getD 0,false,rfl,(NN.mul (NN.neg (NN.nearest m)) gI).2⟩
       |false=>
        cases h8:(FloatKind.f64.format.order ((FloatKind.f64.format.mul (Op.negFloat .f64 (FloatKind.f64.nearest m)) k9).getD 0) 14054727237768577024==some .lt) with
        |true=>
         exact bA y (wP H e k9 [aF,au 1,aI,au 0]) (.tuple #[.float .f64 ((FloatKind.f64.format.mul (Op.negFloat .f64 (FloatKind.f64.nearest m)) k9).getD 0),.bool false]) H dB dD (aE w1 h1 h3 h4 h5 h6 w2 w3<|fG w4 w5 w6 w7 h7 h8 aS) ⟨(FloatKind.f64.format.mul (Op.negFloat .f64 (FloatKind.f64.nearest m)) k9).getD 0,false,rfl,(NN.mul (NN.neg (NN.nearest m)) gI).2⟩
        |false=>
         obtain ⟨Ua,Ys,IY⟩:=iS (i:=22) aa aa
         have w8:aq E 104 27 22 H=some (.float .f64 Ua):=bQ iN (ED y) Ys
         have w9:=(NN.mul (NN.mul (NN.neg (NN.nearest m)) gI).2 IY).1
         exact bA y (wP H e k9 [aF,au 1,aF,au 1,vl (sc 27 0 23 47) H,au 1,vl (.float .f64 Ua) H,.ck,au 1]) (.tuple #[.float .f64 ((FloatKind.f64.format.mul ((FloatKind.f64.format.mul (Op.negFloat .f64 (FloatKind.f64.nearest m)) k9).getD 0) Ua).getD 0),.bool true]) H dB dD (aE w1 h1 h3 h4 h5 h6 w2 w3<|aE w4 w5 w6 w7 h7 h8 w2 w8<|cF w9 aS) ⟨(FloatKind.f64.format.mul ((FloatKind.f64.format.mul (Op.negFloat .f64 (FloatKind.f64.nearest m)) k9).getD 0) Ua).getD 0,true,rfl,(NN.mul (NN.mul (NN.neg (NN.nearest m)) gI).2 IY).2⟩
      |false=>
       have q6:=aQ h6
       cases h7:(FloatKind.f64.format.order (Op.negFloat .f64 (FloatKind.f64.nearest m)) 4831355200913801216==some .gt) with
       |true=>
        exact bA y (wM H [aI,au 1]) (.tuple #[.float .f64 (Op.negFloat .f64 (FloatKind.f64.nearest m)),.bool false]) H dB dD (fk w1 h1 h3 h4 h5 h6 h7 aS) ⟨Op.negFloat .f64 (FloatKind.f64.nearest m),false,rfl,NN.neg (NN.nearest m)⟩
       |false=>
        cases h8:(FloatKind.f64.format.order (Op.negFloat .f64 (FloatKind.f64.nearest m)) 14054727237768577024==some .lt) with
        |true=>
         exact bA y (wM H [aF,au 1,aI,au 0]) (.tuple #[.float .f64 (Op.negFloat .f64 (FloatKind.f64.nearest m)),.bool false]) H dB dD (aE w1 h1 h3 h4 h5 h6 h7 h8 aS) ⟨Op.negFloat .f64 (FloatKind.f64.nearest m),false,rfl,NN.neg (NN.nearest m)⟩
        |false=>
         have w2:aq E 306 15 0 H=some (sc 27 0 23 47):=bQ kN (Ig y) rfl
         have w3:0≤e:=aa
         have w4:e<(23:Int):=aa
         obtain ⟨k9,we,gI⟩:=iS (i:=e) aa aa
         have w5:aq E 104 27 (0+e.toNat*1) H=some (.float .f64 k9):=bQ iN (ED y) we
         have w6:=(NN.mul (NN.neg (NN.nearest m)) gI).1
         exact bA y (wM H [aF,au 1,aF,au 1,vl (sc 27 0 23 47) H,au 0,.ck,vl (.float .f64 k9) H,.ck,au 1]) (.tuple #[.float .f64 ((FloatKind.f64.format.mul (Op.negFloat .f64 (FloatKind.f64.nearest m)) k9).getD 0),.bool true]) H dB dD (aE w1 h1 h3 h4 h5 h6 h7 h8<|eM w2 w3 w4 w5 w6 aS) ⟨(FloatKind.f64.format.mul (Op.negFloat .f64 (FloatKind.f64.nearest m)) k9).getD 0,true,rfl,(NN.mul (NN.neg (NN.nearest m)) gI).2⟩
     |false=>
      have q5:=aQ h5
      cases h6:(decide (e<0)) with
      |true=>
       have q6:=aL h6
       cases h7:(decide (e≥(-22))) with
       |true=>
        have w2:aq E 306 15 0 H=some (sc 27 0 23 47):=bQ kN (Ig y) rfl
        have w3:=aC (0-e)
        have w4:0≤(0-e):=aa
        have w5:(0-e)<(23:Int):=aa
        obtain ⟨k9,we,gI⟩:=iS (i:=(0-e)) aa aa
        have w6:aq E 104 27 (0+(0-e).toNat*1) H=some (.float .f64 k9):=bQ iN (ED y) we
        have w7:=(NN.div (NN.neg (NN.nearest m)) gI).1
        exact bA y (CW H [aI,au 2,vl (sc 27 0 23 47) H,au 0,.as (iI (0-e)),.ck,vl (.float .f64 k9) H,.ck,au 1]) (.tuple #[.float .f64 ((FloatKind.f64.format.div (Op.negFloat .f64 (FloatKind.f64.nearest m)) k9).getD 0),.bool true]) H dB dD (aE w1 h1 h3 h4 h5 h6 h7 w2<|eM w3 w4 w5 w6 w7 aS) ⟨(FloatKind.f64.format.div (Op.negFloat .f64 (FloatKind.f64.nearest m)) k9).getD 0,true,rfl,(NN.div (NN.neg (NN.nearest m)) gI).2⟩
       |false=>
        exact bA y (CW H [aF,au 1]) (.tuple #[.float .f64 (Op.negFloat .f64 (FloatKind.f64.nearest m)),.bool false]) H dB dD (fk w1 h1 h3 h4 h5 h6 h7 aS) ⟨Op.negFloat .f64 (FloatKind.f64.nearest m),false,rfl,NN.neg (NN.nearest m)⟩
      |false=>
       exact bA y [au 3,vl (uU 52) H,au 0,aF,au 7,aF,au 1,aI,au 1,aF,au 2,aF,au 2] (.tuple #[.float .f64 (Op.negFloat .f64 (FloatKind.f64.nearest m)),.bool false]) H dB dD (fG w1 h1 h3 h4 h5 h6 aS) ⟨Op.negFloat .f64 (FloatKind.f64.nearest m),false,rfl,NN.neg (NN.nearest m)⟩
    |false=>
     have q4:=aQ h4
     cases h5:(decide (e<0)) with
     |true=>
      have q5:=aL h5
      cases h6:(decide (e≥(-22))) with
      |true=>
       have q6:=aL h6
       have w2:aq E 306 15 0 H=some (sc 27 0 23 47):=bQ kN (Ig y) rfl
       have w3:=aC (0-e)
       have w4:0≤(0-e):=aa
       have w5:(0-e)<(23:Int):=aa
       obtain ⟨k9,we,gI⟩:=iS (i:=(0-e)) aa aa
       have w6:aq E 104 27 (0+(0-e).toNat*1) H=some (.float .f64 k9):=bQ iN (ED y) we
       have w7:=(NN.div (NN.neg (NN.nearest m)) gI).1
       exact bA y [au 3,vl (uU 52) H,au 0,aF,au 7,aF,au 1,aF,au 3,aI,au 1,aI,au 2,vl (sc 27 0 23 47) H,au 0,.as (iI (0-e)),.ck,vl (.float .f64 k9) H,.ck,au 1] (.tuple #[.float .f64 ((FloatKind.f64.format.div (Op.negFloat .f64 (FloatKind.f64.nearest m)) k9).getD 0),.bool true]) H dB dD (aE w1 h1 h3 h4 h5 h6 w2 w3<|gm w4 w5 w6 w7 aS) ⟨(FloatKind.f64.format.div (Op.negFloat .f64 (FloatKind.f64.nearest m)) k9).getD 0,true,rfl,(NN.div (NN.neg (NN.nearest m)) gI).2⟩
      |false=>
       exact bA y [au 3,vl (uU 52) H,au 0,aF,au 7,aF,au 1,aF,au 3,aI,au 1,aF,au 1] (.tuple #[.float .f64 (Op.negFloat .f64 (FloatKind.f64.nearest m)),.bool false]) H dB dD (fG w1 h1 h3 h4 h5 h6 aS) ⟨Op.negFloat .f64 (FloatKind.f64.nearest m),false,rfl,NN.neg (NN.nearest m)⟩
     |false=>
      exact bA y [au 3,vl (uU 52) H,au 0,aF,au 7,aF,au 1,aF,au 3,aF,au 2] (.tuple #[.float .f64 (Op.negFloat .f64 (FloatKind.f64.nearest m)),.bool false]) H dB dD (eM w1 h1 h3 h4 h5 aS) ⟨Op.negFloat .f64 (FloatKind.f64.nearest m),false,rfl,NN.neg (NN.nearest m)⟩
  |false=>
   cases h3:(e==0) with
   |true=>
    exact bA y [au 3,vl (uU 52) H,au 0,aF,au 4,aI,au 3] (.tuple #[.float .f64 (FloatKind.f64.nearest m),.bool true]) H dB dD (eY w1 h1 h3 aS) ⟨FloatKind.f64.nearest m,true,rfl,NN.nearest m⟩
   |false=>
    cases h4:(decide (e>0)) with
    |true=>
     have q4:=aL h4
     cases h5:(decide (e≤37)) with
     |true=>
      have q5:=aL h5
      cases h6:(decide (e>22)) with
      |true=>
       have q6:=aL h6
       have w2:aq E 306 15 0 H=some (sc 27 0 23 47):=bQ kN (Ig y) rfl
       have w3:=aC (e-22)
       have w4:0≤(e-22):=aa
       have w5:(e-22)<(23:Int):=aa
       obtain ⟨k9,we,gI⟩:=iS (i:=(e-22)) aa aa
       have w6:aq E 104 27 (0+(e-22).toNat*1) H=some (.float .f64 k9):=bQ iN (ED y) we
       have w7:=(NN.mul (NN.nearest m) gI).1
       cases h7:(FloatKind.f64.format.order ((FloatKind.f64.format.mul (FloatKind.f64.nearest m) k9).getD 0) 4831355200913801216==some .gt) with
       |true=>
        exact bA y (wQ H e k9 [aI,au 1]) (.tuple #[.float .f64 ((FloatKind.f64.format.mul (FloatKind.f64.nearest m) k9).getD 0),.bool false]) H dB dD (aE w1 h1 h3 h4 h5 h6 w2 w3<|eM w4 w5 w6 w7 h7 aS) ⟨(FloatKind.f64.format.mul (FloatKind.f64.nearest m) k9).getD 0,false,rfl,(NN.mul (NN.nearest m) gI).2⟩
       |false=>
        cases h8:(FloatKind.f64.format.order ((FloatKind.f64.format.mul (FloatKind.f64.nearest m) k9).getD 0) 14054727237768577024==some .lt) with
        |true=>
         exact bA y (wQ H e k9 [aF,au 1,aI,au 0]) (.tuple #[.float .f64 ((FloatKind.f64.format.mul (FloatKind.f64.nearest m) k9).getD 0),.bool false]) H dB dD (aE w1 h1 h3 h4 h5 h6 w2 w3<|fG w4 w5 w6 w7 h7 h8 aS) ⟨(FloatKind.f64.format.mul (FloatKind.f64.nearest m) k9).getD 0,false,rfl,(NN.mul (NN.nearest m) gI).2⟩
        |false=>
         obtain ⟨Ua,Ys,IY⟩:=iS (i:=22) aa aa
         have w8:aq E 104 27 22 H=some (.float .f64 Ua):=bQ iN (ED y) Ys
         have w9:=(NN.mul (NN.mul (NN.nearest m) gI).2 IY).1
         exact bA y (wQ H e k9 [aF,au 1,aF,au 1,vl (sc 27 0 23 47) H,au 1,vl (.float .f64 Ua) H,.ck,au 1]) (.tuple #[.float .f64 ((FloatKind.f64.format.mul ((FloatKind.f64.format.mul (FloatKind.f64.nearest m) k9).getD 0) Ua).getD 0),.bool true]) H dB dD (aE w1 h1 h3 h4 h5 h6 w2 w3<|aE w4 w5 w6 w7 h7 h8 w2 w8<|cF w9 aS) ⟨(FloatKind.f64.format.mul ((FloatKind.f64.format.mul (FloatKind.f64.nearest m) k9).getD 0) Ua).getD 0,true,rfl,(NN.mul (NN.mul (NN.nearest m) gI).2 IY).2⟩
      |false=>
       have q6:=aQ h6
       cases h7:(FloatKind.f64.format.order (FloatKind.f64.nearest m) 4831355200913801216==some .gt) with
       |true=>
        exact bA y (wO H [aI,au 1]) (.tuple #[.float .f64 (FloatKind.f64.nearest m),.bool false]) H dB dD (fk w1 h1 h3 h4 h5 h6 h7 aS) ⟨FloatKind.f64.nearest m,false,rfl,NN.nearest m⟩
       |false=>
        cases h8:(FloatKind.f64.format.order (FloatKind.f64.nearest m) 14054727237768577024==some .lt) with
        |true=>
         exact bA y (wO H [aF,au 1,aI,au 0]) (.tuple #[.float .f64 (FloatKind.f64.nearest m),.bool false]) H dB dD (aE w1 h1 h3 h4 h5 h6 h7 h8 aS) ⟨FloatKind.f64.nearest m,false,rfl,NN.nearest m⟩
        |false=>
         have w2:aq E 306 15 0 H=some (sc 27 0 23 47):=bQ kN (Ig y) rfl
         have w3:0≤e:=aa
         have w4:e<(23:Int):=aa
         obtain ⟨k9,we,gI⟩:=iS (i:=e) aa aa
         have w5:aq E 104 27 (0+e.toNat*1) H=some (.float .f64 k9):=bQ iN (ED y) we
         have w6:=(NN.mul (NN.nearest m) gI).1
         exact bA y (wO H [aF,au 1,aF,au 1,vl (sc 27 0 23 47) H,au 0,.ck,vl (.float .f64 k9) H,.ck,au 1]) (.tuple #[.float .f64 ((FloatKind.f64.format.mul (FloatKind.f64.nearest m) k9).getD 0),.bool true]) H dB dD (aE w1 h1 h3 h4 h5 h6 h7 h8<|eM w2 w3 w4 w5 w6 aS) ⟨(FloatKind.f64.format.mul (FloatKind.f64.nearest m) k9).getD 0,true,rfl,(NN.mul (NN.nearest m) gI).2⟩
     |false=>
      have q5:=aQ h5
      cases h6:(decide (e<0)) with
      |true=>
       have q6:=aL h6
       cases h7:(decide (e≥(-22))) with
       |true=>
        have w2:aq E 306 15 0 H=some (sc 27 0 23 47):=bQ kN (Ig y) rfl
        have w3:=aC (0-e)
        have w4:0≤(0-e):=aa
        have w5:(0-e)<(23:Int):=aa
        obtain ⟨k9,we,gI⟩:=iS (i:=(0-e)) aa aa
        have w6:aq E 104 27 (0+(0-e).toNat*1) H=some (.float .f64 k9):=bQ iN (ED y) we
        have w7:=(NN.div (NN.nearest m) gI).1
        exact bA y (CX H [aI,au 2,vl (sc 27 0 23 47) H,au 0,.as (iI (0-e)),.ck,vl (.float .f64 k9) H,.ck,au 1]) (.tuple #[.float .f64 ((FloatKind.f64.format.div (FloatKind.f64.nearest m) k9).getD 0),.bool true]) H dB dD (aE w1 h1 h3 h4 h5 h6 h7 w2<|eM w3 w4 w5 w6 w7 aS) ⟨(FloatKind.f64.format.div (FloatKind.f64.nearest m) k9).getD 0,true,rfl,(NN.div (NN.nearest m) gI).2⟩
       |false=>
        exact bA y (CX H [aF,au 1]) (.tuple #[.float .f64 (FloatKind.f64.nearest m),.bool false]) H dB dD (fk w1 h1 h3 h4 h5 h6 h7 aS) ⟨FloatKind.f64.nearest m,false,rfl,NN.nearest m⟩
      |false=>
       exact bA y [au 3,vl (uU 52) H,au 0,aF,au 4,aF,au 1,aI,au 1,aF,au 2,aF,au 2] (.tuple #[.float .f64 (FloatKind.f64.nearest m),.bool false]) H dB dD (fG w1 h1 h3 h4 h5 h6 aS) ⟨FloatKind.f64.nearest m,false,rfl,NN.nearest m⟩
    |false=>
     have q4:=aQ h4
     cases h5:(decide (e<0)) with
     |true=>
      have q5:=aL h5
      cases h6:(decide (e≥(-22))) with
      |true=>
       have q6:=aL h6
       have w2:aq E 306 15 0 H=some (sc 27 0 23 47):=bQ kN (Ig y) rfl
       have w3:=aC (0-e)
       have w4:0≤(0-e):=aa
       have w5:(0-e)<(23:Int):=aa
       obtain ⟨k9,we,gI⟩:=iS (i:=(0-e)) aa aa
       have w6:aq E 104 27 (0+(0-e).toNat*1) H=some (.float .f64 k9):=bQ iN (ED y) we
       have w7:=(NN.div (NN.nearest m) gI).1
       exact bA y [au 3,vl (uU 52) H,au 0,aF,au 4,aF,au 1,aF,au 3,aI,au 1,aI,au 2,vl (sc 27 0 23 47) H,au 0,.as (iI (0-e)),.ck,vl (.float .f64 k9) H,.ck,au 1] (.tuple #[.float .f64 ((FloatKind.f64.format.div (FloatKind.f64.nearest m) k9).getD 0),.bool true]) H dB dD (aE w1 h1 h3 h4 h5 h6 w2 w3<|gm w4 w5 w6 w7 aS) ⟨(FloatKind.f64.format.div (FloatKind.f64.nearest m) k9).getD 0,true,rfl,(NN.div (NN.nearest m) gI).2⟩
      |false=>
       exact bA y [au 3,vl (uU 52) H,au 0,aF,au 4,aF,au 1,aF,au 3,aI,au 1,aF,au 1] (.tuple #[.float .f64 (FloatKind.f64.nearest m),.bool false]) H dB dD (fG w1 h1 h3 h4 h5 h6 aS) ⟨FloatKind.f64.nearest m,false,rfl,NN.nearest m⟩
     |false=>
      exact bA y [au 3,vl (uU 52) H,au 0,aF,au 4,aF,au 1,aF,au 3,aF,au 2] (.tuple #[.float .f64 (FloatKind.f64.nearest m),.bool false]) H dB dD (eM w1 h1 h3 h4 h5 aS) ⟨FloatKind.f64.nearest m,false,rfl,NN.nearest m⟩
theorem T9 (m:Int) (e:Int) (ng:Bool) (e0:-1000000≤e) (e1:e≤1000000):∃(f:Nat) (b:Bool),(NN f)∧∀{H:Hp},Gd E G H→CC E 210 [uU m,iI e,.bool ng] H (.ret (.tuple #[.float .f64 f,.bool b])) H []:=by
 obtain ⟨_,_,c,_,_,f,b,rfl,hs⟩:=Od m e ng eZ e0 e1
 exact ⟨f,b,hs,fun y=>aW (cq rfl) (.ground rfl) c y⟩
end Go.Proofs.YtglmagcldkngbaaGreatDoor
