/- Part of the proof that CheckKids answers true. -/
import Derived.Test.YtglmagcldkngbaaGreatDoorP08
set_option linter.unusedVariables false
set_option linter.unusedSimpArgs false
set_option maxRecDepth 100000
set_option maxHeartbeats 4000000
namespace Go.Proofs.YtglmagcldkngbaaGreatDoor
open Go Go.Am
theorem yL {G X H:Hp} {g:FuncId} {args:List Value} {Q:Value→Hp→Prop} (y:Gd E X H) (h:aD E G g args H [] Q):aD E X g args H [] Q:=by
 obtain ⟨v,H',c,x,z,q⟩:=h
 exact ⟨v,H',c,x,y.step x z.wf aM,q⟩
theorem BD {b c:Bool} (h:b=c) {g:FuncId} {args:List Value} {H:Hp} (k:CC E g args H (.ret (.bool b)) H []):CC E g args H (.ret (.bool c)) H []:=h▸k
noncomputable def IQ (s:ByteArray):Bool:=(JQ s).choose
theorem fe (s:ByteArray) {H:Hp} (y:Gd E G H):CC E 56 [.string s] H (.ret (.bool (IQ s))) H []:=(JQ s).choose_spec y
noncomputable def Js (s:ByteArray):Bool:=open Classical in if h:(s.size:Int)<100000 then (lC s aa).choose else false
theorem Jt (s:ByteArray) (h:(s.size:Int)<100000) {H:Hp} (y:Gd E G H):CC E 69 [.string s] H (.ret (.bool (Js s))) H []:=
 have e:Js s=(lC s aa).choose:=dif_pos h
 e.symm▸(lC s aa).choose_spec y
noncomputable def Le (m:M3):Bool:=open Classical in if h:(m.2.1.size:Int)<100000 then (rQ m.1 m.2.1 m.2.2 h).choose else false
theorem Bg (m:M3) (h:(m.2.1.size:Int)<100000) {H:Hp} (y:Gd E G H):CC E 55 [.agg #[iI m.1,.string m.2.1,.string m.2.2]] H (.ret (.bool (Le m))) H []:=
 have e:Le m=(rQ m.1 m.2.1 m.2.2 h).choose:=dif_pos h
 e.symm▸(rQ m.1 m.2.1 m.2.2 h).choose_spec y
noncomputable def uf:List ByteArray→Bool
 |[]=>false
 |s::ns=>!Js s||uf ns
noncomputable def qu:List M3→Bool
 |[]=>false
 |m::ms=>!Le m||qu ms
def hasB (s:ByteArray):List ByteArray→Bool
 |[]=>false
 |w::ws=>(s.toList==w.toList)||hasB s ws
theorem By {α:Type} {F:List α→Bool} {g:α→Bool} (h1:∀ a l,F (a::l)=(g a||F l)) {l:List α} {i:Nat} {a:α} {R:Bool} (h:l[i]?=some a) (hR:F (l.drop i)=R) (hg:g a=false):F (l.drop (i+1))=R:=by
 rw [drop_cons h,h1,hg] at hR;exact hR
theorem ya {α:Type} {F:List α→Bool} {g:α→Bool} (h1:∀ a l,F (a::l)=(g a||F l)) {l:List α} {i:Nat} {a:α} {R:Bool} (h:l[i]?=some a) (hR:F (l.drop i)=R) (hg:g a=true):R=true:=by
 rw [drop_cons h,h1,hg] at hR;exact hR.symm
theorem xZ {α:Type} {F:List α→Bool} (h0:F []=false) {l:List α} {i:Nat} {R:Bool} (hR:F (l.drop i)=R) (h:l.length≤i):R=false:=by
 rw [List.drop_of_length_le h,h0] at hR;exact hR.symm
structure Sz (x:Xp):Prop where
 ms:∀ m∈x.ms,(m.2.1.size:Int)<100000
 ns:∀ s∈x.ns,(s.size:Int)<100000
 nk:x.f.nk<1000
inductive qB:Xp→Prop
 |mk {x:Xp}:Sz x→(∀ k∈x.kids,qB k)→qB x
noncomputable def lU (x:Xp):Bool:=!(decide (x.f.how<0))&&(!(decide (x.f.how>2))&&(!(x.f.how==0&&decide (((x.f.nn:Nat):Int)>0))&&(!(decide (((x.f.nn:Nat):Int)>16))&&!uf x.ns)))
def bX (f:Fe):Fe:=
 bif f.k==1 then { f with v:=0 } else bif f.k==2 then { f with s:=⟨#[]⟩ } else
 bif f.k==3 then { f with s:=⟨#[]⟩,pm:=none,nm:=0,cm:=0,wide:=0,off:=0,ha:=false,at_:=0 } else
 bif f.k==4 then { f with s:=⟨#[]⟩,pk:=none,nk:=0,ck:=0 } else
 bif f.k==5 then { f with s:=⟨#[]⟩,how:=0,pn:=none,nn:=0,cn:=0,pk:=none,nk:=0,ck:=0 } else
 bif f.k==6 then { f with op:=0,bl:=false,how:=0,pn:=none,nn:=0,cn:=0,pk:=none,nk:=0,ck:=0 } else
 bif f.k==7 then { f with pk:=none,nk:=0,ck:=0 } else f
def lN (g:Fe):Bool:=(g.op==0)&&((g.v==0)&&((g.s.toList==(⟨#[]⟩:ByteArray).toList)&&((((g.nm:Nat):Int)==0)&&((g.wide==0)&&((g.off==0)&&(!g.ha&&((g.at_==0)&&((g.how==0)&&((((g.nn:Nat):Int)==0)&&(!g.bl&&(((g.nk:Nat):Int)==0)))))))))))
theorem QL:E.func 67=some Tryz.f67:=ah
theorem QM:bO Tryz.f67 1=true:=ah
theorem Vq (b:Nat) {H:Hp} (y:Gd E G H):aD E G 67 [.float .f64 b] H [] (fun v H'=>∃(r:Bool),v=(.bool r)):=by
 cases h1:(!(FloatKind.f64.format.order b b==some .eq)) with
 |true=>
  exact bA y [au 2,aI,au 0] (.bool true) H QL QM (cF h1 aS) ⟨true,rfl⟩
 |false=>
  exact bA y [au 2,aF,au 0] (.bool false) H QL QM (cF h1 aS) ⟨false,rfl⟩
theorem isNaN (b:Nat):∃(r:Bool),∀{H:Hp},Gd E G H→CC E 67 [.float .f64 b] H (.ret (.bool r)) H []:=by
 obtain ⟨_,_,c,_,_,r,rfl⟩:=Vq b eZ
 exact ⟨r,fun y=>aW (cq rfl) (.ground rfl) c y⟩
theorem KA:E.func 54=some Tryz.f54:=ah
theorem KB:bO Tryz.f54 1=true:=ah
theorem JS (v:Int) {H:Hp} (y:Gd E G H):aD E G 54 [uU v] H [] (fun v H'=>∃(n:Int),v=(uU n)):=by
 obtain ⟨nb_,hnb⟩:=isNaN (v.toNat)
 cases nb_ with
 |true=>
  cases h2:(v != 9218868437227405314) with
  |true=>
   exact bA y [au 1,.call (.float .f64 v.toNat) H [],.call (.bool true) H [],au 1,aI,au 1] (uU 9221120237041090561) H KA KB (eY (show CC E 68 [uU v] H (.ret (.float .f64 v.toNat)) H [] from ot v) (show CC E 67 [.float .f64 v.toNat] H (.ret (.bool true)) H [] from hnb y) h2 aS) ⟨9221120237041090561,rfl⟩
  |false=>
   exact bA y [au 1,.call (.float .f64 v.toNat) H [],.call (.bool true) H [],au 1,aF,au 2] (uU v) H KA KB (eY (show CC E 68 [uU v] H (.ret (.float .f64 v.toNat)) H [] from ot v) (show CC E 67 [.float .f64 v.toNat] H (.ret (.bool true)) H [] from hnb y) h2 aS) ⟨v,rfl⟩
 |false=>
  exact bA y [au 1,.call (.float .f64 v.toNat) H [],.call (.bool false) H [],au 3] (uU v) H KA KB (cU (show CC E 68 [uU v] H (.ret (.float .f64 v.toNat)) H [] from ot v) (show CC E 67 [.float .f64 v.toNat] H (.ret (.bool false)) H [] from hnb y) aS) ⟨v,rfl⟩
theorem FX (v:Int):∃(n:Int),∀{H:Hp},Gd E G H→CC E 54 [uU v] H (.ret (uU n)) H []:=by
 obtain ⟨_,_,c,_,_,n,rfl⟩:=JS v eZ
 exact ⟨n,fun y=>aW (cq rfl) (.ground rfl) c y⟩
noncomputable def Cq (v:Int):Int:=(FX v).choose
theorem Cr (v:Int) {H:Hp} (y:Gd E G H):CC E 54 [uU v] H (.ret (uU (Cq v))) H []:=(FX v).choose_spec y
theorem QY:E.func 77=some Tryz.f77:=ah
theorem QZ:bO Tryz.f77 1=true:=ah
theorem VQ (s:ByteArray) (X:Hp) (hx:Gd E G X) {H:Hp} (y:Gd E X H) (hz:(s.size:Int)<100000):aD E X 77 [.string s] H [] (fun v H'=>v=.bool (!Js s)):=by
 cases h1:(Js s) with
 |true=>
  exact bA y [au 1,.call (.bool true) H [],au 1] (.bool false) H QY QZ (cF (show CC E 69 [.string s] H (.ret (.bool true)) H [] from BD h1 (Jt s hz (qA hx y))) aS) rfl
 |false=>
  exact bA y [au 1,.call (.bool false) H [],au 1] (.bool true) H QY QZ (cF (show CC E 69 [.string s] H (.ret (.bool false)) H [] from BD h1 (Jt s hz (qA hx y))) aS) rfl
theorem QH:E.func 58=some Tryz.f58:=ah
theorem QI:bO Tryz.f58 1=true:=ah
noncomputable abbrev fZ H (m:M3):=news H [.cells [iI m.1,.string m.2.1,.string m.2.2] 40 false]
theorem Zd (m:M3) (X:Hp) (hx:Gd E G X) {H:Hp} (y:Gd E X H) (hz:(m.2.1.size:Int)<100000):aD E X 58 [.agg #[iI m.1,.string m.2.1,.string m.2.2]] H [] (fun v H'=>v=.bool (!Le m)):=by
 have w1:aq E 40 (H.n+0) 0 (fZ H m)=some (.agg #[iI m.1,.string m.2.1,.string m.2.2]):=fQ Ik gJ rfl rfl rfl
 cases h1:(Le m) with
 |true=>
  exact bA y [au 1,vl (.agg #[iI m.1,.string m.2.1,.string m.2.2]) (fZ H m),.call (.bool true) (fZ H m) [],au 1] (.bool false) (fZ H m) QH QI (cU w1 (show CC E 55 [.agg #[iI m.1,.string m.2.1,.string m.2.2]] (fZ H m) (.ret (.bool true)) (fZ H m) [] from BD h1 (Bg m hz (qA hx (y.news [.cells [iI m.1,.string m.2.1,.string m.2.2] 40 false])))) aS) rfl
 |false=>
  exact bA y [au 1,vl (.agg #[iI m.1,.string m.2.1,.string m.2.2]) (fZ H m),.call (.bool false) (fZ H m) [],au 1] (.bool true) (fZ H m) QH QI (cU w1 (show CC E 55 [.agg #[iI m.1,.string m.2.1,.string m.2.2]] (fZ H m) (.ret (.bool false)) (fZ H m) [] from BD h1 (Bg m hz (qA hx (y.news [.cells [iI m.1,.string m.2.1,.string m.2.2] 40 false])))) aS) rfl
noncomputable def XS:Code:=cz [1,0,1,0,0] (bH Tryz.f87)
theorem aaq (x:Xp) (X:Hp) (hx:Gd E G X) (a:At X x) (hz:Sz x) (R:Bool):∀(m:Nat) (x8:Int) (H:Hp),Gd E X H→(x0:0≤x8)→(hR:uf (x.ns.drop x8.toNat)=R)→((x.f.nn:Int)-x8).toNat=m→
  aA E X 19 XS [(0,.slice x.f.pn x.f.nn x.f.cn),(1,ai 77),(7,iI ((x.f.nn:Nat):Int)),(8,iI x8)] H [] (fun xx T H'=>(xx=(.exit 0)∧T=bw []∧(R=false))∨(xx=.ret∧∃(z4:Int),T=bw [(4,iI z4)]∧((R=true)∧(0≤z4)))):=by
 intro m
 induction m using Nat.strongRecOn with
 |_ m ih=>
 intro x8 H y x0 hR hm
 have bd:=a.bn
 cases h1:(decide (x8<((x.f.nn:Nat):Int))) with
 |true=>
  have q1:=aL h1
  obtain ⟨d1,HG,t1,hY,lM⟩:=a.rn.open aa
  have vH:=hx.wf.lt lM
  obtain ⟨x2,m2⟩:=a.nam (i:=x8.toNat) aa
  have w1:aq E 9 d1 (0+x8.toNat*1) H=some (.string x2):=nld bB (y.cell lM vH) m2 aa
  obtain ⟨_,H1,c1,bN,y1,eD⟩:=iL (VQ x2 X hx y (hz.ns x2 (vI m2)))
  rcases eD with ⟨rfl,ei⟩ |⟨rfl,ei⟩
  ·exact aA.last' y (bf [aI,au 4,vl (pt d1 (0+x8.toNat*1)) H,vl (.string x2) H,.call (.bool true) H1 [],au 1] [(4,iI x8)] .ret H1 [] (fun _ r_=>gm h1 (show aN E 24 (.slice x.f.pn x.f.nn x.f.cn) (iI x8)=some (pt d1 (0+x8.toNat*1)) from jA ve mP hY aa aa) w1 c1 r_)) aj aM aM (.inr (⟨rfl,x8,rfl,⟨ya (F:=uf) (fun _ _=>rfl) m2 hR ei,by omega⟩⟩))
  ·have w2:=aC (x8+1)
   exact aA.next' y (bf [aI,au 4,vl (pt d1 (0+x8.toNat*1)) H,vl (.string x2) H,.call (.bool false) H1 [],.as (iI (x8+1)),au 0] [(0,.slice x.f.pn x.f.nn x.f.cn),(1,ai 77),(7,iI ((x.f.nn:Nat):Int)),(8,iI (x8+1))] .normal H1 [] (fun _ r_=>eM h1 (show aN E 24 (.slice x.f.pn x.f.nn x.f.cn) (iI x8)=some (pt d1 (0+x8.toNat*1)) from jA ve mP hY aa aa) w1 c1 w2 r_)) aM (ih _ aa (x8+1) _ y1 aa (by rw [dh aa];exact (By (F:=uf) (fun _ _=>rfl) m2 hR ei)) rfl)
 |false=>
  have q1:=aQ h1
  exact aA.last' y (bf [aF] [] (.exit 0) H [] (fun _ r_=>cF h1 r_)) aj aM aM (.inl (⟨rfl,rfl,xZ (F:=uf) rfl hR (by have:=a.nn;omega)⟩))
theorem Q5:E.func 87=some Tryz.f87:=ah
theorem Q6:bO Tryz.f87 2=true:=ah
theorem Vo (x:Xp) (X:Hp) (hx:Gd E G X) (a:At X x) (hz:Sz x) {H:Hp} (y:Gd E X H):aD E X 87 [.slice x.f.pn x.f.nn x.f.cn,ai 77] H [] (fun v H'=>(∃ n:Int,v=iI n∧0≤n∧uf x.ns=true)∨(v=iI (-1)∧uf x.ns=false)):=by
 obtain ⟨_,_,H1,c1,bN,y1,eD⟩:=(aaq x X hx a hz (uf x.ns) _ 0 _ y aa rfl rfl).code
 rcases eD with ⟨rfl,rfl,cw⟩ |⟨rfl,cL,rfl,cw,iX⟩
 ·exact bA y [au 3,.loop [0,1,7,8] (.exit 0) (bw []) H1 [],au 0] (iI (-1)) H1 Q5 Q6 (cF c1 aS) (.inr ⟨rfl,cw⟩)
 ·exact bA y [au 3,.loop [0,1,7,8] .ret (bw [(4,iI cL)]) H1 []] (iI cL) H1 Q5 Q6 (cF c1 aS) (.inl ⟨_,rfl,iX,cw⟩)
theorem QW:E.func 76=some Tryz.f76:=ah
theorem QX:bO Tryz.f76 2=true:=ah
theorem WU (x:Xp) (X:Hp) (hx:Gd E G X) (a:At X x) (hz:Sz x) {H:Hp} (y:Gd E X H):aD E X 76 [.slice x.f.pn x.f.nn x.f.cn,ai 77] H [] (fun v H'=>v=.bool (uf x.ns)):=by
 obtain ⟨_,H1,c1,bN,y1,eD⟩:=Vo x X hx a hz y
 rcases eD with ⟨NJ,rfl,Nh,ei⟩ |⟨rfl,ei⟩
 ·have w1:(decide (NJ≥0))=true:=decide_eq_true aa
  exact bA y [au 2,.call (iI NJ) H1 [],aI,au 0] (.bool true) H1 QW QX (cU c1 w1 aS) (by rw [ei])
 ·exact bA y [au 2,.call (iI (-1)) H1 [],au 1] (.bool false) H1 QW QX (cF c1 aS) (by rw [ei])
noncomputable def XR:Code:=cz [1,0,1,0,0] (bH Tryz.f74)
theorem aap (x:Xp) (X:Hp) (hx:Gd E G X) (a:At X x) (hz:Sz x) (R:Bool):∀(m:Nat) (x8:Int) (H:Hp),Gd E X H→(x0:0≤x8)→(hR:qu (x.ms.drop x8.toNat)=R)→((x.f.nm:Int)-x8).toNat=m→
  aA E X 19 XR [(0,.slice x.f.pm x.f.nm x.f.cm),(1,ai 58),(7,iI ((x.f.nm:Nat):Int)),(8,iI x8)] H [] (fun xx T H'=>(xx=(.exit 0)∧T=bw []∧(R=false))∨(xx=.ret∧∃(z4:Int),T=bw [(4,iI z4)]∧((R=true)∧(0≤z4)))):=by
 intro m
 induction m using Nat.strongRecOn with
 |_ m ih=>
 intro x8 H y x0 hR hm
 have bd:=a.bm
 cases h1:(decide (x8<((x.f.nm:Nat):Int))) with
 |true=>
  have q1:=aL h1
  obtain ⟨d1,HG,t1,hY,lM⟩:=a.rm.open aa
  have vH:=hx.wf.lt lM
  obtain ⟨x2,m2⟩:=a.mat (i:=x8.toNat) aa
  have w1:aq E 40 d1 (0+x8.toNat*3) H=some (.agg #[iI x2.1,.string x2.2.1,.string x2.2.2]):=mld Ik gJ (y.cell lM vH) m2 aa
  obtain ⟨_,H1,c1,bN,y1,eD⟩:=iL (Zd x2 X hx y (hz.ms x2 (vI m2)))
  rcases eD with ⟨rfl,ei⟩ |⟨rfl,ei⟩
  ·exact aA.last' y (bf [aI,au 4,vl (pt d1 (0+x8.toNat*3)) H,vl (.agg #[iI x2.1,.string x2.2.1,.string x2.2.2]) H,.call (.bool true) H1 [],au 1] [(4,iI x8)] .ret H1 [] (fun _ r_=>gm h1 (show aN E 23 (.slice x.f.pm x.f.nm x.f.cm) (iI x8)=some (pt d1 (0+x8.toNat*3)) from jA gE gJ hY aa aa) w1 c1 r_)) aj aM aM (.inr (⟨rfl,x8,rfl,⟨ya (F:=qu) (fun _ _=>rfl) m2 hR ei,by omega⟩⟩))
  ·have w2:=aC (x8+1)
   exact aA.next' y (bf [aI,au 4,vl (pt d1 (0+x8.toNat*3)) H,vl (.agg #[iI x2.1,.string x2.2.1,.string x2.2.2]) H,.call (.bool false) H1 [],.as (iI (x8+1)),au 0] [(0,.slice x.f.pm x.f.nm x.f.cm),(1,ai 58),(7,iI ((x.f.nm:Nat):Int)),(8,iI (x8+1))] .normal H1 [] (fun _ r_=>eM h1 (show aN E 23 (.slice x.f.pm x.f.nm x.f.cm) (iI x8)=some (pt d1 (0+x8.toNat*3)) from jA gE gJ hY aa aa) w1 c1 w2 r_)) aM (ih _ aa (x8+1) _ y1 aa (by rw [dh aa];exact (By (F:=qu) (fun _ _=>rfl) m2 hR ei)) rfl)
 |false=>
  have q1:=aQ h1
  exact aA.last' y (bf [aF] [] (.exit 0) H [] (fun _ r_=>cF h1 r_)) aj aM aM (.inl (⟨rfl,rfl,xZ (F:=qu) rfl hR (by have:=a.nm;omega)⟩))
theorem QU:E.func 74=some Tryz.f74:=ah
theorem QV:bO Tryz.f74 2=true:=ah
theorem Vn (x:Xp) (X:Hp) (hx:Gd E G X) (a:At X x) (hz:Sz x) {H:Hp} (y:Gd E X H):aD E X 74 [.slice x.f.pm x.f.nm x.f.cm,ai 58] H [] (fun v H'=>(∃ n:Int,v=iI n∧0≤n∧qu x.ms=true)∨(v=iI (-1)∧qu x.ms=false)):=by
 obtain ⟨_,_,H1,c1,bN,y1,eD⟩:=(aap x X hx a hz (qu x.ms) _ 0 _ y aa rfl rfl).code
 rcases eD with ⟨rfl,rfl,cw⟩ |⟨rfl,cL,rfl,cw,iX⟩
 ·exact bA y [au 3,.loop [0,1,7,8] (.exit 0) (bw []) H1 [],au 0] (iI (-1)) H1 QU QV (cF c1 aS) (.inr ⟨rfl,cw⟩)
 ·exact bA y [au 3,.loop [0,1,7,8] .ret (bw [(4,iI cL)]) H1 []] (iI cL) H1 QU QV (cF c1 aS) (.inl ⟨_,rfl,iX,cw⟩)
theorem QF:E.func 57=some Tryz.f57:=ah
theorem QG:bO Tryz.f57 2=true:=ah
theorem Nd (x:Xp) (X:Hp) (hx:Gd E G X) (a:At X x) (hz:Sz x) {H:Hp} (y:Gd E X H):aD E X 57 [.slice x.f.pm x.f.nm x.f.cm,ai 58] H [] (fun v H'=>v=.bool (qu x.ms)):=by
 obtain ⟨_,H1,c1,bN,y1,eD⟩:=Vn x X hx a hz y
 rcases eD with ⟨NJ,rfl,Nh,ei⟩ |⟨rfl,ei⟩
 ·have w1:(decide (NJ≥0))=true:=decide_eq_true aa
  exact bA y [au 2,.call (iI NJ) H1 [],aI,au 0] (.bool true) H1 QF QG (cU c1 w1 aS) (by rw [ei])
 ·exact bA y [au 2,.call (iI (-1)) H1 [],au 1] (.bool false) H1 QF QG (cF c1 aS) (by rw [ei])
noncomputable def Ll (x:Xp):Bool:=(Int.fdiv x.f.v (2 ^ 63)==0)&&((Cq x.f.v==x.f.v)&&(x.f.v != 9218868437227405314))
noncomputable def JP (x:Xp):Bool:=Le (1,⟨#[97]⟩,x.f.s)
noncomputable def gy (x:Xp):Bool:=
 !((!(x.f.s.toList==(⟨#[]⟩:ByteArray).toList))&&!IQ x.f.s)&&(!(decide (((x.f.nm:Nat):Int)>10))&&(!(decide (x.f.wide<0))&&(!(decide (x.f.wide>35184372088832))&&(!(decide (x.f.off<(-35184372088832)))&&(!(decide (x.f.off>35184372088832)) &&
  (!(Int.tmod x.f.at_ 1000 != 0)&&(!(decide (x.f.at_<(-1125899906842624)))&&(!(decide (x.f.at_>1125899906842624))&&(!(!x.f.ha&&(x.f.at_ != 0))&&!qu x.ms)))))))))
noncomputable def Fc (x:Xp):Bool:=IQ x.f.s&&decide (((x.f.nk:Nat):Int)≤4)
noncomputable def vZ (x:Xp):Bool:=hasB x.f.s (Bt iw)&&(lU x&&decide (((x.f.nk:Nat):Int)≤4))
noncomputable def vK (x:Xp):Bool:=decide (x.f.op≥1)&&(decide (x.f.op≤11)&&(lU x&&(((x.f.nk:Nat):Int)==2)))
def Fx (x:Xp):Bool:=((x.f.nk:Nat):Int)==1
noncomputable def vS (x:Xp):Bool:=
 bif x.f.k==1 then Ll x else bif x.f.k==2 then JP x else bif x.f.k==3 then gy x else bif x.f.k==4 then Fc x else bif x.f.k==5 then vZ x else bif x.f.k==6 then vK x else Fx x
noncomputable def gh (x:Xp):Bool:=!(decide (x.f.k<1))&&(!(decide (x.f.k>7))&&(lN (bX x.f)&&vS x))
mutual
noncomputable def iW:Xp→Bool
 |.mk f ms ns kids=>gh (.mk f ms ns kids)&&!tv kids
noncomputable def tv:List Xp→Bool
 |[]=>false
 |x::xs=>!iW x||tv xs
end
theorem cK (x:Xp):iW x=(gh x&&!tv x.kids):=by cases x;rw [iW];rfl
theorem Ir:tv []=false:=by rw [tv]
theorem qI (x:Xp) (l:List Xp):tv (x::l)=(!iW x||tv l):=by rw [tv]
theorem ae7 {ws:List ByteArray} {i:Nat} (h:i<ws.length):∃ t,ws[i]?=some t∧(ju ws)[i]?=some (.string t):=
 ⟨ws[i],bZ h,by rw [ju,List.getElem?_map,bZ h];rfl⟩
noncomputable def P0:Code:=cz [1,0,1,0,0] (bH Tryz.f75)
theorem U3 (q:Nat) (ws:List ByteArray) (c:Nat) (s:ByteArray) (R:Bool):∀(m:Nat) (x8:Int) (H:Hp),Gd E G H→(kq:H.get q=some (.cells (ju ws) 9 false))→(hl:ws.length<100000)→(x0:0≤x8)→(hR:hasB s (ws.drop x8.toNat)=R)→((ws.length:Int)-x8).toNat=m→
  aA E G 19 P0 [(0,sc q 0 ws.length c),(1,.string s),(7,iI ((ws.length:Nat):Int)),(8,iI x8)] H [] (fun x T H'=>(x=(.exit 0)∧T=bw []∧(R=false))∨(x=.ret∧∃(z4:Int),T=bw [(4,iI z4)]∧((R=true)∧(0≤z4)))):=by
 intro m
 induction m using Nat.strongRecOn with
 |_ m ih=>
 intro x8 H y kq hl x0 hR hm
 cases h1:(decide (x8<((ws.length:Nat):Int))) with
 |true=>
  have q1:=aL h1
  have w1:0≤x8:=aa
  have w2:x8<((ws.length:Nat):Int):=aa
  obtain ⟨EU,mg1,Ru⟩:=ae7 (ws:=ws) (i:=x8.toNat) aa
  have w3:aq E 9 q (0+x8.toNat*1) H=some (.string EU):=bQ bB kq (show (ju ws)[0+x8.toNat*1]?=_ by rw [show 0+x8.toNat*1=x8.toNat by omega];exact Ru)
  cases h2:(s.toList==EU.toList) with
  |true=>
   exact aA.last' y (bf [aI,au 4,.ck,vl (.string EU) H,aI,au 1] [(4,iI x8)] .ret H [] (fun _ r_=>eM h1 w1 w2 w3 h2 r_)) aj aM aM (.inr (⟨rfl,x8,rfl,⟨ya (F:=hasB s) (g:=fun w=>s.toList==w.toList) (fun _ _=>rfl) mg1 hR h2,by omega⟩⟩))
  |false=>
   have w4:=aC (x8+1)
   exact aA.next' y (bf [aI,au 4,.ck,vl (.string EU) H,aF,.as (iI (x8+1)),au 0] [(0,sc q 0 ws.length c),(1,.string s),(7,iI ((ws.length:Nat):Int)),(8,iI (x8+1))] .normal H [] (fun _ r_=>fG h1 w1 w2 w3 h2 w4 r_)) aM (ih _ aa (x8+1) _ y kq hl aa (by rw [dh aa];exact (By (F:=hasB s) (g:=fun w=>s.toList==w.toList) (fun _ _=>rfl) mg1 hR h2)) rfl)
 |false=>
  have q1:=aQ h1
  exact aA.last' y (bf [aF] [] (.exit 0) H [] (fun _ r_=>cF h1 r_)) aj aM aM (.inl (⟨rfl,rfl,xZ (F:=hasB s) rfl hR aa⟩))
theorem Rj (q:Nat) (ws:List ByteArray) (c:Nat) (s:ByteArray) {H:Hp} (y:Gd E G H) (kq:H.get q=some (.cells (ju ws) 9 false)) (hl:ws.length<100000):aD E G 75 [sc q 0 ws.length c,.string s] H [] (fun v H'=>(∃ n:Int,v=iI n∧0≤n∧hasB s ws=true)∨(v=iI (-1)∧hasB s ws=false)):=by
 obtain ⟨_,_,H1,c1,bN,y1,eD⟩:=(U3 q ws c s (hasB s ws) _ 0 _ y kq hl aa rfl rfl).code
 rcases eD with ⟨rfl,rfl,cw⟩ |⟨rfl,cL,rfl,cw,iX⟩
 ·exact bA y [au 3,.loop [0,1,7,8] (.exit 0) (bw []) H1 [],au 0] (iI (-1)) H1 GP GQ (cF c1 aS) (.inr ⟨rfl,cw⟩)
 ·exact bA y [au 3,.loop [0,1,7,8] .ret (bw [(4,iI cL)]) H1 []] (iI cL) H1 GP GQ (cF c1 aS) (.inl ⟨_,rfl,iX,cw⟩)
theorem U4 (q:Nat) (ws:List ByteArray) (c:Nat) (s:ByteArray) {H:Hp} (y:Gd E G H) (kq:H.get q=some (.cells (ju ws) 9 false)) (hl:ws.length<100000):aD E G 59 [sc q 0 ws.length c,.string s] H [] (fun v H'=>v=.bool (hasB s ws)):=by
 obtain ⟨_,H1,c1,bN,y1,eD⟩:=Rj q ws c s y kq hl
 rcases eD with ⟨NJ,rfl,Nh,ei⟩ |⟨rfl,ei⟩
 ·have w1:(decide (NJ≥0))=true:=decide_eq_true aa
  exact bA y [au 2,.call (iI NJ) H1 [],aI,au 0] (.bool true) H1 GL GM (cU c1 w1 aS) (by rw [ei])
 ·exact bA y [au 2,.call (iI (-1)) H1 [],au 1] (.bool false) H1 GL GM (cF c1 aS) (by rw [ei])
theorem rJ:E.func 61=some Tryz.f61:=ah
theorem rK:bO Tryz.f61 1=true:=ah
noncomputable abbrev ay H (x:Xp):=news H [.cells (eC x.f) 68 false]
noncomputable abbrev xo (x:Xp) (H:Hp) (l_:List Hint):=au 3::vl (iI x.f.how) (ay H x)::aF::au 2::vl (iI x.f.how) (ay H x)::l_
noncomputable abbrev DC (x:Xp) (H:Hp) (l_:List Hint):=xo x H (aF::au 3::vl (iI x.f.how) (ay H x)::aI::au 2::vl (.slice x.f.pn x.f.nn x.f.cn) (ay H x)::au 0::l_)
noncomputable abbrev DD (x:Xp) (H:Hp) (l_:List Hint):=xo x H (aF::au 3::vl (iI x.f.how) (ay H x)::aF::au 5::vl (.slice x.f.pn x.f.nn x.f.cn) (ay H x)::au 0::l_)
noncomputable abbrev DE (x:Xp) (H:Hp) (l_:List Hint):=DD x H (aF::au 2::vl (.slice x.f.pn x.f.nn x.f.cn) (ay H x)::l_)
noncomputable abbrev DF (x:Xp) (H:Hp) (l_:List Hint):=DC x H (aF::au 4::vl (.slice x.f.pn x.f.nn x.f.cn) (ay H x)::au 0::l_)
noncomputable abbrev DG (x:Xp) (H:Hp) (l_:List Hint):=DF x H (aF::au 2::vl (.slice x.f.pn x.f.nn x.f.cn) (ay H x)::l_)
theorem FC (x:Xp) (X:Hp) (hx:Gd E G X) (a:At X x) (hz:Sz x) {H:Hp} (y:Gd E X H):aD E X 61 [.agg (eC x.f).toArray] H [] (fun v H'=>v=.bool (lU x)):=by
 have w1:aq E 3 (H.n+0) 9 (ay H x)=some (iI x.f.how):=cI aR rfl rfl
 cases h1:(decide (x.f.how<0)) with
 |true=>
  exact bA y [au 3,vl (iI x.f.how) (ay H x),aI,au 6] (.bool false) (ay H x) rJ rK (cU w1 h1 aS) (by rw [lU,h1] <;> rfl)
 |false=>
  cases h2:(decide (x.f.how>2)) with
  |true=>
   exact bA y (xo x H [aI,au 5]) (.bool false) (ay H x) rJ rK (gm w1 h1 w1 h2 aS) (by rw [lU,h1,h2] <;> rfl)
  |false=>
   cases h3:(x.f.how==0) with
   |true=>
    have w2:aq E 24 (H.n+0) 10 (ay H x)=some (.slice x.f.pn x.f.nn x.f.cn):=cI tj rfl rfl
    cases h4:(decide (((x.f.nn:Nat):Int)>0)) with
    |true=>
     exact bA y (DC x H [aI,au 4]) (.bool false) (ay H x) rJ rK (aE w1 h1 w1 h2 w1 h3 w2 h4 aS) (by rw [lU,h1,h2,h3,h4] <;> rfl)
    |false=>
     cases h5:(decide (((x.f.nn:Nat):Int)>16)) with
     |true=>
      exact bA y (DF x H [aI,au 1]) (.bool false) (ay H x) rJ rK (aE w1 h1 w1 h2 w1 h3 w2 h4<|cU w2 h5 aS) (by rw [lU,h1,h2,h3,h4,h5] <;> rfl)
     |false=>
      obtain ⟨_,H1,c1,bN,y1,eD⟩:=iL (WU x X hx a hz (y.news [.cells (eC x.f) 68 false]))
      rcases eD with ⟨rfl,ei⟩ |⟨rfl,ei⟩
      ·exact bA y (DG x H [.call (.bool true) H1 [],au 1]) (.bool false) H1 rJ rK (aE w1 h1 w1 h2 w1 h3 w2 h4<|gm w2 h5 w2 c1 aS) (by rw [lU,h1,h2,h3,h4,h5,ei] <;> rfl)
      ·exact bA y (DG x H [.call (.bool false) H1 [],au 1]) (.bool true) H1 rJ rK (aE w1 h1 w1 h2 w1 h3 w2 h4<|gm w2 h5 w2 c1 aS) (by rw [lU,h1,h2,h3,h4,h5,ei] <;> rfl)
   |false=>
    have w2:aq E 24 (H.n+0) 10 (ay H x)=some (.slice x.f.pn x.f.nn x.f.cn):=cI tj rfl rfl
    cases h4:(decide (((x.f.nn:Nat):Int)>16)) with
    |true=>
     exact bA y (DD x H [aI,au 1]) (.bool false) (ay H x) rJ rK (aE w1 h1 w1 h2 w1 h3 w2 h4 aS) (by rw [lU,h1,h2,h3,h4] <;> rfl)
    |false=>
     obtain ⟨_,H1,c1,bN,y1,eD⟩:=iL (WU x X hx a hz (y.news [.cells (eC x.f) 68 false]))
     rcases eD with ⟨rfl,ei⟩ |⟨rfl,ei⟩
     ·exact bA y (DE x H [.call (.bool true) H1 [],au 1]) (.bool false) H1 rJ rK (aE w1 h1 w1 h2 w1 h3 w2 h4<|cU w2 c1 aS) (by rw [lU,h1,h2,h3,h4,ei] <;> rfl)
     ·exact bA y (DE x H [.call (.bool false) H1 [],au 1]) (.bool true) H1 rJ rK (aE w1 h1 w1 h2 w1 h3 w2 h4<|cU w2 c1 aS) (by rw [lU,h1,h2,h3,h4,ei] <;> rfl)
theorem GF:E.func 32=some Tryz.f32:=ah
theorem GG:bO Tryz.f32 1=true:=ah
noncomputable abbrev xp (x:Xp) (H:Hp) (l_:List Hint):=au 3::vl (uU x.f.v) (ay H x)::au 0::aI::au 2::vl (uU x.f.v) (ay H x)::.call (uU (Cq x.f.v)) (ay H x) []::au 1::vl (uU x.f.v) (ay H x)::l_
theorem V0 (x:Xp) (X:Hp) (hx:Gd E G X) (a:At X x) (hz:Sz x) {H:Hp} (y:Gd E X H):aD E X 32 [.agg (eC x.f).toArray] H [] (fun v H'=>v=.bool (Ll x)):=by
 have w1:aq E 22 (H.n+0) 2 (ay H x)=some (uU x.f.v):=cI qH rfl rfl
 cases h1:((Int.fdiv x.f.v (2 ^ 63))==0) with
 |true=>
  cases h2:((Cq x.f.v)==x.f.v) with
  |true=>
   cases h3:(x.f.v != 9218868437227405314) with
   |true=>
    exact bA y (xp x H [aI,au 3,vl (uU x.f.v) (ay H x),aI,au 1]) (.bool true) (ay H x) GF GG (aE ag ag ag w1 ag ag h1 ag<|aE ag ag ag w1 ag (show CC E 54 [uU x.f.v] (ay H x) (.ret (uU (Cq x.f.v))) (ay H x) [] from Cr x.f.v (qA hx (y.news [.cells (eC x.f) 68 false]))) ag ag<|aE ag w1 ag h2 ag ag ag ag<|fk ag w1 ag h3 ag ag ag aS) (by rw [Ll,h1,h2,h3] <;> rfl)
   |false=>
    exact bA y (xp x H [aI,au 3,vl (uU x.f.v) (ay H x),aF,au 1]) (.bool false) (ay H x) GF GG (aE ag ag ag w1 ag ag h1 ag<|aE ag ag ag w1 ag (show CC E 54 [uU x.f.v] (ay H x) (.ret (uU (Cq x.f.v))) (ay H x) [] from Cr x.f.v (qA hx (y.news [.cells (eC x.f) 68 false]))) ag ag<|aE ag w1 ag h2 ag ag ag ag<|fk ag w1 ag h3 ag ag ag aS) (by rw [Ll,h1,h2,h3] <;> rfl)
  |false=>
   exact bA y (xp x H [aF,au 3]) (.bool false) (ay H x) GF GG (aE ag ag ag w1 ag ag h1 ag<|aE ag ag ag w1 ag (show CC E 54 [uU x.f.v] (ay H x) (.ret (uU (Cq x.f.v))) (ay H x) [] from Cr x.f.v (qA hx (y.news [.cells (eC x.f) 68 false]))) ag ag<|aE ag w1 ag h2 ag ag ag ag<|cF ag aS) (by rw [Ll,h1,h2] <;> rfl)
 |false=>
  exact bA y [au 3,vl (uU x.f.v) (ay H x),au 0,aF,au 4] (.bool false) (ay H x) GF GG (aE ag ag ag w1 ag ag h1 ag<|eM ag ag ag ag ag aS) (by rw [Ll,h1] <;> rfl)
theorem Qv:E.func 33=some Tryz.f33:=ah
theorem Qw:bO Tryz.f33 1=true:=ah
theorem Sm (x:Xp) (X:Hp) (hx:Gd E G X) (a:At X x) (hz:Sz x) {H:Hp} (y:Gd E X H):aD E X 33 [.agg (eC x.f).toArray] H [] (fun v H'=>v=.bool (JP x)):=by
 have w1:aq E 9 (H.n+0) 3 (ay H x)=some (.string x.f.s):=cI bB rfl rfl
 cases h1:(Le (1,⟨#[97]⟩,x.f.s)) with
 |true=>
  exact bA y [au 3,vl (.string x.f.s) (ay H x),au 0,.call (.bool true) (ay H x) [],au 0] (.bool true) (ay H x) Qv Qw (cU w1 (show CC E 55 [.agg #[iI 1,.string ⟨#[97]⟩,.string x.f.s]] (ay H x) (.ret (.bool true)) (ay H x) [] from BD h1 (Bg (1,⟨#[97]⟩,x.f.s) (show ((1:Nat):Int)<100000 by decide) (qA hx (y.news [.cells (eC x.f) 68 false])))) aS) (by rw [JP,h1] <;> rfl)
 |false=>
  exact bA y [au 3,vl (.string x.f.s) (ay H x),au 0,.call (.bool false) (ay H x) [],au 0] (.bool false) (ay H x) Qv Qw (cU w1 (show CC E 55 [.agg #[iI 1,.string ⟨#[97]⟩,.string x.f.s]] (ay H x) (.ret (.bool false)) (ay H x) [] from BD h1 (Bg (1,⟨#[97]⟩,x.f.s) (show ((1:Nat):Int)<100000 by decide) (qA hx (y.news [.cells (eC x.f) 68 false])))) aS) (by rw [JP,h1] <;> rfl)
theorem eS:E.func 34=some Tryz.f34:=ah
theorem eT:bO Tryz.f34 1=true:=ah
noncomputable abbrev DH (x:Xp) (H:Hp) (l_:List Hint):=au 3::vl (.string x.f.s) (ay H x)::aI::au 2::vl (.string x.f.s) (ay H x)::l_
noncomputable abbrev xq (x:Xp) (H:Hp) (l_:List Hint):=au 3::vl (.string x.f.s) (ay H x)::aF::au 4::vl (.slice x.f.pm x.f.nm x.f.cm) (ay H x)::au 0::l_
noncomputable abbrev xu (x:Xp) (H:Hp) (l_:List Hint):=DH x H (.call (.bool true) (ay H x) []::au 4::vl (.slice x.f.pm x.f.nm x.f.cm) (ay H x)::au 0::l_)
noncomputable abbrev uh (x:Xp) (H:Hp) (l_:List Hint):=xq x H (aF::au 3::vl (iI x.f.wide) (ay H x)::aF::au 3::vl (iI x.f.wide) (ay H x)::l_)
noncomputable abbrev uj (x:Xp) (H:Hp) (l_:List Hint):=xu x H (aF::au 3::vl (iI x.f.wide) (ay H x)::aF::au 3::vl (iI x.f.wide) (ay H x)::l_)
noncomputable abbrev uk (x:Xp) (H:Hp) (l_:List Hint):=uh x H (aF::au 3::vl (iI x.f.off) (ay H x)::aF::au 3::vl (iI x.f.off) (ay H x)::l_)
noncomputable abbrev um (x:Xp) (H:Hp) (l_:List Hint):=uj x H (aF::au 3::vl (iI x.f.off) (ay H x)::aF::au 3::vl (iI x.f.off) (ay H x)::l_)
noncomputable abbrev p9 (x:Xp) (H:Hp) (l_:List Hint):=uk x H (aF::au 2::vl (iI x.f.at_) (ay H x)::au 0::aF::au 2::vl (iI x.f.at_) (ay H x)::l_)
noncomputable abbrev qa (x:Xp) (H:Hp) (l_:List Hint):=um x H (aF::au 2::vl (iI x.f.at_) (ay H x)::au 0::aF::au 2::vl (iI x.f.at_) (ay H x)::l_)
noncomputable abbrev As (x:Xp) (H:Hp) (l_:List Hint):=p9 x H (aF::au 3::vl (iI x.f.at_) (ay H x)::aF::au 3::vl (.bool true) (ay H x)::au 5::vl (.slice x.f.pm x.f.nm x.f.cm) (ay H x)::l_)
noncomputable abbrev Au (x:Xp) (H:Hp) (l_:List Hint):=p9 x H (aF::au 3::vl (iI x.f.at_) (ay H x)::aF::au 3::vl (.bool false) (ay H x)::au 3::vl (iI x.f.at_) (ay H x)::l_)
noncomputable abbrev Av (x:Xp) (H:Hp) (l_:List Hint):=qa x H (aF::au 3::vl (iI x.f.at_) (ay H x)::aF::au 3::vl (.bool true) (ay H x)::au 5::vl (.slice x.f.pm x.f.nm x.f.cm) (ay H x)::l_)
noncomputable abbrev Aw (x:Xp) (H:Hp) (l_:List Hint):=qa x H (aF::au 3::vl (iI x.f.at_) (ay H x)::aF::au 3::vl (.bool false) (ay H x)::au 3::vl (iI x.f.at_) (ay H x)::l_)
noncomputable abbrev Ax (x:Xp) (H:Hp) (l_:List Hint):=Au x H (aF::au 3::vl (.slice x.f.pm x.f.nm x.f.cm) (ay H x)::l_)
noncomputable abbrev Ay (x:Xp) (H:Hp) (l_:List Hint):=Aw x H (aF::au 3::vl (.slice x.f.pm x.f.nm x.f.cm) (ay H x)::l_)
theorem Sl (x:Xp) (X:Hp) (hx:Gd E G X) (a:At X x) (hz:Sz x) {H:Hp} (y:Gd E X H):aD E X 34 [.agg (eC x.f).toArray] H [] (fun v H'=>v=.bool (gy x)):=by
 have w1:aq E 9 (H.n+0) 3 (ay H x)=some (.string x.f.s):=cI bB rfl rfl
 cases h1:(!(x.f.s.toList==(⟨#[]⟩:ByteArray).toList)) with
 |true=>
  cases h2:(IQ x.f.s) with
  |true=>
   have w2:aq E 23 (H.n+0) 4 (ay H x)=some (.slice x.f.pm x.f.nm x.f.cm):=cI oo rfl rfl
   cases h3:(decide (((x.f.nm:Nat):Int)>10)) with
   |true=>
    exact bA y (xu x H [aI,au 9]) (.bool false) (ay H x) eS eT (fG w1 h1 w1 (show CC E 56 [.string x.f.s] (ay H x) (.ret (.bool true)) (ay H x) [] from BD h2 (fe x.f.s (qA hx (y.news [.cells (eC x.f) 68 false])))) w2 h3 aS) (by rw [gy,h1,h2,h3] <;> rfl)
   |false=>
    have w3:aq E 2 (H.n+0) 5 (ay H x)=some (iI x.f.wide):=cI jy rfl rfl
    cases h4:(decide (x.f.wide<0)) with
    |true=>
     exact bA y (xu x H [aF,au 3,vl (iI x.f.wide) (ay H x),aI,au 7]) (.bool false) (ay H x) eS eT (aE w1 h1 w1 (show CC E 56 [.string x.f.s] (ay H x) (.ret (.bool true)) (ay H x) [] from BD h2 (fe x.f.s (qA hx (y.news [.cells (eC x.f) 68 false])))) w2 h3 w3 h4 aS) (by rw [gy,h1,h2,h3,h4] <;> rfl)
    |false=>
     cases h5:(decide (x.f.wide>35184372088832)) with
     |true=>
      exact bA y (uj x H [aI,au 5]) (.bool false) (ay H x) eS eT (aE w1 h1 w1 (show CC E 56 [.string x.f.s] (ay H x) (.ret (.bool true)) (ay H x) [] from BD h2 (fe x.f.s (qA hx (y.news [.cells (eC x.f) 68 false])))) w2 h3 w3 h4<|cU w3 h5 aS) (by rw [gy,h1,h2,h3,h4,h5] <;> rfl)
     |false=>
      have w4:aq E 2 (H.n+0) 6 (ay H x)=some (iI x.f.off):=cI jy rfl rfl
      cases h6:(decide (x.f.off<(-35184372088832))) with
      |true=>
       exact bA y (uj x H [aF,au 3,vl (iI x.f.off) (ay H x),aI,au 3]) (.bool false) (ay H x) eS eT (aE w1 h1 w1 (show CC E 56 [.string x.f.s] (ay H x) (.ret (.bool true)) (ay H x) [] from BD h2 (fe x.f.s (qA hx (y.news [.cells (eC x.f) 68 false])))) w2 h3 w3 h4<|gm w3 h5 w4 h6 aS) (by rw [gy,h1,h2,h3,h4,h5,h6] <;> rfl)
      |false=>
       cases h7:(decide (x.f.off>35184372088832)) with
       |true=>
        exact bA y (um x H [aI,au 1]) (.bool false) (ay H x) eS eT (aE w1 h1 w1 (show CC E 56 [.string x.f.s] (ay H x) (.ret (.bool true)) (ay H x) [] from BD h2 (fe x.f.s (qA hx (y.news [.cells (eC x.f) 68 false])))) w2 h3 w3 h4<|fG w3 h5 w4 h6 w4 h7 aS) (by rw [gy,h1,h2,h3,h4,h5,h6,h7] <;> rfl)
       |false=>
        have w5:aq E 2 (H.n+0) 8 (ay H x)=some (iI x.f.at_):=cI jy rfl rfl
        cases h8:((Int.tmod x.f.at_ 1000) != 0) with
        |true=>
         exact bA y (um x H [aF,au 2,vl (iI x.f.at_) (ay H x),au 0,aI,au 6]) (.bool false) (ay H x) eS eT (aE w1 h1 w1 (show CC E 56 [.string x.f.s] (ay H x) (.ret (.bool true)) (ay H x) [] from BD h2 (fe x.f.s (qA hx (y.news [.cells (eC x.f) 68 false])))) w2 h3 w3 h4<|aE w3 h5 w4 h6 w4 h7 w5 h8 aS) (by rw [gy,h1,h2,h3,h4,h5,h6,h7,h8] <;> rfl)
        |false=>
         cases h9:(decide (x.f.at_<(-1125899906842624))) with
         |true=>
          exact bA y (qa x H [aI,au 5]) (.bool false) (ay H x) eS eT (aE w1 h1 w1 (show CC E 56 [.string x.f.s] (ay H x) (.ret (.bool true)) (ay H x) [] from BD h2 (fe x.f.s (qA hx (y.news [.cells (eC x.f) 68 false])))) w2 h3 w3 h4<|aE w3 h5 w4 h6 w4 h7 w5 h8<|cU w5 h9 aS) (by rw [gy,h1,h2,h3,h4,h5,h6,h7,h8,h9] <;> rfl)
         |false=>
          cases h10:(decide (x.f.at_>1125899906842624)) with
          |true=>
           exact bA y (qa x H [aF,au 3,vl (iI x.f.at_) (ay H x),aI,au 3]) (.bool false) (ay H x) eS eT (aE w1 h1 w1 (show CC E 56 [.string x.f.s] (ay H x) (.ret (.bool true)) (ay H x) [] from BD h2 (fe x.f.s (qA hx (y.news [.cells (eC x.f) 68 false])))) w2 h3 w3 h4<|aE w3 h5 w4 h6 w4 h7 w5 h8<|gm w5 h9 w5 h10 aS) (by rw [gy,h1,h2,h3,h4,h5,h6,h7,h8,h9,h10] <;> rfl)
          |false=>
           have w6:aq E 4 (H.n+0) 7 (ay H x)=some (.bool x.f.ha):=cI kY rfl rfl
           cases h11:(x.f.ha) with
           |true=>
            obtain ⟨_,H1,c1,bN,y1,eD⟩:=iL (Nd x X hx a hz (y.news [.cells (eC x.f) 68 false]))
            rcases eD with ⟨rfl,ei⟩ |⟨rfl,ei⟩
            ·exact bA y (Av x H [.call (.bool true) H1 [],au 1]) (.bool false) H1 eS eT (aE w1 h1 w1 (show CC E 56 [.string x.f.s] (ay H x) (.ret (.bool true)) (ay H x) [] from BD h2 (fe x.f.s (qA hx (y.news [.cells (eC x.f) 68 false])))) w2 h3 w3 h4<|aE w3 h5 w4 h6 w4 h7 w5 h8<|fk w5 h9 w5 h10 (w6.trans (congrArg (fun q=>some (Value.bool q)) h11)) w2 c1 aS) (by rw [gy,h1,h2,h3,h4,h5,h6,h7,h8,h9,h10,h11,ei] <;> rfl)
            ·exact bA y (Av x H [.call (.bool false) H1 [],au 1]) (.bool true) H1 eS eT (aE w1 h1 w1 (show CC E 56 [.string x.f.s] (ay H x) (.ret (.bool true)) (ay H x) [] from BD h2 (fe x.f.s (qA hx (y.news [.cells (eC x.f) 68 false])))) w2 h3 w3 h4<|aE w3 h5 w4 h6 w4 h7 w5 h8<|fk w5 h9 w5 h10 (w6.trans (congrArg (fun q=>some (Value.bool q)) h11)) w2 c1 aS) (by rw [gy,h1,h2,h3,h4,h5,h6,h7,h8,h9,h10,h11,ei] <;> rfl)
           |false=>
            cases h12:(x.f.at_ != 0) with
            |true=>
             exact bA y (Aw x H [aI,au 2]) (.bool false) (ay H x) eS eT (aE w1 h1 w1 (show CC E 56 [.string x.f.s] (ay H x) (.ret (.bool true)) (ay H x) [] from BD h2 (fe x.f.s (qA hx (y.news [.cells (eC x.f) 68 false])))) w2 h3 w3 h4<|aE w3 h5 w4 h6 w4 h7 w5 h8<|fk w5 h9 w5 h10 (w6.trans (congrArg (fun q=>some (Value.bool q)) h11)) w5 h12 aS) (by rw [gy,h1,h2,h3,h4,h5,h6,h7,h8,h9,h10,h11,h12] <;> rfl)
            |false=>
             obtain ⟨_,H1,c1,bN,y1,eD⟩:=iL (Nd x X hx a hz (y.news [.cells (eC x.f) 68 false]))
             rcases eD with ⟨rfl,ei⟩ |⟨rfl,ei⟩
             ·exact bA y (Ay x H [.call (.bool true) H1 [],au 1]) (.bool false) H1 eS eT (aE w1 h1 w1 (show CC E 56 [.string x.f.s] (ay H x) (.ret (.bool true)) (ay H x) [] from BD h2 (fe x.f.s (qA hx (y.news [.cells (eC x.f) 68 false])))) w2 h3 w3 h4<|aE w3 h5 w4 h6 w4 h7 w5 h8<|aE w5 h9 w5 h10 (w6.trans (congrArg (fun q=>some (Value.bool q)) h11)) w5 h12 w2<|cF c1 aS) (by rw [gy,h1,h2,h3,h4,h5,h6,h7,h8,h9,h10,h11,h12,ei] <;> rfl)
             ·exact bA y (Ay x H [.call (.bool false) H1 [],au 1]) (.bool true) H1 eS eT (aE w1 h1 w1 (show CC E 56 [.string x.f.s] (ay H x) (.ret (.bool true)) (ay H x) [] from BD h2 (fe x.f.s (qA hx (y.news [.cells (eC x.f) 68 false])))) w2 h3 w3 h4<|aE w3 h5 w4 h6 w4 h7 w5 h8<|aE w5 h9 w5 h10 (w6.trans (congrArg (fun q=>some (Value.bool q)) h11)) w5 h12 w2<|cF c1 aS) (by rw [gy,h1,h2,h3,h4,h5,h6,h7,h8,h9,h10,h11,h12,ei] <;> rfl)
  |false=>
   exact bA y (DH x H [.call (.bool false) (ay H x) [],au 12]) (.bool false) (ay H x) eS eT (gm w1 h1 w1 (show CC E 56 [.string x.f.s] (ay H x) (.ret (.bool false)) (ay H x) [] from BD h2 (fe x.f.s (qA hx (y.news [.cells (eC x.f) 68 false])))) aS) (by rw [gy,h1,h2] <;> rfl)
 |false=>
  have w2:aq E 23 (H.n+0) 4 (ay H x)=some (.slice x.f.pm x.f.nm x.f.cm):=cI oo rfl rfl
  cases h2:(decide (((x.f.nm:Nat):Int)>10)) with
  |true=>
   exact bA y (xq x H [aI,au 9]) (.bool false) (ay H x) eS eT (gm w1 h1 w2 h2 aS) (by rw [gy,h1,h2] <;> rfl)
  |false=>
   have w3:aq E 2 (H.n+0) 5 (ay H x)=some (iI x.f.wide):=cI jy rfl rfl
   cases h3:(decide (x.f.wide<0)) with
   |true=>
    exact bA y (xq x H [aF,au 3,vl (iI x.f.wide) (ay H x),aI,au 7]) (.bool false) (ay H x) eS eT (fG w1 h1 w2 h2 w3 h3 aS) (by rw [gy,h1,h2,h3] <;> rfl)
   |false=>
    cases h4:(decide (x.f.wide>35184372088832)) with
    |true=>
     exact bA y (uh x H [aI,au 5]) (.bool false) (ay H x) eS eT (aE w1 h1 w2 h2 w3 h3 w3 h4 aS) (by rw [gy,h1,h2,h3,h4] <;> rfl)
    |false=>
     have w4:aq E 2 (H.n+0) 6 (ay H x)=some (iI x.f.off):=cI jy rfl rfl
     cases h5:(decide (x.f.off<(-35184372088832))) with
     |true=>
      exact bA y (uh x H [aF,au 3,vl (iI x.f.off) (ay H x),aI,au 3]) (.bool false) (ay H x) eS eT (aE w1 h1 w2 h2 w3 h3 w3 h4<|cU w4 h5 aS) (by rw [gy,h1,h2,h3,h4,h5] <;> rfl)
     |false=>
      cases h6:(decide (x.f.off>35184372088832)) with
      |true=>
       exact bA y (uk x H [aI,au 1]) (.bool false) (ay H x) eS eT (aE w1 h1 w2 h2 w3 h3 w3 h4<|gm w4 h5 w4 h6 aS) (by rw [gy,h1,h2,h3,h4,h5,h6] <;> rfl)
      |false=>
       have w5:aq E 2 (H.n+0) 8 (ay H x)=some (iI x.f.at_):=cI jy rfl rfl
       cases h7:((Int.tmod x.f.at_ 1000) != 0) with
       |true=>
        exact bA y (uk x H [aF,au 2,vl (iI x.f.at_) (ay H x),au 0,aI,au 6]) (.bool false) (ay H x) eS eT (aE w1 h1 w2 h2 w3 h3 w3 h4<|fG w4 h5 w4 h6 w5 h7 aS) (by rw [gy,h1,h2,h3,h4,h5,h6,h7] <;> rfl)
       |false=>
        cases h8:(decide (x.f.at_<(-1125899906842624))) with
        |true=>
         exact bA y (p9 x H [aI,au 5]) (.bool false) (ay H x) eS eT (aE w1 h1 w2 h2 w3 h3 w3 h4<|aE w4 h5 w4 h6 w5 h7 w5 h8 aS) (by rw [gy,h1,h2,h3,h4,h5,h6,h7,h8] <;> rfl)
        |false=>
         cases h9:(decide (x.f.at_>1125899906842624)) with
         |true=>
          exact bA y (p9 x H [aF,au 3,vl (iI x.f.at_) (ay H x),aI,au 3]) (.bool false) (ay H x) eS eT (aE w1 h1 w2 h2 w3 h3 w3 h4<|aE w4 h5 w4 h6 w5 h7 w5 h8<|cU w5 h9 aS) (by rw [gy,h1,h2,h3,h4,h5,h6,h7,h8,h9] <;> rfl)
         |false=>
          have w6:aq E 4 (H.n+0) 7 (ay H x)=some (.bool x.f.ha):=cI kY rfl rfl
          cases h10:(x.f.ha) with
          |true=>
           obtain ⟨_,H1,c1,bN,y1,eD⟩:=iL (Nd x X hx a hz (y.news [.cells (eC x.f) 68 false]))
           rcases eD with ⟨rfl,ei⟩ |⟨rfl,ei⟩
           ·exact bA y (As x H [.call (.bool true) H1 [],au 1]) (.bool false) H1 eS eT (aE w1 h1 w2 h2 w3 h3 w3 h4<|aE w4 h5 w4 h6 w5 h7 w5 h8<|eM w5 h9 (w6.trans (congrArg (fun q=>some (Value.bool q)) h10)) w2 c1 aS) (by rw [gy,h1,h2,h3,h4,h5,h6,h7,h8,h9,h10,ei] <;> rfl)
           ·exact bA y (As x H [.call (.bool false) H1 [],au 1]) (.bool true) H1 eS eT (aE w1 h1 w2 h2 w3 h3 w3 h4<|aE w4 h5 w4 h6 w5 h7 w5 h8<|eM w5 h9 (w6.trans (congrArg (fun q=>some (Value.bool q)) h10)) w2 c1 aS) (by rw [gy,h1,h2,h3,h4,h5,h6,h7,h8,h9,h10,ei] <;> rfl)
          |false=>
           cases h11:(x.f.at_ != 0) with
           |true=>
            exact bA y (Au x H [aI,au 2]) (.bool false) (ay H x) eS eT (aE w1 h1 w2 h2 w3 h3 w3 h4<|aE w4 h5 w4 h6 w5 h7 w5 h8<|eM w5 h9 (w6.trans (congrArg (fun q=>some (Value.bool q)) h10)) w5 h11 aS) (by rw [gy,h1,h2,h3,h4,h5,h6,h7,h8,h9,h10,h11] <;> rfl)
           |false=>
            obtain ⟨_,H1,c1,bN,y1,eD⟩:=iL (Nd x X hx a hz (y.news [.cells (eC x.f) 68 false]))
            rcases eD with ⟨rfl,ei⟩ |⟨rfl,ei⟩
            ·exact bA y (Ax x H [.call (.bool true) H1 [],au 1]) (.bool false) H1 eS eT (aE w1 h1 w2 h2 w3 h3 w3 h4<|aE w4 h5 w4 h6 w5 h7 w5 h8<|fk w5 h9 (w6.trans (congrArg (fun q=>some (Value.bool q)) h10)) w5 h11 w2 c1 aS) (by rw [gy,h1,h2,h3,h4,h5,h6,h7,h8,h9,h10,h11,ei] <;> rfl)
            ·exact bA y (Ax x H [.call (.bool false) H1 [],au 1]) (.bool true) H1 eS eT (aE w1 h1 w2 h2 w3 h3 w3 h4<|aE w4 h5 w4 h6 w5 h7 w5 h8<|fk w5 h9 (w6.trans (congrArg (fun q=>some (Value.bool q)) h10)) w5 h11 w2 c1 aS) (by rw [gy,h1,h2,h3,h4,h5,h6,h7,h8,h9,h10,h11,ei] <;> rfl)
theorem Ky:E.func 35=some Tryz.f35:=ah
theorem Kz:bO Tryz.f35 1=true:=ah
noncomputable abbrev Az (x:Xp) (H:Hp) (l_:List Hint):=au 3::vl (.string x.f.s) (ay H x)::.call (.bool true) (ay H x) []::au 2::vl (.slice x.f.pk x.f.nk x.f.ck) (ay H x)::au 0::l_
theorem Si (x:Xp) (X:Hp) (hx:Gd E G X) (a:At X x) (hz:Sz x) {H:Hp} (y:Gd E X H):aD E X 35 [.agg (eC x.f).toArray] H [] (fun v H'=>v=.bool (Fc x)):=by
 have w1:aq E 9 (H.n+0) 3 (ay H x)=some (.string x.f.s):=cI bB rfl rfl
 cases h1:(IQ x.f.s) with
 |true=>
  have w2:aq E 25 (H.n+0) 12 (ay H x)=some (.slice x.f.pk x.f.nk x.f.ck):=cI di rfl rfl
  cases h2:(decide (((x.f.nk:Nat):Int)≤4)) with
  |true=>
   exact bA y (Az x H [aI,au 1]) (.bool true) (ay H x) Ky Kz (gm w1 (show CC E 56 [.string x.f.s] (ay H x) (.ret (.bool true)) (ay H x) [] from BD h1 (fe x.f.s (qA hx (y.news [.cells (eC x.f) 68 false])))) w2 h2 aS) (by rw [Fc,h1,h2] <;> rfl)
  |false=>
   exact bA y (Az x H [aF,au 1]) (.bool false) (ay H x) Ky Kz (gm w1 (show CC E 56 [.string x.f.s] (ay H x) (.ret (.bool true)) (ay H x) [] from BD h1 (fe x.f.s (qA hx (y.news [.cells (eC x.f) 68 false])))) w2 h2 aS) (by rw [Fc,h1,h2] <;> rfl)
 |false=>
  exact bA y [au 3,vl (.string x.f.s) (ay H x),.call (.bool false) (ay H x) [],au 2] (.bool false) (ay H x) Ky Kz (cU w1 (show CC E 56 [.string x.f.s] (ay H x) (.ret (.bool false)) (ay H x) [] from BD h1 (fe x.f.s (qA hx (y.news [.cells (eC x.f) 68 false])))) aS) (by rw [Fc,h1] <;> rfl)
theorem GH:E.func 36=some Tryz.f36:=ah
theorem GI:bO Tryz.f36 1=true:=ah
noncomputable abbrev uo gq (H1:Hp) (x:Xp) (H2:Hp) (l_:List Hint):=au 1::.call (sc gq 0 7 15) H1 []::au 1::vl (.string x.f.s) H1::.call (.bool true) H2 []::au 0::vl (.agg (eC x.f).toArray) H2::l_
theorem OK (x:Xp) (X:Hp) (hx:Gd E G X) (a:At X x) (hz:Sz x) {H:Hp} (y:Gd E X H):aD E X 36 [.agg (eC x.f).toArray] H [] (fun v H'=>v=.bool (vZ x)):=by
 obtain ⟨_,H1,c1,bN,y1,gq,rfl,hgq,kgq⟩:=yL (y.news [.cells (eC x.f) 68 false]) (Nc (qA hx (y.news [.cells (eC x.f) 68 false])))
 have bz:=(y.news [.cells (eC x.f) 68 false]).kept bN aH (aB [.cells (eC x.f) 68 false] H 0 _ rfl)
 have w1:aq E 9 (H.n+0) 3 H1=some (.string x.f.s):=bQ bB bz rfl
 obtain ⟨_,H2,c2,dc,y2,oP⟩:=iL (yL y1 (U4 gq (Bt iw) 15 x.f.s (qA hx y1) kgq (by decide)))
 rcases oP with ⟨rfl,ig⟩ |⟨rfl,ig⟩
 ·have bI:=y1.kept dc aH bz
  have w2:aq E 68 (H.n+0) 0 H2=some (.agg (eC x.f).toArray):=o7 jj ct bI rfl rfl
  obtain ⟨_,H3,c3,gB,y3,AU⟩:=iL (FC x X hx a hz y2)
  rcases AU with ⟨rfl,tg⟩ |⟨rfl,tg⟩
  ·have ep:=y2.kept gB aH bI
   have w3:aq E 25 (H.n+0) 12 H3=some (.slice x.f.pk x.f.nk x.f.ck):=bQ di ep rfl
   cases h3:(decide (((x.f.nk:Nat):Int)≤4)) with
   |true=>
    exact bA y (uo gq H1 x H2 [.call (.bool true) H3 [],au 3,vl (.slice x.f.pk x.f.nk x.f.ck) H3,au 0,aI,au 1]) (.bool true) H3 GH GI (aE ag c1 ag ag ag w1 ag c2<|aE ag ag w2 ag c3 ag ag ag<|aE ag ag w3 ag ag h3 ag ag<|cF ag aS) (by rw [vZ,ig,tg,h3] <;> rfl)
   |false=>
    exact bA y (uo gq H1 x H2 [.call (.bool true) H3 [],au 3,vl (.slice x.f.pk x.f.nk x.f.ck) H3,au 0,aF,au 1]) (.bool false) H3 GH GI (aE ag c1 ag ag ag w1 ag c2<|aE ag ag w2 ag c3 ag ag ag<|aE ag ag w3 ag ag h3 ag ag<|cF ag aS) (by rw [vZ,ig,tg,h3] <;> rfl)
  ·exact bA y (uo gq H1 x H2 [.call (.bool false) H3 [],au 3]) (.bool false) H3 GH GI (aE ag c1 ag ag ag w1 ag c2<|aE ag ag w2 ag c3 ag ag ag<|cU ag ag aS) (by rw [vZ,ig,tg] <;> rfl)
 ·exact bA y [au 1,.call (sc gq 0 7 15) H1 [],au 1,vl (.string x.f.s) H1,.call (.bool false) H2 [],au 4] (.bool false) H2 GH GI (aE ag c1 ag ag ag w1 ag c2<|fG ag ag ag ag ag ag aS) (by rw [vZ,ig] <;> rfl)
theorem BS:E.func 37=some Tryz.f37:=ah
theorem BT:bO Tryz.f37 1=true:=ah
noncomputable abbrev uq (x:Xp) (H:Hp) (l_:List Hint):=au 3::vl (iI x.f.op) (ay H x)::aI::au 2::vl (iI x.f.op) (ay H x)::aI::au 1::vl (.agg (eC x.f).toArray) (ay H x)::l_
theorem Sk (x:Xp) (X:Hp) (hx:Gd E G X) (a:At X x) (hz:Sz x) {H:Hp} (y:Gd E X H):aD E X 37 [.agg (eC x.f).toArray] H [] (fun v H'=>v=.bool (vK x)):=by
 have w1:aq E 3 (H.n+0) 1 (ay H x)=some (iI x.f.op):=cI aR rfl rfl
 cases h1:(decide (x.f.op≥1)) with
 |true=>
  cases h2:(decide (x.f.op≤11)) with
  |true=>
   have w2:aq E 68 (H.n+0) 0 (ay H x)=some (.agg (eC x.f).toArray):=fQ jj ct rfl rfl rfl
   obtain ⟨_,H1,c1,bN,y1,eD⟩:=iL (FC x X hx a hz (y.news [.cells (eC x.f) 68 false]))
   rcases eD with ⟨rfl,ei⟩ |⟨rfl,ei⟩
   ·have bz:=(y.news [.cells (eC x.f) 68 false]).kept bN aH (aB [.cells (eC x.f) 68 false] H 0 _ rfl)
    have w3:aq E 25 (H.n+0) 12 H1=some (.slice x.f.pk x.f.nk x.f.ck):=bQ di bz rfl
    cases h4:(((x.f.nk:Nat):Int)==2) with
    |true=>
     exact bA y (uq x H [.call (.bool true) H1 [],au 3,vl (.slice x.f.pk x.f.nk x.f.ck) H1,au 0,aI,au 1]) (.bool true) H1 BS BT (aE w1 h1 w1 h2 w2 c1 w3 h4 aS) (by rw [vK,h1,h2,ei,h4] <;> rfl)
    |false=>
     exact bA y (uq x H [.call (.bool true) H1 [],au 3,vl (.slice x.f.pk x.f.nk x.f.ck) H1,au 0,aF,au 1]) (.bool false) H1 BS BT (aE w1 h1 w1 h2 w2 c1 w3 h4 aS) (by rw [vK,h1,h2,ei,h4] <;> rfl)
   ·exact bA y (uq x H [.call (.bool false) H1 [],au 3]) (.bool false) H1 BS BT (fG w1 h1 w1 h2 w2 c1 aS) (by rw [vK,h1,h2,ei] <;> rfl)
  |false=>
   exact bA y [au 3,vl (iI x.f.op) (ay H x),aI,au 2,vl (iI x.f.op) (ay H x),aF,au 5] (.bool false) (ay H x) BS BT (gm w1 h1 w1 h2 aS) (by rw [vK,h1,h2] <;> rfl)
 |false=>
  exact bA y [au 3,vl (iI x.f.op) (ay H x),aF,au 6] (.bool false) (ay H x) BS BT (cU w1 h1 aS) (by rw [vK,h1] <;> rfl)
theorem Qx:E.func 38=some Tryz.f38:=ah
theorem Qy:bO Tryz.f38 1=true:=ah
theorem Sj (x:Xp) (X:Hp) (hx:Gd E G X) (a:At X x) (hz:Sz x) {H:Hp} (y:Gd E X H):aD E X 38 [.agg (eC x.f).toArray] H [] (fun v H'=>v=.bool (Fx x)):=by
 have w1:aq E 25 (H.n+0) 12 (ay H x)=some (.slice x.f.pk x.f.nk x.f.ck):=cI di rfl rfl
 cases h1:(((x.f.nk:Nat):Int)==1) with
 |true=>
  exact bA y [au 3,vl (.slice x.f.pk x.f.nk x.f.ck) (ay H x),au 0,aI,au 0] (.bool true) (ay H x) Qx Qy (cU w1 h1 aS) (by rw [Fx,h1] <;> rfl)
 |false=>
  exact bA y [au 3,vl (.slice x.f.pk x.f.nk x.f.ck) (ay H x),au 0,aF,au 0] (.bool false) (ay H x) Qx Qy (cU w1 h1 aS) (by rw [Fx,h1] <;> rfl)
theorem tI:E.func 62=some Tryz.f62:=ah
theorem tJ:bO Tryz.f62 1=true:=ah
noncomputable abbrev iC H f:=news H [.cells (eC f) 68 false,.cells [iI 0,iI 0,uU 0,.string ⟨#[]⟩,.slice none 0 0,iI 0,iI 0,.bool false,iI 0,iI 0,.slice none 0 0,.bool false,.slice none 0 0] 27 false]
noncomputable abbrev bM H f:=news H [.cells (eC f) 68 false,.cells [iI 0,iI 0,uU 0,.string ⟨#[]⟩,.slice none 0 0,iI 0,iI 0,.bool false,iI 0,iI 0,.slice none 0 0,.bool false,.slice none 0 0] 27 false,.cells (eC f) 27 false]
noncomputable abbrev oK H (f:Fe):=news H [.cells (eC f) 68 false,.cells [iI 0,iI 0,uU 0,.string ⟨#[]⟩,.slice none 0 0,iI 0,iI 0,.bool false,iI 0,iI 0,.slice none 0 0,.bool false,.slice none 0 0] 27 false,.cells [iI f.k,iI f.op,uU 0,.string f.s,.slice f.pm f.nm f.cm,iI f.wide,iI f.off,.bool f.ha,iI f.at_,iI f.how,.slice f.pn f.nn f.cn,.bool f.bl,.slice f.pk f.nk f.ck] 27 false]
noncomputable abbrev rZ H (f:Fe):=news H [.cells (eC f) 68 false,.cells [iI f.k,iI f.op,uU 0,.string f.s,.slice f.pm f.nm f.cm,iI f.wide,iI f.off,.bool f.ha,iI f.at_,iI f.how,.slice f.pn f.nn f.cn,.bool f.bl,.slice f.pk f.nk f.ck] 27 false,.cells [iI f.k,iI f.op,uU 0,.string f.s,.slice f.pm f.nm f.cm,iI f.wide,iI f.off,.bool f.ha,iI f.at_,iI f.how,.slice f.pn f.nn f.cn,.bool f.bl,.slice f.pk f.nk f.ck] 27 false]
noncomputable abbrev jn H f:=news H [.cells (eC f) 68 false,.cells [iI 0,iI 0,uU 0,.string ⟨#[]⟩,.slice none 0 0,iI 0,iI 0,.bool false,iI 0,iI 0,.slice none 0 0,.bool false,.slice none 0 0] 27 false,.cells [iI 0,iI 0,uU 0,.string ⟨#[]⟩,.slice none 0 0,iI 0,iI 0,.bool false,iI 0,iI 0,.slice none 0 0,.bool false,.slice none 0 0] 27 false]
noncomputable abbrev ew H (f:Fe):=news H [.cells (eC f) 68 false,.cells [iI 0,iI 0,uU 0,.string ⟨#[]⟩,.slice none 0 0,iI 0,iI 0,.bool false,iI 0,iI 0,.slice none 0 0,.bool false,.slice none 0 0] 27 false,.cells [iI f.k,iI f.op,uU f.v,.string ⟨#[]⟩,.slice f.pm f.nm f.cm,iI f.wide,iI f.off,.bool f.ha,iI f.at_,iI f.how,.slice f.pn f.nn f.cn,.bool f.bl,.slice f.pk f.nk f.ck] 27 false]
noncomputable abbrev r6 H (f:Fe):=news H [.cells (eC f) 68 false,.cells [iI f.k,iI f.op,uU f.v,.string ⟨#[]⟩,.slice f.pm f.nm f.cm,iI f.wide,iI f.off,.bool f.ha,iI f.at_,iI f.how,.slice f.pn f.nn f.cn,.bool f.bl,.slice f.pk f.nk f.ck] 27 false,.cells [iI f.k,iI f.op,uU f.v,.string ⟨#[]⟩,.slice f.pm f.nm f.cm,iI f.wide,iI f.off,.bool f.ha,iI f.at_,iI f.how,.slice f.pn f.nn f.cn,.bool f.bl,.slice f.pk f.nk f.ck] 27 false]
noncomputable abbrev oL H (f:Fe):=news H [.cells (eC f) 68 false,.cells [iI 0,iI 0,uU 0,.string ⟨#[]⟩,.slice none 0 0,iI 0,iI 0,.bool false,iI 0,iI 0,.slice none 0 0,.bool false,.slice none 0 0] 27 false,.cells [iI f.k,iI f.op,uU f.v,.string ⟨#[]⟩,.slice none 0 0,iI 0,iI 0,.bool false,iI 0,iI f.how,.slice f.pn f.nn f.cn,.bool f.bl,.slice f.pk f.nk f.ck] 27 false]
noncomputable abbrev wB H (f:Fe):=news H [.cells (eC f) 68 false,.cells [iI 0,iI 0,uU 0,.string ⟨#[]⟩,.slice none 0 0,iI 0,iI 0,.bool false,iI 0,iI 0,.slice none 0 0,.bool false,.slice none 0 0] 27 false,.cells [iI f.k,iI f.op,uU f.v,.string ⟨#[]⟩,.slice none 0 0,iI f.wide,iI f.off,.bool f.ha,iI f.at_,iI f.how,.slice f.pn f.nn f.cn,.bool f.bl,.slice f.pk f.nk f.ck] 27 false]
noncomputable abbrev tV H (f:Fe):=news H [.cells (eC f) 68 false,.cells [iI 0,iI 0,uU 0,.string ⟨#[]⟩,.slice none 0 0,iI 0,iI 0,.bool false,iI 0,iI 0,.slice none 0 0,.bool false,.slice none 0 0] 27 false,.cells [iI f.k,iI f.op,uU f.v,.string ⟨#[]⟩,.slice none 0 0,iI 0,iI f.off,.bool f.ha,iI f.at_,iI f.how,.slice f.pn f.nn f.cn,.bool f.bl,.slice f.pk f.nk f.ck] 27 false]
noncomputable abbrev tW H (f:Fe):=news H [.cells (eC f) 68 false,.cells [iI 0,iI 0,uU 0,.string ⟨#[]⟩,.slice none 0 0,iI 0,iI 0,.bool false,iI 0,iI 0,.slice none 0 0,.bool false,.slice none 0 0] 27 false,.cells [iI f.k,iI f.op,uU f.v,.string ⟨#[]⟩,.slice none 0 0,iI 0,iI 0,.bool f.ha,iI f.at_,iI f.how,.slice f.pn f.nn f.cn,.bool f.bl,.slice f.pk f.nk f.ck] 27 false]
noncomputable abbrev tX H (f:Fe):=news H [.cells (eC f) 68 false,.cells [iI 0,iI 0,uU 0,.string ⟨#[]⟩,.slice none 0 0,iI 0,iI 0,.bool false,iI 0,iI 0,.slice none 0 0,.bool false,.slice none 0 0] 27 false,.cells [iI f.k,iI f.op,uU f.v,.string ⟨#[]⟩,.slice none 0 0,iI 0,iI 0,.bool false,iI f.at_,iI f.how,.slice f.pn f.nn f.cn,.bool f.bl,.slice f.pk f.nk f.ck] 27 false]
noncomputable abbrev pT H (f:Fe):=news H [.cells (eC f) 68 false,.cells [iI f.k,iI f.op,uU f.v,.string ⟨#[]⟩,.slice none 0 0,iI 0,iI 0,.bool false,iI 0,iI f.how,.slice f.pn f.nn f.cn,.bool f.bl,.slice f.pk f.nk f.ck] 27 false,.cells [iI f.k,iI f.op,uU f.v,.string ⟨#[]⟩,.slice none 0 0,iI 0,iI 0,.bool false,iI 0,iI f.how,.slice f.pn f.nn f.cn,.bool f.bl,.slice f.pk f.nk f.ck] 27 false]
noncomputable abbrev nj H (f:Fe):=news H [.cells (eC f) 68 false,.cells [iI 0,iI 0,uU 0,.string ⟨#[]⟩,.slice none 0 0,iI 0,iI 0,.bool false,iI 0,iI 0,.slice none 0 0,.bool false,.slice none 0 0] 27 false,.cells [iI f.k,iI f.op,uU f.v,.string ⟨#[]⟩,.slice f.pm f.nm f.cm,iI f.wide,iI f.off,.bool f.ha,iI f.at_,iI f.how,.slice f.pn f.nn f.cn,.bool f.bl,.slice none 0 0] 27 false]
noncomputable abbrev pU H (f:Fe):=news H [.cells (eC f) 68 false,.cells [iI f.k,iI f.op,uU f.v,.string ⟨#[]⟩,.slice f.pm f.nm f.cm,iI f.wide,iI f.off,.bool f.ha,iI f.at_,iI f.how,.slice f.pn f.nn f.cn,.bool f.bl,.slice none 0 0] 27 false,.cells [iI f.k,iI f.op,uU f.v,.string ⟨#[]⟩,.slice f.pm f.nm f.cm,iI f.wide,iI f.off,.bool f.ha,iI f.at_,iI f.how,.slice f.pn f.nn f.cn,.bool f.bl,.slice none 0 0] 27 false]
noncomputable abbrev nq H (f:Fe):=news H [.cells (eC f) 68 false,.cells [iI 0,iI 0,uU 0,.string ⟨#[]⟩,.slice none 0 0,iI 0,iI 0,.bool false,iI 0,iI 0,.slice none 0 0,.bool false,.slice none 0 0] 27 false,.cells [iI f.k,iI f.op,uU f.v,.string ⟨#[]⟩,.slice f.pm f.nm f.cm,iI f.wide,iI f.off,.bool f.ha,iI f.at_,iI 0,.slice none 0 0,.bool f.bl,.slice none 0 0] 27 false]
noncomputable abbrev tY H (f:Fe):=news H [.cells (eC f) 68 false,.cells [iI 0,iI 0,uU 0,.string ⟨#[]⟩,.slice none 0 0,iI 0,iI 0,.bool false,iI 0,iI 0,.slice none 0 0,.bool false,.slice none 0 0] 27 false,.cells [iI f.k,iI f.op,uU f.v,.string ⟨#[]⟩,.slice f.pm f.nm f.cm,iI f.wide,iI f.off,.bool f.ha,iI f.at_,iI 0,.slice f.pn f.nn f.cn,.bool f.bl,.slice f.pk f.nk f.ck] 27 false]
noncomputable abbrev tZ H (f:Fe):=news H [.cells (eC f) 68 false,.cells [iI 0,iI 0,uU 0,.string ⟨#[]⟩,.slice none 0 0,iI 0,iI 0,.bool false,iI 0,iI 0,.slice none 0 0,.bool false,.slice none 0 0] 27 false,.cells [iI f.k,iI f.op,uU f.v,.string ⟨#[]⟩,.slice f.pm f.nm f.cm,iI f.wide,iI f.off,.bool f.ha,iI f.at_,iI 0,.slice none 0 0,.bool f.bl,.slice f.pk f.nk f.ck] 27 false]
noncomputable abbrev pV H (f:Fe):=news H [.cells (eC f) 68 false,.cells [iI f.k,iI f.op,uU f.v,.string ⟨#[]⟩,.slice f.pm f.nm f.cm,iI f.wide,iI f.off,.bool f.ha,iI f.at_,iI 0,.slice none 0 0,.bool f.bl,.slice none 0 0] 27 false,.cells [iI f.k,iI f.op,uU f.v,.string ⟨#[]⟩,.slice f.pm f.nm f.cm,iI f.wide,iI f.off,.bool f.ha,iI f.at_,iI 0,.slice none 0 0,.bool f.bl,.slice none 0 0] 27 false]
noncomputable abbrev nu H (f:Fe):=news H [.cells (eC f) 68 false,.cells [iI 0,iI 0,uU 0,.string ⟨#[]⟩,.slice none 0 0,iI 0,iI 0,.bool false,iI 0,iI 0,.slice none 0 0,.bool false,.slice none 0 0] 27 false,.cells [iI f.k,iI 0,uU f.v,.string f.s,.slice f.pm f.nm f.cm,iI f.wide,iI f.off,.bool f.ha,iI f.at_,iI 0,.slice none 0 0,.bool false,.slice none 0 0] 27 false]
noncomputable abbrev ua H (f:Fe):=news H [.cells (eC f) 68 false,.cells [iI 0,iI 0,uU 0,.string ⟨#[]⟩,.slice none 0 0,iI 0,iI 0,.bool false,iI 0,iI 0,.slice none 0 0,.bool false,.slice none 0 0] 27 false,.cells [iI f.k,iI 0,uU f.v,.string f.s,.slice f.pm f.nm f.cm,iI f.wide,iI f.off,.bool f.ha,iI f.at_,iI f.how,.slice f.pn f.nn f.cn,.bool f.bl,.slice f.pk f.nk f.ck] 27 false]
noncomputable abbrev uc H (f:Fe):=news H [.cells (eC f) 68 false,.cells [iI 0,iI 0,uU 0,.string ⟨#[]⟩,.slice none 0 0,iI 0,iI 0,.bool false,iI 0,iI 0,.slice none 0 0,.bool false,.slice none 0 0] 27 false,.cells [iI f.k,iI 0,uU f.v,.string f.s,.slice f.pm f.nm f.cm,iI f.wide,iI f.off,.bool f.ha,iI f.at_,iI f.how,.slice f.pn f.nn f.cn,.bool false,.slice f.pk f.nk f.ck] 27 false]
noncomputable abbrev ud H (f:Fe):=news H [.cells (eC f) 68 false,.cells [iI 0,iI 0,uU 0,.string ⟨#[]⟩,.slice none 0 0,iI 0,iI 0,.bool false,iI 0,iI 0,.slice none 0 0,.bool false,.slice none 0 0] 27 false,.cells [iI f.k,iI 0,uU f.v,.string f.s,.slice f.pm f.nm f.cm,iI f.wide,iI f.off,.bool f.ha,iI f.at_,iI 0,.slice f.pn f.nn f.cn,.bool false,.slice f.pk f.nk f.ck] 27 false]
noncomputable abbrev ue H (f:Fe):=news H [.cells (eC f) 68 false,.cells [iI 0,iI 0,uU 0,.string ⟨#[]⟩,.slice none 0 0,iI 0,iI 0,.bool false,iI 0,iI 0,.slice none 0 0,.bool false,.slice none 0 0] 27 false,.cells [iI f.k,iI 0,uU f.v,.string f.s,.slice f.pm f.nm f.cm,iI f.wide,iI f.off,.bool f.ha,iI f.at_,iI 0,.slice none 0 0,.bool false,.slice f.pk f.nk f.ck] 27 false]
noncomputable abbrev pW H (f:Fe):=news H [.cells (eC f) 68 false,.cells [iI f.k,iI 0,uU f.v,.string f.s,.slice f.pm f.nm f.cm,iI f.wide,iI f.off,.bool f.ha,iI f.at_,iI 0,.slice none 0 0,.bool false,.slice none 0 0] 27 false,.cells [iI f.k,iI 0,uU f.v,.string f.s,.slice f.pm f.nm f.cm,iI f.wide,iI f.off,.bool f.ha,iI f.at_,iI 0,.slice none 0 0,.bool false,.slice none 0 0] 27 false]
noncomputable abbrev nv H (f:Fe):=news H [.cells (eC f) 68 false,.cells [iI 0,iI 0,uU 0,.string ⟨#[]⟩,.slice none 0 0,iI 0,iI 0,.bool false,iI 0,iI 0,.slice none 0 0,.bool false,.slice none 0 0] 27 false,.cells [iI f.k,iI f.op,uU f.v,.string f.s,.slice f.pm f.nm f.cm,iI f.wide,iI f.off,.bool f.ha,iI f.at_,iI f.how,.slice f.pn f.nn f.cn,.bool f.bl,.slice none 0 0] 27 false]
noncomputable abbrev pX H (f:Fe):=news H [.cells (eC f) 68 false,.cells [iI f.k,iI f.op,uU f.v,.string f.s,.slice f.pm f.nm f.cm,iI f.wide,iI f.off,.bool f.ha,iI f.at_,iI f.how,.slice f.pn f.nn f.cn,.bool f.bl,.slice none 0 0] 27 false,.cells [iI f.k,iI f.op,uU f.v,.string f.s,.slice f.pm f.nm f.cm,iI f.wide,iI f.off,.bool f.ha,iI f.at_,iI f.how,.slice f.pn f.nn f.cn,.bool f.bl,.slice none 0 0] 27 false]
noncomputable abbrev pY H f:=news H [.cells (eC f) 68 false,.cells (eC f) 27 false,.cells (eC f) 27 false]
theorem Sh (f:Fe) (X:Hp) (hx:Gd E G X) {H:Hp} (y:Gd E X H):aD E X 62 [.agg (eC f).toArray] H [] (fun v H'=>v=.agg (eC (bX f)).toArray):=by
 have w1:aq E 27 (H.n+0) 0 (iC H f)=some (.agg (eC f).toArray):=fQ bL aK rfl rfl rfl
 have w2:aq E 3 (H.n+2) 0 (bM H f)=some (iI f.k):=cI aR rfl rfl
 cases h1:(f.k==1) with
 |true=>
  have w3:aq E 27 (H.n+2) 0 (oK H f)=some (.agg #[iI f.k,iI f.op,uU 0,.string f.s,.slice f.pm f.nm f.cm,iI f.wide,iI f.off,.bool f.ha,iI f.at_,iI f.how,.slice f.pn f.nn f.cn,.bool f.bl,.slice f.pk f.nk f.ck]):=fQ bL aK rfl rfl rfl
  exact aD.mk y (CC.de ok (f:=300) (hs:=[au 2,vl (.agg (eC f).toArray) (iC H f),au 0,vl bJ (bM H f),au 0,vl (iI f.k) (bM H f),aI,au 1,vl bJ (oK H f),vl (.agg #[iI f.k,iI f.op,uU 0,.string f.s,.slice f.pm f.nm f.cm,iI f.wide,iI f.off,.bool f.ha,iI f.at_,iI f.how,.slice f.pn f.nn f.cn,.bool f.bl,.slice f.pk f.nk f.ck]) (oK H f),vl bJ (rZ H f)]) (vs:=[.agg #[iI f.k,iI f.op,uU 0,.string f.s,.slice f.pm f.nm f.cm,iI f.wide,iI f.off,.bool f.ha,iI f.at_,iI f.how,.slice f.pn f.nn f.cn,.bool f.bl,.slice f.pk f.nk f.ck]]) (v:=(.agg #[iI f.k,iI f.op,uU 0,.string f.s,.slice f.pm f.nm f.cm,iI f.wide,iI f.off,.bool f.ha,iI f.at_,iI f.how,.slice f.pn f.nn f.cn,.bool f.bl,.slice f.pk f.nk f.ck])) (H':=(rZ H f)) (W:=[H.n+2,H.n+2,H.n+1]) tI tJ (kn w1<|kn (show az E 27 (H.n+2) 0 (.agg (eC f).toArray) (jn H f)=some (bM H f) from cN aK rfl rfl rfl rfl)<|kn w2<|kn h1<|kn (show az E 22 (H.n+2) 2 (uU 0) (bM H f)=some (oK H f) from cN Ed rfl rfl rfl rfl)<|kn w3<|kn (show az E 27 (H.n+1) 0 (.agg #[iI f.k,iI f.op,uU 0,.string f.s,.slice f.pm f.nm f.cm,iI f.wide,iI f.off,.bool f.ha,iI f.at_,iI f.how,.slice f.pn f.nn f.cn,.bool f.bl,.slice f.pk f.nk f.ck]) (oK H f)=some (rZ H f) from cN aK rfl rfl rfl rfl)<|kn (show aq E 27 (H.n+1) 0 (rZ H f)=some (.agg #[iI f.k,iI f.op,uU 0,.string f.s,.slice f.pm f.nm f.cm,iI f.wide,iI f.off,.bool f.ha,iI f.at_,iI f.how,.slice f.pn f.nn f.cn,.bool f.bl,.slice f.pk f.nk f.ck]) from (fQ bL aK rfl rfl rfl))<|trivial) ah) aG aM (by rw [bX,h1] <;> rfl)
 |false=>
  cases h2:(f.k==2) with
  |true=>
   have w3:aq E 27 (H.n+2) 0 (ew H f)=some (.agg #[iI f.k,iI f.op,uU f.v,.string ⟨#[]⟩,.slice f.pm f.nm f.cm,iI f.wide,iI f.off,.bool f.ha,iI f.at_,iI f.how,.slice f.pn f.nn f.cn,.bool f.bl,.slice f.pk f.nk f.ck]):=fQ bL aK rfl rfl rfl
   exact aD.mk y (CC.de ok (f:=300) (hs:=[au 2,vl (.agg (eC f).toArray) (iC H f),au 0,vl bJ (bM H f),au 0,vl (iI f.k) (bM H f),aF,au 0,aI,au 1,vl bJ (ew H f),vl (.agg #[iI f.k,iI f.op,uU f.v,.string ⟨#[]⟩,.slice f.pm f.nm f.cm,iI f.wide,iI f.off,.bool f.ha,iI f.at_,iI f.how,.slice f.pn f.nn f.cn,.bool f.bl,.slice f.pk f.nk f.ck]) (ew H f),vl bJ (r6 H f)]) (vs:=[.agg #[iI f.k,iI f.op,uU f.v,.string ⟨#[]⟩,.slice f.pm f.nm f.cm,iI f.wide,iI f.off,.bool f.ha,iI f.at_,iI f.how,.slice f.pn f.nn f.cn,.bool f.bl,.slice f.pk f.nk f.ck]]) (v:=(.agg #[iI f.k,iI f.op,uU f.v,.string ⟨#[]⟩,.slice f.pm f.nm f.cm,iI f.wide,iI f.off,.bool f.ha,iI f.at_,iI f.how,.slice f.pn f.nn f.cn,.bool f.bl,.slice f.pk f.nk f.ck])) (H':=(r6 H f)) (W:=[H.n+2,H.n+2,H.n+1]) tI tJ (kn w1<|kn (show az E 27 (H.n+2) 0 (.agg (eC f).toArray) (jn H f)=some (bM H f) from cN aK rfl rfl rfl rfl)<|kn w2<|kn h1<|kn h2<|kn (show az E 9 (H.n+2) 3 (.string ⟨#[]⟩) (bM H f)=some (ew H f) from cN mP rfl rfl rfl rfl)<|kn w3<|kn (show az E 27 (H.n+1) 0 (.agg #[iI f.k,iI f.op,uU f.v,.string ⟨#[]⟩,.slice f.pm f.nm f.cm,iI f.wide,iI f.off,.bool f.ha,iI f.at_,iI f.how,.slice f.pn f.nn f.cn,.bool f.bl,.slice f.pk f.nk f.ck]) (ew H f)=some (r6 H f) from cN aK rfl rfl rfl rfl)<|kn (show aq E 27 (H.n+1) 0 (r6 H f)=some (.agg #[iI f.k,iI f.op,uU f.v,.string ⟨#[]⟩,.slice f.pm f.nm f.cm,iI f.wide,iI f.off,.bool f.ha,iI f.at_,iI f.how,.slice f.pn f.nn f.cn,.bool f.bl,.slice f.pk f.nk f.ck]) from (fQ bL aK rfl rfl rfl))<|trivial) ah) aG aM (by rw [bX,h1,h2] <;> rfl)
  |false=>
   cases h3:(f.k==3) with
   |true=>
    have w3:aq E 27 (H.n+2) 0 (oL H f)=some (.agg #[iI f.k,iI f.op,uU f.v,.string ⟨#[]⟩,.slice none 0 0,iI 0,iI 0,.bool false,iI 0,iI f.how,.slice f.pn f.nn f.cn,.bool f.bl,.slice f.pk f.nk f.ck]):=fQ bL aK rfl rfl rfl
    exact aD.mk y (CC.de ok (f:=300) (hs:=[au 2,vl (.agg (eC f).toArray) (iC H f),au 0,vl bJ (bM H f),au 0,vl (iI f.k) (bM H f),aF,au 0,aF,au 0,aI,au 1,vl bJ (ew H f),au 0,vl bJ (wB H f),au 0,vl bJ (tV H f),au 0,vl bJ (tW H f),au 0,vl bJ (tX H f),au 0,vl bJ (oL H f),vl (.agg #[iI f.k,iI f.op,uU f.v,.string ⟨#[]⟩,.slice none 0 0,iI 0,iI 0,.bool false,iI 0,iI f.how,.slice f.pn f.nn f.cn,.bool f.bl,.slice f.pk f.nk f.ck]) (oL H f),vl bJ (pT H f)]) (vs:=[.agg #[iI f.k,iI f.op,uU f.v,.string ⟨#[]⟩,.slice none 0 0,iI 0,iI 0,.bool false,iI 0,iI f.how,.slice f.pn f.nn f.cn,.bool f.bl,.slice f.pk f.nk f.ck]]) (v:=(.agg #[iI f.k,iI f.op,uU f.v,.string ⟨#[]⟩,.slice none 0 0,iI 0,iI 0,.bool false,iI 0,iI f.how,.slice f.pn f.nn f.cn,.bool f.bl,.slice f.pk f.nk f.ck])) (H':=(pT H f)) (W:=[H.n+2,H.n+2,H.n+2,H.n+2,H.n+2,H.n+2,H.n+2,H.n+1]) tI tJ (kn w1<|kn (show az E 27 (H.n+2) 0 (.agg (eC f).toArray) (jn H f)=some (bM H f) from cN aK rfl rfl rfl rfl)<|kn w2<|kn h1<|kn h2<|kn h3<|kn (show az E 9 (H.n+2) 3 (.string ⟨#[]⟩) (bM H f)=some (ew H f) from cN mP rfl rfl rfl rfl)<|kn (show az E 23 (H.n+2) 4 (.slice none 0 0) (ew H f)=some (wB H f) from cN SS rfl rfl rfl rfl)<|kn (show az E 2 (H.n+2) 5 (iI 0) (wB H f)=some (tV H f) from cN HJ rfl rfl rfl rfl)<|kn (show az E 2 (H.n+2) 6 (iI 0) (tV H f)=some (tW H f) from cN HJ rfl rfl rfl rfl)<|kn (show az E 4 (H.n+2) 7 (.bool false) (tW H f)=some (tX H f) from cN jS rfl rfl rfl rfl)<|kn (show az E 2 (H.n+2) 8 (iI 0) (tX H f)=some (oL H f) from cN HJ rfl rfl rfl rfl)<|kn w3<|kn (show az E 27 (H.n+1) 0 (.agg #[iI f.k,iI f.op,uU f.v,.string ⟨#[]⟩,.slice none 0 0,iI 0,iI 0,.bool false,iI 0,iI f.how,.slice f.pn f.nn f.cn,.bool f.bl,.slice f.pk f.nk f.ck]) (oL H f)=some (pT H f) from cN aK rfl rfl rfl rfl)<|kn (show aq E 27 (H.n+1) 0 (pT H f)=some (.agg #[iI f.k,iI f.op,uU f.v,.string ⟨#[]⟩,.slice none 0 0,iI 0,iI 0,.bool false,iI 0,iI f.how,.slice f.pn f.nn f.cn,.bool f.bl,.slice f.pk f.nk f.ck]) from (fQ bL aK rfl rfl rfl))<|trivial) ah) aG aM (by rw [bX,h1,h2,h3] <;> rfl)
   |false=>
    cases h4:(f.k==4) with
    |true=>
     have w3:aq E 27 (H.n+2) 0 (nj H f)=some (.agg #[iI f.k,iI f.op,uU f.v,.string ⟨#[]⟩,.slice f.pm f.nm f.cm,iI f.wide,iI f.off,.bool f.ha,iI f.at_,iI f.how,.slice f.pn f.nn f.cn,.bool f.bl,.slice none 0 0]):=fQ bL aK rfl rfl rfl
     exact aD.mk y (CC.de ok (f:=300) (hs:=[au 2,vl (.agg (eC f).toArray) (iC H f),au 0,vl bJ (bM H f),au 0,vl (iI f.k) (bM H f),aF,au 0,aF,au 0,aF,au 0,aI,au 1,vl bJ (ew H f),au 0,vl bJ (nj H f),vl (.agg #[iI f.k,iI f.op,uU f.v,.string ⟨#[]⟩,.slice f.pm f.nm f.cm,iI f.wide,iI f.off,.bool f.ha,iI f.at_,iI f.how,.slice f.pn f.nn f.cn,.bool f.bl,.slice none 0 0]) (nj H f),vl bJ (pU H f)]) (vs:=[.agg #[iI f.k,iI f.op,uU f.v,.string ⟨#[]⟩,.slice f.pm f.nm f.cm,iI f.wide,iI f.off,.bool f.ha,iI f.at_,iI f.how,.slice f.pn f.nn f.cn,.bool f.bl,.slice none 0 0]]) (v:=(.agg #[iI f.k,iI f.op,uU f.v,.string ⟨#[]⟩,.slice f.pm f.nm f.cm,iI f.wide,iI f.off,.bool f.ha,iI f.at_,iI f.how,.slice f.pn f.nn f.cn,.bool f.bl,.slice none 0 0])) (H':=(pU H f)) (W:=[H.n+2,H.n+2,H.n+2,H.n+1]) tI tJ (kn w1<|kn (show az E 27 (H.n+2) 0 (.agg (eC f).toArray) (jn H f)=some (bM H f) from cN aK rfl rfl rfl rfl)<|kn w2<|kn h1<|kn h2<|kn h3<|kn h4<|kn (show az E 9 (H.n+2) 3 (.string ⟨#[]⟩) (bM H f)=some (ew H f) from cN mP rfl rfl rfl rfl)<|kn (show az E 25 (H.n+2) 12 (.slice none 0 0) (ew H f)=some (nj H f) from cN yR rfl rfl rfl rfl)<|kn w3<|kn (show az E 27 (H.n+1) 0 (.agg #[iI f.k,iI f.op,uU f.v,.string ⟨#[]⟩,.slice f.pm f.nm f.cm,iI f.wide,iI f.off,.bool f.ha,iI f.at_,iI f.how,.slice f.pn f.nn f.cn,.bool f.bl,.slice none 0 0]) (nj H f)=some (pU H f) from cN aK rfl rfl rfl rfl)<|kn (show aq E 27 (H.n+1) 0 (pU H f)=some (.agg #[iI f.k,iI f.op,uU f.v,.string ⟨#[]⟩,.slice f.pm f.nm f.cm,iI f.wide,iI f.off,.bool f.ha,iI f.at_,iI f.how,.slice f.pn f.nn f.cn,.bool f.bl,.slice none 0 0]) from (fQ bL aK rfl rfl rfl))<|trivial) ah) aG aM (by rw [bX,h1,h2,h3,h4] <;> rfl)
    |false=>
     cases h5:(f.k==5) with
     |true=>
      have w3:aq E 27 (H.n+2) 0 (nq H f)=some (.agg #[iI f.k,iI f.op,uU f.v,.string ⟨#[]⟩,.slice f.pm f.nm f.cm,iI f.wide,iI f.off,.bool f.ha,iI f.at_,iI 0,.slice none 0 0,.bool f.bl,.slice none 0 0]):=fQ bL aK rfl rfl rfl
      exact aD.mk y (CC.de ok (f:=300) (hs:=[au 2,vl (.agg (eC f).toArray) (iC H f),au 0,vl bJ (bM H f),au 0,vl (iI f.k) (bM H f),aF,au 0,aF,au 0,aF,au 0,aF,au 0,aI,au 1,vl bJ (ew H f),au 0,vl bJ (tY H f),au 0,vl bJ (tZ H f),au 0,vl bJ (nq H f),vl (.agg #[iI f.k,iI f.op,uU f.v,.string ⟨#[]⟩,.slice f.pm f.nm f.cm,iI f.wide,iI f.off,.bool f.ha,iI f.at_,iI 0,.slice none 0 0,.bool f.bl,.slice none 0 0]) (nq H f),vl bJ (pV H f)]) (vs:=[.agg #[iI f.k,iI f.op,uU f.v,.string ⟨#[]⟩,.slice f.pm f.nm f.cm,iI f.wide,iI f.off,.bool f.ha,iI f.at_,iI 0,.slice none 0 0,.bool f.bl,.slice none 0 0]]) (v:=(.agg #[iI f.k,iI f.op,uU f.v,.string ⟨#[]⟩,.slice f.pm f.nm f.cm,iI f.wide,iI f.off,.bool f.ha,iI f.at_,iI 0,.slice none 0 0,.bool f.bl,.slice none 0 0])) (H':=(pV H f)) (W:=[H.n+2,H.n+2,H.n+2,H.n+2,H.n+2,H.n+1]) tI tJ (kn w1<|kn (show az E 27 (H.n+2) 0 (.agg (eC f).toArray) (jn H f)=some (bM H f) from cN aK rfl rfl rfl rfl)<|kn w2<|kn h1<|kn h2<|kn h3<|kn h4<|kn h5<|kn (show az E 9 (H.n+2) 3 (.string ⟨#[]⟩) (bM H f)=some (ew H f) from cN mP rfl rfl rfl rfl)<|kn (show az E 3 (H.n+2) 9 (iI 0) (ew H f)=some (tY H f) from cN bY rfl rfl rfl rfl)<|kn (show az E 24 (H.n+2) 10 (.slice none 0 0) (tY H f)=some (tZ H f) from cN JN rfl rfl rfl rfl)<|kn (show az E 25 (H.n+2) 12 (.slice none 0 0) (tZ H f)=some (nq H f) from cN yR rfl rfl rfl rfl)<|kn w3<|kn (show az E 27 (H.n+1) 0 (.agg #[iI f.k,iI f.op,uU f.v,.string ⟨#[]⟩,.slice f.pm f.nm f.cm,iI f.wide,iI f.off,.bool f.ha,iI f.at_,iI 0,.slice none 0 0,.bool f.bl,.slice none 0 0]) (nq H f)=some (pV H f) from cN aK rfl rfl rfl rfl)<|kn (show aq E 27 (H.n+1) 0 (pV H f)=some (.agg #[iI f.k,iI f.op,uU f.v,.string ⟨#[]⟩,.slice f.pm f.nm f.cm,iI f.wide,iI f.off,.bool f.ha,iI f.at_,iI 0,.slice none 0 0,.bool f.bl,.slice none 0 0]) from (fQ bL aK rfl rfl rfl))<|trivial) ah) aG aM (by rw [bX,h1,h2,h3,h4,h5] <;> rfl)
     |false=>
      cases h6:(f.k==6) with
      |true=>
       have w3:aq E 27 (H.n+2) 0 (nu H f)=some (.agg #[iI f.k,iI 0,uU f.v,.string f.s,.slice f.pm f.nm f.cm,iI f.wide,iI f.off,.bool f.ha,iI f.at_,iI 0,.slice none 0 0,.bool false,.slice none 0 0]):=fQ bL aK rfl rfl rfl
       exact aD.mk y (CC.de ok (f:=300) (hs:=[au 2,vl (.agg (eC f).toArray) (iC H f),au 0,vl bJ (bM H f),au 0,vl (iI f.k) (bM H f),aF,au 0,aF,au 0,aF,au 0,aF,au 0,aF,au 0,aI,au 1,vl bJ (ua H f),au 0,vl bJ (uc H f),au 0,vl bJ (ud H f),au 0,vl bJ (ue H f),au 0,vl bJ (nu H f),vl (.agg #[iI f.k,iI 0,uU f.v,.string f.s,.slice f.pm f.nm f.cm,iI f.wide,iI f.off,.bool f.ha,iI f.at_,iI 0,.slice none 0 0,.bool false,.slice none 0 0]) (nu H f),vl bJ (pW H f)]) (vs:=[.agg #[iI f.k,iI 0,uU f.v,.string f.s,.slice f.pm f.nm f.cm,iI f.wide,iI f.off,.bool f.ha,iI f.at_,iI 0,.slice none 0 0,.bool false,.slice none 0 0]]) (v:=(.agg #[iI f.k,iI 0,uU f.v,.string f.s,.slice f.pm f.nm f.cm,iI f.wide,iI f.off,.bool f.ha,iI f.at_,iI 0,.slice none 0 0,.bool false,.slice none 0 0])) (H':=(pW H f)) (W:=[H.n+2,H.n+2,H.n+2,H.n+2,H.n+2,H.n+2,H.n+1]) tI tJ (kn w1<|kn (show az E 27 (H.n+2) 0 (.agg (eC f).toArray) (jn H f)=some (bM H f) from cN aK rfl rfl rfl rfl)<|kn w2<|kn h1<|kn h2<|kn h3<|kn h4<|kn h5<|kn h6<|kn (show az E 3 (H.n+2) 1 (iI 0) (bM H f)=some (ua H f) from cN bY rfl rfl rfl rfl)<|kn (show az E 4 (H.n+2) 11 (.bool false) (ua H f)=some (uc H f) from cN jS rfl rfl rfl rfl)<|kn (show az E 3 (H.n+2) 9 (iI 0) (uc H f)=some (ud H f) from cN bY rfl rfl rfl rfl)<|kn (show az E 24 (H.n+2) 10 (.slice none 0 0) (ud H f)=some (ue H f) from cN JN rfl rfl rfl rfl)<|kn (show az E 25 (H.n+2) 12 (.slice none 0 0) (ue H f)=some (nu H f) from cN yR rfl rfl rfl rfl)<|kn w3<|kn (show az E 27 (H.n+1) 0 (.agg #[iI f.k,iI 0,uU f.v,.string f.s,.slice f.pm f.nm f.cm,iI f.wide,iI f.off,.bool f.ha,iI f.at_,iI 0,.slice none 0 0,.bool false,.slice none 0 0]) (nu H f)=some (pW H f) from cN aK rfl rfl rfl rfl)<|kn (show aq E 27 (H.n+1) 0 (pW H f)=some (.agg #[iI f.k,iI 0,uU f.v,.string f.s,.slice f.pm f.nm f.cm,iI f.wide,iI f.off,.bool f.ha,iI f.at_,iI 0,.slice none 0 0,.bool false,.slice none 0 0]) from (fQ bL aK rfl rfl rfl))<|trivial) ah) aG aM (by rw [bX,h1,h2,h3,h4,h5,h6] <;> rfl)
      |false=>
       cases h7:(f.k==7) with
       |true=>
        have w3:aq E 27 (H.n+2) 0 (nv H f)=some (.agg #[iI f.k,iI f.op,uU f.v,.string f.s,.slice f.pm f.nm f.cm,iI f.wide,iI f.off,.bool f.ha,iI f.at_,iI f.how,.slice f.pn f.nn f.cn,.bool f.bl,.slice none 0 0]):=fQ bL aK rfl rfl rfl
        exact aD.mk y (CC.de ok (f:=300) (hs:=[au 2,vl (.agg (eC f).toArray) (iC H f),au 0,vl bJ (bM H f),au 0,vl (iI f.k) (bM H f),aF,au 0,aF,au 0,aF,au 0,aF,au 0,aF,au 0,aF,au 0,aI,au 1,vl bJ (nv H f),vl (.agg #[iI f.k,iI f.op,uU f.v,.string f.s,.slice f.pm f.nm f.cm,iI f.wide,iI f.off,.bool f.ha,iI f.at_,iI f.how,.slice f.pn f.nn f.cn,.bool f.bl,.slice none 0 0]) (nv H f),vl bJ (pX H f)]) (vs:=[.agg #[iI f.k,iI f.op,uU f.v,.string f.s,.slice f.pm f.nm f.cm,iI f.wide,iI f.off,.bool f.ha,iI f.at_,iI f.how,.slice f.pn f.nn f.cn,.bool f.bl,.slice none 0 0]]) (v:=(.agg #[iI f.k,iI f.op,uU f.v,.string f.s,.slice f.pm f.nm f.cm,iI f.wide,iI f.off,.bool f.ha,iI f.at_,iI f.how,.slice f.pn f.nn f.cn,.bool f.bl,.slice none 0 0])) (H':=(pX H f)) (W:=[H.n+2,H.n+2,H.n+1]) tI tJ (kn w1<|kn (show az E 27 (H.n+2) 0 (.agg (eC f).toArray) (jn H f)=some (bM H f) from cN aK rfl rfl rfl rfl)<|kn w2<|kn h1<|kn h2<|kn h3<|kn h4<|kn h5<|kn h6<|kn h7<|kn (show az E 25 (H.n+2) 12 (.slice none 0 0) (bM H f)=some (nv H f) from cN yR rfl rfl rfl rfl)<|kn w3<|kn (show az E 27 (H.n+1) 0 (.agg #[iI f.k,iI f.op,uU f.v,.string f.s,.slice f.pm f.nm f.cm,iI f.wide,iI f.off,.bool f.ha,iI f.at_,iI f.how,.slice f.pn f.nn f.cn,.bool f.bl,.slice none 0 0]) (nv H f)=some (pX H f) from cN aK rfl rfl rfl rfl)<|kn (show aq E 27 (H.n+1) 0 (pX H f)=some (.agg #[iI f.k,iI f.op,uU f.v,.string f.s,.slice f.pm f.nm f.cm,iI f.wide,iI f.off,.bool f.ha,iI f.at_,iI f.how,.slice f.pn f.nn f.cn,.bool f.bl,.slice none 0 0]) from (fQ bL aK rfl rfl rfl))<|trivial) ah) aG aM (by rw [bX,h1,h2,h3,h4,h5,h6,h7] <;> rfl)
       |false=>
        have w3:aq E 27 (H.n+2) 0 (bM H f)=some (.agg (eC f).toArray):=fQ bL aK rfl rfl rfl
        exact aD.mk y (CC.de ok (f:=300) (hs:=[au 2,vl (.agg (eC f).toArray) (iC H f),au 0,vl bJ (bM H f),au 0,vl (iI f.k) (bM H f),aF,au 0,aF,au 0,aF,au 0,aF,au 0,aF,au 0,aF,au 0,aF,au 0,vl (.agg (eC f).toArray) (bM H f),vl bJ (pY H f)]) (vs:=[.agg (eC f).toArray]) (v:=(.agg (eC f).toArray)) (H':=(pY H f)) (W:=[H.n+2,H.n+1]) tI tJ (kn w1<|kn (show az E 27 (H.n+2) 0 (.agg (eC f).toArray) (jn H f)=some (bM H f) from cN aK rfl rfl rfl rfl)<|kn w2<|kn h1<|kn h2<|kn h3<|kn h4<|kn h5<|kn h6<|kn h7<|kn w3<|kn (show az E 27 (H.n+1) 0 (.agg (eC f).toArray) (bM H f)=some (pY H f) from cN aK rfl rfl rfl rfl)<|kn (show aq E 27 (H.n+1) 0 (pY H f)=some (.agg (eC f).toArray) from (fQ bL aK rfl rfl rfl))<|trivial) ah) aG aM (by rw [bX,h1,h2,h3,h4,h5,h6,h7] <;> rfl)
theorem lR:E.func 39=some Tryz.f39:=ah
theorem lS:bO Tryz.f39 1=true:=ah
noncomputable abbrev Ap H f:=news H [.cells (eC f) 68 false]
noncomputable abbrev aT H1 f:=news H1 [.cells (eC (bX f)) 27 false]
noncomputable abbrev dY H1:=news H1 [.cells [iI 0,iI 0,uU 0,.string ⟨#[]⟩,.slice none 0 0,iI 0,iI 0,.bool false,iI 0,iI 0,.slice none 0 0,.bool false,.slice none 0 0] 27 false]
noncomputable abbrev ur (f:Fe) (H:Hp) (H1:Hp) (l_:List Hint):=au 1::vl (.agg (eC f).toArray) (Ap H f)::.call (.agg (eC (bX f)).toArray) H1 []::au 0::vl bJ (aT H1 f)::au 0::vl (iI ((bX f).op)) (aT H1 f)::l_
noncomputable abbrev AA (f:Fe) (H:Hp) (H1:Hp) (l_:List Hint):=ur f H H1 (aI::au 1::vl (uU ((bX f).v)) (aT H1 f)::aI::au 2::vl (.string ((bX f).s)) (aT H1 f)::l_)
noncomputable abbrev uu (f:Fe) (H:Hp) (H1:Hp) (l_:List Hint):=AA f H H1 (aI::au 2::vl (.slice ((bX f).pm) ((bX f).nm) ((bX f).cm)) (aT H1 f)::au 0::l_)
noncomputable abbrev uv (f:Fe) (H:Hp) (H1:Hp) (l_:List Hint):=uu f H H1 (aI::au 2::vl (iI ((bX f).wide)) (aT H1 f)::aI::au 2::vl (iI ((bX f).off)) (aT H1 f)::l_)
noncomputable abbrev uw (f:Fe) (H:Hp) (H1:Hp) (l_:List Hint):=uv f H H1 (aI::au 2::vl (.bool false) (aT H1 f)::au 3::vl (iI ((bX f).at_)) (aT H1 f)::l_)
noncomputable abbrev ux (f:Fe) (H:Hp) (H1:Hp) (l_:List Hint):=uw f H H1 (aI::au 2::vl (iI ((bX f).how)) (aT H1 f)::aI::au 2::vl (.slice ((bX f).pn) ((bX f).nn) ((bX f).cn)) (aT H1 f)::au 0::l_)
noncomputable abbrev AD (f:Fe) (H:Hp) (H1:Hp) (l_:List Hint):=ux f H H1 (aI::au 2::vl (.bool false) (aT H1 f)::au 3::vl (.slice ((bX f).pk) ((bX f).nk) ((bX f).ck)) (aT H1 f)::au 0::l_)
theorem Sn (f:Fe) (X:Hp) (hx:Gd E G X) {H:Hp} (y:Gd E X H):aD E X 39 [.agg (eC f).toArray] H [] (fun v H'=>v=.bool (lN (bX f))):=by
 have w1:aq E 68 (H.n+0) 0 (Ap H f)=some (.agg (eC f).toArray):=fQ jj ct rfl rfl rfl
 obtain ⟨_,H1,c1,bN,y1,rfl⟩:=Sh f X hx (y.news [.cells (eC f) 68 false])
 have jq:H.n+1≤H1.n:=by have h:=bN.n;rw [bF] at h;exact h
 have w2:aq E 3 (H1.n+0) 1 (aT H1 f)=some (iI ((bX f).op)):=cI aR rfl rfl
 cases h1:(((bX f).op)==0) with
 |true=>
  have w3:aq E 22 (H1.n+0) 2 (aT H1 f)=some (uU ((bX f).v)):=cI qH rfl rfl
  cases h2:(((bX f).v)==0) with
  |true=>
   have w4:aq E 9 (H1.n+0) 3 (aT H1 f)=some (.string ((bX f).s)):=cI bB rfl rfl
   cases h3:(((bX f).s).toList==(⟨#[]⟩:ByteArray).toList) with
   |true=>
    have w5:aq E 23 (H1.n+0) 4 (aT H1 f)=some (.slice ((bX f).pm) ((bX f).nm) ((bX f).cm)):=cI oo rfl rfl
    cases h4:((((bX f).nm:Nat):Int)==0) with
    |true=>
     have w6:aq E 2 (H1.n+0) 5 (aT H1 f)=some (iI ((bX f).wide)):=cI jy rfl rfl
     cases h5:(((bX f).wide)==0) with
     |true=>
      have w7:aq E 2 (H1.n+0) 6 (aT H1 f)=some (iI ((bX f).off)):=cI jy rfl rfl
      cases h6:(((bX f).off)==0) with
      |true=>
       have w8:aq E 4 (H1.n+0) 7 (aT H1 f)=some (.bool ((bX f).ha)):=cI kY rfl rfl
       cases h7:((bX f).ha) with
       |true=>
        exact aD.mk y (dj (uv f H H1 [aI,au 2,vl (.bool true) (aT H1 f),au 12]) (.bool false) (aT H1 f) [H1.n+0] lR lS (aE w1 c1 (show az E 27 (H1.n+0) 0 (.agg (eC (bX f)).toArray) (dY H1)=some (aT H1 f) from cN aK rfl rfl rfl rfl) w2 h1 w3 h2 w4<|aE h3 w5 h4 w6 h5 w7 h6 (w8.trans (congrArg (fun q=>some (Value.bool q)) h7)) aS)) aG aM (by rw [lN,h1,h2,h3,h4,h5,h6,h7] <;> rfl)
       |false=>
        have w9:aq E 2 (H1.n+0) 8 (aT H1 f)=some (iI ((bX f).at_)):=cI jy rfl rfl
        cases h8:(((bX f).at_)==0) with
        |true=>
         have jE:aq E 3 (H1.n+0) 9 (aT H1 f)=some (iI ((bX f).how)):=cI aR rfl rfl
         cases h9:(((bX f).how)==0) with
         |true=>
          have xU:aq E 24 (H1.n+0) 10 (aT H1 f)=some (.slice ((bX f).pn) ((bX f).nn) ((bX f).cn)):=cI tj rfl rfl
          cases h10:((((bX f).nn:Nat):Int)==0) with
          |true=>
           have zb:aq E 4 (H1.n+0) 11 (aT H1 f)=some (.bool ((bX f).bl)):=cI kY rfl rfl
           cases h11:((bX f).bl) with
           |true=>
            exact aD.mk y (dj (ux f H H1 [aI,au 2,vl (.bool true) (aT H1 f),au 4]) (.bool false) (aT H1 f) [H1.n+0] lR lS (aE w1 c1 (show az E 27 (H1.n+0) 0 (.agg (eC (bX f)).toArray) (dY H1)=some (aT H1 f) from cN aK rfl rfl rfl rfl) w2 h1 w3 h2 w4<|aE h3 w5 h4 w6 h5 w7 h6 (w8.trans (congrArg (fun q=>some (Value.bool q)) h7))<|fk w9 h8 jE h9 xU h10 (zb.trans (congrArg (fun q=>some (Value.bool q)) h11)) aS)) aG aM (by rw [lN,h1,h2,h3,h4,h5,h6,h7,h8,h9,h10,h11] <;> rfl)
           |false=>
            have EC:aq E 25 (H1.n+0) 12 (aT H1 f)=some (.slice ((bX f).pk) ((bX f).nk) ((bX f).ck)):=cI di rfl rfl
            cases h12:((((bX f).nk:Nat):Int)==0) with
            |true=>
             exact aD.mk y (dj (AD f H H1 [aI,au 1]) (.bool true) (aT H1 f) [H1.n+0] lR lS (aE w1 c1 (show az E 27 (H1.n+0) 0 (.agg (eC (bX f)).toArray) (dY H1)=some (aT H1 f) from cN aK rfl rfl rfl rfl) w2 h1 w3 h2 w4<|aE h3 w5 h4 w6 h5 w7 h6 (w8.trans (congrArg (fun q=>some (Value.bool q)) h7))<|aE w9 h8 jE h9 xU h10 (zb.trans (congrArg (fun q=>some (Value.bool q)) h11)) EC<|cF h12 aS)) aG aM (by rw [lN,h1,h2,h3,h4,h5,h6,h7,h8,h9,h10,h11,h12] <;> rfl)
            |false=>
             exact aD.mk y (dj (AD f H H1 [aF,au 1]) (.bool false) (aT H1 f) [H1.n+0] lR lS (aE w1 c1 (show az E 27 (H1.n+0) 0 (.agg (eC (bX f)).toArray) (dY H1)=some (aT H1 f) from cN aK rfl rfl rfl rfl) w2 h1 w3 h2 w4<|aE h3 w5 h4 w6 h5 w7 h6 (w8.trans (congrArg (fun q=>some (Value.bool q)) h7))<|aE w9 h8 jE h9 xU h10 (zb.trans (congrArg (fun q=>some (Value.bool q)) h11)) EC<|cF h12 aS)) aG aM (by rw [lN,h1,h2,h3,h4,h5,h6,h7,h8,h9,h10,h11,h12] <;> rfl)
          |false=>
           exact aD.mk y (dj (ux f H H1 [aF,au 5]) (.bool false) (aT H1 f) [H1.n+0] lR lS (aE w1 c1 (show az E 27 (H1.n+0) 0 (.agg (eC (bX f)).toArray) (dY H1)=some (aT H1 f) from cN aK rfl rfl rfl rfl) w2 h1 w3 h2 w4<|aE h3 w5 h4 w6 h5 w7 h6 (w8.trans (congrArg (fun q=>some (Value.bool q)) h7))<|fG w9 h8 jE h9 xU h10 aS)) aG aM (by rw [lN,h1,h2,h3,h4,h5,h6,h7,h8,h9,h10] <;> rfl)
         |false=>
          exact aD.mk y (dj (uw f H H1 [aI,au 2,vl (iI ((bX f).how)) (aT H1 f),aF,au 7]) (.bool false) (aT H1 f) [H1.n+0] lR lS (aE w1 c1 (show az E 27 (H1.n+0) 0 (.agg (eC (bX f)).toArray) (dY H1)=some (aT H1 f) from cN aK rfl rfl rfl rfl) w2 h1 w3 h2 w4<|aE h3 w5 h4 w6 h5 w7 h6 (w8.trans (congrArg (fun q=>some (Value.bool q)) h7))<|gm w9 h8 jE h9 aS)) aG aM (by rw [lN,h1,h2,h3,h4,h5,h6,h7,h8,h9] <;> rfl)
        |false=>
         exact aD.mk y (dj (uw f H H1 [aF,au 9]) (.bool false) (aT H1 f) [H1.n+0] lR lS (aE w1 c1 (show az E 27 (H1.n+0) 0 (.agg (eC (bX f)).toArray) (dY H1)=some (aT H1 f) from cN aK rfl rfl rfl rfl) w2 h1 w3 h2 w4<|aE h3 w5 h4 w6 h5 w7 h6 (w8.trans (congrArg (fun q=>some (Value.bool q)) h7))<|cU w9 h8 aS)) aG aM (by rw [lN,h1,h2,h3,h4,h5,h6,h7,h8] <;> rfl)
      |false=>
       exact aD.mk y (dj (uv f H H1 [aF,au 13]) (.bool false) (aT H1 f) [H1.n+0] lR lS (aE w1 c1 (show az E 27 (H1.n+0) 0 (.agg (eC (bX f)).toArray) (dY H1)=some (aT H1 f) from cN aK rfl rfl rfl rfl) w2 h1 w3 h2 w4<|fk h3 w5 h4 w6 h5 w7 h6 aS)) aG aM (by rw [lN,h1,h2,h3,h4,h5,h6] <;> rfl)
     |false=>
      exact aD.mk y (dj (uu f H H1 [aI,au 2,vl (iI ((bX f).wide)) (aT H1 f),aF,au 15]) (.bool false) (aT H1 f) [H1.n+0] lR lS (aE w1 c1 (show az E 27 (H1.n+0) 0 (.agg (eC (bX f)).toArray) (dY H1)=some (aT H1 f) from cN aK rfl rfl rfl rfl) w2 h1 w3 h2 w4<|eM h3 w5 h4 w6 h5 aS)) aG aM (by rw [lN,h1,h2,h3,h4,h5] <;> rfl)
    |false=>
     exact aD.mk y (dj (uu f H H1 [aF,au 17]) (.bool false) (aT H1 f) [H1.n+0] lR lS (aE w1 c1 (show az E 27 (H1.n+0) 0 (.agg (eC (bX f)).toArray) (dY H1)=some (aT H1 f) from cN aK rfl rfl rfl rfl) w2 h1 w3 h2 w4<|eY h3 w5 h4 aS)) aG aM (by rw [lN,h1,h2,h3,h4] <;> rfl)
   |false=>
    exact aD.mk y (dj (AA f H H1 [aF,au 19]) (.bool false) (aT H1 f) [H1.n+0] lR lS (aE w1 c1 (show az E 27 (H1.n+0) 0 (.agg (eC (bX f)).toArray) (dY H1)=some (aT H1 f) from cN aK rfl rfl rfl rfl) w2 h1 w3 h2 w4<|cF h3 aS)) aG aM (by rw [lN,h1,h2,h3] <;> rfl)
  |false=>
   exact aD.mk y (dj (ur f H H1 [aI,au 1,vl (uU ((bX f).v)) (aT H1 f),aF,au 21]) (.bool false) (aT H1 f) [H1.n+0] lR lS (fk w1 c1 (show az E 27 (H1.n+0) 0 (.agg (eC (bX f)).toArray) (dY H1)=some (aT H1 f) from cN aK rfl rfl rfl rfl) w2 h1 w3 h2 aS)) aG aM (by rw [lN,h1,h2] <;> rfl)
 |false=>
  exact aD.mk y (dj (ur f H H1 [aF,au 22]) (.bool false) (aT H1 f) [H1.n+0] lR lS (eM w1 c1 (show az E 27 (H1.n+0) 0 (.agg (eC (bX f)).toArray) (dY H1)=some (aT H1 f) from cN aK rfl rfl rfl rfl) w2 h1 aS)) aG aM (by rw [lN,h1] <;> rfl)
theorem XC {x:Xp} (h:x.f.k=1):vS x=Ll x:=by
 unfold vS
 rw [h]
 simp only [show ((1:Int)==1)=true from rfl,cond_true,cond_false]
theorem XD {x:Xp} (h:x.f.k=2):vS x=JP x:=by
 unfold vS
 rw [h]
 simp only [show ((2:Int)==1)=false from rfl,show ((2:Int)==2)=true from rfl,cond_true,cond_false]
theorem XE {x:Xp} (h:x.f.k=3):vS x=gy x:=by
 unfold vS
 rw [h]
 simp only [show ((3:Int)==1)=false from rfl,show ((3:Int)==2)=false from rfl,show ((3:Int)==3)=true from rfl,cond_true,cond_false]
theorem XF {x:Xp} (h:x.f.k=4):vS x=Fc x:=by
 unfold vS
 rw [h]
 simp only [show ((4:Int)==1)=false from rfl,show ((4:Int)==2)=false from rfl,show ((4:Int)==3)=false from rfl,show ((4:Int)==4)=true from rfl,cond_true,cond_false]
theorem XG {x:Xp} (h:x.f.k=5):vS x=vZ x:=by
 unfold vS
 rw [h]
 simp only [show ((5:Int)==1)=false from rfl,show ((5:Int)==2)=false from rfl,show ((5:Int)==3)=false from rfl,show ((5:Int)==4)=false from rfl,show ((5:Int)==5)=true from rfl,cond_true,cond_false]
theorem PE {x:Xp} (h:x.f.k=6):vS x=vK x:=by
 unfold vS
 rw [h]
 simp only [show ((6:Int)==1)=false from rfl,show ((6:Int)==2)=false from rfl,show ((6:Int)==3)=false from rfl,show ((6:Int)==4)=false from rfl,show ((6:Int)==5)=false from rfl,show ((6:Int)==6)=true from rfl,cond_true,cond_false]
theorem TE {x:Xp} (h:x.f.k=7):vS x=Fx x:=by
 unfold vS
 rw [h]
 simp only [show ((7:Int)==1)=false from rfl,show ((7:Int)==2)=false from rfl,show ((7:Int)==3)=false from rfl,show ((7:Int)==4)=false from rfl,show ((7:Int)==5)=false from rfl,show ((7:Int)==6)=false from rfl,cond_true,cond_false]
theorem QB:E.func 41=some Tryz.f41:=ah
theorem QC:bO Tryz.f41 1=true:=ah
theorem SA (c:Xp) (X:Hp) (hx:Gd E G X) (ih:∀{H:Hp},Gd E X H→aD E X 20 [.agg (eC c.f).toArray] H [] (fun v _=>v=.bool (iW c))) {H:Hp} (y:Gd E X H):aD E X 41 [.agg (eC c.f).toArray] H [] (fun v H'=>v=.bool (!iW c)):=by
 have w1:aq E 27 (H.n+0) 0 (news H [.cells (eC c.f) 27 false])=some (.agg (eC c.f).toArray):=fQ bL aK rfl rfl rfl
 obtain ⟨_,H1,c1,bN,y1,eD⟩:=iL (ih (y.news [.cells (eC c.f) 27 false]))
 rcases eD with ⟨rfl,ei⟩ |⟨rfl,ei⟩
 ·exact bA y [au 1,vl (.agg (eC c.f).toArray) (news H [.cells (eC c.f) 27 false]),.call (.bool true) H1 [],au 1] (.bool false) H1 QB QC (cU w1 c1 aS) (by rw [ei] <;> rfl)
 ·exact bA y [au 1,vl (.agg (eC c.f).toArray) (news H [.cells (eC c.f) 27 false]),.call (.bool false) H1 [],au 1] (.bool true) H1 QB QC (cU w1 c1 aS) (by rw [ei] <;> rfl)
noncomputable def XQ:Code:=cz [1,0,1,0,0] (bH Tryz.f63)
theorem aao (x:Xp) (X:Hp) (hx:Gd E G X) (a:At X x) (qR:∀ k∈x.kids,∀{H:Hp},Gd E X H→aD E X 20 [.agg (eC k.f).toArray] H [] (fun v _=>v=.bool (iW k))) (R:Bool):∀(m:Nat) (x8:Int) (H:Hp),Gd E X H→(x0:0≤x8)→(hR:tv (x.kids.drop x8.toNat)=R)→((x.f.nk:Int)-x8).toNat=m→
  aA E X 19 XQ [(0,.slice x.f.pk x.f.nk x.f.ck),(1,ai 41),(7,iI ((x.f.nk:Nat):Int)),(8,iI x8)] H [] (fun xx T H'=>(xx=(.exit 0)∧T=bw []∧(R=false))∨(xx=.ret∧∃(z4:Int),T=bw [(4,iI z4)]∧((R=true)∧(0≤z4)))):=by
 intro m
 induction m using Nat.strongRecOn with
 |_ m ih=>
 intro x8 H y x0 hR hm
 have bd:=a.bk
 cases h1:(decide (x8<((x.f.nk:Nat):Int))) with
 |true=>
  have q1:=aL h1
  obtain ⟨d1,HG,t1,hY,lM⟩:=a.rk.open aa
  have vH:=hx.wf.lt lM
  obtain ⟨x2,m2⟩:=a.W5 (i:=x8.toNat) aa
  have w1:aq E 27 d1 (0+x8.toNat*13) H=some (.agg (eC x2.f).toArray):=RL bL aK (y.cell lM vH) m2 aa
  obtain ⟨_,H1,c1,bN,y1,eD⟩:=iL (SA x2 X hx (fun y=>qR x2 (vI m2) y) y)
  rcases eD with ⟨rfl,ei⟩ |⟨rfl,ei⟩
  ·exact aA.last' y (bf [aI,au 4,vl (pt d1 (0+x8.toNat*13)) H,vl (.agg (eC x2.f).toArray) H,.call (.bool true) H1 [],au 1] [(4,iI x8)] .ret H1 [] (fun _ r_=>gm h1 (show aN E 25 (.slice x.f.pk x.f.nk x.f.ck) (iI x8)=some (pt d1 (0+x8.toNat*13)) from jA bD aK hY aa aa) w1 c1 r_)) aj aM aM (.inr (⟨rfl,x8,rfl,⟨ya (F:=tv) qI m2 hR ei,by omega⟩⟩))
  ·have w2:=aC (x8+1)
   exact aA.next' y (bf [aI,au 4,vl (pt d1 (0+x8.toNat*13)) H,vl (.agg (eC x2.f).toArray) H,.call (.bool false) H1 [],.as (iI (x8+1)),au 0] [(0,.slice x.f.pk x.f.nk x.f.ck),(1,ai 41),(7,iI ((x.f.nk:Nat):Int)),(8,iI (x8+1))] .normal H1 [] (fun _ r_=>eM h1 (show aN E 25 (.slice x.f.pk x.f.nk x.f.ck) (iI x8)=some (pt d1 (0+x8.toNat*13)) from jA bD aK hY aa aa) w1 c1 w2 r_)) aM (ih _ aa (x8+1) _ y1 aa (by rw [dh aa];exact (By (F:=tv) qI m2 hR ei)) rfl)
 |false=>
  have q1:=aQ h1
  exact aA.last' y (bf [aF] [] (.exit 0) H [] (fun _ r_=>cF h1 r_)) aj aM aM (.inl (⟨rfl,rfl,xZ (F:=tv) Ir hR (by have:=a.nk;omega)⟩))
theorem QJ:E.func 63=some Tryz.f63:=ah
theorem QK:bO Tryz.f63 2=true:=ah
theorem Vm (x:Xp) (X:Hp) (hx:Gd E G X) (a:At X x) (qR:∀ k∈x.kids,∀{H:Hp},Gd E X H→aD E X 20 [.agg (eC k.f).toArray] H [] (fun v _=>v=.bool (iW k))) {H:Hp} (y:Gd E X H):aD E X 63 [.slice x.f.pk x.f.nk x.f.ck,ai 41] H [] (fun v H'=>(∃ n:Int,v=iI n∧0≤n∧tv x.kids=true)∨(v=iI (-1)∧tv x.kids=false)):=by
 obtain ⟨_,_,H1,c1,bN,y1,eD⟩:=(aao x X hx a qR (tv x.kids) _ 0 _ y aa rfl rfl).code
 rcases eD with ⟨rfl,rfl,cw⟩ |⟨rfl,cL,rfl,cw,iX⟩
 ·exact bA y [au 3,.loop [0,1,7,8] (.exit 0) (bw []) H1 [],au 0] (iI (-1)) H1 QJ QK (cF c1 aS) (.inr ⟨rfl,cw⟩)
 ·exact bA y [au 3,.loop [0,1,7,8] .ret (bw [(4,iI cL)]) H1 []] (iI cL) H1 QJ QK (cF c1 aS) (.inl ⟨_,rfl,iX,cw⟩)
theorem Qz:E.func 40=some Tryz.f40:=ah
theorem QA:bO Tryz.f40 2=true:=ah
theorem B0 (x:Xp) (X:Hp) (hx:Gd E G X) (a:At X x) (qR:∀ k∈x.kids,∀{H:Hp},Gd E X H→aD E X 20 [.agg (eC k.f).toArray] H [] (fun v _=>v=.bool (iW k))) {H:Hp} (y:Gd E X H):aD E X 40 [.slice x.f.pk x.f.nk x.f.ck,ai 41] H [] (fun v H'=>v=.bool (tv x.kids)):=by
 obtain ⟨_,H1,c1,bN,y1,eD⟩:=Vm x X hx a qR y
 rcases eD with ⟨NJ,rfl,Nh,ei⟩ |⟨rfl,ei⟩
 ·have w1:(decide (NJ≥0))=true:=decide_eq_true aa
  exact bA y [au 2,.call (iI NJ) H1 [],aI,au 0] (.bool true) H1 Qz QA (cU c1 w1 aS) (by rw [ei])
 ·exact bA y [au 2,.call (iI (-1)) H1 [],au 1] (.bool false) H1 Qz QA (cF c1 aS) (by rw [ei])
theorem fE:E.func 20=some Tryz.f20:=ah
theorem fF:bO Tryz.f20 1=true:=ah
noncomputable abbrev oM H (x:Xp):=news H [.cells (eC x.f) 27 false]
noncomputable abbrev bR H (x:Xp):=news H [.cells (eC x.f) 27 false,.cells (eC x.f) 68 false,.cells [ai 32,ai 33,ai 34,ai 35,ai 36,ai 37,ai 38] 70 false]
noncomputable abbrev cy H (x:Xp):=news H [.cells (eC x.f) 27 false,.cells (eC x.f) 68 false]
noncomputable abbrev cD H (x:Xp):=news H [.cells (eC x.f) 27 false,.cells [iI 0,iI 0,uU 0,.string ⟨#[]⟩,.slice none 0 0,iI 0,iI 0,.bool false,iI 0,iI 0,.slice none 0 0,.bool false,.slice none 0 0] 68 false]
noncomputable abbrev cE H (x:Xp):=news H [.cells (eC x.f) 27 false,.cells (eC x.f) 68 false,.cells [.nilFunc,.nilFunc,.nilFunc,.nilFunc,.nilFunc,.nilFunc,.nilFunc] 70 false]
noncomputable abbrev xw (x:Xp) (H:Hp) (l_:List Hint):=au 1::vl (.agg (eC x.f).toArray) (oM H x)::au 1::vl bJ (cy H x)::au 1::vl bJ (bR H x)::au 0::vl (iI x.f.k) (bR H x)::l_
noncomputable abbrev DI (x:Xp) (H:Hp) (l_:List Hint):=xw x H (aF::au 1::vl (iI x.f.k) (bR H x)::aF::au 1::vl (.agg (eC x.f).toArray) (bR H x)::l_)
noncomputable abbrev ey (x:Xp) (H:Hp) (H1:Hp) (l_:List Hint):=DI x H (.call (.bool true) H1 []::au 3::vl (iI x.f.k) H1::.as (iI (x.f.k-1))::.ck::l_)
noncomputable abbrev DJ (x:Xp) (H:Hp) (H1:Hp) (H2:Hp) (l_:List Hint):=ey x H H1 (vl (ai 32) H1::vl (.agg (eC x.f).toArray) H1::.call (.bool true) H2 []::au 2::vl (.slice x.f.pk x.f.nk x.f.ck) H2::l_)
noncomputable abbrev DK (x:Xp) (H:Hp) (H1:Hp) (H2:Hp) (l_:List Hint):=ey x H H1 (vl (ai 33) H1::vl (.agg (eC x.f).toArray) H1::.call (.bool true) H2 []::au 2::vl (.slice x.f.pk x.f.nk x.f.ck) H2::l_)
noncomputable abbrev DL (x:Xp) (H:Hp) (H1:Hp) (H2:Hp) (l_:List Hint):=ey x H H1 (vl (ai 34) H1::vl (.agg (eC x.f).toArray) H1::.call (.bool true) H2 []::au 2::vl (.slice x.f.pk x.f.nk x.f.ck) H2::l_)
noncomputable abbrev DM (x:Xp) (H:Hp) (H1:Hp) (H2:Hp) (l_:List Hint):=ey x H H1 (vl (ai 35) H1::vl (.agg (eC x.f).toArray) H1::.call (.bool true) H2 []::au 2::vl (.slice x.f.pk x.f.nk x.f.ck) H2::l_)
noncomputable abbrev DN (x:Xp) (H:Hp) (H1:Hp) (H2:Hp) (l_:List Hint):=ey x H H1 (vl (ai 36) H1::vl (.agg (eC x.f).toArray) H1::.call (.bool true) H2 []::au 2::vl (.slice x.f.pk x.f.nk x.f.ck) H2::l_)
noncomputable abbrev DO (x:Xp) (H:Hp) (H1:Hp) (H2:Hp) (l_:List Hint):=ey x H H1 (vl (ai 37) H1::vl (.agg (eC x.f).toArray) H1::.call (.bool true) H2 []::au 2::vl (.slice x.f.pk x.f.nk x.f.ck) H2::l_)
noncomputable abbrev DP (x:Xp) (H:Hp) (H1:Hp) (H2:Hp) (l_:List Hint):=ey x H H1 (vl (ai 38) H1::vl (.agg (eC x.f).toArray) H1::.call (.bool true) H2 []::au 2::vl (.slice x.f.pk x.f.nk x.f.ck) H2::l_)
theorem Zq (x:Xp) (X:Hp) (hx:Gd E G X) (a:At X x) (hz:Sz x) (qR:∀ k∈x.kids,∀{H:Hp},Gd E X H→aD E X 20 [.agg (eC k.f).toArray] H [] (fun v _=>v=.bool (iW k))) {H:Hp} (y:Gd E X H):aD E X 20 [.agg (eC x.f).toArray] H [] (fun v H'=>v=.bool (iW x)):=by
 have w1:aq E 27 (H.n+0) 0 (oM H x)=some (.agg (eC x.f).toArray):=fQ bL aK rfl rfl rfl
 have w2:aq E 3 (H.n+0) 0 (bR H x)=some (iI x.f.k):=cI aR rfl rfl
 cases h1:(decide (x.f.k<1)) with
 |true=>
  exact aD.mk y (dj (xw x H [aI,au 6]) (.bool false) (bR H x) [H.n+1,H.n+2] fE fF (aE w1 (show az E 68 (H.n+1) 0 (.agg (eC x.f).toArray) (cD H x)=some (cy H x) from cN ct rfl rfl rfl rfl) (show az E 70 (H.n+2) 0 (.agg #[ai 32,ai 33,ai 34,ai 35,ai 36,ai 37,ai 38]) (cE H x)=some (bR H x) from cN dx rfl rfl rfl rfl) ag ag w2 ag h1<|fk ag ag ag ag ag ag ag aS)) aG aM (by rw [cK,gh,h1] <;> rfl)
 |false=>
  have q1:=aQ h1
  cases h2:(decide (x.f.k>7)) with
  |true=>
   exact aD.mk y (dj (xw x H [aF,au 1,vl (iI x.f.k) (bR H x),aI,au 5]) (.bool false) (bR H x) [H.n+1,H.n+2] fE fF (aE w1 (show az E 68 (H.n+1) 0 (.agg (eC x.f).toArray) (cD H x)=some (cy H x) from cN ct rfl rfl rfl rfl) (show az E 70 (H.n+2) 0 (.agg #[ai 32,ai 33,ai 34,ai 35,ai 36,ai 37,ai 38]) (cE H x)=some (bR H x) from cN dx rfl rfl rfl rfl) ag ag w2 ag h1<|aE ag ag ag w2 ag h2 ag ag<|gm ag ag ag ag aS)) aG aM (by rw [cK,gh,h1,h2] <;> rfl)
  |false=>
   have q2:=aQ h2
   have w3:aq E 68 (H.n+1) 0 (bR H x)=some (.agg (eC x.f).toArray):=fQ jj ct rfl rfl rfl
   obtain ⟨_,H1,c1,bN,y1,eD⟩:=iL (Sn x.f X hx (y.news [.cells (eC x.f) 27 false,.cells (eC x.f) 68 false,.cells [ai 32,ai 33,ai 34,ai 35,ai 36,ai 37,ai 38] 70 false]))
   rcases eD with ⟨rfl,ei⟩ |⟨rfl,ei⟩
   ·have jq:H.n+3≤H1.n:=by have h:=bN.n;rw [bF] at h;exact h
    have bz:=(y.news [.cells (eC x.f) 27 false,.cells (eC x.f) 68 false,.cells [ai 32,ai 33,ai 34,ai 35,ai 36,ai 37,ai 38] 70 false]).kept bN aH (aB [.cells (eC x.f) 27 false,.cells (eC x.f) 68 false,.cells [ai 32,ai 33,ai 34,ai 35,ai 36,ai 37,ai 38] 70 false] H 0 _ rfl)
    have cV:=(y.news [.cells (eC x.f) 27 false,.cells (eC x.f) 68 false,.cells [ai 32,ai 33,ai 34,ai 35,ai 36,ai 37,ai 38] 70 false]).kept bN aH (aB [.cells (eC x.f) 27 false,.cells (eC x.f) 68 false,.cells [ai 32,ai 33,ai 34,ai 35,ai 36,ai 37,ai 38] 70 false] H 1 _ rfl)
    have cx:=(y.news [.cells (eC x.f) 27 false,.cells (eC x.f) 68 false,.cells [ai 32,ai 33,ai 34,ai 35,ai 36,ai 37,ai 38] 70 false]).kept bN aH (aB [.cells (eC x.f) 27 false,.cells (eC x.f) 68 false,.cells [ai 32,ai 33,ai 34,ai 35,ai 36,ai 37,ai 38] 70 false] H 2 _ rfl)
    have w4:aq E 3 (H.n+0) 0 H1=some (iI x.f.k):=bQ aR bz rfl
    have w5:=aC (x.f.k-1)
    have w6:0≤(x.f.k-1):=aa
    have w7:(x.f.k-1)<(7:Int):=aa
    rcases (show x.f.k=1∨x.f.k=2∨x.f.k=3∨x.f.k=4∨x.f.k=5∨x.f.k=6∨x.f.k=7 by omega) with hk |hk |hk |hk |hk |hk |hk
    ·have w8:aq E 68 (H.n+1) 0 H1=some (.agg (eC x.f).toArray):=o7 jj ct cV rfl rfl
     obtain ⟨_,H2,c2,dc,y2,oP⟩:=iL (V0 x X hx a hz y1)
     rcases oP with ⟨rfl,ig⟩ |⟨rfl,ig⟩
     ·have jI:H1.n+0≤H2.n:=dc.n
      have bI:=y1.kept dc aH bz
      have w9:aq E 25 (H.n+0) 12 H2=some (.slice x.f.pk x.f.nk x.f.ck):=bQ di bI rfl
      obtain ⟨_,H3,c3,gB,y3,AU⟩:=iL (B0 x X hx a qR y2)
      rcases AU with ⟨rfl,tg⟩ |⟨rfl,tg⟩
      ·have xS:H2.n+0≤H3.n:=gB.n
       exact aD.mk y (dj (DJ x H H1 H2 [.call (.bool true) H3 [],au 1]) (.bool false) H3 [H.n+1,H.n+2] fE fF (aE w1 (show az E 68 (H.n+1) 0 (.agg (eC x.f).toArray) (cD H x)=some (cy H x) from cN ct rfl rfl rfl rfl) (show az E 70 (H.n+2) 0 (.agg #[ai 32,ai 33,ai 34,ai 35,ai 36,ai 37,ai 38]) (cE H x)=some (bR H x) from cN dx rfl rfl rfl rfl) ag ag w2 ag h1<|aE ag ag ag w2 ag h2 ag ag<|aE ag w3 ag c1 ag ag ag ag<|aE ag w4 ag w5 ag w6 w7 ag<|aE (show aq E 69 (H.n+2) (0+(x.f.k-1).toNat*1) H1=some (ai 32) from bQ dN cx (show ([ai 32,ai 33,ai 34,ai 35,ai 36,ai 37,ai 38]:List Value)[0+(x.f.k-1).toNat*1]?=_ by rw [hk] <;> rfl)) ag w8 ag c2 ag ag ag<|cU w9 c3 aS)) aG aM (by rw [cK,gh,h1,h2,ei,XC hk,ig,tg] <;> rfl)
      ·have xS:H2.n+0≤H3.n:=gB.n
       exact aD.mk y (dj (DJ x H H1 H2 [.call (.bool false) H3 [],au 1]) (.bool true) H3 [H.n+1,H.n+2] fE fF (aE w1 (show az E 68 (H.n+1) 0 (.agg (eC x.f).toArray) (cD H x)=some (cy H x) from cN ct rfl rfl rfl rfl) (show az E 70 (H.n+2) 0 (.agg #[ai 32,ai 33,ai 34,ai 35,ai 36,ai 37,ai 38]) (cE H x)=some (bR H x) from cN dx rfl rfl rfl rfl) ag ag w2 ag h1<|aE ag ag ag w2 ag h2 ag ag<|aE ag w3 ag c1 ag ag ag ag<|aE ag w4 ag w5 ag w6 w7 ag<|aE (show aq E 69 (H.n+2) (0+(x.f.k-1).toNat*1) H1=some (ai 32) from bQ dN cx (show ([ai 32,ai 33,ai 34,ai 35,ai 36,ai 37,ai 38]:List Value)[0+(x.f.k-1).toNat*1]?=_ by rw [hk] <;> rfl)) ag w8 ag c2 ag ag ag<|cU w9 c3 aS)) aG aM (by rw [cK,gh,h1,h2,ei,XC hk,ig,tg] <;> rfl)
     ·have jI:H1.n+0≤H2.n:=dc.n
      exact aD.mk y (dj (ey x H H1 [vl (ai 32) H1,vl (.agg (eC x.f).toArray) H1,.call (.bool false) H2 [],au 2]) (.bool false) H2 [H.n+1,H.n+2] fE fF (aE w1 (show az E 68 (H.n+1) 0 (.agg (eC x.f).toArray) (cD H x)=some (cy H x) from cN ct rfl rfl rfl rfl) (show az E 70 (H.n+2) 0 (.agg #[ai 32,ai 33,ai 34,ai 35,ai 36,ai 37,ai 38]) (cE H x)=some (bR H x) from cN dx rfl rfl rfl rfl) ag ag w2 ag h1<|aE ag ag ag w2 ag h2 ag ag<|aE ag w3 ag c1 ag ag ag ag<|aE ag w4 ag w5 ag w6 w7 ag<|aE (show aq E 69 (H.n+2) (0+(x.f.k-1).toNat*1) H1=some (ai 32) from bQ dN cx (show ([ai 32,ai 33,ai 34,ai 35,ai 36,ai 37,ai 38]:List Value)[0+(x.f.k-1).toNat*1]?=_ by rw [hk] <;> rfl)) ag w8 ag c2 ag ag ag aS)) aG aM (by rw [cK,gh,h1,h2,ei,XC hk,ig] <;> rfl)
    ·have w8:aq E 68 (H.n+1) 0 H1=some (.agg (eC x.f).toArray):=o7 jj ct cV rfl rfl
     obtain ⟨_,H2,c2,dc,y2,oP⟩:=iL (Sm x X hx a hz y1)
     rcases oP with ⟨rfl,ig⟩ |⟨rfl,ig⟩
     ·have jI:H1.n+0≤H2.n:=dc.n
      have bI:=y1.kept dc aH bz
      have w9:aq E 25 (H.n+0) 12 H2=some (.slice x.f.pk x.f.nk x.f.ck):=bQ di bI rfl
      obtain ⟨_,H3,c3,gB,y3,AU⟩:=iL (B0 x X hx a qR y2)
      rcases AU with ⟨rfl,tg⟩ |⟨rfl,tg⟩
      ·have xS:H2.n+0≤H3.n:=gB.n
       exact aD.mk y (dj (DK x H H1 H2 [.call (.bool true) H3 [],au 1]) (.bool false) H3 [H.n+1,H.n+2] fE fF (aE w1 (show az E 68 (H.n+1) 0 (.agg (eC x.f).toArray) (cD H x)=some (cy H x) from cN ct rfl rfl rfl rfl) (show az E 70 (H.n+2) 0 (.agg #[ai 32,ai 33,ai 34,ai 35,ai 36,ai 37,ai 38]) (cE H x)=some (bR H x) from cN dx rfl rfl rfl rfl) ag ag w2 ag h1<|aE ag ag ag w2 ag h2 ag ag<|aE ag w3 ag c1 ag ag ag ag<|aE ag w4 ag w5 ag w6 w7 ag<|aE (show aq E 69 (H.n+2) (0+(x.f.k-1).toNat*1) H1=some (ai 33) from bQ dN cx (show ([ai 32,ai 33,ai 34,ai 35,ai 36,ai 37,ai 38]:List Value)[0+(x.f.k-1).toNat*1]?=_ by rw [hk] <;> rfl)) ag w8 ag c2 ag ag ag<|cU w9 c3 aS)) aG aM (by rw [cK,gh,h1,h2,ei,XD hk,ig,tg] <;> rfl)
      ·have xS:H2.n+0≤H3.n:=gB.n
       exact aD.mk y (dj (DK x H H1 H2 [.call (.bool false) H3 [],au 1]) (.bool true) H3 [H.n+1,H.n+2] fE fF (aE w1 (show az E 68 (H.n+1) 0 (.agg (eC x.f).toArray) (cD H x)=some (cy H x) from cN ct rfl rfl rfl rfl) (show az E 70 (H.n+2) 0 (.agg #[ai 32,ai 33,ai 34,ai 35,ai 36,ai 37,ai 38]) (cE H x)=some (bR H x) from cN dx rfl rfl rfl rfl) ag ag w2 ag h1<|aE ag ag ag w2 ag h2 ag ag<|aE ag w3 ag c1 ag ag ag ag<|aE ag w4 ag w5 ag w6 w7 ag<|aE (show aq E 69 (H.n+2) (0+(x.f.k-1).toNat*1) H1=some (ai 33) from bQ dN cx (show ([ai 32,ai 33,ai 34,ai 35,ai 36,ai 37,ai 38]:List Value)[0+(x.f.k-1).toNat*1]?=_ by rw [hk] <;> rfl)) ag w8 ag c2 ag ag ag<|cU w9 c3 aS)) aG aM (by rw [cK,gh,h1,h2,ei,XD hk,ig,tg] <;> rfl)
     ·have jI:H1.n+0≤H2.n:=dc.n
      exact aD.mk y (dj (ey x H H1 [vl (ai 33) H1,vl (.agg (eC x.f).toArray) H1,.call (.bool false) H2 [],au 2]) (.bool false) H2 [H.n+1,H.n+2] fE fF (aE w1 (show az E 68 (H.n+1) 0 (.agg (eC x.f).toArray) (cD H x)=some (cy H x) from cN ct rfl rfl rfl rfl) (show az E 70 (H.n+2) 0 (.agg #[ai 32,ai 33,ai 34,ai 35,ai 36,ai 37,ai 38]) (cE H x)=some (bR H x) from cN dx rfl rfl rfl rfl) ag ag w2 ag h1<|aE ag ag ag w2 ag h2 ag ag<|aE ag w3 ag c1 ag ag ag ag<|aE ag w4 ag w5 ag w6 w7 ag<|aE (show aq E 69 (H.n+2) (0+(x.f.k-1).toNat*1) H1=some (ai 33) from bQ dN cx (show ([ai 32,ai 33,ai 34,ai 35,ai 36,ai 37,ai 38]:List Value)[0+(x.f.k-1).toNat*1]?=_ by rw [hk] <;> rfl)) ag w8 ag c2 ag ag ag aS)) aG aM (by rw [cK,gh,h1,h2,ei,XD hk,ig] <;> rfl)
    ·have w8:aq E 68 (H.n+1) 0 H1=some (.agg (eC x.f).toArray):=o7 jj ct cV rfl rfl
     obtain ⟨_,H2,c2,dc,y2,oP⟩:=iL (Sl x X hx a hz y1)
     rcases oP with ⟨rfl,ig⟩ |⟨rfl,ig⟩
     ·have jI:H1.n+0≤H2.n:=dc.n
      have bI:=y1.kept dc aH bz
      have w9:aq E 25 (H.n+0) 12 H2=some (.slice x.f.pk x.f.nk x.f.ck):=bQ di bI rfl
      obtain ⟨_,H3,c3,gB,y3,AU⟩:=iL (B0 x X hx a qR y2)
      rcases AU with ⟨rfl,tg⟩ |⟨rfl,tg⟩
      ·have xS:H2.n+0≤H3.n:=gB.n
       exact aD.mk y (dj (DL x H H1 H2 [.call (.bool true) H3 [],au 1]) (.bool false) H3 [H.n+1,H.n+2] fE fF (aE w1 (show az E 68 (H.n+1) 0 (.agg (eC x.f).toArray) (cD H x)=some (cy H x) from cN ct rfl rfl rfl rfl) (show az E 70 (H.n+2) 0 (.agg #[ai 32,ai 33,ai 34,ai 35,ai 36,ai 37,ai 38]) (cE H x)=some (bR H x) from cN dx rfl rfl rfl rfl) ag ag w2 ag h1<|aE ag ag ag w2 ag h2 ag ag<|aE ag w3 ag c1 ag ag ag ag<|aE ag w4 ag w5 ag w6 w7 ag<|aE (show aq E 69 (H.n+2) (0+(x.f.k-1).toNat*1) H1=some (ai 34) from bQ dN cx (show ([ai 32,ai 33,ai 34,ai 35,ai 36,ai 37,ai 38]:List Value)[0+(x.f.k-1).toNat*1]?=_ by rw [hk] <;> rfl)) ag w8 ag c2 ag ag ag<|cU w9 c3 aS)) aG aM (by rw [cK,gh,h1,h2,ei,XE hk,ig,tg] <;> rfl)
      ·have xS:H2.n+0≤H3.n:=gB.n
       exact aD.mk y (dj (DL x H H1 H2 [.call (.bool false) H3 [],au 1]) (.bool true) H3 [H.n+1,H.n+2] fE fF (aE w1 (show az E 68 (H.n+1) 0 (.agg (eC x.f).toArray) (cD H x)=some (cy H x) from cN ct rfl rfl rfl rfl) (show az E 70 (H.n+2) 0 (.agg #[ai 32,ai 33,ai 34,ai 35,ai 36,ai 37,ai 38]) (cE H x)=some (bR H x) from cN dx rfl rfl rfl rfl) ag ag w2 ag h1<|aE ag ag ag w2 ag h2 ag ag<|aE ag w3 ag c1 ag ag ag ag<|aE ag w4 ag w5 ag w6 w7 ag<|aE (show aq E 69 (H.n+2) (0+(x.f.k-1).toNat*1) H1=some (ai 34) from bQ dN cx (show ([ai 32,ai 33,ai 34,ai 35,ai 36,ai 37,ai 38]:List Value)[0+(x.f.k-1).toNat*1]?=_ by rw [hk] <;> rfl)) ag w8 ag c2 ag ag ag<|cU w9 c3 aS)) aG aM (by rw [cK,gh,h1,h2,ei,XE hk,ig,tg] <;> rfl)
     ·have jI:H1.n+0≤H2.n:=dc.n
      exact aD.mk y (dj (ey x H H1 [vl (ai 34) H1,vl (.agg (eC x.f).toArray) H1,.call (.bool false) H2 [],au 2]) (.bool false) H2 [H.n+1,H.n+2] fE fF (aE w1 (show az E 68 (H.n+1) 0 (.agg (eC x.f).toArray) (cD H x)=some (cy H x) from cN ct rfl rfl rfl rfl) (show az E 70 (H.n+2) 0 (.agg #[ai 32,ai 33,ai 34,ai 35,ai 36,ai 37,ai 38]) (cE H x)=some (bR H x) from cN dx rfl rfl rfl rfl) ag ag w2 ag h1<|aE ag ag ag w2 ag h2 ag ag<|aE ag w3 ag c1 ag ag ag ag<|aE ag w4 ag w5 ag w6 w7 ag<|aE (show aq E 69 (H.n+2) (0+(x.f.k-1).toNat*1) H1=some (ai 34) from bQ dN cx (show ([ai 32,ai 33,ai 34,ai 35,ai 36,ai 37,ai 38]:List Value)[0+(x.f.k-1).toNat*1]?=_ by rw [hk] <;> rfl)) ag w8 ag c2 ag ag ag aS)) aG aM (by rw [cK,gh,h1,h2,ei,XE hk,ig] <;> rfl)
    ·have w8:aq E 68 (H.n+1) 0 H1=some (.agg (eC x.f).toArray):=o7 jj ct cV rfl rfl
     obtain ⟨_,H2,c2,dc,y2,oP⟩:=iL (Si x X hx a hz y1)
     rcases oP with ⟨rfl,ig⟩ |⟨rfl,ig⟩
     ·have jI:H1.n+0≤H2.n:=dc.n
      have bI:=y1.kept dc aH bz
      have w9:aq E 25 (H.n+0) 12 H2=some (.slice x.f.pk x.f.nk x.f.ck):=bQ di bI rfl
      obtain ⟨_,H3,c3,gB,y3,AU⟩:=iL (B0 x X hx a qR y2)
      rcases AU with ⟨rfl,tg⟩ |⟨rfl,tg⟩
      ·have xS:H2.n+0≤H3.n:=gB.n
       exact aD.mk y (dj (DM x H H1 H2 [.call (.bool true) H3 [],au 1]) (.bool false) H3 [H.n+1,H.n+2] fE fF (aE w1 (show az E 68 (H.n+1) 0 (.agg (eC x.f).toArray) (cD H x)=some (cy H x) from cN ct rfl rfl rfl rfl) (show az E 70 (H.n+2) 0 (.agg #[ai 32,ai 33,ai 34,ai 35,ai 36,ai 37,ai 38]) (cE H x)=some (bR H x) from cN dx rfl rfl rfl rfl) ag ag w2 ag h1<|aE ag ag ag w2 ag h2 ag ag<|aE ag w3 ag c1 ag ag ag ag<|aE ag w4 ag w5 ag w6 w7 ag<|aE (show aq E 69 (H.n+2) (0+(x.f.k-1).toNat*1) H1=some (ai 35) from bQ dN cx (show ([ai 32,ai 33,ai 34,ai 35,ai 36,ai 37,ai 38]:List Value)[0+(x.f.k-1).toNat*1]?=_ by rw [hk] <;> rfl)) ag w8 ag c2 ag ag ag<|cU w9 c3 aS)) aG aM (by rw [cK,gh,h1,h2,ei,XF hk,ig,tg] <;> rfl)
      ·have xS:H2.n+0≤H3.n:=gB.n
       exact aD.mk y (dj (DM x H H1 H2 [.call (.bool false) H3 [],au 1]) (.bool true) H3 [H.n+1,H.n+2] fE fF (aE w1 (show az E 68 (H.n+1) 0 (.agg (eC x.f).toArray) (cD H x)=some (cy H x) from cN ct rfl rfl rfl rfl) (show az E 70 (H.n+2) 0 (.agg #[ai 32,ai 33,ai 34,ai 35,ai 36,ai 37,ai 38]) (cE H x)=some (bR H x) from cN dx rfl rfl rfl rfl) ag ag w2 ag h1<|aE ag ag ag w2 ag h2 ag ag<|aE ag w3 ag c1 ag ag ag ag<|aE ag w4 ag w5 ag w6 w7 ag<|aE (show aq E 69 (H.n+2) (0+(x.f.k-1).toNat*1) H1=some (ai 35) from bQ dN cx (show ([ai 32,ai 33,ai 34,ai 35,ai 36,ai 37,ai 38]:List Value)[0+(x.f.k-1).toNat*1]?=_ by rw [hk] <;> rfl)) ag w8 ag c2 ag ag ag<|cU w9 c3 aS)) aG aM (by rw [cK,gh,h1,h2,ei,XF hk,ig,tg] <;> rfl)
     ·have jI:H1.n+0≤H2.n:=dc.n
      exact aD.mk y (dj (ey x H H1 [vl (ai 35) H1,vl (.agg (eC x.f).toArray) H1,.call (.bool false) H2 [],au 2]) (.bool false) H2 [H.n+1,H.n+2] fE fF (aE w1 (show az E 68 (H.n+1) 0 (.agg (eC x.f).toArray) (cD H x)=some (cy H x) from cN ct rfl rfl rfl rfl) (show az E 70 (H.n+2) 0 (.agg #[ai 32,ai 33,ai 34,ai 35,ai 36,ai 37,ai 38]) (cE H x)=some (bR H x) from cN dx rfl rfl rfl rfl) ag ag w2 ag h1<|aE ag ag ag w2 ag h2 ag ag<|aE ag w3 ag c1 ag ag ag ag<|aE ag w4 ag w5 ag w6 w7 ag<|aE (show aq E 69 (H.n+2) (0+(x.f.k-1).toNat*1) H1=some (ai 35) from bQ dN cx (show ([ai 32,ai 33,ai 34,ai 35,ai 36,ai 37,ai 38]:List Value)[0+(x.f.k-1).toNat*1]?=_ by rw [hk] <;> rfl)) ag w8 ag c2 ag ag ag aS)) aG aM (by rw [cK,gh,h1,h2,ei,XF hk,ig] <;> rfl)
    ·have w8:aq E 68 (H.n+1) 0 H1=some (.agg (eC x.f).toArray):=o7 jj ct cV rfl rfl
     obtain ⟨_,H2,c2,dc,y2,oP⟩:=iL (OK x X hx a hz y1)
     rcases oP with ⟨rfl,ig⟩ |⟨rfl,ig⟩
     ·have jI:H1.n+0≤H2.n:=dc.n
      have bI:=y1.kept dc aH bz
      have w9:aq E 25 (H.n+0) 12 H2=some (.slice x.f.pk x.f.nk x.f.ck):=bQ di bI rfl
      obtain ⟨_,H3,c3,gB,y3,AU⟩:=iL (B0 x X hx a qR y2)
      rcases AU with ⟨rfl,tg⟩ |⟨rfl,tg⟩
      ·have xS:H2.n+0≤H3.n:=gB.n
       exact aD.mk y (dj (DN x H H1 H2 [.call (.bool true) H3 [],au 1]) (.bool false) H3 [H.n+1,H.n+2] fE fF (aE w1 (show az E 68 (H.n+1) 0 (.agg (eC x.f).toArray) (cD H x)=some (cy H x) from cN ct rfl rfl rfl rfl) (show az E 70 (H.n+2) 0 (.agg #[ai 32,ai 33,ai 34,ai 35,ai 36,ai 37,ai 38]) (cE H x)=some (bR H x) from cN dx rfl rfl rfl rfl) ag ag w2 ag h1<|aE ag ag ag w2 ag h2 ag ag<|aE ag w3 ag c1 ag ag ag ag<|aE ag w4 ag w5 ag w6 w7 ag<|aE (show aq E 69 (H.n+2) (0+(x.f.k-1).toNat*1) H1=some (ai 36) from bQ dN cx (show ([ai 32,ai 33,ai 34,ai 35,ai 36,ai 37,ai 38]:List Value)[0+(x.f.k-1).toNat*1]?=_ by rw [hk] <;> rfl)) ag w8 ag c2 ag ag ag<|cU w9 c3 aS)) aG aM (by rw [cK,gh,h1,h2,ei,XG hk,ig,tg] <;> rfl)
      ·have xS:H2.n+0≤H3.n:=gB.n
       exact aD.mk y (dj (DN x H H1 H2 [.call (.bool false) H3 [],au 1]) (.bool true) H3 [H.n+1,H.n+2] fE fF (aE w1 (show az E 68 (H.n+1) 0 (.agg (eC x.f).toArray) (cD H x)=some (cy H x) from cN ct rfl rfl rfl rfl) (show az E 70 (H.n+2) 0 (.agg #[ai 32,ai 33,ai 34,ai 35,ai 36,ai 37,ai 38]) (cE H x)=some (bR H x) from cN dx rfl rfl rfl rfl) ag ag w2 ag h1<|aE ag ag ag w2 ag h2 ag ag<|aE ag w3 ag c1 ag ag ag ag<|aE ag w4 ag w5 ag w6 w7 ag<|aE (show aq E 69 (H.n+2) (0+(x.f.k-1).toNat*1) H1=some (ai 36) from bQ dN cx (show ([ai 32,ai 33,ai 34,ai 35,ai 36,ai 37,ai 38]:List Value)[0+(x.f.k-1).toNat*1]?=_ by rw [hk] <;> rfl)) ag w8 ag c2 ag ag ag<|cU w9 c3 aS)) aG aM (by rw [cK,gh,h1,h2,ei,XG hk,ig,tg] <;> rfl)
     ·have jI:H1.n+0≤H2.n:=dc.n
      exact aD.mk y (dj (ey x H H1 [vl (ai 36) H1,vl (.agg (eC x.f).toArray) H1,.call (.bool false) H2 [],au 2]) (.bool false) H2 [H.n+1,H.n+2] fE fF (aE w1 (show az E 68 (H.n+1) 0 (.agg (eC x.f).toArray) (cD H x)=some (cy H x) from cN ct rfl rfl rfl rfl) (show az E 70 (H.n+2) 0 (.agg #[ai 32,ai 33,ai 34,ai 35,ai 36,ai 37,ai 38]) (cE H x)=some (bR H x) from cN dx rfl rfl rfl rfl) ag ag w2 ag h1<|aE ag ag ag w2 ag h2 ag ag<|aE ag w3 ag c1 ag ag ag ag<|aE ag w4 ag w5 ag w6 w7 ag<|aE (show aq E 69 (H.n+2) (0+(x.f.k-1).toNat*1) H1=some (ai 36) from bQ dN cx (show ([ai 32,ai 33,ai 34,ai 35,ai 36,ai 37,ai 38]:List Value)[0+(x.f.k-1).toNat*1]?=_ by rw [hk] <;> rfl)) ag w8 ag c2 ag ag ag aS)) aG aM (by rw [cK,gh,h1,h2,ei,XG hk,ig] <;> rfl)
    ·have w8:aq E 68 (H.n+1) 0 H1=some (.agg (eC x.f).toArray):=o7 jj ct cV rfl rfl
     obtain ⟨_,H2,c2,dc,y2,oP⟩:=iL (Sk x X hx a hz y1)
     rcases oP with ⟨rfl,ig⟩ |⟨rfl,ig⟩
     ·have jI:H1.n+0≤H2.n:=dc.n
      have bI:=y1.kept dc aH bz
      have w9:aq E 25 (H.n+0) 12 H2=some (.slice x.f.pk x.f.nk x.f.ck):=bQ di bI rfl
      obtain ⟨_,H3,c3,gB,y3,AU⟩:=iL (B0 x X hx a qR y2)
      rcases AU with ⟨rfl,tg⟩ |⟨rfl,tg⟩
      ·have xS:H2.n+0≤H3.n:=gB.n
       exact aD.mk y (dj (DO x H H1 H2 [.call (.bool true) H3 [],au 1]) (.bool false) H3 [H.n+1,H.n+2] fE fF (aE w1 (show az E 68 (H.n+1) 0 (.agg (eC x.f).toArray) (cD H x)=some (cy H x) from cN ct rfl rfl rfl rfl) (show az E 70 (H.n+2) 0 (.agg #[ai 32,ai 33,ai 34,ai 35,ai 36,ai 37,ai 38]) (cE H x)=some (bR H x) from cN dx rfl rfl rfl rfl) ag ag w2 ag h1<|aE ag ag ag w2 ag h2 ag ag<|aE ag w3 ag c1 ag ag ag ag<|aE ag w4 ag w5 ag w6 w7 ag<|aE (show aq E 69 (H.n+2) (0+(x.f.k-1).toNat*1) H1=some (ai 37) from bQ dN cx (show ([ai 32,ai 33,ai 34,ai 35,ai 36,ai 37,ai 38]:List Value)[0+(x.f.k-1).toNat*1]?=_ by rw [hk] <;> rfl)) ag w8 ag c2 ag ag ag<|cU w9 c3 aS)) aG aM (by rw [cK,gh,h1,h2,ei,PE hk,ig,tg] <;> rfl)
      ·have xS:H2.n+0≤H3.n:=gB.n
       exact aD.mk y (dj (DO x H H1 H2 [.call (.bool false) H3 [],au 1]) (.bool true) H3 [H.n+1,H.n+2] fE fF (aE w1 (show az E 68 (H.n+1) 0 (.agg (eC x.f).toArray) (cD H x)=some (cy H x) from cN ct rfl rfl rfl rfl) (show az E 70 (H.n+2) 0 (.agg #[ai 32,ai 33,ai 34,ai 35,ai 36,ai 37,ai 38]) (cE H x)=some (bR H x) from cN dx rfl rfl rfl rfl) ag ag w2 ag h1<|aE ag ag ag w2 ag h2 ag ag<|aE ag w3 ag c1 ag ag ag ag<|aE ag w4 ag w5 ag w6 w7 ag<|aE (show aq E 69 (H.n+2) (0+(x.f.k-1).toNat*1) H1=some (ai 37) from bQ dN cx (show ([ai 32,ai 33,ai 34,ai 35,ai 36,ai 37,ai 38]:List Value)[0+(x.f.k-1).toNat*1]?=_ by rw [hk] <;> rfl)) ag w8 ag c2 ag ag ag<|cU w9 c3 aS)) aG aM (by rw [cK,gh,h1,h2,ei,PE hk,ig,tg] <;> rfl)
     ·have jI:H1.n+0≤H2.n:=dc.n
      exact aD.mk y (dj (ey x H H1 [vl (ai 37) H1,vl (.agg (eC x.f).toArray) H1,.call (.bool false) H2 [],au 2]) (.bool false) H2 [H.n+1,H.n+2] fE fF (aE w1 (show az E 68 (H.n+1) 0 (.agg (eC x.f).toArray) (cD H x)=some (cy H x) from cN ct rfl rfl rfl rfl) (show az E 70 (H.n+2) 0 (.agg #[ai 32,ai 33,ai 34,ai 35,ai 36,ai 37,ai 38]) (cE H x)=some (bR H x) from cN dx rfl rfl rfl rfl) ag ag w2 ag h1<|aE ag ag ag w2 ag h2 ag ag<|aE ag w3 ag c1 ag ag ag ag<|aE ag w4 ag w5 ag w6 w7 ag<|aE (show aq E 69 (H.n+2) (0+(x.f.k-1).toNat*1) H1=some (ai 37) from bQ dN cx (show ([ai 32,ai 33,ai 34,ai 35,ai 36,ai 37,ai 38]:List Value)[0+(x.f.k-1).toNat*1]?=_ by rw [hk] <;> rfl)) ag w8 ag c2 ag ag ag aS)) aG aM (by rw [cK,gh,h1,h2,ei,PE hk,ig] <;> rfl)
    ·have w8:aq E 68 (H.n+1) 0 H1=some (.agg (eC x.f).toArray):=o7 jj ct cV rfl rfl
     obtain ⟨_,H2,c2,dc,y2,oP⟩:=iL (Sj x X hx a hz y1)
     rcases oP with ⟨rfl,ig⟩ |⟨rfl,ig⟩
     ·have jI:H1.n+0≤H2.n:=dc.n
      have bI:=y1.kept dc aH bz
      have w9:aq E 25 (H.n+0) 12 H2=some (.slice x.f.pk x.f.nk x.f.ck):=bQ di bI rfl
      obtain ⟨_,H3,c3,gB,y3,AU⟩:=iL (B0 x X hx a qR y2)
      rcases AU with ⟨rfl,tg⟩ |⟨rfl,tg⟩
      ·have xS:H2.n+0≤H3.n:=gB.n
       exact aD.mk y (dj (DP x H H1 H2 [.call (.bool true) H3 [],au 1]) (.bool false) H3 [H.n+1,H.n+2] fE fF (aE w1 (show az E 68 (H.n+1) 0 (.agg (eC x.f).toArray) (cD H x)=some (cy H x) from cN ct rfl rfl rfl rfl) (show az E 70 (H.n+2) 0 (.agg #[ai 32,ai 33,ai 34,ai 35,ai 36,ai 37,ai 38]) (cE H x)=some (bR H x) from cN dx rfl rfl rfl rfl) ag ag w2 ag h1<|aE ag ag ag w2 ag h2 ag ag<|aE ag w3 ag c1 ag ag ag ag<|aE ag w4 ag w5 ag w6 w7 ag<|aE (show aq E 69 (H.n+2) (0+(x.f.k-1).toNat*1) H1=some (ai 38) from bQ dN cx (show ([ai 32,ai 33,ai 34,ai 35,ai 36,ai 37,ai 38]:List Value)[0+(x.f.k-1).toNat*1]?=_ by rw [hk] <;> rfl)) ag w8 ag c2 ag ag ag<|cU w9 c3 aS)) aG aM (by rw [cK,gh,h1,h2,ei,TE hk,ig,tg] <;> rfl)
      ·have xS:H2.n+0≤H3.n:=gB.n
       exact aD.mk y (dj (DP x H H1 H2 [.call (.bool false) H3 [],au 1]) (.bool true) H3 [H.n+1,H.n+2] fE fF (aE w1 (show az E 68 (H.n+1) 0 (.agg (eC x.f).toArray) (cD H x)=some (cy H x) from cN ct rfl rfl rfl rfl) (show az E 70 (H.n+2) 0 (.agg #[ai 32,ai 33,ai 34,ai 35,ai 36,ai 37,ai 38]) (cE H x)=some (bR H x) from cN dx rfl rfl rfl rfl) ag ag w2 ag h1<|aE ag ag ag w2 ag h2 ag ag<|aE ag w3 ag c1 ag ag ag ag<|aE ag w4 ag w5 ag w6 w7 ag<|aE (show aq E 69 (H.n+2) (0+(x.f.k-1).toNat*1) H1=some (ai 38) from bQ dN cx (show ([ai 32,ai 33,ai 34,ai 35,ai 36,ai 37,ai 38]:List Value)[0+(x.f.k-1).toNat*1]?=_ by rw [hk] <;> rfl)) ag w8 ag c2 ag ag ag<|cU w9 c3 aS)) aG aM (by rw [cK,gh,h1,h2,ei,TE hk,ig,tg] <;> rfl)
     ·have jI:H1.n+0≤H2.n:=dc.n
      exact aD.mk y (dj (ey x H H1 [vl (ai 38) H1,vl (.agg (eC x.f).toArray) H1,.call (.bool false) H2 [],au 2]) (.bool false) H2 [H.n+1,H.n+2] fE fF (aE w1 (show az E 68 (H.n+1) 0 (.agg (eC x.f).toArray) (cD H x)=some (cy H x) from cN ct rfl rfl rfl rfl) (show az E 70 (H.n+2) 0 (.agg #[ai 32,ai 33,ai 34,ai 35,ai 36,ai 37,ai 38]) (cE H x)=some (bR H x) from cN dx rfl rfl rfl rfl) ag ag w2 ag h1<|aE ag ag ag w2 ag h2 ag ag<|aE ag w3 ag c1 ag ag ag ag<|aE ag w4 ag w5 ag w6 w7 ag<|aE (show aq E 69 (H.n+2) (0+(x.f.k-1).toNat*1) H1=some (ai 38) from bQ dN cx (show ([ai 32,ai 33,ai 34,ai 35,ai 36,ai 37,ai 38]:List Value)[0+(x.f.k-1).toNat*1]?=_ by rw [hk] <;> rfl)) ag w8 ag c2 ag ag ag aS)) aG aM (by rw [cK,gh,h1,h2,ei,TE hk,ig] <;> rfl)
   ·have jq:H.n+3≤H1.n:=by have h:=bN.n;rw [bF] at h;exact h
    exact aD.mk y (dj (DI x H [.call (.bool false) H1 [],au 4]) (.bool false) H1 [H.n+1,H.n+2] fE fF (aE w1 (show az E 68 (H.n+1) 0 (.agg (eC x.f).toArray) (cD H x)=some (cy H x) from cN ct rfl rfl rfl rfl) (show az E 70 (H.n+2) 0 (.agg #[ai 32,ai 33,ai 34,ai 35,ai 36,ai 37,ai 38]) (cE H x)=some (bR H x) from cN dx rfl rfl rfl rfl) ag ag w2 ag h1<|aE ag ag ag w2 ag h2 ag ag<|aE ag w3 ag c1 ag ag ag ag<|cF ag aS)) aG aM (by rw [cK,gh,h1,h2,ei] <;> rfl)
theorem LK (x:Xp) (X:Hp) (hx:Gd E G X) (hs:jG X x):qB x→∀{H:Hp},Gd E X H→aD E X 20 [.agg (eC x.f).toArray] H [] (fun v _=>v=.bool (iW x)):=by
 induction hs with
 |@mk x a hk ih=>
  intro hf H y
  cases hf with
  |mk hz hf=>exact Zq x X hx a hz (fun k hk=>ih k hk (hf k hk)) y
noncomputable def fu (x:Xp):Bool:=decide (bE x≤64)&&iW x
theorem Ku:E.func 13=some Tryz.f13:=ah
theorem Kv:bO Tryz.f13 1=true:=ah
noncomputable abbrev AE (x:Xp) (H:Hp) (H1:Hp) (l_:List Hint):=au 1::vl (.agg (eC x.f).toArray) (oM H x)::.call (iI (bE x)) H1 []::aI::au 0::vl (.agg (eC x.f).toArray) H1::l_
theorem O8 (x:Xp) (X:Hp) (hx:Gd E G X) (hs:jG X x) (hf:qB x) {H:Hp} (y:Gd E X H):aD E X 13 [.agg (eC x.f).toArray] H [] (fun v H'=>v=.bool (fu x)):=by
 have w1:aq E 27 (H.n+0) 0 (oM H x)=some (.agg (eC x.f).toArray):=fQ bL aK rfl rfl rfl
 obtain ⟨_,H1,c1,bN,y1,rfl⟩:=SY x X hx hs (y.news [.cells (eC x.f) 27 false])
 have bz:=(y.news [.cells (eC x.f) 27 false]).kept bN aH (aB [.cells (eC x.f) 27 false] H 0 _ rfl)
 cases h1:(decide ((bE x)≤64)) with
 |true=>
  have w2:aq E 27 (H.n+0) 0 H1=some (.agg (eC x.f).toArray):=o7 bL aK bz rfl rfl
  obtain ⟨_,H2,c2,dc,y2,oP⟩:=iL (LK x X hx hs hf y1)
  rcases oP with ⟨rfl,ig⟩ |⟨rfl,ig⟩
  ·exact bA y (AE x H H1 [.call (.bool true) H2 [],au 1]) (.bool true) H2 Ku Kv (eM w1 c1 h1 w2 c2 aS) (by rw [fu,h1,ig] <;> rfl)
  ·exact bA y (AE x H H1 [.call (.bool false) H2 [],au 1]) (.bool false) H2 Ku Kv (eM w1 c1 h1 w2 c2 aS) (by rw [fu,h1,ig] <;> rfl)
 |false=>
  exact bA y [au 1,vl (.agg (eC x.f).toArray) (oM H x),.call (iI (bE x)) H1 [],aF,au 2] (.bool false) H1 Ku Kv (eY w1 c1 h1 aS) (by rw [fu,h1] <;> rfl)
def gz (ks:List Int):List Value:=ks.map iI
theorem aa8 (ks:List Int):(gz ks).length=ks.length:=List.length_map ..
def kg (ks:List Int) (i:Nat):Int:=ks.getD i 0
theorem KS {ks:List Int} {i:Nat} (h:i<ks.length):ks[i]?=some (kg ks i)∧(gz ks)[i]?=some (iI (kg ks i)):=by
 have e:ks[i]?=some (kg ks i):=by rw [kg,List.getD_eq_getElem?_getD,bZ h];rfl
 exact ⟨e,by rw [gz,List.getElem?_map,e];rfl⟩
theorem Z7 {b off i:Nat} {H:Hp} {ks:List Int} {e t:TypeId} {ro:Bool} (ha:E.agg t=some false) (hb:H.get b=some (.cells (gz ks) e ro)) (hi:i<ks.length) (ho:off=i*1):aq E t b off H=some (iI (kg ks i)):=by
 subst ho
 exact bQ ha hb (by rw [Nat.mul_one];exact (KS hi).2)
def nF (v:Int):List Int→Bool
 |[]=>false
 |k::ks=>(v==k)||nF v ks
def Kn:List Int→List Int→Bool
 |[],[]=>true
 |a::us,b::bs=>!(a != b)&&Kn us bs
 |_,_=>false
theorem X5 {us bs:List Int} {i:Nat} {R:Bool} (ha:i<us.length) (hb:i<bs.length) (hR:Kn (us.drop i) (bs.drop i)=R) (h:(kg us i != kg bs i)=false):Kn (us.drop (i+1)) (bs.drop (i+1))=R:=by
 rw [drop_cons (KS ha).1,drop_cons (KS hb).1,Kn,h] at hR;exact hR
theorem X4 {us bs:List Int} {i:Nat} {R:Bool} (ha:i<us.length) (hb:i<bs.length) (hR:Kn (us.drop i) (bs.drop i)=R) (h:(kg us i != kg bs i)=true):R=false:=by
 rw [drop_cons (KS ha).1,drop_cons (KS hb).1,Kn,h] at hR;exact hR.symm
theorem T7 {us bs:List Int} {i:Nat} {R:Bool} (hR:Kn (us.drop i) (bs.drop i)=R) (ha:us.length≤i) (hb:bs.length≤i):R=true:=by
 rw [List.drop_of_length_le ha,List.drop_of_length_le hb] at hR;exact hR.symm
theorem Me:∀{us bs:List Int},us.length≠bs.length→Kn us bs=false
 |[],[],h=>absurd rfl h
 |[],_::_,_=>rfl
 |_::_,[],_=>rfl
 |a::us,b::bs,h=>by
  rw [Kn,Me (fun e=>h (by simp [e])),Bool.and_false]
def fC (f:Fe) (a b:Int):Int:=
 bif decide (mx a b>2) then 0 else bif f.bl&&!decide (f.op≤6) then 0 else
 bif (a==1)&&(b==1) then (bif decide (f.op≤6)&&!f.bl then 0 else bif decide (f.how>0) then 0 else mx a b) else
 bif a != b then (bif decide (f.how>0) then 0 else mx a b) else mx a b
def vY:List (ByteArray×List Int×Int):=
 [(⟨#[97,98,115]⟩,[2],2),(⟨#[116,105,109,101]⟩,[],1),(⟨#[118,101,99,116,111,114]⟩,[1],2),
  (⟨#[114,97,116,101]⟩,[3],2),(⟨#[105,110,99,114,101,97,115,101]⟩,[3],2),(⟨#[100,101,108,116,97]⟩,[3],2),
  (⟨#[115,117,109]⟩,[2],2),(⟨#[97,118,103]⟩,[2],2),(⟨#[109,105,110]⟩,[2],2),(⟨#[109,97,120]⟩,[2],2),(⟨#[99,111,117,110,116]⟩,[2],2),
  (⟨#[116,111,112,107]⟩,[1,2],2),(⟨#[98,111,116,116,111,109,107]⟩,[1,2],2)]
def oq (s:ByteArray):List (ByteArray×List Int×Int)→Option (List Int×Int)
 |[]=>none
 |e::l=>bif s==e.1 then some e.2 else oq s l
def Ah (s:ByteArray) (ks:List Int):Int:=match oq s vY with
 |none=>0
 |some (ts,g)=>bif Kn ts ks then g else 0
def kP (f:Fe) (ks:List Int):Int:=
 bif nF 0 ks then 0 else bif f.k==1 then 1 else bif f.k==2 then 4 else bif f.k==3 then (bif decide (f.wide>0) then 3 else 2) else
 bif f.k==6 then fC f (kg ks 0) (kg ks 1) else bif f.k==7 then (bif decide (kg ks 0>2) then 0 else kg ks 0) else Ah f.s ks
mutual
def bP:Xp→Int
 |.mk f _ _ kids=>kP f (jM kids)
def jM:List Xp→List Int
 |[]=>[]
 |x::xs=>bP x::jM xs
end
theorem dP (x:Xp):bP x=kP x.f (jM x.kids):=by cases x;rw [bP];rfl
theorem zx:∀ l:List Xp,(jM l).length=l.length
 |[]=>by rw [jM];rfl
 |x::l=>by rw [jM,List.length_cons,zx l,List.length_cons]
theorem Ca {kids:List Xp} {i:Nat} {x:Xp} {ks R:List Int} (h:kids[i]?=some x) (hR:ks++jM (kids.drop i)=R):(ks++[bP x])++jM (kids.drop (i+1))=R:=by
 rw [drop_cons h,jM] at hR;rw [List.append_assoc];exact hR
theorem Fw {kids:List Xp} {i:Nat} {ks R:List Int} (hR:ks++jM (kids.drop i)=R) (h:kids.length≤i):R=ks:=by
 rw [List.drop_of_length_le h,jM,List.append_nil] at hR;exact hR.symm
theorem aa9 (ks:List Int) (v:Int):((gz ks).drop 0).take (ks.length*1)++[iI v]=gz (ks++[v]):=by
 rw [List.drop_zero,List.take_of_length_le (by rw [aa8];omega)]
 simp [gz]
theorem RF (ks:List Int) (v:Int):(ks++[v]).length=ks.length+1:=by simp
def Forms (H:Hp) (m:Nat):Prop:=∀ s,(oq s vY=none∧gZ E 50 (.map (some m)) (.string s) true H=some (.tuple #[.agg #[.slice none 0 0,iI 0],.bool false],H,[],[m]))∨
 ∃(p:Option Addr) (n c:Nat) (ts:List Int) (g:Int),oq s vY=some (ts,g)∧gZ E 50 (.map (some m)) (.string s) true H=some (.tuple #[.agg #[.slice p n c,iI g],.bool true],H,[],[m])∧gU H p n (gz ts)∧n=ts.length∧n<3
noncomputable def NZ:Code:=cz [1,0,1,0,0] (bH Tryz.f42)
theorem RA (p:Option Addr) (n:Nat) (c:Nat) (ts:List Int) (v:Int) (R:Bool):∀(m:Nat) (x8:Int) (H:Hp),Gd E G H→(hr:gU H p n (gz ts))→(hn:n=ts.length)→(hb:n<281474976710656)→(x0:0≤x8)→(hR:nF v (ts.drop x8.toNat)=R)→((n:Int)-x8).toNat=m→
  aA E G 19 NZ [(0,.slice p n c),(1,iI v),(7,iI ((n:Nat):Int)),(8,iI x8)] H [] (fun x T H'=>(x=(.exit 0)∧T=bw []∧(R=false))∨(x=.ret∧∃(z4:Int),T=bw [(4,iI z4)]∧((R=true)∧(0≤z4)))):=by
 intro m
 induction m using Nat.strongRecOn with
 |_ m ih=>
 intro x8 H y hr hn hb x0 hR hm
 cases h1:(decide (x8<((n:Nat):Int))) with
 |true=>
  have q1:=aL h1
  obtain ⟨d1,HG,t1,hY,lM⟩:=hr.open aa
  have w1:aq E 3 d1 (0+x8.toNat*1) H=some (iI (kg ts x8.toNat)):=Z7 aR lM aa aa
  cases h2:(v==(kg ts x8.toNat)) with
  |true=>
   exact aA.last' y (bf [aI,au 4,vl (pt d1 (0+x8.toNat*1)) H,vl (iI (kg ts x8.toNat)) H,aI,au 1] [(4,iI x8)] .ret H [] (fun _ r_=>gm h1 (show aN E 44 (.slice p n c) (iI x8)=some (pt d1 (0+x8.toNat*1)) from jA oh bY hY aa aa) w1 h2 r_)) aj aM aM (.inr (⟨rfl,x8,rfl,⟨ya (F:=nF v) (g:=fun k=>v==k) (fun _ _=>rfl) (KS (ks:=ts) (i:=x8.toNat) aa).1 hR h2,by omega⟩⟩))
  |false=>
   have q2:=bK h2
   have w2:=aC (x8+1)
   exact aA.next' y (bf [aI,au 4,vl (pt d1 (0+x8.toNat*1)) H,vl (iI (kg ts x8.toNat)) H,aF,.as (iI (x8+1)),au 0] [(0,.slice p n c),(1,iI v),(7,iI ((n:Nat):Int)),(8,iI (x8+1))] .normal H [] (fun _ r_=>eM h1 (show aN E 44 (.slice p n c) (iI x8)=some (pt d1 (0+x8.toNat*1)) from jA oh bY hY aa aa) w1 h2 w2 r_)) aM (ih _ aa (x8+1) _ y hr hn hb aa (by rw [dh aa];exact (By (F:=nF v) (g:=fun k=>v==k) (fun _ _=>rfl) (KS (ks:=ts) (i:=x8.toNat) aa).1 hR h2)) rfl)
 |false=>
  have q1:=aQ h1
  exact aA.last' y (bf [aF] [] (.exit 0) H [] (fun _ r_=>cF h1 r_)) aj aM aM (.inl (⟨rfl,rfl,xZ (F:=nF v) rfl hR aa⟩))
theorem QD:E.func 42=some Tryz.f42:=ah
theorem QE:bO Tryz.f42 2=true:=ah
theorem Om (p:Option Addr) (n:Nat) (c:Nat) (ts:List Int) (v:Int) {H:Hp} (y:Gd E G H) (hr:gU H p n (gz ts)) (hn:n=ts.length) (hb:n<281474976710656):aD E G 42 [.slice p n c,iI v] H [] (fun u H'=>(∃ n:Int,u=iI n∧0≤n∧nF v ts=true)∨(u=iI (-1)∧nF v ts=false)):=by
 obtain ⟨_,_,H1,c1,bN,y1,eD⟩:=(RA p n c ts v (nF v ts) _ 0 _ y hr hn hb aa rfl rfl).code
 rcases eD with ⟨rfl,rfl,cw⟩ |⟨rfl,cL,rfl,cw,iX⟩
 ·exact bA y [au 3,.loop [0,1,7,8] (.exit 0) (bw []) H1 [],au 0] (iI (-1)) H1 QD QE (cF c1 aS) (.inr ⟨rfl,cw⟩)
 ·exact bA y [au 3,.loop [0,1,7,8] .ret (bw [(4,iI cL)]) H1 []] (iI cL) H1 QD QE (cF c1 aS) (.inl ⟨_,rfl,iX,cw⟩)
theorem Qq:E.func 21=some Tryz.f21:=ah
theorem Qr:bO Tryz.f21 2=true:=ah
theorem Ni (p:Option Addr) (n:Nat) (c:Nat) (ts:List Int) (v:Int) {H:Hp} (y:Gd E G H) (hr:gU H p n (gz ts)) (hn:n=ts.length) (hb:n<281474976710656):aD E G 21 [.slice p n c,iI v] H [] (fun u H'=>u=.bool (nF v ts)):=by
 obtain ⟨_,H1,c1,bN,y1,eD⟩:=Om p n c ts v y hr hn hb
 rcases eD with ⟨NJ,rfl,Nh,ei⟩ |⟨rfl,ei⟩
 ·have w1:(decide (NJ≥0))=true:=decide_eq_true aa
  exact bA y [au 2,.call (iI NJ) H1 [],aI,au 0] (.bool true) H1 Qq Qr (cU c1 w1 aS) (by rw [ei])
 ·exact bA y [au 2,.call (iI (-1)) H1 [],au 1] (.bool false) H1 Qq Qr (cF c1 aS) (by rw [ei])
noncomputable def Iy:Code:=cz [1,1,0,1,0,0] (bH Tryz.f24)
theorem KV (p:Option Addr) (n:Nat) (c:Nat) (ts:List Int) (p2:Option Addr) (n2:Nat) (c2:Nat) (us:List Int) (R:Bool):∀(m:Nat) (lK:Int) (H:Hp),Gd E G H→(hr:gU H p n (gz ts))→(hn:n=ts.length)→(hb:n<281474976710656)→(YB:gU H p2 n2 (gz us))→(hn2:n2=us.length)→(Yy:n=n2)→(x0:0≤lK)→(hR:Kn (ts.drop lK.toNat) (us.drop lK.toNat)=R)→((n:Int)-lK).toNat=m→
  aA E G 26 Iy [(0,.slice p n c),(1,.slice p2 n2 c2),(12,iI ((n:Nat):Int)),(13,iI lK)] H [] (fun x T H'=>(x=(.exit 0)∧T=bw []∧(R=true))∨(x=.ret∧T=bw [(4,.bool false)]∧(R=false))):=by
 intro m
 induction m using Nat.strongRecOn with
 |_ m ih=>
 intro lK H y hr hn hb YB hn2 Yy x0 hR hm
 cases h1:(decide (lK<((n:Nat):Int))) with
 |true=>
  have q1:=aL h1
  obtain ⟨d1,HG,t1,hY,lM⟩:=hr.open aa
  have w1:aq E 3 d1 (0+lK.toNat*1) H=some (iI (kg ts lK.toNat)):=Z7 aR lM aa aa
  obtain ⟨d2,Pv,t2,eo2,hd2⟩:=YB.open aa
  have w2:aq E 3 d2 (0+lK.toNat*1) H=some (iI (kg us lK.toNat)):=Z7 aR hd2 aa aa
  cases h2:((kg ts lK.toNat) != (kg us lK.toNat)) with
  |true=>
   exact aA.last' y (bf [aI,au 3,vl (pt d1 (0+lK.toNat*1)) H,vl (iI (kg ts lK.toNat)) H,au 1,vl (pt d2 (0+lK.toNat*1)) H,vl (iI (kg us lK.toNat)) H,aI,au 0] [(4,.bool false)] .ret H [] (fun _ r_=>aE h1 ag ag ag (show aN E 44 (.slice p n c) (iI lK)=some (pt d1 (0+lK.toNat*1)) from jA oh bY hY aa aa) ag w1 ag<|aE ag ag (show aN E 44 (.slice p2 n2 c2) (iI lK)=some (pt d2 (0+lK.toNat*1)) from jA oh bY eo2 aa aa) ag w2 ag h2 ag r_)) aj aM aM (.inr (⟨rfl,rfl,X4 aa aa hR h2⟩))
  |false=>
   have w3:=aC (lK+1)
   exact aA.next' y (bf [aI,au 3,vl (pt d1 (0+lK.toNat*1)) H,vl (iI (kg ts lK.toNat)) H,au 1,vl (pt d2 (0+lK.toNat*1)) H,vl (iI (kg us lK.toNat)) H,aF,.as (iI (lK+1)),au 0] [(0,.slice p n c),(1,.slice p2 n2 c2),(12,iI ((n:Nat):Int)),(13,iI (lK+1))] .normal H [] (fun _ r_=>aE h1 ag ag ag (show aN E 44 (.slice p n c) (iI lK)=some (pt d1 (0+lK.toNat*1)) from jA oh bY hY aa aa) ag w1 ag<|aE ag ag (show aN E 44 (.slice p2 n2 c2) (iI lK)=some (pt d2 (0+lK.toNat*1)) from jA oh bY eo2 aa aa) ag w2 ag h2 ag<|cF w3 r_)) aM (ih _ aa (lK+1) _ y hr hn hb YB hn2 Yy aa (by rw [dh aa];exact (X5 aa aa hR h2)) rfl)
 |false=>
  have q1:=aQ h1
  exact aA.last' y (bf [aF] [] (.exit 0) H [] (fun _ r_=>cF h1 r_)) aj aM aM (.inl (⟨rfl,rfl,T7 hR aa aa⟩))
theorem Kw:E.func 24=some Tryz.f24:=ah
theorem Kx:bO Tryz.f24 2=true:=ah
theorem Ft (p:Option Addr) (n:Nat) (c:Nat) (ts:List Int) (p2:Option Addr) (n2:Nat) (c2:Nat) (us:List Int) {H:Hp} (y:Gd E G H) (hr:gU H p n (gz ts)) (hn:n=ts.length) (hb:n<281474976710656) (YB:gU H p2 n2 (gz us)) (hn2:n2=us.length):aD E G 24 [.slice p n c,.slice p2 n2 c2] H [] (fun u H'=>u=.bool (Kn ts us)):=by
 cases h1:(((n:Nat):Int) != ((n2:Nat):Int)) with
 |true=>
  have q1:=Iu h1
  exact bA y [au 4,aI,au 0] (.bool false) H Kw Kx (cF h1 aS) (by rw [Me aa])
 |false=>
  have q1:=Bz h1
  obtain ⟨_,_,H1,c1,bN,y1,eD⟩:=(KV p n c ts p2 n2 c2 us (Kn ts us) _ 0 _ y hr hn hb YB hn2 aa aa rfl rfl).code
  rcases eD with ⟨rfl,rfl,cw⟩ |⟨rfl,rfl,cw⟩
  ·exact bA y [au 4,aF,au 2,.loop [0,1,12,13] (.exit 0) (bw []) H1 [],au 0] (.bool true) H1 Kw Kx (cU h1 c1 aS) (by rw [cw])
  ·exact bA y [au 4,aF,au 2,.loop [0,1,12,13] .ret (bw [(4,.bool false)]) H1 []] (.bool false) H1 Kw Kx (cU h1 c1 aS) (by rw [cw])
theorem e8:E.func 22=some Tryz.f22:=ah
theorem e9:bO Tryz.f22 3=true:=ah
noncomputable abbrev aU H f:=news H [.cells (eC f) 27 false]
noncomputable abbrev mc (f:Fe) (H:Hp) (l_:List Hint):=au 2::vl (iI f.op) (aU H f)::aI::au 3::aF::au 1::vl (.bool true) (aU H f)::au 6::l_
noncomputable abbrev me (f:Fe) (H:Hp) (l_:List Hint):=au 2::vl (iI f.op) (aU H f)::aI::au 3::aF::au 1::vl (.bool false) (aU H f)::au 4::l_
noncomputable abbrev kJ (f:Fe) (H:Hp) (l_:List Hint):=au 2::vl (iI f.op) (aU H f)::aF::au 3::aF::au 1::vl (.bool false) (aU H f)::au 4::l_
noncomputable abbrev DQ (f:Fe) (H:Hp) (l_:List Hint):=mc f H (aI::au 1::aI::au 4::vl (.bool true) (aU H f)::au 2::vl (iI f.how) (aU H f)::l_)
noncomputable abbrev DS (f:Fe) (H:Hp) (l_:List Hint):=mc f H (aI::au 1::aF::au 3::aI::au 1::vl (iI f.how) (aU H f)::l_)
noncomputable abbrev DT (f:Fe) (H:Hp) (l_:List Hint):=me f H (aI::au 1::aF::au 3::aI::au 1::vl (iI f.how) (aU H f)::l_)
noncomputable abbrev DU (f:Fe) (H:Hp) (l_:List Hint):=kJ f H (aI::au 1::aF::au 3::aI::au 1::vl (iI f.how) (aU H f)::l_)
theorem NY (f:Fe) (X:Hp) (hx:Gd E G X) (u:Int) (v:Int) {H:Hp} (y:Gd E X H):aD E X 22 [.agg (eC f).toArray,iI u,iI v] H [] (fun w H'=>w=iI (fC f u v)):=by
 have w1:aq E 3 (H.n+0) 1 (aU H f)=some (iI f.op):=cI aR rfl rfl
 cases h1:(decide (f.op≤6)) with
 |true=>
  cases h2:(decide ((mx u v)>2)) with
  |true=>
   exact bA y [au 2,vl (iI f.op) (aU H f),aI,au 3,aI,au 3] (iI 0) (aU H f) e8 e9 (eY w1 h1 h2 aS) (by rw [fC,h1,h2] <;> rfl)
  |false=>
   have w2:aq E 4 (H.n+0) 11 (aU H f)=some (.bool f.bl):=cI kY rfl rfl
   cases h3:(f.bl) with
   |true=>
    cases h4:(u==1) with
    |true=>
     cases h5:(v==1) with
     |true=>
      have w3:aq E 3 (H.n+0) 9 (aU H f)=some (iI f.how):=cI aR rfl rfl
      cases h6:(decide (f.how>0)) with
      |true=>
       exact bA y (DQ f H [aI,au 0]) (iI 0) (aU H f) e8 e9 (aE w1 h1 h2 (w2.trans (congrArg (fun q=>some (Value.bool q)) h3)) h4 h5 (w2.trans (congrArg (fun q=>some (Value.bool q)) h3)) w3<|cF h6 aS) (by rw [fC,h1,h2,h3,h4,h5,h6] <;> rfl)
      |false=>
       exact bA y (DQ f H [aF,au 3]) (iI (mx u v)) (aU H f) e8 e9 (aE w1 h1 h2 (w2.trans (congrArg (fun q=>some (Value.bool q)) h3)) h4 h5 (w2.trans (congrArg (fun q=>some (Value.bool q)) h3)) w3<|cF h6 aS) (by rw [fC,h1,h2,h3,h4,h5,h6] <;> rfl)
     |false=>
      cases h6:(u != v) with
      |true=>
       have w3:aq E 3 (H.n+0) 9 (aU H f)=some (iI f.how):=cI aR rfl rfl
       cases h7:(decide (f.how>0)) with
       |true=>
        exact bA y (DS f H [aI,au 0]) (iI 0) (aU H f) e8 e9 (aE w1 h1 h2 (w2.trans (congrArg (fun q=>some (Value.bool q)) h3)) h4 h5 h6 w3<|cF h7 aS) (by rw [fC,h1,h2,h3,h4,h5,h6,h7] <;> rfl)
       |false=>
        exact bA y (DS f H [aF,au 3]) (iI (mx u v)) (aU H f) e8 e9 (aE w1 h1 h2 (w2.trans (congrArg (fun q=>some (Value.bool q)) h3)) h4 h5 h6 w3<|cF h7 aS) (by rw [fC,h1,h2,h3,h4,h5,h6,h7] <;> rfl)
      |false=>
       exact bA y (mc f H [aI,au 1,aF,au 3,aF,au 4]) (iI (mx u v)) (aU H f) e8 e9 (fk w1 h1 h2 (w2.trans (congrArg (fun q=>some (Value.bool q)) h3)) h4 h5 h6 aS) (by rw [fC,h1,h2,h3,h4,h5,h6] <;> rfl)
    |false=>
     cases h5:(u != v) with
     |true=>
      have w3:aq E 3 (H.n+0) 9 (aU H f)=some (iI f.how):=cI aR rfl rfl
      cases h6:(decide (f.how>0)) with
      |true=>
       exact bA y (mc f H [aF,au 4,aI,au 1,vl (iI f.how) (aU H f),aI,au 0]) (iI 0) (aU H f) e8 e9 (aE w1 h1 h2 (w2.trans (congrArg (fun q=>some (Value.bool q)) h3)) h4 h5 w3 h6 aS) (by rw [fC,h1,h2,h3,h4,h5,h6] <;> rfl)
      |false=>
       exact bA y (mc f H [aF,au 4,aI,au 1,vl (iI f.how) (aU H f),aF,au 3]) (iI (mx u v)) (aU H f) e8 e9 (aE w1 h1 h2 (w2.trans (congrArg (fun q=>some (Value.bool q)) h3)) h4 h5 w3 h6 aS) (by rw [fC,h1,h2,h3,h4,h5,h6] <;> rfl)
     |false=>
      exact bA y (mc f H [aF,au 4,aF,au 4]) (iI (mx u v)) (aU H f) e8 e9 (fG w1 h1 h2 (w2.trans (congrArg (fun q=>some (Value.bool q)) h3)) h4 h5 aS) (by rw [fC,h1,h2,h3,h4,h5] <;> rfl)
   |false=>
    cases h4:(u==1) with
    |true=>
     cases h5:(v==1) with
     |true=>
      exact bA y (me f H [aI,au 1,aI,au 4,vl (.bool false) (aU H f),au 2]) (iI 0) (aU H f) e8 e9 (fk w1 h1 h2 (w2.trans (congrArg (fun q=>some (Value.bool q)) h3)) h4 h5 (w2.trans (congrArg (fun q=>some (Value.bool q)) h3)) aS) (by rw [fC,h1,h2,h3,h4,h5] <;> rfl)
     |false=>
      cases h6:(u != v) with
      |true=>
       have w3:aq E 3 (H.n+0) 9 (aU H f)=some (iI f.how):=cI aR rfl rfl
       cases h7:(decide (f.how>0)) with
       |true=>
        exact bA y (DT f H [aI,au 0]) (iI 0) (aU H f) e8 e9 (aE w1 h1 h2 (w2.trans (congrArg (fun q=>some (Value.bool q)) h3)) h4 h5 h6 w3<|cF h7 aS) (by rw [fC,h1,h2,h3,h4,h5,h6,h7] <;> rfl)
       |false=>
        exact bA y (DT f H [aF,au 3]) (iI (mx u v)) (aU H f) e8 e9 (aE w1 h1 h2 (w2.trans (congrArg (fun q=>some (Value.bool q)) h3)) h4 h5 h6 w3<|cF h7 aS) (by rw [fC,h1,h2,h3,h4,h5,h6,h7] <;> rfl)
      |false=>
       exact bA y (me f H [aI,au 1,aF,au 3,aF,au 4]) (iI (mx u v)) (aU H f) e8 e9 (fk w1 h1 h2 (w2.trans (congrArg (fun q=>some (Value.bool q)) h3)) h4 h5 h6 aS) (by rw [fC,h1,h2,h3,h4,h5,h6] <;> rfl)
    |false=>
     cases h5:(u != v) with
     |true=>
      have w3:aq E 3 (H.n+0) 9 (aU H f)=some (iI f.how):=cI aR rfl rfl
      cases h6:(decide (f.how>0)) with
      |true=>
       exact bA y (me f H [aF,au 4,aI,au 1,vl (iI f.how) (aU H f),aI,au 0]) (iI 0) (aU H f) e8 e9 (aE w1 h1 h2 (w2.trans (congrArg (fun q=>some (Value.bool q)) h3)) h4 h5 w3 h6 aS) (by rw [fC,h1,h2,h3,h4,h5,h6] <;> rfl)
      |false=>
       exact bA y (me f H [aF,au 4,aI,au 1,vl (iI f.how) (aU H f),aF,au 3]) (iI (mx u v)) (aU H f) e8 e9 (aE w1 h1 h2 (w2.trans (congrArg (fun q=>some (Value.bool q)) h3)) h4 h5 w3 h6 aS) (by rw [fC,h1,h2,h3,h4,h5,h6] <;> rfl)
     |false=>
      exact bA y (me f H [aF,au 4,aF,au 4]) (iI (mx u v)) (aU H f) e8 e9 (fG w1 h1 h2 (w2.trans (congrArg (fun q=>some (Value.bool q)) h3)) h4 h5 aS) (by rw [fC,h1,h2,h3,h4,h5] <;> rfl)
 |false=>
  cases h2:(decide ((mx u v)>2)) with
  |true=>
   exact bA y [au 2,vl (iI f.op) (aU H f),aF,au 3,aI,au 3] (iI 0) (aU H f) e8 e9 (eY w1 h1 h2 aS) (by rw [fC,h1,h2] <;> rfl)
  |false=>
   have w2:aq E 4 (H.n+0) 11 (aU H f)=some (.bool f.bl):=cI kY rfl rfl
   cases h3:(f.bl) with
   |true=>
    exact bA y [au 2,vl (iI f.op) (aU H f),aF,au 3,aF,au 1,vl (.bool true) (aU H f),au 6] (iI 0) (aU H f) e8 e9 (gm w1 h1 h2 (w2.trans (congrArg (fun q=>some (Value.bool q)) h3)) aS) (by rw [fC,h1,h2,h3] <;> rfl)
   |false=>
    cases h4:(u==1) with
    |true=>
     cases h5:(v==1) with
     |true=>
      have w3:aq E 3 (H.n+0) 9 (aU H f)=some (iI f.how):=cI aR rfl rfl
      cases h6:(decide (f.how>0)) with
      |true=>
       exact bA y (kJ f H [aI,au 1,aI,au 5,vl (iI f.how) (aU H f),aI,au 0]) (iI 0) (aU H f) e8 e9 (aE w1 h1 h2 (w2.trans (congrArg (fun q=>some (Value.bool q)) h3)) h4 h5 w3 h6 aS) (by rw [fC,h1,h2,h3,h4,h5,h6] <;> rfl)
      |false=>
       exact bA y (kJ f H [aI,au 1,aI,au 5,vl (iI f.how) (aU H f),aF,au 3]) (iI (mx u v)) (aU H f) e8 e9 (aE w1 h1 h2 (w2.trans (congrArg (fun q=>some (Value.bool q)) h3)) h4 h5 w3 h6 aS) (by rw [fC,h1,h2,h3,h4,h5,h6] <;> rfl)
     |false=>
      cases h6:(u != v) with
      |true=>
       have w3:aq E 3 (H.n+0) 9 (aU H f)=some (iI f.how):=cI aR rfl rfl
       cases h7:(decide (f.how>0)) with
       |true=>
        exact bA y (DU f H [aI,au 0]) (iI 0) (aU H f) e8 e9 (aE w1 h1 h2 (w2.trans (congrArg (fun q=>some (Value.bool q)) h3)) h4 h5 h6 w3<|cF h7 aS) (by rw [fC,h1,h2,h3,h4,h5,h6,h7] <;> rfl)
       |false=>
        exact bA y (DU f H [aF,au 3]) (iI (mx u v)) (aU H f) e8 e9 (aE w1 h1 h2 (w2.trans (congrArg (fun q=>some (Value.bool q)) h3)) h4 h5 h6 w3<|cF h7 aS) (by rw [fC,h1,h2,h3,h4,h5,h6,h7] <;> rfl)
      |false=>
       exact bA y (kJ f H [aI,au 1,aF,au 3,aF,au 4]) (iI (mx u v)) (aU H f) e8 e9 (fk w1 h1 h2 (w2.trans (congrArg (fun q=>some (Value.bool q)) h3)) h4 h5 h6 aS) (by rw [fC,h1,h2,h3,h4,h5,h6] <;> rfl)
    |false=>
     cases h5:(u != v) with
     |true=>
      have w3:aq E 3 (H.n+0) 9 (aU H f)=some (iI f.how):=cI aR rfl rfl
      cases h6:(decide (f.how>0)) with
      |true=>
       exact bA y (kJ f H [aF,au 4,aI,au 1,vl (iI f.how) (aU H f),aI,au 0]) (iI 0) (aU H f) e8 e9 (aE w1 h1 h2 (w2.trans (congrArg (fun q=>some (Value.bool q)) h3)) h4 h5 w3 h6 aS) (by rw [fC,h1,h2,h3,h4,h5,h6] <;> rfl)
      |false=>
       exact bA y (kJ f H [aF,au 4,aI,au 1,vl (iI f.how) (aU H f),aF,au 3]) (iI (mx u v)) (aU H f) e8 e9 (aE w1 h1 h2 (w2.trans (congrArg (fun q=>some (Value.bool q)) h3)) h4 h5 w3 h6 aS) (by rw [fC,h1,h2,h3,h4,h5,h6] <;> rfl)
     |false=>
      exact bA y (kJ f H [aF,au 4,aF,au 4]) (iI (mx u v)) (aU H f) e8 e9 (fG w1 h1 h2 (w2.trans (congrArg (fun q=>some (Value.bool q)) h3)) h4 h5 aS) (by rw [fC,h1,h2,h3,h4,h5] <;> rfl)
theorem xL:E.ul 50=some (.map 9 48):=ah
theorem xM:E.ul 9=some .string:=ah
theorem Tn:E.zero 48=some (.agg #[.slice none 0 0,iI 0]):=ah
inductive NL (H:Hp):List MapEntry→List (ByteArray×List Int×Int)→Prop
 |nil:NL H [] []
 |cons {k:ByteArray} {p:Option Addr} {n c:Nat} {ts:List Int} {g:Int} {b:Nat} {es:List MapEntry} {l:List (ByteArray×List Int×Int)}:gU H p n (gz ts)→n=ts.length→n<3→NL H es l→NL H (⟨.string k,.agg #[.slice p n c,iI g],b⟩::es) ((k,ts,g)::l)
theorem NL.find {H:Hp} {es:List MapEntry} {l:List (ByteArray×List Int×Int)} (h:NL H es l) (s:ByteArray):(oq s l=none∧pI (.string s) es=some none)∨
  ∃(p:Option Addr) (n c:Nat) (ts:List Int) (g:Int),oq s l=some (ts,g)∧pI (.string s) es=some (some (.agg #[.slice p n c,iI g]))∧gU H p n (gz ts)∧n=ts.length∧n<3:=by
 induction h with
 |nil=>exact .inl ⟨rfl,rfl⟩
 |@cons k p n c ts g b es l h1 h2 h3 _ ih=>
  cases hk:(s==k) with
  |true=>exact .inr ⟨p,n,c,ts,g,by simp only [oq,hk,cond_true],by simp only [pI,hk,cond_true],h1,h2,h3⟩
  |false=>simpa only [oq,pI,hk,cond_false] using ih
theorem Rf {H:Hp} {m ck:Nat} {es:List MapEntry} (hb:H.get m=some (.map es ck)) (h:NL H es vY):Forms H m:=fun s=>by
 have hd:AS .string (.string s)=true:=rfl
 have hg:ground (.agg #[.slice none 0 0,iI 0])=true:=rfl
 rcases h.find s with ⟨h1,h2⟩ |⟨p,n,c,ts,g,h1,h2,h3⟩
 ·exact .inl ⟨h1,by simp only [gZ,xL,xM,Tn,hd,cond_true,hb,h2,hg]⟩
 ·exact .inr ⟨p,n,c,ts,g,h1,by simp only [gZ,xL,xM,Tn,hd,cond_true,hb,h2],h3⟩
theorem G8 {f:Fe} {ks:List Int} (h:nF 0 ks=true):kP f ks=0:=by rw [kP,h];rfl
theorem Nl {f:Fe} {ks:List Int} (h:nF 0 ks=false) (h1:f.k=1):kP f ks=1:=by rw [kP,h,h1];rfl
theorem Nm {f:Fe} {ks:List Int} (h:nF 0 ks=false) (h1:f.k=2):kP f ks=4:=by rw [kP,h,h1];rfl
theorem Nn {f:Fe} {ks:List Int} (h:nF 0 ks=false) (h1:f.k=3) (h2:f.wide>0):kP f ks=3:=by rw [kP,h,h1,decide_eq_true h2];rfl
theorem Jb {f:Fe} {ks:List Int} (h:nF 0 ks=false) (h1:f.k=3) (h2:¬ f.wide>0):kP f ks=2:=by rw [kP,h,h1,decide_eq_false h2];rfl
theorem No {f:Fe} {ks:List Int} (h:nF 0 ks=false) (h1:f.k=6):kP f ks=fC f (kg ks 0) (kg ks 1):=by rw [kP,h,h1];rfl
theorem Vw {f:Fe} {ks:List Int} (h:nF 0 ks=false) (h1:f.k=7) (h2:kg ks 0>2):kP f ks=0:=by rw [kP,h,h1,decide_eq_true h2];rfl
theorem RK {f:Fe} {ks:List Int} (h:nF 0 ks=false) (h1:f.k=7) (h2:¬ kg ks 0>2):kP f ks=kg ks 0:=by rw [kP,h,h1,decide_eq_false h2];rfl
theorem uR {f:Fe} {ks:List Int} (h:nF 0 ks=false) (h1:f.k≠1) (h2:f.k≠2) (h3:f.k≠3) (h6:f.k≠6) (h7:f.k≠7):kP f ks=Ah f.s ks:=by
 rw [kP,h,beq_eq_false_iff_ne.2 h1,beq_eq_false_iff_ne.2 h2,beq_eq_false_iff_ne.2 h3,beq_eq_false_iff_ne.2 h6,beq_eq_false_iff_ne.2 h7];rfl
theorem BC {s:ByteArray} {ks:List Int} (h:oq s vY=none):Ah s ks=0:=by rw [Ah,h]
theorem Iw {s:ByteArray} {ks ts:List Int} {g:Int} (h:oq s vY=some (ts,g)) (he:Kn ts ks=false):Ah s ks=0:=by rw [Ah,h];simp only [he,cond_false]
theorem Fb {s:ByteArray} {ks ts:List Int} {g:Int} (h:oq s vY=some (ts,g)) (he:Kn ts ks=true):Ah s ks=g:=by rw [Ah,h];simp only [he,cond_true]
theorem Nx {H:Hp} (wf:Wf H) {p:Option Addr} {n:Nat} {cs:List Value} (l:List Ob) (h:gU H p n cs):gU (news H l) p n cs:=by
 rcases h with h |⟨b,ro,t,h1,h2⟩
 ·exact .inl h
 ·exact .inr ⟨b,ro,t,h1,(jB l H b (wf.lt h2)).trans h2⟩
end Go.Proofs.YtglmagcldkngbaaGreatDoor
