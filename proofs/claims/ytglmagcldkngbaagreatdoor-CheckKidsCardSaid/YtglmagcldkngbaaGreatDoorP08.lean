/- Part of the proof that CheckKids answers true. -/
import Derived.Test.YtglmagcldkngbaaGreatDoorP07
set_option linter.unusedVariables false
set_option linter.unusedSimpArgs false
set_option maxRecDepth 100000
set_option maxHeartbeats 4000000
namespace Go.Proofs.YtglmagcldkngbaaGreatDoor
open Go Go.Am
theorem lH:E.ul 233=some (.map 5 3):=ah
theorem sL:E.ul 5=some (.int .u8):=ah
theorem acw:E.zero 3=some (.int .i64 0):=ah
def cA (c:Int):Int:=if c=42 then 4 else if c=43 then 5 else if c=63 then 6 else 0
theorem uW {H:Hp} {b ck:Nat} {k1 k2 k3 v1 v2 v3 c:Int} {n1 n2 n3:Nat} (hb:H.get b=some (.map [⟨.int .u8 k1,.int .i64 v1,n1⟩,⟨.int .u8 k2,.int .i64 v2,n2⟩,⟨.int .u8 k3,.int .i64 v3,n3⟩] ck)) (hk:(if c=k1 then v1 else if c=k2 then v2 else if c=k3 then v3 else 0)=cA c) :
  gZ E 233 (.map (some b)) (.int .u8 c) false H=some (.int .i64 (cA c),H,[],[b]):=by
 rw [← hk]
 have hd:AS (.int .u8) (.int .u8 c)=true:=rfl
 simp only [gZ,lH,sL,acw,hd,cond_true,hb,pI,decide_true]
 by_cases h1:c=k1
 ·simp only [decide_eq_true h1,cond_true,if_pos h1,cond_false]
 ·by_cases h2:c=k2
  ·simp only [decide_eq_false h1,decide_eq_true h2,cond_true,if_neg h1,if_pos h2,cond_false]
  ·by_cases h3:c=k3
   ·simp only [decide_eq_false h1,decide_eq_false h2,decide_eq_true h3,cond_true,if_neg h1,if_neg h2,if_pos h3,cond_false]
   ·simp only [decide_eq_false h1,decide_eq_false h2,decide_eq_false h3,cond_true,if_neg h1,if_neg h2,if_neg h3,cond_false];rfl
theorem OP (c:Int):(if c=42 then (4:Int) else if c=43 then 5 else if c=63 then 6 else 0)=cA c∧(if c=42 then (4:Int) else if c=63 then 6 else if c=43 then 5 else 0)=cA c∧(if c=43 then (5:Int) else if c=42 then 4 else if c=63 then 6 else 0)=cA c∧
  (if c=43 then (5:Int) else if c=63 then 6 else if c=42 then 4 else 0)=cA c∧(if c=63 then (6:Int) else if c=42 then 4 else if c=43 then 5 else 0)=cA c∧(if c=63 then (6:Int) else if c=43 then 5 else if c=42 then 4 else 0)=cA c:=by
 unfold cA
 by_cases h1:c=42
 ·subst h1;decide
 ·by_cases h2:c=43
  ·subst h2;decide
  ·by_cases h3:c=63
   ·subst h3;decide
   ·simp only [if_neg h1,if_neg h2,if_neg h3,and_self]
theorem Fv {H:Hp} {p:Nat} {m r c o:Ob} (hp:p<H.n):∀ i,i<(news ((news H [m,r]).set p c) [o]).n→(news ((news H [.dead,r]).set p c) [o]).get i=(news ((news H [m,r]).set p c) [o]).get i∨(H.n≤i∧(news ((news H [.dead,r]).set p c) [o]).get i=some .dead):=by
 intro i _
 have n1:∀ m,((news H [m,r]).set p c).n=H.n+2:=fun _=>rfl
 have n2:∀ m,(H.new m).n=H.n+1:=fun _=>rfl
 simp only [news,Hp.dF,Hp.ek] at *
 simp only [show ∀ m,(((H.new m).new r).set p c).n=H.n+2 from fun _=>rfl,n2]
 by_cases h1:H.n+2=i
 ·left;rw [if_pos h1,if_pos h1]
 ·rw [if_neg h1,if_neg h1]
  by_cases h2:p=i
  ·left;rw [if_pos h2,if_pos h2]
  ·rw [if_neg h2,if_neg h2]
   by_cases h3:H.n+1=i
   ·left;rw [if_pos h3,if_pos h3]
   ·rw [if_neg h3,if_neg h3]
    by_cases h4:H.n=i
    ·right;rw [if_pos h4];exact ⟨by omega,rfl⟩
    ·left;rw [if_neg h4,if_neg h4]
theorem tc {H H':Hp} {l:List Ob} {k:Nat} {es:List MapEntry} {ck:Nat} (h:l[k]?=some (.map es ck)):bC (news H l) H' [H.n+k]=true:=by
 have hk:=(List.getElem?_eq_some_iff.1 h).1
 have e1:Nat.blt (H.n+k) (news H l).n=true:=by rw [bF];simpa [Nat.blt_eq] using hk
 simp only [bC,List.all_cons,List.all_nil,e1,cond_true,aB l H k _ h,dA,Bool.and_true]
def opsOf:Code→Array Oper
 |.region _ ops _=>ops
 |_=>#[]
def KR:Code→Nat
 |.region id _ _=>id
 |_=>0
noncomputable def D2:Code:=cz [1,1,0,0,0,1,0,0] (bH Tryz.f146)
noncomputable def jt:Array Oper:=opsOf D2
theorem V9:D2=.region (KR D2) jt true:=ah
theorem AG:jt.size=20:=ah
theorem OQ:(jt.all fun o=>o.guard.isNone)=true:=ah
def JW (a b c:Nat) (k:Nat):Nat:=if k=2 then a else if k=3 then b else if k=4 then c else k
def JX (a b c:Nat) (i:Nat):Nat:=if i=a then 2 else if i=b then 3 else if i=c then 4 else i
theorem FD (a b c:Nat) (h:(∀ k,k<20→JX a b c (JW a b c k)=k∧JW a b c k<20)∧(∀ k,k<20→JW a b c (JX a b c k)=k∧JX a b c k<20)∧a≠b∧b≠c):Bv jt (JW a b c) (JX a b c) [(a,b),(b,c)]:=by
 refine ⟨fun k hk=>?_,fun k hk=>?_,fun i hi o ho=>?_,fun p hp=>?_⟩
 ·rw [AG] at hk ⊢;exact h.1 k hk
 ·rw [AG] at hk ⊢;exact h.2.1 k hk
 ·have:=OQ
  rw [Array.all_eq_true_iff_forall_mem] at this
  have:=this o (Array.mem_of_getElem? ho)
  simpa using this
 ·simp only [List.mem_cons,aH,or_false] at hp
  rcases hp with rfl |rfl
  ·exact h.2.2.1
  ·exact h.2.2.2
theorem HA:∀ md,fA md jt:=by
 intro md
 cases md
 ·exact cr ah
 ·exact cr ah
 ·exact cr ah
theorem Zk (l:List Nat):(Prec 2 3 l∧Prec 3 4 l)∨(Prec 2 4 l∧Prec 4 3 l)∨(Prec 3 2 l∧Prec 2 4 l)∨(Prec 3 4 l∧Prec 4 2 l)∨(Prec 4 2 l∧Prec 2 3 l)∨(Prec 4 3 l∧Prec 3 2 l):=by
 rcases Prec.total (x:=2) (y:=3) (by decide) l with h1 |h1 <;> rcases Prec.total (x:=3) (y:=4) (by decide) l with h2 |h2 <;> rcases Prec.total (x:=2) (y:=4) (by decide) l with h3 |h3
 ·exact .inl ⟨h1,h2⟩
 ·exact .inl ⟨h1,h2⟩
 ·exact .inr (.inl ⟨h3,h2⟩)
 ·exact .inr (.inr (.inr (.inr (.inl ⟨h3,h1⟩))))
 ·exact .inr (.inr (.inl ⟨h1,h3⟩))
 ·exact .inr (.inr (.inr (.inl ⟨h2,h3⟩)))
 ·exact .inr (.inr (.inr (.inr (.inr ⟨h2,h1⟩))))
 ·exact .inr (.inr (.inr (.inr (.inr ⟨h2,h1⟩))))
theorem FH {a b c:Nat} {l:List Nat} (h1:Prec a b l) (h2:Prec b c l):∀ p∈[(a,b),(b,c)],Prec p.1 p.2 l:=fun p hp=>by
 simp only [List.mem_cons,aH,or_false] at hp
 rcases hp with rfl |rfl
 ·exact h1
 ·exact h2
theorem uZ (p:Nat) (s:ByteArray) (at_:Int) (dp:Int) (nd:Int) (w:Nat) (wp:Nat) (k:Int) (r:Nat) {H:Hp} (y:Gd E G H) (kp:H.get p=some (.cells [.string s,.int .i64 at_,.int .i64 dp,.int .i64 nd,eF w wp] 151 false)) (gp:G.n≤p) (hs:(s.size:Int)<100000) (a0:0≤at_) (a1:at_≤s.size) (hw:w=0∨w=1):CC E 116 [pt p 0,iI k,sc r 0 1 3] H (.ret (pt H.n 0)) (news (H.set p (.cells [.string s,iI at_,iI dp,iI (IntKind.i64.wrap (nd+1)),eF w wp] 151 false)) [.cells (gu k (IntKind.i64.wrap (nd+1))++[sc r 0 1 3]) 176 false]) [p]:=by
 have jZ:=y.wf.lt kp
 have w1:aq E 3 p 3 H=some (iI nd):=bQ aR kp rfl
 obtain ⟨K1,e1⟩:∃ K_,K_=H.set p (.cells [.string s,iI at_,iI dp,iI (IntKind.i64.wrap (nd+1)),eF w wp] 151 false):=⟨_,rfl⟩
 have y1:Gd E G K1:=e1▸y.set _ aa aa
 have jq:K1.n=H.n+0:=by rw [e1,Hp.cT] <;> rfl
 have g1:=y1.n
 have eK:=aP e1
 have w2:aq E 3 p 3 K1=some (iI (IntKind.i64.wrap (nd+1))):=bQ aR eK rfl
 have c_:=CC.hH ok (args:=[pt p 0,iI k,sc r 0 1 3]) (H:=H) (f:=300) (hs:=[au 3,vl (iI nd) H,au 2,vl bJ K1,au 3,vl (iI (IntKind.i64.wrap (nd+1))) K1,au 3]) (v:=(pt (K1.n+0) 0)) (H':=(news K1 [.cells ((gu k (IntKind.i64.wrap (nd+1)))++[sc r 0 1 3]) 176 false])) (W:=[p]) Gi Gj (kn w1<|kn (show az E 3 p 3 (iI (IntKind.i64.wrap (nd+1))) H=some K1 from (st bY kp rfl rfl).trans (congrArg some e1.symm))<|kn w2<|trivial) ah
 subst e1
 exact c_.norm (V:=[p]) (fun q hq=>.inl (by simpa using hq))
noncomputable abbrev lY H nb:=news H [.map [⟨uB 42,iI 4,0⟩,⟨uB 43,iI 5,1⟩,⟨uB 63,iI 6,2⟩] 3,.cells [pt nb 0] 127 false]
noncomputable abbrev rW (H:Hp) nb p s at_ dp nd w wp:=news ((news H [.map [⟨uB 42,iI 4,0⟩,⟨uB 43,iI 5,1⟩,⟨uB 63,iI 6,2⟩] 3,.cells [pt nb 0] 127 false]).set p (.cells [.string s,iI at_,iI dp,iI (IntKind.i64.wrap (nd+1)),eF w wp] 151 false)) [.cells (gu (cA (ak s at_)) (IntKind.i64.wrap (nd+1))++[sc (H.n+1) 0 1 3]) 176 false]
noncomputable abbrev gO H:=news H [.map [⟨uB 42,iI 4,0⟩,⟨uB 43,iI 5,1⟩,⟨uB 63,iI 6,2⟩] 3]
noncomputable abbrev gP H:=news H [.map [⟨uB 42,iI 4,0⟩] 1]
noncomputable abbrev oG H:=news H [.map [⟨uB 42,iI 4,0⟩,⟨uB 43,iI 5,1⟩] 2]
noncomputable abbrev fq H:=news H [.map [] 0]
theorem abG (p:Nat) (nb:Nat) (s:ByteArray) (at_ dp nd:Int) (w wp:Nat) {H:Hp} (y:Gd E G H) (kp:H.get p=some (.cells [.string s,.int .i64 at_,.int .i64 dp,.int .i64 nd,eF w wp] 151 false)) (gp:G.n≤p) (hs:(s.size:Int)<100000) (a0:0≤at_) (a1:at_≤s.size) (hw:w=0∨w=1) (hlt:at_<s.size):iq E 32 (jN jt (JW 2 3 4) (JX 2 3 4) [(2,3),(3,4)]) (bw [(0,pt p 0),(3,pt nb 0)]) H (bw [(0,pt p 0),(3,pt ((lY H nb).n) 0)]) (rW H nb p s at_ dp nd w wp) [H.n+0,H.n+0,H.n+0,p]:=by
 have jZ:=y.wf.lt kp
 have w1:aq E 9 p 0 (gO H)=some (.string s):=bQ bB (y.old kp [.map [⟨uB 42,iI 4,0⟩,⟨uB 43,iI 5,1⟩,⟨uB 63,iI 6,2⟩] 3]) rfl
 have w2:aq E 3 p 1 (gO H)=some (iI at_):=bQ aR (y.old kp [.map [⟨uB 42,iI 4,0⟩,⟨uB 43,iI 5,1⟩,⟨uB 63,iI 6,2⟩] 3]) rfl
 have w3:0≤at_:=aa
 have w4:at_<(s.size:Int):=aa
 exact iq.nw ok (f:=1) (id:=KR D2) (hs:=[au 1,.val bJ (gP H) [H.n+0] [H.n+0],.val bJ (oG H) [H.n+0] [H.n+0],.val bJ (gO H) [H.n+0] [H.n+0],au 3,vl (.string s) (gO H),au 2,vl (iI at_) (gO H),.ck,.val (iI (cA (ak s at_))) (gO H) [] [H.n+0],au 1,.call (pt ((lY H nb).n) 0) (rW H nb p s at_ dp nd w wp) [p],au 0]) (tk<|kn (show (H.n+0)<H.n∨H.n≤(H.n+0) from aV)<|kn (show (H.n+0)<H.n∨H.n≤(H.n+0) from aV)<|kn (show (H.n+0)<H.n∨H.n≤(H.n+0) from aV)<|kn (show (H.n+0)≠p from aV)<|kn (show (H.n+0)≠p from aV)<|kn (show (H.n+0)≠p from aV)<|kn (show (H.n+0)≠p from aV)<|kn (show (H.n+0)≠p from aV)<|kn (show (H.n+0)≠p from aV)<|tk<|tk<|kn (show cH E 233 (.map (some (H.n+0))) (uB 42) (iI 4) (fq H)=some (bJ,gP H,[H.n+0],[H.n+0]) from j3 lH sL rfl rfl rfl rfl)<|kn (show bC (fq H) (gP H) [H.n+0]=true from tc rfl)<|kn (show cH E 233 (.map (some (H.n+0))) (uB 43) (iI 5) (gP H)=some (bJ,oG H,[H.n+0],[H.n+0]) from j3 lH sL rfl rfl rfl rfl)<|kn (show bC (gP H) (oG H) [H.n+0]=true from tc rfl)<|kn (show cH E 233 (.map (some (H.n+0))) (uB 63) (iI 6) (oG H)=some (bJ,gO H,[H.n+0],[H.n+0]) from j3 lH sL rfl rfl rfl rfl)<|kn (show bC (oG H) (gO H) [H.n+0]=true from tc rfl)<|tk<|tk<|tk<|tk<|kn w1<|tk<|tk<|tk<|tk<|kn w2<|tk<|kn w3<|kn w4<|tk<|kn (show gZ E 233 (.map (some (H.n+0))) (uB (ak s at_)) false (gO H)=some (iI (cA (ak s at_)),gO H,[],[H.n+0]) from uW (aB [.map [⟨uB 42,iI 4,0⟩,⟨uB 43,iI 5,1⟩,⟨uB 63,iI 6,2⟩] 3] H 0 _ rfl) (OP (ak s at_)).1)<|tk<|tk<|tk<|kn (show CC E 116 [pt p 0,iI (cA (ak s at_)),sc (H.n+1) 0 1 3] (lY H nb) (.ret (pt ((lY H nb).n) 0)) (rW H nb p s at_ dp nd w wp) [p] from uZ p s at_ dp nd w wp (cA (ak s at_)) (H.n+1) (y.news [.map [⟨uB 42,iI 4,0⟩,⟨uB 43,iI 5,1⟩,⟨uB 63,iI 6,2⟩] 3,.cells [pt nb 0] 127 false]) (y.old kp [.map [⟨uB 42,iI 4,0⟩,⟨uB 43,iI 5,1⟩,⟨uB 63,iI 6,2⟩] 3,.cells [pt nb 0] 127 false]) aa hs a0 aa hw)<|kn (show bC (lY H nb) (rW H nb p s at_ dp nd w wp) [p]=true from kW (y.news [.map [⟨uB 42,iI 4,0⟩,⟨uB 43,iI 5,1⟩,⟨uB 63,iI 6,2⟩] 3,.cells [pt nb 0] 127 false]) (y.old kp [.map [⟨uB 42,iI 4,0⟩,⟨uB 43,iI 5,1⟩,⟨uB 63,iI 6,2⟩] 3,.cells [pt nb 0] 127 false]))<|tk<|sw (pt p 0)<|sw (pt ((lY H nb).n) 0)<|trivial) ah rfl
theorem abM:∀ md,fA md (jN jt (JW 2 3 4) (JX 2 3 4) [(2,3),(3,4)]):=by
 intro md
 cases md
 ·exact cr ah
 ·exact cr ah
 ·exact cr ah
noncomputable abbrev lZ H nb:=news H [.map [⟨uB 42,iI 4,0⟩,⟨uB 63,iI 6,1⟩,⟨uB 43,iI 5,2⟩] 3,.cells [pt nb 0] 127 false]
noncomputable abbrev rX (H:Hp) nb p s at_ dp nd w wp:=news ((news H [.map [⟨uB 42,iI 4,0⟩,⟨uB 63,iI 6,1⟩,⟨uB 43,iI 5,2⟩] 3,.cells [pt nb 0] 127 false]).set p (.cells [.string s,iI at_,iI dp,iI (IntKind.i64.wrap (nd+1)),eF w wp] 151 false)) [.cells (gu (cA (ak s at_)) (IntKind.i64.wrap (nd+1))++[sc (H.n+1) 0 1 3]) 176 false]
noncomputable abbrev gQ H:=news H [.map [⟨uB 42,iI 4,0⟩,⟨uB 63,iI 6,1⟩,⟨uB 43,iI 5,2⟩] 3]
noncomputable abbrev oH H:=news H [.map [⟨uB 42,iI 4,0⟩,⟨uB 63,iI 6,1⟩] 2]
theorem abH (p:Nat) (nb:Nat) (s:ByteArray) (at_ dp nd:Int) (w wp:Nat) {H:Hp} (y:Gd E G H) (kp:H.get p=some (.cells [.string s,.int .i64 at_,.int .i64 dp,.int .i64 nd,eF w wp] 151 false)) (gp:G.n≤p) (hs:(s.size:Int)<100000) (a0:0≤at_) (a1:at_≤s.size) (hw:w=0∨w=1) (hlt:at_<s.size):iq E 32 (jN jt (JW 2 4 3) (JX 2 4 3) [(2,4),(4,3)]) (bw [(0,pt p 0),(3,pt nb 0)]) H (bw [(0,pt p 0),(3,pt ((lZ H nb).n) 0)]) (rX H nb p s at_ dp nd w wp) [H.n+0,H.n+0,H.n+0,p]:=by
 have jZ:=y.wf.lt kp
 have w1:aq E 9 p 0 (gQ H)=some (.string s):=bQ bB (y.old kp [.map [⟨uB 42,iI 4,0⟩,⟨uB 63,iI 6,1⟩,⟨uB 43,iI 5,2⟩] 3]) rfl
 have w2:aq E 3 p 1 (gQ H)=some (iI at_):=bQ aR (y.old kp [.map [⟨uB 42,iI 4,0⟩,⟨uB 63,iI 6,1⟩,⟨uB 43,iI 5,2⟩] 3]) rfl
 have w3:0≤at_:=aa
 have w4:at_<(s.size:Int):=aa
 exact iq.nw ok (f:=1) (id:=KR D2) (hs:=[au 1,.val bJ (gP H) [H.n+0] [H.n+0],.val bJ (oH H) [H.n+0] [H.n+0],.val bJ (gQ H) [H.n+0] [H.n+0],au 3,vl (.string s) (gQ H),au 2,vl (iI at_) (gQ H),.ck,.val (iI (cA (ak s at_))) (gQ H) [] [H.n+0],au 1,.call (pt ((lZ H nb).n) 0) (rX H nb p s at_ dp nd w wp) [p],au 0]) (tk<|kn (show (H.n+0)<H.n∨H.n≤(H.n+0) from aV)<|kn (show (H.n+0)<H.n∨H.n≤(H.n+0) from aV)<|kn (show (H.n+0)<H.n∨H.n≤(H.n+0) from aV)<|kn (show (H.n+0)≠p from aV)<|kn (show (H.n+0)≠p from aV)<|kn (show (H.n+0)≠p from aV)<|kn (show (H.n+0)≠p from aV)<|kn (show (H.n+0)≠p from aV)<|kn (show (H.n+0)≠p from aV)<|tk<|tk<|kn (show cH E 233 (.map (some (H.n+0))) (uB 42) (iI 4) (fq H)=some (bJ,gP H,[H.n+0],[H.n+0]) from j3 lH sL rfl rfl rfl rfl)<|kn (show bC (fq H) (gP H) [H.n+0]=true from tc rfl)<|kn (show cH E 233 (.map (some (H.n+0))) (uB 63) (iI 6) (gP H)=some (bJ,oH H,[H.n+0],[H.n+0]) from j3 lH sL rfl rfl rfl rfl)<|kn (show bC (gP H) (oH H) [H.n+0]=true from tc rfl)<|kn (show cH E 233 (.map (some (H.n+0))) (uB 43) (iI 5) (oH H)=some (bJ,gQ H,[H.n+0],[H.n+0]) from j3 lH sL rfl rfl rfl rfl)<|kn (show bC (oH H) (gQ H) [H.n+0]=true from tc rfl)<|tk<|tk<|tk<|tk<|kn w1<|tk<|tk<|tk<|tk<|kn w2<|tk<|kn w3<|kn w4<|tk<|kn (show gZ E 233 (.map (some (H.n+0))) (uB (ak s at_)) false (gQ H)=some (iI (cA (ak s at_)),gQ H,[],[H.n+0]) from uW (aB [.map [⟨uB 42,iI 4,0⟩,⟨uB 63,iI 6,1⟩,⟨uB 43,iI 5,2⟩] 3] H 0 _ rfl) (OP (ak s at_)).2.1)<|tk<|tk<|tk<|kn (show CC E 116 [pt p 0,iI (cA (ak s at_)),sc (H.n+1) 0 1 3] (lZ H nb) (.ret (pt ((lZ H nb).n) 0)) (rX H nb p s at_ dp nd w wp) [p] from uZ p s at_ dp nd w wp (cA (ak s at_)) (H.n+1) (y.news [.map [⟨uB 42,iI 4,0⟩,⟨uB 63,iI 6,1⟩,⟨uB 43,iI 5,2⟩] 3,.cells [pt nb 0] 127 false]) (y.old kp [.map [⟨uB 42,iI 4,0⟩,⟨uB 63,iI 6,1⟩,⟨uB 43,iI 5,2⟩] 3,.cells [pt nb 0] 127 false]) aa hs a0 aa hw)<|kn (show bC (lZ H nb) (rX H nb p s at_ dp nd w wp) [p]=true from kW (y.news [.map [⟨uB 42,iI 4,0⟩,⟨uB 63,iI 6,1⟩,⟨uB 43,iI 5,2⟩] 3,.cells [pt nb 0] 127 false]) (y.old kp [.map [⟨uB 42,iI 4,0⟩,⟨uB 63,iI 6,1⟩,⟨uB 43,iI 5,2⟩] 3,.cells [pt nb 0] 127 false]))<|tk<|sw (pt p 0)<|sw (pt ((lZ H nb).n) 0)<|trivial) ah rfl
theorem abN:∀ md,fA md (jN jt (JW 2 4 3) (JX 2 4 3) [(2,4),(4,3)]):=by
 intro md
 cases md
 ·exact cr ah
 ·exact cr ah
 ·exact cr ah
noncomputable abbrev kR H nb:=news H [.map [⟨uB 43,iI 5,0⟩,⟨uB 42,iI 4,1⟩,⟨uB 63,iI 6,2⟩] 3,.cells [pt nb 0] 127 false]
noncomputable abbrev pP (H:Hp) nb p s at_ dp nd w wp:=news ((news H [.map [⟨uB 43,iI 5,0⟩,⟨uB 42,iI 4,1⟩,⟨uB 63,iI 6,2⟩] 3,.cells [pt nb 0] 127 false]).set p (.cells [.string s,iI at_,iI dp,iI (IntKind.i64.wrap (nd+1)),eF w wp] 151 false)) [.cells (gu (cA (ak s at_)) (IntKind.i64.wrap (nd+1))++[sc (H.n+1) 0 1 3]) 176 false]
noncomputable abbrev fK H:=news H [.map [⟨uB 43,iI 5,0⟩,⟨uB 42,iI 4,1⟩,⟨uB 63,iI 6,2⟩] 3]
noncomputable abbrev fL H:=news H [.map [⟨uB 43,iI 5,0⟩] 1]
noncomputable abbrev m8 H:=news H [.map [⟨uB 43,iI 5,0⟩,⟨uB 42,iI 4,1⟩] 2]
theorem abI (p:Nat) (nb:Nat) (s:ByteArray) (at_ dp nd:Int) (w wp:Nat) {H:Hp} (y:Gd E G H) (kp:H.get p=some (.cells [.string s,.int .i64 at_,.int .i64 dp,.int .i64 nd,eF w wp] 151 false)) (gp:G.n≤p) (hs:(s.size:Int)<100000) (a0:0≤at_) (a1:at_≤s.size) (hw:w=0∨w=1) (hlt:at_<s.size):iq E 32 (jN jt (JW 3 2 4) (JX 3 2 4) [(3,2),(2,4)]) (bw [(0,pt p 0),(3,pt nb 0)]) H (bw [(0,pt p 0),(3,pt ((kR H nb).n) 0)]) (pP H nb p s at_ dp nd w wp) [H.n+0,H.n+0,H.n+0,p]:=by
 have jZ:=y.wf.lt kp
 have w1:aq E 9 p 0 (fK H)=some (.string s):=bQ bB (y.old kp [.map [⟨uB 43,iI 5,0⟩,⟨uB 42,iI 4,1⟩,⟨uB 63,iI 6,2⟩] 3]) rfl
 have w2:aq E 3 p 1 (fK H)=some (iI at_):=bQ aR (y.old kp [.map [⟨uB 43,iI 5,0⟩,⟨uB 42,iI 4,1⟩,⟨uB 63,iI 6,2⟩] 3]) rfl
 have w3:0≤at_:=aa
 have w4:at_<(s.size:Int):=aa
 exact iq.nw ok (f:=1) (id:=KR D2) (hs:=[au 1,.val bJ (fL H) [H.n+0] [H.n+0],.val bJ (m8 H) [H.n+0] [H.n+0],.val bJ (fK H) [H.n+0] [H.n+0],au 3,vl (.string s) (fK H),au 2,vl (iI at_) (fK H),.ck,.val (iI (cA (ak s at_))) (fK H) [] [H.n+0],au 1,.call (pt ((kR H nb).n) 0) (pP H nb p s at_ dp nd w wp) [p],au 0]) (tk<|kn (show (H.n+0)<H.n∨H.n≤(H.n+0) from aV)<|kn (show (H.n+0)<H.n∨H.n≤(H.n+0) from aV)<|kn (show (H.n+0)<H.n∨H.n≤(H.n+0) from aV)<|kn (show (H.n+0)≠p from aV)<|kn (show (H.n+0)≠p from aV)<|kn (show (H.n+0)≠p from aV)<|kn (show (H.n+0)≠p from aV)<|kn (show (H.n+0)≠p from aV)<|kn (show (H.n+0)≠p from aV)<|tk<|tk<|kn (show cH E 233 (.map (some (H.n+0))) (uB 43) (iI 5) (fq H)=some (bJ,fL H,[H.n+0],[H.n+0]) from j3 lH sL rfl rfl rfl rfl)<|kn (show bC (fq H) (fL H) [H.n+0]=true from tc rfl)<|kn (show cH E 233 (.map (some (H.n+0))) (uB 42) (iI 4) (fL H)=some (bJ,m8 H,[H.n+0],[H.n+0]) from j3 lH sL rfl rfl rfl rfl)<|kn (show bC (fL H) (m8 H) [H.n+0]=true from tc rfl)<|kn (show cH E 233 (.map (some (H.n+0))) (uB 63) (iI 6) (m8 H)=some (bJ,fK H,[H.n+0],[H.n+0]) from j3 lH sL rfl rfl rfl rfl)<|kn (show bC (m8 H) (fK H) [H.n+0]=true from tc rfl)<|tk<|tk<|tk<|tk<|kn w1<|tk<|tk<|tk<|tk<|kn w2<|tk<|kn w3<|kn w4<|tk<|kn (show gZ E 233 (.map (some (H.n+0))) (uB (ak s at_)) false (fK H)=some (iI (cA (ak s at_)),fK H,[],[H.n+0]) from uW (aB [.map [⟨uB 43,iI 5,0⟩,⟨uB 42,iI 4,1⟩,⟨uB 63,iI 6,2⟩] 3] H 0 _ rfl) (OP (ak s at_)).2.2.1)<|tk<|tk<|tk<|kn (show CC E 116 [pt p 0,iI (cA (ak s at_)),sc (H.n+1) 0 1 3] (kR H nb) (.ret (pt ((kR H nb).n) 0)) (pP H nb p s at_ dp nd w wp) [p] from uZ p s at_ dp nd w wp (cA (ak s at_)) (H.n+1) (y.news [.map [⟨uB 43,iI 5,0⟩,⟨uB 42,iI 4,1⟩,⟨uB 63,iI 6,2⟩] 3,.cells [pt nb 0] 127 false]) (y.old kp [.map [⟨uB 43,iI 5,0⟩,⟨uB 42,iI 4,1⟩,⟨uB 63,iI 6,2⟩] 3,.cells [pt nb 0] 127 false]) aa hs a0 aa hw)<|kn (show bC (kR H nb) (pP H nb p s at_ dp nd w wp) [p]=true from kW (y.news [.map [⟨uB 43,iI 5,0⟩,⟨uB 42,iI 4,1⟩,⟨uB 63,iI 6,2⟩] 3,.cells [pt nb 0] 127 false]) (y.old kp [.map [⟨uB 43,iI 5,0⟩,⟨uB 42,iI 4,1⟩,⟨uB 63,iI 6,2⟩] 3,.cells [pt nb 0] 127 false]))<|tk<|sw (pt p 0)<|sw (pt ((kR H nb).n) 0)<|trivial) ah rfl
theorem abO:∀ md,fA md (jN jt (JW 3 2 4) (JX 3 2 4) [(3,2),(2,4)]):=by
 intro md
 cases md
 ·exact cr ah
 ·exact cr ah
 ·exact cr ah
noncomputable abbrev kS H nb:=news H [.map [⟨uB 43,iI 5,0⟩,⟨uB 63,iI 6,1⟩,⟨uB 42,iI 4,2⟩] 3,.cells [pt nb 0] 127 false]
noncomputable abbrev pQ (H:Hp) nb p s at_ dp nd w wp:=news ((news H [.map [⟨uB 43,iI 5,0⟩,⟨uB 63,iI 6,1⟩,⟨uB 42,iI 4,2⟩] 3,.cells [pt nb 0] 127 false]).set p (.cells [.string s,iI at_,iI dp,iI (IntKind.i64.wrap (nd+1)),eF w wp] 151 false)) [.cells (gu (cA (ak s at_)) (IntKind.i64.wrap (nd+1))++[sc (H.n+1) 0 1 3]) 176 false]
noncomputable abbrev fM H:=news H [.map [⟨uB 43,iI 5,0⟩,⟨uB 63,iI 6,1⟩,⟨uB 42,iI 4,2⟩] 3]
noncomputable abbrev m9 H:=news H [.map [⟨uB 43,iI 5,0⟩,⟨uB 63,iI 6,1⟩] 2]
theorem abJ (p:Nat) (nb:Nat) (s:ByteArray) (at_ dp nd:Int) (w wp:Nat) {H:Hp} (y:Gd E G H) (kp:H.get p=some (.cells [.string s,.int .i64 at_,.int .i64 dp,.int .i64 nd,eF w wp] 151 false)) (gp:G.n≤p) (hs:(s.size:Int)<100000) (a0:0≤at_) (a1:at_≤s.size) (hw:w=0∨w=1) (hlt:at_<s.size):iq E 32 (jN jt (JW 3 4 2) (JX 3 4 2) [(3,4),(4,2)]) (bw [(0,pt p 0),(3,pt nb 0)]) H (bw [(0,pt p 0),(3,pt ((kS H nb).n) 0)]) (pQ H nb p s at_ dp nd w wp) [H.n+0,H.n+0,H.n+0,p]:=by
 have jZ:=y.wf.lt kp
 have w1:aq E 9 p 0 (fM H)=some (.string s):=bQ bB (y.old kp [.map [⟨uB 43,iI 5,0⟩,⟨uB 63,iI 6,1⟩,⟨uB 42,iI 4,2⟩] 3]) rfl
 have w2:aq E 3 p 1 (fM H)=some (iI at_):=bQ aR (y.old kp [.map [⟨uB 43,iI 5,0⟩,⟨uB 63,iI 6,1⟩,⟨uB 42,iI 4,2⟩] 3]) rfl
 have w3:0≤at_:=aa
 have w4:at_<(s.size:Int):=aa
 exact iq.nw ok (f:=1) (id:=KR D2) (hs:=[au 1,.val bJ (fL H) [H.n+0] [H.n+0],.val bJ (m9 H) [H.n+0] [H.n+0],.val bJ (fM H) [H.n+0] [H.n+0],au 3,vl (.string s) (fM H),au 2,vl (iI at_) (fM H),.ck,.val (iI (cA (ak s at_))) (fM H) [] [H.n+0],au 1,.call (pt ((kS H nb).n) 0) (pQ H nb p s at_ dp nd w wp) [p],au 0]) (tk<|kn (show (H.n+0)<H.n∨H.n≤(H.n+0) from aV)<|kn (show (H.n+0)<H.n∨H.n≤(H.n+0) from aV)<|kn (show (H.n+0)<H.n∨H.n≤(H.n+0) from aV)<|kn (show (H.n+0)≠p from aV)<|kn (show (H.n+0)≠p from aV)<|kn (show (H.n+0)≠p from aV)<|kn (show (H.n+0)≠p from aV)<|kn (show (H.n+0)≠p from aV)<|kn (show (H.n+0)≠p from aV)<|tk<|tk<|kn (show cH E 233 (.map (some (H.n+0))) (uB 43) (iI 5) (fq H)=some (bJ,fL H,[H.n+0],[H.n+0]) from j3 lH sL rfl rfl rfl rfl)<|kn (show bC (fq H) (fL H) [H.n+0]=true from tc rfl)<|kn (show cH E 233 (.map (some (H.n+0))) (uB 63) (iI 6) (fL H)=some (bJ,m9 H,[H.n+0],[H.n+0]) from j3 lH sL rfl rfl rfl rfl)<|kn (show bC (fL H) (m9 H) [H.n+0]=true from tc rfl)<|kn (show cH E 233 (.map (some (H.n+0))) (uB 42) (iI 4) (m9 H)=some (bJ,fM H,[H.n+0],[H.n+0]) from j3 lH sL rfl rfl rfl rfl)<|kn (show bC (m9 H) (fM H) [H.n+0]=true from tc rfl)<|tk<|tk<|tk<|tk<|kn w1<|tk<|tk<|tk<|tk<|kn w2<|tk<|kn w3<|kn w4<|tk<|kn (show gZ E 233 (.map (some (H.n+0))) (uB (ak s at_)) false (fM H)=some (iI (cA (ak s at_)),fM H,[],[H.n+0]) from uW (aB [.map [⟨uB 43,iI 5,0⟩,⟨uB 63,iI 6,1⟩,⟨uB 42,iI 4,2⟩] 3] H 0 _ rfl) (OP (ak s at_)).2.2.2.1)<|tk<|tk<|tk<|kn (show CC E 116 [pt p 0,iI (cA (ak s at_)),sc (H.n+1) 0 1 3] (kS H nb) (.ret (pt ((kS H nb).n) 0)) (pQ H nb p s at_ dp nd w wp) [p] from uZ p s at_ dp nd w wp (cA (ak s at_)) (H.n+1) (y.news [.map [⟨uB 43,iI 5,0⟩,⟨uB 63,iI 6,1⟩,⟨uB 42,iI 4,2⟩] 3,.cells [pt nb 0] 127 false]) (y.old kp [.map [⟨uB 43,iI 5,0⟩,⟨uB 63,iI 6,1⟩,⟨uB 42,iI 4,2⟩] 3,.cells [pt nb 0] 127 false]) aa hs a0 aa hw)<|kn (show bC (kS H nb) (pQ H nb p s at_ dp nd w wp) [p]=true from kW (y.news [.map [⟨uB 43,iI 5,0⟩,⟨uB 63,iI 6,1⟩,⟨uB 42,iI 4,2⟩] 3,.cells [pt nb 0] 127 false]) (y.old kp [.map [⟨uB 43,iI 5,0⟩,⟨uB 63,iI 6,1⟩,⟨uB 42,iI 4,2⟩] 3,.cells [pt nb 0] 127 false]))<|tk<|sw (pt p 0)<|sw (pt ((kS H nb).n) 0)<|trivial) ah rfl
theorem abP:∀ md,fA md (jN jt (JW 3 4 2) (JX 3 4 2) [(3,4),(4,2)]):=by
 intro md
 cases md
 ·exact cr ah
 ·exact cr ah
 ·exact cr ah
noncomputable abbrev kT H nb:=news H [.map [⟨uB 63,iI 6,0⟩,⟨uB 42,iI 4,1⟩,⟨uB 43,iI 5,2⟩] 3,.cells [pt nb 0] 127 false]
noncomputable abbrev pR (H:Hp) nb p s at_ dp nd w wp:=news ((news H [.map [⟨uB 63,iI 6,0⟩,⟨uB 42,iI 4,1⟩,⟨uB 43,iI 5,2⟩] 3,.cells [pt nb 0] 127 false]).set p (.cells [.string s,iI at_,iI dp,iI (IntKind.i64.wrap (nd+1)),eF w wp] 151 false)) [.cells (gu (cA (ak s at_)) (IntKind.i64.wrap (nd+1))++[sc (H.n+1) 0 1 3]) 176 false]
noncomputable abbrev fN H:=news H [.map [⟨uB 63,iI 6,0⟩,⟨uB 42,iI 4,1⟩,⟨uB 43,iI 5,2⟩] 3]
noncomputable abbrev fO H:=news H [.map [⟨uB 63,iI 6,0⟩] 1]
noncomputable abbrev nc H:=news H [.map [⟨uB 63,iI 6,0⟩,⟨uB 42,iI 4,1⟩] 2]
theorem abK (p:Nat) (nb:Nat) (s:ByteArray) (at_ dp nd:Int) (w wp:Nat) {H:Hp} (y:Gd E G H) (kp:H.get p=some (.cells [.string s,.int .i64 at_,.int .i64 dp,.int .i64 nd,eF w wp] 151 false)) (gp:G.n≤p) (hs:(s.size:Int)<100000) (a0:0≤at_) (a1:at_≤s.size) (hw:w=0∨w=1) (hlt:at_<s.size):iq E 32 (jN jt (JW 4 2 3) (JX 4 2 3) [(4,2),(2,3)]) (bw [(0,pt p 0),(3,pt nb 0)]) H (bw [(0,pt p 0),(3,pt ((kT H nb).n) 0)]) (pR H nb p s at_ dp nd w wp) [H.n+0,H.n+0,H.n+0,p]:=by
 have jZ:=y.wf.lt kp
 have w1:aq E 9 p 0 (fN H)=some (.string s):=bQ bB (y.old kp [.map [⟨uB 63,iI 6,0⟩,⟨uB 42,iI 4,1⟩,⟨uB 43,iI 5,2⟩] 3]) rfl
 have w2:aq E 3 p 1 (fN H)=some (iI at_):=bQ aR (y.old kp [.map [⟨uB 63,iI 6,0⟩,⟨uB 42,iI 4,1⟩,⟨uB 43,iI 5,2⟩] 3]) rfl
 have w3:0≤at_:=aa
 have w4:at_<(s.size:Int):=aa
 exact iq.nw ok (f:=1) (id:=KR D2) (hs:=[au 1,.val bJ (fO H) [H.n+0] [H.n+0],.val bJ (nc H) [H.n+0] [H.n+0],.val bJ (fN H) [H.n+0] [H.n+0],au 3,vl (.string s) (fN H),au 2,vl (iI at_) (fN H),.ck,.val (iI (cA (ak s at_))) (fN H) [] [H.n+0],au 1,.call (pt ((kT H nb).n) 0) (pR H nb p s at_ dp nd w wp) [p],au 0]) (tk<|kn (show (H.n+0)<H.n∨H.n≤(H.n+0) from aV)<|kn (show (H.n+0)<H.n∨H.n≤(H.n+0) from aV)<|kn (show (H.n+0)<H.n∨H.n≤(H.n+0) from aV)<|kn (show (H.n+0)≠p from aV)<|kn (show (H.n+0)≠p from aV)<|kn (show (H.n+0)≠p from aV)<|kn (show (H.n+0)≠p from aV)<|kn (show (H.n+0)≠p from aV)<|kn (show (H.n+0)≠p from aV)<|tk<|tk<|kn (show cH E 233 (.map (some (H.n+0))) (uB 63) (iI 6) (fq H)=some (bJ,fO H,[H.n+0],[H.n+0]) from j3 lH sL rfl rfl rfl rfl)<|kn (show bC (fq H) (fO H) [H.n+0]=true from tc rfl)<|kn (show cH E 233 (.map (some (H.n+0))) (uB 42) (iI 4) (fO H)=some (bJ,nc H,[H.n+0],[H.n+0]) from j3 lH sL rfl rfl rfl rfl)<|kn (show bC (fO H) (nc H) [H.n+0]=true from tc rfl)<|kn (show cH E 233 (.map (some (H.n+0))) (uB 43) (iI 5) (nc H)=some (bJ,fN H,[H.n+0],[H.n+0]) from j3 lH sL rfl rfl rfl rfl)<|kn (show bC (nc H) (fN H) [H.n+0]=true from tc rfl)<|tk<|tk<|tk<|tk<|kn w1<|tk<|tk<|tk<|tk<|kn w2<|tk<|kn w3<|kn w4<|tk<|kn (show gZ E 233 (.map (some (H.n+0))) (uB (ak s at_)) false (fN H)=some (iI (cA (ak s at_)),fN H,[],[H.n+0]) from uW (aB [.map [⟨uB 63,iI 6,0⟩,⟨uB 42,iI 4,1⟩,⟨uB 43,iI 5,2⟩] 3] H 0 _ rfl) (OP (ak s at_)).2.2.2.2.1)<|tk<|tk<|tk<|kn (show CC E 116 [pt p 0,iI (cA (ak s at_)),sc (H.n+1) 0 1 3] (kT H nb) (.ret (pt ((kT H nb).n) 0)) (pR H nb p s at_ dp nd w wp) [p] from uZ p s at_ dp nd w wp (cA (ak s at_)) (H.n+1) (y.news [.map [⟨uB 63,iI 6,0⟩,⟨uB 42,iI 4,1⟩,⟨uB 43,iI 5,2⟩] 3,.cells [pt nb 0] 127 false]) (y.old kp [.map [⟨uB 63,iI 6,0⟩,⟨uB 42,iI 4,1⟩,⟨uB 43,iI 5,2⟩] 3,.cells [pt nb 0] 127 false]) aa hs a0 aa hw)<|kn (show bC (kT H nb) (pR H nb p s at_ dp nd w wp) [p]=true from kW (y.news [.map [⟨uB 63,iI 6,0⟩,⟨uB 42,iI 4,1⟩,⟨uB 43,iI 5,2⟩] 3,.cells [pt nb 0] 127 false]) (y.old kp [.map [⟨uB 63,iI 6,0⟩,⟨uB 42,iI 4,1⟩,⟨uB 43,iI 5,2⟩] 3,.cells [pt nb 0] 127 false]))<|tk<|sw (pt p 0)<|sw (pt ((kT H nb).n) 0)<|trivial) ah rfl
theorem abQ:∀ md,fA md (jN jt (JW 4 2 3) (JX 4 2 3) [(4,2),(2,3)]):=by
 intro md
 cases md
 ·exact cr ah
 ·exact cr ah
 ·exact cr ah
noncomputable abbrev kU H nb:=news H [.map [⟨uB 63,iI 6,0⟩,⟨uB 43,iI 5,1⟩,⟨uB 42,iI 4,2⟩] 3,.cells [pt nb 0] 127 false]
noncomputable abbrev pS (H:Hp) nb p s at_ dp nd w wp:=news ((news H [.map [⟨uB 63,iI 6,0⟩,⟨uB 43,iI 5,1⟩,⟨uB 42,iI 4,2⟩] 3,.cells [pt nb 0] 127 false]).set p (.cells [.string s,iI at_,iI dp,iI (IntKind.i64.wrap (nd+1)),eF w wp] 151 false)) [.cells (gu (cA (ak s at_)) (IntKind.i64.wrap (nd+1))++[sc (H.n+1) 0 1 3]) 176 false]
noncomputable abbrev fP H:=news H [.map [⟨uB 63,iI 6,0⟩,⟨uB 43,iI 5,1⟩,⟨uB 42,iI 4,2⟩] 3]
noncomputable abbrev nh H:=news H [.map [⟨uB 63,iI 6,0⟩,⟨uB 43,iI 5,1⟩] 2]
theorem abL (p:Nat) (nb:Nat) (s:ByteArray) (at_ dp nd:Int) (w wp:Nat) {H:Hp} (y:Gd E G H) (kp:H.get p=some (.cells [.string s,.int .i64 at_,.int .i64 dp,.int .i64 nd,eF w wp] 151 false)) (gp:G.n≤p) (hs:(s.size:Int)<100000) (a0:0≤at_) (a1:at_≤s.size) (hw:w=0∨w=1) (hlt:at_<s.size):iq E 32 (jN jt (JW 4 3 2) (JX 4 3 2) [(4,3),(3,2)]) (bw [(0,pt p 0),(3,pt nb 0)]) H (bw [(0,pt p 0),(3,pt ((kU H nb).n) 0)]) (pS H nb p s at_ dp nd w wp) [H.n+0,H.n+0,H.n+0,p]:=by
 have jZ:=y.wf.lt kp
 have w1:aq E 9 p 0 (fP H)=some (.string s):=bQ bB (y.old kp [.map [⟨uB 63,iI 6,0⟩,⟨uB 43,iI 5,1⟩,⟨uB 42,iI 4,2⟩] 3]) rfl
 have w2:aq E 3 p 1 (fP H)=some (iI at_):=bQ aR (y.old kp [.map [⟨uB 63,iI 6,0⟩,⟨uB 43,iI 5,1⟩,⟨uB 42,iI 4,2⟩] 3]) rfl
 have w3:0≤at_:=aa
 have w4:at_<(s.size:Int):=aa
 exact iq.nw ok (f:=1) (id:=KR D2) (hs:=[au 1,.val bJ (fO H) [H.n+0] [H.n+0],.val bJ (nh H) [H.n+0] [H.n+0],.val bJ (fP H) [H.n+0] [H.n+0],au 3,vl (.string s) (fP H),au 2,vl (iI at_) (fP H),.ck,.val (iI (cA (ak s at_))) (fP H) [] [H.n+0],au 1,.call (pt ((kU H nb).n) 0) (pS H nb p s at_ dp nd w wp) [p],au 0]) (tk<|kn (show (H.n+0)<H.n∨H.n≤(H.n+0) from aV)<|kn (show (H.n+0)<H.n∨H.n≤(H.n+0) from aV)<|kn (show (H.n+0)<H.n∨H.n≤(H.n+0) from aV)<|kn (show (H.n+0)≠p from aV)<|kn (show (H.n+0)≠p from aV)<|kn (show (H.n+0)≠p from aV)<|kn (show (H.n+0)≠p from aV)<|kn (show (H.n+0)≠p from aV)<|kn (show (H.n+0)≠p from aV)<|tk<|tk<|kn (show cH E 233 (.map (some (H.n+0))) (uB 63) (iI 6) (fq H)=some (bJ,fO H,[H.n+0],[H.n+0]) from j3 lH sL rfl rfl rfl rfl)<|kn (show bC (fq H) (fO H) [H.n+0]=true from tc rfl)<|kn (show cH E 233 (.map (some (H.n+0))) (uB 43) (iI 5) (fO H)=some (bJ,nh H,[H.n+0],[H.n+0]) from j3 lH sL rfl rfl rfl rfl)<|kn (show bC (fO H) (nh H) [H.n+0]=true from tc rfl)<|kn (show cH E 233 (.map (some (H.n+0))) (uB 42) (iI 4) (nh H)=some (bJ,fP H,[H.n+0],[H.n+0]) from j3 lH sL rfl rfl rfl rfl)<|kn (show bC (nh H) (fP H) [H.n+0]=true from tc rfl)<|tk<|tk<|tk<|tk<|kn w1<|tk<|tk<|tk<|tk<|kn w2<|tk<|kn w3<|kn w4<|tk<|kn (show gZ E 233 (.map (some (H.n+0))) (uB (ak s at_)) false (fP H)=some (iI (cA (ak s at_)),fP H,[],[H.n+0]) from uW (aB [.map [⟨uB 63,iI 6,0⟩,⟨uB 43,iI 5,1⟩,⟨uB 42,iI 4,2⟩] 3] H 0 _ rfl) (OP (ak s at_)).2.2.2.2.2)<|tk<|tk<|tk<|kn (show CC E 116 [pt p 0,iI (cA (ak s at_)),sc (H.n+1) 0 1 3] (kU H nb) (.ret (pt ((kU H nb).n) 0)) (pS H nb p s at_ dp nd w wp) [p] from uZ p s at_ dp nd w wp (cA (ak s at_)) (H.n+1) (y.news [.map [⟨uB 63,iI 6,0⟩,⟨uB 43,iI 5,1⟩,⟨uB 42,iI 4,2⟩] 3,.cells [pt nb 0] 127 false]) (y.old kp [.map [⟨uB 63,iI 6,0⟩,⟨uB 43,iI 5,1⟩,⟨uB 42,iI 4,2⟩] 3,.cells [pt nb 0] 127 false]) aa hs a0 aa hw)<|kn (show bC (kU H nb) (pS H nb p s at_ dp nd w wp) [p]=true from kW (y.news [.map [⟨uB 63,iI 6,0⟩,⟨uB 43,iI 5,1⟩,⟨uB 42,iI 4,2⟩] 3,.cells [pt nb 0] 127 false]) (y.old kp [.map [⟨uB 63,iI 6,0⟩,⟨uB 43,iI 5,1⟩,⟨uB 42,iI 4,2⟩] 3,.cells [pt nb 0] 127 false]))<|tk<|sw (pt p 0)<|sw (pt ((kU H nb).n) 0)<|trivial) ah rfl
theorem abR:∀ md,fA md (jN jt (JW 4 3 2) (JX 4 3 2) [(4,3),(3,2)]):=by
 intro md
 cases md
 ·exact cr ah
 ·exact cr ah
 ·exact cr ah
theorem OS (p:Nat) (nb:Nat) (s:ByteArray) (at_ dp nd:Int) (w wp:Nat) {H:Hp} (y:Gd E G H) (kp:H.get p=some (.cells [.string s,.int .i64 at_,.int .i64 dp,.int .i64 nd,eF w wp] 151 false)) (gp:G.n≤p) (hs:(s.size:Int)<100000) (a0:0≤at_) (a1:at_≤s.size) (hw:w=0∨w=1) (hlt:at_<s.size):CG E 32 D2 (bw [(0,pt p 0),(3,pt nb 0)]) H [] .normal (bw [(0,pt p 0),(3,pt ((news H [.dead,.cells [pt nb 0] 127 false]).n) 0)]) (news ((news H [.dead,.cells [pt nb 0] 127 false]).set p (.cells [.string s,iI at_,iI dp,iI (IntKind.i64.wrap (nd+1)),eF w wp] 151 false)) [.cells (gu (cA (ak s at_)) (IntKind.i64.wrap (nd+1))++[sc (H.n+1) 0 1 3]) 176 false]) [] [H.n+0,H.n+0,H.n+0,p]:=by
 rw [V9]
 have jZ:=y.wf.lt kp
 refine CG.perm HA (fun wf=>Wf.news (Wf.set (Wf.news wf _) (by rw [bF];omega) _) _) fun l=>?_
 rcases Zk l with h |h |h |h |h |h
 ·exact ⟨_,_,_,_,FD 2 3 4 (by decide),FH h.1 h.2,abG p nb s at_ dp nd w wp y kp gp hs a0 a1 hw hlt,abM,rfl,Fv jZ⟩
 ·exact ⟨_,_,_,_,FD 2 4 3 (by decide),FH h.1 h.2,abH p nb s at_ dp nd w wp y kp gp hs a0 a1 hw hlt,abN,rfl,Fv jZ⟩
 ·exact ⟨_,_,_,_,FD 3 2 4 (by decide),FH h.1 h.2,abI p nb s at_ dp nd w wp y kp gp hs a0 a1 hw hlt,abO,rfl,Fv jZ⟩
 ·exact ⟨_,_,_,_,FD 3 4 2 (by decide),FH h.1 h.2,abJ p nb s at_ dp nd w wp y kp gp hs a0 a1 hw hlt,abP,rfl,Fv jZ⟩
 ·exact ⟨_,_,_,_,FD 4 2 3 (by decide),FH h.1 h.2,abK p nb s at_ dp nd w wp y kp gp hs a0 a1 hw hlt,abQ,rfl,Fv jZ⟩
 ·exact ⟨_,_,_,_,FD 4 3 2 (by decide),FH h.1 h.2,abL p nb s at_ dp nd w wp y kp gp hs a0 a1 hw hlt,abR,rfl,Fv jZ⟩
theorem Sy (p:Nat) (nb:Nat) (s:ByteArray) (at_ dp nd:Int) (w wp:Nat) {H:Hp} (y:Gd E G H) (kp:H.get p=some (.cells [.string s,.int .i64 at_,.int .i64 dp,.int .i64 nd,eF w wp] 151 false)) (gp:G.n≤p) (hs:(s.size:Int)<100000) (a0:0≤at_) (a1:at_≤s.size) (hw:w=0∨w=1) (hlt:at_<s.size):bt E G 32 D2 [(0,pt p 0),(3,pt nb 0)] H [p] (fun x T H'=>(x=.normal∧∃(ZS:Nat) (zZ:Int),T=bw [(0,pt p 0),(3,pt ZS 0)]∧(H'.get p=some (.cells [.string s,.int .i64 at_,.int .i64 dp,.int .i64 zZ,eF w wp] 151 false)))):=by
 have jZ:=y.wf.lt kp
 refine bt.mk y (OS p nb s at_ dp nd w wp y kp gp hs a0 a1 hw hlt) (fun q hq=>?_) (fun q hq=>?_) ⟨rfl,_,IntKind.i64.wrap (nd+1),rfl,?_⟩
 ·rw [bF,Hp.cT,bF]
  simp only [List.mem_cons,aH,or_false,List.length_cons,List.length_nil] at hq ⊢
  omega
 ·simp only [List.mem_cons,aH,or_false] at hq
  omega
 ·rw [jB _ _ _ (by rw [Hp.cT,bF];omega),Hp.ek,if_pos rfl]
noncomputable def Qj:Code:=cz [1,1,0,0,0] (bH Tryz.f146)
theorem Wa (p:Nat) (s:ByteArray) (yb:Int) (WI:Int):∀(m:Nat) (Tf:Nat) (at_:Int) (dp:Int) (nd:Int) (w:Nat) (wp:Nat) (H:Hp),Gd E G H→(kp:H.get p=some (.cells [.string s,iI at_,iI dp,iI nd,eF w wp] 151 false))→(hs:(s.size:Int)<100000)→(gp:G.n≤p)→(b0:0≤yb)→(b1:yb≤at_)→(a1:at_≤s.size)→(hw:w=0∨w=1)→(hd0:WI≤at_∨0<w)→((s.size:Int)-at_).toNat=m→
  aA E G 32 Qj [(0,pt p 0),(3,pt Tf 0)] H [p] (fun x T H'=>(x=(.exit 0)∧∃(ZS:Nat) (nK HQ zZ:Int) (yU Ey:Nat),T=bw [(3,pt ZS 0)]∧(H'.get p=some (.cells [.string s,.int .i64 nK,.int .i64 HQ,.int .i64 zZ,eF yU Ey] 151 false)∧yb≤nK∧nK≤s.size∧(yU=0∨yU=1)∧(WI≤nK∨0<yU)))):=by
 intro m
 induction m using Nat.strongRecOn with
 |_ m ih=>
 intro Tf at_ dp nd w wp H y kp hs gp b0 b1 a1 hw hd0 hm
 have jZ:=y.wf.lt kp
 obtain ⟨_,H1,c1,bN,y1,eD⟩:=qy p s at_ dp nd w wp ⟨#[42,43,63]⟩ y kp aa hs aa aa aa
 rcases eD with rfl |⟨rfl,Oi,Oh⟩
 ·have eK:=y.kept bN aH kp
  exact aA.last' y (bf [au 0,.call (.bool false) H1 []] [(3,pt Tf 0)] (.exit 0) H1 [] (fun _ r_=>cF c1 r_)) aj aM aJ ⟨rfl,Tf,at_,dp,nd,w,wp,rfl,⟨eK,by omega,by omega,by omega,by omega⟩⟩
 ·have jq:H.n+0≤H1.n:=bN.n
  have eK:=y.kept bN aH kp
  obtain ⟨_,_,H2,c2,dc,y2,rfl,zY,Aa,rfl,Jd⟩:=Sy p Tf s at_ dp nd w wp y1 eK gp hs aa aa aa aa
  have jI:H1.n+0≤H2.n:=dc.n
  have w1:aq E 3 p 1 H2=some (iI at_):=bQ aR Jd rfl
  have w2:=aC (at_+1)
  obtain ⟨K3,e3⟩:∃ K_,K_=H2.set p (.cells [.string s,iI (at_+1),iI dp,iI Aa,eF w wp] 151 false):=⟨_,rfl⟩
  have y3:Gd E G K3:=e3▸y2.set _ aa aa
  have AQ:=aP e3
  exact aA.next' y (bf [au 0,.call (.bool true) H1 [],.piece 4 [0,3] .normal (bw [(0,pt p 0),(3,pt zY 0)]) H2 [p],au 2,vl (iI at_) H2,.as (iI (at_+1)),au 1,vl bJ K3] [(0,pt p 0),(3,pt zY 0)] .normal K3 [p,p] (fun _ r_=>eM c1 c2 w1 w2 (show az E 3 p 1 (iI (at_+1)) H2=some K3 from (st bY Jd rfl rfl).trans (congrArg some e3.symm)) r_)) aj (ih _ aa zY (at_+1) dp Aa w wp _ y3 AQ hs gp b0 aa aa aa aa rfl)
theorem Um:E.func 146=some Tryz.f146:=ah
theorem Un:bO Tryz.f146 1=true:=ah
theorem Xh (p:Nat) (s:ByteArray) (at_:Int) (dp:Int) (nd:Int) (w:Nat) (wp:Nat) (n:Nat) {H:Hp} (y:Gd E G H) (kp:H.get p=some (.cells [.string s,.int .i64 at_,.int .i64 dp,.int .i64 nd,eF w wp] 151 false)) (gp:G.n≤p) (hs:(s.size:Int)<100000) (a0:0≤at_) (a1:at_≤s.size) (hw:w=0∨w=1) (hA:vC s n) (hn:((s.size:Int)-at_).toNat≤n) (hlt:at_<s.size):aD E G 146 [pt p 0] H [p] (PR s p at_):=by
 obtain ⟨_,H1,c1,bN,y1,fR,o6,T4,xR,JZ,AI,rfl,vr,Yk,ei,HW,Ol⟩:=Zv p s at_ dp nd w wp n y kp aa hs aa aa aa hA aa aa
 obtain ⟨_,_,H2,c2,dc,y2,rfl,zY,L0,L1,Aa,Tj,L5,rfl,Jd,JE,abV,YP,aeS⟩:=(Wa p s at_ (at_+1) _ fR o6 T4 xR JZ AI _ y1 vr hs gp a0 aa aa aa aa rfl).code
 exact aD.mk y (dj [au 1,.call (pt fR 0) H1 [p],au 0,.loop [0,3] (.exit 0) (bw [(3,pt zY 0)]) H2 [p],au 1] (pt zY 0) H2 [p,p] Um Un (cU c1 c2 aS)) aj aJ ⟨_,L0,L1,Aa,Tj,L5,rfl,Jd,by omega,by omega,by omega,by omega⟩
theorem gG:tu E #[173,173] 127 1 8=true:=ah
noncomputable def TM:Code:=cz [1,1,0,0,0] (bH Tryz.f117)
noncomputable abbrev l5 H2 iR:=news H2 [.cells [pt iR 0] 127 false]
theorem XV (p:Nat) (nb:Nat) (s:ByteArray) (n:Nat) (yb:Int) (w0:Nat):∀(m:Nat) (at_:Int) (dp:Int) (nd:Int) (w:Nat) (wp:Nat) (xs:List Value) (q:Nat) (ps:List Nat) (H:Hp),Gd E G H→(kp:H.get p=some (.cells [.string s,iI at_,iI dp,iI nd,eF w wp] 151 false))→(nD:H.get nb=some (.cells (xs++[sc q 0 ps.length 2]) 176 false))→(kq:H.get q=some (.cells (oy ps) 127 false))→(hA:vC s n)→(hs:(s.size:Int)<100000)→(gp:G.n≤p)→(gn:G.n≤nb)→(dn:p≠nb)→(b0:0≤yb)→(b1:yb≤at_)→(a1:at_≤s.size)→(hn:((s.size:Int)-yb).toNat≤n)→(hw:w=0∨w=1)→(hw0:w0≤w)→(np:NP xs)→(gq:G.n≤q)→(dq:p≠q)→(dr:nb≠q)→(bl:(ps.length:Int)≤at_+w+2)→2*((s.size:Int)-at_).toNat+(1-w)=m→
  aA E G 40 TM [(0,pt p 0),(3,pt nb 0)] H [p,nb,q] (fun x T H'=>(x=(.exit 0)∧∃(nK HQ zZ:Int) (yU Ey:Nat),T=bw [(3,pt nb 0)]∧(H'.get p=some (.cells [.string s,.int .i64 nK,.int .i64 HQ,.int .i64 zZ,eF yU Ey] 151 false)∧yb≤nK∧nK≤s.size∧w0≤yU∧(yU=0∨yU=1)))):=by
 intro m
 induction m using Nat.strongRecOn with
 |_ m ih=>
 intro at_ dp nd w wp xs q ps H y kp nD kq hA hs gp gn dn b0 b1 a1 hn hw hw0 np gq dq dr bl hm
 have jZ:=y.wf.lt kp
 have Ck:=y.wf.lt nD
 have R0:=y.wf.lt kq
 have w1:aq E 128 p 4 H=some (eF w wp):=bQ jx kp rfl
 rcases hw with rfl |rfl
 ·have w2:aq E 3 p 1 H=some (iI at_):=bQ aR kp rfl
  have w3:aq E 9 p 0 H=some (.string s):=bQ bB kp rfl
  cases h2:(decide (at_<(s.size:Int))) with
  |true=>
   have q2:=aL h2
   obtain ⟨_,H1,c1,bN,y1,eD⟩:=qy p s at_ dp nd 0 wp ⟨#[124,41]⟩ y kp aa hs aa aa aa
   rcases eD with rfl |⟨rfl,Oi,Oh⟩
   ·have jq:H.n+0≤H1.n:=bN.n
    have eJ:=y.kept bN aH nD
    have w4:=yJ np eJ
    have eK:=y.kept bN aH kp
    obtain ⟨_,H2,c2,dc,y2,iR,XH,dp2,Jv,ZM,Pd,rfl,yZ,ha2,ig,KM,YK⟩:=Xh p s at_ dp nd 0 wp n y1 eK aa hs aa aa aa hA aa aa
    have jI:H1.n+0≤H2.n:=dc.n
    have g2:=y2.n
    have B6:=y.kept bN aH kq
    have On:=y1.kept dc cu B6
    obtain ⟨K3,e3⟩:∃ K_,K_=((l5 H2 iR).set q .dead).new (.cells (oy (ps++[iR])) 127 false):=⟨_,rfl⟩
    have y3:Gd E G K3:=xN (y2.news [.cells [pt iR 0] 127 false]) e3 aa (by rw [bF];simp only [List.length_cons,List.length_nil];omega)
    have xS:K3.n=H2.n+2:=by rw [Ek e3,bF] <;> rfl
    have tN:K3.get (H2.n+1)=some (.cells (oy (ps++[iR])) 127 false):=sM e3
    have jD:=y1.kept dc cu eJ
    have mW:=iM (y2.news [.cells [pt iR 0] 127 false]) e3 aa (y2.old jD [.cells [pt iR 0] 127 false])
    obtain ⟨K4,e4⟩:∃ K_,K_=K3.set nb (.cells (xs++[sc (H2.n+1) 0 ((ps++[iR]).length) 2]) 176 false):=⟨_,rfl⟩
    have y4:Gd E G K4:=e4▸y3.set _ aa aa
    have H9:K4.n=K3.n+0:=by rw [e4,Hp.cT] <;> rfl
    have pN:=aP e4
    have AQ:=iM (y2.news [.cells [pt iR 0] 127 false]) e3 aa (y2.old yZ [.cells [pt iR 0] 127 false])
    have G6:=cZ e4 aa AQ
    have I9:=cZ e4 aa tN
    exact aA.nN y (bf [au 2,vl (eF 0 wp) H,au 4,vl (iI at_) H,au 2,vl (.string s) H,au 0,aI,au 2,.call (.bool false) H1 [],au 5,vl (sc q 0 ps.length 2) H1,au 0,.call (pt iR 0) H2 [p],au 0,.val (sc (H2.n+1) 0 ((ps++[iR]).length) 2) K3 [q] [q,H2.n+0],au 1,vl bJ K4] [(0,pt p 0),(3,pt nb 0)] .normal K4 [p,q,nb] (fun _ r_=>aE ag ag ag ag w1 ag ag ag<|aE ag ag ag w2 ag ag ag ag<|aE w3 ag ag h2 ag ag ag ag<|aE c1 ag ag ag ag (show p<H1.n∨H1.n≤p from aV) (show p<H1.n∨H1.n≤p from aV) (show p<H1.n∨H1.n≤p from aV)<|aE (show p<H1.n∨H1.n≤p from aV) (show p≠nb from aV) (show p<H1.n∨H1.n≤p from aV) (show q<H1.n∨H1.n≤q from aV) ag ag ag ag<|aE w4 ag ag c2 (show bC H1 H2 [p]=true from kW y1 eK) ag (show ee E #[173,173] (sc q 0 ps.length 2) (sc (H2.n+0) 0 1 3) (l5 H2 iR)=some (sc (H2.n+1) 0 ((ps++[iR]).length) 2,K3,[q],[q,H2.n+0]) from (rz gG rfl (show n9 (l5 H2 iR) 1 (sc (H2.n+0) 0 1 3)=some (1,[pt iR 0],[H2.n+0]) from kK (aB [.cells [pt iR 0] 127 false] H2 0 _ rfl) (dm rfl)) rfl (y2.old On [.cells [pt iR 0] 127 false]) (by rw [Y5];omega) aa).trans (by rw [W7 ps iR,Je ps iR,e3] <;> rfl)) (show bC (l5 H2 iR) K3 [q]=true from kW (y2.news [.cells [pt iR 0] 127 false]) (y2.old On [.cells [pt iR 0] 127 false]))<|gm ag ag (show az E 173 nb 258 (sc (H2.n+1) 0 ((ps++[iR]).length) 2) K3=some K4 from (yK np mW rfl rfl).trans (congrArg some e4.symm)) (show bC K3 K4 [nb]=true from kW y3 mW) r_)) aj aG (ih _ aa XH dp2 Jv ZM Pd xs (H2.n+1) (ps++[iR]) _ y4 G6 pN I9 hA hs gp gn dn b0 aa aa hn aa aa np aa aa aa (by simp only [List.length_append,List.length_cons,List.length_nil];omega) rfl)
   ·have eK:=y.kept bN aH kp
    exact aA.last' y (bf [au 2,vl (eF 0 wp) H,au 4,vl (iI at_) H,au 2,vl (.string s) H,au 0,aI,au 2,.call (.bool true) H1 [],au 1] [(3,pt nb 0)] (.exit 0) H1 [] (fun _ r_=>aE ag ag ag ag w1 ag ag ag<|aE ag ag ag w2 ag ag ag ag<|aE w3 ag ag h2 ag ag ag ag<|gm c1 ag ag ag r_)) aj aM aJ ⟨rfl,at_,dp,nd,0,wp,rfl,⟨eK,by omega,by omega,by omega,by omega⟩⟩
  |false=>
   exact aA.last' y (bf [au 2,vl (eF 0 wp) H,au 4,vl (iI at_) H,au 2,vl (.string s) H,au 0,aF,au 2] [(3,pt nb 0)] (.exit 0) H [] (fun _ r_=>aE ag ag ag ag w1 ag ag ag<|aE ag ag ag w2 ag ag ag ag<|aE w3 ag ag h2 ag ag ag ag r_)) aj aM aJ ⟨rfl,at_,dp,nd,0,wp,rfl,⟨kp,by omega,by omega,by omega,by omega⟩⟩
 ·exact aA.last' y (bf [au 2,vl (eF 1 wp) H,au 4] [(3,pt nb 0)] (.exit 0) H [] (fun _ r_=>aE ag ag ag ag w1 ag ag ag<|eY ag ag ag r_)) aj aM aJ ⟨rfl,at_,dp,nd,1,wp,rfl,⟨kp,by omega,by omega,by omega,by omega⟩⟩
noncomputable def TL:Code:=cz [1,1,0,0,0] (bH Tryz.f117)
noncomputable abbrev oI H2 iR:=news H2 [.cells [pt iR 0] 127 false,.cells [pt iR 0] 127 false]
theorem XU (p:Nat) (nb:Nat) (s:ByteArray) (n:Nat) (yb:Int) (w0:Nat):∀(m:Nat) (at_:Int) (dp:Int) (nd:Int) (w:Nat) (wp:Nat) (xs:List Value) (H:Hp),Gd E G H→(kp:H.get p=some (.cells [.string s,iI at_,iI dp,iI nd,eF w wp] 151 false))→(nD:H.get nb=some (.cells (xs++[.slice none 0 0]) 176 false))→(hA:vC s n)→(hs:(s.size:Int)<100000)→(gp:G.n≤p)→(gn:G.n≤nb)→(dn:p≠nb)→(b0:0≤yb)→(b1:yb≤at_)→(a1:at_≤s.size)→(hn:((s.size:Int)-yb).toNat≤n)→(hw:w=0∨w=1)→(hw0:w0≤w)→(np:NP xs)→2*((s.size:Int)-at_).toNat+(1-w)=m→
  aA E G 40 TL [(0,pt p 0),(3,pt nb 0)] H [p,nb] (fun x T H'=>(x=(.exit 0)∧∃(nK HQ zZ:Int) (yU Ey:Nat),T=bw [(3,pt nb 0)]∧(H'.get p=some (.cells [.string s,.int .i64 nK,.int .i64 HQ,.int .i64 zZ,eF yU Ey] 151 false)∧yb≤nK∧nK≤s.size∧w0≤yU∧(yU=0∨yU=1)))):=by
 intro m
 induction m using Nat.strongRecOn with
 |_ m ih=>
 intro at_ dp nd w wp xs H y kp nD hA hs gp gn dn b0 b1 a1 hn hw hw0 np hm
 have jZ:=y.wf.lt kp
 have Ck:=y.wf.lt nD
 have w1:aq E 128 p 4 H=some (eF w wp):=bQ jx kp rfl
 rcases hw with rfl |rfl
 ·have w2:aq E 3 p 1 H=some (iI at_):=bQ aR kp rfl
  have w3:aq E 9 p 0 H=some (.string s):=bQ bB kp rfl
  cases h2:(decide (at_<(s.size:Int))) with
  |true=>
   have q2:=aL h2
   obtain ⟨_,H1,c1,bN,y1,eD⟩:=qy p s at_ dp nd 0 wp ⟨#[124,41]⟩ y kp aa hs aa aa aa
   rcases eD with rfl |⟨rfl,Oi,Oh⟩
   ·have jq:H.n+0≤H1.n:=bN.n
    have eJ:=y.kept bN aH nD
    have w4:=yJ np eJ
    have eK:=y.kept bN aH kp
    obtain ⟨_,H2,c2,dc,y2,iR,XH,dp2,Jv,ZM,Pd,rfl,yZ,ha2,ig,KM,YK⟩:=Xh p s at_ dp nd 0 wp n y1 eK aa hs aa aa aa hA aa aa
    have jI:H1.n+0≤H2.n:=dc.n
    have g2:=y2.n
    have jD:=y1.kept dc cu eJ
    obtain ⟨K3,e3⟩:∃ K_,K_=(oI H2 iR).set nb (.cells (xs++[sc (H2.n+1) 0 1 2]) 176 false):=⟨_,rfl⟩
    have y3:Gd E G K3:=e3▸(y2.news [.cells [pt iR 0] 127 false,.cells [pt iR 0] 127 false]).set _ aa (by rw [bF];simp only [List.length_cons,List.length_nil];omega)
    have xS:K3.n=H2.n+2:=by rw [e3,Hp.cT,bF] <;> rfl
    have tN:=cZ e3 aa (aB [.cells [pt iR 0] 127 false,.cells [pt iR 0] 127 false] H2 1 _ rfl)
    have mW:=aP e3
    have AQ:=cZ e3 aa (y2.old yZ [.cells [pt iR 0] 127 false,.cells [pt iR 0] 127 false])
    exact aA.nN y (bf [au 2,vl (eF 0 wp) H,au 4,vl (iI at_) H,au 2,vl (.string s) H,au 0,aI,au 2,.call (.bool false) H1 [],au 5,vl (.slice none 0 0) H1,au 0,.call (pt iR 0) H2 [p],au 0,.val (sc (H2.n+1) 0 1 2) (oI H2 iR) [] [H2.n+0],au 1,vl bJ K3] [(0,pt p 0),(3,pt nb 0)] .normal K3 [p,nb] (fun _ r_=>aE ag ag ag ag w1 ag ag ag<|aE ag ag ag w2 ag ag ag ag<|aE w3 ag ag h2 ag ag ag ag<|aE c1 ag ag ag ag (show p<H1.n∨H1.n≤p from aV) (show p<H1.n∨H1.n≤p from aV) (show p<H1.n∨H1.n≤p from aV)<|aE (show p<H1.n∨H1.n≤p from aV) (show p≠nb from aV) (show p<H1.n∨H1.n≤p from aV) ag ag ag ag w4<|aE ag ag c2 (show bC H1 H2 [p]=true from kW y1 eK) ag (show ee E #[173,173] (.slice none 0 0) (sc (H2.n+0) 0 1 3) (l5 H2 iR)=some (sc (H2.n+1) 0 1 2,oI H2 iR,[],[H2.n+0]) from uH gG rfl (show n9 (l5 H2 iR) 1 (sc (H2.n+0) 0 1 3)=some (1,[pt iR 0],[H2.n+0]) from kK (aB [.cells [pt iR 0] 127 false] H2 0 _ rfl) (dm rfl)) rfl (by decide) (by decide)) ag ag<|eY ag (show az E 173 nb 258 (sc (H2.n+1) 0 1 2) (oI H2 iR)=some K3 from (yK np (y2.old jD [.cells [pt iR 0] 127 false,.cells [pt iR 0] 127 false]) rfl rfl).trans (congrArg some e3.symm)) (show bC (oI H2 iR) K3 [nb]=true from kW (y2.news [.cells [pt iR 0] 127 false,.cells [pt iR 0] 127 false]) (y2.old jD [.cells [pt iR 0] 127 false,.cells [pt iR 0] 127 false])) r_)) aj aG (XV p nb s n yb w0 _ XH dp2 Jv ZM Pd xs (H2.n+1) [iR] _ y3 AQ mW tN hA hs gp gn dn b0 aa aa hn aa aa np aa aa aa (by simp only [List.length_append,List.length_cons,List.length_nil];omega) rfl)
   ·have eK:=y.kept bN aH kp
    exact aA.last' y (bf [au 2,vl (eF 0 wp) H,au 4,vl (iI at_) H,au 2,vl (.string s) H,au 0,aI,au 2,.call (.bool true) H1 [],au 1] [(3,pt nb 0)] (.exit 0) H1 [] (fun _ r_=>aE ag ag ag ag w1 ag ag ag<|aE ag ag ag w2 ag ag ag ag<|aE w3 ag ag h2 ag ag ag ag<|gm c1 ag ag ag r_)) aj aM aJ ⟨rfl,at_,dp,nd,0,wp,rfl,⟨eK,by omega,by omega,by omega,by omega⟩⟩
  |false=>
   exact aA.last' y (bf [au 2,vl (eF 0 wp) H,au 4,vl (iI at_) H,au 2,vl (.string s) H,au 0,aF,au 2] [(3,pt nb 0)] (.exit 0) H [] (fun _ r_=>aE ag ag ag ag w1 ag ag ag<|aE ag ag ag w2 ag ag ag ag<|aE w3 ag ag h2 ag ag ag ag r_)) aj aM aJ ⟨rfl,at_,dp,nd,0,wp,rfl,⟨kp,by omega,by omega,by omega,by omega⟩⟩
 ·exact aA.last' y (bf [au 2,vl (eF 1 wp) H,au 4] [(3,pt nb 0)] (.exit 0) H [] (fun _ r_=>aE ag ag ag ag w1 ag ag ag<|eY ag ag ag r_)) aj aM aJ ⟨rfl,at_,dp,nd,1,wp,rfl,⟨kp,by omega,by omega,by omega,by omega⟩⟩
theorem Ue:E.func 117=some Tryz.f117:=ah
theorem Uf:bO Tryz.f117 1=true:=ah
theorem SI (p:Nat) (s:ByteArray) (at_:Int) (dp:Int) (nd:Int) (w:Nat) (wp:Nat) (n:Nat) {H:Hp} (y:Gd E G H) (kp:H.get p=some (.cells [.string s,.int .i64 at_,.int .i64 dp,.int .i64 nd,eF w wp] 151 false)) (gp:G.n≤p) (hs:(s.size:Int)<100000) (a0:0≤at_) (a1:at_≤s.size) (hw:w=0∨w=1) (hA:vC s n) (hn:((s.size:Int)-at_).toNat≤n):aD E G 117 [pt p 0] H [p] (PQ s p at_ w):=by
 have jZ:=y.wf.lt kp
 obtain ⟨_,H1,c1,bN,y1,fR,Wz,xR,rfl,VX,Vc,Ot,vr⟩:=uY p s at_ dp nd w wp 2 y kp aa hs aa aa aa
 have Zc:=y1.wf.lt Ot
 obtain ⟨_,_,H2,c2,dc,y2,rfl,L0,L1,Aa,Tj,L5,rfl,Jd,JE,abV,afS,YP⟩:=(XU p fR s n at_ w _ at_ dp xR w wp Wz  _ y1 vr Ot hA hs gp aa aa a0 aa aa hn aa aa VX rfl).code
 have jI:H1.n+0≤H2.n:=dc.n
 exact aD.mk y (dj [au 1,.call (pt fR 0) H1 [p],au 0,.loop [0,3] (.exit 0) (bw [(3,pt fR 0)]) H2 [p,fR],au 1] (pt fR 0) H2 [p,p,fR] Ue Uf (cU c1 c2 aS)) aG aJ ⟨_,L0,L1,Aa,Tj,L5,rfl,Jd,by omega,by omega,by omega,by omega⟩
noncomputable def TI:Code:=cz [1,1,0,0,0] (bH Tryz.f98)
noncomputable abbrev l6 H3 jQ:=news H3 [.cells [pt jQ 0] 127 false]
theorem Xz (p:Nat) (nb:Nat) (s:ByteArray) (n:Nat) (yb:Int) (w0:Nat):∀(m:Nat) (at_:Int) (dp:Int) (nd:Int) (w:Nat) (wp:Nat) (xs:List Value) (q:Nat) (ps:List Nat) (H:Hp),Gd E G H→(kp:H.get p=some (.cells [.string s,iI at_,iI dp,iI nd,eF w wp] 151 false))→(nD:H.get nb=some (.cells (xs++[sc q 0 ps.length 2]) 176 false))→(kq:H.get q=some (.cells (oy ps) 127 false))→(hA:vC s n)→(hs:(s.size:Int)<100000)→(gp:G.n≤p)→(gn:G.n≤nb)→(dn:p≠nb)→(b0:0≤yb)→(b1:yb≤at_)→(a1:at_≤s.size)→(hn:((s.size:Int)-yb).toNat≤n)→(hw:w=0∨w=1)→(hw0:w0≤w)→(np:NP xs)→(gq:G.n≤q)→(dq:p≠q)→(dr:nb≠q)→(bl:(ps.length:Int)≤at_+w+2)→((s.size:Int)-at_).toNat=m→
  aA E G 30 TI [(0,pt p 0),(3,pt nb 0)] H [p,nb,q] (fun x T H'=>(x=(.exit 0)∧∃(nK HQ zZ:Int) (yU Ey:Nat),T=bw [(3,pt nb 0)]∧(H'.get p=some (.cells [.string s,.int .i64 nK,.int .i64 HQ,.int .i64 zZ,eF yU Ey] 151 false)∧yb≤nK∧nK≤s.size∧w0≤yU∧(yU=0∨yU=1)))):=by
 intro m
 induction m using Nat.strongRecOn with
 |_ m ih=>
 intro at_ dp nd w wp xs q ps H y kp nD kq hA hs gp gn dn b0 b1 a1 hn hw hw0 np gq dq dr bl hm
 have jZ:=y.wf.lt kp
 have Ck:=y.wf.lt nD
 have R0:=y.wf.lt kq
 obtain ⟨_,H1,c1,bN,y1,eD⟩:=qy p s at_ dp nd w wp ⟨#[124]⟩ y kp aa hs aa aa aa
 rcases eD with rfl |⟨rfl,Oi,Oh⟩
 ·have eK:=y.kept bN aH kp
  exact aA.last' y (bf [au 0,.call (.bool false) H1 []] [(3,pt nb 0)] (.exit 0) H1 [] (fun _ r_=>cF c1 r_)) aj aM aJ ⟨rfl,at_,dp,nd,w,wp,rfl,⟨eK,by omega,by omega,by omega,by omega⟩⟩
 ·have jq:H.n+0≤H1.n:=bN.n
  have eK:=y.kept bN aH kp
  have w1:aq E 3 p 1 H1=some (iI at_):=bQ aR eK rfl
  have w2:=aC (at_+1)
  obtain ⟨K2,e2⟩:∃ K_,K_=H1.set p (.cells [.string s,iI (at_+1),iI dp,iI nd,eF w wp] 151 false):=⟨_,rfl⟩
  have y2:Gd E G K2:=e2▸y1.set _ aa aa
  have jI:K2.n=H1.n+0:=by rw [e2,Hp.cT] <;> rfl
  have lT:=aP e2
  have eJ:=y.kept bN aH nD
  have jD:=cZ e2 aa eJ
  have w3:=yJ np jD
  obtain ⟨_,H3,c3,gB,y3,jQ,HU,Km,Lj,Td,Pe,rfl,Jc,ha3,tg,U6,YL⟩:=SI p s (at_+1) dp nd w wp n y2 lT aa hs aa aa aa hA aa
  have xS:K2.n+0≤H3.n:=gB.n
  have g3:=y3.n
  have B6:=y.kept bN aH kq
  have On:=cZ e2 aa B6
  have Vt:=y2.kept gB cu On
  obtain ⟨K4,e4⟩:∃ K_,K_=((l6 H3 jQ).set q .dead).new (.cells (oy (ps++[jQ])) 127 false):=⟨_,rfl⟩
  have y4:Gd E G K4:=xN (y3.news [.cells [pt jQ 0] 127 false]) e4 aa (by rw [bF];simp only [List.length_cons,List.length_nil];omega)
  have H9:K4.n=H3.n+2:=by rw [Ek e4,bF] <;> rfl
  have tQ:K4.get (H3.n+1)=some (.cells (oy (ps++[jQ])) 127 false):=sM e4
  have mW:=y2.kept gB cu jD
  have pN:=iM (y3.news [.cells [pt jQ 0] 127 false]) e4 aa (y3.old mW [.cells [pt jQ 0] 127 false])
  obtain ⟨K5,e5⟩:∃ K_,K_=K4.set nb (.cells (xs++[sc (H3.n+1) 0 ((ps++[jQ]).length) 2]) 176 false):=⟨_,rfl⟩
  have y5:Gd E G K5:=e5▸y4.set _ aa aa
  have Pt:K5.n=K4.n+0:=by rw [e5,Hp.cT] <;> rfl
  have B7:=aP e5
  have G6:=iM (y3.news [.cells [pt jQ 0] 127 false]) e4 aa (y3.old Jc [.cells [pt jQ 0] 127 false])
  have s9:=cZ e5 aa G6
  have Ja:=cZ e5 aa tQ
  exact aA.nN y (bf [au 0,.call (.bool true) H1 [],au 2,vl (iI at_) H1,.as (iI (at_+1)),au 1,vl bJ K2,au 3,vl (sc q 0 ps.length 2) K2,au 0,.call (pt jQ 0) H3 [p],au 0,.val (sc (H3.n+1) 0 ((ps++[jQ]).length) 2) K4 [q] [q,H3.n+0],au 1,vl bJ K5] [(0,pt p 0),(3,pt nb 0)] .normal K5 [p,p,q,nb] (fun _ r_=>aE c1 w1 w2 (show az E 3 p 1 (iI (at_+1)) H1=some K2 from (st bY eK rfl rfl).trans (congrArg some e2.symm)) ag (show p<K2.n∨K2.n≤p from aV) (show p<K2.n∨K2.n≤p from aV) (show p<K2.n∨K2.n≤p from aV)<|aE (show p<K2.n∨K2.n≤p from aV) (show p≠nb from aV) (show p<K2.n∨K2.n≤p from aV) (show q<K2.n∨K2.n≤q from aV) ag ag ag ag<|aE w3 ag ag c3 (show bC K2 H3 [p]=true from kW y2 lT) ag (show ee E #[173,173] (sc q 0 ps.length 2) (sc (H3.n+0) 0 1 3) (l6 H3 jQ)=some (sc (H3.n+1) 0 ((ps++[jQ]).length) 2,K4,[q],[q,H3.n+0]) from (rz gG rfl (show n9 (l6 H3 jQ) 1 (sc (H3.n+0) 0 1 3)=some (1,[pt jQ 0],[H3.n+0]) from kK (aB [.cells [pt jQ 0] 127 false] H3 0 _ rfl) (dm rfl)) rfl (y3.old Vt [.cells [pt jQ 0] 127 false]) (by rw [Y5];omega) aa).trans (by rw [W7 ps jQ,Je ps jQ,e4] <;> rfl)) (show bC (l6 H3 jQ) K4 [q]=true from kW (y3.news [.cells [pt jQ 0] 127 false]) (y3.old Vt [.cells [pt jQ 0] 127 false]))<|gm ag ag (show az E 173 nb 258 (sc (H3.n+1) 0 ((ps++[jQ]).length) 2) K4=some K5 from (yK np pN rfl rfl).trans (congrArg some e5.symm)) (show bC K4 K5 [nb]=true from kW y4 pN) r_)) aj aG (ih _ aa HU Km Lj Td Pe xs (H3.n+1) (ps++[jQ]) _ y5 s9 B7 Ja hA hs gp gn dn b0 aa aa hn aa aa np aa aa aa (by simp only [List.length_append,List.length_cons,List.length_nil];omega) rfl)
noncomputable def TH:Code:=cz [1,1,0,0,0] (bH Tryz.f98)
noncomputable abbrev oJ H3 jQ bq:=news H3 [.cells [pt jQ 0] 127 false,.cells [pt bq 0,pt jQ 0] 127 false]
theorem Xy (p:Nat) (nb:Nat) (s:ByteArray) (n:Nat) (yb:Int) (w0:Nat):∀(m:Nat) (at_:Int) (dp:Int) (nd:Int) (w:Nat) (wp:Nat) (xs:List Value) (q:Nat) (bq:Nat) (H:Hp),Gd E G H→(kp:H.get p=some (.cells [.string s,iI at_,iI dp,iI nd,eF w wp] 151 false))→(nD:H.get nb=some (.cells (xs++[sc q 0 1 3]) 176 false))→(kq:H.get q=some (.cells [pt bq 0] 127 false))→(hA:vC s n)→(hs:(s.size:Int)<100000)→(gp:G.n≤p)→(gn:G.n≤nb)→(dn:p≠nb)→(b0:0≤yb)→(b1:yb≤at_)→(a1:at_≤s.size)→(hn:((s.size:Int)-yb).toNat≤n)→(hw:w=0∨w=1)→(hw0:w0≤w)→(np:NP xs)→(gq:G.n≤q)→(dq:p≠q)→(dr:nb≠q)→((s.size:Int)-at_).toNat=m→
  aA E G 30 TH [(0,pt p 0),(3,pt nb 0)] H [p,nb,q] (fun x T H'=>(x=(.exit 0)∧∃(nK HQ zZ:Int) (yU Ey:Nat),T=bw [(3,pt nb 0)]∧(H'.get p=some (.cells [.string s,.int .i64 nK,.int .i64 HQ,.int .i64 zZ,eF yU Ey] 151 false)∧yb≤nK∧nK≤s.size∧w0≤yU∧(yU=0∨yU=1)))):=by
 intro m
 induction m using Nat.strongRecOn with
 |_ m ih=>
 intro at_ dp nd w wp xs q bq H y kp nD kq hA hs gp gn dn b0 b1 a1 hn hw hw0 np gq dq dr hm
 have jZ:=y.wf.lt kp
 have Ck:=y.wf.lt nD
 have R0:=y.wf.lt kq
 obtain ⟨_,H1,c1,bN,y1,eD⟩:=qy p s at_ dp nd w wp ⟨#[124]⟩ y kp aa hs aa aa aa
 rcases eD with rfl |⟨rfl,Oi,Oh⟩
 ·have eK:=y.kept bN aH kp
  exact aA.last' y (bf [au 0,.call (.bool false) H1 []] [(3,pt nb 0)] (.exit 0) H1 [] (fun _ r_=>cF c1 r_)) aj aM aJ ⟨rfl,at_,dp,nd,w,wp,rfl,⟨eK,by omega,by omega,by omega,by omega⟩⟩
 ·have jq:H.n+0≤H1.n:=bN.n
  have eK:=y.kept bN aH kp
  have w1:aq E 3 p 1 H1=some (iI at_):=bQ aR eK rfl
  have w2:=aC (at_+1)
  obtain ⟨K2,e2⟩:∃ K_,K_=H1.set p (.cells [.string s,iI (at_+1),iI dp,iI nd,eF w wp] 151 false):=⟨_,rfl⟩
  have y2:Gd E G K2:=e2▸y1.set _ aa aa
  have jI:K2.n=H1.n+0:=by rw [e2,Hp.cT] <;> rfl
  have lT:=aP e2
  have eJ:=y.kept bN aH nD
  have jD:=cZ e2 aa eJ
  have w3:=yJ np jD
  obtain ⟨_,H3,c3,gB,y3,jQ,HU,Km,Lj,Td,Pe,rfl,Jc,ha3,tg,U6,YL⟩:=SI p s (at_+1) dp nd w wp n y2 lT aa hs aa aa aa hA aa
  have xS:K2.n+0≤H3.n:=gB.n
  have g3:=y3.n
  have B6:=y.kept bN aH kq
  have On:=cZ e2 aa B6
  have Vt:=y2.kept gB cu On
  have mW:=y2.kept gB cu jD
  obtain ⟨K4,e4⟩:∃ K_,K_=(oJ H3 jQ bq).set nb (.cells (xs++[sc (H3.n+1) 0 2 2]) 176 false):=⟨_,rfl⟩
  have y4:Gd E G K4:=e4▸(y3.news [.cells [pt jQ 0] 127 false,.cells [pt bq 0,pt jQ 0] 127 false]).set _ aa (by rw [bF];simp only [List.length_cons,List.length_nil];omega)
  have H9:K4.n=H3.n+2:=by rw [e4,Hp.cT,bF] <;> rfl
  have tQ:=cZ e4 aa (aB [.cells [pt jQ 0] 127 false,.cells [pt bq 0,pt jQ 0] 127 false] H3 1 _ rfl)
  have pN:=aP e4
  have G6:=cZ e4 aa (y3.old Jc [.cells [pt jQ 0] 127 false,.cells [pt bq 0,pt jQ 0] 127 false])
  exact aA.nN y (bf [au 0,.call (.bool true) H1 [],au 2,vl (iI at_) H1,.as (iI (at_+1)),au 1,vl bJ K2,au 3,vl (sc q 0 1 3) K2,au 0,.call (pt jQ 0) H3 [p],au 0,.val (sc (H3.n+1) 0 2 2) (oJ H3 jQ bq) [] [q,H3.n+0],au 1,vl bJ K4] [(0,pt p 0),(3,pt nb 0)] .normal K4 [p,p,nb] (fun _ r_=>aE c1 w1 w2 (show az E 3 p 1 (iI (at_+1)) H1=some K2 from (st bY eK rfl rfl).trans (congrArg some e2.symm)) ag (show p<K2.n∨K2.n≤p from aV) (show p<K2.n∨K2.n≤p from aV) (show p<K2.n∨K2.n≤p from aV)<|aE (show p<K2.n∨K2.n≤p from aV) (show p≠nb from aV) (show p<K2.n∨K2.n≤p from aV) ag ag ag ag w3<|aE ag ag c3 (show bC K2 H3 [p]=true from kW y2 lT) ag (show ee E #[173,173] (sc q 0 1 3) (sc (H3.n+0) 0 1 3) (l6 H3 jQ)=some (sc (H3.n+1) 0 2 2,oJ H3 jQ bq,[],[q,H3.n+0]) from Io (c:=1) gG rfl (show n9 (l6 H3 jQ) 1 (sc (H3.n+0) 0 1 3)=some (1,[pt jQ 0],[H3.n+0]) from kK (aB [.cells [pt jQ 0] 127 false] H3 0 _ rfl) (dm rfl)) rfl (y3.old Vt [.cells [pt jQ 0] 127 false]) (dm rfl) (by decide) (by decide)) ag ag<|eY ag (show az E 173 nb 258 (sc (H3.n+1) 0 2 2) (oJ H3 jQ bq)=some K4 from (yK np (y3.old mW [.cells [pt jQ 0] 127 false,.cells [pt bq 0,pt jQ 0] 127 false]) rfl rfl).trans (congrArg some e4.symm)) (show bC (oJ H3 jQ bq) K4 [nb]=true from kW (y3.news [.cells [pt jQ 0] 127 false,.cells [pt bq 0,pt jQ 0] 127 false]) (y3.old mW [.cells [pt jQ 0] 127 false,.cells [pt bq 0,pt jQ 0] 127 false])) r_)) aj aG (Xz p nb s n yb w0 _ HU Km Lj Td Pe xs (H3.n+1) ([bq,jQ]) _ y4 G6 pN tQ hA hs gp gn dn b0 aa aa hn aa aa np aa aa aa (by simp only [List.length_append,List.length_cons,List.length_nil];omega) rfl)
theorem Yh:E.func 98=some Tryz.f98:=ah
theorem Yi:bO Tryz.f98 1=true:=ah
theorem Zu (p:Nat) (s:ByteArray) (at_:Int) (dp:Int) (nd:Int) (w:Nat) (wp:Nat) (n:Nat) {H:Hp} (y:Gd E G H) (kp:H.get p=some (.cells [.string s,.int .i64 at_,.int .i64 dp,.int .i64 nd,eF w wp] 151 false)) (gp:G.n≤p) (hs:(s.size:Int)<100000) (a0:0≤at_) (a1:at_≤s.size) (hw:w=0∨w=1) (hA:vC s n) (hn:((s.size:Int)-at_).toNat≤n):aD E G 98 [pt p 0] H [p] (PQ s p at_ w):=by
 have jZ:=y.wf.lt kp
 obtain ⟨_,H1,c1,bN,y1,fR,o6,T4,xR,JZ,AI,rfl,vr,Yk,ei,HW,Ol⟩:=SI p s at_ dp nd w wp n y kp aa hs aa aa aa hA aa
 have jq:H.n+0≤H1.n:=bN.n
 have g1:=y1.n
 obtain ⟨_,H2,c2,dc,y2,iR,xs2,Jv,rfl,np2,Yx,kn2,yZ⟩:=Wg p s o6 T4 xR JZ AI 3 (H1.n+0) (y1.news [.cells [pt fR 0] 127 false]) (y1.old vr [.cells [pt fR 0] 127 false]) aa hs aa aa aa
 have jI:H1.n+1≤H2.n:=by have h:=dc.n;rw [bF] at h;exact h
 have g2:=y2.n
 have I6:=(y1.news [.cells [pt fR 0] 127 false]).kept dc cu (aB [.cells [pt fR 0] 127 false] H1 0 _ rfl)
 have ahR:=y2.wf.lt kn2
 rw [bF] at Yx;simp only [List.length_cons,List.length_nil] at Yx
 obtain ⟨_,_,H3,c3,gB,y3,rfl,ZQ,ZR,ZT,acs,ZU,rfl,aex,yO,abW,afT,aen⟩:=(Xy p iR s n at_ w _ o6 T4 Jv JZ AI xs2  (H1.n+0) fR _ y2 yZ kn2 I6 hA hs gp aa aa a0 aa aa hn aa aa np2 aa aa aa rfl).code
 have xS:H2.n+0≤H3.n:=gB.n
 exact aD.mk y (dj [au 2,.call (pt fR 0) H1 [p],au 0,.call (pt iR 0) H2 [p],au 0,.loop [0,3] (.exit 0) (bw [(3,pt iR 0)]) H3 [p,iR,H1.n+0],au 1] (pt iR 0) H3 [p,p,p,iR,H1.n+0] Yh Yi (eY c1 c2 c3 aS)) aG aJ ⟨_,ZQ,ZR,ZT,acs,ZU,rfl,aex,by omega,by omega,by omega,by omega⟩
theorem WH (s:ByteArray):∀ n,vC s n
 |0=>fun p at_ dp nd w wp H y kp gp hs a0 a1 hw h=>absurd h (Nat.not_lt_zero _)
 |n+1=>fun p at_ dp nd w wp H y kp gp hs a0 a1 hw h=>Zu p s at_ dp nd w wp n y kp gp hs a0 a1 hw (WH s n) aa
theorem GR:E.func 82=some Tryz.f82:=ah
theorem GS:bO Tryz.f82 1=true:=ah
theorem Wh (s:ByteArray) {H:Hp} (y:Gd E G H):aD E G 82 [.string s] H [] (fun v H'=>(∃ a,v=.tuple #[a,.pointer none])∨∃ a b,v=.tuple #[a,pt b 0]):=by
 have g0:=y.n
 cases h1:(decide ((s.size:Int)>200)) with
 |true=>
  exact bA y [au 3,aI,au 4] (.tuple #[.pointer none,pt (H.n+0) 0]) (news H [.cells [iI 0,.iface 41 (iI 2)] 140 false]) GR GS (cF h1 aS) (.inr ⟨_,_,rfl⟩)
 |false=>
  have q1:=aQ h1
  have hs:(s.size:Int)<100000:=aa
  obtain ⟨_,H1,c1,bN,y1,fR,o6,T4,xR,JZ,AI,rfl,vr,Yk,ei,HW,Ol⟩:=WH s (((s.size:Int)-0).toNat+1) (H.n+0) 0 0 0 0 0 (y.news [.cells [.string s,iI 0,iI 0,iI 0,.pointer none] 151 false]) (aB [.cells [.string s,iI 0,iI 0,iI 0,.pointer none] 151 false] H 0 _ rfl) aa aa aa aa aa aa
  have jq:H.n+1≤H1.n:=by have h:=bN.n;rw [bF] at h;exact h
  have w1:aq E 3 (H.n+0) 1 H1=some (iI o6):=bQ aR vr rfl
  cases h2:(decide (o6<(s.size:Int))) with
  |true=>
   obtain ⟨_,H2,c2,dc,y2,iR,Jv,Pd,rfl,yZ⟩:=qx (H.n+0) s o6 T4 xR JZ AI 2 y1 vr aa hs aa aa aa
   have jI:H1.n+0≤H2.n:=dc.n
   have w2:aq E 128 (H.n+0) 4 H2=some (eF 1 Pd):=bQ jx yZ rfl
   exact aD.mk y (dj [au 3,aF,au 4,.call (pt fR 0) H1 [H.n+0],au 3,vl (iI o6) H1,au 1,aI,au 1,.call (pt iR 0) H2 [H.n+0],au 3,vl (eF 1 Pd) H2,au 1] (.tuple #[pt fR 0,eF 1 Pd]) H2 [H.n+0,H.n+0] GR GS (aE h1 c1 w1 h2 c2 ag ag ag<|fG ag ag w2 ag ag ag aS)) aG aM (.inr ⟨_,_,rfl⟩)
  |false=>
   have w2:aq E 128 (H.n+0) 4 H1=some (eF JZ AI):=bQ jx vr rfl
   rcases Ol with rfl |rfl
   ·exact aD.mk y (dj [au 3,aF,au 4,.call (pt fR 0) H1 [H.n+0],au 3,vl (iI o6) H1,au 1,aF,au 3,vl (eF 0 AI) H1,au 1] (.tuple #[pt fR 0,eF 0 AI]) H1 [H.n+0] GR GS (aE h1 c1 w1 h2 ag ag ag ag<|eM ag w2 ag ag ag aS)) aG aM (.inl ⟨_,rfl⟩)
   ·exact aD.mk y (dj [au 3,aF,au 4,.call (pt fR 0) H1 [H.n+0],au 3,vl (iI o6) H1,au 1,aF,au 3,vl (eF 1 AI) H1,au 1] (.tuple #[pt fR 0,eF 1 AI]) H1 [H.n+0] GR GS (aE h1 c1 w1 h2 ag ag ag ag<|eM ag w2 ag ag ag aS)) aG aM (.inr ⟨_,_,rfl⟩)
theorem QS:E.func 71=some Tryz.f71:=ah
theorem QT:bO Tryz.f71 1=true:=ah
theorem Ny (s:ByteArray) {H:Hp} (y:Gd E G H):aD E G 71 [.string s] H [] (fun v H'=>v=.nilIface∨∃ b,v=.iface 128 (pt b 0)):=by
 obtain ⟨_,H1,c1,bN,y1,eD⟩:=Wh s y
 rcases eD with ⟨pa,rfl⟩ |⟨pa,pb,rfl⟩
 ·exact bA y [au 1,.call (.tuple #[pa,.pointer none]) H1 [],au 7] .nilIface H1 QS QT (cF c1 aS) (.inl rfl)
 ·exact bA y [au 1,.call (.tuple #[pa,pt pb 0]) H1 [],au 9] (.iface 128 (pt pb 0)) H1 QS QT (cF c1 aS) (.inr ⟨_,rfl⟩)
theorem rH:E.func 55=some Tryz.f55:=ah
theorem rI:bO Tryz.f55 1=true:=ah
noncomputable abbrev aY H op a s:=news H [.cells [iI op,.string a,.string s] 40 false]
noncomputable abbrev xg (a:ByteArray) (H:Hp) (op:Int) (s:ByteArray) (l_:List Hint):=au 2::vl (.string a) (aY H op a s)::.call (.bool true) (aY H op a s) []::au 2::vl (.string s) (aY H op a s)::l_
noncomputable abbrev mb (a:ByteArray) (H:Hp) (op:Int) (s:ByteArray) (l_:List Hint):=xg a H op s (.call (.bool true) (aY H op a s) []::au 2::vl (iI op) (aY H op a s)::aF::au 0::l_)
theorem Cl (op:Int) (a:ByteArray) (s:ByteArray) {H:Hp} (y:Gd E G H) (ha:(a.size:Int)<100000):aD E G 55 [.agg #[iI op,.string a,.string s]] H [] (fun v H'=>∃(b:Bool),v=(.bool b)):=by
 have w1:aq E 9 (H.n+0) 1 (aY H op a s)=some (.string a):=cI bB rfl rfl
 obtain ⟨xQ,dM⟩:=lC a aa
 cases xQ with
 |true=>
  have w2:aq E 9 (H.n+0) 2 (aY H op a s)=some (.string s):=cI bB rfl rfl
  obtain ⟨K9,lu⟩:=Hj s
  cases K9 with
  |true=>
   have w3:aq E 3 (H.n+0) 0 (aY H op a s)=some (iI op):=cI aR rfl rfl
   cases h3:(op==1) with
   |true=>
    exact bA y (xg a H op s [.call (.bool true) (aY H op a s) [],au 2,vl (iI op) (aY H op a s),aI,au 1]) (.bool true) (aY H op a s) rH rI (fG w1 (show CC E 69 [.string a] (aY H op a s) (.ret (.bool true)) (aY H op a s) [] from dM (y.news [.cells [iI op,.string a,.string s] 40 false])) w2 (show CC E 70 [.string s] (aY H op a s) (.ret (.bool true)) (aY H op a s) [] from lu (y.news [.cells [iI op,.string a,.string s] 40 false])) w3 h3 aS) ⟨true,rfl⟩
   |false=>
    cases h4:(op==2) with
    |true=>
     exact bA y (mb a H op s [aI,au 1]) (.bool true) (aY H op a s) rH rI (fk w1 (show CC E 69 [.string a] (aY H op a s) (.ret (.bool true)) (aY H op a s) [] from dM (y.news [.cells [iI op,.string a,.string s] 40 false])) w2 (show CC E 70 [.string s] (aY H op a s) (.ret (.bool true)) (aY H op a s) [] from lu (y.news [.cells [iI op,.string a,.string s] 40 false])) w3 h3 h4 aS) ⟨true,rfl⟩
    |false=>
     cases h5:(op==3) with
     |true=>
      obtain ⟨_,H1,c1,bN,y1,eD⟩:=Ny s (y.news [.cells [iI op,.string a,.string s] 40 false])
      rcases eD with rfl |⟨cb,rfl⟩
      ·exact bA y (mb a H op s [aF,au 0,aI,au 1,vl (.string s) (aY H op a s),.call .nilIface H1 [],au 1]) (.bool true) H1 rH rI (aE w1 (show CC E 69 [.string a] (aY H op a s) (.ret (.bool true)) (aY H op a s) [] from dM (y.news [.cells [iI op,.string a,.string s] 40 false])) w2 (show CC E 70 [.string s] (aY H op a s) (.ret (.bool true)) (aY H op a s) [] from lu (y.news [.cells [iI op,.string a,.string s] 40 false])) w3 h3 h4 h5<|cU w2 c1 aS) ⟨true,rfl⟩
      ·exact bA y (mb a H op s [aF,au 0,aI,au 1,vl (.string s) (aY H op a s),.call (.iface 128 (pt cb 0)) H1 [],au 1]) (.bool false) H1 rH rI (aE w1 (show CC E 69 [.string a] (aY H op a s) (.ret (.bool true)) (aY H op a s) [] from dM (y.news [.cells [iI op,.string a,.string s] 40 false])) w2 (show CC E 70 [.string s] (aY H op a s) (.ret (.bool true)) (aY H op a s) [] from lu (y.news [.cells [iI op,.string a,.string s] 40 false])) w3 h3 h4 h5<|cU w2 c1 aS) ⟨false,rfl⟩
     |false=>
      cases h6:(op==4) with
      |true=>
       obtain ⟨_,H1,c1,bN,y1,eD⟩:=Ny s (y.news [.cells [iI op,.string a,.string s] 40 false])
       rcases eD with rfl |⟨cb,rfl⟩
       ·exact bA y (mb a H op s [aF,au 0,aF,au 0,aI,au 1,vl (.string s) (aY H op a s),.call .nilIface H1 [],au 1]) (.bool true) H1 rH rI (aE w1 (show CC E 69 [.string a] (aY H op a s) (.ret (.bool true)) (aY H op a s) [] from dM (y.news [.cells [iI op,.string a,.string s] 40 false])) w2 (show CC E 70 [.string s] (aY H op a s) (.ret (.bool true)) (aY H op a s) [] from lu (y.news [.cells [iI op,.string a,.string s] 40 false])) w3 h3 h4 h5<|eY h6 w2 c1 aS) ⟨true,rfl⟩
       ·exact bA y (mb a H op s [aF,au 0,aF,au 0,aI,au 1,vl (.string s) (aY H op a s),.call (.iface 128 (pt cb 0)) H1 [],au 1]) (.bool false) H1 rH rI (aE w1 (show CC E 69 [.string a] (aY H op a s) (.ret (.bool true)) (aY H op a s) [] from dM (y.news [.cells [iI op,.string a,.string s] 40 false])) w2 (show CC E 70 [.string s] (aY H op a s) (.ret (.bool true)) (aY H op a s) [] from lu (y.news [.cells [iI op,.string a,.string s] 40 false])) w3 h3 h4 h5<|eY h6 w2 c1 aS) ⟨false,rfl⟩
      |false=>
       exact bA y (mb a H op s [aF,au 0,aF,au 0,aF,au 1]) (.bool false) (aY H op a s) rH rI (aE w1 (show CC E 69 [.string a] (aY H op a s) (.ret (.bool true)) (aY H op a s) [] from dM (y.news [.cells [iI op,.string a,.string s] 40 false])) w2 (show CC E 70 [.string s] (aY H op a s) (.ret (.bool true)) (aY H op a s) [] from lu (y.news [.cells [iI op,.string a,.string s] 40 false])) w3 h3 h4 h5<|cF h6 aS) ⟨false,rfl⟩
  |false=>
   exact bA y (xg a H op s [.call (.bool false) (aY H op a s) [],au 2]) (.bool false) (aY H op a s) rH rI (gm w1 (show CC E 69 [.string a] (aY H op a s) (.ret (.bool true)) (aY H op a s) [] from dM (y.news [.cells [iI op,.string a,.string s] 40 false])) w2 (show CC E 70 [.string s] (aY H op a s) (.ret (.bool false)) (aY H op a s) [] from lu (y.news [.cells [iI op,.string a,.string s] 40 false])) aS) ⟨false,rfl⟩
 |false=>
  exact bA y [au 2,vl (.string a) (aY H op a s),.call (.bool false) (aY H op a s) [],au 3] (.bool false) (aY H op a s) rH rI (cU w1 (show CC E 69 [.string a] (aY H op a s) (.ret (.bool false)) (aY H op a s) [] from dM (y.news [.cells [iI op,.string a,.string s] 40 false])) aS) ⟨false,rfl⟩
theorem rQ (op:Int) (a:ByteArray) (s:ByteArray) (ha:(a.size:Int)<100000):∃(b:Bool),∀{H:Hp},Gd E G H→CC E 55 [.agg #[iI op,.string a,.string s]] H (.ret (.bool b)) H []:=by
 obtain ⟨_,_,c,_,_,b,rfl⟩:=Cl op a s eZ ha
 exact ⟨b,fun y=>aW (HE _) (.ground rfl) c y⟩
structure Fe where
 (k op v:Int) (s:ByteArray) (pm:Option Addr) (nm cm:Nat) (wide off:Int) (ha:Bool) (at_ how:Int) (pn:Option Addr) (nn cn:Nat) (bl:Bool) (pk:Option Addr) (nk ck:Nat)
abbrev eC (f:Fe):List Value:=[iI f.k,iI f.op,uU f.v,.string f.s,.slice f.pm f.nm f.cm,iI f.wide,iI f.off,.bool f.ha,iI f.at_,iI f.how,.slice f.pn f.nn f.cn,.bool f.bl,.slice f.pk f.nk f.ck]
abbrev M3:=Int×ByteArray×ByteArray
inductive Xp where
 |mk (f:Fe) (ms:List M3) (ns:List ByteArray) (kids:List Xp)
def Xp.f:Xp→Fe |.mk f _ _ _=>f
def Xp.ms:Xp→List M3 |.mk _ m _ _=>m
def Xp.ns:Xp→List ByteArray |.mk _ _ n _=>n
def Xp.kids:Xp→List Xp |.mk _ _ _ k=>k
def kC (kids:List Xp):List Value:=kids.flatMap fun x=>eC x.f
def mC (ms:List M3):List Value:=ms.flatMap fun m=>[iI m.1,.string m.2.1,.string m.2.2]
def gU (X:Hp) (p:Option Addr) (n:Nat) (cs:List Value):Prop:=n=0∨∃ b ro t,p=some ⟨b,0,none⟩∧X.get b=some (.cells cs t ro)
theorem gU.open {X:Hp} {p:Option Addr} {n:Nat} {cs:List Value} (h:gU X p n cs) (hn:n≠0):∃ b ro t,p=some ⟨b,0,none⟩∧X.get b=some (.cells cs t ro):=h.resolve_left hn
structure At (X:Hp) (x:Xp):Prop where
 nm:x.f.nm=x.ms.length
 nn:x.f.nn=x.ns.length
 nk:x.f.nk=x.kids.length
 rm:gU X x.f.pm x.f.nm (mC x.ms)
 rn:gU X x.f.pn x.f.nn (ju x.ns)
 rk:gU X x.f.pk x.f.nk (kC x.kids)
 bm:x.f.nm<281474976710656
 bn:x.f.nn<281474976710656
 bk:x.f.nk<281474976710656
inductive jG (X:Hp):Xp→Prop
 |mk {x:Xp}:At X x→(∀ k∈x.kids,jG X k)→jG X x
theorem At.W5 {X:Hp} {x:Xp} (a:At X x) {i:Nat} (h:i<x.f.nk):∃ k,x.kids[i]?=some k:=⟨_,bZ (a.nk▸h)⟩
theorem At.mat {X:Hp} {x:Xp} (a:At X x) {i:Nat} (h:i<x.f.nm):∃ k,x.ms[i]?=some k:=⟨_,bZ (a.nm▸h)⟩
theorem At.nam {X:Hp} {x:Xp} (a:At X x) {i:Nat} (h:i<x.f.nn):∃ k,x.ns[i]?=some k:=⟨_,bZ (a.nn▸h)⟩
theorem qA {E:Env} {G X H:Hp} (a:Gd E G X) (b:Gd E X H):Gd E G H:=⟨b.wf,Nat.le_trans a.n b.n,a.ng,fun i hi=>(b.get i (Nat.lt_of_lt_of_le hi a.n)).trans (a.get i hi)⟩
theorem gdS {E:Env} {G X:Hp} (a:Gd E G X):Gd E X X:=⟨a.wf,Nat.le_refl _,a.Zg,fun _ _=>rfl⟩
theorem gU.up {E:Env} {X H:Hp} (y:Gd E X H) (wf:Wf X) {p:Option Addr} {n:Nat} {cs:List Value} (h:gU X p n cs):gU H p n cs:=by
 rcases h with h |⟨b,ro,t,h1,h2⟩
 ·exact .inl h
 ·exact .inr ⟨b,ro,t,h1,y.cell h2 (wf.lt h2)⟩
theorem At.up {E:Env} {X H:Hp} (y:Gd E X H) (wf:Wf X) {x:Xp} (a:At X x):At H x:=⟨a.nm,a.nn,a.nk,a.rm.up y wf,a.rn.up y wf,a.rk.up y wf,a.bm,a.bn,a.bk⟩
theorem jG.up {E:Env} {X H:Hp} (y:Gd E X H) (wf:Wf X) {x:Xp} (h:jG X x):jG H x:=by
 induction h with
 |mk a _ ih=>exact .mk (a.up y wf) ih
theorem yu {α:Type} {g:α→List Value} {n:Nat} (hg:∀ a,(g a).length=n):∀{l:List α} {i:Nat} {a:α},l[i]?=some a→((l.flatMap g).drop (i*n)).take n=g a∧i*n+n≤(l.flatMap g).length
 |[],i,a,h=>by simp at h
 |x::l,0,a,h=>by
  simp only [List.getElem?_cons_zero,Option.some.injEq] at h
  subst h
  rw [List.flatMap_cons,Nat.zero_mul,List.drop_zero]
  exact ⟨by rw [List.take_append_of_le_length (by rw [hg];exact Nat.le_refl _),List.take_of_length_le (by rw [hg];exact Nat.le_refl _)],by rw [List.length_append,hg];omega⟩
 |x::l,i+1,a,h=>by
  rw [List.getElem?_cons_succ] at h
  obtain ⟨h1,h2⟩:=yu hg h
  rw [List.flatMap_cons]
  refine ⟨?_,by rw [List.length_append,hg,Nat.succ_mul];omega⟩
  rw [Nat.succ_mul,Nat.add_comm (i*n) n,← hg x,← List.drop_drop,List.drop_left,hg x]
  exact h1
theorem Y4 {kids:List Xp} {i:Nat} {x:Xp} (h:kids[i]?=some x):((kC kids).drop (i*13)).take 13=eC x.f∧i*13+13≤(kC kids).length:=yu (g:=fun x:Xp=>eC x.f) (n:=13) (fun _=>rfl) h
theorem R3 {ms:List M3} {i:Nat} {m:M3} (h:ms[i]?=some m):((mC ms).drop (i*3)).take 3=[iI m.1,.string m.2.1,.string m.2.2]∧i*3+3≤(mC ms).length:=yu (g:=fun m:M3=>[iI m.1,.string m.2.1,.string m.2.2]) (n:=3) (fun _=>rfl) h
theorem yp {l c:List Value} {o n j:Nat} (h:(l.drop o).take n=c) (hj:j<n):l[o+j]?=c[j]?:=by
 rw [← h,List.getElem?_take,if_pos hj,List.getElem?_drop]
theorem RL {b off i:Nat} {H:Hp} {kids:List Xp} {e t:TypeId} {ro:Bool} {x:Xp} (ha:E.agg t=some true) (hs:E.size t=some 13) (hb:H.get b=some (.cells (kC kids) e ro)) (hi:kids[i]?=some x) (ho:off=i*13):aq E t b off H=some (.agg (eC x.f).toArray):=by
 subst ho
 obtain ⟨h1,h2⟩:=Y4 hi
 exact o7 ha hs hb (Nat.ble_eq_true_of_le h2) h1
theorem aev {b off i j:Nat} {H:Hp} {kids:List Xp} {e t:TypeId} {ro:Bool} {x:Xp} {v:Value} (ha:E.agg t=some false) (hb:H.get b=some (.cells (kC kids) e ro)) (hi:kids[i]?=some x) (hj:j<13) (ho:off=i*13+j) (hv:(eC x.f)[j]?=some v):aq E t b off H=some v:=by
 subst ho
 exact bQ ha hb ((yp (Y4 hi).1 hj).trans hv)
theorem mld {b off i:Nat} {H:Hp} {ms:List M3} {e t:TypeId} {ro:Bool} {m:M3} (ha:E.agg t=some true) (hs:E.size t=some 3) (hb:H.get b=some (.cells (mC ms) e ro)) (hi:ms[i]?=some m) (ho:off=i*3):aq E t b off H=some (.agg #[iI m.1,.string m.2.1,.string m.2.2]):=by
 subst ho
 obtain ⟨h1,h2⟩:=R3 hi
 exact o7 ha hs hb (Nat.ble_eq_true_of_le h2) h1
theorem VO {b off i j:Nat} {H:Hp} {ms:List M3} {e t:TypeId} {ro:Bool} {m:M3} {v:Value} (ha:E.agg t=some false) (hb:H.get b=some (.cells (mC ms) e ro)) (hi:ms[i]?=some m) (hj:j<3) (ho:off=i*3+j) (hv:[iI m.1,Value.string m.2.1,.string m.2.2][j]?=some v):aq E t b off H=some v:=by
 subst ho
 exact bQ ha hb ((yp (R3 hi).1 hj).trans hv)
theorem nld {b off i:Nat} {H:Hp} {ns:List ByteArray} {e t:TypeId} {ro:Bool} {s:ByteArray} (ha:E.agg t=some false) (hb:H.get b=some (.cells (ju ns) e ro)) (hi:ns[i]?=some s) (ho:off=i*1):aq E t b off H=some (.string s):=by
 subst ho
 refine bQ ha hb ?_
 rw [Nat.mul_one,ju,List.getElem?_map,hi];rfl
theorem drop_cons {α:Type} {l:List α} {i:Nat} {a:α} (h:l[i]?=some a):l.drop i=a::l.drop (i+1):=by
 have hi:=List.getElem?_eq_some_iff.1 h
 rw [List.drop_eq_getElem_cons hi.1,hi.2]
theorem vI {α:Type} {l:List α} {i:Nat} {a:α} (h:l[i]?=some a):a∈l:=List.mem_of_getElem? h
abbrev E0 (x:Int):Int:=IntKind.i64.wrap x
def mx (x y:Int):Int:=if y>x then y else x
mutual
def hM:Xp→Int
 |.mk f ms ns kids=>oV kids (E0 (E0 (1+(f.nm:Nat))+(f.nn:Nat)))
def oV:List Xp→Int→Int
 |[],n=>n
 |x::xs,n=>if n≤300 then oV xs (E0 (n+hM x)) else n
end
theorem JG (x:Xp):hM x=oV x.kids (E0 (E0 (1+(x.f.nm:Nat))+(x.f.nn:Nat))):=by cases x;rfl
theorem LG {kids:List Xp} {i:Nat} {x:Xp} {n:Int} (h:kids[i]?=some x) (hn:n≤300):oV (kids.drop i) n=oV (kids.drop (i+1)) (E0 (n+hM x)):=by
 rw [drop_cons h,oV,if_pos hn]
theorem FP {kids:List Xp} {i:Nat} {n:Int} (h:kids.length≤i∨¬ n≤300):oV (kids.drop i) n=n:=by
 rcases h with h |h
 ·rw [List.drop_of_length_le h];rfl
 ·cases kids.drop i with
  |nil=>rfl
  |cons=>rw [oV,if_neg h]
def cX:List M3→Bool
 |[]=>true
 |m::ms=>!(decide ((m.2.2.size:Int)>250))&&!(decide ((m.2.1.size:Int)>400))&&cX ms
def eW:List ByteArray→Bool
 |[]=>true
 |s::ns=>!(decide ((s.size:Int)>400))&&eW ns
mutual
def iZ:Xp→Bool
 |.mk f ms ns kids=>!(decide (hM (.mk f ms ns kids)>300))&&(!(decide ((f.s.size:Int)>400))&&(cX ms&&(eW ns&&iY kids)))
def iY:List Xp→Bool
 |[]=>true
 |x::xs=>iZ x&&iY xs
end
def gj (f:Fe):Int:=bif f.k != 6 then 4 else bif decide (f.op≤6) then 1 else bif decide (f.op≤8) then 2 else 3
theorem ZE (f:Fe):1≤gj f∧gj f≤4:=by
 unfold gj
 cases f.k != 6 <;> cases decide (f.op≤6) <;> cases decide (f.op≤8) <;> decide
def bump (f:Fe) (i:Nat) (k:Fe):Bool:=decide ((f.k=6∧((f.nk:Nat):Int)=2∧gj k<gj f+i)∨(f.k=7∧((f.nk:Nat):Int)=1∧k.k=6))
theorem yd {f k:Fe} {i:Nat} (h:(f.k=6∧((f.nk:Nat):Int)=2∧gj k<gj f+i)∨(f.k=7∧((f.nk:Nat):Int)=1∧k.k=6)):bump f i k=true:=decide_eq_true h
theorem nM {f k:Fe} {i:Nat} (h:¬ ((f.k=6∧((f.nk:Nat):Int)=2∧gj k<gj f+i)∨(f.k=7∧((f.nk:Nat):Int)=1∧k.k=6))):bump f i k=false:=decide_eq_false h
def Ei (f:Fe):Bool:=f.k==6&&((f.nk:Nat):Int)==2
mutual
def bE:Xp→Int
 |.mk f ms ns kids=>bif decide (f.k<4) then 0 else bif decide (f.k>7) then 0 else bif Ei f then fJ f 0 kids 0 else E0 (fJ f 0 kids 0+1)
def fJ (f:Fe):Nat→List Xp→Int→Int
 |_,[],m=>m
 |i,x::xs,m=>fJ f (i+1) xs (mx m (bif bump f i x.f then E0 (bE x+1) else bE x))
end
theorem dw (x:Xp):bE x=bif decide (x.f.k<4) then 0 else bif decide (x.f.k>7) then 0 else bif Ei x.f then fJ x.f 0 x.kids 0 else E0 (fJ x.f 0 x.kids 0+1):=by cases x;rfl
theorem n6 {f:Fe} {kids:List Xp} {i:Nat} {x:Xp} {m R:Int} (h:kids[i]?=some x) (hR:fJ f i (kids.drop i) m=R) (hb:bump f i x.f=true):fJ f (i+1) (kids.drop (i+1)) (mx m (E0 (bE x+1)))=R:=by
 rw [drop_cons h,fJ,hb] at hR;exact hR
theorem g8 {f:Fe} {kids:List Xp} {i:Nat} {x:Xp} {m R:Int} (h:kids[i]?=some x) (hR:fJ f i (kids.drop i) m=R) (hb:bump f i x.f=false):fJ f (i+1) (kids.drop (i+1)) (mx m (bE x))=R:=by
 rw [drop_cons h,fJ,hb] at hR;exact hR
theorem FA {f:Fe} {kids:List Xp} {i:Nat} {m:Int} (h:kids.length≤i):fJ f i (kids.drop i) m=m:=by rw [List.drop_of_length_le h];rfl
theorem yG {x y:Int} (h:y>x):mx x y=y:=if_pos h
theorem yH {x y:Int} (h:¬ y>x):mx x y=x:=if_neg h
theorem gC (x:Xp):iZ x=(!(decide (hM x>300))&&(!(decide ((x.f.s.size:Int)>400))&&(cX x.ms&&(eW x.ns&&iY x.kids)))):=by cases x;rfl
theorem W9 {ms:List M3} {i:Nat} {m:M3} {R:Bool} (h:ms[i]?=some m) (hR:cX (ms.drop i)=R) (h1:decide ((m.2.2.size:Int)>250)=false) (h2:decide ((m.2.1.size:Int)>400)=false):cX (ms.drop (i+1))=R:=by
 rw [drop_cons h,cX,h1,h2] at hR;exact hR
theorem abw {ms:List M3} {i:Nat} {m:M3} {R:Bool} (h:ms[i]?=some m) (hR:cX (ms.drop i)=R) (h1:decide ((m.2.2.size:Int)>250)=true):R=false:=by
 rw [drop_cons h,cX,h1] at hR;exact hR.symm
theorem abx {ms:List M3} {i:Nat} {m:M3} {R:Bool} (h:ms[i]?=some m) (hR:cX (ms.drop i)=R) (h1:decide ((m.2.2.size:Int)>250)=false) (h2:decide ((m.2.1.size:Int)>400)=true):R=false:=by
 rw [drop_cons h,cX,h1,h2] at hR;exact hR.symm
theorem R5 {ms:List M3} {i:Nat} {R:Bool} (hR:cX (ms.drop i)=R) (h:ms.length≤i):R=true:=by rw [List.drop_of_length_le h] at hR;exact hR.symm
theorem abA {ns:List ByteArray} {i:Nat} {s:ByteArray} {R:Bool} (h:ns[i]?=some s) (hR:eW (ns.drop i)=R) (h1:decide ((s.size:Int)>400)=false):eW (ns.drop (i+1))=R:=by
 rw [drop_cons h,eW,h1] at hR;exact hR
theorem aeK {ns:List ByteArray} {i:Nat} {s:ByteArray} {R:Bool} (h:ns[i]?=some s) (hR:eW (ns.drop i)=R) (h1:decide ((s.size:Int)>400)=true):R=false:=by
 rw [drop_cons h,eW,h1] at hR;exact hR.symm
theorem Zi {ns:List ByteArray} {i:Nat} {R:Bool} (hR:eW (ns.drop i)=R) (h:ns.length≤i):R=true:=by rw [List.drop_of_length_le h] at hR;exact hR.symm
theorem abZ {kids:List Xp} {i:Nat} {x:Xp} {R:Bool} (h:kids[i]?=some x) (hR:iY (kids.drop i)=R) (h1:iZ x=true):iY (kids.drop (i+1))=R:=by
 rw [drop_cons h,iY,h1] at hR;exact hR
theorem aeW {kids:List Xp} {i:Nat} {x:Xp} {R:Bool} (h:kids[i]?=some x) (hR:iY (kids.drop i)=R) (h1:iZ x=false):R=false:=by
 rw [drop_cons h,iY,h1] at hR;exact hR.symm
theorem Zy {kids:List Xp} {i:Nat} {R:Bool} (hR:iY (kids.drop i)=R) (h:kids.length≤i):R=true:=by rw [List.drop_of_length_le h] at hR;exact hR.symm
theorem iL {G:Hp} {g:FuncId} {args:List Value} {H:Hp} {V:List Nat} {b:Bool} (h:aD E G g args H V (fun v _=>v=.bool b)):aD E G g args H V (fun v _=>(v=.bool true∧b=true)∨(v=.bool false∧b=false)):=h.mono fun v _ hv=>by
 cases b with
 |true=>exact .inl ⟨hv,rfl⟩
 |false=>exact .inr ⟨hv,rfl⟩
theorem jA {t e sz:Nat} {p:Option Addr} {n c b:Nat} {i:Int} (hu:E.ul t=some (.slice e)) (hs:E.size e=some sz) (hp:p=some ⟨b,0,none⟩) (h0:0≤i) (h1:i<(n:Int)):aN E t (.slice p n c) (iI i)=some (pt b (0+i.toNat*sz)):=by
 simp only [aN,hu,hp,hs,decide_eq_true h0,decide_eq_true h1,Bool.and_self,cond_true]
theorem dh {i:Int} (h:0≤i):(i+1).toNat=i.toNat+1:=aa
theorem GJ:E.func 53=some Tryz.f53:=ah
theorem GK:bO Tryz.f53 1=true:=ah
noncomputable abbrev cC H f:=news H [.cells (eC f) 27 false]
noncomputable abbrev Du (f:Fe) (H:Hp) (l_:List Hint):=au 2::vl (iI f.k) (cC H f)::aF::au 1::vl (iI f.op) (cC H f)::aF::au 1::vl (iI f.op) (cC H f)::l_
theorem yS (f:Fe) (X:Hp) (hx:Gd E G X) {H:Hp} (y:Gd E X H):aD E X 53 [.agg (eC f).toArray] H [] (fun v H'=>v=iI (gj f)):=by
 have w1:aq E 3 (H.n+0) 0 (cC H f)=some (iI f.k):=cI aR rfl rfl
 cases h1:(f.k != 6) with
 |true=>
  exact bA y [au 2,vl (iI f.k) (cC H f),aI,au 1] (iI 4) (cC H f) GJ GK (cU w1 h1 aS) (by rw [gj,h1];rfl)
 |false=>
  have w2:aq E 3 (H.n+0) 1 (cC H f)=some (iI f.op):=cI aR rfl rfl
  cases h2:(decide (f.op≤6)) with
  |true=>
   exact bA y [au 2,vl (iI f.k) (cC H f),aF,au 1,vl (iI f.op) (cC H f),aI,au 1] (iI 1) (cC H f) GJ GK (gm w1 h1 w2 h2 aS) (by rw [gj,h1,h2];rfl)
  |false=>
   cases h3:(decide (f.op≤8)) with
   |true=>
    exact bA y (Du f H [aI,au 1]) (iI 2) (cC H f) GJ GK (fG w1 h1 w2 h2 w2 h3 aS) (by rw [gj,h1,h2,h3];rfl)
   |false=>
    exact bA y (Du f H [aF,au 1]) (iI 3) (cC H f) GJ GK (fG w1 h1 w2 h2 w2 h3 aS) (by rw [gj,h1,h2,h3];rfl)
theorem Gw:E.func 18=some Tryz.f18:=ah
theorem Gx:bO Tryz.f18 1=true:=ah
noncomputable abbrev Dv (f:Fe) (H:Hp) (l_:List Hint):=au 2::vl (iI f.k) (cC H f)::aF::au 0::vl (iI f.op) (cC H f)::aF::au 0::vl (iI f.op) (cC H f)::l_
theorem qd (f:Fe) (X:Hp) (hx:Gd E G X) {H:Hp} (y:Gd E X H):aD E X 18 [.agg (eC f).toArray] H [] (fun v H'=>v=iI (gj f)):=by
 have w1:aq E 3 (H.n+0) 0 (cC H f)=some (iI f.k):=cI aR rfl rfl
 cases h1:(f.k != 6) with
 |true=>
  exact bA y [au 2,vl (iI f.k) (cC H f),aI,au 0] (iI 4) (cC H f) Gw Gx (cU w1 h1 aS) (by rw [gj,h1];rfl)
 |false=>
  have w2:aq E 3 (H.n+0) 1 (cC H f)=some (iI f.op):=cI aR rfl rfl
  cases h2:(decide (f.op≤6)) with
  |true=>
   exact bA y [au 2,vl (iI f.k) (cC H f),aF,au 0,vl (iI f.op) (cC H f),aI,au 0] (iI 1) (cC H f) Gw Gx (gm w1 h1 w2 h2 aS) (by rw [gj,h1,h2];rfl)
  |false=>
   cases h3:(decide (f.op≤8)) with
   |true=>
    exact bA y (Dv f H [aI,au 0]) (iI 2) (cC H f) Gw Gx (fG w1 h1 w2 h2 w2 h3 aS) (by rw [gj,h1,h2,h3];rfl)
   |false=>
    exact bA y (Dv f H [aF,au 0]) (iI 3) (cC H f) Gw Gx (fG w1 h1 w2 h2 w2 h3 aS) (by rw [gj,h1,h2,h3];rfl)
noncomputable def N6:Code:=cz [1,1,0,1,0,0] (bH Tryz.f11)
theorem SK (x:Xp) (X:Hp) (hx:Gd E G X) (a:At X x) (qR:∀ k∈x.kids,∀{H:Hp},Gd E X H→aD E X 11 [.agg (eC k.f).toArray] H [] (fun v _=>v=iI (hM k))) (bx:Nat) (R:Int):∀(m:Nat) (x3:Int) (x4:Int) (H:Hp),Gd E X H→(kb:H.get bx=some (.cells (eC x.f) 27 false))→(x0:0≤x4)→(hR:oV (x.kids.drop x4.toNat) x3=R)→((x.f.nk:Int)-x4).toNat=m→
  aA E X 33 N6 [(1,pt bx 0),(3,iI x3),(4,iI x4)] H [] (fun xx T H'=>(xx=(.exit 0)∧∃(z3:Int),T=bw [(3,iI z3)]∧(R=z3))):=by
 intro m
 induction m using Nat.strongRecOn with
 |_ m ih=>
 intro x3 x4 H y kb x0 hR hm
 have bk:=a.bk
 have w1:aq E 25 bx 12 H=some (.slice x.f.pk x.f.nk x.f.ck):=bQ di kb rfl
 cases h1:(decide (x4<((x.f.nk:Nat):Int))) with
 |true=>
  have q1:=aL h1
  cases h2:(decide (x3≤300)) with
  |true=>
   have q2:=aL h2
   obtain ⟨d1,HG,t1,hY,lM⟩:=a.rk.open aa
   have vH:=hx.wf.lt lM
   obtain ⟨x2,m2⟩:=a.W5 (i:=x4.toNat) aa
   have w2:aq E 27 d1 (0+x4.toNat*13) H=some (.agg (eC x2.f).toArray):=RL bL aK (y.cell lM vH) m2 aa
   obtain ⟨_,H1,c1,bN,y1,rfl⟩:=qR x2 (vI m2) y
   have w3:=aC (x4+1)
   have eI:=y.kept bN aH kb
   exact aA.next' y (bf [au 1,vl (.slice x.f.pk x.f.nk x.f.ck) H,au 0,aI,au 1,aI,au 2,vl (.slice x.f.pk x.f.nk x.f.ck) H,au 0,vl (pt d1 (0+x4.toNat*13)) H,vl (.agg (eC x2.f).toArray) H,.call (iI (hM x2)) H1 [],au 2,.as (iI (x4+1)),au 0] [(1,pt bx 0),(3,iI (IntKind.i64.wrap (x3+(hM x2)))),(4,iI (x4+1))] .normal H1 [] (fun _ r_=>aE w1 h1 h2 w1 (show aN E 25 (.slice x.f.pk x.f.nk x.f.ck) (iI x4)=some (pt d1 (0+x4.toNat*13)) from jA bD aK hY aa aa) w2 c1 w3 r_)) aM (ih _ aa (IntKind.i64.wrap (x3+(hM x2))) (x4+1) _ y1 eI aa (by rw [dh aa];exact (LG m2 aa).symm.trans hR) rfl)
  |false=>
   have q2:=aQ h2
   exact aA.last' y (bf [au 1,vl (.slice x.f.pk x.f.nk x.f.ck) H,au 0,aI,au 1,aF,au 0] [(3,iI x3)] (.exit 0) H [] (fun _ r_=>eY w1 h1 h2 r_)) aj aM aM ⟨rfl,x3,rfl,hR.symm.trans (FP (by have:=a.nk;omega))⟩
 |false=>
  have q1:=aQ h1
  exact aA.last' y (bf [au 1,vl (.slice x.f.pk x.f.nk x.f.ck) H,au 0,aF,au 1] [(3,iI x3)] (.exit 0) H [] (fun _ r_=>cU w1 h1 r_)) aj aM aM ⟨rfl,x3,rfl,hR.symm.trans (FP (by have:=a.nk;omega))⟩
theorem X7:E.func 11=some Tryz.f11:=ah
theorem X8:bO Tryz.f11 1=true:=ah
noncomputable abbrev rY H (x:Xp):=news H [.cells (eC x.f) 27 false]
theorem ab3 (x:Xp) (X:Hp) (hx:Gd E G X) (a:At X x) (qR:∀ k∈x.kids,∀{H:Hp},Gd E X H→aD E X 11 [.agg (eC k.f).toArray] H [] (fun v _=>v=iI (hM k))) {H:Hp} (y:Gd E X H):aD E X 11 [.agg (eC x.f).toArray] H [] (fun v H'=>v=iI (hM x)):=by
 have w1:aq E 23 (H.n+0) 4 (rY H x)=some (.slice x.f.pm x.f.nm x.f.cm):=cI oo rfl rfl
 have w2:aq E 24 (H.n+0) 10 (rY H x)=some (.slice x.f.pn x.f.nn x.f.cn):=cI tj rfl rfl
 obtain ⟨_,_,H1,c1,bN,y1,rfl,ff,rfl,cw⟩:=(SK x X hx a qR (H.n+0) (oV (x.kids.drop 0) (IntKind.i64.wrap ((IntKind.i64.wrap (1+((x.f.nm:Nat):Int)))+((x.f.nn:Nat):Int)))) _ (IntKind.i64.wrap ((IntKind.i64.wrap (1+((x.f.nm:Nat):Int)))+((x.f.nn:Nat):Int))) 0 _ (y.news [.cells (eC x.f) 27 false]) (aB [.cells (eC x.f) 27 false] H 0 _ rfl) aa rfl rfl).code
 exact bA y [au 2,vl (.slice x.f.pm x.f.nm x.f.cm) (rY H x),au 2,vl (.slice x.f.pn x.f.nn x.f.cn) (rY H x),au 3,.loop [1,3,4] (.exit 0) (bw [(3,iI ff)]) H1 [],au 1] (iI ff) H1 X7 X8 (eY w1 w2 c1 aS) (congrArg iI (cw.symm.trans (JG x).symm))
theorem treeSize (x:Xp) (X:Hp) (hx:Gd E G X) (hs:jG X x):∀{H:Hp},Gd E X H→aD E X 11 [.agg (eC x.f).toArray] H [] (fun v _=>v=iI (hM x)):=by
 induction hs with
 |@mk x a hk ih=>exact fun y=>ab3 x X hx a (fun k hk=>ih k hk) y
noncomputable def N2:Code:=cz [1,0,1,0,0] (bH Tryz.f12)
noncomputable abbrev Dw d1 (x3:Int) (H:Hp) (x2:M3) (l_:List Hint):=au 2::aI::au 1::vl (pt d1 (0+x3.toNat*3)) H::au 0::vl (.string x2.2.2) H::au 0::aF::au 2::vl (pt d1 (0+x3.toNat*3)) H::au 0::vl (.string x2.2.1) H::au 0::l_
theorem R4 (x:Xp) (X:Hp) (hx:Gd E G X) (a:At X x) (R:Bool):∀(m:Nat) (x3:Int) (H:Hp),Gd E X H→(x0:0≤x3)→(hR:cX (x.ms.drop x3.toNat)=R)→((x.f.nm:Int)-x3).toNat=m→
  aA E X 29 N2 [(0,.slice x.f.pm x.f.nm x.f.cm),(3,iI x3)] H [] (fun xx T H'=>(xx=(.exit 0)∧T=bw [(0,.slice x.f.pm x.f.nm x.f.cm)]∧(R=true))∨(xx=.ret∧T=bw [(2,.bool false)]∧(R=false))):=by
 intro m
 induction m using Nat.strongRecOn with
 |_ m ih=>
 intro x3 H y x0 hR hm
 have bm:=a.bm
 cases h1:(decide (x3<((x.f.nm:Nat):Int))) with
 |true=>
  have q1:=aL h1
  obtain ⟨d1,HG,t1,hY,lM⟩:=a.rm.open aa
  have vH:=hx.wf.lt lM
  obtain ⟨x2,m2⟩:=a.mat (i:=x3.toNat) aa
  have w1:aq E 9 d1 ((0+x3.toNat*3)+2) H=some (.string x2.2.2):=VO (j:=2) bB (y.cell lM vH) m2 (by decide) aa rfl
  cases h2:(decide ((x2.2.2.size:Int)>250)) with
  |true=>
   exact aA.last' y (bf [au 2,aI,au 1,vl (pt d1 (0+x3.toNat*3)) H,au 0,vl (.string x2.2.2) H,au 0,aI,au 2] [(2,.bool false)] .ret H [] (fun _ r_=>gm h1 (show aN E 23 (.slice x.f.pm x.f.nm x.f.cm) (iI x3)=some (pt d1 (0+x3.toNat*3)) from jA gE gJ hY aa aa) w1 h2 r_)) aj aM aM (.inr (⟨rfl,rfl,abw m2 hR h2⟩))
  |false=>
   have w2:aq E 9 d1 ((0+x3.toNat*3)+1) H=some (.string x2.2.1):=VO (j:=1) bB (y.cell lM vH) m2 (by decide) aa rfl
   cases h3:(decide ((x2.2.1.size:Int)>400)) with
   |true=>
    exact aA.last' y (bf (Dw d1 x3 H x2 [aI,au 1]) [(2,.bool false)] .ret H [] (fun _ r_=>fk h1 (show aN E 23 (.slice x.f.pm x.f.nm x.f.cm) (iI x3)=some (pt d1 (0+x3.toNat*3)) from jA gE gJ hY aa aa) w1 h2 (show aN E 23 (.slice x.f.pm x.f.nm x.f.cm) (iI x3)=some (pt d1 (0+x3.toNat*3)) from jA gE gJ hY aa aa) w2 h3 r_)) aj aM aM (.inr (⟨rfl,rfl,abx m2 hR h2 h3⟩))
   |false=>
    have w3:=aC (x3+1)
    exact aA.next' y (bf (Dw d1 x3 H x2 [aF,au 1,.as (iI (x3+1)),au 0]) [(0,.slice x.f.pm x.f.nm x.f.cm),(3,iI (x3+1))] .normal H [] (fun _ r_=>aE h1 (show aN E 23 (.slice x.f.pm x.f.nm x.f.cm) (iI x3)=some (pt d1 (0+x3.toNat*3)) from jA gE gJ hY aa aa) w1 h2 (show aN E 23 (.slice x.f.pm x.f.nm x.f.cm) (iI x3)=some (pt d1 (0+x3.toNat*3)) from jA gE gJ hY aa aa) w2 h3 w3 r_)) aM (ih _ aa (x3+1) _ y aa (by rw [dh aa];exact (W9 m2 hR h2 h3)) rfl)
 |false=>
  have q1:=aQ h1
  exact aA.last' y (bf [au 2,aF] [(0,.slice x.f.pm x.f.nm x.f.cm)] (.exit 0) H [] (fun _ r_=>cF h1 r_)) aj aM aM (.inl (⟨rfl,rfl,R5 hR (by have:=a.nm;omega)⟩))
theorem Ks:E.func 12=some Tryz.f12:=ah
theorem Kt:bO Tryz.f12 1=true:=ah
theorem OO (x:Xp) (X:Hp) (hx:Gd E G X) (a:At X x) {H:Hp} (y:Gd E X H):aD E X 12 [.slice x.f.pm x.f.nm x.f.cm] H [] (fun v H'=>v=.bool (cX x.ms&&decide (((x.f.nm:Nat):Int)≤10))):=by
 obtain ⟨_,_,H1,c1,bN,y1,eD⟩:=(R4 x X hx a (cX (x.ms.drop 0)) _ 0 _ y aa rfl rfl).code
 rcases eD with ⟨rfl,rfl,cw⟩ |⟨rfl,rfl,cw⟩
 ·cases h2:(decide (((x.f.nm:Nat):Int)≤10)) with
  |true=>
   exact bA y [au 1,.loop [0,3] (.exit 0) (bw [(0,.slice x.f.pm x.f.nm x.f.cm)]) H1 [],au 1,aI,au 0] (.bool true) H1 Ks Kt (cU c1 h2 aS) (by rw [show cX x.ms=_ from cw];rfl)
  |false=>
   exact bA y [au 1,.loop [0,3] (.exit 0) (bw [(0,.slice x.f.pm x.f.nm x.f.cm)]) H1 [],au 1,aF,au 0] (.bool false) H1 Ks Kt (cU c1 h2 aS) (by rw [show cX x.ms=_ from cw];rfl)
 ·exact bA y [au 1,.loop [0,3] .ret (bw [(2,.bool false)]) H1 []] (.bool false) H1 Ks Kt (cF c1 aS) (by rw [show cX x.ms=_ from cw];rfl)
noncomputable def Qf:Code:=cz [1,1,0,1,0,0] (bH Tryz.f6)
noncomputable abbrev sC (x:Xp) (H:Hp) d1 (x3:Int) (x2:M3) (l_:List Hint):=au 1::vl (.slice x.f.pm x.f.nm x.f.cm) H::au 0::aI::au 0::vl (.slice x.f.pm x.f.nm x.f.cm) H::au 0::vl (pt d1 (0+x3.toNat*3)) H::au 0::vl (.string x2.2.2) H::au 0::l_
noncomputable abbrev xh (x:Xp) (H:Hp) d1 (x3:Int) (x2:M3) (l_:List Hint):=sC x H d1 x3 x2 (aF::au 1::vl (.slice x.f.pm x.f.nm x.f.cm) H::au 0::vl (pt d1 (0+x3.toNat*3)) H::au 0::vl (.string x2.2.1) H::au 0::l_)
theorem Nt (x:Xp) (X:Hp) (hx:Gd E G X) (a:At X x) (bx:Nat) (R:Bool):∀(m:Nat) (x3:Int) (H:Hp),Gd E X H→(kb:H.get bx=some (.cells (eC x.f) 27 false))→(x0:0≤x3)→(hR:cX (x.ms.drop x3.toNat)=R)→((x.f.nm:Int)-x3).toNat=m→
  aA E X 80 Qf [(1,pt bx 0),(3,iI x3)] H [] (fun xx T H'=>(xx=(.exit 0)∧T=bw [(1,pt bx 0)]∧(R=true))∨(xx=.ret∧T=bw [(2,.bool false)]∧(R=false))):=by
 intro m
 induction m using Nat.strongRecOn with
 |_ m ih=>
 intro x3 H y kb x0 hR hm
 have bm:=a.bm
 have w1:aq E 23 bx 4 H=some (.slice x.f.pm x.f.nm x.f.cm):=bQ oo kb rfl
 cases h1:(decide (x3<((x.f.nm:Nat):Int))) with
 |true=>
  have q1:=aL h1
  obtain ⟨d1,HG,t1,hY,lM⟩:=a.rm.open aa
  have vH:=hx.wf.lt lM
  obtain ⟨x2,m2⟩:=a.mat (i:=x3.toNat) aa
  have w2:aq E 9 d1 ((0+x3.toNat*3)+2) H=some (.string x2.2.2):=VO (j:=2) bB (y.cell lM vH) m2 (by decide) aa rfl
  cases h2:(decide ((x2.2.2.size:Int)>250)) with
  |true=>
   exact aA.last' y (bf (sC x H d1 x3 x2 [aI,au 2]) [(2,.bool false)] .ret H [] (fun _ r_=>fG w1 h1 w1 (show aN E 23 (.slice x.f.pm x.f.nm x.f.cm) (iI x3)=some (pt d1 (0+x3.toNat*3)) from jA gE gJ hY aa aa) w2 h2 r_)) aj aM aM (.inr (⟨rfl,rfl,abw m2 hR h2⟩))
  |false=>
   have w3:aq E 9 d1 ((0+x3.toNat*3)+1) H=some (.string x2.2.1):=VO (j:=1) bB (y.cell lM vH) m2 (by decide) aa rfl
   cases h3:(decide ((x2.2.1.size:Int)>400)) with
   |true=>
    exact aA.last' y (bf (xh x H d1 x3 x2 [aI,au 1]) [(2,.bool false)] .ret H [] (fun _ r_=>aE w1 h1 w1 (show aN E 23 (.slice x.f.pm x.f.nm x.f.cm) (iI x3)=some (pt d1 (0+x3.toNat*3)) from jA gE gJ hY aa aa) w2 h2 w1 (show aN E 23 (.slice x.f.pm x.f.nm x.f.cm) (iI x3)=some (pt d1 (0+x3.toNat*3)) from jA gE gJ hY aa aa)<|cU w3 h3 r_)) aj aM aM (.inr (⟨rfl,rfl,abx m2 hR h2 h3⟩))
   |false=>
    have w4:=aC (x3+1)
    exact aA.next' y (bf (xh x H d1 x3 x2 [aF,au 1,.as (iI (x3+1)),au 0]) [(1,pt bx 0),(3,iI (x3+1))] .normal H [] (fun _ r_=>aE w1 h1 w1 (show aN E 23 (.slice x.f.pm x.f.nm x.f.cm) (iI x3)=some (pt d1 (0+x3.toNat*3)) from jA gE gJ hY aa aa) w2 h2 w1 (show aN E 23 (.slice x.f.pm x.f.nm x.f.cm) (iI x3)=some (pt d1 (0+x3.toNat*3)) from jA gE gJ hY aa aa)<|eY w3 h3 w4 r_)) aM (ih _ aa (x3+1) _ y kb aa (by rw [dh aa];exact (W9 m2 hR h2 h3)) rfl)
 |false=>
  have q1:=aQ h1
  exact aA.last' y (bf [au 1,vl (.slice x.f.pm x.f.nm x.f.cm) H,au 0,aF] [(1,pt bx 0)] (.exit 0) H [] (fun _ r_=>cU w1 h1 r_)) aj aM aM (.inl (⟨rfl,rfl,R5 hR (by have:=a.nm;omega)⟩))
noncomputable def Qg:Code:=cz [1,1,1,0,1,0,0] (bH Tryz.f6)
noncomputable abbrev sD (x:Xp) (H:Hp) d1 (x4:Int) x2 (l_:List Hint):=au 1::vl (.slice x.f.pn x.f.nn x.f.cn) H::au 0::aI::au 0::vl (.slice x.f.pn x.f.nn x.f.cn) H::au 0::vl (pt d1 (0+x4.toNat*1)) H::vl (.string x2) H::au 0::l_
theorem Nu (x:Xp) (X:Hp) (hx:Gd E G X) (a:At X x) (bx:Nat) (R:Bool):∀(m:Nat) (x4:Int) (H:Hp),Gd E X H→(kb:H.get bx=some (.cells (eC x.f) 27 false))→(x0:0≤x4)→(hR:eW (x.ns.drop x4.toNat)=R)→((x.f.nn:Int)-x4).toNat=m→
  aA E X 80 Qg [(1,pt bx 0),(4,iI x4)] H [] (fun xx T H'=>(xx=(.exit 2)∧T=bw [(1,pt bx 0)]∧(R=true))∨(xx=.ret∧T=bw [(2,.bool false)]∧(R=false))):=by
 intro m
 induction m using Nat.strongRecOn with
 |_ m ih=>
 intro x4 H y kb x0 hR hm
 have bn:=a.bn
 have w1:aq E 24 bx 10 H=some (.slice x.f.pn x.f.nn x.f.cn):=bQ tj kb rfl
 cases h1:(decide (x4<((x.f.nn:Nat):Int))) with
 |true=>
  have q1:=aL h1
  obtain ⟨d1,HG,t1,hY,lM⟩:=a.rn.open aa
  have vH:=hx.wf.lt lM
  obtain ⟨x2,m2⟩:=a.nam (i:=x4.toNat) aa
  have w2:aq E 9 d1 (0+x4.toNat*1) H=some (.string x2):=nld bB (y.cell lM vH) m2 aa
  cases h2:(decide ((x2.size:Int)>400)) with
  |true=>
   exact aA.last' y (bf (sD x H d1 x4 x2 [aI,au 0]) [(2,.bool false)] .ret H [] (fun _ r_=>fG w1 h1 w1 (show aN E 24 (.slice x.f.pn x.f.nn x.f.cn) (iI x4)=some (pt d1 (0+x4.toNat*1)) from jA ve mP hY aa aa) w2 h2 r_)) aj aM aM (.inr (⟨rfl,rfl,aeK m2 hR h2⟩))
  |false=>
   have w3:=aC (x4+1)
   exact aA.next' y (bf (sD x H d1 x4 x2 [aF,au 0,.as (iI (x4+1)),au 0]) [(1,pt bx 0),(4,iI (x4+1))] .normal H [] (fun _ r_=>fk w1 h1 w1 (show aN E 24 (.slice x.f.pn x.f.nn x.f.cn) (iI x4)=some (pt d1 (0+x4.toNat*1)) from jA ve mP hY aa aa) w2 h2 w3 r_)) aM (ih _ aa (x4+1) _ y kb aa (by rw [dh aa];exact (abA m2 hR h2)) rfl)
 |false=>
  have q1:=aQ h1
  exact aA.last' y (bf [au 1,vl (.slice x.f.pn x.f.nn x.f.cn) H,au 0,aF] [(1,pt bx 0)] (.exit 2) H [] (fun _ r_=>cU w1 h1 r_)) aj aM aM (.inl (⟨rfl,rfl,Zi hR (by have:=a.nn;omega)⟩))
noncomputable def Ki:Code:=cz [1,1,1,1,0,1,0,0] (bH Tryz.f6)
noncomputable abbrev Dx (x:Xp) (H:Hp) d1 (x5:Int) (x2:Xp) (l_:List Hint):=au 1::vl (.slice x.f.pk x.f.nk x.f.ck) H::au 0::aI::au 0::vl (.slice x.f.pk x.f.nk x.f.ck) H::au 0::vl (pt d1 (0+x5.toNat*13)) H::vl (.agg (eC x2.f).toArray) H::l_
theorem Fu (x:Xp) (X:Hp) (hx:Gd E G X) (a:At X x) (qR:∀ k∈x.kids,∀{H:Hp},Gd E X H→aD E X 6 [.agg (eC k.f).toArray] H [] (fun v _=>v=.bool (iZ k))) (bx:Nat) (R:Bool):∀(m:Nat) (x5:Int) (H:Hp),Gd E X H→(kb:H.get bx=some (.cells (eC x.f) 27 false))→(x0:0≤x5)→(hR:iY (x.kids.drop x5.toNat)=R)→((x.f.nk:Int)-x5).toNat=m→
  aA E X 80 Ki [(1,pt bx 0),(5,iI x5)] H [] (fun xx T H'=>(xx=(.exit 4)∧T=bw []∧(R=true))∨(xx=.ret∧T=bw [(2,.bool false)]∧(R=false))):=by
 intro m
 induction m using Nat.strongRecOn with
 |_ m ih=>
 intro x5 H y kb x0 hR hm
 have bk:=a.bk
 have w1:aq E 25 bx 12 H=some (.slice x.f.pk x.f.nk x.f.ck):=bQ di kb rfl
 cases h1:(decide (x5<((x.f.nk:Nat):Int))) with
 |true=>
  have q1:=aL h1
  obtain ⟨d1,HG,t1,hY,lM⟩:=a.rk.open aa
  have vH:=hx.wf.lt lM
  obtain ⟨x2,m2⟩:=a.W5 (i:=x5.toNat) aa
  have w2:aq E 27 d1 (0+x5.toNat*13) H=some (.agg (eC x2.f).toArray):=RL bL aK (y.cell lM vH) m2 aa
  obtain ⟨_,H1,c1,bN,y1,eD⟩:=iL (qR x2 (vI m2) y)
  rcases eD with ⟨rfl,ei⟩ |⟨rfl,ei⟩
  ·have w3:=aC (x5+1)
   have eI:=y.kept bN aH kb
   exact aA.next' y (bf (Dx x H d1 x5 x2 [.call (.bool true) H1 [],au 1,.as (iI (x5+1)),au 0]) [(1,pt bx 0),(5,iI (x5+1))] .normal H1 [] (fun _ r_=>fk w1 h1 w1 (show aN E 25 (.slice x.f.pk x.f.nk x.f.ck) (iI x5)=some (pt d1 (0+x5.toNat*13)) from jA bD aK hY aa aa) w2 c1 w3 r_)) aM (ih _ aa (x5+1) _ y1 eI aa (by rw [dh aa];exact (abZ m2 hR ei)) rfl)
  ·exact aA.last' y (bf (Dx x H d1 x5 x2 [.call (.bool false) H1 [],au 1]) [(2,.bool false)] .ret H1 [] (fun _ r_=>fG w1 h1 w1 (show aN E 25 (.slice x.f.pk x.f.nk x.f.ck) (iI x5)=some (pt d1 (0+x5.toNat*13)) from jA bD aK hY aa aa) w2 c1 r_)) aj aM aM (.inr (⟨rfl,rfl,aeW m2 hR ei⟩))
 |false=>
  have q1:=aQ h1
  exact aA.last' y (bf [au 1,vl (.slice x.f.pk x.f.nk x.f.ck) H,au 0,aF] [] (.exit 4) H [] (fun _ r_=>cU w1 h1 r_)) aj aM aM (.inl (⟨rfl,rfl,Zy hR (by have:=a.nk;omega)⟩))
theorem abv {x:Xp} (h1:(cX x.ms&&decide (((x.f.nm:Nat):Int)≤10))=false) (h2:decide (((x.f.nm:Nat):Int)≤10)=true):cX x.ms=false:=by
 rw [h2,Bool.and_true] at h1;exact h1
theorem tK:E.func 6=some Tryz.f6:=ah
theorem tL:bO Tryz.f6 1=true:=ah
noncomputable abbrev wA H (x:Xp):=news H [.cells (eC x.f) 27 false]
noncomputable abbrev aae (x:Xp) (H:Hp) (H1:Hp) (l_:List Hint):=au 1::vl (.agg (eC x.f).toArray) (wA H x)::.call (iI (hM x)) H1 []::aF::au 1::vl (.string x.f.s) H1::au 0::l_
noncomputable abbrev aaz (x:Xp) (H:Hp) (H1:Hp) (H2:Hp) (H3:Hp) (l_:List Hint):=aae x H H1 (aF::au 2::vl (.slice x.f.pm x.f.nm x.f.cm) H1::.call (.bool true) H2 []::au 4::.loop [1,3] (.exit 0) (bw [(1,pt (H.n+0) 0)]) H3 []::au 0::l_)
noncomputable abbrev aaf (x:Xp) (H:Hp) (H1:Hp) (H2:Hp) (l_:List Hint):=aae x H H1 (aF::au 2::vl (.slice x.f.pm x.f.nm x.f.cm) H1::.call (.bool false) H2 []::au 2::vl (.slice x.f.pm x.f.nm x.f.cm) H2::au 0::l_)
noncomputable abbrev aaF (x:Xp) (H:Hp) (H1:Hp) (H2:Hp) (H3:Hp) (H4:Hp) (l_:List Hint):=aaf x H H1 H2 (aF::au 2::.loop [1,3] (.exit 0) (bw [(1,pt (H.n+0) 0)]) H3 []::au 0::.loop [1,4] (.exit 2) (bw [(1,pt (H.n+0) 0)]) H4 []::au 0::l_)
theorem Zz (x:Xp) (X:Hp) (hx:Gd E G X) (a:At X x) (hs:jG X x) (qR:∀ k∈x.kids,∀{H:Hp},Gd E X H→aD E X 6 [.agg (eC k.f).toArray] H [] (fun v _=>v=.bool (iZ k))) {H:Hp} (y:Gd E X H):aD E X 6 [.agg (eC x.f).toArray] H [] (fun v H'=>v=.bool (iZ x)):=by
 have w1:aq E 27 (H.n+0) 0 (wA H x)=some (.agg (eC x.f).toArray):=fQ bL aK rfl rfl rfl
 obtain ⟨_,H1,c1,bN,y1,rfl⟩:=treeSize x X hx hs (y.news [.cells (eC x.f) 27 false])
 have bz:=(y.news [.cells (eC x.f) 27 false]).kept bN aH (aB [.cells (eC x.f) 27 false] H 0 _ rfl)
 cases h1:(decide ((hM x)>300)) with
 |true=>
  exact bA y [au 1,vl (.agg (eC x.f).toArray) (wA H x),.call (iI (hM x)) H1 [],aI,au 4] (.bool false) H1 tK tL (eY w1 c1 h1 aS) (by rw [gC,h1];rfl)
 |false=>
  have w2:aq E 9 (H.n+0) 3 H1=some (.string x.f.s):=bQ bB bz rfl
  cases h2:(decide ((x.f.s.size:Int)>400)) with
  |true=>
   exact bA y (aae x H H1 [aI,au 3]) (.bool false) H1 tK tL (eM w1 c1 h1 w2 h2 aS) (by rw [gC,h1,h2];rfl)
  |false=>
   have w3:aq E 23 (H.n+0) 4 H1=some (.slice x.f.pm x.f.nm x.f.cm):=bQ oo bz rfl
   obtain ⟨_,H2,c2,dc,y2,oP⟩:=iL (OO x X hx a y1)
   rcases oP with ⟨rfl,ig⟩ |⟨rfl,ig⟩
   ·have bI:=y1.kept dc aH bz
    obtain ⟨_,_,H3,c3,gB,y3,AU⟩:=(Nt x X hx a (H.n+0) (cX (x.ms.drop 0)) _ 0 _ y2 bI aa rfl rfl).code
    rcases AU with ⟨rfl,rfl,yO⟩ |⟨rfl,rfl,yO⟩
    ·have ep:=y2.kept gB aH bI
     obtain ⟨_,_,H4,c4,rj,y4,Ht⟩:=(Nu x X hx a (H.n+0) (eW (x.ns.drop 0)) _ 0 _ y3 ep aa rfl rfl).code
     rcases Ht with ⟨rfl,rfl,vu⟩ |⟨rfl,rfl,vu⟩
     ·have ox:=y3.kept rj aH ep
      obtain ⟨_,_,H5,c5,vQ,y5,R9⟩:=(Fu x X hx a qR (H.n+0) (iY (x.kids.drop 0)) _ 0 _ y4 ox aa rfl rfl).code
      rcases R9 with ⟨rfl,rfl,ET⟩ |⟨rfl,rfl,ET⟩
      ·exact bA y (aaz x H H1 H2 H3 [.loop [1,4] (.exit 2) (bw [(1,pt (H.n+0) 0)]) H4 [],au 0,.loop [1,5] (.exit 4) (bw []) H5 [],au 0]) (.bool true) H5 tK tL (aE w1 c1 h1 w2 h2 w3 c2 c3<|cU c4 c5 aS) (by rw [gC,h1,h2,show cX x.ms=_ from yO,show eW x.ns=_ from vu,show iY x.kids=_ from ET];rfl)
      ·exact bA y (aaz x H H1 H2 H3 [.loop [1,4] (.exit 2) (bw [(1,pt (H.n+0) 0)]) H4 [],au 0,.loop [1,5] .ret (bw [(2,.bool false)]) H5 []]) (.bool false) H5 tK tL (aE w1 c1 h1 w2 h2 w3 c2 c3<|cU c4 c5 aS) (by rw [gC,h1,h2,show cX x.ms=_ from yO,show eW x.ns=_ from vu,show iY x.kids=_ from ET];rfl)
     ·exact bA y (aaz x H H1 H2 H3 [.loop [1,4] .ret (bw [(2,.bool false)]) H4 []]) (.bool false) H4 tK tL (aE w1 c1 h1 w2 h2 w3 c2 c3<|cF c4 aS) (by rw [gC,h1,h2,show cX x.ms=_ from yO,show eW x.ns=_ from vu];rfl)
    ·exact bA y (aae x H H1 [aF,au 2,vl (.slice x.f.pm x.f.nm x.f.cm) H1,.call (.bool true) H2 [],au 4,.loop [1,3] .ret (bw [(2,.bool false)]) H3 []]) (.bool false) H3 tK tL (aE w1 c1 h1 w2 h2 w3 c2 c3 aS) (by rw [gC,h1,h2,show cX x.ms=_ from yO];rfl)
   ·have bI:=y1.kept dc aH bz
    have w4:aq E 23 (H.n+0) 4 H2=some (.slice x.f.pm x.f.nm x.f.cm):=bQ oo bI rfl
    cases h4:(decide (((x.f.nm:Nat):Int)≤10)) with
    |true=>
     exact bA y (aaf x H H1 H2 [aI,au 2]) (.bool false) H2 tK tL (aE w1 c1 h1 w2 h2 w3 c2 w4<|cF h4 aS) (by rw [gC,h1,h2,abv ig h4];rfl)
    |false=>
     obtain ⟨_,_,H3,c3,gB,y3,AU⟩:=(Nt x X hx a (H.n+0) (cX (x.ms.drop 0)) _ 0 _ y2 bI aa rfl rfl).code
     rcases AU with ⟨rfl,rfl,yO⟩ |⟨rfl,rfl,yO⟩
     ·have ep:=y2.kept gB aH bI
      obtain ⟨_,_,H4,c4,rj,y4,Ht⟩:=(Nu x X hx a (H.n+0) (eW (x.ns.drop 0)) _ 0 _ y3 ep aa rfl rfl).code
      rcases Ht with ⟨rfl,rfl,vu⟩ |⟨rfl,rfl,vu⟩
      ·have ox:=y3.kept rj aH ep
       obtain ⟨_,_,H5,c5,vQ,y5,R9⟩:=(Fu x X hx a qR (H.n+0) (iY (x.kids.drop 0)) _ 0 _ y4 ox aa rfl rfl).code
       rcases R9 with ⟨rfl,rfl,ET⟩ |⟨rfl,rfl,ET⟩
       ·exact bA y (aaF x H H1 H2 H3 H4 [.loop [1,5] (.exit 4) (bw []) H5 [],au 0]) (.bool true) H5 tK tL (aE w1 c1 h1 w2 h2 w3 c2 w4<|gm h4 c3 c4 c5 aS) (by rw [gC,h1,h2,show cX x.ms=_ from yO,show eW x.ns=_ from vu,show iY x.kids=_ from ET];rfl)
       ·exact bA y (aaF x H H1 H2 H3 H4 [.loop [1,5] .ret (bw [(2,.bool false)]) H5 []]) (.bool false) H5 tK tL (aE w1 c1 h1 w2 h2 w3 c2 w4<|gm h4 c3 c4 c5 aS) (by rw [gC,h1,h2,show cX x.ms=_ from yO,show eW x.ns=_ from vu,show iY x.kids=_ from ET];rfl)
      ·exact bA y (aaf x H H1 H2 [aF,au 2,.loop [1,3] (.exit 0) (bw [(1,pt (H.n+0) 0)]) H3 [],au 0,.loop [1,4] .ret (bw [(2,.bool false)]) H4 []]) (.bool false) H4 tK tL (aE w1 c1 h1 w2 h2 w3 c2 w4<|eY h4 c3 c4 aS) (by rw [gC,h1,h2,show cX x.ms=_ from yO,show eW x.ns=_ from vu];rfl)
     ·exact bA y (aaf x H H1 H2 [aF,au 2,.loop [1,3] .ret (bw [(2,.bool false)]) H3 []]) (.bool false) H3 tK tL (aE w1 c1 h1 w2 h2 w3 c2 w4<|cU h4 c3 aS) (by rw [gC,h1,h2,show cX x.ms=_ from yO];rfl)
theorem O9 (x:Xp) (X:Hp) (hx:Gd E G X) (hs:jG X x):∀{H:Hp},Gd E X H→aD E X 6 [.agg (eC x.f).toArray] H [] (fun v _=>v=.bool (iZ x)):=by
 induction hs with
 |@mk x a hk ih=>exact fun y=>Zz x X hx a (.mk a hk) (fun k hk=>ih k hk) y
theorem acj {f:Fe} (h:f.k=6∧((f.nk:Nat):Int)=2):Ei f=true:=by
 rw [Ei,beq_iff_eq.2 h.1,beq_iff_eq.2 h.2];rfl
theorem Pb {f:Fe} (h:¬ (f.k=6∧((f.nk:Nat):Int)=2)):Ei f=false:=by
 cases ht:Ei f with
 |false=>rfl
 |true=>
  rw [Ei,Bool.and_eq_true,beq_iff_eq,beq_iff_eq] at ht
  exact absurd ht h
theorem Qt:E.func 31=some Tryz.f31:=ah
theorem Qu:bO Tryz.f31 2=true:=ah
noncomputable abbrev aZ H (x:Xp):=news H [.cells (eC x.f) 27 false]
noncomputable abbrev Dy (x:Xp) (H:Hp) d1 (k:Int) (c:Xp) (H1:Hp) (H2:Hp) (l_:List Hint):=au 2::vl (.slice x.f.pk x.f.nk x.f.ck) (aZ H x)::au 0::vl (pt d1 (0+k.toNat*13)) (aZ H x)::vl (.agg (eC c.f).toArray) (aZ H x)::.call (iI (gj c.f)) H1 []::vl (.agg (eC x.f).toArray) H1::.call (iI (gj x.f)) H2 []::au 0::.as (iI ((gj x.f)+k))::l_
theorem O7 (x:Xp) (X:Hp) (hx:Gd E G X) (a:At X x) (k:Int) (c:Xp) {H:Hp} (y:Gd E X H) (j0:0≤k) (j1:k<(x.f.nk:Int)) (mk:x.kids[k.toNat]?=some c):aD E X 31 [.agg (eC x.f).toArray,iI k] H [] (fun v H'=>v=.bool (decide (gj c.f<gj x.f+k))):=by
 have bk:=a.bk
 have w1:aq E 25 (H.n+0) 12 (aZ H x)=some (.slice x.f.pk x.f.nk x.f.ck):=cI di rfl rfl
 obtain ⟨d1,HG,t1,hY,lM⟩:=a.rk.open aa
 have vH:=hx.wf.lt lM
 have w2:aq E 27 d1 (0+k.toNat*13) (aZ H x)=some (.agg (eC c.f).toArray):=RL bL aK ((y.news [.cells (eC x.f) 27 false]).cell lM vH) mk aa
 obtain ⟨_,H1,c1,bN,y1,rfl⟩:=yS c.f X hx (y.news [.cells (eC x.f) 27 false])
 have bz:=(y.news [.cells (eC x.f) 27 false]).kept bN aH (aB [.cells (eC x.f) 27 false] H 0 _ rfl)
 have w3:aq E 27 (H.n+0) 0 H1=some (.agg (eC x.f).toArray):=o7 bL aK bz rfl rfl
 have sb3:=ZE x.f
 obtain ⟨_,H2,c2,dc,y2,rfl⟩:=yS x.f X hx y1
 have w4:=aC ((gj x.f)+k)
 cases h1:(decide ((gj c.f)<((gj x.f)+k))) with
 |true=>
  exact bA y (Dy x H d1 k c H1 H2 [aI,au 0]) (.bool true) H2 Qt Qu (aE ag ag w1 ag ag (show aN E 25 (.slice x.f.pk x.f.nk x.f.ck) (iI k)=some (pt d1 (0+k.toNat*13)) from jA bD aK hY aa aa) ag w2<|aE ag c1 ag w3 ag c2 ag ag<|eM w4 ag h1 ag ag aS) rfl
 |false=>
  exact bA y (Dy x H d1 k c H1 H2 [aF,au 0]) (.bool false) H2 Qt Qu (aE ag ag w1 ag ag (show aN E 25 (.slice x.f.pk x.f.nk x.f.ck) (iI k)=some (pt d1 (0+k.toNat*13)) from jA bD aK hY aa aa) ag w2<|aE ag c1 ag w3 ag c2 ag ag<|eM w4 ag h1 ag ag aS) rfl
noncomputable def N3:Code:=cz [1,1,1,1,0,1,0,0] (bH Tryz.f19)
noncomputable abbrev cP H (x2:Xp):=news H [.cells (eC x2.f) 27 false]
noncomputable abbrev kA H:=news H [.cells [iI 0,iI 0,uU 0,.string ⟨#[]⟩,.slice none 0 0,iI 0,iI 0,.bool false,iI 0,iI 0,.slice none 0 0,.bool false,.slice none 0 0] 27 false]
noncomputable abbrev Dz d1 (lI:Int) (H:Hp) (x2:Xp) (H1:Hp) (l_:List Hint):=aI::au 0::vl (pt d1 (0+lI.toNat*13)) H::vl (.agg (eC x2.f).toArray) H::au 1::vl bJ (cP H x2)::vl (.agg (eC x2.f).toArray) (cP H x2)::.call (iI (bE x2)) H1 []::l_
theorem tU (x:Xp) (X:Hp) (hx:Gd E G X) (a:At X x) (qR:∀ k∈x.kids,∀{H:Hp},Gd E X H→aD E X 19 [.agg (eC k.f).toArray] H [] (fun v _=>v=iI (bE k))) (bx:Nat) (twx:Bool) (Z9:Bool) (j2:twx=true→x.f.k=6∧((x.f.nk:Nat):Int)=2) (j2n:twx=false→¬ (x.f.k=6∧((x.f.nk:Nat):Int)=2)) (j1:Z9=true→x.f.k=7∧((x.f.nk:Nat):Int)=1) (j1n:Z9=false→¬ (x.f.k=7∧((x.f.nk:Nat):Int)=1)) (R:Int):∀(m:Nat) (x3:Int) (lI:Int) (H:Hp),Gd E X H→(kb:H.get bx=some (.cells (eC x.f) 27 false))→(x0:0≤lI)→(hR:fJ x.f lI.toNat (x.kids.drop lI.toNat) x3=R)→((x.f.nk:Int)-lI).toNat=m→
  aA E X 69 N3 [(1,pt bx 0),(3,iI x3),(4,.bool twx),(5,.bool Z9),(36,.slice x.f.pk x.f.nk x.f.ck),(37,iI ((x.f.nk:Nat):Int)),(38,iI lI)] H [] (fun xx T H'=>(xx=(.exit 0)∧∃(z3:Int),T=bw [(3,iI z3),(4,.bool twx)]∧(R=z3))):=by
 intro m
 induction m using Nat.strongRecOn with
 |_ m ih=>
 intro x3 lI H y kb x0 hR hm
 have bk:=a.bk
 cases h1:(decide (lI<((x.f.nk:Nat):Int))) with
 |true=>
  have q1:=aL h1
  obtain ⟨d1,HG,t1,hY,lM⟩:=a.rk.open aa
  have vH:=hx.wf.lt lM
  obtain ⟨x2,m2⟩:=a.W5 (i:=lI.toNat) aa
  have w1:aq E 27 d1 (0+lI.toNat*13) H=some (.agg (eC x2.f).toArray):=RL bL aK (y.cell lM vH) m2 aa
  have w2:aq E 27 (H.n+0) 0 (cP H x2)=some (.agg (eC x2.f).toArray):=fQ bL aK rfl rfl rfl
  obtain ⟨_,H1,c1,bN,y1,rfl⟩:=qR x2 (vI m2) (y.news [.cells (eC x2.f) 27 false])
  have jq:H.n+1≤H1.n:=by have h:=bN.n;rw [bF] at h;exact h
  have bz:=(y.news [.cells (eC x2.f) 27 false]).kept bN aH (aB [.cells (eC x2.f) 27 false] H 0 _ rfl)
  cases twx with
  |true=>
   have e2:=j2 rfl
   have eI:=(y.news [.cells (eC x2.f) 27 false]).kept bN aH (y.old kb [.cells (eC x2.f) 27 false])
   have w3:aq E 27 bx 0 H1=some (.agg (eC x.f).toArray):=o7 bL aK eI rfl rfl
   obtain ⟨_,H2,c2,dc,y2,oP⟩:=iL (O7 x X hx a lI x2 y1 aa aa m2)
   rcases oP with ⟨rfl,ig⟩ |⟨rfl,ig⟩
   ·have jI:H1.n+0≤H2.n:=dc.n
    have qb2:=aL ig
    have w4:=aC (lI+1)
    have mV:=y1.kept dc aH eI
    exact aA.next' y (bf (Dz d1 lI H x2 H1 [au 2,vl (.agg (eC x.f).toArray) H1,au 0,.call (.bool true) H2 [],au 9,.as (iI (lI+1)),au 0]) [(1,pt bx 0),(3,iI (mx x3 (IntKind.i64.wrap ((bE x2)+1)))),(4,.bool true),(5,.bool Z9),(36,.slice x.f.pk x.f.nk x.f.ck),(37,iI ((x.f.nk:Nat):Int)),(38,iI (lI+1))] .normal H2 [H.n+0] (fun _ r_=>aE h1 (show aN E 25 (.slice x.f.pk x.f.nk x.f.ck) (iI lI)=some (pt d1 (0+lI.toNat*13)) from jA bD aK hY aa aa) w1 (show az E 27 (H.n+0) 0 (.agg (eC x2.f).toArray) (kA H)=some (cP H x2) from cN aK rfl rfl rfl rfl) w2 c1 w3 c2<|cF w4 r_)) aG (ih _ aa (mx x3 (IntKind.i64.wrap ((bE x2)+1))) (lI+1) _ y2 mV aa (by rw [dh aa];exact (n6 m2 hR (yd aa))) rfl)
   ·have jI:H1.n+0≤H2.n:=dc.n
    have qb2:=aQ ig
    cases Z9 with
    |true=>
     have e1_:=j1 rfl
     have bI:=y1.kept dc aH bz
     have w4:aq E 3 (H.n+0) 0 H2=some (iI x2.f.k):=bQ aR bI rfl
     cases h5:(x2.f.k==6) with
     |true=>
      have w5:=aC (lI+1)
      have mV:=y1.kept dc aH eI
      exact aA.next' y (bf (Dz d1 lI H x2 H1 [au 2,vl (.agg (eC x.f).toArray) H1,au 0,.call (.bool false) H2 [],au 4,vl (iI x2.f.k) H2,aI,au 8,.as (iI (lI+1)),au 0]) [(1,pt bx 0),(3,iI (mx x3 (IntKind.i64.wrap ((bE x2)+1)))),(4,.bool true),(5,.bool true),(36,.slice x.f.pk x.f.nk x.f.ck),(37,iI ((x.f.nk:Nat):Int)),(38,iI (lI+1))] .normal H2 [H.n+0] (fun _ r_=>aE h1 (show aN E 25 (.slice x.f.pk x.f.nk x.f.ck) (iI lI)=some (pt d1 (0+lI.toNat*13)) from jA bD aK hY aa aa) w1 (show az E 27 (H.n+0) 0 (.agg (eC x2.f).toArray) (kA H)=some (cP H x2) from cN aK rfl rfl rfl rfl) w2 c1 w3 c2<|eY w4 h5 w5 r_)) aG (ih _ aa (mx x3 (IntKind.i64.wrap ((bE x2)+1))) (lI+1) _ y2 mV aa (by rw [dh aa];exact (n6 m2 hR (yd aa))) rfl)
     |false=>
      have w5:=aC (lI+1)
      have mV:=y1.kept dc aH eI
      exact aA.next' y (bf (Dz d1 lI H x2 H1 [au 2,vl (.agg (eC x.f).toArray) H1,au 0,.call (.bool false) H2 [],au 4,vl (iI x2.f.k) H2,aF,au 5,.as (iI (lI+1)),au 0]) [(1,pt bx 0),(3,iI (mx x3 (bE x2))),(4,.bool true),(5,.bool true),(36,.slice x.f.pk x.f.nk x.f.ck),(37,iI ((x.f.nk:Nat):Int)),(38,iI (lI+1))] .normal H2 [H.n+0] (fun _ r_=>aE h1 (show aN E 25 (.slice x.f.pk x.f.nk x.f.ck) (iI lI)=some (pt d1 (0+lI.toNat*13)) from jA bD aK hY aa aa) w1 (show az E 27 (H.n+0) 0 (.agg (eC x2.f).toArray) (kA H)=some (cP H x2) from cN aK rfl rfl rfl rfl) w2 c1 w3 c2<|eY w4 h5 w5 r_)) aG (ih _ aa (mx x3 (bE x2)) (lI+1) _ y2 mV aa (by rw [dh aa];exact (g8 m2 hR (nM aa))) rfl)
    |false=>
     have e1_:=j1n rfl
     have w4:=aC (lI+1)
     have mV:=y1.kept dc aH eI
     exact aA.next' y (bf (Dz d1 lI H x2 H1 [au 2,vl (.agg (eC x.f).toArray) H1,au 0,.call (.bool false) H2 [],au 9,.as (iI (lI+1)),au 0]) [(1,pt bx 0),(3,iI (mx x3 (bE x2))),(4,.bool true),(5,.bool false),(36,.slice x.f.pk x.f.nk x.f.ck),(37,iI ((x.f.nk:Nat):Int)),(38,iI (lI+1))] .normal H2 [H.n+0] (fun _ r_=>aE h1 (show aN E 25 (.slice x.f.pk x.f.nk x.f.ck) (iI lI)=some (pt d1 (0+lI.toNat*13)) from jA bD aK hY aa aa) w1 (show az E 27 (H.n+0) 0 (.agg (eC x2.f).toArray) (kA H)=some (cP H x2) from cN aK rfl rfl rfl rfl) w2 c1 w3 c2<|cF w4 r_)) aG (ih _ aa (mx x3 (bE x2)) (lI+1) _ y2 mV aa (by rw [dh aa];exact (g8 m2 hR (nM aa))) rfl)
  |false=>
   have e2:=j2n rfl
   cases Z9 with
   |true=>
    have e1_:=j1 rfl
    have w3:aq E 3 (H.n+0) 0 H1=some (iI x2.f.k):=bQ aR bz rfl
    cases h4:(x2.f.k==6) with
    |true=>
     have q4:=bW h4
     have w4:=aC (lI+1)
     have eI:=(y.news [.cells (eC x2.f) 27 false]).kept bN aH (y.old kb [.cells (eC x2.f) 27 false])
     exact aA.next' y (bf (Dz d1 lI H x2 H1 [au 7,vl (iI x2.f.k) H1,aI,au 8,.as (iI (lI+1)),au 0]) [(1,pt bx 0),(3,iI (mx x3 (IntKind.i64.wrap ((bE x2)+1)))),(4,.bool false),(5,.bool true),(36,.slice x.f.pk x.f.nk x.f.ck),(37,iI ((x.f.nk:Nat):Int)),(38,iI (lI+1))] .normal H1 [H.n+0] (fun _ r_=>aE h1 (show aN E 25 (.slice x.f.pk x.f.nk x.f.ck) (iI lI)=some (pt d1 (0+lI.toNat*13)) from jA bD aK hY aa aa) w1 (show az E 27 (H.n+0) 0 (.agg (eC x2.f).toArray) (kA H)=some (cP H x2) from cN aK rfl rfl rfl rfl) w2 c1 w3 h4<|cF w4 r_)) aG (ih _ aa (mx x3 (IntKind.i64.wrap ((bE x2)+1))) (lI+1) _ y1 eI aa (by rw [dh aa];exact (n6 m2 hR (yd aa))) rfl)
    |false=>
     have q4:=bK h4
     have w4:=aC (lI+1)
     have eI:=(y.news [.cells (eC x2.f) 27 false]).kept bN aH (y.old kb [.cells (eC x2.f) 27 false])
     exact aA.next' y (bf (Dz d1 lI H x2 H1 [au 7,vl (iI x2.f.k) H1,aF,au 5,.as (iI (lI+1)),au 0]) [(1,pt bx 0),(3,iI (mx x3 (bE x2))),(4,.bool false),(5,.bool true),(36,.slice x.f.pk x.f.nk x.f.ck),(37,iI ((x.f.nk:Nat):Int)),(38,iI (lI+1))] .normal H1 [H.n+0] (fun _ r_=>aE h1 (show aN E 25 (.slice x.f.pk x.f.nk x.f.ck) (iI lI)=some (pt d1 (0+lI.toNat*13)) from jA bD aK hY aa aa) w1 (show az E 27 (H.n+0) 0 (.agg (eC x2.f).toArray) (kA H)=some (cP H x2) from cN aK rfl rfl rfl rfl) w2 c1 w3 h4<|cF w4 r_)) aG (ih _ aa (mx x3 (bE x2)) (lI+1) _ y1 eI aa (by rw [dh aa];exact (g8 m2 hR (nM aa))) rfl)
   |false=>
    have e1_:=j1n rfl
    have w3:=aC (lI+1)
    have eI:=(y.news [.cells (eC x2.f) 27 false]).kept bN aH (y.old kb [.cells (eC x2.f) 27 false])
    exact aA.next' y (bf (Dz d1 lI H x2 H1 [au 12,.as (iI (lI+1)),au 0]) [(1,pt bx 0),(3,iI (mx x3 (bE x2))),(4,.bool false),(5,.bool false),(36,.slice x.f.pk x.f.nk x.f.ck),(37,iI ((x.f.nk:Nat):Int)),(38,iI (lI+1))] .normal H1 [H.n+0] (fun _ r_=>fk h1 (show aN E 25 (.slice x.f.pk x.f.nk x.f.ck) (iI lI)=some (pt d1 (0+lI.toNat*13)) from jA bD aK hY aa aa) w1 (show az E 27 (H.n+0) 0 (.agg (eC x2.f).toArray) (kA H)=some (cP H x2) from cN aK rfl rfl rfl rfl) w2 c1 w3 r_)) aG (ih _ aa (mx x3 (bE x2)) (lI+1) _ y1 eI aa (by rw [dh aa];exact (g8 m2 hR (nM aa))) rfl)
 |false=>
  have q1:=aQ h1
  exact aA.last' y (bf [aF] [(3,iI x3),(4,.bool twx)] (.exit 0) H [] (fun _ r_=>cF h1 r_)) aj aM aM ⟨rfl,x3,rfl,hR.symm.trans (FA (by have:=a.nk;omega))⟩
theorem jV:E.func 19=some Tryz.f19:=ah
theorem jW:bO Tryz.f19 1=true:=ah
noncomputable abbrev xj (x:Xp) (H:Hp) (l_:List Hint):=au 3::vl (iI x.f.k) (aZ H x)::aI::au 1::vl (.slice x.f.pk x.f.nk x.f.ck) (aZ H x)::au 0::l_
noncomputable abbrev sE (x:Xp) (H:Hp) (l_:List Hint):=au 3::vl (iI x.f.k) (aZ H x)::aF::au 2::vl (iI x.f.k) (aZ H x)::aF::au 4::vl (iI x.f.k) (aZ H x)::l_
noncomputable abbrev xk (x:Xp) (H:Hp) (l_:List Hint):=au 3::vl (iI x.f.k) (aZ H x)::aF::au 2::vl (iI x.f.k) (aZ H x)::aI::au 1::vl (.slice x.f.pk x.f.nk x.f.ck) (aZ H x)::au 0::l_
noncomputable abbrev xl (x:Xp) (H:Hp) (l_:List Hint):=xj x H (aI::au 1::vl (iI x.f.k) (aZ H x)::aF::au 4::vl (iI x.f.k) (aZ H x)::l_)
noncomputable abbrev DA (x:Xp) (H:Hp) (l_:List Hint):=xj x H (aF::au 1::vl (iI x.f.k) (aZ H x)::aF::au 4::vl (iI x.f.k) (aZ H x)::l_)
noncomputable abbrev DB (x:Xp) (H:Hp) (l_:List Hint):=xk x H (aI::au 3::vl (iI x.f.k) (aZ H x)::aF::au 1::vl (iI x.f.k) (aZ H x)::l_)
noncomputable abbrev xm (x:Xp) (H:Hp) (l_:List Hint):=xk x H (aF::au 3::vl (iI x.f.k) (aZ H x)::aF::au 1::vl (iI x.f.k) (aZ H x)::l_)
theorem aby (x:Xp) (X:Hp) (hx:Gd E G X) (a:At X x) (qR:∀ k∈x.kids,∀{H:Hp},Gd E X H→aD E X 19 [.agg (eC k.f).toArray] H [] (fun v _=>v=iI (bE k))) {H:Hp} (y:Gd E X H):aD E X 19 [.agg (eC x.f).toArray] H [] (fun v H'=>v=iI (bE x)):=by
 have w1:aq E 3 (H.n+0) 0 (aZ H x)=some (iI x.f.k):=cI aR rfl rfl
 cases h1:(x.f.k==6) with
 |true=>
  have q1:=bW h1
  have w2:aq E 25 (H.n+0) 12 (aZ H x)=some (.slice x.f.pk x.f.nk x.f.ck):=cI di rfl rfl
  cases h2:(((x.f.nk:Nat):Int)==2) with
  |true=>
   have q2:=bW h2
   have w3:(x.f.k==7)=false:=beq_eq_false_iff_ne.2 aa
   cases h3:(decide (x.f.k<4)) with
   |true=>
    exact bA y (xl x H [aI,au 2]) (iI 0) (aZ H x) jV jW (aE ag ag w1 ag h1 ag ag ag<|aE w2 ag ag h2 ag ag ag w1<|aE ag w3 ag ag ag ag ag w1<|cF h3 aS) (by rw [dw,h3];rfl)
   |false=>
    cases h4:(decide (x.f.k>7)) with
    |true=>
     exact bA y (xl x H [aF,au 1,vl (iI x.f.k) (aZ H x),aI,au 1]) (iI 0) (aZ H x) jV jW (aE ag ag w1 ag h1 ag ag ag<|aE w2 ag ag h2 ag ag ag w1<|aE ag w3 ag ag ag ag ag w1<|eY h3 w1 h4 aS) (by rw [dw,h3,h4];rfl)
    |false=>
     obtain ⟨_,_,H1,c1,bN,y1,rfl,ff,rfl,cw⟩:=(tU x X hx a qR (H.n+0) true false (fun _=>by omega) (fun h=>by cases h) (fun h=>by cases h) (fun _=>by omega) (fJ x.f 0 x.kids 0) _ 0 0 _ (y.news [.cells (eC x.f) 27 false]) (aB [.cells (eC x.f) 27 false] H 0 _ rfl) aa rfl rfl).code
     exact bA y (xl x H [aF,au 1,vl (iI x.f.k) (aZ H x),aF,au 1,vl (.slice x.f.pk x.f.nk x.f.ck) (aZ H x),au 1,.loop [1,3,4,5,36,37,38] (.exit 0) (bw [(3,iI ff),(4,.bool true)]) H1 [],au 2]) (iI ff) H1 jV jW (aE ag ag w1 ag h1 ag ag ag<|aE w2 ag ag h2 ag ag ag w1<|aE ag w3 ag ag ag ag ag w1<|eM h3 w1 h4 w2 c1 aS) (by rw [dw,h3,h4,acj aa,cw];rfl)
  |false=>
   have q2:=bK h2
   have w3:(x.f.k==7)=false:=beq_eq_false_iff_ne.2 aa
   cases h3:(decide (x.f.k<4)) with
   |true=>
    exact bA y (DA x H [aI,au 2]) (iI 0) (aZ H x) jV jW (aE ag ag w1 ag h1 ag ag ag<|aE w2 ag ag h2 ag ag ag w1<|aE ag w3 ag ag ag ag ag w1<|cF h3 aS) (by rw [dw,h3];rfl)
   |false=>
    cases h4:(decide (x.f.k>7)) with
    |true=>
     exact bA y (DA x H [aF,au 1,vl (iI x.f.k) (aZ H x),aI,au 1]) (iI 0) (aZ H x) jV jW (aE ag ag w1 ag h1 ag ag ag<|aE w2 ag ag h2 ag ag ag w1<|aE ag w3 ag ag ag ag ag w1<|eY h3 w1 h4 aS) (by rw [dw,h3,h4];rfl)
    |false=>
     obtain ⟨_,_,H1,c1,bN,y1,rfl,ff,rfl,cw⟩:=(tU x X hx a qR (H.n+0) false false (fun h=>by cases h) (fun _=>by omega) (fun h=>by cases h) (fun _=>by omega) (fJ x.f 0 x.kids 0) _ 0 0 _ (y.news [.cells (eC x.f) 27 false]) (aB [.cells (eC x.f) 27 false] H 0 _ rfl) aa rfl rfl).code
     exact bA y (DA x H [aF,au 1,vl (iI x.f.k) (aZ H x),aF,au 1,vl (.slice x.f.pk x.f.nk x.f.ck) (aZ H x),au 1,.loop [1,3,4,5,36,37,38] (.exit 0) (bw [(3,iI ff),(4,.bool false)]) H1 [],au 3]) (iI (IntKind.i64.wrap (ff+1))) H1 jV jW (aE ag ag w1 ag h1 ag ag ag<|aE w2 ag ag h2 ag ag ag w1<|aE ag w3 ag ag ag ag ag w1<|eM h3 w1 h4 w2 c1 aS) (by rw [dw,h3,h4,Pb aa,cw];rfl)
 |false=>
  have q1:=bK h1
  cases h2:(x.f.k==7) with
  |true=>
   have q2:=bW h2
   have w2:aq E 25 (H.n+0) 12 (aZ H x)=some (.slice x.f.pk x.f.nk x.f.ck):=cI di rfl rfl
   cases h3:(((x.f.nk:Nat):Int)==1) with
   |true=>
    have q3:=bW h3
    cases h4:(decide (x.f.k<4)) with
    |true=>
     exact bA y (xk x H [aI,au 3,vl (iI x.f.k) (aZ H x),aI,au 2]) (iI 0) (aZ H x) jV jW (aE ag ag w1 ag h1 ag ag ag<|aE ag w1 ag h2 ag ag ag w2<|aE ag ag h3 ag ag ag ag w1<|cF h4 aS) (by rw [dw,h4];rfl)
    |false=>
     cases h5:(decide (x.f.k>7)) with
     |true=>
      exact bA y (DB x H [aI,au 1]) (iI 0) (aZ H x) jV jW (aE ag ag w1 ag h1 ag ag ag<|aE ag w1 ag h2 ag ag ag w2<|aE ag ag h3 ag ag ag ag w1<|eY h4 w1 h5 aS) (by rw [dw,h4,h5];rfl)
     |false=>
      obtain ⟨_,_,H1,c1,bN,y1,rfl,ff,rfl,cw⟩:=(tU x X hx a qR (H.n+0) false true (fun h=>by cases h) (fun _=>by omega) (fun _=>by omega) (fun h=>by cases h) (fJ x.f 0 x.kids 0) _ 0 0 _ (y.news [.cells (eC x.f) 27 false]) (aB [.cells (eC x.f) 27 false] H 0 _ rfl) aa rfl rfl).code
      exact bA y (DB x H [aF,au 1,vl (.slice x.f.pk x.f.nk x.f.ck) (aZ H x),au 1,.loop [1,3,4,5,36,37,38] (.exit 0) (bw [(3,iI ff),(4,.bool false)]) H1 [],au 3]) (iI (IntKind.i64.wrap (ff+1))) H1 jV jW (aE ag ag w1 ag h1 ag ag ag<|aE ag w1 ag h2 ag ag ag w2<|aE ag ag h3 ag ag ag ag w1<|eM h4 w1 h5 w2 c1 aS) (by rw [dw,h4,h5,Pb aa,cw];rfl)
   |false=>
    have q3:=bK h3
    cases h4:(decide (x.f.k<4)) with
    |true=>
     exact bA y (xk x H [aF,au 3,vl (iI x.f.k) (aZ H x),aI,au 2]) (iI 0) (aZ H x) jV jW (aE ag ag w1 ag h1 ag ag ag<|aE ag w1 ag h2 ag ag ag w2<|aE ag ag h3 ag ag ag ag w1<|cF h4 aS) (by rw [dw,h4];rfl)
    |false=>
     cases h5:(decide (x.f.k>7)) with
     |true=>
      exact bA y (xm x H [aI,au 1]) (iI 0) (aZ H x) jV jW (aE ag ag w1 ag h1 ag ag ag<|aE ag w1 ag h2 ag ag ag w2<|aE ag ag h3 ag ag ag ag w1<|eY h4 w1 h5 aS) (by rw [dw,h4,h5];rfl)
     |false=>
      obtain ⟨_,_,H1,c1,bN,y1,rfl,ff,rfl,cw⟩:=(tU x X hx a qR (H.n+0) false false (fun h=>by cases h) (fun _=>by omega) (fun h=>by cases h) (fun _=>by omega) (fJ x.f 0 x.kids 0) _ 0 0 _ (y.news [.cells (eC x.f) 27 false]) (aB [.cells (eC x.f) 27 false] H 0 _ rfl) aa rfl rfl).code
      exact bA y (xm x H [aF,au 1,vl (.slice x.f.pk x.f.nk x.f.ck) (aZ H x),au 1,.loop [1,3,4,5,36,37,38] (.exit 0) (bw [(3,iI ff),(4,.bool false)]) H1 [],au 3]) (iI (IntKind.i64.wrap (ff+1))) H1 jV jW (aE ag ag w1 ag h1 ag ag ag<|aE ag w1 ag h2 ag ag ag w2<|aE ag ag h3 ag ag ag ag w1<|eM h4 w1 h5 w2 c1 aS) (by rw [dw,h4,h5,Pb aa,cw];rfl)
  |false=>
   have q2:=bK h2
   cases h3:(decide (x.f.k<4)) with
   |true=>
    exact bA y (sE x H [aI,au 2]) (iI 0) (aZ H x) jV jW (aE ag ag w1 ag h1 ag ag ag<|aE ag w1 ag h2 ag ag ag ag<|eY ag w1 h3 aS) (by rw [dw,h3];rfl)
   |false=>
    cases h4:(decide (x.f.k>7)) with
    |true=>
     exact bA y (sE x H [aF,au 1,vl (iI x.f.k) (aZ H x),aI,au 1]) (iI 0) (aZ H x) jV jW (aE ag ag w1 ag h1 ag ag ag<|aE ag w1 ag h2 ag ag ag ag<|eM ag w1 h3 w1 h4 aS) (by rw [dw,h3,h4];rfl)
    |false=>
     have w2:aq E 25 (H.n+0) 12 (aZ H x)=some (.slice x.f.pk x.f.nk x.f.ck):=cI di rfl rfl
     obtain ⟨_,_,H1,c1,bN,y1,rfl,ff,rfl,cw⟩:=(tU x X hx a qR (H.n+0) false false (fun h=>by cases h) (fun _=>by omega) (fun h=>by cases h) (fun _=>by omega) (fJ x.f 0 x.kids 0) _ 0 0 _ (y.news [.cells (eC x.f) 27 false]) (aB [.cells (eC x.f) 27 false] H 0 _ rfl) aa rfl rfl).code
     exact bA y (sE x H [aF,au 1,vl (iI x.f.k) (aZ H x),aF,au 1,vl (.slice x.f.pk x.f.nk x.f.ck) (aZ H x),au 1,.loop [1,3,4,5,36,37,38] (.exit 0) (bw [(3,iI ff),(4,.bool false)]) H1 [],au 3]) (iI (IntKind.i64.wrap (ff+1))) H1 jV jW (aE ag ag w1 ag h1 ag ag ag<|aE ag w1 ag h2 ag ag ag ag<|fk ag w1 h3 w1 h4 w2 c1 aS) (by rw [dw,h3,h4,Pb aa,cw];rfl)
theorem SY (x:Xp) (X:Hp) (hx:Gd E G X) (hs:jG X x):∀{H:Hp},Gd E X H→aD E X 19 [.agg (eC x.f).toArray] H [] (fun v _=>v=iI (bE x)):=by
 induction hs with
 |@mk x a hk ih=>exact fun y=>aby x X hx a (fun k hk=>ih k hk) y
noncomputable def F8:Code:=cz [1,1,1,0,1,0,0] (bH Tryz.f10)
noncomputable abbrev aaa (x:Xp) (H:Hp) d1 (x4:Int) (x2:Xp) (H1:Hp) (l_:List Hint):=au 1::vl (.slice x.f.pk x.f.nk x.f.ck) H::au 0::aI::au 0::vl (.slice x.f.pk x.f.nk x.f.ck) H::au 0::vl (pt d1 (0+x4.toNat*13)) H::vl (.agg (eC x2.f).toArray) H::.call (iI (bE x2)) H1 []::au 1::vl (iI x.f.k) H1::l_
noncomputable abbrev aaA (x:Xp) (H:Hp) d1 (x4:Int) x2 (H1:Hp) (l_:List Hint):=aaa x H d1 x4 x2 H1 (aI::au 1::vl (.slice x.f.pk x.f.nk x.f.ck) H1::au 0::aF::au 1::vl (iI x.f.k) H1::aF::au 5::l_)
noncomputable abbrev aaD (x:Xp) (H:Hp) d1 (x4:Int) x2 (H1:Hp) (l_:List Hint):=aaa x H d1 x4 x2 H1 (aF::au 2::vl (iI x.f.k) H1::aI::au 1::vl (.slice x.f.pk x.f.nk x.f.ck) H1::au 0::aF::au 4::l_)
noncomputable abbrev aab (x:Xp) (H:Hp) d1 (x4:Int) (x2:Xp) (H1:Hp) (l_:List Hint):=aaa x H d1 x4 x2 H1 (aF::au 2::vl (iI x.f.k) H1::aI::au 1::vl (.slice x.f.pk x.f.nk x.f.ck) H1::au 0::aI::au 2::vl (.slice x.f.pk x.f.nk x.f.ck) H1::vl (pt d1 (0+0)) H1::au 0::vl (iI x2.f.k) H1::l_)
noncomputable abbrev aac (x:Xp) (H:Hp) d1 (x4:Int) (x2:Xp) (H1:Hp) (H2:Hp) (H3:Hp) (l_:List Hint):=aaa x H d1 x4 x2 H1 (aI::au 1::vl (.slice x.f.pk x.f.nk x.f.ck) H1::au 0::aI::au 1::aI::au 1::vl (.slice x.f.pk x.f.nk x.f.ck) H1::vl (pt d1 (0+0)) H1::vl (.agg (eC x2.f).toArray) H1::.call (iI (gj x2.f)) H2 []::vl (.agg (eC x.f).toArray) H2::.call (iI (gj x.f)) H3 []::l_)
noncomputable abbrev aad (x:Xp) (H:Hp) d1 (x4:Int) (x2:Xp) (H1:Hp) (H2:Hp) (H3:Hp) (l_:List Hint):=aaa x H d1 x4 x2 H1 (aI::au 1::vl (.slice x.f.pk x.f.nk x.f.ck) H1::au 0::aI::au 1::aF::au 3::aI::au 1::vl (.slice x.f.pk x.f.nk x.f.ck) H1::vl (pt d1 (0+13)) H1::vl (.agg (eC x2.f).toArray) H1::.call (iI (gj x2.f)) H2 []::vl (.agg (eC x.f).toArray) H2::.call (iI (gj x.f)) H3 []::l_)
theorem JC (x:Xp) (X:Hp) (hx:Gd E G X) (a:At X x) (qR:∀ k∈x.kids,∀{H:Hp},Gd E X H→aD E X 10 [.agg (eC k.f).toArray] H [] (fun v _=>v=iI (bE k))) (bx:Nat) (R:Int):∀(m:Nat) (x3:Int) (x4:Int) (H:Hp),Gd E X H→(kb:H.get bx=some (.cells (eC x.f) 27 false))→(x0:0≤x4)→(hR:fJ x.f x4.toNat (x.kids.drop x4.toNat) x3=R)→((x.f.nk:Int)-x4).toNat=m→
  aA E X 99 F8 [(1,pt bx 0),(3,iI x3),(4,iI x4)] H [] (fun xx T H'=>(xx=(.exit 0)∧∃(z3:Int),T=bw [(1,pt bx 0),(3,iI z3)]∧(R=z3))):=by
 intro m
 induction m using Nat.strongRecOn with
 |_ m ih=>
 intro x3 x4 H y kb x0 hR hm
 have bk:=a.bk
 have w1:aq E 25 bx 12 H=some (.slice x.f.pk x.f.nk x.f.ck):=bQ di kb rfl
 cases h1:(decide (x4<((x.f.nk:Nat):Int))) with
 |true=>
  have q1:=aL h1
  obtain ⟨d1,HG,t1,hY,lM⟩:=a.rk.open aa
  have vH:=hx.wf.lt lM
  obtain ⟨x2,m2⟩:=a.W5 (i:=x4.toNat) aa
  have w2:aq E 27 d1 (0+x4.toNat*13) H=some (.agg (eC x2.f).toArray):=RL bL aK (y.cell lM vH) m2 aa
  obtain ⟨_,H1,c1,bN,y1,rfl⟩:=qR x2 (vI m2) y
  have eI:=y.kept bN aH kb
  have w3:aq E 3 bx 0 H1=some (iI x.f.k):=bQ aR eI rfl
  cases h2:(x.f.k==6) with
  |true=>
   have q2:=bW h2
   have w4:aq E 25 bx 12 H1=some (.slice x.f.pk x.f.nk x.f.ck):=bQ di eI rfl
   cases h3:(((x.f.nk:Nat):Int)==2) with
   |true=>
    have q3:=bW h3
    cases h4:(x4==0) with
    |true=>
     have q4:=bW h4
     have m3:x.kids[0]?=some x2:=(show x4.toNat=0 by omega)▸m2
     have w5:aq E 27 d1 (0+0) H1=some (.agg (eC x2.f).toArray):=RL bL aK (y1.cell lM vH) m3 aa
     obtain ⟨_,H2,c2,dc,y2,rfl⟩:=qd x2.f X hx y1
     have mV:=y1.kept dc aH eI
     have w6:aq E 27 bx 0 H2=some (.agg (eC x.f).toArray):=o7 bL aK mV rfl rfl
     obtain ⟨_,H3,c3,gB,y3,rfl⟩:=qd x.f X hx y2
     cases h5:(decide ((gj x2.f)<(gj x.f))) with
     |true=>
      have q5:=aL h5
      have ow:=y2.kept gB aH mV
      have w7:aq E 3 bx 0 H3=some (iI x.f.k):=bQ aR ow rfl
      have w8:(x.f.k==7)=false:=beq_eq_false_iff_ne.2 aa
      cases h6:(decide ((IntKind.i64.wrap ((bE x2)+1))>x3)) with
      |true=>
       have q6:=aL h6
       have w9:=aC (x4+1)
       exact aA.next' y (bf (aac x H d1 x4 x2 H1 H2 H3 [aI,au 6,vl (iI x.f.k) H3,aF,au 5,aI,au 2,.as (iI (x4+1)),au 0]) [(1,pt bx 0),(3,iI (IntKind.i64.wrap ((bE x2)+1))),(4,iI (x4+1))] .normal H3 [] (fun _ r_=>aE w1 h1 w1 (show aN E 25 (.slice x.f.pk x.f.nk x.f.ck) (iI x4)=some (pt d1 (0+x4.toNat*13)) from jA bD aK hY aa aa) w2 c1 w3 h2<|aE w4 h3 ag ag h4 ag ag ag<|aE w4 ag (show aN E 25 (.slice x.f.pk x.f.nk x.f.ck) (iI 0)=some (pt d1 (0+0)) from jA bD aK hY aa aa) ag w5 ag c2 ag<|aE w6 ag c3 ag h5 ag ag ag<|eM ag w7 w8 h6 w9 r_)) aM (ih _ aa (IntKind.i64.wrap ((bE x2)+1)) (x4+1) _ y3 ow aa (by rw [dh aa];have hh:=(n6 m2 hR (yd aa));rwa [yG q6] at hh) rfl)
      |false=>
       have q6:=aQ h6
       have w9:=aC (x4+1)
       exact aA.next' y (bf (aac x H d1 x4 x2 H1 H2 H3 [aI,au 6,vl (iI x.f.k) H3,aF,au 5,aF,au 0,.as (iI (x4+1)),au 0]) [(1,pt bx 0),(3,iI x3),(4,iI (x4+1))] .normal H3 [] (fun _ r_=>aE w1 h1 w1 (show aN E 25 (.slice x.f.pk x.f.nk x.f.ck) (iI x4)=some (pt d1 (0+x4.toNat*13)) from jA bD aK hY aa aa) w2 c1 w3 h2<|aE w4 h3 ag ag h4 ag ag ag<|aE w4 ag (show aN E 25 (.slice x.f.pk x.f.nk x.f.ck) (iI 0)=some (pt d1 (0+0)) from jA bD aK hY aa aa) ag w5 ag c2 ag<|aE w6 ag c3 ag h5 ag ag ag<|eM ag w7 w8 h6 w9 r_)) aM (ih _ aa x3 (x4+1) _ y3 ow aa (by rw [dh aa];have hh:=(n6 m2 hR (yd aa));rwa [yH q6] at hh) rfl)
     |false=>
      have q5:=aQ h5
      have w7:(x4==1)=false:=beq_eq_false_iff_ne.2 aa
      have ow:=y2.kept gB aH mV
      have w8:aq E 3 bx 0 H3=some (iI x.f.k):=bQ aR ow rfl
      have w9:(x.f.k==7)=false:=beq_eq_false_iff_ne.2 aa
      cases h6:(decide ((bE x2)>x3)) with
      |true=>
       have q6:=aL h6
       have jE:=aC (x4+1)
       exact aA.next' y (bf (aac x H d1 x4 x2 H1 H2 H3 [aF,au 2,aF,au 3,vl (iI x.f.k) H3,aF,au 5,aI,au 2,.as (iI (x4+1)),au 0]) [(1,pt bx 0),(3,iI (bE x2)),(4,iI (x4+1))] .normal H3 [] (fun _ r_=>aE w1 h1 w1 (show aN E 25 (.slice x.f.pk x.f.nk x.f.ck) (iI x4)=some (pt d1 (0+x4.toNat*13)) from jA bD aK hY aa aa) w2 c1 w3 h2<|aE w4 h3 ag ag h4 ag ag ag<|aE w4 ag (show aN E 25 (.slice x.f.pk x.f.nk x.f.ck) (iI 0)=some (pt d1 (0+0)) from jA bD aK hY aa aa) ag w5 ag c2 ag<|aE w6 ag c3 ag h5 ag ag ag<|aE ag w7 ag ag ag ag w8 w9<|cU h6 jE r_)) aM (ih _ aa (bE x2) (x4+1) _ y3 ow aa (by rw [dh aa];have hh:=(g8 m2 hR (nM aa));rwa [yG q6] at hh) rfl)
      |false=>
       have q6:=aQ h6
       have jE:=aC (x4+1)
       exact aA.next' y (bf (aac x H d1 x4 x2 H1 H2 H3 [aF,au 2,aF,au 3,vl (iI x.f.k) H3,aF,au 5,aF,au 0,.as (iI (x4+1)),au 0]) [(1,pt bx 0),(3,iI x3),(4,iI (x4+1))] .normal H3 [] (fun _ r_=>aE w1 h1 w1 (show aN E 25 (.slice x.f.pk x.f.nk x.f.ck) (iI x4)=some (pt d1 (0+x4.toNat*13)) from jA bD aK hY aa aa) w2 c1 w3 h2<|aE w4 h3 ag ag h4 ag ag ag<|aE w4 ag (show aN E 25 (.slice x.f.pk x.f.nk x.f.ck) (iI 0)=some (pt d1 (0+0)) from jA bD aK hY aa aa) ag w5 ag c2 ag<|aE w6 ag c3 ag h5 ag ag ag<|aE ag w7 ag ag ag ag w8 w9<|cU h6 jE r_)) aM (ih _ aa x3 (x4+1) _ y3 ow aa (by rw [dh aa];have hh:=(g8 m2 hR (nM aa));rwa [yH q6] at hh) rfl)
    |false=>
     have q4:=bK h4
     have w5:(x4==1)=true:=beq_iff_eq.2 aa
     have m3:x.kids[1]?=some x2:=(show x4.toNat=1 by omega)▸m2
     have w6:aq E 27 d1 (0+13) H1=some (.agg (eC x2.f).toArray):=RL bL aK (y1.cell lM vH) m3 aa
     obtain ⟨_,H2,c2,dc,y2,rfl⟩:=qd x2.f X hx y1
     have mV:=y1.kept dc aH eI
     have w7:aq E 27 bx 0 H2=some (.agg (eC x.f).toArray):=o7 bL aK mV rfl rfl
     obtain ⟨_,H3,c3,gB,y3,rfl⟩:=qd x.f X hx y2
     cases h5:(decide ((gj x2.f)≤(gj x.f))) with
     |true=>
      have q5:=aL h5
      have ow:=y2.kept gB aH mV
      have w8:aq E 3 bx 0 H3=some (iI x.f.k):=bQ aR ow rfl
      have w9:(x.f.k==7)=false:=beq_eq_false_iff_ne.2 aa
      cases h6:(decide ((IntKind.i64.wrap ((bE x2)+1))>x3)) with
      |true=>
       have q6:=aL h6
       have jE:=aC (x4+1)
       exact aA.next' y (bf (aad x H d1 x4 x2 H1 H2 H3 [aI,au 5,vl (iI x.f.k) H3,aF,au 5,aI,au 2,.as (iI (x4+1)),au 0]) [(1,pt bx 0),(3,iI (IntKind.i64.wrap ((bE x2)+1))),(4,iI (x4+1))] .normal H3 [] (fun _ r_=>aE w1 h1 w1 (show aN E 25 (.slice x.f.pk x.f.nk x.f.ck) (iI x4)=some (pt d1 (0+x4.toNat*13)) from jA bD aK hY aa aa) w2 c1 w3 h2<|aE w4 h3 ag ag h4 ag ag ag<|aE ag ag w5 ag ag ag w4 ag<|aE (show aN E 25 (.slice x.f.pk x.f.nk x.f.ck) (iI 1)=some (pt d1 (0+13)) from jA bD aK hY aa aa) ag w6 ag c2 ag w7 ag<|aE c3 ag h5 ag ag ag w8 w9<|cU h6 jE r_)) aM (ih _ aa (IntKind.i64.wrap ((bE x2)+1)) (x4+1) _ y3 ow aa (by rw [dh aa];have hh:=(n6 m2 hR (yd aa));rwa [yG q6] at hh) rfl)
      |false=>
       have q6:=aQ h6
       have jE:=aC (x4+1)
       exact aA.next' y (bf (aad x H d1 x4 x2 H1 H2 H3 [aI,au 5,vl (iI x.f.k) H3,aF,au 5,aF,au 0,.as (iI (x4+1)),au 0]) [(1,pt bx 0),(3,iI x3),(4,iI (x4+1))] .normal H3 [] (fun _ r_=>aE w1 h1 w1 (show aN E 25 (.slice x.f.pk x.f.nk x.f.ck) (iI x4)=some (pt d1 (0+x4.toNat*13)) from jA bD aK hY aa aa) w2 c1 w3 h2<|aE w4 h3 ag ag h4 ag ag ag<|aE ag ag w5 ag ag ag w4 ag<|aE (show aN E 25 (.slice x.f.pk x.f.nk x.f.ck) (iI 1)=some (pt d1 (0+13)) from jA bD aK hY aa aa) ag w6 ag c2 ag w7 ag<|aE c3 ag h5 ag ag ag w8 w9<|cU h6 jE r_)) aM (ih _ aa x3 (x4+1) _ y3 ow aa (by rw [dh aa];have hh:=(n6 m2 hR (yd aa));rwa [yH q6] at hh) rfl)
     |false=>
      have q5:=aQ h5
      have ow:=y2.kept gB aH mV
      have w8:aq E 3 bx 0 H3=some (iI x.f.k):=bQ aR ow rfl
      have w9:(x.f.k==7)=false:=beq_eq_false_iff_ne.2 aa
      cases h6:(decide ((bE x2)>x3)) with
      |true=>
       have q6:=aL h6
       have jE:=aC (x4+1)
       exact aA.next' y (bf (aad x H d1 x4 x2 H1 H2 H3 [aF,au 2,vl (iI x.f.k) H3,aF,au 5,aI,au 2,.as (iI (x4+1)),au 0]) [(1,pt bx 0),(3,iI (bE x2)),(4,iI (x4+1))] .normal H3 [] (fun _ r_=>aE w1 h1 w1 (show aN E 25 (.slice x.f.pk x.f.nk x.f.ck) (iI x4)=some (pt d1 (0+x4.toNat*13)) from jA bD aK hY aa aa) w2 c1 w3 h2<|aE w4 h3 ag ag h4 ag ag ag<|aE ag ag w5 ag ag ag w4 ag<|aE (show aN E 25 (.slice x.f.pk x.f.nk x.f.ck) (iI 1)=some (pt d1 (0+13)) from jA bD aK hY aa aa) ag w6 ag c2 ag w7 ag<|aE c3 ag h5 ag ag ag w8 w9<|cU h6 jE r_)) aM (ih _ aa (bE x2) (x4+1) _ y3 ow aa (by rw [dh aa];have hh:=(g8 m2 hR (nM aa));rwa [yG q6] at hh) rfl)
      |false=>
       have q6:=aQ h6
       have jE:=aC (x4+1)
       exact aA.next' y (bf (aad x H d1 x4 x2 H1 H2 H3 [aF,au 2,vl (iI x.f.k) H3,aF,au 5,aF,au 0,.as (iI (x4+1)),au 0]) [(1,pt bx 0),(3,iI x3),(4,iI (x4+1))] .normal H3 [] (fun _ r_=>aE w1 h1 w1 (show aN E 25 (.slice x.f.pk x.f.nk x.f.ck) (iI x4)=some (pt d1 (0+x4.toNat*13)) from jA bD aK hY aa aa) w2 c1 w3 h2<|aE w4 h3 ag ag h4 ag ag ag<|aE ag ag w5 ag ag ag w4 ag<|aE (show aN E 25 (.slice x.f.pk x.f.nk x.f.ck) (iI 1)=some (pt d1 (0+13)) from jA bD aK hY aa aa) ag w6 ag c2 ag w7 ag<|aE c3 ag h5 ag ag ag w8 w9<|cU h6 jE r_)) aM (ih _ aa x3 (x4+1) _ y3 ow aa (by rw [dh aa];have hh:=(g8 m2 hR (nM aa));rwa [yH q6] at hh) rfl)
   |false=>
    have q3:=bK h3
    have w5:(x.f.k==7)=false:=beq_eq_false_iff_ne.2 aa
    cases h4:(decide ((bE x2)>x3)) with
    |true=>
     have q4:=aL h4
     have w6:=aC (x4+1)
     exact aA.next' y (bf (aaA x H d1 x4 x2 H1 [aI,au 2,.as (iI (x4+1)),au 0]) [(1,pt bx 0),(3,iI (bE x2)),(4,iI (x4+1))] .normal H1 [] (fun _ r_=>aE w1 h1 w1 (show aN E 25 (.slice x.f.pk x.f.nk x.f.ck) (iI x4)=some (pt d1 (0+x4.toNat*13)) from jA bD aK hY aa aa) w2 c1 w3 h2<|fG w4 h3 w3 w5 h4 w6 r_)) aM (ih _ aa (bE x2) (x4+1) _ y1 eI aa (by rw [dh aa];have hh:=(g8 m2 hR (nM aa));rwa [yG q4] at hh) rfl)
    |false=>
     have q4:=aQ h4
     have w6:=aC (x4+1)
     exact aA.next' y (bf (aaA x H d1 x4 x2 H1 [aF,au 0,.as (iI (x4+1)),au 0]) [(1,pt bx 0),(3,iI x3),(4,iI (x4+1))] .normal H1 [] (fun _ r_=>aE w1 h1 w1 (show aN E 25 (.slice x.f.pk x.f.nk x.f.ck) (iI x4)=some (pt d1 (0+x4.toNat*13)) from jA bD aK hY aa aa) w2 c1 w3 h2<|fG w4 h3 w3 w5 h4 w6 r_)) aM (ih _ aa x3 (x4+1) _ y1 eI aa (by rw [dh aa];have hh:=(g8 m2 hR (nM aa));rwa [yH q4] at hh) rfl)
  |false=>
   have q2:=bK h2
   cases h3:(x.f.k==7) with
   |true=>
    have q3:=bW h3
    have w4:aq E 25 bx 12 H1=some (.slice x.f.pk x.f.nk x.f.ck):=bQ di eI rfl
    cases h4:(((x.f.nk:Nat):Int)==1) with
    |true=>
     have q4:=bW h4
     have m3:x.kids[0]?=some x2:=(show x4.toNat=0 by omega)▸m2
     have w5:aq E 3 d1 (0+0) H1=some (iI x2.f.k):=aev (j:=0) aR (y1.cell lM vH) m3 (by decide) aa rfl
     cases h5:(x2.f.k==6) with
     |true=>
      have q5:=bW h5
      cases h6:(decide ((IntKind.i64.wrap ((bE x2)+1))>x3)) with
      |true=>
       have q6:=aL h6
       have w6:=aC (x4+1)
       exact aA.next' y (bf (aab x H d1 x4 x2 H1 [aI,au 5,aI,au 2,.as (iI (x4+1)),au 0]) [(1,pt bx 0),(3,iI (IntKind.i64.wrap ((bE x2)+1))),(4,iI (x4+1))] .normal H1 [] (fun _ r_=>aE w1 h1 w1 (show aN E 25 (.slice x.f.pk x.f.nk x.f.ck) (iI x4)=some (pt d1 (0+x4.toNat*13)) from jA bD aK hY aa aa) w2 c1 w3 h2<|aE w3 h3 w4 h4 w4 (show aN E 25 (.slice x.f.pk x.f.nk x.f.ck) (iI 0)=some (pt d1 (0+0)) from jA bD aK hY aa aa) w5 h5<|cU h6 w6 r_)) aM (ih _ aa (IntKind.i64.wrap ((bE x2)+1)) (x4+1) _ y1 eI aa (by rw [dh aa];have hh:=(n6 m2 hR (yd aa));rwa [yG q6] at hh) rfl)
      |false=>
       have q6:=aQ h6
       have w6:=aC (x4+1)
       exact aA.next' y (bf (aab x H d1 x4 x2 H1 [aI,au 5,aF,au 0,.as (iI (x4+1)),au 0]) [(1,pt bx 0),(3,iI x3),(4,iI (x4+1))] .normal H1 [] (fun _ r_=>aE w1 h1 w1 (show aN E 25 (.slice x.f.pk x.f.nk x.f.ck) (iI x4)=some (pt d1 (0+x4.toNat*13)) from jA bD aK hY aa aa) w2 c1 w3 h2<|aE w3 h3 w4 h4 w4 (show aN E 25 (.slice x.f.pk x.f.nk x.f.ck) (iI 0)=some (pt d1 (0+0)) from jA bD aK hY aa aa) w5 h5<|cU h6 w6 r_)) aM (ih _ aa x3 (x4+1) _ y1 eI aa (by rw [dh aa];have hh:=(n6 m2 hR (yd aa));rwa [yH q6] at hh) rfl)
     |false=>
      have q5:=bK h5
      cases h6:(decide ((bE x2)>x3)) with
      |true=>
       have q6:=aL h6
       have w6:=aC (x4+1)
       exact aA.next' y (bf (aab x H d1 x4 x2 H1 [aF,au 2,aI,au 2,.as (iI (x4+1)),au 0]) [(1,pt bx 0),(3,iI (bE x2)),(4,iI (x4+1))] .normal H1 [] (fun _ r_=>aE w1 h1 w1 (show aN E 25 (.slice x.f.pk x.f.nk x.f.ck) (iI x4)=some (pt d1 (0+x4.toNat*13)) from jA bD aK hY aa aa) w2 c1 w3 h2<|aE w3 h3 w4 h4 w4 (show aN E 25 (.slice x.f.pk x.f.nk x.f.ck) (iI 0)=some (pt d1 (0+0)) from jA bD aK hY aa aa) w5 h5<|cU h6 w6 r_)) aM (ih _ aa (bE x2) (x4+1) _ y1 eI aa (by rw [dh aa];have hh:=(g8 m2 hR (nM aa));rwa [yG q6] at hh) rfl)
      |false=>
       have q6:=aQ h6
       have w6:=aC (x4+1)
       exact aA.next' y (bf (aab x H d1 x4 x2 H1 [aF,au 2,aF,au 0,.as (iI (x4+1)),au 0]) [(1,pt bx 0),(3,iI x3),(4,iI (x4+1))] .normal H1 [] (fun _ r_=>aE w1 h1 w1 (show aN E 25 (.slice x.f.pk x.f.nk x.f.ck) (iI x4)=some (pt d1 (0+x4.toNat*13)) from jA bD aK hY aa aa) w2 c1 w3 h2<|aE w3 h3 w4 h4 w4 (show aN E 25 (.slice x.f.pk x.f.nk x.f.ck) (iI 0)=some (pt d1 (0+0)) from jA bD aK hY aa aa) w5 h5<|cU h6 w6 r_)) aM (ih _ aa x3 (x4+1) _ y1 eI aa (by rw [dh aa];have hh:=(g8 m2 hR (nM aa));rwa [yH q6] at hh) rfl)
    |false=>
     have q4:=bK h4
     cases h5:(decide ((bE x2)>x3)) with
     |true=>
      have q5:=aL h5
      have w5:=aC (x4+1)
      exact aA.next' y (bf (aaD x H d1 x4 x2 H1 [aI,au 2,.as (iI (x4+1)),au 0]) [(1,pt bx 0),(3,iI (bE x2)),(4,iI (x4+1))] .normal H1 [] (fun _ r_=>aE w1 h1 w1 (show aN E 25 (.slice x.f.pk x.f.nk x.f.ck) (iI x4)=some (pt d1 (0+x4.toNat*13)) from jA bD aK hY aa aa) w2 c1 w3 h2<|fG w3 h3 w4 h4 h5 w5 r_)) aM (ih _ aa (bE x2) (x4+1) _ y1 eI aa (by rw [dh aa];have hh:=(g8 m2 hR (nM aa));rwa [yG q5] at hh) rfl)
     |false=>
      have q5:=aQ h5
      have w5:=aC (x4+1)
      exact aA.next' y (bf (aaD x H d1 x4 x2 H1 [aF,au 0,.as (iI (x4+1)),au 0]) [(1,pt bx 0),(3,iI x3),(4,iI (x4+1))] .normal H1 [] (fun _ r_=>aE w1 h1 w1 (show aN E 25 (.slice x.f.pk x.f.nk x.f.ck) (iI x4)=some (pt d1 (0+x4.toNat*13)) from jA bD aK hY aa aa) w2 c1 w3 h2<|fG w3 h3 w4 h4 h5 w5 r_)) aM (ih _ aa x3 (x4+1) _ y1 eI aa (by rw [dh aa];have hh:=(g8 m2 hR (nM aa));rwa [yH q5] at hh) rfl)
   |false=>
    have q3:=bK h3
    cases h4:(decide ((bE x2)>x3)) with
    |true=>
     have q4:=aL h4
     have w4:=aC (x4+1)
     exact aA.next' y (bf (aaa x H d1 x4 x2 H1 [aF,au 2,vl (iI x.f.k) H1,aF,au 5,aI,au 2,.as (iI (x4+1)),au 0]) [(1,pt bx 0),(3,iI (bE x2)),(4,iI (x4+1))] .normal H1 [] (fun _ r_=>aE w1 h1 w1 (show aN E 25 (.slice x.f.pk x.f.nk x.f.ck) (iI x4)=some (pt d1 (0+x4.toNat*13)) from jA bD aK hY aa aa) w2 c1 w3 h2<|gm w3 h3 h4 w4 r_)) aM (ih _ aa (bE x2) (x4+1) _ y1 eI aa (by rw [dh aa];have hh:=(g8 m2 hR (nM aa));rwa [yG q4] at hh) rfl)
    |false=>
     have q4:=aQ h4
     have w4:=aC (x4+1)
     exact aA.next' y (bf (aaa x H d1 x4 x2 H1 [aF,au 2,vl (iI x.f.k) H1,aF,au 5,aF,au 0,.as (iI (x4+1)),au 0]) [(1,pt bx 0),(3,iI x3),(4,iI (x4+1))] .normal H1 [] (fun _ r_=>aE w1 h1 w1 (show aN E 25 (.slice x.f.pk x.f.nk x.f.ck) (iI x4)=some (pt d1 (0+x4.toNat*13)) from jA bD aK hY aa aa) w2 c1 w3 h2<|gm w3 h3 h4 w4 r_)) aM (ih _ aa x3 (x4+1) _ y1 eI aa (by rw [dh aa];have hh:=(g8 m2 hR (nM aa));rwa [yH q4] at hh) rfl)
 |false=>
  have q1:=aQ h1
  exact aA.last' y (bf [au 1,vl (.slice x.f.pk x.f.nk x.f.ck) H,au 0,aF] [(1,pt bx 0),(3,iI x3)] (.exit 0) H [] (fun _ r_=>cU w1 h1 r_)) aj aM aM ⟨rfl,x3,rfl,hR.symm.trans (FA (by have:=a.nk;omega))⟩
theorem BQ:E.func 10=some Tryz.f10:=ah
theorem BR:bO Tryz.f10 1=true:=ah
noncomputable abbrev aav (x:Xp) (H:Hp) ff (H1:Hp) (l_:List Hint):=au 2::vl (iI x.f.k) (aZ H x)::aF::au 1::vl (iI x.f.k) (aZ H x)::aF::au 2::.loop [1,3,4] (.exit 0) (bw [(1,pt (H.n+0) 0),(3,iI ff)]) H1 []::au 0::vl (iI x.f.k) H1::l_
theorem Sx (x:Xp) (X:Hp) (hx:Gd E G X) (a:At X x) (qR:∀ k∈x.kids,∀{H:Hp},Gd E X H→aD E X 10 [.agg (eC k.f).toArray] H [] (fun v _=>v=iI (bE k))) {H:Hp} (y:Gd E X H):aD E X 10 [.agg (eC x.f).toArray] H [] (fun v H'=>v=iI (bE x)):=by
 have w1:aq E 3 (H.n+0) 0 (aZ H x)=some (iI x.f.k):=cI aR rfl rfl
 cases h1:(decide (x.f.k<4)) with
 |true=>
  exact bA y [au 2,vl (iI x.f.k) (aZ H x),aI,au 2] (iI 0) (aZ H x) BQ BR (cU w1 h1 aS) (by rw [dw,h1];rfl)
 |false=>
  cases h2:(decide (x.f.k>7)) with
  |true=>
   exact bA y [au 2,vl (iI x.f.k) (aZ H x),aF,au 1,vl (iI x.f.k) (aZ H x),aI,au 1] (iI 0) (aZ H x) BQ BR (gm w1 h1 w1 h2 aS) (by rw [dw,h1,h2];rfl)
  |false=>
   obtain ⟨_,_,H1,c1,bN,y1,rfl,ff,rfl,cw⟩:=(JC x X hx a qR (H.n+0) (fJ x.f 0 x.kids 0) _ 0 0 _ (y.news [.cells (eC x.f) 27 false]) (aB [.cells (eC x.f) 27 false] H 0 _ rfl) aa rfl rfl).code
   have bz:=(y.news [.cells (eC x.f) 27 false]).kept bN aH (aB [.cells (eC x.f) 27 false] H 0 _ rfl)
   have w2:aq E 3 (H.n+0) 0 H1=some (iI x.f.k):=bQ aR bz rfl
   cases h3:(x.f.k==6) with
   |true=>
    have q3:=bW h3
    have w3:aq E 25 (H.n+0) 12 H1=some (.slice x.f.pk x.f.nk x.f.ck):=bQ di bz rfl
    cases h4:(((x.f.nk:Nat):Int)==2) with
    |true=>
     have q4:=bW h4
     exact bA y (aav x H ff H1 [aI,au 1,vl (.slice x.f.pk x.f.nk x.f.ck) H1,au 0,aI,au 2]) (iI ff) H1 BQ BR (aE w1 h1 w1 h2 c1 w2 h3 w3<|cF h4 aS) (by rw [dw,h1,h2,acj aa,cw];rfl)
    |false=>
     have q4:=bK h4
     exact bA y (aav x H ff H1 [aI,au 1,vl (.slice x.f.pk x.f.nk x.f.ck) H1,au 0,aF,au 3]) (iI (IntKind.i64.wrap (ff+1))) H1 BQ BR (aE w1 h1 w1 h2 c1 w2 h3 w3<|cF h4 aS) (by rw [dw,h1,h2,Pb aa,cw];rfl)
   |false=>
    have q3:=bK h3
    exact bA y (aav x H ff H1 [aF,au 4]) (iI (IntKind.i64.wrap (ff+1))) H1 BQ BR (fk w1 h1 w1 h2 c1 w2 h3 aS) (by rw [dw,h1,h2,Pb aa,cw];rfl)
theorem V8 (x:Xp) (X:Hp) (hx:Gd E G X) (hs:jG X x):∀{H:Hp},Gd E X H→aD E X 10 [.agg (eC x.f).toArray] H [] (fun v _=>v=iI (bE x)):=by
 induction hs with
 |@mk x a hk ih=>exact fun y=>Sx x X hx a (fun k hk=>ih k hk) y
end Go.Proofs.YtglmagcldkngbaaGreatDoor
