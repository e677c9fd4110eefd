/- Part of the proof that TreeKids answers true. -/
import Derived.Test.YtbehemdcaiigeaaGreatDoorR09
import Derived.Test.YtbehemdcaiigeaaGreatDoorR04
set_option linter.unusedVariables false
set_option linter.unusedSimpArgs false
set_option maxRecDepth 100000
set_option maxHeartbeats 4000000
namespace Go.Proofs.YtbehemdcaiigeaaGreatDoor
open Go Go.Am
theorem WG {H:U} {l:List df} {k:Nat} (hb:l[k]?=some (O [] 5)):qC E #[42,42] (sc (H.n+k) 0 0 2) (.slice none 0 0) (news H l)=some (.int .i64 0,news H l,[H.n+k],[H.n+k]):=by
 have hu:E.ul 42=some (.slice 5):=by kernel_rfl
 have hz:E.size 5=some 1:=by kernel_rfl
 have hk:=(List.getElem?_eq_some_iff.1 hb).1
 have hs:l.set k (O [] 5)=l:=by
  rw [← (List.getElem?_eq_some_iff.1 hb).2];exact List.set_getElem_self _
 simp only [qC,show (#[42,42]:Array TypeId)[0]?=some 42 from rfl,hu,hz,pP,cond_true,sc,hG,aL l H k _ hb]
 show some (_,(news H l).set (H.n+k) (O [] 5),_,_)=_
 rw [FO l H k _ hk,hs]
 rfl
theorem agR (q n:Nat):ge E 42 (sc q 0 n 2) none (some (J 0)) none=some (sc q 0 0 2):=by
 have hu:E.ul 42=some (.slice 5):=by kernel_rfl
 have hz:E.size 5=some 1:=by kernel_rfl
 have hb:nR none (some (J 0)) none n n=some (0,0,n):=by simp [nR,ju,qp]
 simp only [ge,sc,hu,hz,show ko 2=.uH 1 from rfl,hb]
 rfl
theorem aeU {x d:Int} (h1:0<d) (h2:d≤100000) (hx:x≤1000):decide (x≥IntKind.i64.wrap (Int.tdiv 9223372036854775807 d))=false:=by
 have e:Int.tdiv 9223372036854775807 d=9223372036854775807 / d:=Int.tdiv_eq_ediv_of_nonneg D
 have a1:(1001:Int)≤9223372036854775807 / d:=(Int.le_ediv_iff_mul_le h1).2 D
 have a2:(9223372036854775807:Int) / d≤9223372036854775807:=Int.ediv_le_self _ D
 rw [e,kX D D]
 exact decide_eq_false D
noncomputable abbrev CR H:=news H [O [] 5]
theorem Yz (b:Nat) (dE:Value) (n:Int) (T:Nat) {H:U} (y:aa E G H) (kb:H.get b=some (.cells [dE,.slice none 0 0] T false)) (hn:0≤n) (hm:n≤1000000000) (hT:T=44∨T=46) (cr:G.n≤b):aI E G 111 [pt b 0,J n] H [b] (fun v H'=>v=cZ∧∃ q,H.n≤q∧H'.get b=some (.cells [dE,sc q 0 0 2] T false)∧H'.get q=some (O [] 5)):=by
 refine br Tryz.f111 y ?_
 have zO:=y.wf.lt kb
 obtain ⟨aS,e1⟩:∃ ao,ao=(CR H).set b (.cells [dE,sc (H.n+0) 0 0 2] T false):=⟨_,rfl⟩
 have y1:aa E G aS:=e1▸(y.news [O [] 5]).set _ D (by rw [bU];simp only [cj,cF];omega)
 have cI:aS.n=H.n+1:=by rw [e1,U.cB,bU] <;> rfl
 have aP:=bu e1 D (aL [O [] 5] H 0 _ rfl)
 have fP:=bC e1
 exact Z 3 (ag 1 i5 kb)<|ap 3 (0+n)<|ad 0 (adB (n:=(0+n)) D D:bE E 145 [J (0+n)] H (.ret (sc (H.n+0) 0 ((0+n).toNat) 2)) (CR H) [])<|Z 3 (ag 1 i5 (y.old kb [O [] 5]))<|et 1 (CR H) (agR _ _:ge E 42 (sc (H.n+0) 0 ((0+n).toNat) 2) none (some (J 0)) none=some (sc (H.n+0) 0 0 2))<|Z 5 (ag 1 i5 (y.old kb [O [] 5]))<|eL 0 (WG (k:=0) rfl:qC E #[42,42] (sc (H.n+0) 0 0 2) (.slice none 0 0) (CR H)=some (J 0,CR H,[H.n+0],[H.n+0]))<|aC 4 (stx 1 (sc (H.n+0) 0 0 2) Hr (y.old kb [O [] 5]) e1)<|aV 0 (.tuple #[]) aS [H.n+0,b] aQ bi ⟨rfl,H.n+0,D,fP,aP⟩
theorem Uq (b:Nat) (dE:Value) (n:Int) (T:Nat) {H:U} (y:aa E G H) (kb:H.get b=some (.cells [dE,.slice none 0 0] T false)) (hn:0<n) (hm:n≤1000000000) (hp:dE=.pointer none∨dE=pt b 0) (hT:T=44∨T=46) (cr:G.n≤b):aI E G 88 [pt b 0,J n] H [b] (fun v H'=>v=cZ∧∃ q,H.n≤q∧H'.get b=some (.cells [pt b 0,sc q 0 0 2] T false)∧H'.get q=some (O [] 5)):=by
 refine br Tryz.f88 y ?_
 obtain ⟨_,H1,c1,af,y1,rfl,qL⟩:=Eu b dE (.slice none 0 0) T y kb hp hT cr
 have cI:H.n+0≤H1.n:=af.n
 obtain ⟨_,H2,c2,ar,ah,rfl,cw,vD,Kh,Ku⟩:=Yz b (pt b 0) n T y1 qL D hm hT cr
 exact ad 1 c1<|aH 1 (decide_eq_false D:(decide (n<0))=false)<|Z 3 (ag 1 i5 qL)<|Z 4 (ag 1 i5 qL)<|aH 3 (decide_eq_true D:(decide (0<n))=true)<|ad 2 c2<|aV 0 (.tuple #[]) H2 [b,b] bD bi ⟨rfl,cw,D,Kh,Ku⟩
def u0 (H:U) (b:Nat) (t:ByteArray) (T q:Nat):Prop:=
 q≠b∧H.get b=some (.cells [pt b 0,sc q 0 t.size 2] T false)∧H.get q=some (.cells (iQ t) 5 false)
theorem u0.lt {H:U} {b T q:Nat} {t:ByteArray} (h:u0 H b t T q) {E:Env} {G:U} (y:aa E G H):b<H.n∧q<H.n:=⟨y.wf.lt h.2.1,y.wf.lt h.2.2⟩
theorem M5 (b q T:Nat) (t s:ByteArray) {H:U} (y:aa E G H) (B:u0 H b t T q) (hT:T=44∨T=46) (cr:G.n≤b) (aY:G.n≤q) (hs:t.size+s.size≤1000000000):aI E G 56 [pt b 0,.string s] H [b,q] (fun v H'=>v=.tuple #[.int .i64 (s.size:Int),.nilIface]∧∃ q',u0 H' b (t++s) T q'∧G.n≤q'∧H.n≤q'):=by
 have gn:=y.n
 obtain ⟨hq,k,aX⟩:=B
 refine (T8 b q _ t s T y k aX hs aY hq (.inr rfl) hT cr).mono fun v H' ⟨e,q',pD,k1,k2⟩=>⟨e,q',⟨?_,?_,k2⟩,D,pD⟩
 ·have:=y.wf.lt k;omega
 ·rw [cm];exact k1
theorem ag9 (b q T:Nat) (t:ByteArray) {H:U} (y:aa E G H) (B:u0 H b t T q) (hT:T=44∨T=46) (cr:G.n≤b) (aY:G.n≤q) (h0:0<t.size) (hs:t.size≤1000000000):aI E G 17 [pt b 0] H [q] (fun v H'=>v=.string t):=Tu b q _ t T y B.2.1 B.2.2 h0 hs aY B.1 hT cr
def mF (sep:ByteArray):List ByteArray→ByteArray
 |[]=>ByteArray.empty
 |w::l=>sep++(w++mF sep l)
def fF (sep:ByteArray):List ByteArray→ByteArray
 |[]=>ByteArray.empty
 |w::l=>w++mF sep l
theorem J7 (sep:ByteArray):∀ l:List ByteArray,(mF sep l).size=sep.size*l.length+(bX l).size
 |[]=>by simp [mF,bX]
 |w::l=>by
  rw [mF,cm,cm,J7 sep l,bX,cm,cj,Nat.mul_add]
  omega
theorem M6 {ws:List ByteArray} {i:Nat} {w:ByteArray} (hw:(eH ws)[i]?=some (.string w)):ws.drop i=w::ws.drop (i+1):=by
 simp only [eH,List.getElem?_map,Option.map_eq_some_iff] at hw
 obtain ⟨a,ha,e⟩:=hw
 cases e
 obtain ⟨hi,rfl⟩:=List.getElem?_eq_some_iff.1 ha
 exact List.drop_eq_getElem_cons hi
theorem aa4 {ws:List ByteArray} {i:Nat} {w t sep R:ByteArray} (hw:(eH ws)[i]?=some (.string w)) (h:t++mF sep (ws.drop i)=R):((t++sep)++w)++mF sep (ws.drop (i+1))=R:=by
 rw [M6 hw] at h
 rw [← h,mF,ByteArray.append_assoc,ByteArray.append_assoc]
theorem aa1 {ws:List ByteArray} {i:Nat} {t sep R:ByteArray} (hi:ws.length≤i) (h:t++mF sep (ws.drop i)=R):t=R:=by
 rw [List.drop_eq_nil_of_le hi] at h
 rw [← h];exact ByteArray.append_empty.symm
theorem aa2 {t p w l R:ByteArray} (h:((t++p)++w)++l=R):t.size+p.size≤R.size∧(t++p).size+w.size≤R.size:=by
 rw [← h];simp only [cm];omega
theorem ahd {ws:List ByteArray} {i:Nat} {w:ByteArray} {x N:Int} (hw:(eH ws)[i]?=some (.string w)) (h:x+((bX (ws.drop i)).size:Int)=N):(x+(w.size:Int))+((bX (ws.drop (i+1))).size:Int)=N:=by
 rw [M6 hw,bX,cm] at h
 omega
noncomputable def Wb:Code:=cN [1,1,1,1,0,1,0,0] (cH Tryz.f63)
theorem aa5 (a:Nat) (ws:List ByteArray) (c:Nat) (p:ByteArray) (N:Int) {te:Nat} {ro:Bool}:∀(m:Nat) (aE:Int) (o5:Int) (H:U),aa E G H→(ka:H.get a=some (.cells (eH ws) te ro))→(hl:ws.length<100000)→(x0:0≤o5)→(x1:0≤aE)→(hR:aE+((bX (ws.drop o5.toNat)).size:Int)=N)→(hN:N≤1000000000)→((ws.length:Int)-o5).toNat=m→
  cy E G 75 Wb [(0,sc a 0 ws.length c),(1,.string p),(5,J aE),(39,sc a 0 ws.length c),(40,J (ws.length:Int)),(41,J o5)] H [] (fun x T H'=>(x=(.exit 1)∧∃(gP:Int),T=bl [(0,sc a 0 ws.length c),(1,.string p),(5,J gP)]∧(gP=N))):=by
 refine d8 fun m ih=>?_
 intro aE o5 H y ka hl x0 x1 hR hN hm
 have g0:=y.n
 refine c9 y ?_
 have KN:=y.wf.lt ka
 refine aO 0 (o5<(ws.length:Int)) ?_ ?_ <;> intro h1 q1
 ·obtain ⟨jr,sV,lX⟩:=yr (ws:=ws) (i:=o5.toNat) D
  have ahb:=ahd lX hR
  exact bR 0 o5 (ws.length:Int)<|Z 0 (show ay E 9 a (0+o5.toNat*1) H=some (.string jr) from d7 ct ka (show (eH ws)[0+o5.toNat*1]?=_ by rw [show 0+o5.toNat*1=o5.toNat by omega];exact lX))<|ap 4 (9223372036854775807-aE)<|aH 0 (decide_eq_false D:(decide ((jr.size:Int)>(9223372036854775807-aE)))=false)<|ap 3 (aE+(jr.size:Int))<|ap 1 (o5+1)<|dU 1 [(0,sc a 0 ws.length c),(1,.string p),(5,J (aE+(jr.size:Int))),(39,sc a 0 ws.length c),(40,J (ws.length:Int)),(41,J (o5+1))] H (ih _ D (aE+(jr.size:Int)) (o5+1) _ y ka hl D D (by rw [fR D];exact ahb) hN rfl)
 exact dF 0 [(0,sc a 0 ws.length c),(1,.string p),(5,J aE)] (.exit 1) H ⟨rfl,aE,rfl,(by rw [List.drop_eq_nil_of_le D] at hR;simp only [bX,ByteArray.size_empty] at hR;omega)⟩
noncomputable def Wa:Code:=cN [1,1,1,1,1,1,1,1,0,1,0,0] (cH Tryz.f63)
theorem aa3 (a b ml sA:Nat) (ws:List ByteArray) (p R:ByteArray) (N q0:Nat) {te:Nat} {ro:Bool}:∀(m:Nat) (nG:Int) (q:Nat) (t:ByteArray) (H:U),aa E G H→(ka:H.get a=some (.cells (eH ws) te ro))→(hB:u0 H b t 44 q)→(hl:ws.length<100000)→(hml:ml+1=ws.length)→(x0:0≤nG)→(hR:t++mF p (ws.drop (1+nG.toNat))=R)→(hs:R.size≤1000000000)→(cr:G.n≤b)→(aY:G.n≤q)→(rh:a≠b)→(tH:a≠q)→(wj:q=q0∨N≤q)→(hN:N≤H.n)→((ml:Int)-nG).toNat=m→
  cy E G 75 Wa [(1,.string p),(8,pt b 0),(63,sc a 1 ml sA),(64,J (ml:Int)),(65,J nG)] H [b,q] (fun x T H'=>(x=(.exit 3)∧∃(kf:Nat),T=bl [(8,pt b 0)]∧(u0 H' b R 44 kf∧G.n≤kf∧(kf=q0∨N≤kf)))):=by
 refine d8 fun m ih=>?_
 intro nG q t H y ka hB hl hml x0 hR hs cr aY rh tH wj hN hm
 refine c9 y ?_
 have KN:=y.wf.lt ka
 refine aO 0 (nG<(ml:Int)) ?_ ?_ <;> intro h1 q1
 ·obtain ⟨jr,sV,lX⟩:=yr (ws:=ws) (i:=1+nG.toNat) D
  have xH:=aa4 lX hR
  have ajU:=aa2 xH
  have k7:=hB.lt y
  obtain ⟨_,H1,c1,af,y1,rfl,q1,fq,gX,fL⟩:=M5 b q 44 t p y hB (.inl rfl) cr aY D
  have sS:=fq.lt y1
  obtain ⟨_,H2,c2,ar,ah,rfl,cw,iV,k4,ib⟩:=M5 b q1 44 (t++p) jr y1 fq (.inl rfl) cr gX D
  have vS:=iV.lt ah
  have Cb:=y.kept af bB ka
  have Fo:=y1.kept ar bB Cb
  exact bR 0 nG (ml:Int)<|Z 0 (show ay E 9 a (1+nG.toNat*1) H=some (.string jr) from d7 ct ka (show (eH ws)[1+nG.toNat*1]?=_ by rw [show 1+nG.toNat*1=1+nG.toNat by omega];exact lX))<|ad 2 c1<|ad 1 c2<|ap 0 (nG+1)<|kW 1 [(1,.string p),(8,pt b 0),(63,sc a 1 ml sA),(64,J (ml:Int)),(65,J (nG+1))] H2 [b,q,b,q1] aQ aQ (ih _ D (nG+1) cw ((t++p)++jr) _ ah Fo iV hl hml D (by rw [show 1+(nG+1).toNat=1+nG.toNat+1 by omega];exact xH) hs cr k4 rh D D D rfl)
 exact en 0 [(8,pt b 0)] (.exit 3) H [] aZ bi ⟨rfl,q,rfl,⟨aa1 D hR▸hB,aY,wj⟩⟩
theorem ahx:iQ ByteArray.empty=[]:=List.length_eq_zero_iff.1 (by rw [Ht];rfl)
theorem PY {ws:List ByteArray} {w:ByteArray} (sep:ByteArray) (hw:(eH ws)[0]?=some (.string w)):fF sep ws=w++mF sep (ws.drop 1):=by
 have:=M6 hw
 rw [List.drop_zero] at this
 conv=>lhs;rw [this]
 rfl
theorem aba (ws:List ByteArray) (h:0<ws.length):(fF ⟨#[44,32]⟩ ws).size=2*(ws.length-1)+(bX ws).size:=by
 cases ws with
 |nil=>cases h
 |cons w l=>
  rw [fF,cm,J7,bX,cm,cj]
  show w.size+(2*l.length+_)=_
  omega
noncomputable abbrev vt:=([.pointer none,.slice none 0 0]:List Value)
theorem aa8 (a:Nat) (ws:List ByteArray) (c sA:Nat) {te:Nat} {ro:Bool} {H:U} (y:aa E G H) (ka:H.get a=some (.cells (eH ws) te ro)) (hl:ws.length<100000) (h2:2≤ws.length) (rt:ge E 24 (sc a 0 ws.length c) (some (J 1)) none none=some (sc a 1 (ws.length-1) sA)) (hs:(fF ⟨#[44,32]⟩ ws).size≤1000000000) (hz:(fF ⟨#[44,32]⟩ ws).size=2*(ws.length-1)+(bX ws).size):aI E G 63 [sc a 0 ws.length c,.string ⟨#[44,32]⟩] H [] (fun v H'=>v=.string (fF ⟨#[44,32]⟩ ws)):=by
 refine br Tryz.f63 y ?_
 have KN:=y.wf.lt ka
 obtain ⟨_,_,H1,c1,af,y1,rfl,nH,rfl,cM⟩:=(aa5 a ws c ⟨#[44,32]⟩ ((0+(2*((ws.length:Int)-1)))+((bX ws).size:Int)) _ (0+(2*((ws.length:Int)-1))) 0 _ y ka hl D D rfl D rfl).code
 have cI:H.n+0≤H1.n:=af.n
 have g1:=y1.n
 obtain ⟨_,H2,c2,ar,ah,rfl,cw,vD,Kh,Ku⟩:=Uq (H1.n+0) (.pointer none) nH 44 (y1.news (Gq vt)) (aL (Gq vt) H1 0 _ rfl) D D (.inl rfl) (.inl rfl) D
 have xz:H1.n+1≤cw:=by have h:=vD;rw [bU] at h;exact h
 have iV:u0 H2 (H1.n+0) ByteArray.empty 44 cw:=⟨D,Kh,by rw [ahx];exact Ku⟩
 have vS:=iV.lt ah
 obtain ⟨jr,sV,lX⟩:=yr (ws:=ws) (i:=0) D
 have xH:=PY ⟨#[44,32]⟩ lX
 have ajV:(fF ⟨#[44,32]⟩ ws).size=jr.size+(mF ⟨#[44,32]⟩ (ws.drop 1)).size:=by rw [xH,cm]
 have Cb:=y.kept af ai ka
 have Fo:=(y1.news (Gq vt)).kept ar bB (y1.old Cb (Gq vt))
 obtain ⟨_,H3,c3,aW,az,rfl,dv,nf,py,ke⟩:=M5 (H1.n+0) cw 44 ByteArray.empty jr ah iV (.inl rfl) D D (by rw [ByteArray.size_empty];omega)
 have Qy:=nf.lt az
 have abh:=ah.kept aW bB Fo
 obtain ⟨_,_,H4,cY,c4,bz,rfl,R5,rfl,EW⟩:=(aa3 a (H1.n+0) (ws.length-1) sA ws ⟨#[44,32]⟩ (fF ⟨#[44,32]⟩ ws) H3.n dv _ 0 dv (ByteArray.empty++jr) _ az abh nf hl D D (by rw [xH];exact congrArg (·++mF ⟨#[44,32]⟩ (ws.drop 1)) ByteArray.empty_append) hs D D D D (.inl rfl) (Nat.le_refl _) rfl).code
 have fB:H3.n+0≤H4.n:=c4.n
 have ajQ:=EW.2.1
 have ajR:=EW.2.2
 have Qz:=EW.1.lt bz
 obtain ⟨_,H5,dz,cV,cG,rfl⟩:=ag9 (H1.n+0) R5 44 (fF ⟨#[44,32]⟩ ws) bz EW.1 (.inl rfl) D D D hs
 have gk:H4.n+0≤H5.n:=cV.n
 exact aH 3 (beq_false_of_ne D:((ws.length:Int)==0)=false)<|aH 1 (beq_false_of_ne D:((ws.length:Int)==1)=false)<|ap 9 ((ws.length:Int)-1)<|aj [.ak] (by omega:((ws.length:Int)-1)≠0)<|aH 0 (aeU D D D:(decide (2≥(IntKind.i64.wrap (Int.tdiv 9223372036854775807 ((ws.length:Int)-1)))))=false)<|ap 5 ((ws.length:Int)-1)<|ap 0 (2*((ws.length:Int)-1))<|ap 0 (0+(2*((ws.length:Int)-1)))<|bW 4 c1<|ad 2 c2<|bR 1 (0:Int) (ws.length:Int)<|Z 0 (d7 ct Fo (show (eH ws)[0+(0:Int).toNat*1]?=_ from lX):ay E 9 a (0+(0:Int).toNat*1) H2=some (.string jr))<|ad 0 c3<|et 1 H3 (show ge E 24 (sc a 0 ws.length c) (some (J 1)) none none=some (sc a 1 (ws.length-1) sA) from rt)<|bW 2 cY<|ad 0 dz<|aV 1 (.string (fF ⟨#[44,32]⟩ ws)) H5 [H1.n+0,H1.n+0,cw,H1.n+0,dv,R5] aQ aZ rfl
theorem aa7 (a:Nat) (ws:List ByteArray) (c:Nat) (sp:ByteArray) {te:Nat} {ro:Bool} {H:U} (y:aa E G H) (ka:H.get a=some (.cells (eH ws) te ro)) (h2:ws.length=1):aI E G 63 [sc a 0 ws.length c,.string sp] H [] (fun v H'=>v=.string (fF sp ws)):=by
 refine br Tryz.f63 y ?_
 obtain ⟨jr,sV,lX⟩:=yr (ws:=ws) (i:=0) D
 have xH:=PY sp lX
 exact aH 3 (beq_false_of_ne D:((ws.length:Int)==0)=false)<|aH 1 (beq_iff_eq.2 D:((ws.length:Int)==1)=true)<|bR 2 (0:Int) (ws.length:Int)<|Z 0 (d7 ct ka (show (eH ws)[0+(0:Int).toNat*1]?=_ from lX):ay E 9 a (0+(0:Int).toNat*1) H=some (.string jr))<|al 1 (.string jr) H (by rw [xH,List.drop_eq_nil_of_le D,mF];exact congrArg Value.string ByteArray.append_empty.symm)
theorem aa6 (p:Option Addr) (c:Nat) (sp:ByteArray) {H:U} (y:aa E G H):aI E G 63 [.slice p 0 c,.string sp] H [] (fun v H'=>v=.string ⟨#[]⟩):=by
 refine br Tryz.f63 y ?_
 exact al 6 (.string ⟨#[]⟩) H rfl
theorem ahu {a n c:Nat} (h:u7 n c) (h2:2≤n):∃ sA,ge E 24 (sc a 0 n c) (some (J 1)) none none=some (sc a 1 (n-1) sA):=by
 have hu:E.ul 24=some (.slice 9):=by kernel_rfl
 have hz:E.size 9=some 1:=by kernel_rfl
 have ub:∀ k:Nat,n≤k→nR (some (J 1)) none none n k=some (1,n,k):=by
  intro k hk
  have a1:(decide ((0:Int)≤1)&&decide ((1:Int)≤(n:Int)))=true:=by
   rw [dI];exact ⟨rfl,decide_eq_true D⟩
  have e1:qp (J 1) n=some 1:=by
   show (bif decide ((0:Int)≤1)&&decide ((1:Int)≤(n:Int)) then some (1:Int).toNat else none)=_
   rw [a1];rfl
  simp only [nR,ju,e1]
  rfl
 rcases h with rfl |⟨k,rfl,hk⟩
 ·refine ⟨2,?_⟩
  have hb:Nat.blt 1 n=true:=Nat.ble_eq_true_of_le h2
  simp only [ge,sc,hu,hz,show ko 2=.uH 1 from rfl,ub n (Nat.le_refl _),hb,show Nat.beq 1 1=true from rfl,Bool.or_true,Bool.and_self,cond_true]
 ·refine ⟨2*(k-1)+1,?_⟩
  have hc:ko (2*k+1)=.known k:=by
   unfold ko
   rw [show (2*k+1)%2=1 by omega,show (2*k+1) / 2=k by omega];rfl
  have hb:Nat.beq k 1=false:=iz D
  simp only [ge,sc,hu,hz,hc,ub k hk,hb,cond_false]
theorem PZ {p:Option Addr} {ws:List ByteArray} {c:Nat} {H:U} (y:aa E G H) (hr:ls H p ws.length (eH ws)) (hl:ws.length<100000) (hc:ws.length≠0→u7 ws.length c) (hs:(fF ⟨#[44,32]⟩ ws).size≤1000000000):aI E G 63 [.slice p ws.length c,.string ⟨#[44,32]⟩] H [] (fun v H'=>v=.string (fF ⟨#[44,32]⟩ ws)):=by
 by_cases h0:ws.length=0
 ·have e:=List.length_eq_zero_iff.1 h0
  subst e
  exact aa6 p c ⟨#[44,32]⟩ y
 ·obtain ⟨a,ro,t,rfl,ka⟩:=hr.open h0
  by_cases h1:ws.length=1
  ·exact aa7 a ws c ⟨#[44,32]⟩ y ka h1
  ·obtain ⟨sA,hx⟩:=ahu (a:=a) (hc h0) D
   exact aa8 a ws c sA y ka hl D hx hs (aba ws D)
theorem acx (p:Option Addr) (ws:List ByteArray) (c:Nat) {H:U} (y:aa E G H) (hr:ls H p ws.length (eH ws)) (hl:ws.length<100000) (hc:ws.length≠0→u7 ws.length c) (hs:(fF ⟨#[44,32]⟩ ws).size≤900000000):aI E G 66 [.slice p ws.length c] H [] (fun v H'=>v=.string ((⟨#[40]⟩++(fF ⟨#[44,32]⟩ ws))++⟨#[41]⟩)):=by
 refine br Tryz.f66 y ?_
 obtain ⟨_,H1,c1,af,y1,rfl⟩:=PZ y hr hl hc D
 have w1:ByteArray.size ⟨#[40]⟩+ByteArray.size (fF ⟨#[44,32]⟩ ws)≤1000000000:=by (have e1:ByteArray.size ⟨#[40]⟩=1:=rfl;have e2:ByteArray.size ⟨#[41]⟩=1:=rfl;(try rw [cm]);omega)
 have w2:ByteArray.size (⟨#[40]⟩++(fF ⟨#[44,32]⟩ ws))+ByteArray.size ⟨#[41]⟩≤1000000000:=by (have e1:ByteArray.size ⟨#[40]⟩=1:=rfl;have e2:ByteArray.size ⟨#[41]⟩=1:=rfl;(try rw [cm]);omega)
 exact ad 2 c1<|aj [.ak] w1<|aj [.ak] w2<|al 1 (.string ((⟨#[40]⟩++(fF ⟨#[44,32]⟩ ws))++⟨#[41]⟩)) H1 rfl
theorem YP (s:ByteArray) {H:U} (y:aa E G H):aI E G 84 [.string s,.string ⟨#[43]⟩] H [] (fun v H'=>∃ x:Bool,v=.bool x∧(x=true→1≤s.size)):=by
 refine br Tryz.f84 y ?_
 refine aO 5 ((s.size:Int)≥1) ?_ ?_ <;> intro h1 q1
 ·have w1:0≤(1:Int):=by (have e1:ByteArray.size ⟨#[43]⟩=1:=rfl;omega)
  have w2:(1:Int)≤(s.size:Int):=by (have e1:ByteArray.size ⟨#[43]⟩=1:=rfl;omega)
  refine aK [aB 3]<|eM [.ak] w1 w2<|oS 1 ((s.extract 0 (1:Int).toNat).toList==(⟨#[43]⟩:ByteArray).toList) (fun h2=>?_) fun h2=>?_
  ·exact al 2 aN H ⟨_,rfl,by intro h;first |omega |cases h⟩
  exact al 2 Y H ⟨_,rfl,by intro h;first |omega |cases h⟩
 exact al 3 Y H ⟨_,rfl,by intro h;first |omega |cases h⟩
theorem ahS (s:ByteArray) {H:U} (y:aa E G H):aI E G 57 [.string s,.string ⟨#[43]⟩] H [] (fun v H'=>∃ t:ByteArray,v=.string t∧t.size≤s.size):=by
 refine br Tryz.f57 y ?_
 obtain ⟨_,H1,c1,af,y1,x1,rfl,hx1⟩:=YP s y
 refine ad 3 c1<|?_
 cases x1 with
 |true=>
  have w1:0≤(1:Int):=by (have:=hx1 rfl;omega)
  have w2:(1:Int)≤(s.size:Int):=by (have:=hx1 rfl;omega)
  exact aK [aB 2]<|eM [.ak] w1 w2<|al 1 (.string (s.extract (1:Int).toNat s.size)) H1 ⟨_,rfl,by first |exact Nat.le_refl _ |(simp only [yX];omega)⟩
 |false=>
  exact al 2 (.string s) H1 ⟨_,rfl,by first |exact Nat.le_refl _ |(simp only [yX];omega)⟩
theorem ahT (s:ByteArray) {H:U} (y:aa E G H):aI E G 30 [.string s,.string ⟨#[43]⟩] H [] (fun v H'=>∃ t:ByteArray,v=.string t∧t.size≤s.size):=by
 refine br Tryz.f30 y ?_
 obtain ⟨_,H1,c1,af,y1,u1,rfl,nj⟩:=ahS s y
 exact ad 3 c1<|al 1 (.string u1) H1 ⟨_,rfl,nj⟩
theorem oe {s:ByteArray} {k:Nat} (h:s.data.toList.all (fun b=>Nat.ble b.toNat k)=true) (i:Int):ac s i≤k:=by
 unfold ac
 cases e:s.data[i.toNat]? with
 |none=>show ((0:UInt8).toNat:Int)≤k;simp
 |some b=>
  have hm:b∈s.data.toList:=by
   obtain ⟨hi,rfl⟩:=Array.getElem?_eq_some_iff.1 e
   exact Array.mem_toList_iff.2 (Array.getElem_mem hi)
  have:=ec (List.all_eq_true.1 h b hm)
  show (b.toNat:Int)≤k
  omega
theorem jt {x m:Int} (n:Nat) (h:(2:Int) ^ n=m) (h0:0<m):Int.fdiv x (2 ^ n)=x / m:=by rw [h,Int.fdiv_eq_ediv_of_nonneg _ D]
abbrev gh:ByteArray:=⟨#[0,1,2,2,3,3,3,3,4,4,4,4,4,4,4,4,5,5,5,5,5,5,5,5,5,5,5,5,5,5,5,5,6,6,6,6,6,6,6,6,6,6,6,6,6,6,6,6,6,6,6,6,6,6,6,6,6,6,6,6,6,6,6,6,7,7,7,7,7,7,7,7,7,7,7,7,7,7,7,7,7,7,7,7,7,7,7,7,7,7,7,7,7,7,7,7,7,7,7,7,7,7,7,7,7,7,7,7,7,7,7,7,7,7,7,7,7,7,7,7,7,7,7,7,7,7,7,7,8,8,8,8,8,8,8,8,8,8,8,8,8,8,8,8,8,8,8,8,8,8,8,8,8,8,8,8,8,8,8,8,8,8,8,8,8,8,8,8,8,8,8,8,8,8,8,8,8,8,8,8,8,8,8,8,8,8,8,8,8,8,8,8,8,8,8,8,8,8,8,8,8,8,8,8,8,8,8,8,8,8,8,8,8,8,8,8,8,8,8,8,8,8,8,8,8,8,8,8,8,8,8,8,8,8,8,8,8,8,8,8,8,8,8,8,8,8,8,8,8,8,8,8,8,8,8,8]⟩
theorem vN:gh.size=256:=av
theorem vM:gh.data.toList.all (fun b=>Nat.ble b.toNat 8)=true:=av
theorem aca (x:Int) {H:U} (y:aa E G H) (h0:0≤x) (h1:x<18446744073709551616):aI E G 130 [ax x] H [] (fun v H'=>∃ n:Int,v=.int .i64 n∧0≤n∧n≤64):=by
 refine br Tryz.f130 y ?_
 refine aO 2 (x≥4294967296) ?_ ?_ <;> intro h1 q1
 ·have w1:((ax (Int.fdiv x (2 ^ 32))):Value)=(ax (x / 4294967296)):=(by rw [jt (m:=4294967296) 32 (by decide) D])
  refine aK [aB 0]<|aj [.as (ax (x / 4294967296))] w1<|aO 3 ((x / 4294967296)≥65536) ?_ ?_ <;> intro h2 cw
  ·have w2:((ax (Int.fdiv (x / 4294967296) (2 ^ 16))):Value)=(ax ((x / 4294967296) / 65536)):=(by rw [jt (m:=65536) 16 (by decide) D])
   refine aK [aB 0]<|aj [.as (ax ((x / 4294967296) / 65536))] w2<|aO 5 (((x / 4294967296) / 65536)≥256) ?_ ?_ <;> intro h3 dv
   ·have w3:((ax (Int.fdiv ((x / 4294967296) / 65536) (2 ^ 8))):Value)=(ax (((x / 4294967296) / 65536) / 256)):=(by rw [jt (m:=256) 8 (by decide) D])
    have eo:((ab (IntKind.u8.wrap (((x / 4294967296) / 65536) / 256))):Value)=(ab (((x / 4294967296) / 65536) / 256)):=(by rw [jl D D])
    have oX:=oe vM (((x / 4294967296) / 65536) / 256)
    have oY:=gG gh (((x / 4294967296) / 65536) / 256)
    exact aK [aB 0]<|aj [.as (ax (((x / 4294967296) / 65536) / 256))] w3<|aK [aB 5]<|aj [.as (ab (((x / 4294967296) / 65536) / 256))] eo<|eM [.ak] (show (0:Int)≤(((x / 4294967296) / 65536) / 256) from by omega) (show (((x / 4294967296) / 65536) / 256)<(gh.size:Int) from by rw [vN];omega)<|ap 0 (ac gh (((x / 4294967296) / 65536) / 256))<|ap 0 (56+(ac gh (((x / 4294967296) / 65536) / 256)))<|al 1 (J (56+(ac gh (((x / 4294967296) / 65536) / 256)))) H ⟨_,rfl,D,D⟩
   have w3:((ab (IntKind.u8.wrap ((x / 4294967296) / 65536))):Value)=(ab ((x / 4294967296) / 65536)):=(by rw [jl D D])
   have oX:=oe vM ((x / 4294967296) / 65536)
   have oY:=gG gh ((x / 4294967296) / 65536)
   exact aK [aB 1]<|aj [.as (ab ((x / 4294967296) / 65536))] w3<|eM [.ak] (show (0:Int)≤((x / 4294967296) / 65536) from by omega) (show ((x / 4294967296) / 65536)<(gh.size:Int) from by rw [vN];omega)<|ap 0 (ac gh ((x / 4294967296) / 65536))<|ap 0 (48+(ac gh ((x / 4294967296) / 65536)))<|al 1 (J (48+(ac gh ((x / 4294967296) / 65536)))) H ⟨_,rfl,D,D⟩
  refine aO 1 ((x / 4294967296)≥256) ?_ ?_ <;> intro h3 dv
  ·have w2:((ax (Int.fdiv (x / 4294967296) (2 ^ 8))):Value)=(ax ((x / 4294967296) / 256)):=(by rw [jt (m:=256) 8 (by decide) D])
   have w3:((ab (IntKind.u8.wrap ((x / 4294967296) / 256))):Value)=(ab ((x / 4294967296) / 256)):=(by rw [jl D D])
   have oX:=oe vM ((x / 4294967296) / 256)
   have oY:=gG gh ((x / 4294967296) / 256)
   exact aK [aB 0]<|aj [.as (ax ((x / 4294967296) / 256))] w2<|aK [aB 5]<|aj [.as (ab ((x / 4294967296) / 256))] w3<|eM [.ak] (show (0:Int)≤((x / 4294967296) / 256) from by omega) (show ((x / 4294967296) / 256)<(gh.size:Int) from by rw [vN];omega)<|ap 0 (ac gh ((x / 4294967296) / 256))<|ap 0 (40+(ac gh ((x / 4294967296) / 256)))<|al 1 (J (40+(ac gh ((x / 4294967296) / 256)))) H ⟨_,rfl,D,D⟩
  have w2:((ab (IntKind.u8.wrap (x / 4294967296))):Value)=(ab (x / 4294967296)):=(by rw [jl D D])
  have oX:=oe vM (x / 4294967296)
  have oY:=gG gh (x / 4294967296)
  exact aK [aB 1]<|aj [.as (ab (x / 4294967296))] w2<|eM [.ak] (show (0:Int)≤(x / 4294967296) from by omega) (show (x / 4294967296)<(gh.size:Int) from by rw [vN];omega)<|ap 0 (ac gh (x / 4294967296))<|ap 0 (32+(ac gh (x / 4294967296)))<|al 1 (J (32+(ac gh (x / 4294967296)))) H ⟨_,rfl,D,D⟩
 refine aO 1 (x≥65536) ?_ ?_ <;> intro h2 cw
 ·have w1:((ax (Int.fdiv x (2 ^ 16))):Value)=(ax (x / 65536)):=(by rw [jt (m:=65536) 16 (by decide) D])
  refine aK [aB 0]<|aj [.as (ax (x / 65536))] w1<|aO 5 ((x / 65536)≥256) ?_ ?_ <;> intro h3 dv
  ·have w2:((ax (Int.fdiv (x / 65536) (2 ^ 8))):Value)=(ax ((x / 65536) / 256)):=(by rw [jt (m:=256) 8 (by decide) D])
   have w3:((ab (IntKind.u8.wrap ((x / 65536) / 256))):Value)=(ab ((x / 65536) / 256)):=(by rw [jl D D])
   have oX:=oe vM ((x / 65536) / 256)
   have oY:=gG gh ((x / 65536) / 256)
   exact aK [aB 0]<|aj [.as (ax ((x / 65536) / 256))] w2<|aK [aB 5]<|aj [.as (ab ((x / 65536) / 256))] w3<|eM [.ak] (show (0:Int)≤((x / 65536) / 256) from by omega) (show ((x / 65536) / 256)<(gh.size:Int) from by rw [vN];omega)<|ap 0 (ac gh ((x / 65536) / 256))<|ap 0 (24+(ac gh ((x / 65536) / 256)))<|al 1 (J (24+(ac gh ((x / 65536) / 256)))) H ⟨_,rfl,D,D⟩
  have w2:((ab (IntKind.u8.wrap (x / 65536))):Value)=(ab (x / 65536)):=(by rw [jl D D])
  have oX:=oe vM (x / 65536)
  have oY:=gG gh (x / 65536)
  exact aK [aB 1]<|aj [.as (ab (x / 65536))] w2<|eM [.ak] (show (0:Int)≤(x / 65536) from by omega) (show (x / 65536)<(gh.size:Int) from by rw [vN];omega)<|ap 0 (ac gh (x / 65536))<|ap 0 (16+(ac gh (x / 65536)))<|al 1 (J (16+(ac gh (x / 65536)))) H ⟨_,rfl,D,D⟩
 refine aO 1 (x≥256) ?_ ?_ <;> intro h3 dv
 ·have w1:((ax (Int.fdiv x (2 ^ 8))):Value)=(ax (x / 256)):=(by rw [jt (m:=256) 8 (by decide) D])
  have w2:((ab (IntKind.u8.wrap (x / 256))):Value)=(ab (x / 256)):=(by rw [jl D D])
  have oX:=oe vM (x / 256)
  have oY:=gG gh (x / 256)
  exact aK [aB 0]<|aj [.as (ax (x / 256))] w1<|aK [aB 5]<|aj [.as (ab (x / 256))] w2<|eM [.ak] (show (0:Int)≤(x / 256) from by omega) (show (x / 256)<(gh.size:Int) from by rw [vN];omega)<|ap 0 (ac gh (x / 256))<|ap 0 (8+(ac gh (x / 256)))<|al 1 (J (8+(ac gh (x / 256)))) H ⟨_,rfl,D,D⟩
 have w1:((ab (IntKind.u8.wrap x)):Value)=(ab x):=(by rw [jl D D])
 have oX:=oe vM x
 have oY:=gG gh x
 exact aK [aB 1]<|aj [.as (ab x)] w1<|eM [.ak] (show (0:Int)≤x from by omega) (show x<(gh.size:Int) from by rw [vN];omega)<|ap 0 (ac gh x)<|ap 0 (0+(ac gh x))<|al 1 (J (0+(ac gh x))) H ⟨_,rfl,D,D⟩
theorem acB (n:Int) {H:U} (y:aa E G H) (h0:0≤n) (h1:n≤64):aI E G 133 [J n] H [] (fun v H'=>∃ m:Int,v=.int .i64 m∧0≤m∧m≤19):=by
 refine br Tryz.f133 y ?_
 have w1:((J (Int.fdiv (n*78913) (2 ^ 18))):Value)=(J ((n*78913) / 262144)):=(by rw [jt (m:=262144) 18 (by decide) D])
 exact ap 2 (n*78913)<|aj [.as (J ((n*78913) / 262144))] w1<|al 1 (J ((n*78913) / 262144)) H ⟨_,rfl,D,D⟩
theorem N5 (b:Bool) {H:U} (y:aa E G H):aI E G 146 [.bool b] H [] (fun v H'=>∃ m:Int,v=.int .i64 m∧0≤m∧m≤1):=by
 refine br Tryz.f146 y ?_
 cases b with
 |true=>
  exact al 3 (J 1) H ⟨_,rfl,D,D⟩
 |false=>
  exact al 3 (J 0) H ⟨_,rfl,D,D⟩
abbrev RI:List Value:=[.int .u64 1,.int .u64 10,.int .u64 100,.int .u64 1000,.int .u64 10000,.int .u64 100000,.int .u64 1000000,.int .u64 10000000,.int .u64 100000000,.int .u64 1000000000,.int .u64 10000000000,.int .u64 100000000000,.int .u64 1000000000000,.int .u64 10000000000000,.int .u64 100000000000000,.int .u64 1000000000000000,.int .u64 10000000000000000,.int .u64 100000000000000000,.int .u64 1000000000000000000,.int .u64 10000000000000000000]
theorem RJ {i:Int} (h0:0≤i) (h1:i<20):RI[0+i.toNat*1]?=some (.int .u64 ((10:Int) ^ i.toNat)):=by
 have e:RI=(List.range 20).map fun k=>Value.int .u64 ((10:Int) ^ k):=by kernel_rfl
 rw [e,List.getElem?_map,List.getElem?_range D]
 show some (Value.int .u64 ((10:Int) ^ (0+i.toNat*1)))=_
 rw [Nat.mul_one,Nat.zero_add]
theorem Gl (x:Int) {H:U} (y:aa E G H) (h0:0≤x) (h1:x<18446744073709551616):aI E G 113 [ax x] H [] (fun v H'=>∃ m:Int,v=.int .i64 m∧0≤m∧m≤20):=by
 refine br Tryz.f113 y ?_
 obtain ⟨_,H1,c1,af,y1,n1,rfl,CD,cW⟩:=aca x y h0 h1
 obtain ⟨_,H2,c2,ar,ah,n2,rfl,akF,cA⟩:=acB n1 y1 D D
 have l4:=y.kept af ai (Nt y)
 have J9:=y1.kept ar ai l4
 refine ad 2 c1<|ad 0 c2<|bR 4 n2 (20:Int)<|Z 0 (d7 jH J9 (RJ D D):ay E 22 6 (0+n2.toNat*1) H2=some (ax ((10:Int) ^ n2.toNat)))<|aO 0 (x≥((10:Int) ^ n2.toNat)) ?_ ?_ <;> intro h1 q1
 ·obtain ⟨_,H3,c3,aW,az,rP,rfl,adk,cQ⟩:=N5 true ah
  exact ad 0 c3<|ap 0 (n2+rP)<|al 1 (J (n2+rP)) H3 ⟨_,rfl,D,D⟩
 obtain ⟨_,H3,c3,aW,az,rP,rfl,adk,cQ⟩:=N5 false ah
 exact ad 0 c3<|ap 0 (n2+rP)<|al 1 (J (n2+rP)) H3 ⟨_,rfl,D,D⟩
theorem kh {x:Int} (h0:0≤x) (h1:x<4294967296):IntKind.u32.wrap x=x:=by
 unfold IntKind.wrap
 simp only [IntKind.bits,IntKind.signed,Bool.false_and]
 simp only [Bool.false_eq_true,if_false]
 omega
theorem aiJ (x:Int):0≤IntKind.u32.wrap x∧IntKind.u32.wrap x<4294967296:=by
 unfold IntKind.wrap
 simp only [IntKind.bits,IntKind.signed,Bool.false_and]
 simp only [Bool.false_eq_true,if_false]
 omega
theorem aiK (x:Int):0≤IntKind.u8.wrap x∧IntKind.u8.wrap x<256:=by
 unfold IntKind.wrap
 simp only [IntKind.bits,IntKind.signed,Bool.false_and]
 simp only [Bool.false_eq_true,if_false]
 omega
theorem DN (x:Int):∃ w:Int,IntKind.u32.wrap x=w∧0≤w∧w<4294967296:=⟨_,rfl,aiJ x⟩
theorem HN (x:Int):∃ w:Int,IntKind.u8.wrap x=w∧0≤w∧w<256:=⟨_,rfl,aiK x⟩
theorem kE {x y:Int} (h:0≤x):Int.tdiv x y=x / y:=Int.tdiv_eq_ediv_of_nonneg h
theorem jR {x y:Int} (h:0≤x):Int.tmod x y=x%y:=Int.tmod_eq_emod_of_nonneg h
structure bq (xs:List Value) (n:Nat):Prop where
 len:xs.length=n
 u:∀ v∈xs,∃ k:Int,v=.int .u8 k
theorem bq.set {xs:List Value} {n:Nat} (h:bq xs n) (o:Nat) (k:Int):bq (xs.set o (.int .u8 k)) n:=⟨by rw [List.length_set];exact h.len,fun v hv=>by
 rcases List.mem_or_eq_of_mem_set hv with h1 |h1
 ·exact h.u v h1
 ·exact ⟨k,h1⟩⟩
theorem wD:E.size 5=some 1:=av
theorem kF {q o n e:Nat} {k:Int} {H:U} {xs:List Value} (h:bq xs n) (g:H.get q=some (.cells xs e false)) (ho:o<n):bp E 5 q o (.int .u8 k) H=some (H.set q (.cells (xs.set o (.int .u8 k)) e false)):=st wD g (by
 have hl:=h.len
 have:Nat.ble (o+1) xs.length=true:=Nat.ble_eq_true_of_le D
 show (true&&_)=true
 rw [this];rfl) (by
 show splice xs o [.int .u8 k]=_
 rw [Hg _ _ _ (by have hl:=h.len;omega)])
abbrev bh:ByteArray:=⟨#[48,48,48,49,48,50,48,51,48,52,48,53,48,54,48,55,48,56,48,57,49,48,49,49,49,50,49,51,49,52,49,53,49,54,49,55,49,56,49,57,50,48,50,49,50,50,50,51,50,52,50,53,50,54,50,55,50,56,50,57,51,48,51,49,51,50,51,51,51,52,51,53,51,54,51,55,51,56,51,57,52,48,52,49,52,50,52,51,52,52,52,53,52,54,52,55,52,56,52,57,53,48,53,49,53,50,53,51,53,52,53,53,53,54,53,55,53,56,53,57,54,48,54,49,54,50,54,51,54,52,54,53,54,54,54,55,54,56,54,57,55,48,55,49,55,50,55,51,55,52,55,53,55,54,55,55,55,56,55,57,56,48,56,49,56,50,56,51,56,52,56,53,56,54,56,55,56,56,56,57,57,48,57,49,57,50,57,51,57,52,57,53,57,54,57,55,57,56,57,57]⟩
theorem nW:bh.size=200:=av
theorem ajp:bh.data.toList.all (fun b=>Nat.ble b.toNat 57)=true:=av
noncomputable def V4:Code:=cN [1,0,0,0] (cH Tryz.f114)
theorem X3 (q o d c n te:Nat):∀(m:Nat) (x1:Int) (aA:Int) (xs:List Value) (H:U),aa E G H→(aX:H.get q=some (.cells xs te false))→(hu:bq xs n)→(ho:o+d≤n)→(hd:d<100000)→(aY:G.n≤q)→(x0:0≤aA)→(uP:aA≤d)→(pQ:0≤x1)→(u1:x1<18446744073709551616)→aA.toNat=m→
  cy E G 167 V4 [(0,sc q o d c),(1,ax x1),(4,J aA)] H [q] (fun x T H'=>(x=(.exit 0)∧∃(Na gD:Int) (zs:List Value),T=bl [(0,sc q o d c),(1,ax Na),(4,J gD)]∧(H'.get q=some (.cells zs te false)∧bq zs n∧0≤gD∧gD<8∧gD≤d∧0≤Na∧Na<18446744073709551616))):=by
 refine d8 fun m ih=>?_
 intro x1 aA xs H y aX hu ho hd aY x0 uP pQ u1 hm
 refine c9 y ?_
 have iX:=y.wf.lt aX
 refine aO 1 (aA≥8) ?_ ?_ <;> intro h1 q1
 ·have w1:((ax (Int.tmod x1 100000000)):Value)=(ax (x1%100000000)):=(by rw [jR (x:=x1) D])
  have w2:((.int .u32 (IntKind.u32.wrap (x1%100000000))):Value)=(.int .u32 (x1%100000000)):=(by rw [kh D D])
  have w3:((ax (IntKind.u64.wrap (Int.tdiv x1 100000000))):Value)=(ax (x1 / 100000000)):=(by rw [kE (x:=x1) D,nE D D])
  have eo:((.int .u32 (IntKind.u32.wrap (Int.tdiv (x1%100000000) 10000))):Value)=(.int .u32 ((x1%100000000) / 10000)):=(by rw [kE (x:=(x1%100000000)) D,kh D D])
  have iE:((.int .u32 (Int.tmod (x1%100000000) 10000)):Value)=(.int .u32 ((x1%100000000)%10000)):=(by rw [jR (x:=(x1%100000000)) D])
  have lH:((.int .u32 (IntKind.u32.wrap (Int.tdiv ((x1%100000000)%10000) 100))):Value)=(.int .u32 (((x1%100000000)%10000) / 100)):=(by rw [kE (x:=((x1%100000000)%10000)) D,kh D D])
  have tn:((.int .u32 (IntKind.u32.wrap ((((x1%100000000)%10000) / 100)*2))):Value)=(.int .u32 ((((x1%100000000)%10000) / 100)*2)):=(by rw [kh D D])
  have DI:((.int .u32 (Int.tmod ((x1%100000000)%10000) 100)):Value)=(.int .u32 (((x1%100000000)%10000)%100)):=(by rw [jR (x:=((x1%100000000)%10000)) D])
  have DJ:((.int .u32 (IntKind.u32.wrap ((((x1%100000000)%10000)%100)*2))):Value)=(.int .u32 ((((x1%100000000)%10000)%100)*2)):=(by rw [kh D D])
  have yn:((.int .u32 (IntKind.u32.wrap (Int.tdiv ((x1%100000000) / 10000) 100))):Value)=(.int .u32 (((x1%100000000) / 10000) / 100)):=(by rw [kE (x:=((x1%100000000) / 10000)) D,kh D D])
  have DH:((.int .u32 (IntKind.u32.wrap ((((x1%100000000) / 10000) / 100)*2))):Value)=(.int .u32 ((((x1%100000000) / 10000) / 100)*2)):=(by rw [kh D D])
  have MT:((.int .u32 (Int.tmod ((x1%100000000) / 10000) 100)):Value)=(.int .u32 (((x1%100000000) / 10000)%100)):=(by rw [jR (x:=((x1%100000000) / 10000)) D])
  have MU:((.int .u32 (IntKind.u32.wrap ((((x1%100000000) / 10000)%100)*2))):Value)=(.int .u32 ((((x1%100000000) / 10000)%100)*2)):=(by rw [kh D D])
  have MV:((.int .u32 (IntKind.u32.wrap (((((x1%100000000)%10000)%100)*2)+1))):Value)=(.int .u32 (((((x1%100000000)%10000)%100)*2)+1)):=(by rw [kh D D])
  obtain ⟨aS,e1⟩:∃ ao,ao=H.set q (.cells (xs.set (o+(aA-1).toNat*1) (.int .u8 (ac bh (((((x1%100000000)%10000)%100)*2)+1)))) te false):=⟨_,rfl⟩
  have y1:aa E G aS:=e1▸y.set _ D D
  have cI:aS.n=H.n+0:=by rw [e1,U.cB] <;> rfl
  have cE:=bC e1
  obtain ⟨aF,e2⟩:∃ ao,ao=aS.set q (.cells ((xs.set (o+(aA-1).toNat*1) (.int .u8 (ac bh (((((x1%100000000)%10000)%100)*2)+1)))).set (o+(aA-2).toNat*1) (.int .u8 (ac bh ((((x1%100000000)%10000)%100)*2)))) te false):=⟨_,rfl⟩
  have ah:aa E G aF:=e2▸y1.set _ D D
  have cl:aF.n=aS.n+0:=by rw [e2,U.cB] <;> rfl
  have dQ:=bC e2
  have MW:((.int .u32 (IntKind.u32.wrap (((((x1%100000000)%10000) / 100)*2)+1))):Value)=(.int .u32 (((((x1%100000000)%10000) / 100)*2)+1)):=(by rw [kh D D])
  obtain ⟨bk,aM⟩:∃ ao,ao=aF.set q (.cells (((xs.set (o+(aA-1).toNat*1) (.int .u8 (ac bh (((((x1%100000000)%10000)%100)*2)+1)))).set (o+(aA-2).toNat*1) (.int .u8 (ac bh ((((x1%100000000)%10000)%100)*2)))).set (o+(aA-3).toNat*1) (.int .u8 (ac bh (((((x1%100000000)%10000) / 100)*2)+1)))) te false):=⟨_,rfl⟩
  have az:aa E G bk:=aM▸ah.set _ D D
  have dD:bk.n=aF.n+0:=by rw [aM,U.cB] <;> rfl
  have fr:=bC aM
  obtain ⟨bF,aG⟩:∃ ao,ao=bk.set q (.cells ((((xs.set (o+(aA-1).toNat*1) (.int .u8 (ac bh (((((x1%100000000)%10000)%100)*2)+1)))).set (o+(aA-2).toNat*1) (.int .u8 (ac bh ((((x1%100000000)%10000)%100)*2)))).set (o+(aA-3).toNat*1) (.int .u8 (ac bh (((((x1%100000000)%10000) / 100)*2)+1)))).set (o+(aA-4).toNat*1) (.int .u8 (ac bh ((((x1%100000000)%10000) / 100)*2)))) te false):=⟨_,rfl⟩
  have bz:aa E G bF:=aG▸az.set _ D D
  have fB:bF.n=bk.n+0:=by rw [aG,U.cB] <;> rfl
  have kA:=bC aG
  have aij:((.int .u32 (IntKind.u32.wrap (((((x1%100000000) / 10000)%100)*2)+1))):Value)=(.int .u32 (((((x1%100000000) / 10000)%100)*2)+1)):=(by rw [kh D D])
  obtain ⟨db,bS⟩:∃ ao,ao=bF.set q (.cells (((((xs.set (o+(aA-1).toNat*1) (.int .u8 (ac bh (((((x1%100000000)%10000)%100)*2)+1)))).set (o+(aA-2).toNat*1) (.int .u8 (ac bh ((((x1%100000000)%10000)%100)*2)))).set (o+(aA-3).toNat*1) (.int .u8 (ac bh (((((x1%100000000)%10000) / 100)*2)+1)))).set (o+(aA-4).toNat*1) (.int .u8 (ac bh ((((x1%100000000)%10000) / 100)*2)))).set (o+(aA-5).toNat*1) (.int .u8 (ac bh (((((x1%100000000) / 10000)%100)*2)+1)))) te false):=⟨_,rfl⟩
  have cG:aa E G db:=bS▸bz.set _ D D
  have gk:db.n=bF.n+0:=by rw [bS,U.cB] <;> rfl
  have oG:=bC bS
  obtain ⟨dW,dO⟩:∃ ao,ao=db.set q (.cells ((((((xs.set (o+(aA-1).toNat*1) (.int .u8 (ac bh (((((x1%100000000)%10000)%100)*2)+1)))).set (o+(aA-2).toNat*1) (.int .u8 (ac bh ((((x1%100000000)%10000)%100)*2)))).set (o+(aA-3).toNat*1) (.int .u8 (ac bh (((((x1%100000000)%10000) / 100)*2)+1)))).set (o+(aA-4).toNat*1) (.int .u8 (ac bh ((((x1%100000000)%10000) / 100)*2)))).set (o+(aA-5).toNat*1) (.int .u8 (ac bh (((((x1%100000000) / 10000)%100)*2)+1)))).set (o+(aA-6).toNat*1) (.int .u8 (ac bh ((((x1%100000000) / 10000)%100)*2)))) te false):=⟨_,rfl⟩
  have ea:aa E G dW:=dO▸cG.set _ D D
  have lC:dW.n=db.n+0:=by rw [dO,U.cB] <;> rfl
  have rK:=bC dO
  have aik:((.int .u32 (IntKind.u32.wrap (((((x1%100000000) / 10000) / 100)*2)+1))):Value)=(.int .u32 (((((x1%100000000) / 10000) / 100)*2)+1)):=(by rw [kh D D])
  obtain ⟨im,g8⟩:∃ ao,ao=dW.set q (.cells (((((((xs.set (o+(aA-1).toNat*1) (.int .u8 (ac bh (((((x1%100000000)%10000)%100)*2)+1)))).set (o+(aA-2).toNat*1) (.int .u8 (ac bh ((((x1%100000000)%10000)%100)*2)))).set (o+(aA-3).toNat*1) (.int .u8 (ac bh (((((x1%100000000)%10000) / 100)*2)+1)))).set (o+(aA-4).toNat*1) (.int .u8 (ac bh ((((x1%100000000)%10000) / 100)*2)))).set (o+(aA-5).toNat*1) (.int .u8 (ac bh (((((x1%100000000) / 10000)%100)*2)+1)))).set (o+(aA-6).toNat*1) (.int .u8 (ac bh ((((x1%100000000) / 10000)%100)*2)))).set (o+(aA-7).toNat*1) (.int .u8 (ac bh (((((x1%100000000) / 10000) / 100)*2)+1)))) te false):=⟨_,rfl⟩
  have gC:aa E G im:=g8▸ea.set _ D D
  have qh:im.n=dW.n+0:=by rw [g8,U.cB] <;> rfl
  have xK:=bC g8
  obtain ⟨tz,tI⟩:∃ ao,ao=im.set q (.cells ((((((((xs.set (o+(aA-1).toNat*1) (.int .u8 (ac bh (((((x1%100000000)%10000)%100)*2)+1)))).set (o+(aA-2).toNat*1) (.int .u8 (ac bh ((((x1%100000000)%10000)%100)*2)))).set (o+(aA-3).toNat*1) (.int .u8 (ac bh (((((x1%100000000)%10000) / 100)*2)+1)))).set (o+(aA-4).toNat*1) (.int .u8 (ac bh ((((x1%100000000)%10000) / 100)*2)))).set (o+(aA-5).toNat*1) (.int .u8 (ac bh (((((x1%100000000) / 10000)%100)*2)+1)))).set (o+(aA-6).toNat*1) (.int .u8 (ac bh ((((x1%100000000) / 10000)%100)*2)))).set (o+(aA-7).toNat*1) (.int .u8 (ac bh (((((x1%100000000) / 10000) / 100)*2)+1)))).set (o+(aA-8).toNat*1) (.int .u8 (ac bh ((((x1%100000000) / 10000) / 100)*2)))) te false):=⟨_,rfl⟩
  have kY:aa E G tz:=tI▸gC.set _ D D
  have z4:tz.n=im.n+0:=by rw [tI,U.cB] <;> rfl
  have Kg:=bC tI
  exact aK [aB 0]<|aj [.as (ax (x1%100000000))] w1<|aj [.as (.int .u32 (x1%100000000))] w2<|aK [aB 1]<|aj [.as (ax (x1 / 100000000))] w3<|aK [aB 1]<|aj [.as (.int .u32 ((x1%100000000) / 10000))] eo<|aK [aB 0]<|aj [.as (.int .u32 ((x1%100000000)%10000))] iE<|aK [aB 2]<|aj [.as (.int .u32 (((x1%100000000)%10000) / 100))] lH<|aj [.as (.int .u32 ((((x1%100000000)%10000) / 100)*2))] tn<|aK [aB 0]<|aj [.as (.int .u32 (((x1%100000000)%10000)%100))] DI<|aj [.as (.int .u32 ((((x1%100000000)%10000)%100)*2))] DJ<|aK [aB 2]<|aj [.as (.int .u32 (((x1%100000000) / 10000) / 100))] yn<|aj [.as (.int .u32 ((((x1%100000000) / 10000) / 100)*2))] DH<|aK [aB 0]<|aj [.as (.int .u32 (((x1%100000000) / 10000)%100))] MT<|aj [.as (.int .u32 ((((x1%100000000) / 10000)%100)*2))] MU<|aK [aB 1]<|Hi [] (aT:q<H.n∨H.n≤q) (aT:q<H.n∨H.n≤q) (aT:q<H.n∨H.n≤q) (aT:q<H.n∨H.n≤q) (aT:q<H.n∨H.n≤q)<|ap 2 (aA-1)<|ap 2 (aA-2)<|aK [aB 0]<|aj [.as (.int .u32 (((((x1%100000000)%10000)%100)*2)+1))] MV<|eM [.ak] (show (0:Int)≤(((((x1%100000000)%10000)%100)*2)+1) from by omega) (show (((((x1%100000000)%10000)%100)*2)+1)<(bh.size:Int) from by rw [nW];omega)<|aK [aB 0]<|eM [.ak] (show (0:Int)≤((((x1%100000000)%10000)%100)*2) from by omega) (show ((((x1%100000000)%10000)%100)*2)<(bh.size:Int) from by rw [nW];omega)<|bR 0 (aA-1) (d:Int)<|aC 0 ((kF hu aX D).trans (congrArg some e1.symm):bp E 5 q (o+(aA-1).toNat*1) (ab (ac bh (((((x1%100000000)%10000)%100)*2)+1))) H=some aS)<|aj [] (cU y aX:bZ H aS [q]=true)<|bR 0 (aA-2) (d:Int)<|aC 0 ((kF (bq.set hu (o+(aA-1).toNat*1) (ac bh (((((x1%100000000)%10000)%100)*2)+1))) cE D).trans (congrArg some e2.symm):bp E 5 q (o+(aA-2).toNat*1) (ab (ac bh ((((x1%100000000)%10000)%100)*2))) aS=some aF)<|gT [] (cU y1 cE:bZ aS aF [q]=true) (aT:q<aF.n∨aF.n≤q) (aT:q<aF.n∨aF.n≤q) (aT:q<aF.n∨aF.n≤q) (aT:q<aF.n∨aF.n≤q) (aT:q<aF.n∨aF.n≤q)<|ap 2 (aA-3)<|ap 2 (aA-4)<|aK [aB 0]<|aj [.as (.int .u32 (((((x1%100000000)%10000) / 100)*2)+1))] MW<|eM [.ak] (show (0:Int)≤(((((x1%100000000)%10000) / 100)*2)+1) from by omega) (show (((((x1%100000000)%10000) / 100)*2)+1)<(bh.size:Int) from by rw [nW];omega)<|aK [aB 0]<|eM [.ak] (show (0:Int)≤((((x1%100000000)%10000) / 100)*2) from by omega) (show ((((x1%100000000)%10000) / 100)*2)<(bh.size:Int) from by rw [nW];omega)<|bR 0 (aA-3) (d:Int)<|aC 0 ((kF (bq.set (bq.set hu (o+(aA-1).toNat*1) (ac bh (((((x1%100000000)%10000)%100)*2)+1))) (o+(aA-2).toNat*1) (ac bh ((((x1%100000000)%10000)%100)*2))) dQ D).trans (congrArg some aM.symm):bp E 5 q (o+(aA-3).toNat*1) (ab (ac bh (((((x1%100000000)%10000) / 100)*2)+1))) aF=some bk)<|aj [] (cU ah dQ:bZ aF bk [q]=true)<|bR 0 (aA-4) (d:Int)<|aC 0 ((kF (bq.set (bq.set (bq.set hu (o+(aA-1).toNat*1) (ac bh (((((x1%100000000)%10000)%100)*2)+1))) (o+(aA-2).toNat*1) (ac bh ((((x1%100000000)%10000)%100)*2))) (o+(aA-3).toNat*1) (ac bh (((((x1%100000000)%10000) / 100)*2)+1))) fr D).trans (congrArg some aG.symm):bp E 5 q (o+(aA-4).toNat*1) (ab (ac bh ((((x1%100000000)%10000) / 100)*2))) bk=some bF)<|gT [] (cU az fr:bZ bk bF [q]=true) (aT:q<bF.n∨bF.n≤q) (aT:q<bF.n∨bF.n≤q) (aT:q<bF.n∨bF.n≤q) (aT:q<bF.n∨bF.n≤q) (aT:q<bF.n∨bF.n≤q)<|ap 2 (aA-5)<|ap 2 (aA-6)<|aK [aB 0]<|aj [.as (.int .u32 (((((x1%100000000) / 10000)%100)*2)+1))] aij<|eM [.ak] (show (0:Int)≤(((((x1%100000000) / 10000)%100)*2)+1) from by omega) (show (((((x1%100000000) / 10000)%100)*2)+1)<(bh.size:Int) from by rw [nW];omega)<|aK [aB 0]<|eM [.ak] (show (0:Int)≤((((x1%100000000) / 10000)%100)*2) from by omega) (show ((((x1%100000000) / 10000)%100)*2)<(bh.size:Int) from by rw [nW];omega)<|bR 0 (aA-5) (d:Int)<|aC 0 ((kF (bq.set (bq.set (bq.set (bq.set hu (o+(aA-1).toNat*1) (ac bh (((((x1%100000000)%10000)%100)*2)+1))) (o+(aA-2).toNat*1) (ac bh ((((x1%100000000)%10000)%100)*2))) (o+(aA-3).toNat*1) (ac bh (((((x1%100000000)%10000) / 100)*2)+1))) (o+(aA-4).toNat*1) (ac bh ((((x1%100000000)%10000) / 100)*2))) kA D).trans (congrArg some bS.symm):bp E 5 q (o+(aA-5).toNat*1) (ab (ac bh (((((x1%100000000) / 10000)%100)*2)+1))) bF=some db)<|aj [] (cU bz kA:bZ bF db [q]=true)<|bR 0 (aA-6) (d:Int)<|aC 0 ((kF (bq.set (bq.set (bq.set (bq.set (bq.set hu (o+(aA-1).toNat*1) (ac bh (((((x1%100000000)%10000)%100)*2)+1))) (o+(aA-2).toNat*1) (ac bh ((((x1%100000000)%10000)%100)*2))) (o+(aA-3).toNat*1) (ac bh (((((x1%100000000)%10000) / 100)*2)+1))) (o+(aA-4).toNat*1) (ac bh ((((x1%100000000)%10000) / 100)*2))) (o+(aA-5).toNat*1) (ac bh (((((x1%100000000) / 10000)%100)*2)+1))) oG D).trans (congrArg some dO.symm):bp E 5 q (o+(aA-6).toNat*1) (ab (ac bh ((((x1%100000000) / 10000)%100)*2))) db=some dW)<|gT [] (cU cG oG:bZ db dW [q]=true) (aT:q<dW.n∨dW.n≤q) (aT:q<dW.n∨dW.n≤q) (aT:q<dW.n∨dW.n≤q) (aT:q<dW.n∨dW.n≤q) (aT:q<dW.n∨dW.n≤q)<|ap 2 (aA-7)<|ap 2 (aA-8)<|aK [aB 0]<|aj [.as (.int .u32 (((((x1%100000000) / 10000) / 100)*2)+1))] aik<|eM [.ak] (show (0:Int)≤(((((x1%100000000) / 10000) / 100)*2)+1) from by omega) (show (((((x1%100000000) / 10000) / 100)*2)+1)<(bh.size:Int) from by rw [nW];omega)<|aK [aB 0]<|eM [.ak] (show (0:Int)≤((((x1%100000000) / 10000) / 100)*2) from by omega) (show ((((x1%100000000) / 10000) / 100)*2)<(bh.size:Int) from by rw [nW];omega)<|bR 0 (aA-7) (d:Int)<|aC 0 ((kF (bq.set (bq.set (bq.set (bq.set (bq.set (bq.set hu (o+(aA-1).toNat*1) (ac bh (((((x1%100000000)%10000)%100)*2)+1))) (o+(aA-2).toNat*1) (ac bh ((((x1%100000000)%10000)%100)*2))) (o+(aA-3).toNat*1) (ac bh (((((x1%100000000)%10000) / 100)*2)+1))) (o+(aA-4).toNat*1) (ac bh ((((x1%100000000)%10000) / 100)*2))) (o+(aA-5).toNat*1) (ac bh (((((x1%100000000) / 10000)%100)*2)+1))) (o+(aA-6).toNat*1) (ac bh ((((x1%100000000) / 10000)%100)*2))) rK D).trans (congrArg some g8.symm):bp E 5 q (o+(aA-7).toNat*1) (ab (ac bh (((((x1%100000000) / 10000) / 100)*2)+1))) dW=some im)<|aj [] (cU ea rK:bZ dW im [q]=true)<|bR 0 (aA-8) (d:Int)<|aC 0 ((kF (bq.set (bq.set (bq.set (bq.set (bq.set (bq.set (bq.set hu (o+(aA-1).toNat*1) (ac bh (((((x1%100000000)%10000)%100)*2)+1))) (o+(aA-2).toNat*1) (ac bh ((((x1%100000000)%10000)%100)*2))) (o+(aA-3).toNat*1) (ac bh (((((x1%100000000)%10000) / 100)*2)+1))) (o+(aA-4).toNat*1) (ac bh ((((x1%100000000)%10000) / 100)*2))) (o+(aA-5).toNat*1) (ac bh (((((x1%100000000) / 10000)%100)*2)+1))) (o+(aA-6).toNat*1) (ac bh ((((x1%100000000) / 10000)%100)*2))) (o+(aA-7).toNat*1) (ac bh (((((x1%100000000) / 10000) / 100)*2)+1))) xK D).trans (congrArg some tI.symm):bp E 5 q (o+(aA-8).toNat*1) (ab (ac bh ((((x1%100000000) / 10000) / 100)*2))) im=some tz)<|aj [] (cU gC xK:bZ im tz [q]=true)<|ap 1 (aA-8)<|dY 1 [(0,sc q o d c),(1,ax (x1 / 100000000)),(4,J (aA-8))] tz (Sy q) bD (ih _ D (x1 / 100000000) (aA-8) ((((((((xs.set (o+(aA-1).toNat*1) (.int .u8 (ac bh (((((x1%100000000)%10000)%100)*2)+1)))).set (o+(aA-2).toNat*1) (.int .u8 (ac bh ((((x1%100000000)%10000)%100)*2)))).set (o+(aA-3).toNat*1) (.int .u8 (ac bh (((((x1%100000000)%10000) / 100)*2)+1)))).set (o+(aA-4).toNat*1) (.int .u8 (ac bh ((((x1%100000000)%10000) / 100)*2)))).set (o+(aA-5).toNat*1) (.int .u8 (ac bh (((((x1%100000000) / 10000)%100)*2)+1)))).set (o+(aA-6).toNat*1) (.int .u8 (ac bh ((((x1%100000000) / 10000)%100)*2)))).set (o+(aA-7).toNat*1) (.int .u8 (ac bh (((((x1%100000000) / 10000) / 100)*2)+1)))).set (o+(aA-8).toNat*1) (.int .u8 (ac bh ((((x1%100000000) / 10000) / 100)*2)))) _ kY Kg (bq.set (bq.set (bq.set (bq.set (bq.set (bq.set (bq.set (bq.set hu (o+(aA-1).toNat*1) (ac bh (((((x1%100000000)%10000)%100)*2)+1))) (o+(aA-2).toNat*1) (ac bh ((((x1%100000000)%10000)%100)*2))) (o+(aA-3).toNat*1) (ac bh (((((x1%100000000)%10000) / 100)*2)+1))) (o+(aA-4).toNat*1) (ac bh ((((x1%100000000)%10000) / 100)*2))) (o+(aA-5).toNat*1) (ac bh (((((x1%100000000) / 10000)%100)*2)+1))) (o+(aA-6).toNat*1) (ac bh ((((x1%100000000) / 10000)%100)*2))) (o+(aA-7).toNat*1) (ac bh (((((x1%100000000) / 10000) / 100)*2)+1))) (o+(aA-8).toNat*1) (ac bh ((((x1%100000000) / 10000) / 100)*2))) ho hd aY D D D D rfl)
 exact en 0 [(0,sc q o d c),(1,ax x1),(4,J aA)] (.exit 0) H [] aZ bi ⟨rfl,x1,aA,xs,rfl,⟨aX,hu,D,D,D,D,D⟩⟩
theorem Bu (q o d c n te:Nat) (xs:List Value) (x:Int) {H:U} (y:aa E G H) (aX:H.get q=some (.cells xs te false)) (hu:bq xs n) (ho:o+d≤n) (hd:d<100000) (aY:G.n≤q) (pQ:0≤x) (u1:x<18446744073709551616):aI E G 114 [sc q o d c,ax x] H [q] (fun v H'=>v=cZ∧∃ zs,H'.get q=some (.cells zs te false)∧bq zs n):=by
 refine br Tryz.f114 y ?_
 have iX:=y.wf.lt aX
 obtain ⟨_,_,H1,c1,af,y1,rfl,Ub,ck,mu,rfl,pJ,jf,cM,lE,Ax,S0,S1⟩:=(X3 q o d c n te _ x (d:Int) xs _ y aX hu ho hd aY D D D D rfl).code
 have cI:H.n+0≤H1.n:=af.n
 obtain ⟨bc,oD,q7,uN⟩:=DN Ub
 have w1:((.int .u32 (IntKind.u32.wrap Ub)):Value)=(.int .u32 bc):=(by rw [oD])
 refine bW 3 c1<|aK [aB 0]<|aj [.as (.int .u32 bc)] w1<|aO 2 (ck≥4) ?_ ?_ <;> intro h1 q1
 ·have w2:((.int .u32 (Int.tmod bc 10000)):Value)=(.int .u32 (bc%10000)):=(by rw [jR (x:=bc) D])
  have w3:((.int .u32 (IntKind.u32.wrap (Int.tdiv bc 10000))):Value)=(.int .u32 (bc / 10000)):=(by rw [kE (x:=bc) D,kh D D])
  have eo:((.int .u32 (IntKind.u32.wrap (Int.tdiv (bc%10000) 100))):Value)=(.int .u32 ((bc%10000) / 100)):=(by rw [kE (x:=(bc%10000)) D,kh D D])
  have iE:((.int .u32 (IntKind.u32.wrap (((bc%10000) / 100)*2))):Value)=(.int .u32 (((bc%10000) / 100)*2)):=(by rw [kh D D])
  have lH:((.int .u32 (Int.tmod (bc%10000) 100)):Value)=(.int .u32 ((bc%10000)%100)):=(by rw [jR (x:=(bc%10000)) D])
  have tn:((.int .u32 (IntKind.u32.wrap (((bc%10000)%100)*2))):Value)=(.int .u32 (((bc%10000)%100)*2)):=(by rw [kh D D])
  have DI:((.int .u32 (IntKind.u32.wrap ((((bc%10000)%100)*2)+1))):Value)=(.int .u32 ((((bc%10000)%100)*2)+1)):=(by rw [kh D D])
  obtain ⟨aF,e2⟩:∃ ao,ao=H1.set q (.cells (mu.set (o+(ck-1).toNat*1) (.int .u8 (ac bh ((((bc%10000)%100)*2)+1)))) te false):=⟨_,rfl⟩
  have ah:aa E G aF:=e2▸y1.set _ D D
  have cl:aF.n=H1.n+0:=by rw [e2,U.cB] <;> rfl
  have dQ:=bC e2
  obtain ⟨bk,aM⟩:∃ ao,ao=aF.set q (.cells ((mu.set (o+(ck-1).toNat*1) (.int .u8 (ac bh ((((bc%10000)%100)*2)+1)))).set (o+(ck-2).toNat*1) (.int .u8 (ac bh (((bc%10000)%100)*2)))) te false):=⟨_,rfl⟩
  have az:aa E G bk:=aM▸ah.set _ D D
  have dD:bk.n=aF.n+0:=by rw [aM,U.cB] <;> rfl
  have fr:=bC aM
  have DJ:((.int .u32 (IntKind.u32.wrap ((((bc%10000) / 100)*2)+1))):Value)=(.int .u32 ((((bc%10000) / 100)*2)+1)):=(by rw [kh D D])
  obtain ⟨bF,aG⟩:∃ ao,ao=bk.set q (.cells (((mu.set (o+(ck-1).toNat*1) (.int .u8 (ac bh ((((bc%10000)%100)*2)+1)))).set (o+(ck-2).toNat*1) (.int .u8 (ac bh (((bc%10000)%100)*2)))).set (o+(ck-3).toNat*1) (.int .u8 (ac bh ((((bc%10000) / 100)*2)+1)))) te false):=⟨_,rfl⟩
  have bz:aa E G bF:=aG▸az.set _ D D
  have fB:bF.n=bk.n+0:=by rw [aG,U.cB] <;> rfl
  have kA:=bC aG
  obtain ⟨db,bS⟩:∃ ao,ao=bF.set q (.cells ((((mu.set (o+(ck-1).toNat*1) (.int .u8 (ac bh ((((bc%10000)%100)*2)+1)))).set (o+(ck-2).toNat*1) (.int .u8 (ac bh (((bc%10000)%100)*2)))).set (o+(ck-3).toNat*1) (.int .u8 (ac bh ((((bc%10000) / 100)*2)+1)))).set (o+(ck-4).toNat*1) (.int .u8 (ac bh (((bc%10000) / 100)*2)))) te false):=⟨_,rfl⟩
  have cG:aa E G db:=bS▸bz.set _ D D
  have gk:db.n=bF.n+0:=by rw [bS,U.cB] <;> rfl
  have oG:=bC bS
  refine aK [aB 0]<|aj [.as (.int .u32 (bc%10000))] w2<|aK [aB 1]<|aj [.as (.int .u32 (bc / 10000))] w3<|aK [aB 1]<|aj [.as (.int .u32 ((bc%10000) / 100))] eo<|aj [.as (.int .u32 (((bc%10000) / 100)*2))] iE<|aK [aB 0]<|aj [.as (.int .u32 ((bc%10000)%100))] lH<|aj [.as (.int .u32 (((bc%10000)%100)*2))] tn<|aK [aB 1]<|Hi [] (aT:q<H1.n∨H1.n≤q) (aT:q<H1.n∨H1.n≤q) (aT:q<H1.n∨H1.n≤q) (aT:q<H1.n∨H1.n≤q) (aT:q<H1.n∨H1.n≤q)<|ap 2 (ck-1)<|ap 2 (ck-2)<|aK [aB 0]<|aj [.as (.int .u32 ((((bc%10000)%100)*2)+1))] DI<|eM [.ak] (show (0:Int)≤((((bc%10000)%100)*2)+1) from by omega) (show ((((bc%10000)%100)*2)+1)<(bh.size:Int) from by rw [nW];omega)<|aK [aB 0]<|eM [.ak] (show (0:Int)≤(((bc%10000)%100)*2) from by omega) (show (((bc%10000)%100)*2)<(bh.size:Int) from by rw [nW];omega)<|bR 0 (ck-1) (d:Int)<|aC 0 ((kF jf pJ D).trans (congrArg some e2.symm):bp E 5 q (o+(ck-1).toNat*1) (ab (ac bh ((((bc%10000)%100)*2)+1))) H1=some aF)<|aj [] (cU y1 pJ:bZ H1 aF [q]=true)<|bR 0 (ck-2) (d:Int)<|aC 0 ((kF (bq.set jf (o+(ck-1).toNat*1) (ac bh ((((bc%10000)%100)*2)+1))) dQ D).trans (congrArg some aM.symm):bp E 5 q (o+(ck-2).toNat*1) (ab (ac bh (((bc%10000)%100)*2))) aF=some bk)<|gT [] (cU ah dQ:bZ aF bk [q]=true) (aT:q<bk.n∨bk.n≤q) (aT:q<bk.n∨bk.n≤q) (aT:q<bk.n∨bk.n≤q) (aT:q<bk.n∨bk.n≤q) (aT:q<bk.n∨bk.n≤q)<|ap 2 (ck-3)<|ap 2 (ck-4)<|aK [aB 0]<|aj [.as (.int .u32 ((((bc%10000) / 100)*2)+1))] DJ<|eM [.ak] (show (0:Int)≤((((bc%10000) / 100)*2)+1) from by omega) (show ((((bc%10000) / 100)*2)+1)<(bh.size:Int) from by rw [nW];omega)<|aK [aB 0]<|eM [.ak] (show (0:Int)≤(((bc%10000) / 100)*2) from by omega) (show (((bc%10000) / 100)*2)<(bh.size:Int) from by rw [nW];omega)<|bR 0 (ck-3) (d:Int)<|aC 0 ((kF (bq.set (bq.set jf (o+(ck-1).toNat*1) (ac bh ((((bc%10000)%100)*2)+1))) (o+(ck-2).toNat*1) (ac bh (((bc%10000)%100)*2))) fr D).trans (congrArg some aG.symm):bp E 5 q (o+(ck-3).toNat*1) (ab (ac bh ((((bc%10000) / 100)*2)+1))) bk=some bF)<|aj [] (cU az fr:bZ bk bF [q]=true)<|bR 0 (ck-4) (d:Int)<|aC 0 ((kF (bq.set (bq.set (bq.set jf (o+(ck-1).toNat*1) (ac bh ((((bc%10000)%100)*2)+1))) (o+(ck-2).toNat*1) (ac bh (((bc%10000)%100)*2))) (o+(ck-3).toNat*1) (ac bh ((((bc%10000) / 100)*2)+1))) kA D).trans (congrArg some bS.symm):bp E 5 q (o+(ck-4).toNat*1) (ab (ac bh (((bc%10000) / 100)*2))) bF=some db)<|aj [] (cU bz kA:bZ bF db [q]=true)<|ap 1 (ck-4)<|aO 2 ((ck-4)≥2) ?_ ?_ <;> intro h2 cw
  ·have yn:((.int .u32 (Int.tmod (bc / 10000) 100)):Value)=(.int .u32 ((bc / 10000)%100)):=(by rw [jR (x:=(bc / 10000)) D])
   have DH:((.int .u32 (IntKind.u32.wrap (((bc / 10000)%100)*2))):Value)=(.int .u32 (((bc / 10000)%100)*2)):=(by rw [kh D D])
   have MT:((.int .u32 (IntKind.u32.wrap (Int.tdiv (bc / 10000) 100))):Value)=(.int .u32 ((bc / 10000) / 100)):=(by rw [kE (x:=(bc / 10000)) D,kh D D])
   have MU:((.int .u32 (IntKind.u32.wrap ((((bc / 10000)%100)*2)+1))):Value)=(.int .u32 ((((bc / 10000)%100)*2)+1)):=(by rw [kh D D])
   obtain ⟨dW,dO⟩:∃ ao,ao=db.set q (.cells (((((mu.set (o+(ck-1).toNat*1) (.int .u8 (ac bh ((((bc%10000)%100)*2)+1)))).set (o+(ck-2).toNat*1) (.int .u8 (ac bh (((bc%10000)%100)*2)))).set (o+(ck-3).toNat*1) (.int .u8 (ac bh ((((bc%10000) / 100)*2)+1)))).set (o+(ck-4).toNat*1) (.int .u8 (ac bh (((bc%10000) / 100)*2)))).set (o+((ck-4)-1).toNat*1) (.int .u8 (ac bh ((((bc / 10000)%100)*2)+1)))) te false):=⟨_,rfl⟩
   have ea:aa E G dW:=dO▸cG.set _ D D
   have lC:dW.n=db.n+0:=by rw [dO,U.cB] <;> rfl
   have rK:=bC dO
   obtain ⟨im,g8⟩:∃ ao,ao=dW.set q (.cells ((((((mu.set (o+(ck-1).toNat*1) (.int .u8 (ac bh ((((bc%10000)%100)*2)+1)))).set (o+(ck-2).toNat*1) (.int .u8 (ac bh (((bc%10000)%100)*2)))).set (o+(ck-3).toNat*1) (.int .u8 (ac bh ((((bc%10000) / 100)*2)+1)))).set (o+(ck-4).toNat*1) (.int .u8 (ac bh (((bc%10000) / 100)*2)))).set (o+((ck-4)-1).toNat*1) (.int .u8 (ac bh ((((bc / 10000)%100)*2)+1)))).set (o+((ck-4)-2).toNat*1) (.int .u8 (ac bh (((bc / 10000)%100)*2)))) te false):=⟨_,rfl⟩
   have gC:aa E G im:=g8▸ea.set _ D D
   have qh:im.n=dW.n+0:=by rw [g8,U.cB] <;> rfl
   have xK:=bC g8
   refine aK [aB 0]<|aj [.as (.int .u32 ((bc / 10000)%100))] yn<|aj [.as (.int .u32 (((bc / 10000)%100)*2))] DH<|aK [aB 1]<|aj [.as (.int .u32 ((bc / 10000) / 100))] MT<|aK [aB 0]<|Hi [] (aT:q<db.n∨db.n≤q) (aT:q<db.n∨db.n≤q) (aT:q<db.n∨db.n≤q) (aT:q<db.n∨db.n≤q) (aT:q<db.n∨db.n≤q)<|ap 2 ((ck-4)-1)<|ap 2 ((ck-4)-2)<|aK [aB 0]<|aj [.as (.int .u32 ((((bc / 10000)%100)*2)+1))] MU<|eM [.ak] (show (0:Int)≤((((bc / 10000)%100)*2)+1) from by omega) (show ((((bc / 10000)%100)*2)+1)<(bh.size:Int) from by rw [nW];omega)<|aK [aB 0]<|eM [.ak] (show (0:Int)≤(((bc / 10000)%100)*2) from by omega) (show (((bc / 10000)%100)*2)<(bh.size:Int) from by rw [nW];omega)<|bR 0 ((ck-4)-1) (d:Int)<|aC 0 ((kF (bq.set (bq.set (bq.set (bq.set jf (o+(ck-1).toNat*1) (ac bh ((((bc%10000)%100)*2)+1))) (o+(ck-2).toNat*1) (ac bh (((bc%10000)%100)*2))) (o+(ck-3).toNat*1) (ac bh ((((bc%10000) / 100)*2)+1))) (o+(ck-4).toNat*1) (ac bh (((bc%10000) / 100)*2))) oG D).trans (congrArg some dO.symm):bp E 5 q (o+((ck-4)-1).toNat*1) (ab (ac bh ((((bc / 10000)%100)*2)+1))) db=some dW)<|aj [] (cU cG oG:bZ db dW [q]=true)<|bR 0 ((ck-4)-2) (d:Int)<|aC 0 ((kF (bq.set (bq.set (bq.set (bq.set (bq.set jf (o+(ck-1).toNat*1) (ac bh ((((bc%10000)%100)*2)+1))) (o+(ck-2).toNat*1) (ac bh (((bc%10000)%100)*2))) (o+(ck-3).toNat*1) (ac bh ((((bc%10000) / 100)*2)+1))) (o+(ck-4).toNat*1) (ac bh (((bc%10000) / 100)*2))) (o+((ck-4)-1).toNat*1) (ac bh ((((bc / 10000)%100)*2)+1))) rK D).trans (congrArg some g8.symm):bp E 5 q (o+((ck-4)-2).toNat*1) (ab (ac bh (((bc / 10000)%100)*2))) dW=some im)<|aj [] (cU ea rK:bZ dW im [q]=true)<|ap 1 ((ck-4)-2)<|aO 2 (((ck-4)-2)>0) ?_ ?_ <;> intro h3 dv
   ·obtain ⟨HP,ZX,alc,ali⟩:=DN (48+((bc / 10000) / 100))
    have MV:((.int .u32 (IntKind.u32.wrap (48+((bc / 10000) / 100)))):Value)=(.int .u32 HP):=(by rw [ZX])
    obtain ⟨DR,ZY,ald,alj⟩:=HN HP
    have MW:((ab (IntKind.u8.wrap HP)):Value)=(ab DR):=(by rw [ZY])
    obtain ⟨tz,tI⟩:∃ ao,ao=im.set q (.cells (((((((mu.set (o+(ck-1).toNat*1) (.int .u8 (ac bh ((((bc%10000)%100)*2)+1)))).set (o+(ck-2).toNat*1) (.int .u8 (ac bh (((bc%10000)%100)*2)))).set (o+(ck-3).toNat*1) (.int .u8 (ac bh ((((bc%10000) / 100)*2)+1)))).set (o+(ck-4).toNat*1) (.int .u8 (ac bh (((bc%10000) / 100)*2)))).set (o+((ck-4)-1).toNat*1) (.int .u8 (ac bh ((((bc / 10000)%100)*2)+1)))).set (o+((ck-4)-2).toNat*1) (.int .u8 (ac bh (((bc / 10000)%100)*2)))).set (o+(0:Int).toNat*1) (.int .u8 DR)) te false):=⟨_,rfl⟩
    have kY:aa E G tz:=tI▸gC.set _ D D
    have Kg:=bC tI
    exact aK [aB 1]<|aj [.as (.int .u32 HP)] MV<|aj [.as (ab DR)] MW<|bR 0 (0:Int) (d:Int)<|aC 0 ((kF (bq.set (bq.set (bq.set (bq.set (bq.set (bq.set jf (o+(ck-1).toNat*1) (ac bh ((((bc%10000)%100)*2)+1))) (o+(ck-2).toNat*1) (ac bh (((bc%10000)%100)*2))) (o+(ck-3).toNat*1) (ac bh ((((bc%10000) / 100)*2)+1))) (o+(ck-4).toNat*1) (ac bh (((bc%10000) / 100)*2))) (o+((ck-4)-1).toNat*1) (ac bh ((((bc / 10000)%100)*2)+1))) (o+((ck-4)-2).toNat*1) (ac bh (((bc / 10000)%100)*2))) xK D).trans (congrArg some tI.symm):bp E 5 q (o+(0:Int).toNat*1) (ab DR) im=some tz)<|aV 0 (.tuple #[]) tz (Sy q) bD bi ⟨rfl,_,Kg,bq.set (bq.set (bq.set (bq.set (bq.set (bq.set (bq.set jf (o+(ck-1).toNat*1) (ac bh ((((bc%10000)%100)*2)+1))) (o+(ck-2).toNat*1) (ac bh (((bc%10000)%100)*2))) (o+(ck-3).toNat*1) (ac bh ((((bc%10000) / 100)*2)+1))) (o+(ck-4).toNat*1) (ac bh (((bc%10000) / 100)*2))) (o+((ck-4)-1).toNat*1) (ac bh ((((bc / 10000)%100)*2)+1))) (o+((ck-4)-2).toNat*1) (ac bh (((bc / 10000)%100)*2))) (o+(0:Int).toNat*1) DR⟩
   exact aV 0 (.tuple #[]) im (af5 q) bD bi ⟨rfl,_,xK,bq.set (bq.set (bq.set (bq.set (bq.set (bq.set jf (o+(ck-1).toNat*1) (ac bh ((((bc%10000)%100)*2)+1))) (o+(ck-2).toNat*1) (ac bh (((bc%10000)%100)*2))) (o+(ck-3).toNat*1) (ac bh ((((bc%10000) / 100)*2)+1))) (o+(ck-4).toNat*1) (ac bh (((bc%10000) / 100)*2))) (o+((ck-4)-1).toNat*1) (ac bh ((((bc / 10000)%100)*2)+1))) (o+((ck-4)-2).toNat*1) (ac bh (((bc / 10000)%100)*2))⟩
  refine aO 1 ((ck-4)>0) ?_ ?_ <;> intro h3 dv
  ·obtain ⟨HO,ZV,ala,alg⟩:=DN (48+(bc / 10000))
   have yn:((.int .u32 (IntKind.u32.wrap (48+(bc / 10000)))):Value)=(.int .u32 HO):=(by rw [ZV])
   obtain ⟨DQ,ZW,alb,alh⟩:=HN HO
   have DH:((ab (IntKind.u8.wrap HO)):Value)=(ab DQ):=(by rw [ZW])
   obtain ⟨dW,dO⟩:∃ ao,ao=db.set q (.cells (((((mu.set (o+(ck-1).toNat*1) (.int .u8 (ac bh ((((bc%10000)%100)*2)+1)))).set (o+(ck-2).toNat*1) (.int .u8 (ac bh (((bc%10000)%100)*2)))).set (o+(ck-3).toNat*1) (.int .u8 (ac bh ((((bc%10000) / 100)*2)+1)))).set (o+(ck-4).toNat*1) (.int .u8 (ac bh (((bc%10000) / 100)*2)))).set (o+(0:Int).toNat*1) (.int .u8 DQ)) te false):=⟨_,rfl⟩
   have ea:aa E G dW:=dO▸cG.set _ D D
   have rK:=bC dO
   exact aK [aB 1]<|aj [.as (.int .u32 HO)] yn<|aj [.as (ab DQ)] DH<|bR 0 (0:Int) (d:Int)<|aC 0 ((kF (bq.set (bq.set (bq.set (bq.set jf (o+(ck-1).toNat*1) (ac bh ((((bc%10000)%100)*2)+1))) (o+(ck-2).toNat*1) (ac bh (((bc%10000)%100)*2))) (o+(ck-3).toNat*1) (ac bh ((((bc%10000) / 100)*2)+1))) (o+(ck-4).toNat*1) (ac bh (((bc%10000) / 100)*2))) oG D).trans (congrArg some dO.symm):bp E 5 q (o+(0:Int).toNat*1) (ab DQ) db=some dW)<|aV 0 (.tuple #[]) dW (af4 q) bD bi ⟨rfl,_,rK,bq.set (bq.set (bq.set (bq.set (bq.set jf (o+(ck-1).toNat*1) (ac bh ((((bc%10000)%100)*2)+1))) (o+(ck-2).toNat*1) (ac bh (((bc%10000)%100)*2))) (o+(ck-3).toNat*1) (ac bh ((((bc%10000) / 100)*2)+1))) (o+(ck-4).toNat*1) (ac bh (((bc%10000) / 100)*2))) (o+(0:Int).toNat*1) DQ⟩
  exact aV 0 (.tuple #[]) db (GW q) bD bi ⟨rfl,_,oG,bq.set (bq.set (bq.set (bq.set jf (o+(ck-1).toNat*1) (ac bh ((((bc%10000)%100)*2)+1))) (o+(ck-2).toNat*1) (ac bh (((bc%10000)%100)*2))) (o+(ck-3).toNat*1) (ac bh ((((bc%10000) / 100)*2)+1))) (o+(ck-4).toNat*1) (ac bh (((bc%10000) / 100)*2))⟩
 refine aO 1 (ck≥2) ?_ ?_ <;> intro h2 cw
 ·have w2:((.int .u32 (Int.tmod bc 100)):Value)=(.int .u32 (bc%100)):=(by rw [jR (x:=bc) D])
  have w3:((.int .u32 (IntKind.u32.wrap ((bc%100)*2))):Value)=(.int .u32 ((bc%100)*2)):=(by rw [kh D D])
  have eo:((.int .u32 (IntKind.u32.wrap (Int.tdiv bc 100))):Value)=(.int .u32 (bc / 100)):=(by rw [kE (x:=bc) D,kh D D])
  have iE:((.int .u32 (IntKind.u32.wrap (((bc%100)*2)+1))):Value)=(.int .u32 (((bc%100)*2)+1)):=(by rw [kh D D])
  obtain ⟨aF,e2⟩:∃ ao,ao=H1.set q (.cells (mu.set (o+(ck-1).toNat*1) (.int .u8 (ac bh (((bc%100)*2)+1)))) te false):=⟨_,rfl⟩
  have ah:aa E G aF:=e2▸y1.set _ D D
  have cl:aF.n=H1.n+0:=by rw [e2,U.cB] <;> rfl
  have dQ:=bC e2
  obtain ⟨bk,aM⟩:∃ ao,ao=aF.set q (.cells ((mu.set (o+(ck-1).toNat*1) (.int .u8 (ac bh (((bc%100)*2)+1)))).set (o+(ck-2).toNat*1) (.int .u8 (ac bh ((bc%100)*2)))) te false):=⟨_,rfl⟩
  have az:aa E G bk:=aM▸ah.set _ D D
  have dD:bk.n=aF.n+0:=by rw [aM,U.cB] <;> rfl
  have fr:=bC aM
  refine aK [aB 0]<|aj [.as (.int .u32 (bc%100))] w2<|aj [.as (.int .u32 ((bc%100)*2))] w3<|aK [aB 1]<|aj [.as (.int .u32 (bc / 100))] eo<|aK [aB 0]<|Hi [] (aT:q<H1.n∨H1.n≤q) (aT:q<H1.n∨H1.n≤q) (aT:q<H1.n∨H1.n≤q) (aT:q<H1.n∨H1.n≤q) (aT:q<H1.n∨H1.n≤q)<|ap 2 (ck-1)<|ap 2 (ck-2)<|aK [aB 0]<|aj [.as (.int .u32 (((bc%100)*2)+1))] iE<|eM [.ak] (show (0:Int)≤(((bc%100)*2)+1) from by omega) (show (((bc%100)*2)+1)<(bh.size:Int) from by rw [nW];omega)<|aK [aB 0]<|eM [.ak] (show (0:Int)≤((bc%100)*2) from by omega) (show ((bc%100)*2)<(bh.size:Int) from by rw [nW];omega)<|bR 0 (ck-1) (d:Int)<|aC 0 ((kF jf pJ D).trans (congrArg some e2.symm):bp E 5 q (o+(ck-1).toNat*1) (ab (ac bh (((bc%100)*2)+1))) H1=some aF)<|aj [] (cU y1 pJ:bZ H1 aF [q]=true)<|bR 0 (ck-2) (d:Int)<|aC 0 ((kF (bq.set jf (o+(ck-1).toNat*1) (ac bh (((bc%100)*2)+1))) dQ D).trans (congrArg some aM.symm):bp E 5 q (o+(ck-2).toNat*1) (ab (ac bh ((bc%100)*2))) aF=some bk)<|aj [] (cU ah dQ:bZ aF bk [q]=true)<|ap 1 (ck-2)<|aO 2 ((ck-2)>0) ?_ ?_ <;> intro h3 dv
  ·obtain ⟨ij,oE,yo,yq⟩:=DN (48+(bc / 100))
   have lH:((.int .u32 (IntKind.u32.wrap (48+(bc / 100)))):Value)=(.int .u32 ij):=(by rw [oE])
   obtain ⟨DP,ZU,ak9,alf⟩:=HN ij
   have tn:((ab (IntKind.u8.wrap ij)):Value)=(ab DP):=(by rw [ZU])
   obtain ⟨bF,aG⟩:∃ ao,ao=bk.set q (.cells (((mu.set (o+(ck-1).toNat*1) (.int .u8 (ac bh (((bc%100)*2)+1)))).set (o+(ck-2).toNat*1) (.int .u8 (ac bh ((bc%100)*2)))).set (o+(0:Int).toNat*1) (.int .u8 DP)) te false):=⟨_,rfl⟩
   have bz:aa E G bF:=aG▸az.set _ D D
   have kA:=bC aG
   exact aK [aB 1]<|aj [.as (.int .u32 ij)] lH<|aj [.as (ab DP)] tn<|bR 0 (0:Int) (d:Int)<|aC 0 ((kF (bq.set (bq.set jf (o+(ck-1).toNat*1) (ac bh (((bc%100)*2)+1))) (o+(ck-2).toNat*1) (ac bh ((bc%100)*2))) fr D).trans (congrArg some aG.symm):bp E 5 q (o+(0:Int).toNat*1) (ab DP) bk=some bF)<|aV 0 (.tuple #[]) bF (Sx q) bD bi ⟨rfl,_,kA,bq.set (bq.set (bq.set jf (o+(ck-1).toNat*1) (ac bh (((bc%100)*2)+1))) (o+(ck-2).toNat*1) (ac bh ((bc%100)*2))) (o+(0:Int).toNat*1) DP⟩
  exact aV 0 (.tuple #[]) bk [q,q,q] bD bi ⟨rfl,_,fr,bq.set (bq.set jf (o+(ck-1).toNat*1) (ac bh (((bc%100)*2)+1))) (o+(ck-2).toNat*1) (ac bh ((bc%100)*2))⟩
 refine aO 1 (ck>0) ?_ ?_ <;> intro h3 dv
 ·obtain ⟨fi,lZ,uL,tp⟩:=DN (48+bc)
  have w2:((.int .u32 (IntKind.u32.wrap (48+bc))):Value)=(.int .u32 fi):=(by rw [lZ])
  obtain ⟨DO,ZT,ak8,ale⟩:=HN fi
  have w3:((ab (IntKind.u8.wrap fi)):Value)=(ab DO):=(by rw [ZT])
  obtain ⟨aF,e2⟩:∃ ao,ao=H1.set q (.cells (mu.set (o+(0:Int).toNat*1) (.int .u8 DO)) te false):=⟨_,rfl⟩
  have ah:aa E G aF:=e2▸y1.set _ D D
  have dQ:=bC e2
  exact aK [aB 1]<|aj [.as (.int .u32 fi)] w2<|aj [.as (ab DO)] w3<|bR 0 (0:Int) (d:Int)<|aC 0 ((kF jf pJ D).trans (congrArg some e2.symm):bp E 5 q (o+(0:Int).toNat*1) (ab DO) H1=some aF)<|aV 0 (.tuple #[]) aF [q,q] bD bi ⟨rfl,_,dQ,bq.set jf (o+(0:Int).toNat*1) DO⟩
 exact aV 0 (.tuple #[]) H1 [q] bD bi ⟨rfl,_,pJ,jf⟩
theorem bq.rep (n:Nat):bq (List.replicate n (.int .u8 0)) n:=⟨List.length_replicate,fun v hv=>⟨0,(List.mem_replicate.1 hv).2⟩⟩
theorem TT:∀{l:List Value},(∀ v∈l,∃ k:Int,v=.int .u8 k)→∃ bs,m6 l=some bs∧bs.length=l.length
 |[],_=>⟨[],rfl,rfl⟩
 |v::l,h=>by
  obtain ⟨k,rfl⟩:=h v (List.mem_cons_self ..)
  obtain ⟨bs,e,hl⟩:=TT (l:=l) fun w hw=>h w (List.mem_cons_of_mem _ hw)
  exact ⟨UInt8.ofNat k.toNat::bs,by simp only [m6,e],by rw [cj,cj,hl]⟩
theorem zk {q o d c n:Nat} {xs:List Value} {H:U} (h:bq xs n) {te:Nat} (aX:H.get q=some (.cells xs te false)) (ho:o+d≤n):∃ t:ByteArray,lO E 42 9 (sc q o d c) H=some (.string t,H,[],[q])∧t.size=d:=by
 have h1:E.ul 42=some (.slice 5):=by kernel_rfl
 have h2:E.ul 9=some .string:=by kernel_rfl
 have h3:E.ul 5=some (.int .u8):=by kernel_rfl
 have hr:=GV (off:=o) (n:=d) aX (by have:=h.len;omega)
 obtain ⟨bs,hb,hl⟩:=TT (l:=(xs.drop o).take d) fun v hv=>h.u v (List.mem_of_mem_drop (List.mem_of_mem_take hv))
 refine ⟨⟨bs.toArray⟩,?_,?_⟩
 ·simp only [lO,sc,h1,h2,h3,hr,hb]
 ·show bs.toArray.size=d
  rw [List.size_toArray,hl,List.length_take,List.length_drop,h.len]
  omega
theorem AA {b:Nat} {hi:Int} (h0:1≤hi) (h1:hi≤24):ge E 170 (pt b 0) (some (J 1)) (some (J hi)) none=some (sc b 1 (hi.toNat-1) 47):=by
 have hu:E.ul 170=some (.array 24 5):=by kernel_rfl
 have hs:E.size 5=some 1:=wD
 have d1:(decide (0≤hi)&&decide (hi≤((24:Nat):Int)))=true:=by rw [decide_eq_true D,decide_eq_true D];rfl
 have d2:(decide ((0:Int)≤1)&&decide ((1:Int)≤(hi.toNat:Int)))=true:=by rw [decide_eq_true D,decide_eq_true D];rfl
 simp only [ge,pt,hu,hs,nR,ju,qp,d1,cond_true,d2,Option.isSome_none,Bool.false_and,cond_false]
 rfl
theorem Tb {b:Nat} {hi:Int} (h0:0≤hi) (h1:hi≤24):ge E 170 (pt b 0) none (some (J hi)) none=some (sc b 0 hi.toNat 49):=by
 have hu:E.ul 170=some (.array 24 5):=by kernel_rfl
 have hs:E.size 5=some 1:=wD
 have d1:(decide (0≤hi)&&decide (hi≤((24:Nat):Int)))=true:=by rw [decide_eq_true D,decide_eq_true D];rfl
 simp only [ge,pt,hu,hs,nR,ju,qp,d1,cond_true,Option.isSome_none,Bool.false_and,cond_false]
 rfl
theorem r7 (x:Int):0≤IntKind.u64.wrap x∧IntKind.u64.wrap x<18446744073709551616:=by
 unfold IntKind.wrap
 simp only [IntKind.bits,IntKind.signed,Bool.false_and]
 simp only [Bool.false_eq_true,if_false]
 omega
theorem kH (x:Int):∃ w:Int,IntKind.u64.wrap x=w∧0≤w∧w<18446744073709551616:=⟨_,rfl,r7 x⟩
abbrev IT:ByteArray:=⟨#[48,49,50,51,52,53,54,55,56,57,97,98,99,100,101,102,103,104,105,106,107,108,109,110,111,112,113,114,115,116,117,118,119,120,121,122]⟩
theorem XD:IT.size=36:=av
abbrev IS:ByteArray:=⟨#[48,48,48,49,48,50,48,51,48,52,48,53,48,54,48,55,48,56,48,57,49,48,49,49,49,50,49,51,49,52,49,53,49,54,49,55,49,56,49,57,50,48,50,49,50,50,50,51,50,52,50,53,50,54,50,55,50,56,50,57,51,48,51,49,51,50,51,51,51,52,51,53,51,54,51,55,51,56,51,57,52,48,52,49,52,50,52,51,52,52,52,53,52,54,52,55,52,56,52,57,53,48,53,49,53,50,53,51,53,52,53,53,53,54,53,55,53,56,53,57,54,48,54,49,54,50,54,51,54,52,54,53,54,54,54,55,54,56,54,57,55,48,55,49,55,50,55,51,55,52,55,53,55,54,55,55,55,56,55,57,56,48,56,49,56,50,56,51,56,52,56,53,56,54,56,55,56,56,56,57,57,48,57,49,57,50,57,51,57,52,57,53,57,54,57,55,57,56,57,57]⟩
theorem XC:IS.size=200:=av
theorem agU (x:Int) {H:U} (y:aa E G H) (h0:0≤x) (h1:x<100):aI E G 112 [J x] H [] (fun v H'=>∃ t:ByteArray,v=.string t∧t.size≤2):=by
 refine br Tryz.f112 y ?_
 refine aO 2 (x<10) ?_ ?_ <;> intro h1 q1
 ·exact ap 2 (x+1)<|oU [.ak] (show (0:Int)≤x from by omega) (show x≤(x+1) from by omega) (show (x+1)≤(IT.size:Int) from by rw [XD];omega)<|al 1 (.string (IT.extract x.toNat (x+1).toNat)) H ⟨_,rfl,by rw [yX];omega⟩
 exact ap 1 (x*2)<|ap 1 (x*2)<|ap 0 ((x*2)+2)<|oU [.ak] (show (0:Int)≤(x*2) from by omega) (show (x*2)≤((x*2)+2) from by omega) (show ((x*2)+2)≤(IS.size:Int) from by rw [XC];omega)<|al 1 (.string (IS.extract (x*2).toNat ((x*2)+2).toNat)) H ⟨_,rfl,by rw [yX];omega⟩
theorem X9 (x:Int) {H:U} (y:aa E G H) (h0:-9223372036854775808≤x) (h1:x<9223372036854775808):aI E G 90 [J x,J 10] H [] (fun v H'=>∃ t:ByteArray,v=.string t∧t.size≤24):=by
 have g0:=y.n
 refine br Tryz.f90 y ?_
 refine aO 4 (0≤x) ?_ ?_ <;> intro h1 q1
 ·refine aO 2 (x<100) ?_ ?_ <;> intro h2 cw
  ·obtain ⟨_,H1,c1,af,y1,u1,rfl,nj⟩:=agU x y D D
   exact ad 2 c1<|al 1 (.string u1) H1 ⟨_,rfl,D⟩
  obtain ⟨bc,oD,q7,uN⟩:=kH x
  have w1:((ax (IntKind.u64.wrap x)):Value)=(ax bc):=(by rw [oD])
  refine aK [aB 2]<|aj [.as (ax bc)] w1<|aO 2 (x<0) ?_ ?_ <;> intro h3 dv
  ·obtain ⟨fi,lZ,uL,tp⟩:=kH (0-bc)
   have w2:((ax (IntKind.u64.wrap (0-bc))):Value)=(ax fi):=(by rw [lZ])
   obtain ⟨_,H1,c1,af,y1,n1,rfl,CD,cW⟩:=Gl fi (y.news [O (List.replicate 24 (ab 0)) 170]) D D
   have aP:=(y.news [O (List.replicate 24 (ab 0)) 170]).kept af ai (aL [O (List.replicate 24 (ab 0)) 170] H 0 _ rfl)
   obtain ⟨_,H2,c2,ar,ah,rfl,zs2,xO,ll⟩:=Bu (H.n+0) 1 ((1+n1).toNat-1) 47 24 170 _ fi y1 aP (bq.rep 24) D D D D D
   obtain ⟨bk,aM⟩:∃ ao,ao=H2.set (H.n+0) (O (zs2.set 0 (.int .u8 45)) 170):=⟨_,rfl⟩
   have az:aa E G bk:=aM▸ah.set _ D D
   have ei:=bC aM
   obtain ⟨Dw,Jz,B4⟩:=zk (c:=49) (o:=0) (d:=((1+n1).toNat)) (bq.set ll 0 45) ei D
   exact aK [aB 0]<|aj [.as (ax fi)] w2<|ad 2 c1<|ap 2 (1+n1)<|et 0 H1 (AA D D:ge E 170 (pt (H.n+0) 0) (some (J 1)) (some (J (1+n1))) none=some (sc (H.n+0) 1 ((1+n1).toNat-1) 47))<|ad 1 c2<|aH 1 h3<|aC 1 ((kF ll xO D).trans (congrArg some aM.symm):bp E 5 (H.n+0) 0 (ab 45) H2=some bk)<|ap 1 (1+n1)<|et 0 bk (Tb D D:ge E 170 (pt (H.n+0) 0) none (some (J (1+n1))) none=some (sc (H.n+0) 0 ((1+n1).toNat) 49))<|eL 0 (show lO E 42 9 (sc (H.n+0) 0 ((1+n1).toNat) 49) bk=some (.string Dw,bk,[],[H.n+0]) from Jz)<|aV 1 (.string Dw) bk [H.n+0,H.n+0] aQ aZ ⟨_,rfl,D⟩
  obtain ⟨_,H1,c1,af,y1,n1,rfl,CD,cW⟩:=Gl bc (y.news [O (List.replicate 24 (ab 0)) 170]) D D
  have cI:=dA af
  have aP:=(y.news [O (List.replicate 24 (ab 0)) 170]).kept af ai (aL [O (List.replicate 24 (ab 0)) 170] H 0 _ rfl)
  obtain ⟨_,H2,c2,ar,ah,rfl,zs2,xO,ll⟩:=Bu (H.n+0) 1 ((1+n1).toNat-1) 47 24 170 _ bc y1 aP (bq.rep 24) D D D D D
  have cl:H1.n+0≤H2.n:=ar.n
  obtain ⟨uF,vz,sM⟩:=zk (c:=47) (o:=1) (d:=((1+n1).toNat-1)) ll xO D
  exact ad 1 c1<|ap 2 (1+n1)<|et 0 H1 (AA D D:ge E 170 (pt (H.n+0) 0) (some (J 1)) (some (J (1+n1))) none=some (sc (H.n+0) 1 ((1+n1).toNat-1) 47))<|ad 1 c2<|aH 1 h3<|ap 1 (1+n1)<|et 0 H2 (AA D D:ge E 170 (pt (H.n+0) 0) (some (J 1)) (some (J (1+n1))) none=some (sc (H.n+0) 1 ((1+n1).toNat-1) 47))<|eL 0 (show lO E 42 9 (sc (H.n+0) 1 ((1+n1).toNat-1) 47) H2=some (.string uF,H2,[],[H.n+0]) from vz)<|aV 1 (.string uF) H2 [H.n+0] aQ aZ ⟨_,rfl,D⟩
 obtain ⟨bc,oD,q7,uN⟩:=kH x
 have w1:((ax (IntKind.u64.wrap x)):Value)=(ax bc):=(by rw [oD])
 refine aK [aB 3]<|aj [.as (ax bc)] w1<|aO 2 (x<0) ?_ ?_ <;> intro h2 cw
 ·obtain ⟨fi,lZ,uL,tp⟩:=kH (0-bc)
  have w2:((ax (IntKind.u64.wrap (0-bc))):Value)=(ax fi):=(by rw [lZ])
  obtain ⟨_,H1,c1,af,y1,n1,rfl,CD,cW⟩:=Gl fi (y.news [O (List.replicate 24 (ab 0)) 170]) D D
  have cI:=dA af
  have aP:=(y.news [O (List.replicate 24 (ab 0)) 170]).kept af ai (aL [O (List.replicate 24 (ab 0)) 170] H 0 _ rfl)
  obtain ⟨_,H2,c2,ar,ah,rfl,zs2,xO,ll⟩:=Bu (H.n+0) 1 ((1+n1).toNat-1) 47 24 170 _ fi y1 aP (bq.rep 24) D D D D D
  have cl:H1.n+0≤H2.n:=ar.n
  obtain ⟨bk,aM⟩:∃ ao,ao=H2.set (H.n+0) (O (zs2.set 0 (.int .u8 45)) 170):=⟨_,rfl⟩
  have az:aa E G bk:=aM▸ah.set _ D D
  have dD:bk.n=H2.n+0:=by rw [aM,U.cB] <;> rfl
  have ei:=bC aM
  obtain ⟨Dw,Jz,B4⟩:=zk (c:=49) (o:=0) (d:=((1+n1).toNat)) (bq.set ll 0 45) ei D
  exact aK [aB 0]<|aj [.as (ax fi)] w2<|ad 2 c1<|ap 2 (1+n1)<|et 0 H1 (AA D D:ge E 170 (pt (H.n+0) 0) (some (J 1)) (some (J (1+n1))) none=some (sc (H.n+0) 1 ((1+n1).toNat-1) 47))<|ad 1 c2<|aH 1 h2<|aC 1 ((kF ll xO D).trans (congrArg some aM.symm):bp E 5 (H.n+0) 0 (ab 45) H2=some bk)<|ap 1 (1+n1)<|et 0 bk (Tb D D:ge E 170 (pt (H.n+0) 0) none (some (J (1+n1))) none=some (sc (H.n+0) 0 ((1+n1).toNat) 49))<|eL 0 (show lO E 42 9 (sc (H.n+0) 0 ((1+n1).toNat) 49) bk=some (.string Dw,bk,[],[H.n+0]) from Jz)<|aV 1 (.string Dw) bk [H.n+0,H.n+0] aQ aZ ⟨_,rfl,D⟩
 obtain ⟨_,H1,c1,af,y1,n1,rfl,CD,cW⟩:=Gl bc (y.news [O (List.replicate 24 (ab 0)) 170]) D D
 have aP:=(y.news [O (List.replicate 24 (ab 0)) 170]).kept af ai (aL [O (List.replicate 24 (ab 0)) 170] H 0 _ rfl)
 obtain ⟨_,H2,c2,ar,ah,rfl,zs2,xO,ll⟩:=Bu (H.n+0) 1 ((1+n1).toNat-1) 47 24 170 _ bc y1 aP (bq.rep 24) D D D D D
 obtain ⟨uF,vz,sM⟩:=zk (c:=47) (o:=1) (d:=((1+n1).toNat-1)) ll xO D
 exact ad 1 c1<|ap 2 (1+n1)<|et 0 H1 (AA D D:ge E 170 (pt (H.n+0) 0) (some (J 1)) (some (J (1+n1))) none=some (sc (H.n+0) 1 ((1+n1).toNat-1) 47))<|ad 1 c2<|aH 1 h2<|ap 1 (1+n1)<|et 0 H2 (AA D D:ge E 170 (pt (H.n+0) 0) (some (J 1)) (some (J (1+n1))) none=some (sc (H.n+0) 1 ((1+n1).toNat-1) 47))<|eL 0 (show lO E 42 9 (sc (H.n+0) 1 ((1+n1).toNat-1) 47) H2=some (.string uF,H2,[],[H.n+0]) from vz)<|aV 1 (.string uF) H2 [H.n+0] aQ aZ ⟨_,rfl,D⟩
theorem vv (x:Int) {H:U} (y:aa E G H) (h0:-9223372036854775808≤x) (h1:x<9223372036854775808):aI E G 65 [J x,J 10] H [] (fun v H'=>∃ t:ByteArray,v=.string t∧t.size≤24):=by
 refine br Tryz.f65 y ?_
 obtain ⟨_,H1,c1,af,y1,u1,rfl,nj⟩:=X9 x y h0 h1
 exact ad 3 c1<|al 1 (.string u1) H1 ⟨_,rfl,nj⟩
noncomputable def vm:Code:=cN [1,1,1,1,0,1,0,0] (cH Tryz.f89)
noncomputable abbrev kq:=([.string ⟨#[121]⟩,J 31536000000,.string ⟨#[119]⟩,J 604800000,.string ⟨#[100]⟩,J 86400000,.string ⟨#[104]⟩,J 3600000,.string ⟨#[109]⟩,J 60000,.string ⟨#[115]⟩,J 1000,.string ⟨#[109,115]⟩,J 1]:List Value)
theorem Tl  (x0:Int) (aA:ByteArray) {H:U} (y:aa E G H) (yx:0≤x0) (uP:x0≤35184372088832) (hs:aA.size≤280):cy E G 40 vm [(0,J x0),(4,.string aA),(17,.agg (List.toArray kq)),(18,J 7)] H [] (fun x T H'=>(x=(.exit 0)∧∃(gD:ByteArray),T=bl [(4,.string gD)]∧(gD.size≤280))):=by
 refine c9 y ?_
 exact dF 1 [(4,.string aA)] (.exit 0) H ⟨rfl,aA,rfl,D⟩
noncomputable abbrev xW H:=news H [O [.string ⟨#[]⟩,J 0] 167]
noncomputable abbrev zc:=([.string ⟨#[109,115]⟩,J 1]:List Value)
noncomputable abbrev F5 H:=news H (hD zc)
theorem Tk  (x0:Int) (aA:ByteArray) {H:U} (y:aa E G H) (yx:0≤x0) (uP:x0≤35184372088832) (hs:aA.size≤240):cy E G 40 vm [(0,J x0),(4,.string aA),(17,.agg (List.toArray kq)),(18,J 6)] H [] (fun x T H'=>(x=(.exit 0)∧∃(gD:ByteArray),T=bl [(4,.string gD)]∧(gD.size≤280))):=by
 have ajw:ByteArray.size ⟨#[109,115]⟩=2:=rfl
 refine c9 y ?_
 have w1:((J (IntKind.i64.wrap (Int.tdiv x0 1))):Value)=(J (x0 / 1)):=(by rw [kE (x:=x0) D,kX D D])
 refine aC 3 (bT ye rfl rfl rfl rfl:bp E 167 (H.n+0) 0 (.agg (List.toArray zc)) (xW H)=some (F5 H))<|Z 2 (aR (F5 H) 0 1 dX)<|aj [.as (J (x0 / 1))] w1<|aO 2 ((x0 / 1)>0) ?_ ?_ <;> intro h1 q1
 ·obtain ⟨_,H1,c1,af,y1,u1,rfl,nj⟩:=vv (x0 / 1) (y.news (hD zc)) D D
  have cI:=dA af
  have aP:=(y.news (hD zc)).kept af ai (aL (hD zc) H 0 _ rfl)
  have w2:ByteArray.size u1+ByteArray.size ⟨#[109,115]⟩≤1000000000:=by ((try simp only [cm]);omega)
  have w3:ByteArray.size aA+ByteArray.size (u1++⟨#[109,115]⟩)≤1000000000:=by ((try simp only [cm]);omega)
  have eo:((J (Int.tmod x0 1)):Value)=(J (x0%1)):=(by rw [jR (x:=x0) D])
  exact ad 2 c1<|Z 1 (ag 0 ct aP)<|aj [.ak] w2<|aj [.ak] w3<|Z 3 (ag 1 dX aP)<|aj [.as (J (x0%1))] eo<|dY 3 [(0,J (x0%1)),(4,.string (aA++(u1++⟨#[109,115]⟩))),(17,.agg (List.toArray kq)),(18,J 7)] H1 [H.n+0] aQ (Tl  (x0%1) (aA++(u1++⟨#[109,115]⟩)) y1 D D (by (try simp only [cm]);omega))
 have w2:((J (Int.tmod x0 1)):Value)=(J (x0%1)):=(by rw [jR (x:=x0) D])
 exact Z 2 (aR (F5 H) 0 1 dX)<|aj [.as (J (x0%1))] w2<|dY 3 [(0,J (x0%1)),(4,.string aA),(17,.agg (List.toArray kq)),(18,J 7)] (F5 H) [H.n+0] aQ (Tl  (x0%1) aA (y.news (hD zc)) D D (by (try simp only [cm]);omega))
noncomputable abbrev zd:=([.string ⟨#[115]⟩,J 1000]:List Value)
noncomputable abbrev F6 H:=news H (hD zd)
theorem Tj  (x0:Int) (aA:ByteArray) {H:U} (y:aa E G H) (yx:0≤x0) (uP:x0≤35184372088832) (hs:aA.size≤200):cy E G 40 vm [(0,J x0),(4,.string aA),(17,.agg (List.toArray kq)),(18,J 5)] H [] (fun x T H'=>(x=(.exit 0)∧∃(gD:ByteArray),T=bl [(4,.string gD)]∧(gD.size≤280))):=by
 have ajx:ByteArray.size ⟨#[115]⟩=1:=rfl
 refine c9 y ?_
 have w1:((J (IntKind.i64.wrap (Int.tdiv x0 1000))):Value)=(J (x0 / 1000)):=(by rw [kE (x:=x0) D,kX D D])
 refine aC 3 (bT ye rfl rfl rfl rfl:bp E 167 (H.n+0) 0 (.agg (List.toArray zd)) (xW H)=some (F6 H))<|Z 2 (aR (F6 H) 0 1 dX)<|aj [.as (J (x0 / 1000))] w1<|aO 2 ((x0 / 1000)>0) ?_ ?_ <;> intro h1 q1
 ·obtain ⟨_,H1,c1,af,y1,u1,rfl,nj⟩:=vv (x0 / 1000) (y.news (hD zd)) D D
  have cI:=dA af
  have aP:=(y.news (hD zd)).kept af ai (aL (hD zd) H 0 _ rfl)
  have w2:ByteArray.size u1+ByteArray.size ⟨#[115]⟩≤1000000000:=by ((try simp only [cm]);omega)
  have w3:ByteArray.size aA+ByteArray.size (u1++⟨#[115]⟩)≤1000000000:=by ((try simp only [cm]);omega)
  have eo:((J (Int.tmod x0 1000)):Value)=(J (x0%1000)):=(by rw [jR (x:=x0) D])
  exact ad 2 c1<|Z 1 (ag 0 ct aP)<|aj [.ak] w2<|aj [.ak] w3<|Z 3 (ag 1 dX aP)<|aj [.as (J (x0%1000))] eo<|dY 3 [(0,J (x0%1000)),(4,.string (aA++(u1++⟨#[115]⟩))),(17,.agg (List.toArray kq)),(18,J 6)] H1 [H.n+0] aQ (Tk  (x0%1000) (aA++(u1++⟨#[115]⟩)) y1 D D (by (try simp only [cm]);omega))
 have w2:((J (Int.tmod x0 1000)):Value)=(J (x0%1000)):=(by rw [jR (x:=x0) D])
 exact Z 2 (aR (F6 H) 0 1 dX)<|aj [.as (J (x0%1000))] w2<|dY 3 [(0,J (x0%1000)),(4,.string aA),(17,.agg (List.toArray kq)),(18,J 6)] (F6 H) [H.n+0] aQ (Tk  (x0%1000) aA (y.news (hD zd)) D D (by (try simp only [cm]);omega))
noncomputable abbrev ze:=([.string ⟨#[109]⟩,J 60000]:List Value)
noncomputable abbrev F7 H:=news H (hD ze)
theorem Ti  (x0:Int) (aA:ByteArray) {H:U} (y:aa E G H) (yx:0≤x0) (uP:x0≤35184372088832) (hs:aA.size≤160):cy E G 40 vm [(0,J x0),(4,.string aA),(17,.agg (List.toArray kq)),(18,J 4)] H [] (fun x T H'=>(x=(.exit 0)∧∃(gD:ByteArray),T=bl [(4,.string gD)]∧(gD.size≤280))):=by
 have ajv:ByteArray.size ⟨#[109]⟩=1:=rfl
 refine c9 y ?_
 have w1:((J (IntKind.i64.wrap (Int.tdiv x0 60000))):Value)=(J (x0 / 60000)):=(by rw [kE (x:=x0) D,kX D D])
 refine aC 3 (bT ye rfl rfl rfl rfl:bp E 167 (H.n+0) 0 (.agg (List.toArray ze)) (xW H)=some (F7 H))<|Z 2 (aR (F7 H) 0 1 dX)<|aj [.as (J (x0 / 60000))] w1<|aO 2 ((x0 / 60000)>0) ?_ ?_ <;> intro h1 q1
 ·obtain ⟨_,H1,c1,af,y1,u1,rfl,nj⟩:=vv (x0 / 60000) (y.news (hD ze)) D D
  have cI:=dA af
  have aP:=(y.news (hD ze)).kept af ai (aL (hD ze) H 0 _ rfl)
  have w2:ByteArray.size u1+ByteArray.size ⟨#[109]⟩≤1000000000:=by ((try simp only [cm]);omega)
  have w3:ByteArray.size aA+ByteArray.size (u1++⟨#[109]⟩)≤1000000000:=by ((try simp only [cm]);omega)
  have eo:((J (Int.tmod x0 60000)):Value)=(J (x0%60000)):=(by rw [jR (x:=x0) D])
  exact ad 2 c1<|Z 1 (ag 0 ct aP)<|aj [.ak] w2<|aj [.ak] w3<|Z 3 (ag 1 dX aP)<|aj [.as (J (x0%60000))] eo<|dY 3 [(0,J (x0%60000)),(4,.string (aA++(u1++⟨#[109]⟩))),(17,.agg (List.toArray kq)),(18,J 5)] H1 [H.n+0] aQ (Tj  (x0%60000) (aA++(u1++⟨#[109]⟩)) y1 D D (by (try simp only [cm]);omega))
 have w2:((J (Int.tmod x0 60000)):Value)=(J (x0%60000)):=(by rw [jR (x:=x0) D])
 exact Z 2 (aR (F7 H) 0 1 dX)<|aj [.as (J (x0%60000))] w2<|dY 3 [(0,J (x0%60000)),(4,.string aA),(17,.agg (List.toArray kq)),(18,J 5)] (F7 H) [H.n+0] aQ (Tj  (x0%60000) aA (y.news (hD ze)) D D (by (try simp only [cm]);omega))
noncomputable abbrev zf:=([.string ⟨#[104]⟩,J 3600000]:List Value)
noncomputable abbrev F8 H:=news H (hD zf)
theorem Th  (x0:Int) (aA:ByteArray) {H:U} (y:aa E G H) (yx:0≤x0) (uP:x0≤35184372088832) (hs:aA.size≤120):cy E G 40 vm [(0,J x0),(4,.string aA),(17,.agg (List.toArray kq)),(18,J 3)] H [] (fun x T H'=>(x=(.exit 0)∧∃(gD:ByteArray),T=bl [(4,.string gD)]∧(gD.size≤280))):=by
 have EG:ByteArray.size ⟨#[104]⟩=1:=rfl
 refine c9 y ?_
 have w1:((J (IntKind.i64.wrap (Int.tdiv x0 3600000))):Value)=(J (x0 / 3600000)):=(by rw [kE (x:=x0) D,kX D D])
 refine aC 3 (bT ye rfl rfl rfl rfl:bp E 167 (H.n+0) 0 (.agg (List.toArray zf)) (xW H)=some (F8 H))<|Z 2 (aR (F8 H) 0 1 dX)<|aj [.as (J (x0 / 3600000))] w1<|aO 2 ((x0 / 3600000)>0) ?_ ?_ <;> intro h1 q1
 ·obtain ⟨_,H1,c1,af,y1,u1,rfl,nj⟩:=vv (x0 / 3600000) (y.news (hD zf)) D D
  have cI:=dA af
  have aP:=(y.news (hD zf)).kept af ai (aL (hD zf) H 0 _ rfl)
  have w2:ByteArray.size u1+ByteArray.size ⟨#[104]⟩≤1000000000:=by ((try simp only [cm]);omega)
  have w3:ByteArray.size aA+ByteArray.size (u1++⟨#[104]⟩)≤1000000000:=by ((try simp only [cm]);omega)
  have eo:((J (Int.tmod x0 3600000)):Value)=(J (x0%3600000)):=(by rw [jR (x:=x0) D])
  exact ad 2 c1<|Z 1 (ag 0 ct aP)<|aj [.ak] w2<|aj [.ak] w3<|Z 3 (ag 1 dX aP)<|aj [.as (J (x0%3600000))] eo<|dY 3 [(0,J (x0%3600000)),(4,.string (aA++(u1++⟨#[104]⟩))),(17,.agg (List.toArray kq)),(18,J 4)] H1 [H.n+0] aQ (Ti  (x0%3600000) (aA++(u1++⟨#[104]⟩)) y1 D D (by (try simp only [cm]);omega))
 have w2:((J (Int.tmod x0 3600000)):Value)=(J (x0%3600000)):=(by rw [jR (x:=x0) D])
 exact Z 2 (aR (F8 H) 0 1 dX)<|aj [.as (J (x0%3600000))] w2<|dY 3 [(0,J (x0%3600000)),(4,.string aA),(17,.agg (List.toArray kq)),(18,J 4)] (F8 H) [H.n+0] aQ (Ti  (x0%3600000) aA (y.news (hD zf)) D D (by (try simp only [cm]);omega))
noncomputable abbrev zg:=([.string ⟨#[100]⟩,J 86400000]:List Value)
noncomputable abbrev F9 H:=news H (hD zg)
theorem Tg  (x0:Int) (aA:ByteArray) {H:U} (y:aa E G H) (yx:0≤x0) (uP:x0≤35184372088832) (hs:aA.size≤80):cy E G 40 vm [(0,J x0),(4,.string aA),(17,.agg (List.toArray kq)),(18,J 2)] H [] (fun x T H'=>(x=(.exit 0)∧∃(gD:ByteArray),T=bl [(4,.string gD)]∧(gD.size≤280))):=by
 have aju:ByteArray.size ⟨#[100]⟩=1:=rfl
 refine c9 y ?_
 have w1:((J (IntKind.i64.wrap (Int.tdiv x0 86400000))):Value)=(J (x0 / 86400000)):=(by rw [kE (x:=x0) D,kX D D])
 refine aC 3 (bT ye rfl rfl rfl rfl:bp E 167 (H.n+0) 0 (.agg (List.toArray zg)) (xW H)=some (F9 H))<|Z 2 (aR (F9 H) 0 1 dX)<|aj [.as (J (x0 / 86400000))] w1<|aO 2 ((x0 / 86400000)>0) ?_ ?_ <;> intro h1 q1
 ·obtain ⟨_,H1,c1,af,y1,u1,rfl,nj⟩:=vv (x0 / 86400000) (y.news (hD zg)) D D
  have cI:=dA af
  have aP:=(y.news (hD zg)).kept af ai (aL (hD zg) H 0 _ rfl)
  have w2:ByteArray.size u1+ByteArray.size ⟨#[100]⟩≤1000000000:=by ((try simp only [cm]);omega)
  have w3:ByteArray.size aA+ByteArray.size (u1++⟨#[100]⟩)≤1000000000:=by ((try simp only [cm]);omega)
  have eo:((J (Int.tmod x0 86400000)):Value)=(J (x0%86400000)):=(by rw [jR (x:=x0) D])
  exact ad 2 c1<|Z 1 (ag 0 ct aP)<|aj [.ak] w2<|aj [.ak] w3<|Z 3 (ag 1 dX aP)<|aj [.as (J (x0%86400000))] eo<|dY 3 [(0,J (x0%86400000)),(4,.string (aA++(u1++⟨#[100]⟩))),(17,.agg (List.toArray kq)),(18,J 3)] H1 [H.n+0] aQ (Th  (x0%86400000) (aA++(u1++⟨#[100]⟩)) y1 D D (by (try simp only [cm]);omega))
 have w2:((J (Int.tmod x0 86400000)):Value)=(J (x0%86400000)):=(by rw [jR (x:=x0) D])
 exact Z 2 (aR (F9 H) 0 1 dX)<|aj [.as (J (x0%86400000))] w2<|dY 3 [(0,J (x0%86400000)),(4,.string aA),(17,.agg (List.toArray kq)),(18,J 3)] (F9 H) [H.n+0] aQ (Th  (x0%86400000) aA (y.news (hD zg)) D D (by (try simp only [cm]);omega))
noncomputable abbrev zh:=([.string ⟨#[119]⟩,J 604800000]:List Value)
noncomputable abbrev Ga H:=news H (hD zh)
theorem Tf  (x0:Int) (aA:ByteArray) {H:U} (y:aa E G H) (yx:0≤x0) (uP:x0≤35184372088832) (hs:aA.size≤40):cy E G 40 vm [(0,J x0),(4,.string aA),(17,.agg (List.toArray kq)),(18,J 1)] H [] (fun x T H'=>(x=(.exit 0)∧∃(gD:ByteArray),T=bl [(4,.string gD)]∧(gD.size≤280))):=by
 have EH:ByteArray.size ⟨#[119]⟩=1:=rfl
 refine c9 y ?_
 have w1:((J (IntKind.i64.wrap (Int.tdiv x0 604800000))):Value)=(J (x0 / 604800000)):=(by rw [kE (x:=x0) D,kX D D])
 refine aC 3 (bT ye rfl rfl rfl rfl:bp E 167 (H.n+0) 0 (.agg (List.toArray zh)) (xW H)=some (Ga H))<|Z 2 (aR (Ga H) 0 1 dX)<|aj [.as (J (x0 / 604800000))] w1<|aO 2 ((x0 / 604800000)>0) ?_ ?_ <;> intro h1 q1
 ·obtain ⟨_,H1,c1,af,y1,u1,rfl,nj⟩:=vv (x0 / 604800000) (y.news (hD zh)) D D
  have cI:=dA af
  have aP:=(y.news (hD zh)).kept af ai (aL (hD zh) H 0 _ rfl)
  have w2:ByteArray.size u1+ByteArray.size ⟨#[119]⟩≤1000000000:=by ((try simp only [cm]);omega)
  have w3:ByteArray.size aA+ByteArray.size (u1++⟨#[119]⟩)≤1000000000:=by ((try simp only [cm]);omega)
  have eo:((J (Int.tmod x0 604800000)):Value)=(J (x0%604800000)):=(by rw [jR (x:=x0) D])
  exact ad 2 c1<|Z 1 (ag 0 ct aP)<|aj [.ak] w2<|aj [.ak] w3<|Z 3 (ag 1 dX aP)<|aj [.as (J (x0%604800000))] eo<|dY 3 [(0,J (x0%604800000)),(4,.string (aA++(u1++⟨#[119]⟩))),(17,.agg (List.toArray kq)),(18,J 2)] H1 [H.n+0] aQ (Tg  (x0%604800000) (aA++(u1++⟨#[119]⟩)) y1 D D (by (try simp only [cm]);omega))
 have w2:((J (Int.tmod x0 604800000)):Value)=(J (x0%604800000)):=(by rw [jR (x:=x0) D])
 exact Z 2 (aR (Ga H) 0 1 dX)<|aj [.as (J (x0%604800000))] w2<|dY 3 [(0,J (x0%604800000)),(4,.string aA),(17,.agg (List.toArray kq)),(18,J 2)] (Ga H) [H.n+0] aQ (Tg  (x0%604800000) aA (y.news (hD zh)) D D (by (try simp only [cm]);omega))
noncomputable abbrev zi:=([.string ⟨#[121]⟩,J 31536000000]:List Value)
noncomputable abbrev Gb H:=news H (hD zi)
theorem agZ  (x0:Int) (aA:ByteArray) {H:U} (y:aa E G H) (yx:0≤x0) (uP:x0≤35184372088832) (hs:aA.size≤0):cy E G 40 vm [(0,J x0),(4,.string aA),(17,.agg (List.toArray kq)),(18,J 0)] H [] (fun x T H'=>(x=(.exit 0)∧∃(gD:ByteArray),T=bl [(4,.string gD)]∧(gD.size≤280))):=by
 have ajy:ByteArray.size ⟨#[121]⟩=1:=rfl
 refine c9 y ?_
 have w1:((J (IntKind.i64.wrap (Int.tdiv x0 31536000000))):Value)=(J (x0 / 31536000000)):=(by rw [kE (x:=x0) D,kX D D])
 refine aC 3 (bT ye rfl rfl rfl rfl:bp E 167 (H.n+0) 0 (.agg (List.toArray zi)) (xW H)=some (Gb H))<|Z 2 (aR (Gb H) 0 1 dX)<|aj [.as (J (x0 / 31536000000))] w1<|aO 2 ((x0 / 31536000000)>0) ?_ ?_ <;> intro h1 q1
 ·obtain ⟨_,H1,c1,af,y1,u1,rfl,nj⟩:=vv (x0 / 31536000000) (y.news (hD zi)) D D
  have cI:=dA af
  have aP:=(y.news (hD zi)).kept af ai (aL (hD zi) H 0 _ rfl)
  have w2:ByteArray.size u1+ByteArray.size ⟨#[121]⟩≤1000000000:=by ((try simp only [cm]);omega)
  have w3:ByteArray.size aA+ByteArray.size (u1++⟨#[121]⟩)≤1000000000:=by ((try simp only [cm]);omega)
  have eo:((J (Int.tmod x0 31536000000)):Value)=(J (x0%31536000000)):=(by rw [jR (x:=x0) D])
  exact ad 2 c1<|Z 1 (ag 0 ct aP)<|aj [.ak] w2<|aj [.ak] w3<|Z 3 (ag 1 dX aP)<|aj [.as (J (x0%31536000000))] eo<|dY 3 [(0,J (x0%31536000000)),(4,.string (aA++(u1++⟨#[121]⟩))),(17,.agg (List.toArray kq)),(18,J 1)] H1 [H.n+0] aQ (Tf  (x0%31536000000) (aA++(u1++⟨#[121]⟩)) y1 D D (by (try simp only [cm]);omega))
 have w2:((J (Int.tmod x0 31536000000)):Value)=(J (x0%31536000000)):=(by rw [jR (x:=x0) D])
 exact Z 2 (aR (Gb H) 0 1 dX)<|aj [.as (J (x0%31536000000))] w2<|dY 3 [(0,J (x0%31536000000)),(4,.string aA),(17,.agg (List.toArray kq)),(18,J 1)] (Gb H) [H.n+0] aQ (Tf  (x0%31536000000) aA (y.news (hD zi)) D D (by (try simp only [cm]);omega))
theorem Tm (x:Int) {H:U} (y:aa E G H) (hx0:0≤x) (hx1:x≤35184372088832):aI E G 89 [J x] H [] (fun v H'=>∃ t:ByteArray,v=.tuple #[.string t,.nilIface]∧t.size≤280):=by
 refine br Tryz.f89 y ?_
 refine aH 3 (decide_eq_false D:(decide (x<0))=false)<|aH 2 (decide_eq_false D:(decide (x>35184372088832))=false)<|cS 2 x 0 ?_ ?_ <;> intro h1 q1
 ·exact al 2 (.tuple #[.string ⟨#[48,115]⟩,.nilIface]) H ⟨_,rfl,by first |omega |decide⟩
 obtain ⟨_,_,H1,c1,af,y1,rfl,ck,rfl,cM⟩:=(agZ x ⟨#[]⟩ y hx0 hx1 (by show 0≤0;omega)).code
 exact Z 1 (cg UD ahn (Up y) rfl rfl:ay E 168 3 0 H=some (.agg (List.toArray kq)))<|bW 1 c1<|al 3 (.tuple #[.string ck,.nilIface]) H1 ⟨_,rfl,by first |omega |decide⟩
theorem acC (x:Int) {H:U} (y:aa E G H) (hx0:-35184372088832≤x) (hx1:x≤35184372088832):aI E G 64 [J x] H [] (fun v H'=>∃ t:ByteArray,v=.string t∧t.size≤281):=by
 refine br Tryz.f64 y ?_
 refine aO 3 (x<0) ?_ ?_ <;> intro h1 q1
 ·obtain ⟨_,H1,c1,af,y1,u1,rfl,nj⟩:=Tm (0-x) y D D
  have w1:ByteArray.size ⟨#[45]⟩+ByteArray.size u1≤1000000000:=by (first |(have e1:ByteArray.size ⟨#[45]⟩=1:=rfl;omega) |(have e1:ByteArray.size ⟨#[]⟩=0:=rfl;omega) |omega)
  exact ap 1 (0-x)<|ad 3 c1<|aK [aB 6]<|aj [.ak] w1<|al 1 (.string (⟨#[45]⟩++u1)) H1 ⟨_,rfl,by rw [cm];first |(have e1:ByteArray.size ⟨#[45]⟩=1:=rfl;omega) |(have e1:ByteArray.size ⟨#[]⟩=0:=rfl;omega)⟩
 obtain ⟨_,H1,c1,af,y1,u1,rfl,nj⟩:=Tm x y D D
 have w1:ByteArray.size ⟨#[]⟩+ByteArray.size u1≤1000000000:=by (first |(have e1:ByteArray.size ⟨#[45]⟩=1:=rfl;omega) |(have e1:ByteArray.size ⟨#[]⟩=0:=rfl;omega) |omega)
 exact ad 1 c1<|aK [aB 6]<|aj [.ak] w1<|al 1 (.string (⟨#[]⟩++u1)) H1 ⟨_,rfl,by rw [cm];first |(have e1:ByteArray.size ⟨#[45]⟩=1:=rfl;omega) |(have e1:ByteArray.size ⟨#[]⟩=0:=rfl;omega)⟩
theorem Bp {g:FuncId} {args:List Value} {K:Nat} (h:aI E G g args G [] (fun v _=>∃ t:ByteArray,v=.string t∧t.size≤K)) (ha:∀ x∈args,jx x):∃ t:ByteArray,t.size≤K∧∀{H:U},aa E G H→bE E g args H (.ret (.string t)) H []:=by
 obtain ⟨v,H',c,x,y,t,rfl,hk⟩:=h
 exact ⟨t,hk,fun y=>bE.gx H7 yM yL ha (.ground rfl) c y⟩
theorem Bx {v:Value} (h:ground v=true):∀ x∈[v],jx x:=fun x hx=>by
 rw [List.mem_singleton.1 hx];exact .ground h
theorem Pj {v w:Value} (h:ground v=true) (h':ground w=true):∀ x∈[v,w],jx x:=fun x hx=>by
 rcases List.mem_cons.1 hx with rfl |hx
 ·exact .ground h
 ·rw [List.mem_singleton.1 hx];exact .ground h'
theorem KL (x:Int) (h0:-35184372088832≤x) (h1:x≤35184372088832):∃ t:ByteArray,t.size≤281∧∀{H:U},aa E G H→bE E 64 [J x] H (.ret (.string t)) H []:=Bp (acC x gE h0 h1) (Bx rfl)
open Classical in
noncomputable def mK (x:Int):ByteArray:=if h:-35184372088832≤x∧x≤35184372088832 then (KL x h.1 h.2).choose else ByteArray.empty
theorem Qs (x:Int):(mK x).size≤281:=by
 unfold mK
 split
 ·rename_i h;exact (KL x h.1 h.2).choose_spec.1
 ·exact Nat.zero_le _
theorem Qr (x:Int) (h0:-35184372088832≤x) (h1:x≤35184372088832) {H:U} (y:aa E G H):bE E 64 [J x] H (.ret (.string (mK x))) H []:=by
 have h:-35184372088832≤x∧x≤35184372088832:=⟨h0,h1⟩
 unfold mK
 rw [dif_pos h]
 exact (KL x h.1 h.2).choose_spec.2 y
theorem J1 (x:Int) (h0:-9223372036854775808≤x) (h1:x<9223372036854775808):∃ t:ByteArray,t.size≤24∧∀{H:U},aa E G H→bE E 65 [J x,J 10] H (.ret (.string t)) H []:=Bp (vv x gE h0 h1) (Pj rfl rfl)
open Classical in
noncomputable def rz (x:Int):ByteArray:=if h:-9223372036854775808≤x∧x<9223372036854775808 then (J1 x h.1 h.2).choose else ByteArray.empty
theorem aal (x:Int):(rz x).size≤24:=by
 unfold rz
 split
 ·rename_i h;exact (J1 x h.1 h.2).choose_spec.1
 ·exact Nat.zero_le _
theorem aak (x:Int) (h0:-9223372036854775808≤x) (h1:x<9223372036854775808) {H:U} (y:aa E G H):bE E 65 [J x,J 10] H (.ret (.string (rz x))) H []:=by
 have h:-9223372036854775808≤x∧x<9223372036854775808:=⟨h0,h1⟩
 unfold rz
 rw [dif_pos h]
 exact (J1 x h.1 h.2).choose_spec.2 y
theorem MJ (s:ByteArray):∃ t:ByteArray,t.size≤s.size∧∀{H:U},aa E G H→bE E 30 [.string s,.string ⟨#[43]⟩] H (.ret (.string t)) H []:=Bp (ahT s gE) (Pj rfl rfl)
noncomputable def wG (s:ByteArray):ByteArray:=(MJ s).choose
theorem ahV (s:ByteArray):(wG s).size≤s.size:=(MJ s).choose_spec.1
theorem ahU (s:ByteArray) {H:U} (y:aa E G H):bE E 30 [.string s,.string ⟨#[43]⟩] H (.ret (.string (wG s))) H []:=(MJ s).choose_spec.2 y
def x4:List ByteArray:=[⟨#[61,61]⟩,⟨#[33,61]⟩,⟨#[62]⟩,⟨#[60]⟩,⟨#[62,61]⟩,⟨#[60,61]⟩,⟨#[43]⟩,⟨#[45]⟩,⟨#[42]⟩,⟨#[47]⟩,⟨#[37]⟩]
theorem ad4 {H:U} (y:aa E G H):bE E 67 [.string ⟨#[61,61,32,33,61,32,62,32,60,32,62,61,32,60,61,32,43,32,45,32,42,32,47,32,37]⟩] H (.ret (sc H.n 0 11 23)) (H.new (O (eH x4) 9)) []:=GG (f:=2000) (b:=23) av (Bx rfl) y
theorem ad3  {H:U} (y:aa E G H):aI E G 37 [] H [] (fun v H'=>∃ q,v=sc q 0 11 23∧H.n≤q∧H'.get q=some (O (eH x4) 9)):=by
 refine br Tryz.f37 y ?_
 exact ad 1 (ad4 y)<|al 1 (sc (H.n+0) 0 11 23) (news H [O (eH x4) 9]) ⟨_,rfl,D,aL [O (eH x4) 9] H 0 _ rfl⟩
def xR:List ByteArray:=[⟨#[61]⟩,⟨#[33,61]⟩,⟨#[61,126]⟩,⟨#[33,126]⟩]
theorem acU {H:U} (y:aa E G H):bE E 67 [.string ⟨#[61,32,33,61,32,61,126,32,33,126]⟩] H (.ret (sc H.n 0 4 9)) (H.new (O (eH xR) 9)) []:=GG (f:=2000) (b:=23) av (Bx rfl) y
theorem acT  {H:U} (y:aa E G H):aI E G 62 [] H [] (fun v H'=>∃ q,v=sc q 0 4 9∧H.n≤q∧H'.get q=some (O (eH xR) 9)):=by
 refine br Tryz.f62 y ?_
 exact ad 1 (acU y)<|al 1 (sc (H.n+0) 0 4 9) (news H [O (eH xR) 9]) ⟨_,rfl,D,aL [O (eH xR) 9] H 0 _ rfl⟩
theorem aI.lift {E:Env} {G X H:U} {g:FuncId} {args:List Value} {V:List Nat} {Q:Value→U→Prop} (h:aI E G g args H V Q) (M9:aa E X H) (hv:∀ q∈V,X.n≤q):aI E X g args H V Q:=by
 obtain ⟨v,H',c,x,y,q⟩:=h
 exact ⟨v,H',c,x,M9.step x y.wf hv,q⟩
theorem li {X:U} (hx:aa E G X) (a b q:Nat) (ws:List ByteArray) (c:Nat) (t:ByteArray) {H:U} (y:aa E X H) (ka:H.get a=some (O (eH ws) 9)) (hB:cn H b t 46 q) (hl:ws.length<100000) (hs:(t++bX ws).size≤1000000000) (cr:X.n≤b) (aY:X.n≤q) (rh:a≠b) (tH:a≠q):aI E X 29 [pt b 0,sc a 0 ws.length c] H [b,q] (fun v H'=>v=cZ∧∃ q',cn H' b (t++bX ws) 46 q'∧X.n≤q'∧(q'=b∨q'=q∨H.n≤q')):=by
 have h1:=hx.n
 have h2:=y.n
 have h:=aI.lift (aeR a b q ws c t (gg hx y) ka hB hl hs D D rh tH) y (by
  intro i hi
  simp only [List.mem_cons,ai,or_false] at hi
  omega)
 exact h.mono fun v H' ⟨e,q',hb,_,ho⟩=>⟨e,q',hb,D,ho⟩
theorem acy {X:U} (hx:aa E G X) {p:Option Addr} {ws:List ByteArray} {c:Nat} {H:U} (y:aa E X H) (hr:ls H p ws.length (eH ws)) (hl:ws.length<100000) (hc:ws.length≠0→u7 ws.length c) (hs:(fF ⟨#[44,32]⟩ ws).size≤900000000):aI E X 66 [.slice p ws.length c] H [] (fun v H'=>v=.string ((⟨#[40]⟩++fF ⟨#[44,32]⟩ ws)++⟨#[41]⟩)):=
 aI.lift (acx p ws c (gg hx y) hr hl hc hs) y bD
theorem Fl {X:U} (hx:aa E G X) {p:Option Addr} {ws:List ByteArray} {c:Nat} {H:U} (y:aa E X H) (hr:ls H p ws.length (eH ws)) (hl:ws.length<100000) (hc:ws.length≠0→u7 ws.length c) (hs:(fF ⟨#[44,32]⟩ ws).size≤1000000000):aI E X 63 [.slice p ws.length c,.string ⟨#[44,32]⟩] H [] (fun v H'=>v=.string (fF ⟨#[44,32]⟩ ws)):=
 aI.lift (PZ (gg hx y) hr hl hc hs) y bD
theorem agK {X:U} (hx:aa E G X) {H:U} (y:aa E X H):aI E X 37 [] H [] (fun v H'=>∃ q,v=sc q 0 11 23∧H.n≤q∧H'.get q=some (O (eH x4) 9)):=aI.lift (ad3 (gg hx y)) y bD
theorem T2 {X:U} (hx:aa E G X) {H:U} (y:aa E X H):aI E X 62 [] H [] (fun v H'=>∃ q,v=sc q 0 4 9∧H.n≤q∧H'.get q=some (O (eH xR) 9)):=aI.lift (acT (gg hx y)) y bD
def zN (ws:List ByteArray):ByteArray:=(⟨#[40]⟩++fF ⟨#[44,32]⟩ ws)++⟨#[41]⟩
theorem acw {X:U} (hx:aa E G X) {x:aw} (a:dG X x) {H:U} (y:aa E X H) (hl:x.ns.length<100000) (hs:(fF ⟨#[44,32]⟩ x.ns).size≤900000000):aI E X 66 [.slice x.f.bf x.f.nn x.f.bg] H [] (fun v H'=>v=.string (zN x.ns)):=by
 have hr:=a.rn.up y hx.wf
 have hc:=a.Oy
 rw [a.nn] at hr hc ⊢
 exact acy hx y hr hl hc hs
theorem KI {H:U} {b:Nat} {c:List Value} {e:TypeId} {X:U} (y:aa E X H) (k:H.get b=some (.cells c e false)) (H':U):(bif Nat.blt b H.n then fG (H.get b) else Nat.blt b H'.n)=true:=by
 have:=cU (H':=H') y k
 simpa [bZ] using this
theorem cn.yu {H H':U} {b T q:Nat} {t:ByteArray} {X:U} (y:aa E X H) (h:cn H b t T q):bZ H H' [b,q]=true:=by
 simp only [bZ,List.all_cons,List.all_nil]
 obtain ⟨dE,_,⟨_,rfl,k⟩ |⟨_,_,k,aX⟩⟩:=h
 ·rw [KI y k H'];rfl
 ·rw [KI y k H',KI y aX H'];rfl
def wJ (h:Int) (w1 w2:ByteArray):ByteArray:=if h=1 then w1 else w2
theorem ail {h:Int} {w1 w2:ByteArray} (h0:1≤h) (h1:h≤2):[Value.string w1,Value.string w2][0+(h-1).toNat*1]?=some (.string (wJ h w1 w2)):=by
 rcases show h=1∨h=2 by omega with rfl |rfl <;> rfl
def nq (x:aw) (w1 w2:ByteArray):ByteArray:=if 0<x.f.how then bX [wJ x.f.how w1 w2,⟨#[32]⟩,zN x.ns,⟨#[32]⟩] else ByteArray.empty
noncomputable abbrev CS H (x:aw):=news H [O (ae x.f) 27]
noncomputable abbrev zj (x:aw) w1 w2:=([.string (wJ x.f.how w1 w2),.string ⟨#[32]⟩,.string (zN x.ns),.string ⟨#[32]⟩]:List Value)
theorem FM (x:aw) (X:U) (hx:aa E G X) (a:dG X x) (Ia b q c:Nat) (w1 w2 t:ByteArray) {H:U} (y:aa E X H) (kw:H.get Ia=some (O [.string w1,.string w2] 9)) (hB:cn H b t 46 q) (hw:x.f.how≤2) (cr:X.n≤b) (aY:X.n≤q) (hl:x.ns.length<100000) (hj:(fF ⟨#[44,32]⟩ x.ns).size≤900000000) (hs:0<x.f.how→(t++bX [wJ x.f.how w1 w2,⟨#[32]⟩,zN x.ns,⟨#[32]⟩]).size≤1000000000):aI E X 35 [pt b 0,.agg (ae x.f).toArray,sc Ia 0 2 c] H [b,q] (fun v H'=>v=cZ∧∃ q',cn H' b (t++nq x w1 w2) 46 q'∧X.n≤q'∧(q'=b∨q'=q∨H.n≤q')):=by
 refine br Tryz.f35 y ?_
 have k7:=hB.lt y
 refine Z 2 (aR (CS H x) 0 9 aJ)<|aO 0 (x.f.how>0) ?_ ?_ <;> intro h1 q1
 ·obtain ⟨_,H1,c1,af,y1,rfl⟩:=acw hx a (y.news [O (ae x.f) 27]) hl hj
  have cI:=dA af
  have p4:=cn.kept (y.news [O (ae x.f) 27]) (cn.news y hB [O (ae x.f) 27]) af ai ai
  obtain ⟨_,H2,c2,ar,ah,rfl,cw,iV,k4,ib⟩:=li hx (H1.n+0) b q [wJ x.f.how w1 w2,⟨#[32]⟩,zN x.ns,⟨#[32]⟩] 9 t (y1.news (dJ (zj x w1 w2))) (aL (dJ (zj x w1 w2)) H1 0 _ rfl) (cn.news y1 p4 (dJ (zj x w1 w2))) (by show 4<100000;omega) (hs D) cr aY D D
  have ib:cw=b∨cw=q∨H1.n≤cw:=by have h:=ib;first |omega |(rw [bU] at h;omega)
  exact Z 3 (aR (CS H x) 0 9 aJ)<|ap 0 (x.f.how-1)<|bR 0 (x.f.how-1) (2:Int)<|Z 0 (d7 ct (y.old kw [O (ae x.f) 27]) (ail D D):ay E 9 Ia (0+(x.f.how-1).toNat*1) (CS H x)=some (.string (wJ x.f.how w1 w2)))<|Z 1 (aR (CS H x) 0 10 iI)<|ad 0 c1<|ad 1 c2<|aj [] (cn.yu (y1.news (dJ (zj x w1 w2))) (cn.news y1 p4 (dJ (zj x w1 w2))):bZ (news H1 (dJ (zj x w1 w2))) H2 [b,q]=true)<|aV 0 (.tuple #[]) H2 [b,q] bD bi ⟨rfl,cw,by rw [nq,if_pos D];exact iV,k4,D⟩
 exact aV 0 (.tuple #[]) (CS H x) [] aZ bi ⟨rfl,q,by rw [nq,if_neg D];exact (ByteArray.append_empty (b:=t)).symm▸(cn.news y hB [O (ae x.f) 27]),aY,.inr (.inl rfl)⟩
def pf (X:U) (F:aw→ByteArray) (k:aw):Prop:=∀(b q:Nat) (t:ByteArray) {H:U} (y:aa E X H),cn H b t 46 q→X.n≤b→X.n≤q→(t++F k).size≤1000000000→aI E X 16 [pt b 0,.agg (ae k.f).toArray] H [b,q] (fun v H'=>v=cZ∧∃ q',cn H' b (t++F k) 46 q'∧X.n≤q'∧(q'=b∨q'=q∨H.n≤q'))
def lA (F:aw→ByteArray) (ks:List aw) (i:Nat):ByteArray:=if i=0 then fF ⟨#[44,32]⟩ (ks.map F) else mF ⟨#[44,32]⟩ ((ks.drop i).map F)
theorem Ua {ks:List aw} {i:Nat} {k:aw} (m:ks[i]?=some k):ks.drop i=k::ks.drop (i+1):=by
 obtain ⟨hi,rfl⟩:=List.getElem?_eq_some_iff.1 m
 exact List.drop_eq_getElem_cons hi
theorem abA {F:aw→ByteArray} {ks:List aw} {i:Nat} {k:aw} {t R:ByteArray} (hi:i=0) (m:ks[i]?=some k) (h:t++lA F ks i=R):(t++F k)++lA F ks (i+1)=R:=by
 subst hi
 have e:=Ua m
 rw [List.drop_zero] at e
 rw [lA,if_pos rfl,e,List.map_cons,fF] at h
 rw [lA,if_neg D,← h,ByteArray.append_assoc]
theorem abB {F:aw→ByteArray} {ks:List aw} {i:Nat} {k:aw} {t R:ByteArray} (hi:0<i) (m:ks[i]?=some k) (h:t++lA F ks i=R):((t++bX [⟨#[44,32]⟩])++F k)++lA F ks (i+1)=R:=by
 rw [lA,if_neg D,Ua m,List.map_cons,mF] at h
 rw [lA,if_neg D,← h,bX,bX,ByteArray.append_empty,ByteArray.append_assoc,ByteArray.append_assoc]
theorem abx {F:aw→ByteArray} {ks:List aw} {i:Nat} {t R:ByteArray} (hi:ks.length≤i) (h:t++lA F ks i=R):t=R:=by
 have e:lA F ks i=ByteArray.empty:=by
  unfold lA
  split
  ·rename_i h0
   have:ks=[]:=List.length_eq_zero_iff.1 D
   rw [this];rfl
  ·rw [List.drop_eq_nil_of_le hi];rfl
 rw [e] at h
 rw [← h];exact ByteArray.append_empty.symm
theorem Fv {a b c R:ByteArray} (h:(a++b)++c=R):(a++b).size≤R.size∧a.size≤R.size:=by
 rw [← h];simp only [cm];omega
noncomputable def Wi:Code:=cN [1,1,0,1,0,0] (cH Tryz.f34)
theorem abE (x:aw) (X:U) (hx:aa E G X) (a:dG X x) (F:aw→ByteArray) (k9:∀ k∈x.kids,pf X F k) (b:Nat) (R:ByteArray) (N q0:Nat):∀(m:Nat) (nF:Int) (q:Nat) (t:ByteArray) (H:U),aa E X H→(hB:cn H b t 46 q)→(x0:0≤nF)→(hR:t++lA F x.kids nF.toNat=R)→(hs:R.size≤1000000000)→(cr:X.n≤b)→(aY:X.n≤q)→(wj:q=b∨q=q0∨N≤q)→(hN:N≤H.n)→((x.f.an:Int)-nF).toNat=m→
  cy E X 29 Wi [(0,pt b 0),(10,.slice x.f.pk x.f.an x.f.ak),(11,J (x.f.an:Int)),(12,J nF)] H [b,q] (fun eI T H'=>(eI=(.exit 0)∧∃(kf:Nat),T=bl [(0,pt b 0)]∧(cn H' b R 46 kf∧X.n≤kf∧(kf=b∨kf=q0∨N≤kf)))):=by
 refine d8 fun m ih=>?_
 intro nF q t H y hB x0 hR hs cr aY wj hN hm
 have lL:=a.lL
 refine c9 y ?_
 refine aO 0 (nF<(x.f.an:Int)) ?_ ?_ <;> intro h1 q1
 ·obtain ⟨d1,jC,t1,eE,dh⟩:=a.rk.open D
  have eG:=hx.wf.lt dh
  obtain ⟨au,m2⟩:=a.ua (i:=nF.toNat) D
  refine et 1 H (gz jS bH eE D D:fE E 25 (.slice x.f.pk x.f.an x.f.ak) (J nF)=some (pt d1 (0+nF.toNat*13)))<|Z 0 (kR cv bH (y.cell dh eG) m2 D:ay E 27 d1 (0+nF.toNat*13) H=some (.agg (ae au.f).toArray))<|aC 2 (bT bH rfl rfl rfl rfl:bp E 27 (H.n+0) 0 (.agg (ae au.f).toArray) (news H (am (dg Y)))=some (news H [O (ae au.f) 27]))<|aO 1 (nF>0) ?_ ?_ <;> intro h2 cw
  ·have k7:=hB.lt y
   have Cj:=abB D m2 hR
   have kl:=Fv Cj
   obtain ⟨_,H1,c1,af,y1,rfl,q1,fq,gX,fL⟩:=li hx (H.n+1) b q [⟨#[44,32]⟩] 3 t (y.news [O (ae au.f) 27,O [.string ⟨#[44,32]⟩] 9]) (aL [O (ae au.f) 27,O [.string ⟨#[44,32]⟩] 9] H 1 _ rfl) (cn.news y hB [O (ae au.f) 27,O [.string ⟨#[44,32]⟩] 9]) (by show 1<100000;omega) D cr aY D D
   have cI:=oK af
   have aP:=(y.news [O (ae au.f) 27,O [.string ⟨#[44,32]⟩] 9]).kept af bB (aL [O (ae au.f) 27,O [.string ⟨#[44,32]⟩] 9] H 0 _ rfl)
   have sS:=fq.lt y1
   have fL:q1=b∨q1=q∨H.n≤q1:=by have h:=fL;first |omega |(rw [bU] at h;omega)
   obtain ⟨_,H2,c2,ar,ah,rfl,cw,iV,k4,ib⟩:=k9 au (List.mem_of_getElem? m2) b q1 (t++bX [⟨#[44,32]⟩]) y1 fq cr gX D
   have cl:H1.n+0≤H2.n:=ar.n
   have vS:=iV.lt ah
   have ib:cw=b∨cw=q1∨H1.n≤cw:=by have h:=ib;first |omega |(rw [bU] at h;omega)
   exact ad 2 c1<|Z 1 (cg cv bH aP rfl rfl:ay E 27 (H.n+0) 0 H1=some (.agg (ae au.f).toArray))<|ad 0 c2<|ap 0 (nF+1)<|kW 1 [(0,pt b 0),(10,.slice x.f.pk x.f.an x.f.ak),(11,J (x.f.an:Int)),(12,J (nF+1))] H2 [H.n+0,b,q,b,q1] aQ aQ (ih _ D (nF+1) cw ((t++bX [⟨#[44,32]⟩])++F au) _ ah iV D (by rw [fR D];exact Cj) hs cr k4 D D rfl)
  have k7:=hB.lt y
  have Cj:=abA D m2 hR
  have kl:=Fv Cj
  obtain ⟨_,H1,c1,af,y1,rfl,q1,fq,gX,fL⟩:=k9 au (List.mem_of_getElem? m2) b q t (y.news [O (ae au.f) 27]) (cn.news y hB [O (ae au.f) 27]) cr aY D
  have cI:=dA af
  have sS:=fq.lt y1
  have fL:q1=b∨q1=q∨H.n≤q1:=by have h:=fL;first |omega |(rw [bU] at h;omega)
  exact Z 1 (dy cv bH rfl rfl rfl:ay E 27 (H.n+0) 0 (news H [O (ae au.f) 27])=some (.agg (ae au.f).toArray))<|ad 0 c1<|ap 0 (nF+1)<|kW 1 [(0,pt b 0),(10,.slice x.f.pk x.f.an x.f.ak),(11,J (x.f.an:Int)),(12,J (nF+1))] H1 [H.n+0,b,q] aQ aQ (ih _ D (nF+1) q1 (t++F au) _ y1 fq D (by rw [fR D];exact Cj) hs cr gX D D rfl)
 exact en 0 [(0,pt b 0)] (.exit 0) H [] aZ bi ⟨rfl,q,rfl,⟨abx (by have:=a.an;omega) hR▸hB,aY,wj⟩⟩
theorem Kl (x:aw) (X:U) (hx:aa E G X) (a:dG X x) (F:aw→ByteArray) (k9:∀ k∈x.kids,pf X F k) (b q:Nat) (t:ByteArray) {H:U} (y:aa E X H) (hB:cn H b t 46 q) (cr:X.n≤b) (aY:X.n≤q) (hs:(((t++bX [⟨#[40]⟩])++lA F x.kids 0)++bX [⟨#[41]⟩]).size≤1000000000):aI E X 34 [pt b 0,.agg (ae x.f).toArray] H [b,q] (fun v H'=>v=cZ∧∃ q',cn H' b (((t++bX [⟨#[40]⟩])++lA F x.kids 0)++bX [⟨#[41]⟩]) 46 q'∧X.n≤q'∧(q'=b∨q'=q∨H.n≤q')):=by
 refine br Tryz.f34 y ?_
 have k7:=hB.lt y
 have kl:=Fv (rfl:(((t++bX [⟨#[40]⟩])++lA F x.kids 0)++bX [⟨#[41]⟩])=_)
 obtain ⟨_,H1,c1,af,y1,rfl,q1,fq,gX,fL⟩:=li hx (H.n+1) b q [⟨#[40]⟩] 3 t (y.news [O (ae x.f) 27,O [.string ⟨#[40]⟩] 9]) (aL [O (ae x.f) 27,O [.string ⟨#[40]⟩] 9] H 1 _ rfl) (cn.news y hB [O (ae x.f) 27,O [.string ⟨#[40]⟩] 9]) (by show 1<100000;omega) D cr aY D D
 have cI:=oK af
 have aP:=(y.news [O (ae x.f) 27,O [.string ⟨#[40]⟩] 9]).kept af bB (aL [O (ae x.f) 27,O [.string ⟨#[40]⟩] 9] H 0 _ rfl)
 have sS:=fq.lt y1
 have fL:q1=b∨q1=q∨H.n≤q1:=by have h:=fL;first |omega |(rw [bU] at h;omega)
 obtain ⟨_,_,H2,c2,ar,ah,rfl,LN,rfl,EV⟩:=(abE x X hx a F k9 b ((t++bX [⟨#[40]⟩])++lA F x.kids 0) H1.n q1 _ 0 q1 (t++bX [⟨#[40]⟩]) _ y1 fq D rfl D cr gX (.inr (.inl rfl)) (Nat.le_refl _) rfl).code
 have cl:H1.n+0≤H2.n:=ar.n
 have ib:=EV.2.2
 have vS:=EV.1.lt ah
 obtain ⟨_,H3,c3,aW,az,rfl,dv,nf,py,ke⟩:=li hx (H2.n+0) b LN [⟨#[41]⟩] 3 ((t++bX [⟨#[40]⟩])++lA F x.kids 0) (ah.news [O [.string ⟨#[41]⟩] 9]) (aL [O [.string ⟨#[41]⟩] 9] H2 0 _ rfl) (cn.news ah EV.1 [O [.string ⟨#[41]⟩] 9]) (by show 1<100000;omega) D cr EV.2.1 D D
 have dD:=dA aW
 have ke:dv=b∨dv=LN∨H2.n≤dv:=by have h:=ke;first |omega |(rw [bU] at h;omega)
 exact ad 3 c1<|Z 1 (ag 12 dK aP)<|bW 2 c2<|ad 2 c3<|aV 0 (.tuple #[]) H3 [b,q,b,q1,b,LN] aQ bi ⟨rfl,dv,nf,py,D⟩
theorem aha {X:U} (hx:aa E G X) (b q:Nat) (t:ByteArray) {H:U} (y:aa E X H) (B:cn H b t 46 q) (cr:X.n≤b) (aY:X.n≤q) (hs:t.size≤1000000000):aI E X 17 [pt b 0] H [q] (fun v H'=>v=.string t):=by
 have h1:=hx.n
 exact aI.lift (ag8 b q 46 t (gg hx y) B (.inr rfl) D D hs) y (by simpa using aY)
theorem ahQ (x:aw) (X:U) (hx:aa E G X) (hs:gm X x) (hf:nK x) (hr:fb x=true) (hT:mS x=true) {H:U} (y:aa E X H):aI E X 10 [.agg (ae x.f).toArray] H [] (fun v H'=>v=aN):=(TK x X hx hs hf hr y).mono fun v H' e=>by rw [e,hT]
theorem LG (x:aw) (X:U) (hx:aa E G X) (F:aw→ByteArray) (hP:pf X F x) {H:U} (y:aa E X H) (hs:gm X x) (hf:nK x) (hr:fb x=true) (hT:mS x=true) (hz:(F x).size≤1000000000):aI E X 7 [.agg (ae x.f).toArray] H [] (fun v H'=>v=.tuple #[.string (F x),.nilIface]):=by
 refine br Tryz.f7 y ?_
 obtain ⟨_,H1,c1,af,y1,rfl⟩:=ahQ x X hx hs hf hr hT (y.news [O (ae x.f) 27])
 have cI:=dA af
 have g1:=y1.n
 have aP:=(y.news [O (ae x.f) 27]).kept af ai (aL [O (ae x.f) 27] H 0 _ rfl)
 obtain ⟨_,H2,c2,ar,ah,rfl,cw,iV,k4,ib⟩:=hP (H1.n+0) (H1.n+0) ByteArray.empty (y1.news (Gr vt)) (cn.start (aL (Gr vt) H1 0 _ rfl)) D D (by rw [ByteArray.empty_append];exact hz)
 have cl:=dA ar
 have vS:=iV.lt ah
 have ib:cw=(H1.n+0)∨cw=(H1.n+0)∨H1.n≤cw:=by have h:=ib;first |omega |(rw [bU] at h;omega)
 obtain ⟨_,H3,c3,aW,az,rfl⟩:=aha hx (H1.n+0) cw (ByteArray.empty++F x) ah iV D k4 (by rw [ByteArray.empty_append];exact hz)
 have dD:H2.n+0≤H3.n:=aW.n
 exact Z 3 (dy cv bH rfl rfl rfl:ay E 27 (H.n+0) 0 (news H [O (ae x.f) 27])=some (.agg (ae x.f).toArray))<|ad 0 c1<|Z 2 (cg cv bH (y1.old aP (Gr vt)) rfl rfl:ay E 27 (H.n+0) 0 (news H1 (Gr vt))=some (.agg (ae x.f).toArray))<|ad 0 c2<|ad 1 c3<|aV 2 (.tuple #[.string (ByteArray.empty++F x),.nilIface]) H3 [H1.n+0,H1.n+0,cw] aQ aZ (by rw [ByteArray.empty_append])
noncomputable def WR:Code:=cN [] (cH Tryz.f29)
theorem aeQ (a b q:Nat) (ws:List ByteArray) (c:Nat) (t:ByteArray)  {H:U} (y:aa E G H) (ka:H.get a=some (O (eH ws) 9)) (hB:cn H b t 46 q) (hl:ws.length<100000) (hs:(t++bX ws).size≤1000000000) (cr:G.n≤b) (aY:G.n≤q) (rh:a≠b) (tH:a≠q) :
  jF E G 18 WR [(0,pt b 0),(1,sc a 0 ws.length c)] H [b,q] (fun x T H'=>(x=.normal∧∃(kf:Nat),T=bl []∧(cn H' b (t++bX ws) 46 kf∧G.n≤kf∧(kf=b∨kf=q∨H.n≤kf)))):=by
 refine nA y ?_
 obtain ⟨_,_,H1,c1,af,y1,rfl,LM,rfl,Jq⟩:=(R3 a b ws c (t++bX ws) H.n q _ 0 q t _ y ka hB hl D rfl hs cr aY rh tH (.inr (.inl rfl)) (Nat.le_refl _) rfl).code
 exact bW 3 c1<|js 0 [] .normal H1 [b,q] bD bi ⟨rfl,LM,rfl,Jq⟩
end Go.Proofs.YtbehemdcaiigeaaGreatDoor
namespace Go.Am
section
variable {E:Env}
open Classical in
theorem bE.adN (hS:Sound E) {g g2:FuncId} {fn tK:Func} {c c2:Code} {args args2:List Value} {x au:eY} {T jV:b5} {H H1 H2:U} {fa jW:List Nat} {v v2:Value}
  (hp:E.x5 g=none) (hf:E.func g=some fn) (hb:fn.body=some c) (hn:Nat.ble args.length fn.ntmps=true) (hl:J2 c=false) (hx:x=.normal∨x=.ret)
  (h1:c7 E fn.ntmps c (mj args 0 .nil) H [] x T H1 [(.func (.func g2) #[] #[],args2)] fa)
  (qH:E.zn g2=none) (Y1:E.func g2=some tK) (cJ:tK.body=some c2) (hn2:Nat.ble args2.length tK.ntmps=true) (gy:J2 c2=false) (JT:au=.normal∨au=.ret) (hne:tK.ntmps≠fn.ntmps)
  (h2:c7 E tK.ntmps c2 (mj args2 0 .nil) H1 [] au jV H2 [] jW) (xz:rZ E tK ⟨jV,H2,[],jW⟩=some v2) (hr:rZ E fn ⟨T,H2,[],[]⟩=some v):bE E g args H (.ret v) H2 (fa++jW):=fun wf cu=>by
 let code:Nat→Code→gp→Option (eY×gp):=fun aq d4 s=>
  if aq=fn.ntmps∧d4=c∧s=⟨mj args 0 .nil,H,[],[]⟩ then some (x,⟨T,H1,[(.func (.func g2) #[] #[],args2)],fa⟩)
  else if aq=tK.ntmps∧d4=c2∧s=⟨mj args2 0 .nil,H1,[],[]⟩ then some (au,⟨jV,H2,[],jW⟩) else none
 have vA:∀ aq,A6 E 0 aq (code aq):=by
  intro aq d4 s y s' h wf' PC
  simp only [code] at h
  split at h
  ·rename_i e
   obtain ⟨rfl,rfl,rfl⟩:=e
   cases h
   obtain ⟨a1,a2,a3⟩:=h1 wf' PC
   exact ⟨fa,by simp,a1,a2,fun base φ w a ha hfr=>wP.of hl (wp_mono (a3 base φ w a ha hfr) fun e a w hp=>hp)⟩
  ·split at h
   ·rename_i e
    obtain ⟨rfl,rfl,rfl⟩:=e
    cases h
    obtain ⟨a1,a2,a3⟩:=h2 wf' PC
    exact ⟨jW,by simp,a1,a2,fun base φ w a ha hfr=>wP.of gy (wp_mono (a3 base φ w a ha hfr) fun e a w hp=>hp)⟩
   ·cases h
 refine Oc hS vA g args H _ _ _ ?_ wf cu
 have e1:code fn.ntmps c ⟨mj args 0 .nil,H,[],[]⟩=some (x,⟨T,H1,[(.func (.func g2) #[] #[],args2)],fa⟩):=by simp only [code,and_self,if_true]
 have e2:code tK.ntmps c2 ⟨mj args2 0 .nil,H1,[],[]⟩=some (au,⟨jV,H2,[],jW⟩):=by
  simp only [code]
  rw [if_neg (fun h=>hne h.1)];simp only [and_self,if_true]
 have aM:qM E code fn T [(.func (.func g2) #[] #[],args2)] none H1 fa=some (.ret v,H2,fa++jW):=by
  simp only [qM,qH,Y1,cJ,List.nil_append,List.append_nil,hn2,cond_true,e2]
  rcases JT with rfl |rfl
  ·simp only [xz,hr]
  ·simp only [xz,hr]
 unfold En
 simp only [hp,hf,hb,hn,cond_true,e1]
 rcases hx with rfl |rfl
 ·exact aM
 ·exact aM
end
def MB (E:Env) (fn:Func) (f:Nat) (args:List Value) (H:U) (hs:List Hint):Option (List Prop×U×jw×List Nat):=
 match ob E fn.ntmps f (cH fn) (mj args 0 .nil) H [] hs with
 |some (Ps,x,cO,H',d',W,[])=>match (match x with |.ret=>true |.normal=>true |_=>false) with
  |true=>some (Ps,H',d',W)
  |false=>none
 |_=>none
theorem c7.adP {E:Env} (ok:E.eU) {fn:Func} {f:Nat} {args:List Value} {H H':U} {hs:List Hint} {Ps:List Prop} {d':jw} {W:List Nat} (h:MB E fn f args H hs=some (Ps,H',d',W)) (hp:fU Ps) :
  ∃ x cO,(x=.normal∨x=.ret)∧c7 E fn.ntmps (cH fn) (mj args 0 .nil) H [] x cO H' d' W:=by
 unfold MB at h
 split at h
 ·rename_i tA x fT H1 d1 fa hr
  split at h
  ·rename_i hx
   simp only [bx,bG] at h
   obtain ⟨rfl,rfl,rfl,rfl⟩:=h
   refine ⟨x,fT,?_,nB ok f _ _ _ _ _ _ _ _ _ _ _ _ hr hp⟩
   cases x with
   |normal=>exact .inl rfl
   |ret=>exact .inr rfl
   |_=>cases hx
  ·cases h
 ·cases h
end Go.Am
namespace Go.Proofs.YtbehemdcaiigeaaGreatDoor
open Go Go.Am
def H0 (E:Env) (G:U) (fn:Func) (args:List Value) (H:U) (V:List Nat) (Q:jw→U→Prop):Prop:=
 ∃ x cO H' d',(x=.normal∨x=.ret)∧c7 E fn.ntmps (cH fn) (mj args 0 .nil) H [] x cO H' d' V∧cX V H H'∧aa E G H'∧Q d' H'
def Ns (fn:Func) (G:U) (args:List Value) (H:U) (V:List Nat) (Q:jw→U→Prop):Prop:=aa E G H→H0 E G fn args H V Q
theorem agD {fn:Func} {G H:U} {args:List Value} {V:List Nat} {Q:jw→U→Prop} (y:aa E G H) (k:eK (fun l=>l) (fun q=>q) (Ns fn G args H V Q)):H0 E G fn args H V Q:=k (fun _ h=>h) y
theorem agB {pre:List Hint→List Hint} {C:Prop→Prop} {fn:Func} {G H:U} {args:List Value} {V:List Nat} {Q:jw→U→Prop} (n:Nat) (d':jw) (H':U) (W:List Nat) (hw:∀ q∈W,q∈V∨(H.n≤q∧q<H'.n)) (hv:∀ q∈V,G.n≤q) (hq:Q d' H') (h:(MB E fn 300 args H (pre (i6 n []))).map (fun r=>(fU r.1,r.2))=some (C True,H',d',W):=by kernel_rfl):eK pre C (Ns fn G args H V Q):=fun hc y=>by
 obtain ⟨⟨Ps,r⟩,h1,h2⟩:=Option.map_eq_some_iff.1 h
 injection h2 with h2 h3
 subst h3
 obtain ⟨x,cO,hx,IC⟩:=c7.adP ok h1 (h2▸hc True trivial)
 have Oh:=IC.post (lK.refl _) hw
 obtain ⟨e,wf,_⟩:=Oh y.wf y.vW
 exact ⟨x,cO,H',d',hx,Oh,e,y.step e wf hv,hq⟩
theorem abz (x:aw) (X:U) (hx:aa E G X) (F:aw→ByteArray) (hP:pf X F x) (b q:Nat) (t:ByteArray) {H:U} (y:aa E X H) (hB:cn H b t 46 q) (cr:X.n≤b) (aY:X.n≤q) (hs:(((t++bX [⟨#[40]⟩])++F x)++bX [⟨#[41]⟩]).size≤1000000000):H0 E X Tryz.f36 [pt b 0,.agg (ae x.f).toArray,aN] H [b,q] (fun d H'=>∃ q1 r,d=[(.func (.func 29) #[] #[],[pt b 0,sc r 0 1 3])]∧H'.get r=some (O (eH [⟨#[41]⟩]) 9)∧cn H' b ((t++bX [⟨#[40]⟩])++F x) 46 q1∧X.n≤q1∧(q1=b∨q1=q∨H.n≤q1)∧H.n≤r∧r≠q1):=by
 refine agD y ?_
 have k7:=hB.lt y
 have kl:=Fv (rfl:((t++bX [⟨#[40]⟩])++F x)++bX [⟨#[41]⟩]=_)
 obtain ⟨_,H1,c1,af,y1,rfl,q1,fq,gX,fL⟩:=li hx (H.n+1) b q [⟨#[40]⟩] 3 t (y.news [O (ae x.f) 27,O [.string ⟨#[40]⟩] 9]) (aL [O (ae x.f) 27,O [.string ⟨#[40]⟩] 9] H 1 _ rfl) (cn.news y hB [O (ae x.f) 27,O [.string ⟨#[40]⟩] 9]) (by show 1<100000;omega) D cr aY D D
 have cI:=oK af
 have aP:=(y.news [O (ae x.f) 27,O [.string ⟨#[40]⟩] 9]).kept af bB (aL [O (ae x.f) 27,O [.string ⟨#[40]⟩] 9] H 0 _ rfl)
 have sS:=fq.lt y1
 have fL:q1=b∨q1=q∨H.n≤q1:=by have h:=fL;first |omega |(rw [bU] at h;omega)
 obtain ⟨_,H2,c2,ar,ah,rfl,cw,iV,k4,ib⟩:=hP b q1 (t++bX [⟨#[40]⟩]) (y1.news [O [.string ⟨#[41]⟩] 9]) (cn.news y1 fq [O [.string ⟨#[41]⟩] 9]) cr gX D
 have cl:=dA ar
 have iW:=(y1.news [O [.string ⟨#[41]⟩] 9]).kept ar bB (aL [O [.string ⟨#[41]⟩] 9] H1 0 _ rfl)
 have ib:cw=b∨cw=q1∨H1.n+1≤cw:=by simpa only [bU,cj,cF] using ib
 exact ad 4 c1<|Z 4 (cg cv bH (y1.old aP [O [.string ⟨#[41]⟩] 9]) rfl rfl:ay E 27 (H.n+0) 0 (news H1 [O [.string ⟨#[41]⟩] 9])=some (.agg (ae x.f).toArray))<|ad 0 c2<|agB 0 [(.func (.func 29) #[] #[],[pt b 0,sc (H1.n+0) 0 1 3])] H2 [b,q,b,q1] aQ bi ⟨cw,H1.n+0,rfl,iW,iV,k4,D,D,D⟩
theorem abt:E.func 36=some Tryz.f36:=av
theorem abs:E.func 29=some Tryz.f29:=av
theorem aby (x:aw) (X:U) (hx:aa E G X) (F:aw→ByteArray) (hP:pf X F x) (b q:Nat) (t:ByteArray) {H:U} (y:aa E X H) (hB:cn H b t 46 q) (cr:X.n≤b) (aY:X.n≤q) (hs:(((t++bX [⟨#[40]⟩])++F x)++bX [⟨#[41]⟩]).size≤1000000000):aI E X 36 [pt b 0,.agg (ae x.f).toArray,aN] H [b,q] (fun v H'=>v=cZ∧∃ q',cn H' b (((t++bX [⟨#[40]⟩])++F x)++bX [⟨#[41]⟩]) 46 q'∧X.n≤q'∧(q'=b∨q'=q∨H.n≤q')):=by
 have hl:=hB.lt y
 have hn0:=hx.n
 obtain ⟨x1,fT,H1,d1,hx1,V5,e1,y1,q1,r,rfl,Kx,fq,gX,fL,tW,xz⟩:=abz x X hx F hP b q t y hB cr aY hs
 have j6:=e1.n
 have sS:=fq.lt y1
 obtain ⟨au,jV,H2,V6,e2,ah,rfl,kf,rfl,YF,ajA,akK⟩:=aeQ r b q1 [⟨#[41]⟩] 3 _ (gg hx y1) Kx fq (by show 1<100000;omega) hs D D D xz
 have hn2:=e2.n
 have c:=bE.adN (E:=E) sound (g:=36) (g2:=29) (fn:=Tryz.f36) (tK:=Tryz.f29) (c:=cH Tryz.f36) (c2:=cH Tryz.f29) (args:=[pt b 0,.agg (ae x.f).toArray,aN]) (args2:=[pt b 0,sc r 0 1 3]) (au:=.normal) (v:=cZ) (v2:=cZ) av abt av rfl av hx1 V5 av abs av rfl av (.inl rfl) (by decide) V6 rfl rfl
 refine aI.mk y c ?_ ?_ ⟨rfl,kf,YF,?_,?_⟩
 ·intro i hi
  simp only [List.cons_append,List.nil_append,List.mem_cons,ai,or_false] at hi ⊢
  omega
 ·intro i hi
  simp only [List.mem_cons,ai,or_false] at hi
  omega
 ·have:=y.n;omega
 ·omega
theorem abC (x:aw) (X:U) (hx:aa E G X) (F:aw→ByteArray) (hP:pf X F x) (b q:Nat) (t:ByteArray) {H:U} (y:aa E X H) (hB:cn H b t 46 q) (cr:X.n≤b) (aY:X.n≤q) (hs:(t++F x).size≤1000000000):aI E X 36 [pt b 0,.agg (ae x.f).toArray,Y] H [b,q] (fun v H'=>v=cZ∧∃ q',cn H' b (t++F x) 46 q'∧X.n≤q'∧(q'=b∨q'=q∨H.n≤q')):=by
 refine br Tryz.f36 y ?_
 have k7:=hB.lt y
 obtain ⟨_,H1,c1,af,y1,rfl,q1,fq,gX,fL⟩:=hP b q t (y.news [O (ae x.f) 27]) (cn.news y hB [O (ae x.f) 27]) cr aY D
 have fL:q1=b∨q1=q∨H.n+1≤q1:=by simpa only [bU,cj,cF] using fL
 exact Z 3 (dy cv bH rfl rfl rfl:ay E 27 (H.n+0) 0 (news H [O (ae x.f) 27])=some (.agg (ae x.f).toArray))<|ad 0 c1<|aV 0 (.tuple #[]) H1 [b,q] bD bi ⟨rfl,q1,fq,gX,D⟩
def mH (F:aw→ByteArray) (k:aw) (i:Bool):ByteArray:=if i then bX [⟨#[40]⟩]++(F k++bX [⟨#[41]⟩]) else F k
theorem Cg (x:aw) (X:U) (hx:aa E G X) (F:aw→ByteArray) (hP:pf X F x) (i:Bool) (b q:Nat) (t:ByteArray) {H:U} (y:aa E X H) (hB:cn H b t 46 q) (cr:X.n≤b) (aY:X.n≤q) (hs:(t++mH F x i).size≤1000000000):aI E X 36 [pt b 0,.agg (ae x.f).toArray,.bool i] H [b,q] (fun v H'=>v=cZ∧∃ q',cn H' b (t++mH F x i) 46 q'∧X.n≤q'∧(q'=b∨q'=q∨H.n≤q')):=by
 cases i with
 |false=>exact abC x X hx F hP b q t y hB cr aY hs
 |true=>
  have e:t++mH F x true=((t++bX [⟨#[40]⟩])++F x)++bX [⟨#[41]⟩]:=by
   rw [mH,if_pos rfl,ByteArray.append_assoc,ByteArray.append_assoc]
  rw [e] at hs ⊢
  exact aby x X hx F hP b q t y hB cr aY hs
def jq (c:Bool) (w:ByteArray):ByteArray:=bif c then w else ByteArray.empty
theorem n4 {c:Bool} {w:ByteArray} (h:c=true):jq c w=w:=by rw [jq,h];rfl
theorem Aa {c:Bool} {w:ByteArray} (h:c=false):jq c w=ByteArray.empty:=by rw [jq,h];rfl
theorem Ab (c:Bool) (w:ByteArray):(jq c w).size≤w.size:=by
 cases c
 ·exact Nat.zero_le _
 ·exact Nat.le_refl _
def kJ (t s:ByteArray):Prop:=∃ a b,s=(a++t)++b
theorem kJ.refl (t:ByteArray):kJ t t:=⟨ByteArray.empty,ByteArray.empty,by rw [ByteArray.empty_append,ByteArray.append_empty]⟩
theorem kJ.pre {t s:ByteArray} (h:kJ t s) (a:ByteArray):kJ t (a++s):=by
 obtain ⟨b,c,rfl⟩:=h
 exact ⟨a++b,c,by simp only [ByteArray.append_assoc]⟩
theorem kJ.post {t s:ByteArray} (h:kJ t s) (a:ByteArray):kJ t (s++a):=by
 obtain ⟨b,c,rfl⟩:=h
 exact ⟨b,c++a,by simp only [ByteArray.append_assoc]⟩
theorem kJ.at {t s:ByteArray} (h:kJ t s):∃ p,p+t.size≤s.size∧s.extract p (p+t.size)=t:=by
 obtain ⟨a,b,rfl⟩:=h
 refine ⟨a.size,by simp only [cm];omega,?_⟩
 apply ByteArray.ext
 apply Array.ext'
 have h1:a.size=a.data.toList.length:=rfl
 have h2:t.size=t.data.toList.length:=rfl
 simp only [ByteArray.data_extract,ByteArray.data_append,Array.toList_extract,Array.toList_append,List.extract]
 rw [h1,h2,List.append_assoc,List.drop_left]
 rw [show a.data.toList.length+t.data.toList.length-a.data.toList.length=t.data.toList.length by omega,List.take_left]
theorem PX {sep w:ByteArray}:∀{ws:List ByteArray},w∈ws→kJ w (mF sep ws)
 |[],h=>by cases h
 |v::l,h=>by
  rw [mF]
  rcases List.mem_cons.1 h with rfl |h
  ·exact ((kJ.refl _).post _).pre _
  ·exact ((PX h).pre _).pre _
theorem aa9 {sep w:ByteArray} {ws:List ByteArray} (h:w∈ws):kJ w (fF sep ws):=by
 cases ws with
 |nil=>cases h
 |cons v l=>
  rw [fF]
  rcases List.mem_cons.1 h with rfl |h
  ·exact (kJ.refl _).post _
  ·exact (PX h).pre _
def tF:Nat→aw→Nat
 |0,_=>1
 |n+1,x=>1+(x.kids.map (tF n)).sum
theorem r4 {x:aw} (h:gN x=true):∀ k∈x.kids,gN k=true:=by
 have h1:mg x.kids=true:=by
  rw [n9] at h
  simp only [dI] at h
  exact h.2.2.2.2
 have aux:∀ l:List aw,mg l=true→∀ k∈l,gN k=true:=by
  intro l
  induction l with
  |nil=>intro _ k hk;cases hk
  |cons y l ih=>
   intro hl k hk
   rw [mg,dI] at hl
   rcases List.mem_cons.1 hk with rfl |hk
   ·exact hl.1
   ·exact ih hl.2 k hk
 exact aux _ h1
theorem Dm {x:aw} (h:gN x=true):gZ x≤300:=by
 rw [n9] at h
 simp only [dI,Bool.not_eq_true',decide_eq_false_iff_not] at h
 omega
theorem Mm {x:aw} (h:gN x=true):x.f.s.size≤400:=by
 rw [n9] at h
 simp only [dI,Bool.not_eq_true',decide_eq_false_iff_not] at h
 omega
theorem Ha {x:aw} (h:gN x=true):∀ m∈x.ms,m.2.2.size≤250∧m.2.1.size≤400:=by
 have h1:it x.ms=true:=by
  rw [n9] at h
  simp only [dI] at h
  exact h.2.2.1
 have aux:∀ l:List fS,it l=true→∀ m∈l,m.2.2.size≤250∧m.2.1.size≤400:=by
  intro l
  induction l with
  |nil=>intro _ k hk;cases hk
  |cons y l ih=>
   intro hl k hk
   rw [it] at hl
   simp only [dI,Bool.not_eq_true',decide_eq_false_iff_not] at hl
   rcases List.mem_cons.1 hk with rfl |hk
   ·omega
   ·exact ih hl.2 k hk
 exact aux _ h1
theorem S7 {x:aw} (h:gN x=true):∀ s∈x.ns,s.size≤400:=by
 have h1:lf x.ns=true:=by
  rw [n9] at h
  simp only [dI] at h
  exact h.2.2.2.1
 have aux:∀ l:List ByteArray,lf l=true→∀ m∈l,m.size≤400:=by
  intro l
  induction l with
  |nil=>intro _ k hk;cases hk
  |cons y l ih=>
   intro hl k hk
   rw [lf] at hl
   simp only [dI,Bool.not_eq_true',decide_eq_false_iff_not] at hl
   rcases List.mem_cons.1 hk with rfl |hk
   ·omega
   ·exact ih hl.2 k hk
 exact aux _ h1
theorem tk {x:Int} (h0:-9223372036854775808≤x) (h1:x<9223372036854775808):jv x=x:=kX h0 h1
theorem Dn {g:aw→Nat}:∀(l:List aw) (n:Int),(∀ k∈l,1≤gZ k∧gZ k≤300∧(g k:Int)≤gZ k)→1≤n→n≤1125899906842624→pN l n≤300→n+((l.map g).sum:Int)≤pN l n
 |[],n,_,_,_,_=>by simp [pN]
 |x::l,n,h,h0,h1,hr=>by
  obtain ⟨a1,a2,a3⟩:=h x (List.mem_cons_self ..)
  rw [pN] at hr ⊢
  by_cases hn:n≤300
  ·rw [if_pos hn] at hr ⊢
   rw [tk D D] at hr ⊢
   have:=Dn (g:=g) l (n+gZ x) (fun k hk=>h k (List.mem_cons_of_mem _ hk)) D D hr
   rw [List.map_cons,List.sum_cons]
   omega
  ·rw [if_neg hn] at hr
   omega
theorem Ez {X:U}:∀(n:Nat) {x:aw},gm X x→gN x=true→1≤gZ x∧gZ x≤300∧(tF n x:Int)≤gZ x:=by
 intro n x hl
 induction hl generalizing n with
 |@mk x a _ ih=>
  intro hs
  have h3:=Dm hs
  have b1:=a.bm
  have b2:=a.fm
  rw [Hc] at h3 ⊢
  have e:jv (jv (1+(x.f.nm:Nat))+(x.f.nn:Nat))=1+(x.f.nm:Int)+(x.f.nn:Int):=by
   rw [tk (x:=1+(x.f.nm:Int)) D D,tk D D]
  rw [e] at h3 ⊢
  cases n with
  |zero=>
   have:=Dn (g:=tF 0) x.kids (1+(x.f.nm:Int)+(x.f.nn:Int)) (fun k hk=>ih k hk 0 (r4 hs k hk)) D D h3
   refine ⟨D,h3,?_⟩
   show (1:Int)≤_
   omega
  |succ n=>
   have:=Dn (g:=tF n) x.kids (1+(x.f.nm:Int)+(x.f.nn:Int)) (fun k hk=>ih k hk n (r4 hs k hk)) D D h3
   refine ⟨D,h3,?_⟩
   rw [tF]
   omega
end Go.Proofs.YtbehemdcaiigeaaGreatDoor
