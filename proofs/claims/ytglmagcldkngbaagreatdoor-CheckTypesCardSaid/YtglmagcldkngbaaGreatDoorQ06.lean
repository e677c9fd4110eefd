/- Part of the proof that CheckTypes answers true. -/
import Derived.Test.YtglmagcldkngbaaGreatDoorQ05
import Derived.Test.YtglmagcldkngbaaGreatDoorQ03
import Derived.Test.YtglmagcldkngbaaGreatDoorQ04
set_option linter.unusedVariables false
set_option linter.unusedSimpArgs false
set_option maxRecDepth 100000
set_option maxHeartbeats 4000000
namespace Go.Proofs.YtglmagcldkngbaaGreatDoor
open Go Go.Am
theorem L5:rm E #[108,108] 112 3 32=true:=an
noncomputable def UM:Code:=cw [1,1,1,1,0,0,0] (cx Tryz.f73)
noncomputable abbrev hG ew eu ey:=([M ew,M eu,.string ey]:List Value)
noncomputable abbrev Fw H ew eu ey:=news H (iS (hG ew eu ey))
noncomputable abbrev PH H ew eu ey p:=news H [O (hG ew eu ey) 112,O [M p,.iface 41 (M 5)] 140]
noncomputable abbrev CK H ew eu ey:=news H [O (hG ew eu ey) 112,O (hG ew eu ey) 112]
theorem aa0 (b:Nat) (s:ByteArray):∀(m:Nat) (p:Int) (q:Nat) (ts:List (Int×Int×ByteArray)) (H:Z),aa E G H→(kb:H.get b=some (O [.string s,M p] 135))→(b9:H.get q=some (O (qs ts) 112))→(hs:(s.size:Int)<100000)→(pv:G.n≤b)→(x0:0≤p)→(x1:p≤s.size)→(hT:vw s ts p)→(b0:0<ts.length)→(d8:(ts.length:Int)≤p)→(eJ:G.n≤q)→(dq:q≠b)→((s.size:Int)-p).toNat=m→
  bV E G 52 UM [(0,.string s),(4,sc q 0 ts.length 6),(5,pt b 0)] H [b,q] (fun x T H'=>(x=(.exit 0)∧T=aP [(4,.slice none 0 0)]∧(isWord s=false))∨(x=(.exit 0)∧∃(qy:Nat) (vo:List (Int×Int×ByteArray)),T=aP [(4,sc qy 0 vo.length 6)]∧(H'.get qy=some (O (qs vo) 112)∧0<vo.length∧(vo=[(1,0,s)]↔isWord s=true)))∨(x=.ret∧∃(sv:Nat),T=aP [(2,.slice none 0 0),(3,.iface 128 (pt sv 0))]∧(isWord s=false))):=by
 refine dJ fun m ih=>?_
 intro p q ts H y kb b9 hs pv x0 x1 hT b0 d8 eJ dq hm
 have g0:=y.n
 refine cN y ?_
 have z8:=y.wf.lt kb
 have qP:=y.wf.lt b9
 refine Y 1 (ag 1 av kb)<|aD 2 (p<(s.size:Int)) ?_ ?_ <;> intro h1 q1
 ·obtain ⟨rq,Mz,Ik⟩:=OZ s p hs J J
  refine Y 0 (cd p0 pL kb rfl rfl:al E 135 b 0 H=some (.agg #[.string s,M p]))<|ac 0 (Ik y)<|aD 2 (rq>0) ?_ ?_ <;> intro h2 cv
  ·obtain ⟨aU,e1⟩:∃ ao,ao=H.set b (O [.string s,M (p+rq)] 135):=⟨_,rfl⟩
   have y1:aa E G aU:=e1▸y.set _ J J
   have c8:aU.n=H.n+0:=by rw [e1,Z.cI] <;> rfl
   have gB:=bz e1
   have eY:=bW e1 J b9
   exact Y 1 (ag 1 av kb)<|aH 1 (p+rq)<|aB 1 (stx 1 (M (p+rq)) dK kb e1)<|ji 0 [(0,.string s),(4,sc q 0 ts.length 6),(5,pt b 0)] aU [b] aW aJ (ih _ J (p+rq) q ts _ y1 gB eY hs pv J J (afI hT J) b0 J J J rfl)
  obtain ⟨ew,eu,ey,sj,Li,IL⟩:=O0 s p hs J J
  refine Y 0 (cd p0 pL kb rfl rfl:al E 135 b 0 H=some (.agg #[.string s,M p]))<|ac 0 (IL y)<|aB 4 (bG e4 rfl rfl rfl rfl:bu E 112 (H.n+0) 0 (.agg (hG ew eu ey).toArray) (news H (iS cL))=some (Fw H ew eu ey))<|aY 2 sj 0 ?_ ?_ <;> intro h3 cY
  ·exact Y 1 (ag 1 av (y.old kb (iS (hG ew eu ey))))<|c5 6 [(2,.slice none 0 0),(3,.iface 128 (pt (H.n+1) 0))] .ret (PH H ew eu ey p) [H.n+0] aJ aZ (.inr (.inr ⟨rfl,H.n+1,rfl,afH hT J⟩))
  obtain ⟨aU,e1⟩:∃ ao,ao=((CK H ew eu ey).set q .dead).new (O (qs (ts++[(ew,eu,ey)])) 112):=⟨_,rfl⟩
  have y1:aa E G aU:=pM (y.news [O (hG ew eu ey) 112,O (hG ew eu ey) 112]) e1 J (by rw [dj];simp only [dX,e3];omega)
  have c8:aU.n=H.n+3:=by rw [pN e1,dj] <;> rfl
  have lN:aU.get (H.n+2)=some (O (qs (ts++[(ew,eu,ey)])) 112):=pO e1
  have gB:=jU (y.news [O (hG ew eu ey) 112,O (hG ew eu ey) 112]) e1 J (y.old kb [O (hG ew eu ey) 112,O (hG ew eu ey) 112])
  obtain ⟨aK,e2⟩:∃ ao,ao=aU.set b (O [.string s,M (p+sj)] 135):=⟨_,rfl⟩
  have ar:aa E G aK:=e2▸y1.set _ J J
  have cB:aK.n=aU.n+0:=by rw [e2,Z.cI] <;> rfl
  have oJ:=bz e2
  have Zg:=bW e2 J lN
  exact Y 1 (dt j9 e4 rfl rfl rfl:al E 112 (H.n+0) 0 (Fw H ew eu ey)=some (.agg (hG ew eu ey).toArray))<|g8 1 (show gZ E #[108,108] (sc q 0 ts.length 6) (sc (H.n+1) 0 1 3) (CK H ew eu ey)=some (sc (H.n+2) 0 ((ts++[(ew,eu,ey)]).length) 6,aU,[q],[q,H.n+1]) from (pd L5 rfl (show g9 (CK H ew eu ey) 3 (sc (H.n+1) 0 1 3)=some (1,[M ew,M eu,.string ey],[H.n+1]) from js (aR [O (hG ew eu ey) 112,O (hG ew eu ey) 112] H 1 _ rfl) (gg rfl)) rfl (y.old b9 [O (hG ew eu ey) 112,O (hG ew eu ey) 112]) (by rw [GJ];omega) J).trans (by rw [afX ts ew eu ey,afY ts ew eu ey,e1] <;> rfl))<|Y 2 (ag 1 av gB)<|aH 1 (p+sj)<|aB 1 (stx 1 (M (p+sj)) dK gB e2)<|ji 0 [(0,.string s),(4,sc (H.n+2) 0 ((ts++[(ew,eu,ey)]).length) 6),(5,pt b 0)] aK [H.n+0,q,b] aJ aJ (ih _ J (p+sj) (H.n+2) (ts++[(ew,eu,ey)]) _ ar oJ Zg hs pv J J (afG hT J b0) aW (by simp;omega) J J rfl)
 exact c5 0 [(4,sc q 0 ts.length 6)] (.exit 0) H [] aL aZ (.inr (.inl ⟨rfl,q,ts,rfl,⟨b9,b0,afE hT⟩⟩))
noncomputable def UL:Code:=cw [1,1,1,1,0,0,0] (cx Tryz.f73)
noncomputable abbrev PI H ew eu ey:=news H [O (hG ew eu ey) 112,O (hG ew eu ey) 112,O (hG ew eu ey) 112]
theorem aaV (b:Nat) (s:ByteArray):∀(m:Nat) (p:Int) (H:Z),aa E G H→(kb:H.get b=some (O [.string s,M p] 135))→(hs:(s.size:Int)<100000)→(pv:G.n≤b)→(x0:0≤p)→(x1:p≤s.size)→(hp:p=0∨eZ (ad s 0)=false)→((s.size:Int)-p).toNat=m→
  bV E G 52 UL [(0,.string s),(4,.slice none 0 0),(5,pt b 0)] H [b] (fun x T H'=>(x=(.exit 0)∧T=aP [(4,.slice none 0 0)]∧(isWord s=false))∨(x=(.exit 0)∧∃(qy:Nat) (vo:List (Int×Int×ByteArray)),T=aP [(4,sc qy 0 vo.length 6)]∧(H'.get qy=some (O (qs vo) 112)∧0<vo.length∧(vo=[(1,0,s)]↔isWord s=true)))∨(x=.ret∧∃(sv:Nat),T=aP [(2,.slice none 0 0),(3,.iface 128 (pt sv 0))]∧(isWord s=false))):=by
 refine dJ fun m ih=>?_
 intro p H y kb hs pv x0 x1 hp hm
 have g0:=y.n
 refine cN y ?_
 have z8:=y.wf.lt kb
 refine Y 1 (ag 1 av kb)<|aD 2 (p<(s.size:Int)) ?_ ?_ <;> intro h1 q1
 ·obtain ⟨rq,Mz,Ik⟩:=OZ s p hs J J
  refine Y 0 (cd p0 pL kb rfl rfl:al E 135 b 0 H=some (.agg #[.string s,M p]))<|ac 0 (Ik y)<|aD 2 (rq>0) ?_ ?_ <;> intro h2 cv
  ·obtain ⟨aU,e1⟩:∃ ao,ao=H.set b (O [.string s,M (p+rq)] 135):=⟨_,rfl⟩
   have y1:aa E G aU:=e1▸y.set _ J J
   have c8:aU.n=H.n+0:=by rw [e1,Z.cI] <;> rfl
   have gB:=bz e1
   exact Y 1 (ag 1 av kb)<|aH 1 (p+rq)<|aB 1 (stx 1 (M (p+rq)) dK kb e1)<|ji 0 [(0,.string s),(4,.slice none 0 0),(5,pt b 0)] aU [b] aW aJ (ih _ J (p+rq) _ y1 gB hs pv J J (Tg hp Mz.2.2 J) rfl)
  obtain ⟨ew,eu,ey,sj,Li,IL⟩:=O0 s p hs J J
  refine Y 0 (cd p0 pL kb rfl rfl:al E 135 b 0 H=some (.agg #[.string s,M p]))<|ac 0 (IL y)<|aB 4 (bG e4 rfl rfl rfl rfl:bu E 112 (H.n+0) 0 (.agg (hG ew eu ey).toArray) (news H (iS cL))=some (Fw H ew eu ey))<|aY 2 sj 0 ?_ ?_ <;> intro h3 cY
  ·exact Y 1 (ag 1 av (y.old kb (iS (hG ew eu ey))))<|c5 6 [(2,.slice none 0 0),(3,.iface 128 (pt (H.n+1) 0))] .ret (PH H ew eu ey p) [H.n+0] aJ aZ (.inr (.inr ⟨rfl,H.n+1,rfl,abS hp (afC Li.2.2 J)⟩))
  obtain ⟨aU,e1⟩:∃ ao,ao=(PI H ew eu ey).set b (O [.string s,M (p+sj)] 135):=⟨_,rfl⟩
  have y1:aa E G aU:=e1▸(y.news [O (hG ew eu ey) 112,O (hG ew eu ey) 112,O (hG ew eu ey) 112]).set _ J (by rw [dj];simp only [dX,e3];omega)
  have c8:aU.n=H.n+3:=by rw [e1,Z.cI,dj] <;> rfl
  have lN:=bW e1 J (aR [O (hG ew eu ey) 112,O (hG ew eu ey) 112,O (hG ew eu ey) 112] H 2 _ rfl)
  have gB:=bz e1
  exact Y 1 (dt j9 e4 rfl rfl rfl:al E 112 (H.n+0) 0 (Fw H ew eu ey)=some (.agg (hG ew eu ey).toArray))<|g8 1 (show gZ E #[108,108] (.slice none 0 0) (sc (H.n+1) 0 1 3) (CK H ew eu ey)=some (sc (H.n+2) 0 1 6,PI H ew eu ey,[],[H.n+1]) from sM L5 rfl (show g9 (CK H ew eu ey) 3 (sc (H.n+1) 0 1 3)=some (1,[M ew,M eu,.string ey],[H.n+1]) from js (aR [O (hG ew eu ey) 112,O (hG ew eu ey) 112] H 1 _ rfl) (gg rfl)) rfl (by decide) (by decide))<|Y 2 (ag 1 av (y.old kb [O (hG ew eu ey) 112,O (hG ew eu ey) 112,O (hG ew eu ey) 112]))<|aH 1 (p+sj)<|aB 1 (stx 1 (M (p+sj)) dK (y.old kb [O (hG ew eu ey) 112,O (hG ew eu ey) 112,O (hG ew eu ey) 112]) e1)<|ji 0 [(0,.string s),(4,sc (H.n+2) 0 1 6),(5,pt b 0)] aU [H.n+0,b] aJ aJ (aa0 b s _ (p+sj) (H.n+2) ([(ew,eu,ey)]) _ y1 gB lN hs pv J J (afF x0 J hp (afD Li.2.2 J)) aW (by simp;omega) J J rfl)
 exact c5 0 [(4,.slice none 0 0)] (.exit 0) H [] aL aZ (.inl ⟨rfl,rfl,abR hp J⟩)
theorem aaU (s:ByteArray) {H:Z} (y:aa E G H) (hs:(s.size:Int)<100000):aV E G 73 [.string s] H [] (fun v H'=>(v=.tuple #[.slice none 0 0,.nilIface]∧isWord s=false)∨(∃(q:Nat) (ts:List (Int×Int×ByteArray)),v=.tuple #[sc q 0 ts.length 6,.nilIface]∧H'.get q=some (O (qs ts) 112)∧0<ts.length∧(ts=[(1,0,s)]↔isWord s=true))∨(v=.tuple #[.slice none 0 0,.iface 41 (M 11)]∧200<(s.size:Int))∨∃ z,v=.tuple #[.slice none 0 0,.iface 128 (pt z 0)]∧isWord s=false):=by
 have g0:=y.n
 refine bB Tryz.f73 y ?_
 refine aD 4 ((s.size:Int)>4000) ?_ ?_ <;> intro h1 q1
 ·exact af 3 (.tuple #[.slice none 0 0,.iface 41 (M 11)]) H (.inr (.inr (.inl ⟨rfl,J⟩)))
 obtain ⟨_,_,H1,c1,ak,y1,bE⟩:=(aaV (H.n+0) s _ 0 _ (y.news [O [.string s,M 0] 135]) (aR [O [.string s,M 0] 135] H 0 _ rfl) hs J J J (.inl rfl) rfl).code
 refine aB 4 (bG pL rfl rfl rfl rfl:bu E 135 (H.n+0) 0 (.agg #[.string s,M 0]) (news H [O [.string ⟨#[]⟩,M 0] 135])=some (news H [O [.string s,M 0] 135]))<|?_
 rcases bE with ⟨rfl,rfl,K3⟩ |⟨rfl,wS,ahl,rfl,kK,sz_1,afl⟩ |⟨rfl,wR,rfl,K3⟩
 ·have c8:=d9 ak
  exact bx 0 c1<|bf 3 (.tuple #[.slice none 0 0,.nilIface]) H1 [H.n+0,H.n+0] aJ aL (.inl ⟨rfl,K3⟩)
 ·have c8:=d9 ak
  exact bx 0 c1<|bf 3 (.tuple #[sc wS 0 ahl.length 6,.nilIface]) H1 [H.n+0,H.n+0] aJ aL (.inr (.inl ⟨_,_,rfl,kK,sz_1,afl⟩))
 have c8:=d9 ak
 exact bx 0 c1<|bf 0 (.tuple #[.slice none 0 0,.iface 128 (pt wR 0)]) H1 [H.n+0,H.n+0] aJ aL (.inr (.inr (.inr ⟨_,rfl,K3⟩)))
theorem pH {α β:Type} {P:Program} {s:Sem α} {f:α→Sem β} {a:α} (h:fr P s=some a):fr P (s >>= f)=fr P (f a):=Kn h
noncomputable def GL:Array Field:=match fr E.P (underlying 112) with |some (.struct fs)=>fs |_=>#[]
noncomputable def AW (i:Nat):Field:=(GL.toList[i]?).getD default
theorem afA:GL=#[AW 0,AW 1,AW 2]:=an
def zA (xs ys:Array Value) (f:Field) (s:Option Bool×Unit):Sem (ForInStep (Option Bool×Unit)):=
 if f.name≠ "_" then do
  let a ← part f.type xs f.offset
  let b ← part f.type ys f.offset
  let r ← Op.equalIn 9999 f.type a b
  if (!r)=true then pure (ForInStep.done (some false,())) else pure (ForInStep.yield (none,()))
 else pure (ForInStep.yield (none,()))
theorem zB {xs ys:Array Value} {f:Field} {a b:Value} {r:Bool} {s:Option Bool×Unit} (hn:decide (f.name= "_")=false) (ha:fr E.P (part f.type xs f.offset)=some a) (hb:fr E.P (part f.type ys f.offset)=some b) (hr:fr E.P (Op.equalIn 9999 f.type a b)=some r) :
  fr E.P (zA xs ys f s)=some (bif r then .yield (none,()) else .done (some false,())):=by
 unfold zA
 rw [if_pos (fM hn),pH ha,pH hb,pH hr]
 cases r <;> rfl
theorem HM {xs ys:Array Value}:∀(fs:List (Field×Bool)),(∀ f∈fs,∀ s,fr E.P (zA xs ys f.1 s)=some (bif f.2 then .yield (none,()) else .done (some false,())))→
  fr E.P (forIn (fs.map (·.1)) ((none:Option Bool),()) (zA xs ys))=some (bif fs.all (·.2) then none else some false,())
 |[],_=>rfl
 |f::fs,h=>by
  rw [List.map_cons,List.forIn_cons,pH (h f aW (none,())),List.all_cons]
  cases hf:f.2 with
  |false=>rfl
  |true=>exact HM fs fun f hf=>h f (List.mem_cons_of_mem _ hf)
theorem D0 {t s:ByteArray}:(t==s)=true↔t=s:=⟨fun h=>by cases t;cases s;exact congrArg _ (pr h),fun h=>by subst h;exact (beq_self_eq_true t.data:(t.data==t.data)=true)⟩
def vf (k a:Int) (t s:ByteArray):Bool:=(k==1)&&((a==0)&&((t==s)&&true))
theorem afB {k a:Int} {t s:ByteArray}:vf k a t s=true↔(k,a,t)=(1,0,s):=by
 simp only [vf,Bool.and_true,dZ,D0,beq_iff_eq,b8]
noncomputable abbrev Ee s:=([.int .i64 1,.int .i64 0,.string s]:List Value)
theorem afz (k a:Int) (t s:ByteArray):fr E.P (Op.equalIn (9999+1) 112 (.agg #[.int .i64 k,.int .i64 a,.string t]) (.agg (Ee s).toArray))=some (vf k a t s):=by
 rw [Op.equalIn]
 rw [pH (a:=.struct GL) an]
 simp only []
 rw [pH (a:=E.P) (by rfl)]
 rw [if_neg (by rw [show E.P.stoodInHeld 112=false by kernel_rfl];simp)]
 have hq:=HM (xs:=#[.int .i64 k,.int .i64 a,.string t]) (ys:=#[.int .i64 1,.int .i64 0,.string s]) [(AW 0,k==1),(AW 1,a==0),(AW 2,t==s)] (by
  intro f hf st
  simp only [List.mem_cons,aq,or_false] at hf
  rcases hf with rfl |rfl |rfl
  ·exact zB (a:=.int .i64 k) (b:=.int .i64 1) an an an an
  ·exact zB (a:=.int .i64 a) (b:=.int .i64 0) an an an an
  ·exact zB (a:=.string t) (b:=.string s) an an an an)
 have vW:fr E.P (forIn GL ((none:Option Bool),()) (zA #[.int .i64 k,.int .i64 a,.string t] #[.int .i64 1,.int .i64 0,.string s]))=some (bif vf k a t s then none else some false,()):=by
  rw [afA,← Array.forIn_toList];exact hq
 refine (pH vW).trans ?_
 cases vf k a t s <;> rfl
theorem RN (k a:Int) (t s:ByteArray):Ej E .eql 112 (.tmp 33) (.tmp 35) (.agg #[.int .i64 k,.int .i64 a,.string t]) (.agg (Ee s).toArray)=some (.bool (vf k a t s)):=by
 have h:fr E.P (do eqGuard .eql 112 (.tmp 33) (.tmp 35) (.agg #[.int .i64 k,.int .i64 a,.string t]) (.agg (Ee s).toArray);binOp .eql 112 (.agg #[.int .i64 k,.int .i64 a,.string t]) (.agg (Ee s).toArray))=some (.bool (vf k a t s)):=by
  rw [pH (a:=()) an]
  exact (pH (afz k a t s)).trans rfl
 show (match fr E.P _ with |some v=>bif ground v then some v else none |none=>none)=_
 rw [h];rfl
def rd (l:List Value):List ByteArray:=l.filterMap fun v=>match v with |.string s=>some s |_=>none
noncomputable def jC (s:ByteArray):Bool:=!decide ((s.size:Int)>200)&&(!hasB s (rd oB)&&(!hasB s (rd x3)&&isWord s))
theorem P6 {ts:List (Int×Int×ByteArray)} {k a:Int} {t:ByteArray} {s:ByteArray} (h:ts=[(1,0,s)]↔isWord s=true) (hl:ts.head?=some (k,a,t)) (h1:(ts.length:Int)=1):vf k a t s=isWord s:=by
 cases ts with
 |nil=>cases hl
 |cons x ts=>
  cases ts with
  |cons=>simp only [dX] at h1;omega
  |nil=>
   simp only [List.head?_cons,bH] at hl
   subst hl
   rw [Bool.eq_iff_iff,afB,← h]
   simp
theorem abD {ts:List (Int×Int×ByteArray)} {s:ByteArray} (h:ts=[(1,0,s)]↔isWord s=true) (h1:(ts.length:Int)≠1):isWord s=false:=by
 cases e:isWord s with
 |false=>rfl
 |true=>rw [h.2 e] at h1;exact absurd rfl h1
noncomputable def T1:Code:=cw [1,0,1,0,0] (cx Tryz.f75)
theorem Xo (q:Nat) (ws:List ByteArray) (c:Nat) (s:ByteArray) (R:Bool):∀(m:Nat) (b5:Int) (H:Z),aa E G H→(b9:H.get q=some (O (mW ws) 9))→(hl:ws.length<100000)→(x0:0≤b5)→(hR:hasB s (ws.drop b5.toNat)=R)→((ws.length:Int)-b5).toNat=m→
  bV E G 19 T1 [(0,sc q 0 ws.length c),(1,.string s),(7,M (ws.length:Int)),(8,M b5)] H [] (fun x T H'=>(x=(.exit 0)∧T=aP []∧(R=false))∨(x=.ret∧∃(z4:Int),T=aP [(4,M z4)]∧((R=true)∧(0≤z4)))):=by
 refine dJ fun m ih=>?_
 intro b5 H y b9 hl x0 hR hm
 refine cN y ?_
 refine aD 0 (b5<(ws.length:Int)) ?_ ?_ <;> intro h1 q1
 ·obtain ⟨ob,wi,xL⟩:=Lw (ws:=ws) (i:=b5.toNat) J
  refine aG 5 b5 (ws.length:Int)<|Y 0 (show al E 9 q (0+b5.toNat*1) H=some (.string ob) from cH bA b9 (show (mW ws)[0+b5.toNat*1]?=_ by rw [show 0+b5.toNat*1=b5.toNat by omega];exact xL))<|d5 0 (s.toList==ob.toList) (fun h2=>?_) fun h2=>?_
  ·exact cF 2 [(4,M b5)] .ret H (.inr ⟨rfl,b5,rfl,⟨sK (F:=hasB s) (g:=fun w=>s.toList==w.toList) (fun _ _=>rfl) wi hR h2,J⟩⟩)
  exact aH 0 (b5+1)<|du 1 [(0,sc q 0 ws.length c),(1,.string s),(7,M (ws.length:Int)),(8,M (b5+1))] H (ih _ J (b5+1) _ y b9 hl J (by rw [gp J];exact (sL (F:=hasB s) (g:=fun w=>s.toList==w.toList) (fun _ _=>rfl) wi hR h2)) rfl)
 exact cF 0 [] (.exit 0) H (.inl ⟨rfl,rfl,sJ (F:=hasB s) rfl hR J⟩)
theorem Xn (q:Nat) (ws:List ByteArray) (c:Nat) (s:ByteArray) {H:Z} (y:aa E G H) (b9:H.get q=some (O (mW ws) 9)) (hl:ws.length<100000):aV E G 75 [sc q 0 ws.length c,.string s] H [] (fun v H'=>(∃ n:Int,v=M n∧0≤n∧hasB s ws=true)∨(v=M (-1)∧hasB s ws=false)):=by
 refine bB Tryz.f75 y ?_
 obtain ⟨_,_,H1,c1,ak,y1,bE⟩:=(Xo q ws c s (hasB s ws) _ 0 _ y b9 hl J rfl rfl).code
 rcases bE with ⟨rfl,rfl,aI⟩ |⟨rfl,fV,rfl,aI,gv⟩
 ·exact bx 4 c1<|af 1 (M (-1)) H1 (.inr ⟨rfl,aI⟩)
 exact bx 4 c1<|af 0 (M fV) H1 (.inl ⟨_,rfl,gv,aI⟩)
theorem Ic (q:Nat) (ws:List ByteArray) (c:Nat) (s:ByteArray) {H:Z} (y:aa E G H) (b9:H.get q=some (O (mW ws) 9)) (hl:ws.length<100000):aV E G 59 [sc q 0 ws.length c,.string s] H [] (fun v H'=>v=.bool (hasB s ws)):=by
 refine bB Tryz.f59 y ?_
 obtain ⟨_,H1,c1,ak,y1,bE⟩:=Xn q ws c s y b9 hl
 rcases bE with ⟨vj,rfl,pz,b7⟩ |⟨rfl,b7⟩
 ·exact ac 3 c1<|ay 0 (decide_eq_true J:(decide (vj≥0))=true)<|af 1 aw H1 (by rw [b7])
 exact ac 3 c1<|af 2 U H1 (by rw [b7])
theorem NP  {H:Z} (y:aa E G H):aV E G 60 [] H [] (fun v H'=>∃ q,v=sc q 0 7 15∧H.n≤q∧H'.get q=some (O oB 9)):=by
 refine bB Tryz.f60 y ?_
 exact ac 1 (Xa y)<|af 1 (sc (H.n+0) 0 7 15) (news H [O oB 9]) ⟨_,rfl,J,aR [O oB 9] H 0 _ rfl⟩
theorem RE {o:Option Value} {b c:Bool} (h:o=some (.bool b)) (e:b=c):o=some (.bool c):=e▸h
theorem W0 (s:ByteArray) {H:Z} (y:aa E G H):aV E G 56 [.string s] H [] (fun v H'=>v=(.bool (jC s))):=by
 refine bB Tryz.f56 y ?_
 refine aD 3 ((s.size:Int)>200) ?_ ?_ <;> intro h1 q1
 ·exact af 5 U H (by rw [jC,h1] <;> rfl)
 obtain ⟨_,H1,c1,ak,y1,eJ,rfl,Iv,x4⟩:=NP y
 obtain ⟨_,H2,c2,aF,ar,cX⟩:=eL (Ic eJ (rd oB) 15 s y1 x4 (by decide))
 refine ac 1 c1<|?_
 rcases cX with ⟨rfl,bj⟩ |⟨rfl,bj⟩
 ·exact ac 1 c2<|af 4 U H2 (by rw [jC,h1,bj] <;> rfl)
 obtain ⟨_,H3,c3,bq,aM,fq⟩:=eL (Ic (H2.n+0) (rd x3) 17 s (ar.news [O x3 9]) (aR [O x3 9] H2 0 _ rfl) (by decide))
 refine ac 1 c2<|ac 2 (Zx ar)<|?_
 rcases fq with ⟨rfl,ec⟩ |⟨rfl,ec⟩
 ·exact ac 1 c3<|af 2 U H3 (by rw [jC,h1,bj,ec] <;> rfl)
 have hs:(s.size:Int)<100000:=J
 obtain ⟨_,H4,eg,ee,cu,jr⟩:=aaU s aM hs
 refine ac 1 c3<|?_
 rcases jr with ⟨rfl,hw⟩ |⟨afJ,ts,rfl,ZN,hts,hw⟩ |⟨rfl,hw⟩ |⟨tz,rfl,hw⟩
 ·exact ac 2 eg<|af 15 U H4 (by rw [jC,h1,bj,ec,hw] <;> rfl)
 ·refine ac 2 eg<|aY 10 (ts.length:Int) 1 ?_ ?_ <;> intro h5 dc
  ·obtain ⟨Ei,Eh,Ek,X4,Yu,N2⟩:=afu hts
   refine aG 3 (0:Int) (ts.length:Int)<|Y 0 (cd j9 e4 ZN X4 Yu:al E 112 afJ (0+(0:Int).toNat*3) H4=some (.agg #[M Ei,M Eh,.string Ek]))<|?_
   cases h6:(vf Ei Eh Ek s) with
   |true=>
    exact aE [am 1]<|az [bw aw H4] (RE (RN Ei Eh Ek s) h6)<|af 2 aw H4 (by rw [jC,h1,bj,ec,← P6 hw N2 dc,h6] <;> rfl)
   |false=>
    exact aE [am 1]<|az [bw U H4] (RE (RN Ei Eh Ek s) h6)<|af 2 U H4 (by rw [jC,h1,bj,ec,← P6 hw N2 dc,h6] <;> rfl)
  exact af 4 U H4 (by rw [jC,h1,bj,ec,abD hw dc] <;> rfl)
 ·exact ac 2 eg<|af 12 U H4 (absurd hw J)
 exact ac 2 eg<|af 12 U H4 (by rw [jC,h1,bj,ec,hw] <;> rfl)
theorem Er (s:ByteArray):∀{H:Z},aa E G H→bF E 56 [.string s] H (.ret (.bool (jC s))) H []:=by
 obtain ⟨_,_,c,_,_,rfl⟩:=W0 s eH
 exact fun y=>eh (et rfl) (.ground rfl) c y
abbrev mz (x:Int):Int:=IntKind.i64.wrap x
def ko (s:ByteArray) (i:Int):Option (Int×Int):=
 if i<s.size then if ad s i=92 then (if i+1<s.size then some (i+2,ad s (i+1)) else none) else if fe (ad s i) [93,91,94,45]=true then none else some (i+1,ad s i) else none
def kR (s:ByteArray) (i:Int):Option Int:=match ko s i with
 |none=>none
 |some (a,lo)=>if a<s.size∧fe (ad s a) [45]=true then (match ko s (a+1) with
  |none=>none
  |some (e,hi)=>if hi<lo then none else some e) else some a
section
variable {s:ByteArray} {i a e lo hi:Int}
theorem O9 {c:Int} (h:ko s i=some (a,c)):i<a∧a≤s.size:=by
 unfold ko at h
 split at h
 ·split at h
  ·split at h
   ·injection h with h;injection h with h1 h2;omega
   ·cases h
  ·split at h
   ·cases h
   ·injection h with h;injection h with h1 h2;omega
 ·cases h
theorem Y8 (h:kR s i=some a):i<a∧a≤s.size:=by
 unfold kR at h
 split at h
 ·cases h
 ·rename_i h1
  have:=O9 h1
  split at h
  ·split at h
   ·cases h
   ·rename_i h2
    have:=O9 h2
    split at h
    ·cases h
    ·injection h with h;omega
  ·injection h with h;omega
theorem Pb (h:¬ i<s.size):ko s i=none:=if_neg h
theorem Pa (h:i<s.size) (hm:fe (ad s i) [93,91,94,45]=true):ko s i=none:=by
 rw [ko,if_pos h,if_neg (fun e=>by rw [e] at hm;exact absurd hm (by decide)),if_pos hm]
theorem Pd (h:i<s.size) (hc:ad s i=92) (h2:¬ i+1<s.size):ko s i=none:=by rw [ko,if_pos h,if_pos hc,if_neg h2]
theorem Pc (hc:ad s i=92) (h2:i+1<s.size):ko s i=some (i+2,ad s (i+1)):=by rw [ko,if_pos J,if_pos hc,if_pos h2]
theorem Pe (h:i<s.size) (hm:¬ fe (ad s i) [93,91,94,45]=true) (hc:ad s i≠92):ko s i=some (i+1,ad s i):=by rw [ko,if_pos h,if_neg hc,if_neg hm]
theorem I0 (h:ko s i=none):kR s i=none:=by rw [kR,h]
theorem I1 (h:ko s i=some (a,lo)) (hm:¬ (a<s.size∧fe (ad s a) [45]=true)):kR s i=some a:=by rw [kR,h];exact if_neg hm
theorem I3 (h:ko s i=some (a,lo)) (h1:a<s.size) (hm:fe (ad s a) [45]=true) (h2:ko s (a+1)=none):kR s i=none:=by rw [kR,h];simp only [];rw [if_pos ⟨h1,hm⟩,h2]
theorem EZ (h:ko s i=some (a,lo)) (h1:a<s.size) (hm:fe (ad s a) [45]=true) (h2:ko s (a+1)=some (e,hi)) (h3:hi<lo):kR s i=none:=by rw [kR,h];simp only [];rw [if_pos ⟨h1,hm⟩,h2];exact if_pos h3
theorem I2 (h:ko s i=some (a,lo)) (h1:a<s.size) (hm:fe (ad s a) [45]=true) (h2:ko s (a+1)=some (e,hi)) (h3:¬ hi<lo):kR s i=some e:=by rw [kR,h];simp only [];rw [if_pos ⟨h1,hm⟩,h2];exact if_neg h3
end
def nT (s:ByteArray) (i:Int):Option Int:=
 if i<s.size∧fe (ad s i) [93]=true then some (i+1) else match h:kR s i with
 |none=>none
 |some a=>nT s a
termination_by ((s.size:Int)-i).toNat
decreasing_by have:=Y8 h;omega
theorem M4 {s:ByteArray} {i:Int} (h:i<s.size) (hm:fe (ad s i) [93]=true):nT s i=some (i+1):=by rw [nT,if_pos ⟨h,hm⟩]
theorem Ec {s:ByteArray} {i:Int} (hm:¬ (i<s.size∧fe (ad s i) [93]=true)) (h:kR s i=none):nT s i=none:=by
 rw [nT,if_neg hm];split
 ·rfl
 ·rename_i h2;rw [h] at h2;cases h2
theorem HA {s:ByteArray} {i a:Int} (hm:¬ (i<s.size∧fe (ad s i) [93]=true)) (h:kR s i=some a):nT s i=nT s a:=by
 rw [nT,if_neg hm];split
 ·rename_i h2;rw [h] at h2;cases h2
 ·rename_i h2;rw [h] at h2;injection h2 with h2;rw [h2]
def nS (s:ByteArray) (i:Int):Option Int:=match kR s (if i<s.size∧fe (ad s i) [94]=true then i+1 else i) with
 |none=>none
 |some a=>nT s a
theorem M1 {s:ByteArray} {i j:Int} (hj:(if i<s.size∧fe (ad s i) [94]=true then i+1 else i)=j) (h:kR s j=none):nS s i=none:=by rw [nS,hj,h]
theorem M2 {s:ByteArray} {i j a:Int} (hj:(if i<s.size∧fe (ad s i) [94]=true then i+1 else i)=j) (h:kR s j=some a):nS s i=nT s a:=by rw [nS,hj,h]
def oa (s:ByteArray) (i:Int):Int:=if h:i<s.size∧fe (ad s i) [42,43,63]=true then oa s (i+1) else i
termination_by ((s.size:Int)-i).toNat
theorem Gc {s:ByteArray} {i:Int} (h:i<s.size) (hm:fe (ad s i) [42,43,63]=true):oa s i=oa s (i+1):=by rw [oa,dif_pos ⟨h,hm⟩]
theorem QR {s:ByteArray} {i:Int} (h:¬ (i<s.size∧fe (ad s i) [42,43,63]=true)):oa s i=i:=by rw [oa,dif_neg h]
theorem KC (s:ByteArray) (i:Int):i≤oa s i∧(i≤s.size→oa s i≤s.size):=by
 rw [oa]
 split
 ·rename_i h;have:=KC s (i+1);omega
 ·omega
termination_by ((s.size:Int)-i).toNat
mutual
def nO (s:ByteArray) (i d:Int):Option (Int×Int):=match k8 s i d with
 |none=>none
 |some (a,e)=>if h:i≤a then nP s a e else none
termination_by 8*((s.size:Int)-i).toNat+4
def nP (s:ByteArray) (i d:Int):Option (Int×Int):=if h:i<s.size∧fe (ad s i) [124]=true then (match k8 s (i+1) d with
 |none=>none
 |some (a,e)=>if h:i<a then nP s a e else none) else some (i,d)
termination_by 8*((s.size:Int)-i).toNat+3
def k8 (s:ByteArray) (i d:Int):Option (Int×Int):=if h:i<s.size∧¬ fe (ad s i) [124,41]=true then (match wD s i d with
 |none=>none
 |some (a,e)=>if h:i<a then k8 s a e else none) else some (i,d)
termination_by 8*((s.size:Int)-i).toNat+3
def wD (s:ByteArray) (i d:Int):Option (Int×Int):=match k7 s i d with
 |none=>none
 |some (a,e)=>some (oa s a,e)
termination_by 8*((s.size:Int)-i).toNat+2
def k7 (s:ByteArray) (i d:Int):Option (Int×Int):=if h:i<s.size then
 (if ad s i=40 then (if d=32 then none else match nO s (i+1) (mz (d+1)) with
  |none=>none
  |some (a,e)=>if a<s.size∧fe (ad s a) [41]=true then some (a+1,mz (e-1)) else none)
 else if ad s i=91 then (nS s (i+1)).map fun a=>(a,d)
 else if fe (ad s i) [41,93,123,125,94,36,124,42,43,63]=true then none
 else if ad s i=92 then (if i+1<s.size then some (i+2,d) else none) else some (i+1,d)) else none
termination_by 8*((s.size:Int)-i).toNat+1
end
section
variable {s:ByteArray} {i d a e:Int}
theorem Mj (h:k8 s i d=none):nO s i d=none:=by rw [nO,h]
theorem DW (h:k8 s i d=some (a,e)) (hl:i≤a):nO s i d=nP s a e:=by rw [nO,h];exact dif_pos hl
theorem DT (h:¬ (i<s.size∧fe (ad s i) [124]=true)):nP s i d=some (i,d):=by rw [nP,dif_neg h]
theorem DU (h:i<s.size) (hm:fe (ad s i) [124]=true) (h2:k8 s (i+1) d=none):nP s i d=none:=by rw [nP,dif_pos ⟨h,hm⟩,h2]
theorem DV (h:i<s.size) (hm:fe (ad s i) [124]=true) (h2:k8 s (i+1) d=some (a,e)) (hl:i<a):nP s i d=nP s a e:=by rw [nP,dif_pos ⟨h,hm⟩,h2];exact dif_pos hl
theorem sQ (h:¬ (i<s.size∧¬ fe (ad s i) [124,41]=true)):k8 s i d=some (i,d):=by rw [k8,dif_neg h]
theorem D5 (h:i<s.size) (hm:¬ fe (ad s i) [124,41]=true) (h2:wD s i d=none):k8 s i d=none:=by rw [k8,dif_pos ⟨h,hm⟩,h2]
theorem D6 (h:i<s.size) (hm:¬ fe (ad s i) [124,41]=true) (h2:wD s i d=some (a,e)) (hl:i<a):k8 s i d=k8 s a e:=by rw [k8,dif_pos ⟨h,hm⟩,h2];exact dif_pos hl
theorem KD (h:k7 s i d=none):wD s i d=none:=by rw [wD,h]
theorem KE (h:k7 s i d=some (a,e)):wD s i d=some (oa s a,e):=by rw [wD,h]
theorem Mq (h:i<s.size) (hc:ad s i=40) (hd:d=32):k7 s i d=none:=by rw [k7,dif_pos h,if_pos hc,if_pos hd]
theorem Ms (h:i<s.size) (hc:ad s i=40) (hd:d≠32) (h2:nO s (i+1) (mz (d+1))=none):k7 s i d=none:=by rw [k7,dif_pos h,if_pos hc,if_neg hd,h2]
theorem Mr (h:i<s.size) (hc:ad s i=40) (hd:d≠32) (h2:nO s (i+1) (mz (d+1))=some (a,e)) (hm:¬ (a<s.size∧fe (ad s a) [41]=true)):k7 s i d=none:=by rw [k7,dif_pos h,if_pos hc,if_neg hd,h2];exact if_neg hm
theorem Mt (h:i<s.size) (hc:ad s i=40) (hd:d≠32) (h2:nO s (i+1) (mz (d+1))=some (a,e)) (hl:a<s.size) (hm:fe (ad s a) [41]=true):k7 s i d=some (a+1,mz (e-1)):=by rw [k7,dif_pos h,if_pos hc,if_neg hd,h2];exact if_pos ⟨hl,hm⟩
theorem DX (h:i<s.size) (hc:ad s i=91):k7 s i d=(nS s (i+1)).map fun a=>(a,d):=by rw [k7,dif_pos h,if_neg J,if_pos hc]
theorem Mo (h:i<s.size) (h1:ad s i≠40) (h2:ad s i≠91) (hm:fe (ad s i) [41,93,123,125,94,36,124,42,43,63]=true):k7 s i d=none:=by rw [k7,dif_pos h,if_neg h1,if_neg h2,if_pos hm]
theorem DY (h:i<s.size) (hc:ad s i=92):k7 s i d=if i+1<s.size then some (i+2,d) else none:=by rw [k7,dif_pos h,if_neg J,if_neg J,if_neg (by rw [hc];decide),if_pos hc]
theorem DZ (h:i<s.size) (h1:ad s i≠40) (h2:ad s i≠91) (hm:¬ fe (ad s i) [41,93,123,125,94,36,124,42,43,63]=true) (h3:ad s i≠92):k7 s i d=some (i+1,d):=by rw [k7,dif_pos h,if_neg h1,if_neg h2,if_neg hm,if_neg h3]
end
def oV (s:ByteArray):Bool:=!decide ((s.size:Int)>200)&&(match nO s 0 0 with |some (a,_)=>!decide (a<(s.size:Int)) |none=>false)
theorem KO {s:ByteArray} (h:nO s 0 0=none):oV s=false:=by rw [oV,h,Bool.and_false]
theorem Ra {s:ByteArray} {a e:Int} (h:nO s 0 0=some (a,e)) (hl:a<s.size):oV s=false:=by rw [oV,h];simp only [decide_eq_true hl,Bool.not_true,Bool.and_false]
theorem Rb {s:ByteArray} {a e:Int} (hs:¬ (s.size:Int)>200) (h:nO s 0 0=some (a,e)) (hl:¬ a<s.size):oV s=true:=by rw [oV,h];simp only [decide_eq_false hl,decide_eq_false hs,Bool.not_false,Bool.and_true]
def hC:Nat→Nat→Value
 |0,_=>.pointer none
 |_+1,b=>.pointer (some ⟨b,0,none⟩)
structure iZ (xs:List Value):Prop where
 len:xs.length=258
 get:∀ i,2≤i→i<258→∃ b:Bool,xs[i]?=some (.bool b)
def mU (k i:Int):List Value:=.int .i64 k::.int .i64 i::List.replicate 256 (.bool false)
theorem iZ.new (k i:Int):iZ (mU k i):=⟨by unfold mU;rw [dX,dX,List.length_replicate],fun j h0 h1=>⟨false,by
 obtain ⟨j,rfl⟩:∃ k,j=k+2:=⟨j-2,J⟩
 simp only [mU,List.getElem?_cons_succ,List.getElem?_replicate]
 rw [if_pos J]⟩⟩
theorem iZ.set {xs:List Value} (h:iZ xs) (i:Nat) (hi:2≤i) (b:Bool):iZ (xs.set i (.bool b)):=⟨by simp [h.len],fun j h0 h1=>by
 rw [List.getElem?_set]
 by_cases e:i=j
 ·subst e;exact ⟨b,by simp [h.len,h1]⟩
 ·rw [if_neg e];exact h.get j h0 h1⟩
theorem SE:E.agg 173=some false:=an
theorem afo:E.size 173=some 1:=an
theorem Mc:E.agg 4=some false:=an
theorem RI:E.size 4=some 1:=an
theorem PV {H:Z} {a o:Nat} {xs:List Value} {kd:Value} (hl:iZ xs) (g:H.get a=some (O (xs++[kd]) 176)) (h0:2≤o) (h1:o<258):∃ b:Bool,al E 4 a o H=some (.bool b):=by
 obtain ⟨b,hb⟩:=hl.get o h0 h1
 exact ⟨b,cH Mc g (by rw [List.getElem?_append_left (by rw [hl.len];exact h1)];exact hb)⟩
section
variable {H:Z} {a:Nat} {xs:List Value} {kd:Value} (hl:iZ xs) (g:H.get a=some (.cells (xs++[kd]) 176 false))
include hl g
theorem wv:al E 173 a 258 H=some kd:=cH SE g (by
 have:=hl.len
 rw [List.getElem?_append_right J,this];rfl)
theorem wz {x:Value} (hx:(Nat.beq x.cells.size 1&&x.cells.toList.all one)=true) (hc:x.cells.toList=[x]):bu E 173 a 258 x H=some (H.set a (O (xs++[x]) 176)):=st afo g (by
 have:Nat.ble (258+1) (xs++[kd]).length=true:=Nat.ble_eq_true_of_le (by simp [hl.len])
 rw [hx,this];rfl) (by
 have:=AR xs [kd] 0 x
 rw [hl.len] at this
 rw [hc]
 exact this)
theorem yg {o:Nat} {x:Bool} (h0:2≤o) (h1:o<258):bu E 4 a o (.bool x) H=some (H.set a (O (xs.set o (.bool x)++[kd]) 176)):=st RI g (by
 have:Nat.ble (o+1) (xs++[kd]).length=true:=Nat.ble_eq_true_of_le (by simp [hl.len];omega)
 show (true&&_)=true
 rw [this];rfl) (by
 show splice (xs++[kd]) o [.bool x]=_
 rw [Gv _ _ _ (by simp [hl.len];omega),List.set_append_left _ _ (by rw [hl.len];exact h1)])
end
def oL (ps:List Nat):List Value:=ps.map fun b=>.pointer (some ⟨b,0,none⟩)
theorem Cp (ps:List Nat):(oL ps).length=ps.length:=by simp [oL]
theorem E4 (ps:List Nat) (b:Nat):((oL ps).drop 0).take (ps.length*1)++[Value.pointer (some ⟨b,0,none⟩)]=oL (ps++[b]):=by
 rw [List.drop_zero,List.take_of_length_le (by rw [Cp];omega)]
 simp [oL]
theorem E5 (ps:List Nat) (b:Nat):(ps++[b]).length=ps.length+1:=by simp
theorem i7 {t kt yH:TypeId} {kd:TypeDesc} {H:Z} {k ax:Nat} {l l':List dL} {es es':List MapEntry} {key v:Value} (hu:E.ul t=some (.map kt yH)) (hk:E.ul kt=some kd) (hd:qM kd key=true) (hb:l[k]?=some (.map es ax)) (hp:r8 key v ax es=some (es',true)) (hl:l.set k (.map es' (ax+1))=l') :
  g5 E t (.map (some (H.n+k))) key v (news H l)=some (dw,news H l',[H.n+k],[H.n+k]):=by
 simp only [g5,hu,hk,aR l H k _ hb,hd,cond_true,hp]
 rw [JR l H k _ (List.getElem?_eq_some_iff.1 hb).1,hl]
abbrev iF (s:ByteArray) (at_ dp nd:Int) (w:Value):List Value:=[.string s,.int .i64 at_,.int .i64 dp,.int .i64 nd,w]
abbrev gb (s:ByteArray) (at_ dp nd:Int) (w:Value):dL:=.cells (iF s at_ dp nd w) 151 false
abbrev wY (s:ByteArray) (p:Nat) (at_ st:Int) (F:Option (Int×Int)) (v:Value) (H':Z):Prop:=
 (∃(nb:Nat) (at' gj gl:Int),v=.pointer (some ⟨nb,0,none⟩)∧H'.get p=some (gb s at' gj gl (.pointer none))∧F=some (at',gj)∧at_+st≤at'∧at'≤s.size)∨
 (∃(nb:Nat) (at' gj gl:Int) (wp':Nat),v=.pointer (some ⟨nb,0,none⟩)∧H'.get p=some (gb s at' gj gl (.pointer (some ⟨wp',0,none⟩)))∧F=none∧at_≤at'∧at'≤s.size)
def sB (s:ByteArray) (n:Nat):Prop:=∀(p:Nat) (at_ dp nd:Int) {H:Z},aa E G H→H.get p=some (gb s at_ dp nd (.pointer none))→G.n≤p→(s.size:Int)<100000→0≤at_→at_≤s.size→((s.size:Int)-at_).toNat<n→
    aV E G 98 [.pointer (some ⟨p,0,none⟩)] H [p] (wY s p at_ 0 (nO s at_ dp))
def sE {α:Type} (w:Nat) (F R:Option α):Prop:=(w=0→F=R)∧(w=1→R=none)
theorem sE.go {α:Type} {F R:Option α} (h:F=R):sE 0 F R:=⟨fun _=>h,fun h=>absurd h (by decide)⟩
theorem sE.bad {α:Type} {F R:Option α} (h:R=none):sE 1 F R:=⟨fun h=>absurd h (by decide),fun _=>h⟩
theorem WR:E.func 116=some Tryz.f116:=an
theorem WS:HS Tryz.f116 3=true:=an
theorem AL (p:Nat) (s:ByteArray) (at_:Int) (dp:Int) (nd:Int) (w:Nat) (wp:Nat) (k:Int) {H:Z} (y:aa E G H) (kp:H.get p=some (gb s at_ dp nd (hC w wp))) (ce:G.n≤p) (hs:(s.size:Int)<100000) (a0:0≤at_) (a1:at_≤s.size) (hw:w=0∨w=1):aV E G 116 [pt p 0,M k,.slice none 0 0] H [p] (fun v H'=>∃ nb xs gl,v=pt nb 0∧iZ xs∧H.n≤nb∧H'.get nb=some (O (xs++[.slice none 0 0]) 176)∧H'.get p=some (gb s at_ dp gl (hC w wp))):=by
 refine bB Tryz.f116 y ?_
 have gH:=y.wf.lt kp
 obtain ⟨aU,e1⟩:∃ ao,ao=H.set p (O (iF s at_ dp (IntKind.i64.wrap (nd+1)) (hC w wp)) 151):=⟨_,rfl⟩
 have y1:aa E G aU:=e1▸y.set _ J J
 have c8:aU.n=H.n+0:=by rw [e1,Z.cI] <;> rfl
 have bZ:=bz e1
 exact Y 4 (ag 3 av kp)<|aB 3 (stx 3 (M (IntKind.i64.wrap (nd+1))) dK kp e1)<|Y 4 (ag 3 av bZ)<|bf 4 (pt (aU.n+0) 0) (news aU [O ((mU k (IntKind.i64.wrap (nd+1)))++[.slice none 0 0]) 176]) [p] aW aZ ⟨_,_,_,rfl,iZ.new _ _,J,aR [O ((mU k (IntKind.i64.wrap (nd+1)))++[.slice none 0 0]) 176] aU 0 _ rfl,y1.old bZ [O ((mU k (IntKind.i64.wrap (nd+1)))++[.slice none 0 0]) 176]⟩
theorem Re (p:Nat) (s:ByteArray) (at_:Int) (dp:Int) (nd:Int) (w:Nat) (wp:Nat) (k:Int) (r:Nat) {H:Z} (y:aa E G H) (kp:H.get p=some (gb s at_ dp nd (hC w wp))) (ce:G.n≤p) (hs:(s.size:Int)<100000) (a0:0≤at_) (a1:at_≤s.size) (hw:w=0∨w=1):aV E G 116 [pt p 0,M k,sc r 0 1 3] H [p] (fun v H'=>∃ nb xs gl,v=pt nb 0∧iZ xs∧H.n≤nb∧H'.get nb=some (O (xs++[sc r 0 1 3]) 176)∧H'.get p=some (gb s at_ dp gl (hC w wp))):=by
 refine bB Tryz.f116 y ?_
 have gH:=y.wf.lt kp
 obtain ⟨aU,e1⟩:∃ ao,ao=H.set p (O (iF s at_ dp (IntKind.i64.wrap (nd+1)) (hC w wp)) 151):=⟨_,rfl⟩
 have y1:aa E G aU:=e1▸y.set _ J J
 have c8:aU.n=H.n+0:=by rw [e1,Z.cI] <;> rfl
 have bZ:=bz e1
 exact Y 4 (ag 3 av kp)<|aB 3 (stx 3 (M (IntKind.i64.wrap (nd+1))) dK kp e1)<|Y 4 (ag 3 av bZ)<|bf 4 (pt (aU.n+0) 0) (news aU [O ((mU k (IntKind.i64.wrap (nd+1)))++[sc r 0 1 3]) 176]) [p] aW aZ ⟨_,_,_,rfl,iZ.new _ _,J,aR [O ((mU k (IntKind.i64.wrap (nd+1)))++[sc r 0 1 3]) 176] aU 0 _ rfl,y1.old bZ [O ((mU k (IntKind.i64.wrap (nd+1)))++[sc r 0 1 3]) 176]⟩
theorem q6 (p:Nat) (s:ByteArray) (at_:Int) (dp:Int) (nd:Int) (w:Nat) (wp:Nat) (k:Int) {H:Z} (y:aa E G H) (kp:H.get p=some (gb s at_ dp nd (hC w wp))) (ce:G.n≤p) (hs:(s.size:Int)<100000) (a0:0≤at_) (a1:at_≤s.size) (hw:w=0∨w=1):aV E G 99 [pt p 0,.iface 41 (M k)] H [p] (fun v H'=>∃ nb gl wp',v=pt nb 0∧H'.get p=some (gb s at_ dp gl (pt wp' 0))):=by
 refine bB Tryz.f99 y ?_
 have gH:=y.wf.lt kp
 refine Y 4 (ag 4 kB kp)<|?_
 rcases hw with rfl |rfl
 ·obtain ⟨aU,e1⟩:∃ ao,ao=(news H [O [M at_,.iface 41 (M k)] 140]).set p (O (iF s at_ dp nd (pt (H.n+0) 0)) 151):=⟨_,rfl⟩
  have y1:aa E G aU:=e1▸(y.news [O [M at_,.iface 41 (M k)] 140]).set _ J (by rw [dj];simp only [dX,e3];omega)
  have bZ:=bz e1
  obtain ⟨_,H2,c2,aF,ar,cJ,wO,jG,rfl,wy,zN,tj,fi⟩:=AL p s at_ dp nd 1 (H.n+0) 2 y1 bZ J hs J J J
  exact Y 5 (ag 1 av kp)<|aB 5 (stx 4 (pt (H.n+0) 0) afn (y.old kp [O [M at_,.iface 41 (M k)] 140]) e1)<|ac 1 c2<|bf 1 (pt cJ 0) H2 [p,p] aW aZ ⟨_,_,H.n+0,rfl,fi⟩
 obtain ⟨_,H1,c1,ak,y1,dk,vm,iB,rfl,uW,EP,qh,ei⟩:=AL p s at_ dp nd 1 wp 2 y kp J hs J J J
 exact ac 2 c1<|bf 1 (pt dk 0) H1 [p] aW aZ ⟨_,_,wp,rfl,ei⟩
theorem tK (p:Nat) (s:ByteArray) (at_:Int) (dp:Int) (nd:Int) (t:ByteArray) {H:Z} (y:aa E G H) (kp:H.get p=some (gb s at_ dp nd (.pointer none))) (ce:G.n≤p) (hs:(s.size:Int)<100000) (a0:0≤at_) (a1:at_≤s.size):aV E G 118 [pt p 0,.string t] H [] (fun v H'=>(v=U∧¬ (at_<s.size∧tr t (ad s at_)=true))∨(v=aw∧at_<s.size∧tr t (ad s at_)=true)):=by
 refine bB Tryz.f118 y ?_
 rcases df (decide (at_<(s.size:Int))) with h1 |h1
 ·have q1:=fD h1
  rcases df (decide ((lL t (ad s at_))≥0)) with h2 |h2
  ·exact aE [am 0]<|Y 3 (ag 4 kB kp)<|Y 5 (ag 1 av kp)<|Y 3 (ag 0 bA kp)<|ay 1 h1<|Y 6 (ag 0 bA kp)<|Y 3 (ag 1 av kp)<|aG 0 at_ (s.size:Int)<|ac 0 (indexByte t (ad s at_) y)<|ay 0 h2<|af 2 aw H (.inr ⟨rfl,J,(Ci (jl _ _) (jc _ _)).symm.trans h2⟩)
  exact aE [am 0]<|Y 3 (ag 4 kB kp)<|Y 5 (ag 1 av kp)<|Y 3 (ag 0 bA kp)<|ay 1 h1<|Y 6 (ag 0 bA kp)<|Y 3 (ag 1 av kp)<|aG 0 at_ (s.size:Int)<|ac 0 (indexByte t (ad s at_) y)<|ay 0 h2<|af 2 U H (.inl ⟨rfl,fun h=>by rw [(Ci (jl _ _) (jc _ _)).symm.trans h2] at h;exact absurd h.2 (by decide)⟩)
 have q1:=fM h1
 exact aE [am 0]<|Y 3 (ag 4 kB kp)<|Y 5 (ag 1 av kp)<|Y 3 (ag 0 bA kp)<|ay 1 h1<|af 4 U H (.inl ⟨rfl,fun h=>by omega⟩)
theorem Gj (p:Nat) (s:ByteArray) (at_:Int) (dp:Int) (nd:Int) (wp:Nat) (t:ByteArray) {H:Z} (y:aa E G H) (kp:H.get p=some (gb s at_ dp nd (pt wp 0))) (ce:G.n≤p) (hs:(s.size:Int)<100000) (a0:0≤at_) (a1:at_≤s.size):aV E G 118 [pt p 0,.string t] H [] (fun v H'=>v=U):=by
 refine bB Tryz.f118 y ?_
 exact aE [am 0]<|Y 3 (ag 4 kB kp)<|af 6 U H rfl
theorem KR (p:Nat) (s:ByteArray) (at_:Int) (dp:Int) (nd:Int) {H:Z} (y:aa E G H) (kp:H.get p=some (gb s at_ dp nd (.pointer none))) (ce:G.n≤p) (hs:(s.size:Int)<100000) (a0:0≤at_) (a1:at_≤s.size):aV E G 175 [pt p 0] H [p] (fun v H'=>(v=.tuple #[ab 0,U]∧at_=s.size∧H'.get p=some (gb s at_ dp nd (.pointer none)))∨(v=.tuple #[ab (ad s at_),aw]∧at_<s.size∧H'.get p=some (gb s (at_+1) dp nd (.pointer none)))):=by
 refine bB Tryz.f175 y ?_
 have gH:=y.wf.lt kp
 rcases df (at_==(s.size:Int)) with h1 |h1
 ·have q1:=pr h1
  exact aE [am 1]<|Y 3 (ag 1 av kp)<|Y 3 (ag 0 bA kp)<|ay 1 h1<|bf 2 (.tuple #[ab 0,U]) H [] aL aZ (.inl ⟨rfl,J,kp⟩)
 have q1:=tu h1
 obtain ⟨aU,e1⟩:∃ ao,ao=H.set p (O (iF s (at_+1) dp nd (.pointer none)) 151):=⟨_,rfl⟩
 have bZ:=bz e1
 exact aE [am 1]<|Y 3 (ag 1 av kp)<|Y 3 (ag 0 bA kp)<|ay 1 h1<|Y 3 (ag 1 av kp)<|aH 0 (at_+1)<|aB 2 (stx 1 (M (at_+1)) dK kp e1)<|Y 3 (ag 0 bA bZ)<|Y 3 (ag 1 av bZ)<|aH 0 ((at_+1)-1)<|aG 0 ((at_+1)-1) (s.size:Int)<|bf 2 (.tuple #[ab (ad s ((at_+1)-1)),aw]) aU [p] aW aZ (.inr ⟨by rw [show at_+1-1=at_ by omega],J,bZ⟩)
theorem Rc (p:Nat) (s:ByteArray) (at_:Int) (dp:Int) (nd:Int) {H:Z} (y:aa E G H) (kp:H.get p=some (gb s at_ dp nd (.pointer none))) (ce:G.n≤p) (hs:(s.size:Int)<100000) (a0:0≤at_) (a1:at_≤s.size):aV E G 195 [pt p 0] H [p] (fun v H'=>(∃(at' gl:Int) (wp':Nat),v=.tuple #[ab 0,U]∧H'.get p=some (gb s at' dp gl (pt wp' 0))∧ko s at_=none∧at_≤at'∧at'≤s.size)∨(∃ c at':Int,v=.tuple #[ab c,aw]∧H'.get p=some (gb s at' dp nd (.pointer none))∧ko s at_=some (at',c)∧0≤c∧c<256∧at_<at'∧at'≤s.size)):=by
 refine bB Tryz.f195 y ?_
 rcases df (at_==(s.size:Int)) with h1 |h1
 ·have q1:=pr h1
  obtain ⟨_,H1,c1,ak,y1,dk,iB,nD,rfl,ei⟩:=q6 p s at_ dp nd 0 0 2 y kp J hs J J J
  exact aE [am 1]<|Y 3 (ag 1 av kp)<|Y 3 (ag 0 bA kp)<|ay 1 h1<|ac 4 c1<|bf 2 (.tuple #[ab 0,U]) H1 [p] aW aZ (.inl ⟨at_,iB,nD,rfl,ei,Pb J,J,J⟩)
 have q1:=tu h1
 obtain ⟨_,H1,c1,ak,y1,bE⟩:=tK p s at_ dp nd ⟨#[93,91,94,45]⟩ y kp J hs J J
 rcases bE with ⟨rfl,mM⟩ |⟨rfl,py,oF⟩
 ·have bZ:=y.kept ak aq kp
  obtain ⟨_,H2,c2,aF,ar,cX⟩:=KR p s at_ dp nd y1 bZ J hs J J
  refine aE [am 1]<|Y 3 (ag 1 av kp)<|Y 3 (ag 0 bA kp)<|ay 1 h1<|ac 2 c1<|?_
  rcases cX with ⟨rfl,PB,fi⟩ |⟨rfl,abV,fi⟩
  ·exact ac 2 c2<|bf 10 (.tuple #[ab 0,aw]) H2 [p] aW aZ (absurd PB J)
  refine ac 2 c2<|aY 6 (ad s at_) 92 ?_ ?_ <;> intro h4 cO
  ·obtain ⟨_,H3,c3,bq,aM,fq⟩:=KR p s (at_+1) dp nd ar fi J hs J J
   rcases fq with ⟨rfl,aiV,gX⟩ |⟨rfl,aiX,gX⟩
   ·obtain ⟨_,H4,eg,ee,cu,aiU,yb,DD,rfl,lf⟩:=q6 p s (at_+1) dp nd 0 0 2 aM gX J hs J J J
    exact ac 1 c3<|ac 9 eg<|bf 4 (.tuple #[ab 0,U]) H4 [p,p,p] aW aZ (.inl ⟨at_+1,yb,DD,rfl,lf,Pd J J J,J,J⟩)
   exact ac 1 c3<|bf 11 (.tuple #[ab (ad s (at_+1)),aw]) H3 [p,p] aW aZ (.inr ⟨_,at_+2,rfl,(by rw [show at_+2=at_+1+1 by omega];exact gX),Pc J J,jl _ _,jc _ _,J,J⟩)
  exact bf 3 (.tuple #[ab (ad s at_),aw]) H2 [p] aW aZ (.inr ⟨_,at_+1,rfl,fi,Pe J (fun h=>mM ⟨J,h⟩) J,jl _ _,jc _ _,J,J⟩)
 have bZ:=y.kept ak aq kp
 obtain ⟨_,H2,c2,aF,ar,cJ,jG,qv,rfl,fi⟩:=q6 p s at_ dp nd 0 0 2 y1 bZ J hs J J J
 exact aE [am 1]<|Y 3 (ag 1 av kp)<|Y 3 (ag 0 bA kp)<|ay 1 h1<|ac 2 c1<|ac 3 c2<|bf 2 (.tuple #[ab 0,U]) H2 [p] aW aZ (.inl ⟨at_,jG,qv,rfl,fi,Pa py oF,J,J⟩)
theorem aev (p:Nat) (s:ByteArray) (at_:Int) (dp:Int) (nd:Int) (f:Int) {H:Z} (y:aa E G H) (kp:H.get p=some (gb s at_ dp nd (.pointer none))) (ce:G.n≤p) (hs:(s.size:Int)<100000) (a0:0≤at_) (a1:at_≤s.size) (f0:0≤f) (f1:f<s.size):aV E G 196 [pt p 0,M f] H [] (fun v H'=>v=M f∨v=M (f+1)):=by
 refine bB Tryz.f196 y ?_
 refine Y 4 (ag 0 bA kp)<|aG 1 f (s.size:Int)<|aY 0 (ad s f) 92 ?_ ?_ <;> intro h1 q1
 ·exact aH 1 (f+1)<|af 1 (M (f+1)) H (.inr rfl)
 exact af 2 (M f) H (.inl rfl)
noncomputable def TH:Code:=cw [1,1,0,1,0,0] (cx Tryz.f174)
theorem SM (nb:Nat):∀(m:Nat) (bg:Int) (xs:List Value) (H:Z),aa E G H→(fG:H.get nb=some (O (xs++[.slice none 0 0]) 176))→(np:iZ xs)→(x0:0≤bg)→(x1:bg≤256)→(gn:G.n≤nb)→(256-bg).toNat=m→
  bV E G 17 TH [(3,pt nb 0),(7,M bg)] H [nb] (fun x T H'=>(x=(.exit 0)∧T=aP [(3,pt nb 0)])):=by
 refine dJ fun m ih=>?_
 intro bg xs H y fG np x0 x1 gn hm
 refine cN y ?_
 have rZ:=y.wf.lt fG
 refine aD 0 (bg<256) ?_ ?_ <;> intro h1 q1
 ·obtain ⟨aU,e1⟩:∃ ao,ao=H.set nb (O ((xs.set (2+bg.toNat*1) aw)++[.slice none 0 0]) 176):=⟨_,rfl⟩
  have y1:aa E G aU:=e1▸y.set _ J J
  have cS:=bz e1
  exact aG 6 bg (256:Int)<|aB 0 (te (yg np fG J J) e1)<|aH 0 (bg+1)<|dY 1 [(3,pt nb 0),(7,M (bg+1))] aU [nb] aW (ih _ J (bg+1) (xs.set (2+bg.toNat*1) aw) _ y1 cS (iZ.set np (2+bg.toNat*1) J true) J J gn rfl)
 exact c5 0 [(3,pt nb 0)] (.exit 0) H [] aL aZ ⟨rfl,rfl⟩
theorem aer (p:Nat) (s:ByteArray) (at_:Int) (dp:Int) (nd:Int) {H:Z} (y:aa E G H) (kp:H.get p=some (gb s at_ dp nd (.pointer none))) (ce:G.n≤p) (hs:(s.size:Int)<100000) (a0:0≤at_) (a1:at_≤s.size):aV E G 174 [pt p 0] H [p] (fun v H'=>∃ nb gl,v=pt nb 0∧H'.get p=some (gb s at_ dp gl (.pointer none))):=by
 refine bB Tryz.f174 y ?_
 have gH:=y.wf.lt kp
 obtain ⟨_,H1,c1,ak,y1,dk,vm,iB,rfl,uW,EP,qh,ei⟩:=AL p s at_ dp nd 0 0 1 y kp J hs J J J
 have JG:=y1.wf.lt qh
 obtain ⟨_,_,H2,c2,aF,ar,rfl,rfl⟩:=(SM dk _ 0 vm _ y1 qh uW J J J rfl).code
 have cB:H1.n+0≤H2.n:=aF.n
 have cV:=y1.kept aF bU ei
 exact ac 2 c1<|bx 2 c2<|bf 2 (pt dk 0) H2 [p,dk] aJ aZ ⟨_,_,rfl,cV⟩
theorem Rf (p:Nat) (s:ByteArray) (at_:Int) (dp:Int) (nd:Int) (c:Int) {H:Z} (y:aa E G H) (kp:H.get p=some (gb s at_ dp nd (.pointer none))) (ce:G.n≤p) (hs:(s.size:Int)<100000) (a0:0≤at_) (a1:at_≤s.size) (c0:0≤c) (c1:c<256):aV E G 176 [pt p 0,ab c] H [p] (fun v H'=>∃ nb gl,v=pt nb 0∧H'.get p=some (gb s at_ dp gl (.pointer none))):=by
 refine bB Tryz.f176 y ?_
 have gH:=y.wf.lt kp
 obtain ⟨_,H1,c1,ak,y1,dk,vm,iB,rfl,uW,EP,qh,ei⟩:=AL p s at_ dp nd 0 0 1 y kp J hs J J J
 have JG:=y1.wf.lt qh
 obtain ⟨aK,e2⟩:∃ ao,ao=H1.set dk (O ((vm.set (2+c.toNat*1) aw)++[.slice none 0 0]) 176):=⟨_,rfl⟩
 have cB:aK.n=H1.n+0:=by rw [e2,Z.cI] <;> rfl
 have cV:=bW e2 J ei
 exact ac 2 c1<|aG 5 c (256:Int)<|aB 0 (te (yg uW qh J J) e2)<|bf 2 (pt dk 0) aK [p,dk] aJ aZ ⟨_,_,rfl,cV⟩
noncomputable def Ub:Code:=cw [1,1,1,1,0,0] (cx Tryz.f186)
theorem EY (nb:Nat) (hi:Int):∀(m:Nat) (b5:Int) (xs:List Value) (H:Z),aa E G H→(fG:H.get nb=some (O (xs++[.slice none 0 0]) 176))→(np:iZ xs)→(x0:0≤b5)→(hi0:0≤hi)→(hi1:hi<256)→(gn:G.n≤nb)→(256-b5).toNat=m→
  bV E G 67 Ub [(1,pt nb 0),(5,aw),(6,ab hi),(8,M b5)] H [nb] (fun x T H'=>(x=(.exit 0)∧∃(pS:List Value),T=aP []∧(iZ pS∧H'.get nb=some (O (pS++[.slice none 0 0]) 176)))):=by
 refine dJ fun m ih=>?_
 intro b5 xs H y fG np x0 hi0 hi1 gn hm
 refine cN y ?_
 have rZ:=y.wf.lt fG
 refine aH 4 hi<|aD 0 (b5≤hi) ?_ ?_ <;> intro h1 q1
 ·obtain ⟨aU,e1⟩:∃ ao,ao=H.set nb (O ((xs.set (2+b5.toNat*1) aw)++[.slice none 0 0]) 176):=⟨_,rfl⟩
  have y1:aa E G aU:=e1▸y.set _ J J
  have cS:=bz e1
  exact aG 5 b5 (256:Int)<|aB 0 (te (yg np fG J J) e1)<|aH 1 (b5+1)<|dY 1 [(1,pt nb 0),(5,aw),(6,ab hi),(8,M (b5+1))] aU [nb] aW (ih _ J (b5+1) (xs.set (2+b5.toNat*1) aw) _ y1 cS (iZ.set np (2+b5.toNat*1) J true) J hi0 hi1 gn rfl)
 exact c5 1 [] (.exit 0) H [] aL aZ ⟨rfl,xs,rfl,⟨np,fG⟩⟩
noncomputable def Ua:Code:=cw [1,1,1,1,0,0] (cx Tryz.f186)
theorem Ow (nb:Nat) (hi:Int) (x:Int)  {H:Z} (y:aa E G H):bV E G 67 Ua [(1,pt nb 0),(5,U),(6,ab hi),(8,M x)] H [] (fun x T H'=>(x=(.exit 0)∧T=aP [])):=by
 refine cN y ?_
 exact cF 3 [] (.exit 0) H ⟨rfl,rfl⟩
theorem KQ (p:Nat) (s:ByteArray) (at_:Int) (dp:Int) (nd:Int) (nb:Nat) (xs:List Value) {H:Z} (y:aa E G H) (kp:H.get p=some (gb s at_ dp nd (.pointer none))) (ce:G.n≤p) (hs:(s.size:Int)<100000) (a0:0≤at_) (a1:at_≤s.size) (fG:H.get nb=some (O (xs++[.slice none 0 0]) 176)) (np:iZ xs) (gn:G.n≤nb) (k9:p≠nb):aV E G 186 [pt p 0,pt nb 0] H [p,nb] (fun v H'=>(∃(xs':List Value) (at' gl:Int),v=dw∧iZ xs'∧H'.get nb=some (O (xs'++[.slice none 0 0]) 176)∧H'.get p=some (gb s at' dp gl (.pointer none))∧kR s at_=some at'∧at_<at'∧at'≤s.size)∨(∃(xs':List Value) (at' gl:Int) (wp':Nat),v=dw∧iZ xs'∧H'.get nb=some (O (xs'++[.slice none 0 0]) 176)∧H'.get p=some (gb s at' dp gl (pt wp' 0))∧kR s at_=none∧at_≤at'∧at'≤s.size)):=by
 refine bB Tryz.f186 y ?_
 have gH:=y.wf.lt kp
 obtain ⟨_,H1,c1,ak,y1,bE⟩:=Rc p s at_ dp nd y kp J hs J J
 rcases bE with ⟨dW,iB,nD,rfl,ei,fk,ma,b7⟩ |⟨qD,dW,rfl,ei,fk,ze,zf,ma,b7⟩
 ·obtain ⟨_,_,H2,c2,aF,ar,rfl,rfl⟩:=(Ow nb 0 0 y1).code
  have cS:=y.kept ak bU fG
  have ed:=y1.kept aF aq cS
  have cV:=y1.kept aF aq ei
  exact ac 1 c1<|bx 13 c2<|bf 0 (.tuple #[]) H2 [p] aW aZ (.inr ⟨_,dW,iB,nD,rfl,np,ed,cV,I0 fk,J,J⟩)
 have c8:H.n+0≤H1.n:=ak.n
 obtain ⟨_,H2,c2,aF,ar,cX⟩:=tK p s dW dp nd ⟨#[45]⟩ y1 ei J hs J J
 refine ac 1 c1<|?_
 rcases cX with ⟨rfl,zM⟩ |⟨rfl,xG,xH⟩
 ·have cS:=y.kept ak bU fG
  have ed:=y1.kept aF aq cS
  obtain ⟨_,_,H3,c3,bq,aM,rfl,A8,rfl,abZ,ZJ⟩:=(EY nb qD _ qD xs _ ar ed np J J J J rfl).code
  have cV:=y1.kept aF aq ei
  have eU:=ar.kept bq bU cV
  exact ac 10 c2<|aH 2 qD<|bx 1 c3<|bf 0 (.tuple #[]) H3 [p,nb] aW aZ (.inl ⟨_,dW,nd,rfl,abZ,ZJ,eU,I1 fk zM,J,J⟩)
 have cB:H1.n+0≤H2.n:=aF.n
 have cV:=y1.kept aF aq ei
 obtain ⟨cf,bc⟩:∃ ao,ao=H2.set p (O (iF s (dW+1) dp nd (.pointer none)) 151):=⟨_,rfl⟩
 have aM:aa E G cf:=bc▸ar.set _ J J
 have ek:cf.n=H2.n+0:=by rw [bc,Z.cI] <;> rfl
 have eU:=bz bc
 obtain ⟨_,H4,eg,ee,cu,jr⟩:=Rc p s (dW+1) dp nd aM eU J hs J J
 refine ac 10 c2<|Y 4 (ag 1 av cV)<|aH 0 (dW+1)<|aB 2 (stx 1 (M (dW+1)) dK cV bc)<|Y 3 (ag 1 av eU)<|?_
 rcases jr with ⟨k6,yb,DD,rfl,lf,px,BH,ld⟩ |⟨D1,k6,rfl,lf,px,Hi,Hk,BH,ld⟩
 ·obtain ⟨_,_,H5,fF,ej,dQ,rfl,rfl⟩:=(Ow nb 0 qD cu).code
  have cS:=y.kept ak bU fG
  have ed:=y1.kept aF aq cS
  have eo:=bW bc J ed
  have fo:=aM.kept ee bU eo
  have i6:=cu.kept ej aq fo
  have e8:=cu.kept ej aq lf
  exact ac 2 eg<|aH 9 qD<|bx 1 fF<|bf 0 (.tuple #[]) H5 [p,p,p] aW aZ (.inr ⟨_,k6,yb,DD,rfl,np,i6,e8,I3 fk xG xH px,J,J⟩)
 have gm:cf.n+0≤H4.n:=ee.n
 refine ac 2 eg<|aD 9 (D1<qD) ?_ ?_ <;> intro h4 cO
 ·obtain ⟨_,H5,fF,ej,dQ,ny⟩:=aev p s k6 dp nd (dW+1) cu lf J hs J J J J
  rcases ny with rfl |rfl
  ·have iR:H4.n+0≤H5.n:=ej.n
   have e8:=cu.kept ej aq lf
   obtain ⟨gV,eF⟩:∃ ao,ao=H5.set p (O (iF s (dW+1) dp nd (.pointer none)) 151):=⟨_,rfl⟩
   have gN:aa E G gV:=eF▸dQ.set _ J J
   have il:=bz eF
   obtain ⟨_,mD,ov,og,oh,abM,JQ,Ly,rfl,Jo⟩:=q6 p s (dW+1) dp nd 0 0 2 gN il J hs J J J
   have cS:=y.kept ak bU fG
   have ed:=y1.kept aF aq cS
   have eo:=bW bc J ed
   have fo:=aM.kept ee bU eo
   have i6:=cu.kept ej aq fo
   have qL:=bW eF J i6
   have wa:=gN.kept og bU qL
   obtain ⟨_,_,Be,zh,A3,LD,rfl,LS,rfl,J7,Jm⟩:=(EY nb D1 _ qD xs _ oh wa np J J J J rfl).code
   have Co:=oh.kept A3 bU Jo
   exact ac 4 fF<|aB 2 (stx 1 (M (dW+1)) dK e8 eF)<|ac 2 ov<|aH 1 qD<|bx 1 zh<|bf 0 (.tuple #[]) Be [p,p,p,p,p,nb] aW aZ (.inr ⟨_,dW+1,JQ,Ly,rfl,J7,Jm,Co,EZ fk xG xH px J,J,J⟩)
  have iR:H4.n+0≤H5.n:=ej.n
  have e8:=cu.kept ej aq lf
  obtain ⟨gV,eF⟩:∃ ao,ao=H5.set p (O (iF s ((dW+1)+1) dp nd (.pointer none)) 151):=⟨_,rfl⟩
  have gN:aa E G gV:=eF▸dQ.set _ J J
  have il:=bz eF
  obtain ⟨_,mD,ov,og,oh,abM,JQ,Ly,rfl,Jo⟩:=q6 p s ((dW+1)+1) dp nd 0 0 2 gN il J hs J J J
  have cS:=y.kept ak bU fG
  have ed:=y1.kept aF aq cS
  have eo:=bW bc J ed
  have fo:=aM.kept ee bU eo
  have i6:=cu.kept ej aq fo
  have qL:=bW eF J i6
  have wa:=gN.kept og bU qL
  obtain ⟨_,_,Be,zh,A3,LD,rfl,LS,rfl,J7,Jm⟩:=(EY nb D1 _ qD xs _ oh wa np J J J J rfl).code
  have Co:=oh.kept A3 bU Jo
  exact ac 4 fF<|aB 2 (stx 1 (M ((dW+1)+1)) dK e8 eF)<|ac 2 ov<|aH 1 qD<|bx 1 zh<|bf 0 (.tuple #[]) Be [p,p,p,p,p,nb] aW aZ (.inr ⟨_,(dW+1)+1,JQ,Ly,rfl,J7,Jm,Co,EZ fk xG xH px J,J,J⟩)
 have cS:=y.kept ak bU fG
 have ed:=y1.kept aF aq cS
 have eo:=bW bc J ed
 have fo:=aM.kept ee bU eo
 obtain ⟨_,_,H5,fF,ej,dQ,rfl,tW,rfl,yf,x5⟩:=(EY nb D1 _ qD xs _ cu fo np J J J J rfl).code
 have e8:=cu.kept ej bU lf
 exact aH 2 qD<|bx 1 fF<|bf 0 (.tuple #[]) H5 [p,p,p,nb] aW aZ (.inl ⟨_,k6,nd,rfl,yf,x5,e8,I2 fk xG xH px J,J,J⟩)
noncomputable def TR:Code:=cw [1,1,1,1,1,0,0,0] (cx Tryz.f173)
theorem D9 (p:Nat) (nb:Nat) (s:ByteArray) (dp:Int) (e5:Int) (fO:Bool) (R:Option Int):∀(m:Nat) (at_:Int) (nd:Int) (w:Nat) (wp:Nat) (xs:List Value) (H:Z),aa E G H→(kp:H.get p=some (O (iF s at_ dp nd (hC w wp)) 151))→(fG:H.get nb=some (O (xs++[.slice none 0 0]) 176))→(hs:(s.size:Int)<100000)→(ce:G.n≤p)→(gn:G.n≤nb)→(k9:p≠nb)→(b0:0≤e5)→(b1:e5≤at_)→(a1:at_≤s.size)→(hw:w=0∨w=1)→(np:iZ xs)→(hR:sE w (nT s at_) R)→2*((s.size:Int)-at_).toNat+(1-w)=m→
  bV E G 64 TR [(0,pt p 0),(3,pt nb 0),(4,.bool fO)] H [p,nb] (fun x T H'=>(x=(.exit 0)∧∃(eW qx:Int) (ip sw:Nat) (pS:List Value),T=aP [(0,pt p 0),(3,pt nb 0),(4,.bool fO)]∧(H'.get p=some (gb s eW dp qx (hC ip sw))∧iZ pS∧H'.get nb=some (O (pS++[.slice none 0 0]) 176)∧e5≤eW∧eW≤s.size∧(ip=0∨ip=1)∧(ip=0→R=some (eW+1)∧eW<s.size)∧(ip=1→R=none)))):=by
 refine dJ fun m ih=>?_
 intro at_ nd w wp xs H y kp fG hs ce gn k9 b0 b1 a1 hw np hR hm
 refine cN y ?_
 refine Y 3 (ag 4 kB kp)<|?_
 rcases hw with rfl |rfl
 ·obtain ⟨_,H1,c1,ak,y1,bE⟩:=tK p s at_ dp nd ⟨#[93]⟩ y kp J hs J J
  rcases bE with ⟨rfl,mM⟩ |⟨rfl,py,oF⟩
  ·have bZ:=y.kept ak aq kp
   have cS:=y.kept ak aq fG
   obtain ⟨_,H2,c2,aF,ar,cX⟩:=KQ p s at_ dp nd nb xs y1 bZ J hs J J cS np J J
   refine ac 3 c1<|?_
   rcases cX with ⟨wO,gO,jG,rfl,wy,tj,fi,iP,oD,bj⟩ |⟨wO,gO,jG,qv,rfl,wy,tj,fi,iP,oD,bj⟩
   ·exact ac 4 c2<|dY 0 [(0,pt p 0),(3,pt nb 0),(4,.bool fO)] H2 [p,nb] aW (ih _ J gO jG 0 0 wO _ ar fi tj hs ce gn k9 b0 J J J wy (.go ((HA mM iP).symm.trans (hR.1 rfl))) rfl)
   exact ac 4 c2<|dY 0 [(0,pt p 0),(3,pt nb 0),(4,.bool fO)] H2 [p,nb] aW (ih _ J gO jG 1 qv wO _ ar fi tj hs ce gn k9 b0 J J J wy (.bad ((hR.1 rfl).symm.trans (Ec mM iP))) rfl)
  have bZ:=y.kept ak aq kp
  have cS:=y.kept ak aq fG
  exact ac 3 c1<|c5 2 [(0,pt p 0),(3,pt nb 0),(4,.bool fO)] (.exit 0) H1 [] aL aZ ⟨rfl,at_,nd,0,wp,xs,rfl,⟨bZ,np,cS,J,J,J,⟨fun _=>⟨(hR.1 rfl).symm.trans (M4 py oF),py⟩,fun h=>absurd h (by decide)⟩⟩⟩
 exact c5 3 [(0,pt p 0),(3,pt nb 0),(4,.bool fO)] (.exit 0) H [] aL aZ ⟨rfl,at_,nd,1,wp,xs,rfl,⟨kp,np,fG,J,J,J,⟨fun h=>absurd h (by decide),fun _=>hR.2 rfl⟩⟩⟩
noncomputable def TT:Code:=cw [1,1,1,1,1,1,1,0,1,0,0] (cx Tryz.f173)
theorem Eb (nb:Nat):∀(m:Nat) (ge:Int) (xs:List Value) (H:Z),aa E G H→(fG:H.get nb=some (O (xs++[.slice none 0 0]) 176))→(np:iZ xs)→(x0:0≤ge)→(x1:ge≤256)→(gn:G.n≤nb)→(256-ge).toNat=m→
  bV E G 64 TT [(3,pt nb 0),(4,aw),(46,M ge)] H [nb] (fun x T H'=>(x=(.exit 2)∧T=aP [(3,pt nb 0)])):=by
 refine dJ fun m ih=>?_
 intro ge xs H y fG np x0 x1 gn hm
 refine cN y ?_
 have rZ:=y.wf.lt fG
 refine aD 0 (ge<256) ?_ ?_ <;> intro h1 q1
 ·obtain ⟨DE,vZ⟩:=PV (o:=(2+ge.toNat*1)) np fG J J
  cases DE with
  |true=>
   obtain ⟨aU,e1⟩:∃ ao,ao=H.set nb (O ((xs.set (2+ge.toNat*1) U)++[.slice none 0 0]) 176):=⟨_,rfl⟩
   have y1:aa E G aU:=e1▸y.set _ J J
   have cS:=bz e1
   exact aE [am 1]<|aG 6 ge (256:Int)<|az [bw aw H] vZ<|aG 4 ge (256:Int)<|aB 0 (te (yg np fG J J) e1)<|az [] (dO y fG:cK H aU [nb]=true)<|aH 0 (ge+1)<|dY 1 [(3,pt nb 0),(4,aw),(46,M (ge+1))] aU [nb] aW (ih _ J (ge+1) (xs.set (2+ge.toNat*1) U) _ y1 cS (iZ.set np (2+ge.toNat*1) J false) J J gn rfl)
  |false=>
   obtain ⟨aU,e1⟩:∃ ao,ao=H.set nb (O ((xs.set (2+ge.toNat*1) aw)++[.slice none 0 0]) 176):=⟨_,rfl⟩
   have y1:aa E G aU:=e1▸y.set _ J J
   have cS:=bz e1
   exact aE [am 1]<|aG 6 ge (256:Int)<|az [bw U H] vZ<|aG 4 ge (256:Int)<|aB 0 (te (yg np fG J J) e1)<|az [] (dO y fG:cK H aU [nb]=true)<|aH 0 (ge+1)<|dY 1 [(3,pt nb 0),(4,aw),(46,M (ge+1))] aU [nb] aW (ih _ J (ge+1) (xs.set (2+ge.toNat*1) aw) _ y1 cS (iZ.set np (2+ge.toNat*1) J true) J J gn rfl)
 exact c5 0 [(3,pt nb 0)] (.exit 2) H [] aL aZ ⟨rfl,rfl⟩
noncomputable def TS:Code:=cw [1,1,1,1,1,1,1,0,1,0,0] (cx Tryz.f173)
theorem Ea (nb:Nat):∀(m:Nat) (ge:Int) (xs:List Value) (H:Z),aa E G H→(fG:H.get nb=some (O (xs++[.slice none 0 0]) 176))→(np:iZ xs)→(x0:0≤ge)→(x1:ge≤256)→(gn:G.n≤nb)→(256-ge).toNat=m→
  bV E G 64 TS [(3,pt nb 0),(4,U),(46,M ge)] H [nb] (fun x T H'=>(x=(.exit 2)∧T=aP [(3,pt nb 0)])):=by
 refine dJ fun m ih=>?_
 intro ge xs H y fG np x0 x1 gn hm
 refine cN y ?_
 have rZ:=y.wf.lt fG
 refine aD 0 (ge<256) ?_ ?_ <;> intro h1 q1
 ·obtain ⟨DE,vZ⟩:=PV (o:=(2+ge.toNat*1)) np fG J J
  cases DE with
  |true=>
   obtain ⟨aU,e1⟩:∃ ao,ao=H.set nb (O ((xs.set (2+ge.toNat*1) aw)++[.slice none 0 0]) 176):=⟨_,rfl⟩
   have y1:aa E G aU:=e1▸y.set _ J J
   have cS:=bz e1
   exact aE [am 1]<|aG 6 ge (256:Int)<|az [bw aw H] vZ<|aG 4 ge (256:Int)<|aB 0 (te (yg np fG J J) e1)<|az [] (dO y fG:cK H aU [nb]=true)<|aH 0 (ge+1)<|dY 1 [(3,pt nb 0),(4,U),(46,M (ge+1))] aU [nb] aW (ih _ J (ge+1) (xs.set (2+ge.toNat*1) aw) _ y1 cS (iZ.set np (2+ge.toNat*1) J true) J J gn rfl)
  |false=>
   obtain ⟨aU,e1⟩:∃ ao,ao=H.set nb (O ((xs.set (2+ge.toNat*1) U)++[.slice none 0 0]) 176):=⟨_,rfl⟩
   have y1:aa E G aU:=e1▸y.set _ J J
   have cS:=bz e1
   exact aE [am 1]<|aG 6 ge (256:Int)<|az [bw U H] vZ<|aG 4 ge (256:Int)<|aB 0 (te (yg np fG J J) e1)<|az [] (dO y fG:cK H aU [nb]=true)<|aH 0 (ge+1)<|dY 1 [(3,pt nb 0),(4,U),(46,M (ge+1))] aU [nb] aW (ih _ J (ge+1) (xs.set (2+ge.toNat*1) U) _ y1 cS (iZ.set np (2+ge.toNat*1) J false) J J gn rfl)
 exact c5 0 [(3,pt nb 0)] (.exit 2) H [] aL aZ ⟨rfl,rfl⟩
theorem aet (p:Nat) (s:ByteArray) (at_:Int) (dp:Int) (nd:Int) {H:Z} (y:aa E G H) (kp:H.get p=some (gb s at_ dp nd (.pointer none))) (ce:G.n≤p) (hs:(s.size:Int)<100000) (a0:0≤at_) (a1:at_≤s.size):aV E G 173 [pt p 0] H [p] (fun v H'=>wY s p at_ 0 ((nS s at_).map fun a=>(a,dp)) v H'):=by
 refine bB Tryz.f173 y ?_
 have gH:=y.wf.lt kp
 obtain ⟨_,H1,c1,ak,y1,dk,vm,iB,rfl,uW,EP,qh,ei⟩:=AL p s at_ dp nd 0 0 1 y kp J hs J J J
 have JG:=y1.wf.lt qh
 obtain ⟨_,H2,c2,aF,ar,cX⟩:=tK p s at_ dp iB ⟨#[94]⟩ y1 ei J hs J J
 refine ac 2 c1<|?_
 rcases cX with ⟨rfl,zM⟩ |⟨rfl,xG,xH⟩
 ·have cB:H1.n+0≤H2.n:=aF.n
  have cV:=y1.kept aF aq ei
  have I5:=y1.kept aF aq qh
  obtain ⟨_,H3,c3,bq,aM,fq⟩:=KQ p s at_ dp iB dk vm ar cV J hs J J I5 uW J J
  refine ac 2 c2<|?_
  rcases fq with ⟨LB,fW,kq,rfl,J5,Jj,gX,jn,qb,ec⟩ |⟨LB,fW,kq,sn,rfl,J5,Jj,gX,jn,qb,ec⟩
  ·have ek:H2.n+0≤H3.n:=bq.n
   obtain ⟨_,_,H4,eg,ee,cu,rfl,nH,yV,ahn,DH,vp,rfl,oM,CW,Cq,lh,tM,IT,yu,Dd⟩:=(D9 p dk s dp fW false (nS s at_) _ fW kq 0 0 LB _ aM gX Jj hs ce J J J J J J J5 (.go (M2 (if_neg zM) jn).symm) rfl).code
   have gm:H3.n+0≤H4.n:=ee.n
   refine ac 4 c3<|bx 0 eg<|Y 3 (ag 4 kB oM)<|?_
   rcases IT with rfl |rfl
   ·obtain ⟨d6,bJ⟩:∃ ao,ao=H4.set p (O (iF s (nH+1) dp yV (hC 0 DH)) 151):=⟨_,rfl⟩
    have dQ:aa E G d6:=bJ▸cu.set _ J J
    have iR:d6.n=H4.n+0:=by rw [bJ,Z.cI] <;> rfl
    have e8:=bz bJ
    have Ja:=bW bJ J Cq
    obtain ⟨_,_,gF,jd,iW,gN,rfl,rfl⟩:=(Ea dk _ 0 vp _ dQ Ja CW J J J rfl).code
    have qX:d6.n+0≤gF.n:=iW.n
    have il:=dQ.kept iW bU e8
    exact Y 4 (ag 1 av oM)<|aH 0 (nH+1)<|aB 2 (stx 1 (M (nH+1)) dK oM bJ)<|bx 1 jd<|bf 2 (pt dk 0) gF [p,p,dk,p,dk,p,dk] aJ aZ (.inl ⟨_,nH+1,dp,yV,rfl,il,congrArg (Option.map fun a=>(a,dp)) (yu rfl).1,J,J⟩)
   obtain ⟨_,_,H5,fF,ej,dQ,rfl,rfl⟩:=(Ea dk _ 0 vp _ cu Cq CW J J J rfl).code
   have iR:H4.n+0≤H5.n:=ej.n
   have e8:=cu.kept ej bU oM
   exact bx 2 fF<|bf 2 (pt dk 0) H5 [p,p,dk,p,dk,dk] aJ aZ (.inr ⟨_,nH,dp,yV,DH,rfl,e8,congrArg (Option.map fun a=>(a,dp)) (Dd rfl),J,J⟩)
  have ek:H2.n+0≤H3.n:=bq.n
  obtain ⟨_,_,H4,eg,ee,cu,rfl,nH,yV,ahn,DH,vp,rfl,oM,CW,Cq,lh,tM,IT,yu,Dd⟩:=(D9 p dk s dp fW false (nS s at_) _ fW kq 1 sn LB _ aM gX Jj hs ce J J J J J J J5 (.bad (M1 (if_neg zM) jn)) rfl).code
  have gm:H3.n+0≤H4.n:=ee.n
  refine ac 4 c3<|bx 0 eg<|Y 3 (ag 4 kB oM)<|?_
  rcases IT with rfl |rfl
  ·obtain ⟨d6,bJ⟩:∃ ao,ao=H4.set p (O (iF s (nH+1) dp yV (hC 0 DH)) 151):=⟨_,rfl⟩
   have dQ:aa E G d6:=bJ▸cu.set _ J J
   have iR:d6.n=H4.n+0:=by rw [bJ,Z.cI] <;> rfl
   have e8:=bz bJ
   have Ja:=bW bJ J Cq
   obtain ⟨_,_,gF,jd,iW,gN,rfl,rfl⟩:=(Ea dk _ 0 vp _ dQ Ja CW J J J rfl).code
   have qX:d6.n+0≤gF.n:=iW.n
   have il:=dQ.kept iW bU e8
   exact Y 4 (ag 1 av oM)<|aH 0 (nH+1)<|aB 2 (stx 1 (M (nH+1)) dK oM bJ)<|bx 1 jd<|bf 2 (pt dk 0) gF [p,p,dk,p,dk,p,dk] aJ aZ (.inl ⟨_,nH+1,dp,yV,rfl,il,congrArg (Option.map fun a=>(a,dp)) (yu rfl).1,J,J⟩)
  obtain ⟨_,_,H5,fF,ej,dQ,rfl,rfl⟩:=(Ea dk _ 0 vp _ cu Cq CW J J J rfl).code
  have iR:H4.n+0≤H5.n:=ej.n
  have e8:=cu.kept ej bU oM
  exact bx 2 fF<|bf 2 (pt dk 0) H5 [p,p,dk,p,dk,dk] aJ aZ (.inr ⟨_,nH,dp,yV,DH,rfl,e8,congrArg (Option.map fun a=>(a,dp)) (Dd rfl),J,J⟩)
 have cB:H1.n+0≤H2.n:=aF.n
 have cV:=y1.kept aF aq ei
 obtain ⟨cf,bc⟩:∃ ao,ao=H2.set p (O (iF s (at_+1) dp iB (.pointer none)) 151):=⟨_,rfl⟩
 have aM:aa E G cf:=bc▸ar.set _ J J
 have ek:cf.n=H2.n+0:=by rw [bc,Z.cI] <;> rfl
 have eU:=bz bc
 have I5:=y1.kept aF aq qh
 have Zj:=bW bc J I5
 obtain ⟨_,H4,eg,ee,cu,jr⟩:=KQ p s (at_+1) dp iB dk vm aM eU J hs J J Zj uW J J
 refine ac 2 c2<|Y 5 (ag 1 av cV)<|aH 0 (at_+1)<|aB 2 (stx 1 (M (at_+1)) dK cV bc)<|?_
 rcases jr with ⟨LC,k6,yb,rfl,J6,Jk,lf,px,BH,ld⟩ |⟨LC,k6,yb,DD,rfl,J6,Jk,lf,px,BH,ld⟩
 ·have gm:cf.n+0≤H4.n:=ee.n
  obtain ⟨_,_,H5,fF,ej,dQ,rfl,sr,yW,aho,DI,tW,rfl,uG,yf,x5,se,KU,IU,KV,KX⟩:=(D9 p dk s dp k6 true (nS s at_) _ k6 yb 0 0 LC _ cu lf Jk hs ce J J J J J J J6 (.go (M2 (if_pos ⟨xG,xH⟩) px).symm) rfl).code
  have iR:H4.n+0≤H5.n:=ej.n
  refine ac 2 eg<|bx 0 fF<|Y 3 (ag 4 kB uG)<|?_
  rcases IU with rfl |rfl
  ·obtain ⟨gV,eF⟩:∃ ao,ao=H5.set p (O (iF s (sr+1) dp yW (hC 0 DI)) 151):=⟨_,rfl⟩
   have gN:aa E G gV:=eF▸dQ.set _ J J
   have qX:gV.n=H5.n+0:=by rw [eF,Z.cI] <;> rfl
   have il:=bz eF
   have Je:=bW eF J x5
   obtain ⟨_,_,mD,ov,og,oh,rfl,rfl⟩:=(Eb dk _ 0 tW _ gN Je yf J J J rfl).code
   have CV:gV.n+0≤mD.n:=og.n
   have pA:=gN.kept og bU il
   exact Y 4 (ag 1 av uG)<|aH 0 (sr+1)<|aB 2 (stx 1 (M (sr+1)) dK uG eF)<|bx 1 ov<|bf 2 (pt dk 0) mD [p,p,p,dk,p,dk,p,dk] aJ aZ (.inl ⟨_,sr+1,dp,yW,rfl,pA,congrArg (Option.map fun a=>(a,dp)) (KV rfl).1,J,J⟩)
  obtain ⟨_,_,gF,jd,iW,gN,rfl,rfl⟩:=(Eb dk _ 0 tW _ dQ x5 yf J J J rfl).code
  have qX:H5.n+0≤gF.n:=iW.n
  have il:=dQ.kept iW bU uG
  exact bx 2 jd<|bf 2 (pt dk 0) gF [p,p,p,dk,p,dk,dk] aJ aZ (.inr ⟨_,sr,dp,yW,DI,rfl,il,congrArg (Option.map fun a=>(a,dp)) (KX rfl),J,J⟩)
 have gm:cf.n+0≤H4.n:=ee.n
 obtain ⟨_,_,H5,fF,ej,dQ,rfl,sr,yW,aho,DI,tW,rfl,uG,yf,x5,se,KU,IU,KV,KX⟩:=(D9 p dk s dp k6 true (nS s at_) _ k6 yb 1 DD LC _ cu lf Jk hs ce J J J J J J J6 (.bad (M1 (if_pos ⟨xG,xH⟩) px)) rfl).code
 have iR:H4.n+0≤H5.n:=ej.n
 refine ac 2 eg<|bx 0 fF<|Y 3 (ag 4 kB uG)<|?_
 rcases IU with rfl |rfl
 ·obtain ⟨gV,eF⟩:∃ ao,ao=H5.set p (O (iF s (sr+1) dp yW (hC 0 DI)) 151):=⟨_,rfl⟩
  have gN:aa E G gV:=eF▸dQ.set _ J J
  have qX:gV.n=H5.n+0:=by rw [eF,Z.cI] <;> rfl
  have il:=bz eF
  have Je:=bW eF J x5
  obtain ⟨_,_,mD,ov,og,oh,rfl,rfl⟩:=(Eb dk _ 0 tW _ gN Je yf J J J rfl).code
  have CV:gV.n+0≤mD.n:=og.n
  have pA:=gN.kept og bU il
  exact Y 4 (ag 1 av uG)<|aH 0 (sr+1)<|aB 2 (stx 1 (M (sr+1)) dK uG eF)<|bx 1 ov<|bf 2 (pt dk 0) mD [p,p,p,dk,p,dk,p,dk] aJ aZ (.inl ⟨_,sr+1,dp,yW,rfl,pA,congrArg (Option.map fun a=>(a,dp)) (KV rfl).1,J,J⟩)
 obtain ⟨_,_,gF,jd,iW,gN,rfl,rfl⟩:=(Eb dk _ 0 tW _ dQ x5 yf J J J rfl).code
 have qX:H5.n+0≤gF.n:=iW.n
 have il:=dQ.kept iW bU uG
 exact bx 2 jd<|bf 2 (pt dk 0) gF [p,p,p,dk,p,dk,dk] aJ aZ (.inr ⟨_,sr,dp,yW,DI,rfl,il,congrArg (Option.map fun a=>(a,dp)) (KX rfl),J,J⟩)
theorem aeu (p:Nat) (s:ByteArray) (at_:Int) (dp:Int) (nd:Int) (n:Nat) {H:Z} (y:aa E G H) (kp:H.get p=some (gb s at_ dp nd (.pointer none))) (ce:G.n≤p) (hs:(s.size:Int)<100000) (a0:0≤at_) (a1:at_≤s.size) (hA:sB s n) (hn:((s.size:Int)-at_).toNat≤n) (hlt:at_<s.size) (hc:ad s at_=40):aV E G 172 [pt p 0] H [p] (fun v H'=>wY s p at_ 1 (k7 s at_ dp) v H'):=by
 refine bB Tryz.f172 y ?_
 have gH:=y.wf.lt kp
 refine Y 4 (ag 2 av kp)<|aY 0 dp 32 ?_ ?_ <;> intro h1 q1
 ·obtain ⟨_,H1,c1,ak,y1,dk,iB,nD,rfl,ei⟩:=q6 p s at_ dp nd 0 0 12 y kp J hs J J J
  exact ac 2 c1<|bf 1 (pt dk 0) H1 [p] aW aZ (.inr ⟨_,at_,dp,iB,nD,rfl,ei,Mq hlt hc q1,J,J⟩)
 obtain ⟨aU,e1⟩:∃ ao,ao=H.set p (O (iF s (at_+1) dp nd (.pointer none)) 151):=⟨_,rfl⟩
 have y1:aa E G aU:=e1▸y.set _ J J
 have c8:aU.n=H.n+0:=by rw [e1,Z.cI] <;> rfl
 have bZ:=bz e1
 obtain ⟨aK,e2⟩:∃ ao,ao=aU.set p (O (iF s (at_+1) (IntKind.i64.wrap (dp+1)) nd (.pointer none)) 151):=⟨_,rfl⟩
 have ar:aa E G aK:=e2▸y1.set _ J J
 have cB:aK.n=aU.n+0:=by rw [e2,Z.cI] <;> rfl
 have cV:=bz e2
 obtain ⟨_,H3,c3,bq,aM,fq⟩:=hA p (at_+1) (IntKind.i64.wrap (dp+1)) nd ar cV J hs J J J
 refine Y 3 (ag 1 av kp)<|aH 0 (at_+1)<|aB 2 (stx 1 (M (at_+1)) dK kp e1)<|Y 3 (ag 2 av bZ)<|aB 3 (stx 2 (M (IntKind.i64.wrap (dp+1))) dK bZ e2)<|?_
 rcases fq with ⟨c7,fW,lp,kq,rfl,gX,jn,qb,ec⟩ |⟨c7,fW,lp,kq,sn,rfl,gX,jn,qb,ec⟩
 ·have ek:aK.n+0≤H3.n:=bq.n
  obtain ⟨b6,aN⟩:∃ ao,ao=H3.set p (O (iF s fW (IntKind.i64.wrap (lp-1)) kq (.pointer none)) 151):=⟨_,rfl⟩
  have cu:aa E G b6:=aN▸aM.set _ J J
  have gm:b6.n=H3.n+0:=by rw [aN,Z.cI] <;> rfl
  have eG:=bz aN
  obtain ⟨_,H5,fF,ej,dQ,ny⟩:=tK p s fW (IntKind.i64.wrap (lp-1)) kq ⟨#[41]⟩ cu eG J hs J J
  refine ac 1 c3<|Y 4 (ag 2 av gX)<|aB 3 (stx 2 (M (IntKind.i64.wrap (lp-1))) dK gX aN)<|?_
  rcases ny with ⟨rfl,X3⟩ |⟨rfl,X0,X1⟩
  ·have e8:=cu.kept ej aq eG
   obtain ⟨_,gF,jd,iW,gN,JN,JP,Lx,rfl,Jn⟩:=q6 p s fW (IntKind.i64.wrap (lp-1)) kq 0 0 2 dQ e8 J hs J J J
   exact ac 1 fF<|ac 3 jd<|bf 1 (pt JN 0) gF (vc p) aW aZ (.inr ⟨_,fW,IntKind.i64.wrap (lp-1),JP,Lx,rfl,Jn,Mr hlt hc q1 jn X3,J,J⟩)
  have iR:b6.n+0≤H5.n:=ej.n
  have e8:=cu.kept ej aq eG
  obtain ⟨gV,eF⟩:∃ ao,ao=H5.set p (O (iF s (fW+1) (IntKind.i64.wrap (lp-1)) kq (.pointer none)) 151):=⟨_,rfl⟩
  have il:=bz eF
  exact ac 1 fF<|Y 4 (ag 1 av e8)<|aH 0 (fW+1)<|aB 2 (stx 1 (M (fW+1)) dK e8 eF)<|bf 2 (pt c7 0) gV (vc p) aW aZ (.inl ⟨_,fW+1,IntKind.i64.wrap (lp-1),kq,rfl,il,Mt hlt hc q1 jn X0 X1,J,J⟩)
 have ek:aK.n+0≤H3.n:=bq.n
 obtain ⟨b6,aN⟩:∃ ao,ao=H3.set p (O (iF s fW (IntKind.i64.wrap (lp-1)) kq (pt sn 0)) 151):=⟨_,rfl⟩
 have cu:aa E G b6:=aN▸aM.set _ J J
 have eG:=bz aN
 obtain ⟨_,H5,fF,ej,dQ,rfl⟩:=Gj p s fW (IntKind.i64.wrap (lp-1)) kq sn ⟨#[41]⟩ cu eG J hs J J
 have e8:=cu.kept ej aq eG
 obtain ⟨_,gF,jd,iW,gN,JN,JP,Lx,rfl,Jn⟩:=q6 p s fW (IntKind.i64.wrap (lp-1)) kq 1 sn 2 dQ e8 J hs J J J
 exact ac 1 c3<|Y 4 (ag 2 av gX)<|aB 3 (stx 2 (M (IntKind.i64.wrap (lp-1))) dK gX aN)<|ac 1 fF<|ac 3 jd<|bf 1 (pt JN 0) gF (vc p) aW aZ (.inr ⟨_,fW,IntKind.i64.wrap (lp-1),JP,Lx,rfl,Jn,Ms hlt hc q1 jn,J,J⟩)
theorem aes (p:Nat) (s:ByteArray) (at_:Int) (dp:Int) (nd:Int) (n:Nat) {H:Z} (y:aa E G H) (kp:H.get p=some (gb s at_ dp nd (.pointer none))) (ce:G.n≤p) (hs:(s.size:Int)<100000) (a0:0≤at_) (a1:at_≤s.size) (hA:sB s n) (hn:((s.size:Int)-at_).toNat≤n) (hlt:at_<s.size):aV E G 164 [pt p 0] H [p] (fun v H'=>wY s p at_ 1 (k7 s at_ dp) v H'):=by
 refine bB Tryz.f164 y ?_
 have gH:=y.wf.lt kp
 refine aE [am 0]<|Y 3 (ag 0 bA kp)<|Y 3 (ag 1 av kp)<|aG 0 at_ (s.size:Int)<|aY 2 (ad s at_) 40 ?_ ?_ <;> intro h1 q1
 ·obtain ⟨_,H1,c1,ak,y1,bE⟩:=aeu p s at_ dp nd n y kp J hs J J hA J J J
  rcases bE with ⟨dk,dW,ln,iB,rfl,ei,fk,ma,b7⟩ |⟨dk,dW,ln,iB,nD,rfl,ei,fk,ma,b7⟩
  ·exact ac 2 c1<|bf 1 (pt dk 0) H1 [p] aW aZ (.inl ⟨_,dW,ln,iB,rfl,ei,fk,J,J⟩)
  exact ac 2 c1<|bf 1 (pt dk 0) H1 [p] aW aZ (.inr ⟨_,dW,ln,iB,nD,rfl,ei,fk,J,J⟩)
 refine aY 2 (ad s at_) 91 ?_ ?_ <;> intro h2 cv
 ·obtain ⟨aU,e1⟩:∃ ao,ao=H.set p (O (iF s (at_+1) dp nd (.pointer none)) 151):=⟨_,rfl⟩
  have y1:aa E G aU:=e1▸y.set _ J J
  have bZ:=bz e1
  obtain ⟨_,H2,c2,aF,ar,cX⟩:=aet p s (at_+1) dp nd y1 bZ J hs J J
  refine Y 4 (ag 1 av kp)<|aH 0 (at_+1)<|aB 2 (stx 1 (M (at_+1)) dK kp e1)<|?_
  rcases cX with ⟨cJ,gO,rz,jG,rfl,fi,iP,oD,bj⟩ |⟨cJ,gO,rz,jG,qv,rfl,fi,iP,oD,bj⟩
  ·exact ac 1 c2<|bf 1 (pt cJ 0) H2 [p,p] aW aZ (.inl ⟨_,gO,rz,jG,rfl,fi,(DX hlt J).trans iP,J,J⟩)
  exact ac 1 c2<|bf 1 (pt cJ 0) H2 [p,p] aW aZ (.inr ⟨_,gO,rz,jG,qv,rfl,fi,(DX hlt J).trans iP,J,J⟩)
 refine aY 2 (ad s at_) 46 ?_ ?_ <;> intro h3 cY
 ·obtain ⟨aU,e1⟩:∃ ao,ao=H.set p (O (iF s (at_+1) dp nd (.pointer none)) 151):=⟨_,rfl⟩
  have y1:aa E G aU:=e1▸y.set _ J J
  have bZ:=bz e1
  obtain ⟨_,H2,c2,aF,ar,cJ,jG,rfl,fi⟩:=aer p s (at_+1) dp nd y1 bZ J hs J J
  exact Y 4 (ag 1 av kp)<|aH 0 (at_+1)<|aB 2 (stx 1 (M (at_+1)) dK kp e1)<|ac 1 c2<|bf 1 (pt cJ 0) H2 [p,p] aW aZ (.inl ⟨_,at_+1,dp,jG,rfl,fi,DZ hlt J J (fun h=>by rw [show ad s at_=46 by omega] at h;exact absurd h (by decide)) J,J,J⟩)
 refine ac 2 (indexByte ⟨#[41,93,123,125,94,36,124,42,43,63]⟩ (ad s at_) y)<|aD 0 ((lL ⟨#[41,93,123,125,94,36,124,42,43,63]⟩ (ad s at_))≥0) ?_ ?_ <;> intro h4 cO
 ·obtain ⟨_,H1,c1,ak,y1,dk,iB,nD,rfl,ei⟩:=q6 p s at_ dp nd 0 0 2 y kp J hs J J J
  exact ac 3 c1<|bf 1 (pt dk 0) H1 [p] aW aZ (.inr ⟨_,at_,dp,iB,nD,rfl,ei,Mo hlt J J ((Ci (jl _ _) (jc _ _)).symm.trans h4),J,J⟩)
 obtain ⟨aU,e1⟩:∃ ao,ao=H.set p (O (iF s (at_+1) dp nd (.pointer none)) 151):=⟨_,rfl⟩
 have y1:aa E G aU:=e1▸y.set _ J J
 have bZ:=bz e1
 refine Y 4 (ag 1 av kp)<|aH 0 (at_+1)<|aB 2 (stx 1 (M (at_+1)) dK kp e1)<|aY 1 (ad s at_) 92 ?_ ?_ <;> intro h5 dc
 ·obtain ⟨_,H2,c2,aF,ar,cX⟩:=KR p s (at_+1) dp nd y1 bZ J hs J J
  rcases cX with ⟨rfl,PB,fi⟩ |⟨rfl,abV,fi⟩
  ·obtain ⟨_,H3,c3,bq,aM,c7,kq,sn,rfl,gX⟩:=q6 p s (at_+1) dp nd 0 0 2 ar fi J hs J J J
   exact ac 1 c2<|ac 9 c3<|bf 1 (pt c7 0) H3 [p,p,p] aW aZ (.inr ⟨_,at_+1,dp,kq,sn,rfl,gX,(DY hlt J).trans (if_neg J),J,J⟩)
  obtain ⟨_,H3,c3,bq,aM,c7,kq,rfl,gX⟩:=Rf p s ((at_+1)+1) dp nd (ad s (at_+1)) ar fi J hs J J (jl _ _) (jc _ _)
  exact ac 1 c2<|ac 11 c3<|bf 1 (pt c7 0) H3 [p,p,p] aW aZ (.inl ⟨_,(at_+1)+1,dp,kq,rfl,gX,(by rw [DY hlt J,if_pos J,show at_+2=at_+1+1 by omega]),J,J⟩)
 obtain ⟨_,H2,c2,aF,ar,cJ,jG,rfl,fi⟩:=Rf p s (at_+1) dp nd (ad s at_) y1 bZ J hs J J (jl _ _) (jc _ _)
 exact ac 2 c2<|bf 1 (pt cJ 0) H2 [p,p] aW aZ (.inl ⟨_,at_+1,dp,jG,rfl,fi,DZ hlt J J (fun h=>absurd (h.symm.trans ((Ci (jl _ _) (jc _ _)).symm.trans h4)) (by decide)) J,J,J⟩)
end Go.Proofs.YtglmagcldkngbaaGreatDoor
namespace Go.Am
inductive Seq (md:Region.Mode) (ops:Array Oper):Array Bool→List Nat→Prop
 |nil {L:Array Bool}:Region.ready md ops L=[]→Seq md ops L []
 |cons {L:Array Bool} {i:Nat} {l:List Nat}:i∈Region.ready md ops L→Seq md ops (L.setIfInBounds i true) l→Seq md ops L (i::l)
theorem R6 {P:Program} {md:Region.Mode} {ops:Array Oper} {Q:Exit→Act→World→Prop}:∀(fuel:Nat) (L:Array Bool) (l:List Nat) (a:Act) (w:World),wpAny P md ops Q fuel L a w→Seq md ops L l→wpOps P ops Q l a w
 |0,L,l,a,w,h,hs=>by
  cases hs with
  |nil _=>exact h.2
  |cons hi _=>rw [h.1] at hi;cases hi
 |fuel+1,L,l,a,w,h,hs=>by
  cases hs with
  |nil hr=>exact h.1 hr
  |cons hi hl=>rw [wpOps_cons];exact wpOp_mono (fun a w hk=>R6 fuel _ _ a w hk hl) (h.2 _ hi)
theorem QE {md:Region.Mode} {ops:Array Oper} {L:Array Bool} (h:∀ i,i<ops.size→L.getD i true=true):Region.ready md ops L=[]:=by
 cases hr:Region.ready md ops L with
 |nil=>rfl
 |cons x l=>
  have:x∈Region.ready md ops L:=by rw [hr];simp
  obtain ⟨o,h1,h2,_⟩:=mem_ready.1 this
  rw [h x (Array.getElem?_eq_some_iff.1 h1).1] at h2;cases h2
theorem O1 {md:Region.Mode} {ops:Array Oper}:∀(fuel t:Nat) (L:Array Bool),L.size=ops.size→ra ops.size L≤fuel→Seq md ops L (Region.linearise.go md ops fuel t L [])
 |0,t,L,hs,hu=>.nil (QE fun i hi=>Lm J i hi)
 |fuel+1,t,L,hs,hu=>by
  simp only [Region.linearise.go]
  change Seq md ops L (match (Region.ready md ops L)[t%(Region.ready md ops L).length]? with
   |some i=>Region.linearise.go md ops fuel (t / (Region.ready md ops L).length) (L.setIfInBounds i true) [i]
   |none=>[].reverse)
  split
  ·rename_i i hi
   have hm:=List.mem_of_getElem? hi
   obtain ⟨o,h1,h2,h3⟩:=mem_ready.1 hm
   have hin:=(Array.getElem?_eq_some_iff.1 h1).1
   have Ys:=Ll hs hin h2
   rw [linearise_go_acc]
   exact .cons hm (O1 fuel _ _ (by simpa using hs) J)
  ·rename_i hi
   have X9:Region.ready md ops L=[]:=by
    cases hr:Region.ready md ops L with
    |nil=>rfl
    |cons x xs=>
     rw [hr] at hi
     have hlt:t%(x::xs).length<(x::xs).length:=Nat.mod_lt _ (by simp)
     simp at hi
     simp at hlt
     omega
   exact .nil X9
def Prec (x y:Nat):List Nat→Prop
 |[]=>True
 |i::l=>if i=x then True else if i=y then False else Prec x y l
theorem Prec.total {x y:Nat} (hne:x≠y):∀ l,Prec x y l∨Prec y x l
 |[]=>.inl trivial
 |i::l=>by
  unfold Prec
  by_cases h1:i=x
  ·left;rw [if_pos h1];trivial
  ·by_cases h2:i=y
   ·right;rw [if_pos h2];trivial
   ·rw [if_neg h1,if_neg h2,if_neg h2,if_neg h1];exact Prec.total hne l
def G7 (g:Nat→Nat) (C:List (Nat×Nat)) (i:Nat) (after:Array Edge):Array Edge:=
 (after.toList.map (fun (e:Edge)=>({ e with on:=g e.on }:Edge))++(C.filter fun (p:Nat×Nat)=>Nat.beq p.2 i).map fun (p:Nat×Nat)=>(⟨g p.1,.data⟩:Edge)).toArray
def ly (ops:Array Oper) (f g:Nat→Nat) (C:List (Nat×Nat)):Array Oper:=
 ((List.range ops.size).map fun k=>match ops[f k]? with
  |some o=>{ o with after:=G7 g C (f k) o.after }
  |none=>default).toArray
structure Bi (ops:Array Oper) (f g:Nat→Nat) (C:List (Nat×Nat)):Prop where
 W6:∀ k,k<ops.size→g (f k)=k∧f k<ops.size
 fg:∀ i,i<ops.size→f (g i)=i∧g i<ops.size
 d4:∀ i,i<ops.size→∀ o,ops[i]?=some o→o.guard=none
 ne:∀ p∈C,p.1≠p.2
theorem Qo {ops:Array Oper} {f g:Nat→Nat} {C:List (Nat×Nat)}:(ly ops f g C).size=ops.size:=by simp [ly]
theorem Qn {ops:Array Oper} {f g:Nat→Nat} {C:List (Nat×Nat)} (h:Bi ops f g C) {i:Nat} {o:Oper} (ho:ops[i]?=some o) :
  (ly ops f g C)[g i]?=some { o with after:=G7 g C i o.after }:=by
 have hi:=(Array.getElem?_eq_some_iff.1 ho).1
 obtain ⟨h1,h2⟩:=h.fg i hi
 unfold ly
 rw [List.getElem?_toArray,List.getElem?_map,List.getElem?_range h2]
 simp only [Option.map_some,h1,ho]
theorem ag5 {P:Program} {ops:Array Oper} {f g:Nat→Nat} {C:List (Nat×Nat)} (h:Bi ops f g C) {Q:Exit→Act→World→Prop} {i:Nat} {K:Act→World→Prop} {a:Act} {w:World} (hi:i<ops.size)
  (hh:wpOp P (ly ops f g C) Q (g i) K a w):wpOp P ops Q i K a w:=by
 obtain ⟨o,ho⟩:∃ o,ops[i]?=some o:=⟨ops[i],by simp [hi]⟩
 have cE:=h.d4 i hi o ho
 unfold wpOp at *
 rw [Qn h ho] at hh
 rw [ho]
 simp only at hh ⊢
 have w1:∀ x,Region.wanted o x=true:=fun x=>by unfold Region.wanted;rw [cE]
 rw [if_pos (by unfold Region.wanted;simp only [cE])] at hh
 rw [if_pos (w1 _)]
 exact hh
theorem Qp {md:Region.Mode} {P:Program} {ops:Array Oper} {f g:Nat→Nat} {C:List (Nat×Nat)} (h:Bi ops f g C) (hp:nN md ops) {Q:Exit→Act→World→Prop} :
  ∀(l:List Nat) (L y4:Array Bool),Seq md ops L l→L.size=ops.size→y4.size=ops.size→(∀ i,i<ops.size→y4.getD (g i) false=L.getD i false)→(∀ p∈C,L.getD p.1 false=true∨Prec p.1 p.2 l)→
   Seq md (ly ops f g C) y4 (l.map g)∧∀ a w,wpOps P (ly ops f g C) Q (l.map g) a w→wpOps P ops Q l a w
 |[],L,y4,hs,h1,h2,hr,ho=>by
  refine ⟨.nil (QE fun k hk=>?_),fun a w h=>h⟩
  rw [Qo] at hk
  cases hs with
  |nil hn=>
   have hall:∀ i,i<ops.size→L.getD i true=true:=fun i hi=>by
    cases hb:L.getD i true with
    |true=>rfl
    |false=>exact (hp L h1 ⟨i,hi,hb⟩ hn).elim
   obtain ⟨h3,h4⟩:=h.W6 k hk
   have:=hr (f k) h4
   rw [h3] at this
   rw [vN J true false,this,vN J false true]
   exact hall _ h4
 |i::l,L,y4,hs,h1,h2,hr,ho=>by
  cases hs with
  |cons hi hl=>
   obtain ⟨o,e1,e2,bc⟩:=mem_ready.1 hi
   have hin:=(Array.getElem?_eq_some_iff.1 e1).1
   obtain ⟨g1,g2⟩:=h.fg i hin
   have rel:∀ j,j<ops.size→(y4.setIfInBounds (g i) true).getD (g j) false=(L.setIfInBounds i true).getD j false:=fun j hj=>by
    rw [xr J,xr J]
    by_cases e:i=j
    ·rw [if_pos e,if_pos (by rw [e])]
    ·rw [if_neg e,if_neg (fun e'=>e (by have:=(h.fg j hj).1;rw [← e',g1] at this;exact this))];exact hr j hj
   have ord:∀ p∈C,(L.setIfInBounds i true).getD p.1 false=true∨Prec p.1 p.2 l:=fun p zQ=>by
    rw [xr J]
    rcases ho p zQ with h3 |h3
    ·left;split
     ·rfl
     ·exact h3
    ·unfold Prec at h3
     by_cases e:i=p.1
     ·left;rw [if_pos e]
     ·rw [if_neg e] at h3
      by_cases e':i=p.2
      ·rw [if_pos e'] at h3;exact h3.elim
      ·rw [if_neg e'] at h3;exact .inr h3
   obtain ⟨k1,k2⟩:=Qp h hp (P:=P) (Q:=Q) l _ _ hl (by simpa using h1) (by simpa using h2) rel ord
   refine ⟨.cons (mem_ready.2 ⟨_,Qn h e1,?_,fun e he hb=>?_⟩) k1,fun a w hw=>?_⟩
   ·rw [vN J true false,hr i hin,vN J false true];exact e2
   ·simp only [G7,List.mem_toArray,List.mem_append,List.mem_map,List.mem_filter] at he
    rcases he with ⟨e0,XH,rfl⟩ |⟨p,⟨jZ,oG⟩,rfl⟩
    ·have:=bc e0 (by simpa using XH) hb
     have hlt:e0.on<ops.size:=by
      rcases Nat.lt_or_ge e0.on ops.size with h3 |h3
      ·exact h3
      ·rw [Array.getD_eq_getD_getElem?,Array.getElem?_eq_none J] at this;cases this
     exact (hr _ hlt).trans this
    ·have oG:=Nat.eq_of_beq_eq_true oG
     have h3:L.getD p.1 false=true:=by
      rcases ho p jZ with h3 |h3
      ·exact h3
      ·unfold Prec at h3
       by_cases e:i=p.1
       ·exact absurd (e.symm.trans oG.symm) (h.ne p jZ)
       ·rw [if_neg e,if_pos oG.symm] at h3;exact h3.elim
     have hlt:p.1<ops.size:=by
      rcases Nat.lt_or_ge p.1 ops.size with h4 |h4
      ·exact h4
      ·rw [Array.getD_eq_getD_getElem?,Array.getElem?_eq_none J] at h3;cases h3
     exact (hr _ hlt).trans h3
   ·rw [List.map_cons,wpOps_cons] at hw
    rw [wpOps_cons]
    exact ag5 h hin (wpOp_mono (fun a w hk=>k2 a w hk) hw)
theorem Wi {E:Env} (ok:E.fy) {aA:Nat} {ops:Array Oper} {d:List (Value×List Value)} {hs:Nat→Z} {ts:Nat→cg} {kA:Nat→List Nat} {ft:Nat→iX} {W:List Nat} (hro:q3 ops=true)
  (hi:indep (Region.before ops) ((List.range ops.size).map ft)=true) (a7:∀ j,j<ops.size→∀ q,q∈kA j→q∈W)
  (a9:∀(j:Nat) (o:Oper),ops.toList[j]?=some o→cW (hs j)→E.d4≤(hs j).n→∃ call,nf E call∧pZ E call aA ops d o (ts j) (ts (j+1)) (hs j) (hs (j+1)) (kA j) (ft j)) (wf:cW (hs 0)) (cE:E.d4≤(hs 0).n) :
  dn W (hs 0) (hs ops.size)∧cW (hs ops.size)∧∀(base:Nat) (φ:bC) (w:World) (a:Act) (w1 w2:List Nat),sG E base φ w aA ⟨ts 0,hs 0,d,w1⟩ a→gw φ (hs 0).n (hs ops.size).n→
   ∀ md,nN md ops→wpAny E.P md ops (Post E base φ w aA (hs 0) W .normal ⟨ts ops.size,hs ops.size,d,w2⟩) ops.size (Array.replicate ops.size false) a { w with drawn:=w.drawn+1 }:=by
 have Yj:=hro
 unfold q3 at hro
 simp only [dZ] at hro
 obtain ⟨⟨j0,q5⟩,AH⟩:=hro
 have hnd:∀ o∈ops.toList,xU o.op=false:=by
  intro o ho
  unfold FN at q5
  rw [Array.all_eq_true_iff_forall_mem] at q5
  have:=q5 o (by simpa using ho)
  cases hop:o.op <;> rw [hop] at this <;> first
   |rfl
   |cases this
 have un:∀ j:Nat,j<ops.size→ops.toList[j]?=some ops[j]!∧ops[j]?=some ops[j]!:=fun j hj=>by simp [hj]
 have o5:∀ j,j≤ops.size→cW (hs j)∧E.d4≤(hs j).n:=by
  intro j
  induction j with
  |zero=>intro _;exact ⟨wf,cE⟩
  |succ j ih=>
   intro hj
   obtain ⟨h1,h2⟩:=ih J
   obtain ⟨g1,g2⟩:=un j J
   obtain ⟨call,hc,hst⟩:=a9 j _ g1 h1 h2
   obtain ⟨k1,k2,_⟩:=Gx ok hc (hnd _ (List.mem_of_getElem? g1)) hst h1 h2
   exact ⟨k2,Nat.le_trans h2 k1.n⟩
 have ex:=fun (j:Nat) (hj:j<ops.size)=>a9 j _ (un j hj).1 (o5 j J).1 (o5 j J).2
 have st:=fun (j:Nat) (hj:j<ops.size)=>Gx ok (ex j hj).choose_spec.1 (hnd _ (List.mem_of_getElem? (un j hj).1)) (ex j hj).choose_spec.2 (o5 j J).1 (o5 j J).2
 have yC:lF E aA ops d hs ts ft:=by
  refine ⟨fun j hj=>(o5 j hj).1,(o5 0 J).2,fun j hj=>(st j hj).1,fun j hj=>?_,fun j hj q hq=>?_,fun i j hij hj hb=>Ml (Ol hi hij hj hb),fun j o ho=>?_⟩
  ·obtain ⟨_,_,h3,h4,_⟩:=st j hj;exact ⟨h3,h4⟩
  ·obtain ⟨_,_,_,_,_,_,h7,_⟩:=st j hj
   exact (h7 q hq).2
  ·have hj:=(Array.getElem?_eq_some_iff.1 ho).1
   have e:ops[j]! = o:=by have:=(un j hj).2;rw [ho] at this;injection this with this;exact this.symm
   obtain ⟨_,_,_,_,h5,h6,_,v,h8,h9⟩:=st j hj
   rw [e] at h5 h6 h8 h9
   exact ⟨h5,h6,v,h8,fun base φ w a C K Q dr hag hf ht hd hK=>h9 base φ w a C j K Q ho dr hag hf ht hd hK⟩
 have s7:∀ j,j<ops.size→∀ q,q∈(ft j).w→q∈W:=by
  intro j hj q hq
  obtain ⟨_,_,_,_,_,_,h7,_⟩:=st j hj
  exact a7 j hj q (h7 q hq).1
 have ext:dn W (hs 0) (hs ops.size):=by
  have key:∀ j,j≤ops.size→dn W (hs 0) (hs j):=by
   intro j
   induction j with
   |zero=>intro _;exact dn.refl ..
   |succ j ih=>intro hj;exact ((ih J).trans ((yC.ext j J).wider (s7 j J))).wider (fun i hi=>by simpa using hi)
  exact key _ (Nat.le_refl _)
 refine ⟨ext,(o5 _ (Nat.le_refl _)).1,fun base φ w a w1 w2 dH hf md hp=>?_⟩
 have rK:Rel E base (hs 0) φ w:=dH.rel
 refine R5 (iw:=φ) (w0:=w) (W:=W) (base:=base) yC hp s7 (fun be a' w' h1 h2 h3=>⟨be,h1,rfl,h2,h3⟩) ops.size _ φ a _ (by simp) ?_ (fun k o ho hl=>?_) ?_
 ·unfold ra
  have:=List.countP_le_length (p:=fun i=>!(Array.replicate ops.size false).getD i true) (l:=List.range ops.size)
  simpa using this
 ·have hk:=(Array.getElem?_eq_some_iff.1 ho).1
  simp [Array.getD_eq_getD_getElem?,hk] at hl
 ·refine .init yC (fun k hk=>by simp [Array.getD_eq_getD_getElem?,hk]) ?_ dH.aT dH.je hf ⟨rfl,rfl,rfl,Nat.le_refl _,fun _ _ _=>rfl⟩
  exact ⟨rK.bs,fun i l o h1 h2 h3=>(rK.blocks i l o h1 h2 h3).same rfl,fun i l h1 h2 h3=>rK.lt i l h1 h2 h3,rK.inj,rK.iO⟩
def om (E:Env) (aA:Nat) (ops:Array Oper) (T:cg) (H:Z) (mF:cg) (H':Z) (W:List Nat):Prop:=
 cW H→E.d4≤H.n→∃ c9,mG mF c9∧dn W H H'∧cW H'∧∀(base:Nat) (φ:bC) (w:World) (a:Act),sG E base φ w aA ⟨T,H,[],[]⟩ a→gw φ H.n H'.n→
  ∀ md,nN md ops→wpAny E.P md ops (Post E base φ w aA H W .normal ⟨c9,H',[],[]⟩) ops.size (Array.replicate ops.size false) a { w with drawn:=w.drawn+1 }
theorem om.qZ {E:Env} (ok:E.fy) {P:Prop} {aA f id:Nat} {ops:Array Oper} {pre post:List (Tmp×Value)} {H H':Z} {hs:List Hint} {W:List Nat} (hp:P)
  (h:(qp E aA (f+1) (.region id ops true) pre post H hs).map (fun r=>(gx r.1,r.2))=some (P,.normal,H',W)) (hno:Kg hs=none):om E aA ops (aP pre) H (aP post) H' W:=by
 obtain ⟨⟨Ps,r⟩,h1,h2⟩:=Option.map_eq_some_iff.1 h
 injection h2 with h2 h3
 subst h3
 have hp:gx Ps:=h2▸hp
 unfold qp at h1
 split at h1
 ·rename_i vu x1 gG H1 hU hr
  simp only [bH,b8] at h1
  obtain ⟨rfl,rfl,rfl,rfl⟩:=h1
  rw [ni] at hp
  obtain ⟨hpa,IB⟩:=hp
  unfold oY at hr
  rw [hno] at hr
  simp only at hr
  cases hro:q3 ops with
  |false=>rw [hro] at hr;cases hr
  |true=>
   rw [hro] at hr
   simp only [cond_true] at hr
   split at hr
   ·rename_i ahB mF H2 G6 fs hs1 eK
    simp only [bH,b8] at hr
    obtain ⟨rfl,_,rfl,rfl,_,rfl,_⟩:=hr
    rw [ni,ni] at hpa
    obtain ⟨ht,hpa⟩:=hpa
    have ht:=O4 ht
    have hi:=O6 (GA _ _ _ _ _ _ _ _ _ _ _ eK) ht hpa.1
    have hpa:=hpa.2
    intro wf cE
    obtain ⟨hq,ts,kA,ft,a1,a2,a3,a4,a5,a6,a7⟩:=Le ok _ _ _ _ _ _ _ _ _ _ _ eK hpa (J4 hro)
    simp only [Array.length_toList] at a3 a4 a5 a6
    rw [a6] at hi
    obtain ⟨k1,k2,jp⟩:=Wi ok hro hi a5 a7 (by rw [a1];exact wf) (by rw [a1];exact cE)
    rw [a1,a3] at k1
    rw [a3] at k2
    refine ⟨mF,fun t v hv=>H6 IB t v (Fi _ _ _ hv),k1,k2,fun base φ w a dH hf md B3=>?_⟩
    have:=jp base φ w a [] [] (by rw [a1,a2];exact dH) (by rw [a1,a3];exact hf) md B3
    rw [a1,a3,a4] at this
    exact this
   ·cases hr
 ·cases h1
theorem ag7 {P:Program} {id:Nat} {ops:Array Oper} {Q:Exit→Act→World→Prop} {a:Act} {w:World}
  (h:∀ t,∃ y6:Exit→Act→World→Prop,(∀ e a w,y6 e a w→Q e a w)∧wpOps P ops y6 (Region.schedule (P.follows .mixedOrders) ops t) a { w with drawn:=w.drawn+1 }):(Code.region id ops true).wp P Q a w:=fun b k cs=>by
 obtain ⟨y6,hq,hw⟩:=h (w.tape w.drawn (.order b.fn id))
 obtain ⟨e,a',w',q,r⟩:=wp_ops _ a _ hw b k cs
 exact ⟨e,a',w',hq _ _ _ q,.of_steps (.one step_region_draw) r⟩
theorem Out.forget {E:Env} {base:Nat} {φ be:bC} {w w':World} {H H1 H2:Z} {W:List Nat} (h:Out E base φ w H H1 W be w') (hx:dn W H H1) (cE:E.d4≤H.n) (hn:H2.n=H1.n) (hg:∀ i,i<H1.n→H2.get i=H1.get i∨(H.n≤i∧H2.get i=some .dead)):Out E base φ w H H2 W be w':=by
 have EQ:=hx.n
 refine ⟨fun i hi=>h.ext i J,⟨h.rel.bs,fun i l o hi hl ho=>?_,fun i l hi hl hv=>?_,fun i j l m hi hj hij hl hm hw hv=>?_,h.rel.iO⟩,h.step,fun i l h1 h2 h3=>?_⟩
 ·rcases hg i J with e |⟨_,e⟩
  ·exact h.rel.blocks i l o J hl (e▸ho)
  ·rw [e] at ho;injection ho with ho;subst ho;trivial
 ·rcases hg i J with e |⟨_,e⟩
  ·exact h.rel.lt i l J hl (e▸hv)
  ·rw [e] at hv;cases hv
 ·rcases hg i J with e |⟨_,e⟩
  ·rcases hg j J with e' |⟨_,e'⟩
   ·exact h.rel.inj i j l m J J hij hl hm (e▸hw) (e'▸hv)
   ·rw [e'] at hv;cases hv
  ·rw [e] at hw;cases hw
 ·rcases h.fresh i l h1 J h3 with h4 |⟨j,hj,m,h4,h5,h6,h7,h8⟩
  ·exact .inl h4
  ·refine .inr ⟨j,hj,m,h4,h5,h6,h7,?_⟩
   rcases hg j J with e |⟨e',_⟩
   ·rw [e];exact h8
   ·omega
theorem dF.perm {E:Env} {aA id:Nat} {ops:Array Oper} {T c9:cg} {H H2:Z} {W:List Nat} (B3:∀ md,nN md ops) (hwf:cW H→cW H2)
  (hc:∀ l:List Nat,∃(f g:Nat→Nat) (C:List (Nat×Nat)) (H1:Z),Bi ops f g C∧(∀ p∈C,Prec p.1 p.2 l)∧om E aA (ly ops f g C) T H c9 H1 W∧(∀ md,nN md (ly ops f g C))∧H2.n=H1.n∧∀ i,i<H1.n→H2.get i=H1.get i∨(H.n≤i∧H2.get i=some .dead)) :
  dF E aA (.region id ops true) T H [] .normal c9 H2 [] W:=fun wf cE=>by
 have zS:dn W H H2:=by
  obtain ⟨f,g,C,H1,_,_,h3,_,hn,hg⟩:=hc []
  obtain ⟨_,_,hx,_⟩:=h3 wf cE
  have EQ:=hx.n
  have same:∀ i,i<H.n→H2.get i=H1.get i:=fun i hi=>by
   rcases hg i J with e |⟨e,_⟩
   ·exact e
   ·omega
  exact ⟨by omega,fun i hi hm=>(same i hi).trans (hx.keep i hi hm),fun i hi hl=>hx.live i hi (same i hi▸hl),fun i hi hl=>hx.gf i hi (same i hi▸hl)⟩
 refine ⟨zS,hwf wf,fun base φ w a dH hf=>ag7 fun t=>?_⟩
 have key:∀ md t,∃ y6:Exit→Act→World→Prop,(∀ e a1 w1,y6 e a1 w1→Post E base φ w aA H W .normal ⟨c9,H2,[],[]⟩ e a1 w1)∧wpOps E.P ops y6 (Region.linearise md ops t) a { w with drawn:=w.drawn+1 }:=by
  intro md t
  have hs:=O1 (md:=md) (ops:=ops) ops.size t (Array.replicate ops.size false) (by simp) (by
   unfold ra
   have:=List.countP_le_length (p:=fun i=>!(Array.replicate ops.size false).getD i true) (l:=List.range ops.size)
   simpa using this)
  obtain ⟨f,g,C,H1,h1,h2,h3,h4,hn,hg⟩:=hc (Region.linearise md ops t)
  obtain ⟨gG,ht,hx,_,hd⟩:=h3 wf cE
  refine ⟨Post E base φ w aA H W .normal ⟨gG,H1,[],[]⟩,fun e a1 w1 ⟨be,ci,he,oH,eK⟩=>⟨be,ci.forget hx cE hn hg,he,oH.sub ht,eK⟩,?_⟩
  obtain ⟨k1,k2⟩:=Qp (P:=E.P) (Q:=Post E base φ w aA H W .normal ⟨gG,H1,[],[]⟩) h1 (B3 md) _ _ (Array.replicate ops.size false) hs (by simp) (by simp) (fun i hi=>by
   have:=(h1.fg i hi).2
   simp [Array.getD_eq_getD_getElem?,hi,this]) (fun p hp=>.inr (h2 p hp))
  have:=hd base φ w a dH (fun i h5 h6=>hf i h5 J) md (h4 md)
  rw [Qo] at this
  exact k2 a _ (R6 _ _ _ a _ this k1)
 unfold Region.schedule
 split
 ·exact key _ _
 ·split <;> exact key _ _
end Go.Am
namespace Go.Proofs.YtglmagcldkngbaaGreatDoor
open Go Go.Am
theorem mu:E.ul 233=some (.map 5 3):=an
theorem mw:E.ul 5=some (.int .u8):=an
theorem aht:E.zero 3=some (.int .i64 0):=an
def gS (c:Int):Int:=if c=42 then 4 else if c=43 then 5 else if c=63 then 6 else 0
theorem AG {H:Z} {b ax:Nat} {k1 k2 jp v1 v2 v3 c:Int} {n1 n2 CC:Nat} (hb:H.get b=some (.map [⟨.int .u8 k1,.int .i64 v1,n1⟩,⟨.int .u8 k2,.int .i64 v2,n2⟩,⟨.int .u8 jp,.int .i64 v3,CC⟩] ax)) (hk:(if c=k1 then v1 else if c=k2 then v2 else if c=jp then v3 else 0)=gS c) :
  n5 E 233 (.map (some b)) (.int .u8 c) false H=some (.int .i64 (gS c),H,[],[b]):=by
 rw [← hk]
 have hd:qM (.int .u8) (.int .u8 c)=true:=rfl
 simp only [n5,mu,mw,aht,hd,cond_true,hb,pu,decide_true]
 by_cases h1:c=k1
 ·simp only [decide_eq_true h1,cond_true,if_pos h1,cond_false]
 ·by_cases h2:c=k2
  ·simp only [decide_eq_false h1,decide_eq_true h2,cond_true,if_neg h1,if_pos h2,cond_false]
  ·by_cases h3:c=jp
   ·simp only [decide_eq_false h1,decide_eq_false h2,decide_eq_true h3,cond_true,if_neg h1,if_neg h2,if_pos h3,cond_false]
   ·simp only [decide_eq_false h1,decide_eq_false h2,decide_eq_false h3,cond_true,if_neg h1,if_neg h2,if_neg h3,cond_false];rfl
theorem AF (c:Int):(if c=42 then (4:Int) else if c=43 then 5 else if c=63 then 6 else 0)=gS c∧(if c=42 then (4:Int) else if c=63 then 6 else if c=43 then 5 else 0)=gS c∧(if c=43 then (5:Int) else if c=42 then 4 else if c=63 then 6 else 0)=gS c∧
  (if c=43 then (5:Int) else if c=63 then 6 else if c=42 then 4 else 0)=gS c∧(if c=63 then (6:Int) else if c=42 then 4 else if c=43 then 5 else 0)=gS c∧(if c=63 then (6:Int) else if c=43 then 5 else if c=42 then 4 else 0)=gS c:=by
 unfold gS
 by_cases h1:c=42
 ·subst h1;decide
 ·by_cases h2:c=43
  ·subst h2;decide
  ·by_cases h3:c=63
   ·subst h3;decide
   ·simp only [if_neg h1,if_neg h2,if_neg h3,and_self]
theorem zX {H:Z} {p:Nat} {m r c o:dL} (hp:p<H.n):∀ i,i<(news ((news H [m,r]).set p c) [o]).n→(news ((news H [.dead,r]).set p c) [o]).get i=(news ((news H [m,r]).set p c) [o]).get i∨(H.n≤i∧(news ((news H [.dead,r]).set p c) [o]).get i=some .dead):=by
 intro i _
 have n2:∀ m,(H.new m).n=H.n+1:=fun _=>rfl
 simp only [news,Z.jO,Z.kP] at *
 simp only [show ∀ m,(((H.new m).new r).set p c).n=H.n+2 from fun _=>rfl,n2]
 by_cases h1:H.n+2=i
 ·left;rw [if_pos h1,if_pos h1]
 ·rw [if_neg h1,if_neg h1]
  by_cases h2:p=i
  ·left;rw [if_pos h2,if_pos h2]
  ·rw [if_neg h2,if_neg h2]
   by_cases h3:H.n+1=i
   ·left;rw [if_pos h3,if_pos h3]
   ·rw [if_neg h3,if_neg h3]
    by_cases h4:H.n=i
    ·right;rw [if_pos h4];exact ⟨J,rfl⟩
    ·left;rw [if_neg h4,if_neg h4]
theorem m5 {H H':Z} {l:List dL} {k:Nat} {es:List MapEntry} {ax:Nat} (h:l[k]?=some (.map es ax)):cK (news H l) H' [H.n+k]=true:=by
 have hk:=(List.getElem?_eq_some_iff.1 h).1
 have e1:Nat.blt (H.n+k) (news H l).n=true:=by rw [dj];simpa [Nat.blt_eq] using hk
 simp only [cK,List.all_cons,List.all_nil,e1,cond_true,aR l H k _ h,gf,Bool.and_true]
def opsOf:Code→Array Oper
 |.region _ ops _=>ops
 |_=>#[]
def xT:Code→Nat
 |.region id _ _=>id
 |_=>0
noncomputable def r9:Code:=cw [1,1,0,0,0,1,0,0] (cx Tryz.f146)
noncomputable def nz:Array Oper:=opsOf r9
theorem adK:r9=.region (xT r9) nz true:=an
theorem QT:nz.size=20:=an
theorem adR:(nz.all fun o=>o.guard.isNone)=true:=an
def n8 (a b c:Nat) (k:Nat):Nat:=if k=2 then a else if k=3 then b else if k=4 then c else k
def n9 (a b c:Nat) (i:Nat):Nat:=if i=a then 2 else if i=b then 3 else if i=c then 4 else i
theorem Av (a b c:Nat) (h:(∀ k,k<20→n9 a b c (n8 a b c k)=k∧n8 a b c k<20)∧(∀ k,k<20→n8 a b c (n9 a b c k)=k∧n9 a b c k<20)∧a≠b∧b≠c):Bi nz (n8 a b c) (n9 a b c) [(a,b),(b,c)]:=by
 refine ⟨fun k hk=>?_,fun k hk=>?_,fun i hi o ho=>?_,fun p hp=>?_⟩
 ·rw [QT] at hk ⊢;exact h.1 k hk
 ·rw [QT] at hk ⊢;exact h.2.1 k hk
 ·have:=adR
  rw [Array.all_eq_true_iff_forall_mem] at this
  have:=this o (Array.mem_of_getElem? ho)
  simpa using this
 ·simp only [List.mem_cons,aq,or_false] at hp
  rcases hp with rfl |rfl
  ·exact h.2.2.1
  ·exact h.2.2.2
theorem ad0:∀ md,nN md nz:=by
 intro md
 cases md
 ·exact kV an
 ·exact kV an
 ·exact kV an
theorem ach (l:List Nat):(Prec 2 3 l∧Prec 3 4 l)∨(Prec 2 4 l∧Prec 4 3 l)∨(Prec 3 2 l∧Prec 2 4 l)∨(Prec 3 4 l∧Prec 4 2 l)∨(Prec 4 2 l∧Prec 2 3 l)∨(Prec 4 3 l∧Prec 3 2 l):=by
 rcases Prec.total (x:=2) (y:=3) (by decide) l with h1 |h1 <;> rcases Prec.total (x:=3) (y:=4) (by decide) l with h2 |h2 <;> rcases Prec.total (x:=2) (y:=4) (by decide) l with h3 |h3
 ·exact .inl ⟨h1,h2⟩
 ·exact .inl ⟨h1,h2⟩
 ·exact .inr (.inl ⟨h3,h2⟩)
 ·exact .inr (.inr (.inr (.inr (.inl ⟨h3,h1⟩))))
 ·exact .inr (.inr (.inl ⟨h1,h3⟩))
 ·exact .inr (.inr (.inr (.inl ⟨h2,h3⟩)))
 ·exact .inr (.inr (.inr (.inr (.inr ⟨h2,h1⟩))))
 ·exact .inr (.inr (.inr (.inr (.inr ⟨h2,h1⟩))))
theorem Ay {a b c:Nat} {l:List Nat} (h1:Prec a b l) (h2:Prec b c l):∀ p∈[(a,b),(b,c)],Prec p.1 p.2 l:=fun p hp=>by
 simp only [List.mem_cons,aq,or_false] at hp
 rcases hp with rfl |rfl
 ·exact h1
 ·exact h2
noncomputable abbrev vE s at_ dp nd w wp:=([.string s,M at_,M dp,M (IntKind.i64.wrap (nd+1)),hC w wp]:List Value)
theorem AM (p:Nat) (s:ByteArray) (at_:Int) (dp:Int) (nd:Int) (w:Nat) (wp:Nat) (k:Int) (r:Nat) {H:Z} (y:aa E G H) (kp:H.get p=some (gb s at_ dp nd (hC w wp))) (ce:G.n≤p) (hs:(s.size:Int)<100000) (a0:0≤at_) (a1:at_≤s.size) (hw:w=0∨w=1):bF E 116 [pt p 0,M k,sc r 0 1 3] H (.ret (pt H.n 0)) (news (H.set p (O (vE s at_ dp nd w wp) 151)) [O (mU k (IntKind.i64.wrap (nd+1))++[sc r 0 1 3]) 176]) [p]:=by
 have gH:=y.wf.lt kp
 obtain ⟨aU,e1⟩:∃ ao,ao=H.set p (O (iF s at_ dp (IntKind.i64.wrap (nd+1)) (hC w wp)) 151):=⟨_,rfl⟩
 have y1:aa E G aU:=e1▸y.set _ J J
 have c8:aU.n=H.n+0:=by rw [e1,Z.cI] <;> rfl
 have g1:=y1.n
 have bZ:=bz e1
 have Ty:=bF.CX ok (args:=[pt p 0,M k,sc r 0 1 3]) (H:=H) (f:=300) (hs:=[am 3,bw (M nd) H,am 2,bw dw aU,am 3,bw (M (IntKind.i64.wrap (nd+1))) aU,am 3]) (v:=(pt (aU.n+0) 0)) (H':=(news aU [O ((mU k (IntKind.i64.wrap (nd+1)))++[sc r 0 1 3]) 176])) (W:=[p]) WR WS (bp (ag 3 av kp)<|bp ((st dK kp rfl rfl).trans (congrArg some e1.symm):bu E 3 p 3 (M (IntKind.i64.wrap (nd+1))) H=some aU)<|bp (ag 3 av bZ)<|trivial) an
 subst e1
 exact Ty.norm (V:=[p]) (fun q hq=>.inl (by simpa using hq))
noncomputable abbrev Ac H nb:=news H [.map [⟨ab 42,M 4,0⟩,⟨ab 43,M 5,1⟩,⟨ab 63,M 6,2⟩] 3,O [pt nb 0] 127]
noncomputable abbrev Fz (H:Z) nb p s at_ dp nd w wp:=news ((news H [.map [⟨ab 42,M 4,0⟩,⟨ab 43,M 5,1⟩,⟨ab 63,M 6,2⟩] 3,O [pt nb 0] 127]).set p (O (vE s at_ dp nd w wp) 151)) [O (mU (gS (ad s at_)) (IntKind.i64.wrap (nd+1))++[sc (H.n+1) 0 1 3]) 176]
noncomputable abbrev tC H:=news H [.map [⟨ab 42,M 4,0⟩] 1]
noncomputable abbrev CP H:=news H [.map [⟨ab 42,M 4,0⟩,⟨ab 43,M 5,1⟩] 2]
noncomputable abbrev wt H:=news H [.map [⟨ab 42,M 4,0⟩,⟨ab 43,M 5,1⟩,⟨ab 63,M 6,2⟩] 3]
noncomputable abbrev qT H:=news H [.map [] 0]
theorem adL (p:Nat) (nb:Nat) (s:ByteArray) (at_ dp nd:Int) (w wp:Nat) {H:Z} (y:aa E G H) (kp:H.get p=some (gb s at_ dp nd (hC w wp))) (ce:G.n≤p) (hs:(s.size:Int)<100000) (a0:0≤at_) (a1:at_≤s.size) (hw:w=0∨w=1) (hlt:at_<s.size):om E 32 (ly nz (n8 2 3 4) (n9 2 3 4) [(2,3),(3,4)]) (aP [(0,pt p 0),(3,pt nb 0)]) H (aP [(0,pt p 0),(3,pt ((Ac H nb).n) 0)]) (Fz H nb p s at_ dp nd w wp) [H.n+0,H.n+0,H.n+0,p]:=by
 have gH:=y.wf.lt kp
 exact om.qZ ok (f:=1) (id:=xT r9) (hs:=[am 1,.val dw (tC H) [H.n+0] [H.n+0],.val dw (CP H) [H.n+0] [H.n+0],.val dw (wt H) [H.n+0] [H.n+0],am 3,bw (.string s) (wt H),am 2,bw (M at_) (wt H),.ax,.val (M (gS (ad s at_))) (wt H) [] [H.n+0],am 1,.call (pt ((Ac H nb).n) 0) (Fz H nb p s at_ dp nd w wp) [p],am 0]) (bp (bk:(H.n+0)<H.n∨H.n≤(H.n+0))<|bp (bk:(H.n+0)<H.n∨H.n≤(H.n+0))<|bp (bk:(H.n+0)<H.n∨H.n≤(H.n+0))<|bp (bk:(H.n+0)≠p)<|bp (bk:(H.n+0)≠p)<|bp (bk:(H.n+0)≠p)<|bp (bk:(H.n+0)≠p)<|bp (bk:(H.n+0)≠p)<|bp (bk:(H.n+0)≠p)<|bp (i7 mu mw rfl rfl rfl rfl:g5 E 233 (.map (some (H.n+0))) (ab 42) (M 4) (qT H)=some (dw,tC H,[H.n+0],[H.n+0]))<|bp (m5 rfl:cK (qT H) (tC H) [H.n+0]=true)<|bp (i7 mu mw rfl rfl rfl rfl:g5 E 233 (.map (some (H.n+0))) (ab 43) (M 5) (tC H)=some (dw,CP H,[H.n+0],[H.n+0]))<|bp (m5 rfl:cK (tC H) (CP H) [H.n+0]=true)<|bp (i7 mu mw rfl rfl rfl rfl:g5 E 233 (.map (some (H.n+0))) (ab 63) (M 6) (CP H)=some (dw,wt H,[H.n+0],[H.n+0]))<|bp (m5 rfl:cK (CP H) (wt H) [H.n+0]=true)<|bp (ag 0 bA (y.old kp [.map [⟨ab 42,M 4,0⟩,⟨ab 43,M 5,1⟩,⟨ab 63,M 6,2⟩] 3]))<|bp (ag 1 av (y.old kp [.map [⟨ab 42,M 4,0⟩,⟨ab 43,M 5,1⟩,⟨ab 63,M 6,2⟩] 3]))<|bp (by omega:0≤at_)<|bp (by omega:at_<(s.size:Int))<|bp (AG (aR [.map [⟨ab 42,M 4,0⟩,⟨ab 43,M 5,1⟩,⟨ab 63,M 6,2⟩] 3] H 0 _ rfl) (AF (ad s at_)).1:n5 E 233 (.map (some (H.n+0))) (ab (ad s at_)) false (wt H)=some (M (gS (ad s at_)),wt H,[],[H.n+0]))<|bp (AM p s at_ dp nd w wp (gS (ad s at_)) (H.n+1) (y.news [.map [⟨ab 42,M 4,0⟩,⟨ab 43,M 5,1⟩,⟨ab 63,M 6,2⟩] 3,O [pt nb 0] 127]) (y.old kp [.map [⟨ab 42,M 4,0⟩,⟨ab 43,M 5,1⟩,⟨ab 63,M 6,2⟩] 3,O [pt nb 0] 127]) J hs a0 J hw:bF E 116 [pt p 0,M (gS (ad s at_)),sc (H.n+1) 0 1 3] (Ac H nb) (.ret (pt ((Ac H nb).n) 0)) (Fz H nb p s at_ dp nd w wp) [p])<|bp (dO (y.news [.map [⟨ab 42,M 4,0⟩,⟨ab 43,M 5,1⟩,⟨ab 63,M 6,2⟩] 3,O [pt nb 0] 127]) (y.old kp [.map [⟨ab 42,M 4,0⟩,⟨ab 43,M 5,1⟩,⟨ab 63,M 6,2⟩] 3,O [pt nb 0] 127]):cK (Ac H nb) (Fz H nb p s at_ dp nd w wp) [p]=true)<|q8 (pt p 0)<|q8 (pt ((Ac H nb).n) 0)<|trivial) an rfl
theorem adS:∀ md,nN md (ly nz (n8 2 3 4) (n9 2 3 4) [(2,3),(3,4)]):=by
 intro md
 cases md
 ·exact kV an
 ·exact kV an
 ·exact kV an
noncomputable abbrev Ah H nb:=news H [.map [⟨ab 42,M 4,0⟩,⟨ab 63,M 6,1⟩,⟨ab 43,M 5,2⟩] 3,O [pt nb 0] 127]
noncomputable abbrev FC (H:Z) nb p s at_ dp nd w wp:=news ((news H [.map [⟨ab 42,M 4,0⟩,⟨ab 63,M 6,1⟩,⟨ab 43,M 5,2⟩] 3,O [pt nb 0] 127]).set p (O (vE s at_ dp nd w wp) 151)) [O (mU (gS (ad s at_)) (IntKind.i64.wrap (nd+1))++[sc (H.n+1) 0 1 3]) 176]
noncomputable abbrev CQ H:=news H [.map [⟨ab 42,M 4,0⟩,⟨ab 63,M 6,1⟩] 2]
noncomputable abbrev wu H:=news H [.map [⟨ab 42,M 4,0⟩,⟨ab 63,M 6,1⟩,⟨ab 43,M 5,2⟩] 3]
theorem adM (p:Nat) (nb:Nat) (s:ByteArray) (at_ dp nd:Int) (w wp:Nat) {H:Z} (y:aa E G H) (kp:H.get p=some (gb s at_ dp nd (hC w wp))) (ce:G.n≤p) (hs:(s.size:Int)<100000) (a0:0≤at_) (a1:at_≤s.size) (hw:w=0∨w=1) (hlt:at_<s.size):om E 32 (ly nz (n8 2 4 3) (n9 2 4 3) [(2,4),(4,3)]) (aP [(0,pt p 0),(3,pt nb 0)]) H (aP [(0,pt p 0),(3,pt ((Ah H nb).n) 0)]) (FC H nb p s at_ dp nd w wp) [H.n+0,H.n+0,H.n+0,p]:=by
 have gH:=y.wf.lt kp
 exact om.qZ ok (f:=1) (id:=xT r9) (hs:=[am 1,.val dw (tC H) [H.n+0] [H.n+0],.val dw (CQ H) [H.n+0] [H.n+0],.val dw (wu H) [H.n+0] [H.n+0],am 3,bw (.string s) (wu H),am 2,bw (M at_) (wu H),.ax,.val (M (gS (ad s at_))) (wu H) [] [H.n+0],am 1,.call (pt ((Ah H nb).n) 0) (FC H nb p s at_ dp nd w wp) [p],am 0]) (bp (bk:(H.n+0)<H.n∨H.n≤(H.n+0))<|bp (bk:(H.n+0)<H.n∨H.n≤(H.n+0))<|bp (bk:(H.n+0)<H.n∨H.n≤(H.n+0))<|bp (bk:(H.n+0)≠p)<|bp (bk:(H.n+0)≠p)<|bp (bk:(H.n+0)≠p)<|bp (bk:(H.n+0)≠p)<|bp (bk:(H.n+0)≠p)<|bp (bk:(H.n+0)≠p)<|bp (i7 mu mw rfl rfl rfl rfl:g5 E 233 (.map (some (H.n+0))) (ab 42) (M 4) (qT H)=some (dw,tC H,[H.n+0],[H.n+0]))<|bp (m5 rfl:cK (qT H) (tC H) [H.n+0]=true)<|bp (i7 mu mw rfl rfl rfl rfl:g5 E 233 (.map (some (H.n+0))) (ab 63) (M 6) (tC H)=some (dw,CQ H,[H.n+0],[H.n+0]))<|bp (m5 rfl:cK (tC H) (CQ H) [H.n+0]=true)<|bp (i7 mu mw rfl rfl rfl rfl:g5 E 233 (.map (some (H.n+0))) (ab 43) (M 5) (CQ H)=some (dw,wu H,[H.n+0],[H.n+0]))<|bp (m5 rfl:cK (CQ H) (wu H) [H.n+0]=true)<|bp (ag 0 bA (y.old kp [.map [⟨ab 42,M 4,0⟩,⟨ab 63,M 6,1⟩,⟨ab 43,M 5,2⟩] 3]))<|bp (ag 1 av (y.old kp [.map [⟨ab 42,M 4,0⟩,⟨ab 63,M 6,1⟩,⟨ab 43,M 5,2⟩] 3]))<|bp (by omega:0≤at_)<|bp (by omega:at_<(s.size:Int))<|bp (AG (aR [.map [⟨ab 42,M 4,0⟩,⟨ab 63,M 6,1⟩,⟨ab 43,M 5,2⟩] 3] H 0 _ rfl) (AF (ad s at_)).2.1:n5 E 233 (.map (some (H.n+0))) (ab (ad s at_)) false (wu H)=some (M (gS (ad s at_)),wu H,[],[H.n+0]))<|bp (AM p s at_ dp nd w wp (gS (ad s at_)) (H.n+1) (y.news [.map [⟨ab 42,M 4,0⟩,⟨ab 63,M 6,1⟩,⟨ab 43,M 5,2⟩] 3,O [pt nb 0] 127]) (y.old kp [.map [⟨ab 42,M 4,0⟩,⟨ab 63,M 6,1⟩,⟨ab 43,M 5,2⟩] 3,O [pt nb 0] 127]) J hs a0 J hw:bF E 116 [pt p 0,M (gS (ad s at_)),sc (H.n+1) 0 1 3] (Ah H nb) (.ret (pt ((Ah H nb).n) 0)) (FC H nb p s at_ dp nd w wp) [p])<|bp (dO (y.news [.map [⟨ab 42,M 4,0⟩,⟨ab 63,M 6,1⟩,⟨ab 43,M 5,2⟩] 3,O [pt nb 0] 127]) (y.old kp [.map [⟨ab 42,M 4,0⟩,⟨ab 63,M 6,1⟩,⟨ab 43,M 5,2⟩] 3,O [pt nb 0] 127]):cK (Ah H nb) (FC H nb p s at_ dp nd w wp) [p]=true)<|q8 (pt p 0)<|q8 (pt ((Ah H nb).n) 0)<|trivial) an rfl
theorem adT:∀ md,nN md (ly nz (n8 2 4 3) (n9 2 4 3) [(2,4),(4,3)]):=by
 intro md
 cases md
 ·exact kV an
 ·exact kV an
 ·exact kV an
noncomputable abbrev Ad H nb:=news H [.map [⟨ab 43,M 5,0⟩,⟨ab 42,M 4,1⟩,⟨ab 63,M 6,2⟩] 3,O [pt nb 0] 127]
noncomputable abbrev Fx (H:Z) nb p s at_ dp nd w wp:=news ((news H [.map [⟨ab 43,M 5,0⟩,⟨ab 42,M 4,1⟩,⟨ab 63,M 6,2⟩] 3,O [pt nb 0] 127]).set p (O (vE s at_ dp nd w wp) 151)) [O (mU (gS (ad s at_)) (IntKind.i64.wrap (nd+1))++[sc (H.n+1) 0 1 3]) 176]
noncomputable abbrev tA H:=news H [.map [⟨ab 43,M 5,0⟩] 1]
noncomputable abbrev CL H:=news H [.map [⟨ab 43,M 5,0⟩,⟨ab 42,M 4,1⟩] 2]
noncomputable abbrev wm H:=news H [.map [⟨ab 43,M 5,0⟩,⟨ab 42,M 4,1⟩,⟨ab 63,M 6,2⟩] 3]
theorem adN (p:Nat) (nb:Nat) (s:ByteArray) (at_ dp nd:Int) (w wp:Nat) {H:Z} (y:aa E G H) (kp:H.get p=some (gb s at_ dp nd (hC w wp))) (ce:G.n≤p) (hs:(s.size:Int)<100000) (a0:0≤at_) (a1:at_≤s.size) (hw:w=0∨w=1) (hlt:at_<s.size):om E 32 (ly nz (n8 3 2 4) (n9 3 2 4) [(3,2),(2,4)]) (aP [(0,pt p 0),(3,pt nb 0)]) H (aP [(0,pt p 0),(3,pt ((Ad H nb).n) 0)]) (Fx H nb p s at_ dp nd w wp) [H.n+0,H.n+0,H.n+0,p]:=by
 have gH:=y.wf.lt kp
 exact om.qZ ok (f:=1) (id:=xT r9) (hs:=[am 1,.val dw (tA H) [H.n+0] [H.n+0],.val dw (CL H) [H.n+0] [H.n+0],.val dw (wm H) [H.n+0] [H.n+0],am 3,bw (.string s) (wm H),am 2,bw (M at_) (wm H),.ax,.val (M (gS (ad s at_))) (wm H) [] [H.n+0],am 1,.call (pt ((Ad H nb).n) 0) (Fx H nb p s at_ dp nd w wp) [p],am 0]) (bp (bk:(H.n+0)<H.n∨H.n≤(H.n+0))<|bp (bk:(H.n+0)<H.n∨H.n≤(H.n+0))<|bp (bk:(H.n+0)<H.n∨H.n≤(H.n+0))<|bp (bk:(H.n+0)≠p)<|bp (bk:(H.n+0)≠p)<|bp (bk:(H.n+0)≠p)<|bp (bk:(H.n+0)≠p)<|bp (bk:(H.n+0)≠p)<|bp (bk:(H.n+0)≠p)<|bp (i7 mu mw rfl rfl rfl rfl:g5 E 233 (.map (some (H.n+0))) (ab 43) (M 5) (qT H)=some (dw,tA H,[H.n+0],[H.n+0]))<|bp (m5 rfl:cK (qT H) (tA H) [H.n+0]=true)<|bp (i7 mu mw rfl rfl rfl rfl:g5 E 233 (.map (some (H.n+0))) (ab 42) (M 4) (tA H)=some (dw,CL H,[H.n+0],[H.n+0]))<|bp (m5 rfl:cK (tA H) (CL H) [H.n+0]=true)<|bp (i7 mu mw rfl rfl rfl rfl:g5 E 233 (.map (some (H.n+0))) (ab 63) (M 6) (CL H)=some (dw,wm H,[H.n+0],[H.n+0]))<|bp (m5 rfl:cK (CL H) (wm H) [H.n+0]=true)<|bp (ag 0 bA (y.old kp [.map [⟨ab 43,M 5,0⟩,⟨ab 42,M 4,1⟩,⟨ab 63,M 6,2⟩] 3]))<|bp (ag 1 av (y.old kp [.map [⟨ab 43,M 5,0⟩,⟨ab 42,M 4,1⟩,⟨ab 63,M 6,2⟩] 3]))<|bp (by omega:0≤at_)<|bp (by omega:at_<(s.size:Int))<|bp (AG (aR [.map [⟨ab 43,M 5,0⟩,⟨ab 42,M 4,1⟩,⟨ab 63,M 6,2⟩] 3] H 0 _ rfl) (AF (ad s at_)).2.2.1:n5 E 233 (.map (some (H.n+0))) (ab (ad s at_)) false (wm H)=some (M (gS (ad s at_)),wm H,[],[H.n+0]))<|bp (AM p s at_ dp nd w wp (gS (ad s at_)) (H.n+1) (y.news [.map [⟨ab 43,M 5,0⟩,⟨ab 42,M 4,1⟩,⟨ab 63,M 6,2⟩] 3,O [pt nb 0] 127]) (y.old kp [.map [⟨ab 43,M 5,0⟩,⟨ab 42,M 4,1⟩,⟨ab 63,M 6,2⟩] 3,O [pt nb 0] 127]) J hs a0 J hw:bF E 116 [pt p 0,M (gS (ad s at_)),sc (H.n+1) 0 1 3] (Ad H nb) (.ret (pt ((Ad H nb).n) 0)) (Fx H nb p s at_ dp nd w wp) [p])<|bp (dO (y.news [.map [⟨ab 43,M 5,0⟩,⟨ab 42,M 4,1⟩,⟨ab 63,M 6,2⟩] 3,O [pt nb 0] 127]) (y.old kp [.map [⟨ab 43,M 5,0⟩,⟨ab 42,M 4,1⟩,⟨ab 63,M 6,2⟩] 3,O [pt nb 0] 127]):cK (Ad H nb) (Fx H nb p s at_ dp nd w wp) [p]=true)<|q8 (pt p 0)<|q8 (pt ((Ad H nb).n) 0)<|trivial) an rfl
theorem adU:∀ md,nN md (ly nz (n8 3 2 4) (n9 3 2 4) [(3,2),(2,4)]):=by
 intro md
 cases md
 ·exact kV an
 ·exact kV an
 ·exact kV an
noncomputable abbrev Ae H nb:=news H [.map [⟨ab 43,M 5,0⟩,⟨ab 63,M 6,1⟩,⟨ab 42,M 4,2⟩] 3,O [pt nb 0] 127]
noncomputable abbrev Fy (H:Z) nb p s at_ dp nd w wp:=news ((news H [.map [⟨ab 43,M 5,0⟩,⟨ab 63,M 6,1⟩,⟨ab 42,M 4,2⟩] 3,O [pt nb 0] 127]).set p (O (vE s at_ dp nd w wp) 151)) [O (mU (gS (ad s at_)) (IntKind.i64.wrap (nd+1))++[sc (H.n+1) 0 1 3]) 176]
noncomputable abbrev CM H:=news H [.map [⟨ab 43,M 5,0⟩,⟨ab 63,M 6,1⟩] 2]
noncomputable abbrev wn H:=news H [.map [⟨ab 43,M 5,0⟩,⟨ab 63,M 6,1⟩,⟨ab 42,M 4,2⟩] 3]
theorem adO (p:Nat) (nb:Nat) (s:ByteArray) (at_ dp nd:Int) (w wp:Nat) {H:Z} (y:aa E G H) (kp:H.get p=some (gb s at_ dp nd (hC w wp))) (ce:G.n≤p) (hs:(s.size:Int)<100000) (a0:0≤at_) (a1:at_≤s.size) (hw:w=0∨w=1) (hlt:at_<s.size):om E 32 (ly nz (n8 3 4 2) (n9 3 4 2) [(3,4),(4,2)]) (aP [(0,pt p 0),(3,pt nb 0)]) H (aP [(0,pt p 0),(3,pt ((Ae H nb).n) 0)]) (Fy H nb p s at_ dp nd w wp) [H.n+0,H.n+0,H.n+0,p]:=by
 have gH:=y.wf.lt kp
 exact om.qZ ok (f:=1) (id:=xT r9) (hs:=[am 1,.val dw (tA H) [H.n+0] [H.n+0],.val dw (CM H) [H.n+0] [H.n+0],.val dw (wn H) [H.n+0] [H.n+0],am 3,bw (.string s) (wn H),am 2,bw (M at_) (wn H),.ax,.val (M (gS (ad s at_))) (wn H) [] [H.n+0],am 1,.call (pt ((Ae H nb).n) 0) (Fy H nb p s at_ dp nd w wp) [p],am 0]) (bp (bk:(H.n+0)<H.n∨H.n≤(H.n+0))<|bp (bk:(H.n+0)<H.n∨H.n≤(H.n+0))<|bp (bk:(H.n+0)<H.n∨H.n≤(H.n+0))<|bp (bk:(H.n+0)≠p)<|bp (bk:(H.n+0)≠p)<|bp (bk:(H.n+0)≠p)<|bp (bk:(H.n+0)≠p)<|bp (bk:(H.n+0)≠p)<|bp (bk:(H.n+0)≠p)<|bp (i7 mu mw rfl rfl rfl rfl:g5 E 233 (.map (some (H.n+0))) (ab 43) (M 5) (qT H)=some (dw,tA H,[H.n+0],[H.n+0]))<|bp (m5 rfl:cK (qT H) (tA H) [H.n+0]=true)<|bp (i7 mu mw rfl rfl rfl rfl:g5 E 233 (.map (some (H.n+0))) (ab 63) (M 6) (tA H)=some (dw,CM H,[H.n+0],[H.n+0]))<|bp (m5 rfl:cK (tA H) (CM H) [H.n+0]=true)<|bp (i7 mu mw rfl rfl rfl rfl:g5 E 233 (.map (some (H.n+0))) (ab 42) (M 4) (CM H)=some (dw,wn H,[H.n+0],[H.n+0]))<|bp (m5 rfl:cK (CM H) (wn H) [H.n+0]=true)<|bp (ag 0 bA (y.old kp [.map [⟨ab 43,M 5,0⟩,⟨ab 63,M 6,1⟩,⟨ab 42,M 4,2⟩] 3]))<|bp (ag 1 av (y.old kp [.map [⟨ab 43,M 5,0⟩,⟨ab 63,M 6,1⟩,⟨ab 42,M 4,2⟩] 3]))<|bp (by omega:0≤at_)<|bp (by omega:at_<(s.size:Int))<|bp (AG (aR [.map [⟨ab 43,M 5,0⟩,⟨ab 63,M 6,1⟩,⟨ab 42,M 4,2⟩] 3] H 0 _ rfl) (AF (ad s at_)).2.2.2.1:n5 E 233 (.map (some (H.n+0))) (ab (ad s at_)) false (wn H)=some (M (gS (ad s at_)),wn H,[],[H.n+0]))<|bp (AM p s at_ dp nd w wp (gS (ad s at_)) (H.n+1) (y.news [.map [⟨ab 43,M 5,0⟩,⟨ab 63,M 6,1⟩,⟨ab 42,M 4,2⟩] 3,O [pt nb 0] 127]) (y.old kp [.map [⟨ab 43,M 5,0⟩,⟨ab 63,M 6,1⟩,⟨ab 42,M 4,2⟩] 3,O [pt nb 0] 127]) J hs a0 J hw:bF E 116 [pt p 0,M (gS (ad s at_)),sc (H.n+1) 0 1 3] (Ae H nb) (.ret (pt ((Ae H nb).n) 0)) (Fy H nb p s at_ dp nd w wp) [p])<|bp (dO (y.news [.map [⟨ab 43,M 5,0⟩,⟨ab 63,M 6,1⟩,⟨ab 42,M 4,2⟩] 3,O [pt nb 0] 127]) (y.old kp [.map [⟨ab 43,M 5,0⟩,⟨ab 63,M 6,1⟩,⟨ab 42,M 4,2⟩] 3,O [pt nb 0] 127]):cK (Ae H nb) (Fy H nb p s at_ dp nd w wp) [p]=true)<|q8 (pt p 0)<|q8 (pt ((Ae H nb).n) 0)<|trivial) an rfl
theorem adV:∀ md,nN md (ly nz (n8 3 4 2) (n9 3 4 2) [(3,4),(4,2)]):=by
 intro md
 cases md
 ·exact kV an
 ·exact kV an
 ·exact kV an
noncomputable abbrev Af H nb:=news H [.map [⟨ab 63,M 6,0⟩,⟨ab 42,M 4,1⟩,⟨ab 43,M 5,2⟩] 3,O [pt nb 0] 127]
noncomputable abbrev FA (H:Z) nb p s at_ dp nd w wp:=news ((news H [.map [⟨ab 63,M 6,0⟩,⟨ab 42,M 4,1⟩,⟨ab 43,M 5,2⟩] 3,O [pt nb 0] 127]).set p (O (vE s at_ dp nd w wp) 151)) [O (mU (gS (ad s at_)) (IntKind.i64.wrap (nd+1))++[sc (H.n+1) 0 1 3]) 176]
noncomputable abbrev tB H:=news H [.map [⟨ab 63,M 6,0⟩] 1]
noncomputable abbrev CN H:=news H [.map [⟨ab 63,M 6,0⟩,⟨ab 42,M 4,1⟩] 2]
noncomputable abbrev wo H:=news H [.map [⟨ab 63,M 6,0⟩,⟨ab 42,M 4,1⟩,⟨ab 43,M 5,2⟩] 3]
theorem adP (p:Nat) (nb:Nat) (s:ByteArray) (at_ dp nd:Int) (w wp:Nat) {H:Z} (y:aa E G H) (kp:H.get p=some (gb s at_ dp nd (hC w wp))) (ce:G.n≤p) (hs:(s.size:Int)<100000) (a0:0≤at_) (a1:at_≤s.size) (hw:w=0∨w=1) (hlt:at_<s.size):om E 32 (ly nz (n8 4 2 3) (n9 4 2 3) [(4,2),(2,3)]) (aP [(0,pt p 0),(3,pt nb 0)]) H (aP [(0,pt p 0),(3,pt ((Af H nb).n) 0)]) (FA H nb p s at_ dp nd w wp) [H.n+0,H.n+0,H.n+0,p]:=by
 have gH:=y.wf.lt kp
 exact om.qZ ok (f:=1) (id:=xT r9) (hs:=[am 1,.val dw (tB H) [H.n+0] [H.n+0],.val dw (CN H) [H.n+0] [H.n+0],.val dw (wo H) [H.n+0] [H.n+0],am 3,bw (.string s) (wo H),am 2,bw (M at_) (wo H),.ax,.val (M (gS (ad s at_))) (wo H) [] [H.n+0],am 1,.call (pt ((Af H nb).n) 0) (FA H nb p s at_ dp nd w wp) [p],am 0]) (bp (bk:(H.n+0)<H.n∨H.n≤(H.n+0))<|bp (bk:(H.n+0)<H.n∨H.n≤(H.n+0))<|bp (bk:(H.n+0)<H.n∨H.n≤(H.n+0))<|bp (bk:(H.n+0)≠p)<|bp (bk:(H.n+0)≠p)<|bp (bk:(H.n+0)≠p)<|bp (bk:(H.n+0)≠p)<|bp (bk:(H.n+0)≠p)<|bp (bk:(H.n+0)≠p)<|bp (i7 mu mw rfl rfl rfl rfl:g5 E 233 (.map (some (H.n+0))) (ab 63) (M 6) (qT H)=some (dw,tB H,[H.n+0],[H.n+0]))<|bp (m5 rfl:cK (qT H) (tB H) [H.n+0]=true)<|bp (i7 mu mw rfl rfl rfl rfl:g5 E 233 (.map (some (H.n+0))) (ab 42) (M 4) (tB H)=some (dw,CN H,[H.n+0],[H.n+0]))<|bp (m5 rfl:cK (tB H) (CN H) [H.n+0]=true)<|bp (i7 mu mw rfl rfl rfl rfl:g5 E 233 (.map (some (H.n+0))) (ab 43) (M 5) (CN H)=some (dw,wo H,[H.n+0],[H.n+0]))<|bp (m5 rfl:cK (CN H) (wo H) [H.n+0]=true)<|bp (ag 0 bA (y.old kp [.map [⟨ab 63,M 6,0⟩,⟨ab 42,M 4,1⟩,⟨ab 43,M 5,2⟩] 3]))<|bp (ag 1 av (y.old kp [.map [⟨ab 63,M 6,0⟩,⟨ab 42,M 4,1⟩,⟨ab 43,M 5,2⟩] 3]))<|bp (by omega:0≤at_)<|bp (by omega:at_<(s.size:Int))<|bp (AG (aR [.map [⟨ab 63,M 6,0⟩,⟨ab 42,M 4,1⟩,⟨ab 43,M 5,2⟩] 3] H 0 _ rfl) (AF (ad s at_)).2.2.2.2.1:n5 E 233 (.map (some (H.n+0))) (ab (ad s at_)) false (wo H)=some (M (gS (ad s at_)),wo H,[],[H.n+0]))<|bp (AM p s at_ dp nd w wp (gS (ad s at_)) (H.n+1) (y.news [.map [⟨ab 63,M 6,0⟩,⟨ab 42,M 4,1⟩,⟨ab 43,M 5,2⟩] 3,O [pt nb 0] 127]) (y.old kp [.map [⟨ab 63,M 6,0⟩,⟨ab 42,M 4,1⟩,⟨ab 43,M 5,2⟩] 3,O [pt nb 0] 127]) J hs a0 J hw:bF E 116 [pt p 0,M (gS (ad s at_)),sc (H.n+1) 0 1 3] (Af H nb) (.ret (pt ((Af H nb).n) 0)) (FA H nb p s at_ dp nd w wp) [p])<|bp (dO (y.news [.map [⟨ab 63,M 6,0⟩,⟨ab 42,M 4,1⟩,⟨ab 43,M 5,2⟩] 3,O [pt nb 0] 127]) (y.old kp [.map [⟨ab 63,M 6,0⟩,⟨ab 42,M 4,1⟩,⟨ab 43,M 5,2⟩] 3,O [pt nb 0] 127]):cK (Af H nb) (FA H nb p s at_ dp nd w wp) [p]=true)<|q8 (pt p 0)<|q8 (pt ((Af H nb).n) 0)<|trivial) an rfl
theorem adW:∀ md,nN md (ly nz (n8 4 2 3) (n9 4 2 3) [(4,2),(2,3)]):=by
 intro md
 cases md
 ·exact kV an
 ·exact kV an
 ·exact kV an
noncomputable abbrev Ag H nb:=news H [.map [⟨ab 63,M 6,0⟩,⟨ab 43,M 5,1⟩,⟨ab 42,M 4,2⟩] 3,O [pt nb 0] 127]
noncomputable abbrev FB (H:Z) nb p s at_ dp nd w wp:=news ((news H [.map [⟨ab 63,M 6,0⟩,⟨ab 43,M 5,1⟩,⟨ab 42,M 4,2⟩] 3,O [pt nb 0] 127]).set p (O (vE s at_ dp nd w wp) 151)) [O (mU (gS (ad s at_)) (IntKind.i64.wrap (nd+1))++[sc (H.n+1) 0 1 3]) 176]
noncomputable abbrev CO H:=news H [.map [⟨ab 63,M 6,0⟩,⟨ab 43,M 5,1⟩] 2]
noncomputable abbrev wq H:=news H [.map [⟨ab 63,M 6,0⟩,⟨ab 43,M 5,1⟩,⟨ab 42,M 4,2⟩] 3]
theorem adQ (p:Nat) (nb:Nat) (s:ByteArray) (at_ dp nd:Int) (w wp:Nat) {H:Z} (y:aa E G H) (kp:H.get p=some (gb s at_ dp nd (hC w wp))) (ce:G.n≤p) (hs:(s.size:Int)<100000) (a0:0≤at_) (a1:at_≤s.size) (hw:w=0∨w=1) (hlt:at_<s.size):om E 32 (ly nz (n8 4 3 2) (n9 4 3 2) [(4,3),(3,2)]) (aP [(0,pt p 0),(3,pt nb 0)]) H (aP [(0,pt p 0),(3,pt ((Ag H nb).n) 0)]) (FB H nb p s at_ dp nd w wp) [H.n+0,H.n+0,H.n+0,p]:=by
 have gH:=y.wf.lt kp
 exact om.qZ ok (f:=1) (id:=xT r9) (hs:=[am 1,.val dw (tB H) [H.n+0] [H.n+0],.val dw (CO H) [H.n+0] [H.n+0],.val dw (wq H) [H.n+0] [H.n+0],am 3,bw (.string s) (wq H),am 2,bw (M at_) (wq H),.ax,.val (M (gS (ad s at_))) (wq H) [] [H.n+0],am 1,.call (pt ((Ag H nb).n) 0) (FB H nb p s at_ dp nd w wp) [p],am 0]) (bp (bk:(H.n+0)<H.n∨H.n≤(H.n+0))<|bp (bk:(H.n+0)<H.n∨H.n≤(H.n+0))<|bp (bk:(H.n+0)<H.n∨H.n≤(H.n+0))<|bp (bk:(H.n+0)≠p)<|bp (bk:(H.n+0)≠p)<|bp (bk:(H.n+0)≠p)<|bp (bk:(H.n+0)≠p)<|bp (bk:(H.n+0)≠p)<|bp (bk:(H.n+0)≠p)<|bp (i7 mu mw rfl rfl rfl rfl:g5 E 233 (.map (some (H.n+0))) (ab 63) (M 6) (qT H)=some (dw,tB H,[H.n+0],[H.n+0]))<|bp (m5 rfl:cK (qT H) (tB H) [H.n+0]=true)<|bp (i7 mu mw rfl rfl rfl rfl:g5 E 233 (.map (some (H.n+0))) (ab 43) (M 5) (tB H)=some (dw,CO H,[H.n+0],[H.n+0]))<|bp (m5 rfl:cK (tB H) (CO H) [H.n+0]=true)<|bp (i7 mu mw rfl rfl rfl rfl:g5 E 233 (.map (some (H.n+0))) (ab 42) (M 4) (CO H)=some (dw,wq H,[H.n+0],[H.n+0]))<|bp (m5 rfl:cK (CO H) (wq H) [H.n+0]=true)<|bp (ag 0 bA (y.old kp [.map [⟨ab 63,M 6,0⟩,⟨ab 43,M 5,1⟩,⟨ab 42,M 4,2⟩] 3]))<|bp (ag 1 av (y.old kp [.map [⟨ab 63,M 6,0⟩,⟨ab 43,M 5,1⟩,⟨ab 42,M 4,2⟩] 3]))<|bp (by omega:0≤at_)<|bp (by omega:at_<(s.size:Int))<|bp (AG (aR [.map [⟨ab 63,M 6,0⟩,⟨ab 43,M 5,1⟩,⟨ab 42,M 4,2⟩] 3] H 0 _ rfl) (AF (ad s at_)).2.2.2.2.2:n5 E 233 (.map (some (H.n+0))) (ab (ad s at_)) false (wq H)=some (M (gS (ad s at_)),wq H,[],[H.n+0]))<|bp (AM p s at_ dp nd w wp (gS (ad s at_)) (H.n+1) (y.news [.map [⟨ab 63,M 6,0⟩,⟨ab 43,M 5,1⟩,⟨ab 42,M 4,2⟩] 3,O [pt nb 0] 127]) (y.old kp [.map [⟨ab 63,M 6,0⟩,⟨ab 43,M 5,1⟩,⟨ab 42,M 4,2⟩] 3,O [pt nb 0] 127]) J hs a0 J hw:bF E 116 [pt p 0,M (gS (ad s at_)),sc (H.n+1) 0 1 3] (Ag H nb) (.ret (pt ((Ag H nb).n) 0)) (FB H nb p s at_ dp nd w wp) [p])<|bp (dO (y.news [.map [⟨ab 63,M 6,0⟩,⟨ab 43,M 5,1⟩,⟨ab 42,M 4,2⟩] 3,O [pt nb 0] 127]) (y.old kp [.map [⟨ab 63,M 6,0⟩,⟨ab 43,M 5,1⟩,⟨ab 42,M 4,2⟩] 3,O [pt nb 0] 127]):cK (Ag H nb) (FB H nb p s at_ dp nd w wp) [p]=true)<|q8 (pt p 0)<|q8 (pt ((Ag H nb).n) 0)<|trivial) an rfl
theorem adX:∀ md,nN md (ly nz (n8 4 3 2) (n9 4 3 2) [(4,3),(3,2)]):=by
 intro md
 cases md
 ·exact kV an
 ·exact kV an
 ·exact kV an
theorem adZ (p:Nat) (nb:Nat) (s:ByteArray) (at_ dp nd:Int) (w wp:Nat) {H:Z} (y:aa E G H) (kp:H.get p=some (gb s at_ dp nd (hC w wp))) (ce:G.n≤p) (hs:(s.size:Int)<100000) (a0:0≤at_) (a1:at_≤s.size) (hw:w=0∨w=1) (hlt:at_<s.size):dF E 32 r9 (aP [(0,pt p 0),(3,pt nb 0)]) H [] .normal (aP [(0,pt p 0),(3,pt ((news H [.dead,O [pt nb 0] 127]).n) 0)]) (news ((news H [.dead,O [pt nb 0] 127]).set p (O (vE s at_ dp nd w wp) 151)) [O (mU (gS (ad s at_)) (IntKind.i64.wrap (nd+1))++[sc (H.n+1) 0 1 3]) 176]) [] [H.n+0,H.n+0,H.n+0,p]:=by
 rw [adK]
 have gH:=y.wf.lt kp
 refine dF.perm ad0 (fun wf=>cW.news (cW.set (cW.news wf _) (by rw [dj];omega) _) _) fun l=>?_
 rcases ach l with h |h |h |h |h |h
 ·exact ⟨_,_,_,_,Av 2 3 4 (by decide),Ay h.1 h.2,adL p nb s at_ dp nd w wp y kp ce hs a0 a1 hw hlt,adS,rfl,zX gH⟩
 ·exact ⟨_,_,_,_,Av 2 4 3 (by decide),Ay h.1 h.2,adM p nb s at_ dp nd w wp y kp ce hs a0 a1 hw hlt,adT,rfl,zX gH⟩
 ·exact ⟨_,_,_,_,Av 3 2 4 (by decide),Ay h.1 h.2,adN p nb s at_ dp nd w wp y kp ce hs a0 a1 hw hlt,adU,rfl,zX gH⟩
 ·exact ⟨_,_,_,_,Av 3 4 2 (by decide),Ay h.1 h.2,adO p nb s at_ dp nd w wp y kp ce hs a0 a1 hw hlt,adV,rfl,zX gH⟩
 ·exact ⟨_,_,_,_,Av 4 2 3 (by decide),Ay h.1 h.2,adP p nb s at_ dp nd w wp y kp ce hs a0 a1 hw hlt,adW,rfl,zX gH⟩
 ·exact ⟨_,_,_,_,Av 4 3 2 (by decide),Ay h.1 h.2,adQ p nb s at_ dp nd w wp y kp ce hs a0 a1 hw hlt,adX,rfl,zX gH⟩
theorem adY (p:Nat) (nb:Nat) (s:ByteArray) (at_ dp nd:Int) (w wp:Nat) {H:Z} (y:aa E G H) (kp:H.get p=some (gb s at_ dp nd (hC w wp))) (ce:G.n≤p) (hs:(s.size:Int)<100000) (a0:0≤at_) (a1:at_≤s.size) (hw:w=0∨w=1) (hlt:at_<s.size):jL E G 32 r9 [(0,pt p 0),(3,pt nb 0)] H [p] (fun x T H'=>(x=.normal∧∃(LO:Nat) (qx:Int),T=aP [(0,pt p 0),(3,pt LO 0)]∧(H'.get p=some (gb s at_ dp qx (hC w wp))))):=by
 have gH:=y.wf.lt kp
 refine jL.mk y (adZ p nb s at_ dp nd w wp y kp ce hs a0 a1 hw hlt) (fun q hq=>?_) (fun q hq=>?_) ⟨rfl,_,IntKind.i64.wrap (nd+1),rfl,?_⟩
 ·rw [dj,Z.cI,dj]
  simp only [List.mem_cons,aq,or_false,dX,e3] at hq ⊢
  omega
 ·simp only [List.mem_cons,aq,or_false] at hq
  omega
 ·rw [Ab _ _ _ (by rw [Z.cI,dj];omega),Z.kP,if_pos rfl]
noncomputable def VF:Code:=cw [1,1,0,0,0] (cx Tryz.f146)
theorem QS (p:Nat) (s:ByteArray) (e5:Int) (dp:Int) (R:Option Int):∀(m:Nat) (yM:Nat) (at_:Int) (nd:Int) (w:Nat) (wp:Nat) (H:Z),aa E G H→(kp:H.get p=some (O (iF s at_ dp nd (hC w wp)) 151))→(hs:(s.size:Int)<100000)→(ce:G.n≤p)→(b0:0≤e5)→(b1:e5≤at_)→(a1:at_≤s.size)→(hw:w=0∨w=1)→(hR:sE w (some (oa s at_)) R)→((s.size:Int)-at_).toNat=m→
  bV E G 32 VF [(0,pt p 0),(3,pt yM 0)] H [p] (fun x T H'=>(x=(.exit 0)∧∃(LO:Nat) (eW qx:Int) (ip sw:Nat),T=aP [(3,pt LO 0)]∧(H'.get p=some (gb s eW dp qx (hC ip sw))∧e5≤eW∧eW≤s.size∧(ip=0∨ip=1)∧(ip=0→R=some eW)∧(ip=1→R=none)))):=by
 refine dJ fun m ih=>?_
 intro yM at_ nd w wp H y kp hs ce b0 b1 a1 hw hR hm
 refine cN y ?_
 have gH:=y.wf.lt kp
 rcases hw with rfl |rfl
 ·obtain ⟨_,H1,c1,ak,y1,bE⟩:=tK p s at_ dp nd ⟨#[42,43,63]⟩ y kp J hs J J
  rcases bE with ⟨rfl,mM⟩ |⟨rfl,py,oF⟩
  ·have bZ:=y.kept ak aq kp
   exact ac 1 c1<|c5 0 [(3,pt yM 0)] (.exit 0) H1 [] aL aZ ⟨rfl,yM,at_,nd,0,wp,rfl,⟨bZ,J,J,J,fun _=>(hR.1 rfl).symm.trans (congrArg some (QR mM)),fun h=>absurd h (by decide)⟩⟩
  have c8:H.n+0≤H1.n:=ak.n
  have bZ:=y.kept ak aq kp
  obtain ⟨_,_,H2,c2,aF,ar,rfl,wQ,vn,rfl,n4⟩:=adY p yM s at_ dp nd 0 wp y1 bZ ce hs J J J J
  have cB:H1.n+0≤H2.n:=aF.n
  obtain ⟨cf,bc⟩:∃ ao,ao=H2.set p (O (iF s (at_+1) dp vn (hC 0 wp)) 151):=⟨_,rfl⟩
  have aM:aa E G cf:=bc▸ar.set _ J J
  have eU:=bz bc
  exact ac 1 c1<|gi 0 4 c2<|Y 3 (ag 1 av n4)<|aH 0 (at_+1)<|aB 2 (stx 1 (M (at_+1)) dK n4 bc)<|dY 0 [(0,pt p 0),(3,pt wQ 0)] cf [p,p] aW (ih _ J wQ (at_+1) vn 0 wp _ aM eU hs ce b0 J J J (.go ((congrArg some (Gc py oF)).symm.trans (hR.1 rfl))) rfl)
 obtain ⟨_,H1,c1,ak,y1,rfl⟩:=Gj p s at_ dp nd wp ⟨#[42,43,63]⟩ y kp J hs J J
 have bZ:=y.kept ak aq kp
 exact ac 1 c1<|c5 0 [(3,pt yM 0)] (.exit 0) H1 [] aL aZ ⟨rfl,yM,at_,nd,1,wp,rfl,⟨bZ,J,J,J,fun h=>absurd h (by decide),fun _=>hR.2 rfl⟩⟩
theorem Rg (p:Nat) (s:ByteArray) (at_:Int) (dp:Int) (nd:Int) (n:Nat) {H:Z} (y:aa E G H) (kp:H.get p=some (gb s at_ dp nd (.pointer none))) (ce:G.n≤p) (hs:(s.size:Int)<100000) (a0:0≤at_) (a1:at_≤s.size) (hA:sB s n) (hn:((s.size:Int)-at_).toNat≤n) (hlt:at_<s.size):aV E G 146 [pt p 0] H [p] (fun v H'=>wY s p at_ 1 (wD s at_ dp) v H'):=by
 refine bB Tryz.f146 y ?_
 obtain ⟨_,H1,c1,ak,y1,bE⟩:=aes p s at_ dp nd n y kp J hs J J hA J J
 rcases bE with ⟨dk,dW,ln,iB,rfl,ei,fk,ma,b7⟩ |⟨dk,dW,ln,iB,nD,rfl,ei,fk,ma,b7⟩
 ·obtain ⟨_,_,H2,c2,aF,ar,rfl,wQ,sq,vn,Sj,GV,rfl,n4,kw,Db,Cf,tN,yw⟩:=(QS p s dW ln (some (oa s dW)) _ dk dW iB 0 0 _ y1 ei hs ce J J J J (.go rfl) rfl).code
  refine ac 2 c1<|bx 1 c2<|?_
  rcases Cf with rfl |rfl
  ·exact bf 2 (pt wQ 0) H2 [p,p] aW aZ (.inl ⟨_,sq,ln,vn,rfl,n4,(by rw [KE fk,Option.some.inj (tN rfl)]),J,J⟩)
  exact bf 2 (pt wQ 0) H2 [p,p] aW aZ (absurd (yw rfl) aW)
 obtain ⟨_,_,H2,c2,aF,ar,rfl,wQ,sq,vn,Sj,GV,rfl,n4,kw,Db,Cf,tN,yw⟩:=(QS p s dW ln none _ dk dW iB 1 nD _ y1 ei hs ce J J J J (.bad rfl) rfl).code
 refine ac 2 c1<|bx 1 c2<|?_
 rcases Cf with rfl |rfl
 ·exact bf 2 (pt wQ 0) H2 [p,p] aW aZ (absurd (tN rfl) aW)
 exact bf 2 (pt wQ 0) H2 [p,p] aW aZ (.inr ⟨_,sq,ln,vn,GV,rfl,n4,KD fk,J,J⟩)
end Go.Proofs.YtglmagcldkngbaaGreatDoor
