/- Part of the proof that TreeKids answers true. -/
import Derived.Test.YtbehemdcaiigeaaGreatDoorR04
import Derived.Test.YtbehemdcaiigeaaGreatDoorR05
set_option linter.unusedVariables false
set_option linter.unusedSimpArgs false
set_option maxRecDepth 100000
set_option maxHeartbeats 4000000
namespace Go.Proofs.YtbehemdcaiigeaaGreatDoor
open Go Go.Am
theorem adc (w:World) (a:Addr) (v:Value) (B:Nat) (h:B≠a.block):(w.setCell a v).heap[B]?=w.heap[B]?:=by
 simp only [World.setCell,Array.getElem?_modify]
 rw [if_neg (fun e=>h e.symm)]
theorem adb (w:World) (a:Addr) (v:Value) (d4:Array Value) (e:TypeId) (f:Nat×Nat) (h:w.heap[a.block]?=some (.cells d4 e f)) (hs:a.spot=none):(w.setCell a v).heap[a.block]?=some (.cells (d4.setIfInBounds a.off v) e f):=by
 simp only [World.setCell,Array.getElem?_modify,if_true,h,Option.map_some,hs,Option.isSome_none,Bool.false_eq_true,if_false]
theorem UQ (n:Int) (b:Nat) (c:Value) {H:U} (y0:H.get 0=some (yZ [.iface 107 (.agg #[.pointer (some ⟨22,31,none⟩)])] 76)) (kb:H.get b=some (O [c] 40)):bE E 20 [.iface 40 (J n),.iface 51 (pt b 0)] H (.ret (.bool true)) (H.set b (O [J n] 40)) [b]:=fun wf cu=>by
 have qG:fG (H.get b)=true:=by rw [kb];rfl
 obtain ⟨hx,hwf,_⟩:=dN.set (R:=[b]) wf (O [J n] 40) (b:=b) qG bD
 refine ⟨hx,hwf,fun base φ w args' cC hfr hl=>.inl ⟨?_,?_⟩⟩
 ·unfold callFunc
  rw [Go.Am.bt (Go.Am.run_program w)]
  simp only [ok.func _ _ (show E.func 20=some Tryz.f20 by kernel_rfl),show (Tryz.f20.name== "runtime.NumGoroutine")=false by kernel_rfl,Bool.false_eq_true,if_false,show Tryz.f20.body.isNone=false by kernel_rfl]
  rfl
 ·obtain ⟨a1,r1,rfl,g9,dR⟩:=hl.cons_inv
  obtain ⟨a2,r2,rfl,k8,gy⟩:=dR.cons_inv
  have:=gy.mO
  subst this
  have e1:=g9.ox rfl
  subst e1
  cases k8 with
  |iface _ _ u hu=>
  cases hu with
  |ptr _ _ l hb=>
  obtain ⟨d4,lo,hi,k1,k2,jh,vG,zK,vI⟩:=cC.blocks b l _ (wf.lt kb) hb kb
  obtain ⟨v0,xA,_⟩:=vG 0 c rfl
  have jh:1≤l.mJ:=jh
  obtain ⟨l0,g0,g1,g2⟩:=cC.iL 0 (show 0<23 by omega)
  obtain ⟨l2,g3,g4,Ph⟩:=cC.iL 22 (show 22<23 by omega)
  have YB:0<H.n:=wf.lt y0
  obtain ⟨v1,PH,tW⟩:=cC.blocks 0 l0 _ YB g0 y0 0 _ rfl
  have hg:w.cell? ⟨0,0,none⟩=some (.iface 107 (.agg #[.pointer (some ⟨22,31,none⟩)])):=by
   rw [g1,g2] at PH
   rw [show (0:Nat)=0+0 from rfl]
   refine PH.trans (congrArg some ?_)
   cases tW with
   |iface _ _ u hu=>
    obtain ⟨cs,rfl,hs,hc⟩:=hu.A8
    have hs:1=cs.size:=hs
    obtain ⟨p,hp⟩:∃ p,cs[0]?=some p:=⟨cs[0],Array.getElem?_eq_getElem D⟩
    have hv:=hc 0 _ p rfl hp
    have hcs:cs=#[p]:=by
     apply Array.ext_getElem?
     intro i
     cases i with
     |zero=>rw [hp];rfl
     |succ i=>rw [Array.getElem?_eq_none D,Array.getElem?_eq_none bD]
    rw [hcs]
    cases hv with
    |ptr _ _ m hm=>
     rw [g3] at hm
     injection hm with hm
     subst hm
     rw [g4,Ph]
  have ht:w.cell? ⟨l.cD,l.off+0,none⟩=some v0:=by
   simp only [World.cell?,k1,Option.isSome_none,Bool.false_eq_true,if_false];exact xA
  have hf:w.frozen? ⟨l.cD,l.off+0,none⟩=false:=by
   simp only [World.frozen?,k1]
   have:=vI.1 (l.off+0) D D
   simpa using this
  refine (AsCode.UR n ⟨l.cD,l.off+0,none⟩ v0 w hg ht hf).mono fun e w' ⟨he,hw⟩=>?_
  subst he
  refine ⟨φ,?_,.bool true,rfl,.bool true⟩
  generalize hW:(((w.alloc _).alloc _).alloc _).alloc _=W4 at hw
  have Dg:w.heap.size≤W4.heap.size∧(∀ B,B<w.heap.size→W4.heap[B]?=w.heap[B]?)∧W4.os=w.os∧W4.tape=w.tape∧W4.output=w.output:=by
   subst hW
   refine ⟨?_,fun B hB=>?_,rfl,rfl,rfl⟩
   ·show w.heap.size≤((((w.heap.push _).push _).push _).push _).size
    simp only [Array.size_push];omega
   ·show ((((w.heap.push _).push _).push _).push _)[B]?=_
    rw [Array.getElem?_push,if_neg (by simp only [Array.size_push];omega),Array.getElem?_push,if_neg (by simp only [Array.size_push];omega),Array.getElem?_push,if_neg (by simp only [Array.size_push];omega),Array.getElem?_push,if_neg D]
  obtain ⟨s1,s2,Mf,Dg,Mg⟩:=Dg
  have hlt:l.cD<w.heap.size:=cC.lt b l (wf.lt kb) hb (by rw [kb];rfl)
  have Zd:=(s2 _ hlt).trans k1
  subst hw
  have Y9:=adb W4 ⟨l.cD,l.off+0,none⟩ (.int .i64 n) d4 40 (lo,hi) Zd rfl
  have Zw:∀ B,B<w.heap.size→B≠l.cD→(W4.setCell ⟨l.cD,l.off+0,none⟩ (.int .i64 n)).heap[B]?=w.heap[B]?:=fun B hB hne=>(adc W4 _ _ B hne).trans (s2 B hB)
  have hsz:(W4.setCell ⟨l.cD,l.off+0,none⟩ (.int .i64 n)).heap.size=W4.heap.size:=by simp [World.setCell]
  refine eV.out wf hx cC ⟨fun j hj=>?_,fun i hi=>rfl,⟨Mf,Dg,Mg,by rw [hsz];exact s1,fun B hB hn=>Zw B hB (fun e=>hn b bD l hb e.symm)⟩,fun i l h1 h2 h3=>?_,fun i l' o h1 h2 h3 h4=>?_,fun i l h1 h2 h3 _=>?_,fun i j l m h1 h2 h3 h4 h5=>?_⟩ hfr cu
  ·simp at hj;subst hj;exact ⟨wf.lt kb,qG⟩
  ·simp at h2;omega
  ·simp at h1 h2
   have:i=b:=D
   subst this
   rw [hb] at h3
   injection h3 with h3
   subst h3
   rw [U.kr,if_pos rfl] at h4
   injection h4 with h4
   subst h4
   refine ⟨_,lo,hi,Y9,by simpa using k2,jh,fun j x hj=>?_,zK,vI.1,fun ht=>⟨(vI.2 ht).1,by simpa using (vI.2 ht).2⟩⟩
   cases j with
   |zero=>
    simp at hj
    subst hj
    exact ⟨.int .i64 n,by simp only [Nat.add_zero];rw [Array.getElem?_setIfInBounds_self_of_lt D],.int _ _⟩
   |succ j=>simp at hj
  ·simp at h2;omega
  ·simp at h2;omega
def NO (args:List Value) (H:U):m0:=
 match args,H.get 0 with
 |[.iface 40 (.int .i64 n),.iface 51 (.pointer (some ⟨b,0,none⟩))],some (.cells [.iface 107 (.agg ⟨[.pointer (some ⟨22,31,none⟩)]⟩)] 76 true)=>match H.get b with
  |some (.cells [_] 40 false)=>some (.ret (.bool true),H.set b (.cells [.int .i64 n] 40 false),[b])
  |_=>none
 |_,_=>none
def Fi (s:ByteArray) (c:Int):Int:=match (List.range s.size).find? fun i=>s[i]! == c.toNat.toUInt8 with |some i=>(i:Int) |none=>-1
theorem Z6 (s:ByteArray) (c:Int) {H:U}:bE E 242 [.string s,.int .u8 c] H (.ret (.int .i64 (Fi s c))) H []:=by
 have hn:Extern.BytealgIndexByte.indexByte #[.string s,.int .u8 c]=pure (.int .i64 (Fi s c)):=by
  have e0:Extern.BytealgIndexByte.indexByte #[.string s,.int .u8 c]=(match (List.range s.size).find? fun i=>s[i]! == c.toNat.toUInt8 with |some i=>(pure (goInt i):Sem Value) |none=>pure (goInt (-1))):=rfl
  rw [e0,Fi]
  split <;> rfl
 exact bE.extern ok (fn:=Tryz.f242) (e:=Extern.BytealgIndexByte.indexByte) av av av av av rfl rfl hn
def PR (args:List Value) (H:U):m0:=
 match args with
 |[.string s,.int .u8 c]=>some (.ret (.int .i64 (Fi s c)),H,[])
 |_=>none
def FA {α:Type} (g:Nat):List (Nat×α)→Option α
 |[]=>none
 |(k,a)::l=>bif Nat.beq g k then some a else FA g l
theorem Qt {α:Type} {g:Nat} {a:α}:∀{l:List (Nat×α)},FA g l=some a→(g,a)∈l
 |[],h=>by cases h
 |(k,b)::l,h=>by
  unfold FA at h
  cases hk:Nat.beq g k with
  |true=>
   rw [hk] at h;injection h with h;subst h
   have:=Nat.eq_of_beq_eq_true hk
   subst this
   exact List.mem_cons_self
  |false=>rw [hk] at h;exact List.mem_cons_of_mem _ (Qt h)
def LF:List (Nat×(List Value→U→m0)):=
 [(20,NO),(242,PR),(139,KK),(192,Mx),(226,Ic),(221,Iy),(220,GD),(222,GD),(223,GF),(225,GF),(105,O9)]
noncomputable def q9:Env:={ E with x5:=fun g=>FA g LF }
theorem Sp {base:Nat} {H:U} {φ:bA} {w:World} (h:Rel q9 base H φ w):Rel E base H φ w:=⟨h.bs,h.blocks,h.lt,h.inj,h.iL⟩
theorem Sq {base:Nat} {H:U} {φ:bA} {w:World} (h:Rel E base H φ w):Rel q9 base H φ w:=⟨h.bs,h.blocks,h.lt,h.inj,h.iL⟩
theorem RB {base:Nat} {H H':U} {φ aU:bA} {w w':World} {W:List Nat} (h:Out q9 base φ w H H' W aU w'):Out E base φ w H H' W aU w':=⟨h.ext,Sp h.rel,h.step,h.fresh⟩
theorem RC {base:Nat} {H H':U} {φ aU:bA} {w w':World} {W:List Nat} (h:Out E base φ w H H' W aU w'):Out q9 base φ w H H' W aU w':=⟨h.ext,Sq h.rel,h.step,h.fresh⟩
theorem Pk {g:FuncId} {args:List Value} {H H':U} {r:mX} {W:List Nat} (h:tx q9 g args H r H' W):tx E g args H r H' W:=
 ⟨h.1,h.2.1,fun base φ w args' a b c=>by
  rcases h.2.2 base φ w args' (Sq a) b c with ⟨he,hc⟩ |⟨v,w',he,aU,ho,hr⟩
  ·exact .inl ⟨he,hc.mono fun e w' ⟨aU,ho,hr⟩=>⟨aU,RB ho,hr⟩⟩
  ·exact .inr ⟨v,w',he,aU,RB ho,hr⟩⟩
theorem Ys {g:FuncId} {args:List Value} {H H':U} {r:mX} {W:List Nat} (h:tx E g args H r H' W):tx q9 g args H r H' W:=
 ⟨h.1,h.2.1,fun base φ w args' a b c=>by
  rcases h.2.2 base φ w args' (Sp a) b c with ⟨he,hc⟩ |⟨v,w',he,aU,ho,hr⟩
  ·exact .inl ⟨he,hc.mono fun e w' ⟨aU,ho,hr⟩=>⟨aU,RC ho,hr⟩⟩
  ·exact .inr ⟨v,w',he,aU,RC ho,hr⟩⟩
theorem aeC {g:Nat} {p:List Value→U→m0} (h:(g,p)∈LF) {args:List Value} {H H':U} {r:mX} {W:List Nat} (hp:p args H=some (r,H',W)):bE E g args H r H' W:=by
 simp only [LF,List.mem_cons,ai,or_false,bG] at h
 rcases h with ⟨rfl,rfl⟩ |⟨rfl,rfl⟩ |⟨rfl,rfl⟩ |⟨rfl,rfl⟩ |⟨rfl,rfl⟩ |⟨rfl,rfl⟩ |⟨rfl,rfl⟩ |⟨rfl,rfl⟩ |⟨rfl,rfl⟩ |⟨rfl,rfl⟩ |⟨rfl,rfl⟩
 ·unfold NO at hp
  split at hp
  ·rename_i n b y0
   split at hp
   ·rename_i c kb
    simp only [bx,bG] at hp
    obtain ⟨rfl,rfl,rfl⟩:=hp
    exact UQ n b c y0 kb
   ·cases hp
  ·cases hp
 ·unfold PR at hp
  split at hp
  ·rename_i s c
   simp only [bx,bG] at hp
   obtain ⟨rfl,rfl,rfl⟩:=hp
   exact Z6 s c
  ·cases hp
 ·exact acz hp
 ·exact ag5 hp
 ·exact UA hp
 ·exact VE hp
 ·unfold GD at hp
  split at hp
  ·simp only [bx,bG] at hp
   obtain ⟨rfl,rfl,rfl⟩:=hp
   exact aeZ
  ·cases hp
 ·unfold GD at hp
  split at hp
  ·simp only [bx,bG] at hp
   obtain ⟨rfl,rfl,rfl⟩:=hp
   exact ae0
  ·cases hp
 ·unfold GF at hp
  split at hp
  ·simp only [bx,bG] at hp
   obtain ⟨rfl,rfl,rfl⟩:=hp
   exact aeY
  ·cases hp
 ·unfold GF at hp
  split at hp
  ·simp only [bx,bG] at hp
   obtain ⟨rfl,rfl,rfl⟩:=hp
   exact ae1
  ·cases hp
 ·unfold O9 at hp
  split at hp
  ·simp only [bx,bG] at hp
   obtain ⟨rfl,rfl,rfl⟩:=hp
   exact Rl
  ·cases hp
theorem Te:Sound q9:=
 ⟨⟨ok.info,ok.func⟩,sound.name,fun g p h args H r H' W hp wf cu=>Ys (aeC (Qt h) hp wf cu),fun g p h=>by cases h⟩
theorem SC {f:Nat} {g:FuncId} {args:List Value} {H H':U} {r:mX} {W:List Nat} (h:rg q9 f g args H=some (r,H',W)):bE E g args H r H' W:=
 fun wf cu=>Pk (Eo Te f g args H _ _ _ h wf cu)
noncomputable def SL (f:Nat) (g:FuncId) (args:List Value):Option (Value×Bool):=
 match rg q9 f g args G with
 |some (.ret v,H',W)=>some (v,W.all fun q=>Nat.ble 23 q&&Nat.blt q H'.n)
 |_=>none
theorem R6 {f:Nat} {g:FuncId} {args:List Value} {v:Value} (h:SL f g args=some (v,true)):∃ my,bE E g args G (.ret v) my []:=by
 unfold SL at h
 split at h
 ·rename_i v1 H1 W hr
  simp only [bx,bG] at h
  obtain ⟨rfl,hw⟩:=h
  have c:bE E g args G (.ret v1) H1 W:=fun wf cu=>Pk (Eo Te f g args G _ _ _ hr wf cu)
  refine ⟨H1,c.norm fun q hq=>.inr ?_⟩
  have:=List.all_eq_true.1 hw q hq
  simp only [dI,Nat.blt_eq] at this
  have h1:=ec this.1
  rw [lq];omega
 ·cases h
abbrev jv (x:Int):Int:=IntKind.i64.wrap x
def jN (s:ByteArray) (i:Int):Option (Int×Int):=
 if i<s.size then if ac s i=92 then (if i+1<s.size then some (i+2,ac s (i+1)) else none) else if eS (ac s i) [93,91,94,45]=true then none else some (i+1,ac s i) else none
def ku (s:ByteArray) (i:Int):Option Int:=match jN s i with
 |none=>none
 |some (a,lo)=>if a<s.size∧eS (ac s a) [45]=true then (match jN s (a+1) with
  |none=>none
  |some (e,hi)=>if hi<lo then none else some e) else some a
section
variable {s:ByteArray} {i a e lo hi:Int}
theorem QA {c:Int} (h:jN s i=some (a,c)):i<a∧a≤s.size:=by
 unfold jN at h
 split at h
 ·split at h
  ·split at h
   ·injection h with h;injection h with h1 h2;omega
   ·cases h
  ·split at h
   ·cases h
   ·injection h with h;injection h with h1 h2;omega
 ·cases h
theorem aas (h:ku s i=some a):i<a∧a≤s.size:=by
 unfold ku at h
 split at h
 ·cases h
 ·rename_i h1
  have:=QA h1
  split at h
  ·split at h
   ·cases h
   ·rename_i h2
    have:=QA h2
    split at h
    ·cases h
    ·injection h with h;omega
  ·injection h with h;omega
theorem QC (h:¬ i<s.size):jN s i=none:=if_neg h
theorem QB (h:i<s.size) (hm:eS (ac s i) [93,91,94,45]=true):jN s i=none:=by
 rw [jN,if_pos h,if_neg (fun e=>by rw [e] at hm;exact absurd hm (by decide)),if_pos hm]
theorem QE (h:i<s.size) (hc:ac s i=92) (h2:¬ i+1<s.size):jN s i=none:=by rw [jN,if_pos h,if_pos hc,if_neg h2]
theorem QD (hc:ac s i=92) (h2:i+1<s.size):jN s i=some (i+2,ac s (i+1)):=by rw [jN,if_pos D,if_pos hc,if_pos h2]
theorem QF (h:i<s.size) (hm:¬ eS (ac s i) [93,91,94,45]=true) (hc:ac s i≠92):jN s i=some (i+1,ac s i):=by rw [jN,if_pos h,if_neg hc,if_neg hm]
theorem J3 (h:jN s i=none):ku s i=none:=by rw [ku,h]
theorem J4 (h:jN s i=some (a,lo)) (hm:¬ (a<s.size∧eS (ac s a) [45]=true)):ku s i=some a:=by rw [ku,h];exact if_neg hm
theorem J6 (h:jN s i=some (a,lo)) (h1:a<s.size) (hm:eS (ac s a) [45]=true) (h2:jN s (a+1)=none):ku s i=none:=by rw [ku,h];simp only [];rw [if_pos ⟨h1,hm⟩,h2]
theorem Fk (h:jN s i=some (a,lo)) (h1:a<s.size) (hm:eS (ac s a) [45]=true) (h2:jN s (a+1)=some (e,hi)) (h3:hi<lo):ku s i=none:=by rw [ku,h];simp only [];rw [if_pos ⟨h1,hm⟩,h2];exact if_pos h3
theorem J5 (h:jN s i=some (a,lo)) (h1:a<s.size) (hm:eS (ac s a) [45]=true) (h2:jN s (a+1)=some (e,hi)) (h3:¬ hi<lo):ku s i=some e:=by rw [ku,h];simp only [];rw [if_pos ⟨h1,hm⟩,h2];exact if_neg h3
end
def nU (s:ByteArray) (i:Int):Option Int:=
 if i<s.size∧eS (ac s i) [93]=true then some (i+1) else match h:ku s i with
 |none=>none
 |some a=>nU s a
termination_by ((s.size:Int)-i).toNat
decreasing_by have:=aas h;omega
theorem Oq {s:ByteArray} {i:Int} (h:i<s.size) (hm:eS (ac s i) [93]=true):nU s i=some (i+1):=by rw [nU,if_pos ⟨h,hm⟩]
theorem Ey {s:ByteArray} {i:Int} (hm:¬ (i<s.size∧eS (ac s i) [93]=true)) (h:ku s i=none):nU s i=none:=by
 rw [nU,if_neg hm];split
 ·rfl
 ·rename_i h2;rw [h] at h2;cases h2
theorem IH {s:ByteArray} {i a:Int} (hm:¬ (i<s.size∧eS (ac s i) [93]=true)) (h:ku s i=some a):nU s i=nU s a:=by
 rw [nU,if_neg hm];split
 ·rename_i h2;rw [h] at h2;cases h2
 ·rename_i h2;rw [h] at h2;injection h2 with h2;rw [h2]
def nT (s:ByteArray) (i:Int):Option Int:=match ku s (if i<s.size∧eS (ac s i) [94]=true then i+1 else i) with
 |none=>none
 |some a=>nU s a
theorem Om {s:ByteArray} {i j:Int} (hj:(if i<s.size∧eS (ac s i) [94]=true then i+1 else i)=j) (h:ku s j=none):nT s i=none:=by rw [nT,hj,h]
theorem On {s:ByteArray} {i j a:Int} (hj:(if i<s.size∧eS (ac s i) [94]=true then i+1 else i)=j) (h:ku s j=some a):nT s i=nU s a:=by rw [nT,hj,h]
def n7 (s:ByteArray) (i:Int):Int:=if h:i<s.size∧eS (ac s i) [42,43,63]=true then n7 s (i+1) else i
termination_by ((s.size:Int)-i).toNat
theorem GP {s:ByteArray} {i:Int} (h:i<s.size) (hm:eS (ac s i) [42,43,63]=true):n7 s i=n7 s (i+1):=by rw [n7,dif_pos ⟨h,hm⟩]
theorem Sr {s:ByteArray} {i:Int} (h:¬ (i<s.size∧eS (ac s i) [42,43,63]=true)):n7 s i=i:=by rw [n7,dif_neg h]
theorem L0 (s:ByteArray) (i:Int):i≤n7 s i∧(i≤s.size→n7 s i≤s.size):=by
 rw [n7]
 split
 ·rename_i h;have:=L0 s (i+1);omega
 ·omega
termination_by ((s.size:Int)-i).toNat
mutual
def nM (s:ByteArray) (i d:Int):Option (Int×Int):=match kN s i d with
 |none=>none
 |some (a,e)=>if h:i≤a then nN s a e else none
termination_by 8*((s.size:Int)-i).toNat+4
def nN (s:ByteArray) (i d:Int):Option (Int×Int):=if h:i<s.size∧eS (ac s i) [124]=true then (match kN s (i+1) d with
 |none=>none
 |some (a,e)=>if h:i<a then nN s a e else none) else some (i,d)
termination_by 8*((s.size:Int)-i).toNat+3
def kN (s:ByteArray) (i d:Int):Option (Int×Int):=if h:i<s.size∧¬ eS (ac s i) [124,41]=true then (match wu s i d with
 |none=>none
 |some (a,e)=>if h:i<a then kN s a e else none) else some (i,d)
termination_by 8*((s.size:Int)-i).toNat+3
def wu (s:ByteArray) (i d:Int):Option (Int×Int):=match kM s i d with
 |none=>none
 |some (a,e)=>some (n7 s a,e)
termination_by 8*((s.size:Int)-i).toNat+2
def kM (s:ByteArray) (i d:Int):Option (Int×Int):=if h:i<s.size then
 (if ac s i=40 then (if d=32 then none else match nM s (i+1) (jv (d+1)) with
  |none=>none
  |some (a,e)=>if a<s.size∧eS (ac s a) [41]=true then some (a+1,jv (e-1)) else none)
 else if ac s i=91 then (nT s (i+1)).map fun a=>(a,d)
 else if eS (ac s i) [41,93,123,125,94,36,124,42,43,63]=true then none
 else if ac s i=92 then (if i+1<s.size then some (i+2,d) else none) else some (i+1,d)) else none
termination_by 8*((s.size:Int)-i).toNat+1
end
section
variable {s:ByteArray} {i d a e:Int}
theorem NL (h:kN s i d=none):nM s i d=none:=by rw [nM,h]
theorem Eb (h:kN s i d=some (a,e)) (hl:i≤a):nM s i d=nN s a e:=by rw [nM,h];exact dif_pos hl
theorem D8 (h:¬ (i<s.size∧eS (ac s i) [124]=true)):nN s i d=some (i,d):=by rw [nN,dif_neg h]
theorem D9 (h:i<s.size) (hm:eS (ac s i) [124]=true) (h2:kN s (i+1) d=none):nN s i d=none:=by rw [nN,dif_pos ⟨h,hm⟩,h2]
theorem Ea (h:i<s.size) (hm:eS (ac s i) [124]=true) (h2:kN s (i+1) d=some (a,e)) (hl:i<a):nN s i d=nN s a e:=by rw [nN,dif_pos ⟨h,hm⟩,h2];exact dif_pos hl
theorem sq (h:¬ (i<s.size∧¬ eS (ac s i) [124,41]=true)):kN s i d=some (i,d):=by rw [kN,dif_neg h]
theorem Ep (h:i<s.size) (hm:¬ eS (ac s i) [124,41]=true) (h2:wu s i d=none):kN s i d=none:=by rw [kN,dif_pos ⟨h,hm⟩,h2]
theorem Er (h:i<s.size) (hm:¬ eS (ac s i) [124,41]=true) (h2:wu s i d=some (a,e)) (hl:i<a):kN s i d=kN s a e:=by rw [kN,dif_pos ⟨h,hm⟩,h2];exact dif_pos hl
theorem L1 (h:kM s i d=none):wu s i d=none:=by rw [wu,h]
theorem L2 (h:kM s i d=some (a,e)):wu s i d=some (n7 s a,e):=by rw [wu,h]
theorem NQ (h:i<s.size) (hc:ac s i=40) (hd:d=32):kM s i d=none:=by rw [kM,dif_pos h,if_pos hc,if_pos hd]
theorem NS (h:i<s.size) (hc:ac s i=40) (hd:d≠32) (h2:nM s (i+1) (jv (d+1))=none):kM s i d=none:=by rw [kM,dif_pos h,if_pos hc,if_neg hd,h2]
theorem NR (h:i<s.size) (hc:ac s i=40) (hd:d≠32) (h2:nM s (i+1) (jv (d+1))=some (a,e)) (hm:¬ (a<s.size∧eS (ac s a) [41]=true)):kM s i d=none:=by rw [kM,dif_pos h,if_pos hc,if_neg hd,h2];exact if_neg hm
theorem NT (h:i<s.size) (hc:ac s i=40) (hd:d≠32) (h2:nM s (i+1) (jv (d+1))=some (a,e)) (hl:a<s.size) (hm:eS (ac s a) [41]=true):kM s i d=some (a+1,jv (e-1)):=by rw [kM,dif_pos h,if_pos hc,if_neg hd,h2];exact if_pos ⟨hl,hm⟩
theorem Ec (h:i<s.size) (hc:ac s i=91):kM s i d=(nT s (i+1)).map fun a=>(a,d):=by rw [kM,dif_pos h,if_neg D,if_pos hc]
theorem NP (h:i<s.size) (h1:ac s i≠40) (h2:ac s i≠91) (hm:eS (ac s i) [41,93,123,125,94,36,124,42,43,63]=true):kM s i d=none:=by rw [kM,dif_pos h,if_neg h1,if_neg h2,if_pos hm]
theorem Ed (h:i<s.size) (hc:ac s i=92):kM s i d=if i+1<s.size then some (i+2,d) else none:=by rw [kM,dif_pos h,if_neg D,if_neg D,if_neg (by rw [hc];decide),if_pos hc]
theorem Ee (h:i<s.size) (h1:ac s i≠40) (h2:ac s i≠91) (hm:¬ eS (ac s i) [41,93,123,125,94,36,124,42,43,63]=true) (h3:ac s i≠92):kM s i d=some (i+1,d):=by rw [kM,dif_pos h,if_neg h1,if_neg h2,if_neg hm,if_neg h3]
end
def oR (s:ByteArray):Bool:=!decide ((s.size:Int)>200)&&(match nM s 0 0 with |some (a,_)=>!decide (a<(s.size:Int)) |none=>false)
theorem Mb {s:ByteArray} (h:nM s 0 0=none):oR s=false:=by rw [oR,h,Bool.and_false]
theorem SN {s:ByteArray} {a e:Int} (h:nM s 0 0=some (a,e)) (hl:a<s.size):oR s=false:=by rw [oR,h];simp only [decide_eq_true hl,Bool.not_true,Bool.and_false]
theorem SO {s:ByteArray} {a e:Int} (hs:¬ (s.size:Int)>200) (h:nM s 0 0=some (a,e)) (hl:¬ a<s.size):oR s=true:=by rw [oR,h];simp only [decide_eq_false hl,decide_eq_false hs,Bool.not_false,Bool.and_true]
def gO:Nat→Nat→Value
 |0,_=>.pointer none
 |_+1,b=>.pointer (some ⟨b,0,none⟩)
structure iH (xs:List Value):Prop where
 len:xs.length=258
 get:∀ i,2≤i→i<258→∃ b:Bool,xs[i]?=some (.bool b)
def mP (k i:Int):List Value:=.int .i64 k::.int .i64 i::List.replicate 256 (.bool false)
theorem iH.new (k i:Int):iH (mP k i):=⟨by unfold mP;rw [cj,cj,List.length_replicate],fun j h0 h1=>⟨false,by
 obtain ⟨j,rfl⟩:∃ k,j=k+2:=⟨j-2,D⟩
 simp only [mP,List.getElem?_cons_succ,List.getElem?_replicate]
 rw [if_pos D]⟩⟩
theorem iH.set {xs:List Value} (h:iH xs) (i:Nat) (hi:2≤i) (b:Bool):iH (xs.set i (.bool b)):=⟨by simp [h.len],fun j h0 h1=>by
 rw [List.getElem?_set]
 by_cases e:i=j
 ·subst e;exact ⟨b,by simp [h.len,h1]⟩
 ·rw [if_neg e];exact h.get j h0 h1⟩
theorem UE:E.agg 302=some false:=av
theorem aho:E.size 302=some 1:=av
theorem NB:E.agg 4=some false:=av
theorem TD:E.size 4=some 1:=av
theorem Rk {H:U} {a o:Nat} {xs:List Value} {kd:Value} (hl:iH xs) (g:H.get a=some (O (xs++[kd]) 305)) (h0:2≤o) (h1:o<258):∃ b:Bool,ay E 4 a o H=some (.bool b):=by
 obtain ⟨b,hb⟩:=hl.get o h0 h1
 exact ⟨b,d7 NB g (by rw [List.getElem?_append_left (by rw [hl.len];exact h1)];exact hb)⟩
section
variable {H:U} {a:Nat} {xs:List Value} {kd:Value} (hl:iH xs) (g:H.get a=some (.cells (xs++[kd]) 305 false))
include hl g
theorem wb:ay E 302 a 258 H=some kd:=d7 UE g (by
 have:=hl.len
 rw [List.getElem?_append_right D,this];rfl)
theorem we {x:Value} (hx:(Nat.beq x.cells.size 1&&x.cells.toList.all one)=true) (hc:x.cells.toList=[x]):bp E 302 a 258 x H=some (H.set a (O (xs++[x]) 305)):=st aho g (by
 have:Nat.ble (258+1) (xs++[kd]).length=true:=Nat.ble_eq_true_of_le (by simp [hl.len])
 rw [hx,this];rfl) (by
 have:=To xs [kd] 0 x
 rw [hl.len] at this
 rw [hc]
 exact this)
theorem xY {o:Nat} {x:Bool} (h0:2≤o) (h1:o<258):bp E 4 a o (.bool x) H=some (H.set a (O (xs.set o (.bool x)++[kd]) 305)):=st TD g (by
 have:Nat.ble (o+1) (xs++[kd]).length=true:=Nat.ble_eq_true_of_le (by simp [hl.len];omega)
 show (true&&_)=true
 rw [this];rfl) (by
 show splice (xs++[kd]) o [.bool x]=_
 rw [Hg _ _ _ (by simp [hl.len];omega),List.set_append_left _ _ (by rw [hl.len];exact h1)])
end
def oH (ps:List Nat):List Value:=ps.map fun b=>.pointer (some ⟨b,0,none⟩)
theorem Ch (ps:List Nat):(oH ps).length=ps.length:=by simp [oH]
theorem Fs (ps:List Nat) (b:Nat):((oH ps).drop 0).take (ps.length*1)++[Value.pointer (some ⟨b,0,none⟩)]=oH (ps++[b]):=by
 rw [List.drop_zero,List.take_of_length_le (by rw [Ch];omega)]
 simp [oH]
theorem Ft (ps:List Nat) (b:Nat):(ps++[b]).length=ps.length+1:=by simp
theorem mM {t kt ym:TypeId} {kd:TypeDesc} {H:U} {k ak:Nat} {l l':List df} {es es':List MapEntry} {key v:Value} (hu:E.ul t=some (.map kt ym)) (hk:E.ul kt=some kd) (hd:rL kd key=true) (hb:l[k]?=some (.map es ak)) (hp:rX key v ak es=some (es',true)) (hl:l.set k (.map es' (ak+1))=l') :
  jO E t (.map (some (H.n+k))) key v (news H l)=some (cZ,news H l',[H.n+k],[H.n+k]):=by
 simp only [jO,hu,hk,aL l H k _ hb,hd,cond_true,hp]
 rw [FO l H k _ (List.getElem?_eq_some_iff.1 hb).1,hl]
abbrev iu (s:ByteArray) (at_ dp nd:Int) (w:Value):List Value:=[.string s,.int .i64 at_,.int .i64 dp,.int .i64 nd,w]
abbrev fM (s:ByteArray) (at_ dp nd:Int) (w:Value):df:=.cells (iu s at_ dp nd w) 255 false
abbrev wT (s:ByteArray) (p:Nat) (at_ st:Int) (F:Option (Int×Int)) (v:Value) (H':U):Prop:=
 (∃(nb:Nat) (at' ED l8:Int),v=.pointer (some ⟨nb,0,none⟩)∧H'.get p=some (fM s at' ED l8 (.pointer none))∧F=some (at',ED)∧at_+st≤at'∧at'≤s.size)∨
 (∃(nb:Nat) (at' ED l8:Int) (wp':Nat),v=.pointer (some ⟨nb,0,none⟩)∧H'.get p=some (fM s at' ED l8 (.pointer (some ⟨wp',0,none⟩)))∧F=none∧at_≤at'∧at'≤s.size)
def se (s:ByteArray) (n:Nat):Prop:=∀(p:Nat) (at_ dp nd:Int) {H:U},aa E G H→H.get p=some (fM s at_ dp nd (.pointer none))→G.n≤p→(s.size:Int)<100000→0≤at_→at_≤s.size→((s.size:Int)-at_).toNat<n→
    aI E G 158 [.pointer (some ⟨p,0,none⟩)] H [p] (wT s p at_ 0 (nM s at_ dp))
def sf {α:Type} (w:Nat) (F R:Option α):Prop:=(w=0→F=R)∧(w=1→R=none)
theorem sf.go {α:Type} {F R:Option α} (h:F=R):sf 0 F R:=⟨fun _=>h,fun h=>absurd h (by decide)⟩
theorem sf.bad {α:Type} {F R:Option α} (h:R=none):sf 1 F R:=⟨fun h=>absurd h (by decide),fun _=>h⟩
theorem Ya:E.func 203=some Tryz.f203:=av
theorem Yb:Yc Tryz.f203 3=true:=av
theorem Au (p:Nat) (s:ByteArray) (at_:Int) (dp:Int) (nd:Int) (w:Nat) (wp:Nat) (k:Int) {H:U} (y:aa E G H) (kp:H.get p=some (fM s at_ dp nd (gO w wp))) (bY:G.n≤p) (hs:(s.size:Int)<100000) (a0:0≤at_) (a1:at_≤s.size) (hw:w=0∨w=1):aI E G 203 [pt p 0,J k,.slice none 0 0] H [p] (fun v H'=>∃ nb xs l8,v=pt nb 0∧iH xs∧H.n≤nb∧H'.get nb=some (O (xs++[.slice none 0 0]) 305)∧H'.get p=some (fM s at_ dp l8 (gO w wp))):=by
 refine br Tryz.f203 y ?_
 have gi:=y.wf.lt kp
 obtain ⟨aS,e1⟩:∃ ao,ao=H.set p (O (iu s at_ dp (IntKind.i64.wrap (nd+1)) (gO w wp)) 255):=⟨_,rfl⟩
 have y1:aa E G aS:=e1▸y.set _ D D
 have cI:aS.n=H.n+0:=by rw [e1,U.cB] <;> rfl
 have bV:=bC e1
 exact Z 4 (ag 3 aJ kp)<|aC 3 (stx 3 (J (IntKind.i64.wrap (nd+1))) dL kp e1)<|Z 4 (ag 3 aJ bV)<|aV 4 (pt (aS.n+0) 0) (news aS [O ((mP k (IntKind.i64.wrap (nd+1)))++[.slice none 0 0]) 305]) [p] bD bi ⟨_,_,_,rfl,iH.new _ _,D,aL [O ((mP k (IntKind.i64.wrap (nd+1)))++[.slice none 0 0]) 305] aS 0 _ rfl,y1.old bV [O ((mP k (IntKind.i64.wrap (nd+1)))++[.slice none 0 0]) 305]⟩
theorem SR (p:Nat) (s:ByteArray) (at_:Int) (dp:Int) (nd:Int) (w:Nat) (wp:Nat) (k:Int) (r:Nat) {H:U} (y:aa E G H) (kp:H.get p=some (fM s at_ dp nd (gO w wp))) (bY:G.n≤p) (hs:(s.size:Int)<100000) (a0:0≤at_) (a1:at_≤s.size) (hw:w=0∨w=1):aI E G 203 [pt p 0,J k,sc r 0 1 3] H [p] (fun v H'=>∃ nb xs l8,v=pt nb 0∧iH xs∧H.n≤nb∧H'.get nb=some (O (xs++[sc r 0 1 3]) 305)∧H'.get p=some (fM s at_ dp l8 (gO w wp))):=by
 refine br Tryz.f203 y ?_
 have gi:=y.wf.lt kp
 obtain ⟨aS,e1⟩:∃ ao,ao=H.set p (O (iu s at_ dp (IntKind.i64.wrap (nd+1)) (gO w wp)) 255):=⟨_,rfl⟩
 have y1:aa E G aS:=e1▸y.set _ D D
 have cI:aS.n=H.n+0:=by rw [e1,U.cB] <;> rfl
 have bV:=bC e1
 exact Z 4 (ag 3 aJ kp)<|aC 3 (stx 3 (J (IntKind.i64.wrap (nd+1))) dL kp e1)<|Z 4 (ag 3 aJ bV)<|aV 4 (pt (aS.n+0) 0) (news aS [O ((mP k (IntKind.i64.wrap (nd+1)))++[sc r 0 1 3]) 305]) [p] bD bi ⟨_,_,_,rfl,iH.new _ _,D,aL [O ((mP k (IntKind.i64.wrap (nd+1)))++[sc r 0 1 3]) 305] aS 0 _ rfl,y1.old bV [O ((mP k (IntKind.i64.wrap (nd+1)))++[sc r 0 1 3]) 305]⟩
theorem q2 (p:Nat) (s:ByteArray) (at_:Int) (dp:Int) (nd:Int) (w:Nat) (wp:Nat) (k:Int) {H:U} (y:aa E G H) (kp:H.get p=some (fM s at_ dp nd (gO w wp))) (bY:G.n≤p) (hs:(s.size:Int)<100000) (a0:0≤at_) (a1:at_≤s.size) (hw:w=0∨w=1):aI E G 159 [pt p 0,.iface 40 (J k)] H [p] (fun v H'=>∃ nb l8 wp',v=pt nb 0∧H'.get p=some (fM s at_ dp l8 (pt wp' 0))):=by
 refine br Tryz.f159 y ?_
 have gi:=y.wf.lt kp
 refine Z 4 (ag 4 jY kp)<|?_
 rcases hw with rfl |rfl
 ·obtain ⟨aS,e1⟩:∃ ao,ao=(news H [O [J at_,.iface 40 (J k)] 195]).set p (O (iu s at_ dp nd (pt (H.n+0) 0)) 255):=⟨_,rfl⟩
  have y1:aa E G aS:=e1▸(y.news [O [J at_,.iface 40 (J k)] 195]).set _ D (by rw [bU];simp only [cj,cF];omega)
  have cI:aS.n=H.n+1:=by rw [e1,U.cB,bU] <;> rfl
  have bV:=bC e1
  obtain ⟨_,H2,c2,ar,ah,cA,wL,ji,rfl,wd,zD,sR,eX⟩:=Au p s at_ dp nd 1 (H.n+0) 2 y1 bV D hs D D D
  exact Z 5 (ag 1 aJ kp)<|aC 5 (stx 4 (pt (H.n+0) 0) ahm (y.old kp [O [J at_,.iface 40 (J k)] 195]) e1)<|ad 1 c2<|aV 1 (pt cA 0) H2 [p,p] bD bi ⟨_,_,H.n+0,rfl,eX⟩
 obtain ⟨_,H1,c1,af,y1,cW,uR,hY,rfl,uq,Fa,qd,dV⟩:=Au p s at_ dp nd 1 wp 2 y kp D hs D D D
 exact ad 2 c1<|aV 1 (pt cW 0) H1 [p] bD bi ⟨_,_,wp,rfl,dV⟩
theorem tc (p:Nat) (s:ByteArray) (at_:Int) (dp:Int) (nd:Int) (t:ByteArray) {H:U} (y:aa E G H) (kp:H.get p=some (fM s at_ dp nd (.pointer none))) (bY:G.n≤p) (hs:(s.size:Int)<100000) (a0:0≤at_) (a1:at_≤s.size):aI E G 205 [pt p 0,.string t] H [] (fun v H'=>(v=Y∧¬ (at_<s.size∧sU t (ac s at_)=true))∨(v=aN∧at_<s.size∧sU t (ac s at_)=true)):=by
 refine br Tryz.f205 y ?_
 rcases ep (decide (at_<(s.size:Int))) with h1 |h1
 ·have q1:=gb h1
  rcases ep (decide ((mE t (ac s at_))≥0)) with h2 |h2
  ·exact aK [aB 0]<|Z 3 (ag 4 jY kp)<|Z 5 (ag 1 aJ kp)<|Z 3 (ag 0 ct kp)<|aH 1 h1<|Z 6 (ag 0 ct kp)<|Z 3 (ag 1 aJ kp)<|bR 0 at_ (s.size:Int)<|ad 0 (indexByte t (ac s at_) y)<|aH 0 h2<|al 2 aN H (.inr ⟨rfl,D,(B9 (gG _ _) (jK _ _)).symm.trans h2⟩)
  exact aK [aB 0]<|Z 3 (ag 4 jY kp)<|Z 5 (ag 1 aJ kp)<|Z 3 (ag 0 ct kp)<|aH 1 h1<|Z 6 (ag 0 ct kp)<|Z 3 (ag 1 aJ kp)<|bR 0 at_ (s.size:Int)<|ad 0 (indexByte t (ac s at_) y)<|aH 0 h2<|al 2 Y H (.inl ⟨rfl,fun h=>by rw [(B9 (gG _ _) (jK _ _)).symm.trans h2] at h;exact absurd h.2 (by decide)⟩)
 have q1:=gl h1
 exact aK [aB 0]<|Z 3 (ag 4 jY kp)<|Z 5 (ag 1 aJ kp)<|Z 3 (ag 0 ct kp)<|aH 1 h1<|al 4 Y H (.inl ⟨rfl,fun h=>by omega⟩)
theorem G3 (p:Nat) (s:ByteArray) (at_:Int) (dp:Int) (nd:Int) (wp:Nat) (t:ByteArray) {H:U} (y:aa E G H) (kp:H.get p=some (fM s at_ dp nd (pt wp 0))) (bY:G.n≤p) (hs:(s.size:Int)<100000) (a0:0≤at_) (a1:at_≤s.size):aI E G 205 [pt p 0,.string t] H [] (fun v H'=>v=Y):=by
 refine br Tryz.f205 y ?_
 exact aK [aB 0]<|Z 3 (ag 4 jY kp)<|al 6 Y H rfl
theorem Me (p:Nat) (s:ByteArray) (at_:Int) (dp:Int) (nd:Int) {H:U} (y:aa E G H) (kp:H.get p=some (fM s at_ dp nd (.pointer none))) (bY:G.n≤p) (hs:(s.size:Int)<100000) (a0:0≤at_) (a1:at_≤s.size):aI E G 275 [pt p 0] H [p] (fun v H'=>(v=.tuple #[ab 0,Y]∧at_=s.size∧H'.get p=some (fM s at_ dp nd (.pointer none)))∨(v=.tuple #[ab (ac s at_),aN]∧at_<s.size∧H'.get p=some (fM s (at_+1) dp nd (.pointer none)))):=by
 refine br Tryz.f275 y ?_
 have gi:=y.wf.lt kp
 rcases ep (at_==(s.size:Int)) with h1 |h1
 ·have q1:=pu h1
  exact aK [aB 1]<|Z 3 (ag 1 aJ kp)<|Z 3 (ag 0 ct kp)<|aH 1 h1<|aV 2 (.tuple #[ab 0,Y]) H [] aZ bi (.inl ⟨rfl,D,kp⟩)
 have q1:=sX h1
 obtain ⟨aS,e1⟩:∃ ao,ao=H.set p (O (iu s (at_+1) dp nd (.pointer none)) 255):=⟨_,rfl⟩
 have y1:aa E G aS:=e1▸y.set _ D D
 have bV:=bC e1
 exact aK [aB 1]<|Z 3 (ag 1 aJ kp)<|Z 3 (ag 0 ct kp)<|aH 1 h1<|Z 3 (ag 1 aJ kp)<|ap 0 (at_+1)<|aC 2 (stx 1 (J (at_+1)) dL kp e1)<|Z 3 (ag 0 ct bV)<|Z 3 (ag 1 aJ bV)<|ap 0 ((at_+1)-1)<|bR 0 ((at_+1)-1) (s.size:Int)<|aV 2 (.tuple #[ab (ac s ((at_+1)-1)),aN]) aS [p] bD bi (.inr ⟨by rw [show at_+1-1=at_ by omega],D,bV⟩)
theorem SP (p:Nat) (s:ByteArray) (at_:Int) (dp:Int) (nd:Int) {H:U} (y:aa E G H) (kp:H.get p=some (fM s at_ dp nd (.pointer none))) (bY:G.n≤p) (hs:(s.size:Int)<100000) (a0:0≤at_) (a1:at_≤s.size):aI E G 295 [pt p 0] H [p] (fun v H'=>(∃(at' l8:Int) (wp':Nat),v=.tuple #[ab 0,Y]∧H'.get p=some (fM s at' dp l8 (pt wp' 0))∧jN s at_=none∧at_≤at'∧at'≤s.size)∨(∃ c at':Int,v=.tuple #[ab c,aN]∧H'.get p=some (fM s at' dp nd (.pointer none))∧jN s at_=some (at',c)∧0≤c∧c<256∧at_<at'∧at'≤s.size)):=by
 refine br Tryz.f295 y ?_
 rcases ep (at_==(s.size:Int)) with h1 |h1
 ·have q1:=pu h1
  obtain ⟨_,H1,c1,af,y1,cW,hY,nD,rfl,dV⟩:=q2 p s at_ dp nd 0 0 2 y kp D hs D D D
  exact aK [aB 1]<|Z 3 (ag 1 aJ kp)<|Z 3 (ag 0 ct kp)<|aH 1 h1<|ad 4 c1<|aV 2 (.tuple #[ab 0,Y]) H1 [p] bD bi (.inl ⟨at_,hY,nD,rfl,dV,QC D,D,D⟩)
 have q1:=sX h1
 obtain ⟨_,H1,c1,af,y1,b7⟩:=tc p s at_ dp nd ⟨#[93,91,94,45]⟩ y kp D hs D D
 rcases b7 with ⟨rfl,nY⟩ |⟨rfl,pC,oA⟩
 ·have bV:=y.kept af ai kp
  obtain ⟨_,H2,c2,ar,ah,dC⟩:=Me p s at_ dp nd y1 bV D hs D D
  refine aK [aB 1]<|Z 3 (ag 1 aJ kp)<|Z 3 (ag 0 ct kp)<|aH 1 h1<|ad 2 c1<|?_
  rcases dC with ⟨rfl,Q0,eX⟩ |⟨rfl,ady,eX⟩
  ·exact ad 2 c2<|aV 10 (.tuple #[ab 0,aN]) H2 [p] bD bi (absurd Q0 D)
  refine ad 2 c2<|cS 6 (ac s at_) 92 ?_ ?_ <;> intro h4 dT
  ·obtain ⟨_,H3,c3,aW,az,fo⟩:=Me p s (at_+1) dp nd ah eX D hs D D
   rcases fo with ⟨rfl,akH,e6⟩ |⟨rfl,akJ,e6⟩
   ·obtain ⟨_,H4,cY,c4,bz,akG,xV,DM,rfl,kS⟩:=q2 p s (at_+1) dp nd 0 0 2 az e6 D hs D D D
    exact ad 1 c3<|ad 9 cY<|aV 4 (.tuple #[ab 0,Y]) H4 [p,p,p] bD bi (.inl ⟨at_+1,xV,DM,rfl,kS,QE D D D,D,D⟩)
   exact ad 1 c3<|aV 11 (.tuple #[ab (ac s (at_+1)),aN]) H3 [p,p] bD bi (.inr ⟨_,at_+2,rfl,(by rw [show at_+2=at_+1+1 by omega];exact e6),QD D D,gG _ _,jK _ _,D,D⟩)
  exact aV 3 (.tuple #[ab (ac s at_),aN]) H2 [p] bD bi (.inr ⟨_,at_+1,rfl,eX,QF D (fun h=>nY ⟨D,h⟩) D,gG _ _,jK _ _,D,D⟩)
 have bV:=y.kept af ai kp
 obtain ⟨_,H2,c2,ar,ah,cA,ji,qs,rfl,eX⟩:=q2 p s at_ dp nd 0 0 2 y1 bV D hs D D D
 exact aK [aB 1]<|Z 3 (ag 1 aJ kp)<|Z 3 (ag 0 ct kp)<|aH 1 h1<|ad 2 c1<|ad 3 c2<|aV 2 (.tuple #[ab 0,Y]) H2 [p] bD bi (.inl ⟨at_,ji,qs,rfl,eX,QB pC oA,D,D⟩)
theorem agm (p:Nat) (s:ByteArray) (at_:Int) (dp:Int) (nd:Int) (f:Int) {H:U} (y:aa E G H) (kp:H.get p=some (fM s at_ dp nd (.pointer none))) (bY:G.n≤p) (hs:(s.size:Int)<100000) (a0:0≤at_) (a1:at_≤s.size) (f0:0≤f) (f1:f<s.size):aI E G 296 [pt p 0,J f] H [] (fun v H'=>v=J f∨v=J (f+1)):=by
 refine br Tryz.f296 y ?_
 refine Z 4 (ag 0 ct kp)<|bR 1 f (s.size:Int)<|cS 0 (ac s f) 92 ?_ ?_ <;> intro h1 q1
 ·exact ap 1 (f+1)<|al 1 (J (f+1)) H (.inr rfl)
 exact al 2 (J f) H (.inl rfl)
noncomputable def Vz:Code:=cN [1,1,0,1,0,0] (cH Tryz.f274)
theorem UN (nb:Nat):∀(m:Nat) (jb:Int) (xs:List Value) (H:U),aa E G H→(fe:H.get nb=some (O (xs++[.slice none 0 0]) 305))→(np:iH xs)→(x0:0≤jb)→(x1:jb≤256)→(gn:G.n≤nb)→(256-jb).toNat=m→
  cy E G 17 Vz [(3,pt nb 0),(7,J jb)] H [nb] (fun x T H'=>(x=(.exit 0)∧T=bl [(3,pt nb 0)])):=by
 refine d8 fun m ih=>?_
 intro jb xs H y fe np x0 x1 gn hm
 refine c9 y ?_
 have rO:=y.wf.lt fe
 refine aO 0 (jb<256) ?_ ?_ <;> intro h1 q1
 ·obtain ⟨aS,e1⟩:∃ ao,ao=H.set nb (O ((xs.set (2+jb.toNat*1) aN)++[.slice none 0 0]) 305):=⟨_,rfl⟩
  have y1:aa E G aS:=e1▸y.set _ D D
  have cK:=bC e1
  exact bR 6 jb (256:Int)<|aC 0 (te (xY np fe D D) e1)<|ap 0 (jb+1)<|dY 1 [(3,pt nb 0),(7,J (jb+1))] aS [nb] bD (ih _ D (jb+1) (xs.set (2+jb.toNat*1) aN) _ y1 cK (iH.set np (2+jb.toNat*1) D true) D D gn rfl)
 exact en 0 [(3,pt nb 0)] (.exit 0) H [] aZ bi ⟨rfl,rfl⟩
theorem agi (p:Nat) (s:ByteArray) (at_:Int) (dp:Int) (nd:Int) {H:U} (y:aa E G H) (kp:H.get p=some (fM s at_ dp nd (.pointer none))) (bY:G.n≤p) (hs:(s.size:Int)<100000) (a0:0≤at_) (a1:at_≤s.size):aI E G 274 [pt p 0] H [p] (fun v H'=>∃ nb l8,v=pt nb 0∧H'.get p=some (fM s at_ dp l8 (.pointer none))):=by
 refine br Tryz.f274 y ?_
 have gi:=y.wf.lt kp
 obtain ⟨_,H1,c1,af,y1,cW,uR,hY,rfl,uq,Fa,qd,dV⟩:=Au p s at_ dp nd 0 0 1 y kp D hs D D D
 have KO:=y1.wf.lt qd
 obtain ⟨_,_,H2,c2,ar,ah,rfl,rfl⟩:=(UN cW _ 0 uR _ y1 qd uq D D D rfl).code
 have cl:H1.n+0≤H2.n:=ar.n
 have cP:=y1.kept ar bB dV
 exact ad 2 c1<|bW 2 c2<|aV 2 (pt cW 0) H2 [p,cW] aQ bi ⟨_,_,rfl,cP⟩
theorem SS (p:Nat) (s:ByteArray) (at_:Int) (dp:Int) (nd:Int) (c:Int) {H:U} (y:aa E G H) (kp:H.get p=some (fM s at_ dp nd (.pointer none))) (bY:G.n≤p) (hs:(s.size:Int)<100000) (a0:0≤at_) (a1:at_≤s.size) (c0:0≤c) (c1:c<256):aI E G 276 [pt p 0,ab c] H [p] (fun v H'=>∃ nb l8,v=pt nb 0∧H'.get p=some (fM s at_ dp l8 (.pointer none))):=by
 refine br Tryz.f276 y ?_
 have gi:=y.wf.lt kp
 obtain ⟨_,H1,c1,af,y1,cW,uR,hY,rfl,uq,Fa,qd,dV⟩:=Au p s at_ dp nd 0 0 1 y kp D hs D D D
 have KO:=y1.wf.lt qd
 obtain ⟨aF,e2⟩:∃ ao,ao=H1.set cW (O ((uR.set (2+c.toNat*1) aN)++[.slice none 0 0]) 305):=⟨_,rfl⟩
 have ah:aa E G aF:=e2▸y1.set _ D D
 have cl:aF.n=H1.n+0:=by rw [e2,U.cB] <;> rfl
 have cP:=bu e2 D dV
 exact ad 2 c1<|bR 5 c (256:Int)<|aC 0 (te (xY uq qd D D) e2)<|aV 2 (pt cW 0) aF [p,cW] aQ bi ⟨_,_,rfl,cP⟩
noncomputable def V9:Code:=cN [1,1,1,1,0,0] (cH Tryz.f286)
theorem Fj (nb:Nat) (hi:Int):∀(m:Nat) (cx:Int) (xs:List Value) (H:U),aa E G H→(fe:H.get nb=some (O (xs++[.slice none 0 0]) 305))→(np:iH xs)→(x0:0≤cx)→(hi0:0≤hi)→(hi1:hi<256)→(gn:G.n≤nb)→(256-cx).toNat=m→
  cy E G 67 V9 [(1,pt nb 0),(5,aN),(6,ab hi),(8,J cx)] H [nb] (fun x T H'=>(x=(.exit 0)∧∃(pU:List Value),T=bl []∧(iH pU∧H'.get nb=some (O (pU++[.slice none 0 0]) 305)))):=by
 refine d8 fun m ih=>?_
 intro cx xs H y fe np x0 hi0 hi1 gn hm
 refine c9 y ?_
 have rO:=y.wf.lt fe
 refine ap 4 hi<|aO 0 (cx≤hi) ?_ ?_ <;> intro h1 q1
 ·obtain ⟨aS,e1⟩:∃ ao,ao=H.set nb (O ((xs.set (2+cx.toNat*1) aN)++[.slice none 0 0]) 305):=⟨_,rfl⟩
  have y1:aa E G aS:=e1▸y.set _ D D
  have cK:=bC e1
  exact bR 5 cx (256:Int)<|aC 0 (te (xY np fe D D) e1)<|ap 1 (cx+1)<|dY 1 [(1,pt nb 0),(5,aN),(6,ab hi),(8,J (cx+1))] aS [nb] bD (ih _ D (cx+1) (xs.set (2+cx.toNat*1) aN) _ y1 cK (iH.set np (2+cx.toNat*1) D true) D hi0 hi1 gn rfl)
 exact en 1 [] (.exit 0) H [] aZ bi ⟨rfl,xs,rfl,⟨np,fe⟩⟩
noncomputable def V8:Code:=cN [1,1,1,1,0,0] (cH Tryz.f286)
theorem PV (nb:Nat) (hi:Int) (x:Int)  {H:U} (y:aa E G H):cy E G 67 V8 [(1,pt nb 0),(5,Y),(6,ab hi),(8,J x)] H [] (fun x T H'=>(x=(.exit 0)∧T=bl [])):=by
 refine c9 y ?_
 exact dF 3 [] (.exit 0) H ⟨rfl,rfl⟩
theorem Md (p:Nat) (s:ByteArray) (at_:Int) (dp:Int) (nd:Int) (nb:Nat) (xs:List Value) {H:U} (y:aa E G H) (kp:H.get p=some (fM s at_ dp nd (.pointer none))) (bY:G.n≤p) (hs:(s.size:Int)<100000) (a0:0≤at_) (a1:at_≤s.size) (fe:H.get nb=some (O (xs++[.slice none 0 0]) 305)) (np:iH xs) (gn:G.n≤nb) (lx:p≠nb):aI E G 286 [pt p 0,pt nb 0] H [p,nb] (fun v H'=>(∃(xs':List Value) (at' l8:Int),v=cZ∧iH xs'∧H'.get nb=some (O (xs'++[.slice none 0 0]) 305)∧H'.get p=some (fM s at' dp l8 (.pointer none))∧ku s at_=some at'∧at_<at'∧at'≤s.size)∨(∃(xs':List Value) (at' l8:Int) (wp':Nat),v=cZ∧iH xs'∧H'.get nb=some (O (xs'++[.slice none 0 0]) 305)∧H'.get p=some (fM s at' dp l8 (pt wp' 0))∧ku s at_=none∧at_≤at'∧at'≤s.size)):=by
 refine br Tryz.f286 y ?_
 have gi:=y.wf.lt kp
 obtain ⟨_,H1,c1,af,y1,b7⟩:=SP p s at_ dp nd y kp D hs D D
 rcases b7 with ⟨dH,hY,nD,rfl,dV,dR,g9,cq⟩ |⟨qA,dH,rfl,dV,dR,aji,ajj,g9,cq⟩
 ·obtain ⟨_,_,H2,c2,ar,ah,rfl,rfl⟩:=(PV nb 0 0 y1).code
  have cK:=y.kept af bB fe
  have dS:=y1.kept ar ai cK
  have cP:=y1.kept ar ai dV
  exact ad 1 c1<|bW 13 c2<|aV 0 (.tuple #[]) H2 [p] bD bi (.inr ⟨_,dH,hY,nD,rfl,np,dS,cP,J3 dR,D,D⟩)
 have cI:H.n+0≤H1.n:=af.n
 obtain ⟨_,H2,c2,ar,ah,dC⟩:=tc p s dH dp nd ⟨#[45]⟩ y1 dV D hs D D
 refine ad 1 c1<|?_
 rcases dC with ⟨rfl,E9⟩ |⟨rfl,xw,xx⟩
 ·have cK:=y.kept af bB fe
  have dS:=y1.kept ar ai cK
  obtain ⟨_,_,H3,c3,aW,az,rfl,AY,rfl,adE,abK⟩:=(Fj nb qA _ qA xs _ ah dS np D D D D rfl).code
  have cP:=y1.kept ar ai dV
  have eF:=ah.kept aW bB cP
  exact ad 10 c2<|ap 2 qA<|bW 1 c3<|aV 0 (.tuple #[]) H3 [p,nb] bD bi (.inl ⟨_,dH,nd,rfl,adE,abK,eF,J4 dR E9,D,D⟩)
 have cl:H1.n+0≤H2.n:=ar.n
 have cP:=y1.kept ar ai dV
 obtain ⟨bk,aM⟩:∃ ao,ao=H2.set p (O (iu s (dH+1) dp nd (.pointer none)) 255):=⟨_,rfl⟩
 have az:aa E G bk:=aM▸ah.set _ D D
 have dD:bk.n=H2.n+0:=by rw [aM,U.cB] <;> rfl
 have eF:=bC aM
 obtain ⟨_,H4,cY,c4,bz,nv⟩:=SP p s (dH+1) dp nd az eF D hs D D
 refine ad 10 c2<|Z 4 (ag 1 aJ cP)<|ap 0 (dH+1)<|aC 2 (stx 1 (J (dH+1)) dL cP aM)<|Z 3 (ag 1 aJ eF)<|?_
 rcases nv with ⟨kL,xV,DM,rfl,kS,pB,BB,pA⟩ |⟨Ei,kL,rfl,kS,pB,Ef,Eh,BB,pA⟩
 ·obtain ⟨_,_,H5,dz,cV,cG,rfl,rfl⟩:=(PV nb 0 qA bz).code
  have cK:=y.kept af bB fe
  have dS:=y1.kept ar ai cK
  have d6:=bu aM D dS
  have eZ:=az.kept c4 bB d6
  have iN:=bz.kept cV ai eZ
  have eR:=bz.kept cV ai kS
  exact ad 2 cY<|ap 9 qA<|bW 1 dz<|aV 0 (.tuple #[]) H5 [p,p,p] bD bi (.inr ⟨_,kL,xV,DM,rfl,np,iN,eR,J6 dR xw xx pB,D,D⟩)
 have fB:bk.n+0≤H4.n:=c4.n
 refine ad 2 cY<|aO 9 (Ei<qA) ?_ ?_ <;> intro h4 dT
 ·obtain ⟨_,H5,dz,cV,cG,oN⟩:=agm p s kL dp nd (dH+1) bz kS D hs D D D D
  rcases oN with rfl |rfl
  ·have gk:H4.n+0≤H5.n:=cV.n
   have eR:=bz.kept cV ai kS
   obtain ⟨dW,dO⟩:∃ ao,ao=H5.set p (O (iu s (dH+1) dp nd (.pointer none)) 255):=⟨_,rfl⟩
   have ea:aa E G dW:=dO▸cG.set _ D D
   have hC:=bC dO
   obtain ⟨_,iy,kn,iF,gC,adp,KZ,M2,rfl,Kt⟩:=q2 p s (dH+1) dp nd 0 0 2 ea hC D hs D D D
   have cK:=y.kept af bB fe
   have dS:=y1.kept ar ai cK
   have d6:=bu aM D dS
   have eZ:=az.kept c4 bB d6
   have iN:=bz.kept cV ai eZ
   have qK:=bu dO D iN
   have vJ:=ea.kept iF bB qK
   obtain ⟨_,_,jT,m7,kI,kY,rfl,Nk,rfl,Lf,Kr⟩:=(Fj nb Ei _ qA xs _ gC vJ np D D D D rfl).code
   have Cf:=gC.kept kI bB Kt
   exact ad 4 dz<|aC 2 (stx 1 (J (dH+1)) dL eR dO)<|ad 2 kn<|ap 1 qA<|bW 1 m7<|aV 0 (.tuple #[]) jT [p,p,p,p,p,nb] bD bi (.inr ⟨_,dH+1,KZ,M2,rfl,Lf,Kr,Cf,Fk dR xw xx pB D,D,D⟩)
  have gk:H4.n+0≤H5.n:=cV.n
  have eR:=bz.kept cV ai kS
  obtain ⟨dW,dO⟩:∃ ao,ao=H5.set p (O (iu s ((dH+1)+1) dp nd (.pointer none)) 255):=⟨_,rfl⟩
  have ea:aa E G dW:=dO▸cG.set _ D D
  have hC:=bC dO
  obtain ⟨_,iy,kn,iF,gC,adp,KZ,M2,rfl,Kt⟩:=q2 p s ((dH+1)+1) dp nd 0 0 2 ea hC D hs D D D
  have cK:=y.kept af bB fe
  have dS:=y1.kept ar ai cK
  have d6:=bu aM D dS
  have eZ:=az.kept c4 bB d6
  have iN:=bz.kept cV ai eZ
  have qK:=bu dO D iN
  have vJ:=ea.kept iF bB qK
  obtain ⟨_,_,jT,m7,kI,kY,rfl,Nk,rfl,Lf,Kr⟩:=(Fj nb Ei _ qA xs _ gC vJ np D D D D rfl).code
  have Cf:=gC.kept kI bB Kt
  exact ad 4 dz<|aC 2 (stx 1 (J ((dH+1)+1)) dL eR dO)<|ad 2 kn<|ap 1 qA<|bW 1 m7<|aV 0 (.tuple #[]) jT [p,p,p,p,p,nb] bD bi (.inr ⟨_,(dH+1)+1,KZ,M2,rfl,Lf,Kr,Cf,Fk dR xw xx pB D,D,D⟩)
 have cK:=y.kept af bB fe
 have dS:=y1.kept ar ai cK
 have d6:=bu aM D dS
 have eZ:=az.kept c4 bB d6
 obtain ⟨_,_,H5,dz,cV,cG,rfl,tw,rfl,xX,xM⟩:=(Fj nb Ei _ qA xs _ bz eZ np D D D D rfl).code
 have eR:=bz.kept cV bB kS
 exact ap 2 qA<|bW 1 dz<|aV 0 (.tuple #[]) H5 [p,p,p,nb] bD bi (.inl ⟨_,kL,nd,rfl,xX,xM,eR,J5 dR xw xx pB D,D,D⟩)
noncomputable def VM:Code:=cN [1,1,1,1,1,0,0,0] (cH Tryz.f273)
theorem Ev (p:Nat) (nb:Nat) (s:ByteArray) (dp:Int) (eN:Int) (fm:Bool) (R:Option Int):∀(m:Nat) (at_:Int) (nd:Int) (w:Nat) (wp:Nat) (xs:List Value) (H:U),aa E G H→(kp:H.get p=some (O (iu s at_ dp nd (gO w wp)) 255))→(fe:H.get nb=some (O (xs++[.slice none 0 0]) 305))→(hs:(s.size:Int)<100000)→(bY:G.n≤p)→(gn:G.n≤nb)→(lx:p≠nb)→(b0:0≤eN)→(b1:eN≤at_)→(a1:at_≤s.size)→(hw:w=0∨w=1)→(np:iH xs)→(hR:sf w (nU s at_) R)→2*((s.size:Int)-at_).toNat+(1-w)=m→
  cy E G 64 VM [(0,pt p 0),(3,pt nb 0),(4,.bool fm)] H [p,nb] (fun x T H'=>(x=(.exit 0)∧∃(eJ qu:Int) (hJ sd:Nat) (pU:List Value),T=bl [(0,pt p 0),(3,pt nb 0),(4,.bool fm)]∧(H'.get p=some (fM s eJ dp qu (gO hJ sd))∧iH pU∧H'.get nb=some (O (pU++[.slice none 0 0]) 305)∧eN≤eJ∧eJ≤s.size∧(hJ=0∨hJ=1)∧(hJ=0→R=some (eJ+1)∧eJ<s.size)∧(hJ=1→R=none)))):=by
 refine d8 fun m ih=>?_
 intro at_ nd w wp xs H y kp fe hs bY gn lx b0 b1 a1 hw np hR hm
 refine c9 y ?_
 refine Z 3 (ag 4 jY kp)<|?_
 rcases hw with rfl |rfl
 ·obtain ⟨_,H1,c1,af,y1,b7⟩:=tc p s at_ dp nd ⟨#[93]⟩ y kp D hs D D
  rcases b7 with ⟨rfl,nY⟩ |⟨rfl,pC,oA⟩
  ·have bV:=y.kept af ai kp
   have cK:=y.kept af ai fe
   obtain ⟨_,H2,c2,ar,ah,dC⟩:=Md p s at_ dp nd nb xs y1 bV D hs D D cK np D D
   refine ad 3 c1<|?_
   rcases dC with ⟨wL,gv,ji,rfl,wd,sR,eX,gy,k8,cJ⟩ |⟨wL,gv,ji,qs,rfl,wd,sR,eX,gy,k8,cJ⟩
   ·exact ad 4 c2<|dY 0 [(0,pt p 0),(3,pt nb 0),(4,.bool fm)] H2 [p,nb] bD (ih _ D gv ji 0 0 wL _ ah eX sR hs bY gn lx b0 D D D wd (.go ((IH nY gy).symm.trans (hR.1 rfl))) rfl)
   exact ad 4 c2<|dY 0 [(0,pt p 0),(3,pt nb 0),(4,.bool fm)] H2 [p,nb] bD (ih _ D gv ji 1 qs wL _ ah eX sR hs bY gn lx b0 D D D wd (.bad ((hR.1 rfl).symm.trans (Ey nY gy))) rfl)
  have bV:=y.kept af ai kp
  have cK:=y.kept af ai fe
  exact ad 3 c1<|en 2 [(0,pt p 0),(3,pt nb 0),(4,.bool fm)] (.exit 0) H1 [] aZ bi ⟨rfl,at_,nd,0,wp,xs,rfl,⟨bV,np,cK,D,D,D,⟨fun _=>⟨(hR.1 rfl).symm.trans (Oq pC oA),pC⟩,fun h=>absurd h (by decide)⟩⟩⟩
 exact en 3 [(0,pt p 0),(3,pt nb 0),(4,.bool fm)] (.exit 0) H [] aZ bi ⟨rfl,at_,nd,1,wp,xs,rfl,⟨kp,np,fe,D,D,D,⟨fun h=>absurd h (by decide),fun _=>hR.2 rfl⟩⟩⟩
noncomputable def VO:Code:=cN [1,1,1,1,1,1,1,0,1,0,0] (cH Tryz.f273)
theorem Ex (nb:Nat):∀(m:Nat) (fN:Int) (xs:List Value) (H:U),aa E G H→(fe:H.get nb=some (O (xs++[.slice none 0 0]) 305))→(np:iH xs)→(x0:0≤fN)→(x1:fN≤256)→(gn:G.n≤nb)→(256-fN).toNat=m→
  cy E G 64 VO [(3,pt nb 0),(4,aN),(46,J fN)] H [nb] (fun x T H'=>(x=(.exit 2)∧T=bl [(3,pt nb 0)])):=by
 refine d8 fun m ih=>?_
 intro fN xs H y fe np x0 x1 gn hm
 refine c9 y ?_
 have rO:=y.wf.lt fe
 refine aO 0 (fN<256) ?_ ?_ <;> intro h1 q1
 ·obtain ⟨DS,vE⟩:=Rk (o:=(2+fN.toNat*1)) np fe D D
  cases DS with
  |true=>
   obtain ⟨aS,e1⟩:∃ ao,ao=H.set nb (O ((xs.set (2+fN.toNat*1) Y)++[.slice none 0 0]) 305):=⟨_,rfl⟩
   have y1:aa E G aS:=e1▸y.set _ D D
   have cK:=bC e1
   exact aK [aB 1]<|bR 6 fN (256:Int)<|aj [dP aN H] vE<|bR 4 fN (256:Int)<|aC 0 (te (xY np fe D D) e1)<|aj [] (cU y fe:bZ H aS [nb]=true)<|ap 0 (fN+1)<|dY 1 [(3,pt nb 0),(4,aN),(46,J (fN+1))] aS [nb] bD (ih _ D (fN+1) (xs.set (2+fN.toNat*1) Y) _ y1 cK (iH.set np (2+fN.toNat*1) D false) D D gn rfl)
  |false=>
   obtain ⟨aS,e1⟩:∃ ao,ao=H.set nb (O ((xs.set (2+fN.toNat*1) aN)++[.slice none 0 0]) 305):=⟨_,rfl⟩
   have y1:aa E G aS:=e1▸y.set _ D D
   have cK:=bC e1
   exact aK [aB 1]<|bR 6 fN (256:Int)<|aj [dP Y H] vE<|bR 4 fN (256:Int)<|aC 0 (te (xY np fe D D) e1)<|aj [] (cU y fe:bZ H aS [nb]=true)<|ap 0 (fN+1)<|dY 1 [(3,pt nb 0),(4,aN),(46,J (fN+1))] aS [nb] bD (ih _ D (fN+1) (xs.set (2+fN.toNat*1) aN) _ y1 cK (iH.set np (2+fN.toNat*1) D true) D D gn rfl)
 exact en 0 [(3,pt nb 0)] (.exit 2) H [] aZ bi ⟨rfl,rfl⟩
noncomputable def VN:Code:=cN [1,1,1,1,1,1,1,0,1,0,0] (cH Tryz.f273)
theorem Ew (nb:Nat):∀(m:Nat) (fN:Int) (xs:List Value) (H:U),aa E G H→(fe:H.get nb=some (O (xs++[.slice none 0 0]) 305))→(np:iH xs)→(x0:0≤fN)→(x1:fN≤256)→(gn:G.n≤nb)→(256-fN).toNat=m→
  cy E G 64 VN [(3,pt nb 0),(4,Y),(46,J fN)] H [nb] (fun x T H'=>(x=(.exit 2)∧T=bl [(3,pt nb 0)])):=by
 refine d8 fun m ih=>?_
 intro fN xs H y fe np x0 x1 gn hm
 refine c9 y ?_
 have rO:=y.wf.lt fe
 refine aO 0 (fN<256) ?_ ?_ <;> intro h1 q1
 ·obtain ⟨DS,vE⟩:=Rk (o:=(2+fN.toNat*1)) np fe D D
  cases DS with
  |true=>
   obtain ⟨aS,e1⟩:∃ ao,ao=H.set nb (O ((xs.set (2+fN.toNat*1) aN)++[.slice none 0 0]) 305):=⟨_,rfl⟩
   have y1:aa E G aS:=e1▸y.set _ D D
   have cK:=bC e1
   exact aK [aB 1]<|bR 6 fN (256:Int)<|aj [dP aN H] vE<|bR 4 fN (256:Int)<|aC 0 (te (xY np fe D D) e1)<|aj [] (cU y fe:bZ H aS [nb]=true)<|ap 0 (fN+1)<|dY 1 [(3,pt nb 0),(4,Y),(46,J (fN+1))] aS [nb] bD (ih _ D (fN+1) (xs.set (2+fN.toNat*1) aN) _ y1 cK (iH.set np (2+fN.toNat*1) D true) D D gn rfl)
  |false=>
   obtain ⟨aS,e1⟩:∃ ao,ao=H.set nb (O ((xs.set (2+fN.toNat*1) Y)++[.slice none 0 0]) 305):=⟨_,rfl⟩
   have y1:aa E G aS:=e1▸y.set _ D D
   have cK:=bC e1
   exact aK [aB 1]<|bR 6 fN (256:Int)<|aj [dP Y H] vE<|bR 4 fN (256:Int)<|aC 0 (te (xY np fe D D) e1)<|aj [] (cU y fe:bZ H aS [nb]=true)<|ap 0 (fN+1)<|dY 1 [(3,pt nb 0),(4,Y),(46,J (fN+1))] aS [nb] bD (ih _ D (fN+1) (xs.set (2+fN.toNat*1) Y) _ y1 cK (iH.set np (2+fN.toNat*1) D false) D D gn rfl)
 exact en 0 [(3,pt nb 0)] (.exit 2) H [] aZ bi ⟨rfl,rfl⟩
theorem agk (p:Nat) (s:ByteArray) (at_:Int) (dp:Int) (nd:Int) {H:U} (y:aa E G H) (kp:H.get p=some (fM s at_ dp nd (.pointer none))) (bY:G.n≤p) (hs:(s.size:Int)<100000) (a0:0≤at_) (a1:at_≤s.size):aI E G 273 [pt p 0] H [p] (fun v H'=>wT s p at_ 0 ((nT s at_).map fun a=>(a,dp)) v H'):=by
 refine br Tryz.f273 y ?_
 have gi:=y.wf.lt kp
 obtain ⟨_,H1,c1,af,y1,cW,uR,hY,rfl,uq,Fa,qd,dV⟩:=Au p s at_ dp nd 0 0 1 y kp D hs D D D
 have KO:=y1.wf.lt qd
 obtain ⟨_,H2,c2,ar,ah,dC⟩:=tc p s at_ dp hY ⟨#[94]⟩ y1 dV D hs D D
 refine ad 2 c1<|?_
 rcases dC with ⟨rfl,E9⟩ |⟨rfl,xw,xx⟩
 ·have cl:H1.n+0≤H2.n:=ar.n
  have cP:=y1.kept ar ai dV
  have Ka:=y1.kept ar ai qd
  obtain ⟨_,H3,c3,aW,az,fo⟩:=Md p s at_ dp hY cW uR ah cP D hs D D Ka uq D D
  refine ad 2 c2<|?_
  rcases fo with ⟨M7,fH,jP,rfl,Ld,Ko,e6,iM,oz,eh⟩ |⟨M7,fH,jP,r6,rfl,Ld,Ko,e6,iM,oz,eh⟩
  ·have dD:H2.n+0≤H3.n:=aW.n
   obtain ⟨_,_,H4,cY,c4,bz,rfl,nI,yF,aiX,DV,uY,rfl,oI,CV,Ci,n8,G7,JV,Dk,Dl⟩:=(Ev p cW s dp fH false (nT s at_) _ fH jP 0 0 M7 _ az e6 Ko hs bY D D D D D D Ld (.go (On (if_neg E9) iM).symm) rfl).code
   have fB:H3.n+0≤H4.n:=c4.n
   refine ad 4 c3<|bW 0 cY<|Z 3 (ag 4 jY oI)<|?_
   rcases JV with rfl |rfl
   ·obtain ⟨db,bS⟩:∃ ao,ao=H4.set p (O (iu s (nI+1) dp yF (gO 0 DV)) 255):=⟨_,rfl⟩
    have cG:aa E G db:=bS▸bz.set _ D D
    have gk:db.n=H4.n+0:=by rw [bS,U.cB] <;> rfl
    have eR:=bC bS
    have Kc:=bu bS D Ci
    obtain ⟨_,_,fj,gH,fO,ea,rfl,rfl⟩:=(Ew cW _ 0 uY _ cG Kc CV D D D rfl).code
    have lC:db.n+0≤fj.n:=fO.n
    have hC:=cG.kept fO bB eR
    exact Z 4 (ag 1 aJ oI)<|ap 0 (nI+1)<|aC 2 (stx 1 (J (nI+1)) dL oI bS)<|bW 1 gH<|aV 2 (pt cW 0) fj [p,p,cW,p,cW,p,cW] aQ bi (.inl ⟨_,nI+1,dp,yF,rfl,hC,congrArg (Option.map fun a=>(a,dp)) (Dk rfl).1,D,D⟩)
   obtain ⟨_,_,H5,dz,cV,cG,rfl,rfl⟩:=(Ew cW _ 0 uY _ bz Ci CV D D D rfl).code
   have gk:H4.n+0≤H5.n:=cV.n
   have eR:=bz.kept cV bB oI
   exact bW 2 dz<|aV 2 (pt cW 0) H5 [p,p,cW,p,cW,cW] aQ bi (.inr ⟨_,nI,dp,yF,DV,rfl,eR,congrArg (Option.map fun a=>(a,dp)) (Dl rfl),D,D⟩)
  have dD:H2.n+0≤H3.n:=aW.n
  obtain ⟨_,_,H4,cY,c4,bz,rfl,nI,yF,aiX,DV,uY,rfl,oI,CV,Ci,n8,G7,JV,Dk,Dl⟩:=(Ev p cW s dp fH false (nT s at_) _ fH jP 1 r6 M7 _ az e6 Ko hs bY D D D D D D Ld (.bad (Om (if_neg E9) iM)) rfl).code
  have fB:H3.n+0≤H4.n:=c4.n
  refine ad 4 c3<|bW 0 cY<|Z 3 (ag 4 jY oI)<|?_
  rcases JV with rfl |rfl
  ·obtain ⟨db,bS⟩:∃ ao,ao=H4.set p (O (iu s (nI+1) dp yF (gO 0 DV)) 255):=⟨_,rfl⟩
   have cG:aa E G db:=bS▸bz.set _ D D
   have gk:db.n=H4.n+0:=by rw [bS,U.cB] <;> rfl
   have eR:=bC bS
   have Kc:=bu bS D Ci
   obtain ⟨_,_,fj,gH,fO,ea,rfl,rfl⟩:=(Ew cW _ 0 uY _ cG Kc CV D D D rfl).code
   have lC:db.n+0≤fj.n:=fO.n
   have hC:=cG.kept fO bB eR
   exact Z 4 (ag 1 aJ oI)<|ap 0 (nI+1)<|aC 2 (stx 1 (J (nI+1)) dL oI bS)<|bW 1 gH<|aV 2 (pt cW 0) fj [p,p,cW,p,cW,p,cW] aQ bi (.inl ⟨_,nI+1,dp,yF,rfl,hC,congrArg (Option.map fun a=>(a,dp)) (Dk rfl).1,D,D⟩)
  obtain ⟨_,_,H5,dz,cV,cG,rfl,rfl⟩:=(Ew cW _ 0 uY _ bz Ci CV D D D rfl).code
  have gk:H4.n+0≤H5.n:=cV.n
  have eR:=bz.kept cV bB oI
  exact bW 2 dz<|aV 2 (pt cW 0) H5 [p,p,cW,p,cW,cW] aQ bi (.inr ⟨_,nI,dp,yF,DV,rfl,eR,congrArg (Option.map fun a=>(a,dp)) (Dl rfl),D,D⟩)
 have cl:H1.n+0≤H2.n:=ar.n
 have cP:=y1.kept ar ai dV
 obtain ⟨bk,aM⟩:∃ ao,ao=H2.set p (O (iu s (at_+1) dp hY (.pointer none)) 255):=⟨_,rfl⟩
 have az:aa E G bk:=aM▸ah.set _ D D
 have dD:bk.n=H2.n+0:=by rw [aM,U.cB] <;> rfl
 have eF:=bC aM
 have Ka:=y1.kept ar ai qd
 have abi:=bu aM D Ka
 obtain ⟨_,H4,cY,c4,bz,nv⟩:=Md p s (at_+1) dp hY cW uR az eF D hs D D abi uq D D
 refine ad 2 c2<|Z 5 (ag 1 aJ cP)<|ap 0 (at_+1)<|aC 2 (stx 1 (J (at_+1)) dL cP aM)<|?_
 rcases nv with ⟨M8,kL,xV,rfl,Le,Kp,kS,pB,BB,pA⟩ |⟨M8,kL,xV,DM,rfl,Le,Kp,kS,pB,BB,pA⟩
 ·have fB:bk.n+0≤H4.n:=c4.n
  obtain ⟨_,_,H5,dz,cV,cG,rfl,r9,yG,aiY,DW,tw,rfl,ud,xX,xM,uy,ags,JW,Mi,Mj⟩:=(Ev p cW s dp kL true (nT s at_) _ kL xV 0 0 M8 _ bz kS Kp hs bY D D D D D D Le (.go (On (if_pos ⟨xw,xx⟩) pB).symm) rfl).code
  have gk:H4.n+0≤H5.n:=cV.n
  refine ad 2 cY<|bW 0 dz<|Z 3 (ag 4 jY ud)<|?_
  rcases JW with rfl |rfl
  ·obtain ⟨dW,dO⟩:∃ ao,ao=H5.set p (O (iu s (r9+1) dp yG (gO 0 DW)) 255):=⟨_,rfl⟩
   have ea:aa E G dW:=dO▸cG.set _ D D
   have lC:dW.n=H5.n+0:=by rw [dO,U.cB] <;> rfl
   have hC:=bC dO
   have Kf:=bu dO D xM
   obtain ⟨_,_,iy,kn,iF,gC,rfl,rfl⟩:=(Ex cW _ 0 tw _ ea Kf xX D D D rfl).code
   have qh:dW.n+0≤iy.n:=iF.n
   have pH:=ea.kept iF bB hC
   exact Z 4 (ag 1 aJ ud)<|ap 0 (r9+1)<|aC 2 (stx 1 (J (r9+1)) dL ud dO)<|bW 1 kn<|aV 2 (pt cW 0) iy [p,p,p,cW,p,cW,p,cW] aQ bi (.inl ⟨_,r9+1,dp,yG,rfl,pH,congrArg (Option.map fun a=>(a,dp)) (Mi rfl).1,D,D⟩)
  obtain ⟨_,_,fj,gH,fO,ea,rfl,rfl⟩:=(Ex cW _ 0 tw _ cG xM xX D D D rfl).code
  have lC:H5.n+0≤fj.n:=fO.n
  have hC:=cG.kept fO bB ud
  exact bW 2 gH<|aV 2 (pt cW 0) fj [p,p,p,cW,p,cW,cW] aQ bi (.inr ⟨_,r9,dp,yG,DW,rfl,hC,congrArg (Option.map fun a=>(a,dp)) (Mj rfl),D,D⟩)
 have fB:bk.n+0≤H4.n:=c4.n
 obtain ⟨_,_,H5,dz,cV,cG,rfl,r9,yG,aiY,DW,tw,rfl,ud,xX,xM,uy,ags,JW,Mi,Mj⟩:=(Ev p cW s dp kL true (nT s at_) _ kL xV 1 DM M8 _ bz kS Kp hs bY D D D D D D Le (.bad (Om (if_pos ⟨xw,xx⟩) pB)) rfl).code
 have gk:H4.n+0≤H5.n:=cV.n
 refine ad 2 cY<|bW 0 dz<|Z 3 (ag 4 jY ud)<|?_
 rcases JW with rfl |rfl
 ·obtain ⟨dW,dO⟩:∃ ao,ao=H5.set p (O (iu s (r9+1) dp yG (gO 0 DW)) 255):=⟨_,rfl⟩
  have ea:aa E G dW:=dO▸cG.set _ D D
  have lC:dW.n=H5.n+0:=by rw [dO,U.cB] <;> rfl
  have hC:=bC dO
  have Kf:=bu dO D xM
  obtain ⟨_,_,iy,kn,iF,gC,rfl,rfl⟩:=(Ex cW _ 0 tw _ ea Kf xX D D D rfl).code
  have qh:dW.n+0≤iy.n:=iF.n
  have pH:=ea.kept iF bB hC
  exact Z 4 (ag 1 aJ ud)<|ap 0 (r9+1)<|aC 2 (stx 1 (J (r9+1)) dL ud dO)<|bW 1 kn<|aV 2 (pt cW 0) iy [p,p,p,cW,p,cW,p,cW] aQ bi (.inl ⟨_,r9+1,dp,yG,rfl,pH,congrArg (Option.map fun a=>(a,dp)) (Mi rfl).1,D,D⟩)
 obtain ⟨_,_,fj,gH,fO,ea,rfl,rfl⟩:=(Ex cW _ 0 tw _ cG xM xX D D D rfl).code
 have lC:H5.n+0≤fj.n:=fO.n
 have hC:=cG.kept fO bB ud
 exact bW 2 gH<|aV 2 (pt cW 0) fj [p,p,p,cW,p,cW,cW] aQ bi (.inr ⟨_,r9,dp,yG,DW,rfl,hC,congrArg (Option.map fun a=>(a,dp)) (Mj rfl),D,D⟩)
theorem agl (p:Nat) (s:ByteArray) (at_:Int) (dp:Int) (nd:Int) (n:Nat) {H:U} (y:aa E G H) (kp:H.get p=some (fM s at_ dp nd (.pointer none))) (bY:G.n≤p) (hs:(s.size:Int)<100000) (a0:0≤at_) (a1:at_≤s.size) (hA:se s n) (hn:((s.size:Int)-at_).toNat≤n) (hlt:at_<s.size) (hc:ac s at_=40):aI E G 272 [pt p 0] H [p] (fun v H'=>wT s p at_ 1 (kM s at_ dp) v H'):=by
 refine br Tryz.f272 y ?_
 have gi:=y.wf.lt kp
 refine Z 4 (ag 2 aJ kp)<|cS 0 dp 32 ?_ ?_ <;> intro h1 q1
 ·obtain ⟨_,H1,c1,af,y1,cW,hY,nD,rfl,dV⟩:=q2 p s at_ dp nd 0 0 12 y kp D hs D D D
  exact ad 2 c1<|aV 1 (pt cW 0) H1 [p] bD bi (.inr ⟨_,at_,dp,hY,nD,rfl,dV,NQ hlt hc q1,D,D⟩)
 obtain ⟨aS,e1⟩:∃ ao,ao=H.set p (O (iu s (at_+1) dp nd (.pointer none)) 255):=⟨_,rfl⟩
 have y1:aa E G aS:=e1▸y.set _ D D
 have cI:aS.n=H.n+0:=by rw [e1,U.cB] <;> rfl
 have bV:=bC e1
 obtain ⟨aF,e2⟩:∃ ao,ao=aS.set p (O (iu s (at_+1) (IntKind.i64.wrap (dp+1)) nd (.pointer none)) 255):=⟨_,rfl⟩
 have ah:aa E G aF:=e2▸y1.set _ D D
 have cl:aF.n=aS.n+0:=by rw [e2,U.cB] <;> rfl
 have cP:=bC e2
 obtain ⟨_,H3,c3,aW,az,fo⟩:=hA p (at_+1) (IntKind.i64.wrap (dp+1)) nd ah cP D hs D D D
 refine Z 3 (ag 1 aJ kp)<|ap 0 (at_+1)<|aC 2 (stx 1 (J (at_+1)) dL kp e1)<|Z 3 (ag 2 aJ bV)<|aC 3 (stx 2 (J (IntKind.i64.wrap (dp+1))) dL bV e2)<|?_
 rcases fo with ⟨cQ,fH,kZ,jP,rfl,e6,iM,oz,eh⟩ |⟨cQ,fH,kZ,jP,r6,rfl,e6,iM,oz,eh⟩
 ·have dD:aF.n+0≤H3.n:=aW.n
  obtain ⟨bF,aG⟩:∃ ao,ao=H3.set p (O (iu s fH (IntKind.i64.wrap (kZ-1)) jP (.pointer none)) 255):=⟨_,rfl⟩
  have bz:aa E G bF:=aG▸az.set _ D D
  have fB:bF.n=H3.n+0:=by rw [aG,U.cB] <;> rfl
  have ek:=bC aG
  obtain ⟨_,H5,dz,cV,cG,oN⟩:=tc p s fH (IntKind.i64.wrap (kZ-1)) jP ⟨#[41]⟩ bz ek D hs D D
  refine ad 1 c3<|Z 4 (ag 2 aJ e6)<|aC 3 (stx 2 (J (IntKind.i64.wrap (kZ-1))) dL e6 aG)<|?_
  rcases oN with ⟨rfl,Zj⟩ |⟨rfl,Zg,Zh⟩
  ·have eR:=bz.kept cV ai ek
   obtain ⟨_,fj,gH,fO,ea,KW,KY,M1,rfl,Ks⟩:=q2 p s fH (IntKind.i64.wrap (kZ-1)) jP 0 0 2 cG eR D hs D D D
   exact ad 1 dz<|ad 3 gH<|aV 1 (pt KW 0) fj (GW p) bD bi (.inr ⟨_,fH,IntKind.i64.wrap (kZ-1),KY,M1,rfl,Ks,NR hlt hc q1 iM Zj,D,D⟩)
  have gk:bF.n+0≤H5.n:=cV.n
  have eR:=bz.kept cV ai ek
  obtain ⟨dW,dO⟩:∃ ao,ao=H5.set p (O (iu s (fH+1) (IntKind.i64.wrap (kZ-1)) jP (.pointer none)) 255):=⟨_,rfl⟩
  have ea:aa E G dW:=dO▸cG.set _ D D
  have hC:=bC dO
  exact ad 1 dz<|Z 4 (ag 1 aJ eR)<|ap 0 (fH+1)<|aC 2 (stx 1 (J (fH+1)) dL eR dO)<|aV 2 (pt cQ 0) dW (GW p) bD bi (.inl ⟨_,fH+1,IntKind.i64.wrap (kZ-1),jP,rfl,hC,NT hlt hc q1 iM Zg Zh,D,D⟩)
 have dD:aF.n+0≤H3.n:=aW.n
 obtain ⟨bF,aG⟩:∃ ao,ao=H3.set p (O (iu s fH (IntKind.i64.wrap (kZ-1)) jP (pt r6 0)) 255):=⟨_,rfl⟩
 have bz:aa E G bF:=aG▸az.set _ D D
 have ek:=bC aG
 obtain ⟨_,H5,dz,cV,cG,rfl⟩:=G3 p s fH (IntKind.i64.wrap (kZ-1)) jP r6 ⟨#[41]⟩ bz ek D hs D D
 have eR:=bz.kept cV ai ek
 obtain ⟨_,fj,gH,fO,ea,KW,KY,M1,rfl,Ks⟩:=q2 p s fH (IntKind.i64.wrap (kZ-1)) jP 1 r6 2 cG eR D hs D D D
 exact ad 1 c3<|Z 4 (ag 2 aJ e6)<|aC 3 (stx 2 (J (IntKind.i64.wrap (kZ-1))) dL e6 aG)<|ad 1 dz<|ad 3 gH<|aV 1 (pt KW 0) fj (GW p) bD bi (.inr ⟨_,fH,IntKind.i64.wrap (kZ-1),KY,M1,rfl,Ks,NS hlt hc q1 iM,D,D⟩)
theorem agj (p:Nat) (s:ByteArray) (at_:Int) (dp:Int) (nd:Int) (n:Nat) {H:U} (y:aa E G H) (kp:H.get p=some (fM s at_ dp nd (.pointer none))) (bY:G.n≤p) (hs:(s.size:Int)<100000) (a0:0≤at_) (a1:at_≤s.size) (hA:se s n) (hn:((s.size:Int)-at_).toNat≤n) (hlt:at_<s.size):aI E G 264 [pt p 0] H [p] (fun v H'=>wT s p at_ 1 (kM s at_ dp) v H'):=by
 refine br Tryz.f264 y ?_
 have gi:=y.wf.lt kp
 refine aK [aB 0]<|Z 3 (ag 0 ct kp)<|Z 3 (ag 1 aJ kp)<|bR 0 at_ (s.size:Int)<|cS 2 (ac s at_) 40 ?_ ?_ <;> intro h1 q1
 ·obtain ⟨_,H1,c1,af,y1,b7⟩:=agl p s at_ dp nd n y kp D hs D D hA D D D
  rcases b7 with ⟨cW,dH,ly,hY,rfl,dV,dR,g9,cq⟩ |⟨cW,dH,ly,hY,nD,rfl,dV,dR,g9,cq⟩
  ·exact ad 2 c1<|aV 1 (pt cW 0) H1 [p] bD bi (.inl ⟨_,dH,ly,hY,rfl,dV,dR,D,D⟩)
  exact ad 2 c1<|aV 1 (pt cW 0) H1 [p] bD bi (.inr ⟨_,dH,ly,hY,nD,rfl,dV,dR,D,D⟩)
 refine cS 2 (ac s at_) 91 ?_ ?_ <;> intro h2 cw
 ·obtain ⟨aS,e1⟩:∃ ao,ao=H.set p (O (iu s (at_+1) dp nd (.pointer none)) 255):=⟨_,rfl⟩
  have y1:aa E G aS:=e1▸y.set _ D D
  have bV:=bC e1
  obtain ⟨_,H2,c2,ar,ah,dC⟩:=agk p s (at_+1) dp nd y1 bV D hs D D
  refine Z 4 (ag 1 aJ kp)<|ap 0 (at_+1)<|aC 2 (stx 1 (J (at_+1)) dL kp e1)<|?_
  rcases dC with ⟨cA,gv,rj,ji,rfl,eX,gy,k8,cJ⟩ |⟨cA,gv,rj,ji,qs,rfl,eX,gy,k8,cJ⟩
  ·exact ad 1 c2<|aV 1 (pt cA 0) H2 [p,p] bD bi (.inl ⟨_,gv,rj,ji,rfl,eX,(Ec hlt D).trans gy,D,D⟩)
  exact ad 1 c2<|aV 1 (pt cA 0) H2 [p,p] bD bi (.inr ⟨_,gv,rj,ji,qs,rfl,eX,(Ec hlt D).trans gy,D,D⟩)
 refine cS 2 (ac s at_) 46 ?_ ?_ <;> intro h3 dv
 ·obtain ⟨aS,e1⟩:∃ ao,ao=H.set p (O (iu s (at_+1) dp nd (.pointer none)) 255):=⟨_,rfl⟩
  have y1:aa E G aS:=e1▸y.set _ D D
  have bV:=bC e1
  obtain ⟨_,H2,c2,ar,ah,cA,ji,rfl,eX⟩:=agi p s (at_+1) dp nd y1 bV D hs D D
  exact Z 4 (ag 1 aJ kp)<|ap 0 (at_+1)<|aC 2 (stx 1 (J (at_+1)) dL kp e1)<|ad 1 c2<|aV 1 (pt cA 0) H2 [p,p] bD bi (.inl ⟨_,at_+1,dp,ji,rfl,eX,Ee hlt D D (fun h=>by rw [show ac s at_=46 by omega] at h;exact absurd h (by decide)) D,D,D⟩)
 refine ad 2 (indexByte ⟨#[41,93,123,125,94,36,124,42,43,63]⟩ (ac s at_) y)<|aO 0 ((mE ⟨#[41,93,123,125,94,36,124,42,43,63]⟩ (ac s at_))≥0) ?_ ?_ <;> intro h4 dT
 ·obtain ⟨_,H1,c1,af,y1,cW,hY,nD,rfl,dV⟩:=q2 p s at_ dp nd 0 0 2 y kp D hs D D D
  exact ad 3 c1<|aV 1 (pt cW 0) H1 [p] bD bi (.inr ⟨_,at_,dp,hY,nD,rfl,dV,NP hlt D D ((B9 (gG _ _) (jK _ _)).symm.trans h4),D,D⟩)
 obtain ⟨aS,e1⟩:∃ ao,ao=H.set p (O (iu s (at_+1) dp nd (.pointer none)) 255):=⟨_,rfl⟩
 have y1:aa E G aS:=e1▸y.set _ D D
 have bV:=bC e1
 refine Z 4 (ag 1 aJ kp)<|ap 0 (at_+1)<|aC 2 (stx 1 (J (at_+1)) dL kp e1)<|cS 1 (ac s at_) 92 ?_ ?_ <;> intro h5 ff
 ·obtain ⟨_,H2,c2,ar,ah,dC⟩:=Me p s (at_+1) dp nd y1 bV D hs D D
  rcases dC with ⟨rfl,Q0,eX⟩ |⟨rfl,ady,eX⟩
  ·obtain ⟨_,H3,c3,aW,az,cQ,jP,r6,rfl,e6⟩:=q2 p s (at_+1) dp nd 0 0 2 ah eX D hs D D D
   exact ad 1 c2<|ad 9 c3<|aV 1 (pt cQ 0) H3 [p,p,p] bD bi (.inr ⟨_,at_+1,dp,jP,r6,rfl,e6,(Ed hlt D).trans (if_neg D),D,D⟩)
  obtain ⟨_,H3,c3,aW,az,cQ,jP,rfl,e6⟩:=SS p s ((at_+1)+1) dp nd (ac s (at_+1)) ah eX D hs D D (gG _ _) (jK _ _)
  exact ad 1 c2<|ad 11 c3<|aV 1 (pt cQ 0) H3 [p,p,p] bD bi (.inl ⟨_,(at_+1)+1,dp,jP,rfl,e6,(by rw [Ed hlt D,if_pos D,show at_+2=at_+1+1 by omega]),D,D⟩)
 obtain ⟨_,H2,c2,ar,ah,cA,ji,rfl,eX⟩:=SS p s (at_+1) dp nd (ac s at_) y1 bV D hs D D (gG _ _) (jK _ _)
 exact ad 2 c2<|aV 1 (pt cA 0) H2 [p,p] bD bi (.inl ⟨_,at_+1,dp,ji,rfl,eX,Ee hlt D D (fun h=>absurd (h.symm.trans ((B9 (gG _ _) (jK _ _)).symm.trans h4)) (by decide)) D,D,D⟩)
end Go.Proofs.YtbehemdcaiigeaaGreatDoor
namespace Go.Am
inductive Seq (md:Region.Mode) (ops:Array Oper):Array Bool→List Nat→Prop
 |nil {L:Array Bool}:Region.ready md ops L=[]→Seq md ops L []
 |cons {L:Array Bool} {i:Nat} {l:List Nat}:i∈Region.ready md ops L→Seq md ops (L.setIfInBounds i true) l→Seq md ops L (i::l)
theorem T6 {P:Program} {md:Region.Mode} {ops:Array Oper} {Q:Exit→Act→World→Prop}:∀(fuel:Nat) (L:Array Bool) (l:List Nat) (a:Act) (w:World),wpAny P md ops Q fuel L a w→Seq md ops L l→wpOps P ops Q l a w
 |0,L,l,a,w,h,hs=>by
  cases hs with
  |nil _=>exact h.2
  |cons hi _=>rw [h.1] at hi;cases hi
 |fuel+1,L,l,a,w,h,hs=>by
  cases hs with
  |nil hr=>exact h.1 hr
  |cons hi hl=>rw [wpOps_cons];exact wpOp_mono (fun a w hk=>T6 fuel _ _ a w hk hl) (h.2 _ hi)
theorem Se {md:Region.Mode} {ops:Array Oper} {L:Array Bool} (h:∀ i,i<ops.size→L.getD i true=true):Region.ready md ops L=[]:=by
 cases hr:Region.ready md ops L with
 |nil=>rfl
 |cons x l=>
  have:x∈Region.ready md ops L:=by rw [hr];simp
  obtain ⟨o,h1,h2,_⟩:=mem_ready.1 this
  rw [h x (Array.getElem?_eq_some_iff.1 h1).1] at h2;cases h2
theorem Qp {md:Region.Mode} {ops:Array Oper}:∀(fuel t:Nat) (L:Array Bool),L.size=ops.size→q6 ops.size L≤fuel→Seq md ops L (Region.linearise.go md ops fuel t L [])
 |0,t,L,hs,hu=>.nil (Se fun i hi=>MP D i hi)
 |fuel+1,t,L,hs,hu=>by
  simp only [Region.linearise.go]
  change Seq md ops L (match (Region.ready md ops L)[t%(Region.ready md ops L).length]? with
   |some i=>Region.linearise.go md ops fuel (t / (Region.ready md ops L).length) (L.setIfInBounds i true) [i]
   |none=>[].reverse)
  split
  ·rename_i i hi
   have hm:=List.mem_of_getElem? hi
   obtain ⟨o,h1,h2,h3⟩:=mem_ready.1 hm
   have hin:=(Array.getElem?_eq_some_iff.1 h1).1
   have ZL:=MO hs hin h2
   rw [linearise_go_acc]
   exact .cons hm (Qp fuel _ _ (by simpa using hs) D)
  ·rename_i hi
   have Zs:Region.ready md ops L=[]:=by
    cases hr:Region.ready md ops L with
    |nil=>rfl
    |cons x xs=>
     rw [hr] at hi
     have hlt:t%(x::xs).length<(x::xs).length:=Nat.mod_lt _ (by simp)
     simp at hi
     simp at hlt
     omega
   exact .nil Zs
def Prec (x y:Nat):List Nat→Prop
 |[]=>True
 |i::l=>if i=x then True else if i=y then False else Prec x y l
theorem Prec.total {x y:Nat} (hne:x≠y):∀ l,Prec x y l∨Prec y x l
 |[]=>.inl trivial
 |i::l=>by
  unfold Prec
  by_cases h1:i=x
  ·left;rw [if_pos h1];trivial
  ·by_cases h2:i=y
   ·right;rw [if_pos h2];trivial
   ·rw [if_neg h1,if_neg h2,if_neg h2,if_neg h1];exact Prec.total hne l
def Ie (g:Nat→Nat) (C:List (Nat×Nat)) (i:Nat) (after:Array Edge):Array Edge:=
 (after.toList.map (fun (e:Edge)=>({ e with on:=g e.on }:Edge))++(C.filter fun (p:Nat×Nat)=>Nat.beq p.2 i).map fun (p:Nat×Nat)=>(⟨g p.1,.data⟩:Edge)).toArray
def lg (ops:Array Oper) (f g:Nat→Nat) (C:List (Nat×Nat)):Array Oper:=
 ((List.range ops.size).map fun k=>match ops[f k]? with
  |some o=>{ o with after:=Ie g C (f k) o.after }
  |none=>default).toArray
structure A5 (ops:Array Oper) (f g:Nat→Nat) (C:List (Nat×Nat)):Prop where
 Yr:∀ k,k<ops.size→g (f k)=k∧f k<ops.size
 fg:∀ i,i<ops.size→f (g i)=i∧g i<ops.size
 ej:∀ i,i<ops.size→∀ o,ops[i]?=some o→o.guard=none
 ne:∀ p∈C,p.1≠p.2
theorem RW {ops:Array Oper} {f g:Nat→Nat} {C:List (Nat×Nat)}:(lg ops f g C).size=ops.size:=by simp [lg]
theorem RV {ops:Array Oper} {f g:Nat→Nat} {C:List (Nat×Nat)} (h:A5 ops f g C) {i:Nat} {o:Oper} (ho:ops[i]?=some o) :
  (lg ops f g C)[g i]?=some { o with after:=Ie g C i o.after }:=by
 have hi:=(Array.getElem?_eq_some_iff.1 ho).1
 obtain ⟨h1,h2⟩:=h.fg i hi
 unfold lg
 rw [List.getElem?_toArray,List.getElem?_map,List.getElem?_range h2]
 simp only [Option.map_some,h1,ho]
theorem aiG {P:Program} {ops:Array Oper} {f g:Nat→Nat} {C:List (Nat×Nat)} (h:A5 ops f g C) {Q:Exit→Act→World→Prop} {i:Nat} {K:Act→World→Prop} {a:Act} {w:World} (hi:i<ops.size)
  (hh:wpOp P (lg ops f g C) Q (g i) K a w):wpOp P ops Q i K a w:=by
 obtain ⟨o,ho⟩:∃ o,ops[i]?=some o:=⟨ops[i],by simp [hi]⟩
 have cu:=h.ej i hi o ho
 unfold wpOp at *
 rw [RV h ho] at hh
 rw [ho]
 simp only at hh ⊢
 have w1:∀ x,Region.wanted o x=true:=fun x=>by unfold Region.wanted;rw [cu]
 rw [if_pos (by unfold Region.wanted;simp only [cu])] at hh
 rw [if_pos (w1 _)]
 exact hh
theorem RX {md:Region.Mode} {P:Program} {ops:Array Oper} {f g:Nat→Nat} {C:List (Nat×Nat)} (h:A5 ops f g C) (hp:nL md ops) {Q:Exit→Act→World→Prop} :
  ∀(l:List Nat) (L yP:Array Bool),Seq md ops L l→L.size=ops.size→yP.size=ops.size→(∀ i,i<ops.size→yP.getD (g i) false=L.getD i false)→(∀ p∈C,L.getD p.1 false=true∨Prec p.1 p.2 l)→
   Seq md (lg ops f g C) yP (l.map g)∧∀ a w,wpOps P (lg ops f g C) Q (l.map g) a w→wpOps P ops Q l a w
 |[],L,yP,hs,h1,h2,hr,ho=>by
  refine ⟨.nil (Se fun k hk=>?_),fun a w h=>h⟩
  rw [RW] at hk
  cases hs with
  |nil hn=>
   have hall:∀ i,i<ops.size→L.getD i true=true:=fun i hi=>by
    cases hb:L.getD i true with
    |true=>rfl
    |false=>exact (hp L h1 ⟨i,hi,hb⟩ hn).elim
   obtain ⟨h3,h4⟩:=h.Yr k hk
   have:=hr (f k) h4
   rw [h3] at this
   rw [vw D true false,this,vw D false true]
   exact hall _ h4
 |i::l,L,yP,hs,h1,h2,hr,ho=>by
  cases hs with
  |cons hi hl=>
   obtain ⟨o,e1,e2,aM⟩:=mem_ready.1 hi
   have hin:=(Array.getElem?_eq_some_iff.1 e1).1
   obtain ⟨g1,g2⟩:=h.fg i hin
   have rel:∀ j,j<ops.size→(yP.setIfInBounds (g i) true).getD (g j) false=(L.setIfInBounds i true).getD j false:=fun j hj=>by
    rw [xk D,xk D]
    by_cases e:i=j
    ·rw [if_pos e,if_pos (by rw [e])]
    ·rw [if_neg e,if_neg (fun e'=>e (by have:=(h.fg j hj).1;rw [← e',g1] at this;exact this))];exact hr j hj
   have ord:∀ p∈C,(L.setIfInBounds i true).getD p.1 false=true∨Prec p.1 p.2 l:=fun p Ff=>by
    rw [xk D]
    rcases ho p Ff with h3 |h3
    ·left;split
     ·rfl
     ·exact h3
    ·unfold Prec at h3
     by_cases e:i=p.1
     ·left;rw [if_pos e]
     ·rw [if_neg e] at h3
      by_cases e':i=p.2
      ·rw [if_pos e'] at h3;exact h3.elim
      ·rw [if_neg e'] at h3;exact .inr h3
   obtain ⟨k1,k2⟩:=RX h hp (P:=P) (Q:=Q) l _ _ hl (by simpa using h1) (by simpa using h2) rel ord
   refine ⟨.cons (mem_ready.2 ⟨_,RV h e1,?_,fun e he hb=>?_⟩) k1,fun a w hw=>?_⟩
   ·rw [vw D true false,hr i hin,vw D false true];exact e2
   ·simp only [Ie,List.mem_toArray,List.mem_append,List.mem_map,List.mem_filter] at he
    rcases he with ⟨e0,JD,rfl⟩ |⟨p,⟨tV,qH⟩,rfl⟩
    ·have:=aM e0 (by simpa using JD) hb
     have hlt:e0.on<ops.size:=by
      rcases Nat.lt_or_ge e0.on ops.size with h3 |h3
      ·exact h3
      ·rw [Array.getD_eq_getD_getElem?,Array.getElem?_eq_none D] at this;cases this
     exact (hr _ hlt).trans this
    ·have qH:=Nat.eq_of_beq_eq_true qH
     have h3:L.getD p.1 false=true:=by
      rcases ho p tV with h3 |h3
      ·exact h3
      ·unfold Prec at h3
       by_cases e:i=p.1
       ·exact absurd (e.symm.trans qH.symm) (h.ne p tV)
       ·rw [if_neg e,if_pos qH.symm] at h3;exact h3.elim
     have hlt:p.1<ops.size:=by
      rcases Nat.lt_or_ge p.1 ops.size with h4 |h4
      ·exact h4
      ·rw [Array.getD_eq_getD_getElem?,Array.getElem?_eq_none D] at h3;cases h3
     exact (hr _ hlt).trans h3
   ·rw [List.map_cons,wpOps_cons] at hw
    rw [wpOps_cons]
    exact aiG h hin (wpOp_mono (fun a w hk=>k2 a w hk) hw)
theorem XH {E:Env} (ok:E.eU) {aq:Nat} {ops:Array Oper} {d:List (Value×List Value)} {hs:Nat→U} {ts:Nat→b5} {jX:Nat→List Nat} {ft:Nat→iG} {W:List Nat} (hro:qX ops=true)
  (hi:indep (Region.before ops) ((List.range ops.size).map ft)=true) (a7:∀ j,j<ops.size→∀ q,q∈jX j→q∈W)
  (a9:∀(j:Nat) (o:Oper),ops.toList[j]?=some o→cz (hs j)→E.ej≤(hs j).n→∃ call,mZ E call∧pZ E call aq ops d o (ts j) (ts (j+1)) (hs j) (hs (j+1)) (jX j) (ft j)) (wf:cz (hs 0)) (cu:E.ej≤(hs 0).n) :
  cX W (hs 0) (hs ops.size)∧cz (hs ops.size)∧∀(base:Nat) (φ:bA) (w:World) (a:Act) (w1 w2:List Nat),sj E base φ w aq ⟨ts 0,hs 0,d,w1⟩ a→fW φ (hs 0).n (hs ops.size).n→
   ∀ md,nL md ops→wpAny E.P md ops (Post E base φ w aq (hs 0) W .normal ⟨ts ops.size,hs ops.size,d,w2⟩) ops.size (Array.replicate ops.size false) a { w with drawn:=w.drawn+1 }:=by
 have ZG:=hro
 unfold qX at hro
 simp only [dI] at hro
 obtain ⟨⟨jC,r3⟩,Aq⟩:=hro
 have hnd:∀ o∈ops.toList,xG o.op=false:=by
  intro o ho
  unfold Gi at r3
  rw [Array.all_eq_true_iff_forall_mem] at r3
  have:=r3 o (by simpa using ho)
  cases hop:o.op <;> rw [hop] at this <;> first
   |rfl
   |cases this
 have tN:∀ j:Nat,j<ops.size→ops.toList[j]?=some ops[j]!∧ops[j]?=some ops[j]!:=fun j hj=>by simp [hj]
 have o3:∀ j,j≤ops.size→cz (hs j)∧E.ej≤(hs j).n:=by
  intro j
  induction j with
  |zero=>intro _;exact ⟨wf,cu⟩
  |succ j ih=>
   intro hj
   obtain ⟨h1,h2⟩:=ih D
   obtain ⟨g1,g2⟩:=tN j D
   obtain ⟨call,hc,hst⟩:=a9 j _ g1 h1 h2
   obtain ⟨k1,k2,_⟩:=Hh ok hc (hnd _ (List.mem_of_getElem? g1)) hst h1 h2
   exact ⟨k2,Nat.le_trans h2 k1.n⟩
 have ex:=fun (j:Nat) (hj:j<ops.size)=>a9 j _ (tN j hj).1 (o3 j D).1 (o3 j D).2
 have st:=fun (j:Nat) (hj:j<ops.size)=>Hh ok (ex j hj).choose_spec.1 (hnd _ (List.mem_of_getElem? (tN j hj).1)) (ex j hj).choose_spec.2 (o3 j D).1 (o3 j D).2
 have yh:lw E aq ops d hs ts ft:=by
  refine ⟨fun j hj=>(o3 j hj).1,(o3 0 D).2,fun j hj=>(st j hj).1,fun j hj=>?_,fun j hj q hq=>?_,fun i j hij hj hb=>NM (PS hi hij hj hb),fun j o ho=>?_⟩
  ·obtain ⟨_,_,h3,h4,_⟩:=st j hj;exact ⟨h3,h4⟩
  ·obtain ⟨_,_,_,_,_,_,h7,_⟩:=st j hj
   exact (h7 q hq).2
  ·have hj:=(Array.getElem?_eq_some_iff.1 ho).1
   have e:ops[j]! = o:=by have:=(tN j hj).2;rw [ho] at this;injection this with this;exact this.symm
   obtain ⟨_,_,_,_,h5,h6,_,v,h8,h9⟩:=st j hj
   rw [e] at h5 h6 h8 h9
   exact ⟨h5,h6,v,h8,fun base φ w a C K Q cC hag hf ht hd hK=>h9 base φ w a C j K Q ho cC hag hf ht hd hK⟩
 have sG:∀ j,j<ops.size→∀ q,q∈(ft j).w→q∈W:=by
  intro j hj q hq
  obtain ⟨_,_,_,_,_,_,h7,_⟩:=st j hj
  exact a7 j hj q (h7 q hq).1
 have ext:cX W (hs 0) (hs ops.size):=by
  have key:∀ j,j≤ops.size→cX W (hs 0) (hs j):=by
   intro j
   induction j with
   |zero=>intro _;exact cX.refl ..
   |succ j ih=>intro hj;exact ((ih D).trans ((yh.ext j D).wider (sG j D))).wider (fun i hi=>by simpa using hi)
  exact key _ (Nat.le_refl _)
 refine ⟨ext,(o3 _ (Nat.le_refl _)).1,fun base φ w a w1 w2 du hf md hp=>?_⟩
 have ru:Rel E base (hs 0) φ w:=du.rel
 refine T5 (il:=φ) (w0:=w) (W:=W) (base:=base) yh hp sG (fun aU a' w' h1 h2 h3=>⟨aU,h1,rfl,h2,h3⟩) ops.size _ φ a _ (by simp) ?_ (fun k o ho hl=>?_) ?_
 ·unfold q6
  have:=List.countP_le_length (p:=fun i=>!(Array.replicate ops.size false).getD i true) (l:=List.range ops.size)
  simpa using this
 ·have hk:=(Array.getElem?_eq_some_iff.1 ho).1
  simp [Array.getD_eq_getD_getElem?,hk] at hl
 ·refine .init yh (fun k hk=>by simp [Array.getD_eq_getD_getElem?,hk]) ?_ du.hH du.iT hf ⟨rfl,rfl,rfl,Nat.le_refl _,fun _ _ _=>rfl⟩
  exact ⟨ru.bs,fun i l o h1 h2 h3=>(ru.blocks i l o h1 h2 h3).same rfl,fun i l h1 h2 h3=>ru.lt i l h1 h2 h3,ru.inj,ru.iL⟩
def oi (E:Env) (aq:Nat) (ops:Array Oper) (T:b5) (H:U) (jV:b5) (H':U) (W:List Nat):Prop:=
 cz H→E.ej≤H.n→∃ cO,lK jV cO∧cX W H H'∧cz H'∧∀(base:Nat) (φ:bA) (w:World) (a:Act),sj E base φ w aq ⟨T,H,[],[]⟩ a→fW φ H.n H'.n→
  ∀ md,nL md ops→wpAny E.P md ops (Post E base φ w aq H W .normal ⟨cO,H',[],[]⟩) ops.size (Array.replicate ops.size false) a { w with drawn:=w.drawn+1 }
theorem oi.qV {E:Env} (ok:E.eU) {P:Prop} {aq f id:Nat} {ops:Array Oper} {pre post:List (Tmp×Value)} {H H':U} {hs:List Hint} {W:List Nat} (hp:P)
  (h:(qm E aq (f+1) (.region id ops true) pre post H hs).map (fun r=>(fU r.1,r.2))=some (P,.normal,H',W)) (hno:Lz hs=none):oi E aq ops (bl pre) H (bl post) H' W:=by
 obtain ⟨⟨Ps,r⟩,h1,h2⟩:=Option.map_eq_some_iff.1 h
 injection h2 with h2 h3
 subst h3
 have hp:fU Ps:=h2▸hp
 unfold qm at h1
 split at h1
 ·rename_i tA x1 fT H1 fa hr
  simp only [bx,bG] at h1
  obtain ⟨rfl,rfl,rfl,rfl⟩:=h1
  rw [m5] at hp
  obtain ⟨hpa,ZC⟩:=hp
  unfold ob at hr
  rw [hno] at hr
  simp only at hr
  cases hro:qX ops with
  |false=>rw [hro] at hr;cases hr
  |true=>
   rw [hro] at hr
   simp only [cond_true] at hr
   split at hr
   ·rename_i ai8 jV H2 jW fs fy er
    simp only [bx,bG] at hr
    obtain ⟨rfl,_,rfl,rfl,_,rfl,_⟩:=hr
    rw [m5,m5] at hpa
    obtain ⟨ht,hpa⟩:=hpa
    have ht:=Qv ht
    have hi:=Qx (Hl _ _ _ _ _ _ _ _ _ _ _ er) ht hpa.1
    have hpa:=hpa.2
    intro wf cu
    obtain ⟨hq,ts,jX,ft,a1,a2,a3,a4,a5,a6,a7⟩:=MC ok _ _ _ _ _ _ _ _ _ _ _ er hpa (Lc hro)
    simp only [Array.length_toList] at a3 a4 a5 a6
    rw [a6] at hi
    obtain ⟨k1,k2,jh⟩:=XH ok hro hi a5 a7 (by rw [a1];exact wf) (by rw [a1];exact cu)
    rw [a1,a3] at k1
    rw [a3] at k2
    refine ⟨jV,fun t v hv=>Jl ZC t v (FH _ _ _ hv),k1,k2,fun base φ w a du hf md BS=>?_⟩
    have:=jh base φ w a [] [] (by rw [a1,a2];exact du) (by rw [a1,a3];exact hf) md BS
    rw [a1,a3,a4] at this
    exact this
   ·cases hr
 ·cases h1
theorem aiI {P:Program} {id:Nat} {ops:Array Oper} {Q:Exit→Act→World→Prop} {a:Act} {w:World}
  (h:∀ t,∃ yR:Exit→Act→World→Prop,(∀ e a w,yR e a w→Q e a w)∧wpOps P ops yR (Region.schedule (P.follows .mixedOrders) ops t) a { w with drawn:=w.drawn+1 }):(Code.region id ops true).wp P Q a w:=fun b k cs=>by
 obtain ⟨yR,hq,hw⟩:=h (w.tape w.drawn (.order b.fn id))
 obtain ⟨e,a',w',q,r⟩:=wp_ops _ a _ hw b k cs
 exact ⟨e,a',w',hq _ _ _ q,.of_steps (.one step_region_draw) r⟩
theorem Out.forget {E:Env} {base:Nat} {φ aU:bA} {w w':World} {H H1 H2:U} {W:List Nat} (h:Out E base φ w H H1 W aU w') (hx:cX W H H1) (cu:E.ej≤H.n) (hn:H2.n=H1.n) (hg:∀ i,i<H1.n→H2.get i=H1.get i∨(H.n≤i∧H2.get i=some .dead)):Out E base φ w H H2 W aU w':=by
 have Fb:=hx.n
 refine ⟨fun i hi=>h.ext i D,⟨h.rel.bs,fun i l o hi hl ho=>?_,fun i l hi hl hv=>?_,fun i j l m hi hj hij hl hm hw hv=>?_,h.rel.iL⟩,h.step,fun i l h1 h2 h3=>?_⟩
 ·rcases hg i D with e |⟨_,e⟩
  ·exact h.rel.blocks i l o D hl (e▸ho)
  ·rw [e] at ho;injection ho with ho;subst ho;trivial
 ·rcases hg i D with e |⟨_,e⟩
  ·exact h.rel.lt i l D hl (e▸hv)
  ·rw [e] at hv;cases hv
 ·rcases hg i D with e |⟨_,e⟩
  ·rcases hg j D with e' |⟨_,e'⟩
   ·exact h.rel.inj i j l m D D hij hl hm (e▸hw) (e'▸hv)
   ·rw [e'] at hv;cases hv
  ·rw [e] at hw;cases hw
 ·rcases h.fresh i l h1 D h3 with h4 |⟨j,hj,m,h4,h5,h6,h7,h8⟩
  ·exact .inl h4
  ·refine .inr ⟨j,hj,m,h4,h5,h6,h7,?_⟩
   rcases hg j D with e |⟨e',_⟩
   ·rw [e];exact h8
   ·omega
theorem c7.perm {E:Env} {aq id:Nat} {ops:Array Oper} {T cO:b5} {H H2:U} {W:List Nat} (BS:∀ md,nL md ops) (hwf:cz H→cz H2)
  (hc:∀ l:List Nat,∃(f g:Nat→Nat) (C:List (Nat×Nat)) (H1:U),A5 ops f g C∧(∀ p∈C,Prec p.1 p.2 l)∧oi E aq (lg ops f g C) T H cO H1 W∧(∀ md,nL md (lg ops f g C))∧H2.n=H1.n∧∀ i,i<H1.n→H2.get i=H1.get i∨(H.n≤i∧H2.get i=some .dead)) :
  c7 E aq (.region id ops true) T H [] .normal cO H2 [] W:=fun wf cu=>by
 have JT:cX W H H2:=by
  obtain ⟨f,g,C,H1,_,_,h3,_,hn,hg⟩:=hc []
  obtain ⟨_,_,hx,_⟩:=h3 wf cu
  have Fb:=hx.n
  have same:∀ i,i<H.n→H2.get i=H1.get i:=fun i hi=>by
   rcases hg i D with e |⟨e,_⟩
   ·exact e
   ·omega
  exact ⟨by omega,fun i hi hm=>(same i hi).trans (hx.keep i hi hm),fun i hi hl=>hx.live i hi (same i hi▸hl),fun i hi hl=>hx.fG i hi (same i hi▸hl)⟩
 refine ⟨JT,hwf wf,fun base φ w a du hf=>aiI fun t=>?_⟩
 have key:∀ md t,∃ yR:Exit→Act→World→Prop,(∀ e a1 w1,yR e a1 w1→Post E base φ w aq H W .normal ⟨cO,H2,[],[]⟩ e a1 w1)∧wpOps E.P ops yR (Region.linearise md ops t) a { w with drawn:=w.drawn+1 }:=by
  intro md t
  have hs:=Qp (md:=md) (ops:=ops) ops.size t (Array.replicate ops.size false) (by simp) (by
   unfold q6
   have:=List.countP_le_length (p:=fun i=>!(Array.replicate ops.size false).getD i true) (l:=List.range ops.size)
   simpa using this)
  obtain ⟨f,g,C,H1,h1,h2,h3,h4,hn,hg⟩:=hc (Region.linearise md ops t)
  obtain ⟨fT,ht,hx,_,hd⟩:=h3 wf cu
  refine ⟨Post E base φ w aq H W .normal ⟨fT,H1,[],[]⟩,fun e a1 w1 ⟨aU,b6,he,oB,er⟩=>⟨aU,b6.forget hx cu hn hg,he,oB.sub ht,er⟩,?_⟩
  obtain ⟨k1,k2⟩:=RX (P:=E.P) (Q:=Post E base φ w aq H W .normal ⟨fT,H1,[],[]⟩) h1 (BS md) _ _ (Array.replicate ops.size false) hs (by simp) (by simp) (fun i hi=>by
   have:=(h1.fg i hi).2
   simp [Array.getD_eq_getD_getElem?,hi,this]) (fun p hp=>.inr (h2 p hp))
  have:=hd base φ w a du (fun i h5 h6=>hf i h5 D) md (h4 md)
  rw [RW] at this
  exact k2 a _ (T6 _ _ _ a _ this k1)
 unfold Region.schedule
 split
 ·exact key _ _
 ·split <;> exact key _ _
end Go.Am
namespace Go.Proofs.YtbehemdcaiigeaaGreatDoor
open Go Go.Am
theorem mm:E.ul 363=some (.map 5 3):=av
theorem mo:E.ul 5=some (.int .u8):=av
theorem ai3:E.zero 3=some (.int .i64 0):=av
def gA (c:Int):Int:=if c=42 then 4 else if c=43 then 5 else if c=63 then 6 else 0
theorem Ap {H:U} {b ak:Nat} {k1 k2 jh v1 v2 v3 c:Int} {n1 n2 rP:Nat} (hb:H.get b=some (.map [⟨.int .u8 k1,.int .i64 v1,n1⟩,⟨.int .u8 k2,.int .i64 v2,n2⟩,⟨.int .u8 jh,.int .i64 v3,rP⟩] ak)) (hk:(if c=k1 then v1 else if c=k2 then v2 else if c=jh then v3 else 0)=gA c) :
  qN E 363 (.map (some b)) (.int .u8 c) false H=some (.int .i64 (gA c),H,[],[b]):=by
 rw [← hk]
 have hd:rL (.int .u8) (.int .u8 c)=true:=rfl
 simp only [qN,mm,mo,ai3,hd,cond_true,hb,sD,decide_true]
 by_cases h1:c=k1
 ·simp only [decide_eq_true h1,cond_true,if_pos h1,cond_false]
 ·by_cases h2:c=k2
  ·simp only [decide_eq_false h1,decide_eq_true h2,cond_true,if_neg h1,if_pos h2,cond_false]
  ·by_cases h3:c=jh
   ·simp only [decide_eq_false h1,decide_eq_false h2,decide_eq_true h3,cond_true,if_neg h1,if_neg h2,if_pos h3,cond_false]
   ·simp only [decide_eq_false h1,decide_eq_false h2,decide_eq_false h3,cond_true,if_neg h1,if_neg h2,if_neg h3,cond_false];rfl
theorem Ao (c:Int):(if c=42 then (4:Int) else if c=43 then 5 else if c=63 then 6 else 0)=gA c∧(if c=42 then (4:Int) else if c=63 then 6 else if c=43 then 5 else 0)=gA c∧(if c=43 then (5:Int) else if c=42 then 4 else if c=63 then 6 else 0)=gA c∧
  (if c=43 then (5:Int) else if c=63 then 6 else if c=42 then 4 else 0)=gA c∧(if c=63 then (6:Int) else if c=42 then 4 else if c=43 then 5 else 0)=gA c∧(if c=63 then (6:Int) else if c=43 then 5 else if c=42 then 4 else 0)=gA c:=by
 unfold gA
 by_cases h1:c=42
 ·subst h1;decide
 ·by_cases h2:c=43
  ·subst h2;decide
  ·by_cases h3:c=63
   ·subst h3;decide
   ·simp only [if_neg h1,if_neg h2,if_neg h3,and_self]
theorem zL {H:U} {p:Nat} {m r c o:df} (hp:p<H.n):∀ i,i<(news ((news H [m,r]).set p c) [o]).n→(news ((news H [.dead,r]).set p c) [o]).get i=(news ((news H [m,r]).set p c) [o]).get i∨(H.n≤i∧(news ((news H [.dead,r]).set p c) [o]).get i=some .dead):=by
 intro i _
 have n2:∀ m,(H.new m).n=H.n+1:=fun _=>rfl
 simp only [news,U.jn,U.kr] at *
 simp only [show ∀ m,(((H.new m).new r).set p c).n=H.n+2 from fun _=>rfl,n2]
 by_cases h1:H.n+2=i
 ·left;rw [if_pos h1,if_pos h1]
 ·rw [if_neg h1,if_neg h1]
  by_cases h2:p=i
  ·left;rw [if_pos h2,if_pos h2]
  ·rw [if_neg h2,if_neg h2]
   by_cases h3:H.n+1=i
   ·left;rw [if_pos h3,if_pos h3]
   ·rw [if_neg h3,if_neg h3]
    by_cases h4:H.n=i
    ·right;rw [if_pos h4];exact ⟨D,rfl⟩
    ·left;rw [if_neg h4,if_neg h4]
theorem mT {H H':U} {l:List df} {k:Nat} {es:List MapEntry} {ak:Nat} (h:l[k]?=some (.map es ak)):bZ (news H l) H' [H.n+k]=true:=by
 have hk:=(List.getElem?_eq_some_iff.1 h).1
 have e1:Nat.blt (H.n+k) (news H l).n=true:=by rw [bU];simpa [Nat.blt_eq] using hk
 simp only [bZ,List.all_cons,List.all_nil,e1,cond_true,aL l H k _ h,fG,Bool.and_true]
def opsOf:Code→Array Oper
 |.region _ ops _=>ops
 |_=>#[]
def xF:Code→Nat
 |.region id _ _=>id
 |_=>0
noncomputable def rY:Code:=cN [1,1,0,0,0,1,0,0] (cH Tryz.f241)
noncomputable def nx:Array Oper:=opsOf rY
theorem afw:rY=.region (xF rY) nx true:=av
theorem St:nx.size=20:=av
theorem afD:(nx.all fun o=>o.guard.isNone)=true:=av
def n5 (a b c:Nat) (k:Nat):Nat:=if k=2 then a else if k=3 then b else if k=4 then c else k
def n6 (a b c:Nat) (i:Nat):Nat:=if i=a then 2 else if i=b then 3 else if i=c then 4 else i
theorem Ac (a b c:Nat) (h:(∀ k,k<20→n6 a b c (n5 a b c k)=k∧n5 a b c k<20)∧(∀ k,k<20→n5 a b c (n6 a b c k)=k∧n6 a b c k<20)∧a≠b∧b≠c):A5 nx (n5 a b c) (n6 a b c) [(a,b),(b,c)]:=by
 refine ⟨fun k hk=>?_,fun k hk=>?_,fun i hi o ho=>?_,fun p hp=>?_⟩
 ·rw [St] at hk ⊢;exact h.1 k hk
 ·rw [St] at hk ⊢;exact h.2.1 k hk
 ·have:=afD
  rw [Array.all_eq_true_iff_forall_mem] at this
  have:=this o (Array.mem_of_getElem? ho)
  simpa using this
 ·simp only [List.mem_cons,ai,or_false] at hp
  rcases hp with rfl |rfl
  ·exact h.2.2.1
  ·exact h.2.2.2
theorem afM:∀ md,nL md nx:=by
 intro md
 cases md
 ·exact kB av
 ·exact kB av
 ·exact kB av
theorem adZ (l:List Nat):(Prec 2 3 l∧Prec 3 4 l)∨(Prec 2 4 l∧Prec 4 3 l)∨(Prec 3 2 l∧Prec 2 4 l)∨(Prec 3 4 l∧Prec 4 2 l)∨(Prec 4 2 l∧Prec 2 3 l)∨(Prec 4 3 l∧Prec 3 2 l):=by
 rcases Prec.total (x:=2) (y:=3) (by decide) l with h1 |h1 <;> rcases Prec.total (x:=3) (y:=4) (by decide) l with h2 |h2 <;> rcases Prec.total (x:=2) (y:=4) (by decide) l with h3 |h3
 ·exact .inl ⟨h1,h2⟩
 ·exact .inl ⟨h1,h2⟩
 ·exact .inr (.inl ⟨h3,h2⟩)
 ·exact .inr (.inr (.inr (.inr (.inl ⟨h3,h1⟩))))
 ·exact .inr (.inr (.inl ⟨h1,h3⟩))
 ·exact .inr (.inr (.inr (.inl ⟨h2,h3⟩)))
 ·exact .inr (.inr (.inr (.inr (.inr ⟨h2,h1⟩))))
 ·exact .inr (.inr (.inr (.inr (.inr ⟨h2,h1⟩))))
theorem Af {a b c:Nat} {l:List Nat} (h1:Prec a b l) (h2:Prec b c l):∀ p∈[(a,b),(b,c)],Prec p.1 p.2 l:=fun p hp=>by
 simp only [List.mem_cons,ai,or_false] at hp
 rcases hp with rfl |rfl
 ·exact h1
 ·exact h2
noncomputable abbrev vn s at_ dp nd w wp:=([.string s,J at_,J dp,J (IntKind.i64.wrap (nd+1)),gO w wp]:List Value)
theorem Av (p:Nat) (s:ByteArray) (at_:Int) (dp:Int) (nd:Int) (w:Nat) (wp:Nat) (k:Int) (r:Nat) {H:U} (y:aa E G H) (kp:H.get p=some (fM s at_ dp nd (gO w wp))) (bY:G.n≤p) (hs:(s.size:Int)<100000) (a0:0≤at_) (a1:at_≤s.size) (hw:w=0∨w=1):bE E 203 [pt p 0,J k,sc r 0 1 3] H (.ret (pt H.n 0)) (news (H.set p (O (vn s at_ dp nd w wp) 255)) [O (mP k (IntKind.i64.wrap (nd+1))++[sc r 0 1 3]) 305]) [p]:=by
 have gi:=y.wf.lt kp
 obtain ⟨aS,e1⟩:∃ ao,ao=H.set p (O (iu s at_ dp (IntKind.i64.wrap (nd+1)) (gO w wp)) 255):=⟨_,rfl⟩
 have y1:aa E G aS:=e1▸y.set _ D D
 have cI:aS.n=H.n+0:=by rw [e1,U.cB] <;> rfl
 have g1:=y1.n
 have bV:=bC e1
 have Vr:=bE.Ll ok (args:=[pt p 0,J k,sc r 0 1 3]) (H:=H) (f:=300) (hs:=[aB 3,dP (J nd) H,aB 2,dP cZ aS,aB 3,dP (J (IntKind.i64.wrap (nd+1))) aS,aB 3]) (v:=(pt (aS.n+0) 0)) (H':=(news aS [O ((mP k (IntKind.i64.wrap (nd+1)))++[sc r 0 1 3]) 305])) (W:=[p]) Ya Yb (bn (ag 3 aJ kp)<|bn ((st dL kp rfl rfl).trans (congrArg some e1.symm):bp E 3 p 3 (J (IntKind.i64.wrap (nd+1))) H=some aS)<|bn (ag 3 aJ bV)<|trivial) av
 subst e1
 exact Vr.norm (V:=[p]) (fun q hq=>.inl (by simpa using hq))
noncomputable abbrev zT H nb:=news H [.map [⟨ab 42,J 4,0⟩,⟨ab 43,J 5,1⟩,⟨ab 63,J 6,2⟩] 3,O [pt nb 0] 185]
noncomputable abbrev FR (H:U) nb p s at_ dp nd w wp:=news ((news H [.map [⟨ab 42,J 4,0⟩,⟨ab 43,J 5,1⟩,⟨ab 63,J 6,2⟩] 3,O [pt nb 0] 185]).set p (O (vn s at_ dp nd w wp) 255)) [O (mP (gA (ac s at_)) (IntKind.i64.wrap (nd+1))++[sc (H.n+1) 0 1 3]) 305]
noncomputable abbrev s4 H:=news H [.map [⟨ab 42,J 4,0⟩] 1]
noncomputable abbrev CN H:=news H [.map [⟨ab 42,J 4,0⟩,⟨ab 43,J 5,1⟩] 2]
noncomputable abbrev v8 H:=news H [.map [⟨ab 42,J 4,0⟩,⟨ab 43,J 5,1⟩,⟨ab 63,J 6,2⟩] 3]
noncomputable abbrev qP H:=news H [.map [] 0]
theorem afx (p:Nat) (nb:Nat) (s:ByteArray) (at_ dp nd:Int) (w wp:Nat) {H:U} (y:aa E G H) (kp:H.get p=some (fM s at_ dp nd (gO w wp))) (bY:G.n≤p) (hs:(s.size:Int)<100000) (a0:0≤at_) (a1:at_≤s.size) (hw:w=0∨w=1) (hlt:at_<s.size):oi E 32 (lg nx (n5 2 3 4) (n6 2 3 4) [(2,3),(3,4)]) (bl [(0,pt p 0),(3,pt nb 0)]) H (bl [(0,pt p 0),(3,pt ((zT H nb).n) 0)]) (FR H nb p s at_ dp nd w wp) [H.n+0,H.n+0,H.n+0,p]:=by
 have gi:=y.wf.lt kp
 exact oi.qV ok (f:=1) (id:=xF rY) (hs:=[aB 1,.val cZ (s4 H) [H.n+0] [H.n+0],.val cZ (CN H) [H.n+0] [H.n+0],.val cZ (v8 H) [H.n+0] [H.n+0],aB 3,dP (.string s) (v8 H),aB 2,dP (J at_) (v8 H),.ak,.val (J (gA (ac s at_))) (v8 H) [] [H.n+0],aB 1,.call (pt ((zT H nb).n) 0) (FR H nb p s at_ dp nd w wp) [p],aB 0]) (bn (aT:(H.n+0)<H.n∨H.n≤(H.n+0))<|bn (aT:(H.n+0)<H.n∨H.n≤(H.n+0))<|bn (aT:(H.n+0)<H.n∨H.n≤(H.n+0))<|bn (aT:(H.n+0)≠p)<|bn (aT:(H.n+0)≠p)<|bn (aT:(H.n+0)≠p)<|bn (aT:(H.n+0)≠p)<|bn (aT:(H.n+0)≠p)<|bn (aT:(H.n+0)≠p)<|bn (mM mm mo rfl rfl rfl rfl:jO E 363 (.map (some (H.n+0))) (ab 42) (J 4) (qP H)=some (cZ,s4 H,[H.n+0],[H.n+0]))<|bn (mT rfl:bZ (qP H) (s4 H) [H.n+0]=true)<|bn (mM mm mo rfl rfl rfl rfl:jO E 363 (.map (some (H.n+0))) (ab 43) (J 5) (s4 H)=some (cZ,CN H,[H.n+0],[H.n+0]))<|bn (mT rfl:bZ (s4 H) (CN H) [H.n+0]=true)<|bn (mM mm mo rfl rfl rfl rfl:jO E 363 (.map (some (H.n+0))) (ab 63) (J 6) (CN H)=some (cZ,v8 H,[H.n+0],[H.n+0]))<|bn (mT rfl:bZ (CN H) (v8 H) [H.n+0]=true)<|bn (ag 0 ct (y.old kp [.map [⟨ab 42,J 4,0⟩,⟨ab 43,J 5,1⟩,⟨ab 63,J 6,2⟩] 3]))<|bn (ag 1 aJ (y.old kp [.map [⟨ab 42,J 4,0⟩,⟨ab 43,J 5,1⟩,⟨ab 63,J 6,2⟩] 3]))<|bn (by omega:0≤at_)<|bn (by omega:at_<(s.size:Int))<|bn (Ap (aL [.map [⟨ab 42,J 4,0⟩,⟨ab 43,J 5,1⟩,⟨ab 63,J 6,2⟩] 3] H 0 _ rfl) (Ao (ac s at_)).1:qN E 363 (.map (some (H.n+0))) (ab (ac s at_)) false (v8 H)=some (J (gA (ac s at_)),v8 H,[],[H.n+0]))<|bn (Av p s at_ dp nd w wp (gA (ac s at_)) (H.n+1) (y.news [.map [⟨ab 42,J 4,0⟩,⟨ab 43,J 5,1⟩,⟨ab 63,J 6,2⟩] 3,O [pt nb 0] 185]) (y.old kp [.map [⟨ab 42,J 4,0⟩,⟨ab 43,J 5,1⟩,⟨ab 63,J 6,2⟩] 3,O [pt nb 0] 185]) D hs a0 D hw:bE E 203 [pt p 0,J (gA (ac s at_)),sc (H.n+1) 0 1 3] (zT H nb) (.ret (pt ((zT H nb).n) 0)) (FR H nb p s at_ dp nd w wp) [p])<|bn (cU (y.news [.map [⟨ab 42,J 4,0⟩,⟨ab 43,J 5,1⟩,⟨ab 63,J 6,2⟩] 3,O [pt nb 0] 185]) (y.old kp [.map [⟨ab 42,J 4,0⟩,⟨ab 43,J 5,1⟩,⟨ab 63,J 6,2⟩] 3,O [pt nb 0] 185]):bZ (zT H nb) (FR H nb p s at_ dp nd w wp) [p]=true)<|q4 (pt p 0)<|q4 (pt ((zT H nb).n) 0)<|trivial) av rfl
theorem afE:∀ md,nL md (lg nx (n5 2 3 4) (n6 2 3 4) [(2,3),(3,4)]):=by
 intro md
 cases md
 ·exact kB av
 ·exact kB av
 ·exact kB av
noncomputable abbrev zY H nb:=news H [.map [⟨ab 42,J 4,0⟩,⟨ab 63,J 6,1⟩,⟨ab 43,J 5,2⟩] 3,O [pt nb 0] 185]
noncomputable abbrev FU (H:U) nb p s at_ dp nd w wp:=news ((news H [.map [⟨ab 42,J 4,0⟩,⟨ab 63,J 6,1⟩,⟨ab 43,J 5,2⟩] 3,O [pt nb 0] 185]).set p (O (vn s at_ dp nd w wp) 255)) [O (mP (gA (ac s at_)) (IntKind.i64.wrap (nd+1))++[sc (H.n+1) 0 1 3]) 305]
noncomputable abbrev CO H:=news H [.map [⟨ab 42,J 4,0⟩,⟨ab 63,J 6,1⟩] 2]
noncomputable abbrev v9 H:=news H [.map [⟨ab 42,J 4,0⟩,⟨ab 63,J 6,1⟩,⟨ab 43,J 5,2⟩] 3]
theorem afy (p:Nat) (nb:Nat) (s:ByteArray) (at_ dp nd:Int) (w wp:Nat) {H:U} (y:aa E G H) (kp:H.get p=some (fM s at_ dp nd (gO w wp))) (bY:G.n≤p) (hs:(s.size:Int)<100000) (a0:0≤at_) (a1:at_≤s.size) (hw:w=0∨w=1) (hlt:at_<s.size):oi E 32 (lg nx (n5 2 4 3) (n6 2 4 3) [(2,4),(4,3)]) (bl [(0,pt p 0),(3,pt nb 0)]) H (bl [(0,pt p 0),(3,pt ((zY H nb).n) 0)]) (FU H nb p s at_ dp nd w wp) [H.n+0,H.n+0,H.n+0,p]:=by
 have gi:=y.wf.lt kp
 exact oi.qV ok (f:=1) (id:=xF rY) (hs:=[aB 1,.val cZ (s4 H) [H.n+0] [H.n+0],.val cZ (CO H) [H.n+0] [H.n+0],.val cZ (v9 H) [H.n+0] [H.n+0],aB 3,dP (.string s) (v9 H),aB 2,dP (J at_) (v9 H),.ak,.val (J (gA (ac s at_))) (v9 H) [] [H.n+0],aB 1,.call (pt ((zY H nb).n) 0) (FU H nb p s at_ dp nd w wp) [p],aB 0]) (bn (aT:(H.n+0)<H.n∨H.n≤(H.n+0))<|bn (aT:(H.n+0)<H.n∨H.n≤(H.n+0))<|bn (aT:(H.n+0)<H.n∨H.n≤(H.n+0))<|bn (aT:(H.n+0)≠p)<|bn (aT:(H.n+0)≠p)<|bn (aT:(H.n+0)≠p)<|bn (aT:(H.n+0)≠p)<|bn (aT:(H.n+0)≠p)<|bn (aT:(H.n+0)≠p)<|bn (mM mm mo rfl rfl rfl rfl:jO E 363 (.map (some (H.n+0))) (ab 42) (J 4) (qP H)=some (cZ,s4 H,[H.n+0],[H.n+0]))<|bn (mT rfl:bZ (qP H) (s4 H) [H.n+0]=true)<|bn (mM mm mo rfl rfl rfl rfl:jO E 363 (.map (some (H.n+0))) (ab 63) (J 6) (s4 H)=some (cZ,CO H,[H.n+0],[H.n+0]))<|bn (mT rfl:bZ (s4 H) (CO H) [H.n+0]=true)<|bn (mM mm mo rfl rfl rfl rfl:jO E 363 (.map (some (H.n+0))) (ab 43) (J 5) (CO H)=some (cZ,v9 H,[H.n+0],[H.n+0]))<|bn (mT rfl:bZ (CO H) (v9 H) [H.n+0]=true)<|bn (ag 0 ct (y.old kp [.map [⟨ab 42,J 4,0⟩,⟨ab 63,J 6,1⟩,⟨ab 43,J 5,2⟩] 3]))<|bn (ag 1 aJ (y.old kp [.map [⟨ab 42,J 4,0⟩,⟨ab 63,J 6,1⟩,⟨ab 43,J 5,2⟩] 3]))<|bn (by omega:0≤at_)<|bn (by omega:at_<(s.size:Int))<|bn (Ap (aL [.map [⟨ab 42,J 4,0⟩,⟨ab 63,J 6,1⟩,⟨ab 43,J 5,2⟩] 3] H 0 _ rfl) (Ao (ac s at_)).2.1:qN E 363 (.map (some (H.n+0))) (ab (ac s at_)) false (v9 H)=some (J (gA (ac s at_)),v9 H,[],[H.n+0]))<|bn (Av p s at_ dp nd w wp (gA (ac s at_)) (H.n+1) (y.news [.map [⟨ab 42,J 4,0⟩,⟨ab 63,J 6,1⟩,⟨ab 43,J 5,2⟩] 3,O [pt nb 0] 185]) (y.old kp [.map [⟨ab 42,J 4,0⟩,⟨ab 63,J 6,1⟩,⟨ab 43,J 5,2⟩] 3,O [pt nb 0] 185]) D hs a0 D hw:bE E 203 [pt p 0,J (gA (ac s at_)),sc (H.n+1) 0 1 3] (zY H nb) (.ret (pt ((zY H nb).n) 0)) (FU H nb p s at_ dp nd w wp) [p])<|bn (cU (y.news [.map [⟨ab 42,J 4,0⟩,⟨ab 63,J 6,1⟩,⟨ab 43,J 5,2⟩] 3,O [pt nb 0] 185]) (y.old kp [.map [⟨ab 42,J 4,0⟩,⟨ab 63,J 6,1⟩,⟨ab 43,J 5,2⟩] 3,O [pt nb 0] 185]):bZ (zY H nb) (FU H nb p s at_ dp nd w wp) [p]=true)<|q4 (pt p 0)<|q4 (pt ((zY H nb).n) 0)<|trivial) av rfl
theorem afF:∀ md,nL md (lg nx (n5 2 4 3) (n6 2 4 3) [(2,4),(4,3)]):=by
 intro md
 cases md
 ·exact kB av
 ·exact kB av
 ·exact kB av
noncomputable abbrev zU H nb:=news H [.map [⟨ab 43,J 5,0⟩,⟨ab 42,J 4,1⟩,⟨ab 63,J 6,2⟩] 3,O [pt nb 0] 185]
noncomputable abbrev FP (H:U) nb p s at_ dp nd w wp:=news ((news H [.map [⟨ab 43,J 5,0⟩,⟨ab 42,J 4,1⟩,⟨ab 63,J 6,2⟩] 3,O [pt nb 0] 185]).set p (O (vn s at_ dp nd w wp) 255)) [O (mP (gA (ac s at_)) (IntKind.i64.wrap (nd+1))++[sc (H.n+1) 0 1 3]) 305]
noncomputable abbrev s0 H:=news H [.map [⟨ab 43,J 5,0⟩] 1]
noncomputable abbrev CJ H:=news H [.map [⟨ab 43,J 5,0⟩,⟨ab 42,J 4,1⟩] 2]
noncomputable abbrev vY H:=news H [.map [⟨ab 43,J 5,0⟩,⟨ab 42,J 4,1⟩,⟨ab 63,J 6,2⟩] 3]
theorem afz (p:Nat) (nb:Nat) (s:ByteArray) (at_ dp nd:Int) (w wp:Nat) {H:U} (y:aa E G H) (kp:H.get p=some (fM s at_ dp nd (gO w wp))) (bY:G.n≤p) (hs:(s.size:Int)<100000) (a0:0≤at_) (a1:at_≤s.size) (hw:w=0∨w=1) (hlt:at_<s.size):oi E 32 (lg nx (n5 3 2 4) (n6 3 2 4) [(3,2),(2,4)]) (bl [(0,pt p 0),(3,pt nb 0)]) H (bl [(0,pt p 0),(3,pt ((zU H nb).n) 0)]) (FP H nb p s at_ dp nd w wp) [H.n+0,H.n+0,H.n+0,p]:=by
 have gi:=y.wf.lt kp
 exact oi.qV ok (f:=1) (id:=xF rY) (hs:=[aB 1,.val cZ (s0 H) [H.n+0] [H.n+0],.val cZ (CJ H) [H.n+0] [H.n+0],.val cZ (vY H) [H.n+0] [H.n+0],aB 3,dP (.string s) (vY H),aB 2,dP (J at_) (vY H),.ak,.val (J (gA (ac s at_))) (vY H) [] [H.n+0],aB 1,.call (pt ((zU H nb).n) 0) (FP H nb p s at_ dp nd w wp) [p],aB 0]) (bn (aT:(H.n+0)<H.n∨H.n≤(H.n+0))<|bn (aT:(H.n+0)<H.n∨H.n≤(H.n+0))<|bn (aT:(H.n+0)<H.n∨H.n≤(H.n+0))<|bn (aT:(H.n+0)≠p)<|bn (aT:(H.n+0)≠p)<|bn (aT:(H.n+0)≠p)<|bn (aT:(H.n+0)≠p)<|bn (aT:(H.n+0)≠p)<|bn (aT:(H.n+0)≠p)<|bn (mM mm mo rfl rfl rfl rfl:jO E 363 (.map (some (H.n+0))) (ab 43) (J 5) (qP H)=some (cZ,s0 H,[H.n+0],[H.n+0]))<|bn (mT rfl:bZ (qP H) (s0 H) [H.n+0]=true)<|bn (mM mm mo rfl rfl rfl rfl:jO E 363 (.map (some (H.n+0))) (ab 42) (J 4) (s0 H)=some (cZ,CJ H,[H.n+0],[H.n+0]))<|bn (mT rfl:bZ (s0 H) (CJ H) [H.n+0]=true)<|bn (mM mm mo rfl rfl rfl rfl:jO E 363 (.map (some (H.n+0))) (ab 63) (J 6) (CJ H)=some (cZ,vY H,[H.n+0],[H.n+0]))<|bn (mT rfl:bZ (CJ H) (vY H) [H.n+0]=true)<|bn (ag 0 ct (y.old kp [.map [⟨ab 43,J 5,0⟩,⟨ab 42,J 4,1⟩,⟨ab 63,J 6,2⟩] 3]))<|bn (ag 1 aJ (y.old kp [.map [⟨ab 43,J 5,0⟩,⟨ab 42,J 4,1⟩,⟨ab 63,J 6,2⟩] 3]))<|bn (by omega:0≤at_)<|bn (by omega:at_<(s.size:Int))<|bn (Ap (aL [.map [⟨ab 43,J 5,0⟩,⟨ab 42,J 4,1⟩,⟨ab 63,J 6,2⟩] 3] H 0 _ rfl) (Ao (ac s at_)).2.2.1:qN E 363 (.map (some (H.n+0))) (ab (ac s at_)) false (vY H)=some (J (gA (ac s at_)),vY H,[],[H.n+0]))<|bn (Av p s at_ dp nd w wp (gA (ac s at_)) (H.n+1) (y.news [.map [⟨ab 43,J 5,0⟩,⟨ab 42,J 4,1⟩,⟨ab 63,J 6,2⟩] 3,O [pt nb 0] 185]) (y.old kp [.map [⟨ab 43,J 5,0⟩,⟨ab 42,J 4,1⟩,⟨ab 63,J 6,2⟩] 3,O [pt nb 0] 185]) D hs a0 D hw:bE E 203 [pt p 0,J (gA (ac s at_)),sc (H.n+1) 0 1 3] (zU H nb) (.ret (pt ((zU H nb).n) 0)) (FP H nb p s at_ dp nd w wp) [p])<|bn (cU (y.news [.map [⟨ab 43,J 5,0⟩,⟨ab 42,J 4,1⟩,⟨ab 63,J 6,2⟩] 3,O [pt nb 0] 185]) (y.old kp [.map [⟨ab 43,J 5,0⟩,⟨ab 42,J 4,1⟩,⟨ab 63,J 6,2⟩] 3,O [pt nb 0] 185]):bZ (zU H nb) (FP H nb p s at_ dp nd w wp) [p]=true)<|q4 (pt p 0)<|q4 (pt ((zU H nb).n) 0)<|trivial) av rfl
theorem afG:∀ md,nL md (lg nx (n5 3 2 4) (n6 3 2 4) [(3,2),(2,4)]):=by
 intro md
 cases md
 ·exact kB av
 ·exact kB av
 ·exact kB av
noncomputable abbrev zV H nb:=news H [.map [⟨ab 43,J 5,0⟩,⟨ab 63,J 6,1⟩,⟨ab 42,J 4,2⟩] 3,O [pt nb 0] 185]
noncomputable abbrev FQ (H:U) nb p s at_ dp nd w wp:=news ((news H [.map [⟨ab 43,J 5,0⟩,⟨ab 63,J 6,1⟩,⟨ab 42,J 4,2⟩] 3,O [pt nb 0] 185]).set p (O (vn s at_ dp nd w wp) 255)) [O (mP (gA (ac s at_)) (IntKind.i64.wrap (nd+1))++[sc (H.n+1) 0 1 3]) 305]
noncomputable abbrev CK H:=news H [.map [⟨ab 43,J 5,0⟩,⟨ab 63,J 6,1⟩] 2]
noncomputable abbrev vZ H:=news H [.map [⟨ab 43,J 5,0⟩,⟨ab 63,J 6,1⟩,⟨ab 42,J 4,2⟩] 3]
theorem afA (p:Nat) (nb:Nat) (s:ByteArray) (at_ dp nd:Int) (w wp:Nat) {H:U} (y:aa E G H) (kp:H.get p=some (fM s at_ dp nd (gO w wp))) (bY:G.n≤p) (hs:(s.size:Int)<100000) (a0:0≤at_) (a1:at_≤s.size) (hw:w=0∨w=1) (hlt:at_<s.size):oi E 32 (lg nx (n5 3 4 2) (n6 3 4 2) [(3,4),(4,2)]) (bl [(0,pt p 0),(3,pt nb 0)]) H (bl [(0,pt p 0),(3,pt ((zV H nb).n) 0)]) (FQ H nb p s at_ dp nd w wp) [H.n+0,H.n+0,H.n+0,p]:=by
 have gi:=y.wf.lt kp
 exact oi.qV ok (f:=1) (id:=xF rY) (hs:=[aB 1,.val cZ (s0 H) [H.n+0] [H.n+0],.val cZ (CK H) [H.n+0] [H.n+0],.val cZ (vZ H) [H.n+0] [H.n+0],aB 3,dP (.string s) (vZ H),aB 2,dP (J at_) (vZ H),.ak,.val (J (gA (ac s at_))) (vZ H) [] [H.n+0],aB 1,.call (pt ((zV H nb).n) 0) (FQ H nb p s at_ dp nd w wp) [p],aB 0]) (bn (aT:(H.n+0)<H.n∨H.n≤(H.n+0))<|bn (aT:(H.n+0)<H.n∨H.n≤(H.n+0))<|bn (aT:(H.n+0)<H.n∨H.n≤(H.n+0))<|bn (aT:(H.n+0)≠p)<|bn (aT:(H.n+0)≠p)<|bn (aT:(H.n+0)≠p)<|bn (aT:(H.n+0)≠p)<|bn (aT:(H.n+0)≠p)<|bn (aT:(H.n+0)≠p)<|bn (mM mm mo rfl rfl rfl rfl:jO E 363 (.map (some (H.n+0))) (ab 43) (J 5) (qP H)=some (cZ,s0 H,[H.n+0],[H.n+0]))<|bn (mT rfl:bZ (qP H) (s0 H) [H.n+0]=true)<|bn (mM mm mo rfl rfl rfl rfl:jO E 363 (.map (some (H.n+0))) (ab 63) (J 6) (s0 H)=some (cZ,CK H,[H.n+0],[H.n+0]))<|bn (mT rfl:bZ (s0 H) (CK H) [H.n+0]=true)<|bn (mM mm mo rfl rfl rfl rfl:jO E 363 (.map (some (H.n+0))) (ab 42) (J 4) (CK H)=some (cZ,vZ H,[H.n+0],[H.n+0]))<|bn (mT rfl:bZ (CK H) (vZ H) [H.n+0]=true)<|bn (ag 0 ct (y.old kp [.map [⟨ab 43,J 5,0⟩,⟨ab 63,J 6,1⟩,⟨ab 42,J 4,2⟩] 3]))<|bn (ag 1 aJ (y.old kp [.map [⟨ab 43,J 5,0⟩,⟨ab 63,J 6,1⟩,⟨ab 42,J 4,2⟩] 3]))<|bn (by omega:0≤at_)<|bn (by omega:at_<(s.size:Int))<|bn (Ap (aL [.map [⟨ab 43,J 5,0⟩,⟨ab 63,J 6,1⟩,⟨ab 42,J 4,2⟩] 3] H 0 _ rfl) (Ao (ac s at_)).2.2.2.1:qN E 363 (.map (some (H.n+0))) (ab (ac s at_)) false (vZ H)=some (J (gA (ac s at_)),vZ H,[],[H.n+0]))<|bn (Av p s at_ dp nd w wp (gA (ac s at_)) (H.n+1) (y.news [.map [⟨ab 43,J 5,0⟩,⟨ab 63,J 6,1⟩,⟨ab 42,J 4,2⟩] 3,O [pt nb 0] 185]) (y.old kp [.map [⟨ab 43,J 5,0⟩,⟨ab 63,J 6,1⟩,⟨ab 42,J 4,2⟩] 3,O [pt nb 0] 185]) D hs a0 D hw:bE E 203 [pt p 0,J (gA (ac s at_)),sc (H.n+1) 0 1 3] (zV H nb) (.ret (pt ((zV H nb).n) 0)) (FQ H nb p s at_ dp nd w wp) [p])<|bn (cU (y.news [.map [⟨ab 43,J 5,0⟩,⟨ab 63,J 6,1⟩,⟨ab 42,J 4,2⟩] 3,O [pt nb 0] 185]) (y.old kp [.map [⟨ab 43,J 5,0⟩,⟨ab 63,J 6,1⟩,⟨ab 42,J 4,2⟩] 3,O [pt nb 0] 185]):bZ (zV H nb) (FQ H nb p s at_ dp nd w wp) [p]=true)<|q4 (pt p 0)<|q4 (pt ((zV H nb).n) 0)<|trivial) av rfl
theorem afH:∀ md,nL md (lg nx (n5 3 4 2) (n6 3 4 2) [(3,4),(4,2)]):=by
 intro md
 cases md
 ·exact kB av
 ·exact kB av
 ·exact kB av
noncomputable abbrev zW H nb:=news H [.map [⟨ab 63,J 6,0⟩,⟨ab 42,J 4,1⟩,⟨ab 43,J 5,2⟩] 3,O [pt nb 0] 185]
noncomputable abbrev FS (H:U) nb p s at_ dp nd w wp:=news ((news H [.map [⟨ab 63,J 6,0⟩,⟨ab 42,J 4,1⟩,⟨ab 43,J 5,2⟩] 3,O [pt nb 0] 185]).set p (O (vn s at_ dp nd w wp) 255)) [O (mP (gA (ac s at_)) (IntKind.i64.wrap (nd+1))++[sc (H.n+1) 0 1 3]) 305]
noncomputable abbrev s3 H:=news H [.map [⟨ab 63,J 6,0⟩] 1]
noncomputable abbrev CL H:=news H [.map [⟨ab 63,J 6,0⟩,⟨ab 42,J 4,1⟩] 2]
noncomputable abbrev v5 H:=news H [.map [⟨ab 63,J 6,0⟩,⟨ab 42,J 4,1⟩,⟨ab 43,J 5,2⟩] 3]
theorem afB (p:Nat) (nb:Nat) (s:ByteArray) (at_ dp nd:Int) (w wp:Nat) {H:U} (y:aa E G H) (kp:H.get p=some (fM s at_ dp nd (gO w wp))) (bY:G.n≤p) (hs:(s.size:Int)<100000) (a0:0≤at_) (a1:at_≤s.size) (hw:w=0∨w=1) (hlt:at_<s.size):oi E 32 (lg nx (n5 4 2 3) (n6 4 2 3) [(4,2),(2,3)]) (bl [(0,pt p 0),(3,pt nb 0)]) H (bl [(0,pt p 0),(3,pt ((zW H nb).n) 0)]) (FS H nb p s at_ dp nd w wp) [H.n+0,H.n+0,H.n+0,p]:=by
 have gi:=y.wf.lt kp
 exact oi.qV ok (f:=1) (id:=xF rY) (hs:=[aB 1,.val cZ (s3 H) [H.n+0] [H.n+0],.val cZ (CL H) [H.n+0] [H.n+0],.val cZ (v5 H) [H.n+0] [H.n+0],aB 3,dP (.string s) (v5 H),aB 2,dP (J at_) (v5 H),.ak,.val (J (gA (ac s at_))) (v5 H) [] [H.n+0],aB 1,.call (pt ((zW H nb).n) 0) (FS H nb p s at_ dp nd w wp) [p],aB 0]) (bn (aT:(H.n+0)<H.n∨H.n≤(H.n+0))<|bn (aT:(H.n+0)<H.n∨H.n≤(H.n+0))<|bn (aT:(H.n+0)<H.n∨H.n≤(H.n+0))<|bn (aT:(H.n+0)≠p)<|bn (aT:(H.n+0)≠p)<|bn (aT:(H.n+0)≠p)<|bn (aT:(H.n+0)≠p)<|bn (aT:(H.n+0)≠p)<|bn (aT:(H.n+0)≠p)<|bn (mM mm mo rfl rfl rfl rfl:jO E 363 (.map (some (H.n+0))) (ab 63) (J 6) (qP H)=some (cZ,s3 H,[H.n+0],[H.n+0]))<|bn (mT rfl:bZ (qP H) (s3 H) [H.n+0]=true)<|bn (mM mm mo rfl rfl rfl rfl:jO E 363 (.map (some (H.n+0))) (ab 42) (J 4) (s3 H)=some (cZ,CL H,[H.n+0],[H.n+0]))<|bn (mT rfl:bZ (s3 H) (CL H) [H.n+0]=true)<|bn (mM mm mo rfl rfl rfl rfl:jO E 363 (.map (some (H.n+0))) (ab 43) (J 5) (CL H)=some (cZ,v5 H,[H.n+0],[H.n+0]))<|bn (mT rfl:bZ (CL H) (v5 H) [H.n+0]=true)<|bn (ag 0 ct (y.old kp [.map [⟨ab 63,J 6,0⟩,⟨ab 42,J 4,1⟩,⟨ab 43,J 5,2⟩] 3]))<|bn (ag 1 aJ (y.old kp [.map [⟨ab 63,J 6,0⟩,⟨ab 42,J 4,1⟩,⟨ab 43,J 5,2⟩] 3]))<|bn (by omega:0≤at_)<|bn (by omega:at_<(s.size:Int))<|bn (Ap (aL [.map [⟨ab 63,J 6,0⟩,⟨ab 42,J 4,1⟩,⟨ab 43,J 5,2⟩] 3] H 0 _ rfl) (Ao (ac s at_)).2.2.2.2.1:qN E 363 (.map (some (H.n+0))) (ab (ac s at_)) false (v5 H)=some (J (gA (ac s at_)),v5 H,[],[H.n+0]))<|bn (Av p s at_ dp nd w wp (gA (ac s at_)) (H.n+1) (y.news [.map [⟨ab 63,J 6,0⟩,⟨ab 42,J 4,1⟩,⟨ab 43,J 5,2⟩] 3,O [pt nb 0] 185]) (y.old kp [.map [⟨ab 63,J 6,0⟩,⟨ab 42,J 4,1⟩,⟨ab 43,J 5,2⟩] 3,O [pt nb 0] 185]) D hs a0 D hw:bE E 203 [pt p 0,J (gA (ac s at_)),sc (H.n+1) 0 1 3] (zW H nb) (.ret (pt ((zW H nb).n) 0)) (FS H nb p s at_ dp nd w wp) [p])<|bn (cU (y.news [.map [⟨ab 63,J 6,0⟩,⟨ab 42,J 4,1⟩,⟨ab 43,J 5,2⟩] 3,O [pt nb 0] 185]) (y.old kp [.map [⟨ab 63,J 6,0⟩,⟨ab 42,J 4,1⟩,⟨ab 43,J 5,2⟩] 3,O [pt nb 0] 185]):bZ (zW H nb) (FS H nb p s at_ dp nd w wp) [p]=true)<|q4 (pt p 0)<|q4 (pt ((zW H nb).n) 0)<|trivial) av rfl
theorem afI:∀ md,nL md (lg nx (n5 4 2 3) (n6 4 2 3) [(4,2),(2,3)]):=by
 intro md
 cases md
 ·exact kB av
 ·exact kB av
 ·exact kB av
noncomputable abbrev zX H nb:=news H [.map [⟨ab 63,J 6,0⟩,⟨ab 43,J 5,1⟩,⟨ab 42,J 4,2⟩] 3,O [pt nb 0] 185]
noncomputable abbrev FT (H:U) nb p s at_ dp nd w wp:=news ((news H [.map [⟨ab 63,J 6,0⟩,⟨ab 43,J 5,1⟩,⟨ab 42,J 4,2⟩] 3,O [pt nb 0] 185]).set p (O (vn s at_ dp nd w wp) 255)) [O (mP (gA (ac s at_)) (IntKind.i64.wrap (nd+1))++[sc (H.n+1) 0 1 3]) 305]
noncomputable abbrev CM H:=news H [.map [⟨ab 63,J 6,0⟩,⟨ab 43,J 5,1⟩] 2]
noncomputable abbrev v7 H:=news H [.map [⟨ab 63,J 6,0⟩,⟨ab 43,J 5,1⟩,⟨ab 42,J 4,2⟩] 3]
theorem afC (p:Nat) (nb:Nat) (s:ByteArray) (at_ dp nd:Int) (w wp:Nat) {H:U} (y:aa E G H) (kp:H.get p=some (fM s at_ dp nd (gO w wp))) (bY:G.n≤p) (hs:(s.size:Int)<100000) (a0:0≤at_) (a1:at_≤s.size) (hw:w=0∨w=1) (hlt:at_<s.size):oi E 32 (lg nx (n5 4 3 2) (n6 4 3 2) [(4,3),(3,2)]) (bl [(0,pt p 0),(3,pt nb 0)]) H (bl [(0,pt p 0),(3,pt ((zX H nb).n) 0)]) (FT H nb p s at_ dp nd w wp) [H.n+0,H.n+0,H.n+0,p]:=by
 have gi:=y.wf.lt kp
 exact oi.qV ok (f:=1) (id:=xF rY) (hs:=[aB 1,.val cZ (s3 H) [H.n+0] [H.n+0],.val cZ (CM H) [H.n+0] [H.n+0],.val cZ (v7 H) [H.n+0] [H.n+0],aB 3,dP (.string s) (v7 H),aB 2,dP (J at_) (v7 H),.ak,.val (J (gA (ac s at_))) (v7 H) [] [H.n+0],aB 1,.call (pt ((zX H nb).n) 0) (FT H nb p s at_ dp nd w wp) [p],aB 0]) (bn (aT:(H.n+0)<H.n∨H.n≤(H.n+0))<|bn (aT:(H.n+0)<H.n∨H.n≤(H.n+0))<|bn (aT:(H.n+0)<H.n∨H.n≤(H.n+0))<|bn (aT:(H.n+0)≠p)<|bn (aT:(H.n+0)≠p)<|bn (aT:(H.n+0)≠p)<|bn (aT:(H.n+0)≠p)<|bn (aT:(H.n+0)≠p)<|bn (aT:(H.n+0)≠p)<|bn (mM mm mo rfl rfl rfl rfl:jO E 363 (.map (some (H.n+0))) (ab 63) (J 6) (qP H)=some (cZ,s3 H,[H.n+0],[H.n+0]))<|bn (mT rfl:bZ (qP H) (s3 H) [H.n+0]=true)<|bn (mM mm mo rfl rfl rfl rfl:jO E 363 (.map (some (H.n+0))) (ab 43) (J 5) (s3 H)=some (cZ,CM H,[H.n+0],[H.n+0]))<|bn (mT rfl:bZ (s3 H) (CM H) [H.n+0]=true)<|bn (mM mm mo rfl rfl rfl rfl:jO E 363 (.map (some (H.n+0))) (ab 42) (J 4) (CM H)=some (cZ,v7 H,[H.n+0],[H.n+0]))<|bn (mT rfl:bZ (CM H) (v7 H) [H.n+0]=true)<|bn (ag 0 ct (y.old kp [.map [⟨ab 63,J 6,0⟩,⟨ab 43,J 5,1⟩,⟨ab 42,J 4,2⟩] 3]))<|bn (ag 1 aJ (y.old kp [.map [⟨ab 63,J 6,0⟩,⟨ab 43,J 5,1⟩,⟨ab 42,J 4,2⟩] 3]))<|bn (by omega:0≤at_)<|bn (by omega:at_<(s.size:Int))<|bn (Ap (aL [.map [⟨ab 63,J 6,0⟩,⟨ab 43,J 5,1⟩,⟨ab 42,J 4,2⟩] 3] H 0 _ rfl) (Ao (ac s at_)).2.2.2.2.2:qN E 363 (.map (some (H.n+0))) (ab (ac s at_)) false (v7 H)=some (J (gA (ac s at_)),v7 H,[],[H.n+0]))<|bn (Av p s at_ dp nd w wp (gA (ac s at_)) (H.n+1) (y.news [.map [⟨ab 63,J 6,0⟩,⟨ab 43,J 5,1⟩,⟨ab 42,J 4,2⟩] 3,O [pt nb 0] 185]) (y.old kp [.map [⟨ab 63,J 6,0⟩,⟨ab 43,J 5,1⟩,⟨ab 42,J 4,2⟩] 3,O [pt nb 0] 185]) D hs a0 D hw:bE E 203 [pt p 0,J (gA (ac s at_)),sc (H.n+1) 0 1 3] (zX H nb) (.ret (pt ((zX H nb).n) 0)) (FT H nb p s at_ dp nd w wp) [p])<|bn (cU (y.news [.map [⟨ab 63,J 6,0⟩,⟨ab 43,J 5,1⟩,⟨ab 42,J 4,2⟩] 3,O [pt nb 0] 185]) (y.old kp [.map [⟨ab 63,J 6,0⟩,⟨ab 43,J 5,1⟩,⟨ab 42,J 4,2⟩] 3,O [pt nb 0] 185]):bZ (zX H nb) (FT H nb p s at_ dp nd w wp) [p]=true)<|q4 (pt p 0)<|q4 (pt ((zX H nb).n) 0)<|trivial) av rfl
theorem afJ:∀ md,nL md (lg nx (n5 4 3 2) (n6 4 3 2) [(4,3),(3,2)]):=by
 intro md
 cases md
 ·exact kB av
 ·exact kB av
 ·exact kB av
theorem afL (p:Nat) (nb:Nat) (s:ByteArray) (at_ dp nd:Int) (w wp:Nat) {H:U} (y:aa E G H) (kp:H.get p=some (fM s at_ dp nd (gO w wp))) (bY:G.n≤p) (hs:(s.size:Int)<100000) (a0:0≤at_) (a1:at_≤s.size) (hw:w=0∨w=1) (hlt:at_<s.size):c7 E 32 rY (bl [(0,pt p 0),(3,pt nb 0)]) H [] .normal (bl [(0,pt p 0),(3,pt ((news H [.dead,O [pt nb 0] 185]).n) 0)]) (news ((news H [.dead,O [pt nb 0] 185]).set p (O (vn s at_ dp nd w wp) 255)) [O (mP (gA (ac s at_)) (IntKind.i64.wrap (nd+1))++[sc (H.n+1) 0 1 3]) 305]) [] [H.n+0,H.n+0,H.n+0,p]:=by
 rw [afw]
 have gi:=y.wf.lt kp
 refine c7.perm afM (fun wf=>cz.news (cz.set (cz.news wf _) (by rw [bU];omega) _) _) fun l=>?_
 rcases adZ l with h |h |h |h |h |h
 ·exact ⟨_,_,_,_,Ac 2 3 4 (by decide),Af h.1 h.2,afx p nb s at_ dp nd w wp y kp bY hs a0 a1 hw hlt,afE,rfl,zL gi⟩
 ·exact ⟨_,_,_,_,Ac 2 4 3 (by decide),Af h.1 h.2,afy p nb s at_ dp nd w wp y kp bY hs a0 a1 hw hlt,afF,rfl,zL gi⟩
 ·exact ⟨_,_,_,_,Ac 3 2 4 (by decide),Af h.1 h.2,afz p nb s at_ dp nd w wp y kp bY hs a0 a1 hw hlt,afG,rfl,zL gi⟩
 ·exact ⟨_,_,_,_,Ac 3 4 2 (by decide),Af h.1 h.2,afA p nb s at_ dp nd w wp y kp bY hs a0 a1 hw hlt,afH,rfl,zL gi⟩
 ·exact ⟨_,_,_,_,Ac 4 2 3 (by decide),Af h.1 h.2,afB p nb s at_ dp nd w wp y kp bY hs a0 a1 hw hlt,afI,rfl,zL gi⟩
 ·exact ⟨_,_,_,_,Ac 4 3 2 (by decide),Af h.1 h.2,afC p nb s at_ dp nd w wp y kp bY hs a0 a1 hw hlt,afJ,rfl,zL gi⟩
theorem afK (p:Nat) (nb:Nat) (s:ByteArray) (at_ dp nd:Int) (w wp:Nat) {H:U} (y:aa E G H) (kp:H.get p=some (fM s at_ dp nd (gO w wp))) (bY:G.n≤p) (hs:(s.size:Int)<100000) (a0:0≤at_) (a1:at_≤s.size) (hw:w=0∨w=1) (hlt:at_<s.size):jF E G 32 rY [(0,pt p 0),(3,pt nb 0)] H [p] (fun x T H'=>(x=.normal∧∃(Ng:Nat) (qu:Int),T=bl [(0,pt p 0),(3,pt Ng 0)]∧(H'.get p=some (fM s at_ dp qu (gO w wp))))):=by
 have gi:=y.wf.lt kp
 refine jF.mk y (afL p nb s at_ dp nd w wp y kp bY hs a0 a1 hw hlt) (fun q hq=>?_) (fun q hq=>?_) ⟨rfl,_,IntKind.i64.wrap (nd+1),rfl,?_⟩
 ·rw [bU,U.cB,bU]
  simp only [List.mem_cons,ai,or_false,cj,cF] at hq ⊢
  omega
 ·simp only [List.mem_cons,ai,or_false] at hq
  omega
 ·rw [CH _ _ _ (by rw [U.cB,bU];omega),U.kr,if_pos rfl]
noncomputable def Xd:Code:=cN [1,1,0,0,0] (cH Tryz.f241)
theorem Ss (p:Nat) (s:ByteArray) (eN:Int) (dp:Int) (R:Option Int):∀(m:Nat) (yy:Nat) (at_:Int) (nd:Int) (w:Nat) (wp:Nat) (H:U),aa E G H→(kp:H.get p=some (O (iu s at_ dp nd (gO w wp)) 255))→(hs:(s.size:Int)<100000)→(bY:G.n≤p)→(b0:0≤eN)→(b1:eN≤at_)→(a1:at_≤s.size)→(hw:w=0∨w=1)→(hR:sf w (some (n7 s at_)) R)→((s.size:Int)-at_).toNat=m→
  cy E G 32 Xd [(0,pt p 0),(3,pt yy 0)] H [p] (fun x T H'=>(x=(.exit 0)∧∃(Ng:Nat) (eJ qu:Int) (hJ sd:Nat),T=bl [(3,pt Ng 0)]∧(H'.get p=some (fM s eJ dp qu (gO hJ sd))∧eN≤eJ∧eJ≤s.size∧(hJ=0∨hJ=1)∧(hJ=0→R=some eJ)∧(hJ=1→R=none)))):=by
 refine d8 fun m ih=>?_
 intro yy at_ nd w wp H y kp hs bY b0 b1 a1 hw hR hm
 refine c9 y ?_
 have gi:=y.wf.lt kp
 rcases hw with rfl |rfl
 ·obtain ⟨_,H1,c1,af,y1,b7⟩:=tc p s at_ dp nd ⟨#[42,43,63]⟩ y kp D hs D D
  rcases b7 with ⟨rfl,nY⟩ |⟨rfl,pC,oA⟩
  ·have bV:=y.kept af ai kp
   exact ad 1 c1<|en 0 [(3,pt yy 0)] (.exit 0) H1 [] aZ bi ⟨rfl,yy,at_,nd,0,wp,rfl,⟨bV,D,D,D,fun _=>(hR.1 rfl).symm.trans (congrArg some (Sr nY)),fun h=>absurd h (by decide)⟩⟩
  have cI:H.n+0≤H1.n:=af.n
  have bV:=y.kept af ai kp
  obtain ⟨_,_,H2,c2,ar,ah,rfl,wM,uX,rfl,pI⟩:=afK p yy s at_ dp nd 0 wp y1 bV bY hs D D D D
  have cl:H1.n+0≤H2.n:=ar.n
  obtain ⟨bk,aM⟩:∃ ao,ao=H2.set p (O (iu s (at_+1) dp uX (gO 0 wp)) 255):=⟨_,rfl⟩
  have az:aa E G bk:=aM▸ah.set _ D D
  have eF:=bC aM
  exact ad 1 c1<|gS 0 4 c2<|Z 3 (ag 1 aJ pI)<|ap 0 (at_+1)<|aC 2 (stx 1 (J (at_+1)) dL pI aM)<|dY 0 [(0,pt p 0),(3,pt wM 0)] bk [p,p] bD (ih _ D wM (at_+1) uX 0 wp _ az eF hs bY b0 D D D (.go ((congrArg some (GP pC oA)).symm.trans (hR.1 rfl))) rfl)
 obtain ⟨_,H1,c1,af,y1,rfl⟩:=G3 p s at_ dp nd wp ⟨#[42,43,63]⟩ y kp D hs D D
 have bV:=y.kept af ai kp
 exact ad 1 c1<|en 0 [(3,pt yy 0)] (.exit 0) H1 [] aZ bi ⟨rfl,yy,at_,nd,1,wp,rfl,⟨bV,D,D,D,fun h=>absurd h (by decide),fun _=>hR.2 rfl⟩⟩
theorem SU (p:Nat) (s:ByteArray) (at_:Int) (dp:Int) (nd:Int) (n:Nat) {H:U} (y:aa E G H) (kp:H.get p=some (fM s at_ dp nd (.pointer none))) (bY:G.n≤p) (hs:(s.size:Int)<100000) (a0:0≤at_) (a1:at_≤s.size) (hA:se s n) (hn:((s.size:Int)-at_).toNat≤n) (hlt:at_<s.size):aI E G 241 [pt p 0] H [p] (fun v H'=>wT s p at_ 1 (wu s at_ dp) v H'):=by
 refine br Tryz.f241 y ?_
 obtain ⟨_,H1,c1,af,y1,b7⟩:=agj p s at_ dp nd n y kp D hs D D hA D D
 rcases b7 with ⟨cW,dH,ly,hY,rfl,dV,dR,g9,cq⟩ |⟨cW,dH,ly,hY,nD,rfl,dV,dR,g9,cq⟩
 ·obtain ⟨_,_,H2,c2,ar,ah,rfl,wM,r8,uX,Ug,HU,rfl,pI,kV,Dh,B5,uz,ya⟩:=(Ss p s dH ly (some (n7 s dH)) _ cW dH hY 0 0 _ y1 dV hs bY D D D D (.go rfl) rfl).code
  refine ad 2 c1<|bW 1 c2<|?_
  rcases B5 with rfl |rfl
  ·exact aV 2 (pt wM 0) H2 [p,p] bD bi (.inl ⟨_,r8,ly,uX,rfl,pI,(by rw [L2 dR,Option.some.inj (uz rfl)]),D,D⟩)
  exact aV 2 (pt wM 0) H2 [p,p] bD bi (absurd (ya rfl) bD)
 obtain ⟨_,_,H2,c2,ar,ah,rfl,wM,r8,uX,Ug,HU,rfl,pI,kV,Dh,B5,uz,ya⟩:=(Ss p s dH ly none _ cW dH hY 1 nD _ y1 dV hs bY D D D D (.bad rfl) rfl).code
 refine ad 2 c1<|bW 1 c2<|?_
 rcases B5 with rfl |rfl
 ·exact aV 2 (pt wM 0) H2 [p,p] bD bi (absurd (uz rfl) bD)
 exact aV 2 (pt wM 0) H2 [p,p] bD bi (.inr ⟨_,r8,ly,uX,HU,rfl,pI,L1 dR,D,D⟩)
end Go.Proofs.YtbehemdcaiigeaaGreatDoor
