/- Part of the proof that CheckTypes answers true. -/
import Derived.Test.YtglmagcldkngbaaGreatDoorQ10
import Derived.Test.YtglmagcldkngbaaGreatDoorQ11
import Derived.Test.YtglmagcldkngbaaGreatDoorQ07
import Derived.ChangeArms
import Derived.OpenShut
import Derived.Test.YtglmagcldkngbaaGreatDoorRows
import Derived.LaidHandle
import Derived.FnData
import Derived.LaidLaws
import Derived.Stop.LaidErr
set_option linter.unusedVariables false
set_option linter.unusedSimpArgs false
set_option maxRecDepth 100000
set_option maxHeartbeats 4000000
namespace Go.Proofs.YtglmagcldkngbaaGreatDoor
open Go Go.Am
theorem abC (w:World) (a:Addr) (v:Value) (B:Nat) (h:B≠a.block):(w.setCell a v).heap[B]?=w.heap[B]?:=by
 simp only [World.setCell,Array.getElem?_modify]
 rw [if_neg (fun e=>h e.symm)]
theorem abB (w:World) (a:Addr) (v:Value) (fj:Array Value) (e:TypeId) (f:Nat×Nat) (h:w.heap[a.block]?=some (.cells fj e f)) (hs:a.spot=none):(w.setCell a v).heap[a.block]?=some (.cells (fj.setIfInBounds a.off v) e f):=by
 simp only [World.setCell,Array.getElem?_modify,if_true,h,Option.map_some,hs,Option.isSome_none,Bool.false_eq_true,if_false]
theorem SO (n:Int) (b:Nat) (c:Value) {H:Z} (y0:H.get 0=some (ox [.iface 78 (.agg #[.pointer (some ⟨22,31,none⟩)])] 60)) (kb:H.get b=some (O [c] 41)):bF E 17 [.iface 41 (M n),.iface 43 (pt b 0)] H (.ret (.bool true)) (H.set b (O [M n] 41)) [b]:=fun wf cE=>by
 have ur:gf (H.get b)=true:=by rw [kb];rfl
 obtain ⟨hx,hwf,_⟩:=ez.set (R:=[b]) wf (O [M n] 41) (b:=b) ur aW
 refine ⟨hx,hwf,fun base φ w args' dr hfr hl=>.inl ⟨?_,?_⟩⟩
 ·unfold callFunc
  rw [Go.Am.bI (Go.Am.run_program w)]
  simp only [ok.func _ _ (show E.func 17=some Tryz.f17 by kernel_rfl),show (Tryz.f17.name== "runtime.NumGoroutine")=false by kernel_rfl,Bool.false_eq_true,if_false,show Tryz.f17.body.isNone=false by kernel_rfl]
  rfl
 ·obtain ⟨a1,r1,rfl,ma,fk⟩:=hl.cons_inv
  obtain ⟨a2,r2,rfl,oD,iP⟩:=fk.cons_inv
  have:=iP.tE
  subst this
  have e1:=ma.s4 rfl
  subst e1
  cases oD with
  |iface _ _ u hu=>
  cases hu with
  |ptr _ _ l hb=>
  obtain ⟨fj,lo,hi,k1,k2,jp,xW,I8,OC⟩:=dr.blocks b l _ (wf.lt kb) hb kb
  obtain ⟨v0,xN,_⟩:=xW 0 c rfl
  have jp:1≤l.mR:=jp
  obtain ⟨l0,g0,g1,g2⟩:=dr.iO 0 (show 0<23 by omega)
  obtain ⟨l2,g3,g4,HX⟩:=dr.iO 22 (show 22<23 by omega)
  have Xc:0<H.n:=wf.lt y0
  obtain ⟨v1,Oc,IF⟩:=dr.blocks 0 l0 _ Xc g0 y0 0 _ rfl
  have hg:w.cell? ⟨0,0,none⟩=some (.iface 78 (.agg #[.pointer (some ⟨22,31,none⟩)])):=by
   rw [g1,g2] at Oc
   rw [show (0:Nat)=0+0 from rfl]
   refine Oc.trans (congrArg some ?_)
   cases IF with
   |iface _ _ u hu=>
    obtain ⟨cs,rfl,hs,hc⟩:=hu.Bk
    have hs:1=cs.size:=hs
    obtain ⟨p,hp⟩:∃ p,cs[0]?=some p:=⟨cs[0],Array.getElem?_eq_getElem J⟩
    have hv:=hc 0 _ p rfl hp
    have hcs:cs=#[p]:=by
     apply Array.ext_getElem?
     intro i
     cases i with
     |zero=>rw [hp];rfl
     |succ i=>rw [Array.getElem?_eq_none J,Array.getElem?_eq_none aW]
    rw [hcs]
    cases hv with
    |ptr _ _ m hm=>
     rw [g3] at hm
     injection hm with hm
     subst hm
     rw [g4,HX]
  have ht:w.cell? ⟨l.dG,l.off+0,none⟩=some v0:=by
   simp only [World.cell?,k1,Option.isSome_none,Bool.false_eq_true,if_false];exact xN
  have hf:w.frozen? ⟨l.dG,l.off+0,none⟩=false:=by
   simp only [World.frozen?,k1]
   have:=OC (l.off+0) J J
   simpa using this
  refine (AsCode.SP n ⟨l.dG,l.off+0,none⟩ v0 w hg ht hf).mono fun e w' ⟨he,hw⟩=>?_
  subst he
  refine ⟨φ,?_,.bool true,rfl,.bool true⟩
  generalize hW:(((w.alloc _).alloc _).alloc _).alloc _=W4 at hw
  have Da:w.heap.size≤W4.heap.size∧(∀ B,B<w.heap.size→W4.heap[B]?=w.heap[B]?)∧W4.os=w.os∧W4.tape=w.tape∧W4.output=w.output:=by
   subst hW
   refine ⟨?_,fun B hB=>?_,rfl,rfl,rfl⟩
   ·show w.heap.size≤((((w.heap.push _).push _).push _).push _).size
    simp only [Array.size_push];omega
   ·show ((((w.heap.push _).push _).push _).push _)[B]?=_
    rw [Array.getElem?_push,if_neg (by simp only [Array.size_push];omega),Array.getElem?_push,if_neg (by simp only [Array.size_push];omega),Array.getElem?_push,if_neg (by simp only [Array.size_push];omega),Array.getElem?_push,if_neg J]
  obtain ⟨s1,s2,KS,Da,KT⟩:=Da
  have hlt:l.dG<w.heap.size:=dr.lt b l (wf.lt kb) hb (by rw [kb];rfl)
  have XV:=(s2 _ hlt).trans k1
  subst hw
  have XQ:=abB W4 ⟨l.dG,l.off+0,none⟩ (.int .i64 n) fj 41 (lo,hi) XV rfl
  have Yc:∀ B,B<w.heap.size→B≠l.dG→(W4.setCell ⟨l.dG,l.off+0,none⟩ (.int .i64 n)).heap[B]?=w.heap[B]?:=fun B hB hne=>(abC W4 _ _ B hne).trans (s2 B hB)
  have hsz:(W4.setCell ⟨l.dG,l.off+0,none⟩ (.int .i64 n)).heap.size=W4.heap.size:=by simp [World.setCell]
  refine gr.out wf hx dr ⟨fun j hj=>?_,fun i hi=>rfl,⟨KS,Da,KT,by rw [hsz];exact s1,fun B hB hn=>Yc B hB (fun e=>hn b aW l hb e.symm)⟩,fun i l h1 h2 h3=>?_,fun i l' o h1 h2 h3 h4=>?_,fun i l h1 h2 h3 _=>?_,fun i j l m h1 h2 h3 h4 h5=>?_⟩ hfr cE
  ·simp at hj;subst hj;exact ⟨wf.lt kb,ur⟩
  ·simp at h2;omega
  ·simp at h1 h2
   have:i=b:=J
   subst this
   rw [hb] at h3
   injection h3 with h3
   subst h3
   rw [Z.kP,if_pos rfl] at h4
   injection h4 with h4
   subst h4
   refine ⟨_,lo,hi,XQ,by simpa using k2,jp,fun j x hj=>?_,I8,OC⟩
   cases j with
   |zero=>
    simp at hj
    subst hj
    exact ⟨.int .i64 n,by simp only [Nat.add_zero];rw [Array.getElem?_setIfInBounds_self_of_lt J],.int _ _⟩
   |succ j=>simp at hj
  ·simp at h2;omega
  ·simp at h2;omega
def Hc (args:List Value) (H:Z):vr:=
 match args,H.get 0 with
 |[.iface 41 (.int .i64 n),.iface 43 (.pointer (some ⟨b,0,none⟩))],some (.cells [.iface 78 (.agg ⟨[.pointer (some ⟨22,31,none⟩)]⟩)] 60 true)=>match H.get b with
  |some (.cells [_] 41 false)=>some (.ret (.bool true),H.set b (.cells [.int .i64 n] 41 false),[b])
  |_=>none
 |_,_=>none
def EX (s:ByteArray) (c:Int):Int:=match (List.range s.size).find? fun i=>s[i]! == c.toNat.toUInt8 with |some i=>(i:Int) |none=>-1
theorem YM (s:ByteArray) (c:Int) {H:Z}:bF E 147 [.string s,.int .u8 c] H (.ret (.int .i64 (EX s c))) H []:=by
 have hn:Extern.BytealgIndexByte.indexByte #[.string s,.int .u8 c]=pure (.int .i64 (EX s c)):=by
  have e0:Extern.BytealgIndexByte.indexByte #[.string s,.int .u8 c]=(match (List.range s.size).find? fun i=>s[i]! == c.toNat.toUInt8 with |some i=>(pure (goInt i):Sem Value) |none=>pure (goInt (-1))):=rfl
  rw [e0,EX]
  split <;> rfl
 exact bF.extern ok (fn:=Tryz.f147) (e:=Extern.BytealgIndexByte.indexByte) an an an an an rfl rfl hn
def IW (args:List Value) (H:Z):vr:=
 match args with
 |[.string s,.int .u8 c]=>some (.ret (.int .i64 (EX s c)),H,[])
 |_=>none
noncomputable def vt:Env:={ E with Az:=fun g=>bif Nat.beq g 17 then some Hc else bif Nat.beq g 147 then some IW else none }
theorem QP {base:Nat} {H:Z} {φ:bC} {w:World} (h:Rel vt base H φ w):Rel E base H φ w:=⟨h.bs,h.blocks,h.lt,h.inj,h.iO⟩
theorem QQ {base:Nat} {H:Z} {φ:bC} {w:World} (h:Rel E base H φ w):Rel vt base H φ w:=⟨h.bs,h.blocks,h.lt,h.inj,h.iO⟩
theorem P9 {base:Nat} {H H':Z} {φ be:bC} {w w':World} {W:List Nat} (h:Out vt base φ w H H' W be w'):Out E base φ w H H' W be w':=⟨h.ext,QP h.rel,h.step,h.fresh⟩
theorem Qa {base:Nat} {H H':Z} {φ be:bC} {w w':World} {W:List Nat} (h:Out E base φ w H H' W be w'):Out vt base φ w H H' W be w':=⟨h.ext,QQ h.rel,h.step,h.fresh⟩
theorem W7 {g:FuncId} {args:List Value} {H H':Z} {r:rh} {W:List Nat} (h:tY vt g args H r H' W):tY E g args H r H' W:=
 ⟨h.1,h.2.1,fun base φ w args' a b c=>by
  rcases h.2.2 base φ w args' (QQ a) b c with ⟨he,hc⟩ |⟨v,w',he,be,ho,hr⟩
  ·exact .inl ⟨he,hc.mono fun e w' ⟨be,ho,hr⟩=>⟨be,P9 ho,hr⟩⟩
  ·exact .inr ⟨v,w',he,be,P9 ho,hr⟩⟩
theorem NM {g:FuncId} {args:List Value} {H H':Z} {r:rh} {W:List Nat} (h:tY E g args H r H' W):tY vt g args H r H' W:=
 ⟨h.1,h.2.1,fun base φ w args' a b c=>by
  rcases h.2.2 base φ w args' (QP a) b c with ⟨he,hc⟩ |⟨v,w',he,be,ho,hr⟩
  ·exact .inl ⟨he,hc.mono fun e w' ⟨be,ho,hr⟩=>⟨be,Qa ho,hr⟩⟩
  ·exact .inr ⟨v,w',he,be,Qa ho,hr⟩⟩
theorem ae7:Sound vt:=by
 refine ⟨⟨ok.info,ok.func⟩,sound.name,fun g p h=>?_,fun g p h=>by cases h⟩
 have h:(bif Nat.beq g 17 then some Hc else bif Nat.beq g 147 then some IW else none)=some p:=h
 cases hg:Nat.beq g 17 with
 |false=>
  rw [hg] at h
  cases hi:Nat.beq g 147 with
  |false=>rw [hi] at h;cases h
  |true=>
   rw [hi] at h
   injection h with h
   subst h
   have:=Nat.eq_of_beq_eq_true hi
   subst this
   intro args H r H' W hp wf cE
   unfold IW at hp
   split at hp
   ·rename_i s c
    simp only [bH,b8] at hp
    obtain ⟨rfl,rfl,rfl⟩:=hp
    exact NM (YM s c wf cE)
   ·cases hp
 |true=>
  rw [hg] at h
  injection h with h
  subst h
  have:=Nat.eq_of_beq_eq_true hg
  subst this
  intro args H r H' W hp wf cE
  unfold Hc at hp
  split at hp
  ·rename_i n b y0
   split at hp
   ·rename_i c kb
    simp only [bH,b8] at hp
    obtain ⟨rfl,rfl,rfl⟩:=hp
    exact NM (SO n b c y0 kb wf cE)
   ·cases hp
  ·cases hp
noncomputable def Q8 (f:Nat) (g:FuncId) (args:List Value):Option (Value×Bool):=
 match vB vt f g args G with
 |some (.ret v,H',W)=>some (v,W.all fun q=>Nat.ble 31 q&&Nat.blt q H'.n)
 |_=>none
theorem F1 {f:Nat} {g:FuncId} {args:List Value} {v:Value} (h:Q8 f g args=some (v,true)):∃ lE,bF E g args G (.ret v) lE []:=by
 unfold Q8 at h
 split at h
 ·rename_i v1 H1 W hr
  simp only [bH,b8] at h
  obtain ⟨rfl,hw⟩:=h
  have c:bF E g args G (.ret v1) H1 W:=fun wf cE=>W7 (Ht ae7 f g args G _ _ _ hr wf cE)
  refine ⟨H1,c.norm fun q hq=>.inr ?_⟩
  have:=List.all_eq_true.1 hw q hq
  simp only [dZ,Nat.blt_eq] at this
  have h1:=gg this.1
  rw [iY];omega
 ·cases h
end Go.Proofs.YtglmagcldkngbaaGreatDoor
set_option maxRecDepth 1000000
namespace Go.Proofs.YtglmagcldkngbaaGreatDoor
open Go Go.Am
theorem SX {H:Z} (y:aa E G H):bF E 5 [] H (.ret aw) H []:=by
 obtain ⟨lE,c⟩:=F1 (f:=3000) (g:=5) (args:=[]) (v:=aw) an
 exact eh (et rfl) (.ground rfl) c y
end Go.Proofs.YtglmagcldkngbaaGreatDoor
set_option maxRecDepth 1000000
namespace Go.Proofs.YtglmagcldkngbaaGreatDoor
open Go Go.Am
theorem UU {H:Z} (y:aa E G H):bF E 9 [.iface 41 (M 6)] H (.ret (M 6)) H []:=by
 obtain ⟨lE,c⟩:=F1 (f:=3000) (g:=9) (args:=[.iface 41 (M 6)]) (v:=M 6) an
 exact eh (et rfl) (.ground rfl) c y
theorem UV {H:Z} (y:aa E G H):bF E 9 [.iface 41 (M 7)] H (.ret (M 7)) H []:=by
 obtain ⟨lE,c⟩:=F1 (f:=3000) (g:=9) (args:=[.iface 41 (M 7)]) (v:=M 7) an
 exact eh (et rfl) (.ground rfl) c y
theorem UT {H:Z} (y:aa E G H):bF E 9 [.nilIface] H (.ret (M 0)) H []:=by
 obtain ⟨lE,c⟩:=F1 (f:=3000) (g:=9) (args:=[.nilIface]) (v:=M 0) an
 exact eh (et rfl) (.ground rfl) c y
theorem af1 (x:bh):(vh x=.tuple #[M (dM x),.nilIface]∧ry x=.tuple #[M (dM x),M 0])∨(vh x=.tuple #[M 0,.iface 41 (M 7)]∧ry x=.tuple #[M 0,M 7])∨(vh x=.tuple #[M 0,.iface 41 (M 6)]∧ry x=.tuple #[M 0,M 6]):=by
 rw [vh,ry]
 cases oS x with
 |false=>exact .inr (.inr ⟨rfl,rfl⟩)
 |true=>cases dM x==0 with
  |true=>exact .inr (.inl ⟨rfl,rfl⟩)
  |false=>exact .inl ⟨rfl,rfl⟩
theorem DB {x:Int} (h0:-9223372036854775808≤x) (h1:x<9223372036854775808):mz x=x:=nE h0 h1
theorem Rr:∀(l:List bh) (n:Int),(∀ k∈l,1≤lA k∧lA k≤300)→0≤n→n<562949953421312→oW l n≤300→n+l.length≤oW l n∧∀ k∈l,n+lA k≤oW l n
 |[],n,_,_,_,h=>by
  simp only [oW] at h ⊢
  exact ⟨by simp,fun k hk=>by cases hk⟩
 |x::l,n,hk,h0,h1,h=>by
  have hx:=hk x aW
  simp only [oW] at h ⊢
  by_cases hn:n≤300
  ·rw [if_pos hn,DB J J] at h ⊢
   obtain ⟨i1,i2⟩:=Rr l (n+lA x) (fun k hk'=>hk k (List.mem_cons_of_mem _ hk')) J J h
   refine ⟨by rw [dX];omega,fun k hk'=>?_⟩
   rcases List.mem_cons.1 hk' with rfl |hk'
   ·omega
   ·have:=i2 k hk';omega
  ·rw [if_neg hn] at h;omega
theorem Rl:∀{l:List bh},mX l=true→∀ k∈l,qn k=true
 |[],_,k,hk=>by cases hk
 |x::l,h,k,hk=>by
  rw [mX,dZ] at h
  rcases List.mem_cons.1 hk with rfl |hk
  ·exact h.1
  ·exact Rl h.2 k hk
theorem Rm {x:bh} (h:qn x=true):lA x≤300∧iA x.ms=true∧lx x.ns=true∧∀ k∈x.kids,qn k=true:=by
 rw [q7,dZ,dZ,dZ,dZ,Bool.not_eq_true',decide_eq_false_iff_not] at h
 exact ⟨J,h.2.2.1,h.2.2.2.1,Rl h.2.2.2.2⟩
theorem aeN {X:Z} {x:bh} (hs:jb X x):qn x=true→1≤lA x∧lA x≤300∧x.f.aj≤300∧∀ k∈x.kids,lA k<lA x:=by
 induction hs with
 |@mk x a _ ih=>
  intro h
  obtain ⟨h1,_,_,h4⟩:=Rm h
  have bm:=a.bm
  have fO:=a.fO
  have key:=Rr x.kids (mz (mz (1+(x.f.nm:Nat))+(x.f.nn:Nat))) (fun k hk=>⟨(ih k hk (h4 k hk)).1,(ih k hk (h4 k hk)).2.1⟩)
  rw [DB (x:=1+(x.f.nm:Nat)) J J,DB J J] at key
  have he:=Rs x
  rw [DB (x:=1+(x.f.nm:Nat)) J J,DB J J] at he
  obtain ⟨k1,k2⟩:=key J J J
  have aj:=a.aj
  exact ⟨J,h1,J,fun k hk=>by have:=k2 k hk;omega⟩
theorem Pv:∀{l:List iq},iA l=true→∀ m∈l,(m.2.1.size:Int)<100000
 |[],_,m,hm=>by cases hm
 |x::l,h,m,hm=>by
  rw [iA,dZ,dZ,Bool.not_eq_true',Bool.not_eq_true',decide_eq_false_iff_not,decide_eq_false_iff_not] at h
  rcases List.mem_cons.1 hm with rfl |hm
  ·have:=h.1.2;omega
  ·exact Pv h.2 m hm
theorem P1:∀{l:List ByteArray},lx l=true→∀ s∈l,(s.size:Int)<100000
 |[],_,s,hs=>by cases hs
 |x::l,h,s,hs=>by
  rw [lx,dZ,Bool.not_eq_true',decide_eq_false_iff_not] at h
  rcases List.mem_cons.1 hs with rfl |hs
  ·have:=h.1;omega
  ·exact P1 h.2 s hs
theorem WG {X:Z} {x:bh} (hs:jb X x):qn x=true→mC x:=by
 induction hs with
 |@mk x a hk ih=>
  intro h
  obtain ⟨_,h2,h3,h4⟩:=Rm h
  have:=(aeN (.mk a hk) h).2.2.1
  exact .mk ⟨Pv h2,P1 h3,J⟩ fun k hk=>ih k hk (h4 k hk)
def acz (b c:Nat):dR:={ k:=6,op:=7,v:=0,s:=⟨#[]⟩,pm:=none,nm:=0,br:=0,wide:=0,off:=0,ha:=false,at_:=0,how:=0,aX:=none,nn:=0,bo:=0,d8:=false,pk:=some ⟨b,0,none⟩,aj:=2,ax:=c }
def aiZ (b c:Nat) (x:bh):bh:=.mk (acz b c) [] [] [x,x]
theorem af2 {G:Z} {args:List Value} {H:Z} {x:bh} (h:aV E G 7 args H [] (fun v _=>v=vh x)):aV E G 7 args H [] (fun v _=>(v=.tuple #[M (dM x),.nilIface]∧ry x=.tuple #[M (dM x),M 0])∨(v=.tuple #[M 0,.iface 41 (M 7)]∧ry x=.tuple #[M 0,M 7])∨(v=.tuple #[M 0,.iface 41 (M 6)]∧ry x=.tuple #[M 0,M 6])):=h.mono fun v _ hv=>by
 rcases af1 x with ⟨a,b⟩ |⟨a,b⟩ |⟨a,b⟩
 ·exact .inl ⟨hv.trans a,b⟩
 ·exact .inr (.inl ⟨hv.trans a,b⟩)
 ·exact .inr (.inr ⟨hv.trans a,b⟩)
theorem checkTypes (x:bh) (X:Z) (hx:aa E G X) (hs:jb X x) {H:Z} (y:aa E X H):aV E X 3 [.agg (ai x.f).toArray] H [] (fun v H'=>v=aw):=by
 refine bB Tryz.f3 y ?_
 obtain ⟨_,H1,c1,ak,y1,bE⟩:=eL (afQ x X hx hs (y.news [O (ai x.f) 27]))
 refine ac 2 (SX (gK hx (y.news [O (ai x.f) 27])))<|Y 1 (dt c4 ct rfl rfl rfl:al E 27 (H.n+0) 0 (news H [O (ai x.f) 27])=some (.agg (ai x.f).toArray))<|?_
 rcases bE with ⟨rfl,b7⟩ |⟨rfl,b7⟩
 ·have aS:=(y.news [O (ai x.f) 27]).kept ak aq (aR [O (ai x.f) 27] H 0 _ rfl)
  have hf:=WG hs b7
  obtain ⟨_,H2,c2,aF,ar,cX⟩:=af2 (afR x X hx hs hf y1)
  refine ac 0 c1<|Y 1 (cd c4 ct aS rfl rfl:al E 27 (H.n+0) 0 H1=some (.agg (ai x.f).toArray))<|?_
  rcases cX with ⟨rfl,hd⟩ |⟨rfl,hd⟩ |⟨rfl,hd⟩
  ·have ca:=y1.kept aF aq aS
   obtain ⟨_,H3,c3,bq,aM,rfl⟩:=(HH x X hx hs hf ar).mono fun v _ hv=>hv.trans hd
   exact ac 0 c2<|Y 5 (cd c4 ct ca rfl rfl:al E 27 (H.n+0) 0 H2=some (.agg (ai x.f).toArray))<|ac 0 c3<|ay 7 (beq_self_eq_true _:((dM x)==(dM x))=true)<|ac 2 (UT (gK hx aM))<|af 4 aw H3 rfl
  ·have ca:=y1.kept aF aq aS
   obtain ⟨_,H3,c3,bq,aM,rfl⟩:=(HH x X hx hs hf ar).mono fun v _ hv=>hv.trans hd
   exact ac 0 c2<|Y 5 (cd c4 ct ca rfl rfl:al E 27 (H.n+0) 0 H2=some (.agg (ai x.f).toArray))<|ac 0 c3<|ac 10 (UV (gK hx aM))<|af 4 aw H3 rfl
  have ca:=y1.kept aF aq aS
  obtain ⟨_,H3,c3,bq,aM,rfl⟩:=(HH x X hx hs hf ar).mono fun v _ hv=>hv.trans hd
  exact ac 0 c2<|Y 5 (cd c4 ct ca rfl rfl:al E 27 (H.n+0) 0 H2=some (.agg (ai x.f).toArray))<|ac 0 c3<|ac 10 (UU (gK hx aM))<|af 4 aw H3 rfl
 exact ac 0 c1<|af 2 aw H1 rfl
theorem zi {w:World} {a:Addr} {v:Value} (h:w.cell? a=some v):a.block<w.heap.size∧a.spot=none:=by
 unfold World.cell? at h
 split at h
 ·rename_i c e f hc
  refine ⟨(Array.getElem?_eq_some_iff.1 hc).1,?_⟩
  cases hs:a.spot with
  |none=>rfl
  |some q=>rw [hs] at h;cases h
 ·cases h
theorem D7 {w:World} {a:Addr} {k:Nat} {v:Value} (h:w.cell? (a.add k)=some v):w.cell? ⟨a.block,a.off+k,none⟩=some v:=by
 unfold Addr.add at h
 by_cases hk:k=0
 ·rw [if_pos hk] at h
  subst hk
  have:=(zi h).2
  obtain ⟨b,o,s⟩:=a
  simp only at this
  subst this
  exact h
 ·rw [if_neg hk] at h;exact h
theorem add_add {w:World} {a:Addr} {k r:Nat} {v:Value} (h:w.cell? ((a.add k).add r)=some v):w.cell? ⟨a.block,a.off+(k+r),none⟩=some v:=by
 have h1:=D7 h
 have e1:(a.add k).block=a.block:=by unfold Addr.add;split <;> rfl
 have e2:(a.add k).off=a.off+k:=by unfold Addr.add;split <;> (try rfl);omega
 rw [e1,e2] at h1
 rw [← Nat.add_assoc];exact h1
theorem D8 {w:World} {base n:Nat} {a:Addr} {c:List Value} (h:w.cells? base a n=some c):c.length=n∧∀ r,r<n→w.cell? (a.add r)=c[r]?:=by
 unfold World.cells? at h
 split at h
 ·exact ⟨by have:=mapM_some_length h;simpa using this,fun r hr=>mapM_some_get h r r (by simp [hr])⟩
 ·cases h
theorem Cy {α:Type}:∀{n:Nat} {Q:Nat→α→Prop},(∀ i,i<n→∃ x,Q i x)→∃ l:List α,l.length=n∧∀(i:Nat) x,l[i]?=some x→Q i x
 |0,Q,_=>⟨[],rfl,fun i x h=>by simp at h⟩
 |n+1,Q,h=>by
  obtain ⟨x,hx⟩:=h 0 J
  obtain ⟨l,h1,h2⟩:=Cy (n:=n) (Q:=fun i=>Q (i+1)) (fun i hi=>h (i+1) J)
  refine ⟨x::l,by simp [h1],fun i y hy=>?_⟩
  cases i with
  |zero=>simp at hy;subst hy;exact hx
  |succ i=>simp at hy;exact h2 i y hy
structure kN (w:World) (H:Z) (φ:bC):Prop where
 wf:cW H
 d4:E.d4≤H.n
 free:∀ i,H.n≤i→φ i=none
 iO:∀ g,g<E.d4→∃ l,φ g=some l∧l.dG=g∧l.off=0
 rows:∀ i l o,φ i=some l→H.get i=some o→∃ c e,o=.cells c e true∧∀(j:Nat) x,c[j]?=some x→∃ y,w.cell? ⟨l.dG,l.off+j,none⟩=some y∧bn φ x y
theorem kN.rel {w:World} {H:Z} {φ:bC} (h:kN w H φ):Rel E w.heap.size H φ w:=by
 refine ⟨Nat.le_refl _,fun i l o hi hl ho=>?_,fun i l hi hl hv=>?_,fun i j l m hi hj hij hl hm hw hv=>?_,h.iO⟩
 ·obtain ⟨c,e,rfl,k⟩:=h.rows i l o hl ho
  exact k
 ·cases hg:H.get i with
  |none=>rw [hg] at hv;cases hv
  |some o=>
   obtain ⟨c,e,rfl,k⟩:=h.rows i l o hl hg
   rw [hg] at hv
   cases c with
   |nil=>cases hv
   |cons x c=>
    obtain ⟨y,hy,_⟩:=k 0 x rfl
    exact (zi hy).1
 ·cases hg:H.get i with
  |none=>rw [hg] at hw;cases hw
  |some o=>
   obtain ⟨c,e,rfl,k⟩:=h.rows i l o hl hg
   rw [hg] at hw
   cases hw
structure kO (H:Z) (φ:bC) (H':Z) (be:bC):Prop where
 n:H.n≤H'.n
 get:∀ i,i<H.n→H'.get i=H.get i
 eq:∀ i,i<H.n→be i=φ i
theorem kO.refl (H:Z) (φ:bC):kO H φ H φ:=⟨Nat.le_refl _,fun _ _=>rfl,fun _ _=>rfl⟩
theorem kO.trans {A B C:Z} {α β γ:bC} (h:kO A α B β) (k:kO B β C γ):kO A α C γ:=
 ⟨Nat.le_trans h.n k.n,fun i hi=>(k.get i (Nat.lt_of_lt_of_le hi h.n)).trans (h.get i hi),fun i hi=>(k.eq i (Nat.lt_of_lt_of_le hi h.n)).trans (h.eq i hi)⟩
theorem kO.sub {w:World} {H H':Z} {φ be:bC} (r:kN w H φ) (h:kO H φ H' be):∀ i l,φ i=some l→be i=some l:=fun i l hl=>by
 by_cases hi:i<H.n
 ·rw [h.eq i hi];exact hl
 ·rw [r.free i J] at hl;cases hl
theorem kO.Fa {w:World} {H H':Z} {φ be:bC} (r:kN w H φ) (r':kN w H' be) (h:kO H φ H' be) {x:bh} (hx:jb H x):jb H' x:=
 hx.up (E:=E) ⟨r'.wf,h.n,r.d4,h.get⟩ r.wf
theorem kN.add {w:World} {H:Z} {φ:bC} (r:kN w H φ) {c:List Value} (e:TypeId) {l:Am.Loc} (hc:∀(j:Nat) x,c[j]?=some x→∃ y,w.cell? ⟨l.dG,l.off+j,none⟩=some y∧bn φ x y) :
  ∃ H' be,kN w H' be∧kO H φ H' be∧H'.get H.n=some (.cells c e true)∧be H.n=some l:=by
 have qH:∀ i,i≠H.n→(if i=H.n then some l else φ i)=φ i:=fun i h=>if_neg h
 have sub:∀ i m,φ i=some m→(if i=H.n then some l else φ i)=some m:=fun i m hm=>by
  by_cases hi:i=H.n
  ·rw [hi,r.free H.n (Nat.le_refl _)] at hm;cases hm
  ·rw [qH i hi];exact hm
 have Eu:(H.new (.cells c e true)).get H.n=some (.cells c e true):=by rw [Z.jO,if_pos rfl]
 refine ⟨H.new (.cells c e true),fun i=>if i=H.n then some l else φ i,⟨r.wf.new _,Nat.le_trans r.d4 (by rw [Z.qQ];omega),fun i hi=>?_,fun g hg=>?_,fun i m o hm ho=>?_⟩,⟨by rw [Z.qQ];omega,fun i hi=>?_,fun i hi=>qH i J⟩,Eu,if_pos rfl⟩
 ·rw [Z.qQ] at hi
  show (if i=H.n then some l else φ i)=none
  rw [qH i J];exact r.free i J
 ·obtain ⟨m,h1,h2⟩:=r.iO g hg
  exact ⟨m,sub g m h1,h2⟩
 ·by_cases hi:i=H.n
  ·subst hi
   rw [Eu] at ho
   injection ho with ho
   subst ho
   have hm:(if H.n=H.n then some l else φ H.n)=some m:=hm
   rw [if_pos rfl] at hm
   injection hm with hm
   subst hm
   exact ⟨c,e,rfl,fun j x hx=>let ⟨y,h1,h2⟩:=hc j x hx;⟨y,h1,h2.mono sub⟩⟩
  ·have hm:(if i=H.n then some l else φ i)=some m:=hm
   rw [qH i hi] at hm
   rw [Z.jO,if_neg (fun e=>hi e.symm)] at ho
   obtain ⟨c',e',h1,h2⟩:=r.rows i m o hm ho
   exact ⟨c',e',h1,fun j x hx=>let ⟨y,h3,h4⟩:=h2 j x hx;⟨y,h3,h4.mono sub⟩⟩
 ·rw [Z.jO,if_neg J]
theorem kN.slice {w:World} {H:Z} {φ:bC} (r:kN w H φ) {a:Addr} {len cap:Nat} (hle:len≤cap) {c:List Value} (e:TypeId) (hc:len≠0→∀(j:Nat) x,c[j]?=some x→∃ y,w.cell? ⟨a.block,a.off+j,none⟩=some y∧bn φ x y) (hs:len≠0→a.spot=none) :
  ∃ H' be p k,kN w H' be∧kO H φ H' be∧jy H' p len c∧bn be (.slice p len k) (.slice (some a) len cap):=by
 by_cases h0:len=0
 ·subst h0
  exact ⟨H,φ,some ⟨0,0,some 0⟩,0,r,kO.refl ..,.inl rfl,.AQ a cap⟩
 ·obtain ⟨H',be,r',u,h1,h2⟩:=r.add (l:=⟨a.block,a.off,0⟩) e (hc h0)
  have hsp:=hs h0
  refine ⟨H',be,some ⟨H.n,0,none⟩,2*cap+1,r',u,.inr ⟨H.n,true,e,rfl,h1⟩,?_⟩
  have:=bn.mY (φ:=be) H.n 0 len cap ⟨a.block,a.off,0⟩ h2 hle
  obtain ⟨b,o,s⟩:=a
  simp only at hsp
  subst hsp
  exact this
section
variable {Q:Type} {enc:TypeId×Value→Q} {w:World}
noncomputable abbrev ju (enc:TypeId×Value→Q) (w:World):=DataW.trod enc Tryz.prog w 0 (fun _=>true) true
theorem yh {n t:Nat} {k:IntKind} (ht:Tryz.prog.underlying t=some (.int k)) {c:List Value} {x:DataW Q×List MemPlace} (h:ju enc w n t c=some x):∃ v,c=[.int k v]:=by
 obtain ⟨v,h1,_⟩:=DataW.trod_int ht h;exact ⟨v,h1⟩
theorem agB {v:Int} (h:(Lit.int .u64 v).wf=true):0≤v∧v<18446744073709551616:=by
 simp [Lit.wf,IntKind.min,IntKind.max,IntKind.signed,IntKind.bits] at h
 omega
theorem ace {n t:Nat} {k:IntKind} (ht:Tryz.prog.underlying t=some (.int k)) {c:List Value} {x:DataW Q×List MemPlace} (h:ju enc w n t c=some x):∃ v,c=[.int k v]∧(Lit.int k v).wf=true:=by
 obtain ⟨v,h1,h2⟩:=DataW.trod_int ht h;exact ⟨v,h1,by first |exact h2 |exact h2.1 |exact h2.2⟩
theorem P4 {n t:Nat} (ht:Tryz.prog.underlying t=some .bool) {c:List Value} {x:DataW Q×List MemPlace} (h:ju enc w n t c=some x):∃ v,c=[.bool v]:=by
 obtain ⟨v,h1,_⟩:=DataW.trod_bool ht h;exact ⟨v,h1⟩
theorem FR {n t:Nat} (ht:Tryz.prog.underlying t=some .string) {c:List Value} {x:DataW Q×List MemPlace} (h:ju enc w n t c=some x):∃ v:ByteArray,c=[.string v]:=by
 obtain ⟨v,h1,_⟩:=DataW.trod_string ht h;exact ⟨v,h1⟩
theorem c3:Tryz.prog.cellsOf 3=1:=an
theorem D4:Tryz.prog.cellsOf 9=1:=an
theorem MM:Tryz.prog.cellsOf 27=13:=an
theorem Tt:Tryz.prog.cellsOf 40=3:=an
theorem HL {a:Addr} {sz i n e:Nat} {y:Option (DataW Q×List MemPlace)} (hs:y.isSome=true) (h:(w.cells? 0 (a.add (i*sz)) sz).bind (ju enc w n e)=y) :
  ∃ c x,w.cells? 0 (a.add (i*sz)) sz=some c∧ju enc w n e c=some x∧c.length=sz∧∀ r v,c[r]?=some v→w.cell? ⟨a.block,a.off+(i*sz+r),none⟩=some v:=by
 obtain ⟨x,hx⟩:=Option.isSome_iff_exists.1 hs
 rw [hx,Option.bind_eq_some_iff] at h
 obtain ⟨c,h1,h2⟩:=h
 obtain ⟨h3,h4⟩:=D8 h1
 exact ⟨c,x,h1,h2,h3,fun r v hv=>add_add ((h4 r (by have:=(List.getElem?_eq_some_iff.1 hv).1;omega)).trans hv)⟩
theorem Gw {a:Addr} {sz:Nat} {c:List Value} (h:w.cells? 0 (a.add (0*sz)) sz=some c) (hz:0<sz):a.spot=none:=by
 obtain ⟨h1,h2⟩:=D8 h
 have h3:=h2 0 hz
 obtain ⟨v,hv⟩:∃ v,c[0]?=some v:=⟨c[0],fU J⟩
 rw [hv,Nat.zero_mul] at h3
 have e:(a.add 0).add 0=a:=rfl
 rw [e] at h3
 exact (zi h3).2
theorem R1 {t e:Nat} (ht:Tryz.prog.underlying t=some (.slice e)) {es sp:List (DataW Q)}:(DataW.slice es sp).weights Tryz.prog t=(es.length+sp.length)*Tryz.prog.bytesOf e::(DataW.weightsAll Tryz.prog e es++DataW.weightsAll Tryz.prog e sp):=by
 rw [DataW.weights,ht]
theorem agG {t:Nat} {fs:Array Field} (ht:Tryz.prog.underlying t=some (.struct fs)) {ps:List (DataW Q)}:(DataW.agg ps).weights Tryz.prog t=DataW.weightsEach Tryz.prog (fs.toList.map (·.type)) ps:=by
 rw [DataW.weights,ht]
theorem R0:∀{ts:List TypeId} {ds:List (DataW Q)} {i:Nat} {t:TypeId} {d:DataW Q},ts[i]?=some t→ds[i]?=some d→∀ q∈d.weights Tryz.prog t,q∈DataW.weightsEach Tryz.prog ts ds
 |[],ds,i,t,d,h,_,q,_=>by simp at h
 |t0::ts,[],i,t,d,_,h,q,_=>by simp at h
 |t0::ts,d0::ds,i,t,d,h1,h2,q,hq=>by
  rw [DataW.weightsEach]
  cases i with
  |zero=>simp at h1 h2;subst h1;subst h2;exact List.mem_append_left _ hq
  |succ i=>simp at h1 h2;exact List.mem_append_right _ (R0 h1 h2 q hq)
theorem RZ:∀{e:TypeId} {ds:List (DataW Q)} {d:DataW Q},d∈ds→∀ q∈d.weights Tryz.prog e,q∈DataW.weightsAll Tryz.prog e ds
 |e,[],d,h,q,_=>by cases h
 |e,d0::ds,d,h,q,hq=>by
  rw [DataW.weightsAll]
  rcases List.mem_cons.1 h with rfl |h
  ·exact List.mem_append_left _ hq
  ·exact List.mem_append_right _ (RZ h q hq)
theorem S2:Tryz.prog.bytesOf 9=16:=an
theorem S1:Tryz.prog.bytesOf 40=40:=an
theorem S0:16≤Tryz.prog.bytesOf 27:=gg an
def ri (t:Nat) (x:DataW Q×List MemPlace):Prop:=∀ q∈x.1.weights Tryz.prog t,q≤140737488351232
theorem ri.len {t e len b:Nat} {es sp:List (DataW Q)} {ps:List MemPlace} (h:ri t (.slice es sp,ps)) (ht:Tryz.prog.underlying t=some (.slice e)) (hb:16≤Tryz.prog.bytesOf e) (hl:es.length=len):len<281474976710656:=by
 have h1:=h ((es.length+sp.length)*Tryz.prog.bytesOf e) (by show _∈(DataW.slice es sp).weights Tryz.prog t;rw [R1 ht];simp)
 have h2:=Nat.mul_le_mul_left (es.length+sp.length) hb
 omega
theorem abL {fuel:Nat} {v:Value} {x:DataW Q×List MemPlace} (h:ju enc w fuel 24 [v]=some x) (hw:ri 24 x) {H:Z} {φ:bC} (r:kN w H φ) :
  ∃ H' be p n k,∃ ns:List ByteArray,kN w H' be∧kO H φ H' be∧n=ns.length∧n<281474976710656∧jy H' p n (mW ns)∧bn be (.slice p n k) v:=by
 rcases DataW.trod_slice Tryz.underlying24 h with ⟨h1,_⟩ |⟨a,len,cap,elems,rest,n,rfl,h1,zT,_,hle,hcap,hlen,hel,_⟩
 ·injection h1 with h1
  subst h1
  exact ⟨H,φ,none,0,0,[],r,kO.refl ..,rfl,J,.inl rfl,.tF⟩
 ·injection h1 with h1
  subst h1
  rw [D4] at hel
  have el:∀ i,i<len→∃ s:ByteArray,w.cell? ⟨a.block,a.off+i,none⟩=some (.string s)∧(i=0→a.spot=none):=fun i hi=>by
   obtain ⟨c,y,h1,h2,h3,h4⟩:=HL (by rw [fU J];rfl) (hel i hi)
   obtain ⟨s,rfl⟩:=FR Tryz.underlying9 h2
   refine ⟨s,by have:=h4 0 _ rfl;rwa [Nat.mul_one] at this,fun h0=>?_⟩
   subst h0
   exact Gw h1 J
  obtain ⟨ns,l1,l2⟩:=Cy el
  obtain ⟨H',be,p,k,r',u,hr,hv⟩:=r.slice (a:=a) hle (c:=mW ns) 9 (fun _ j x hx=>by
   rw [mW,List.getElem?_map] at hx
   cases hj:ns[j]? with
   |none=>rw [hj] at hx;cases hx
   |some s=>
    rw [hj] at hx
    simp only [Option.map_some,bH] at hx
    subst hx
    exact ⟨_,(l2 j s hj).1,.string s⟩) (fun h0=>(el 0 J).elim fun s hs=>hs.2 rfl)
  subst zT
  exact ⟨H',be,p,len,k,ns,r',u,l1.symm,hw.len (b:=0) Tryz.underlying24 (Nat.le_of_eq S2.symm) (by simpa using hlen),hr,hv⟩
theorem abr {fuel:Nat} {v:Value} {x:DataW Q×List MemPlace} (h:ju enc w fuel 23 [v]=some x) (hw:ri 23 x) {H:Z} {φ:bC} (r:kN w H φ) :
  ∃ H' be p n k,∃ ms:List iq,kN w H' be∧kO H φ H' be∧n=ms.length∧n<281474976710656∧jy H' p n (uQ ms)∧bn be (.slice p n k) v:=by
 rcases DataW.trod_slice Tryz.underlying23 h with ⟨h1,_⟩ |⟨a,len,cap,elems,rest,n,rfl,h1,zT,_,hle,hcap,hlen,hel,_⟩
 ·injection h1 with h1
  subst h1
  exact ⟨H,φ,none,0,0,[],r,kO.refl ..,rfl,J,.inl rfl,.tF⟩
 ·injection h1 with h1
  subst h1
  rw [Tt] at hel
  have el:∀ i,i<len→∃ m:iq,(∀ r v,[M m.1,Value.string m.2.1,.string m.2.2][r]?=some v→w.cell? ⟨a.block,a.off+(i*3+r),none⟩=some v)∧(i=0→a.spot=none):=fun i hi=>by
   obtain ⟨c,y,h1,h2,h3,h4⟩:=HL (by rw [fU J];rfl) (hel i hi)
   obtain ⟨xs,m,_,_,_,hx,hf⟩:=DataW.trod_struct Tryz.underlying40 h2
   have hx:xs.length=3:=hx
   have f0:=show ju enc w m 3 ((c.drop 0).take (Tryz.prog.cellsOf 3))=xs[0]? from hf 0 _ rfl
   have f1:=show ju enc w m 9 ((c.drop 1).take (Tryz.prog.cellsOf 9))=xs[1]? from hf 1 _ rfl
   have f2:=show ju enc w m 9 ((c.drop 2).take (Tryz.prog.cellsOf 9))=xs[2]? from hf 2 _ rfl
   rw [fU J] at f0 f1 f2
   rw [c3] at f0
   rw [D4] at f1 f2
   obtain ⟨o,e0⟩:=yh Tryz.underlying3 f0
   obtain ⟨s,e1⟩:=FR Tryz.underlying9 f1
   obtain ⟨t,e2⟩:=FR Tryz.underlying9 f2
   have hc:c=[M o,.string s,.string t]:=by
    match c,h3 with
    |[c0,c1,c2],_=>
     simp at e0 e1 e2
     rw [e0,e1,e2]
   refine ⟨(o,s,t),fun r v hv=>h4 r v (by rw [hc];exact hv),fun h0=>?_⟩
   subst h0
   exact Gw h1 J
  obtain ⟨ms,l1,l2⟩:=Cy el
  obtain ⟨H',be,p,k,r',u,hr,hv⟩:=r.slice (a:=a) hle (c:=uQ ms) 40 (fun _ j x hx=>by
   have hjl:(uQ ms).length=ms.length*3:=by
    rw [uQ,List.length_flatMap]
    simp only [dX,e3,List.map_const',List.sum_replicate_nat]
   have hj:=(List.getElem?_eq_some_iff.1 hx).1
   have hi:j / 3<ms.length:=J
   obtain ⟨g1,g2⟩:=JI (fU hi)
   have g3:=Bz (j:=j%3) g1 J
   rw [show j / 3*3+j%3=j by omega,hx] at g3
   have g4:=(l2 (j / 3) _ (fU hi)).1 (j%3) x g3.symm
   rw [show j / 3*3+j%3=j by omega] at g4
   refine ⟨x,g4,?_⟩
   have hr:j%3=0∨j%3=1∨j%3=2:=J
   rcases hr with e |e |e <;> rw [e] at g3 <;> simp only [List.getElem?_cons_zero,List.getElem?_cons_succ,bH] at g3 <;> subst g3
   ·exact .int _ _
   ·exact .string _
   ·exact .string _) (fun h0=>(el 0 J).elim fun s hs=>hs.2 rfl)
  subst zT
  exact ⟨H',be,p,len,k,ms,r',u,l1.symm,hw.len (b:=0) Tryz.underlying23 (by rw [S1];omega) (by simpa using hlen),hr,hv⟩
theorem OG {n:Nat} (ih:∀ c x,ju enc w n 27 c=some x→ri 27 x→∀ H φ,kN w H φ→∃ H' be t,kN w H' be∧kO H φ H' be∧jb H' t∧eI be (ai t.f) c):∀(cs:List (List Value)),(∀ c∈cs,∃ x,ju enc w n 27 c=some x∧ri 27 x)→∀ H φ,kN w H φ→
  ∃ H' be,∃ ts:List bh,kN w H' be∧kO H φ H' be∧ts.length=cs.length∧(∀ t∈ts,jb H' t)∧∀(i:Nat) t c,ts[i]?=some t→cs[i]?=some c→eI be (ai t.f) c
 |[],_,H,φ,r=>⟨H,φ,[],r,kO.refl ..,rfl,(fun t ht=>by cases ht),(fun i t c ht=>by simp at ht)⟩
 |c::cs,h,H,φ,r=>by
  obtain ⟨x,hx,YF⟩:=h c aW
  obtain ⟨H1,fu,t,r1,u1,l1,e1⟩:=ih c x hx YF H φ r
  obtain ⟨H2,o8,ts,r2,u2,l2,k2,e2⟩:=OG ih cs (fun c hc=>h c (List.mem_cons_of_mem _ hc)) H1 fu r1
  refine ⟨H2,o8,t::ts,r2,u1.trans u2,by simp [l2],fun q hq=>?_,fun i q d hq hd=>?_⟩
  ·rcases List.mem_cons.1 hq with rfl |hq
   ·exact u2.Fa r1 r2 l1
   ·exact k2 q hq
  ·cases i with
   |zero=>simp at hq hd;subst hq;subst hd;exact e1.mono (u2.sub r1)
   |succ i=>simp at hq hd;exact e2 i q d hq hd
theorem RP:∀(fuel:Nat) (c:List Value) (x:DataW Q×List MemPlace),ju enc w fuel 27 c=some x→ri 27 x→∀ H φ,kN w H φ→∃ H' be t,kN w H' be∧kO H φ H' be∧jb H' t∧eI be (ai t.f) c
 |0,c,x,h,hw,H,φ,r=>by simp [DataW.trod] at h
 |fuel+1,c,x,h,hw,H,φ,r=>by
  obtain ⟨xs,n,hn,xP,hl,hx,hf⟩:=DataW.trod_struct Tryz.underlying27 h
  have hn:fuel=n:=J
  subst hn
  have hx:xs.length=13:=hx
  subst xP
  have Cd:∀(i:Nat) (t:TypeId) y,([3,3,22,9,23,2,2,4,2,3,24,4,25]:List TypeId)[i]?=some t→xs[i]?=some y→ri t y:=fun i t y h1 h2 q hq=>by
   refine hw q ?_
   show q∈(DataW.agg (xs.map (·.1))).weights Tryz.prog 27
   rw [agG Tryz.underlying27]
   exact R0 (i:=i) (t:=t) (d:=y.1) h1 (by rw [List.getElem?_map,h2];rfl) q hq
  rw [MM] at hl
  have f0:=(show ju enc w fuel 3 ((c.drop 0).take (Tryz.prog.cellsOf 3))=xs[0]? from hf 0 _ rfl).trans (fU (show 0<xs.length by omega))
  have f1:=(show ju enc w fuel 3 ((c.drop 1).take (Tryz.prog.cellsOf 3))=xs[1]? from hf 1 _ rfl).trans (fU (show 1<xs.length by omega))
  have f2:=(show ju enc w fuel 22 ((c.drop 2).take (Tryz.prog.cellsOf 22))=xs[2]? from hf 2 _ rfl).trans (fU (show 2<xs.length by omega))
  have f3:=(show ju enc w fuel 9 ((c.drop 3).take (Tryz.prog.cellsOf 9))=xs[3]? from hf 3 _ rfl).trans (fU (show 3<xs.length by omega))
  have f4:=(show ju enc w fuel 23 ((c.drop 4).take (Tryz.prog.cellsOf 23))=xs[4]? from hf 4 _ rfl).trans (fU (show 4<xs.length by omega))
  have f5:=(show ju enc w fuel 2 ((c.drop 5).take (Tryz.prog.cellsOf 2))=xs[5]? from hf 5 _ rfl).trans (fU (show 5<xs.length by omega))
  have f6:=(show ju enc w fuel 2 ((c.drop 6).take (Tryz.prog.cellsOf 2))=xs[6]? from hf 6 _ rfl).trans (fU (show 6<xs.length by omega))
  have f7:=(show ju enc w fuel 4 ((c.drop 7).take (Tryz.prog.cellsOf 4))=xs[7]? from hf 7 _ rfl).trans (fU (show 7<xs.length by omega))
  have f8:=(show ju enc w fuel 2 ((c.drop 8).take (Tryz.prog.cellsOf 2))=xs[8]? from hf 8 _ rfl).trans (fU (show 8<xs.length by omega))
  have f9:=(show ju enc w fuel 3 ((c.drop 9).take (Tryz.prog.cellsOf 3))=xs[9]? from hf 9 _ rfl).trans (fU (show 9<xs.length by omega))
  have f10:=(show ju enc w fuel 24 ((c.drop 10).take (Tryz.prog.cellsOf 24))=xs[10]? from hf 10 _ rfl).trans (fU (show 10<xs.length by omega))
  have f11:=(show ju enc w fuel 4 ((c.drop 11).take (Tryz.prog.cellsOf 4))=xs[11]? from hf 11 _ rfl).trans (fU (show 11<xs.length by omega))
  have f12:=(show ju enc w fuel 25 ((c.drop 12).take (Tryz.prog.cellsOf 25))=xs[12]? from hf 12 _ rfl).trans (fU (show 12<xs.length by omega))
  have c1:∀ t,t∈[2,3,4,9,22,23,24,25]→Tryz.prog.cellsOf t=1:=by
   intro t ht
   simp only [List.mem_cons,aq,or_false] at ht
   rcases ht with rfl |rfl |rfl |rfl |rfl |rfl |rfl |rfl <;> kernel_rfl
  rw [c1 2 aW] at f5 f6 f8
  rw [c1 3 aW] at f0 f1 f9
  rw [c1 4 aW] at f7 f11
  rw [c1 9 aW] at f3
  rw [c1 22 aW] at f2
  rw [c1 23 aW] at f4
  rw [c1 24 aW] at f10
  rw [c1 25 aW] at f12
  match c,hl with
  |[v0,v1,v2,v3,v4,v5,v6,ajw,RV,v9,v10,v11,Ln],_=>
   simp only [List.drop_zero,List.drop_succ_cons,List.take_succ_cons,List.take_zero] at f0 f1 f2 f3 f4 f5 f6 f7 f8 f9 f10 f11 f12
   obtain ⟨k,e⟩:=yh Tryz.underlying3 f0;injection e with e;subst e
   obtain ⟨op,e⟩:=yh Tryz.underlying3 f1;injection e with e;subst e
   obtain ⟨agC,e,Yw⟩:=ace Tryz.underlying22 f2;injection e with e;subst e
   obtain ⟨s,e⟩:=FR Tryz.underlying9 f3;injection e with e;subst e
   obtain ⟨wide,e⟩:=yh Tryz.underlying2 f5;injection e with e;subst e
   obtain ⟨off,e⟩:=yh Tryz.underlying2 f6;injection e with e;subst e
   obtain ⟨ha,e⟩:=P4 Tryz.underlying4 f7;injection e with e;subst e
   obtain ⟨at_,e⟩:=yh Tryz.underlying2 f8;injection e with e;subst e
   obtain ⟨how,e⟩:=yh Tryz.underlying3 f9;injection e with e;subst e
   obtain ⟨d8,e⟩:=P4 Tryz.underlying4 f11;injection e with e;subst e
   obtain ⟨H1,fu,pm,nm,br,ms,r1,u1,m1,m2,m3,m4⟩:=abr f4 (Cd 4 23 _ rfl (fU _)) r
   obtain ⟨H2,o8,aX,nn,bo,ns,r2,u2,n1,n2,CC,abH⟩:=abL f10 (Cd 10 24 _ rfl (fU _)) r1
   have kids:∃ H3 Ba pk aj ax,∃ ts:List bh,kN w H3 Ba∧kO H2 o8 H3 Ba∧aj=ts.length∧aj<281474976710656∧jy H3 pk aj (uE ts)∧bn Ba (.slice pk aj ax) Ln∧∀ t∈ts,jb H3 t:=by
    have IP:=Cd 12 25 _ rfl (fU (show 12<xs.length by omega))
    rcases DataW.trod_slice Tryz.underlying25 f12 with ⟨h1,_⟩ |⟨a,len,cap,elems,rest,n,ah4,h1,zT,_,hle,hcap,hlen,hel,_⟩
    ·injection h1 with h1
     subst h1
     exact ⟨H2,o8,none,0,0,[],r2,kO.refl ..,rfl,J,.inl rfl,.tF,fun t ht=>by cases ht⟩
    ·injection h1 with h1
     subst h1
     rw [MM] at hel
     have el:∀ i,i<len→∃ c:List Value,(∃ y,ju enc w n 27 c=some y∧ri 27 y)∧c.length=13∧(∀ r v,c[r]?=some v→w.cell? ⟨a.block,a.off+(i*13+r),none⟩=some v)∧(i=0→a.spot=none):=fun i hi=>by
      obtain ⟨c,y,h1,h2,h3,h4⟩:=HL (by rw [fU J];rfl) (hel i hi)
      have XI:elems[i]?=some y:=by rw [← hel i hi,h1];exact h2
      refine ⟨c,⟨y,h2,fun q hq=>IP q ?_⟩,h3,h4,fun h0=>?_⟩
      ·rw [zT]
       show q∈(DataW.slice _ _).weights Tryz.prog 25
       rw [R1 Tryz.underlying25]
       exact List.mem_cons_of_mem _ (List.mem_append_left _ (RZ (List.mem_map_of_mem (List.mem_of_getElem? XI)) q hq))
      subst h0
      exact Gw h1 J
     obtain ⟨css,l1,l2⟩:=Cy el
     obtain ⟨H3,Ba,ts,yp,u3,t1,t2,t3⟩:=OG (n:=n) (fun c y hy YG=>RP n c y hy YG) css (fun c hc=>by
      obtain ⟨i,hi⟩:=List.getElem?_of_mem hc
      exact (l2 i c hi).1) H2 o8 r2
     obtain ⟨H4,ahA,p,xW,Ks,u4,hr,hv⟩:=yp.slice (a:=a) hle (c:=uE ts) 27 (fun _ j x hx=>by
      have hjl:(uE ts).length=ts.length*13:=by
       rw [uE,List.length_flatMap]
       simp only [dX,e3,List.map_const',List.sum_replicate_nat]
      have hj:=(List.getElem?_eq_some_iff.1 hx).1
      have hi:j / 13<ts.length:=J
      obtain ⟨g1,g2⟩:=Ji (fU hi)
      have g3:=Bz (j:=j%13) g1 J
      rw [show j / 13*13+j%13=j by omega,hx] at g3
      have hic:j / 13<css.length:=J
      have lr:=t3 (j / 13) _ _ (fU hi) (fU hic)
      obtain ⟨y,hy,hxy⟩:=lr.get g3.symm
      have g4:=(l2 (j / 13) _ (fU hic)).2.2.1 (j%13) y hy
      rw [show j / 13*13+j%13=j by omega] at g4
      exact ⟨y,g4,hxy⟩) (fun h0=>(el 0 J).elim fun c hc=>hc.2.2.2 rfl)
     rw [zT] at IP
     exact ⟨H4,ahA,p,len,xW,ts,Ks,u3.trans u4,J,IP.len (b:=0) Tryz.underlying25 S0 (by simpa using hlen),hr,hv,fun t ht=>u4.Fa yp Ks (t2 t ht)⟩
   obtain ⟨H3,Ba,pk,aj,ax,ts,yp,u3,k1,k2,jp,xW,I8⟩:=kids
   have up:∀{p:Option Addr} {n:Nat} {cs:List Value},jy H2 p n cs→jy H3 p n cs:=fun h=>h.up (E:=E) ⟨yp.wf,u3.n,r2.d4,u3.get⟩ r2.wf
   have age:∀{p:Option Addr} {n:Nat} {cs:List Value},jy H1 p n cs→jy H2 p n cs:=fun h=>h.up (E:=E) ⟨r2.wf,u2.n,r1.d4,u2.get⟩ r1.wf
   refine ⟨H3,Ba,.mk ⟨k,op,agC,s,pm,nm,br,wide,off,ha,at_,how,aX,nn,bo,d8,pk,aj,ax⟩ ms ns ts,yp,(u1.trans u2).trans u3,.mk ⟨m1,n1,k1,up (age m3),up CC,jp,m2,n2,k2,agB Yw⟩ I8,?_⟩
   exact .cons (.int _ _) (.cons (.int _ _) (.cons (.int _ _) (.cons (.string _) (.cons ((m4.mono (u2.sub r1)).mono (u3.sub r2)) (.cons (.int _ _) (.cons (.int _ _) (.cons (.bool _) (.cons (.int _ _) (.cons (.int _ _) (.cons (abH.mono (u3.sub r2)) (.cons (.bool _) (.cons xW (.nil _)))))))))))))
termination_by fuel=>fuel
decreasing_by omega
end
end Go.Proofs.YtglmagcldkngbaaGreatDoor
set_option maxRecDepth 1000000
namespace Go.Proofs.YtglmagcldkngbaaGreatDoor
open Go Go.Am
mutual
def lb:DataW Unit→Option (List Value)
 |.lit l=>some [l.value]
 |.agg ds=>s3 ds
 |_=>none
def s3:List (DataW Unit)→Option (List Value)
 |[]=>some []
 |d::ds=>match lb d,s3 ds with
  |some a,some b=>some (a++b)
  |_,_=>none
end
def xh:List (Nat×Nat)→Nat→Option Nat
 |[],o=>some o
 |(off,sz)::l,o=>bif Nat.beq off o then xh l (o+sz) else none
def E9 (P:Program) (t:TypeId):Bool:=match P.underlying t with
 |some (.struct fs)=>(match xh (fs.toList.map fun f=>(f.offset,P.cellsOf f.type)) 0 with |some n=>Nat.beq n (P.cellsOf t) |none=>false)
 |some (.array n e)=>Nat.beq (P.cellsOf t) (n*P.cellsOf e)
 |_=>true
theorem KY:∀(AO:List (Nat×Nat)) (o n:Nat) (xs:List (DataW Unit×List MemPlace)) (cs vs:List Value),xh AO o=some n→cs.length=n→AO.length=xs.length→
  (∀(i:Nat) s x,AO[i]?=some s→xs[i]?=some x→∀ v,lb x.1=some v→(cs.drop s.1).take s.2=v)→s3 (xs.map (·.1))=some vs→cs.drop o=vs
 |[],o,n,xs,cs,vs,h,hl,hx,_,hf=>by
  have:xs=[]:=List.eq_nil_of_length_eq_zero hx.symm
  subst this
  simp only [xh,bH] at h
  simp only [List.map_nil,s3,bH] at hf
  subst hf
  exact List.drop_of_length_le J
 |(off,sz)::AO,o,n,[],cs,vs,h,hl,hx,_,hf=>by simp at hx
 |(off,sz)::AO,o,n,x::xs,cs,vs,h,hl,hx,hk,hf=>by
  simp only [xh] at h
  cases hb:Nat.beq off o with
  |false=>rw [hb] at h;cases h
  |true=>
   rw [hb] at h
   have:=Nat.eq_of_beq_eq_true hb
   subst this
   simp only [List.map_cons,s3] at hf
   split at hf
   ·rename_i a b ha hb
    injection hf with hf
    subst hf
    have h1:=hk 0 (off,sz) x rfl rfl a ha
    have h2:=KY AO (off+sz) n xs cs b h hl (by simpa using hx) (fun i s y hs hy=>hk (i+1) s y (by simpa using hs) (by simpa using hy)) hb
    rw [← h1,← h2,← List.drop_drop,List.take_append_drop]
   ·cases hf
theorem M5 (sz:Nat):∀(n k:Nat),xh ((List.range' k n).map fun i=>(i*sz,sz)) (k*sz)=some ((k+n)*sz)
 |0,k=>rfl
 |n+1,k=>by
  rw [List.range'_succ,List.map_cons]
  have e:k*sz+sz=(k+1)*sz:=by rw [Nat.succ_mul]
  simp only [xh,Nat.beq_refl,cond_true,e]
  rw [M5 sz n (k+1)]
  congr 2;omega
def u5 (P:Program):Nat→TypeId→Bool
 |0,_=>false
 |k+1,t=>match P.underlying t with
  |some .bool |some (.int _) |some (.float _) |some .string=>true
  |some (.struct fs)=>E9 P t&&fs.toList.all fun f=>u5 P k f.type
  |some (.array _ e)=>E9 P t&&u5 P k e
  |_=>false
theorem Do {w:World} {base:Nat} {sp:Nat→Bool} {held:Bool}:∀(k fuel:Nat) (t:TypeId) (cs:List Value) (x:DataW Unit×List MemPlace) (vs:List Value),u5 Tryz.prog k t=true→
  DataW.trod (fun _=>()) Tryz.prog w base sp held fuel t cs=some x→lb x.1=some vs→cs=vs
 |0,_,t,cs,x,vs,hp,h,_=>by cases hp
 |k+1,fuel,t,cs,x,vs,hp,h,hf=>by
  cases hu:Tryz.prog.underlying t with
  |none=>rw [u5,hu] at hp;cases hp
  |some d=>
   cases d with
   |struct fs=>
    obtain ⟨xs,n,hn,rfl,hl,hx,hk⟩:=DataW.trod_struct hu h
    rw [u5,hu] at hp
    obtain ⟨rJ,hp⟩:=Bool.and_eq_true_iff.1 hp
    have hp:=List.all_eq_true.1 hp
    unfold E9 at rJ
    rw [hu] at rJ
    simp only at rJ
    split at rJ
    ·rename_i n' hc
     have hn':=Nat.eq_of_beq_eq_true rJ
     subst hn'
     exact KY _ 0 _ xs cs vs hc hl (by simpa using hx.symm) (fun i s y hs hy v hv=>by
      rw [List.getElem?_map] at hs
      cases EJ:fs.toList[i]? with
      |none=>rw [EJ] at hs;cases hs
      |some f=>
       rw [EJ] at hs
       simp only [Option.map_some,bH] at hs
       subst hs
       exact Do k n f.type _ y v (hp f (List.mem_of_getElem? EJ)) ((hk i f (by simpa using EJ)).trans hy) hv) hf
    ·cases rJ
   |array n e=>
    obtain ⟨xs,m,hm,rfl,hl,hx,hk⟩:=DataW.trod_array hu h
    rw [u5,hu] at hp
    obtain ⟨rJ,hp⟩:=Bool.and_eq_true_iff.1 hp
    unfold E9 at rJ
    rw [hu] at rJ
    have rJ:=Nat.eq_of_beq_eq_true rJ
    have hc:=M5 (Tryz.prog.cellsOf e) n 0
    rw [Nat.zero_mul,Nat.zero_add] at hc
    exact KY _ 0 _ xs cs vs hc J (by simp [hx]) (fun i s y hs hy v hv=>by
     rw [List.getElem?_map] at hs
     have hi:i<n:=by have:=(List.getElem?_eq_some_iff.1 hy).1;omega
     rw [List.getElem?_range' hi] at hs
     simp only [Option.map_some,bH,Nat.zero_add,Nat.one_mul] at hs
     subst hs
     exact Do k m e _ y v hp ((hk i hi).trans hy) hv) hf
   |bool=>
    obtain ⟨b,rfl,rfl⟩:=DataW.trod_bool hu h
    simp only [lb,Lit.value,bH] at hf;exact hf
   |int k=>
    obtain ⟨b,rfl,rfl,_⟩:=DataW.trod_int hu h
    simp only [lb,Lit.value,bH] at hf;exact hf
   |string=>
    obtain ⟨b,rfl,rfl,_⟩:=DataW.trod_string hu h
    simp only [lb,Lit.value,bH] at hf
    rw [← hf]
   |float kk=>
    cases fuel with
    |zero=>simp [DataW.trod] at h
    |succ fuel=>
    unfold DataW.trod at h
    rw [hu] at h
    split at h <;> simp_all
    obtain ⟨⟨rfl,_⟩,rfl⟩:=h
    simp only [lb,Lit.value,bH] at hf
    exact hf
   |_=>rw [u5,hu] at hp;cases hp
end Go.Proofs.YtglmagcldkngbaaGreatDoor
set_option maxRecDepth 1000000
namespace Go.Proofs.YtglmagcldkngbaaGreatDoor
open Go Go.Am
def yk:List (String×DataW Unit):=[("math/bits.deBruijn32tab",Rows.laid_math_bits_deBruijn32tab),("math/bits.deBruijn64tab",Rows.laid_math_bits_deBruijn64tab),("internal/strconv.float32info",Rows.laid_internal_strconv_float32info),("internal/strconv.float64info",Rows.laid_internal_strconv_float64info),("internal/strconv.optimize",Rows.laid_internal_strconv_optimize),("internal/strconv.powtab",Rows.laid_internal_strconv_powtab),("internal/strconv.float64pow10",Rows.laid_internal_strconv_float64pow10),("internal/strconv.float32pow10",Rows.laid_internal_strconv_float32pow10),("internal/strconv.uint64pow10",Rows.laid_internal_strconv_uint64pow10),("unicode/utf8.acceptRanges",Rows.laid_unicode_utf8_acceptRanges),("strconv.ErrRange",Rows.laid_strconv_ErrRange),("strconv.ErrSyntax",Rows.laid_strconv_ErrSyntax),("unicode.White_Space",Rows.laid_unicode_White_Space),("strings.asciiSpace",Rows.laid_strings_asciiSpace),("soundings/span.units",Rows.laid_soundings_span_units),("internal/strconv.leftcheats",Rows.laid_internal_strconv_leftcheats),("internal/strconv.pow10Tab",Rows.laid_internal_strconv_pow10Tab),("unicode/utf8.first",Rows.laid_unicode_utf8_first)]
theorem E8 {w:World} (h:laidMetH Tryz.prog Rows.checkKidsRow.laid w):laidMet Tryz.prog yk w∧handlesMet Tryz.prog [("errors.errorType",Rows.laid_errors_errorType)] w:=h
theorem OW {w:World}:∀{l:List (String×DataW Unit)} {ps:List MemPlace},DataW.LaidVars Tryz.prog w l ps→∀(k:Nat) n d,l[k]?=some (n,d)→
  ∃ g t cs fuel p,Tryz.prog.globalNamed n=some g∧(Tryz.prog.globals[g]?).map (·.type)=some t∧w.var? Tryz.prog n=some cs∧DataW.trod (fun _=>()) Tryz.prog w 0 (fun _=>true) false fuel t cs.toList=some (d,p)
 |[],ps,h,k,n,d,hk=>by simp at hk
 |(n0,d0)::l,ps,h,k,n,d,hk=>by
  obtain ⟨g,t,cs,fuel,p,q,h1,h2,h3,h4,h5,_⟩:=h
  cases k with
  |zero=>
   simp only [List.getElem?_cons_zero,bH,b8] at hk
   obtain ⟨rfl,rfl⟩:=hk
   exact ⟨g,t,cs,fuel,p,h1,h2,h3,h4⟩
  |succ k=>exact OW h5 k n d (by simpa using hk)
theorem AZ {w:World} (h:laidMetH Tryz.prog Rows.checkKidsRow.laid w) (k:Nat) {n:String} {d:DataW Unit} {g t:Nat} (hk:yk[k]?=some (n,d)) (hg:Tryz.prog.globalNamed n=some g) (ht:(Tryz.prog.globals[g]?).map (·.type)=some t) :
  ∃ cs:List Value,∃ fuel p,DataW.trod (fun _=>()) Tryz.prog w 0 (fun _=>true) false fuel t cs=some (d,p)∧∀(j:Nat) x,cs[j]?=some x→w.cell? ⟨g,j,none⟩=some x:=by
 obtain ⟨⟨ps,h1,_⟩,_⟩:=E8 h
 obtain ⟨g',t',cs,fuel,p,h2,h3,h4,h5⟩:=OW h1 k n d hk
 rw [hg] at h2
 injection h2 with h2
 subst h2
 rw [ht] at h3
 injection h3 with h3
 subst h3
 exact ⟨cs.toList,fuel,p,h5,fun j x hx=>by rw [World.var?_cell hg h4 j];simpa using hx⟩
theorem sl {w:World} (h:laidMetH Tryz.prog Rows.checkKidsRow.laid w) (k:Nat) {n:String} {d:DataW Unit} {g t:Nat} {vs:List Value} (hk:yk[k]?=some (n,d)) (hg:Tryz.prog.globalNamed n=some g) (ht:(Tryz.prog.globals[g]?).map (·.type)=some t)
  (hp:u5 Tryz.prog 6 t=true) (hf:lb d=some vs) (j:Nat) (x:Value) (hx:vs[j]?=some x):w.cell? ⟨g,j,none⟩=some x:=by
 obtain ⟨cs,fuel,p,h1,h2⟩:=AZ h k hk hg ht
 have:=Do 6 fuel t cs _ vs hp h1 hf
 subst this
 exact h2 j x hx
theorem NJ:∀{ds:List (DataW Unit)} {vs:List Value},s3 ds=some vs→∀ d∈ds,∃ v,lb d=some v
 |[],vs,_,d,hd=>by cases hd
 |d0::ds,vs,h,d,hd=>by
  simp only [s3] at h
  split at h
  ·rename_i a b ha hb
   rcases List.mem_cons.1 hd with rfl |hd
   ·exact ⟨a,ha⟩
   ·exact NJ hb d hd
  ·cases h
theorem NI {sz:Nat}:∀{ds:List (DataW Unit)} {css:List { c:List Value // c.length=sz }},ds.length=css.length→(∀(i:Nat) d c,ds[i]?=some d→css[i]?=some c→lb d=some c.1)→s3 ds=some (css.flatMap Subtype.val)
 |[],[],_,_=>rfl
 |[],_::_,h,_=>by simp at h
 |_::_,[],h,_=>by simp at h
 |d::ds,c::css,h,k=>by
  simp only [s3,k 0 d c rfl rfl,NI (by simpa using h) (fun i d' c' hd hc=>k (i+1) d' c' (by simpa using hd) (by simpa using hc)),List.flatMap_cons]
theorem Dh {w:World} {fuel t e sz:Nat} {cs:List Value} {ds:List (DataW Unit)} {vs:List Value} {p:List MemPlace} (h:DataW.trod (fun _=>()) Tryz.prog w 0 (fun _=>true) false fuel t cs=some (.slice ds [],p))
  (hu:Tryz.prog.underlying t=some (.slice e)) (hs:Tryz.prog.cellsOf e=sz) (hz:0<sz) (hp:u5 Tryz.prog 6 e=true) (hn:0<ds.length) (hf:s3 ds=some vs) :
  ∃ a:Addr,cs=[.slice (some a) ds.length ds.length]∧a.spot=none∧∀(j:Nat) x,vs[j]?=some x→w.cell? ⟨a.block,a.off+j,none⟩=some x:=by
 rcases DataW.trod_slice hu h with ⟨_,h1⟩ |⟨a,len,cap,elems,rest,n,_,h1,h2,_,hle,hcap,hlen,hel,mc,_⟩
 ·cases h1
 ·simp only [b8,DataW.slice.injEq] at h2
  obtain ⟨⟨h3,h4⟩,_⟩:=h2
  have hr:rest=[]:=by
   cases rest with
   |nil=>rfl
   |cons _ _=>simp at h4
  have zJ:ds.length=len:=by rw [h3,List.length_map,hlen]
  have hc:cap=len:=by
   have:=(mc rfl).1
   rw [hr] at this
   simp at this
   omega
  rw [hs] at hel
  have el:∀ i,i<len→∃ c:{ c:List Value // c.length=sz },(∀ d,ds[i]?=some d→lb d=some c.1)∧(∀ r v,c.1[r]?=some v→w.cell? ⟨a.block,a.off+(i*sz+r),none⟩=some v)∧(i=0→a.spot=none):=fun i hi=>by
   have hx:=hel i hi
   obtain ⟨y,hy⟩:∃ y,elems[i]?=some y:=⟨_,fU J⟩
   rw [hy,Option.bind_eq_some_iff] at hx
   obtain ⟨c,k1,k2⟩:=hx
   obtain ⟨jp,xW⟩:=D8 k1
   have hd:ds[i]?=some y.1:=by rw [h3,List.getElem?_map,hy];rfl
   obtain ⟨v,hv⟩:=NJ hf y.1 (List.mem_of_getElem? hd)
   have:=Do 6 n e c y v hp k2 hv
   subst this
   refine ⟨⟨c,jp⟩,fun d h=>?_,fun r v hv=>add_add ((xW r (by have h9:r<c.length:=(List.getElem?_eq_some_iff.1 hv).1;omega)).trans hv),fun h0=>?_⟩
   ·rw [hd] at h;injection h with h;subst h;exact hv
   ·subst h0;exact Gw k1 hz
  obtain ⟨css,l1,l2⟩:=Cy el
  have hvs:vs=css.flatMap Subtype.val:=by
   have:=NI (ds:=ds) (css:=css) J (fun i d c hd hc=>(l2 i c hc).1 d hd)
   rw [hf] at this
   exact Option.some.inj this
  refine ⟨a,by rw [h1,hc,zJ],(el 0 J).elim fun c h=>h.2.2 rfl,fun j x hx=>?_⟩
  rw [hvs] at hx
  have hjl:(css.flatMap Subtype.val).length=css.length*sz:=by
   rw [List.length_flatMap]
   have:css.map (fun c=>c.1.length)=css.map fun _=>sz:=List.map_congr_left fun c _=>c.2
   rw [show (fun c:{ c:List Value // c.length=sz }=>(c.1).length)=fun c=>List.length c.1 from rfl] at this
   rw [this,List.map_const',List.sum_replicate_nat]
  have hj:=(List.getElem?_eq_some_iff.1 hx).1
  have hi:j / sz<css.length:=Nat.div_lt_of_lt_mul (by rw [Nat.mul_comm];omega)
  obtain ⟨g1,g2⟩:=Ep (g:=Subtype.val) (n:=sz) (fun c:{ c:List Value // c.length=sz }=>c.2) (fU hi)
  have g3:=Bz (j:=j%sz) g1 (Nat.mod_lt _ hz)
  rw [Nat.div_add_mod' j sz,hx] at g3
  have g4:=(l2 (j / sz) _ (fU hi)).2.1 (j%sz) x g3.symm
  rw [Nat.div_add_mod' j sz] at g4
  exact g4
def fY (k:Nat):List Value:=match wX[k]? with
 |some (dL.cells c _ _)=>c
 |_=>[]
def rA:DataW Unit→List (DataW Unit)
 |.slice ds _=>ds
 |_=>[]
theorem v2 {w:World} (h:laidMetH Tryz.prog Rows.checkKidsRow.laid w) (j:Nat) (x:Value) (hx:(fY 2)[j]?=some x):w.cell? ⟨2,j,none⟩=some x:=
 sl h 13 (n:= "strings.asciiSpace") rfl an (t:=131) an an (show lb Rows.laid_strings_asciiSpace=some (fY 2) by kernel_rfl) j x hx
theorem v4 {w:World} (h:laidMetH Tryz.prog Rows.checkKidsRow.laid w) (j:Nat) (x:Value) (hx:(fY 4)[j]?=some x):w.cell? ⟨4,j,none⟩=some x:=
 sl h 14 (n:= "soundings/span.units") rfl an (t:=221) an an (show lb Rows.laid_soundings_span_units=some (fY 4) by kernel_rfl) j x hx
theorem v5 {w:World} (h:laidMetH Tryz.prog Rows.checkKidsRow.laid w) (j:Nat) (x:Value) (hx:(fY 5)[j]?=some x):w.cell? ⟨5,j,none⟩=some x:=
 sl h 17 (n:= "unicode/utf8.first") rfl an (t:=131) an an (show lb Rows.laid_unicode_utf8_first=some (fY 5) by kernel_rfl) j x hx
theorem v6 {w:World} (h:laidMetH Tryz.prog Rows.checkKidsRow.laid w) (j:Nat) (x:Value) (hx:(fY 6)[j]?=some x):w.cell? ⟨6,j,none⟩=some x:=
 sl h 9 (n:= "unicode/utf8.acceptRanges") rfl an (t:=225) an an (show lb Rows.laid_unicode_utf8_acceptRanges=some (fY 6) by kernel_rfl) j x hx
theorem v10 {w:World} (h:laidMetH Tryz.prog Rows.checkKidsRow.laid w) (j:Nat) (x:Value) (hx:(fY 10)[j]?=some x):w.cell? ⟨10,j,none⟩=some x:=
 sl h 2 (n:= "internal/strconv.float32info") rfl an (t:=272) an an (show lb Rows.laid_internal_strconv_float32info=some (fY 10) by kernel_rfl) j x hx
theorem v11 {w:World} (h:laidMetH Tryz.prog Rows.checkKidsRow.laid w) (j:Nat) (x:Value) (hx:(fY 11)[j]?=some x):w.cell? ⟨11,j,none⟩=some x:=
 sl h 4 (n:= "internal/strconv.optimize") rfl an (t:=4) an an (show lb Rows.laid_internal_strconv_optimize=some (fY 11) by kernel_rfl) j x hx
theorem Ln {w:World} (h:laidMetH Tryz.prog Rows.checkKidsRow.laid w) (j:Nat) (x:Value) (hx:(fY 12)[j]?=some x):w.cell? ⟨12,j,none⟩=some x:=
 sl h 3 (n:= "internal/strconv.float64info") rfl an (t:=272) an an (show lb Rows.laid_internal_strconv_float64info=some (fY 12) by kernel_rfl) j x hx
theorem agk {w:World} (h:laidMetH Tryz.prog Rows.checkKidsRow.laid w) (j:Nat) (x:Value) (hx:(fY 16)[j]?=some x):w.cell? ⟨16,j,none⟩=some x:=
 sl h 16 (n:= "internal/strconv.pow10Tab") rfl an (t:=311) an an (show lb Rows.laid_internal_strconv_pow10Tab=some (fY 16) by kernel_rfl) j x hx
theorem agm {w:World} (h:laidMetH Tryz.prog Rows.checkKidsRow.laid w) (j:Nat) (x:Value) (hx:(fY 18)[j]?=some x):w.cell? ⟨18,j,none⟩=some x:=
 sl h 8 (n:= "internal/strconv.uint64pow10") rfl an (t:=325) an an (show lb Rows.laid_internal_strconv_uint64pow10=some (fY 18) by kernel_rfl) j x hx
theorem agn {w:World} (h:laidMetH Tryz.prog Rows.checkKidsRow.laid w) (j:Nat) (x:Value) (hx:(fY 19)[j]?=some x):w.cell? ⟨19,j,none⟩=some x:=
 sl h 0 (n:= "math/bits.deBruijn32tab") rfl an (t:=328) an an (show lb Rows.laid_math_bits_deBruijn32tab=some (fY 19) by kernel_rfl) j x hx
theorem v20 {w:World} (h:laidMetH Tryz.prog Rows.checkKidsRow.laid w) (j:Nat) (x:Value) (hx:(fY 20)[j]?=some x):w.cell? ⟨20,j,none⟩=some x:=
 sl h 1 (n:= "math/bits.deBruijn64tab") rfl an (t:=329) an an (show lb Rows.laid_math_bits_deBruijn64tab=some (fY 20) by kernel_rfl) j x hx
theorem agi {w:World} (h:laidMetH Tryz.prog Rows.checkKidsRow.laid w):∃ a:Addr,w.cell? ⟨14,0,none⟩=some (.slice (some a) 9 9)∧a.spot=none∧∀(j:Nat) x,(fY 26)[j]?=some x→w.cell? ⟨a.block,a.off+j,none⟩=some x:=by
 obtain ⟨cs,fuel,p,h1,h2⟩:=AZ h 5 (n:= "internal/strconv.powtab") (d:=.slice (rA Rows.laid_internal_strconv_powtab) []) (g:=14) (t:=44) an an an
 have hn:(rA Rows.laid_internal_strconv_powtab).length=9:=by kernel_rfl
 obtain ⟨a,k1,k2,jp⟩:=Dh (e:=3) (sz:=1) (vs:=fY 26) h1 an an (by decide) an J an
 rw [hn] at k1
 exact ⟨a,h2 0 _ (by rw [k1];rfl),k2,jp⟩
theorem agj {w:World} (h:laidMetH Tryz.prog Rows.checkKidsRow.laid w):∃ a:Addr,w.cell? ⟨15,0,none⟩=some (.slice (some a) 23 23)∧a.spot=none∧∀(j:Nat) x,(fY 27)[j]?=some x→w.cell? ⟨a.block,a.off+j,none⟩=some x:=by
 obtain ⟨cs,fuel,p,h1,h2⟩:=AZ h 6 (n:= "internal/strconv.float64pow10") (d:=.slice (rA Rows.laid_internal_strconv_float64pow10) []) (g:=15) (t:=306) an an an
 have hn:(rA Rows.laid_internal_strconv_float64pow10).length=23:=by kernel_rfl
 obtain ⟨a,k1,k2,jp⟩:=Dh (e:=104) (sz:=1) (vs:=fY 27) h1 an an (by decide) an J an
 rw [hn] at k1
 exact ⟨a,h2 0 _ (by rw [k1];rfl),k2,jp⟩
theorem agh {w:World} (h:laidMetH Tryz.prog Rows.checkKidsRow.laid w):∃ a:Addr,w.cell? ⟨13,0,none⟩=some (.slice (some a) 11 11)∧a.spot=none∧∀(j:Nat) x,(fY 28)[j]?=some x→w.cell? ⟨a.block,a.off+j,none⟩=some x:=by
 obtain ⟨cs,fuel,p,h1,h2⟩:=AZ h 7 (n:= "internal/strconv.float32pow10") (d:=.slice (rA Rows.laid_internal_strconv_float32pow10) []) (g:=13) (t:=294) an an an
 have hn:(rA Rows.laid_internal_strconv_float32pow10).length=11:=by kernel_rfl
 obtain ⟨a,k1,k2,jp⟩:=Dh (e:=255) (sz:=1) (vs:=fY 28) h1 an an (by decide) an J an
 rw [hn] at k1
 exact ⟨a,h2 0 _ (by rw [k1];rfl),k2,jp⟩
theorem agl {w:World} (h:laidMetH Tryz.prog Rows.checkKidsRow.laid w):∃ a:Addr,w.cell? ⟨17,0,none⟩=some (.slice (some a) 61 61)∧a.spot=none∧∀(j:Nat) x,(fY 29)[j]?=some x→w.cell? ⟨a.block,a.off+j,none⟩=some x:=by
 obtain ⟨cs,fuel,p,h1,h2⟩:=AZ h 15 (n:= "internal/strconv.leftcheats") (d:=.slice (rA Rows.laid_internal_strconv_leftcheats) []) (g:=17) (t:=322) an an an
 have hn:(rA Rows.laid_internal_strconv_leftcheats).length=61:=by kernel_rfl
 obtain ⟨a,k1,k2,jp⟩:=Dh (e:=321) (sz:=2) (vs:=fY 29) h1 an an (by decide) an J an
 rw [hn] at k1
 exact ⟨a,h2 0 _ (by rw [k1];rfl),k2,jp⟩
theorem star: "*"++ "errors.errorString"= "*errors.errorString":=by decide
theorem QX (u:TypeId) (h:Tryz.prog.typeName? 3 u=some "*errors.errorString"):u=289:=
 typeName_ptr_named (nm:= "errors.errorString") (by rw [star];kernel_rfl) an (by decide) u (by rw [star];exact h)
theorem RV {w:World} (h:laidMetH Tryz.prog Rows.checkKidsRow.laid w):∃ a:Addr,w.cell? ⟨8,0,none⟩=some (.iface 289 (.pointer (some a)))∧a.spot=none∧∀(j:Nat) x,(fY 24)[j]?=some x→w.cell? ⟨a.block,a.off+j,none⟩=some x:=by
 have h0:=(E8 h).1
 have hd:=(laidMet.tail (laidMet.tail (laidMet.tail (laidMet.tail (laidMet.tail (laidMet.tail (laidMet.tail (laidMet.tail (laidMet.tail (laidMet.tail (laidMet.tail h0)))))))))):laidMet Tryz.prog (yk.drop 11) w)
 obtain ⟨a,s,h1,h2,h3,_⟩:=laid_sentinel (r:=yk.drop 12) (n:= "strconv.ErrSyntax") (nm:= "*errors.errorString") (text:=(match fY 24 with |[.string s]=>s.data.toList |_=>[])) (ti:=31) (tp:=289) (te:=291) (ts:=9) (g:=8) hd an an Tryz.underlying31 QX Tryz.underlying289 Tryz.underlying291 rfl rfl Tryz.underlying9 an D4
 have hs:=(zi h2).2
 refine ⟨a,by rw [World.var?_cell (show Tryz.prog.globalNamed "strconv.ErrSyntax"=some 8 by kernel_rfl) h1];rfl,hs,fun j x hx=>?_⟩
 have e:fY 24=[.string s]:=by
  have:s=⟨(match fY 24 with |[.string s]=>s.data |_=>#[])⟩:=by
   cases s with
   |mk d=>rw [ByteArray.mk.injEq];exact Array.ext' h3
  rw [this]
  show fY 24=[.string ⟨(match fY 24 with |[.string s]=>s.data |_=>#[])⟩]
  kernel_rfl
 rw [e] at hx
 cases j with
 |zero=>
  simp at hx
  subst hx
  obtain ⟨b,o,sp⟩:=a
  simp only at hs
  subst hs
  exact h2
 |succ j=>simp at hx
theorem v9 {w:World} (h:laidMetH Tryz.prog Rows.checkKidsRow.laid w):∃ a:Addr,w.cell? ⟨9,0,none⟩=some (.iface 289 (.pointer (some a)))∧a.spot=none∧∀(j:Nat) x,(fY 25)[j]?=some x→w.cell? ⟨a.block,a.off+j,none⟩=some x:=by
 have h0:=(E8 h).1
 have hd:=(laidMet.tail (laidMet.tail (laidMet.tail (laidMet.tail (laidMet.tail (laidMet.tail (laidMet.tail (laidMet.tail (laidMet.tail (laidMet.tail h0))))))))):laidMet Tryz.prog (yk.drop 10) w)
 obtain ⟨a,s,h1,h2,h3,_⟩:=laid_sentinel (r:=yk.drop 11) (n:= "strconv.ErrRange") (nm:= "*errors.errorString") (text:=(match fY 25 with |[.string s]=>s.data.toList |_=>[])) (ti:=31) (tp:=289) (te:=291) (ts:=9) (g:=9) hd an an Tryz.underlying31 QX Tryz.underlying289 Tryz.underlying291 rfl rfl Tryz.underlying9 an D4
 have hs:=(zi h2).2
 refine ⟨a,by rw [World.var?_cell (show Tryz.prog.globalNamed "strconv.ErrRange"=some 9 by kernel_rfl) h1];rfl,hs,fun j x hx=>?_⟩
 have e:fY 25=[.string s]:=by
  have:s=⟨(match fY 25 with |[.string s]=>s.data |_=>#[])⟩:=by
   cases s with
   |mk d=>rw [ByteArray.mk.injEq];exact Array.ext' h3
  rw [this]
  show fY 25=[.string ⟨(match fY 25 with |[.string s]=>s.data |_=>#[])⟩]
  kernel_rfl
 rw [e] at hx
 cases j with
 |zero=>
  simp at hx
  subst hx
  obtain ⟨b,o,sp⟩:=a
  simp only at hs
  subst hs
  exact h2
 |succ j=>simp at hx
theorem v0 {w:World} (h:laidMetH Tryz.prog Rows.checkKidsRow.laid w):w.cell? ⟨0,0,none⟩=some (.iface 78 (.agg #[.pointer (some ⟨22,31,none⟩)])):=by
 obtain ⟨name,u,ty,e1,e2,bc,aN,bJ⟩:=(E8 h).2 _ (List.mem_singleton.2 rfl)
 have Wp:name=[101,114,114,111,114]:=(Option.some.inj e1).symm
 subst Wp
 obtain rfl:=Option.some.inj ((show (Tryz.prog.cutTypes.find? (·.1== "internal/reflectlite.rtype")).map (·.2)=some 78 by kernel_rfl).symm.trans e2)
 have hm:ty∈(List.range Tryz.prog.types.size).filter fun t=>Tryz.prog.rowNamed t [101,114,114,111,114]:=List.mem_filter.2 ⟨List.mem_range.2 bc,aN⟩
 rw [show ((List.range Tryz.prog.types.size).filter fun t=>Tryz.prog.rowNamed t [101,114,114,111,114])=[31] by kernel_rfl] at hm
 obtain rfl:=List.mem_singleton.1 hm
 rw [show typeHandle Tryz.prog 31=.pointer (some ⟨22,31,none⟩) by kernel_rfl] at bJ
 simpa using World.var?_cell (show Tryz.prog.globalNamed "errors.errorType"=some 0 by kernel_rfl) bJ 0
theorem v3 {w:World} (h:laidMetH Tryz.prog Rows.checkKidsRow.laid w):∃ a b:Addr,w.cell? ⟨3,0,none⟩=some (.pointer (some a))∧a.spot=none∧b.spot=none∧
  w.cell? ⟨a.block,a.off+0,none⟩=some (.slice (some b) 7 7)∧w.cell? ⟨a.block,a.off+1,none⟩=some (.slice none 0 0)∧w.cell? ⟨a.block,a.off+2,none⟩=some (.int .i64 2)∧∀(j:Nat) x,(fY 23)[j]?=some x→w.cell? ⟨b.block,b.off+j,none⟩=some x:=by
 obtain ⟨cs,fuel,p,h1,h2⟩:=AZ h 12 (n:= "unicode.White_Space") (d:=Rows.laid_unicode_White_Space) (g:=3) (t:=159) an an an
 rcases DataW.trod_pointer (e:=180) Tryz.underlying159 h1 with ⟨_,h3⟩ |⟨a,c,z,n,_,h4,h5,h6,h7⟩
 ·cases h3
 ·obtain ⟨xs,m,_,hz,hl,hx,hk⟩:=DataW.trod_struct Tryz.underlying180 h7
  have hx:xs.length=3:=hx
  have hd:z.1=.agg [.slice (rA (match Rows.laid_unicode_White_Space with |.ptr (.agg (d::_))=>d |_=>.nil)) [],.nil,.lit (.int .i64 2)]:=by
   injection h5 with h5 _
   have:DataW.ptr z.1=(Rows.laid_unicode_White_Space:DataW Unit):=h5.symm
   rw [show (Rows.laid_unicode_White_Space:DataW Unit)=.ptr (.agg [.slice (rA (match Rows.laid_unicode_White_Space with |.ptr (.agg (d::_))=>d |_=>.nil)) [],.nil,.lit (.int .i64 2)]) by kernel_rfl] at this
   injection this
  obtain ⟨k1,k2⟩:=D8 h6
  have k1:c.length=3:=by rw [k1];kernel_rfl
  obtain ⟨x0,x1,aC,rfl⟩:∃ x0 x1 aC,xs=[x0,x1,aC]:=by
   match xs,hx with
   |[x0,x1,aC],_=>exact ⟨x0,x1,aC,rfl⟩
  obtain ⟨y0,y1,ar,rfl⟩:∃ y0 y1 ar,c=[y0,y1,ar]:=by
   match c,k1 with
   |[x0,x1,aC],_=>exact ⟨x0,x1,aC,rfl⟩
  have xQ:z.1=.agg [x0.1,x1.1,aC.1]:=by rw [hz];rfl
  rw [hd] at xQ
  simp only [DataW.agg.injEq,List.cons.injEq,and_true] at xQ
  obtain ⟨e0,e1,e2⟩:=xQ
  have fj:∀ t,t∈[3,181]→Tryz.prog.cellsOf t=1:=by
   intro t ht
   simp only [List.mem_cons,aq,or_false] at ht
   rcases ht with rfl |rfl <;> kernel_rfl
  have f0:=show DataW.trod (fun _=>()) Tryz.prog w 0 (fun _=>true) false m 177 (([y0,y1,ar].drop 0).take (Tryz.prog.cellsOf 177))=some x0 from hk 0 _ rfl
  have f1:=show DataW.trod (fun _=>()) Tryz.prog w 0 (fun _=>true) false m 178 (([y0,y1,ar].drop 1).take (Tryz.prog.cellsOf 178))=some x1 from hk 1 _ rfl
  have f2:=show DataW.trod (fun _=>()) Tryz.prog w 0 (fun _=>true) false m 3 (([y0,y1,ar].drop 2).take (Tryz.prog.cellsOf 3))=some aC from hk 2 _ rfl
  rw [show Tryz.prog.cellsOf 177=1 by kernel_rfl] at f0
  rw [show Tryz.prog.cellsOf 178=1 by kernel_rfl] at f1
  rw [c3] at f2
  obtain ⟨ajA,ajB⟩:=x0
  simp only at e0
  subst e0
  obtain ⟨b,g1,g2,g3⟩:=Dh (e:=183) (sz:=3) (vs:=fY 23) f0 an an (by decide) an (Nat.lt_of_lt_of_eq (show 0<7 by decide) an) an
  rw [show (rA (match Rows.laid_unicode_White_Space with |.ptr (.agg (d::_))=>d |_=>.nil)).length=7 by kernel_rfl] at g1
  simp only [List.drop_zero,List.take_succ_cons,List.take_zero,List.cons.injEq,and_true] at g1
  have HX:y1=.slice none 0 0:=by
   rcases DataW.trod_slice (e:=186) an f1 with ⟨q1,_⟩ |⟨_,_,_,_,_,_,_,_,cv,_⟩
   ·simpa using q1
   ·rw [cv] at e1;cases e1
  have W2:ar=.int .i64 2:=by
   have:=Do 6 m 3 _ aC [.int .i64 2] an f2 (by rw [← e2];rfl)
   simpa using this
  subst g1
  subst HX
  subst W2
  have q0:=D7 (k2 0 J)
  have q1:=D7 (k2 1 J)
  have cv:=D7 (k2 2 J)
  have hsp:a.spot=none:=(zi (k2 0 J)).2
  exact ⟨a,b,h2 0 _ (by rw [h4];rfl),hsp,g2,q0,q1,cv,g3⟩
end Go.Proofs.YtglmagcldkngbaaGreatDoor
set_option maxRecDepth 1000000
namespace Go.Proofs.YtglmagcldkngbaaGreatDoor
open Go Go.Am
theorem mL {w:World} {φ:bC} {c:List Value} {b o:Nat} (hg:c.all lI=true) (h:∀(j:Nat) x,c[j]?=some x→w.cell? ⟨b,o+j,none⟩=some x):∀(j:Nat) x,c[j]?=some x→∃ y,w.cell? ⟨b,o+j,none⟩=some y∧bn φ x y:=fun j x hx=>
 ⟨x,h j x hx,.Ar (List.all_eq_true.1 hg x (List.mem_of_getElem? hx))⟩
theorem wA {w:World} {φ:bC} {v y:Value} {b:Nat} (h:w.cell? ⟨b,0,none⟩=some y) (hv:bn φ v y):∀(j:Nat) x,[v][j]?=some x→∃ y,w.cell? ⟨b,0+j,none⟩=some y∧bn φ x y:=fun j x hx=>by
 cases j with
 |zero=>simp at hx;subst hx;exact ⟨y,h,hv⟩
 |succ j=>simp at hx
def C0 (uH uI uJ uK uL uM uN uO:Addr) (i:Nat):Option Am.Loc:=
 if i<23 then some ⟨i,0,0⟩ else match i with
 |23=>some ⟨uH.block,uH.off,0⟩
 |24=>some ⟨uI.block,uI.off,0⟩
 |25=>some ⟨uJ.block,uJ.off,0⟩
 |26=>some ⟨uK.block,uK.off,0⟩
 |27=>some ⟨uL.block,uL.off,0⟩
 |28=>some ⟨uM.block,uM.off,0⟩
 |29=>some ⟨uN.block,uN.off,0⟩
 |30=>some ⟨uO.block,uO.off,0⟩
 |_=>none
theorem Km {φ:bC} {i:Nat} {a:Addr} (h:φ i=some ⟨a.block,a.off,0⟩) (hs:a.spot=none):bn φ (.pointer (some ⟨i,0,none⟩)) (.pointer (some a)):=by
 have:=bn.ptr (φ:=φ) i 0 _ h
 obtain ⟨b,o,s⟩:=a
 simp only at hs
 subst hs
 exact this
theorem Dg {φ:bC} {i n:Nat} {a:Addr} (h:φ i=some ⟨a.block,a.off,0⟩) (hs:a.spot=none):bn φ (.slice (some ⟨i,0,none⟩) n (2*n+1)) (.slice (some a) n n):=by
 have:=bn.mY (φ:=φ) i 0 n n _ h (Nat.le_refl _)
 obtain ⟨b,o,s⟩:=a
 simp only at hs
 subst hs
 exact this
theorem W8 {w:World} (h:laidMetH Tryz.prog Rows.checkKidsRow.laid w):∃ φ,kN w G φ:=by
 obtain ⟨uO,uH,a1,a2,a3,a4,a5,a6,a7⟩:=v3 h
 obtain ⟨uI,b1,b2,b3⟩:=RV h
 obtain ⟨uJ,c1,c2,c3⟩:=v9 h
 obtain ⟨uK,d1,d2,d3⟩:=agi h
 obtain ⟨uL,e1,e2,bc⟩:=agj h
 obtain ⟨uM,f1,f2,f3⟩:=agh h
 obtain ⟨uN,g1,g2,g3⟩:=agl h
 refine ⟨C0 uH uI uJ uK uL uM uN uO,Bd,Bc,fun i hi=>?_,fun g hg=>?_,?_⟩
 ·rw [iY] at hi
  unfold C0
  rw [if_neg J]
  match i,hi with
  |i+31,_=>rfl
 ·have hg:g<23:=hg
  exact ⟨⟨g,0,0⟩,if_pos hg,rfl,rfl⟩
 ·generalize hφ:C0 uH uI uJ uK uL uM uN uO=φ
  have R:∀(i:Nat) (e:TypeId) (l:Am.Loc),C0 uH uI uJ uK uL uM uN uO i=some l→wX[i]?=some (.cells (fY i) e true)→(∀(j:Nat) x,(fY i)[j]?=some x→∃ y,w.cell? ⟨l.dG,l.off+j,none⟩=some y∧bn φ x y)→
    ∀ m o,φ i=some m→G.get i=some o→∃ c e,o=.cells c e true∧∀(j:Nat) x,c[j]?=some x→∃ y,w.cell? ⟨m.dG,m.off+j,none⟩=some y∧bn φ x y:=by
   intro i e l hl XO hk m o hm ho
   rw [← hφ,hl] at hm
   injection hm with hm
   subst hm
   rw [nM i XO] at ho
   injection ho with ho
   exact ⟨fY i,e,ho.symm,hk⟩
  have P:∀ i l,C0 uH uI uJ uK uL uM uN uO i=some l→φ i=some l:=fun i l h=>hφ▸h
  intro i m o hm ho
  have hi:i<31:=by have:=Bd.lt ho;rwa [iY] at this
  match i,hi with
  |0,_=>exact R 0 60 ⟨0,0,0⟩ rfl rfl (wA (v0 h) (.iface _ _ _ (.w7 (eI.toArray (xs:=[_]) (.cons (.ptr 22 31 ⟨22,0,0⟩ (P 22 _ rfl)) (.nil _)))))) m o hm ho
  |1,_=>exact R 1 4 ⟨1,0,0⟩ rfl rfl (fun j x hx=>by cases (show ([]:List Value)[j]?=some x from hx)) m o hm ho
  |2,_=>exact R 2 131 ⟨2,0,0⟩ rfl rfl (mL an (fun j x hx=>by rw [Nat.zero_add];exact v2 h j x hx)) m o hm ho
  |3,_=>exact R 3 159 ⟨3,0,0⟩ rfl rfl (wA a1 (Km (P 30 _ rfl) a2)) m o hm ho
  |4,_=>exact R 4 221 ⟨4,0,0⟩ rfl rfl (mL an (fun j x hx=>by rw [Nat.zero_add];exact v4 h j x hx)) m o hm ho
  |5,_=>exact R 5 131 ⟨5,0,0⟩ rfl rfl (mL an (fun j x hx=>by rw [Nat.zero_add];exact v5 h j x hx)) m o hm ho
  |6,_=>exact R 6 225 ⟨6,0,0⟩ rfl rfl (mL an (fun j x hx=>by rw [Nat.zero_add];exact v6 h j x hx)) m o hm ho
  |7,_=>exact R 7 3 ⟨7,0,0⟩ rfl rfl (fun j x hx=>by cases (show ([]:List Value)[j]?=some x from hx)) m o hm ho
  |8,_=>exact R 8 31 ⟨8,0,0⟩ rfl rfl (wA b1 (.iface _ _ _ (Km (P 24 _ rfl) b2))) m o hm ho
  |9,_=>exact R 9 31 ⟨9,0,0⟩ rfl rfl (wA c1 (.iface _ _ _ (Km (P 25 _ rfl) c2))) m o hm ho
  |10,_=>exact R 10 272 ⟨10,0,0⟩ rfl rfl (mL an (fun j x hx=>by rw [Nat.zero_add];exact v10 h j x hx)) m o hm ho
  |11,_=>exact R 11 4 ⟨11,0,0⟩ rfl rfl (mL an (fun j x hx=>by rw [Nat.zero_add];exact v11 h j x hx)) m o hm ho
  |12,_=>exact R 12 272 ⟨12,0,0⟩ rfl rfl (mL an (fun j x hx=>by rw [Nat.zero_add];exact Ln h j x hx)) m o hm ho
  |13,_=>exact R 13 294 ⟨13,0,0⟩ rfl rfl (wA f1 (Dg (P 28 _ rfl) f2)) m o hm ho
  |14,_=>exact R 14 44 ⟨14,0,0⟩ rfl rfl (wA d1 (Dg (P 26 _ rfl) d2)) m o hm ho
  |15,_=>exact R 15 306 ⟨15,0,0⟩ rfl rfl (wA e1 (Dg (P 27 _ rfl) e2)) m o hm ho
  |16,_=>exact R 16 311 ⟨16,0,0⟩ rfl rfl (mL an (fun j x hx=>by rw [Nat.zero_add];exact agk h j x hx)) m o hm ho
  |17,_=>exact R 17 322 ⟨17,0,0⟩ rfl rfl (wA g1 (Dg (P 29 _ rfl) g2)) m o hm ho
  |18,_=>exact R 18 325 ⟨18,0,0⟩ rfl rfl (mL an (fun j x hx=>by rw [Nat.zero_add];exact agm h j x hx)) m o hm ho
  |19,_=>exact R 19 328 ⟨19,0,0⟩ rfl rfl (mL an (fun j x hx=>by rw [Nat.zero_add];exact agn h j x hx)) m o hm ho
  |20,_=>exact R 20 329 ⟨20,0,0⟩ rfl rfl (mL an (fun j x hx=>by rw [Nat.zero_add];exact v20 h j x hx)) m o hm ho
  |21,_=>exact R 21 159 ⟨21,0,0⟩ rfl rfl (fun j x hx=>by cases (show ([]:List Value)[j]?=some x from hx)) m o hm ho
  |22,_=>exact R 22 0 ⟨22,0,0⟩ rfl rfl (fun j x hx=>by cases (show ([]:List Value)[j]?=some x from hx)) m o hm ho
  |23,_=>exact R 23 183 ⟨uH.block,uH.off,0⟩ rfl rfl (mL an a7) m o hm ho
  |24,_=>exact R 24 291 ⟨uI.block,uI.off,0⟩ rfl rfl (mL an b3) m o hm ho
  |25,_=>exact R 25 291 ⟨uJ.block,uJ.off,0⟩ rfl rfl (mL an c3) m o hm ho
  |26,_=>exact R 26 3 ⟨uK.block,uK.off,0⟩ rfl rfl (mL an d3) m o hm ho
  |27,_=>exact R 27 104 ⟨uL.block,uL.off,0⟩ rfl rfl (mL an bc) m o hm ho
  |28,_=>exact R 28 255 ⟨uM.block,uM.off,0⟩ rfl rfl (mL an f3) m o hm ho
  |29,_=>exact R 29 321 ⟨uN.block,uN.off,0⟩ rfl rfl (mL an g3) m o hm ho
  |30,_=>exact R 30 180 ⟨uO.block,uO.off,0⟩ rfl rfl (fun j x hx=>by
   match j,hx with
   |0,hx=>injection hx with hx;subst hx;exact ⟨_,a4,Dg (P 23 _ rfl) a3⟩
   |1,hx=>injection hx with hx;subst hx;exact ⟨_,a5,.tF⟩
   |2,hx=>injection hx with hx;subst hx;exact ⟨_,a6,.int _ _⟩) m o hm ho
  |n+31,hi=>omega
end Go.Proofs.YtglmagcldkngbaaGreatDoor
