/- Part of the proof that CheckKids answers true. -/
import Derived.Test.YtglmagcldkngbaaGreatDoorP10
import Derived.Test.YtglmagcldkngbaaGreatDoorP11
import Derived.Test.YtglmagcldkngbaaGreatDoorP08
import Derived.ChangeArms
import Derived.OpenShut
import Derived.Test.YtglmagcldkngbaaGreatDoorRows
import Derived.LaidHandle
import Derived.FnData
import Derived.LaidLaws
import Derived.Stop.LaidErr
set_option linter.unusedVariables false
set_option linter.unusedSimpArgs false
set_option maxRecDepth 100000
set_option maxHeartbeats 4000000
namespace Go.Proofs.YtglmagcldkngbaaGreatDoor
open Go Go.Am
theorem Hr (w:World) (a:Addr) (v:Value) (B:Nat) (h:B≠a.block):(w.setCell a v).heap[B]?=w.heap[B]?:=by
 simp only [World.setCell,Array.getElem?_modify]
 rw [if_neg (fun e=>h e.symm)]
theorem Jr (w:World) (a:Addr) (v:Value) (cc:Array Value) (e:TypeId) (f:Nat×Nat) (h:w.heap[a.block]?=some (.cells cc e f)) (hs:a.spot=none):(w.setCell a v).heap[a.block]?=some (.cells (cc.setIfInBounds a.off v) e f):=by
 simp only [World.setCell,Array.getElem?_modify,if_true,h,Option.map_some,hs,Option.isSome_none,Bool.false_eq_true,if_false]
theorem XA (n:Int) (b:Nat) (c:Value) {H:Hp} (y0:H.get 0=some (.cells [.iface 78 (.agg #[.pointer (some ⟨22,31,none⟩)])] 60 true)) (kb:H.get b=some (.cells [c] 41 false)):CC E 17 [.iface 41 (iI n),.iface 43 (pt b 0)] H (.ret (.bool true)) (H.set b (.cells [iI n] 41 false)) [b]:=fun wf dy=>by
 have U9:dA (H.get b)=true:=by rw [kb];rfl
 obtain ⟨hx,hwf,_⟩:=jJ.set (R:=[b]) wf (.cells [iI n] 41 false) (b:=b) U9 aj
 refine ⟨hx,hwf,fun base φ w args' cM hfr hl=>.inl ⟨?_,?_⟩⟩
 ·unfold callFunc
  rw [Go.Am.ax (Go.Am.run_program w)]
  simp only [ok.func _ _ (show E.func 17=some Tryz.f17 by kernel_rfl),show (Tryz.f17.name== "runtime.NumGoroutine")=false by kernel_rfl,Bool.false_eq_true,if_false,show Tryz.f17.body.isNone=false by kernel_rfl]
  rfl
 ·obtain ⟨a1,r1,rfl,Yk,Yv⟩:=hl.cons_inv
  obtain ⟨a2,r2,rfl,ha2,hl2⟩:=Yv.cons_inv
  have:=hl2.mL
  subst this
  have e1:=Yk.iP rfl
  subst e1
  cases ha2 with
  |iface _ _ u hu=>
  cases hu with
  |ptr _ _ l hb=>
  obtain ⟨cc,lo,hi,k1,k2,k3,k4,k5,k6⟩:=cM.blocks b l _ (wf.lt kb) hb kb
  obtain ⟨v0,YE,_⟩:=k4 0 c rfl
  have k3:1≤l.HZ:=k3
  obtain ⟨l0,g0,g1,g2⟩:=cM.fI 0 (show 0<23 by omega)
  obtain ⟨l2,g3,g4,g5⟩:=cM.fI 22 (show 22<23 by omega)
  have h0n:0<H.n:=wf.lt y0
  obtain ⟨v1,hv1,hr1⟩:=cM.blocks 0 l0 _ h0n g0 y0 0 _ rfl
  have hg:w.cell? ⟨0,0,none⟩=some (.iface 78 (.agg #[.pointer (some ⟨22,31,none⟩)])):=by
   rw [g1,g2] at hv1
   rw [show (0:Nat)=0+0 from rfl]
   refine hv1.trans (congrArg some ?_)
   cases hr1 with
   |iface _ _ u hu=>
    obtain ⟨cs,rfl,hs,hc⟩:=hu.xX
    have hs:1=cs.size:=hs
    obtain ⟨p,hp⟩:∃ p,cs[0]?=some p:=⟨cs[0],Array.getElem?_eq_getElem aa⟩
    have hv:=hc 0 _ p rfl hp
    have hcs:cs=#[p]:=by
     apply Array.ext_getElem?
     intro i
     cases i with
     |zero=>rw [hp];rfl
     |succ i=>rw [Array.getElem?_eq_none aa,Array.getElem?_eq_none aj]
    rw [hcs]
    cases hv with
    |ptr _ _ m hm=>
     rw [g3] at hm
     injection hm with hm
     subst hm
     rw [g4,g5]
  have ht:w.cell? ⟨l.gK,l.off+0,none⟩=some v0:=by
   simp only [World.cell?,k1,Option.isSome_none,Bool.false_eq_true,if_false];exact YE
  have hf:w.frozen? ⟨l.gK,l.off+0,none⟩=false:=by
   simp only [World.frozen?,k1]
   have:=k6 (l.off+0) aa aa
   simpa using this
  refine (AsCode.XB n ⟨l.gK,l.off+0,none⟩ v0 w hg ht hf).mono fun e w' ⟨he,hw⟩=>?_
  subst he
  refine ⟨φ,?_,.bool true,rfl,.bool true⟩
  generalize hW:(((w.alloc _).alloc _).alloc _).alloc _=W4 at hw
  have s4:w.heap.size≤W4.heap.size∧(∀ B,B<w.heap.size→W4.heap[B]?=w.heap[B]?)∧W4.os=w.os∧W4.tape=w.tape∧W4.output=w.output:=by
   subst hW
   refine ⟨?_,fun B hB=>?_,rfl,rfl,rfl⟩
   ·show w.heap.size≤((((w.heap.push _).push _).push _).push _).size
    simp only [Array.size_push];omega
   ·show ((((w.heap.push _).push _).push _).push _)[B]?=_
    rw [Array.getElem?_push,if_neg (by simp only [Array.size_push];omega),Array.getElem?_push,if_neg (by simp only [Array.size_push];omega),Array.getElem?_push,if_neg (by simp only [Array.size_push];omega),Array.getElem?_push,if_neg aa]
  obtain ⟨s1,s2,s3,s4,s5⟩:=s4
  have hlt:l.gK<w.heap.size:=cM.lt b l (wf.lt kb) hb (by rw [kb];rfl)
  have hlB:=(s2 _ hlt).trans k1
  subst hw
  have aaE:=Jr W4 ⟨l.gK,l.off+0,none⟩ (.int .i64 n) cc 41 (lo,hi) hlB rfl
  have ad5:∀ B,B<w.heap.size→B≠l.gK→(W4.setCell ⟨l.gK,l.off+0,none⟩ (.int .i64 n)).heap[B]?=w.heap[B]?:=fun B hB hne=>(Hr W4 _ _ B hne).trans (s2 B hB)
  have hsz:(W4.setCell ⟨l.gK,l.off+0,none⟩ (.int .i64 n)).heap.size=W4.heap.size:=by simp [World.setCell]
  refine gF.out wf hx cM ⟨fun j hj=>?_,fun i hi=>rfl,⟨s3,s4,s5,by rw [hsz];exact s1,fun B hB hn=>ad5 B hB (fun e=>hn b aj l hb e.symm)⟩,fun i l h1 h2 h3=>?_,fun i l' o h1 h2 h3 h4=>?_,fun i l h1 h2 h3 _=>?_,fun i j l m h1 h2 h3 h4 h5=>?_⟩ hfr dy
  ·simp at hj;subst hj;exact ⟨wf.lt kb,U9⟩
  ·simp at h2;omega
  ·simp at h1 h2
   have:i=b:=aa
   subst this
   rw [hb] at h3
   injection h3 with h3
   subst h3
   rw [Hp.ek,if_pos rfl] at h4
   injection h4 with h4
   subst h4
   refine ⟨_,lo,hi,aaE,by simpa using k2,k3,fun j x hj=>?_,k5,k6⟩
   cases j with
   |zero=>
    simp at hj
    subst hj
    exact ⟨.int .i64 n,by simp only [Nat.add_zero];rw [Array.getElem?_setIfInBounds_self_of_lt aa],.int _ _⟩
   |succ j=>simp at hj
  ·simp at h2;omega
  ·simp at h2;omega
def J9 (args:List Value) (H:Hp):Ad:=
 match args,H.get 0 with
 |[.iface 41 (.int .i64 n),.iface 43 (.pointer (some ⟨b,0,none⟩))],some (.cells [.iface 78 (.agg ⟨[.pointer (some ⟨22,31,none⟩)]⟩)] 60 true)=>match H.get b with
  |some (.cells [_] 41 false)=>some (.ret (.bool true),H.set b (.cells [.int .i64 n] 41 false),[b])
  |_=>none
 |_,_=>none
def Vk (s:ByteArray) (c:Int):Int:=match (List.range s.size).find? fun i=>s[i]! == c.toNat.toUInt8 with |some i=>(i:Int) |none=>-1
theorem Vl (s:ByteArray) (c:Int) {H:Hp}:CC E 147 [.string s,.int .u8 c] H (.ret (.int .i64 (Vk s c))) H []:=by
 have hn:Extern.BytealgIndexByte.indexByte #[.string s,.int .u8 c]=pure (.int .i64 (Vk s c)):=by
  have e0:Extern.BytealgIndexByte.indexByte #[.string s,.int .u8 c]=(match (List.range s.size).find? fun i=>s[i]! == c.toNat.toUInt8 with |some i=>(pure (goInt i):Sem Value) |none=>pure (goInt (-1))):=rfl
  rw [e0,Vk]
  split <;> rfl
 exact CC.extern ok (fn:=Tryz.f147) (e:=Extern.BytealgIndexByte.indexByte) ah ah ah ah ah rfl rfl hn
def G0 (args:List Value) (H:Hp):Ad:=
 match args with
 |[.string s,.int .u8 c]=>some (.ret (.int .i64 (Vk s c)),H,[])
 |_=>none
noncomputable def EA:Env:={ E with OM:=fun g=>bif Nat.beq g 17 then some J9 else bif Nat.beq g 147 then some G0 else none }
theorem abE {base:Nat} {H:Hp} {φ:cS} {w:World} (h:Rel EA base H φ w):Rel E base H φ w:=⟨h.bs,h.blocks,h.lt,h.inj,h.fI⟩
theorem abF {base:Nat} {H:Hp} {φ:cS} {w:World} (h:Rel E base H φ w):Rel EA base H φ w:=⟨h.bs,h.blocks,h.lt,h.inj,h.fI⟩
theorem abB {base:Nat} {H H':Hp} {φ φ':cS} {w w':World} {W:List Nat} (h:Out EA base φ w H H' W φ' w'):Out E base φ w H H' W φ' w':=⟨h.ext,abE h.rel,h.step,h.fresh⟩
theorem abC {base:Nat} {H H':Hp} {φ φ':cS} {w w':World} {W:List Nat} (h:Out E base φ w H H' W φ' w'):Out EA base φ w H H' W φ' w':=⟨h.ext,abF h.rel,h.step,h.fresh⟩
theorem aay {g:FuncId} {args:List Value} {H H':Hp} {r:Bu} {W:List Nat} (h:kX EA g args H r H' W):kX E g args H r H' W:=
 ⟨h.1,h.2.1,fun base φ w args' a b c=>by
  rcases h.2.2 base φ w args' (abF a) b c with ⟨he,hc⟩ |⟨v,w',he,φ',ho,hr⟩
  ·exact .inl ⟨he,hc.mono fun e w' ⟨φ',ho,hr⟩=>⟨φ',abB ho,hr⟩⟩
  ·exact .inr ⟨v,w',he,φ',abB ho,hr⟩⟩
theorem WQ {g:FuncId} {args:List Value} {H H':Hp} {r:Bu} {W:List Nat} (h:kX E g args H r H' W):kX EA g args H r H' W:=
 ⟨h.1,h.2.1,fun base φ w args' a b c=>by
  rcases h.2.2 base φ w args' (abE a) b c with ⟨he,hc⟩ |⟨v,w',he,φ',ho,hr⟩
  ·exact .inl ⟨he,hc.mono fun e w' ⟨φ',ho,hr⟩=>⟨φ',abC ho,hr⟩⟩
  ·exact .inr ⟨v,w',he,φ',abC ho,hr⟩⟩
theorem ZD:Sound EA:=by
 refine ⟨⟨ok.info,ok.func⟩,sound.name,fun g p h=>?_,fun g p h=>by cases h⟩
 have h:(bif Nat.beq g 17 then some J9 else bif Nat.beq g 147 then some G0 else none)=some p:=h
 cases hg:Nat.beq g 17 with
 |false=>
  rw [hg] at h
  cases hi:Nat.beq g 147 with
  |false=>rw [hi] at h;cases h
  |true=>
   rw [hi] at h
   injection h with h
   subst h
   have:=Nat.eq_of_beq_eq_true hi
   subst this
   intro args H r H' W hp wf dy
   unfold G0 at hp
   split at hp
   ·rename_i s c
    simp only [Option.some.injEq,Prod.mk.injEq] at hp
    obtain ⟨rfl,rfl,rfl⟩:=hp
    exact WQ (Vl s c wf dy)
   ·cases hp
 |true=>
  rw [hg] at h
  injection h with h
  subst h
  have:=Nat.eq_of_beq_eq_true hg
  subst this
  intro args H r H' W hp wf dy
  unfold J9 at hp
  split at hp
  ·rename_i n b y0
   split at hp
   ·rename_i c kb
    simp only [Option.some.injEq,Prod.mk.injEq] at hp
    obtain ⟨rfl,rfl,rfl⟩:=hp
    exact WQ (XA n b c y0 kb wf dy)
   ·cases hp
  ·cases hp
noncomputable def Xe (f:Nat) (g:FuncId) (args:List Value):Option (Value×Bool):=
 match Ag EA f g args G with
 |some (.ret v,H',W)=>some (v,W.all fun q=>Nat.ble 31 q&&Nat.blt q H'.n)
 |_=>none
theorem aeN {f:Nat} {g:FuncId} {args:List Value} {v:Value} (h:Xe f g args=some (v,true)):∃ G1,CC E g args G (.ret v) G1 []:=by
 unfold Xe at h
 split at h
 ·rename_i v1 H1 W hr
  simp only [Option.some.injEq,Prod.mk.injEq] at h
  obtain ⟨rfl,hw⟩:=h
  have c:CC E g args G (.ret v1) H1 W:=fun wf dy=>aay (BB ZD f g args G _ _ _ hr wf dy)
  refine ⟨H1,c.norm fun q hq=>.inr ?_⟩
  have:=List.all_eq_true.1 hw q hq
  simp only [Bool.and_eq_true,Nat.blt_eq] at this
  have h1:=dm this.1
  rw [vR];omega
 ·cases h
end Go.Proofs.YtglmagcldkngbaaGreatDoor
set_option maxRecDepth 1000000
namespace Go.Proofs.YtglmagcldkngbaaGreatDoor
open Go Go.Am
theorem E9 {H:Hp} (y:Gd E G H):CC E 5 [] H (.ret (.bool true)) H []:=by
 obtain ⟨G1,c⟩:=aeN (f:=3000) (g:=5) (args:=[]) (v:=.bool true) ah
 exact aW (cq rfl) (.ground rfl) c y
theorem sN {x:Int} (h0:-9223372036854775808≤x) (h1:x<9223372036854775808):E0 x=x:=eU h0 h1
theorem ZL (x:Int):-9223372036854775808≤E0 x:=by
 unfold E0 IntKind.wrap
 simp only [IntKind.bits,IntKind.signed,Bool.true_and]
 split <;> (rename_i h;simp only [ge_iff_le,decide_eq_true_eq] at h;omega)
theorem FQ:∀(l:List Xp) (n:Int),(∀ k∈l,1≤hM k∧hM k≤300)→0≤n→n<562949953421312→oV l n≤300→n+l.length≤oV l n∧∀ k∈l,n+hM k≤oV l n
 |[],n,_,_,_,h=>by
  simp only [oV] at h ⊢
  exact ⟨by simp,fun k hk=>by cases hk⟩
 |x::l,n,hk,h0,h1,h=>by
  have hx:=hk x aj
  simp only [oV] at h ⊢
  by_cases hn:n≤300
  ·rw [if_pos hn,sN aa aa] at h ⊢
   obtain ⟨i1,i2⟩:=FQ l (n+hM x) (fun k hk'=>hk k (List.mem_cons_of_mem _ hk')) aa aa h
   refine ⟨by rw [List.length_cons];omega,fun k hk'=>?_⟩
   rcases List.mem_cons.1 hk' with rfl |hk'
   ·omega
   ·have:=i2 k hk';omega
  ·rw [if_neg hn] at h;omega
theorem D7:∀{l:List Xp},iY l=true→∀ k∈l,iZ k=true
 |[],_,k,hk=>by cases hk
 |x::l,h,k,hk=>by
  rw [iY,Bool.and_eq_true] at h
  rcases List.mem_cons.1 hk with rfl |hk
  ·exact h.1
  ·exact D7 h.2 k hk
theorem qh {x:Xp} (h:iZ x=true):hM x≤300∧cX x.ms=true∧eW x.ns=true∧∀ k∈x.kids,iZ k=true:=by
 rw [gC,Bool.and_eq_true,Bool.and_eq_true,Bool.and_eq_true,Bool.and_eq_true,Bool.not_eq_true',decide_eq_false_iff_not] at h
 exact ⟨by omega,h.2.2.1,h.2.2.2.1,D7 h.2.2.2.2⟩
theorem xG {X:Hp} {x:Xp} (hs:jG X x):iZ x=true→1≤hM x∧hM x≤300∧x.f.nk≤300∧∀ k∈x.kids,hM k<hM x:=by
 induction hs with
 |@mk x a _ ih=>
  intro h
  obtain ⟨h1,_,_,h4⟩:=qh h
  have bm:=a.bm
  have bn:=a.bn
  have key:=FQ x.kids (E0 (E0 (1+(x.f.nm:Nat))+(x.f.nn:Nat))) (fun k hk=>⟨(ih k hk (h4 k hk)).1,(ih k hk (h4 k hk)).2.1⟩)
  rw [sN (x:=1+(x.f.nm:Nat)) aa aa,sN aa aa] at key
  have he:=JG x
  rw [sN (x:=1+(x.f.nm:Nat)) aa aa,sN aa aa] at he
  obtain ⟨k1,k2⟩:=key aa aa aa
  have nk:=a.nk
  exact ⟨by omega,h1,by omega,fun k hk=>by have:=k2 k hk;omega⟩
theorem R6:∀{l:List M3},cX l=true→∀ m∈l,(m.2.1.size:Int)<100000
 |[],_,m,hm=>by cases hm
 |x::l,h,m,hm=>by
  rw [cX,Bool.and_eq_true,Bool.and_eq_true,Bool.not_eq_true',Bool.not_eq_true',decide_eq_false_iff_not,decide_eq_false_iff_not] at h
  rcases List.mem_cons.1 hm with rfl |hm
  ·have:=h.1.2;omega
  ·exact R6 h.2 m hm
theorem R8:∀{l:List ByteArray},eW l=true→∀ s∈l,(s.size:Int)<100000
 |[],_,s,hs=>by cases hs
 |x::l,h,s,hs=>by
  rw [eW,Bool.and_eq_true,Bool.not_eq_true',decide_eq_false_iff_not] at h
  rcases List.mem_cons.1 hs with rfl |hs
  ·have:=h.1;omega
  ·exact R8 h.2 s hs
theorem Ub {X:Hp} {x:Xp} (hs:jG X x):iZ x=true→qB x:=by
 induction hs with
 |@mk x a hk ih=>
  intro h
  obtain ⟨_,h2,h3,h4⟩:=qh h
  have:=(xG (.mk a hk) h).2.2.1
  exact .mk ⟨R6 h2,R8 h3,by omega⟩ fun k hk=>ih k hk (h4 k hk)
theorem Xc (x y:Int):x≤mx x y∧y≤mx x y:=by unfold mx;split <;> omega
theorem Li {x y z:Int} (h1:x≤z) (h2:y≤z):mx x y≤z:=by unfold mx;split <;> omega
theorem tT:∀(f:Fe) (l:List Xp) (i:Nat) (m:Int),m≤fJ f i l m
 |f,[],i,m=>by rw [fJ];omega
 |f,x::l,i,m=>by
  rw [fJ]
  have h1:=tT f l (i+1) (mx m (bif bump f i x.f then E0 (bE x+1) else bE x))
  have h2:=(Xc m (bif bump f i x.f then E0 (bE x+1) else bE x)).1
  omega
theorem OD (x:Xp):-9223372036854775808≤bE x:=by
 rw [dw]
 have h:=tT x.f x.kids 0 0
 have h2:=ZL (fJ x.f 0 x.kids 0+1)
 cases decide (x.f.k<4) <;> cases decide (x.f.k>7) <;> cases Ei x.f <;> simp only [cond_true,cond_false] <;> omega
theorem rR:∀(f:Fe) (l:List Xp) (i:Nat) (m B:Int),(∀ k∈l,0≤bE k∧bE k<B)→0≤m→m≤B→B<1000000→fJ f i l m≤B∧∀ k∈l,bE k≤fJ f i l m
 |f,[],i,m,B,_,_,h,_=>by rw [fJ];exact ⟨h,fun k hk=>by cases hk⟩
 |f,x::l,i,m,B,hk,h0,h,hB=>by
  have hx:=hk x aj
  have hv:0≤(bif bump f i x.f then E0 (bE x+1) else bE x)∧bE x≤(bif bump f i x.f then E0 (bE x+1) else bE x)∧(bif bump f i x.f then E0 (bE x+1) else bE x)≤B:=by
   rw [sN aa aa]
   cases bump f i x.f <;> simp only [cond_true,cond_false] <;> omega
  rw [fJ]
  generalize (bif bump f i x.f then E0 (bE x+1) else bE x)=v at hv
  have hm:=Xc m v
  have hl:=Li h hv.2.2
  obtain ⟨i1,i2⟩:=rR f l (i+1) (mx m v) B (fun k hk'=>hk k (List.mem_cons_of_mem _ hk')) aa hl hB
  have hge:=tT f l (i+1) (mx m v)
  refine ⟨i1,fun k hk'=>?_⟩
  rcases List.mem_cons.1 hk' with rfl |hk'
  ·omega
  ·exact i2 k hk'
theorem OE {X:Hp} {x:Xp} (hs:jG X x):iZ x=true→0≤bE x∧bE x≤2*hM x:=by
 induction hs with
 |@mk x a hk ih=>
  intro h
  obtain ⟨s1,s2,_,s4⟩:=xG (.mk a hk) h
  have h4:=(qh h).2.2.2
  have hb:=rR x.f x.kids 0 0 (2*hM x-1) (fun k hk'=>by
   have h1:=ih k hk' (h4 k hk')
   have h2:=s4 k hk'
   omega) aa aa aa
  have hg:=tT x.f x.kids 0 0
  rw [dw,sN aa aa]
  cases decide (x.f.k<4) <;> cases decide (x.f.k>7) <;> cases Ei x.f <;> simp only [cond_true,cond_false] <;> omega
theorem R7 {X:Hp} {x:Xp} (hs:jG X x) (h:iZ x=true) (h1:¬ x.f.k<4) (h2:¬ x.f.k>7):∀ k∈x.kids,bE k≤bE x:=by
 obtain ⟨s1,s2,_,s4⟩:=xG hs h
 have h4:=(qh h).2.2.2
 have hkk:∀ k∈x.kids,jG X k:=by cases hs with |mk a hk=>exact hk
 have hb:=rR x.f x.kids 0 0 (2*hM x-1) (fun k hk'=>by
  have h1:=OE (hkk k hk') (h4 k hk')
  have h2:=s4 k hk'
  omega) aa aa aa
 have hg:=tT x.f x.kids 0 0
 intro k hk
 have:=hb.2 k hk
 rw [dw x,sN aa aa,decide_eq_false h1,decide_eq_false h2]
 cases Ei x.f <;> simp only [cond_true,cond_false] <;> omega
theorem IT:∀{l:List Xp},nF 0 (jM l)=false→∀ k∈l,bP k≠0
 |[],_,k,hk=>by cases hk
 |x::l,h,k,hk=>by
  rw [jM,nF,Bool.or_eq_false_iff] at h
  rcases List.mem_cons.1 hk with rfl |hk
  ·exact fun e=>by rw [e] at h;exact absurd h.1 (by decide)
  ·exact IT h.2 k hk
theorem RI {X:Hp} {x:Xp} (hs:jG X x) (h:iZ x=true) (hr:fu x=true) (hk:bP x≠0):∀ k∈x.kids,fu k=true∧bP k≠0:=by
 rw [fu,Bool.and_eq_true,decide_eq_true_eq] at hr
 obtain ⟨hn,hrk⟩:=uX hr.2
 have hz:nF 0 (jM x.kids)=false:=by
  cases hz:nF 0 (jM x.kids) with
  |false=>rfl
  |true=>exact absurd (by rw [dP,G8 hz]) hk
 have Yy:=hn
 rw [gh,Bool.and_eq_true,Bool.and_eq_true,Bool.and_eq_true,Bool.not_eq_true',Bool.not_eq_true',decide_eq_false_iff_not,decide_eq_false_iff_not] at Yy
 obtain ⟨n1,n2,n3,_⟩:=Yy
 have nk:x.f.nk=x.kids.length:=by cases hs with |mk a _=>exact a.nk
 intro k hkk
 refine ⟨?_,IT hz k hkk⟩
 rw [fu,Bool.and_eq_true,decide_eq_true_eq]
 refine ⟨?_,hrk k hkk⟩
 by_cases h4:x.f.k<4
 ·exfalso
  have hnk:(bX x.f).nk=x.f.nk:=by
   have e4:(x.f.k==4)=false:=beq_eq_false_iff_ne.2 aa
   have e5:(x.f.k==5)=false:=beq_eq_false_iff_ne.2 aa
   have e6:(x.f.k==6)=false:=beq_eq_false_iff_ne.2 aa
   have e7:(x.f.k==7)=false:=beq_eq_false_iff_ne.2 aa
   unfold bX
   rw [e4,e5,e6,e7]
   cases x.f.k==1 <;> cases x.f.k==2 <;> cases x.f.k==3 <;> rfl
  have hz2:(bX x.f).nk=0:=by
   unfold lN at n3
   simp only [Bool.and_eq_true,beq_iff_eq] at n3
   have:=n3.2.2.2.2.2.2.2.2.2.2.2
   omega
  have:0<x.kids.length:=List.length_pos_of_mem hkk
  omega
 ·have:=R7 hs h h4 n2 k hkk
  omega
def Cv (b c:Nat):Fe:={ k:=6,op:=7,v:=0,s:=⟨#[]⟩,pm:=none,nm:=0,cm:=0,wide:=0,off:=0,ha:=false,at_:=0,how:=0,pn:=none,nn:=0,cn:=0,bl:=false,pk:=some ⟨b,0,none⟩,nk:=2,ck:=c }
def nO (b c:Nat) (x:Xp):Xp:=.mk (Cv b c) [] [] [x,x]
theorem OI {H:Hp} {b c:Nat} {x:Xp} {e:TypeId} {ro:Bool} (hs:jG H x) (hb:H.get b=some (.cells (eC x.f++eC x.f) e ro)):jG H (nO b c x):=by
 refine .mk ⟨rfl,rfl,rfl,.inl rfl,.inl rfl,.inr ⟨b,ro,e,rfl,?_⟩,(show (0:Nat)<281474976710656 by decide),(show (0:Nat)<281474976710656 by decide),(show (2:Nat)<281474976710656 by decide)⟩ fun k hk=>?_
 ·show H.get b=some (.cells (kC [x,x]) e ro)
  rw [hb]
  simp [kC]
 ·have hk:k∈[x,x]:=hk
  simp only [List.mem_cons,aH,or_false,or_self] at hk
  subst hk
  exact hs
theorem OG {b c:Nat} {x:Xp} (hf:qB x):qB (nO b c x):=
 .mk ⟨fun m hm=>(by cases (hm:m∈[])),fun s hs=>(by cases (hs:s∈[])),(show (2:Nat)<1000 by decide)⟩ fun k hk=>by
  have hk:k∈[x,x]:=hk
  simp only [List.mem_cons,aH,or_false,or_self] at hk
  subst hk
  exact hf
theorem Lo {b c:Nat} {x:Xp} (hr:fu x=true) (hn:bE x≤60):fu (nO b c x)=true:=by
 rw [fu,Bool.and_eq_true,decide_eq_true_eq] at hr ⊢
 have Og:=OD x
 refine ⟨?_,?_⟩
 ·rw [dw,show decide ((nO b c x).f.k<4)=false from rfl,show decide ((nO b c x).f.k>7)=false from rfl,show Ei (nO b c x).f=true from rfl]
  show fJ (Cv b c) 0 [x,x] 0≤64
  rw [fJ,fJ,fJ,sN aa aa]
  refine Li (Li aa ?_) ?_
  ·cases bump (Cv b c) 0 x.f <;> simp only [cond_true,cond_false] <;> omega
  ·cases bump (Cv b c) (0+1) x.f <;> simp only [cond_true,cond_false] <;> omega
 ·rw [cK,show (nO b c x).kids=[x,x] from rfl,qI,qI,Ir,hr.2]
  have hz:lN (bX (nO b c x).f)=true:=by simp [lN,bX,nO,Cv,Xp.f]
  rw [gh,hz,PE (show (nO b c x).f.k=6 from rfl),vK,lU,show (nO b c x).ns=[] from rfl,uf]
  rfl
theorem OH {b c:Nat} {x:Xp} (hk:bP x≠0):bP (nO b c x)=if bP x≤2 then bP x else 0:=by
 rw [dP,show (nO b c x).kids=[x,x] from rfl,jM,jM,jM]
 have hz:nF 0 [bP x,bP x]=false:=by
  simp only [nF,Bool.or_false,Bool.or_self,beq_eq_false_iff_ne]
  exact fun e=>hk e.symm
 rw [No hz rfl]
 show fC (Cv b c) (bP x) (bP x)=_
 have hm:mx (bP x) (bP x)=bP x:=by unfold mx;split <;> rfl
 unfold fC
 rw [hm]
 by_cases h2:bP x≤2
 ·rw [if_pos h2,decide_eq_false (show ¬ bP x>2 by omega),bne_self_eq_false]
  cases bP x==1 <;> rfl
 ·rw [if_neg h2,decide_eq_true (show bP x>2 by omega)];rfl
theorem xK {x:Xp} (hr:fu x=true) (hk:bP x≠0):oY x=.tuple #[iI (bP x),.nilIface]:=by
 rw [oY,hr,beq_eq_false_iff_ne.2 hk];rfl
theorem Wq (x:Xp):(oY x=.tuple #[iI (bP x),.nilIface]∧fu x=true∧bP x≠0)∨(oY x=.tuple #[iI 0,.iface 41 (iI 7)]∧fu x=true∧bP x=0)∨(oY x=.tuple #[iI 0,.iface 41 (iI 6)]∧fu x=false):=by
 cases hr:fu x with
 |false=>exact .inr (.inr ⟨by rw [oY,hr];rfl,rfl⟩)
 |true=>
  by_cases hk:bP x=0
  ·exact .inr (.inl ⟨by rw [oY,hr,hk];rfl,rfl,hk⟩)
  ·exact .inl ⟨xK hr hk,rfl,hk⟩
theorem OJ {b c:Nat} {x:Xp} (hr:fu x=true) (hk:bP x≠0) (hn:bE x≤60):(oY (nO b c x)=.tuple #[iI (bP x),.nilIface]∧bP x≤2)∨(oY (nO b c x)=.tuple #[iI 0,.iface 41 (iI 7)]∧¬ bP x≤2):=by
 have h1:=Lo (b:=b) (c:=c) hr hn
 have h2:=OH (b:=b) (c:=c) hk
 by_cases h:bP x≤2
 ·rw [if_pos h] at h2
  exact .inl ⟨by rw [xK h1 (by rw [h2];exact hk),h2],h⟩
 ·rw [if_neg h] at h2
  exact .inr ⟨by rw [oY,h1,h2];rfl,h⟩
theorem Wo {G:Hp} {args:List Value} {H:Hp} {x:Xp} (h:aD E G 7 args H [] (fun v _=>v=oY x)):aD E G 7 args H [] (fun v _=>(v=.tuple #[iI (bP x),.nilIface]∧fu x=true∧bP x≠0)∨(v=.tuple #[iI 0,.iface 41 (iI 7)]∧fu x=true∧bP x=0)∨(v=.tuple #[iI 0,.iface 41 (iI 6)]∧fu x=false)):=h.mono fun v _ hv=>by
 rcases Wq x with ⟨a,b⟩ |⟨a,b⟩ |⟨a,b⟩
 ·exact .inl ⟨hv.trans a,b⟩
 ·exact .inr (.inl ⟨hv.trans a,b⟩)
 ·exact .inr (.inr ⟨hv.trans a,b⟩)
theorem Vv (x:Xp) (X:Hp) (hx:Gd E G X) (hs:jG X x) (hf:qB x) (hsh:iZ x=true) (hr:fu x=true) (hk:bP x≠0) (k:Xp) (hm:k∈x.kids) {H:Hp} (y:Gd E X H):aD E X 7 [.agg (eC k.f).toArray] H [] (fun v _=>v=.tuple #[iI (bP k),.nilIface]∧bP k≠0):=by
 have hl:jG X k:=by cases hs with |mk a h=>exact h k hm
 have hff:qB k:=by cases hf with |mk a h=>exact h k hm
 obtain ⟨h1,h2⟩:=RI hs hsh hr hk k hm
 exact (Ee k X hx hl hff y).mono fun v _ hv=>⟨hv.trans (xK h1 h2),h2⟩
theorem Sg (x:Xp) (X:Hp) (hx:Gd E G X) (hs:jG X x) (hf:qB x) (hr:fu x=true) (hk:bP x≠0) (hn:bE x≤60) (b c:Nat) {H:Hp} (y:Gd E X H) (hb:H.get b=some (.cells (eC x.f++eC x.f) 27 false)):aD E X 7 [.agg (eC (Cv b c)).toArray] H [] (fun v _=>(v=.tuple #[iI (bP x),.nilIface]∧bP x≤2)∨(v=.tuple #[iI 0,.iface 41 (iI 7)]∧¬ bP x≤2)):=
 yL y ((Ee (nO b c x) H (qA hx y) (OI (hs.up y hx.wf) hb) (OG hf) (gdS (qA hx y))).mono fun v _ hv=>by
  rcases OJ (b:=b) (c:=c) hr hk hn with ⟨a,d⟩ |⟨a,d⟩
  ·exact .inl ⟨hv.trans a,d⟩
  ·exact .inr ⟨hv.trans a,d⟩)
noncomputable def Kh:Code:=cz [1,1,1,1,1,0,1,0,0] (bH Tryz.f4)
theorem Oq (x:Xp) (X:Hp) (hx:Gd E G X) (a:At X x) (hs:jG X x) (hf:qB x) (hsh:iZ x=true) (hr:fu x=true) (hk:bP x≠0) (bx:Nat) (n:Int):∀(m:Nat) (x5:Int) (H:Hp),Gd E X H→(kb:H.get bx=some (.cells (eC x.f) 27 false))→(x0:0≤x5)→((x.f.nk:Int)-x5).toNat=m→
  aA E X 71 Kh [(1,pt bx 0),(3,iI n),(5,iI x5)] H [] (fun xx T H'=>(xx=(.exit 0)∧T=bw [(1,pt bx 0),(3,iI n)])):=by
 intro m
 induction m using Nat.strongRecOn with
 |_ m ih=>
 intro x5 H y kb x0 hm
 have bk:=a.bk
 have w1:aq E 25 bx 12 H=some (.slice x.f.pk x.f.nk x.f.ck):=bQ di kb rfl
 cases h1:(decide (x5<((x.f.nk:Nat):Int))) with
 |true=>
  have q1:=aL h1
  obtain ⟨d1,HG,t1,hY,lM⟩:=a.rk.open aa
  have vH:=hx.wf.lt lM
  obtain ⟨x2,m2⟩:=a.W5 (i:=x5.toNat) aa
  have w2:aq E 27 d1 (0+x5.toNat*13) H=some (.agg (eC x2.f).toArray):=RL bL aK (y.cell lM vH) m2 aa
  obtain ⟨_,H1,c1,bN,y1,rfl,Vj⟩:=Vv x X hx hs hf hsh hr hk x2 (vI m2) y
  have w3:((bP x2)==0)=false:=beq_eq_false_iff_ne.2 Vj
  have w4:=aC (x5+1)
  have eI:=y.kept bN aH kb
  exact aA.next' y (bf [au 1,vl (.slice x.f.pk x.f.nk x.f.ck) H,au 0,aI,au 0,vl (.slice x.f.pk x.f.nk x.f.ck) H,au 0,vl (pt d1 (0+x5.toNat*13)) H,vl (.agg (eC x2.f).toArray) H,.call (.tuple #[iI (bP x2),.nilIface]) H1 [],au 8,aF,au 1,.as (iI (x5+1)),au 0] [(1,pt bx 0),(3,iI n),(5,iI (x5+1))] .normal H1 [] (fun _ r_=>aE w1 h1 w1 (show aN E 25 (.slice x.f.pk x.f.nk x.f.ck) (iI x5)=some (pt d1 (0+x5.toNat*13)) from jA bD aK hY aa aa) w2 c1 w3 w4 r_)) aM (ih _ aa (x5+1) _ y1 eI aa rfl)
 |false=>
  exact aA.last' y (bf [au 1,vl (.slice x.f.pk x.f.nk x.f.ck) H,au 0,aF] [(1,pt bx 0),(3,iI n)] (.exit 0) H [] (fun _ r_=>cU w1 h1 r_)) aj aM aM ⟨rfl,rfl⟩
theorem Fk:E.func 4=some Tryz.f4:=ah
theorem Fl:bO Tryz.f4 1=true:=ah
noncomputable abbrev dV H (x:Xp):=news H [.cells (eC x.f) 27 false]
noncomputable abbrev DZ (H:Hp) (x:Xp) (l_:List Hint):=au 1::.call (.bool true) (dV H x) []::au 0::vl (.agg (eC x.f).toArray) (dV H x)::l_
noncomputable abbrev xz (H:Hp) (x:Xp) (H1:Hp) (l_:List Hint):=DZ H x (.call (.bool true) H1 []::au 0::vl (.agg (eC x.f).toArray) H1::l_)
noncomputable abbrev xA (H:Hp) (x:Xp) (H1:Hp) (H2:Hp) (H3:Hp) (H4:Hp) (l_:List Hint):=xz H x H1 (.call (.tuple #[iI (bP x),.nilIface]) H2 []::au 7::.loop [1,3,5] (.exit 0) (bw [(1,pt (H.n+0) 0),(3,iI (bP x))]) H3 []::vl (.agg (eC x.f).toArray) H3::.call (iI (bE x)) H4 []::l_)
theorem NX (x:Xp) (X:Hp) (hx:Gd E G X) (a:At X x) (hs:jG X x) {H:Hp} (y:Gd E X H):aD E X 4 [.agg (eC x.f).toArray] H [] (fun v H'=>v=.bool true):=by
 have w1:aq E 27 (H.n+0) 0 (dV H x)=some (.agg (eC x.f).toArray):=fQ bL aK rfl rfl rfl
 obtain ⟨_,H1,c1,bN,y1,eD⟩:=iL (O9 x X hx hs (y.news [.cells (eC x.f) 27 false]))
 rcases eD with ⟨rfl,ei⟩ |⟨rfl,ei⟩
 ·have bz:=(y.news [.cells (eC x.f) 27 false]).kept bN aH (aB [.cells (eC x.f) 27 false] H 0 _ rfl)
  have w2:aq E 27 (H.n+0) 0 H1=some (.agg (eC x.f).toArray):=o7 bL aK bz rfl rfl
  have hf:=Ub hs ei
  obtain ⟨_,H2,c2,dc,y2,oP⟩:=Wo (Ee x X hx hs hf y1)
  rcases oP with ⟨rfl,hr,hk⟩ |⟨rfl,hr,hk⟩ |⟨rfl,hr⟩
  ·have bI:=y1.kept dc aH bz
   obtain ⟨_,_,H3,c3,gB,y3,rfl,rfl⟩:=(Oq x X hx a hs hf ei hr hk (H.n+0) (bP x) _ 0 _ y2 bI aa rfl).code
   have ep:=y2.kept gB aH bI
   have w3:aq E 27 (H.n+0) 0 H3=some (.agg (eC x.f).toArray):=o7 bL aK ep rfl rfl
   obtain ⟨_,H4,c4,rj,y4,rfl⟩:=V8 x X hx hs y3
   cases h3:(decide ((bE x)>60)) with
   |true=>
    exact bA y (xA H x H1 H2 H3 H4 [aI,au 0]) (.bool true) H4 Fk Fl (aE (show CC E 5 [] (dV H x) (.ret (.bool true)) (dV H x) [] from E9 (qA hx (y.news [.cells (eC x.f) 27 false]))) w1 c1 w2 c2 c3 w3 c4<|cF h3 aS) rfl
   |false=>
    have q3:=aQ h3
    have ox:=y3.kept rj aH ep
    have w4:aq E 27 (H.n+0) 0 H4=some (.agg (eC x.f).toArray):=o7 bL aK ox rfl rfl
    obtain ⟨_,H5,c5,vQ,y5,R9⟩:=Sg x X hx hs hf hr hk aa (H4.n+0) 5 (y4.news [.cells (eC x.f++eC x.f) 27 false]) (aB [.cells (eC x.f++eC x.f) 27 false] H4 0 _ rfl)
    rcases R9 with ⟨rfl,GY⟩ |⟨rfl,GY⟩
    ·have w5:(decide ((bP x)≤2))=true:=decide_eq_true GY
     have w6:((bP x)==(bP x))=true:=beq_self_eq_true _
     exact bA y (xA H x H1 H2 H3 H4 [aF,vl (.agg (eC x.f).toArray) H4,vl (.agg (eC x.f).toArray) H4,au 1,.call (.tuple #[iI (bP x),.nilIface]) H5 [],au 7,aI,au 6,aI,au 2]) (.bool true) H5 Fk Fl (aE (show CC E 5 [] (dV H x) (.ret (.bool true)) (dV H x) [] from E9 (qA hx (y.news [.cells (eC x.f) 27 false]))) w1 c1 w2 c2 c3 w3 c4<|fG h3 w4 w4 c5 w5 w6 aS) rfl
    ·have w5:(decide ((bP x)≤2))=false:=decide_eq_false GY
     exact bA y (xA H x H1 H2 H3 H4 [aF,vl (.agg (eC x.f).toArray) H4,vl (.agg (eC x.f).toArray) H4,au 1,.call (.tuple #[iI 0,.iface 41 (iI 7)]) H5 [],au 7,aF,au 7]) (.bool true) H5 Fk Fl (aE (show CC E 5 [] (dV H x) (.ret (.bool true)) (dV H x) [] from E9 (qA hx (y.news [.cells (eC x.f) 27 false]))) w1 c1 w2 c2 c3 w3 c4<|eM h3 w4 w4 c5 w5 aS) rfl
  ·exact bA y (xz H x H1 [.call (.tuple #[iI 0,.iface 41 (iI 7)]) H2 [],au 9]) (.bool true) H2 Fk Fl (eM (show CC E 5 [] (dV H x) (.ret (.bool true)) (dV H x) [] from E9 (qA hx (y.news [.cells (eC x.f) 27 false]))) w1 c1 w2 c2 aS) rfl
  ·exact bA y (xz H x H1 [.call (.tuple #[iI 0,.iface 41 (iI 6)]) H2 [],au 9]) (.bool true) H2 Fk Fl (eM (show CC E 5 [] (dV H x) (.ret (.bool true)) (dV H x) [] from E9 (qA hx (y.news [.cells (eC x.f) 27 false]))) w1 c1 w2 c2 aS) rfl
 ·exact bA y (DZ H x [.call (.bool false) H1 [],au 1]) (.bool true) H1 Fk Fl (eY (show CC E 5 [] (dV H x) (.ret (.bool true)) (dV H x) [] from E9 (qA hx (y.news [.cells (eC x.f) 27 false]))) w1 c1 aS) rfl
theorem uJ {w:World} {a:Addr} {v:Value} (h:w.cell? a=some v):a.block<w.heap.size∧a.spot=none:=by
 unfold World.cell? at h
 split at h
 ·rename_i c e f hc
  refine ⟨(Array.getElem?_eq_some_iff.1 hc).1,?_⟩
  cases hs:a.spot with
  |none=>rfl
  |some q=>rw [hs] at h;cases h
 ·cases h
theorem yg {w:World} {a:Addr} {k:Nat} {v:Value} (h:w.cell? (a.add k)=some v):w.cell? ⟨a.block,a.off+k,none⟩=some v:=by
 unfold Addr.add at h
 by_cases hk:k=0
 ·rw [if_pos hk] at h
  subst hk
  have:=(uJ h).2
  obtain ⟨b,o,s⟩:=a
  simp only at this
  subst this
  exact h
 ·rw [if_neg hk] at h;exact h
theorem add_add {w:World} {a:Addr} {k r:Nat} {v:Value} (h:w.cell? ((a.add k).add r)=some v):w.cell? ⟨a.block,a.off+(k+r),none⟩=some v:=by
 have h1:=yg h
 have e1:(a.add k).block=a.block:=by unfold Addr.add;split <;> rfl
 have e2:(a.add k).off=a.off+k:=by unfold Addr.add;split <;> (try rfl);omega
 rw [e1,e2] at h1
 rw [← Nat.add_assoc];exact h1
theorem uK {w:World} {base n:Nat} {a:Addr} {c:List Value} (h:w.cells? base a n=some c):c.length=n∧∀ r,r<n→w.cell? (a.add r)=c[r]?:=by
 unfold World.cells? at h
 split at h
 ·exact ⟨by have:=mapM_some_length h;simpa using this,fun r hr=>mapM_some_get h r r (by simp [hr])⟩
 ·cases h
theorem Cj {α:Type}:∀{n:Nat} {Q:Nat→α→Prop},(∀ i,i<n→∃ x,Q i x)→∃ l:List α,l.length=n∧∀(i:Nat) x,l[i]?=some x→Q i x
 |0,Q,_=>⟨[],rfl,fun i x h=>by simp at h⟩
 |n+1,Q,h=>by
  obtain ⟨x,hx⟩:=h 0 aa
  obtain ⟨l,h1,h2⟩:=Cj (n:=n) (Q:=fun i=>Q (i+1)) (fun i hi=>h (i+1) aa)
  refine ⟨x::l,by simp [h1],fun i y hy=>?_⟩
  cases i with
  |zero=>simp at hy;subst hy;exact hx
  |succ i=>simp at hy;exact h2 i y hy
structure RO (w:World) (H:Hp) (φ:cS):Prop where
 wf:Wf H
 ng:E.ng≤H.n
 free:∀ i,H.n≤i→φ i=none
 fI:∀ g,g<E.ng→∃ l,φ g=some l∧l.gK=g∧l.off=0
 rows:∀ i l o,φ i=some l→H.get i=some o→∃ c e,o=.cells c e true∧∀(j:Nat) x,c[j]?=some x→∃ y,w.cell? ⟨l.gK,l.off+j,none⟩=some y∧VR φ x y
theorem RO.rel {w:World} {H:Hp} {φ:cS} (h:RO w H φ):Rel E w.heap.size H φ w:=by
 refine ⟨Nat.le_refl _,fun i l o hi hl ho=>?_,fun i l hi hl hv=>?_,fun i j l m hi hj hij hl hm hw hv=>?_,h.fI⟩
 ·obtain ⟨c,e,rfl,k⟩:=h.rows i l o hl ho
  exact k
 ·cases hg:H.get i with
  |none=>rw [hg] at hv;cases hv
  |some o=>
   obtain ⟨c,e,rfl,k⟩:=h.rows i l o hl hg
   rw [hg] at hv
   cases c with
   |nil=>cases hv
   |cons x c=>
    obtain ⟨y,hy,_⟩:=k 0 x rfl
    exact (uJ hy).1
 ·cases hg:H.get i with
  |none=>rw [hg] at hw;cases hw
  |some o=>
   obtain ⟨c,e,rfl,k⟩:=h.rows i l o hl hg
   rw [hg] at hw
   cases hw
structure Up (H:Hp) (φ:cS) (H':Hp) (φ':cS):Prop where
 n:H.n≤H'.n
 get:∀ i,i<H.n→H'.get i=H.get i
 eq:∀ i,i<H.n→φ' i=φ i
theorem Up.refl (H:Hp) (φ:cS):Up H φ H φ:=⟨Nat.le_refl _,fun _ _=>rfl,fun _ _=>rfl⟩
theorem Up.trans {A B C:Hp} {α β γ:cS} (h:Up A α B β) (k:Up B β C γ):Up A α C γ:=
 ⟨Nat.le_trans h.n k.n,fun i hi=>(k.get i (Nat.lt_of_lt_of_le hi h.n)).trans (h.get i hi),fun i hi=>(k.eq i (Nat.lt_of_lt_of_le hi h.n)).trans (h.eq i hi)⟩
theorem Up.sub {w:World} {H H':Hp} {φ φ':cS} (r:RO w H φ) (h:Up H φ H' φ'):∀ i l,φ i=some l→φ' i=some l:=fun i l hl=>by
 by_cases hi:i<H.n
 ·rw [h.eq i hi];exact hl
 ·rw [r.free i aa] at hl;cases hl
theorem Up.RV {w:World} {H H':Hp} {φ φ':cS} (r:RO w H φ) (r':RO w H' φ') (h:Up H φ H' φ') {x:Xp} (hx:jG H x):jG H' x:=
 hx.up (E:=E) ⟨r'.wf,h.n,r.ng,h.get⟩ r.wf
theorem RO.add {w:World} {H:Hp} {φ:cS} (r:RO w H φ) {c:List Value} (e:TypeId) {l:Am.Loc} (hc:∀(j:Nat) x,c[j]?=some x→∃ y,w.cell? ⟨l.gK,l.off+j,none⟩=some y∧VR φ x y) :
  ∃ H' φ',RO w H' φ'∧Up H φ H' φ'∧H'.get H.n=some (.cells c e true)∧φ' H.n=some l:=by
 have eO:∀ i,i≠H.n→(if i=H.n then some l else φ i)=φ i:=fun i h=>if_neg h
 have sub:∀ i m,φ i=some m→(if i=H.n then some l else φ i)=some m:=fun i m hm=>by
  by_cases hi:i=H.n
  ·rw [hi,r.free H.n (Nat.le_refl _)] at hm;cases hm
  ·rw [eO i hi];exact hm
 have U1:(H.new (.cells c e true)).get H.n=some (.cells c e true):=by rw [Hp.dF,if_pos rfl]
 refine ⟨H.new (.cells c e true),fun i=>if i=H.n then some l else φ i,⟨r.wf.new _,Nat.le_trans r.ng (by rw [Hp.sQ];omega),fun i hi=>?_,fun g hg=>?_,fun i m o hm ho=>?_⟩,⟨by rw [Hp.sQ];omega,fun i hi=>?_,fun i hi=>eO i aa⟩,U1,if_pos rfl⟩
 ·rw [Hp.sQ] at hi
  show (if i=H.n then some l else φ i)=none
  rw [eO i aa];exact r.free i aa
 ·obtain ⟨m,h1,h2⟩:=r.fI g hg
  exact ⟨m,sub g m h1,h2⟩
 ·by_cases hi:i=H.n
  ·subst hi
   rw [U1] at ho
   injection ho with ho
   subst ho
   have hm:(if H.n=H.n then some l else φ H.n)=some m:=hm
   rw [if_pos rfl] at hm
   injection hm with hm
   subst hm
   exact ⟨c,e,rfl,fun j x hx=>let ⟨y,h1,h2⟩:=hc j x hx;⟨y,h1,h2.mono sub⟩⟩
  ·have hm:(if i=H.n then some l else φ i)=some m:=hm
   rw [eO i hi] at hm
   rw [Hp.dF,if_neg (fun e=>hi e.symm)] at ho
   obtain ⟨c',e',h1,h2⟩:=r.rows i m o hm ho
   exact ⟨c',e',h1,fun j x hx=>let ⟨y,h3,h4⟩:=h2 j x hx;⟨y,h3,h4.mono sub⟩⟩
 ·rw [Hp.dF,if_neg aa]
theorem RO.slice {w:World} {H:Hp} {φ:cS} (r:RO w H φ) {a:Addr} {len cap:Nat} (hle:len≤cap) {c:List Value} (e:TypeId) (hc:len≠0→∀(j:Nat) x,c[j]?=some x→∃ y,w.cell? ⟨a.block,a.off+j,none⟩=some y∧VR φ x y) (hs:len≠0→a.spot=none) :
  ∃ H' φ' p k,RO w H' φ'∧Up H φ H' φ'∧gU H' p len c∧VR φ' (.slice p len k) (.slice (some a) len cap):=by
 by_cases h0:len=0
 ·subst h0
  exact ⟨H,φ,some ⟨0,0,some 0⟩,0,r,Up.refl ..,.inl rfl,.slz a cap⟩
 ·obtain ⟨H',φ',r',u,h1,h2⟩:=r.add (l:=⟨a.block,a.off,0⟩) e (hc h0)
  have hsp:=hs h0
  refine ⟨H',φ',some ⟨H.n,0,none⟩,2*cap+1,r',u,.inr ⟨H.n,true,e,rfl,h1⟩,?_⟩
  have:=VR.Ia (φ:=φ') H.n 0 len cap ⟨a.block,a.off,0⟩ h2 hle
  obtain ⟨b,o,s⟩:=a
  simp only at hsp
  subst hsp
  exact this
section
variable {Q:Type} {enc:TypeId×Value→Q} {w:World}
noncomputable abbrev y9 (enc:TypeId×Value→Q) (w:World):=DataW.trod enc Tryz.prog w 0 (fun _=>true) true
theorem pZ {n t:Nat} {k:IntKind} (ht:Tryz.prog.underlying t=some (.int k)) {c:List Value} {x:DataW Q×List MemPlace} (h:y9 enc w n t c=some x):∃ v,c=[.int k v]:=by
 obtain ⟨v,h1,_⟩:=DataW.trod_int ht h;exact ⟨v,h1⟩
theorem Jx {n t:Nat} (ht:Tryz.prog.underlying t=some .bool) {c:List Value} {x:DataW Q×List MemPlace} (h:y9 enc w n t c=some x):∃ v,c=[.bool v]:=by
 obtain ⟨v,h1,_⟩:=DataW.trod_bool ht h;exact ⟨v,h1⟩
theorem Bk {n t:Nat} (ht:Tryz.prog.underlying t=some .string) {c:List Value} {x:DataW Q×List MemPlace} (h:y9 enc w n t c=some x):∃ v:ByteArray,c=[.string v]:=by
 obtain ⟨v,h1,_⟩:=DataW.trod_string ht h;exact ⟨v,h1⟩
theorem c3:Tryz.prog.cellsOf 3=1:=ah
theorem c9:Tryz.prog.cellsOf 9=1:=ah
theorem c27:Tryz.prog.cellsOf 27=13:=ah
theorem c40:Tryz.prog.cellsOf 40=3:=ah
theorem zl {a:Addr} {sz i n e:Nat} {y:Option (DataW Q×List MemPlace)} (hs:y.isSome=true) (h:(w.cells? 0 (a.add (i*sz)) sz).bind (y9 enc w n e)=y) :
  ∃ c x,w.cells? 0 (a.add (i*sz)) sz=some c∧y9 enc w n e c=some x∧c.length=sz∧∀ r v,c[r]?=some v→w.cell? ⟨a.block,a.off+(i*sz+r),none⟩=some v:=by
 obtain ⟨x,hx⟩:=Option.isSome_iff_exists.1 hs
 rw [hx,Option.bind_eq_some_iff] at h
 obtain ⟨c,h1,h2⟩:=h
 obtain ⟨h3,h4⟩:=uK h1
 exact ⟨c,x,h1,h2,h3,fun r v hv=>add_add ((h4 r (by have:=(List.getElem?_eq_some_iff.1 hv).1;omega)).trans hv)⟩
theorem Bp {a:Addr} {sz:Nat} {c:List Value} (h:w.cells? 0 (a.add (0*sz)) sz=some c) (hz:0<sz):a.spot=none:=by
 obtain ⟨h1,h2⟩:=uK h
 have h3:=h2 0 hz
 obtain ⟨v,hv⟩:∃ v,c[0]?=some v:=⟨c[0],bZ aa⟩
 rw [hv,Nat.zero_mul] at h3
 have e:(a.add 0).add 0=a:=rfl
 rw [e] at h3
 exact (uJ h3).2
theorem NI {t e:Nat} (ht:Tryz.prog.underlying t=some (.slice e)) {es sp:List (DataW Q)}:(DataW.slice es sp).weights Tryz.prog t=(es.length+sp.length)*Tryz.prog.bytesOf e::(DataW.weightsAll Tryz.prog e es++DataW.weightsAll Tryz.prog e sp):=by
 rw [DataW.weights,ht]
theorem S6 {t:Nat} {fs:Array Field} (ht:Tryz.prog.underlying t=some (.struct fs)) {ps:List (DataW Q)}:(DataW.agg ps).weights Tryz.prog t=DataW.weightsEach Tryz.prog (fs.toList.map (·.type)) ps:=by
 rw [DataW.weights,ht]
theorem S5:∀{ts:List TypeId} {ds:List (DataW Q)} {i:Nat} {t:TypeId} {d:DataW Q},ts[i]?=some t→ds[i]?=some d→∀ q∈d.weights Tryz.prog t,q∈DataW.weightsEach Tryz.prog ts ds
 |[],ds,i,t,d,h,_,q,_=>by simp at h
 |t0::ts,[],i,t,d,_,h,q,_=>by simp at h
 |t0::ts,d0::ds,i,t,d,h1,h2,q,hq=>by
  rw [DataW.weightsEach]
  cases i with
  |zero=>simp at h1 h2;subst h1;subst h2;exact List.mem_append_left _ hq
  |succ i=>simp at h1 h2;exact List.mem_append_right _ (S5 h1 h2 q hq)
theorem Xk:∀{e:TypeId} {ds:List (DataW Q)} {d:DataW Q},d∈ds→∀ q∈d.weights Tryz.prog e,q∈DataW.weightsAll Tryz.prog e ds
 |e,[],d,h,q,_=>by cases h
 |e,d0::ds,d,h,q,hq=>by
  rw [DataW.weightsAll]
  rcases List.mem_cons.1 h with rfl |h
  ·exact List.mem_append_left _ hq
  ·exact List.mem_append_right _ (Xk h q hq)
theorem b9:Tryz.prog.bytesOf 9=16:=ah
theorem b40:Tryz.prog.bytesOf 40=40:=ah
theorem b27:16≤Tryz.prog.bytesOf 27:=dm ah
def Wt (t:Nat) (x:DataW Q×List MemPlace):Prop:=∀ q∈x.1.weights Tryz.prog t,q≤140737488351232
theorem Wt.len {t e len b:Nat} {es sp:List (DataW Q)} {ps:List MemPlace} (h:Wt t (.slice es sp,ps)) (ht:Tryz.prog.underlying t=some (.slice e)) (hb:16≤Tryz.prog.bytesOf e) (hl:es.length=len):len<281474976710656:=by
 have h1:=h ((es.length+sp.length)*Tryz.prog.bytesOf e) (by show _∈(DataW.slice es sp).weights Tryz.prog t;rw [NI ht];simp)
 have h2:=Nat.mul_le_mul_left (es.length+sp.length) hb
 omega
theorem Ju {fuel:Nat} {v:Value} {x:DataW Q×List MemPlace} (h:y9 enc w fuel 24 [v]=some x) (hw:Wt 24 x) {H:Hp} {φ:cS} (r:RO w H φ) :
  ∃ H' φ' p n k,∃ ns:List ByteArray,RO w H' φ'∧Up H φ H' φ'∧n=ns.length∧n<281474976710656∧gU H' p n (ju ns)∧VR φ' (.slice p n k) v:=by
 rcases DataW.trod_slice Tryz.underlying24 h with ⟨h1,_⟩ |⟨a,len,cap,elems,rest,n,rfl,h1,Z6,_,hle,hcap,hlen,hel,_⟩
 ·injection h1 with h1
  subst h1
  exact ⟨H,φ,none,0,0,[],r,Up.refl ..,rfl,by omega,.inl rfl,.EN⟩
 ·injection h1 with h1
  subst h1
  rw [c9] at hel
  have el:∀ i,i<len→∃ s:ByteArray,w.cell? ⟨a.block,a.off+i,none⟩=some (.string s)∧(i=0→a.spot=none):=fun i hi=>by
   obtain ⟨c,y,h1,h2,h3,h4⟩:=zl (by rw [bZ aa];rfl) (hel i hi)
   obtain ⟨s,rfl⟩:=Bk Tryz.underlying9 h2
   refine ⟨s,by have:=h4 0 _ rfl;rwa [Nat.mul_one] at this,fun h0=>?_⟩
   subst h0
   exact Bp h1 aa
  obtain ⟨ns,l1,l2⟩:=Cj el
  obtain ⟨H',φ',p,k,r',u,hr,hv⟩:=r.slice (a:=a) hle (c:=ju ns) 9 (fun _ j x hx=>by
   rw [ju,List.getElem?_map] at hx
   cases hj:ns[j]? with
   |none=>rw [hj] at hx;cases hx
   |some s=>
    rw [hj] at hx
    simp only [Option.map_some,Option.some.injEq] at hx
    subst hx
    exact ⟨_,(l2 j s hj).1,.string s⟩) (fun h0=>(el 0 aa).elim fun s hs=>hs.2 rfl)
  subst Z6
  exact ⟨H',φ',p,len,k,ns,r',u,l1.symm,hw.len (b:=0) Tryz.underlying24 (Nat.le_of_eq b9.symm) (by simpa using hlen),hr,hv⟩
theorem Lf {fuel:Nat} {v:Value} {x:DataW Q×List MemPlace} (h:y9 enc w fuel 23 [v]=some x) (hw:Wt 23 x) {H:Hp} {φ:cS} (r:RO w H φ) :
  ∃ H' φ' p n k,∃ ms:List M3,RO w H' φ'∧Up H φ H' φ'∧n=ms.length∧n<281474976710656∧gU H' p n (mC ms)∧VR φ' (.slice p n k) v:=by
 rcases DataW.trod_slice Tryz.underlying23 h with ⟨h1,_⟩ |⟨a,len,cap,elems,rest,n,rfl,h1,Z6,_,hle,hcap,hlen,hel,_⟩
 ·injection h1 with h1
  subst h1
  exact ⟨H,φ,none,0,0,[],r,Up.refl ..,rfl,by omega,.inl rfl,.EN⟩
 ·injection h1 with h1
  subst h1
  rw [c40] at hel
  have el:∀ i,i<len→∃ m:M3,(∀ r v,[iI m.1,Value.string m.2.1,.string m.2.2][r]?=some v→w.cell? ⟨a.block,a.off+(i*3+r),none⟩=some v)∧(i=0→a.spot=none):=fun i hi=>by
   obtain ⟨c,y,h1,h2,h3,h4⟩:=zl (by rw [bZ aa];rfl) (hel i hi)
   obtain ⟨xs,m,_,_,_,hx,hf⟩:=DataW.trod_struct Tryz.underlying40 h2
   have hx:xs.length=3:=hx
   have f0:=show y9 enc w m 3 ((c.drop 0).take (Tryz.prog.cellsOf 3))=xs[0]? from hf 0 _ rfl
   have f1:=show y9 enc w m 9 ((c.drop 1).take (Tryz.prog.cellsOf 9))=xs[1]? from hf 1 _ rfl
   have f2:=show y9 enc w m 9 ((c.drop 2).take (Tryz.prog.cellsOf 9))=xs[2]? from hf 2 _ rfl
   rw [bZ aa] at f0 f1 f2
   rw [c3] at f0
   rw [c9] at f1 f2
   obtain ⟨o,e0⟩:=pZ Tryz.underlying3 f0
   obtain ⟨s,e1⟩:=Bk Tryz.underlying9 f1
   obtain ⟨t,e2⟩:=Bk Tryz.underlying9 f2
   have hc:c=[iI o,.string s,.string t]:=by
    match c,h3 with
    |[c0,c1,c2],_=>
     simp at e0 e1 e2
     rw [e0,e1,e2]
   refine ⟨(o,s,t),fun r v hv=>h4 r v (by rw [hc];exact hv),fun h0=>?_⟩
   subst h0
   exact Bp h1 aa
  obtain ⟨ms,l1,l2⟩:=Cj el
  obtain ⟨H',φ',p,k,r',u,hr,hv⟩:=r.slice (a:=a) hle (c:=mC ms) 40 (fun _ j x hx=>by
   have hjl:(mC ms).length=ms.length*3:=by
    rw [mC,List.length_flatMap]
    simp only [List.length_cons,List.length_nil,List.map_const',List.sum_replicate_nat]
   have hj:=(List.getElem?_eq_some_iff.1 hx).1
   have hi:j / 3<ms.length:=aa
   obtain ⟨g1,g2⟩:=R3 (bZ hi)
   have g3:=yp (j:=j%3) g1 aa
   rw [show j / 3*3+j%3=j by omega,hx] at g3
   have g4:=(l2 (j / 3) _ (bZ hi)).1 (j%3) x g3.symm
   rw [show j / 3*3+j%3=j by omega] at g4
   refine ⟨x,g4,?_⟩
   have hr:j%3=0∨j%3=1∨j%3=2:=aa
   rcases hr with e |e |e <;> rw [e] at g3 <;> simp only [List.getElem?_cons_zero,List.getElem?_cons_succ,Option.some.injEq] at g3 <;> subst g3
   ·exact .int _ _
   ·exact .string _
   ·exact .string _) (fun h0=>(el 0 aa).elim fun s hs=>hs.2 rfl)
  subst Z6
  exact ⟨H',φ',p,len,k,ms,r',u,l1.symm,hw.len (b:=0) Tryz.underlying23 (by rw [b40];omega) (by simpa using hlen),hr,hv⟩
theorem B9 {n:Nat} (ih:∀ c x,y9 enc w n 27 c=some x→Wt 27 x→∀ H φ,RO w H φ→∃ H' φ' t,RO w H' φ'∧Up H φ H' φ'∧jG H' t∧LR φ' (eC t.f) c):∀(cs:List (List Value)),(∀ c∈cs,∃ x,y9 enc w n 27 c=some x∧Wt 27 x)→∀ H φ,RO w H φ→
  ∃ H' φ',∃ ts:List Xp,RO w H' φ'∧Up H φ H' φ'∧ts.length=cs.length∧(∀ t∈ts,jG H' t)∧∀(i:Nat) t c,ts[i]?=some t→cs[i]?=some c→LR φ' (eC t.f) c
 |[],_,H,φ,r=>⟨H,φ,[],r,Up.refl ..,rfl,(fun t ht=>by cases ht),(fun i t c ht=>by simp at ht)⟩
 |c::cs,h,H,φ,r=>by
  obtain ⟨x,hx,hxw⟩:=h c aj
  obtain ⟨H1,φ1,t,r1,u1,l1,e1⟩:=ih c x hx hxw H φ r
  obtain ⟨H2,φ2,ts,r2,u2,l2,k2,e2⟩:=B9 ih cs (fun c hc=>h c (List.mem_cons_of_mem _ hc)) H1 φ1 r1
  refine ⟨H2,φ2,t::ts,r2,u1.trans u2,by simp [l2],fun q hq=>?_,fun i q d hq hd=>?_⟩
  ·rcases List.mem_cons.1 hq with rfl |hq
   ·exact u2.RV r1 r2 l1
   ·exact k2 q hq
  ·cases i with
   |zero=>simp at hq hd;subst hq;subst hd;exact e1.mono (u2.sub r1)
   |succ i=>simp at hq hd;exact e2 i q d hq hd
theorem Ef:∀(fuel:Nat) (c:List Value) (x:DataW Q×List MemPlace),y9 enc w fuel 27 c=some x→Wt 27 x→∀ H φ,RO w H φ→∃ H' φ' t,RO w H' φ'∧Up H φ H' φ'∧jG H' t∧LR φ' (eC t.f) c
 |0,c,x,h,hw,H,φ,r=>by simp [DataW.trod] at h
 |fuel+1,c,x,h,hw,H,φ,r=>by
  obtain ⟨xs,n,hn,YM,hl,hx,hf⟩:=DataW.trod_struct Tryz.underlying27 h
  have hn:fuel=n:=aa
  subst hn
  have hx:xs.length=13:=hx
  subst YM
  have hwt:∀(i:Nat) (t:TypeId) y,([3,3,22,9,23,2,2,4,2,3,24,4,25]:List TypeId)[i]?=some t→xs[i]?=some y→Wt t y:=fun i t y h1 h2 q hq=>by
   refine hw q ?_
   show q∈(DataW.agg (xs.map (·.1))).weights Tryz.prog 27
   rw [S6 Tryz.underlying27]
   exact S5 (i:=i) (t:=t) (d:=y.1) h1 (by rw [List.getElem?_map,h2];rfl) q hq
  rw [c27] at hl
  have f0:=(show y9 enc w fuel 3 ((c.drop 0).take (Tryz.prog.cellsOf 3))=xs[0]? from hf 0 _ rfl).trans (bZ (show 0<xs.length by omega))
  have f1:=(show y9 enc w fuel 3 ((c.drop 1).take (Tryz.prog.cellsOf 3))=xs[1]? from hf 1 _ rfl).trans (bZ (show 1<xs.length by omega))
  have f2:=(show y9 enc w fuel 22 ((c.drop 2).take (Tryz.prog.cellsOf 22))=xs[2]? from hf 2 _ rfl).trans (bZ (show 2<xs.length by omega))
  have f3:=(show y9 enc w fuel 9 ((c.drop 3).take (Tryz.prog.cellsOf 9))=xs[3]? from hf 3 _ rfl).trans (bZ (show 3<xs.length by omega))
  have f4:=(show y9 enc w fuel 23 ((c.drop 4).take (Tryz.prog.cellsOf 23))=xs[4]? from hf 4 _ rfl).trans (bZ (show 4<xs.length by omega))
  have f5:=(show y9 enc w fuel 2 ((c.drop 5).take (Tryz.prog.cellsOf 2))=xs[5]? from hf 5 _ rfl).trans (bZ (show 5<xs.length by omega))
  have f6:=(show y9 enc w fuel 2 ((c.drop 6).take (Tryz.prog.cellsOf 2))=xs[6]? from hf 6 _ rfl).trans (bZ (show 6<xs.length by omega))
  have f7:=(show y9 enc w fuel 4 ((c.drop 7).take (Tryz.prog.cellsOf 4))=xs[7]? from hf 7 _ rfl).trans (bZ (show 7<xs.length by omega))
  have f8:=(show y9 enc w fuel 2 ((c.drop 8).take (Tryz.prog.cellsOf 2))=xs[8]? from hf 8 _ rfl).trans (bZ (show 8<xs.length by omega))
  have f9:=(show y9 enc w fuel 3 ((c.drop 9).take (Tryz.prog.cellsOf 3))=xs[9]? from hf 9 _ rfl).trans (bZ (show 9<xs.length by omega))
  have f10:=(show y9 enc w fuel 24 ((c.drop 10).take (Tryz.prog.cellsOf 24))=xs[10]? from hf 10 _ rfl).trans (bZ (show 10<xs.length by omega))
  have f11:=(show y9 enc w fuel 4 ((c.drop 11).take (Tryz.prog.cellsOf 4))=xs[11]? from hf 11 _ rfl).trans (bZ (show 11<xs.length by omega))
  have f12:=(show y9 enc w fuel 25 ((c.drop 12).take (Tryz.prog.cellsOf 25))=xs[12]? from hf 12 _ rfl).trans (bZ (show 12<xs.length by omega))
  have c1:∀ t,t∈[2,3,4,9,22,23,24,25]→Tryz.prog.cellsOf t=1:=by
   intro t ht
   simp only [List.mem_cons,aH,or_false] at ht
   rcases ht with rfl |rfl |rfl |rfl |rfl |rfl |rfl |rfl <;> kernel_rfl
  rw [c1 2 aj] at f5 f6 f8
  rw [c1 3 aj] at f0 f1 f9
  rw [c1 4 aj] at f7 f11
  rw [c1 9 aj] at f3
  rw [c1 22 aj] at f2
  rw [c1 23 aj] at f4
  rw [c1 24 aj] at f10
  rw [c1 25 aj] at f12
  match c,hl with
  |[v0,v1,v2,v3,v4,v5,v6,v7,v8,v9,v10,v11,v12],_=>
   simp only [List.drop_zero,List.drop_succ_cons,List.take_succ_cons,List.take_zero] at f0 f1 f2 f3 f4 f5 f6 f7 f8 f9 f10 f11 f12
   obtain ⟨k,e⟩:=pZ Tryz.underlying3 f0;injection e with e;subst e
   obtain ⟨op,e⟩:=pZ Tryz.underlying3 f1;injection e with e;subst e
   obtain ⟨vv,e⟩:=pZ Tryz.underlying22 f2;injection e with e;subst e
   obtain ⟨s,e⟩:=Bk Tryz.underlying9 f3;injection e with e;subst e
   obtain ⟨wide,e⟩:=pZ Tryz.underlying2 f5;injection e with e;subst e
   obtain ⟨off,e⟩:=pZ Tryz.underlying2 f6;injection e with e;subst e
   obtain ⟨ha,e⟩:=Jx Tryz.underlying4 f7;injection e with e;subst e
   obtain ⟨at_,e⟩:=pZ Tryz.underlying2 f8;injection e with e;subst e
   obtain ⟨how,e⟩:=pZ Tryz.underlying3 f9;injection e with e;subst e
   obtain ⟨bl,e⟩:=Jx Tryz.underlying4 f11;injection e with e;subst e
   obtain ⟨H1,φ1,pm,nm,cm,ms,r1,u1,m1,m2,m3,m4⟩:=Lf f4 (hwt 4 23 _ rfl (bZ _)) r
   obtain ⟨H2,φ2,pn,nn,cn,ns,r2,u2,n1,n2,n3,n4⟩:=Ju f10 (hwt 10 24 _ rfl (bZ _)) r1
   have kids:∃ H3 φ3 pk nk ck,∃ ts:List Xp,RO w H3 φ3∧Up H2 φ2 H3 φ3∧nk=ts.length∧nk<281474976710656∧gU H3 pk nk (kC ts)∧VR φ3 (.slice pk nk ck) v12∧∀ t∈ts,jG H3 t:=by
    have YG:=hwt 12 25 _ rfl (bZ (show 12<xs.length by omega))
    rcases DataW.trod_slice Tryz.underlying25 f12 with ⟨h1,_⟩ |⟨a,len,cap,elems,rest,n,hfu,h1,Z6,_,hle,hcap,hlen,hel,_⟩
    ·injection h1 with h1
     subst h1
     exact ⟨H2,φ2,none,0,0,[],r2,Up.refl ..,rfl,by omega,.inl rfl,.EN,fun t ht=>by cases ht⟩
    ·injection h1 with h1
     subst h1
     rw [c27] at hel
     have el:∀ i,i<len→∃ c:List Value,(∃ y,y9 enc w n 27 c=some y∧Wt 27 y)∧c.length=13∧(∀ r v,c[r]?=some v→w.cell? ⟨a.block,a.off+(i*13+r),none⟩=some v)∧(i=0→a.spot=none):=fun i hi=>by
      obtain ⟨c,y,h1,h2,h3,h4⟩:=zl (by rw [bZ aa];rfl) (hel i hi)
      have hey:elems[i]?=some y:=by rw [← hel i hi,h1];exact h2
      refine ⟨c,⟨y,h2,fun q hq=>YG q ?_⟩,h3,h4,fun h0=>?_⟩
      ·rw [Z6]
       show q∈(DataW.slice _ _).weights Tryz.prog 25
       rw [NI Tryz.underlying25]
       exact List.mem_cons_of_mem _ (List.mem_append_left _ (Xk (List.mem_map_of_mem (List.mem_of_getElem? hey)) q hq))
      subst h0
      exact Bp h1 aa
     obtain ⟨css,l1,l2⟩:=Cj el
     obtain ⟨H3,φ3,ts,r3,u3,t1,t2,t3⟩:=B9 (n:=n) (fun c y hy hyw=>Ef n c y hy hyw) css (fun c hc=>by
      obtain ⟨i,hi⟩:=List.getElem?_of_mem hc
      exact (l2 i c hi).1) H2 φ2 r2
     obtain ⟨H4,φ4,p,k4,r4,u4,hr,hv⟩:=r3.slice (a:=a) hle (c:=kC ts) 27 (fun _ j x hx=>by
      have hjl:(kC ts).length=ts.length*13:=by
       rw [kC,List.length_flatMap]
       simp only [List.length_cons,List.length_nil,List.map_const',List.sum_replicate_nat]
      have hj:=(List.getElem?_eq_some_iff.1 hx).1
      have hi:j / 13<ts.length:=aa
      obtain ⟨g1,g2⟩:=Y4 (bZ hi)
      have g3:=yp (j:=j%13) g1 aa
      rw [show j / 13*13+j%13=j by omega,hx] at g3
      have hic:j / 13<css.length:=aa
      have lr:=t3 (j / 13) _ _ (bZ hi) (bZ hic)
      obtain ⟨y,hy,hxy⟩:=lr.get g3.symm
      have g4:=(l2 (j / 13) _ (bZ hic)).2.2.1 (j%13) y hy
      rw [show j / 13*13+j%13=j by omega] at g4
      exact ⟨y,g4,hxy⟩) (fun h0=>(el 0 aa).elim fun c hc=>hc.2.2.2 rfl)
     rw [Z6] at YG
     exact ⟨H4,φ4,p,len,k4,ts,r4,u3.trans u4,by omega,YG.len (b:=0) Tryz.underlying25 b27 (by simpa using hlen),hr,hv,fun t ht=>u4.RV r3 r4 (t2 t ht)⟩
   obtain ⟨H3,φ3,pk,nk,ck,ts,r3,u3,k1,k2,k3,k4,k5⟩:=kids
   have up:∀{p:Option Addr} {n:Nat} {cs:List Value},gU H2 p n cs→gU H3 p n cs:=fun h=>h.up (E:=E) ⟨r3.wf,u3.n,r2.ng,u3.get⟩ r2.wf
   have up1:∀{p:Option Addr} {n:Nat} {cs:List Value},gU H1 p n cs→gU H2 p n cs:=fun h=>h.up (E:=E) ⟨r2.wf,u2.n,r1.ng,u2.get⟩ r1.wf
   refine ⟨H3,φ3,.mk ⟨k,op,vv,s,pm,nm,cm,wide,off,ha,at_,how,pn,nn,cn,bl,pk,nk,ck⟩ ms ns ts,r3,(u1.trans u2).trans u3,.mk ⟨m1,n1,k1,up (up1 m3),up n3,k3,m2,n2,k2⟩ k5,?_⟩
   exact .cons (.int _ _) (.cons (.int _ _) (.cons (.int _ _) (.cons (.string _) (.cons ((m4.mono (u2.sub r1)).mono (u3.sub r2)) (.cons (.int _ _) (.cons (.int _ _) (.cons (.bool _) (.cons (.int _ _) (.cons (.int _ _) (.cons (n4.mono (u3.sub r2)) (.cons (.bool _) (.cons k4 (.nil _)))))))))))))
termination_by fuel=>fuel
decreasing_by omega
end
end Go.Proofs.YtglmagcldkngbaaGreatDoor
set_option maxRecDepth 1000000
namespace Go.Proofs.YtglmagcldkngbaaGreatDoor
open Go Go.Am
mutual
def jC:DataW Unit→Option (List Value)
 |.lit l=>some [l.value]
 |.agg ds=>vF ds
 |_=>none
def vF:List (DataW Unit)→Option (List Value)
 |[]=>some []
 |d::ds=>match jC d,vF ds with
  |some a,some b=>some (a++b)
  |_,_=>none
end
def rB:List (Nat×Nat)→Nat→Option Nat
 |[],o=>some o
 |(off,sz)::l,o=>bif Nat.beq off o then rB l (o+sz) else none
def VJ (P:Program) (t:TypeId):Bool:=match P.underlying t with
 |some (.struct fs)=>(match rB (fs.toList.map fun f=>(f.offset,P.cellsOf f.type)) 0 with |some n=>Nat.beq n (P.cellsOf t) |none=>false)
 |some (.array n e)=>Nat.beq (P.cellsOf t) (n*P.cellsOf e)
 |_=>true
theorem zT:∀(OW:List (Nat×Nat)) (o n:Nat) (xs:List (DataW Unit×List MemPlace)) (cs vs:List Value),rB OW o=some n→cs.length=n→OW.length=xs.length→
  (∀(i:Nat) s x,OW[i]?=some s→xs[i]?=some x→∀ v,jC x.1=some v→(cs.drop s.1).take s.2=v)→vF (xs.map (·.1))=some vs→cs.drop o=vs
 |[],o,n,xs,cs,vs,h,hl,hx,_,hf=>by
  have:xs=[]:=List.eq_nil_of_length_eq_zero hx.symm
  subst this
  simp only [rB,Option.some.injEq] at h
  simp only [List.map_nil,vF,Option.some.injEq] at hf
  subst hf
  exact List.drop_of_length_le aa
 |(off,sz)::OW,o,n,[],cs,vs,h,hl,hx,_,hf=>by simp at hx
 |(off,sz)::OW,o,n,x::xs,cs,vs,h,hl,hx,hk,hf=>by
  simp only [rB] at h
  cases hb:Nat.beq off o with
  |false=>rw [hb] at h;cases h
  |true=>
   rw [hb] at h
   have:=Nat.eq_of_beq_eq_true hb
   subst this
   simp only [List.map_cons,vF] at hf
   split at hf
   ·rename_i a b ha hb
    injection hf with hf
    subst hf
    have h1:=hk 0 (off,sz) x rfl rfl a ha
    have h2:=zT OW (off+sz) n xs cs b h hl (by simpa using hx) (fun i s y hs hy=>hk (i+1) s y (by simpa using hs) (by simpa using hy)) hb
    rw [← h1,← h2,← List.drop_drop,List.take_append_drop]
   ·cases hf
theorem BI (sz:Nat):∀(n k:Nat),rB ((List.range' k n).map fun i=>(i*sz,sz)) (k*sz)=some ((k+n)*sz)
 |0,k=>rfl
 |n+1,k=>by
  rw [List.range'_succ,List.map_cons]
  have e:k*sz+sz=(k+1)*sz:=by rw [Nat.succ_mul]
  simp only [rB,Nat.beq_refl,cond_true,e]
  rw [BI sz n (k+1)]
  congr 2;omega
def sF (P:Program):Nat→TypeId→Bool
 |0,_=>false
 |k+1,t=>match P.underlying t with
  |some .bool |some (.int _) |some (.float _) |some .string=>true
  |some (.struct fs)=>VJ P t&&fs.toList.all fun f=>sF P k f.type
  |some (.array _ e)=>VJ P t&&sF P k e
  |_=>false
theorem qZ {w:World} {base:Nat} {sp:Nat→Bool} {held:Bool}:∀(k fuel:Nat) (t:TypeId) (cs:List Value) (x:DataW Unit×List MemPlace) (vs:List Value),sF Tryz.prog k t=true→
  DataW.trod (fun _=>()) Tryz.prog w base sp held fuel t cs=some x→jC x.1=some vs→cs=vs
 |0,_,t,cs,x,vs,hp,h,_=>by cases hp
 |k+1,fuel,t,cs,x,vs,hp,h,hf=>by
  cases hu:Tryz.prog.underlying t with
  |none=>rw [sF,hu] at hp;cases hp
  |some d=>
   cases d with
   |struct fs=>
    obtain ⟨xs,n,hn,rfl,hl,hx,hk⟩:=DataW.trod_struct hu h
    rw [sF,hu] at hp
    obtain ⟨B2,hp⟩:=Bool.and_eq_true_iff.1 hp
    have hp:=List.all_eq_true.1 hp
    unfold VJ at B2
    rw [hu] at B2
    simp only at B2
    split at B2
    ·rename_i n' hc
     have hn':=Nat.eq_of_beq_eq_true B2
     subst hn'
     exact zT _ 0 _ xs cs vs hc hl (by simpa using hx.symm) (fun i s y hs hy v hv=>by
      rw [List.getElem?_map] at hs
      cases hfi:fs.toList[i]? with
      |none=>rw [hfi] at hs;cases hs
      |some f=>
       rw [hfi] at hs
       simp only [Option.map_some,Option.some.injEq] at hs
       subst hs
       exact qZ k n f.type _ y v (hp f (List.mem_of_getElem? hfi)) ((hk i f (by simpa using hfi)).trans hy) hv) hf
    ·cases B2
   |array n e=>
    obtain ⟨xs,m,hm,rfl,hl,hx,hk⟩:=DataW.trod_array hu h
    rw [sF,hu] at hp
    obtain ⟨B2,hp⟩:=Bool.and_eq_true_iff.1 hp
    unfold VJ at B2
    rw [hu] at B2
    have B2:=Nat.eq_of_beq_eq_true B2
    have hc:=BI (Tryz.prog.cellsOf e) n 0
    rw [Nat.zero_mul,Nat.zero_add] at hc
    exact zT _ 0 _ xs cs vs hc aa (by simp [hx]) (fun i s y hs hy v hv=>by
     rw [List.getElem?_map] at hs
     have hi:i<n:=by have:=(List.getElem?_eq_some_iff.1 hy).1;omega
     rw [List.getElem?_range' hi] at hs
     simp only [Option.map_some,Option.some.injEq,Nat.zero_add,Nat.one_mul] at hs
     subst hs
     exact qZ k m e _ y v hp ((hk i hi).trans hy) hv) hf
   |bool=>
    obtain ⟨b,rfl,rfl⟩:=DataW.trod_bool hu h
    simp only [jC,Lit.value,Option.some.injEq] at hf;exact hf
   |int k=>
    obtain ⟨b,rfl,rfl,_⟩:=DataW.trod_int hu h
    simp only [jC,Lit.value,Option.some.injEq] at hf;exact hf
   |string=>
    obtain ⟨b,rfl,rfl,_⟩:=DataW.trod_string hu h
    simp only [jC,Lit.value,Option.some.injEq] at hf
    rw [← hf]
   |float kk=>
    cases fuel with
    |zero=>simp [DataW.trod] at h
    |succ fuel=>
    unfold DataW.trod at h
    rw [hu] at h
    split at h <;> simp_all
    obtain ⟨⟨rfl,_⟩,rfl⟩:=h
    simp only [jC,Lit.value,Option.some.injEq] at hf
    exact hf
   |_=>rw [sF,hu] at hp;cases hp
end Go.Proofs.YtglmagcldkngbaaGreatDoor
set_option maxRecDepth 1000000
namespace Go.Proofs.YtglmagcldkngbaaGreatDoor
open Go Go.Am
def xB:List (String×DataW Unit):=[("math/bits.deBruijn32tab",Rows.laid_math_bits_deBruijn32tab),("math/bits.deBruijn64tab",Rows.laid_math_bits_deBruijn64tab),("internal/strconv.float32info",Rows.laid_internal_strconv_float32info),("internal/strconv.float64info",Rows.laid_internal_strconv_float64info),("internal/strconv.optimize",Rows.laid_internal_strconv_optimize),("internal/strconv.powtab",Rows.laid_internal_strconv_powtab),("internal/strconv.float64pow10",Rows.laid_internal_strconv_float64pow10),("internal/strconv.float32pow10",Rows.laid_internal_strconv_float32pow10),("internal/strconv.uint64pow10",Rows.laid_internal_strconv_uint64pow10),("unicode/utf8.acceptRanges",Rows.laid_unicode_utf8_acceptRanges),("strconv.ErrRange",Rows.laid_strconv_ErrRange),("strconv.ErrSyntax",Rows.laid_strconv_ErrSyntax),("unicode.White_Space",Rows.laid_unicode_White_Space),("strings.asciiSpace",Rows.laid_strings_asciiSpace),("soundings/span.units",Rows.laid_soundings_span_units),("internal/strconv.leftcheats",Rows.laid_internal_strconv_leftcheats),("internal/strconv.pow10Tab",Rows.laid_internal_strconv_pow10Tab),("unicode/utf8.first",Rows.laid_unicode_utf8_first)]
theorem rO {w:World} (h:laidMetH Tryz.prog Rows.checkKidsRow.laid w):laidMet Tryz.prog xB w∧handlesMet Tryz.prog [("errors.errorType",Rows.laid_errors_errorType)] w:=h
theorem Jj {w:World}:∀{l:List (String×DataW Unit)} {ps:List MemPlace},DataW.LaidVars Tryz.prog w l ps→∀(k:Nat) n d,l[k]?=some (n,d)→
  ∃ g t cs fuel p,Tryz.prog.globalNamed n=some g∧(Tryz.prog.globals[g]?).map (·.type)=some t∧w.var? Tryz.prog n=some cs∧DataW.trod (fun _=>()) Tryz.prog w 0 (fun _=>true) false fuel t cs.toList=some (d,p)
 |[],ps,h,k,n,d,hk=>by simp at hk
 |(n0,d0)::l,ps,h,k,n,d,hk=>by
  obtain ⟨g,t,cs,fuel,p,q,h1,h2,h3,h4,h5,_⟩:=h
  cases k with
  |zero=>
   simp only [List.getElem?_cons_zero,Option.some.injEq,Prod.mk.injEq] at hk
   obtain ⟨rfl,rfl⟩:=hk
   exact ⟨g,t,cs,fuel,p,h1,h2,h3,h4⟩
  |succ k=>exact Jj h5 k n d (by simpa using hk)
theorem zX {w:World} (h:laidMetH Tryz.prog Rows.checkKidsRow.laid w) (k:Nat) {n:String} {d:DataW Unit} {g t:Nat} (hk:xB[k]?=some (n,d)) (hg:Tryz.prog.globalNamed n=some g) (ht:(Tryz.prog.globals[g]?).map (·.type)=some t) :
  ∃ cs:List Value,∃ fuel p,DataW.trod (fun _=>()) Tryz.prog w 0 (fun _=>true) false fuel t cs=some (d,p)∧∀(j:Nat) x,cs[j]?=some x→w.cell? ⟨g,j,none⟩=some x:=by
 obtain ⟨⟨ps,h1,_⟩,_⟩:=rO h
 obtain ⟨g',t',cs,fuel,p,h2,h3,h4,h5⟩:=Jj h1 k n d hk
 rw [hg] at h2
 injection h2 with h2
 subst h2
 rw [ht] at h3
 injection h3 with h3
 subst h3
 exact ⟨cs.toList,fuel,p,h5,fun j x hx=>by rw [World.var?_cell hg h4 j];simpa using hx⟩
theorem jw {w:World} (h:laidMetH Tryz.prog Rows.checkKidsRow.laid w) (k:Nat) {n:String} {d:DataW Unit} {g t:Nat} {vs:List Value} (hk:xB[k]?=some (n,d)) (hg:Tryz.prog.globalNamed n=some g) (ht:(Tryz.prog.globals[g]?).map (·.type)=some t)
  (hp:sF Tryz.prog 6 t=true) (hf:jC d=some vs) (j:Nat) (x:Value) (hx:vs[j]?=some x):w.cell? ⟨g,j,none⟩=some x:=by
 obtain ⟨cs,fuel,p,h1,h2⟩:=zX h k hk hg ht
 have:=qZ 6 fuel t cs _ vs hp h1 hf
 subst this
 exact h2 j x hx
theorem BP:∀{ds:List (DataW Unit)} {vs:List Value},vF ds=some vs→∀ d∈ds,∃ v,jC d=some v
 |[],vs,_,d,hd=>by cases hd
 |d0::ds,vs,h,d,hd=>by
  simp only [vF] at h
  split at h
  ·rename_i a b ha hb
   rcases List.mem_cons.1 hd with rfl |hd
   ·exact ⟨a,ha⟩
   ·exact BP hb d hd
  ·cases h
theorem IL {sz:Nat}:∀{ds:List (DataW Unit)} {css:List { c:List Value // c.length=sz }},ds.length=css.length→(∀(i:Nat) d c,ds[i]?=some d→css[i]?=some c→jC d=some c.1)→vF ds=some (css.flatMap Subtype.val)
 |[],[],_,_=>rfl
 |[],_::_,h,_=>by simp at h
 |_::_,[],h,_=>by simp at h
 |d::ds,c::css,h,k=>by
  simp only [vF,k 0 d c rfl rfl,IL (by simpa using h) (fun i d' c' hd hc=>k (i+1) d' c' (by simpa using hd) (by simpa using hc)),List.flatMap_cons]
theorem oW {w:World} {fuel t e sz:Nat} {cs:List Value} {ds:List (DataW Unit)} {vs:List Value} {p:List MemPlace} (h:DataW.trod (fun _=>()) Tryz.prog w 0 (fun _=>true) false fuel t cs=some (.slice ds [],p))
  (hu:Tryz.prog.underlying t=some (.slice e)) (hs:Tryz.prog.cellsOf e=sz) (hz:0<sz) (hp:sF Tryz.prog 6 e=true) (hn:0<ds.length) (hf:vF ds=some vs) :
  ∃ a:Addr,cs=[.slice (some a) ds.length ds.length]∧a.spot=none∧∀(j:Nat) x,vs[j]?=some x→w.cell? ⟨a.block,a.off+j,none⟩=some x:=by
 rcases DataW.trod_slice hu h with ⟨_,h1⟩ |⟨a,len,cap,elems,rest,n,_,h1,h2,_,hle,hcap,hlen,hel,lA,_⟩
 ·cases h1
 ·simp only [Prod.mk.injEq,DataW.slice.injEq] at h2
  obtain ⟨⟨h3,h4⟩,_⟩:=h2
  have hr:rest=[]:=by
   cases rest with
   |nil=>rfl
   |cons _ _=>simp at h4
  have ZZ:ds.length=len:=by rw [h3,List.length_map,hlen]
  have hc:cap=len:=by
   have:=(lA rfl).1
   rw [hr] at this
   simp at this
   omega
  rw [hs] at hel
  have el:∀ i,i<len→∃ c:{ c:List Value // c.length=sz },(∀ d,ds[i]?=some d→jC d=some c.1)∧(∀ r v,c.1[r]?=some v→w.cell? ⟨a.block,a.off+(i*sz+r),none⟩=some v)∧(i=0→a.spot=none):=fun i hi=>by
   have hx:=hel i hi
   obtain ⟨y,hy⟩:∃ y,elems[i]?=some y:=⟨_,bZ aa⟩
   rw [hy,Option.bind_eq_some_iff] at hx
   obtain ⟨c,k1,k2⟩:=hx
   obtain ⟨k3,k4⟩:=uK k1
   have hd:ds[i]?=some y.1:=by rw [h3,List.getElem?_map,hy];rfl
   obtain ⟨v,hv⟩:=BP hf y.1 (List.mem_of_getElem? hd)
   have:=qZ 6 n e c y v hp k2 hv
   subst this
   refine ⟨⟨c,k3⟩,fun d h=>?_,fun r v hv=>add_add ((k4 r (by have h9:r<c.length:=(List.getElem?_eq_some_iff.1 hv).1;omega)).trans hv),fun h0=>?_⟩
   ·rw [hd] at h;injection h with h;subst h;exact hv
   ·subst h0;exact Bp k1 hz
  obtain ⟨css,l1,l2⟩:=Cj el
  have hvs:vs=css.flatMap Subtype.val:=by
   have:=IL (ds:=ds) (css:=css) aa (fun i d c hd hc=>(l2 i c hc).1 d hd)
   rw [hf] at this
   exact Option.some.inj this
  refine ⟨a,by rw [h1,hc,ZZ],(el 0 aa).elim fun c h=>h.2.2 rfl,fun j x hx=>?_⟩
  rw [hvs] at hx
  have hjl:(css.flatMap Subtype.val).length=css.length*sz:=by
   rw [List.length_flatMap]
   have:css.map (fun c=>c.1.length)=css.map fun _=>sz:=List.map_congr_left fun c _=>c.2
   rw [show (fun c:{ c:List Value // c.length=sz }=>(c.1).length)=fun c=>List.length c.1 from rfl] at this
   rw [this,List.map_const',List.sum_replicate_nat]
  have hj:=(List.getElem?_eq_some_iff.1 hx).1
  have hi:j / sz<css.length:=Nat.div_lt_of_lt_mul (by rw [Nat.mul_comm];omega)
  obtain ⟨g1,g2⟩:=yu (g:=Subtype.val) (n:=sz) (fun c:{ c:List Value // c.length=sz }=>c.2) (bZ hi)
  have g3:=yp (j:=j%sz) g1 (Nat.mod_lt _ hz)
  rw [Nat.div_add_mod' j sz,hx] at g3
  have g4:=(l2 (j / sz) _ (bZ hi)).2.1 (j%sz) x g3.symm
  rw [Nat.div_add_mod' j sz] at g4
  exact g4
def ov (k:Nat):List Value:=match Gl[k]? with
 |some (Ob.cells c _ _)=>c
 |_=>[]
def tF:DataW Unit→List (DataW Unit)
 |.slice ds _=>ds
 |_=>[]
theorem v2 {w:World} (h:laidMetH Tryz.prog Rows.checkKidsRow.laid w) (j:Nat) (x:Value) (hx:(ov 2)[j]?=some x):w.cell? ⟨2,j,none⟩=some x:=
 jw h 13 (n:= "strings.asciiSpace") rfl ah (t:=131) ah ah (show jC Rows.laid_strings_asciiSpace=some (ov 2) by kernel_rfl) j x hx
theorem v4 {w:World} (h:laidMetH Tryz.prog Rows.checkKidsRow.laid w) (j:Nat) (x:Value) (hx:(ov 4)[j]?=some x):w.cell? ⟨4,j,none⟩=some x:=
 jw h 14 (n:= "soundings/span.units") rfl ah (t:=221) ah ah (show jC Rows.laid_soundings_span_units=some (ov 4) by kernel_rfl) j x hx
theorem v5 {w:World} (h:laidMetH Tryz.prog Rows.checkKidsRow.laid w) (j:Nat) (x:Value) (hx:(ov 5)[j]?=some x):w.cell? ⟨5,j,none⟩=some x:=
 jw h 17 (n:= "unicode/utf8.first") rfl ah (t:=131) ah ah (show jC Rows.laid_unicode_utf8_first=some (ov 5) by kernel_rfl) j x hx
theorem v6 {w:World} (h:laidMetH Tryz.prog Rows.checkKidsRow.laid w) (j:Nat) (x:Value) (hx:(ov 6)[j]?=some x):w.cell? ⟨6,j,none⟩=some x:=
 jw h 9 (n:= "unicode/utf8.acceptRanges") rfl ah (t:=225) ah ah (show jC Rows.laid_unicode_utf8_acceptRanges=some (ov 6) by kernel_rfl) j x hx
theorem v10 {w:World} (h:laidMetH Tryz.prog Rows.checkKidsRow.laid w) (j:Nat) (x:Value) (hx:(ov 10)[j]?=some x):w.cell? ⟨10,j,none⟩=some x:=
 jw h 2 (n:= "internal/strconv.float32info") rfl ah (t:=272) ah ah (show jC Rows.laid_internal_strconv_float32info=some (ov 10) by kernel_rfl) j x hx
theorem v11 {w:World} (h:laidMetH Tryz.prog Rows.checkKidsRow.laid w) (j:Nat) (x:Value) (hx:(ov 11)[j]?=some x):w.cell? ⟨11,j,none⟩=some x:=
 jw h 4 (n:= "internal/strconv.optimize") rfl ah (t:=4) ah ah (show jC Rows.laid_internal_strconv_optimize=some (ov 11) by kernel_rfl) j x hx
theorem v12 {w:World} (h:laidMetH Tryz.prog Rows.checkKidsRow.laid w) (j:Nat) (x:Value) (hx:(ov 12)[j]?=some x):w.cell? ⟨12,j,none⟩=some x:=
 jw h 3 (n:= "internal/strconv.float64info") rfl ah (t:=272) ah ah (show jC Rows.laid_internal_strconv_float64info=some (ov 12) by kernel_rfl) j x hx
theorem v16 {w:World} (h:laidMetH Tryz.prog Rows.checkKidsRow.laid w) (j:Nat) (x:Value) (hx:(ov 16)[j]?=some x):w.cell? ⟨16,j,none⟩=some x:=
 jw h 16 (n:= "internal/strconv.pow10Tab") rfl ah (t:=311) ah ah (show jC Rows.laid_internal_strconv_pow10Tab=some (ov 16) by kernel_rfl) j x hx
theorem v18 {w:World} (h:laidMetH Tryz.prog Rows.checkKidsRow.laid w) (j:Nat) (x:Value) (hx:(ov 18)[j]?=some x):w.cell? ⟨18,j,none⟩=some x:=
 jw h 8 (n:= "internal/strconv.uint64pow10") rfl ah (t:=325) ah ah (show jC Rows.laid_internal_strconv_uint64pow10=some (ov 18) by kernel_rfl) j x hx
theorem v19 {w:World} (h:laidMetH Tryz.prog Rows.checkKidsRow.laid w) (j:Nat) (x:Value) (hx:(ov 19)[j]?=some x):w.cell? ⟨19,j,none⟩=some x:=
 jw h 0 (n:= "math/bits.deBruijn32tab") rfl ah (t:=328) ah ah (show jC Rows.laid_math_bits_deBruijn32tab=some (ov 19) by kernel_rfl) j x hx
theorem v20 {w:World} (h:laidMetH Tryz.prog Rows.checkKidsRow.laid w) (j:Nat) (x:Value) (hx:(ov 20)[j]?=some x):w.cell? ⟨20,j,none⟩=some x:=
 jw h 1 (n:= "math/bits.deBruijn64tab") rfl ah (t:=329) ah ah (show jC Rows.laid_math_bits_deBruijn64tab=some (ov 20) by kernel_rfl) j x hx
theorem v14 {w:World} (h:laidMetH Tryz.prog Rows.checkKidsRow.laid w):∃ a:Addr,w.cell? ⟨14,0,none⟩=some (.slice (some a) 9 9)∧a.spot=none∧∀(j:Nat) x,(ov 26)[j]?=some x→w.cell? ⟨a.block,a.off+j,none⟩=some x:=by
 obtain ⟨cs,fuel,p,h1,h2⟩:=zX h 5 (n:= "internal/strconv.powtab") (d:=.slice (tF Rows.laid_internal_strconv_powtab) []) (g:=14) (t:=44) ah ah ah
 have hn:(tF Rows.laid_internal_strconv_powtab).length=9:=by kernel_rfl
 obtain ⟨a,k1,k2,k3⟩:=oW (e:=3) (sz:=1) (vs:=ov 26) h1 ah ah (by decide) ah aa ah
 rw [hn] at k1
 exact ⟨a,h2 0 _ (by rw [k1];rfl),k2,k3⟩
theorem v15 {w:World} (h:laidMetH Tryz.prog Rows.checkKidsRow.laid w):∃ a:Addr,w.cell? ⟨15,0,none⟩=some (.slice (some a) 23 23)∧a.spot=none∧∀(j:Nat) x,(ov 27)[j]?=some x→w.cell? ⟨a.block,a.off+j,none⟩=some x:=by
 obtain ⟨cs,fuel,p,h1,h2⟩:=zX h 6 (n:= "internal/strconv.float64pow10") (d:=.slice (tF Rows.laid_internal_strconv_float64pow10) []) (g:=15) (t:=306) ah ah ah
 have hn:(tF Rows.laid_internal_strconv_float64pow10).length=23:=by kernel_rfl
 obtain ⟨a,k1,k2,k3⟩:=oW (e:=104) (sz:=1) (vs:=ov 27) h1 ah ah (by decide) ah aa ah
 rw [hn] at k1
 exact ⟨a,h2 0 _ (by rw [k1];rfl),k2,k3⟩
theorem v13 {w:World} (h:laidMetH Tryz.prog Rows.checkKidsRow.laid w):∃ a:Addr,w.cell? ⟨13,0,none⟩=some (.slice (some a) 11 11)∧a.spot=none∧∀(j:Nat) x,(ov 28)[j]?=some x→w.cell? ⟨a.block,a.off+j,none⟩=some x:=by
 obtain ⟨cs,fuel,p,h1,h2⟩:=zX h 7 (n:= "internal/strconv.float32pow10") (d:=.slice (tF Rows.laid_internal_strconv_float32pow10) []) (g:=13) (t:=294) ah ah ah
 have hn:(tF Rows.laid_internal_strconv_float32pow10).length=11:=by kernel_rfl
 obtain ⟨a,k1,k2,k3⟩:=oW (e:=255) (sz:=1) (vs:=ov 28) h1 ah ah (by decide) ah aa ah
 rw [hn] at k1
 exact ⟨a,h2 0 _ (by rw [k1];rfl),k2,k3⟩
theorem v17 {w:World} (h:laidMetH Tryz.prog Rows.checkKidsRow.laid w):∃ a:Addr,w.cell? ⟨17,0,none⟩=some (.slice (some a) 61 61)∧a.spot=none∧∀(j:Nat) x,(ov 29)[j]?=some x→w.cell? ⟨a.block,a.off+j,none⟩=some x:=by
 obtain ⟨cs,fuel,p,h1,h2⟩:=zX h 15 (n:= "internal/strconv.leftcheats") (d:=.slice (tF Rows.laid_internal_strconv_leftcheats) []) (g:=17) (t:=322) ah ah ah
 have hn:(tF Rows.laid_internal_strconv_leftcheats).length=61:=by kernel_rfl
 obtain ⟨a,k1,k2,k3⟩:=oW (e:=321) (sz:=2) (vs:=ov 29) h1 ah ah (by decide) ah aa ah
 rw [hn] at k1
 exact ⟨a,h2 0 _ (by rw [k1];rfl),k2,k3⟩
theorem star: "*"++ "errors.errorString"= "*errors.errorString":=by decide
theorem SD (u:TypeId) (h:Tryz.prog.typeName? 3 u=some "*errors.errorString"):u=289:=
 typeName_ptr_named (nm:= "errors.errorString") (by rw [star];kernel_rfl) ah (by decide) u (by rw [star];exact h)
theorem v8 {w:World} (h:laidMetH Tryz.prog Rows.checkKidsRow.laid w):∃ a:Addr,w.cell? ⟨8,0,none⟩=some (.iface 289 (.pointer (some a)))∧a.spot=none∧∀(j:Nat) x,(ov 24)[j]?=some x→w.cell? ⟨a.block,a.off+j,none⟩=some x:=by
 have h0:=(rO h).1
 have hd:=(laidMet.tail (laidMet.tail (laidMet.tail (laidMet.tail (laidMet.tail (laidMet.tail (laidMet.tail (laidMet.tail (laidMet.tail (laidMet.tail (laidMet.tail h0)))))))))):laidMet Tryz.prog (xB.drop 11) w)
 obtain ⟨a,s,h1,h2,h3,_⟩:=laid_sentinel (r:=xB.drop 12) (n:= "strconv.ErrSyntax") (nm:= "*errors.errorString") (text:=(match ov 24 with |[.string s]=>s.data.toList |_=>[])) (ti:=31) (tp:=289) (te:=291) (ts:=9) (g:=8) hd ah ah Tryz.underlying31 SD Tryz.underlying289 Tryz.underlying291 rfl rfl Tryz.underlying9 ah c9
 have hs:=(uJ h2).2
 refine ⟨a,by rw [World.var?_cell (show Tryz.prog.globalNamed "strconv.ErrSyntax"=some 8 by kernel_rfl) h1];rfl,hs,fun j x hx=>?_⟩
 have e:ov 24=[.string s]:=by
  have:s=⟨(match ov 24 with |[.string s]=>s.data |_=>#[])⟩:=by
   cases s with
   |mk d=>rw [ByteArray.mk.injEq];exact Array.ext' h3
  rw [this]
  show ov 24=[.string ⟨(match ov 24 with |[.string s]=>s.data |_=>#[])⟩]
  kernel_rfl
 rw [e] at hx
 cases j with
 |zero=>
  simp at hx
  subst hx
  obtain ⟨b,o,sp⟩:=a
  simp only at hs
  subst hs
  exact h2
 |succ j=>simp at hx
theorem v9 {w:World} (h:laidMetH Tryz.prog Rows.checkKidsRow.laid w):∃ a:Addr,w.cell? ⟨9,0,none⟩=some (.iface 289 (.pointer (some a)))∧a.spot=none∧∀(j:Nat) x,(ov 25)[j]?=some x→w.cell? ⟨a.block,a.off+j,none⟩=some x:=by
 have h0:=(rO h).1
 have hd:=(laidMet.tail (laidMet.tail (laidMet.tail (laidMet.tail (laidMet.tail (laidMet.tail (laidMet.tail (laidMet.tail (laidMet.tail (laidMet.tail h0))))))))):laidMet Tryz.prog (xB.drop 10) w)
 obtain ⟨a,s,h1,h2,h3,_⟩:=laid_sentinel (r:=xB.drop 11) (n:= "strconv.ErrRange") (nm:= "*errors.errorString") (text:=(match ov 25 with |[.string s]=>s.data.toList |_=>[])) (ti:=31) (tp:=289) (te:=291) (ts:=9) (g:=9) hd ah ah Tryz.underlying31 SD Tryz.underlying289 Tryz.underlying291 rfl rfl Tryz.underlying9 ah c9
 have hs:=(uJ h2).2
 refine ⟨a,by rw [World.var?_cell (show Tryz.prog.globalNamed "strconv.ErrRange"=some 9 by kernel_rfl) h1];rfl,hs,fun j x hx=>?_⟩
 have e:ov 25=[.string s]:=by
  have:s=⟨(match ov 25 with |[.string s]=>s.data |_=>#[])⟩:=by
   cases s with
   |mk d=>rw [ByteArray.mk.injEq];exact Array.ext' h3
  rw [this]
  show ov 25=[.string ⟨(match ov 25 with |[.string s]=>s.data |_=>#[])⟩]
  kernel_rfl
 rw [e] at hx
 cases j with
 |zero=>
  simp at hx
  subst hx
  obtain ⟨b,o,sp⟩:=a
  simp only at hs
  subst hs
  exact h2
 |succ j=>simp at hx
theorem v0 {w:World} (h:laidMetH Tryz.prog Rows.checkKidsRow.laid w):w.cell? ⟨0,0,none⟩=some (.iface 78 (.agg #[.pointer (some ⟨22,31,none⟩)])):=by
 obtain ⟨name,u,ty,e1,e2,e3,e4,e5⟩:=(rO h).2 _ (List.mem_singleton.2 rfl)
 have en:name=[101,114,114,111,114]:=(Option.some.inj e1).symm
 subst en
 obtain rfl:=Option.some.inj ((show (Tryz.prog.cutTypes.find? (·.1== "internal/reflectlite.rtype")).map (·.2)=some 78 by kernel_rfl).symm.trans e2)
 have hm:ty∈(List.range Tryz.prog.types.size).filter fun t=>Tryz.prog.rowNamed t [101,114,114,111,114]:=List.mem_filter.2 ⟨List.mem_range.2 e3,e4⟩
 rw [show ((List.range Tryz.prog.types.size).filter fun t=>Tryz.prog.rowNamed t [101,114,114,111,114])=[31] by kernel_rfl] at hm
 obtain rfl:=List.mem_singleton.1 hm
 rw [show typeHandle Tryz.prog 31=.pointer (some ⟨22,31,none⟩) by kernel_rfl] at e5
 simpa using World.var?_cell (show Tryz.prog.globalNamed "errors.errorType"=some 0 by kernel_rfl) e5 0
theorem v3 {w:World} (h:laidMetH Tryz.prog Rows.checkKidsRow.laid w):∃ a b:Addr,w.cell? ⟨3,0,none⟩=some (.pointer (some a))∧a.spot=none∧b.spot=none∧
  w.cell? ⟨a.block,a.off+0,none⟩=some (.slice (some b) 7 7)∧w.cell? ⟨a.block,a.off+1,none⟩=some (.slice none 0 0)∧w.cell? ⟨a.block,a.off+2,none⟩=some (.int .i64 2)∧∀(j:Nat) x,(ov 23)[j]?=some x→w.cell? ⟨b.block,b.off+j,none⟩=some x:=by
 obtain ⟨cs,fuel,p,h1,h2⟩:=zX h 12 (n:= "unicode.White_Space") (d:=Rows.laid_unicode_White_Space) (g:=3) (t:=159) ah ah ah
 rcases DataW.trod_pointer (e:=180) Tryz.underlying159 h1 with ⟨_,h3⟩ |⟨a,c,z,n,_,h4,h5,h6,h7⟩
 ·cases h3
 ·obtain ⟨xs,m,_,hz,hl,hx,hk⟩:=DataW.trod_struct Tryz.underlying180 h7
  have hx:xs.length=3:=hx
  have hd:z.1=.agg [.slice (tF (match Rows.laid_unicode_White_Space with |.ptr (.agg (d::_))=>d |_=>.nil)) [],.nil,.lit (.int .i64 2)]:=by
   injection h5 with h5 _
   have:DataW.ptr z.1=(Rows.laid_unicode_White_Space:DataW Unit):=h5.symm
   rw [show (Rows.laid_unicode_White_Space:DataW Unit)=.ptr (.agg [.slice (tF (match Rows.laid_unicode_White_Space with |.ptr (.agg (d::_))=>d |_=>.nil)) [],.nil,.lit (.int .i64 2)]) by kernel_rfl] at this
   injection this
  obtain ⟨k1,k2⟩:=uK h6
  have k1:c.length=3:=by rw [k1];kernel_rfl
  obtain ⟨x0,x1,x2,rfl⟩:∃ x0 x1 x2,xs=[x0,x1,x2]:=by
   match xs,hx with
   |[x0,x1,x2],_=>exact ⟨x0,x1,x2,rfl⟩
  obtain ⟨y0,y1,y2,rfl⟩:∃ y0 y1 y2,c=[y0,y1,y2]:=by
   match c,k1 with
   |[x0,x1,x2],_=>exact ⟨x0,x1,x2,rfl⟩
  have Vj:z.1=.agg [x0.1,x1.1,x2.1]:=by rw [hz];rfl
  rw [hd] at Vj
  simp only [DataW.agg.injEq,List.cons.injEq,and_true] at Vj
  obtain ⟨e0,e1,e2⟩:=Vj
  have cc:∀ t,t∈[3,181]→Tryz.prog.cellsOf t=1:=by
   intro t ht
   simp only [List.mem_cons,aH,or_false] at ht
   rcases ht with rfl |rfl <;> kernel_rfl
  have f0:=show DataW.trod (fun _=>()) Tryz.prog w 0 (fun _=>true) false m 177 (([y0,y1,y2].drop 0).take (Tryz.prog.cellsOf 177))=some x0 from hk 0 _ rfl
  have f1:=show DataW.trod (fun _=>()) Tryz.prog w 0 (fun _=>true) false m 178 (([y0,y1,y2].drop 1).take (Tryz.prog.cellsOf 178))=some x1 from hk 1 _ rfl
  have f2:=show DataW.trod (fun _=>()) Tryz.prog w 0 (fun _=>true) false m 3 (([y0,y1,y2].drop 2).take (Tryz.prog.cellsOf 3))=some x2 from hk 2 _ rfl
  rw [show Tryz.prog.cellsOf 177=1 by kernel_rfl] at f0
  rw [show Tryz.prog.cellsOf 178=1 by kernel_rfl] at f1
  rw [c3] at f2
  obtain ⟨x0a,x0b⟩:=x0
  simp only at e0
  subst e0
  obtain ⟨b,g1,g2,g3⟩:=oW (e:=183) (sz:=3) (vs:=ov 23) f0 ah ah (by decide) ah (Nat.lt_of_lt_of_eq (show 0<7 by decide) ah) ah
  rw [show (tF (match Rows.laid_unicode_White_Space with |.ptr (.agg (d::_))=>d |_=>.nil)).length=7 by kernel_rfl] at g1
  simp only [List.drop_zero,List.take_succ_cons,List.take_zero,List.cons.injEq,and_true] at g1
  have g5:y1=.slice none 0 0:=by
   rcases DataW.trod_slice (e:=186) ah f1 with ⟨q1,_⟩ |⟨_,_,_,_,_,_,_,_,q2,_⟩
   ·simpa using q1
   ·rw [q2] at e1;cases e1
  have g6:y2=.int .i64 2:=by
   have:=qZ 6 m 3 _ x2 [.int .i64 2] ah f2 (by rw [← e2];rfl)
   simpa using this
  subst g1
  subst g5
  subst g6
  have q0:=yg (k2 0 aa)
  have q1:=yg (k2 1 aa)
  have q2:=yg (k2 2 aa)
  have hsp:a.spot=none:=(uJ (k2 0 aa)).2
  exact ⟨a,b,h2 0 _ (by rw [h4];rfl),hsp,g2,q0,q1,q2,g3⟩
end Go.Proofs.YtglmagcldkngbaaGreatDoor
set_option maxRecDepth 1000000
namespace Go.Proofs.YtglmagcldkngbaaGreatDoor
open Go Go.Am
theorem eG {w:World} {φ:cS} {c:List Value} {b o:Nat} (hg:c.all fj=true) (h:∀(j:Nat) x,c[j]?=some x→w.cell? ⟨b,o+j,none⟩=some x):∀(j:Nat) x,c[j]?=some x→∃ y,w.cell? ⟨b,o+j,none⟩=some y∧VR φ x y:=fun j x hx=>
 ⟨x,h j x hx,.l8 (List.all_eq_true.1 hg x (List.mem_of_getElem? hx))⟩
theorem p8 {w:World} {φ:cS} {v y:Value} {b:Nat} (h:w.cell? ⟨b,0,none⟩=some y) (hv:VR φ v y):∀(j:Nat) x,[v][j]?=some x→∃ y,w.cell? ⟨b,0+j,none⟩=some y∧VR φ x y:=fun j x hx=>by
 cases j with
 |zero=>simp at hx;subst hx;exact ⟨y,h,hv⟩
 |succ j=>simp at hx
def Sq (VB VC VD VE VF VG VH VI:Addr) (i:Nat):Option Am.Loc:=
 if i<23 then some ⟨i,0,0⟩ else match i with
 |23=>some ⟨VB.block,VB.off,0⟩
 |24=>some ⟨VC.block,VC.off,0⟩
 |25=>some ⟨VD.block,VD.off,0⟩
 |26=>some ⟨VE.block,VE.off,0⟩
 |27=>some ⟨VF.block,VF.off,0⟩
 |28=>some ⟨VG.block,VG.off,0⟩
 |29=>some ⟨VH.block,VH.off,0⟩
 |30=>some ⟨VI.block,VI.off,0⟩
 |_=>none
theorem Lv {φ:cS} {i:Nat} {a:Addr} (h:φ i=some ⟨a.block,a.off,0⟩) (hs:a.spot=none):VR φ (.pointer (some ⟨i,0,none⟩)) (.pointer (some a)):=by
 have:=VR.ptr (φ:=φ) i 0 _ h
 obtain ⟨b,o,s⟩:=a
 simp only at hs
 subst hs
 exact this
theorem JH {φ:cS} {i n:Nat} {a:Addr} (h:φ i=some ⟨a.block,a.off,0⟩) (hs:a.spot=none):VR φ (.slice (some ⟨i,0,none⟩) n (2*n+1)) (.slice (some a) n n):=by
 have:=VR.Ia (φ:=φ) i 0 n n _ h (Nat.le_refl _)
 obtain ⟨b,o,s⟩:=a
 simp only at hs
 subst hs
 exact this
theorem Of {w:World} (h:laidMetH Tryz.prog Rows.checkKidsRow.laid w):∃ φ,RO w G φ:=by
 obtain ⟨VI,VB,a1,a2,a3,a4,a5,a6,a7⟩:=v3 h
 obtain ⟨VC,b1,b2,b3⟩:=v8 h
 obtain ⟨VD,c1,c2,c3⟩:=v9 h
 obtain ⟨VE,d1,d2,d3⟩:=v14 h
 obtain ⟨VF,e1,e2,e3⟩:=v15 h
 obtain ⟨VG,f1,f2,f3⟩:=v13 h
 obtain ⟨VH,g1,g2,g3⟩:=v17 h
 refine ⟨Sq VB VC VD VE VF VG VH VI,NO,NM,fun i hi=>?_,fun g hg=>?_,?_⟩
 ·rw [vR] at hi
  unfold Sq
  rw [if_neg aa]
  match i,hi with
  |i+31,_=>rfl
 ·have hg:g<23:=hg
  exact ⟨⟨g,0,0⟩,if_pos hg,rfl,rfl⟩
 ·generalize hφ:Sq VB VC VD VE VF VG VH VI=φ
  have R:∀(i:Nat) (e:TypeId) (l:Am.Loc),Sq VB VC VD VE VF VG VH VI i=some l→Gl[i]?=some (.cells (ov i) e true)→(∀(j:Nat) x,(ov i)[j]?=some x→∃ y,w.cell? ⟨l.gK,l.off+j,none⟩=some y∧VR φ x y)→
    ∀ m o,φ i=some m→G.get i=some o→∃ c e,o=.cells c e true∧∀(j:Nat) x,c[j]?=some x→∃ y,w.cell? ⟨m.gK,m.off+j,none⟩=some y∧VR φ x y:=by
   intro i e l hl hgl hk m o hm ho
   rw [← hφ,hl] at hm
   injection hm with hm
   subst hm
   rw [nL i hgl] at ho
   injection ho with ho
   exact ⟨ov i,e,ho.symm,hk⟩
  have P:∀ i l,Sq VB VC VD VE VF VG VH VI i=some l→φ i=some l:=fun i l h=>hφ▸h
  intro i m o hm ho
  have hi:i<31:=by have:=NO.lt ho;rwa [vR] at this
  match i,hi with
  |0,_=>exact R 0 60 ⟨0,0,0⟩ rfl rfl (p8 (v0 h) (.iface _ _ _ (.J5 (LR.toArray (xs:=[_]) (.cons (.ptr 22 31 ⟨22,0,0⟩ (P 22 _ rfl)) (.nil _)))))) m o hm ho
  |1,_=>exact R 1 4 ⟨1,0,0⟩ rfl rfl (fun j x hx=>by cases (show ([]:List Value)[j]?=some x from hx)) m o hm ho
  |2,_=>exact R 2 131 ⟨2,0,0⟩ rfl rfl (eG ah (fun j x hx=>by rw [Nat.zero_add];exact v2 h j x hx)) m o hm ho
  |3,_=>exact R 3 159 ⟨3,0,0⟩ rfl rfl (p8 a1 (Lv (P 30 _ rfl) a2)) m o hm ho
  |4,_=>exact R 4 221 ⟨4,0,0⟩ rfl rfl (eG ah (fun j x hx=>by rw [Nat.zero_add];exact v4 h j x hx)) m o hm ho
  |5,_=>exact R 5 131 ⟨5,0,0⟩ rfl rfl (eG ah (fun j x hx=>by rw [Nat.zero_add];exact v5 h j x hx)) m o hm ho
  |6,_=>exact R 6 225 ⟨6,0,0⟩ rfl rfl (eG ah (fun j x hx=>by rw [Nat.zero_add];exact v6 h j x hx)) m o hm ho
  |7,_=>exact R 7 3 ⟨7,0,0⟩ rfl rfl (fun j x hx=>by cases (show ([]:List Value)[j]?=some x from hx)) m o hm ho
  |8,_=>exact R 8 31 ⟨8,0,0⟩ rfl rfl (p8 b1 (.iface _ _ _ (Lv (P 24 _ rfl) b2))) m o hm ho
  |9,_=>exact R 9 31 ⟨9,0,0⟩ rfl rfl (p8 c1 (.iface _ _ _ (Lv (P 25 _ rfl) c2))) m o hm ho
  |10,_=>exact R 10 272 ⟨10,0,0⟩ rfl rfl (eG ah (fun j x hx=>by rw [Nat.zero_add];exact v10 h j x hx)) m o hm ho
  |11,_=>exact R 11 4 ⟨11,0,0⟩ rfl rfl (eG ah (fun j x hx=>by rw [Nat.zero_add];exact v11 h j x hx)) m o hm ho
  |12,_=>exact R 12 272 ⟨12,0,0⟩ rfl rfl (eG ah (fun j x hx=>by rw [Nat.zero_add];exact v12 h j x hx)) m o hm ho
  |13,_=>exact R 13 294 ⟨13,0,0⟩ rfl rfl (p8 f1 (JH (P 28 _ rfl) f2)) m o hm ho
  |14,_=>exact R 14 44 ⟨14,0,0⟩ rfl rfl (p8 d1 (JH (P 26 _ rfl) d2)) m o hm ho
  |15,_=>exact R 15 306 ⟨15,0,0⟩ rfl rfl (p8 e1 (JH (P 27 _ rfl) e2)) m o hm ho
  |16,_=>exact R 16 311 ⟨16,0,0⟩ rfl rfl (eG ah (fun j x hx=>by rw [Nat.zero_add];exact v16 h j x hx)) m o hm ho
  |17,_=>exact R 17 322 ⟨17,0,0⟩ rfl rfl (p8 g1 (JH (P 29 _ rfl) g2)) m o hm ho
  |18,_=>exact R 18 325 ⟨18,0,0⟩ rfl rfl (eG ah (fun j x hx=>by rw [Nat.zero_add];exact v18 h j x hx)) m o hm ho
  |19,_=>exact R 19 328 ⟨19,0,0⟩ rfl rfl (eG ah (fun j x hx=>by rw [Nat.zero_add];exact v19 h j x hx)) m o hm ho
  |20,_=>exact R 20 329 ⟨20,0,0⟩ rfl rfl (eG ah (fun j x hx=>by rw [Nat.zero_add];exact v20 h j x hx)) m o hm ho
  |21,_=>exact R 21 159 ⟨21,0,0⟩ rfl rfl (fun j x hx=>by cases (show ([]:List Value)[j]?=some x from hx)) m o hm ho
  |22,_=>exact R 22 0 ⟨22,0,0⟩ rfl rfl (fun j x hx=>by cases (show ([]:List Value)[j]?=some x from hx)) m o hm ho
  |23,_=>exact R 23 183 ⟨VB.block,VB.off,0⟩ rfl rfl (eG ah a7) m o hm ho
  |24,_=>exact R 24 291 ⟨VC.block,VC.off,0⟩ rfl rfl (eG ah b3) m o hm ho
  |25,_=>exact R 25 291 ⟨VD.block,VD.off,0⟩ rfl rfl (eG ah c3) m o hm ho
  |26,_=>exact R 26 3 ⟨VE.block,VE.off,0⟩ rfl rfl (eG ah d3) m o hm ho
  |27,_=>exact R 27 104 ⟨VF.block,VF.off,0⟩ rfl rfl (eG ah e3) m o hm ho
  |28,_=>exact R 28 255 ⟨VG.block,VG.off,0⟩ rfl rfl (eG ah f3) m o hm ho
  |29,_=>exact R 29 321 ⟨VH.block,VH.off,0⟩ rfl rfl (eG ah g3) m o hm ho
  |30,_=>exact R 30 180 ⟨VI.block,VI.off,0⟩ rfl rfl (fun j x hx=>by
   match j,hx with
   |0,hx=>injection hx with hx;subst hx;exact ⟨_,a4,JH (P 23 _ rfl) a3⟩
   |1,hx=>injection hx with hx;subst hx;exact ⟨_,a5,.EN⟩
   |2,hx=>injection hx with hx;subst hx;exact ⟨_,a6,.int _ _⟩) m o hm ho
  |n+31,hi=>omega
end Go.Proofs.YtglmagcldkngbaaGreatDoor
