/- Part of the proof that TreeKids answers true. -/
import Derived.Test.YtbehemdcaiigeaaGreatDoorR01
import Derived.Scope
import Derived.ScopeJumps
import Derived.KernelRfl
import Derived.Laws.Strings
import Derived.Test.YtbehemdcaiigeaaGreatDoorProg
set_option linter.unusedVariables false
set_option linter.unusedSimpArgs false
set_option maxRecDepth 100000
set_option maxHeartbeats 4000000
namespace Go.Am
theorem I5 {x:Nat} {l:List Nat}:zq x l=true↔x∈l:=by
 unfold zq
 rw [List.any_eq_true]
 exact ⟨fun ⟨y,h1,h2⟩=>by rw [Nat.eq_of_beq_eq_true h2];exact h1,fun h=>⟨x,h,Nat.beq_refl x⟩⟩
def tb (hs:Nat→U) (ft:Nat→iG) (i:Nat) (k:Nat):Bool:=zq i (ft k).w||(Nat.ble (hs k).n i&&Nat.blt i (hs (k+1)).n)
def tt (ft:Nat→iG) (t:Nat) (k:Nat):Bool:=match (ft k).dst with |some d=>Nat.beq d t |none=>false
theorem q5 {hs:Nat→U} {ft:Nat→iG} {i k:Nat}:tb hs ft i k=true↔i∈(ft k).w∨((hs k).n≤i∧i<(hs (k+1)).n):=by
 unfold tb
 rw [Bool.or_eq_true,dI,I5,Nat.blt_eq,Nat.ble_eq]
theorem yi {ft:Nat→iG} {t k:Nat}:tt ft t k=true↔(ft k).dst=some t:=by
 unfold tt
 split
 ·rename_i d hd
  rw [hd]
  exact ⟨fun h=>by rw [Nat.eq_of_beq_eq_true h],fun h=>by injection h with h;rw [h];exact Nat.beq_refl t⟩
 ·rename_i hd;rw [hd];simp
structure Np (x y:iG):Prop where
 aiR:∀ d,x.dst=some d→d∉y.looks
 M9:∀ d,y.dst=some d→d∉x.looks
 dd:∀ d,x.dst=some d→y.dst≠some d
 ww:∀ q,q∈x.w→q∉y.w
 wr:∀ q,q∈x.w→match y.r with |some R=>q∉R |none=>False
 rw_:∀ q,q∈y.w→match x.r with |some R=>q∉R |none=>False
 new:∀ q,q∈y.w→¬ (x.lo≤q∧q<x.hi)
theorem NM {x y:iG} (h:yU x y=true):Np x y:=by
 unfold yU at h
 simp only [dI] at h
 obtain ⟨⟨⟨⟨⟨⟨h1,h2⟩,h3⟩,h4⟩,h5⟩,h6⟩,h7⟩:=h
 have OS:∀{a b:List Nat},xf a b=true→∀ q,q∈a→q∉b:=by
  intro a b h q hq hb
  unfold xf at h
  rw [List.all_eq_true] at h
  have:=h q hq
  rw [I5.2 hb] at this;cases this
 have OQ:∀{a:List Nat} {b:Option (List Nat)},xg a b=true→∀ q,q∈a→match b with |some R=>q∉R |none=>False:=by
  intro a b h q hq
  cases b with
  |some R=>exact OS h q hq
  |none=>
   simp only [xg,List.isEmpty_iff] at h
   rw [h] at hq;cases hq
 have IU:∀{d:Option Tmp} {l:List Tmp},vu d l=true→∀ x,d=some x→x∉l:=by
  intro d l h x hx hm
  subst hx
  simp only [vu,I5.2 hm] at h
  cases h
 refine ⟨IU h1,IU h2,fun d hd hy=>IU h3 d hd (by rw [hy];simp),OS h4,OQ h5,OQ h6,fun q hq hn=>?_⟩
 rw [List.all_eq_true] at h7
 have:=h7 q hq
 rw [Bool.or_eq_true,Nat.blt_eq,Nat.ble_eq] at this
 omega
structure lw (E:Env) (aq:Nat) (ops:Array Oper) (d:List (Value×List Value)) (hs:Nat→U) (ts:Nat→b5) (ft:Nat→iG):Prop where
 wf:∀ j,j≤ops.size→cz (hs j)
 ej:E.ej≤(hs 0).n
 ext:∀ j,j<ops.size→cX (ft j).w (hs j) (hs (j+1))
 lo:∀ j,j<ops.size→(ft j).lo=(hs j).n∧(ft j).hi=(hs (j+1)).n
 w:∀ j,j<ops.size→∀ q,q∈(ft j).w→q<(hs j).n∧fG ((hs j).get q)=true
 ind:∀ i j,i<j→j<ops.size→((Region.before ops).getD j 0).testBit i=false→Np (ft i) (ft j)
 run : ∀(j:Nat) (o:Oper),ops[j]?=some o→(ft j).dst=o.dst∧(ft j).looks=mL ops o∧∃ v,me (ts j) aq o.dst v=some (ts (j+1))∧
     ∀(base:Nat) (φ:bA) (w:World) (a:Act) (C:Nat→Option df) (K:Act→World→Prop) (Q:Exit→Act→World→Prop),qy E base C φ w→HX (hs j) (ft j) φ C→fW φ (hs j).n (hs (j+1)).n→
      g6 φ (oP (ts j) (mL ops o) .nil) a.tmps aq→jG φ d a.defers→
      (∀(aU:bA) (w':World) (u:Value) (a':Act),eV E base φ w (hs j) (hs (j+1)) (ft j).w aU w'→be aU v u→a'.tmps=a.tmps→jG aU d a'.defers→K (a'.put o.dst u) w')→wpOp E.P ops Q j K a w
section
variable {E:Env} {aq:Nat} {ops:Array Oper} {d:List (Value×List Value)} {hs:Nat→U} {ts:Nat→b5} {ft:Nat→iG}
theorem lw.mono (h:lw E aq ops d hs ts ft) {i:Nat}:∀{j},i≤j→j≤ops.size→(hs i).n≤(hs j).n:=by
 intro j hij hj
 induction j with
 |zero=>have:i=0:=by omega
        subst this;exact Nat.le_refl _
 |succ j ih=>
  rcases Nat.lt_or_ge i (j+1) with h1 |h1
  ·exact Nat.le_trans (ih D D) (h.ext j D).n
  ·have:i=j+1:=by omega
   subst this;exact Nat.le_refl _
theorem lw.keep (h:lw E aq ops d hs ts ft) {q:Nat} {i:Nat} (hq:q<(hs i).n):∀{j},i≤j→j≤ops.size→(∀ k,i≤k→k<j→q∉(ft k).w)→(hs j).get q=(hs i).get q:=by
 intro j hij hj hk
 induction j with
 |zero=>have:i=0:=by omega
        subst this;rfl
 |succ j ih=>
  rcases Nat.lt_or_ge i (j+1) with h1 |h1
  ·have hn:=h.mono (i:=i) (j:=j) D D
   rw [(h.ext j D).keep q D (hk j D D),ih D D fun k h2 h3=>hk k h2 D]
  ·have:i=j+1:=by omega
   subst this;rfl
theorem lw.fG (h:lw E aq ops d hs ts ft) {q:Nat} {i:Nat} (hq:q<(hs i).n):∀{j},i≤j→j≤ops.size→fG ((hs j).get q)=true→Am.fG ((hs i).get q)=true:=by
 intro j hij hj hl
 induction j with
 |zero=>have:i=0:=by omega
        subst this;exact hl
 |succ j ih=>
  rcases Nat.lt_or_ge i (j+1) with h1 |h1
  ·have hn:=h.mono (i:=i) (j:=j) D D
   exact ih D D ((h.ext j D).fG q D hl)
  ·have:i=j+1:=by omega
   subst this;exact hl
theorem S5 {T cO:b5} {dst:Option Tmp} {v:Value} (h:me T aq dst v=some cO) (t:Nat):cO.get t=if dst=some t then some v else T.get t:=by
 cases dst with
 |none=>simp only [me,bx] at h;subst h;simp
 |some x=>
  simp only [me] at h
  cases hb:Nat.blt x aq with
  |false=>rw [hb] at h;cases h
  |true=>
   rw [hb] at h;injection h with h;subst h
   rw [c6.kr];simp
theorem lw.P6 (h:lw E aq ops d hs ts ft) {t:Nat} {i:Nat}:∀{j},i≤j→j≤ops.size→(∀ k,i≤k→k<j→(ft k).dst≠some t)→(ts j).get t=(ts i).get t:=by
 intro j hij hj hk
 induction j with
 |zero=>have:i=0:=by omega
        subst this;rfl
 |succ j ih=>
  rcases Nat.lt_or_ge i (j+1) with h1 |h1
  ·obtain ⟨e1,_,v,e2,_⟩:=h.run j ops[j] (by simp)
   rw [S5 e2,if_neg (by rw [← e1];exact hk j D D),ih D D fun k h2 h3=>hk k h2 D]
  ·have:i=j+1:=by omega
   subst this;rfl
def mY (n:Nat) (hs:Nat→U) (ft:Nat→iG) (S:Nat→Bool) (i:Nat):Option df:=(hs (kg S (tb hs ft i) n)).get i
def u9 (n:Nat) (ts:Nat→b5) (ft:Nat→iG) (S:Nat→Bool) (t:Nat):Option Value:=(ts (kg S (tt ft t) n)).get t
structure Inv (E:Env) (base:Nat) (il:bA) (w0:World) (aq:Nat) (ops:Array Oper) (d:List (Value×List Value)) (hs:Nat→U) (ts:Nat→b5) (ft:Nat→iG) (W:List Nat) (S:Nat→Bool) (φ:bA) (a:Act) (w:World):Prop where
 rel:qy E base (mY ops.size hs ft S) φ w
 Dv:a.tmps.size=aq
 hH:∀ t v,u9 ops.size ts ft S t=some v→∃ u,a.tmps[t]?=some u∧be φ v u
 iT:jG φ d a.defers
 out:∀ i,(i<(hs 0).n∨(hs ops.size).n≤i)→φ i=il i
 free:∀ k,k<ops.size→S k=false→fW φ (hs k).n (hs (k+1)).n
 step:Step il W w0 w
 fresh:∀ i l,(hs 0).n≤i→i<(hs ops.size).n→φ i=some l→w0.heap.size≤l.cD∨∃ q∈W,∃ m,q<(hs 0).n∧il q=some m∧m.cD=l.cD∧Am.fG ((hs 0).get q)=true∧live (mY ops.size hs ft S q)=false
theorem lw.QH (h:lw E aq ops d hs ts ft) {i:Nat}:∀{j},j≤ops.size→(hs 0).n≤i→i<(hs j).n→∃ k,k<j∧(hs k).n≤i∧i<(hs (k+1)).n:=by
 intro j
 induction j with
 |zero=>intro _ h1 h2;omega
 |succ j ih=>
  intro hj h1 h2
  rcases Nat.lt_or_ge i (hs j).n with h3 |h3
  ·obtain ⟨k,h4,h5⟩:=ih D h1 h3
   exact ⟨k,by omega,h5⟩
  ·exact ⟨j,by omega,h3,h2⟩
theorem lw.UG (h:lw E aq ops d hs ts ft) {S:Nat→Bool} {φ:bA} {j:Nat} (hj:j<ops.size) (sF:S j=false) (vy:∀ i,((Region.before ops).getD j 0).testBit i=true→S i=true)
  (sH:∀ k,k<ops.size→S k=true→((Region.before ops).getD k 0).testBit j=false) (hfree:∀ k,k<ops.size→S k=false→fW φ (hs k).n (hs (k+1)).n):HX (hs j) (ft j) φ (mY ops.size hs ft S):=by
 intro i hi hm hrd
 have La:∀ k,k<j→S k=false→tb hs ft i k=false:=by
  intro k hk fy
  cases hb:tb hs ft i k with
  |false=>rfl
  |true=>
   exfalso
   rcases q5.1 hb with h1 |⟨h1,h2⟩
   ·have hap:=h.ind k j hk hj (by cases ht:((Region.before ops).getD j 0).testBit k with |false=>rfl |true=>rw [vy k ht] at fy;cases fy)
    have h3:=hap.wr i h1
    cases hr:(ft j).r with
    |none=>rw [hr] at h3;exact h3
    |some R=>
     rw [hr] at h3 hrd
     rcases hrd with h4 |h4
     ·exact h3 h4
     ·exact hap.ww i h1 h4
   ·exact hm (hfree k D fy i h1 h2)
 have Lb:∀ k,j≤k→k<ops.size→S k=true→tb hs ft i k=false:=by
  intro k hk hkn fy
  have hne:k≠j:=fun e=>by subst e;rw [sF] at fy;cases fy
  have hn:=h.mono (i:=j) (j:=k) hk D
  cases hb:tb hs ft i k with
  |false=>rfl
  |true=>
   exfalso
   rcases q5.1 hb with h1 |⟨h1,h2⟩
   ·have hap:=h.ind j k D hkn (sH k hkn fy)
    have h3:=hap.rw_ i h1
    cases hr:(ft j).r with
    |none=>rw [hr] at h3;exact h3
    |some R=>
     rw [hr] at h3 hrd
     rcases hrd with h4 |h4
     ·exact h3 h4
     ·exact hap.ww i h4 h1
   ·omega
 unfold mY
 generalize hst:kg S (tb hs ft i) ops.size=st
 have hle:st≤j:=by
  rcases AG S (tb hs ft i) ops.size with h0 |⟨k,h1,h2,h3,h4⟩
  ·omega
  ·rcases Nat.lt_or_ge k j with h5 |h5
   ·omega
   ·rw [Lb k h5 h1 h3] at h4;cases h4
 have hnt:∀ k,st≤k→k<j→tb hs ft i k=false:=by
  intro k h1 h2
  cases hb:tb hs ft i k with
  |false=>rfl
  |true=>
   cases fy:S k with
   |false=>rw [La k h2 fy] at hb;cases hb
   |true=>have:=yb S (tb hs ft i) ops.size k D fy hb;omega
 have hin:i<(hs st).n:=by
  rcases Nat.lt_or_ge i (hs st).n with h1 |h1
  ·exact h1
  ·exfalso
   have h0:=h.mono (i:=0) (j:=st) D D
   obtain ⟨k,h2,h3,h4⟩:=h.QH D D hi
   have:st≤k:=by
    rcases Nat.lt_or_ge k st with h5 |h5
    ·have:=h.mono (i:=k+1) (j:=st) D D;omega
    ·exact h5
   have:=hnt k this h2
   rw [q5.2 (.inr ⟨h3,h4⟩)] at this;cases this
 exact (h.keep hin hle D fun k h1 h2 hm=>by have:=hnt k h1 h2;rw [q5.2 (.inl hm)] at this;cases this).symm
theorem lw.looks (h:lw E aq ops d hs ts ft) {S:Nat→Bool} {j:Nat} (hj:j<ops.size) (sF:S j=false) (vy:∀ i,((Region.before ops).getD j 0).testBit i=true→S i=true)
  (sH:∀ k,k<ops.size→S k=true→((Region.before ops).getD k 0).testBit j=false) {t:Nat} (ht:t∈(ft j).looks):u9 ops.size ts ft S t=(ts j).get t:=by
 have La:∀ k,k<j→S k=false→tt ft t k=false:=by
  intro k hk fy
  cases hb:tt ft t k with
  |false=>rfl
  |true=>
   have hap:=h.ind k j hk hj (by cases ht:((Region.before ops).getD j 0).testBit k with |false=>rfl |true=>rw [vy k ht] at fy;cases fy)
   exact (hap.aiR t (yi.1 hb) ht).elim
 have Lb:∀ k,j≤k→k<ops.size→S k=true→tt ft t k=false:=by
  intro k hk hkn fy
  have hne:k≠j:=fun e=>by subst e;rw [sF] at fy;cases fy
  cases hb:tt ft t k with
  |false=>rfl
  |true=>
   have hap:=h.ind j k D hkn (sH k hkn fy)
   exact (hap.M9 t (yi.1 hb) ht).elim
 unfold u9
 generalize hst:kg S (tt ft t) ops.size=st
 have hle:st≤j:=by
  rcases AG S (tt ft t) ops.size with h0 |⟨k,h1,h2,h3,h4⟩
  ·omega
  ·rcases Nat.lt_or_ge k j with h5 |h5
   ·omega
   ·rw [Lb k h5 h1 h3] at h4;cases h4
 exact (h.P6 hle D fun k h1 h2 hm=>by
  have hb:=yi.2 hm
  cases fy:S k with
  |false=>rw [La k h2 fy] at hb;cases hb
  |true=>have:=yb S (tt ft t) ops.size k D fy hb;omega).symm
theorem Inv.next {base:Nat} {il φ:bA} {w0 w:World} {a:Act} {W:List Nat} {S S':Nat→Bool} {j:Nat} (h:lw E aq ops d hs ts ft) (sG:∀ j,j<ops.size→∀ q,q∈(ft j).w→q∈W)
  (I:Inv E base il w0 aq ops d hs ts ft W S φ a w) (hj:j<ops.size) (sF:S j=false) (vy:∀ i,((Region.before ops).getD j 0).testBit i=true→S i=true)
  (sH:∀ k,k<ops.size→S k=true→((Region.before ops).getD k 0).testBit j=false) (tL:∀ k,k<ops.size→(S' k=true↔(S k=true∨k=j)))
  {K:Act→World→Prop} {Q:Exit→Act→World→Prop} (hK:∀ aU a' w',Inv E base il w0 aq ops d hs ts ft W S' aU a' w'→K a' w'):wpOp E.P ops Q j K a w:=by
 obtain ⟨e1,e2,v,BX,run⟩:=h.run j ops[j] (by simp [hj])
 have hag:=h.UG hj sF vy sH I.free
 have hn0:=h.mono (i:=0) (j:=j) D D
 have j6:=(h.ext j hj).n
 have hn2:=h.mono (i:=j+1) (j:=ops.size) D D
 have hfree:=I.free j hj sF
 have UB:∀ i,tb hs ft i j=true→∀ k,j<k→k<ops.size→S k=true→tb hs ft i k=false:=by
  intro i hi k hk hkn fy
  have hap:=h.ind j k hk hkn (sH k hkn fy)
  have hnk:=h.mono (i:=j+1) (j:=k) D D
  obtain ⟨l1,l2⟩:=h.lo j hj
  cases hb:tb hs ft i k with
  |false=>rfl
  |true=>
   exfalso
   rcases q5.1 hb with h1 |⟨h1,h2⟩
   ·rcases q5.1 hi with h3 |h3
    ·exact hap.ww i h3 h1
    ·exact hap.new i h1 (by rw [l1,l2];exact h3)
   ·rcases q5.1 hi with h3 |h3
    ·have:=(h.w j hj i h3).1;omega
    ·omega
 have IM:∀ i,(i∈(ft j).w∨((hs j).n≤i∧i<(hs (j+1)).n))→mY ops.size hs ft S' i=(hs (j+1)).get i:=fun i hi=>by
  unfold mY
  rw [Ts tL hj (q5.2 hi) (UB i (q5.2 hi))]
 have Oz:∀ i,i∉(ft j).w→¬ ((hs j).n≤i∧i<(hs (j+1)).n)→mY ops.size hs ft S' i=mY ops.size hs ft S i:=fun i h1 h2=>by
  unfold mY
  rw [Tt tL (by cases hb:tb hs ft i j with |false=>rfl |true=>rcases q5.1 hb with h3 |h3;exact (h1 h3).elim;exact (h2 h3).elim)]
 have Pu:∀ i,i∈(ft j).w→φ i≠none→mY ops.size hs ft S i=(hs j).get i:=fun i hi hm=>hag i (h.w j hj i hi).1 hm (by split;exact .inr hi;trivial)
 refine run base φ w a (mY ops.size hs ft S) K Q I.rel hag hfree ⟨I.Dv,fun t x hx=>?_⟩ I.iT fun aU w' u a' b6 i7 rx hda=>hK aU _ w' ?_
 ·obtain ⟨h1,h2⟩:=afP hx
  rw [← e2] at h1
  exact I.hH t x (by rw [h.looks hj sF vy sH h1];exact h2)
 ·have hsub:∀ i l,φ i=some l→aU i=some l:=by
   intro i l hi
   by_cases h1:i<(hs j).n
   ·rw [b6.ext i (.inl h1)];exact hi
   ·by_cases h2:(hs (j+1)).n≤i
    ·rw [b6.ext i (.inr h2)];exact hi
    ·rw [hfree i D D] at hi;cases hi
  have cC:=I.rel.step (H:=hs j) (H':=hs (j+1)) (yK:=mY ops.size hs ft S') (by have:=h.ej;omega) b6 j6 hfree Pu IM Oz
   (fun i hi=>(h.ext j hj).fG i (h.w j hj i hi).1) (fun i hi=>(h.ext j hj).live i (h.w j hj i hi).1)
  have hsz:(a'.put ops[j].dst u).tmps.size=aq:=by
   cases hd:ops[j].dst with
   |none=>show a'.tmps.size=aq;rw [rx];exact I.Dv
   |some x=>show (a'.tmps.setIfInBounds x u).size=aq;rw [Array.size_setIfInBounds,rx];exact I.Dv
  have Pf:∀ i l,(hs 0).n≤i→i<(hs ops.size).n→φ i=some l→w0.heap.size≤l.cD∨∃ q∈W,∃ m,q<(hs 0).n∧il q=some m∧m.cD=l.cD∧Am.fG ((hs 0).get q)=true∧live (mY ops.size hs ft S' q)=false:=by
   intro i l h1 h2 h3
   rcases I.fresh i l h1 h2 h3 with hb |⟨q,q1,m,cw,dv,dT,ff,e7⟩
   ·exact .inl hb
   ·refine .inr ⟨q,q1,m,cw,dv,dT,ff,?_⟩
    by_cases JO:q∈(ft j).w
    ·have pE:=Pu q JO (by rw [I.out q (.inl cw),dv];simp)
     rw [pE] at e7
     have:=rN (h.w j hj q JO).2
     rw [this] at e7;cases e7
    ·rw [Oz q JO D];exact e7
  refine ⟨cC,hsz,fun t x hx=>?_,by rw [put_defers];exact hda,fun i hi=>?_,fun k hk EY=>?_,⟨b6.step.os.trans I.step.os,b6.step.tape.trans I.step.tape,b6.step.output.trans I.step.output,Nat.le_trans I.step.size b6.step.size,fun B hB hk=>?_⟩,fun i l h1 h2 h3=>?_⟩
  ·by_cases hd:(ft j).dst=some t
   ·have hst:kg S' (tt ft t) ops.size=j+1:=Ts tL hj (yi.2 hd) fun k hk hkn fy=>by
     cases hb:tt ft t k with
     |false=>rfl
     |true=>exact ((h.ind j k hk hkn (sH k hkn fy)).dd t hd (yi.1 hb)).elim
    unfold u9 at hx
    rw [hst,S5 BX,if_pos (by rw [← e1];exact hd)] at hx
    injection hx with hx
    subst hx
    have ZK:t<aq:=by
     rw [e1] at hd
     rw [hd] at BX
     simp only [me] at BX
     cases hb:Nat.blt t aq with
     |false=>rw [hb] at BX;cases BX
     |true=>exact Nat.blt_eq▸hb
    refine ⟨u,?_,i7⟩
    rw [← e1,hd]
    show (a'.tmps.setIfInBounds t u)[t]?=some u
    rw [Array.getElem?_setIfInBounds_self_of_lt (by rw [rx,I.Dv];exact ZK)]
   ·have hst:kg S' (tt ft t) ops.size=kg S (tt ft t) ops.size:=Tt tL (by cases hb:tt ft t j with |false=>rfl |true=>exact (hd (yi.1 hb)).elim)
    unfold u9 at hx
    rw [hst] at hx
    obtain ⟨y,y1,ah⟩:=I.hH t x hx
    refine ⟨y,?_,ah.mono hsub⟩
    rw [e1] at hd
    cases YX:ops[j].dst with
    |none=>show a'.tmps[t]?=some y;rw [rx];exact y1
    |some z=>
     show (a'.tmps.setIfInBounds z u)[t]?=some y
     rw [Array.getElem?_setIfInBounds_ne (fun e=>hd (by rw [YX,e])),rx];exact y1
  ·rw [b6.ext i D];exact I.out i hi
  ·have ajG:k≠j:=fun e=>by rw [(tL k hk).2 (.inr e)] at EY;cases EY
   have YJ:S k=false:=by
    cases hb:S k with
    |false=>rfl
    |true=>rw [(tL k hk).2 (.inl hb)] at EY;cases EY
   intro i h1 h2
   have hlt:i<(hs j).n∨(hs (j+1)).n≤i:=by
    rcases Nat.lt_or_ge k j with h3 |h3
    ·have:=h.mono (i:=k+1) (j:=j) D D;omega
    ·have:=h.mono (i:=j+1) (j:=k) D D;omega
   rw [b6.ext i hlt]
   exact I.free k hk YJ i h1 h2
  ·have b1:=I.step.keep B hB hk
   have hsz:=I.step.size
   rw [← b1]
   refine b6.step.keep B D fun q hq l hl=>?_
   by_cases BT:q<(hs 0).n
   ·rw [I.out q (.inl BT)] at hl
    exact hk q (sG j hj q hq) l hl
   ·have ajK:=(h.w j hj q hq).1
    have Zp:=h.mono (i:=j) (j:=ops.size) D D
    rcases I.fresh q l D D hl with hb |⟨q',q1,m,cw,dv,dT,ff,e7⟩
    ·omega
    ·rw [← dT];exact hk q' q1 m dv
  ·by_cases hnew:(hs j).n≤i∧i<(hs (j+1)).n
   ·rcases b6.fresh i l hnew.1 hnew.2 h3 with hb |⟨q,q1,m,cw,dv,dT,ff,e7⟩
    ·have:=I.step.size;exact .inl D
    ·by_cases BT:q<(hs 0).n
     ·refine .inr ⟨q,sG j hj q q1,m,BT,by rw [← I.out q (.inl BT)];exact dv,dT,h.fG BT D D ff,?_⟩
      rw [IM q (.inl q1)];exact e7
     ·have Zp:=h.mono (i:=j) (j:=ops.size) D D
      rcases Pf q m D D dv with hb |⟨q',r1,m',r2,s7,LQ,aeX⟩
      ·exact .inl D
      ·exact .inr ⟨q',r1,m',r2,s7,by omega,aeX⟩
   ·rw [b6.ext i D] at h3
    exact Pf i l h1 h2 h3
end
section
variable {E:Env} {call:Call} {aq:Nat} {ops:Array Oper} {d:List (Value×List Value)} {hs:Nat→U} {ts:Nat→b5} {ft:Nat→iG}
theorem Inv.init {base:Nat} {φ:bA} {w w0:World} {a:Act} {W:List Nat} {S:Nat→Bool} (h:lw E aq ops d hs ts ft) (hS:∀ k,k<ops.size→S k=false) (cC:Rel E base (hs 0) φ w)
  (ht:g6 φ (ts 0) a.tmps aq) (hd:jG φ d a.defers) (hf:fW φ (hs 0).n (hs ops.size).n) (hw:Step φ W w0 w):Inv E base φ w0 aq ops d hs ts ft W S φ a w:=by
 have z:∀ g5,kg S g5 ops.size=0:=fun g5=>by
  rcases AG S g5 ops.size with h0 |⟨k,h1,h2,h3,h4⟩
  ·exact h0
  ·rw [hS k h1] at h3;cases h3
 refine ⟨?_,ht.1,fun t v hv=>?_,hd,fun _ _=>rfl,fun k hk _ i h1 h2=>?_,hw,fun i l h1 h2 h3=>?_⟩
 ·have:mY ops.size hs ft S=(hs 0).get:=by funext i;unfold mY;rw [z]
  rw [this];exact .of (h.wf 0 D) cC
 ·unfold u9 at hv;rw [z] at hv;exact ht.2 t v hv
 ·have a1:=h.mono (i:=0) (j:=k) D D
  have a2:=h.mono (i:=k+1) (j:=ops.size) D D
  exact hf i D D
 ·rw [hf i h1 h2] at h3;cases h3
theorem Inv.done {base:Nat} {il φ:bA} {w w0:World} {a:Act} {W:List Nat} {S:Nat→Bool} (h:lw E aq ops d hs ts ft) (I:Inv E base il w0 aq ops d hs ts ft W S φ a w) (hS:∀ k,k<ops.size→S k=true) :
  Out E base il w0 (hs 0) (hs ops.size) W φ w∧g6 φ (ts ops.size) a.tmps aq∧jG φ d a.defers:=by
 have cs:∀ i,mY ops.size hs ft S i=(hs ops.size).get i:=by
  intro i
  unfold mY
  have hle:=Mv S (tb hs ft i) ops.size
  have hnt:∀ k,kg S (tb hs ft i) ops.size≤k→k<ops.size→tb hs ft i k=false:=by
   intro k h1 h2
   cases hb:tb hs ft i k with
   |false=>rfl
   |true=>have:=yb S (tb hs ft i) ops.size k h2 (hS k h2) hb;omega
  generalize kg S (tb hs ft i) ops.size=st at *
  rcases Nat.lt_or_ge i (hs st).n with h1 |h1
  ·exact (h.keep h1 hle (Nat.le_refl _) fun k h2 h3 hm=>by have:=hnt k h2 h3;rw [q5.2 (.inl hm)] at this;cases this).symm
  ·rcases Nat.lt_or_ge i (hs ops.size).n with h2 |h2
   ·exfalso
    have h0:=h.mono (i:=0) (j:=st) D D
    obtain ⟨k,h3,h4,h5⟩:=h.QH (Nat.le_refl _) D h2
    have:st≤k:=by
     rcases Nat.lt_or_ge k st with h6 |h6
     ·have:=h.mono (i:=k+1) (j:=st) D D;omega
     ·exact h6
    have:=hnt k this h3
    rw [q5.2 (.inr ⟨h4,h5⟩)] at this;cases this
   ·rw [h.wf st hle i h1,h.wf ops.size (Nat.le_refl _) i h2]
 have ahW:∀ t,u9 ops.size ts ft S t=(ts ops.size).get t:=by
  intro t
  unfold u9
  have hle:=Mv S (tt ft t) ops.size
  refine (h.P6 hle (Nat.le_refl _) fun k h1 h2 hm=>?_).symm
  have:=yb S (tt ft t) ops.size k h2 (hS k h2) (yi.2 hm)
  omega
 refine ⟨⟨I.out,I.rel.rel fun i _ _=>cs i,I.step,fun i l h1 h2 h3=>?_⟩,⟨I.Dv,fun t v hv=>I.hH t v (by rw [ahW];exact hv)⟩,I.iT⟩
 rcases I.fresh i l h1 h2 h3 with hb |⟨q,q1,m,cw,dv,dT,ff,e7⟩
 ·exact .inl hb
 ·exact .inr ⟨q,q1,m,cw,dv,dT,ff,by rw [← cs q];exact e7⟩
theorem T5 {base:Nat} {il:bA} {w0:World} {W:List Nat} {md:Region.Mode} {Q:Exit→Act→World→Prop} (h:lw E aq ops d hs ts ft) (hp:nL md ops) (sG:∀ j,j<ops.size→∀ q,q∈(ft j).w→q∈W)
  (hQ:∀ φ a w,Out E base il w0 (hs 0) (hs ops.size) W φ w→g6 φ (ts ops.size) a.tmps aq→jG φ d a.defers→Q .normal a w) :
  ∀(fuel:Nat) (listed:Array Bool) (φ:bA) (a:Act) (w:World),listed.size=ops.size→q6 ops.size listed≤fuel→Nq ops (fun k=>listed.getD k false)→
   Inv E base il w0 aq ops d hs ts ft W (fun k=>listed.getD k false) φ a w→wpAny E.P md ops Q fuel listed a w:=by
 have fin:∀(listed:Array Bool) (φ:bA) (a:Act) (w:World),listed.size=ops.size→Inv E base il w0 aq ops d hs ts ft W (fun k=>listed.getD k false) φ a w→(∀ j,j<ops.size→listed.getD j true=true)→Q .normal a w:=by
  intro listed φ a w fy I hall
  obtain ⟨h1,h2,h3⟩:=I.done h fun k hk=>by rw [vw D false true];exact hall k hk
  exact hQ φ a w h1 h2 h3
 have UH:∀(listed:Array Bool),listed.size=ops.size→Region.ready md ops listed=[]→∀ j,j<ops.size→listed.getD j true=true:=by
  intro listed fy hr j hj
  cases hb:listed.getD j true with
  |true=>rfl
  |false=>exact (hp listed fy ⟨j,hj,hb⟩ hr).elim
 intro fuel
 induction fuel with
 |zero=>
  intro listed φ a w fy hu hc I
  have hall:=MP (Nat.le_zero.1 hu)
  refine ⟨?_,fin listed φ a w fy I hall⟩
  cases hr:Region.ready md ops listed with
  |nil=>rfl
  |cons x l=>
   have:x∈Region.ready md ops listed:=by rw [hr];simp
   obtain ⟨o,h1,h2,_⟩:=mem_ready.1 this
   rw [hall x (Array.getElem?_eq_some_iff.1 h1).1] at h2;cases h2
 |succ fuel ih=>
  intro listed φ a w fy hu hc I
  refine ⟨fun hr=>fin listed φ a w fy I (UH listed fy hr),fun j hj=>?_⟩
  obtain ⟨o,h1,h2,h3⟩:=mem_ready.1 hj
  have hjn:=(Array.getElem?_eq_some_iff.1 h1).1
  have sF:listed.getD j false=false:=by rw [vw D false true];exact h2
  have tL:∀ k,(listed.setIfInBounds j true).getD k false=true↔(listed.getD k false=true∨k=j):=fun k=>by
   rw [xk D]
   split
   ·rename_i e;subst e;simp
   ·rename_i e
    exact ⟨.inl,fun h=>h.elim id fun h=>(e h.symm).elim⟩
  have vy:∀ i,((Region.before ops).getD j 0).testBit i=true→listed.getD i false=true:=
   IG hc (j+1) j o D h1 fun e he hb=>h3 e he (NZ hb)
  have sH:∀ k,k<ops.size→listed.getD k false=true→((Region.before ops).getD k 0).testBit j=false:=by
   intro k hk hl
   cases hb:((Region.before ops).getD k 0).testBit j with
   |false=>rfl
   |true=>
    have:=IG hc (k+1) k ops[k] D (by simp [hk]) (fun e he hbd=>hc k _ (by simp [hk]) hl e he hbd) j hb
    rw [sF] at this;cases this
  refine I.next h sG hjn sF vy sH (fun k _=>tL k) fun aU a' w' I'=>?_
  refine ih _ aU a' w' (by simpa using fy) ?_ (fun k o' hk hl e he hb=>?_) I'
  ·have:=MO fy hjn h2;omega
  ·rw [tL] at hl ⊢
   rcases hl with hl |rfl
   ·exact .inl (hc k o' hk hl e he hb)
   ·rw [h1] at hk
    injection hk with hk
    subst hk
    exact .inl (h3 e he (NZ hb))
end
theorem PS {fX:Array Nat} {ft:Nat→iG} {n:Nat} (h:indep fX ((List.range n).map ft)=true) {i j:Nat} (hij:i<j) (hj:j<n) (hb:(fX.getD j 0).testBit i=false):yU (ft i) (ft j)=true:=by
 unfold indep at h
 rw [List.all_eq_true] at h
 have mem:∀ k,k<n→(ft k,k)∈((List.range n).map ft).zipIdx:=fun k hk=>by
  rw [List.mem_zipIdx_iff_getElem?];simp [hk]
 have h1:=h _ (mem j hj)
 simp only [List.all_eq_true] at h1
 have h2:=h1 _ (mem i D)
 simp only [hb,Bool.or_false,Bool.or_eq_true,Nat.ble_eq] at h2
 rcases h2 with h2 |h2
 ·omega
 ·exact h2
theorem OT {E:Env} (ok:E.eU) {aq id:Nat} {ops:Array Oper} {d:List (Value×List Value)} {hs:Nat→U} {ts:Nat→b5} {jX:Nat→List Nat} {ft:Nat→iG} {W:List Nat} (hro:qX ops=true)
  (hi:indep (Region.before ops) ((List.range ops.size).map ft)=true) (a7:∀ j,j<ops.size→∀ q,q∈jX j→q∈W)
  (a9:∀(j:Nat) (o:Oper),ops.toList[j]?=some o→cz (hs j)→E.ej≤(hs j).n→∃ call,mZ E call∧pZ E call aq ops d o (ts j) (ts (j+1)) (hs j) (hs (j+1)) (jX j) (ft j)) (wf:cz (hs 0)) (cu:E.ej≤(hs 0).n) :
  cX W (hs 0) (hs ops.size)∧cz (hs ops.size)∧∀(base:Nat) (φ:bA) (w:World) (a:Act) (w1 w2:List Nat),sj E base φ w aq ⟨ts 0,hs 0,d,w1⟩ a→fW φ (hs 0).n (hs ops.size).n→
   (Code.region id ops true).wp E.P (Post E base φ w aq (hs 0) W .normal ⟨ts ops.size,hs ops.size,d,w2⟩) a w:=by
 have ZG:=hro
 unfold qX at hro
 simp only [dI] at hro
 obtain ⟨⟨jC,r3⟩,Aq⟩:=hro
 have hnd:∀ o∈ops.toList,xG o.op=false:=by
  intro o ho
  unfold Gi at r3
  rw [Array.all_eq_true_iff_forall_mem] at r3
  have:=r3 o (by simpa using ho)
  cases hop:o.op <;> rw [hop] at this <;> first
   |rfl
   |cases this
 have tN:∀ j:Nat,j<ops.size→ops.toList[j]?=some ops[j]!∧ops[j]?=some ops[j]!:=fun j hj=>by simp [hj]
 have o3:∀ j,j≤ops.size→cz (hs j)∧E.ej≤(hs j).n:=by
  intro j
  induction j with
  |zero=>intro _;exact ⟨wf,cu⟩
  |succ j ih=>
   intro hj
   obtain ⟨h1,h2⟩:=ih D
   obtain ⟨g1,g2⟩:=tN j D
   obtain ⟨call,hc,hst⟩:=a9 j _ g1 h1 h2
   obtain ⟨k1,k2,_⟩:=Hh ok hc (hnd _ (List.mem_of_getElem? g1)) hst h1 h2
   exact ⟨k2,Nat.le_trans h2 k1.n⟩
 have ex:=fun (j:Nat) (hj:j<ops.size)=>a9 j _ (tN j hj).1 (o3 j D).1 (o3 j D).2
 have st:=fun (j:Nat) (hj:j<ops.size)=>Hh ok (ex j hj).choose_spec.1 (hnd _ (List.mem_of_getElem? (tN j hj).1)) (ex j hj).choose_spec.2 (o3 j D).1 (o3 j D).2
 have yh:lw E aq ops d hs ts ft:=by
  refine ⟨fun j hj=>(o3 j hj).1,(o3 0 D).2,fun j hj=>(st j hj).1,fun j hj=>?_,fun j hj q hq=>?_,fun i j hij hj hb=>NM (PS hi hij hj hb),fun j o ho=>?_⟩
  ·obtain ⟨_,_,h3,h4,_⟩:=st j hj;exact ⟨h3,h4⟩
  ·obtain ⟨_,_,_,_,_,_,h7,_⟩:=st j hj
   exact (h7 q hq).2
  ·have hj:=(Array.getElem?_eq_some_iff.1 ho).1
   have e:ops[j]! = o:=by have:=(tN j hj).2;rw [ho] at this;injection this with this;exact this.symm
   obtain ⟨_,_,_,_,h5,h6,_,v,h8,h9⟩:=st j hj
   rw [e] at h5 h6 h8 h9
   exact ⟨h5,h6,v,h8,fun base φ w a C K Q cC hag hf ht hd hK=>h9 base φ w a C j K Q ho cC hag hf ht hd hK⟩
 have sG:∀ j,j<ops.size→∀ q,q∈(ft j).w→q∈W:=by
  intro j hj q hq
  obtain ⟨_,_,_,_,_,_,h7,_⟩:=st j hj
  exact a7 j hj q (h7 q hq).1
 have ext:cX W (hs 0) (hs ops.size):=by
  have key:∀ j,j≤ops.size→cX W (hs 0) (hs j):=by
   intro j
   induction j with
   |zero=>intro _;exact cX.refl ..
   |succ j ih=>intro hj;exact ((ih D).trans ((yh.ext j D).wider (sG j D))).wider (fun i hi=>by simpa using hi)
  exact key _ (Nat.le_refl _)
 refine ⟨ext,(o3 _ (Nat.le_refl _)).1,fun base φ w a w1 w2 du hf=>wp_region_draw fun t=>?_⟩
 have ru:Rel E base (hs 0) φ w:=du.rel
 have go:∀(md:Region.Mode) (t:Nat),nL md ops→wpOps E.P ops (Post E base φ w aq (hs 0) W .normal ⟨ts ops.size,hs ops.size,d,w2⟩) (Region.linearise md ops t) a { w with drawn:=w.drawn+1 }:=by
  intro md t hp
  refine wpAny_sound ops.size t _ a _ ?_
  refine T5 (il:=φ) (w0:=w) (W:=W) (base:=base) yh hp sG (fun aU a' w' h1 h2 h3=>⟨aU,h1,rfl,h2,h3⟩) ops.size _ φ a _ (by simp) ?_ (fun k o ho hl=>?_) ?_
  ·unfold q6
   have:=List.countP_le_length (p:=fun i=>!(Array.replicate ops.size false).getD i true) (l:=List.range ops.size)
   simpa using this
  ·have hk:=(Array.getElem?_eq_some_iff.1 ho).1
   simp [Array.getD_eq_getD_getElem?,hk] at hl
  ·refine .init yh (fun k hk=>by simp [Array.getD_eq_getD_getElem?,hk]) ?_ du.hH du.iT hf ⟨rfl,rfl,rfl,Nat.le_refl _,fun _ _ _=>rfl⟩
   exact ⟨ru.bs,fun i l o h1 h2 h3=>(ru.blocks i l o h1 h2 h3).same rfl,fun i l h1 h2 h3=>ru.lt i l h1 h2 h3,ru.inj,ru.iL⟩
 unfold Region.schedule
 split
 ·exact go .any t (aeF jC)
 ·rename_i hm
  have JC:Region.departs ops=true:=by
   cases hd:Region.departs ops with
   |true=>rfl
   |false=>rw [hd] at hm;simp at hm
  rw [JC] at Aq
  simp only [Bool.not_true,Bool.false_or,dI] at Aq
  split
  ·exact go .text _ (kB (Nat.eq_of_beq_eq_true Aq.1))
  ·exact go .gc _ (kB (Nat.eq_of_beq_eq_true Aq.2))
theorem Lc {ops:Array Oper} (hro:qX ops=true):∀ o∈ops.toList,xG o.op=false:=by
 unfold qX at hro
 simp only [dI] at hro
 obtain ⟨⟨jC,r3⟩,Aq⟩:=hro
 intro o ho
 unfold Gi at r3
 rw [Array.all_eq_true_iff_forall_mem] at r3
 have:=r3 o (by simpa using ho)
 cases hop:o.op <;> rw [hop] at this <;> first
  |rfl
  |cases this
theorem XG {E:Env} (ok:E.eU) {call:Call} (hc:mZ E call):HZ E call:=by
 intro aq id ops s s' hr wf cu
 simp only [An,cond_true] at hr
 cases hro:qX ops with
 |false=>rw [hro] at hr;cases hr
 |true=>
 rw [hro] at hr
 simp only [cond_true] at hr
 split at hr
 rotate_left
 ·cases hr
 rename_i s1 fs er
 cases hi:indep (Region.before ops) fs with
 |false=>rw [hi] at hr;cases hr
 |true=>
 rw [hi] at hr
 simp only [cond_true,bx,bG,true_and] at hr
 subst hr
 obtain ⟨hs,ts,jX,ft,W,a1,a2,a3,a4,a5,a6,a7,a8,a9⟩:=Rw _ _ _ _ _ er (Lc hro)
 simp only [Array.length_toList] at a3 a4 a7 a8
 simp only [List.reverse_nil,List.nil_append] at a8
 subst a8
 obtain ⟨k1,k2,jh⟩:=OT (id:=id) (W:=W) ok hro hi a7 (fun j o ho _ _=>⟨call,hc,a9 j o ho⟩) (by rw [a1];exact wf) (by rw [a1];exact cu)
 rw [a1,a3] at k1
 rw [a3] at k2
 refine ⟨W,a6,k1,k2,fun base φ w a du hf=>?_⟩
 have:=jh base φ w a s.w s1.w (by rw [a1,a2];exact du) (by rw [a1,a3];exact hf)
 rw [a1,a3,a4,← a5] at this
 exact this
theorem Eo {E:Env} (hS:Sound E) (f:Nat):mZ E (rg E f):=(Pa hS (fun call hc=>XG hS.ok hc) f).2
def lK (S T:b5):Prop:=∀ t v,S.get t=some v→T.get t=some v
theorem lK.refl (T:b5):lK T T:=fun _ _ h=>h
theorem g6.sub {φ:bA} {S T:b5} {tm:Array Value} {aq:Nat} (h:lK S T) (ht:g6 φ T tm aq):g6 φ S tm aq:=⟨ht.1,fun t v hv=>ht.2 t v (h t v hv)⟩
theorem Step.norm {φ:bA} {W V:List Nat} {w w':World} {a b:Nat} (h:Step φ W w w') (hf:fW φ a b) (hw:∀ q∈W,q∈V∨(a≤q∧q<b)):Step φ V w w':=
 ⟨h.os,h.tape,h.output,h.size,fun B hB hk=>h.keep B hB fun j hj l hl=>by
  rcases hw j hj with h1 |h1
  ·exact hk j h1 l hl
  ·rw [hf j h1.1 h1.2] at hl;cases hl⟩
theorem Out.norm {E:Env} {base:Nat} {φ:bA} {w:World} {H H':U} {W V:List Nat} {aU:bA} {w':World} (h:Out E base φ w H H' W aU w') (hf:fW φ H.n H'.n) (hw:∀ q∈W,q∈V∨(H.n≤q∧q<H'.n)) :
  Out E base φ w H H' V aU w':=
 ⟨h.ext,h.rel,h.step.norm hf hw,fun i l h1 h2 h3=>by
  rcases h.fresh i l h1 h2 h3 with hb |⟨j,hj,m,hjn,hr⟩
  ·exact .inl hb
  ·rcases hw j hj with h4 |h4
   ·exact .inr ⟨j,h4,m,hjn,hr⟩
   ·omega⟩
theorem cX.norm {H H':U} {W V:List Nat} (h:cX W H H') (hw:∀ q∈W,q∈V∨(H.n≤q∧q<H'.n)):cX V H H':=
 ⟨h.n,fun i hi hn=>h.keep i hi fun hm=>by
  rcases hw i hm with h1 |h1
  ·exact hn h1
  ·omega,h.live,h.fG⟩
def c7 (E:Env) (aq:Nat) (c:Code) (T:b5) (H:U) (d:List (Value×List Value)) (x:eY) (cO:b5) (H':U) (d':List (Value×List Value)) (W:List Nat):Prop:=
 cz H→E.ej≤H.n→cX W H H'∧cz H'∧∀(base:Nat) (φ:bA) (w:World) (a:Act),sj E base φ w aq ⟨T,H,d,[]⟩ a→fW φ H.n H'.n→c.wp E.P (Post E base φ w aq H W x ⟨cO,H',d',[]⟩) a w
def oh (E:Env) (n aq:Nat) (c:Code) (T:b5) (H:U) (d:List (Value×List Value)) (x:eY) (cO:b5) (H':U) (d':List (Value×List Value)) (W:List Nat):Prop:=
 cz H→E.ej≤H.n→cX W H H'∧cz H'∧∀(base:Nat) (φ:bA) (w:World) (a:Act),sj E base φ w aq ⟨T,H,d,[]⟩ a→fW φ H.n H'.n→Code.rounds E.P c (Post E base φ w aq H W x ⟨cO,H',d',[]⟩) n a w
def bE (E:Env) (g:FuncId) (args:List Value) (H:U) (r:mX) (H':U) (W:List Nat):Prop:=cz H→E.ej≤H.n→tx E g args H r H' W
section
variable {E:Env} {aq:Nat} {c:Code} {T cO:b5} {H H':U} {d d':List (Value×List Value)} {x:eY} {W:List Nat}
theorem c7.post (h:c7 E aq c T H d x cO H' d' W) {jV:b5} {V:List Nat} (ht:lK jV cO) (hw:∀ q∈W,q∈V∨(H.n≤q∧q<H'.n)):c7 E aq c T H d x jV H' d' V:=fun wf cu=>by
 obtain ⟨h1,h2,h3⟩:=h wf cu
 exact ⟨h1.norm hw,h2,fun base φ w a hs hf=>wp_mono (h3 base φ w a hs hf) fun e a1 w1 ⟨aU,b6,he,oB,er⟩=>⟨aU,b6.norm hf hw,he,oB.sub ht,er⟩⟩
theorem oh.post {n:Nat} (h:oh E n aq c T H d x cO H' d' W) {jV:b5} {V:List Nat} (ht:lK jV cO) (hw:∀ q∈W,q∈V∨(H.n≤q∧q<H'.n)):oh E n aq c T H d x jV H' d' V:=fun wf cu=>by
 obtain ⟨h1,h2,h3⟩:=h wf cu
 exact ⟨h1.norm hw,h2,fun base φ w a hs hf=>GU (fun e a1 w1 ⟨aU,b6,he,oB,er⟩=>⟨aU,b6.norm hf hw,he,oB.sub ht,er⟩) n a w (h3 base φ w a hs hf)⟩
theorem c7.pre (h:c7 E aq c T H d x cO H' d' W) {S:b5} (hs:lK T S):c7 E aq c S H d x cO H' d' W:=fun wf cu=>by
 obtain ⟨h1,h2,h3⟩:=h wf cu
 exact ⟨h1,h2,fun base φ w a du hf=>h3 base φ w a ⟨du.rel,du.hH.sub hs,du.iT⟩ hf⟩
theorem Post.EQ {base:Nat} {φ e4:bA} {w w1:World} {aq:Nat} {H H1 H2:U} {jV:b5} {d2:List (Value×List Value)} {W V:List Nat} {x:eY} {e:Exit} {a:Act} {w2:World} (x1:cX W H H1) (au:cX V H1 H2)
  (b6:Out E base φ w H H1 W e4 w1) (hf:fW φ H.n H2.n) (h:Post E base e4 w1 aq H1 V x ⟨jV,H2,d2,[]⟩ e a w2):Post E base φ w aq H (W++V) x ⟨jV,H2,d2,[]⟩ e a w2:=by
 obtain ⟨o8,h1,h2,h3,h4⟩:=h
 exact ⟨o8,b6.trans x1 au h1 hf,h2,h3,h4⟩
theorem c7.skip:c7 E aq .skip T H d .normal T H d []:=fun wf cu=>⟨cX.refl ..,wf,fun base φ w a h hf=>wp_skip ⟨φ,Out.refl [] h.rel,rfl,h.hH,h.iT⟩⟩
theorem c7.label {l:Nat}:c7 E aq (.label l) T H d .normal T H d []:=fun wf cu=>⟨cX.refl ..,wf,fun base φ w a h hf=>wp_label ⟨φ,Out.refl [] h.rel,rfl,h.hH,h.iT⟩⟩
theorem c7.exit {id:Nat}:c7 E aq (.exit id) T H d (.exit id) T H d []:=fun wf cu=>⟨cX.refl ..,wf,fun base φ w a h hf=>wp_exit ⟨φ,Out.refl [] h.rel,rfl,h.hH,h.iT⟩⟩
theorem c7.goto {l:Nat}:c7 E aq (.goto l) T H d (.goto l) T H d []:=fun wf cu=>⟨cX.refl ..,wf,fun base φ w a h hf=>wp_goto ⟨φ,Out.refl [] h.rel,rfl,h.hH,h.iT⟩⟩
theorem c7.ret:c7 E aq .ret T H d .ret T H d []:=fun wf cu=>⟨cX.refl ..,wf,fun base φ w a h hf=>wp_ret ⟨φ,Out.refl [] h.rel,rfl,h.hH,h.iT⟩⟩
theorem c7.seq {c1 c2:Code} {fT:b5} {H1:U} {d1:List (Value×List Value)} {V:List Nat} (h:c7 E aq c1 T H d .normal fT H1 d1 W) (k:c7 E aq c2 fT H1 d1 x cO H' d' V):c7 E aq (.seq c1 c2) T H d x cO H' d' (W++V):=fun wf cu=>by
 obtain ⟨x1,fD,k1⟩:=h wf cu
 have j6:=x1.n
 obtain ⟨au,kG,k2⟩:=k fD D
 have hn2:=au.n
 refine ⟨x1.trans au,kG,fun base φ w a du hf=>wp_seq (wp_mono (k1 base φ w a du (hf.first hn2)) fun e a1 w1 hp=>?_)⟩
 obtain ⟨e4,b6,he,ht,er⟩:=hp
 have he:e=.normal:=he
 subst he
 exact wp_mono (k2 base e4 w1 a1 ⟨b6.rel,ht,er⟩ (hf.next b6 j6)) fun e a2 w2 hp=>Post.EQ x1 au b6 hf hp
theorem A1.Rn {φ:bA} {e:Exit} (h:A1 φ x e) (hx:x≠.normal):e≠.normal:=fun e'=>by
 subst e'
 cases x with
 |normal=>exact hx rfl
 |panic v=>obtain ⟨u,hu,_⟩:=h;cases hu
 |_=>cases h
theorem c7.agw {c1 c2:Code} (h:c7 E aq c1 T H d x cO H' d' W) (hx:x≠.normal):c7 E aq (.seq c1 c2) T H d x cO H' d' W:=fun wf cu=>by
 obtain ⟨x1,fD,k1⟩:=h wf cu
 refine ⟨x1,fD,fun base φ w a du hf=>wp_seq (wp_mono (k1 base φ w a du hf) fun e a1 w1 hp=>?_)⟩
 obtain ⟨e4,b6,he,ht,er⟩:=hp
 have:=A1.Rn he hx
 cases e <;> first
  |exact absurd rfl this
  |exact ⟨e4,b6,he,ht,er⟩
theorem c7.cond {o:Operand} {b:Bool} {c1 c2:Code} (hb:ev E T o=some (.bool b)) (h:c7 E aq (if b then c1 else c2) T H d x cO H' d' W):c7 E aq (.cond o c1 c2) T H d x cO H' d' W:=fun wf cu=>by
 obtain ⟨x1,fD,k1⟩:=h wf cu
 refine ⟨x1,fD,fun base φ w a du hf=>?_⟩
 have:=(du.hH.ev (H:=H) (w:=w) du.rel.iL o _ hb).ow rfl
 cases b with
 |true=>exact wp_cond_true this (k1 base φ w a du hf)
 |false=>exact wp_cond_false this (k1 base φ w a du hf)
theorem c7.Vc {id:Nat} {c1:Code} (h:c7 E aq c1 T H d (.exit id) cO H' d' W):c7 E aq (.block id c1) T H d .normal cO H' d' W:=fun wf cu=>by
 obtain ⟨x1,fD,k1⟩:=h wf cu
 refine ⟨x1,fD,fun base φ w a du hf=>wp_block (wp_mono (k1 base φ w a du hf) fun e a1 w1 hp=>?_)⟩
 obtain ⟨e4,b6,he,ht,er⟩:=hp
 have he:e=.exit id:=he
 subst he
 simp only [Exit.inBlock,if_true]
 exact ⟨e4,b6,rfl,ht,er⟩
theorem c7.block {id:Nat} {c1:Code} (h:c7 E aq c1 T H d x cO H' d' W) (hx:x≠.exit id):c7 E aq (.block id c1) T H d x cO H' d' W:=fun wf cu=>by
 obtain ⟨x1,fD,k1⟩:=h wf cu
 refine ⟨x1,fD,fun base φ w a du hf=>wp_block (wp_mono (k1 base φ w a du hf) fun e a1 w1 hp=>?_)⟩
 obtain ⟨e4,b6,he,ht,er⟩:=hp
 cases e with
 |exit id'=>
  have:id'≠id:=fun e'=>by
   subst e'
   cases x with
   |exit id2=>have he:Exit.exit id'=.exit id2:=he;injection he with he;exact hx (by rw [he])
   |panic v=>obtain ⟨u,hu,_⟩:=he;cases hu
   |_=>cases he
  simp only [Exit.inBlock,this,if_false]
  exact ⟨e4,b6,he,ht,er⟩
 |_=>exact ⟨e4,b6,he,ht,er⟩
theorem c7.scope {c1:Code} (h:c7 E aq c1 T H d x cO H' d' W) (hx:∀ l,x≠.goto l):c7 E aq (.scope c1) T H d x cO H' d' W:=fun wf cu=>by
 obtain ⟨x1,fD,k1⟩:=h wf cu
 refine ⟨x1,fD,fun base φ w a du hf=>wp_scope_straight (wp_mono (k1 base φ w a du hf) fun e a1 w1 hp=>?_)⟩
 obtain ⟨e4,b6,he,ht,er⟩:=hp
 cases e with
 |goto l=>
  exfalso
  cases x with
  |goto l2=>exact hx l2 rfl
  |panic v=>obtain ⟨u,hu,_⟩:=he;cases hu
  |_=>cases he
 |_=>exact ⟨e4,b6,he,ht,er⟩
theorem c7.agt {c1 rest:Code} {l:Nat} {fT:b5} {H1:U} {d1:List (Value×List Value)} {V:List Nat} (h:c7 E aq c1 T H d (.goto l) fT H1 d1 W) (hf:findLabel c1 l=some rest) (k:c7 E aq rest fT H1 d1 x cO H' d' V) (hx:∀ l,x≠.goto l) :
  c7 E aq (.scope c1) T H d x cO H' d' (W++V):=fun wf cu=>by
 obtain ⟨x1,fD,k1⟩:=h wf cu
 have j6:=x1.n
 obtain ⟨au,kG,k2⟩:=k fD D
 have hn2:=au.n
 refine ⟨x1.trans au,kG,fun base φ w a du hf'=>?_⟩
 have adz:∀ e a1 w1,Post E base φ w aq H (W++V) x ⟨cO,H',d',[]⟩ e a1 w1→Exit.noGoto (Post E base φ w aq H (W++V) x ⟨cO,H',d',[]⟩) e a1 w1:=by
  intro e a1 w1 hp
  obtain ⟨e4,b6,he,ht,er⟩:=hp
  cases e with
  |goto l=>
   exfalso
   cases x with
   |goto l2=>exact hx l2 rfl
   |panic v=>obtain ⟨u,hu,_⟩:=he;cases hu
   |_=>cases he
  |_=>exact ⟨e4,b6,he,ht,er⟩
 refine wp_scope_jumps l (fun a1 w1=>rest.wp E.P (Exit.noGoto (Post E base φ w aq H (W++V) x ⟨cO,H',d',[]⟩)) a1 w1) (fun _ _=>0) hf ?_ ?_
 ·refine wp_mono (k1 base φ w a du (hf'.first hn2)) fun e a1 w1 hp=>?_
  obtain ⟨e4,b6,he,ht,er⟩:=hp
  have he:e=.goto l:=he
  subst he
  exact ⟨rfl,wp_mono (k2 base e4 w1 a1 ⟨b6.rel,ht,er⟩ (hf'.next b6 j6)) fun e a2 w2 hp=>adz e a2 w2 (Post.EQ x1 au b6 hf' hp)⟩
 ·intro a1 w1 hj
  refine wp_mono hj fun e a2 w2 hp=>?_
  cases e with
  |goto l=>exact hp.elim
  |_=>exact hp
theorem oh.IC {n:Nat} (h:oh E n aq c T H d x cO H' d' W):c7 E aq (.loop c) T H d x cO H' d' W:=fun wf cu=>by
 obtain ⟨x1,fD,k1⟩:=h wf cu
 exact ⟨x1,fD,fun base φ w a du hf=>wp_loop_rounds n (k1 base φ w a du hf)⟩
theorem oh.next {n:Nat} {fT:b5} {H1:U} {d1:List (Value×List Value)} {V:List Nat} (h:c7 E aq c T H d .normal fT H1 d1 W) (k:oh E n aq c fT H1 d1 x cO H' d' V):oh E (n+1) aq c T H d x cO H' d' (W++V):=fun wf cu=>by
 obtain ⟨x1,fD,k1⟩:=h wf cu
 have j6:=x1.n
 obtain ⟨au,kG,k2⟩:=k fD D
 have hn2:=au.n
 refine ⟨x1.trans au,kG,fun base φ w a du hf=>?_⟩
 rw [rounds_succ]
 refine wp_mono (k1 base φ w a du (hf.first hn2)) fun e a1 w1 hp=>?_
 obtain ⟨e4,b6,he,ht,er⟩:=hp
 have he:e=.normal:=he
 subst he
 exact GU (fun e a2 w2 hp=>Post.EQ x1 au b6 hf hp) n a1 w1 (k2 base e4 w1 a1 ⟨b6.rel,ht,er⟩ (hf.next b6 j6))
theorem oh.last (h:c7 E aq c T H d x cO H' d' W) (hx:x≠.normal):oh E 1 aq c T H d x cO H' d' W:=fun wf cu=>by
 obtain ⟨x1,fD,k1⟩:=h wf cu
 refine ⟨x1,fD,fun base φ w a du hf=>?_⟩
 rw [rounds_succ]
 refine wp_mono (k1 base φ w a du hf) fun e a1 w1 hp=>?_
 obtain ⟨e4,b6,he,ht,er⟩:=hp
 have:=A1.Rn he hx
 cases e <;> first
  |exact absurd rfl this
  |exact ⟨e4,b6,he,ht,er⟩
theorem bE.norm {g:FuncId} {args:List Value} {r:mX} {V:List Nat} (h:bE E g args H r H' W) (hw:∀ q∈W,q∈V∨(H.n≤q∧q<H'.n)):bE E g args H r H' V:=fun wf cu=>by
 obtain ⟨h1,h2,h3⟩:=h wf cu
 refine ⟨h1.norm hw,h2,fun base φ w args' cC hf hl=>?_⟩
 have post:∀ e w',nJ E base φ w H H' W r e w'→nJ E base φ w H H' V r e w':=fun e w' ⟨aU,b6,he⟩=>⟨aU,b6.norm hf hw,he⟩
 rcases h3 base φ w args' cC hf hl with ⟨he,hc⟩ |⟨v,w',he,hv⟩
 ·exact .inl ⟨he,hc.mono post⟩
 ·exact .inr ⟨v,w',he,post _ _ hv⟩
theorem bE.Lj (ok:E.eU) {g:FuncId} {fn:Func} {args:List Value} {v:Value} (hf:E.func g=some fn) (hname:(fn.name== "runtime.NumGoroutine")=false) (hb:fn.body=some c) (hn:Nat.ble args.length fn.ntmps=true)
  (hx:x=.normal∨x=.ret) (h:c7 E fn.ntmps c (mj args 0 .nil) H [] x cO H' [] W) (hr:rZ E fn ⟨cO,H',[],[]⟩=some v):bE E g args H (.ret v) H' W:=fun wf cu=>by
 obtain ⟨x1,fD,k1⟩:=h wf cu
 refine ⟨x1,fD,fun base φ w args' cC hfr hlr=>.inl ⟨?_,?_⟩⟩
 ·unfold callFunc
  rw [bt (run_program w)]
  simp only [ok.func _ _ hf,hname,Bool.false_eq_true,if_false,hb,Option.isNone_some]
  rfl
 ·refine calls_of_wp (ok.func _ _ hf) hb (wp_mono (k1 base φ w { tmps:=args'.toArray++Array.replicate (fn.ntmps-args'.toArray.size) undef,defers:=[] } ⟨cC,Mw hlr (Nat.le_of_ble_eq_true hn),.nil⟩ hfr) fun e a1 w1 hp=>?_)
  obtain ⟨aU,b6,he,oB,er⟩:=hp
  have er:a1.defers=[]:=by
   have er:jG aU [] a1.defers:=er
   cases hd:a1.defers with
   |nil=>rfl
   |cons _ _=>rw [hd] at er;cases er
  obtain ⟨y,hy,BV⟩:=L4 ok fD b6.rel oB hr
  rcases hx with rfl |rfl
  ·have he:e=.normal:=he
   subst he
   exact ⟨er,y,BV,aU,b6,y,rfl,hy⟩
  ·have he:e=.ret:=he
   subst he
   exact ⟨er,y,BV,aU,b6,y,rfl,hy⟩
end
inductive Hint where
 |auto (n:Nat)
 |val (v:Value) (h:U) (W R:List Nat)
 |call (v:Value) (h:U) (W:List Nat)
 |dec (b:Bool)
 |as (v:Value)
 |ak
 |want (b:Bool)
 |Vg (b:Bool)
 |loop (live:List Tmp) (x:eY) (T:b5) (h:U) (W:List Nat)
 |block (id:Nat) (live:List Tmp) (x:eY) (T:b5) (h:U) (W:List Nat)
 |piece (k:Nat) (live:List Tmp) (x:eY) (T:b5) (h:U) (W:List Nat)
def Lz:List Hint→Option (List Tmp×eY×b5×U×List Nat×List Hint)
 |.piece 0 live x T h W::hs=>some (live,x,T,h,W,hs)
 |_=>none
def qj:List Hint→List Hint
 |.piece (k+1) live x T h W::hs=>.piece k live x T h W::hs
 |hs=>hs
def fU:List Prop→Prop
 |[]=>True
 |p::ps=>p∧fU ps
theorem m5 {a b:List Prop}:fU (a++b)↔fU a∧fU b:=by
 induction a with
 |nil=>simp [fU]
 |cons p a ih=>simp only [List.cons_append,fU,ih,and_assoc]
def le:Call:=fun _ _ _=>none
abbrev jw:=List (Value×List Value)
def PT:Op→Bool
 |.call { callee:=.builtin _,.. }=>false
 |.call _=>true
 |_=>false
def Od:Op→Option Go.Call
 |.call c=>some c
 |_=>none
def ac (s:ByteArray) (i:Int):Int:=(s.data[i.toNat]?.getD 0).toNat
def EF (E:Env) (op:BinOp) (t:TypeId) (x y:Operand) (a b:Value):Option Value:=
 bif ground a&&ground b then (match e3 E.P (do eqGuard op t x y a b;binOp op t a b) with |some v=>bif ground v then some v else none |none=>none) else none
def Bo (E:Env) (op:BinOp) (t:TypeId) (x y:Value):Option Value:=
 match op with
 |.eql=>match sB E t x y with |some b=>some (.bool b) |none=>none
 |.neq=>match sB E t x y with |some b=>some (.bool (!b)) |none=>none
 |_=>none
def IK (E:Env) (o:Oper) (T:b5) (H:U) (d:jw) (v:Value) (h:U) (W R:List Nat):List Prop×Value×U×List Nat×List Nat:=
 match o.op with
 |.load t x=>match ev E T x with
  |some (.pointer (some ⟨b,off,none⟩))=>([ay E t b off H=some v],v,H,[],[b])
  |_=>([False],v,H,W,R)
 |.store t x y=>match ev E T x,ev E T y with
  |some (.pointer (some ⟨b,off,none⟩)),some u=>([bp E t b off u H=some h],cZ,h,[b],[b])
  |_,_=>([False],v,H,W,R)
 |.call { callee:=.builtin .append,args,argTypes }=>match kP E T args.toList with
  |some [s,x]=>([eW E argTypes s x H=some (v,h,W,R)],v,h,W,R)
  |_=>([False],v,H,W,R)
 |.call { callee:=.builtin .copy,args,argTypes }=>match kP E T args.toList with
  |some [s,x]=>([qC E argTypes s x H=some (v,h,W,R)],v,h,W,R)
  |_=>([False],v,H,W,R)
 |.call { callee:=.builtin .clear,args,argTypes }=>match kP E T args.toList with
  |some [x]=>([w8 E argTypes x H=some (v,h,W,R)],v,h,W,R)
  |_=>([False],v,H,W,R)
 |.call { callee:=.builtin .unsafeSliceData,args,.. }=>match kP E T args.toList with
  |some [x]=>([yj x=some v],v,H,[],[])
  |_=>([False],v,H,W,R)
 |.call { callee:=.builtin .unsafeString,args,argTypes }=>match kP E T args.toList with
  |some [x,l]=>([yk E argTypes x l H=some (v,h,W,R)],v,h,W,R)
  |_=>([False],v,H,W,R)
 |.makeSlice t l c=>match ev E T l,ev E T c with
  |some l,some c=>([xP E t l c H=some (v,h,W,R)],v,h,W,R)
  |_,_=>([False],v,H,W,R)
 |.lookup t m k ok=>match ev E T m,ev E T k with
  |some m,some k=>([qN E t m k ok H=some (v,h,W,R)],v,h,W,R)
  |_,_=>([False],v,H,W,R)
 |.mapUpdate t m k y=>match ev E T m,ev E T k,ev E T y with
  |some m,some k,some y=>([jO E t m k y H=some (v,h,W,R)],v,h,W,R)
  |_,_,_=>([False],v,H,W,R)
 |.insert t m k y=>match ev E T m,ev E T k,ev E T y with
  |some m,some k,some y=>([jO E t m k y H=some (v,h,W,R)],v,h,W,R)
  |_,_,_=>([False],v,H,W,R)
 |.slice t x l hi m=>match ev E T x,lU E T l,lU E T hi,lU E T m with
  |some (.pointer p),some l,some hi,some m=>([ge E t (.pointer p) l hi m=some v],v,H,[],[])
  |some (.slice p n c),some l,some hi,some m=>([ge E t (.slice p n c) l hi m=some v],v,H,[],[])
  |_,_,_,_=>([False],v,H,W,R)
 |.indexAddr t x i=>match ev E T x,ev E T i with
  |some (.slice p n c),some i=>([fE E t (.slice p n c) i=some v],v,H,[],[])
  |_,_=>([fK E le o T H d=some (.val v h d W (some R))],v,h,W,R)
 |.binOp op t x y _=>match ev E T x,ev E T y with
  |some (.agg a),some (.agg b)=>([EF E op t x y (.agg a) (.agg b)=some v],v,H,[],[])
  |some (.pointer (some p)),some (.pointer (some q))=>([Bo E op t (.pointer (some p)) (.pointer (some q))=some v],v,H,[],[])
  |_,_=>([fK E le o T H d=some (.val v h d W (some R))],v,h,W,R)
 |.convert s t x=>match k6 E T o,ev E T x with
  |none,some (.slice p n c)=>([lO E s t (.slice p n c) H=some (v,h,W,R)],v,h,W,R)
  |none,some (.pointer p)=>([lO E s t (.pointer p) H=some (v,h,W,R)],v,h,W,R)
  |_,_=>([fK E le o T H d=some (.val v h d W (some R))],v,h,W,R)
 |_=>([fK E le o T H d=some (.val v h d W (some R))],v,h,W,R)
def IF (E:Env) (o:Oper) (T:b5):Option (List Prop×Value):=
 match o.op with
 |.index t x i=>match ev E T x,ev E T i,E.ul t with
  |some (.string s),some (.int _ n),some .string=>some ([0≤n,n<(s.size:Int)],.int .u8 (ac s n))
  |_,_,_=>none
 |.indexAddr t x i=>match ev E T x,ev E T i,E.ul t with
  |some (.pointer (some ⟨b,off,none⟩)),some (.int _ i),some (.array n e)=>match E.size e with
   |some sz=>some ([0≤i,i<(n:Int)],.pointer (some ⟨b,off+i.toNat*sz,none⟩))
   |none=>none
  |some (.slice (some ⟨b,off,none⟩) n _),some (.int _ i),some (.slice e)=>match E.size e with
   |some sz=>some ([0≤i,i<(n:Int)],.pointer (some ⟨b,off+i.toNat*sz,none⟩))
   |none=>none
  |_,_,_=>none
 |.slice t x l h none=>match ev E T x,lU E T l,lU E T h,E.ul t with
  |some (.string s),some none,some none,some .string=>some ([],.string (s.extract 0 s.size))
  |some (.string s),some (some (.int _ l)),some none,some .string=>some ([0≤l,l≤(s.size:Int)],.string (s.extract l.toNat s.size))
  |some (.string s),some none,some (some (.int _ h)),some .string=>some ([0≤h,h≤(s.size:Int)],.string (s.extract 0 h.toNat))
  |some (.string s),some (some (.int _ l)),some (some (.int _ h)),some .string=>some ([0≤l,l≤h,h≤(s.size:Int)],.string (s.extract l.toNat h.toNat))
  |_,_,_,_=>none
 |_=>none
def ID (E:Env) (T:b5) (op:BinOp) (x y:Operand):Option (List Prop×Value):=
 match op,ev E T x,ev E T y with
 |.shl,some (.int k a),some (.int _ b)=>some ([0≤b],.int k (k.wrap (a*2 ^ (min b.toNat k.bits))))
 |.shr,some (.int k a),some (.int _ b)=>some ([0≤b],.int k (a.fdiv (2 ^ (min b.toNat k.bits))))
 |.quo,some (.int k a),some (.int k' b)=>bif decide (k=k') then some ([b≠0],.int k (k.wrap (a.tdiv b))) else none
 |.rem,some (.int k a),some (.int k' b)=>bif decide (k=k') then some ([b≠0],.int k (a.tmod b)) else none
 |.mul,some (.float k a),some (.float k' b)=>bif decide (k=k') then some ([(k.format.mul a b).isSome=true],.float k ((k.format.mul a b).getD 0)) else none
 |.quo,some (.float k a),some (.float k' b)=>bif decide (k=k') then some ([(k.format.div a b).isSome=true],.float k ((k.format.div a b).getD 0)) else none
 |.add,some (.string a),some (.string b)=>some ([a.size+b.size≤1000000000],.string (a++b))
 |_,_,_=>none
def IE (E:Env) (o:Oper) (T:b5):Option (List Prop×Value):=
 match o.op with
 |.binOp op _ x y _=>ID E T op x y
 |_=>IF E o T
def Hm (E:Env) (o:Oper) (T:b5) (H:U) (d:jw):List Hint→Option (List Prop×Value×U×jw×List Nat×Option (List Nat)×List Hint)
 |.auto n::hs=>match fK E le o T H d with
  |some (.val v h d' w r)=>some ([],v,h,d',w,r,match n with |0=>hs |n+1=>.auto n::hs)
  |_=>none
 |.dec b::hs=>match fK E le o T H d with
  |some (.val (.bool x) h d' w r)=>some ([x=b],.bool b,h,d',w,r,hs)
  |_=>none
 |.as u::hs=>match fK E le o T H d with
  |some (.val v h d' w r)=>some ([v=u],u,h,d',w,r,hs)
  |_=>none
 |.ak::hs=>match IE E o T with
  |some (Ps,v)=>some (Ps,v,H,d,[],some [],hs)
  |none=>none
 |.val v h W R::hs=>match IK E o T H d v h W R with
  |(Ps,v,h,W,R)=>some (Ps,v,h,d,W,some R,hs)
 |.call v h W::hs=>bif PT o.op then match Od o.op with
  |some c=>match GR E T c with
   |some (g,args)=>some ([bE E g args H (.ret v) h W],v,h,d,W,none,hs)
   |none=>none
  |none=>none else none
 |_=>none
def Hn (ops:Array Oper) (T:b5) (o:Oper):List Hint→Option (List Prop×Bool×List Hint)
 |.want b::hs=>some ([uM ops T o=some b],b,hs)
 |hs=>match uM ops T o with
  |some b=>some ([],b,hs)
  |none=>none
def AH (E:Env) (aq:Nat) (ops:Array Oper):List Oper→b5→U→jw→List Hint→Option (List Prop×b5×U×jw×List Nat×List Hint)
 |[],T,H,d,hs=>some ([],T,H,d,[],hs)
 |o::rest,T,H,d,hs=>match Hn ops T o hs with
  |some (pe,true,hs)=>match Hm E o T H d hs with
   |some (yQ,v,H,d,W,_,hs)=>match me T aq o.dst v with
    |some T=>match AH E aq ops rest T H d hs with
     |some (m4,T,H,d,V,hs)=>some (pe++(yQ++m4),T,H,d,W++V,hs)
     |none=>none
    |none=>none
   |none=>none
  |some (pe,false,hs)=>match me T aq o.dst cZ with
   |some T=>match AH E aq ops rest T H d hs with
    |some (m4,T,H,d,V,hs)=>some (pe++m4,T,H,d,V,hs)
    |none=>none
   |none=>none
  |none=>none
abbrev lJ:=iG×List Nat
def Ml (W R:List Nat):List Prop:=W.flatMap fun q=>R.map fun r=>q≠r
def G9 (W:List Nat):Option (List Nat)→List Prop
 |some R=>Ml W R
 |none=>match W with |[]=>[] |_=>[False]
def Io (x y:iG):Bool:=vu x.dst y.looks&&vu y.dst x.looks&&vu x.dst y.dst.toList
def Im (x y:lJ):List Prop:=Ml x.2 y.2++(G9 x.2 y.1.r++(G9 y.2 x.1.r++y.2.map fun q=>q<x.1.lo∨x.1.hi≤q))
def loose (fX:Array Nat) (fs:List lJ):List (lJ×lJ):=
 fs.zipIdx.flatMap fun f=>fs.zipIdx.filterMap fun g=>bif Nat.ble f.2 g.2||(fX.getD f.2 0).testBit g.2 then none else some (g.1,f.1)
def Cu (l:List (lJ×lJ)):Bool:=l.all fun p=>Io p.1.1 p.2.1
def Qw (l:List (lJ×lJ)):List Prop:=l.flatMap fun p=>Im p.1 p.2
theorem ND:∀{l:List Prop},fU l→∀ p∈l,p
 |_::_,h,p,hp=>by
  rcases List.mem_cons.1 hp with rfl |hp
  ·exact h.1
  ·exact ND h.2 p hp
theorem S2 {W R:List Nat} (h:∀ p∈Ml W R,p) {q r:Nat} (hq:q∈W) (hr:r∈R):q≠r:=
 h _ (List.mem_flatMap.2 ⟨q,hq,List.mem_map.2 ⟨r,hr,rfl⟩⟩)
theorem OR {a b:List Nat} (h:∀ q∈a,∀ r∈b,q≠r):xf a b=true:=by
 unfold xf zq
 rw [List.all_eq_true]
 intro q hq
 rw [Bool.not_eq_true',List.any_eq_false]
 intro r hr e
 exact h q hq r hr (Nat.eq_of_beq_eq_true e)
theorem OP {a W:List Nat} {b:Option (List Nat)} (hw:∀ q∈a,q∈W) (h:∀ p∈G9 W b,p):xg a b=true:=by
 cases b with
 |some R=>exact OR fun q hq r hr=>S2 h (hw q hq) hr
 |none=>
  cases W with
  |nil=>
   cases a with
   |nil=>rfl
   |cons q a=>exact absurd (hw q (by simp)) (by simp)
  |cons w W=>exact (h False (by simp [G9])).elim
theorem UO {x y:lJ} (hx:∀ q∈x.1.w,q∈x.2) (hy:∀ q∈y.1.w,q∈y.2) (ht:Io x.1 y.1=true) (hp:∀ p∈Im x y,p):yU x.1 y.1=true:=by
 unfold Im at hp
 unfold yU
 unfold Io at ht
 have h1:xf x.1.w y.1.w=true:=OR fun q hq r hr=>S2 (fun p h=>hp p (List.mem_append_left _ h)) (hx q hq) (hy r hr)
 have h2:xg x.1.w y.1.r=true:=OP hx fun p h=>hp p (List.mem_append_right _ (List.mem_append_left _ h))
 have h3:xg y.1.w x.1.r=true:=OP hy fun p h=>hp p (List.mem_append_right _ (List.mem_append_right _ (List.mem_append_left _ h)))
 have h4:(y.1.w.all fun q=>Nat.blt q x.1.lo||Nat.ble x.1.hi q)=true:=by
  rw [List.all_eq_true]
  intro q hq
  have:=hp _ (List.mem_append_right _ (List.mem_append_right _ (List.mem_append_right _ (List.mem_map.2 ⟨q,hy q hq,rfl⟩))))
  rcases this with h |h
  ·rw [Bool.or_eq_true];exact .inl (by simpa [Nat.blt_eq] using h)
  ·rw [Bool.or_eq_true];exact .inr (Nat.ble_eq_true_of_le h)
 rw [ht,h1,h2,h3,h4];rfl
theorem Qx {fX:Array Nat} {fs:List lJ} (hw:∀ f∈fs,∀ q∈f.1.w,q∈f.2) (ht:Cu (loose fX fs)=true) (hp:fU (Qw (loose fX fs))):indep fX (fs.map (·.1))=true:=by
 unfold indep
 rw [List.all_eq_true]
 intro f hf
 rw [List.all_eq_true]
 intro g hg
 obtain ⟨f,j⟩:=f
 obtain ⟨g,i⟩:=g
 have hmem:∀{f:iG} {j:Nat},(f,j)∈(fs.map (·.1)).zipIdx→∃ F∈fs,F.1=f∧(F,j)∈fs.zipIdx:=fun {f j} h=>by
  rw [List.mem_zipIdx_iff_getElem?] at h
  simp only [List.getElem?_map,Option.map_eq_some_iff] at h
  obtain ⟨F,h1,h2⟩:=h
  exact ⟨F,List.mem_of_getElem? h1,h2,List.mem_zipIdx_iff_getElem?.2 h1⟩
 obtain ⟨F,hF,rfl,YG⟩:=hmem hf
 obtain ⟨K,hK,rfl,YH⟩:=hmem hg
 simp only
 cases hb:(Nat.ble j i||(fX.getD j 0).testBit i) with
 |true=>rfl
 |false=>
  rw [Bool.false_or]
  have hl:(K,F)∈loose fX fs:=List.mem_flatMap.2 ⟨_,YG,List.mem_filterMap.2 ⟨_,YH,by simp only [hb,cond_false]⟩⟩
  unfold Cu at ht
  rw [List.all_eq_true] at ht
  exact UO (hw K hK) (hw F hF) (ht _ hl) fun p h=>ND hp p (List.mem_flatMap.2 ⟨_,hl,h⟩)
def KM (l:List (lJ×lJ)):List Prop:=bif Cu l then [] else [False]
theorem Qv {l:List (lJ×lJ)} (h:fU (KM l)):Cu l=true:=by
 unfold KM at h
 cases e:Cu l with
 |true=>rfl
 |false=>rw [e] at h;exact h.1.elim
def T3 (H H1:U) (W:List Nat):List Prop:=match W with
 |[]=>[]
 |_=>[bZ H H1 W=true]
theorem aiC {H H1:U} {W:List Nat} (h:fU (T3 H H1 W)):bZ H H1 W=true:=by
 cases W with
 |nil=>rfl
 |cons=>exact h.1
def tf (E:Env) (aq:Nat) (ops:Array Oper):List Oper→b5→U→jw→List Hint→Option (List Prop×b5×U×List Nat×List lJ×List Hint)
 |[],T,H,d,hs=>some ([],T,H,[],[],hs)
 |o::rest,T,H,d,hs=>match Hn ops (oP T (mL ops o) .nil) o hs with
  |some (pe,true,hs)=>match Hm E o (oP T (mL ops o) .nil) H d hs with
   |some (yQ,v,H1,_,W,r,hs)=>match me T aq o.dst v with
    |some T=>match tf E aq ops rest T H1 d hs with
     |some (m4,T,H2,V,fs,hs)=>some (pe++(yQ++(T3 H H1 W++m4)),T,H2,W++V,(⟨o.dst,mL ops o,W.filter (Nat.blt · H.n),r,H.n,H1.n⟩,W)::fs,hs)
     |none=>none
    |none=>none
   |none=>none
  |some (pe,false,hs)=>match me T aq o.dst cZ with
   |some T=>match tf E aq ops rest T H d hs with
    |some (m4,T,H2,V,fs,hs)=>some (pe++m4,T,H2,V,(⟨o.dst,mL ops o,[],some [],H.n,H.n⟩,[])::fs,hs)
    |none=>none
   |none=>none
  |none=>none
def bl:List (Tmp×Value)→b5
 |[]=>.nil
 |(t,v)::l=>(bl l).set t v
theorem FH:∀(l:List (Tmp×Value)) (t:Tmp) (v:Value),(bl l).get t=some v→(t,v)∈l
 |[],t,v,h=>by simp [bl,c6.get] at h
 |(t',v')::l,t,v,h=>by
  simp only [bl] at h
  rw [c6.kr] at h
  split at h
  ·rename_i e;subst e;injection h with h;subst h;simp
  ·exact List.mem_cons_of_mem _ (FH l t v h)
def qE (T:b5):List Tmp→List (Tmp×Value)
 |[]=>[]
 |t::ts=>match T.get t with
  |some v=>(t,v)::qE T ts
  |none=>qE T ts
theorem Jk {T:b5}:∀(l:List Tmp) (t:Tmp) (v:Value),(t,v)∈qE T l→T.get t=some v
 |[],t,v,h=>by cases h
 |t'::l,t,v,h=>by
  unfold qE at h
  split at h
  ·rename_i v' hv
   rcases List.mem_cons.1 h with h |h
   ·injection h with h1 h2;subst h1;subst h2;exact hv
   ·exact Jk l t v h
  ·exact Jk l t v h
theorem lK.qE (T:b5) (l:List Tmp):lK (bl (qE T l)) T:=fun t v h=>Jk l t v (FH _ t v h)
def ob (E:Env) (aq:Nat):Nat→Code→b5→U→jw→List Hint→Option (List Prop×eY×b5×U×jw×List Nat×List Hint)
 |0,_,_,_,_,_=>none
 |f+1,c,T,H,d,hs=>match Lz hs with
  |some (live,x,cO,h,W,hs)=>some ([c7 E aq c (bl (qE T live)) H d x cO h d W],x,cO,h,d,W,hs)
  |none=>match c with
  |.skip=>some ([],.normal,T,H,d,[],qj hs)
  |.label _=>some ([],.normal,T,H,d,[],qj hs)
  |.exit id=>some ([],.exit id,T,H,d,[],qj hs)
  |.goto l=>some ([],.goto l,T,H,d,[],qj hs)
  |.ret=>some ([],.ret,T,H,d,[],qj hs)
  |.region _ ops false=>match AH E aq ops ops.toList T H d (qj hs) with
   |some (Ps,T,H,d,W,hs)=>some (Ps,.normal,T,H,d,W,hs)
   |none=>none
  |.region _ ops true=>bif qX ops then match tf E aq ops ops.toList T H d (qj hs) with
   |some (Ps,T,H,W,fs,hs)=>some (KM (loose (Region.before ops) fs)++(Qw (loose (Region.before ops) fs)++Ps),.normal,T,H,d,W,hs)
   |none=>none else none
  |.seq a b=>match ob E aq f a T H d (qj hs) with
   |some (Ps,.normal,T,H,d,W,hs)=>match ob E aq f b T H d hs with
    |some (wV,x,T,H,d,V,hs)=>some (Ps++wV,x,T,H,d,W++V,hs)
    |none=>none
   |r=>r
  |.cond o a b=>match qj hs with
   |.Vg v::hs=>match ob E aq f (bif v then a else b) T H d hs with
    |some (Ps,r)=>some ((ev E T o=some (.bool v))::Ps,r)
    |none=>none
   |hs=>match ev E T o with
    |some (.bool true)=>ob E aq f a T H d hs
    |some (.bool false)=>ob E aq f b T H d hs
    |_=>none
  |.block id c=>match qj hs with
   |.block id' live x cO h W::hs=>bif Nat.beq id id' then some ([c7 E aq (.block id c) (bl (qE T live)) H d x cO h d W],x,cO,h,d,W,hs) else none
   |hs=>match ob E aq f c T H d hs with
    |some (Ps,.exit id',T,H,d,W,hs)=>bif Nat.beq id' id then some (Ps,.normal,T,H,d,W,hs) else some (Ps,.exit id',T,H,d,W,hs)
    |r=>r
  |.scope c=>match ob E aq f c T H d (qj hs) with
   |some (Ps,.goto l,T,H,d,W,hs)=>match findLabel c l with
    |some rest=>match ob E aq f rest T H d hs with
     |some (_,.goto _,_)=>none
     |some (wV,x,T,H,d,V,hs)=>some (Ps++wV,x,T,H,d,W++V,hs)
     |none=>none
    |none=>none
   |r=>r
  |.loop c=>match qj hs with
   |.loop live x cO h W::hs=>some ([c7 E aq (.loop c) (bl (qE T live)) H d x cO h d W],x,cO,h,d,W,hs)
   |_=>none
  |_=>none
section
variable {E:Env}
theorem Vs {g:FuncId} {args:List Value} {H H':U} {v:Value} {W:List Nat} (h:tx E g args H (.ret v) H' W):∃ call,mZ E call∧call g args H=some (.ret v,H',W):=by
 classical
 refine ⟨fun g' a' h'=>if g'=g∧a'=args∧h'=H then some (.ret v,H',W) else none,fun g' a' h' r k V hr wf cu=>?_,if_pos ⟨rfl,rfl,rfl⟩⟩
 simp only at hr
 split at hr
 ·rename_i hc
  obtain ⟨rfl,rfl,rfl⟩:=hc
  simp only [bx,bG] at hr
  obtain ⟨rfl,rfl,rfl⟩:=hr
  exact h
 ·cases hr
theorem z5:mZ E le:=fun g a h r k V hr=>by simp [le] at hr
theorem LH {α β:Type} {P:Program} {s:Sem α} {f:α→Sem β} {a:α} (h:e3 P s=some a):e3 P (s >>= f)=e3 P (f a):=by
 show e3 P (s.bind f)=_
 induction s with
 |pure x=>simp only [e3,bx] at h;subst h;rfl
 |program k ih=>simp only [Sem.bind,e3] at h ⊢;exact ih _ h
 |mark m k ih=>simp only [Sem.bind,e3] at h ⊢;exact ih h
 |_=>simp [e3] at h
theorem WE {o:Oper} {T:b5} {H h h':U} {d:jw} {v v':Value} {W R W' R':List Nat} {Ps:List Prop} (hc:IK E o T H d v h W R=(Ps,v',h',W',R')) (hp:fU Ps):fK E le o T H d=some (.val v' h' d W' (some R')):=by
 obtain ⟨dst,op,ty,pos,after,guard⟩:=o
 unfold IK at hc
 simp only at hc
 split at hc
 ·split at hc
  ·rename_i hx
   injection hc with e1 e2;injection e2 with e2 aM;injection aM with aM aG;injection aG with aG bS
   subst e1;subst e2;subst aM;subst aG;subst bS
   have h1:=hp.1
   simp only [fK,simple,hx,h1]
  ·injection hc with e1;subst e1;exact hp.1.elim
 ·split at hc
  ·rename_i hx hy
   injection hc with e1 e2;injection e2 with e2 aM;injection aM with aM aG;injection aG with aG bS
   subst e1;subst e2;subst aM;subst aG;subst bS
   have h1:=hp.1
   simp only [fK,simple,hx,hy,h1]
  ·injection hc with e1;subst e1;exact hp.1.elim
 ·split at hc
  ·rename_i hx
   injection hc with e1 e2;injection e2 with e2 aM;injection aM with aM aG;injection aG with aG bS
   subst e1;subst e2;subst aM;subst aG;subst bS
   have h1:=hp.1
   simp only [fK,simple,hx,h1]
  ·injection hc with e1;subst e1;exact hp.1.elim
 ·split at hc
  ·rename_i hx
   injection hc with e1 e2;injection e2 with e2 aM;injection aM with aM aG;injection aG with aG bS
   subst e1;subst e2;subst aM;subst aG;subst bS
   have h1:=hp.1
   simp only [fK,simple,hx,h1]
  ·injection hc with e1;subst e1;exact hp.1.elim
 ·split at hc
  ·rename_i hx
   injection hc with e1 e2;injection e2 with e2 aM;injection aM with aM aG;injection aG with aG bS
   subst e1;subst e2;subst aM;subst aG;subst bS
   have h1:=hp.1
   simp only [fK,simple,hx,h1]
  ·injection hc with e1;subst e1;exact hp.1.elim
 ·split at hc
  ·rename_i hx
   injection hc with e1 e2;injection e2 with e2 aM;injection aM with aM aG;injection aG with aG bS
   subst e1;subst e2;subst aM;subst aG;subst bS
   have h1:=hp.1
   simp only [fK,simple,hx,h1]
  ·injection hc with e1;subst e1;exact hp.1.elim
 ·split at hc
  ·rename_i hx
   injection hc with e1 e2;injection e2 with e2 aM;injection aM with aM aG;injection aG with aG bS
   subst e1;subst e2;subst aM;subst aG;subst bS
   have h1:=hp.1
   simp only [fK,simple,hx,h1]
  ·injection hc with e1;subst e1;exact hp.1.elim
 ·split at hc
  ·rename_i hx hy
   injection hc with e1 e2;injection e2 with e2 aM;injection aM with aM aG;injection aG with aG bS
   subst e1;subst e2;subst aM;subst aG;subst bS
   have h1:=hp.1
   simp only [fK,simple,hx,hy,h1]
  ·injection hc with e1;subst e1;exact hp.1.elim
 ·split at hc
  ·rename_i hx hy
   injection hc with e1 e2;injection e2 with e2 aM;injection aM with aM aG;injection aG with aG bS
   subst e1;subst e2;subst aM;subst aG;subst bS
   have h1:=hp.1
   simp only [fK,simple,hx,hy,h1]
  ·injection hc with e1;subst e1;exact hp.1.elim
 ·split at hc
  ·rename_i hx hy hz
   injection hc with e1 e2;injection e2 with e2 aM;injection aM with aM aG;injection aG with aG bS
   subst e1;subst e2;subst aM;subst aG;subst bS
   have h1:=hp.1
   simp only [fK,simple,hx,hy,hz,h1]
  ·injection hc with e1;subst e1;exact hp.1.elim
 ·split at hc
  ·rename_i hx hy hz
   injection hc with e1 e2;injection e2 with e2 aM;injection aM with aM aG;injection aG with aG bS
   subst e1;subst e2;subst aM;subst aG;subst bS
   have h1:=hp.1
   simp only [fK,simple,hx,hy,hz,h1]
  ·injection hc with e1;subst e1;exact hp.1.elim
 ·split at hc
  ·rename_i hx hl hi hm
   injection hc with e1 e2;injection e2 with e2 aM;injection aM with aM aG;injection aG with aG bS
   subst e1;subst e2;subst aM;subst aG;subst bS
   have h1:=hp.1
   simp only [fK,simple,hx,hl,hi,hm,h1]
  ·rename_i hx hl hi hm
   injection hc with e1 e2;injection e2 with e2 aM;injection aM with aM aG;injection aG with aG bS
   subst e1;subst e2;subst aM;subst aG;subst bS
   have h1:=hp.1
   simp only [fK,simple,hx,hl,hi,hm,h1]
  ·injection hc with e1;subst e1;exact hp.1.elim
 ·split at hc
  ·rename_i hx hi
   injection hc with e1 e2;injection e2 with e2 aM;injection aM with aM aG;injection aG with aG bS
   subst e1;subst e2;subst aM;subst aG;subst bS
   have h1:=hp.1
   simp only [fK,simple,hx,hi,h1]
  ·injection hc with e1 e2;injection e2 with e2 aM;injection aM with aM aG;injection aG with aG bS
   subst e1;subst e2;subst aM;subst aG;subst bS
   exact hp.1
 ·rename_i Gu t0 x0 y0 DT
  split at hc
  ·rename_i a b hx hy
   injection hc with e1 e2;injection e2 with e2 aM;injection aM with aM aG;injection aG with aG bS
   subst e1;subst e2;subst aM;subst aG;subst bS
   have h1:=hp.1
   unfold EF at h1
   cases hg:(ground (.agg a)&&ground (.agg b)) with
   |false=>rw [hg] at h1;cases h1
   |true=>
    rw [hg] at h1
    simp only [cond_true] at h1
    split at h1
    ·rename_i u hu
     cases xp:ground u with
     |false=>rw [xp] at h1;cases h1
     |true=>
      rw [xp] at h1
      simp only [cond_true,bx] at h1
      subst h1
      rw [dI] at hg
      have Y8:k6 E T ⟨dst,.binOp Gu t0 x0 y0 DT,ty,pos,after,guard⟩=some u:=by
       unfold k6
       have h2:ph E T [x0,y0]=true:=by
        unfold ph
        simp only [List.all_cons,List.all_nil,hx,hy,hg.1,hg.2,Bool.and_self]
       show (bif ph E T [x0,y0] then _ else _)=_
       rw [h2]
       simp only [cond_true]
       have h3:e3 E.P (execOp (fun x=>(ev E T x).getD cZ) ⟨dst,.binOp Gu t0 x0 y0 DT,ty,pos,after,guard⟩)=some (.value u):=by
        simp only [execOp,hx,hy,Option.getD_some]
        rw [LH hu];rfl
       rw [h3]
       simp only [xp,cond_true]
      simp only [fK,simple,Y8]
    ·cases h1
  ·rename_i p q hx hy
   injection hc with e1 e2;injection e2 with e2 aM;injection aM with aM aG;injection aG with aG bS
   subst e1;subst e2;subst aM;subst aG;subst bS
   have h1:=hp.1
   have hg:k6 E T ⟨dst,.binOp Gu t0 x0 y0 DT,ty,pos,after,guard⟩=none:=by
    unfold k6
    have hall:ph E T (Op.operands (.binOp Gu t0 x0 y0 DT)).toList=false:=by
     simp [ph,Op.operands,hx,ground,k5]
    simp only [hall,cond_false]
   unfold Bo at h1
   split at h1
   ·split at h1
    ·rename_i r hr
     injection h1 with h1
     subst h1
     simp only [fK,simple,hg,hx,hy,hr]
    ·cases h1
   ·split at h1
    ·rename_i r hr
     injection h1 with h1
     subst h1
     simp only [fK,simple,hg,hx,hy,hr]
    ·cases h1
   ·cases h1
  ·injection hc with e1 e2;injection e2 with e2 aM;injection aM with aM aG;injection aG with aG bS
   subst e1;subst e2;subst aM;subst aG;subst bS
   exact hp.1
 ·split at hc
  ·rename_i hg hx
   injection hc with e1 e2;injection e2 with e2 aM;injection aM with aM aG;injection aG with aG bS
   subst e1;subst e2;subst aM;subst aG;subst bS
   have h1:=hp.1
   simp only [fK,simple,hg,hx,h1]
  ·rename_i hg hx
   injection hc with e1 e2;injection e2 with e2 aM;injection aM with aM aG;injection aG with aG bS
   subst e1;subst e2;subst aM;subst aG;subst bS
   have h1:=hp.1
   simp only [fK,simple,hg,hx,h1]
  ·injection hc with e1 e2;injection e2 with e2 aM;injection aM with aM aG;injection aG with aG bS
   subst e1;subst e2;subst aM;subst aG;subst bS
   exact hp.1
 ·injection hc with e1 e2;injection e2 with e2 aM;injection aM with aM aG;injection aG with aG bS
  subst e1;subst e2;subst aM;subst aG;subst bS
  exact hp.1
theorem Vn {s:ByteArray} {n:Int} (h0:0≤n) (h1:n<(s.size:Int)):∃ b:UInt8,s[n.toNat]?=some b∧ac s n=(b.toNat:Int):=by
 have hlt:n.toNat<s.size:=by omega
 refine ⟨s[n.toNat],by simp [hlt],?_⟩
 unfold ac
 have:s.data[n.toNat]?=some s[n.toNat]:=by
  have h2:n.toNat<s.data.size:=hlt
  rw [Array.getElem?_eq_getElem h2];rfl
 rw [this];rfl
theorem We (ok:E.eU) {o:Oper} {T:b5} {H:U} {d:jw} {v:Value} {Ps:List Prop} (hc:IF E o T=some (Ps,v)) (hp:fU Ps):fK E le o T H d=some (.val v H d [] (some [])):=by
 obtain ⟨dst,op,ty,pos,after,guard⟩:=o
 unfold IF at hc
 simp only at hc
 split at hc
 ·
  rename_i t x i
  split at hc
  ·rename_i s k n hx hi ht
   simp only [bx,bG] at hc
   obtain ⟨rfl,rfl⟩:=hc
   obtain ⟨h0,h1,_⟩:=hp
   obtain ⟨b,hb,YT⟩:=Vn h0 h1
   have hg:k6 E T ⟨dst,.index t x i,ty,pos,after,guard⟩=some (.int .u8 (ac s n)):=by
    unfold k6
    have hall:ph E T (Op.operands (.index t x i)).toList=true:=by
     simp [ph,Op.operands,hx,hi,ground,k5]
    simp only [hall,cond_true]
    have hr:e3 E.P (execOp (fun x=>(ev E T x).getD cZ) ⟨dst,.index t x i,ty,pos,after,guard⟩)=some (.value (.int .u8 (ac s n))):=by
     simp only [execOp,hx,hi,Option.getD_some,Instr.index,asIntOf,underlying,program,bind,Sem.bind,e3,ok.ul ht,pure,h0,if_true,hb,YT]
    rw [hr]
    simp [ground,k5]
   simp only [fK,simple,hg]
  ·cases hc
 ·
  rename_i t x i
  split at hc
  ·rename_i b off k n m e hx hi ht
   split at hc
   ·rename_i sz hsz
    simp only [bx,bG] at hc
    obtain ⟨rfl,rfl⟩:=hc
    obtain ⟨h0,h1,_⟩:=hp
    simp only [fK,simple,hx,hi,fE,ht,hsz,decide_eq_true h0,decide_eq_true h1,Bool.and_true,cond_true]
   ·cases hc
  ·rename_i b off m cp k n e hx hi ht
   split at hc
   ·rename_i sz hsz
    simp only [bx,bG] at hc
    obtain ⟨rfl,rfl⟩:=hc
    obtain ⟨h0,h1,_⟩:=hp
    simp only [fK,simple,hx,hi,fE,ht,hsz,decide_eq_true h0,decide_eq_true h1,Bool.and_true,cond_true]
   ·cases hc
  ·cases hc
 ·
  rename_i t x l h
  have fin:∀(s:ByteArray) (dP TX:Option Value) (v:ByteArray),ev E T x=some (.string s)→lU E T l=some dP→lU E T h=some TX→(∀ y∈l.toArray++h.toArray,∃ u,ev E T y=some u∧ground u=true)→
    e3 E.P (Instr.sliceAt t (.string s) (l.map fun x=>(ev E T x).getD cZ) (h.map fun x=>(ev E T x).getD cZ) none)=some (.string v)→
    fK E le ⟨dst,.slice t x l h none,ty,pos,after,guard⟩ T H d=some (.val (.string v) H d [] (some [])):=by
   intro s dP TX v hx hl hh hall hrun
   have hg:k6 E T ⟨dst,.slice t x l h none,ty,pos,after,guard⟩=some (.string v):=by
    unfold k6
    have YM:ph E T (Op.operands (.slice t x l h none)).toList=true:=by
     unfold ph
     rw [List.all_eq_true]
     intro y hy
     have hy:y=x∨y∈l.toArray++h.toArray:=by simpa [Op.operands,or_assoc] using hy
     rcases hy with rfl |hy
     ·rw [hx];rfl
     ·obtain ⟨u,h1,h2⟩:=hall y hy
      rw [h1];exact h2
    simp only [YM,cond_true]
    have hr:e3 E.P (execOp (fun x=>(ev E T x).getD cZ) ⟨dst,.slice t x l h none,ty,pos,after,guard⟩)=some (.value (.string v)):=by
     simp only [execOp,hx,Option.getD_some,Option.map_none]
     exact LH hrun
    rw [hr]
    simp [ground,k5]
   have he:lU E T none=some none:=rfl
   simp only [fK,simple,hx,hl,hh,he,hg]
  have ex:∀{l:Option Operand} {k:IntKind} {n:Int},lU E T l=some (some (.int k n))→∃ y,l=some y∧ev E T y=some (.int k n):=by
   intro l k n hl
   cases l with
   |none=>cases hl
   |some y=>
    simp only [lU] at hl
    split at hl
    ·rename_i v hv;simp only [bx] at hl;subst hl;exact ⟨y,rfl,hv⟩
    ·cases hl
  have sC:∀{l:Option Operand},lU E T l=some none→l=none:=by
   intro l hl
   cases l with
   |none=>rfl
   |some y=>
    simp only [lU] at hl
    split at hl
    ·simp at hl
    ·cases hl
  split at hc
  ·rename_i s hx hl hh ht
   simp only [bx,bG] at hc
   obtain ⟨rfl,rfl⟩:=hc
   have:=sC hl;subst this
   have:=sC hh;subst this
   exact fin s none none _ hx hl hh (by simp) (by simp [Instr.sliceAt,Instr.slice,Instr.sliceBounds,underlying,program,bind,Sem.bind,e3,ok.ul ht,pure])
  ·rename_i s k n hx hl hh ht
   simp only [bx,bG] at hc
   obtain ⟨rfl,rfl⟩:=hc
   obtain ⟨h0,h1,_⟩:=hp
   obtain ⟨y,rfl,hy⟩:=ex hl
   have:=sC hh;subst this
   exact fin s _ none _ hx hl hh (by simp [hy,ground,k5]) (by simp [Instr.sliceAt,Instr.slice,Instr.sliceBounds,Instr.sliceBound,asIntOf,underlying,program,bind,Sem.bind,e3,ok.ul ht,pure,hy,h0,h1])
  ·rename_i s k n hx hl hh ht
   simp only [bx,bG] at hc
   obtain ⟨rfl,rfl⟩:=hc
   obtain ⟨h0,h1,_⟩:=hp
   obtain ⟨y,rfl,hy⟩:=ex hh
   have:=sC hl;subst this
   exact fin s none _ _ hx hl hh (by simp [hy,ground,k5]) (by simp [Instr.sliceAt,Instr.slice,Instr.sliceBounds,Instr.sliceBound,asIntOf,underlying,program,bind,Sem.bind,e3,ok.ul ht,pure,hy,h0,h1])
  ·rename_i s k n k2 n2 hx hl hh ht
   simp only [bx,bG] at hc
   obtain ⟨rfl,rfl⟩:=hc
   obtain ⟨h0,h1,h2,_⟩:=hp
   obtain ⟨y,rfl,hy⟩:=ex hl
   obtain ⟨ah,rfl,PM⟩:=ex hh
   have h3:0≤n2:=by omega
   have h4:n≤(n2.toNat:Int):=by omega
   have h5:n≤max n2 0:=by omega
   exact fin s _ _ _ hx hl hh (by simp [hy,PM,ground,k5]) (by simp [Instr.sliceAt,Instr.slice,Instr.sliceBounds,Instr.sliceBound,asIntOf,underlying,program,bind,Sem.bind,e3,ok.ul ht,pure,hy,PM,h0,h2,h3,h4,h5])
  ·cases hc
 ·cases hc
theorem Wc {op:BinOp} {t u:TypeId} {x y:Operand} {T:b5} {H:U} {d:jw} {v:Value} {Ps:List Prop} {dst:Option Tmp} {ty:TypeId} {pos:_} {after:_} {guard:_} (hc:ID E T op x y=some (Ps,v)) (hp:fU Ps) :
  fK E le ⟨dst,.binOp op t x y u,ty,pos,after,guard⟩ T H d=some (.val v H d [] (some [])):=by
 have fin:∀(a b:Value),ev E T x=some a→ev E T y=some b→ground a=true→ground b=true→ground v=true→(∀ p q:Operand,(do eqGuard op t p q a b;binOp op t a b:Sem Value)=pure v)→
   fK E le ⟨dst,.binOp op t x y u,ty,pos,after,guard⟩ T H d=some (.val v H d [] (some [])):=by
  intro a b hx hy Yp cr YA hr
  have hg:k6 E T ⟨dst,.binOp op t x y u,ty,pos,after,guard⟩=some v:=by
   unfold k6
   have hall:ph E T (Op.operands (.binOp op t x y u)).toList=true:=by
    simp [ph,Op.operands,hx,hy,Yp,cr]
   simp only [hall,cond_true]
   have hr':e3 E.P (execOp (fun x=>(ev E T x).getD cZ) ⟨dst,.binOp op t x y u,ty,pos,after,guard⟩)=some (.value v):=by
    simp only [execOp,hx,hy,Option.getD_some]
    rw [hr];rfl
   rw [hr']
   simp only [YA,cond_true,if_true]
  simp only [fK,simple,hg]
 unfold ID at hc
 split at hc
 ·rename_i k a k2 b hx hy
  simp only [bx,bG] at hc
  obtain ⟨rfl,rfl⟩:=hc
  refine fin _ _ hx hy rfl rfl rfl fun p q=>?_
  show Op.shift .shl k a k2 b=_
  unfold Op.shift
  rw [if_neg (by have:=hp.1;omega)]
 ·rename_i k a k2 b hx hy
  simp only [bx,bG] at hc
  obtain ⟨rfl,rfl⟩:=hc
  refine fin _ _ hx hy rfl rfl rfl fun p q=>?_
  show Op.shift .shr k a k2 b=_
  unfold Op.shift
  rw [if_neg (by have:=hp.1;omega)]
 ·rename_i k a k2 b hx hy
  by_cases e:k=k2
  ·subst e
   simp only [decide_true,cond_true,bx,bG] at hc
   obtain ⟨rfl,rfl⟩:=hc
   refine fin _ _ hx hy rfl rfl rfl fun p q=>?_
   show (if k≠k then stuck _ else Op.intDiv .quo k a b)=_
   rw [if_neg (by simp)]
   unfold Op.intDiv
   rw [if_neg hp.1]
  ·simp only [decide_eq_false e,cond_false] at hc;cases hc
 ·rename_i k a k2 b hx hy
  by_cases e:k=k2
  ·subst e
   simp only [decide_true,cond_true,bx,bG] at hc
   obtain ⟨rfl,rfl⟩:=hc
   refine fin _ _ hx hy rfl rfl rfl fun p q=>?_
   show (if k≠k then stuck _ else Op.intDiv .rem k a b)=_
   rw [if_neg (by simp)]
   unfold Op.intDiv
   rw [if_neg hp.1]
  ·simp only [decide_eq_false e,cond_false] at hc;cases hc
 ·rename_i k a k2 b hx hy
  by_cases e:k=k2
  ·subst e
   simp only [decide_true,cond_true,bx,bG] at hc
   obtain ⟨rfl,rfl⟩:=hc
   refine fin _ _ hx hy rfl rfl rfl fun p q=>?_
   show (if k≠k then stuck _ else Op.floatArith .mul k a b)=_
   rw [if_neg (by simp)]
   obtain ⟨r,hr⟩:=Option.isSome_iff_exists.1 hp.1
   rw [hr]
   show (match k.format.mul a b with |some r=>pure (.float k r) |none=>_:Sem Value)=_
   rw [hr];rfl
  ·simp only [decide_eq_false e,cond_false] at hc;cases hc
 ·rename_i k a k2 b hx hy
  by_cases e:k=k2
  ·subst e
   simp only [decide_true,cond_true,bx,bG] at hc
   obtain ⟨rfl,rfl⟩:=hc
   refine fin _ _ hx hy rfl rfl rfl fun p q=>?_
   show (if k≠k then stuck _ else Op.floatArith .quo k a b)=_
   rw [if_neg (by simp)]
   obtain ⟨r,hr⟩:=Option.isSome_iff_exists.1 hp.1
   rw [hr]
   show (match k.format.div a b with |some r=>pure (.float k r) |none=>_:Sem Value)=_
   rw [hr];rfl
  ·simp only [decide_eq_false e,cond_false] at hc;cases hc
 ·rename_i a b hx hy
  simp only [bx,bG] at hc
  obtain ⟨rfl,rfl⟩:=hc
  refine fin _ _ hx hy rfl rfl rfl fun p q=>?_
  show (if ((a.size+b.size:Nat):Int)>9223372036854775807 then _ else pure (.string (a++b)):Sem Value)=_
  rw [if_neg (by have:=hp.1;omega)]
 ·cases hc
theorem Wf (ok:E.eU) {o:Oper} {T:b5} {H:U} {d:jw} {v:Value} {Ps:List Prop} (hc:IE E o T=some (Ps,v)) (hp:fU Ps):fK E le o T H d=some (.val v H d [] (some [])):=by
 unfold IE at hc
 split at hc
 ·rename_i op t x y u ho
  obtain ⟨dst,op',ty,pos,after,guard⟩:=o
  have ho:op'=_:=ho
  subst ho
  exact Wc hc hp
 ·exact We ok hc hp
theorem TC (ok:E.eU) {o:Oper} {T:b5} {H H':U} {d d':jw} {hs hs':List Hint} {Ps:List Prop} {v:Value} {W:List Nat} {r:Option (List Nat)} (h:Hm E o T H d hs=some (Ps,v,H',d',W,r,hs')) (hp:fU Ps) (wf:cz H) (cu:E.ej≤H.n) :
  ∃ call,mZ E call∧fK E call o T H d=some (.val v H' d' W r):=by
 unfold Hm at h
 split at h
 ·split at h
  ·rename_i hop
   simp only [bx,bG] at h
   obtain ⟨rfl,rfl,rfl,rfl,rfl,rfl,_⟩:=h
   exact ⟨le,z5,hop⟩
  ·cases h
 ·split at h
  ·rename_i b1 x1 h1 d1 w1 r1 hop
   simp only [bx,bG] at h
   obtain ⟨rfl,rfl,rfl,rfl,rfl,rfl,_⟩:=h
   have e:=hp.1
   subst e
   exact ⟨le,z5,hop⟩
  ·cases h
 ·split at h
  ·rename_i u1 v1 h1 d1 w1 r1 hop
   simp only [bx,bG] at h
   obtain ⟨rfl,rfl,rfl,rfl,rfl,rfl,_⟩:=h
   have e:=hp.1
   subst e
   exact ⟨le,z5,hop⟩
  ·cases h
 ·split at h
  ·rename_i pe v1 sI
   simp only [bx,bG] at h
   obtain ⟨rfl,rfl,rfl,rfl,rfl,rfl,_⟩:=h
   exact ⟨le,z5,Wf ok sI hp⟩
  ·cases h
 ·split at h
  rename_i pe v1 h1 w1 r1 JA
  simp only [bx,bG] at h
  obtain ⟨rfl,rfl,rfl,rfl,rfl,rfl,_⟩:=h
  exact ⟨le,z5,WE JA hp⟩
 ·rename_i v' h' W' fy
  cases hc:PT o.op with
  |false=>rw [hc] at h;cases h
  |true=>
   rw [hc] at h
   simp only [cond_true] at h
   split at h
   ·rename_i c BH
    split at h
    ·rename_i g args hres
     simp only [bx,bG] at h
     obtain ⟨rfl,rfl,rfl,rfl,rfl,rfl,_⟩:=h
     obtain ⟨call,k1,k2⟩:=Vs (hp.1 wf cu)
     refine ⟨call,k1,?_⟩
     obtain ⟨dst,op,ty,pos,after,guard⟩:=o
     cases op <;> simp only [Od] at BH <;> first
      |(cases BH;done)
      |skip
     injection BH with BH
     subst BH
     rename_i c
     obtain ⟨callee,ajg,ts⟩:=c
     cases callee with
     |builtin b=>cases hc
     |value f=>simp only [fK,hres,k2]
     |invoke r m=>simp only [fK,hres,k2]
    ·cases h
   ·cases h
 ·cases h
theorem Ho {ops:Array Oper} {T:b5} {o:Oper} {hs hs':List Hint} {Ps:List Prop} {b:Bool} (h:Hn ops T o hs=some (Ps,b,hs')) (hp:fU Ps):uM ops T o=some b:=by
 unfold Hn at h
 split at h
 ·simp only [bx,bG] at h
  obtain ⟨rfl,rfl,_⟩:=h
  exact hp.1
 ·split at h
  ·rename_i hw
   simp only [bx,bG] at h
   obtain ⟨rfl,rfl,_⟩:=h
   exact hw
  ·cases h
theorem ME (ok:E.eU) {aq:Nat} {ops:Array Oper}:∀(rest:List Oper) (T cO:b5) (H H':U) (d d':jw) (hs hs':List Hint) (Ps:List Prop) (W:List Nat),AH E aq ops rest T H d hs=some (Ps,cO,H',d',W,hs')→fU Ps→cz H→E.ej≤H.n→
  cX W H H'∧cz H'∧∀(base:Nat) (φ:bA) (w:World) (a:Act),sj E base φ w aq ⟨T,H,d,[]⟩ a→fW φ H.n H'.n→wpList E.P ops (Post E base φ w aq H W .normal ⟨cO,H',d',[]⟩) rest a w
 |[],T,cO,H,H',d,d',hs,hs',Ps,W,h,hp,wf,cu=>by
  simp only [AH,bx,bG] at h
  obtain ⟨rfl,rfl,rfl,rfl,rfl,_⟩:=h
  exact ⟨cX.refl ..,wf,fun base φ w a hs hf=>⟨φ,Out.refl [] hs.rel,rfl,hs.hH,hs.iT⟩⟩
 |o::rest,T,cO,H,H',d,d',hs,hs',Ps,W,h,hp,wf,cu=>by
  simp only [AH] at h
  split at h
  ·rename_i pe fy xB
   split at h
   ·rename_i yQ v H1 d1 fa r1 tX hop
    split at h
    ·rename_i fT oy
     split at h
     ·rename_i m4 jV H2 d2 V JP ni
      simp only [bx,bG] at h
      obtain ⟨rfl,rfl,rfl,rfl,rfl,_⟩:=h
      rw [m5,m5] at hp
      obtain ⟨tV,qH,zF⟩:=hp
      have hw:=Ho xB tV
      obtain ⟨call,hc,Fe⟩:=TC ok hop qH wf cu
      obtain ⟨g1,g2,g3⟩:D3 E o T H d v H1 d1 fa:=Gv ok hc wf cu Fe
      have j6:=g1.n
      obtain ⟨au,kG,k⟩:=ME ok rest _ _ _ _ _ _ _ _ _ _ ni zF g2 D
      have hn2:=au.n
      refine ⟨g1.trans au,kG,fun base φ w a hs hf=>?_⟩
      simp only [wpList]
      rw [if_pos (yp hs.hH hw)]
      refine .inl (g3 base φ w a aq _ _ hs.rel (hf.first hn2) hs.hH hs.iT fun aU w' u a' b6 i7 rx hda=>?_)
      have oB:g6 aU T a'.tmps aq:=by rw [rx];exact hs.hH.mono (b6.sub (hf.first hn2))
      have:=k base aU w' (a'.put o.dst u) ⟨b6.rel,oB.put i7 oy,by rw [put_defers];exact hda⟩ (hf.next b6 j6)
      exact HM (fun e a w h=>Post.EQ g1 au b6 hf h) _ _ _ this
     ·cases h
    ·cases h
   ·cases h
  ·rename_i pe fy xB
   split at h
   ·rename_i fT oy
    split at h
    ·rename_i m4 jV H2 d2 V JP ni
     simp only [bx,bG] at h
     obtain ⟨rfl,rfl,rfl,rfl,rfl,_⟩:=h
     rw [m5] at hp
     have hw:=Ho xB hp.1
     obtain ⟨au,kG,k⟩:=ME ok rest _ _ _ _ _ _ _ _ _ _ ni hp.2 wf cu
     refine ⟨au,kG,fun base φ w a hs hf=>?_⟩
     simp only [wpList]
     rw [if_neg (by rw [yp hs.hH hw];simp)]
     exact k base φ w _ ⟨hs.rel,hs.hH.put (.tuple' ⟨rfl,fun i x y hx=>by simp at hx⟩) oy,by rw [put_defers];exact hs.iT⟩ hf
    ·cases h
   ·cases h
  ·cases h
theorem MC (ok:E.eU) {aq:Nat} {ops:Array Oper}:∀(rest:List Oper) (T cO:b5) (H H':U) (d:jw) (hs hs':List Hint) (Ps:List Prop) (W:List Nat) (fs:List lJ),tf E aq ops rest T H d hs=some (Ps,cO,H',W,fs,hs')→fU Ps→(∀ o∈rest,xG o.op=false)→
  ∃(hp:Nat→U) (ts:Nat→b5) (jX:Nat→List Nat) (ft:Nat→iG),hp 0=H∧ts 0=T∧hp rest.length=H'∧ts rest.length=cO∧
   (∀ j,j<rest.length→∀ q,q∈jX j→q∈W)∧fs.map (·.1)=(List.range rest.length).map ft∧
   ∀(j:Nat) (o:Oper),rest[j]?=some o→cz (hp j)→E.ej≤(hp j).n→∃ call,mZ E call∧pZ E call aq ops d o (ts j) (ts (j+1)) (hp j) (hp (j+1)) (jX j) (ft j)
 |[],T,cO,H,H',d,hs,hs',Ps,W,fs,h,hp,hd=>by
  simp only [tf,bx,bG] at h
  obtain ⟨rfl,rfl,rfl,rfl,rfl,_⟩:=h
  exact ⟨fun _=>H,fun _=>T,fun _=>[],fun _=>⟨none,[],[],none,0,0⟩,rfl,rfl,rfl,rfl,fun j hj=>by simp at hj,by simp,fun j o h=>by simp at h⟩
 |o::rest,T,cO,H,H',d,hs,hs',Ps,W,fs,h,hp,hd=>by
  simp only [tf] at h
  have glue:∀(fT:b5) (H1:U) (fa:List Nat) (f:lJ) (m4:List Prop) (V:List Nat) (xj:List lJ) (tX:List Hint),(cz H→E.ej≤H.n→∃ call,mZ E call∧pZ E call aq ops d o T fT H H1 fa f.1)→tf E aq ops rest fT H1 d tX=some (m4,cO,H',V,xj,hs')→fU m4→
    W=fa++V→fs=f::xj→
    ∃(hp:Nat→U) (ts:Nat→b5) (jX:Nat→List Nat) (ft:Nat→iG),hp 0=H∧ts 0=T∧hp (o::rest).length=H'∧ts (o::rest).length=cO∧
     (∀ j,j<(o::rest).length→∀ q,q∈jX j→q∈W)∧fs.map (·.1)=(List.range (o::rest).length).map ft∧
     ∀(j:Nat) (o':Oper),(o::rest)[j]?=some o'→cz (hp j)→E.ej≤(hp j).n→∃ call,mZ E call∧pZ E call aq ops d o' (ts j) (ts (j+1)) (hp j) (hp (j+1)) (jX j) (ft j):=by
   intro fT H1 fa f m4 V xj tX hstep ni zF hW E4
   obtain ⟨hq,ts,jX,ft,a1,a2,a3,a4,a5,a6,a7⟩:=MC ok rest _ _ _ _ _ _ _ _ _ _ ni zF (fun o' ho'=>hd o' (List.mem_cons_of_mem _ ho'))
   refine ⟨fun |0=>H |j+1=>hq j,fun |0=>T |j+1=>ts j,fun |0=>fa |j+1=>jX j,fun |0=>f.1 |j+1=>ft j,rfl,rfl,a3,a4,?_,?_,?_⟩
   ·intro j hj q hq
    rw [hW]
    cases j with
    |zero=>exact List.mem_append_left _ hq
    |succ j=>exact List.mem_append_right _ (a5 j (by simpa using hj) q hq)
   ·rw [E4,List.map_cons,a6,cj,List.range_succ_eq_map,List.map_cons,List.map_map]
    simp [Function.comp_def]
   ·intro j o' ho' hwf cu
    cases j with
    |zero=>
     simp at ho'
     subst ho'
     obtain ⟨call,c1,c2⟩:=hstep hwf cu
     exact ⟨call,c1,by show pZ E call aq ops d o T (ts 0) H (hq 0) fa f.1;rw [a1,a2];exact c2⟩
    |succ j=>exact a7 j o' (by simpa using ho') hwf cu
  split at h
  ·rename_i pe fy xB
   split at h
   ·rename_i yQ v H1 d1 fa r1 tX hop
    split at h
    ·rename_i fT oy
     split at h
     ·rename_i m4 jV H2 V xj JP ni
      simp only [bx,bG] at h
      obtain ⟨rfl,rfl,rfl,rfl,rfl,rfl⟩:=h
      rw [m5,m5,m5] at hp
      obtain ⟨tV,qH,zF⟩:=hp
      have hw:=Ho xB tV
      refine glue fT H1 fa _ m4 V xj tX (fun hwf cu=>?_) ni zF.2 rfl rfl
      obtain ⟨call,hc,Fe⟩:=TC ok hop qH hwf cu
      obtain ⟨dh,_⟩:=Lo (hd o (by simp)) Fe
      subst dh
      exact ⟨call,hc,.go v fa r1 hw Fe oy (aiC zF.1)⟩
     ·cases h
    ·cases h
   ·cases h
  ·rename_i pe fy xB
   split at h
   ·rename_i fT oy
    split at h
    ·rename_i m4 jV H2 V xj JP ni
     simp only [bx,bG] at h
     obtain ⟨rfl,rfl,rfl,rfl,rfl,rfl⟩:=h
     rw [m5] at hp
     have hw:=Ho xB hp.1
     exact glue fT H [] _ m4 V xj fy (fun hwf cu=>⟨le,z5,.skip hw oy rfl⟩) ni hp.2 rfl rfl
    ·cases h
   ·cases h
  ·cases h
theorem Hl {aq:Nat} {ops:Array Oper}:∀(rest:List Oper) (T cO:b5) (H H':U) (d:jw) (hs hs':List Hint) (Ps:List Prop) (W:List Nat) (fs:List lJ),tf E aq ops rest T H d hs=some (Ps,cO,H',W,fs,hs')→∀ f∈fs,∀ q∈f.1.w,q∈f.2
 |[],T,cO,H,H',d,hs,hs',Ps,W,fs,h=>by
  simp only [tf,bx,bG] at h
  obtain ⟨_,_,_,_,rfl,_⟩:=h
  intro f hf;cases hf
 |o::rest,T,cO,H,H',d,hs,hs',Ps,W,fs,h=>by
  simp only [tf] at h
  split at h
  ·split at h
   ·split at h
    ·split at h
     ·rename_i ni
      simp only [bx,bG] at h
      obtain ⟨_,_,_,_,rfl,_⟩:=h
      intro f hf
      rcases List.mem_cons.1 hf with rfl |hf
      ·exact fun q hq=>(List.mem_filter.1 hq).1
      ·exact Hl rest _ _ _ _ _ _ _ _ _ _ ni f hf
     ·cases h
    ·cases h
   ·cases h
  ·split at h
   ·split at h
    ·rename_i ni
     simp only [bx,bG] at h
     obtain ⟨_,_,_,_,rfl,_⟩:=h
     intro f hf
     rcases List.mem_cons.1 hf with rfl |hf
     ·exact fun q hq=>hq
     ·exact Hl rest _ _ _ _ _ _ _ _ _ _ ni f hf
    ·cases h
   ·cases h
  ·cases h
theorem nB (ok:E.eU) {aq:Nat}:∀(f:Nat) (c:Code) (T cO:b5) (H H':U) (d d':jw) (hs hs':List Hint) (Ps:List Prop) (x:eY) (W:List Nat),ob E aq f c T H d hs=some (Ps,x,cO,H',d',W,hs')→fU Ps→c7 E aq c T H d x cO H' d' W
 |0,_,_,_,_,_,_,_,_,_,_,_,_,h,_=>by simp [ob] at h
 |f+1,c,T,cO,H,H',d,d',hs,hs',Ps,x,W,h,hp=>by
  unfold ob at h
  cases Ff:Lz hs with
  |some p=>
   obtain ⟨live,x1,fT,h1,fa,fy⟩:=p
   rw [Ff] at h
   simp only [bx,bG] at h;obtain ⟨rfl,rfl,rfl,rfl,rfl,rfl,_⟩:=h
   exact hp.1.pre (lK.qE _ _)
  |none=>
  rw [Ff] at h
  generalize qj hs=hs at h
  simp only at h
  split at h
  ·simp only [bx,bG] at h;obtain ⟨rfl,rfl,rfl,rfl,rfl,rfl,_⟩:=h;exact c7.skip
  ·simp only [bx,bG] at h;obtain ⟨rfl,rfl,rfl,rfl,rfl,rfl,_⟩:=h;exact c7.label
  ·simp only [bx,bG] at h;obtain ⟨rfl,rfl,rfl,rfl,rfl,rfl,_⟩:=h;exact c7.exit
  ·simp only [bx,bG] at h;obtain ⟨rfl,rfl,rfl,rfl,rfl,rfl,_⟩:=h;exact c7.goto
  ·simp only [bx,bG] at h;obtain ⟨rfl,rfl,rfl,rfl,rfl,rfl,_⟩:=h;exact c7.ret
  ·
   rename_i id ops
   split at h
   ·rename_i tA fT H1 d1 fa fy Zv
    simp only [bx,bG] at h;obtain ⟨rfl,rfl,rfl,rfl,rfl,rfl,_⟩:=h
    intro wf cu
    obtain ⟨k1,k2,jh⟩:=ME ok _ _ _ _ _ _ _ _ _ _ _ Zv hp wf cu
    refine ⟨k1,k2,fun base φ w a du hf=>wp_region ?_⟩
    have e:∀ Q,wpOps E.P ops Q (List.range ops.size)=wpList E.P ops Q ops.toList:=fun Q=>by
     have:=wpOps_eq_wpList (P:=E.P) (ops:=ops) (Q:=Q) ops.toList 0 (fun j=>by simp)
     rw [Array.length_toList] at this
     rw [List.range_eq_range',this]
    rw [e]
    exact jh base φ w a du hf
   ·cases h
  ·
   rename_i id ops
   cases hro:qX ops with
   |false=>rw [hro] at h;cases h
   |true=>
    rw [hro] at h
    simp only [cond_true] at h
    split at h
    ·rename_i tA fT H1 fa fs fy er
     simp only [bx,bG] at h;obtain ⟨rfl,rfl,rfl,rfl,rfl,rfl,_⟩:=h
     rw [m5,m5] at hp
     obtain ⟨ht,hp⟩:=hp
     have ht:=Qv ht
     have hi:=Qx (Hl _ _ _ _ _ _ _ _ _ _ _ er) ht hp.1
     have hp:=hp.2
     intro wf cu
     obtain ⟨hq,ts,jX,ft,a1,a2,a3,a4,a5,a6,a7⟩:=MC ok _ _ _ _ _ _ _ _ _ _ _ er hp (Lc hro)
     simp only [Array.length_toList] at a3 a4 a5 a6
     rw [a6] at hi
     obtain ⟨k1,k2,jh⟩:=OT (id:=id) (W:=fa) ok hro hi a5 a7 (by rw [a1];exact wf) (by rw [a1];exact cu)
     rw [a1,a3] at k1
     rw [a3] at k2
     refine ⟨k1,k2,fun base φ w a du hf=>?_⟩
     have:=jh base φ w a [] [] (by rw [a1,a2];exact du) (by rw [a1,a3];exact hf)
     rw [a1,a3,a4] at this
     exact this
    ·cases h
  ·
   rename_i a b
   split at h
   ·rename_i pe fT H1 d1 fa fy h1
    split at h
    ·rename_i yQ au jV H2 d2 V tX h2
     simp only [bx,bG] at h;obtain ⟨rfl,rfl,rfl,rfl,rfl,rfl,_⟩:=h
     rw [m5] at hp
     exact c7.seq (nB ok f _ _ _ _ _ _ _ _ _ _ _ _ h1 hp.1) (nB ok f _ _ _ _ _ _ _ _ _ _ _ _ h2 hp.2)
    ·cases h
   ·rename_i r hne
    have hx:x≠.normal:=fun e=>by subst e;exact hne _ _ _ _ _ _ h
    exact c7.agw (nB ok f _ _ _ _ _ _ _ _ _ _ _ _ h hp) hx
  ·
   rename_i o a b
   split at h
   ·rename_i v fy
    split at h
    ·rename_i tA r hr
     simp only [bx,bG] at h
     obtain ⟨rfl,rfl⟩:=h
     obtain ⟨h1,hp⟩:=hp
     refine c7.cond h1 ?_
     cases v with
     |true=>exact nB ok f _ _ _ _ _ _ _ _ _ _ _ _ hr hp
     |false=>exact nB ok f _ _ _ _ _ _ _ _ _ _ _ _ hr hp
    ·cases h
   ·split at h
    ·rename_i hb;exact c7.cond hb (nB ok f _ _ _ _ _ _ _ _ _ _ _ _ h hp)
    ·rename_i hb;exact c7.cond hb (nB ok f _ _ _ _ _ _ _ _ _ _ _ _ h hp)
    ·cases h
  ·
   rename_i id c1
   split at h
   ·rename_i id' live x' fT H1 fa fy
    cases hid:Nat.beq id id' with
    |false=>rw [hid] at h;cases h
    |true=>
     rw [hid] at h
     simp only [cond_true,bx,bG] at h;obtain ⟨rfl,rfl,rfl,rfl,rfl,rfl,_⟩:=h
     exact hp.1.pre (lK.qE _ _)
   ·split at h
    ·rename_i tA id' fT H1 d1 fa fy h1
     have g:=nB ok f _ _ _ _ _ _ _ _ _ _ _ _ h1
     cases hid:Nat.beq id' id with
     |true=>
      rw [hid] at h
      simp only [cond_true,bx,bG] at h;obtain ⟨rfl,rfl,rfl,rfl,rfl,rfl,_⟩:=h
      have e:=Nat.eq_of_beq_eq_true hid
      subst e
      exact c7.Vc (g hp)
     |false=>
      rw [hid] at h
      simp only [cond_false,bx,bG] at h;obtain ⟨rfl,rfl,rfl,rfl,rfl,rfl,_⟩:=h
      exact c7.block (g hp) (fun e=>by injection e with e;rw [e,Nat.beq_refl] at hid;cases hid)
    ·rename_i r hne
     exact c7.block (nB ok f _ _ _ _ _ _ _ _ _ _ _ _ h hp) (fun e=>by subst e;exact hne _ _ _ _ _ _ _ h)
  ·
   rename_i c1
   split at h
   ·rename_i tA l fT H1 d1 fa fy h1
    split at h
    ·rename_i rest hfl
     split at h
     ·cases h
     ·rename_i wV au jV H2 d2 aje tX hne h2
      simp only [bx,bG] at h;obtain ⟨rfl,rfl,rfl,rfl,rfl,rfl,_⟩:=h
      rw [m5] at hp
      exact c7.agt (nB ok f _ _ _ _ _ _ _ _ _ _ _ _ h1 hp.1) hfl (nB ok f _ _ _ _ _ _ _ _ _ _ _ _ h2 hp.2) fun l e=>by subst e;exact hne l rfl
     ·cases h
    ·cases h
   ·rename_i hne
    have g:=nB ok f _ _ _ _ _ _ _ _ _ _ _ _ h hp
    exact c7.scope g fun l e=>by subst e;exact hne _ _ _ _ _ _ _ h
  ·
   rename_i c1
   split at h
   ·simp only [bx,bG] at h;obtain ⟨rfl,rfl,rfl,rfl,rfl,rfl,_⟩:=h
    exact hp.1.pre (lK.qE _ _)
   ·cases h
  ·cases h
end
def cH (fn:Func):Code:=match fn.body with |some c=>c |none=>.skip
def cN:List Nat→Code→Code
 |[],c=>c
 |0::p,.seq a _=>cN p a
 |_::p,.seq _ b=>cN p b
 |0::p,.cond _ a _=>cN p a
 |_::p,.cond _ _ b=>cN p b
 |_::p,.block _ c=>cN p c
 |_::p,.loop c=>cN p c
 |_::p,.scope c=>cN p c
 |_,c=>c
def Jj (T:b5):List (Tmp×Value)→List Prop
 |[]=>[]
 |(t,v)::l=>(T.get t=some v)::Jj T l
theorem Jl {T:b5}:∀{l:List (Tmp×Value)},fU (Jj T l)→∀ t v,(t,v)∈l→T.get t=some v
 |[],_,t,v,h=>by cases h
 |(t',v')::l,hp,t,v,h=>by
  rcases List.mem_cons.1 h with h |h
  ·injection h with h1 h2;subst h1;subst h2;exact hp.1
  ·exact Jl hp.2 t v h
def qm (E:Env) (aq f:Nat) (c:Code) (pre post:List (Tmp×Value)) (H:U) (hs:List Hint):Option (List Prop×eY×U×List Nat):=
 match ob E aq f c (bl pre) H [] hs with
 |some (Ps,x,cO,H',[],W,[])=>some (Ps++Jj cO post,x,H',W)
 |_=>none
def yc (E:Env) (fn:Func) (f:Nat) (args:List Value) (H:U) (rv:Option Value) (hs:List Hint):Option (List Prop×Value×U×List Nat):=
 match ob E fn.ntmps f (cH fn) (mj args 0 .nil) H [] hs with
 |some (Ps,x,cO,H',[],W,[])=>match (match x with |.ret=>true |.normal=>true |_=>false) with
  |true=>match rv with
   |some v=>some (Ps++[rZ E fn ⟨cO,H',[],[]⟩=some v],v,H',W)
   |none=>match rZ E fn ⟨cO,H',[],[]⟩ with
    |some v=>some (Ps,v,H',W)
    |none=>none
  |false=>none
 |_=>none
section
variable {E:Env}
theorem c7.adO (ok:E.eU) {aq f:Nat} {c:Code} {pre post:List (Tmp×Value)} {H H':U} {hs:List Hint} {Ps:List Prop} {x:eY} {W:List Nat} (h:qm E aq f c pre post H hs=some (Ps,x,H',W)) (hp:fU Ps) :
  c7 E aq c (bl pre) H [] x (bl post) H' [] W:=by
 unfold qm at h
 split at h
 ·rename_i tA x1 fT H1 fa hr
  simp only [bx,bG] at h
  obtain ⟨rfl,rfl,rfl,rfl⟩:=h
  rw [m5] at hp
  exact (nB ok f _ _ _ _ _ _ _ _ _ _ _ _ hr hp.1).post (fun t v hv=>Jl hp.2 t v (FH _ _ _ hv)) (fun q hq=>.inl hq)
 ·cases h
theorem bE.adQ (ok:E.eU) {g f:Nat} {fn:Func} {args:List Value} {H H':U} {rv:Option Value} {hs:List Hint} {Ps:List Prop} {v:Value} {W:List Nat} (hf:E.func g=some fn)
  (hn:(fn.body.isSome&&Nat.ble args.length fn.ntmps&&!(fn.name== "runtime.NumGoroutine"))=true) (h:yc E fn f args H rv hs=some (Ps,v,H',W)) (hp:fU Ps):bE E g args H (.ret v) H' W:=by
 simp only [dI,Bool.not_eq_true'] at hn
 obtain ⟨⟨hb,hle⟩,hname⟩:=hn
 obtain ⟨c,hc⟩:=Option.isSome_iff_exists.1 hb
 have hbc:cH fn=c:=by unfold cH;rw [hc]
 unfold yc at h
 split at h
 ·rename_i tA x1 fT H1 fa hr
  rw [hbc] at hr
  split at h
  ·rename_i hx
   have hx:x1=.normal∨x1=.ret:=by
    cases x1 <;> first
     |exact .inl rfl
     |exact .inr rfl
     |cases hx
   split at h
   ·rename_i v1
    simp only [bx,bG] at h
    obtain ⟨rfl,rfl,rfl,rfl⟩:=h
    rw [m5] at hp
    exact bE.Lj ok hf hname hc hle hx (nB ok f _ _ _ _ _ _ _ _ _ _ _ _ hr hp.1) hp.2.1
   ·split at h
    ·rename_i v1 hres
     simp only [bx,bG] at h
     obtain ⟨rfl,rfl,rfl,rfl⟩:=h
     exact bE.Lj ok hf hname hc hle hx (nB ok f _ _ _ _ _ _ _ _ _ _ _ _ hr hp) hres
    ·cases h
  ·cases h
 ·cases h
theorem c7.qV (ok:E.eU) {P:Prop} {aq f:Nat} {c:Code} {pre post:List (Tmp×Value)} {H H':U} {hs:List Hint} {x:eY} {W:List Nat} (hp:P) (h:(qm E aq f c pre post H hs).map (fun r=>(fU r.1,r.2))=some (P,x,H',W)) :
  c7 E aq c (bl pre) H [] x (bl post) H' [] W:=by
 obtain ⟨⟨Ps,r⟩,h1,h2⟩:=Option.map_eq_some_iff.1 h
 injection h2 with h2 h3
 subst h3
 exact c7.adO ok h1 (h2▸hp)
theorem bE.Ll (ok:E.eU) {P:Prop} {g f:Nat} {fn:Func} {args:List Value} {H H':U} {hs:List Hint} {v:Value} {W:List Nat} (hf:E.func g=some fn)
  (hn:(fn.body.isSome&&Nat.ble args.length fn.ntmps&&!(fn.name== "runtime.NumGoroutine"))=true) (hp:P) (h:(yc E fn f args H none hs).map (fun r=>(fU r.1,r.2))=some (P,v,H',W)):bE E g args H (.ret v) H' W:=by
 obtain ⟨⟨Ps,r⟩,h1,h2⟩:=Option.map_eq_some_iff.1 h
 injection h2 with h2 h3
 subst h3
 exact bE.adQ ok hf hn h1 (h2▸hp)
end
theorem c6.agz {α:Type} (a b:α):∀(f g:Nat) (t:c6 α) (i:Nat),i<f→i<g→c6.gL g (c6.gL f t i a) i b=c6.gL g t i b:=by
 intro f
 induction f with
 |zero=>intro g t i h;omega
 |succ f ih=>
  intro g t i hf hg
  cases g with
  |zero=>omega
  |succ g=>
   cases t with
   |nil=>
    simp only [c6.gL]
    cases h0:Nat.beq i 0 with
    |true=>simp [c6.gL,h0]
    |false=>
     have hi:i≠0:=fun e=>by subst e;cases h0
     cases h1:Nat.beq (i%2) 1 with
     |true=>simp only [cond_true,cond_false,c6.gL,h0,h1];rw [ih g _ _ D D]
     |false=>simp only [cond_true,cond_false,c6.gL,h0,h1];rw [ih g _ _ D D]
   |node v l r=>
    simp only [c6.gL]
    cases h0:Nat.beq i 0 with
    |true=>simp [c6.gL,h0]
    |false=>
     have hi:i≠0:=fun e=>by subst e;cases h0
     cases h1:Nat.beq (i%2) 1 with
     |true=>simp only [cond_true,cond_false,c6.gL,h0,h1];rw [ih g _ _ D D]
     |false=>simp only [cond_true,cond_false,c6.gL,h0,h1];rw [ih g _ _ D D]
theorem c6.S4 {α:Type} (a:α):∀(f g:Nat) (t:c6 α) (i:Nat),i<f→i<g→c6.gL f t i a=c6.gL g t i a:=by
 intro f
 induction f with
 |zero=>intro g t i h;omega
 |succ f ih=>
  intro g t i hf hg
  cases g with
  |zero=>omega
  |succ g=>
   cases t <;> simp only [c6.gL] <;> cases h0:Nat.beq i 0 <;> simp only [cond_true,cond_false] <;>
    (have hi:i≠0:=fun e=>by subst e;cases h0) <;>
    (cases h1:Nat.beq (i%2) 1 <;> simp only [cond_true,cond_false] <;> rw [ih g _ _ D D])
theorem c6.set_set {α:Type} (t:c6 α) (i:Nat) (a b:α):(t.set i a).set i b=t.set i b:=c6.agz a b _ _ _ _ D D
theorem c6.agy {α:Type} (a b:α):∀(f:Nat) (t:c6 α) (i j:Nat),i≠j→i<f→j<f→c6.gL f (c6.gL f t i a) j b=c6.gL f (c6.gL f t j b) i a:=by
 intro f
 induction f with
 |zero=>intro t i j h h1;omega
 |succ f ih=>
  intro t i j hij hi hj
  by_cases hi0:i=0
  ·have hj0:j≠0:=fun e=>hij (hi0.trans e.symm)
   have i0:=l7 hi0
   have rB:=iz hj0
   cases t <;> simp only [c6.gL,i0,rB,cond_true,cond_false] <;> cases Nat.beq (j%2) 1 <;> simp only [cond_true,cond_false,c6.gL,i0,rB]
  ·have i0:=iz hi0
   by_cases hj0:j=0
   ·have rB:=l7 hj0
    cases t <;> simp only [c6.gL,i0,rB,cond_true,cond_false] <;> cases Nat.beq (i%2) 1 <;> simp only [cond_true,cond_false,c6.gL,i0,rB]
   ·have rB:=iz hj0
    by_cases mi:i%2=1
    ·have i1:=l7 mi
     by_cases CA:j%2=1
     ·have j1:=l7 CA
      cases t <;> simp only [c6.gL,i0,rB,i1,j1,cond_true,cond_false] <;> rw [ih _ _ _ D D D]
     ·have j1:=iz CA
      cases t <;> simp only [c6.gL,i0,rB,i1,j1,cond_true,cond_false]
    ·have i1:=iz mi
     by_cases CA:j%2=1
     ·have j1:=l7 CA
      cases t <;> simp only [c6.gL,i0,rB,i1,j1,cond_true,cond_false]
     ·have j1:=iz CA
      cases t <;> simp only [c6.gL,i0,rB,i1,j1,cond_true,cond_false] <;> rw [ih _ _ _ D D D]
theorem c6.set_comm {α:Type} (t:c6 α) {i j:Nat} (h:i≠j) (a b:α):(t.set i a).set j b=(t.set j b).set i a:=by
 unfold c6.set
 have e1:∀(t:c6 α),c6.gL (i+1) t i a=c6.gL (i+j+1) t i a:=fun t=>c6.S4 a _ _ t i D D
 have e2:∀(t:c6 α),c6.gL (j+1) t j b=c6.gL (i+j+1) t j b:=fun t=>c6.S4 b _ _ t j D D
 rw [e1,e2,e2,e1]
 exact c6.agy a b _ t i j h D D
def news (H:U):List df→U
 |[]=>H
 |o::l=>news (H.new o) l
theorem bU:∀(l:List df) (H:U),(news H l).n=H.n+l.length
 |[],H=>rfl
 |o::l,H=>by simp only [news,bU l,cj];show H.n+1+l.length=_;omega
theorem CH:∀(l:List df) (H:U) (i:Nat),i<H.n→(news H l).get i=H.get i
 |[],H,i,h=>rfl
 |o::l,H,i,h=>by
  have hn:(H.new o).n=H.n+1:=rfl
  rw [news,CH l _ i D,U.jn,if_neg D]
theorem aL:∀(l:List df) (H:U) (k:Nat) (o:df),l[k]?=some o→(news H l).get (H.n+k)=some o
 |[],H,k,o,h=>by simp at h
 |o'::l,H,0,o,h=>by
  simp only [cj,List.getElem?_cons_zero,bx] at h
  subst h
  have hn:(H.new o').n=H.n+1:=rfl
  rw [news,CH l _ _ D,U.jn];simp
 |o'::l,H,k+1,o,h=>by
  have hn:(H.new o').n=H.n+1:=rfl
  have:=aL l (H.new o') k o (by simpa using h)
  rw [hn] at this
  rw [news,← this];congr 1;omega
theorem Q2:∀(l:List df) (H:U) (i:Nat) (o:df),i<H.n→(news H l).set i o=news (H.set i o) l
 |[],H,i,o,h=>rfl
 |o'::l,H,i,o,h=>by
  have hn:(H.new o').n=H.n+1:=rfl
  rw [news,Q2 l _ i o D,news]
  congr 1
  show U.mk (H.n+1) ((H.t.set H.n o').set i o)=U.mk (H.n+1) ((H.t.set i o).set H.n o')
  rw [c6.set_comm _ D]
theorem FO:∀(l:List df) (H:U) (k:Nat) (o:df),k<l.length→(news H l).set (H.n+k) o=news H (l.set k o)
 |[],H,k,o,h=>by simp at h
 |o'::l,H,0,o,h=>by
  have hn:(H.new o').n=H.n+1:=rfl
  rw [news,Nat.add_zero,Q2 l _ _ o D,List.set_cons_zero,news]
  congr 1
  show U.mk (H.n+1) ((H.t.set H.n o').set H.n o)=U.mk (H.n+1) (H.t.set H.n o)
  rw [c6.set_set]
 |o'::l,H,k+1,o,h=>by
  have hn:(H.new o').n=H.n+1:=rfl
  have:=FO l (H.new o') k o (by simpa using h)
  rw [hn] at this
  rw [news,List.set_cons_succ,news,← this];congr 1;omega
theorem cz.news {H:U} (h:cz H):∀(l:List df),cz (news H l):=by
 intro l
 induction l generalizing H with
 |nil=>exact h
 |cons o l ih=>exact ih (h.new o)
section
variable {E:Env}
theorem d7 {t:TypeId} {b off:Nat} {H:U} {c:List Value} {e:TypeId} {ro:Bool} {v:Value} (ha:E.agg t=some false) (hb:H.get b=some (.cells c e ro)) (hv:c[off]?=some v):ay E t b off H=some v:=by
 simp only [ay,ha,cell,hb,hv]
theorem cg {t:TypeId} {b off n:Nat} {H:U} {c:List Value} {e:TypeId} {ro:Bool} {vs:List Value} (ha:E.agg t=some true) (hs:E.size t=some n) (hb:H.get b=some (.cells c e ro)) (hn:Nat.ble (off+n) c.length=true) (hv:(c.drop off).take n=vs):ay E t b off H=some (.agg vs.toArray):=by
 simp only [ay,ha,hs,row,hb,hn,cond_true,hv]
theorem st {t:TypeId} {b off n:Nat} {H:U} {c c':List Value} {e:TypeId} {v:Value} (hs:E.size t=some n) (hb:H.get b=some (.cells c e false)) (hn:(Nat.beq v.cells.size n&&v.cells.toList.all one&&Nat.ble (off+n) c.length)=true) (hc:splice c off v.cells.toList=c'):bp E t b off v H=some (H.set b (.cells c' e false)):=by
 simp only [bp,hb,hs,hn,cond_true,hc]
theorem ab9 {t:TypeId} {k off:Nat} {H:U} {l:List df} {c:List Value} {e:TypeId} {ro:Bool} {v:Value} (ha:E.agg t=some false) (hb:l[k]?=some (.cells c e ro)) (hv:c[off]?=some v):ay E t (H.n+k) off (news H l)=some v:=
 d7 ha (aL l H k _ hb) hv
theorem dy {t:TypeId} {k off n:Nat} {H:U} {l:List df} {c:List Value} {e:TypeId} {ro:Bool} {vs:List Value} (ha:E.agg t=some true) (hs:E.size t=some n) (hb:l[k]?=some (.cells c e ro)) (hn:Nat.ble (off+n) c.length=true) (hv:(c.drop off).take n=vs) :
  ay E t (H.n+k) off (news H l)=some (.agg vs.toArray):=cg ha hs (aL l H k _ hb) hn hv
theorem bT {t:TypeId} {k off n:Nat} {H:U} {l l':List df} {c c':List Value} {e:TypeId} {v:Value} (hs:E.size t=some n) (hb:l[k]?=some (.cells c e false)) (hn:(Nat.beq v.cells.size n&&v.cells.toList.all one&&Nat.ble (off+n) c.length)=true) (hc:splice c off v.cells.toList=c') (hl:l.set k (.cells c' e false)=l') :
  bp E t (H.n+k) off v (news H l)=some (news H l'):=by
 rw [st hs (aL l H k _ hb) hn hc,FO l H k _ (List.getElem?_eq_some_iff.1 hb).1,hl]
def pW (n:Nat) (v:Value):Prop:=∀(φ ψ:bA) (u:Value),(∀ i,i<n→ψ i=φ i)→be ψ v u→be φ v u
theorem pW.ground {n:Nat} {v:Value} (h:ground v=true):pW n v:=fun φ ψ u _ hu=>by rw [hu.ox h];exact .rR h
theorem pW.ptr {n i o:Nat} (h:i<n):pW n (.pointer (some ⟨i,o,none⟩)):=fun φ ψ u he hu=>by
 cases hu with |ptr _ _ l hl=>exact .ptr i o l (by rw [← he i h];exact hl)
theorem pW.agg {n:Nat} {cs:Array Value} (h:∀ x∈cs.toList,pW n x):pW n (.agg cs):=fun φ ψ u he hu=>by
 obtain ⟨ds,rfl,ha⟩:=hu.A8
 exact .agg cs ds ha.1 fun i x y hx hy=>h x (by simpa using Array.mem_of_getElem? hx) φ ψ y he (ha.2 i x y hx hy)
theorem pW.iface {n:Nat} {t:TypeId} {v:Value} (h:pW n v):pW n (.iface t v):=fun φ ψ u he hu=>by
 cases hu with |iface _ _ x hx=>exact .iface t v x (h φ ψ x he hx)
def A2 (n:Nat):Option df→Prop
 |some (.cells c _ _)=>∀ x∈c,pW n x
 |some (.map es _)=>∀ x∈es,pW n x.key∧pW n x.val
 |_=>True
theorem mw.low {base:Nat} {φ ψ:bA} {w:World} {l:Loc} {o:df} {n:Nat} (he:∀ i,i<n→ψ i=φ i) (h:A2 n (some o)) (hb:mw E base ψ w l o):mw E base φ w l o:=by
 cases o with
 |cells c e ro=>
  have key:∀(j:Nat) x y,c[j]?=some x→be ψ x y→be φ x y:=fun j x y hx hv=>h x (List.mem_of_getElem? hx) φ ψ y he hv
  cases ro with
  |true=>exact fun j x hx=>let ⟨y,a,b⟩:=hb j x hx;⟨y,a,key j x y hx b⟩
  |false=>
   obtain ⟨d4,lo,hi,a1,a2,a3,a4,a5⟩:=hb
   exact ⟨d4,lo,hi,a1,a2,a3,fun j x hx=>let ⟨y,a,b⟩:=a4 j x hx;⟨y,a,key j x y hx b⟩,a5⟩
 |map es ak=>
  obtain ⟨es',a1,a2,a3,a4⟩:=hb
  exact ⟨es',a1,a2,a3,fun j x y hx hy=>let ⟨p,q,r⟩:=a4 j x y hx hy;⟨(h x (List.mem_of_getElem? hx)).1 φ ψ _ he p,(h x (List.mem_of_getElem? hx)).2 φ ψ _ he q,r⟩⟩
 |dead=>trivial
structure Ext (E:Env) (H H':U):Prop where
 n:H.n≤H'.n
 get:∀ i,i<H.n→H'.get i=H.get i
 wf:cz H'
 ej:E.ej≤H'.n
abbrev D2:=U→Prop
def ajb (E:Env) (K:D2):Prop:=∀ H H',cz H→Ext E H H'→K H→K H'
def Pure (E:Env) (K:D2) (g:FuncId) (args:List Value) (v:Value):Prop:=∀ H,cz H→E.ej≤H.n→K H→∃ H',Ext E H H'∧bE E g args H (.ret v) H' []
def ai9 (E:Env) (K:D2) (aq:Nat) (c:Code) (pre:List (Tmp×Value)) (x:eY) (post:List (Tmp×Value)):Prop:=∀ H,cz H→E.ej≤H.n→K H→∃ H',Ext E H H'∧c7 E aq c (bl pre) H [] x (bl post) H' [] []
def aja (E:Env) (K:D2) (aq:Nat) (c:Code) (pre:List (Tmp×Value)) (x:eY) (post:List (Tmp×Value)):Prop:=∀ H,cz H→E.ej≤H.n→K H→∃ n H',Ext E H H'∧oh E n aq c (bl pre) H [] x (bl post) H' [] []
end
structure aa (E:Env) (G H:U):Prop where
 wf:cz H
 n:G.n≤H.n
 ej:E.ej≤G.n
 get:∀ i,i<G.n→H.get i=G.get i
theorem aa.vW {E:Env} {G H:U} (y:aa E G H):E.ej≤H.n:=Nat.le_trans y.ej y.n
theorem aa.step {E:Env} {G H H':U} {V:List Nat} (y:aa E G H) (x:cX V H H') (wf:cz H') (hv:∀ q∈V,G.n≤q):aa E G H':=
 ⟨wf,Nat.le_trans y.n x.n,y.ej,fun i hi=>(x.keep i (Nat.lt_of_lt_of_le hi y.n) fun hm=>by have:=hv i hm;omega).trans (y.get i hi)⟩
theorem aa.news {E:Env} {G H:U} (y:aa E G H) (l:List df):aa E G (news H l):=
 ⟨y.wf.news l,by rw [bU];have:=y.n;omega,y.ej,fun i hi=>(CH l H i (Nat.lt_of_lt_of_le hi y.n)).trans (y.get i hi)⟩
theorem aa.set {E:Env} {G H:U} (y:aa E G H) {b:Nat} (o:df) (h1:G.n≤b) (h2:b<H.n):aa E G (H.set b o):=
 ⟨y.wf.set h2 o,y.n,y.ej,fun i hi=>by rw [U.kr,if_neg D];exact y.get i hi⟩
theorem aa.cell {E:Env} {G H:U} (y:aa E G H) {i:Nat} {o:df} (h:G.get i=some o) (hi:i<G.n):H.get i=some o:=(y.get i hi).trans h
def aI (E:Env) (G:U) (g:FuncId) (args:List Value) (H:U) (V:List Nat) (Q:Value→U→Prop):Prop:=
 ∃ v H',bE E g args H (.ret v) H' V∧cX V H H'∧aa E G H'∧Q v H'
def jF (E:Env) (G:U) (aq:Nat) (c:Code) (pre:List (Tmp×Value)) (H:U) (V:List Nat) (Q:eY→b5→U→Prop):Prop:=
 ∃ x cO H',c7 E aq c (bl pre) H [] x cO H' [] V∧cX V H H'∧aa E G H'∧Q x cO H'
def cy (E:Env) (G:U) (aq:Nat) (c:Code) (pre:List (Tmp×Value)) (H:U) (V:List Nat) (Q:eY→b5→U→Prop):Prop:=
 ∃ n x cO H',oh E n aq c (bl pre) H [] x cO H' [] V∧cX V H H'∧aa E G H'∧Q x cO H'
section
variable {E:Env} {G H H':U}
theorem aI.mk {g:FuncId} {args:List Value} {v:Value} {V W:List Nat} {Q:Value→U→Prop} (y:aa E G H) (c:bE E g args H (.ret v) H' W) (hw:∀ q∈W,q∈V∨(H.n≤q∧q<H'.n)) (hv:∀ q∈V,G.n≤q) (hq:Q v H'):aI E G g args H V Q:=by
 have c':=c.norm hw
 obtain ⟨x,wf,_⟩:=c' y.wf y.vW
 exact ⟨v,H',c',x,y.step x wf hv,hq⟩
theorem jF.mk {aq:Nat} {c:Code} {pre post:List (Tmp×Value)} {x:eY} {V W:List Nat} {Q:eY→b5→U→Prop} (y:aa E G H) (h:c7 E aq c (bl pre) H [] x (bl post) H' [] W) (hw:∀ q∈W,q∈V∨(H.n≤q∧q<H'.n)) (hv:∀ q∈V,G.n≤q) (hq:Q x (bl post) H'):jF E G aq c pre H V Q:=by
 have h':=h.post (lK.refl _) hw
 obtain ⟨x,wf,_⟩:=h' y.wf y.vW
 exact ⟨_,_,H',h',x,y.step x wf hv,hq⟩
theorem cy.next {aq:Nat} {c:Code} {pre mid:List (Tmp×Value)} {V:List Nat} {Q:eY→b5→U→Prop} {H1:U} (h:c7 E aq c (bl pre) H [] .normal (bl mid) H1 [] V) (hx:cX V H H1) (k:cy E G aq c mid H1 V Q):cy E G aq c pre H V Q:=by
 obtain ⟨n,x,T,H',h1,h2,h3,h4⟩:=k
 have hn:=hx.n
 have hn':=h2.n
 refine ⟨n+1,x,T,H',(oh.next h h1).post (lK.refl _) (fun q hq=>.inl ?_),(hx.trans h2).wider (fun q hq=>?_),h3,h4⟩
 ·rcases List.mem_append.1 hq with hq |hq <;> exact hq
 ·rcases List.mem_append.1 hq with hq |hq <;> exact hq
theorem cy.code {aq:Nat} {c:Code} {pre:List (Tmp×Value)} {V:List Nat} {Q:eY→b5→U→Prop} (h:cy E G aq c pre H V Q):jF E G aq (.loop c) pre H V Q:=by
 obtain ⟨n,x,T,H',h1,h2⟩:=h
 exact ⟨x,T,H',h1.IC,h2⟩
theorem aI.mono {g:FuncId} {args:List Value} {V:List Nat} {Q R:Value→U→Prop} (h:aI E G g args H V Q) (hq:∀ v H',Q v H'→R v H'):aI E G g args H V R:=by
 obtain ⟨v,H',h1,h2,h3,h4⟩:=h
 exact ⟨v,H',h1,h2,h3,hq _ _ h4⟩
theorem aa.old (y:aa E G H) {b:Nat} {o:df} (k:H.get b=some o) (l:List df):(Go.Am.news H l).get b=some o:=(CH l H b (y.wf.lt k)).trans k
theorem aa.kept (y:aa E G H) {V:List Nat} (x:cX V H H') {b:Nat} {o:df} (hb:b∉V) (k:H.get b=some o):H'.get b=some o:=(x.keep b (y.wf.lt k) hb).trans k
theorem bC {K:U} {q:Nat} {o:df} (e:K=H.set q o):K.get q=some o:=by rw [e,U.kr,if_pos rfl]
theorem bu {K:U} {q b:Nat} {o o':df} (e:K=H.set q o) (hne:q≠b) (k:H.get b=some o'):K.get b=some o':=by rw [e,U.kr,if_neg hne];exact k
theorem cy.next' {aq:Nat} {c:Code} {pre mid:List (Tmp×Value)} {V W:List Nat} {Q:eY→b5→U→Prop} {H1:U} (y:aa E G H) (h:c7 E aq c (bl pre) H [] .normal (bl mid) H1 [] W) (hw:∀ q∈W,q∈V∨(H.n≤q∧q<H1.n)) (k:cy E G aq c mid H1 V Q):cy E G aq c pre H V Q:=by
 have h':=h.post (lK.refl _) hw
 obtain ⟨x,wf,_⟩:=h' y.wf y.vW
 exact cy.next h' x k
theorem cy.last' {aq:Nat} {c:Code} {pre post:List (Tmp×Value)} {x:eY} {V W:List Nat} {Q:eY→b5→U→Prop} (y:aa E G H) (h:c7 E aq c (bl pre) H [] x (bl post) H' [] W) (hx:x≠.normal) (hw:∀ q∈W,q∈V∨(H.n≤q∧q<H'.n)) (hv:∀ q∈V,G.n≤q) (hq:Q x (bl post) H'):cy E G aq c pre H V Q:=by
 have h':=h.post (lK.refl _) hw
 obtain ⟨x',wf,_⟩:=h' y.wf y.vW
 exact ⟨1,_,_,H',oh.last h' hx,x',y.step x' wf hv,hq⟩
def jx (v:Value):Prop:=∀(φ ψ:bA) (u:Value),be φ v u→be ψ v u
theorem jx.ground {v:Value} (h:ground v=true):jx v:=fun φ ψ u hu=>by rw [hu.ox h];exact .rR h
theorem jx.iface {t:TypeId} {v:Value} (h:jx v):jx (.iface t v):=fun φ ψ u hu=>by
 cases hu with |iface _ _ x hx=>exact .iface t _ x (h φ ψ x hx)
theorem jx.tuple {cs:Array Value} (h:∀ x∈cs.toList,jx x):jx (.tuple cs):=fun φ ψ u hu=>by
 obtain ⟨ds,rfl,ha⟩:=hu.ML
 exact .tuple cs ds ha.1 fun i x y hx hy=>h x (by simpa using Array.mem_of_getElem? hx) φ ψ y (ha.2 i x y hx hy)
def H6 (G:U):Prop:=∀ i,i<G.n→A2 G.n (G.get i)
theorem bE.gx {g:FuncId} {args:List Value} {v:Value} {my:U} (low:H6 G) (MY:cz G) (cu:E.ej≤G.n) (ha:∀ x∈args,jx x) (hv:jx v) (c:bE E g args G (.ret v) my []) (y:aa E G H):bE E g args H (.ret v) H []:=fun wf _=>by
 obtain ⟨x1,fD,k⟩:=c MY cu
 have j6:=x1.n
 refine ⟨cX.refl ..,wf,fun base φ w args' cC hf hl=>?_⟩
 let il:bA:=fun i=>if i<G.n then φ i else none
 have e0:∀ i,i<G.n→il i=φ i:=fun i hi=>if_pos hi
 have LZ:Rel E base G il w:=by
  refine ⟨cC.bs,fun i l o hi hl ho=>?_,fun i l hi hl hlv=>?_,fun i j l m hi hj hij hl hm hw hv=>?_,fun g hg=>?_⟩
  ·rw [e0 i hi] at hl
   have hb:=cC.blocks i l o (Nat.lt_of_lt_of_le hi y.n) hl (y.cell ho hi)
   have BQ:=low i hi
   rw [ho] at BQ
   exact hb.low (ψ:=φ) (φ:=il) (fun i hi=>(e0 i hi).symm) BQ
  ·rw [e0 i hi] at hl
   exact cC.lt i l (Nat.lt_of_lt_of_le hi y.n) hl (by rw [y.get i hi];exact hlv)
  ·rw [e0 i hi] at hl
   rw [e0 j hj] at hm
   exact cC.inj i j l m (Nat.lt_of_lt_of_le hi y.n) (Nat.lt_of_lt_of_le hj y.n) hij hl hm (by rw [y.get i hi];exact hw) (by rw [y.get j hj];exact hv)
  ·obtain ⟨l,h1,h2⟩:=cC.iL g hg
   exact ⟨l,by rw [e0 g D];exact h1,h2⟩
 have Jf:fW il G.n my.n:=fun i h1 h2=>if_neg D
 have nX:eb il args args':=⟨hl.1,fun i x y hx hy=>ha x (List.mem_of_getElem? hx) φ il y (hl.2 i x y hx hy)⟩
 have post:∀ e w',nJ E base il w G my [] (.ret v) e w'→nJ E base φ w H H [] (.ret v) e w':=by
  rintro e w' ⟨e4,b6,he⟩
  have hs:=b6.step
  refine ⟨φ,⟨fun _ _=>rfl,⟨Nat.le_trans cC.bs hs.size,fun i l o hi hl ho=>?_,fun i l hi hl hlv=>Nat.lt_of_lt_of_le (cC.lt i l hi hl hlv) hs.size,cC.inj,cC.iL⟩,⟨hs.os,hs.tape,hs.output,hs.size,fun B hB _=>hs.keep B hB fun j hj=>by cases hj⟩,fun i l h1 h2=>by omega⟩,?_⟩
  ·have hb:=cC.blocks i l o hi hl ho
   by_cases hlv:live (H.get i)=true
   ·exact hb.same (hs.keep _ (cC.lt i l hi hl hlv) fun j hj=>by cases hj)
   ·rw [ho] at hlv
    cases o with
    |cells c e ro=>
     cases ro with
     |false=>cases c <;> exact absurd rfl hlv
     |true=>
      cases c with
      |nil=>intro j x hx;simp at hx
      |cons _ _=>exact absurd rfl hlv
    |map es ak=>exact absurd rfl hlv
    |dead=>trivial
  ·obtain ⟨u,h1,h2⟩:=he
   exact ⟨u,h1,hv e4 φ u h2⟩
 rcases k base il w args' LZ Jf nX with ⟨he,hc⟩ |⟨v',w',he,oC⟩
 ·exact .inl ⟨he,hc.mono post⟩
 ·exact .inr ⟨v',w',he,post _ _ oC⟩
end
theorem eb.ox {φ:bA}:∀{xs ys:List Value},eb φ xs ys→xs.all ground=true→ys=xs
 |[],ys,h,_=>h.mO
 |x::xs,zs,h,hg=>by
  obtain ⟨y,ys,rfl,h1,h2⟩:=h.cons_inv
  simp only [List.all_cons,dI] at hg
  rw [h1.ox hg.1,eb.ox h2 hg.2]
theorem iP {l:List Value} (h:l.all ground=true):∀ x∈l,jx x:=fun x hx=>.ground (List.all_eq_true.1 h x hx)
theorem bE.extern {E:Env} (ok:E.eU) {g:FuncId} {fn:Func} {args:List Value} {H:U} {v:Value} {e:Array Value→Sem Value} (hf:E.func g=some fn) (hn:(fn.name== "runtime.NumGoroutine")=false) (hb:fn.body=none)
  (hx:(Extern.findNext fn).isNone=true) (he:Extern.find fn=some e) (ha:args.all ground=true) (hg:ground v=true) (hv:e args.toArray=pure v):bE E g args H (.ret v) H []:=fun wf cu=>
 ⟨cX.refl ..,wf,fun base φ w args' cC hfr hl=>by
  have:=hl.ox ha
  subst this
  have hx':Extern.findNext fn=none:=by
   cases h:Extern.findNext fn with
   |none=>rfl
   |some x=>rw [h] at hx;cases hx
  refine .inr ⟨v,w,?_,φ,Out.refl [] cC,v,rfl,.rR hg⟩
  unfold callFunc
  rw [bt (run_program w)]
  simp only [ok.func _ _ hf,hn,Bool.false_eq_true,if_false,hb,Option.isNone_none,if_true]
  rw [hx',he]
  show ((mark (.extern g)).bind _).run E.P w=_
  rw [run_bind]
  simp only [mark,Sem.run]
  rw [hv]
  rfl⟩
abbrev J (x:Int):Value:=.int .i64 x
abbrev ax (x:Int):Value:=.int .u64 x
abbrev ab (x:Int):Value:=.int .u8 x
abbrev pt (b o:Nat):Value:=.pointer (some ⟨b,o,none⟩)
abbrev sc (b o n c:Nat):Value:=.slice (some ⟨b,o,none⟩) n c
abbrev dP (v:Value) (H:U):Hint:=.val v H [] []
abbrev aB (n:Nat):Hint:=.auto n
theorem q4 {p:Prop} (v:Value) (r:p):(some v=some v)∧p:=⟨rfl,r⟩
theorem bn {p q:Prop} (h:p) (k:q):p∧q:=⟨h,k⟩
def ux (E:Env) (T:b5) (H:U):List ResultVar→List Value→Option (List Prop)
 |[],[]=>some []
 |.tmp t::rs,v::vs=>match ux E T H rs vs with
  |some ps=>some ((T.get t=some v)::ps)
  |none=>none
 |.cell a t::rs,v::vs=>match T.get a with
  |some (.pointer (some ⟨b,off,none⟩))=>match ux E T H rs vs with
   |some ps=>some ((ay E t b off H=some v)::ps)
   |none=>none
  |_=>none
 |_,_=>none
theorem L3 {E:Env} {T:b5} {H:U}:∀{rs:List ResultVar} {vs:List Value} {ps:List Prop},ux E T H rs vs=some ps→fU ps→s9 E ⟨T,H,[],[]⟩ rs=some vs
 |[],[],_,_,_=>rfl
 |[],_::_,ps,h,_=>by simp [ux] at h
 |.tmp t::rs,[],ps,h,_=>by simp [ux] at h
 |.cell a t::rs,[],ps,h,_=>by simp [ux] at h
 |.tmp t::rs,v::vs,ps,h,hp=>by
  simp only [ux] at h
  split at h
  ·rename_i aeT hq
   injection h with h;subst h
   simp only [s9,hp.1,L3 hq hp.2]
  ·cases h
 |.cell a t::rs,v::vs,ps,h,hp=>by
  simp only [ux] at h
  split at h
  ·rename_i b off ha
   split at h
   ·rename_i aeT hq
    injection h with h;subst h
    simp only [s9,ha,hp.1,L3 hq hp.2]
   ·cases h
  ·cases h
def ahX:List Value→Value
 |[v]=>v
 |vs=>.tuple vs.toArray
def MD (E:Env) (fn:Func) (f:Nat) (args:List Value) (H:U) (vs:List Value) (hs:List Hint):Option (List Prop×Value×U×List Nat):=
 match ob E fn.ntmps f (cH fn) (mj args 0 .nil) H [] hs with
 |some (Ps,x,cO,H',[],W,[])=>match (match x with |.ret=>true |.normal=>true |_=>false) with
  |true=>match ux E cO H' fn.results.toList vs with
   |some wV=>some (Ps++wV,ahX vs,H',W)
   |none=>none
  |false=>none
 |_=>none
theorem bE.adR {E:Env} (ok:E.eU) {P:Prop} {g f:Nat} {fn:Func} {args vs:List Value} {H H':U} {hs:List Hint} {v:Value} {W:List Nat} (hf:E.func g=some fn)
  (hn:(fn.body.isSome&&Nat.ble args.length fn.ntmps&&!(fn.name== "runtime.NumGoroutine"))=true) (hp:P) (h:(MD E fn f args H vs hs).map (fun r=>(fU r.1,r.2))=some (P,v,H',W)):bE E g args H (.ret v) H' W:=by
 obtain ⟨⟨Ps,r⟩,h1,h2⟩:=Option.map_eq_some_iff.1 h
 injection h2 with h2 h3
 subst h3
 have hp:fU Ps:=h2▸hp
 simp only [dI,Bool.not_eq_true'] at hn
 obtain ⟨⟨hb,hle⟩,hname⟩:=hn
 obtain ⟨c,hc⟩:=Option.isSome_iff_exists.1 hb
 have hbc:cH fn=c:=by unfold cH;rw [hc]
 unfold MD at h1
 split at h1
 ·rename_i tA x1 fT H1 fa hr
  rw [hbc] at hr
  split at h1
  ·rename_i hx
   have hx:x1=.normal∨x1=.ret:=by
    cases x1 <;> first
     |exact .inl rfl
     |exact .inr rfl
     |cases hx
   split at h1
   ·rename_i wV hq
    simp only [bx,bG] at h1
    obtain ⟨rfl,rfl,rfl,rfl⟩:=h1
    rw [m5] at hp
    refine bE.Lj ok hf hname hc hle hx (nB ok f _ _ _ _ _ _ _ _ _ _ _ _ hr hp.1) ?_
    have:=L3 hq hp.2
    unfold rZ
    rw [this]
    match vs with
    |[]=>rfl
    |[v]=>rfl
    |_::_::_=>rfl
   ·cases h1
  ·cases h1
 ·cases h1
theorem jx.func0 (f:FuncId):jx (.func (.func f) #[] #[]):=fun φ ψ u hu=>by
 obtain ⟨g,fs,cs,e,rfl,h1,h2⟩:=hu.Jh
 injection e with e
 subst e
 exact .func f #[] fs #[] cs h1.1 (fun i x y hx=>by simp at hx) h2.1 (fun i x y hx=>by simp at hx)
theorem cU {E:Env} {G H H':U} (y:aa E G H) {b:Nat} {c:List Value} {e:TypeId} (k:H.get b=some (.cells c e false)):bZ H H' [b]=true:=by
 have h:=y.wf.lt k
 have e1:Nat.blt b H.n=true:=by simpa [Nat.blt_eq] using h
 simp only [bZ,List.all_cons,List.all_nil,e1,cond_true,k,fG,Bool.and_true]
end Go.Am
namespace Go.Proofs.YtbehemdcaiigeaaGreatDoor
open Go Go.Am
def O2 (P:Program) (n:Nat):Env:={ P:=P,info:=fun t=>P.info? t,func:=fun f=>P.funcs[f]?,ej:=n,x5:=fun _=>none,zn:=fun _=>none,tight:=fun t=>Nat.beq t 44||Nat.beq t 46 }
theorem XU (P:Program) (n:Nat):(O2 P n).eU:=⟨fun _ _ h=>h,fun _ _ h=>h⟩
noncomputable def E:Env:=O2 Tryz.prog 23
theorem ok:E.eU:=XU _ _
theorem aZ {p:Nat→Prop}:∀ q∈([]:List Nat),p q:=fun _ h=>absurd h List.not_mem_nil
theorem Ve {a b:Int} (h:(a != b)=true):a≠b:=by simpa using h
theorem Vd {a b:Int} (h:(a != b)=false):a=b:=by simpa using h
theorem kX {x:Int} (h0:-9223372036854775808≤x) (h1:x<9223372036854775808):IntKind.i64.wrap x=x:=by
 unfold IntKind.wrap
 simp only [IntKind.bits,IntKind.signed,Bool.true_and]
 split <;> (rename_i h;simp only [ge_iff_le,decide_eq_true_eq] at h;omega)
theorem av {p:Prop} (h:p:=by kernel_rfl):p:=h
theorem alm (e:Int) (h0:-9223372036854775808≤e:=by omega) (h1:e<9223372036854775808:=by omega):(J (IntKind.i64.wrap e):Value)=J e:=by rw [kX h0 h1]
theorem alk {p:Prop} (h:p:=by rw [kX (by omega) (by omega)]):p:=h
theorem aQ {p:Prop} (h:p:=by intro q hq;simp only [List.mem_cons,List.not_mem_nil,or_false,false_or,bU,List.length_cons,List.length_nil] at hq ⊢;omega):p:=h
theorem bi {p:Prop} (h:p:=by intro q hq;simp only [List.mem_cons,List.not_mem_nil,or_false] at hq;omega):p:=h
theorem aT {p:Prop} (h:p:=by first |omega |(simp only [bU,List.length_cons,List.length_nil];omega)):p:=h
theorem bB {p:Prop} (h:p:=by simp only [List.mem_cons,List.not_mem_nil,or_false];omega):p:=h
theorem bD {p:Prop} (h:p:=by simp):p:=h
abbrev bQ (n:Nat):Value:=.func (.func n) #[] #[]
def Mz:List (Tmp×Value)→Prop
 |[]=>True
 |(_,v)::l=>(some v=some v)∧Mz l
theorem TB:∀ l:List (Tmp×Value),Mz l
 |[]=>trivial
 |(_,_)::l=>⟨rfl,TB l⟩
abbrev Yc (f:Func) (n:Nat):Bool:=(f.body.isSome&&Nat.ble n f.ntmps&&!(f.name== "runtime.NumGoroutine"))
theorem ak4:True:=trivial
theorem ak3:true=true:=rfl
abbrev ajo:Hint:=.dec true
abbrev ajn:Hint:=.dec false
theorem ajX {dE q:Prop} (h0:dE) (r:q):dE∧q:=⟨h0,r⟩
theorem ajY {dE p1 q:Prop} (h0:dE) (h1:p1) (r:q):dE∧p1∧q:=⟨h0,h1,r⟩
theorem ajZ {dE p1 p2 q:Prop} (h0:dE) (h1:p1) (h2:p2) (r:q):dE∧p1∧p2∧q:=⟨h0,h1,h2,r⟩
theorem aj0 {dE p1 p2 p3 q:Prop} (h0:dE) (h1:p1) (h2:p2) (h3:p3) (r:q):dE∧p1∧p2∧p3∧q:=⟨h0,h1,h2,h3,r⟩
theorem aj1 {dE p1 p2 p3 nw q:Prop} (h0:dE) (h1:p1) (h2:p2) (h3:p3) (h4:nw) (r:q):dE∧p1∧p2∧p3∧nw∧q:=⟨h0,h1,h2,h3,h4,r⟩
theorem aj2 {dE p1 p2 p3 nw rV q:Prop} (h0:dE) (h1:p1) (h2:p2) (h3:p3) (h4:nw) (h5:rV) (r:q):dE∧p1∧p2∧p3∧nw∧rV∧q:=⟨h0,h1,h2,h3,h4,h5,r⟩
theorem aj3 {dE p1 p2 p3 nw rV C4 q:Prop} (h0:dE) (h1:p1) (h2:p2) (h3:p3) (h4:nw) (h5:rV) (h6:C4) (r:q):dE∧p1∧p2∧p3∧nw∧rV∧C4∧q:=⟨h0,h1,h2,h3,h4,h5,h6,r⟩
theorem aj4 {dE p1 p2 p3 nw rV C4 RK q:Prop} (h0:dE) (h1:p1) (h2:p2) (h3:p3) (h4:nw) (h5:rV) (h6:C4) (h7:RK) (r:q):dE∧p1∧p2∧p3∧nw∧rV∧C4∧RK∧q:=⟨h0,h1,h2,h3,h4,h5,h6,h7,r⟩
abbrev ai:=@List.not_mem_nil
abbrev gl:=@of_decide_eq_false
abbrev gb:=@of_decide_eq_true
abbrev sX:=@ne_of_beq_false
abbrev pu:=@eq_of_beq
abbrev gI:=@List.getElem?_eq_getElem
abbrev ec:=@Nat.le_of_ble_eq_true
theorem Vq {g:FuncId} {fn:Func} {args:List Value} {H:U} (hs:List Hint) (v:Value) (H':U) (W:List Nat) (hf:E.func g=some fn) (hn:(fn.body.isSome&&Nat.ble args.length fn.ntmps&&!(fn.name== "runtime.NumGoroutine"))=true) {P:Prop} (hp:P) (h:(yc E fn 300 args H none hs).map (fun r=>(fU r.1,r.2))=some (P,v,H',W):=by kernel_rfl):bE E g args H (.ret v) H' W:=bE.Ll ok hf hn hp h
theorem akl {G:U} {Q:Value→U→Prop} {g:FuncId} {fn:Func} {args:List Value} {H:U} (y:aa E G H) (hs:List Hint) (v:Value) (H':U) (hf:E.func g=some fn) (hn:(fn.body.isSome&&Nat.ble args.length fn.ntmps&&!(fn.name== "runtime.NumGoroutine"))=true) {P:Prop} (hp:P) (q:Q v H') (h:(yc E fn 300 args H none hs).map (fun r=>(fU r.1,r.2))=some (P,v,H',[]):=by kernel_rfl):aI E G g args H [] Q:=aI.mk y (Vq hs v H' [] hf hn hp h) aZ aZ q
theorem ajm {aq:Nat} {c:Code} {pre:List (Tmp×Value)} {H:U} (hs:List Hint) (post:List (Tmp×Value)) (x:eY) (H':U) (W:List Nat) {P:Prop→Prop} (hp:∀ q:Prop,q→P q) (h:(qm E aq 300 c pre post H hs).map (fun r=>(fU r.1,r.2))=some (P (Mz post),x,H',W):=by kernel_rfl):c7 E aq c (bl pre) H [] x (bl post) H' [] W:=c7.qV ok (hp _ (TB _)) h
noncomputable abbrev C0 (l:List Value):List df:=[.cells l 154 false]
noncomputable abbrev hD (l:List Value):List df:=[.cells l 167 false]
noncomputable abbrev lD (l:List Value):List df:=[.cells l 184 false]
noncomputable abbrev mQ (l:List Value):List df:=[.cells l 190 false]
noncomputable abbrev oM (l:List Value):List df:=[.cells l 268 false]
noncomputable abbrev am (l:List Value):List df:=[.cells l 27 false]
noncomputable abbrev i9 (l:List Value):List df:=[.cells l 39 false]
noncomputable abbrev Gq (l:List Value):List df:=[.cells l 44 false]
noncomputable abbrev Gr (l:List Value):List df:=[.cells l 46 false]
noncomputable abbrev wh (l:List Value):List df:=[.cells l 5 false]
noncomputable abbrev bo (l:List Value):List df:=[.cells l 85 false]
noncomputable abbrev dJ (l:List Value):List df:=[.cells l 9 false]
theorem dA {W:List Nat} {H K:U} {o:df} (e:cX W (news H [o]) K):H.n+1≤K.n:=by have h:=e.n;rw [bU] at h;exact h
theorem oK {W:List Nat} {H K:U} {o p:df} (e:cX W (news H [o,p]) K):H.n+2≤K.n:=by have h:=e.n;rw [bU] at h;exact h
theorem CF {W:List Nat} {H K:U} {o p q:df} (e:cX W (news H [o,p,q]) K):H.n+3≤K.n:=by have h:=e.n;rw [bU] at h;exact h
theorem de (H:U) (l:List df) (h:0<l.length:=by exact Nat.zero_lt_succ _):(H.n+0)<(news H l).n∨(news H l).n≤(H.n+0):=.inl (by rw [bU];omega)
theorem d8 {P:Nat→Prop} (h:∀ m,(∀ k,k<m→P k)→P m) (m:Nat):P m:=Nat.strongRecOn m h
abbrev aN:Value:=.bool true
abbrev O (l:List Value) (t:TypeId):df:=.cells l t false
abbrev yZ (l:List Value) (t:TypeId):df:=.cells l t true
abbrev Y:Value:=.bool false
abbrev af2 (a:Nat):List Nat:=[a,a]
abbrev akV (a:Nat):List Nat:=[a,a,a]
abbrev Sx (a:Nat):List Nat:=[a,a,a,a]
abbrev GW (a:Nat):List Nat:=[a,a,a,a,a]
abbrev af4 (a:Nat):List Nat:=[a,a,a,a,a,a]
abbrev af5 (a:Nat):List Nat:=[a,a,a,a,a,a,a]
abbrev Sy (a:Nat):List Nat:=[a,a,a,a,a,a,a,a]
abbrev akW (a:Nat):List Nat:=[a,a,a,a,a,a,a,a,a]
abbrev akS (a:Nat):List Nat:=[a,a,a,a,a,a,a,a,a,a]
abbrev akT (a:Nat):List Nat:=[a,a,a,a,a,a,a,a,a,a,a]
abbrev akU (a:Nat):List Nat:=[a,a,a,a,a,a,a,a,a,a,a,a]
theorem Tx {s:ByteArray} (h:(s.toList==(⟨#[]⟩:ByteArray).toList)=true):s.size=0:=by
 have e:=congrArg List.length (eq_of_beq h)
 rw [ByteArray.toList_eq,ByteArray.toList_eq] at e
 simpa using e
theorem Tw {s:ByteArray} (h:(s.toList==(⟨#[]⟩:ByteArray).toList)=false):0<s.size:=by
 rcases Nat.eq_zero_or_pos s.size with h0 |h0
 ·exfalso
  have:s.toList=(⟨#[]⟩:ByteArray).toList:=by
   rw [ByteArray.toList_eq,ByteArray.toList_eq]
   exact List.eq_nil_of_length_eq_zero (by simpa using h0)
  rw [this] at h
  simp at h
 ·exact h0
def eK (pre:List Hint→List Hint) (C:Prop→Prop) (g:Prop):Prop:=(∀ q:Prop,q→C q)→g
section
variable {pre:List Hint→List Hint} {C:Prop→Prop} {g:Prop}
theorem aK (hs:List Hint) (k:eK (fun l=>pre (hs++l)) C g):eK pre C g:=k
theorem aj (hs:List Hint) {p:Prop} (h:p) (k:eK (fun l=>pre (hs++l)) (fun q=>C (p∧q)) g):eK pre C g:=fun hc=>k fun q hq=>hc _ ⟨h,hq⟩
theorem eM (hs:List Hint) {p p1:Prop} (h:p) (h1:p1) (k:eK (fun l=>pre (hs++l)) (fun q=>C (p∧p1∧q)) g):eK pre C g:=fun hc=>k fun q hq=>hc _ ⟨h,h1,hq⟩
theorem oU (hs:List Hint) {p p1 p2:Prop} (h:p) (h1:p1) (h2:p2) (k:eK (fun l=>pre (hs++l)) (fun q=>C (p∧p1∧p2∧q)) g):eK pre C g:=fun hc=>k fun q hq=>hc _ ⟨h,h1,h2,hq⟩
theorem My (hs:List Hint) {p p1 p2 p3:Prop} (h:p) (h1:p1) (h2:p2) (h3:p3) (k:eK (fun l=>pre (hs++l)) (fun q=>C (p∧p1∧p2∧p3∧q)) g):eK pre C g:=fun hc=>k fun q hq=>hc _ ⟨h,h1,h2,h3,hq⟩
theorem Hi (hs:List Hint) {p p1 p2 p3 nw:Prop} (h:p) (h1:p1) (h2:p2) (h3:p3) (h4:nw) (k:eK (fun l=>pre (hs++l)) (fun q=>C (p∧p1∧p2∧p3∧nw∧q)) g):eK pre C g:=fun hc=>k fun q hq=>hc _ ⟨h,h1,h2,h3,h4,hq⟩
theorem gT (hs:List Hint) {p p1 p2 p3 nw rV:Prop} (h:p) (h1:p1) (h2:p2) (h3:p3) (h4:nw) (h5:rV) (k:eK (fun l=>pre (hs++l)) (fun q=>C (p∧p1∧p2∧p3∧nw∧rV∧q)) g):eK pre C g:=fun hc=>k fun q hq=>hc _ ⟨h,h1,h2,h3,h4,h5,hq⟩
def i6:Nat→List Hint→List Hint
 |0,l=>l
 |n+1,l=>.auto n::l
theorem Z (n:Nat) {t:TypeId} {b off:Nat} {H:U} {v:Value} (h:ay E t b off H=some v) (k:eK (fun l=>pre (i6 n (.val v H [] []::l))) (fun q=>C (ay E t b off H=some v∧q)) g):eK pre C g:=fun hc=>k fun q hq=>hc _ ⟨h,hq⟩
theorem aC (n:Nat) {t:TypeId} {b off:Nat} {H K:U} {v:Value} (h:bp E t b off v H=some K) (k:eK (fun l=>pre (i6 n (.val cZ K [] []::l))) (fun q=>C (bp E t b off v H=some K∧q)) g):eK pre C g:=fun hc=>k fun q hq=>hc _ ⟨h,hq⟩
theorem eL (n:Nat) {o:Option (Value×U×List Nat×List Nat)} {v:Value} {h:U} {W R:List Nat} (e:o=some (v,h,W,R)) (k:eK (fun l=>pre (i6 n (.val v h W R::l))) (fun q=>C (o=some (v,h,W,R)∧q)) g):eK pre C g:=fun hc=>k fun q hq=>hc _ ⟨e,hq⟩
theorem et (n:Nat) (H:U) {o:Option Value} {v:Value} (e:o=some v) (k:eK (fun l=>pre (i6 n (.val v H [] []::l))) (fun q=>C (o=some v∧q)) g):eK pre C g:=fun hc=>k fun q hq=>hc _ ⟨e,hq⟩
theorem ad (n:Nat) {f:FuncId} {args:List Value} {H H':U} {v:Value} {W:List Nat} (e:bE E f args H (.ret v) H' W) (k:eK (fun l=>pre (i6 n (.call v H' W::l))) (fun q=>C (bE E f args H (.ret v) H' W∧q)) g):eK pre C g:=fun hc=>k fun q hq=>hc _ ⟨e,hq⟩
theorem bW (n:Nat) {aq:Nat} {c:Code} {fX:List (Tmp×Value)} {H H':U} {d d':jw} {x:eY} {T:b5} {W:List Nat} (e:c7 E aq (.loop c) (bl fX) H d x T H' d' W) (k:eK (fun l=>pre (i6 n (.loop (fX.map (·.1)) x T H' W::l))) (fun q=>C (c7 E aq (.loop c) (bl fX) H d x T H' d' W∧q)) g):eK pre C g:=fun hc=>k fun q hq=>hc _ ⟨e,hq⟩
theorem gS (n j:Nat) {aq:Nat} {c:Code} {fX:List (Tmp×Value)} {H H':U} {d d':jw} {x:eY} {T:b5} {W:List Nat} (e:c7 E aq c (bl fX) H d x T H' d' W) (k:eK (fun l=>pre (i6 n (.piece j (fX.map (·.1)) x T H' W::l))) (fun q=>C (c7 E aq c (bl fX) H d x T H' d' W∧q)) g):eK pre C g:=fun hc=>k fun q hq=>hc _ ⟨e,hq⟩
theorem bR (n:Nat) (i m:Int) (k:eK (fun l=>pre (i6 n (.ak::l))) (fun q=>C (0≤i∧i<m∧q)) g) (h0:0≤i:=by omega) (h1:i<m:=by omega):eK pre C g:=fun hc=>k fun q hq=>hc _ ⟨h0,h1,hq⟩
theorem ap (n:Nat) (e:Int) (k:eK (fun l=>pre (i6 n (.as (J e)::l))) (fun q=>C ((J (IntKind.i64.wrap e):Value)=J e∧q)) g) (h0:-9223372036854775808≤e:=by omega) (h1:e<9223372036854775808:=by omega):eK pre C g:=fun hc=>k fun q hq=>hc _ ⟨by rw [kX h0 h1],hq⟩
theorem aH (n:Nat) {x b:Bool} (h:x=b) (k:eK (fun l=>pre (i6 n (.dec b::l))) (fun q=>C (x=b∧q)) g):eK pre C g:=fun hc=>k fun q hq=>hc _ ⟨h,hq⟩
theorem oS (n:Nat) (b:Bool) (t:b=true→eK (fun l=>pre (i6 n (.dec true::l))) (fun q=>C (b=true∧q)) g) (e:b=false→eK (fun l=>pre (i6 n (.dec false::l))) (fun q=>C (b=false∧q)) g):eK pre C g:=fun hc=>by
 cases h:b with
 |true=>exact t h fun q hq=>hc _ ⟨h,hq⟩
 |false=>exact e h fun q hq=>hc _ ⟨h,hq⟩
theorem aO (n:Nat) (c:Prop) [Decidable c] (t:decide c=true→c→eK (fun l=>pre (i6 n (.dec true::l))) (fun q=>C (decide c=true∧q)) g) (e:decide c=false→¬ c→eK (fun l=>pre (i6 n (.dec false::l))) (fun q=>C (decide c=false∧q)) g):eK pre C g:=
 oS n (decide c) (fun h=>t h (of_decide_eq_true h)) fun h=>e h (of_decide_eq_false h)
theorem cS (n:Nat) (x y:Int) (t:(x==y)=true→x=y→eK (fun l=>pre (i6 n (.dec true::l))) (fun q=>C ((x==y)=true∧q)) g) (e:(x==y)=false→x≠y→eK (fun l=>pre (i6 n (.dec false::l))) (fun q=>C ((x==y)=false∧q)) g):eK pre C g:=
 oS n (x==y) (fun h=>t h (eq_of_beq h)) fun h=>e h (ne_of_beq_false h)
theorem iD (n:Nat) (x y:Int) (t:(x != y)=true→x≠y→eK (fun l=>pre (i6 n (.dec true::l))) (fun q=>C ((x != y)=true∧q)) g) (e:(x != y)=false→x=y→eK (fun l=>pre (i6 n (.dec false::l))) (fun q=>C ((x != y)=false∧q)) g):eK pre C g:=
 oS n (x != y) (fun h=>t h (Ve h)) fun h=>e h (Vd h)
theorem ep (b:Bool):b=true∨b=false:=by cases b <;> simp
theorem r5 (v:Value):some v=some v:=rfl
theorem te {o:Option U} {a b:U} (h:o=some a) (e:b=a):o=some b:=by rw [h,e]
theorem ag {t:TypeId} {b:Nat} {H:U} {c:List Value} {e:TypeId} {ro:Bool} {v:Value} (off:Nat) (ha:E.agg t=some false) (hb:H.get b=some (.cells c e ro)) (hv:c[off]?=some v:=by rfl):ay E t b off H=some v:=d7 ha hb hv
theorem aR {t:TypeId} (K:U) (j off:Nat) (ha:E.agg t=some false) {H:U} {l:List df} {c:List Value} {e:TypeId} {ro:Bool} {v:Value} (hK:K=Go.Am.news H l:=by rfl) (hb:l[j]?=some (.cells c e ro):=by rfl) (hv:c[off]?=some v:=by rfl):ay E t (H.n+j) off K=some v:=hK▸ab9 ha hb hv
theorem stx {t:TypeId} {b n:Nat} {H K:U} {c c':List Value} {e:TypeId} (off:Nat) (v:Value) (hs:E.size t=some n) (hb:H.get b=some (.cells c e false)) (hK:K=H.set b (.cells c' e false)) (hn:(Nat.beq v.cells.size n&&v.cells.toList.all one&&Nat.ble (off+n) c.length)=true:=by rfl) (hc:splice c off v.cells.toList=c':=by rfl):bp E t b off v H=some K:=te (st hs hb hn hc) hK
def uA:List (Tmp×Value)→Prop
 |[]=>True
 |(_,v)::l=>(some v=some v)∧uA l
theorem Ds:∀ l:List (Tmp×Value),uA l
 |[]=>trivial
 |(_,_)::l=>⟨rfl,Ds l⟩
end
section
variable {pre:List Hint→List Hint} {C:Prop→Prop} {G H:U} {V:List Nat} {f:Nat}
def D1 (fn:Func) (G:U) (args:List Value) (H:U) (V:List Nat) (Q:Value→U→Prop):Prop:=∀ g,E.func g=some fn→(fn.body.isSome&&Nat.ble args.length fn.ntmps&&!(fn.name== "runtime.NumGoroutine"))=true→aa E G H→aI E G g args H V Q
theorem br (fn:Func) {args:List Value} {Q:Value→U→Prop} {g:FuncId} (y:aa E G H) (k:eK (fun l=>l) (fun q=>q) (D1 fn G args H V Q)) (hf:E.func g=some fn:=by kernel_rfl) (hn:(fn.body.isSome&&Nat.ble args.length fn.ntmps&&!(fn.name== "runtime.NumGoroutine"))=true:=by kernel_rfl):aI E G g args H V Q:=k (fun _ h=>h) g hf hn y
theorem aV {fn:Func} {args:List Value} {Q:Value→U→Prop} (n:Nat) (v:Value) (H':U) (W:List Nat) (hw:∀ q∈W,q∈V∨(H.n≤q∧q<H'.n)) (hv:∀ q∈V,G.n≤q) (hq:Q v H') (h:(yc E fn 300 args H none (pre (i6 n []))).map (fun r=>(fU r.1,r.2))=some (C True,v,H',W):=by kernel_rfl):eK pre C (D1 fn G args H V Q):=
 fun hc g hf hn y=>aI.mk y (bE.Ll ok hf hn (hc True trivial) h) hw hv hq
theorem al {fn:Func} {args:List Value} {Q:Value→U→Prop} (n:Nat) (v:Value) (H':U) (hq:Q v H') (h:(yc E fn 300 args H none (pre (i6 n []))).map (fun r=>(fU r.1,r.2))=some (C True,v,H',[]):=by kernel_rfl):eK pre C (D1 fn G args H [] Q):=
 aV n v H' [] aZ aZ hq h
theorem gM {fn:Func} {args:List Value} {Q:Value→U→Prop} (n:Nat) (vs:List Value) (v:Value) (H':U) (W:List Nat) (hw:∀ q∈W,q∈V∨(H.n≤q∧q<H'.n)) (hv:∀ q∈V,G.n≤q) (hq:Q v H') (h:(MD E fn 300 args H vs (pre (i6 n []))).map (fun r=>(fU r.1,r.2))=some (C True,v,H',W):=by kernel_rfl):eK pre C (D1 fn G args H V Q):=
 fun hc g hf hn y=>aI.mk y (bE.adR ok hf hn (hc True trivial) h) hw hv hq
def yO (aq:Nat) (c:Code) (G:U) (fX:List (Tmp×Value)) (H:U) (V:List Nat) (Q:eY→b5→U→Prop):Prop:=aa E G H→cy E G aq c fX H V Q
def HY (aq:Nat) (c:Code) (G:U) (fX:List (Tmp×Value)) (H:U) (V:List Nat) (Q:eY→b5→U→Prop):Prop:=aa E G H→jF E G aq c fX H V Q
variable {aq:Nat} {c:Code} {fX:List (Tmp×Value)} {Q:eY→b5→U→Prop}
theorem c9 (y:aa E G H) (k:eK (fun l=>l) (fun q=>q) (yO aq c G fX H V Q)):cy E G aq c fX H V Q:=k (fun _ h=>h) y
theorem nA (y:aa E G H) (k:eK (fun l=>l) (fun q=>q) (HY aq c G fX H V Q)):jF E G aq c fX H V Q:=k (fun _ h=>h) y
theorem en (n:Nat) (post:List (Tmp×Value)) (x:eY) (H':U) (W:List Nat) (hw:∀ q∈W,q∈V∨(H.n≤q∧q<H'.n)) (hv:∀ q∈V,G.n≤q) (hq:Q x (bl post) H') (hx:x≠.normal:=by simp) (h:(qm E aq 300 c fX post H (pre (i6 n []))).map (fun r=>(fU r.1,r.2))=some (C (uA post),x,H',W):=by kernel_rfl):eK pre C (yO aq c G fX H V Q):=
 fun hc y=>cy.last' y (c7.qV ok (hc _ (Ds _)) h) hx hw hv hq
theorem dF (n:Nat) (post:List (Tmp×Value)) (x:eY) (H':U) (hq:Q x (bl post) H') (hx:x≠.normal:=by simp) (h:(qm E aq 300 c fX post H (pre (i6 n []))).map (fun r=>(fU r.1,r.2))=some (C (uA post),x,H',[]):=by kernel_rfl):eK pre C (yO aq c G fX H [] Q):=
 en n post x H' [] aZ aZ hq hx h
theorem dY (n:Nat) (post:List (Tmp×Value)) (H':U) (W:List Nat) (hw:∀ q∈W,q∈V∨(H.n≤q∧q<H'.n)) (k:cy E G aq c post H' V Q) (h:(qm E aq 300 c fX post H (pre (i6 n []))).map (fun r=>(fU r.1,r.2))=some (C (uA post),.normal,H',W):=by kernel_rfl):eK pre C (yO aq c G fX H V Q):=
 fun hc y=>cy.next' y (c7.qV ok (hc _ (Ds _)) h) hw k
theorem dU (n:Nat) (post:List (Tmp×Value)) (H':U) (k:cy E G aq c post H' V Q) (h:(qm E aq 300 c fX post H (pre (i6 n []))).map (fun r=>(fU r.1,r.2))=some (C (uA post),.normal,H',[]):=by kernel_rfl):eK pre C (yO aq c G fX H V Q):=
 dY n post H' [] aZ k h
theorem js (n:Nat) (post:List (Tmp×Value)) (x:eY) (H':U) (W:List Nat) (hw:∀ q∈W,q∈V∨(H.n≤q∧q<H'.n)) (hv:∀ q∈V,G.n≤q) (hq:Q x (bl post) H') (h:(qm E aq 300 c fX post H (pre (i6 n []))).map (fun r=>(fU r.1,r.2))=some (C (uA post),x,H',W):=by kernel_rfl):eK pre C (HY aq c G fX H V Q):=
 fun hc y=>jF.mk y (c7.qV ok (hc _ (Ds _)) h) hw hv hq
theorem fu (n:Nat) (post:List (Tmp×Value)) (x:eY) (H':U) (hq:Q x (bl post) H') (h:(qm E aq 300 c fX post H (pre (i6 n []))).map (fun r=>(fU r.1,r.2))=some (C (uA post),x,H',[]):=by kernel_rfl):eK pre C (HY aq c G fX H [] Q):=
 js n post x H' [] aZ aZ hq h
end
theorem e5:E.agg 85=some true:=av
theorem Nz:E.agg 154=some true:=av
theorem rc:E.agg 184=some true:=av
theorem jY:E.agg 186=some false:=av
theorem If:E.agg 190=some true:=av
theorem UC:E.agg 139=some false:=av
theorem D6:E.agg 154=some true:=av
theorem UD:E.agg 168=some true:=av
theorem Ig:E.agg 190=some true:=av
theorem vb:E.agg 352=some true:=av
theorem jH:E.agg 22=some false:=av
theorem jI:E.agg 23=some false:=av
theorem iI:E.agg 24=some false:=av
theorem dK:E.agg 25=some false:=av
theorem UF:E.agg 260=some false:=av
theorem cv:E.agg 27=some true:=av
theorem dX:E.agg 2=some false:=av
theorem NA:E.agg 39=some true:=av
theorem aJ:E.agg 3=some false:=av
theorem A7:E.agg 39=some true:=av
theorem Ih:E.agg 41=some false:=av
theorem i5:E.agg 42=some false:=av
theorem gV:E.agg 4=some false:=av
theorem g7:E.agg 5=some false:=av
theorem hO:E.agg 66=some true:=av
theorem pg:E.agg 67=some false:=av
theorem yT:E.agg 82=some false:=av
theorem vc:E.agg 83=some false:=av
theorem ct:E.agg 9=some false:=av
theorem cR:E.size 85=some 3:=av
theorem Hp:E.size 154=some 3:=av
theorem oc:E.size 184=some 2:=av
theorem ahm:E.size 186=some 1:=av
theorem MF:E.size 190=some 2:=av
theorem yd:E.size 154=some 3:=av
theorem ye:E.size 167=some 2:=av
theorem ahn:E.size 168=some 14:=av
theorem Hq:E.size 190=some 2:=av
theorem od:E.size 352=some 2:=av
theorem Dt:E.size 22=some 1:=av
theorem ahq:E.size 23=some 1:=av
theorem uC:E.size 24=some 1:=av
theorem qn:E.size 25=some 1:=av
theorem bH:E.size 27=some 13:=av
theorem MG:E.size 2=some 1:=av
theorem AI:E.size 39=some 3:=av
theorem dL:E.size 3=some 1:=av
theorem qo:E.size 39=some 3:=av
theorem aht:E.size 41=some 1:=av
theorem Hr:E.size 42=some 1:=av
theorem Du:E.size 4=some 1:=av
theorem fp:E.size 66=some 13:=av
theorem nC:E.size 68=some 7:=av
theorem wE:E.size 83=some 1:=av
theorem oW:E.size 9=some 1:=av
theorem ah4:E.ul 180=some (.slice 184):=av
theorem tg:E.ul 23=some (.slice 39):=av
theorem Dx:E.ul 24=some (.slice 9):=av
theorem jS:E.ul 25=some (.slice 27):=av
theorem ai2:E.zero 184=some (.agg #[.string ⟨#[]⟩,.string ⟨#[]⟩]):=av
end Go.Proofs.YtbehemdcaiigeaaGreatDoor
