/- Part of the proof that CheckKids answers true. -/
import Derived.Test.YtglmagcldkngbaaGreatDoorP01
import Derived.Scope
import Derived.ScopeJumps
import Derived.KernelRfl
import Derived.Laws.Strings
import Derived.Test.YtglmagcldkngbaaGreatDoorProg
import GoSem.PinnedTables
set_option linter.unusedVariables false
set_option linter.unusedSimpArgs false
set_option maxRecDepth 100000
set_option maxHeartbeats 4000000
namespace Go.Am
theorem zi {x:Nat} {l:List Nat}:Fh x l=true↔x∈l:=by
 unfold Fh
 rw [List.any_eq_true]
 exact ⟨fun ⟨y,h1,h2⟩=>by rw [Nat.eq_of_beq_eq_true h2];exact h1,fun h=>⟨x,h,Nat.beq_refl x⟩⟩
def tb (hs:Nat→Hp) (ft:Nat→jT) (i:Nat) (k:Nat):Bool:=Fh i (ft k).w||(Nat.ble (hs k).n i&&Nat.blt i (hs (k+1)).n)
def tt (ft:Nat→jT) (t:Nat) (k:Nat):Bool:=match (ft k).dst with |some d=>Nat.beq d t |none=>false
theorem nI {hs:Nat→Hp} {ft:Nat→jT} {i k:Nat}:tb hs ft i k=true↔i∈(ft k).w∨((hs k).n≤i∧i<(hs (k+1)).n):=by
 unfold tb
 rw [Bool.or_eq_true,Bool.and_eq_true,zi,Nat.blt_eq,Nat.ble_eq]
theorem xJ {ft:Nat→jT} {t k:Nat}:tt ft t k=true↔(ft k).dst=some t:=by
 unfold tt
 split
 ·rename_i d hd
  rw [hd]
  exact ⟨fun h=>by rw [Nat.eq_of_beq_eq_true h],fun h=>by injection h with h;rw [h];exact Nat.beq_refl t⟩
 ·rename_i hd;rw [hd];simp
structure PB (x y:jT):Prop where
 xy:∀ d,x.dst=some d→d∉y.looks
 yx:∀ d,y.dst=some d→d∉x.looks
 dd:∀ d,x.dst=some d→y.dst≠some d
 ww:∀ q,q∈x.w→q∉y.w
 wr:∀ q,q∈x.w→match y.r with |some R=>q∉R |none=>False
 rw_:∀ q,q∈y.w→match x.r with |some R=>q∉R |none=>False
 new:∀ q,q∈y.w→¬ (x.lo≤q∧q<x.hi)
theorem E7 {x y:jT} (h:ze x y=true):PB x y:=by
 unfold ze at h
 simp only [Bool.and_eq_true] at h
 obtain ⟨⟨⟨⟨⟨⟨h1,h2⟩,h3⟩,h4⟩,h5⟩,h6⟩,h7⟩:=h
 have Md:∀{a b:List Nat},Kl a b=true→∀ q,q∈a→q∉b:=by
  intro a b h q hq hb
  unfold Kl at h
  rw [List.all_eq_true] at h
  have:=h q hq
  rw [zi.2 hb] at this;cases this
 have II:∀{a:List Nat} {b:Option (List Nat)},BL a b=true→∀ q,q∈a→match b with |some R=>q∉R |none=>False:=by
  intro a b h q hq
  cases b with
  |some R=>exact Md h q hq
  |none=>
   simp only [BL,List.isEmpty_iff] at h
   rw [h] at hq;cases hq
 have BK:∀{d:Option Tmp} {l:List Tmp},Ai d l=true→∀ x,d=some x→x∉l:=by
  intro d l h x hx hm
  subst hx
  simp only [Ai,zi.2 hm] at h
  cases h
 refine ⟨BK h1,BK h2,fun d hd hy=>BK h3 d hd (by rw [hy];simp),Md h4,II h5,II h6,fun q hq hn=>?_⟩
 rw [List.all_eq_true] at h7
 have:=h7 q hq
 rw [Bool.or_eq_true,Nat.blt_eq,Nat.ble_eq] at this
 omega
structure kM (E:Env) (nt:Nat) (ops:Array Oper) (d:List (Value×List Value)) (hs:Nat→Hp) (ts:Nat→Tm) (ft:Nat→jT):Prop where
 wf:∀ j,j≤ops.size→Wf (hs j)
 ng:E.ng≤(hs 0).n
 ext:∀ j,j<ops.size→cR (ft j).w (hs j) (hs (j+1))
 lo:∀ j,j<ops.size→(ft j).lo=(hs j).n∧(ft j).hi=(hs (j+1)).n
 w:∀ j,j<ops.size→∀ q,q∈(ft j).w→q<(hs j).n∧dA ((hs j).get q)=true
 ind:∀ i j,i<j→j<ops.size→((Region.before ops).getD j 0).testBit i=false→PB (ft i) (ft j)
 run : ∀(j:Nat) (o:Oper),ops[j]?=some o→(ft j).dst=o.dst∧(ft j).looks=iU ops o∧∃ v,sG (ts j) nt o.dst v=some (ts (j+1))∧
     ∀(base:Nat) (φ:cS) (w:World) (a:Act) (C:Nat→Option Ob) (K:Act→World→Prop) (Q:Exit→Act→World→Prop),AJ E base C φ w→PA (hs j) (ft j) φ C→gM φ (hs j).n (hs (j+1)).n→
      TR φ (oT (ts j) (iU ops o) .nil) a.tmps nt→DR φ d a.defers→
      (∀(φ':cS) (w':World) (u:Value) (a':Act),gF E base φ w (hs j) (hs (j+1)) (ft j).w φ' w'→VR φ' v u→a'.tmps=a.tmps→DR φ' d a'.defers→K (a'.put o.dst u) w')→wpOp E.P ops Q j K a w
section
variable {E:Env} {nt:Nat} {ops:Array Oper} {d:List (Value×List Value)} {hs:Nat→Hp} {ts:Nat→Tm} {ft:Nat→jT}
theorem kM.mono (h:kM E nt ops d hs ts ft) {i:Nat}:∀{j},i≤j→j≤ops.size→(hs i).n≤(hs j).n:=by
 intro j hij hj
 induction j with
 |zero=>have:i=0:=by omega
        subst this;exact Nat.le_refl _
 |succ j ih=>
  rcases Nat.lt_or_ge i (j+1) with h1 |h1
  ·exact Nat.le_trans (ih aa aa) (h.ext j aa).n
  ·have:i=j+1:=by omega
   subst this;exact Nat.le_refl _
theorem kM.keep (h:kM E nt ops d hs ts ft) {q:Nat} {i:Nat} (hq:q<(hs i).n):∀{j},i≤j→j≤ops.size→(∀ k,i≤k→k<j→q∉(ft k).w)→(hs j).get q=(hs i).get q:=by
 intro j hij hj hk
 induction j with
 |zero=>have:i=0:=by omega
        subst this;rfl
 |succ j ih=>
  rcases Nat.lt_or_ge i (j+1) with h1 |h1
  ·have hn:=h.mono (i:=i) (j:=j) aa aa
   rw [(h.ext j aa).keep q aa (hk j aa aa),ih aa aa fun k h2 h3=>hk k h2 aa]
  ·have:i=j+1:=by omega
   subst this;rfl
theorem kM.dA (h:kM E nt ops d hs ts ft) {q:Nat} {i:Nat} (hq:q<(hs i).n):∀{j},i≤j→j≤ops.size→dA ((hs j).get q)=true→Am.dA ((hs i).get q)=true:=by
 intro j hij hj hl
 induction j with
 |zero=>have:i=0:=by omega
        subst this;exact hl
 |succ j ih=>
  rcases Nat.lt_or_ge i (j+1) with h1 |h1
  ·have hn:=h.mono (i:=i) (j:=j) aa aa
   exact ih aa aa ((h.ext j aa).dA q aa hl)
  ·have:i=j+1:=by omega
   subst this;exact hl
theorem JF {T T':Tm} {dst:Option Tmp} {v:Value} (h:sG T nt dst v=some T') (t:Nat):T'.get t=if dst=some t then some v else T.get t:=by
 cases dst with
 |none=>simp only [sG,Option.some.injEq] at h;subst h;simp
 |some x=>
  simp only [sG] at h
  cases hb:Nat.blt x nt with
  |false=>rw [hb] at h;cases h
  |true=>
   rw [hb] at h;injection h with h;subst h
   rw [Tr.ek];simp
theorem kM.W3 (h:kM E nt ops d hs ts ft) {t:Nat} {i:Nat}:∀{j},i≤j→j≤ops.size→(∀ k,i≤k→k<j→(ft k).dst≠some t)→(ts j).get t=(ts i).get t:=by
 intro j hij hj hk
 induction j with
 |zero=>have:i=0:=by omega
        subst this;rfl
 |succ j ih=>
  rcases Nat.lt_or_ge i (j+1) with h1 |h1
  ·obtain ⟨e1,_,v,e2,_⟩:=h.run j ops[j] (by simp)
   rw [JF e2,if_neg (by rw [← e1];exact hk j aa aa),ih aa aa fun k h2 h3=>hk k h2 aa]
  ·have:i=j+1:=by omega
   subst this;rfl
def CS (n:Nat) (hs:Nat→Hp) (ft:Nat→jT) (S:Nat→Bool) (i:Nat):Option Ob:=(hs (jd S (tb hs ft i) n)).get i
def TS (n:Nat) (ts:Nat→Tm) (ft:Nat→jT) (S:Nat→Bool) (t:Nat):Option Value:=(ts (jd S (tt ft t) n)).get t
structure Inv (E:Env) (base:Nat) (φ0:cS) (w0:World) (nt:Nat) (ops:Array Oper) (d:List (Value×List Value)) (hs:Nat→Hp) (ts:Nat→Tm) (ft:Nat→jT) (W:List Nat) (S:Nat→Bool) (φ:cS) (a:Act) (w:World):Prop where
 rel:AJ E base (CS ops.size hs ft S) φ w
 tsz:a.tmps.size=nt
 tr:∀ t v,TS ops.size ts ft S t=some v→∃ u,a.tmps[t]?=some u∧VR φ v u
 dr:DR φ d a.defers
 out:∀ i,(i<(hs 0).n∨(hs ops.size).n≤i)→φ i=φ0 i
 free:∀ k,k<ops.size→S k=false→gM φ (hs k).n (hs (k+1)).n
 step:Step φ0 W w0 w
 fresh:∀ i l,(hs 0).n≤i→i<(hs ops.size).n→φ i=some l→w0.heap.size≤l.gK∨∃ q∈W,∃ m,q<(hs 0).n∧φ0 q=some m∧m.gK=l.gK∧Am.dA ((hs 0).get q)=true∧live (CS ops.size hs ft S q)=false
theorem kM.W8 (h:kM E nt ops d hs ts ft) {i:Nat}:∀{j},j≤ops.size→(hs 0).n≤i→i<(hs j).n→∃ k,k<j∧(hs k).n≤i∧i<(hs (k+1)).n:=by
 intro j
 induction j with
 |zero=>intro _ h1 h2;omega
 |succ j ih=>
  intro hj h1 h2
  rcases Nat.lt_or_ge i (hs j).n with h3 |h3
  ·obtain ⟨k,h4,h5⟩:=ih aa h1 h3
   exact ⟨k,by omega,h5⟩
  ·exact ⟨j,by omega,h3,h2⟩
theorem kM.agree (h:kM E nt ops d hs ts ft) {S:Nat→Bool} {φ:cS} {j:Nat} (hj:j<ops.size) (Ts:S j=false) (IV:∀ i,((Region.before ops).getD j 0).testBit i=true→S i=true)
  (EI:∀ k,k<ops.size→S k=true→((Region.before ops).getD k 0).testBit j=false) (hfree:∀ k,k<ops.size→S k=false→gM φ (hs k).n (hs (k+1)).n):PA (hs j) (ft j) φ (CS ops.size hs ft S):=by
 intro i hi hm hrd
 have no1:∀ k,k<j→S k=false→tb hs ft i k=false:=by
  intro k hk hs1
  cases hb:tb hs ft i k with
  |false=>rfl
  |true=>
   exfalso
   rcases nI.1 hb with h1 |⟨h1,h2⟩
   ·have hap:=h.ind k j hk hj (by cases ht:((Region.before ops).getD j 0).testBit k with |false=>rfl |true=>rw [IV k ht] at hs1;cases hs1)
    have h3:=hap.wr i h1
    cases hr:(ft j).r with
    |none=>rw [hr] at h3;exact h3
    |some R=>
     rw [hr] at h3 hrd
     rcases hrd with h4 |h4
     ·exact h3 h4
     ·exact hap.ww i h1 h4
   ·exact hm (hfree k aa hs1 i h1 h2)
 have no2:∀ k,j≤k→k<ops.size→S k=true→tb hs ft i k=false:=by
  intro k hk hkn hs1
  have hne:k≠j:=fun e=>by subst e;rw [Ts] at hs1;cases hs1
  have hn:=h.mono (i:=j) (j:=k) hk aa
  cases hb:tb hs ft i k with
  |false=>rfl
  |true=>
   exfalso
   rcases nI.1 hb with h1 |⟨h1,h2⟩
   ·have hap:=h.ind j k aa hkn (EI k hkn hs1)
    have h3:=hap.rw_ i h1
    cases hr:(ft j).r with
    |none=>rw [hr] at h3;exact h3
    |some R=>
     rw [hr] at h3 hrd
     rcases hrd with h4 |h4
     ·exact h3 h4
     ·exact hap.ww i h4 h1
   ·omega
 unfold CS
 generalize hst:jd S (tb hs ft i) ops.size=st
 have hle:st≤j:=by
  rcases qW S (tb hs ft i) ops.size with h0 |⟨k,h1,h2,h3,h4⟩
  ·omega
  ·rcases Nat.lt_or_ge k j with h5 |h5
   ·omega
   ·rw [no2 k h5 h1 h3] at h4;cases h4
 have hnt:∀ k,st≤k→k<j→tb hs ft i k=false:=by
  intro k h1 h2
  cases hb:tb hs ft i k with
  |false=>rfl
  |true=>
   cases hs1:S k with
   |false=>rw [no1 k h2 hs1] at hb;cases hb
   |true=>have:=oX S (tb hs ft i) ops.size k aa hs1 hb;omega
 have hin:i<(hs st).n:=by
  rcases Nat.lt_or_ge i (hs st).n with h1 |h1
  ·exact h1
  ·exfalso
   have h0:=h.mono (i:=0) (j:=st) aa aa
   obtain ⟨k,h2,h3,h4⟩:=h.W8 aa aa hi
   have:st≤k:=by
    rcases Nat.lt_or_ge k st with h5 |h5
    ·have:=h.mono (i:=k+1) (j:=st) aa aa;omega
    ·exact h5
   have:=hnt k this h2
   rw [nI.2 (.inr ⟨h3,h4⟩)] at this;cases this
 exact (h.keep hin hle aa fun k h1 h2 hm=>by have:=hnt k h1 h2;rw [nI.2 (.inl hm)] at this;cases this).symm
theorem kM.looks (h:kM E nt ops d hs ts ft) {S:Nat→Bool} {j:Nat} (hj:j<ops.size) (Ts:S j=false) (IV:∀ i,((Region.before ops).getD j 0).testBit i=true→S i=true)
  (EI:∀ k,k<ops.size→S k=true→((Region.before ops).getD k 0).testBit j=false) {t:Nat} (ht:t∈(ft j).looks):TS ops.size ts ft S t=(ts j).get t:=by
 have no1:∀ k,k<j→S k=false→tt ft t k=false:=by
  intro k hk hs1
  cases hb:tt ft t k with
  |false=>rfl
  |true=>
   have hap:=h.ind k j hk hj (by cases ht:((Region.before ops).getD j 0).testBit k with |false=>rfl |true=>rw [IV k ht] at hs1;cases hs1)
   exact (hap.xy t (xJ.1 hb) ht).elim
 have no2:∀ k,j≤k→k<ops.size→S k=true→tt ft t k=false:=by
  intro k hk hkn hs1
  have hne:k≠j:=fun e=>by subst e;rw [Ts] at hs1;cases hs1
  cases hb:tt ft t k with
  |false=>rfl
  |true=>
   have hap:=h.ind j k aa hkn (EI k hkn hs1)
   exact (hap.yx t (xJ.1 hb) ht).elim
 unfold TS
 generalize hst:jd S (tt ft t) ops.size=st
 have hle:st≤j:=by
  rcases qW S (tt ft t) ops.size with h0 |⟨k,h1,h2,h3,h4⟩
  ·omega
  ·rcases Nat.lt_or_ge k j with h5 |h5
   ·omega
   ·rw [no2 k h5 h1 h3] at h4;cases h4
 exact (h.W3 hle aa fun k h1 h2 hm=>by
  have hb:=xJ.2 hm
  cases hs1:S k with
  |false=>rw [no1 k h2 hs1] at hb;cases hb
  |true=>have:=oX S (tt ft t) ops.size k aa hs1 hb;omega).symm
theorem Inv.next {base:Nat} {φ0 φ:cS} {w0 w:World} {a:Act} {W:List Nat} {S S':Nat→Bool} {j:Nat} (h:kM E nt ops d hs ts ft) (Tt:∀ j,j<ops.size→∀ q,q∈(ft j).w→q∈W)
  (I:Inv E base φ0 w0 nt ops d hs ts ft W S φ a w) (hj:j<ops.size) (Ts:S j=false) (IV:∀ i,((Region.before ops).getD j 0).testBit i=true→S i=true)
  (EI:∀ k,k<ops.size→S k=true→((Region.before ops).getD k 0).testBit j=false) (U2:∀ k,k<ops.size→(S' k=true↔(S k=true∨k=j)))
  {K:Act→World→Prop} {Q:Exit→Act→World→Prop} (hK:∀ φ' a' w',Inv E base φ0 w0 nt ops d hs ts ft W S' φ' a' w'→K a' w'):wpOp E.P ops Q j K a w:=by
 obtain ⟨e1,e2,v,zu,run⟩:=h.run j ops[j] (by simp [hj])
 have hag:=h.agree hj Ts IV EI I.free
 have hn0:=h.mono (i:=0) (j:=j) aa aa
 have zo:=(h.ext j hj).n
 have hn2:=h.mono (i:=j+1) (j:=ops.size) aa aa
 have hfree:=I.free j hj Ts
 have aft:∀ i,tb hs ft i j=true→∀ k,j<k→k<ops.size→S k=true→tb hs ft i k=false:=by
  intro i hi k hk hkn hs1
  have hap:=h.ind j k hk hkn (EI k hkn hs1)
  have hnk:=h.mono (i:=j+1) (j:=k) aa aa
  obtain ⟨l1,l2⟩:=h.lo j hj
  cases hb:tb hs ft i k with
  |false=>rfl
  |true=>
   exfalso
   rcases nI.1 hb with h1 |⟨h1,h2⟩
   ·rcases nI.1 hi with h3 |h3
    ·exact hap.ww i h3 h1
    ·exact hap.new i h1 (by rw [l1,l2];exact h3)
   ·rcases nI.1 hi with h3 |h3
    ·have:=(h.w j hj i h3).1;omega
    ·omega
 have cs1:∀ i,(i∈(ft j).w∨((hs j).n≤i∧i<(hs (j+1)).n))→CS ops.size hs ft S' i=(hs (j+1)).get i:=fun i hi=>by
  unfold CS
  rw [FT U2 hj (nI.2 hi) (aft i (nI.2 hi))]
 have cs2:∀ i,i∉(ft j).w→¬ ((hs j).n≤i∧i<(hs (j+1)).n)→CS ops.size hs ft S' i=CS ops.size hs ft S i:=fun i h1 h2=>by
  unfold CS
  rw [vN U2 (by cases hb:tb hs ft i j with |false=>rfl |true=>rcases nI.1 hb with h3 |h3;exact (h1 h3).elim;exact (h2 h3).elim)]
 have aaB:∀ i,i∈(ft j).w→φ i≠none→CS ops.size hs ft S i=(hs j).get i:=fun i hi hm=>hag i (h.w j hj i hi).1 hm (by split;exact .inr hi;trivial)
 refine run base φ w a (CS ops.size hs ft S) K Q I.rel hag hfree ⟨I.tsz,fun t x hx=>?_⟩ I.dr fun φ' w' u a' hO yA Rw hda=>hK φ' _ w' ?_
 ·obtain ⟨h1,h2⟩:=OT hx
  rw [← e2] at h1
  exact I.tr t x (by rw [h.looks hj Ts IV EI h1];exact h2)
 ·have hsub:∀ i l,φ i=some l→φ' i=some l:=by
   intro i l hi
   by_cases h1:i<(hs j).n
   ·rw [hO.ext i (.inl h1)];exact hi
   ·by_cases h2:(hs (j+1)).n≤i
    ·rw [hO.ext i (.inr h2)];exact hi
    ·rw [hfree i aa aa] at hi;cases hi
  have cM:=I.rel.step (H:=hs j) (H':=hs (j+1)) (C':=CS ops.size hs ft S') (by have:=h.ng;omega) hO zo hfree aaB cs1 cs2
   (fun i hi=>(h.ext j hj).dA i (h.w j hj i hi).1) (fun i hi=>(h.ext j hj).live i (h.w j hj i hi).1)
  have hsz:(a'.put ops[j].dst u).tmps.size=nt:=by
   cases hd:ops[j].dst with
   |none=>show a'.tmps.size=nt;rw [Rw];exact I.tsz
   |some x=>show (a'.tmps.setIfInBounds x u).size=nt;rw [Array.size_setIfInBounds,Rw];exact I.tsz
  have IS:∀ i l,(hs 0).n≤i→i<(hs ops.size).n→φ i=some l→w0.heap.size≤l.gK∨∃ q∈W,∃ m,q<(hs 0).n∧φ0 q=some m∧m.gK=l.gK∧Am.dA ((hs 0).get q)=true∧live (CS ops.size hs ft S' q)=false:=by
   intro i l h1 h2 h3
   rcases I.fresh i l h1 h2 h3 with hb |⟨q,q1,m,q2,q3,q4,q5,q6⟩
   ·exact .inl hb
   ·refine .inr ⟨q,q1,m,q2,q3,q4,q5,?_⟩
    by_cases hqw:q∈(ft j).w
    ·have Nh:=aaB q hqw (by rw [I.out q (.inl q2),q3];simp)
     rw [Nh] at q6
     have:=dQ (h.w j hj q hqw).2
     rw [this] at q6;cases q6
    ·rw [cs2 q hqw aa];exact q6
  refine ⟨cM,hsz,fun t x hx=>?_,by rw [put_defers];exact hda,fun i hi=>?_,fun k hk hSk=>?_,⟨hO.step.os.trans I.step.os,hO.step.tape.trans I.step.tape,hO.step.output.trans I.step.output,Nat.le_trans I.step.size hO.step.size,fun B hB hk=>?_⟩,fun i l h1 h2 h3=>?_⟩
  ·by_cases hd:(ft j).dst=some t
   ·have hst:jd S' (tt ft t) ops.size=j+1:=FT U2 hj (xJ.2 hd) fun k hk hkn hs1=>by
     cases hb:tt ft t k with
     |false=>rfl
     |true=>exact ((h.ind j k hk hkn (EI k hkn hs1)).dd t hd (xJ.1 hb)).elim
    unfold TS at hx
    rw [hst,JF zu,if_pos (by rw [← e1];exact hd)] at hx
    injection hx with hx
    subst hx
    have htn:t<nt:=by
     rw [e1] at hd
     rw [hd] at zu
     simp only [sG] at zu
     cases hb:Nat.blt t nt with
     |false=>rw [hb] at zu;cases zu
     |true=>exact Nat.blt_eq▸hb
    refine ⟨u,?_,yA⟩
    rw [← e1,hd]
    show (a'.tmps.setIfInBounds t u)[t]?=some u
    rw [Array.getElem?_setIfInBounds_self_of_lt (by rw [Rw,I.tsz];exact htn)]
   ·have hst:jd S' (tt ft t) ops.size=jd S (tt ft t) ops.size:=vN U2 (by cases hb:tt ft t j with |false=>rfl |true=>exact (hd (xJ.1 hb)).elim)
    unfold TS at hx
    rw [hst] at hx
    obtain ⟨y,y1,y2⟩:=I.tr t x hx
    refine ⟨y,?_,y2.mono hsub⟩
    rw [e1] at hd
    cases hdd:ops[j].dst with
    |none=>show a'.tmps[t]?=some y;rw [Rw];exact y1
    |some z=>
     show (a'.tmps.setIfInBounds z u)[t]?=some y
     rw [Array.getElem?_setIfInBounds_ne (fun e=>hd (by rw [hdd,e])),Rw];exact y1
  ·rw [hO.ext i aa];exact I.out i hi
  ·have hkj:k≠j:=fun e=>by rw [(U2 k hk).2 (.inr e)] at hSk;cases hSk
   have adt:S k=false:=by
    cases hb:S k with
    |false=>rfl
    |true=>rw [(U2 k hk).2 (.inl hb)] at hSk;cases hSk
   intro i h1 h2
   have hlt:i<(hs j).n∨(hs (j+1)).n≤i:=by
    rcases Nat.lt_or_ge k j with h3 |h3
    ·have:=h.mono (i:=k+1) (j:=j) aa aa;omega
    ·have:=h.mono (i:=j+1) (j:=k) aa aa;omega
   rw [hO.ext i hlt]
   exact I.free k hk adt i h1 h2
  ·have b1:=I.step.keep B hB hk
   have hsz:=I.step.size
   rw [← b1]
   refine hO.step.keep B aa fun q hq l hl=>?_
   by_cases hq0:q<(hs 0).n
   ·rw [I.out q (.inl hq0)] at hl
    exact hk q (Tt j hj q hq) l hl
   ·have hqj:=(h.w j hj q hq).1
    have hnN:=h.mono (i:=j) (j:=ops.size) aa aa
    rcases I.fresh q l aa aa hl with hb |⟨q',q1,m,q2,q3,q4,q5,q6⟩
    ·omega
    ·rw [← q4];exact hk q' q1 m q3
  ·by_cases hnew:(hs j).n≤i∧i<(hs (j+1)).n
   ·rcases hO.fresh i l hnew.1 hnew.2 h3 with hb |⟨q,q1,m,q2,q3,q4,q5,q6⟩
    ·have:=I.step.size;exact .inl aa
    ·by_cases hq0:q<(hs 0).n
     ·refine .inr ⟨q,Tt j hj q q1,m,hq0,by rw [← I.out q (.inl hq0)];exact q3,q4,h.dA hq0 aa aa q5,?_⟩
      rw [cs1 q (.inl q1)];exact q6
     ·have hnN:=h.mono (i:=j) (j:=ops.size) aa aa
      rcases IS q m aa aa q3 with hb |⟨q',r1,m',r2,r3,r4,r5⟩
      ·exact .inl aa
      ·exact .inr ⟨q',r1,m',r2,r3,by omega,r5⟩
   ·rw [hO.ext i aa] at h3
    exact IS i l h1 h2 h3
end
section
variable {E:Env} {call:Call} {nt:Nat} {ops:Array Oper} {d:List (Value×List Value)} {hs:Nat→Hp} {ts:Nat→Tm} {ft:Nat→jT}
theorem Inv.init {base:Nat} {φ:cS} {w w0:World} {a:Act} {W:List Nat} {S:Nat→Bool} (h:kM E nt ops d hs ts ft) (hS:∀ k,k<ops.size→S k=false) (cM:Rel E base (hs 0) φ w)
  (ht:TR φ (ts 0) a.tmps nt) (hd:DR φ d a.defers) (hf:gM φ (hs 0).n (hs ops.size).n) (hw:Step φ W w0 w):Inv E base φ w0 nt ops d hs ts ft W S φ a w:=by
 have z:∀ eV,jd S eV ops.size=0:=fun eV=>by
  rcases qW S eV ops.size with h0 |⟨k,h1,h2,h3,h4⟩
  ·exact h0
  ·rw [hS k h1] at h3;cases h3
 refine ⟨?_,ht.1,fun t v hv=>?_,hd,fun _ _=>rfl,fun k hk _ i h1 h2=>?_,hw,fun i l h1 h2 h3=>?_⟩
 ·have:CS ops.size hs ft S=(hs 0).get:=by funext i;unfold CS;rw [z]
  rw [this];exact .of (h.wf 0 aa) cM
 ·unfold TS at hv;rw [z] at hv;exact ht.2 t v hv
 ·have a1:=h.mono (i:=0) (j:=k) aa aa
  have a2:=h.mono (i:=k+1) (j:=ops.size) aa aa
  exact hf i aa aa
 ·rw [hf i h1 h2] at h3;cases h3
theorem Inv.done {base:Nat} {φ0 φ:cS} {w w0:World} {a:Act} {W:List Nat} {S:Nat→Bool} (h:kM E nt ops d hs ts ft) (I:Inv E base φ0 w0 nt ops d hs ts ft W S φ a w) (hS:∀ k,k<ops.size→S k=true) :
  Out E base φ0 w0 (hs 0) (hs ops.size) W φ w∧TR φ (ts ops.size) a.tmps nt∧DR φ d a.defers:=by
 have cs:∀ i,CS ops.size hs ft S i=(hs ops.size).get i:=by
  intro i
  unfold CS
  have hle:=Ea S (tb hs ft i) ops.size
  have hnt:∀ k,jd S (tb hs ft i) ops.size≤k→k<ops.size→tb hs ft i k=false:=by
   intro k h1 h2
   cases hb:tb hs ft i k with
   |false=>rfl
   |true=>have:=oX S (tb hs ft i) ops.size k h2 (hS k h2) hb;omega
  generalize jd S (tb hs ft i) ops.size=st at *
  rcases Nat.lt_or_ge i (hs st).n with h1 |h1
  ·exact (h.keep h1 hle (Nat.le_refl _) fun k h2 h3 hm=>by have:=hnt k h2 h3;rw [nI.2 (.inl hm)] at this;cases this).symm
  ·rcases Nat.lt_or_ge i (hs ops.size).n with h2 |h2
   ·exfalso
    have h0:=h.mono (i:=0) (j:=st) aa aa
    obtain ⟨k,h3,h4,h5⟩:=h.W8 (Nat.le_refl _) aa h2
    have:st≤k:=by
     rcases Nat.lt_or_ge k st with h6 |h6
     ·have:=h.mono (i:=k+1) (j:=st) aa aa;omega
     ·exact h6
    have:=hnt k this h3
    rw [nI.2 (.inr ⟨h4,h5⟩)] at this;cases this
   ·rw [h.wf st hle i h1,h.wf ops.size (Nat.le_refl _) i h2]
 have tsE:∀ t,TS ops.size ts ft S t=(ts ops.size).get t:=by
  intro t
  unfold TS
  have hle:=Ea S (tt ft t) ops.size
  refine (h.W3 hle (Nat.le_refl _) fun k h1 h2 hm=>?_).symm
  have:=oX S (tt ft t) ops.size k h2 (hS k h2) (xJ.2 hm)
  omega
 refine ⟨⟨I.out,I.rel.rel fun i _ _=>cs i,I.step,fun i l h1 h2 h3=>?_⟩,⟨I.tsz,fun t v hv=>I.tr t v (by rw [tsE];exact hv)⟩,I.dr⟩
 rcases I.fresh i l h1 h2 h3 with hb |⟨q,q1,m,q2,q3,q4,q5,q6⟩
 ·exact .inl hb
 ·exact .inr ⟨q,q1,m,q2,q3,q4,q5,by rw [← cs q];exact q6⟩
theorem FY {base:Nat} {φ0:cS} {w0:World} {W:List Nat} {md:Region.Mode} {Q:Exit→Act→World→Prop} (h:kM E nt ops d hs ts ft) (hp:fA md ops) (Tt:∀ j,j<ops.size→∀ q,q∈(ft j).w→q∈W)
  (hQ:∀ φ a w,Out E base φ0 w0 (hs 0) (hs ops.size) W φ w→TR φ (ts ops.size) a.tmps nt→DR φ d a.defers→Q .normal a w) :
  ∀(fuel:Nat) (listed:Array Bool) (φ:cS) (a:Act) (w:World),listed.size=ops.size→Px ops.size listed≤fuel→PC ops (fun k=>listed.getD k false)→
   Inv E base φ0 w0 nt ops d hs ts ft W (fun k=>listed.getD k false) φ a w→wpAny E.P md ops Q fuel listed a w:=by
 have fin:∀(listed:Array Bool) (φ:cS) (a:Act) (w:World),listed.size=ops.size→Inv E base φ0 w0 nt ops d hs ts ft W (fun k=>listed.getD k false) φ a w→(∀ j,j<ops.size→listed.getD j true=true)→Q .normal a w:=by
  intro listed φ a w hs1 I hall
  obtain ⟨h1,h2,h3⟩:=I.done h fun k hk=>by rw [kO aa false true];exact hall k hk
  exact hQ φ a w h1 h2 h3
 have Xx:∀(listed:Array Bool),listed.size=ops.size→Region.ready md ops listed=[]→∀ j,j<ops.size→listed.getD j true=true:=by
  intro listed hs1 hr j hj
  cases hb:listed.getD j true with
  |true=>rfl
  |false=>exact (hp listed hs1 ⟨j,hj,hb⟩ hr).elim
 intro fuel
 induction fuel with
 |zero=>
  intro listed φ a w hs1 hu hc I
  have hall:=El (Nat.le_zero.1 hu)
  refine ⟨?_,fin listed φ a w hs1 I hall⟩
  cases hr:Region.ready md ops listed with
  |nil=>rfl
  |cons x l=>
   have:x∈Region.ready md ops listed:=by rw [hr];simp
   obtain ⟨o,h1,h2,_⟩:=mem_ready.1 this
   rw [hall x (Array.getElem?_eq_some_iff.1 h1).1] at h2;cases h2
 |succ fuel ih=>
  intro listed φ a w hs1 hu hc I
  refine ⟨fun hr=>fin listed φ a w hs1 I (Xx listed hs1 hr),fun j hj=>?_⟩
  obtain ⟨o,h1,h2,h3⟩:=mem_ready.1 hj
  have hjn:=(Array.getElem?_eq_some_iff.1 h1).1
  have Ts:listed.getD j false=false:=by rw [kO aa false true];exact h2
  have U2:∀ k,(listed.setIfInBounds j true).getD k false=true↔(listed.getD k false=true∨k=j):=fun k=>by
   rw [ou aa]
   split
   ·rename_i e;subst e;simp
   ·rename_i e
    exact ⟨.inl,fun h=>h.elim id fun h=>(e h.symm).elim⟩
  have IV:∀ i,((Region.before ops).getD j 0).testBit i=true→listed.getD i false=true:=
   ql hc (j+1) j o aa h1 fun e he hb=>h3 e he (Fa hb)
  have EI:∀ k,k<ops.size→listed.getD k false=true→((Region.before ops).getD k 0).testBit j=false:=by
   intro k hk hl
   cases hb:((Region.before ops).getD k 0).testBit j with
   |false=>rfl
   |true=>
    have:=ql hc (k+1) k ops[k] aa (by simp [hk]) (fun e he hbd=>hc k _ (by simp [hk]) hl e he hbd) j hb
    rw [Ts] at this;cases this
  refine I.next h Tt hjn Ts IV EI (fun k _=>U2 k) fun φ' a' w' I'=>?_
  refine ih _ φ' a' w' (by simpa using hs1) ?_ (fun k o' hk hl e he hb=>?_) I'
  ·have:=HL hs1 hjn h2;omega
  ·rw [U2] at hl ⊢
   rcases hl with hl |rfl
   ·exact .inl (hc k o' hk hl e he hb)
   ·rw [h1] at hk
    injection hk with hk
    subst hk
    exact .inl (h3 e he (Fa hb))
end
theorem I2 {Po:Array Nat} {ft:Nat→jT} {n:Nat} (h:indep Po ((List.range n).map ft)=true) {i j:Nat} (hij:i<j) (hj:j<n) (hb:(Po.getD j 0).testBit i=false):ze (ft i) (ft j)=true:=by
 unfold indep at h
 rw [List.all_eq_true] at h
 have mem:∀ k,k<n→(ft k,k)∈((List.range n).map ft).zipIdx:=fun k hk=>by
  rw [List.mem_zipIdx_iff_getElem?];simp [hk]
 have h1:=h _ (mem j hj)
 simp only [List.all_eq_true] at h1
 have h2:=h1 _ (mem i aa)
 simp only [hb,Bool.or_false,Bool.or_eq_true,Nat.ble_eq] at h2
 rcases h2 with h2 |h2
 ·omega
 ·exact h2
theorem vE {E:Env} (ok:E.Ok) {nt id:Nat} {ops:Array Oper} {d:List (Value×List Value)} {hs:Nat→Hp} {ts:Nat→Tm} {Ws:Nat→List Nat} {ft:Nat→jT} {W:List Nat} (hro:iJ ops=true)
  (hi:indep (Region.before ops) ((List.range ops.size).map ft)=true) (a7:∀ j,j<ops.size→∀ q,q∈Ws j→q∈W)
  (a9:∀(j:Nat) (o:Oper),ops.toList[j]?=some o→Wf (hs j)→E.ng≤(hs j).n→∃ call,ji E call∧qE E call nt ops d o (ts j) (ts (j+1)) (hs j) (hs (j+1)) (Ws j) (ft j)) (wf:Wf (hs 0)) (dy:E.ng≤(hs 0).n) :
  cR W (hs 0) (hs ops.size)∧Wf (hs ops.size)∧∀(base:Nat) (φ:cS) (w:World) (a:Act) (w1 w2:List Nat),SR E base φ w nt ⟨ts 0,hs 0,d,w1⟩ a→gM φ (hs 0).n (hs ops.size).n→
   (Code.region id ops true).wp E.P (Post E base φ w nt (hs 0) W .normal ⟨ts ops.size,hs ops.size,d,w2⟩) a w:=by
 have aeb:=hro
 unfold iJ at hro
 simp only [Bool.and_eq_true] at hro
 obtain ⟨⟨HG,Pv⟩,ro3⟩:=hro
 have hnd:∀ o∈ops.toList,rL o.op=false:=by
  intro o ho
  unfold Bi at Pv
  rw [Array.all_eq_true_iff_forall_mem] at Pv
  have:=Pv o (by simpa using ho)
  cases hop:o.op <;> rw [hop] at this <;> first
   |rfl
   |cases this
 have GX:∀ j:Nat,j<ops.size→ops.toList[j]?=some ops[j]!∧ops[j]?=some ops[j]!:=fun j hj=>by simp [hj]
 have LP:∀ j,j≤ops.size→Wf (hs j)∧E.ng≤(hs j).n:=by
  intro j
  induction j with
  |zero=>intro _;exact ⟨wf,dy⟩
  |succ j ih=>
   intro hj
   obtain ⟨h1,h2⟩:=ih aa
   obtain ⟨g1,g2⟩:=GX j aa
   obtain ⟨call,hc,hst⟩:=a9 j _ g1 h1 h2
   obtain ⟨k1,k2,_⟩:=yQ ok hc (hnd _ (List.mem_of_getElem? g1)) hst h1 h2
   exact ⟨k2,Nat.le_trans h2 k1.n⟩
 have ex:=fun (j:Nat) (hj:j<ops.size)=>a9 j _ (GX j hj).1 (LP j aa).1 (LP j aa).2
 have st:=fun (j:Nat) (hj:j<ops.size)=>yQ ok (ex j hj).choose_spec.1 (hnd _ (List.mem_of_getElem? (GX j hj).1)) (ex j hj).choose_spec.2 (LP j aa).1 (LP j aa).2
 have Eg:kM E nt ops d hs ts ft:=by
  refine ⟨fun j hj=>(LP j hj).1,(LP 0 aa).2,fun j hj=>(st j hj).1,fun j hj=>?_,fun j hj q hq=>?_,fun i j hij hj hb=>E7 (I2 hi hij hj hb),fun j o ho=>?_⟩
  ·obtain ⟨_,_,h3,h4,_⟩:=st j hj;exact ⟨h3,h4⟩
  ·obtain ⟨_,_,_,_,_,_,h7,_⟩:=st j hj
   exact (h7 q hq).2
  ·have hj:=(Array.getElem?_eq_some_iff.1 ho).1
   have e:ops[j]! = o:=by have:=(GX j hj).2;rw [ho] at this;injection this with this;exact this.symm
   obtain ⟨_,_,_,_,h5,h6,_,v,h8,h9⟩:=st j hj
   rw [e] at h5 h6 h8 h9
   exact ⟨h5,h6,v,h8,fun base φ w a C K Q cM hag hf ht hd hK=>h9 base φ w a C j K Q ho cM hag hf ht hd hK⟩
 have Tt:∀ j,j<ops.size→∀ q,q∈(ft j).w→q∈W:=by
  intro j hj q hq
  obtain ⟨_,_,_,_,_,_,h7,_⟩:=st j hj
  exact a7 j hj q (h7 q hq).1
 have ext:cR W (hs 0) (hs ops.size):=by
  have key:∀ j,j≤ops.size→cR W (hs 0) (hs j):=by
   intro j
   induction j with
   |zero=>intro _;exact cR.refl ..
   |succ j ih=>intro hj;exact ((ih aa).trans ((Eg.ext j aa).wider (Tt j aa))).wider (fun i hi=>by simpa using hi)
  exact key _ (Nat.le_refl _)
 refine ⟨ext,(LP _ (Nat.le_refl _)).1,fun base φ w a w1 w2 gL hf=>wp_region_draw fun t=>?_⟩
 have B3:Rel E base (hs 0) φ w:=gL.rel
 have go:∀(md:Region.Mode) (t:Nat),fA md ops→wpOps E.P ops (Post E base φ w nt (hs 0) W .normal ⟨ts ops.size,hs ops.size,d,w2⟩) (Region.linearise md ops t) a { w with drawn:=w.drawn+1 }:=by
  intro md t hp
  refine wpAny_sound ops.size t _ a _ ?_
  refine FY (φ0:=φ) (w0:=w) (W:=W) (base:=base) Eg hp Tt (fun φ' a' w' h1 h2 h3=>⟨φ',h1,rfl,h2,h3⟩) ops.size _ φ a _ (by simp) ?_ (fun k o ho hl=>?_) ?_
  ·unfold Px
   have:=List.countP_le_length (p:=fun i=>!(Array.replicate ops.size false).getD i true) (l:=List.range ops.size)
   simpa using this
  ·have hk:=(Array.getElem?_eq_some_iff.1 ho).1
   simp [Array.getD_eq_getD_getElem?,hk] at hl
  ·refine .init Eg (fun k hk=>by simp [Array.getD_eq_getD_getElem?,hk]) ?_ gL.tr gL.dr hf ⟨rfl,rfl,rfl,Nat.le_refl _,fun _ _ _=>rfl⟩
   exact ⟨B3.bs,fun i l o h1 h2 h3=>(B3.blocks i l o h1 h2 h3).same rfl,fun i l h1 h2 h3=>B3.lt i l h1 h2 h3,B3.inj,B3.fI⟩
 unfold Region.schedule
 split
 ·exact go .any t (Hy HG)
 ·rename_i hm
  have Yr:Region.departs ops=true:=by
   cases hd:Region.departs ops with
   |true=>rfl
   |false=>rw [hd] at hm;simp at hm
  rw [Yr] at ro3
  simp only [Bool.not_true,Bool.false_or,Bool.and_eq_true] at ro3
  split
  ·exact go .text _ (cr (Nat.eq_of_beq_eq_true ro3.1))
  ·exact go .gc _ (cr (Nat.eq_of_beq_eq_true ro3.2))
theorem wD {ops:Array Oper} (hro:iJ ops=true):∀ o∈ops.toList,rL o.op=false:=by
 unfold iJ at hro
 simp only [Bool.and_eq_true] at hro
 obtain ⟨⟨HG,Pv⟩,ro3⟩:=hro
 intro o ho
 unfold Bi at Pv
 rw [Array.all_eq_true_iff_forall_mem] at Pv
 have:=Pv o (by simpa using ho)
 cases hop:o.op <;> rw [hop] at this <;> first
  |rfl
  |cases this
theorem X1 {E:Env} (ok:E.Ok) {call:Call} (hc:ji E call):J1 E call:=by
 intro nt id ops s s' hr wf dy
 simp only [og,cond_true] at hr
 cases hro:iJ ops with
 |false=>rw [hro] at hr;cases hr
 |true=>
 rw [hro] at hr
 simp only [cond_true] at hr
 split at hr
 rotate_left
 ·cases hr
 rename_i s1 fs jX
 cases hi:indep (Region.before ops) fs with
 |false=>rw [hi] at hr;cases hr
 |true=>
 rw [hi] at hr
 simp only [cond_true,Option.some.injEq,Prod.mk.injEq,true_and] at hr
 subst hr
 obtain ⟨hs,ts,Ws,ft,W,a1,a2,a3,a4,a5,a6,a7,a8,a9⟩:=vJ _ _ _ _ _ jX (wD hro)
 simp only [Array.length_toList] at a3 a4 a7 a8
 simp only [List.reverse_nil,List.nil_append] at a8
 subst a8
 obtain ⟨k1,k2,k3⟩:=vE (id:=id) (W:=W) ok hro hi a7 (fun j o ho _ _=>⟨call,hc,a9 j o ho⟩) (by rw [a1];exact wf) (by rw [a1];exact dy)
 rw [a1,a3] at k1
 rw [a3] at k2
 refine ⟨W,a6,k1,k2,fun base φ w a gL hf=>?_⟩
 have:=k3 base φ w a s.w s1.w (by rw [a1,a2];exact gL) (by rw [a1,a3];exact hf)
 rw [a1,a3,a4,← a5] at this
 exact this
theorem BB {E:Env} (hS:Sound E) (f:Nat):ji E (Ag E f):=(Mh hS (fun call hc=>X1 hS.ok hc) f).2
def sU (S T:Tm):Prop:=∀ t v,S.get t=some v→T.get t=some v
theorem sU.refl (T:Tm):sU T T:=fun _ _ h=>h
theorem TR.sub {φ:cS} {S T:Tm} {tm:Array Value} {nt:Nat} (h:sU S T) (ht:TR φ T tm nt):TR φ S tm nt:=⟨ht.1,fun t v hv=>ht.2 t v (h t v hv)⟩
theorem Step.norm {φ:cS} {W V:List Nat} {w w':World} {a b:Nat} (h:Step φ W w w') (hf:gM φ a b) (hw:∀ q∈W,q∈V∨(a≤q∧q<b)):Step φ V w w':=
 ⟨h.os,h.tape,h.output,h.size,fun B hB hk=>h.keep B hB fun j hj l hl=>by
  rcases hw j hj with h1 |h1
  ·exact hk j h1 l hl
  ·rw [hf j h1.1 h1.2] at hl;cases hl⟩
theorem Out.norm {E:Env} {base:Nat} {φ:cS} {w:World} {H H':Hp} {W V:List Nat} {φ':cS} {w':World} (h:Out E base φ w H H' W φ' w') (hf:gM φ H.n H'.n) (hw:∀ q∈W,q∈V∨(H.n≤q∧q<H'.n)) :
  Out E base φ w H H' V φ' w':=
 ⟨h.ext,h.rel,h.step.norm hf hw,fun i l h1 h2 h3=>by
  rcases h.fresh i l h1 h2 h3 with hb |⟨j,hj,m,hjn,hr⟩
  ·exact .inl hb
  ·rcases hw j hj with h4 |h4
   ·exact .inr ⟨j,h4,m,hjn,hr⟩
   ·omega⟩
theorem cR.norm {H H':Hp} {W V:List Nat} (h:cR W H H') (hw:∀ q∈W,q∈V∨(H.n≤q∧q<H'.n)):cR V H H':=
 ⟨h.n,fun i hi hn=>h.keep i hi fun hm=>by
  rcases hw i hm with h1 |h1
  ·exact hn h1
  ·omega,h.live,h.dA⟩
def CG (E:Env) (nt:Nat) (c:Code) (T:Tm) (H:Hp) (d:List (Value×List Value)) (x:Ex) (T':Tm) (H':Hp) (d':List (Value×List Value)) (W:List Nat):Prop:=
 Wf H→E.ng≤H.n→cR W H H'∧Wf H'∧∀(base:Nat) (φ:cS) (w:World) (a:Act),SR E base φ w nt ⟨T,H,d,[]⟩ a→gM φ H.n H'.n→c.wp E.P (Post E base φ w nt H W x ⟨T',H',d',[]⟩) a w
def Ib (E:Env) (n nt:Nat) (c:Code) (T:Tm) (H:Hp) (d:List (Value×List Value)) (x:Ex) (T':Tm) (H':Hp) (d':List (Value×List Value)) (W:List Nat):Prop:=
 Wf H→E.ng≤H.n→cR W H H'∧Wf H'∧∀(base:Nat) (φ:cS) (w:World) (a:Act),SR E base φ w nt ⟨T,H,d,[]⟩ a→gM φ H.n H'.n→Code.rounds E.P c (Post E base φ w nt H W x ⟨T',H',d',[]⟩) n a w
def CC (E:Env) (g:FuncId) (args:List Value) (H:Hp) (r:Bu) (H':Hp) (W:List Nat):Prop:=Wf H→E.ng≤H.n→kX E g args H r H' W
section
variable {E:Env} {nt:Nat} {c:Code} {T T':Tm} {H H':Hp} {d d':List (Value×List Value)} {x:Ex} {W:List Nat}
theorem CG.post (h:CG E nt c T H d x T' H' d' W) {T2:Tm} {V:List Nat} (ht:sU T2 T') (hw:∀ q∈W,q∈V∨(H.n≤q∧q<H'.n)):CG E nt c T H d x T2 H' d' V:=fun wf dy=>by
 obtain ⟨h1,h2,h3⟩:=h wf dy
 exact ⟨h1.norm hw,h2,fun base φ w a hs hf=>wp_mono (h3 base φ w a hs hf) fun e a1 w1 ⟨φ',hO,he,KO,jX⟩=>⟨φ',hO.norm hf hw,he,KO.sub ht,jX⟩⟩
theorem Ib.post {n:Nat} (h:Ib E n nt c T H d x T' H' d' W) {T2:Tm} {V:List Nat} (ht:sU T2 T') (hw:∀ q∈W,q∈V∨(H.n≤q∧q<H'.n)):Ib E n nt c T H d x T2 H' d' V:=fun wf dy=>by
 obtain ⟨h1,h2,h3⟩:=h wf dy
 exact ⟨h1.norm hw,h2,fun base φ w a hs hf=>qg (fun e a1 w1 ⟨φ',hO,he,KO,jX⟩=>⟨φ',hO.norm hf hw,he,KO.sub ht,jX⟩) n a w (h3 base φ w a hs hf)⟩
theorem CG.pre (h:CG E nt c T H d x T' H' d' W) {S:Tm} (hs:sU T S):CG E nt c S H d x T' H' d' W:=fun wf dy=>by
 obtain ⟨h1,h2,h3⟩:=h wf dy
 exact ⟨h1,h2,fun base φ w a gL hf=>h3 base φ w a ⟨gL.rel,gL.tr.sub hs,gL.dr⟩ hf⟩
theorem Post.Nb {base:Nat} {φ φ1:cS} {w w1:World} {nt:Nat} {H H1 H2:Hp} {T2:Tm} {d2:List (Value×List Value)} {W V:List Nat} {x:Ex} {e:Exit} {a:Act} {w2:World} (x1:cR W H H1) (x2:cR V H1 H2)
  (hO:Out E base φ w H H1 W φ1 w1) (hf:gM φ H.n H2.n) (h:Post E base φ1 w1 nt H1 V x ⟨T2,H2,d2,[]⟩ e a w2):Post E base φ w nt H (W++V) x ⟨T2,H2,d2,[]⟩ e a w2:=by
 obtain ⟨φ2,h1,h2,h3,h4⟩:=h
 exact ⟨φ2,hO.trans x1 x2 h1 hf,h2,h3,h4⟩
theorem CG.skip:CG E nt .skip T H d .normal T H d []:=fun wf dy=>⟨cR.refl ..,wf,fun base φ w a h hf=>wp_skip ⟨φ,Out.refl [] h.rel,rfl,h.tr,h.dr⟩⟩
theorem CG.label {l:Nat}:CG E nt (.label l) T H d .normal T H d []:=fun wf dy=>⟨cR.refl ..,wf,fun base φ w a h hf=>wp_label ⟨φ,Out.refl [] h.rel,rfl,h.tr,h.dr⟩⟩
theorem CG.exit {id:Nat}:CG E nt (.exit id) T H d (.exit id) T H d []:=fun wf dy=>⟨cR.refl ..,wf,fun base φ w a h hf=>wp_exit ⟨φ,Out.refl [] h.rel,rfl,h.tr,h.dr⟩⟩
theorem CG.goto {l:Nat}:CG E nt (.goto l) T H d (.goto l) T H d []:=fun wf dy=>⟨cR.refl ..,wf,fun base φ w a h hf=>wp_goto ⟨φ,Out.refl [] h.rel,rfl,h.tr,h.dr⟩⟩
theorem CG.ret:CG E nt .ret T H d .ret T H d []:=fun wf dy=>⟨cR.refl ..,wf,fun base φ w a h hf=>wp_ret ⟨φ,Out.refl [] h.rel,rfl,h.tr,h.dr⟩⟩
theorem CG.seq {c1 c2:Code} {T1:Tm} {H1:Hp} {d1:List (Value×List Value)} {V:List Nat} (h:CG E nt c1 T H d .normal T1 H1 d1 W) (k:CG E nt c2 T1 H1 d1 x T' H' d' V):CG E nt (.seq c1 c2) T H d x T' H' d' (W++V):=fun wf dy=>by
 obtain ⟨x1,ob,k1⟩:=h wf dy
 have zo:=x1.n
 obtain ⟨x2,Ep,k2⟩:=k ob aa
 have hn2:=x2.n
 refine ⟨x1.trans x2,Ep,fun base φ w a gL hf=>wp_seq (wp_mono (k1 base φ w a gL (hf.first hn2)) fun e a1 w1 hp=>?_)⟩
 obtain ⟨φ1,hO,he,ht,jX⟩:=hp
 have he:e=.normal:=he
 subst he
 exact wp_mono (k2 base φ1 w1 a1 ⟨hO.rel,ht,jX⟩ (hf.next hO zo)) fun e a2 w2 hp=>Post.Nb x1 x2 hO hf hp
theorem ExR.Ct {φ:cS} {e:Exit} (h:ExR φ x e) (hx:x≠.normal):e≠.normal:=fun e'=>by
 subst e'
 cases x with
 |normal=>exact hx rfl
 |panic v=>obtain ⟨u,hu,_⟩:=h;cases hu
 |_=>cases h
theorem CG.Wj {c1 c2:Code} (h:CG E nt c1 T H d x T' H' d' W) (hx:x≠.normal):CG E nt (.seq c1 c2) T H d x T' H' d' W:=fun wf dy=>by
 obtain ⟨x1,ob,k1⟩:=h wf dy
 refine ⟨x1,ob,fun base φ w a gL hf=>wp_seq (wp_mono (k1 base φ w a gL hf) fun e a1 w1 hp=>?_)⟩
 obtain ⟨φ1,hO,he,ht,jX⟩:=hp
 have:=ExR.Ct he hx
 cases e <;> first
  |exact absurd rfl this
  |exact ⟨φ1,hO,he,ht,jX⟩
theorem CG.cond {o:Operand} {b:Bool} {c1 c2:Code} (hb:ev E T o=some (.bool b)) (h:CG E nt (if b then c1 else c2) T H d x T' H' d' W):CG E nt (.cond o c1 c2) T H d x T' H' d' W:=fun wf dy=>by
 obtain ⟨x1,ob,k1⟩:=h wf dy
 refine ⟨x1,ob,fun base φ w a gL hf=>?_⟩
 have:=(gL.tr.ev (H:=H) (w:=w) gL.rel.fI o _ hb).dS rfl
 cases b with
 |true=>exact wp_cond_true this (k1 base φ w a gL hf)
 |false=>exact wp_cond_false this (k1 base φ w a gL hf)
theorem CG.Kc {id:Nat} {c1:Code} (h:CG E nt c1 T H d (.exit id) T' H' d' W):CG E nt (.block id c1) T H d .normal T' H' d' W:=fun wf dy=>by
 obtain ⟨x1,ob,k1⟩:=h wf dy
 refine ⟨x1,ob,fun base φ w a gL hf=>wp_block (wp_mono (k1 base φ w a gL hf) fun e a1 w1 hp=>?_)⟩
 obtain ⟨φ1,hO,he,ht,jX⟩:=hp
 have he:e=.exit id:=he
 subst he
 simp only [Exit.inBlock,if_true]
 exact ⟨φ1,hO,rfl,ht,jX⟩
theorem CG.block {id:Nat} {c1:Code} (h:CG E nt c1 T H d x T' H' d' W) (hx:x≠.exit id):CG E nt (.block id c1) T H d x T' H' d' W:=fun wf dy=>by
 obtain ⟨x1,ob,k1⟩:=h wf dy
 refine ⟨x1,ob,fun base φ w a gL hf=>wp_block (wp_mono (k1 base φ w a gL hf) fun e a1 w1 hp=>?_)⟩
 obtain ⟨φ1,hO,he,ht,jX⟩:=hp
 cases e with
 |exit id'=>
  have:id'≠id:=fun e'=>by
   subst e'
   cases x with
   |exit id2=>have he:Exit.exit id'=.exit id2:=he;injection he with he;exact hx (by rw [he])
   |panic v=>obtain ⟨u,hu,_⟩:=he;cases hu
   |_=>cases he
  simp only [Exit.inBlock,this,if_false]
  exact ⟨φ1,hO,he,ht,jX⟩
 |_=>exact ⟨φ1,hO,he,ht,jX⟩
theorem CG.scope {c1:Code} (h:CG E nt c1 T H d x T' H' d' W) (hx:∀ l,x≠.goto l):CG E nt (.scope c1) T H d x T' H' d' W:=fun wf dy=>by
 obtain ⟨x1,ob,k1⟩:=h wf dy
 refine ⟨x1,ob,fun base φ w a gL hf=>wp_scope_straight (wp_mono (k1 base φ w a gL hf) fun e a1 w1 hp=>?_)⟩
 obtain ⟨φ1,hO,he,ht,jX⟩:=hp
 cases e with
 |goto l=>
  exfalso
  cases x with
  |goto l2=>exact hx l2 rfl
  |panic v=>obtain ⟨u,hu,_⟩:=he;cases hu
  |_=>cases he
 |_=>exact ⟨φ1,hO,he,ht,jX⟩
theorem CG.LD {c1 rest:Code} {l:Nat} {T1:Tm} {H1:Hp} {d1:List (Value×List Value)} {V:List Nat} (h:CG E nt c1 T H d (.goto l) T1 H1 d1 W) (hf:findLabel c1 l=some rest) (k:CG E nt rest T1 H1 d1 x T' H' d' V) (hx:∀ l,x≠.goto l) :
  CG E nt (.scope c1) T H d x T' H' d' (W++V):=fun wf dy=>by
 obtain ⟨x1,ob,k1⟩:=h wf dy
 have zo:=x1.n
 obtain ⟨x2,Ep,k2⟩:=k ob aa
 have hn2:=x2.n
 refine ⟨x1.trans x2,Ep,fun base φ w a gL hf'=>?_⟩
 have noG:∀ e a1 w1,Post E base φ w nt H (W++V) x ⟨T',H',d',[]⟩ e a1 w1→Exit.noGoto (Post E base φ w nt H (W++V) x ⟨T',H',d',[]⟩) e a1 w1:=by
  intro e a1 w1 hp
  obtain ⟨φ1,hO,he,ht,jX⟩:=hp
  cases e with
  |goto l=>
   exfalso
   cases x with
   |goto l2=>exact hx l2 rfl
   |panic v=>obtain ⟨u,hu,_⟩:=he;cases hu
   |_=>cases he
  |_=>exact ⟨φ1,hO,he,ht,jX⟩
 refine wp_scope_jumps l (fun a1 w1=>rest.wp E.P (Exit.noGoto (Post E base φ w nt H (W++V) x ⟨T',H',d',[]⟩)) a1 w1) (fun _ _=>0) hf ?_ ?_
 ·refine wp_mono (k1 base φ w a gL (hf'.first hn2)) fun e a1 w1 hp=>?_
  obtain ⟨φ1,hO,he,ht,jX⟩:=hp
  have he:e=.goto l:=he
  subst he
  exact ⟨rfl,wp_mono (k2 base φ1 w1 a1 ⟨hO.rel,ht,jX⟩ (hf'.next hO zo)) fun e a2 w2 hp=>noG e a2 w2 (Post.Nb x1 x2 hO hf' hp)⟩
 ·intro a1 w1 hj
  refine wp_mono hj fun e a2 w2 hp=>?_
  cases e with
  |goto l=>exact hp.elim
  |_=>exact hp
theorem Ib.cg {n:Nat} (h:Ib E n nt c T H d x T' H' d' W):CG E nt (.loop c) T H d x T' H' d' W:=fun wf dy=>by
 obtain ⟨x1,ob,k1⟩:=h wf dy
 exact ⟨x1,ob,fun base φ w a gL hf=>wp_loop_rounds n (k1 base φ w a gL hf)⟩
theorem Ib.next {n:Nat} {T1:Tm} {H1:Hp} {d1:List (Value×List Value)} {V:List Nat} (h:CG E nt c T H d .normal T1 H1 d1 W) (k:Ib E n nt c T1 H1 d1 x T' H' d' V):Ib E (n+1) nt c T H d x T' H' d' (W++V):=fun wf dy=>by
 obtain ⟨x1,ob,k1⟩:=h wf dy
 have zo:=x1.n
 obtain ⟨x2,Ep,k2⟩:=k ob aa
 have hn2:=x2.n
 refine ⟨x1.trans x2,Ep,fun base φ w a gL hf=>?_⟩
 rw [rounds_succ]
 refine wp_mono (k1 base φ w a gL (hf.first hn2)) fun e a1 w1 hp=>?_
 obtain ⟨φ1,hO,he,ht,jX⟩:=hp
 have he:e=.normal:=he
 subst he
 exact qg (fun e a2 w2 hp=>Post.Nb x1 x2 hO hf hp) n a1 w1 (k2 base φ1 w1 a1 ⟨hO.rel,ht,jX⟩ (hf.next hO zo))
theorem Ib.last (h:CG E nt c T H d x T' H' d' W) (hx:x≠.normal):Ib E 1 nt c T H d x T' H' d' W:=fun wf dy=>by
 obtain ⟨x1,ob,k1⟩:=h wf dy
 refine ⟨x1,ob,fun base φ w a gL hf=>?_⟩
 rw [rounds_succ]
 refine wp_mono (k1 base φ w a gL hf) fun e a1 w1 hp=>?_
 obtain ⟨φ1,hO,he,ht,jX⟩:=hp
 have:=ExR.Ct he hx
 cases e <;> first
  |exact absurd rfl this
  |exact ⟨φ1,hO,he,ht,jX⟩
theorem CC.norm {g:FuncId} {args:List Value} {r:Bu} {V:List Nat} (h:CC E g args H r H' W) (hw:∀ q∈W,q∈V∨(H.n≤q∧q<H'.n)):CC E g args H r H' V:=fun wf dy=>by
 obtain ⟨h1,h2,h3⟩:=h wf dy
 refine ⟨h1.norm hw,h2,fun base φ w args' cM hf hl=>?_⟩
 have post:∀ e w',fz E base φ w H H' W r e w'→fz E base φ w H H' V r e w':=fun e w' ⟨φ',hO,he⟩=>⟨φ',hO.norm hf hw,he⟩
 rcases h3 base φ w args' cM hf hl with ⟨he,hc⟩ |⟨v,w',he,hv⟩
 ·exact .inl ⟨he,hc.mono post⟩
 ·exact .inr ⟨v,w',he,post _ _ hv⟩
theorem CC.Hu (ok:E.Ok) {g:FuncId} {fn:Func} {args:List Value} {v:Value} (hf:E.func g=some fn) (hname:(fn.name== "runtime.NumGoroutine")=false) (hb:fn.body=some c) (hn:Nat.ble args.length fn.ntmps=true)
  (hx:x=.normal∨x=.ret) (h:CG E fn.ntmps c (EX args 0 .nil) H [] x T' H' [] W) (hr:HB E fn ⟨T',H',[],[]⟩=some v):CC E g args H (.ret v) H' W:=fun wf dy=>by
 obtain ⟨x1,ob,k1⟩:=h wf dy
 refine ⟨x1,ob,fun base φ w args' cM hfr hlr=>.inl ⟨?_,?_⟩⟩
 ·unfold callFunc
  rw [ax (run_program w)]
  simp only [ok.func _ _ hf,hname,Bool.false_eq_true,if_false,hb,Option.isNone_some]
  rfl
 ·refine calls_of_wp (ok.func _ _ hf) hb (wp_mono (k1 base φ w { tmps:=args'.toArray++Array.replicate (fn.ntmps-args'.toArray.size) undef,defers:=[] } ⟨cM,Eb hlr (Nat.le_of_ble_eq_true hn),.nil⟩ hfr) fun e a1 w1 hp=>?_)
  obtain ⟨φ',hO,he,KO,jX⟩:=hp
  have jX:a1.defers=[]:=by
   have jX:DR φ' [] a1.defers:=jX
   cases hd:a1.defers with
   |nil=>rfl
   |cons _ _=>rw [hd] at jX;cases jX
  obtain ⟨y,hy,hrs⟩:=Lx ok ob hO.rel KO hr
  rcases hx with rfl |rfl
  ·have he:e=.normal:=he
   subst he
   exact ⟨jX,y,hrs,φ',hO,y,rfl,hy⟩
  ·have he:e=.ret:=he
   subst he
   exact ⟨jX,y,hrs,φ',hO,y,rfl,hy⟩
end
inductive Hint where
 |auto (n:Nat)
 |val (v:Value) (h:Hp) (W R:List Nat)
 |call (v:Value) (h:Hp) (W:List Nat)
 |dec (b:Bool)
 |as (v:Value)
 |ck
 |want (b:Bool)
 |br (b:Bool)
 |loop (live:List Tmp) (x:Ex) (T:Tm) (h:Hp) (W:List Nat)
 |block (id:Nat) (live:List Tmp) (x:Ex) (T:Tm) (h:Hp) (W:List Nat)
 |piece (k:Nat) (live:List Tmp) (x:Ex) (T:Tm) (h:Hp) (W:List Nat)
def Hx:List Hint→Option (List Tmp×Ex×Tm×Hp×List Nat×List Hint)
 |.piece 0 live x T h W::hs=>some (live,x,T,h,W,hs)
 |_=>none
def qT:List Hint→List Hint
 |.piece (k+1) live x T h W::hs=>.piece k live x T h W::hs
 |hs=>hs
def jU:List Prop→Prop
 |[]=>True
 |p::ps=>p∧jU ps
theorem dL {a b:List Prop}:jU (a++b)↔jU a∧jU b:=by
 induction a with
 |nil=>simp [jU]
 |cons p a ih=>simp only [List.cons_append,jU,ih,and_assoc]
def gR:Call:=fun _ _ _=>none
abbrev Ie:=List (Value×List Value)
def RD:Op→Bool
 |.call { callee:=.builtin _,.. }=>false
 |.call _=>true
 |_=>false
def PU:Op→Option Go.Call
 |.call c=>some c
 |_=>none
def ak (s:ByteArray) (i:Int):Int:=(s.data[i.toNat]?.getD 0).toNat
def Qp (E:Env) (t:TypeId) (x y:Operand) (a b:Value):Option Value:=
 bif ground a&&ground b then (match bU E.P (do eqGuard .eql t x y a b;binOp .eql t a b) with |some v=>bif ground v then some v else none |none=>none) else none
def Kj (E:Env) (o:Oper) (T:Tm) (H:Hp) (d:Ie) (v:Value) (h:Hp) (W R:List Nat):List Prop×Value×Hp×List Nat×List Nat:=
 match o.op with
 |.load t x=>match ev E T x with
  |some (.pointer (some ⟨b,off,none⟩))=>([aq E t b off H=some v],v,H,[],[b])
  |_=>([False],v,H,W,R)
 |.store t x y=>match ev E T x,ev E T y with
  |some (.pointer (some ⟨b,off,none⟩)),some u=>([az E t b off u H=some h],bJ,h,[b],[b])
  |_,_=>([False],v,H,W,R)
 |.call { callee:=.builtin .append,args,argTypes }=>match HV E T args.toList with
  |some [s,x]=>([ee E argTypes s x H=some (v,h,W,R)],v,h,W,R)
  |_=>([False],v,H,W,R)
 |.call { callee:=.builtin .copy,args,argTypes }=>match HV E T args.toList with
  |some [s,x]=>([Ma E argTypes s x H=some (v,h,W,R)],v,h,W,R)
  |_=>([False],v,H,W,R)
 |.call { callee:=.builtin .clear,args,argTypes }=>match HV E T args.toList with
  |some [x]=>([vU E argTypes x H=some (v,h,W,R)],v,h,W,R)
  |_=>([False],v,H,W,R)
 |.makeSlice t l c=>match ev E T l,ev E T c with
  |some l,some c=>([rP E t l c H=some (v,h,W,R)],v,h,W,R)
  |_,_=>([False],v,H,W,R)
 |.lookup t m k ok=>match ev E T m,ev E T k with
  |some m,some k=>([gZ E t m k ok H=some (v,h,W,R)],v,h,W,R)
  |_,_=>([False],v,H,W,R)
 |.mapUpdate t m k y=>match ev E T m,ev E T k,ev E T y with
  |some m,some k,some y=>([cH E t m k y H=some (v,h,W,R)],v,h,W,R)
  |_,_,_=>([False],v,H,W,R)
 |.insert t m k y=>match ev E T m,ev E T k,ev E T y with
  |some m,some k,some y=>([cH E t m k y H=some (v,h,W,R)],v,h,W,R)
  |_,_,_=>([False],v,H,W,R)
 |.slice t x l hi m=>match ev E T x,Gb E T l,Gb E T hi,Gb E T m with
  |some (.pointer p),some l,some hi,some m=>([ja E t (.pointer p) l hi m=some v],v,H,[],[])
  |some (.slice p n c),some l,some hi,some m=>([ja E t (.slice p n c) l hi m=some v],v,H,[],[])
  |_,_,_,_=>([False],v,H,W,R)
 |.indexAddr t x i=>match ev E T x,ev E T i with
  |some (.slice p n c),some i=>([aN E t (.slice p n c) i=some v],v,H,[],[])
  |_,_=>([dR E gR o T H d=some (.val v h d W (some R))],v,h,W,R)
 |.binOp .eql t x y _=>match ev E T x,ev E T y with
  |some (.agg a),some (.agg b)=>([Qp E t x y (.agg a) (.agg b)=some v],v,H,[],[])
  |_,_=>([dR E gR o T H d=some (.val v h d W (some R))],v,h,W,R)
 |.convert s t x=>match eo E T o,ev E T x with
  |none,some (.slice p n c)=>([qM E s t (.slice p n c) H=some (v,h,W,R)],v,h,W,R)
  |_,_=>([dR E gR o T H d=some (.val v h d W (some R))],v,h,W,R)
 |_=>([dR E gR o T H d=some (.val v h d W (some R))],v,h,W,R)
def P6 (E:Env) (o:Oper) (T:Tm):Option (List Prop×Value):=
 match o.op with
 |.index t x i=>match ev E T x,ev E T i,E.ul t with
  |some (.string s),some (.int _ n),some .string=>some ([0≤n,n<(s.size:Int)],.int .u8 (ak s n))
  |_,_,_=>none
 |.indexAddr t x i=>match ev E T x,ev E T i,E.ul t with
  |some (.pointer (some ⟨b,off,none⟩)),some (.int _ i),some (.array n e)=>match E.size e with
   |some sz=>some ([0≤i,i<(n:Int)],.pointer (some ⟨b,off+i.toNat*sz,none⟩))
   |none=>none
  |some (.slice (some ⟨b,off,none⟩) n _),some (.int _ i),some (.slice e)=>match E.size e with
   |some sz=>some ([0≤i,i<(n:Int)],.pointer (some ⟨b,off+i.toNat*sz,none⟩))
   |none=>none
  |_,_,_=>none
 |.slice t x l h none=>match ev E T x,Gb E T l,Gb E T h,E.ul t with
  |some (.string s),some none,some none,some .string=>some ([],.string (s.extract 0 s.size))
  |some (.string s),some (some (.int _ l)),some none,some .string=>some ([0≤l,l≤(s.size:Int)],.string (s.extract l.toNat s.size))
  |some (.string s),some none,some (some (.int _ h)),some .string=>some ([0≤h,h≤(s.size:Int)],.string (s.extract 0 h.toNat))
  |some (.string s),some (some (.int _ l)),some (some (.int _ h)),some .string=>some ([0≤l,l≤h,h≤(s.size:Int)],.string (s.extract l.toNat h.toNat))
  |_,_,_,_=>none
 |_=>none
def P4 (E:Env) (T:Tm) (op:BinOp) (x y:Operand):Option (List Prop×Value):=
 match op,ev E T x,ev E T y with
 |.shl,some (.int k a),some (.int _ b)=>some ([0≤b],.int k (k.wrap (a*2 ^ (min b.toNat k.bits))))
 |.shr,some (.int k a),some (.int _ b)=>some ([0≤b],.int k (a.fdiv (2 ^ (min b.toNat k.bits))))
 |.quo,some (.int k a),some (.int k' b)=>bif decide (k=k') then some ([b≠0],.int k (k.wrap (a.tdiv b))) else none
 |.rem,some (.int k a),some (.int k' b)=>bif decide (k=k') then some ([b≠0],.int k (a.tmod b)) else none
 |.mul,some (.float k a),some (.float k' b)=>bif decide (k=k') then some ([(k.format.mul a b).isSome=true],.float k ((k.format.mul a b).getD 0)) else none
 |.quo,some (.float k a),some (.float k' b)=>bif decide (k=k') then some ([(k.format.div a b).isSome=true],.float k ((k.format.div a b).getD 0)) else none
 |_,_,_=>none
def XY (E:Env) (o:Oper) (T:Tm):Option (List Prop×Value):=
 match o.op with
 |.binOp op _ x y _=>P4 E T op x y
 |_=>P6 E o T
def Br (E:Env) (o:Oper) (T:Tm) (H:Hp) (d:Ie):List Hint→Option (List Prop×Value×Hp×Ie×List Nat×Option (List Nat)×List Hint)
 |.auto n::hs=>match dR E gR o T H d with
  |some (.val v h d' w r)=>some ([],v,h,d',w,r,match n with |0=>hs |n+1=>.auto n::hs)
  |_=>none
 |.dec b::hs=>match dR E gR o T H d with
  |some (.val (.bool x) h d' w r)=>some ([x=b],.bool b,h,d',w,r,hs)
  |_=>none
 |.as u::hs=>match dR E gR o T H d with
  |some (.val v h d' w r)=>some ([v=u],u,h,d',w,r,hs)
  |_=>none
 |.ck::hs=>match XY E o T with
  |some (Ps,v)=>some (Ps,v,H,d,[],some [],hs)
  |none=>none
 |.val v h W R::hs=>match Kj E o T H d v h W R with
  |(Ps,v,h,W,R)=>some (Ps,v,h,d,W,some R,hs)
 |.call v h W::hs=>bif RD o.op then match PU o.op with
  |some c=>match yN E T c with
   |some (g,args)=>some ([CC E g args H (.ret v) h W],v,h,d,W,none,hs)
   |none=>none
  |none=>none else none
 |_=>none
def Bs (ops:Array Oper) (T:Tm) (o:Oper):List Hint→Option (List Prop×Bool×List Hint)
 |.want b::hs=>some ([oa ops T o=some b],b,hs)
 |hs=>match oa ops T o with
  |some b=>some ([],b,hs)
  |none=>none
def zU (E:Env) (nt:Nat) (ops:Array Oper):List Oper→Tm→Hp→Ie→List Hint→Option (List Prop×Tm×Hp×Ie×List Nat×List Hint)
 |[],T,H,d,hs=>some ([],T,H,d,[],hs)
 |o::rest,T,H,d,hs=>match Bs ops T o hs with
  |some (P1,true,hs)=>match Br E o T H d hs with
   |some (P2,v,H,d,W,_,hs)=>match sG T nt o.dst v with
    |some T=>match zU E nt ops rest T H d hs with
     |some (P3,T,H,d,V,hs)=>some (P1++(P2++P3),T,H,d,W++V,hs)
     |none=>none
    |none=>none
   |none=>none
  |some (P1,false,hs)=>match sG T nt o.dst bJ with
   |some T=>match zU E nt ops rest T H d hs with
    |some (P3,T,H,d,V,hs)=>some (P1++P3,T,H,d,V,hs)
    |none=>none
   |none=>none
  |none=>none
abbrev om:=jT×List Nat
def Zx (W R:List Nat):List Prop:=W.flatMap fun q=>R.map fun r=>q≠r
def Wi (W:List Nat):Option (List Nat)→List Prop
 |some R=>Zx W R
 |none=>match W with |[]=>[] |_=>[False]
def J7 (x y:jT):Bool:=Ai x.dst y.looks&&Ai y.dst x.looks&&Ai x.dst y.dst.toList
def J6 (x y:om):List Prop:=Zx x.2 y.2++(Wi x.2 y.1.r++(Wi y.2 x.1.r++y.2.map fun q=>q<x.1.lo∨x.1.hi≤q))
def loose (Po:Array Nat) (fs:List om):List (om×om):=
 fs.zipIdx.flatMap fun f=>fs.zipIdx.filterMap fun g=>bif Nat.ble f.2 g.2||(Po.getD f.2 0).testBit g.2 then none else some (g.1,f.1)
def Ld (l:List (om×om)):Bool:=l.all fun p=>J7 p.1.1 p.2.1
def RW (l:List (om×om)):List Prop:=l.flatMap fun p=>J6 p.1 p.2
theorem Il:∀{l:List Prop},jU l→∀ p∈l,p
 |_::_,h,p,hp=>by
  rcases List.mem_cons.1 hp with rfl |hp
  ·exact h.1
  ·exact Il h.2 p hp
theorem Nz {W R:List Nat} (h:∀ p∈Zx W R,p) {q r:Nat} (hq:q∈W) (hr:r∈R):q≠r:=
 h _ (List.mem_flatMap.2 ⟨q,hq,List.mem_map.2 ⟨r,hr,rfl⟩⟩)
theorem Mc {a b:List Nat} (h:∀ q∈a,∀ r∈b,q≠r):Kl a b=true:=by
 unfold Kl Fh
 rw [List.all_eq_true]
 intro q hq
 rw [Bool.not_eq_true',List.any_eq_false]
 intro r hr e
 exact h q hq r hr (Nat.eq_of_beq_eq_true e)
theorem IG {a W:List Nat} {b:Option (List Nat)} (hw:∀ q∈a,q∈W) (h:∀ p∈Wi W b,p):BL a b=true:=by
 cases b with
 |some R=>exact Mc fun q hq r hr=>Nz h (hw q hq) hr
 |none=>
  cases W with
  |nil=>
   cases a with
   |nil=>rfl
   |cons q a=>exact absurd (hw q (by simp)) (by simp)
  |cons w W=>exact (h False (by simp [Wi])).elim
theorem PD {x y:om} (hx:∀ q∈x.1.w,q∈x.2) (hy:∀ q∈y.1.w,q∈y.2) (ht:J7 x.1 y.1=true) (hp:∀ p∈J6 x y,p):ze x.1 y.1=true:=by
 unfold J6 at hp
 unfold ze
 unfold J7 at ht
 have h1:Kl x.1.w y.1.w=true:=Mc fun q hq r hr=>Nz (fun p h=>hp p (List.mem_append_left _ h)) (hx q hq) (hy r hr)
 have h2:BL x.1.w y.1.r=true:=IG hx fun p h=>hp p (List.mem_append_right _ (List.mem_append_left _ h))
 have h3:BL y.1.w x.1.r=true:=IG hy fun p h=>hp p (List.mem_append_right _ (List.mem_append_right _ (List.mem_append_left _ h)))
 have h4:(y.1.w.all fun q=>Nat.blt q x.1.lo||Nat.ble x.1.hi q)=true:=by
  rw [List.all_eq_true]
  intro q hq
  have:=hp _ (List.mem_append_right _ (List.mem_append_right _ (List.mem_append_right _ (List.mem_map.2 ⟨q,hy q hq,rfl⟩))))
  rcases this with h |h
  ·rw [Bool.or_eq_true];exact .inl (by simpa [Nat.blt_eq] using h)
  ·rw [Bool.or_eq_true];exact .inr (Nat.ble_eq_true_of_le h)
 rw [ht,h1,h2,h3,h4];rfl
theorem Jq {Po:Array Nat} {fs:List om} (hw:∀ f∈fs,∀ q∈f.1.w,q∈f.2) (ht:Ld (loose Po fs)=true) (hp:jU (RW (loose Po fs))):indep Po (fs.map (·.1))=true:=by
 unfold indep
 rw [List.all_eq_true]
 intro f hf
 rw [List.all_eq_true]
 intro g hg
 obtain ⟨f,j⟩:=f
 obtain ⟨g,i⟩:=g
 have hmem:∀{f:jT} {j:Nat},(f,j)∈(fs.map (·.1)).zipIdx→∃ F∈fs,F.1=f∧(F,j)∈fs.zipIdx:=fun {f j} h=>by
  rw [List.mem_zipIdx_iff_getElem?] at h
  simp only [List.getElem?_map,Option.map_eq_some_iff] at h
  obtain ⟨F,h1,h2⟩:=h
  exact ⟨F,List.mem_of_getElem? h1,h2,List.mem_zipIdx_iff_getElem?.2 h1⟩
 obtain ⟨F,hF,rfl,hFj⟩:=hmem hf
 obtain ⟨K,hK,rfl,hKi⟩:=hmem hg
 simp only
 cases hb:(Nat.ble j i||(Po.getD j 0).testBit i) with
 |true=>rfl
 |false=>
  rw [Bool.false_or]
  have hl:(K,F)∈loose Po fs:=List.mem_flatMap.2 ⟨_,hFj,List.mem_filterMap.2 ⟨_,hKi,by simp only [hb,cond_false]⟩⟩
  unfold Ld at ht
  rw [List.all_eq_true] at ht
  exact PD (hw K hK) (hw F hF) (ht _ hl) fun p h=>Il hp p (List.mem_flatMap.2 ⟨_,hl,h⟩)
def mO (E:Env) (nt:Nat) (ops:Array Oper):List Oper→Tm→Hp→Ie→List Hint→Option (List Prop×Tm×Hp×List Nat×List om×List Hint)
 |[],T,H,d,hs=>some ([],T,H,[],[],hs)
 |o::rest,T,H,d,hs=>match Bs ops (oT T (iU ops o) .nil) o hs with
  |some (P1,true,hs)=>match Br E o (oT T (iU ops o) .nil) H d hs with
   |some (P2,v,H1,_,W,r,hs)=>match sG T nt o.dst v with
    |some T=>match mO E nt ops rest T H1 d hs with
     |some (P3,T,H2,V,fs,hs)=>some (P1++(P2++((bC H H1 W=true)::P3)),T,H2,W++V,(⟨o.dst,iU ops o,W.filter (Nat.blt · H.n),r,H.n,H1.n⟩,W)::fs,hs)
     |none=>none
    |none=>none
   |none=>none
  |some (P1,false,hs)=>match sG T nt o.dst bJ with
   |some T=>match mO E nt ops rest T H d hs with
    |some (P3,T,H2,V,fs,hs)=>some (P1++P3,T,H2,V,(⟨o.dst,iU ops o,[],some [],H.n,H.n⟩,[])::fs,hs)
    |none=>none
   |none=>none
  |none=>none
def bw:List (Tmp×Value)→Tm
 |[]=>.nil
 |(t,v)::l=>(bw l).set t v
theorem Bh:∀(l:List (Tmp×Value)) (t:Tmp) (v:Value),(bw l).get t=some v→(t,v)∈l
 |[],t,v,h=>by simp [bw,Tr.get] at h
 |(t',v')::l,t,v,h=>by
  simp only [bw] at h
  rw [Tr.ek] at h
  split at h
  ·rename_i e;subst e;injection h with h;subst h;simp
  ·exact List.mem_cons_of_mem _ (Bh l t v h)
def sO (T:Tm):List Tmp→List (Tmp×Value)
 |[]=>[]
 |t::ts=>match T.get t with
  |some v=>(t,v)::sO T ts
  |none=>sO T ts
theorem BX {T:Tm}:∀(l:List Tmp) (t:Tmp) (v:Value),(t,v)∈sO T l→T.get t=some v
 |[],t,v,h=>by cases h
 |t'::l,t,v,h=>by
  unfold sO at h
  split at h
  ·rename_i v' hv
   rcases List.mem_cons.1 h with h |h
   ·injection h with h1 h2;subst h1;subst h2;exact hv
   ·exact BX l t v h
  ·exact BX l t v h
theorem sU.sO (T:Tm) (l:List Tmp):sU (bw (sO T l)) T:=fun t v h=>BX l t v (Bh _ t v h)
def xI (E:Env) (nt:Nat):Nat→Code→Tm→Hp→Ie→List Hint→Option (List Prop×Ex×Tm×Hp×Ie×List Nat×List Hint)
 |0,_,_,_,_,_=>none
 |f+1,c,T,H,d,hs=>match Hx hs with
  |some (live,x,T',h,W,hs)=>some ([CG E nt c (bw (sO T live)) H d x T' h d W],x,T',h,d,W,hs)
  |none=>match c with
  |.skip=>some ([],.normal,T,H,d,[],qT hs)
  |.label _=>some ([],.normal,T,H,d,[],qT hs)
  |.exit id=>some ([],.exit id,T,H,d,[],qT hs)
  |.goto l=>some ([],.goto l,T,H,d,[],qT hs)
  |.ret=>some ([],.ret,T,H,d,[],qT hs)
  |.region _ ops false=>match zU E nt ops ops.toList T H d (qT hs) with
   |some (Ps,T,H,d,W,hs)=>some (Ps,.normal,T,H,d,W,hs)
   |none=>none
  |.region _ ops true=>bif iJ ops then match mO E nt ops ops.toList T H d (qT hs) with
   |some (Ps,T,H,W,fs,hs)=>some ((Ld (loose (Region.before ops) fs)=true)::(RW (loose (Region.before ops) fs)++Ps),.normal,T,H,d,W,hs)
   |none=>none else none
  |.seq a b=>match xI E nt f a T H d (qT hs) with
   |some (Ps,.normal,T,H,d,W,hs)=>match xI E nt f b T H d hs with
    |some (Qs,x,T,H,d,V,hs)=>some (Ps++Qs,x,T,H,d,W++V,hs)
    |none=>none
   |r=>r
  |.cond o a b=>match qT hs with
   |.br v::hs=>match xI E nt f (bif v then a else b) T H d hs with
    |some (Ps,r)=>some ((ev E T o=some (.bool v))::Ps,r)
    |none=>none
   |hs=>match ev E T o with
    |some (.bool true)=>xI E nt f a T H d hs
    |some (.bool false)=>xI E nt f b T H d hs
    |_=>none
  |.block id c=>match qT hs with
   |.block id' live x T' h W::hs=>bif Nat.beq id id' then some ([CG E nt (.block id c) (bw (sO T live)) H d x T' h d W],x,T',h,d,W,hs) else none
   |hs=>match xI E nt f c T H d hs with
    |some (Ps,.exit id',T,H,d,W,hs)=>bif Nat.beq id' id then some (Ps,.normal,T,H,d,W,hs) else some (Ps,.exit id',T,H,d,W,hs)
    |r=>r
  |.scope c=>match xI E nt f c T H d (qT hs) with
   |some (Ps,.goto l,T,H,d,W,hs)=>match findLabel c l with
    |some rest=>match xI E nt f rest T H d hs with
     |some (_,.goto _,_)=>none
     |some (Qs,x,T,H,d,V,hs)=>some (Ps++Qs,x,T,H,d,W++V,hs)
     |none=>none
    |none=>none
   |r=>r
  |.loop c=>match qT hs with
   |.loop live x T' h W::hs=>some ([CG E nt (.loop c) (bw (sO T live)) H d x T' h d W],x,T',h,d,W,hs)
   |_=>none
  |_=>none
section
variable {E:Env}
theorem Kf {g:FuncId} {args:List Value} {H H':Hp} {v:Value} {W:List Nat} (h:kX E g args H (.ret v) H' W):∃ call,ji E call∧call g args H=some (.ret v,H',W):=by
 classical
 refine ⟨fun g' a' h'=>if g'=g∧a'=args∧h'=H then some (.ret v,H',W) else none,fun g' a' h' r k V hr wf dy=>?_,if_pos ⟨rfl,rfl,rfl⟩⟩
 simp only at hr
 split at hr
 ·rename_i hc
  obtain ⟨rfl,rfl,rfl⟩:=hc
  simp only [Option.some.injEq,Prod.mk.injEq] at hr
  obtain ⟨rfl,rfl,rfl⟩:=hr
  exact h
 ·cases hr
theorem od:ji E gR:=fun g a h r k V hr=>by simp [gR] at hr
theorem lD {α β:Type} {P:Program} {s:Sem α} {f:α→Sem β} {a:α} (h:bU P s=some a):bU P (s >>= f)=bU P (f a):=by
 show bU P (s.bind f)=_
 induction s with
 |pure x=>simp only [bU,Option.some.injEq] at h;subst h;rfl
 |program k ih=>simp only [Sem.bind,bU] at h ⊢;exact ih _ h
 |mark m k ih=>simp only [Sem.bind,bU] at h ⊢;exact ih h
 |_=>simp [bU] at h
theorem N4 {o:Oper} {T:Tm} {H h h':Hp} {d:Ie} {v v':Value} {W R W' R':List Nat} {Ps:List Prop} (hc:Kj E o T H d v h W R=(Ps,v',h',W',R')) (hp:jU Ps):dR E gR o T H d=some (.val v' h' d W' (some R')):=by
 obtain ⟨dst,op,ty,pos,after,guard⟩:=o
 unfold Kj at hc
 simp only at hc
 split at hc
 ·split at hc
  ·rename_i hx
   injection hc with e1 e2;injection e2 with e2 e3;injection e3 with e3 e4;injection e4 with e4 e5
   subst e1;subst e2;subst e3;subst e4;subst e5
   have h1:=hp.1
   simp only [dR,simple,hx,h1]
  ·injection hc with e1;subst e1;exact hp.1.elim
 ·split at hc
  ·rename_i hx hy
   injection hc with e1 e2;injection e2 with e2 e3;injection e3 with e3 e4;injection e4 with e4 e5
   subst e1;subst e2;subst e3;subst e4;subst e5
   have h1:=hp.1
   simp only [dR,simple,hx,hy,h1]
  ·injection hc with e1;subst e1;exact hp.1.elim
 ·split at hc
  ·rename_i hx
   injection hc with e1 e2;injection e2 with e2 e3;injection e3 with e3 e4;injection e4 with e4 e5
   subst e1;subst e2;subst e3;subst e4;subst e5
   have h1:=hp.1
   simp only [dR,simple,hx,h1]
  ·injection hc with e1;subst e1;exact hp.1.elim
 ·split at hc
  ·rename_i hx
   injection hc with e1 e2;injection e2 with e2 e3;injection e3 with e3 e4;injection e4 with e4 e5
   subst e1;subst e2;subst e3;subst e4;subst e5
   have h1:=hp.1
   simp only [dR,simple,hx,h1]
  ·injection hc with e1;subst e1;exact hp.1.elim
 ·split at hc
  ·rename_i hx
   injection hc with e1 e2;injection e2 with e2 e3;injection e3 with e3 e4;injection e4 with e4 e5
   subst e1;subst e2;subst e3;subst e4;subst e5
   have h1:=hp.1
   simp only [dR,simple,hx,h1]
  ·injection hc with e1;subst e1;exact hp.1.elim
 ·split at hc
  ·rename_i hx hy
   injection hc with e1 e2;injection e2 with e2 e3;injection e3 with e3 e4;injection e4 with e4 e5
   subst e1;subst e2;subst e3;subst e4;subst e5
   have h1:=hp.1
   simp only [dR,simple,hx,hy,h1]
  ·injection hc with e1;subst e1;exact hp.1.elim
 ·split at hc
  ·rename_i hx hy
   injection hc with e1 e2;injection e2 with e2 e3;injection e3 with e3 e4;injection e4 with e4 e5
   subst e1;subst e2;subst e3;subst e4;subst e5
   have h1:=hp.1
   simp only [dR,simple,hx,hy,h1]
  ·injection hc with e1;subst e1;exact hp.1.elim
 ·split at hc
  ·rename_i hx hy hz
   injection hc with e1 e2;injection e2 with e2 e3;injection e3 with e3 e4;injection e4 with e4 e5
   subst e1;subst e2;subst e3;subst e4;subst e5
   have h1:=hp.1
   simp only [dR,simple,hx,hy,hz,h1]
  ·injection hc with e1;subst e1;exact hp.1.elim
 ·split at hc
  ·rename_i hx hy hz
   injection hc with e1 e2;injection e2 with e2 e3;injection e3 with e3 e4;injection e4 with e4 e5
   subst e1;subst e2;subst e3;subst e4;subst e5
   have h1:=hp.1
   simp only [dR,simple,hx,hy,hz,h1]
  ·injection hc with e1;subst e1;exact hp.1.elim
 ·split at hc
  ·rename_i hx hl hi hm
   injection hc with e1 e2;injection e2 with e2 e3;injection e3 with e3 e4;injection e4 with e4 e5
   subst e1;subst e2;subst e3;subst e4;subst e5
   have h1:=hp.1
   simp only [dR,simple,hx,hl,hi,hm,h1]
  ·rename_i hx hl hi hm
   injection hc with e1 e2;injection e2 with e2 e3;injection e3 with e3 e4;injection e4 with e4 e5
   subst e1;subst e2;subst e3;subst e4;subst e5
   have h1:=hp.1
   simp only [dR,simple,hx,hl,hi,hm,h1]
  ·injection hc with e1;subst e1;exact hp.1.elim
 ·split at hc
  ·rename_i hx hi
   injection hc with e1 e2;injection e2 with e2 e3;injection e3 with e3 e4;injection e4 with e4 e5
   subst e1;subst e2;subst e3;subst e4;subst e5
   have h1:=hp.1
   simp only [dR,simple,hx,hi,h1]
  ·injection hc with e1 e2;injection e2 with e2 e3;injection e3 with e3 e4;injection e4 with e4 e5
   subst e1;subst e2;subst e3;subst e4;subst e5
   exact hp.1
 ·rename_i t0 x0 y0 yt
  split at hc
  ·rename_i a b hx hy
   injection hc with e1 e2;injection e2 with e2 e3;injection e3 with e3 e4;injection e4 with e4 e5
   subst e1;subst e2;subst e3;subst e4;subst e5
   have h1:=hp.1
   unfold Qp at h1
   cases hg:(ground (.agg a)&&ground (.agg b)) with
   |false=>rw [hg] at h1;cases h1
   |true=>
    rw [hg] at h1
    simp only [cond_true] at h1
    split at h1
    ·rename_i u hu
     cases Yu:ground u with
     |false=>rw [Yu] at h1;cases h1
     |true=>
      rw [Yu] at h1
      simp only [cond_true,Option.some.injEq] at h1
      subst h1
      rw [Bool.and_eq_true] at hg
      have hgo:eo E T ⟨dst,.binOp .eql t0 x0 y0 yt,ty,pos,after,guard⟩=some u:=by
       unfold eo
       have h2:AK E T [x0,y0]=true:=by
        unfold AK
        simp only [List.all_cons,List.all_nil,hx,hy,hg.1,hg.2,Bool.and_self]
       show (bif AK E T [x0,y0] then _ else _)=_
       rw [h2]
       simp only [cond_true]
       have h3:bU E.P (execOp (fun x=>(ev E T x).getD bJ) ⟨dst,.binOp .eql t0 x0 y0 yt,ty,pos,after,guard⟩)=some (.value u):=by
        simp only [execOp,hx,hy,Option.getD_some]
        rw [lD hu];rfl
       rw [h3]
       simp only [Yu,cond_true]
      simp only [dR,simple,hgo]
    ·cases h1
  ·injection hc with e1 e2;injection e2 with e2 e3;injection e3 with e3 e4;injection e4 with e4 e5
   subst e1;subst e2;subst e3;subst e4;subst e5
   exact hp.1
 ·split at hc
  ·rename_i hg hx
   injection hc with e1 e2;injection e2 with e2 e3;injection e3 with e3 e4;injection e4 with e4 e5
   subst e1;subst e2;subst e3;subst e4;subst e5
   have h1:=hp.1
   simp only [dR,simple,hg,hx,h1]
  ·injection hc with e1 e2;injection e2 with e2 e3;injection e3 with e3 e4;injection e4 with e4 e5
   subst e1;subst e2;subst e3;subst e4;subst e5
   exact hp.1
 ·injection hc with e1 e2;injection e2 with e2 e3;injection e3 with e3 e4;injection e4 with e4 e5
  subst e1;subst e2;subst e3;subst e4;subst e5
  exact hp.1
theorem Iv {s:ByteArray} {n:Int} (h0:0≤n) (h1:n<(s.size:Int)):∃ b:UInt8,s[n.toNat]?=some b∧ak s n=(b.toNat:Int):=by
 have hlt:n.toNat<s.size:=by omega
 refine ⟨s[n.toNat],by simp [hlt],?_⟩
 unfold ak
 have:s.data[n.toNat]?=some s[n.toNat]:=by
  have h2:n.toNat<s.data.size:=hlt
  rw [Array.getElem?_eq_getElem h2];rfl
 rw [this];rfl
theorem P7 (ok:E.Ok) {o:Oper} {T:Tm} {H:Hp} {d:Ie} {v:Value} {Ps:List Prop} (hc:P6 E o T=some (Ps,v)) (hp:jU Ps):dR E gR o T H d=some (.val v H d [] (some [])):=by
 obtain ⟨dst,op,ty,pos,after,guard⟩:=o
 unfold P6 at hc
 simp only at hc
 split at hc
 ·
  rename_i t x i
  split at hc
  ·rename_i s k n hx hi ht
   simp only [Option.some.injEq,Prod.mk.injEq] at hc
   obtain ⟨rfl,rfl⟩:=hc
   obtain ⟨h0,h1,_⟩:=hp
   obtain ⟨b,hb,hbe⟩:=Iv h0 h1
   have hg:eo E T ⟨dst,.index t x i,ty,pos,after,guard⟩=some (.int .u8 (ak s n)):=by
    unfold eo
    have hall:AK E T (Op.operands (.index t x i)).toList=true:=by
     simp [AK,Op.operands,hx,hi,ground,fj]
    simp only [hall,cond_true]
    have hr:bU E.P (execOp (fun x=>(ev E T x).getD bJ) ⟨dst,.index t x i,ty,pos,after,guard⟩)=some (.value (.int .u8 (ak s n))):=by
     simp only [execOp,hx,hi,Option.getD_some,Instr.index,asIntOf,underlying,program,bind,Sem.bind,bU,ok.ul ht,pure,h0,if_true,hb,hbe]
    rw [hr]
    simp [ground,fj]
   simp only [dR,simple,hg]
  ·cases hc
 ·
  rename_i t x i
  split at hc
  ·rename_i b off k n m e hx hi ht
   split at hc
   ·rename_i sz hsz
    simp only [Option.some.injEq,Prod.mk.injEq] at hc
    obtain ⟨rfl,rfl⟩:=hc
    obtain ⟨h0,h1,_⟩:=hp
    simp only [dR,simple,hx,hi,aN,ht,hsz,decide_eq_true h0,decide_eq_true h1,Bool.and_true,cond_true]
   ·cases hc
  ·rename_i b off m cp k n e hx hi ht
   split at hc
   ·rename_i sz hsz
    simp only [Option.some.injEq,Prod.mk.injEq] at hc
    obtain ⟨rfl,rfl⟩:=hc
    obtain ⟨h0,h1,_⟩:=hp
    simp only [dR,simple,hx,hi,aN,ht,hsz,decide_eq_true h0,decide_eq_true h1,Bool.and_true,cond_true]
   ·cases hc
  ·cases hc
 ·
  rename_i t x l h
  have fin:∀(s:ByteArray) (vl vh:Option Value) (v:ByteArray),ev E T x=some (.string s)→Gb E T l=some vl→Gb E T h=some vh→(∀ y∈l.toArray++h.toArray,∃ u,ev E T y=some u∧ground u=true)→
    bU E.P (Instr.sliceAt t (.string s) (l.map fun x=>(ev E T x).getD bJ) (h.map fun x=>(ev E T x).getD bJ) none)=some (.string v)→
    dR E gR ⟨dst,.slice t x l h none,ty,pos,after,guard⟩ T H d=some (.val (.string v) H d [] (some [])):=by
   intro s vl vh v hx hl hh hall hrun
   have hg:eo E T ⟨dst,.slice t x l h none,ty,pos,after,guard⟩=some (.string v):=by
    unfold eo
    have aaC:AK E T (Op.operands (.slice t x l h none)).toList=true:=by
     unfold AK
     rw [List.all_eq_true]
     intro y hy
     have hy:y=x∨y∈l.toArray++h.toArray:=by simpa [Op.operands,or_assoc] using hy
     rcases hy with rfl |hy
     ·rw [hx];rfl
     ·obtain ⟨u,h1,h2⟩:=hall y hy
      rw [h1];exact h2
    simp only [aaC,cond_true]
    have hr:bU E.P (execOp (fun x=>(ev E T x).getD bJ) ⟨dst,.slice t x l h none,ty,pos,after,guard⟩)=some (.value (.string v)):=by
     simp only [execOp,hx,Option.getD_some,Option.map_none]
     exact lD hrun
    rw [hr]
    simp [ground,fj]
   have he:Gb E T none=some none:=rfl
   simp only [dR,simple,hx,hl,hh,he,hg]
  have ex:∀{l:Option Operand} {k:IntKind} {n:Int},Gb E T l=some (some (.int k n))→∃ y,l=some y∧ev E T y=some (.int k n):=by
   intro l k n hl
   cases l with
   |none=>cases hl
   |some y=>
    simp only [Gb] at hl
    split at hl
    ·rename_i v hv;simp only [Option.some.injEq] at hl;subst hl;exact ⟨y,rfl,hv⟩
    ·cases hl
  have ex0:∀{l:Option Operand},Gb E T l=some none→l=none:=by
   intro l hl
   cases l with
   |none=>rfl
   |some y=>
    simp only [Gb] at hl
    split at hl
    ·simp at hl
    ·cases hl
  split at hc
  ·rename_i s hx hl hh ht
   simp only [Option.some.injEq,Prod.mk.injEq] at hc
   obtain ⟨rfl,rfl⟩:=hc
   have:=ex0 hl;subst this
   have:=ex0 hh;subst this
   exact fin s none none _ hx hl hh (by simp) (by simp [Instr.sliceAt,Instr.slice,Instr.sliceBounds,underlying,program,bind,Sem.bind,bU,ok.ul ht,pure])
  ·rename_i s k n hx hl hh ht
   simp only [Option.some.injEq,Prod.mk.injEq] at hc
   obtain ⟨rfl,rfl⟩:=hc
   obtain ⟨h0,h1,_⟩:=hp
   obtain ⟨y,rfl,hy⟩:=ex hl
   have:=ex0 hh;subst this
   exact fin s _ none _ hx hl hh (by simp [hy,ground,fj]) (by simp [Instr.sliceAt,Instr.slice,Instr.sliceBounds,Instr.sliceBound,asIntOf,underlying,program,bind,Sem.bind,bU,ok.ul ht,pure,hy,h0,h1])
  ·rename_i s k n hx hl hh ht
   simp only [Option.some.injEq,Prod.mk.injEq] at hc
   obtain ⟨rfl,rfl⟩:=hc
   obtain ⟨h0,h1,_⟩:=hp
   obtain ⟨y,rfl,hy⟩:=ex hh
   have:=ex0 hl;subst this
   exact fin s none _ _ hx hl hh (by simp [hy,ground,fj]) (by simp [Instr.sliceAt,Instr.slice,Instr.sliceBounds,Instr.sliceBound,asIntOf,underlying,program,bind,Sem.bind,bU,ok.ul ht,pure,hy,h0,h1])
  ·rename_i s k n k2 n2 hx hl hh ht
   simp only [Option.some.injEq,Prod.mk.injEq] at hc
   obtain ⟨rfl,rfl⟩:=hc
   obtain ⟨h0,h1,h2,_⟩:=hp
   obtain ⟨y,rfl,hy⟩:=ex hl
   obtain ⟨y2,rfl,hy2⟩:=ex hh
   have h3:0≤n2:=by omega
   have h4:n≤(n2.toNat:Int):=by omega
   have h5:n≤max n2 0:=by omega
   exact fin s _ _ _ hx hl hh (by simp [hy,hy2,ground,fj]) (by simp [Instr.sliceAt,Instr.slice,Instr.sliceBounds,Instr.sliceBound,asIntOf,underlying,program,bind,Sem.bind,bU,ok.ul ht,pure,hy,hy2,h0,h2,h3,h4,h5])
  ·cases hc
 ·cases hc
theorem P5 {op:BinOp} {t u:TypeId} {x y:Operand} {T:Tm} {H:Hp} {d:Ie} {v:Value} {Ps:List Prop} {dst:Option Tmp} {ty:TypeId} {pos:_} {after:_} {guard:_} (hc:P4 E T op x y=some (Ps,v)) (hp:jU Ps) :
  dR E gR ⟨dst,.binOp op t x y u,ty,pos,after,guard⟩ T H d=some (.val v H d [] (some [])):=by
 have fin:∀(a b:Value),ev E T x=some a→ev E T y=some b→ground a=true→ground b=true→ground v=true→(∀ p q:Operand,(do eqGuard op t p q a b;binOp op t a b:Sem Value)=pure v)→
   dR E gR ⟨dst,.binOp op t x y u,ty,pos,after,guard⟩ T H d=some (.val v H d [] (some [])):=by
  intro a b hx hy ga gb gv hr
  have hg:eo E T ⟨dst,.binOp op t x y u,ty,pos,after,guard⟩=some v:=by
   unfold eo
   have hall:AK E T (Op.operands (.binOp op t x y u)).toList=true:=by
    simp [AK,Op.operands,hx,hy,ga,gb]
   simp only [hall,cond_true]
   have hr':bU E.P (execOp (fun x=>(ev E T x).getD bJ) ⟨dst,.binOp op t x y u,ty,pos,after,guard⟩)=some (.value v):=by
    simp only [execOp,hx,hy,Option.getD_some]
    rw [hr];rfl
   rw [hr']
   simp only [gv,cond_true,if_true]
  simp only [dR,simple,hg]
 unfold P4 at hc
 split at hc
 ·rename_i k a k2 b hx hy
  simp only [Option.some.injEq,Prod.mk.injEq] at hc
  obtain ⟨rfl,rfl⟩:=hc
  refine fin _ _ hx hy rfl rfl rfl fun p q=>?_
  show Op.shift .shl k a k2 b=_
  unfold Op.shift
  rw [if_neg (by have:=hp.1;omega)]
 ·rename_i k a k2 b hx hy
  simp only [Option.some.injEq,Prod.mk.injEq] at hc
  obtain ⟨rfl,rfl⟩:=hc
  refine fin _ _ hx hy rfl rfl rfl fun p q=>?_
  show Op.shift .shr k a k2 b=_
  unfold Op.shift
  rw [if_neg (by have:=hp.1;omega)]
 ·rename_i k a k2 b hx hy
  by_cases e:k=k2
  ·subst e
   simp only [decide_true,cond_true,Option.some.injEq,Prod.mk.injEq] at hc
   obtain ⟨rfl,rfl⟩:=hc
   refine fin _ _ hx hy rfl rfl rfl fun p q=>?_
   show (if k≠k then stuck _ else Op.intDiv .quo k a b)=_
   rw [if_neg (by simp)]
   unfold Op.intDiv
   rw [if_neg hp.1]
  ·simp only [decide_eq_false e,cond_false] at hc;cases hc
 ·rename_i k a k2 b hx hy
  by_cases e:k=k2
  ·subst e
   simp only [decide_true,cond_true,Option.some.injEq,Prod.mk.injEq] at hc
   obtain ⟨rfl,rfl⟩:=hc
   refine fin _ _ hx hy rfl rfl rfl fun p q=>?_
   show (if k≠k then stuck _ else Op.intDiv .rem k a b)=_
   rw [if_neg (by simp)]
   unfold Op.intDiv
   rw [if_neg hp.1]
  ·simp only [decide_eq_false e,cond_false] at hc;cases hc
 ·rename_i k a k2 b hx hy
  by_cases e:k=k2
  ·subst e
   simp only [decide_true,cond_true,Option.some.injEq,Prod.mk.injEq] at hc
   obtain ⟨rfl,rfl⟩:=hc
   refine fin _ _ hx hy rfl rfl rfl fun p q=>?_
   show (if k≠k then stuck _ else Op.floatArith .mul k a b)=_
   rw [if_neg (by simp)]
   obtain ⟨r,hr⟩:=Option.isSome_iff_exists.1 hp.1
   rw [hr]
   show (match k.format.mul a b with |some r=>pure (.float k r) |none=>_:Sem Value)=_
   rw [hr];rfl
  ·simp only [decide_eq_false e,cond_false] at hc;cases hc
 ·rename_i k a k2 b hx hy
  by_cases e:k=k2
  ·subst e
   simp only [decide_true,cond_true,Option.some.injEq,Prod.mk.injEq] at hc
   obtain ⟨rfl,rfl⟩:=hc
   refine fin _ _ hx hy rfl rfl rfl fun p q=>?_
   show (if k≠k then stuck _ else Op.floatArith .quo k a b)=_
   rw [if_neg (by simp)]
   obtain ⟨r,hr⟩:=Option.isSome_iff_exists.1 hp.1
   rw [hr]
   show (match k.format.div a b with |some r=>pure (.float k r) |none=>_:Sem Value)=_
   rw [hr];rfl
  ·simp only [decide_eq_false e,cond_false] at hc;cases hc
 ·cases hc
theorem TT (ok:E.Ok) {o:Oper} {T:Tm} {H:Hp} {d:Ie} {v:Value} {Ps:List Prop} (hc:XY E o T=some (Ps,v)) (hp:jU Ps):dR E gR o T H d=some (.val v H d [] (some [])):=by
 unfold XY at hc
 split at hc
 ·rename_i op t x y u ho
  obtain ⟨dst,op',ty,pos,after,guard⟩:=o
  have ho:op'=_:=ho
  subst ho
  exact P5 hc hp
 ·exact P7 ok hc hp
theorem Ec (ok:E.Ok) {o:Oper} {T:Tm} {H H':Hp} {d d':Ie} {hs hs':List Hint} {Ps:List Prop} {v:Value} {W:List Nat} {r:Option (List Nat)} (h:Br E o T H d hs=some (Ps,v,H',d',W,r,hs')) (hp:jU Ps) (wf:Wf H) (dy:E.ng≤H.n) :
  ∃ call,ji E call∧dR E call o T H d=some (.val v H' d' W r):=by
 unfold Br at h
 split at h
 ·split at h
  ·rename_i hop
   simp only [Option.some.injEq,Prod.mk.injEq] at h
   obtain ⟨rfl,rfl,rfl,rfl,rfl,rfl,_⟩:=h
   exact ⟨gR,od,hop⟩
  ·cases h
 ·split at h
  ·rename_i b1 x1 h1 d1 w1 r1 hop
   simp only [Option.some.injEq,Prod.mk.injEq] at h
   obtain ⟨rfl,rfl,rfl,rfl,rfl,rfl,_⟩:=h
   have e:=hp.1
   subst e
   exact ⟨gR,od,hop⟩
  ·cases h
 ·split at h
  ·rename_i u1 v1 h1 d1 w1 r1 hop
   simp only [Option.some.injEq,Prod.mk.injEq] at h
   obtain ⟨rfl,rfl,rfl,rfl,rfl,rfl,_⟩:=h
   have e:=hp.1
   subst e
   exact ⟨gR,od,hop⟩
  ·cases h
 ·split at h
  ·rename_i P1 v1 Tw
   simp only [Option.some.injEq,Prod.mk.injEq] at h
   obtain ⟨rfl,rfl,rfl,rfl,rfl,rfl,_⟩:=h
   exact ⟨gR,od,TT ok Tw hp⟩
  ·cases h
 ·split at h
  rename_i P1 v1 h1 w1 r1 Ro
  simp only [Option.some.injEq,Prod.mk.injEq] at h
  obtain ⟨rfl,rfl,rfl,rfl,rfl,rfl,_⟩:=h
  exact ⟨gR,od,N4 Ro hp⟩
 ·rename_i v' h' W' hs1
  cases hc:RD o.op with
  |false=>rw [hc] at h;cases h
  |true=>
   rw [hc] at h
   simp only [cond_true] at h
   split at h
   ·rename_i c hco
    split at h
    ·rename_i g args hres
     simp only [Option.some.injEq,Prod.mk.injEq] at h
     obtain ⟨rfl,rfl,rfl,rfl,rfl,rfl,_⟩:=h
     obtain ⟨call,k1,k2⟩:=Kf (hp.1 wf dy)
     refine ⟨call,k1,?_⟩
     obtain ⟨dst,op,ty,pos,after,guard⟩:=o
     cases op <;> simp only [PU] at hco <;> first
      |(cases hco;done)
      |skip
     injection hco with hco
     subst hco
     rename_i c
     obtain ⟨callee,asx,ts⟩:=c
     cases callee with
     |builtin b=>cases hc
     |value f=>simp only [dR,hres,k2]
     |invoke r m=>simp only [dR,hres,k2]
    ·cases h
   ·cases h
 ·cases h
theorem sJ {ops:Array Oper} {T:Tm} {o:Oper} {hs hs':List Hint} {Ps:List Prop} {b:Bool} (h:Bs ops T o hs=some (Ps,b,hs')) (hp:jU Ps):oa ops T o=some b:=by
 unfold Bs at h
 split at h
 ·simp only [Option.some.injEq,Prod.mk.injEq] at h
  obtain ⟨rfl,rfl,_⟩:=h
  exact hp.1
 ·split at h
  ·rename_i hw
   simp only [Option.some.injEq,Prod.mk.injEq] at h
   obtain ⟨rfl,rfl,_⟩:=h
   exact hw
  ·cases h
theorem zV (ok:E.Ok) {nt:Nat} {ops:Array Oper}:∀(rest:List Oper) (T T':Tm) (H H':Hp) (d d':Ie) (hs hs':List Hint) (Ps:List Prop) (W:List Nat),zU E nt ops rest T H d hs=some (Ps,T',H',d',W,hs')→jU Ps→Wf H→E.ng≤H.n→
  cR W H H'∧Wf H'∧∀(base:Nat) (φ:cS) (w:World) (a:Act),SR E base φ w nt ⟨T,H,d,[]⟩ a→gM φ H.n H'.n→wpList E.P ops (Post E base φ w nt H W .normal ⟨T',H',d',[]⟩) rest a w
 |[],T,T',H,H',d,d',hs,hs',Ps,W,h,hp,wf,dy=>by
  simp only [zU,Option.some.injEq,Prod.mk.injEq] at h
  obtain ⟨rfl,rfl,rfl,rfl,rfl,_⟩:=h
  exact ⟨cR.refl ..,wf,fun base φ w a hs hf=>⟨φ,Out.refl [] hs.rel,rfl,hs.tr,hs.dr⟩⟩
 |o::rest,T,T',H,H',d,d',hs,hs',Ps,W,h,hp,wf,dy=>by
  simp only [zU] at h
  split at h
  ·rename_i P1 hs1 YH
   split at h
   ·rename_i P2 v H1 d1 W1 r1 Vg hop
    split at h
    ·rename_i T1 KH
     split at h
     ·rename_i P3 T2 H2 d2 V hs3 lA
      simp only [Option.some.injEq,Prod.mk.injEq] at h
      obtain ⟨rfl,rfl,rfl,rfl,rfl,_⟩:=h
      rw [dL,dL] at hp
      obtain ⟨Ak,GY,Z2⟩:=hp
      have hw:=sJ YH Ak
      obtain ⟨call,hc,Ve⟩:=Ec ok hop GY wf dy
      obtain ⟨g1,g2,g3⟩:F2 E o T H d v H1 d1 W1:=Bl ok hc wf dy Ve
      have zo:=g1.n
      obtain ⟨x2,Ep,k⟩:=zV ok rest _ _ _ _ _ _ _ _ _ _ lA Z2 g2 aa
      have hn2:=x2.n
      refine ⟨g1.trans x2,Ep,fun base φ w a hs hf=>?_⟩
      simp only [wpList]
      rw [if_pos (mu hs.tr hw)]
      refine .inl (g3 base φ w a nt _ _ hs.rel (hf.first hn2) hs.tr hs.dr fun φ' w' u a' hO yA Rw hda=>?_)
      have KO:TR φ' T a'.tmps nt:=by rw [Rw];exact hs.tr.mono (hO.sub (hf.first hn2))
      have:=k base φ' w' (a'.put o.dst u) ⟨hO.rel,KO.put yA KH,by rw [put_defers];exact hda⟩ (hf.next hO zo)
      exact qi (fun e a w h=>Post.Nb g1 x2 hO hf h) _ _ _ this
     ·cases h
    ·cases h
   ·cases h
  ·rename_i P1 hs1 YH
   split at h
   ·rename_i T1 KH
    split at h
    ·rename_i P3 T2 H2 d2 V hs3 lA
     simp only [Option.some.injEq,Prod.mk.injEq] at h
     obtain ⟨rfl,rfl,rfl,rfl,rfl,_⟩:=h
     rw [dL] at hp
     have hw:=sJ YH hp.1
     obtain ⟨x2,Ep,k⟩:=zV ok rest _ _ _ _ _ _ _ _ _ _ lA hp.2 wf dy
     refine ⟨x2,Ep,fun base φ w a hs hf=>?_⟩
     simp only [wpList]
     rw [if_neg (by rw [mu hs.tr hw];simp)]
     exact k base φ w _ ⟨hs.rel,hs.tr.put (.tuple' ⟨rfl,fun i x y hx=>by simp at hx⟩) KH,by rw [put_defers];exact hs.dr⟩ hf
    ·cases h
   ·cases h
  ·cases h
theorem qz (ok:E.Ok) {nt:Nat} {ops:Array Oper}:∀(rest:List Oper) (T T':Tm) (H H':Hp) (d:Ie) (hs hs':List Hint) (Ps:List Prop) (W:List Nat) (fs:List om),mO E nt ops rest T H d hs=some (Ps,T',H',W,fs,hs')→jU Ps→(∀ o∈rest,rL o.op=false)→
  ∃(hp:Nat→Hp) (ts:Nat→Tm) (Ws:Nat→List Nat) (ft:Nat→jT),hp 0=H∧ts 0=T∧hp rest.length=H'∧ts rest.length=T'∧
   (∀ j,j<rest.length→∀ q,q∈Ws j→q∈W)∧fs.map (·.1)=(List.range rest.length).map ft∧
   ∀(j:Nat) (o:Oper),rest[j]?=some o→Wf (hp j)→E.ng≤(hp j).n→∃ call,ji E call∧qE E call nt ops d o (ts j) (ts (j+1)) (hp j) (hp (j+1)) (Ws j) (ft j)
 |[],T,T',H,H',d,hs,hs',Ps,W,fs,h,hp,hd=>by
  simp only [mO,Option.some.injEq,Prod.mk.injEq] at h
  obtain ⟨rfl,rfl,rfl,rfl,rfl,_⟩:=h
  exact ⟨fun _=>H,fun _=>T,fun _=>[],fun _=>⟨none,[],[],none,0,0⟩,rfl,rfl,rfl,rfl,fun j hj=>by simp at hj,by simp,fun j o h=>by simp at h⟩
 |o::rest,T,T',H,H',d,hs,hs',Ps,W,fs,h,hp,hd=>by
  simp only [mO] at h
  have glue:∀(T1:Tm) (H1:Hp) (W1:List Nat) (f:om) (P3:List Prop) (V:List Nat) (WN:List om) (Vg:List Hint),(Wf H→E.ng≤H.n→∃ call,ji E call∧qE E call nt ops d o T T1 H H1 W1 f.1)→mO E nt ops rest T1 H1 d Vg=some (P3,T',H',V,WN,hs')→jU P3→
    W=W1++V→fs=f::WN→
    ∃(hp:Nat→Hp) (ts:Nat→Tm) (Ws:Nat→List Nat) (ft:Nat→jT),hp 0=H∧ts 0=T∧hp (o::rest).length=H'∧ts (o::rest).length=T'∧
     (∀ j,j<(o::rest).length→∀ q,q∈Ws j→q∈W)∧fs.map (·.1)=(List.range (o::rest).length).map ft∧
     ∀(j:Nat) (o':Oper),(o::rest)[j]?=some o'→Wf (hp j)→E.ng≤(hp j).n→∃ call,ji E call∧qE E call nt ops d o' (ts j) (ts (j+1)) (hp j) (hp (j+1)) (Ws j) (ft j):=by
   intro T1 H1 W1 f P3 V WN Vg hstep lA Z2 hW hfs
   obtain ⟨hq,ts,Ws,ft,a1,a2,a3,a4,a5,a6,a7⟩:=qz ok rest _ _ _ _ _ _ _ _ _ _ lA Z2 (fun o' ho'=>hd o' (List.mem_cons_of_mem _ ho'))
   refine ⟨fun |0=>H |j+1=>hq j,fun |0=>T |j+1=>ts j,fun |0=>W1 |j+1=>Ws j,fun |0=>f.1 |j+1=>ft j,rfl,rfl,a3,a4,?_,?_,?_⟩
   ·intro j hj q hq
    rw [hW]
    cases j with
    |zero=>exact List.mem_append_left _ hq
    |succ j=>exact List.mem_append_right _ (a5 j (by simpa using hj) q hq)
   ·rw [hfs,List.map_cons,a6,List.length_cons,List.range_succ_eq_map,List.map_cons,List.map_map]
    simp [Function.comp_def]
   ·intro j o' ho' hwf dy
    cases j with
    |zero=>
     simp at ho'
     subst ho'
     obtain ⟨call,c1,c2⟩:=hstep hwf dy
     exact ⟨call,c1,by show qE E call nt ops d o T (ts 0) H (hq 0) W1 f.1;rw [a1,a2];exact c2⟩
    |succ j=>exact a7 j o' (by simpa using ho') hwf dy
  split at h
  ·rename_i P1 hs1 YH
   split at h
   ·rename_i P2 v H1 d1 W1 r1 Vg hop
    split at h
    ·rename_i T1 KH
     split at h
     ·rename_i P3 T2 H2 V WN hs3 lA
      simp only [Option.some.injEq,Prod.mk.injEq] at h
      obtain ⟨rfl,rfl,rfl,rfl,rfl,rfl⟩:=h
      rw [dL,dL] at hp
      obtain ⟨Ak,GY,Z2⟩:=hp
      have hw:=sJ YH Ak
      refine glue T1 H1 W1 _ P3 V WN Vg (fun hwf dy=>?_) lA Z2.2 rfl rfl
      obtain ⟨call,hc,Ve⟩:=Ec ok hop GY hwf dy
      obtain ⟨lM,_⟩:=Hv (hd o (by simp)) Ve
      subst lM
      exact ⟨call,hc,.go v W1 r1 hw Ve KH Z2.1⟩
     ·cases h
    ·cases h
   ·cases h
  ·rename_i P1 hs1 YH
   split at h
   ·rename_i T1 KH
    split at h
    ·rename_i P3 T2 H2 V WN hs3 lA
     simp only [Option.some.injEq,Prod.mk.injEq] at h
     obtain ⟨rfl,rfl,rfl,rfl,rfl,rfl⟩:=h
     rw [dL] at hp
     have hw:=sJ YH hp.1
     exact glue T1 H [] _ P3 V WN hs1 (fun hwf dy=>⟨gR,od,.skip hw KH rfl⟩) lA hp.2 rfl rfl
    ·cases h
   ·cases h
  ·cases h
theorem vb {nt:Nat} {ops:Array Oper}:∀(rest:List Oper) (T T':Tm) (H H':Hp) (d:Ie) (hs hs':List Hint) (Ps:List Prop) (W:List Nat) (fs:List om),mO E nt ops rest T H d hs=some (Ps,T',H',W,fs,hs')→∀ f∈fs,∀ q∈f.1.w,q∈f.2
 |[],T,T',H,H',d,hs,hs',Ps,W,fs,h=>by
  simp only [mO,Option.some.injEq,Prod.mk.injEq] at h
  obtain ⟨_,_,_,_,rfl,_⟩:=h
  intro f hf;cases hf
 |o::rest,T,T',H,H',d,hs,hs',Ps,W,fs,h=>by
  simp only [mO] at h
  split at h
  ·split at h
   ·split at h
    ·split at h
     ·rename_i lA
      simp only [Option.some.injEq,Prod.mk.injEq] at h
      obtain ⟨_,_,_,_,rfl,_⟩:=h
      intro f hf
      rcases List.mem_cons.1 hf with rfl |hf
      ·exact fun q hq=>(List.mem_filter.1 hq).1
      ·exact vb rest _ _ _ _ _ _ _ _ _ _ lA f hf
     ·cases h
    ·cases h
   ·cases h
  ·split at h
   ·split at h
    ·rename_i lA
     simp only [Option.some.injEq,Prod.mk.injEq] at h
     obtain ⟨_,_,_,_,rfl,_⟩:=h
     intro f hf
     rcases List.mem_cons.1 hf with rfl |hf
     ·exact fun q hq=>hq
     ·exact vb rest _ _ _ _ _ _ _ _ _ _ lA f hf
    ·cases h
   ·cases h
  ·cases h
theorem g9 (ok:E.Ok) {nt:Nat}:∀(f:Nat) (c:Code) (T T':Tm) (H H':Hp) (d d':Ie) (hs hs':List Hint) (Ps:List Prop) (x:Ex) (W:List Nat),xI E nt f c T H d hs=some (Ps,x,T',H',d',W,hs')→jU Ps→CG E nt c T H d x T' H' d' W
 |0,_,_,_,_,_,_,_,_,_,_,_,_,h,_=>by simp [xI] at h
 |f+1,c,T,T',H,H',d,d',hs,hs',Ps,x,W,h,hp=>by
  unfold xI at h
  cases YA:Hx hs with
  |some p=>
   obtain ⟨live,x1,T1,h1,W1,hs1⟩:=p
   rw [YA] at h
   simp only [Option.some.injEq,Prod.mk.injEq] at h;obtain ⟨rfl,rfl,rfl,rfl,rfl,rfl,_⟩:=h
   exact hp.1.pre (sU.sO _ _)
  |none=>
  rw [YA] at h
  generalize qT hs=hs at h
  simp only at h
  split at h
  ·simp only [Option.some.injEq,Prod.mk.injEq] at h;obtain ⟨rfl,rfl,rfl,rfl,rfl,rfl,_⟩:=h;exact CG.skip
  ·simp only [Option.some.injEq,Prod.mk.injEq] at h;obtain ⟨rfl,rfl,rfl,rfl,rfl,rfl,_⟩:=h;exact CG.label
  ·simp only [Option.some.injEq,Prod.mk.injEq] at h;obtain ⟨rfl,rfl,rfl,rfl,rfl,rfl,_⟩:=h;exact CG.exit
  ·simp only [Option.some.injEq,Prod.mk.injEq] at h;obtain ⟨rfl,rfl,rfl,rfl,rfl,rfl,_⟩:=h;exact CG.goto
  ·simp only [Option.some.injEq,Prod.mk.injEq] at h;obtain ⟨rfl,rfl,rfl,rfl,rfl,rfl,_⟩:=h;exact CG.ret
  ·
   rename_i id ops
   split at h
   ·rename_i WE T1 H1 d1 W1 hs1 ad4
    simp only [Option.some.injEq,Prod.mk.injEq] at h;obtain ⟨rfl,rfl,rfl,rfl,rfl,rfl,_⟩:=h
    intro wf dy
    obtain ⟨k1,k2,k3⟩:=zV ok _ _ _ _ _ _ _ _ _ _ _ ad4 hp wf dy
    refine ⟨k1,k2,fun base φ w a gL hf=>wp_region ?_⟩
    have e:∀ Q,wpOps E.P ops Q (List.range ops.size)=wpList E.P ops Q ops.toList:=fun Q=>by
     have:=wpOps_eq_wpList (P:=E.P) (ops:=ops) (Q:=Q) ops.toList 0 (fun j=>by simp)
     rw [Array.length_toList] at this
     rw [List.range_eq_range',this]
    rw [e]
    exact k3 base φ w a gL hf
   ·cases h
  ·
   rename_i id ops
   cases hro:iJ ops with
   |false=>rw [hro] at h;cases h
   |true=>
    rw [hro] at h
    simp only [cond_true] at h
    split at h
    ·rename_i WE T1 H1 W1 fs hs1 jX
     simp only [Option.some.injEq,Prod.mk.injEq] at h;obtain ⟨rfl,rfl,rfl,rfl,rfl,rfl,_⟩:=h
     obtain ⟨ht,hp⟩:=hp
     rw [dL] at hp
     have hi:=Jq (vb _ _ _ _ _ _ _ _ _ _ _ jX) ht hp.1
     have hp:=hp.2
     intro wf dy
     obtain ⟨hq,ts,Ws,ft,a1,a2,a3,a4,a5,a6,a7⟩:=qz ok _ _ _ _ _ _ _ _ _ _ _ jX hp (wD hro)
     simp only [Array.length_toList] at a3 a4 a5 a6
     rw [a6] at hi
     obtain ⟨k1,k2,k3⟩:=vE (id:=id) (W:=W1) ok hro hi a5 a7 (by rw [a1];exact wf) (by rw [a1];exact dy)
     rw [a1,a3] at k1
     rw [a3] at k2
     refine ⟨k1,k2,fun base φ w a gL hf=>?_⟩
     have:=k3 base φ w a [] [] (by rw [a1,a2];exact gL) (by rw [a1,a3];exact hf)
     rw [a1,a3,a4] at this
     exact this
    ·cases h
  ·
   rename_i a b
   split at h
   ·rename_i P1 T1 H1 d1 W1 hs1 h1
    split at h
    ·rename_i P2 x2 T2 H2 d2 V Vg h2
     simp only [Option.some.injEq,Prod.mk.injEq] at h;obtain ⟨rfl,rfl,rfl,rfl,rfl,rfl,_⟩:=h
     rw [dL] at hp
     exact CG.seq (g9 ok f _ _ _ _ _ _ _ _ _ _ _ _ h1 hp.1) (g9 ok f _ _ _ _ _ _ _ _ _ _ _ _ h2 hp.2)
    ·cases h
   ·rename_i r hne
    have hx:x≠.normal:=fun e=>by subst e;exact hne _ _ _ _ _ _ h
    exact CG.Wj (g9 ok f _ _ _ _ _ _ _ _ _ _ _ _ h hp) hx
  ·
   rename_i o a b
   split at h
   ·rename_i v hs1
    split at h
    ·rename_i WE r hr
     simp only [Option.some.injEq,Prod.mk.injEq] at h
     obtain ⟨rfl,rfl⟩:=h
     obtain ⟨h1,hp⟩:=hp
     refine CG.cond h1 ?_
     cases v with
     |true=>exact g9 ok f _ _ _ _ _ _ _ _ _ _ _ _ hr hp
     |false=>exact g9 ok f _ _ _ _ _ _ _ _ _ _ _ _ hr hp
    ·cases h
   ·split at h
    ·rename_i hb;exact CG.cond hb (g9 ok f _ _ _ _ _ _ _ _ _ _ _ _ h hp)
    ·rename_i hb;exact CG.cond hb (g9 ok f _ _ _ _ _ _ _ _ _ _ _ _ h hp)
    ·cases h
  ·
   rename_i id c1
   split at h
   ·rename_i id' live x' T1 H1 W1 hs1
    cases hid:Nat.beq id id' with
    |false=>rw [hid] at h;cases h
    |true=>
     rw [hid] at h
     simp only [cond_true,Option.some.injEq,Prod.mk.injEq] at h;obtain ⟨rfl,rfl,rfl,rfl,rfl,rfl,_⟩:=h
     exact hp.1.pre (sU.sO _ _)
   ·split at h
    ·rename_i WE id' T1 H1 d1 W1 hs1 h1
     have g:=g9 ok f _ _ _ _ _ _ _ _ _ _ _ _ h1
     cases hid:Nat.beq id' id with
     |true=>
      rw [hid] at h
      simp only [cond_true,Option.some.injEq,Prod.mk.injEq] at h;obtain ⟨rfl,rfl,rfl,rfl,rfl,rfl,_⟩:=h
      have e:=Nat.eq_of_beq_eq_true hid
      subst e
      exact CG.Kc (g hp)
     |false=>
      rw [hid] at h
      simp only [cond_false,Option.some.injEq,Prod.mk.injEq] at h;obtain ⟨rfl,rfl,rfl,rfl,rfl,rfl,_⟩:=h
      exact CG.block (g hp) (fun e=>by injection e with e;rw [e,Nat.beq_refl] at hid;cases hid)
    ·rename_i r hne
     exact CG.block (g9 ok f _ _ _ _ _ _ _ _ _ _ _ _ h hp) (fun e=>by subst e;exact hne _ _ _ _ _ _ _ h)
  ·
   rename_i c1
   split at h
   ·rename_i WE l T1 H1 d1 W1 hs1 h1
    split at h
    ·rename_i rest hfl
     split at h
     ·cases h
     ·rename_i Qs x2 T2 H2 d2 V2 Vg hne h2
      simp only [Option.some.injEq,Prod.mk.injEq] at h;obtain ⟨rfl,rfl,rfl,rfl,rfl,rfl,_⟩:=h
      rw [dL] at hp
      exact CG.LD (g9 ok f _ _ _ _ _ _ _ _ _ _ _ _ h1 hp.1) hfl (g9 ok f _ _ _ _ _ _ _ _ _ _ _ _ h2 hp.2) fun l e=>by subst e;exact hne l rfl
     ·cases h
    ·cases h
   ·rename_i hne
    have g:=g9 ok f _ _ _ _ _ _ _ _ _ _ _ _ h hp
    exact CG.scope g fun l e=>by subst e;exact hne _ _ _ _ _ _ _ h
  ·
   rename_i c1
   split at h
   ·simp only [Option.some.injEq,Prod.mk.injEq] at h;obtain ⟨rfl,rfl,rfl,rfl,rfl,rfl,_⟩:=h
    exact hp.1.pre (sU.sO _ _)
   ·cases h
  ·cases h
end
def bH (fn:Func):Code:=match fn.body with |some c=>c |none=>.skip
def cz:List Nat→Code→Code
 |[],c=>c
 |0::p,.seq a _=>cz p a
 |_::p,.seq _ b=>cz p b
 |0::p,.cond _ a _=>cz p a
 |_::p,.cond _ _ b=>cz p b
 |_::p,.block _ c=>cz p c
 |_::p,.loop c=>cz p c
 |_::p,.scope c=>cz p c
 |_,c=>c
def Yj (T:Tm):List (Tmp×Value)→List Prop
 |[]=>[]
 |(t,v)::l=>(T.get t=some v)::Yj T l
theorem GU {T:Tm}:∀{l:List (Tmp×Value)},jU (Yj T l)→∀ t v,(t,v)∈l→T.get t=some v
 |[],_,t,v,h=>by cases h
 |(t',v')::l,hp,t,v,h=>by
  rcases List.mem_cons.1 h with h |h
  ·injection h with h1 h2;subst h1;subst h2;exact hp.1
  ·exact GU hp.2 t v h
def O4 (E:Env) (nt f:Nat) (c:Code) (pre post:List (Tmp×Value)) (H:Hp) (hs:List Hint):Option (List Prop×Ex×Hp×List Nat):=
 match xI E nt f c (bw pre) H [] hs with
 |some (Ps,x,T',H',[],W,[])=>some (Ps++Yj T' post,x,H',W)
 |_=>none
def SQ (E:Env) (fn:Func) (f:Nat) (args:List Value) (H:Hp) (rv:Option Value) (hs:List Hint):Option (List Prop×Value×Hp×List Nat):=
 match xI E fn.ntmps f (bH fn) (EX args 0 .nil) H [] hs with
 |some (Ps,x,T',H',[],W,[])=>match (match x with |.ret=>true |.normal=>true |_=>false) with
  |true=>match rv with
   |some v=>some (Ps++[HB E fn ⟨T',H',[],[]⟩=some v],v,H',W)
   |none=>match HB E fn ⟨T',H',[],[]⟩ with
    |some v=>some (Ps,v,H',W)
    |none=>none
  |false=>none
 |_=>none
section
variable {E:Env}
theorem CG.Bj (ok:E.Ok) {nt f:Nat} {c:Code} {pre post:List (Tmp×Value)} {H H':Hp} {hs:List Hint} {Ps:List Prop} {x:Ex} {W:List Nat} (h:O4 E nt f c pre post H hs=some (Ps,x,H',W)) (hp:jU Ps) :
  CG E nt c (bw pre) H [] x (bw post) H' [] W:=by
 unfold O4 at h
 split at h
 ·rename_i WE x1 T1 H1 W1 hr
  simp only [Option.some.injEq,Prod.mk.injEq] at h
  obtain ⟨rfl,rfl,rfl,rfl⟩:=h
  rw [dL] at hp
  exact (g9 ok f _ _ _ _ _ _ _ _ _ _ _ _ hr hp.1).post (fun t v hv=>GU hp.2 t v (Bh _ _ _ hv)) (fun q hq=>.inl hq)
 ·cases h
theorem CC.ef (ok:E.Ok) {g f:Nat} {fn:Func} {args:List Value} {H H':Hp} {rv:Option Value} {hs:List Hint} {Ps:List Prop} {v:Value} {W:List Nat} (hf:E.func g=some fn)
  (hn:(fn.body.isSome&&Nat.ble args.length fn.ntmps&&!(fn.name== "runtime.NumGoroutine"))=true) (h:SQ E fn f args H rv hs=some (Ps,v,H',W)) (hp:jU Ps):CC E g args H (.ret v) H' W:=by
 simp only [Bool.and_eq_true,Bool.not_eq_true'] at hn
 obtain ⟨⟨hb,hle⟩,hname⟩:=hn
 obtain ⟨c,hc⟩:=Option.isSome_iff_exists.1 hb
 have hbc:bH fn=c:=by unfold bH;rw [hc]
 unfold SQ at h
 split at h
 ·rename_i WE x1 T1 H1 W1 hr
  rw [hbc] at hr
  split at h
  ·rename_i hx
   have hx:x1=.normal∨x1=.ret:=by
    cases x1 <;> first
     |exact .inl rfl
     |exact .inr rfl
     |cases hx
   split at h
   ·rename_i v1
    simp only [Option.some.injEq,Prod.mk.injEq] at h
    obtain ⟨rfl,rfl,rfl,rfl⟩:=h
    rw [dL] at hp
    exact CC.Hu ok hf hname hc hle hx (g9 ok f _ _ _ _ _ _ _ _ _ _ _ _ hr hp.1) hp.2.1
   ·split at h
    ·rename_i v1 hres
     simp only [Option.some.injEq,Prod.mk.injEq] at h
     obtain ⟨rfl,rfl,rfl,rfl⟩:=h
     exact CC.Hu ok hf hname hc hle hx (g9 ok f _ _ _ _ _ _ _ _ _ _ _ _ hr hp) hres
    ·cases h
  ·cases h
 ·cases h
theorem CG.nw (ok:E.Ok) {P:Prop} {nt f:Nat} {c:Code} {pre post:List (Tmp×Value)} {H H':Hp} {hs:List Hint} {x:Ex} {W:List Nat} (hp:P) (h:(O4 E nt f c pre post H hs).map (fun r=>(jU r.1,r.2))=some (P,x,H',W)) :
  CG E nt c (bw pre) H [] x (bw post) H' [] W:=by
 obtain ⟨⟨Ps,r⟩,h1,h2⟩:=Option.map_eq_some_iff.1 h
 injection h2 with h2 h3
 subst h3
 exact CG.Bj ok h1 (h2▸hp)
theorem CC.hH (ok:E.Ok) {P:Prop} {g f:Nat} {fn:Func} {args:List Value} {H H':Hp} {hs:List Hint} {v:Value} {W:List Nat} (hf:E.func g=some fn)
  (hn:(fn.body.isSome&&Nat.ble args.length fn.ntmps&&!(fn.name== "runtime.NumGoroutine"))=true) (hp:P) (h:(SQ E fn f args H none hs).map (fun r=>(jU r.1,r.2))=some (P,v,H',W)):CC E g args H (.ret v) H' W:=by
 obtain ⟨⟨Ps,r⟩,h1,h2⟩:=Option.map_eq_some_iff.1 h
 injection h2 with h2 h3
 subst h3
 exact CC.ef ok hf hn h1 (h2▸hp)
end
theorem Tr.OY {α:Type} (a b:α):∀(f g:Nat) (t:Tr α) (i:Nat),i<f→i<g→Tr.iK g (Tr.iK f t i a) i b=Tr.iK g t i b:=by
 intro f
 induction f with
 |zero=>intro g t i h;omega
 |succ f ih=>
  intro g t i hf hg
  cases g with
  |zero=>omega
  |succ g=>
   cases t with
   |nil=>
    simp only [Tr.iK]
    cases h0:Nat.beq i 0 with
    |true=>simp [Tr.iK,h0]
    |false=>
     have hi:i≠0:=fun e=>by subst e;cases h0
     cases h1:Nat.beq (i%2) 1 with
     |true=>simp only [cond_true,cond_false,Tr.iK,h0,h1];rw [ih g _ _ aa aa]
     |false=>simp only [cond_true,cond_false,Tr.iK,h0,h1];rw [ih g _ _ aa aa]
   |node v l r=>
    simp only [Tr.iK]
    cases h0:Nat.beq i 0 with
    |true=>simp [Tr.iK,h0]
    |false=>
     have hi:i≠0:=fun e=>by subst e;cases h0
     cases h1:Nat.beq (i%2) 1 with
     |true=>simp only [cond_true,cond_false,Tr.iK,h0,h1];rw [ih g _ _ aa aa]
     |false=>simp only [cond_true,cond_false,Tr.iK,h0,h1];rw [ih g _ _ aa aa]
theorem Tr.FN {α:Type} (a:α):∀(f g:Nat) (t:Tr α) (i:Nat),i<f→i<g→Tr.iK f t i a=Tr.iK g t i a:=by
 intro f
 induction f with
 |zero=>intro g t i h;omega
 |succ f ih=>
  intro g t i hf hg
  cases g with
  |zero=>omega
  |succ g=>
   cases t <;> simp only [Tr.iK] <;> cases h0:Nat.beq i 0 <;> simp only [cond_true,cond_false] <;>
    (have hi:i≠0:=fun e=>by subst e;cases h0) <;>
    (cases h1:Nat.beq (i%2) 1 <;> simp only [cond_true,cond_false] <;> rw [ih g _ _ aa aa])
theorem Tr.set_set {α:Type} (t:Tr α) (i:Nat) (a b:α):(t.set i a).set i b=t.set i b:=Tr.OY a b _ _ _ _ aa aa
theorem Tr.OX {α:Type} (a b:α):∀(f:Nat) (t:Tr α) (i j:Nat),i≠j→i<f→j<f→Tr.iK f (Tr.iK f t i a) j b=Tr.iK f (Tr.iK f t j b) i a:=by
 intro f
 induction f with
 |zero=>intro t i j h h1;omega
 |succ f ih=>
  intro t i j hij hi hj
  by_cases hi0:i=0
  ·have hj0:j≠0:=fun e=>hij (hi0.trans e.symm)
   have i0:=Fz hi0
   have j0:=uT hj0
   cases t <;> simp only [Tr.iK,i0,j0,cond_true,cond_false] <;> cases Nat.beq (j%2) 1 <;> simp only [cond_true,cond_false,Tr.iK,i0,j0]
  ·have i0:=uT hi0
   by_cases hj0:j=0
   ·have j0:=Fz hj0
    cases t <;> simp only [Tr.iK,i0,j0,cond_true,cond_false] <;> cases Nat.beq (i%2) 1 <;> simp only [cond_true,cond_false,Tr.iK,i0,j0]
   ·have j0:=uT hj0
    by_cases mi:i%2=1
    ·have i1:=Fz mi
     by_cases mj:j%2=1
     ·have j1:=Fz mj
      cases t <;> simp only [Tr.iK,i0,j0,i1,j1,cond_true,cond_false] <;> rw [ih _ _ _ aa aa aa]
     ·have j1:=uT mj
      cases t <;> simp only [Tr.iK,i0,j0,i1,j1,cond_true,cond_false]
    ·have i1:=uT mi
     by_cases mj:j%2=1
     ·have j1:=Fz mj
      cases t <;> simp only [Tr.iK,i0,j0,i1,j1,cond_true,cond_false]
     ·have j1:=uT mj
      cases t <;> simp only [Tr.iK,i0,j0,i1,j1,cond_true,cond_false] <;> rw [ih _ _ _ aa aa aa]
theorem Tr.set_comm {α:Type} (t:Tr α) {i j:Nat} (h:i≠j) (a b:α):(t.set i a).set j b=(t.set j b).set i a:=by
 unfold Tr.set
 have e1:∀(t:Tr α),Tr.iK (i+1) t i a=Tr.iK (i+j+1) t i a:=fun t=>Tr.FN a _ _ t i aa aa
 have e2:∀(t:Tr α),Tr.iK (j+1) t j b=Tr.iK (i+j+1) t j b:=fun t=>Tr.FN b _ _ t j aa aa
 rw [e1,e2,e2,e1]
 exact Tr.OX a b _ t i j h aa aa
def news (H:Hp):List Ob→Hp
 |[]=>H
 |o::l=>news (H.new o) l
theorem bF:∀(l:List Ob) (H:Hp),(news H l).n=H.n+l.length
 |[],H=>rfl
 |o::l,H=>by simp only [news,bF l,List.length_cons];show H.n+1+l.length=_;omega
theorem jB:∀(l:List Ob) (H:Hp) (i:Nat),i<H.n→(news H l).get i=H.get i
 |[],H,i,h=>rfl
 |o::l,H,i,h=>by
  have hn:(H.new o).n=H.n+1:=rfl
  rw [news,jB l _ i aa,Hp.dF,if_neg aa]
theorem aB:∀(l:List Ob) (H:Hp) (k:Nat) (o:Ob),l[k]?=some o→(news H l).get (H.n+k)=some o
 |[],H,k,o,h=>by simp at h
 |o'::l,H,0,o,h=>by
  simp only [List.length_cons,List.getElem?_cons_zero,Option.some.injEq] at h
  subst h
  have hn:(H.new o').n=H.n+1:=rfl
  rw [news,jB l _ _ aa,Hp.dF];simp
 |o'::l,H,k+1,o,h=>by
  have hn:(H.new o').n=H.n+1:=rfl
  have:=aB l (H.new o') k o (by simpa using h)
  rw [hn] at this
  rw [news,← this];congr 1;omega
theorem yI:∀(l:List Ob) (H:Hp) (i:Nat) (o:Ob),i<H.n→(news H l).set i o=news (H.set i o) l
 |[],H,i,o,h=>rfl
 |o'::l,H,i,o,h=>by
  have hn:(H.new o').n=H.n+1:=rfl
  rw [news,yI l _ i o aa,news]
  congr 1
  show Hp.mk (H.n+1) ((H.t.set H.n o').set i o)=Hp.mk (H.n+1) ((H.t.set i o).set H.n o')
  rw [Tr.set_comm _ aa]
theorem rS:∀(l:List Ob) (H:Hp) (k:Nat) (o:Ob),k<l.length→(news H l).set (H.n+k) o=news H (l.set k o)
 |[],H,k,o,h=>by simp at h
 |o'::l,H,0,o,h=>by
  have hn:(H.new o').n=H.n+1:=rfl
  rw [news,Nat.add_zero,yI l _ _ o aa,List.set_cons_zero,news]
  congr 1
  show Hp.mk (H.n+1) ((H.t.set H.n o').set H.n o)=Hp.mk (H.n+1) (H.t.set H.n o)
  rw [Tr.set_set]
 |o'::l,H,k+1,o,h=>by
  have hn:(H.new o').n=H.n+1:=rfl
  have:=rS l (H.new o') k o (by simpa using h)
  rw [hn] at this
  rw [news,List.set_cons_succ,news,← this];congr 1;omega
theorem Wf.news {H:Hp} (h:Wf H):∀(l:List Ob),Wf (news H l):=by
 intro l
 induction l generalizing H with
 |nil=>exact h
 |cons o l ih=>exact ih (h.new o)
section
variable {E:Env}
theorem bQ {t:TypeId} {b off:Nat} {H:Hp} {c:List Value} {e:TypeId} {ro:Bool} {v:Value} (ha:E.agg t=some false) (hb:H.get b=some (.cells c e ro)) (hv:c[off]?=some v):aq E t b off H=some v:=by
 simp only [aq,ha,cell,hb,hv]
theorem o7 {t:TypeId} {b off n:Nat} {H:Hp} {c:List Value} {e:TypeId} {ro:Bool} {vs:List Value} (ha:E.agg t=some true) (hs:E.size t=some n) (hb:H.get b=some (.cells c e ro)) (hn:Nat.ble (off+n) c.length=true) (hv:(c.drop off).take n=vs):aq E t b off H=some (.agg vs.toArray):=by
 simp only [aq,ha,hs,row,hb,hn,cond_true,hv]
theorem st {t:TypeId} {b off n:Nat} {H:Hp} {c c':List Value} {e:TypeId} {v:Value} (hs:E.size t=some n) (hb:H.get b=some (.cells c e false)) (hn:(Nat.beq v.cells.size n&&v.cells.toList.all one&&Nat.ble (off+n) c.length)=true) (hc:splice c off v.cells.toList=c'):az E t b off v H=some (H.set b (.cells c' e false)):=by
 simp only [az,hb,hs,hn,cond_true,hc]
theorem cI {t:TypeId} {k off:Nat} {H:Hp} {l:List Ob} {c:List Value} {e:TypeId} {ro:Bool} {v:Value} (ha:E.agg t=some false) (hb:l[k]?=some (.cells c e ro)) (hv:c[off]?=some v):aq E t (H.n+k) off (news H l)=some v:=
 bQ ha (aB l H k _ hb) hv
theorem fQ {t:TypeId} {k off n:Nat} {H:Hp} {l:List Ob} {c:List Value} {e:TypeId} {ro:Bool} {vs:List Value} (ha:E.agg t=some true) (hs:E.size t=some n) (hb:l[k]?=some (.cells c e ro)) (hn:Nat.ble (off+n) c.length=true) (hv:(c.drop off).take n=vs) :
  aq E t (H.n+k) off (news H l)=some (.agg vs.toArray):=o7 ha hs (aB l H k _ hb) hn hv
theorem cN {t:TypeId} {k off n:Nat} {H:Hp} {l l':List Ob} {c c':List Value} {e:TypeId} {v:Value} (hs:E.size t=some n) (hb:l[k]?=some (.cells c e false)) (hn:(Nat.beq v.cells.size n&&v.cells.toList.all one&&Nat.ble (off+n) c.length)=true) (hc:splice c off v.cells.toList=c') (hl:l.set k (.cells c' e false)=l') :
  az E t (H.n+k) off v (news H l)=some (news H l'):=by
 rw [st hs (aB l H k _ hb) hn hc,rS l H k _ (List.getElem?_eq_some_iff.1 hb).1,hl]
def J4 (n:Nat) (v:Value):Prop:=∀(φ ψ:cS) (u:Value),(∀ i,i<n→ψ i=φ i)→VR ψ v u→VR φ v u
theorem J4.ground {n:Nat} {v:Value} (h:ground v=true):J4 n v:=fun φ ψ u _ hu=>by rw [hu.iP h];exact .hG h
theorem J4.ptr {n i o:Nat} (h:i<n):J4 n (.pointer (some ⟨i,o,none⟩)):=fun φ ψ u he hu=>by
 cases hu with |ptr _ _ l hl=>exact .ptr i o l (by rw [← he i h];exact hl)
theorem J4.slice {n i o k c:Nat} (h:i<n):J4 n (.slice (some ⟨i,o,none⟩) k c):=fun φ ψ u he hu=>by
 generalize hv:(Value.slice (some ⟨i,o,none⟩) k c)=v at hu
 cases hu <;> first
  |(cases hv;done)
  |(injection hv with e1 e2 e3;injection e1 with e1;injection e1 with e4 e5;subst e4;subst e5;subst e2;subst e3
    first
     |exact .Ia _ _ _ _ _ (by rw [← he _ h];assumption) (by assumption)
     |exact .NB _ _ _ _ _ _ (by rw [← he _ h];assumption) (by assumption) (by assumption))
theorem J4.agg {n:Nat} {cs:Array Value} (h:∀ x∈cs.toList,J4 n x):J4 n (.agg cs):=fun φ ψ u he hu=>by
 obtain ⟨ds,rfl,ha⟩:=hu.xX
 exact .agg cs ds ha.1 fun i x y hx hy=>h x (by simpa using Array.mem_of_getElem? hx) φ ψ y he (ha.2 i x y hx hy)
theorem J4.iface {n:Nat} {t:TypeId} {v:Value} (h:J4 n v):J4 n (.iface t v):=fun φ ψ u he hu=>by
 cases hu with |iface _ _ x hx=>exact .iface t v x (h φ ψ x he hx)
def Ih (n:Nat):Option Ob→Prop
 |some (.cells c _ _)=>∀ x∈c,J4 n x
 |some (.map es _)=>∀ x∈es,J4 n x.key∧J4 n x.val
 |_=>True
theorem sS.low {base:Nat} {φ ψ:cS} {w:World} {l:Loc} {o:Ob} {n:Nat} (he:∀ i,i<n→ψ i=φ i) (h:Ih n (some o)) (hb:sS E base ψ w l o):sS E base φ w l o:=by
 cases o with
 |cells c e ro=>
  have key:∀(j:Nat) x y,c[j]?=some x→VR ψ x y→VR φ x y:=fun j x y hx hv=>h x (List.mem_of_getElem? hx) φ ψ y he hv
  cases ro with
  |true=>exact fun j x hx=>let ⟨y,a,b⟩:=hb j x hx;⟨y,a,key j x y hx b⟩
  |false=>
   obtain ⟨cc,lo,hi,a1,a2,a3,a4,a5⟩:=hb
   exact ⟨cc,lo,hi,a1,a2,a3,fun j x hx=>let ⟨y,a,b⟩:=a4 j x hx;⟨y,a,key j x y hx b⟩,a5⟩
 |map es ck=>
  obtain ⟨es',a1,a2,a3,a4⟩:=hb
  exact ⟨es',a1,a2,a3,fun j x y hx hy=>let ⟨p,q,r⟩:=a4 j x y hx hy;⟨(h x (List.mem_of_getElem? hx)).1 φ ψ _ he p,(h x (List.mem_of_getElem? hx)).2 φ ψ _ he q,r⟩⟩
 |dead=>trivial
structure Ext (E:Env) (H H':Hp):Prop where
 n:H.n≤H'.n
 get:∀ i,i<H.n→H'.get i=H.get i
 wf:Wf H'
 ng:E.ng≤H'.n
theorem Ext.refl {H:Hp} (wf:Wf H) (dy:E.ng≤H.n):Ext E H H:=⟨Nat.le_refl _,fun _ _=>rfl,wf,dy⟩
theorem Ext.trans {A B C:Hp} (h:Ext E A B) (k:Ext E B C):Ext E A C:=⟨Nat.le_trans h.n k.n,fun i hi=>(k.get i (Nat.lt_of_lt_of_le hi h.n)).trans (h.get i hi),k.wf,k.ng⟩
abbrev J3:=Hp→Prop
def Ii (E:Env) (K:J3):Prop:=∀ H H',Wf H→Ext E H H'→K H→K H'
theorem Ii.true:Ii E (fun _=>True):=fun _ _ _ _ h=>h
def Pure (E:Env) (K:J3) (g:FuncId) (args:List Value) (v:Value):Prop:=∀ H,Wf H→E.ng≤H.n→K H→∃ H',Ext E H H'∧CC E g args H (.ret v) H' []
def E4 (E:Env) (K:J3) (nt:Nat) (c:Code) (pre:List (Tmp×Value)) (x:Ex) (post:List (Tmp×Value)):Prop:=∀ H,Wf H→E.ng≤H.n→K H→∃ H',Ext E H H'∧CG E nt c (bw pre) H [] x (bw post) H' [] []
def qD (E:Env) (K:J3) (nt:Nat) (c:Code) (pre:List (Tmp×Value)) (x:Ex) (post:List (Tmp×Value)):Prop:=∀ H,Wf H→E.ng≤H.n→K H→∃ n H',Ext E H H'∧Ib E n nt c (bw pre) H [] x (bw post) H' [] []
theorem qD.last {K:J3} {nt:Nat} {c:Code} {pre post:List (Tmp×Value)} {x:Ex} (h:E4 E K nt c pre x post) (hx:x≠.normal):qD E K nt c pre x post:=fun H wf dy hk=>by
 obtain ⟨H',h1,h2⟩:=h H wf dy hk
 exact ⟨1,H',h1,Ib.last h2 hx⟩
theorem qD.next {K:J3} (hK:Ii E K) {nt:Nat} {c:Code} {pre mid post:List (Tmp×Value)} {x:Ex} (h:E4 E K nt c pre .normal mid) (k:qD E K nt c mid x post):qD E K nt c pre x post:=fun H wf dy hk=>by
 obtain ⟨H',h1,h2⟩:=h H wf dy hk
 obtain ⟨n,H2,h3,h4⟩:=k H' h1.wf h1.ng (hK _ _ wf h1 hk)
 exact ⟨n+1,H2,h1.trans h3,Ib.next h2 h4⟩
theorem qD.code {K:J3} {nt:Nat} {c:Code} {pre post:List (Tmp×Value)} {x:Ex} (h:qD E K nt c pre x post):E4 E K nt (.loop c) pre x post:=fun H wf dy hk=>by
 obtain ⟨n,H',h1,h2⟩:=h H wf dy hk
 exact ⟨H',h1,h2.cg⟩
end
structure Gd (E:Env) (G H:Hp):Prop where
 wf:Wf H
 n:G.n≤H.n
 ng:E.ng≤G.n
 get:∀ i,i<G.n→H.get i=G.get i
theorem Gd.Zg {E:Env} {G H:Hp} (y:Gd E G H):E.ng≤H.n:=Nat.le_trans y.ng y.n
theorem Gd.step {E:Env} {G H H':Hp} {V:List Nat} (y:Gd E G H) (x:cR V H H') (wf:Wf H') (hv:∀ q∈V,G.n≤q):Gd E G H':=
 ⟨wf,Nat.le_trans y.n x.n,y.ng,fun i hi=>(x.keep i (Nat.lt_of_lt_of_le hi y.n) fun hm=>by have:=hv i hm;omega).trans (y.get i hi)⟩
theorem Gd.news {E:Env} {G H:Hp} (y:Gd E G H) (l:List Ob):Gd E G (news H l):=
 ⟨y.wf.news l,by rw [bF];have:=y.n;omega,y.ng,fun i hi=>(jB l H i (Nat.lt_of_lt_of_le hi y.n)).trans (y.get i hi)⟩
theorem Gd.set {E:Env} {G H:Hp} (y:Gd E G H) {b:Nat} (o:Ob) (h1:G.n≤b) (h2:b<H.n):Gd E G (H.set b o):=
 ⟨y.wf.set h2 o,y.n,y.ng,fun i hi=>by rw [Hp.ek,if_neg aa];exact y.get i hi⟩
theorem Gd.cell {E:Env} {G H:Hp} (y:Gd E G H) {i:Nat} {o:Ob} (h:G.get i=some o) (hi:i<G.n):H.get i=some o:=(y.get i hi).trans h
def aD (E:Env) (G:Hp) (g:FuncId) (args:List Value) (H:Hp) (V:List Nat) (Q:Value→Hp→Prop):Prop:=
 ∃ v H',CC E g args H (.ret v) H' V∧cR V H H'∧Gd E G H'∧Q v H'
def bt (E:Env) (G:Hp) (nt:Nat) (c:Code) (pre:List (Tmp×Value)) (H:Hp) (V:List Nat) (Q:Ex→Tm→Hp→Prop):Prop:=
 ∃ x T' H',CG E nt c (bw pre) H [] x T' H' [] V∧cR V H H'∧Gd E G H'∧Q x T' H'
def aA (E:Env) (G:Hp) (nt:Nat) (c:Code) (pre:List (Tmp×Value)) (H:Hp) (V:List Nat) (Q:Ex→Tm→Hp→Prop):Prop:=
 ∃ n x T' H',Ib E n nt c (bw pre) H [] x T' H' [] V∧cR V H H'∧Gd E G H'∧Q x T' H'
theorem abj {p q:Prop} (h:p) (k:q):p∧q:=⟨h,k⟩
section
variable {E:Env} {G H H':Hp}
theorem aD.mk {g:FuncId} {args:List Value} {v:Value} {V W:List Nat} {Q:Value→Hp→Prop} (y:Gd E G H) (c:CC E g args H (.ret v) H' W) (hw:∀ q∈W,q∈V∨(H.n≤q∧q<H'.n)) (hv:∀ q∈V,G.n≤q) (hq:Q v H'):aD E G g args H V Q:=by
 have c':=c.norm hw
 obtain ⟨x,wf,_⟩:=c' y.wf y.Zg
 exact ⟨v,H',c',x,y.step x wf hv,hq⟩
theorem bt.mk {nt:Nat} {c:Code} {pre post:List (Tmp×Value)} {x:Ex} {V W:List Nat} {Q:Ex→Tm→Hp→Prop} (y:Gd E G H) (h:CG E nt c (bw pre) H [] x (bw post) H' [] W) (hw:∀ q∈W,q∈V∨(H.n≤q∧q<H'.n)) (hv:∀ q∈V,G.n≤q) (hq:Q x (bw post) H'):bt E G nt c pre H V Q:=by
 have h':=h.post (sU.refl _) hw
 obtain ⟨x,wf,_⟩:=h' y.wf y.Zg
 exact ⟨_,_,H',h',x,y.step x wf hv,hq⟩
theorem aA.next {nt:Nat} {c:Code} {pre mid:List (Tmp×Value)} {V:List Nat} {Q:Ex→Tm→Hp→Prop} {H1:Hp} (h:CG E nt c (bw pre) H [] .normal (bw mid) H1 [] V) (hx:cR V H H1) (k:aA E G nt c mid H1 V Q):aA E G nt c pre H V Q:=by
 obtain ⟨n,x,T,H',h1,h2,h3,h4⟩:=k
 have hn:=hx.n
 have hn':=h2.n
 refine ⟨n+1,x,T,H',(Ib.next h h1).post (sU.refl _) (fun q hq=>.inl ?_),(hx.trans h2).wider (fun q hq=>?_),h3,h4⟩
 ·rcases List.mem_append.1 hq with hq |hq <;> exact hq
 ·rcases List.mem_append.1 hq with hq |hq <;> exact hq
theorem aA.code {nt:Nat} {c:Code} {pre:List (Tmp×Value)} {V:List Nat} {Q:Ex→Tm→Hp→Prop} (h:aA E G nt c pre H V Q):bt E G nt (.loop c) pre H V Q:=by
 obtain ⟨n,x,T,H',h1,h2⟩:=h
 exact ⟨x,T,H',h1.cg,h2⟩
theorem aA.mono {nt:Nat} {c:Code} {pre:List (Tmp×Value)} {V:List Nat} {Q R:Ex→Tm→Hp→Prop} (h:aA E G nt c pre H V Q) (hq:∀ x T H',Q x T H'→R x T H'):aA E G nt c pre H V R:=by
 obtain ⟨n,x,T,H',h1,h2,h3,h4⟩:=h
 exact ⟨n,x,T,H',h1,h2,h3,hq _ _ _ h4⟩
theorem aD.mono {g:FuncId} {args:List Value} {V:List Nat} {Q R:Value→Hp→Prop} (h:aD E G g args H V Q) (hq:∀ v H',Q v H'→R v H'):aD E G g args H V R:=by
 obtain ⟨v,H',h1,h2,h3,h4⟩:=h
 exact ⟨v,H',h1,h2,h3,hq _ _ h4⟩
theorem Gd.old (y:Gd E G H) {b:Nat} {o:Ob} (k:H.get b=some o) (l:List Ob):(Go.Am.news H l).get b=some o:=(jB l H b (y.wf.lt k)).trans k
theorem Gd.kept (y:Gd E G H) {V:List Nat} (x:cR V H H') {b:Nat} {o:Ob} (hb:b∉V) (k:H.get b=some o):H'.get b=some o:=(x.keep b (y.wf.lt k) hb).trans k
theorem aP {K:Hp} {q:Nat} {o:Ob} (e:K=H.set q o):K.get q=some o:=by rw [e,Hp.ek,if_pos rfl]
theorem cZ {K:Hp} {q b:Nat} {o o':Ob} (e:K=H.set q o) (hne:q≠b) (k:H.get b=some o'):K.get b=some o':=by rw [e,Hp.ek,if_neg hne];exact k
theorem aA.next' {nt:Nat} {c:Code} {pre mid:List (Tmp×Value)} {V W:List Nat} {Q:Ex→Tm→Hp→Prop} {H1:Hp} (y:Gd E G H) (h:CG E nt c (bw pre) H [] .normal (bw mid) H1 [] W) (hw:∀ q∈W,q∈V∨(H.n≤q∧q<H1.n)) (k:aA E G nt c mid H1 V Q):aA E G nt c pre H V Q:=by
 have h':=h.post (sU.refl _) hw
 obtain ⟨x,wf,_⟩:=h' y.wf y.Zg
 exact aA.next h' x k
theorem aA.last' {nt:Nat} {c:Code} {pre post:List (Tmp×Value)} {x:Ex} {V W:List Nat} {Q:Ex→Tm→Hp→Prop} (y:Gd E G H) (h:CG E nt c (bw pre) H [] x (bw post) H' [] W) (hx:x≠.normal) (hw:∀ q∈W,q∈V∨(H.n≤q∧q<H'.n)) (hv:∀ q∈V,G.n≤q) (hq:Q x (bw post) H'):aA E G nt c pre H V Q:=by
 have h':=h.post (sU.refl _) hw
 obtain ⟨x',wf,_⟩:=h' y.wf y.Zg
 exact ⟨1,_,_,H',Ib.last h' hx,x',y.step x' wf hv,hq⟩
def iE (v:Value):Prop:=∀(φ ψ:cS) (u:Value),VR φ v u→VR ψ v u
theorem iE.ground {v:Value} (h:ground v=true):iE v:=fun φ ψ u hu=>by rw [hu.iP h];exact .hG h
theorem iE.iface {t:TypeId} {v:Value} (h:iE v):iE (.iface t v):=fun φ ψ u hu=>by
 cases hu with |iface _ _ x hx=>exact .iface t _ x (h φ ψ x hx)
theorem iE.tuple {cs:Array Value} (h:∀ x∈cs.toList,iE x):iE (.tuple cs):=fun φ ψ u hu=>by
 obtain ⟨ds,rfl,ha⟩:=hu.zW
 exact .tuple cs ds ha.1 fun i x y hx hy=>h x (by simpa using Array.mem_of_getElem? hx) φ ψ y (ha.2 i x y hx hy)
def Xr (G:Hp):Prop:=∀ i,i<G.n→Ih G.n (G.get i)
theorem CC.aW {g:FuncId} {args:List Value} {v:Value} {G1:Hp} (low:Xr G) (wfG:Wf G) (dy:E.ng≤G.n) (ha:∀ x∈args,iE x) (hv:iE v) (c:CC E g args G (.ret v) G1 []) (y:Gd E G H):CC E g args H (.ret v) H []:=fun wf _=>by
 obtain ⟨x1,ob,k⟩:=c wfG dy
 have zo:=x1.n
 refine ⟨cR.refl ..,wf,fun base φ w args' cM hf hl=>?_⟩
 let φ0:cS:=fun i=>if i<G.n then φ i else none
 have e0:∀ i,i<G.n→φ0 i=φ i:=fun i hi=>if_pos hi
 have Zp:Rel E base G φ0 w:=by
  refine ⟨cM.bs,fun i l o hi hl ho=>?_,fun i l hi hl hlv=>?_,fun i j l m hi hj hij hl hm hw hv=>?_,fun g hg=>?_⟩
  ·rw [e0 i hi] at hl
   have hb:=cM.blocks i l o (Nat.lt_of_lt_of_le hi y.n) hl (y.cell ho hi)
   have Og:=low i hi
   rw [ho] at Og
   exact hb.low (ψ:=φ) (φ:=φ0) (fun i hi=>(e0 i hi).symm) Og
  ·rw [e0 i hi] at hl
   exact cM.lt i l (Nat.lt_of_lt_of_le hi y.n) hl (by rw [y.get i hi];exact hlv)
  ·rw [e0 i hi] at hl
   rw [e0 j hj] at hm
   exact cM.inj i j l m (Nat.lt_of_lt_of_le hi y.n) (Nat.lt_of_lt_of_le hj y.n) hij hl hm (by rw [y.get i hi];exact hw) (by rw [y.get j hj];exact hv)
  ·obtain ⟨l,h1,h2⟩:=cM.fI g hg
   exact ⟨l,by rw [e0 g aa];exact h1,h2⟩
 have Rg:gM φ0 G.n G1.n:=fun i h1 h2=>if_neg aa
 have Nf:LR φ0 args args':=⟨hl.1,fun i x y hx hy=>ha x (List.mem_of_getElem? hx) φ φ0 y (hl.2 i x y hx hy)⟩
 have post:∀ e w',fz E base φ0 w G G1 [] (.ret v) e w'→fz E base φ w H H [] (.ret v) e w':=by
  rintro e w' ⟨φ1,hO,he⟩
  have hs:=hO.step
  refine ⟨φ,⟨fun _ _=>rfl,⟨Nat.le_trans cM.bs hs.size,fun i l o hi hl ho=>?_,fun i l hi hl hlv=>Nat.lt_of_lt_of_le (cM.lt i l hi hl hlv) hs.size,cM.inj,cM.fI⟩,⟨hs.os,hs.tape,hs.output,hs.size,fun B hB _=>hs.keep B hB fun j hj=>by cases hj⟩,fun i l h1 h2=>by omega⟩,?_⟩
  ·have hb:=cM.blocks i l o hi hl ho
   by_cases hlv:live (H.get i)=true
   ·exact hb.same (hs.keep _ (cM.lt i l hi hl hlv) fun j hj=>by cases hj)
   ·rw [ho] at hlv
    cases o with
    |cells c e ro=>
     cases ro with
     |false=>cases c <;> exact absurd rfl hlv
     |true=>
      cases c with
      |nil=>intro j x hx;simp at hx
      |cons _ _=>exact absurd rfl hlv
    |map es ck=>exact absurd rfl hlv
    |dead=>trivial
  ·obtain ⟨u,h1,h2⟩:=he
   exact ⟨u,h1,hv φ1 φ u h2⟩
 rcases k base φ0 w args' Zp Rg Nf with ⟨he,hc⟩ |⟨v',w',he,KP⟩
 ·exact .inl ⟨he,hc.mono post⟩
 ·exact .inr ⟨v',w',he,post _ _ KP⟩
end
theorem LR.iP {φ:cS}:∀{xs ys:List Value},LR φ xs ys→xs.all ground=true→ys=xs
 |[],ys,h,_=>h.mL
 |x::xs,zs,h,hg=>by
  obtain ⟨y,ys,rfl,h1,h2⟩:=h.cons_inv
  simp only [List.all_cons,Bool.and_eq_true] at hg
  rw [h1.iP hg.1,LR.iP h2 hg.2]
theorem cq {l:List Value} (h:l.all ground=true):∀ x∈l,iE x:=fun x hx=>.ground (List.all_eq_true.1 h x hx)
theorem CC.extern {E:Env} (ok:E.Ok) {g:FuncId} {fn:Func} {args:List Value} {H:Hp} {v:Value} {e:Array Value→Sem Value} (hf:E.func g=some fn) (hn:(fn.name== "runtime.NumGoroutine")=false) (hb:fn.body=none)
  (hx:(Extern.findNext fn).isNone=true) (he:Extern.find fn=some e) (ha:args.all ground=true) (hg:ground v=true) (hv:e args.toArray=pure v):CC E g args H (.ret v) H []:=fun wf dy=>
 ⟨cR.refl ..,wf,fun base φ w args' cM hfr hl=>by
  have:=hl.iP ha
  subst this
  have hx':Extern.findNext fn=none:=by
   cases h:Extern.findNext fn with
   |none=>rfl
   |some x=>rw [h] at hx;cases hx
  refine .inr ⟨v,w,?_,φ,Out.refl [] cM,v,rfl,.hG hg⟩
  unfold callFunc
  rw [ax (run_program w)]
  simp only [ok.func _ _ hf,hn,Bool.false_eq_true,if_false,hb,Option.isNone_none,if_true]
  rw [hx',he]
  show ((mark (.extern g)).bind _).run E.P w=_
  rw [run_bind]
  simp only [mark,Sem.run]
  rw [hv]
  rfl⟩
abbrev iI (x:Int):Value:=.int .i64 x
abbrev uU (x:Int):Value:=.int .u64 x
abbrev uB (x:Int):Value:=.int .u8 x
abbrev pt (b o:Nat):Value:=.pointer (some ⟨b,o,none⟩)
abbrev sc (b o n c:Nat):Value:=.slice (some ⟨b,o,none⟩) n c
abbrev vl (v:Value) (H:Hp):Hint:=.val v H [] []
abbrev au (n:Nat):Hint:=.auto n
theorem tk {p:Prop} (r:p):(true=true)∧p:=⟨rfl,r⟩
theorem sw {p:Prop} (v:Value) (r:p):(some v=some v)∧p:=⟨rfl,r⟩
theorem kn {p q:Prop} (h:p) (k:q):p∧q:=⟨h,k⟩
def HC (E:Env) (T:Tm) (H:Hp):List ResultVar→List Value→Option (List Prop)
 |[],[]=>some []
 |.tmp t::rs,v::vs=>match HC E T H rs vs with
  |some ps=>some ((T.get t=some v)::ps)
  |none=>none
 |.cell a t::rs,v::vs=>match T.get a with
  |some (.pointer (some ⟨b,off,none⟩))=>match HC E T H rs vs with
   |some ps=>some ((aq E t b off H=some v)::ps)
   |none=>none
  |_=>none
 |_,_=>none
theorem HD {E:Env} {T:Tm} {H:Hp}:∀{rs:List ResultVar} {vs:List Value} {ps:List Prop},HC E T H rs vs=some ps→jU ps→ES E ⟨T,H,[],[]⟩ rs=some vs
 |[],[],_,_,_=>rfl
 |[],_::_,ps,h,_=>by simp [HC] at h
 |.tmp t::rs,[],ps,h,_=>by simp [HC] at h
 |.cell a t::rs,[],ps,h,_=>by simp [HC] at h
 |.tmp t::rs,v::vs,ps,h,hp=>by
  simp only [HC] at h
  split at h
  ·rename_i qs hq
   injection h with h;subst h
   simp only [ES,hp.1,HD hq hp.2]
  ·cases h
 |.cell a t::rs,v::vs,ps,h,hp=>by
  simp only [HC] at h
  split at h
  ·rename_i b off ha
   split at h
   ·rename_i qs hq
    injection h with h;subst h
    simp only [ES,ha,hp.1,HD hq hp.2]
   ·cases h
  ·cases h
def aci:List Value→Value
 |[v]=>v
 |vs=>.tuple vs.toArray
def Xj (E:Env) (fn:Func) (f:Nat) (args:List Value) (H:Hp) (vs:List Value) (hs:List Hint):Option (List Prop×Value×Hp×List Nat):=
 match xI E fn.ntmps f (bH fn) (EX args 0 .nil) H [] hs with
 |some (Ps,x,T',H',[],W,[])=>match (match x with |.ret=>true |.normal=>true |_=>false) with
  |true=>match HC E T' H' fn.results.toList vs with
   |some Qs=>some (Ps++Qs,aci vs,H',W)
   |none=>none
  |false=>none
 |_=>none
theorem CC.de {E:Env} (ok:E.Ok) {P:Prop} {g f:Nat} {fn:Func} {args vs:List Value} {H H':Hp} {hs:List Hint} {v:Value} {W:List Nat} (hf:E.func g=some fn)
  (hn:(fn.body.isSome&&Nat.ble args.length fn.ntmps&&!(fn.name== "runtime.NumGoroutine"))=true) (hp:P) (h:(Xj E fn f args H vs hs).map (fun r=>(jU r.1,r.2))=some (P,v,H',W)):CC E g args H (.ret v) H' W:=by
 obtain ⟨⟨Ps,r⟩,h1,h2⟩:=Option.map_eq_some_iff.1 h
 injection h2 with h2 h3
 subst h3
 have hp:jU Ps:=h2▸hp
 simp only [Bool.and_eq_true,Bool.not_eq_true'] at hn
 obtain ⟨⟨hb,hle⟩,hname⟩:=hn
 obtain ⟨c,hc⟩:=Option.isSome_iff_exists.1 hb
 have hbc:bH fn=c:=by unfold bH;rw [hc]
 unfold Xj at h1
 split at h1
 ·rename_i WE x1 T1 H1 W1 hr
  rw [hbc] at hr
  split at h1
  ·rename_i hx
   have hx:x1=.normal∨x1=.ret:=by
    cases x1 <;> first
     |exact .inl rfl
     |exact .inr rfl
     |cases hx
   split at h1
   ·rename_i Qs hq
    simp only [Option.some.injEq,Prod.mk.injEq] at h1
    obtain ⟨rfl,rfl,rfl,rfl⟩:=h1
    rw [dL] at hp
    refine CC.Hu ok hf hname hc hle hx (g9 ok f _ _ _ _ _ _ _ _ _ _ _ _ hr hp.1) ?_
    have:=HD hq hp.2
    unfold HB
    rw [this]
    match vs with
    |[]=>rfl
    |[v]=>rfl
    |_::_::_=>rfl
   ·cases h1
  ·cases h1
 ·cases h1
theorem iE.func0 (f:FuncId):iE (.func (.func f) #[] #[]):=fun φ ψ u hu=>by
 obtain ⟨g,fs,cs,e,rfl,h1,h2⟩:=hu.BW
 injection e with e
 subst e
 exact .func f #[] fs #[] cs h1.1 (fun i x y hx=>by simp at hx) h2.1 (fun i x y hx=>by simp at hx)
theorem kW {E:Env} {G H H':Hp} (y:Gd E G H) {b:Nat} {c:List Value} {e:TypeId} (k:H.get b=some (.cells c e false)):bC H H' [b]=true:=by
 have h:=y.wf.lt k
 have e1:Nat.blt b H.n=true:=by simpa [Nat.blt_eq] using h
 simp only [bC,List.all_cons,List.all_nil,e1,cond_true,k,dA,Bool.and_true]
end Go.Am
namespace Go.Proofs.YtglmagcldkngbaaGreatDoor
open Go Go.Am
def WL (P:Program) (n:Nat):Env:={ P:=P,info:=fun t=>P.info? t,func:=fun f=>P.funcs[f]?,ng:=n,OM:=fun _=>none,IJ:=fun _=>none }
theorem Qn (P:Program) (n:Nat):(WL P n).Ok:=⟨fun _ _ h=>h,fun _ _ h=>h⟩
noncomputable def E:Env:=WL Tryz.prog 23
theorem ok:E.Ok:=Qn _ _
theorem aM {p:Nat→Prop}:∀ q∈([]:List Nat),p q:=fun _ h=>absurd h List.not_mem_nil
theorem Iu {a b:Int} (h:(a != b)=true):a≠b:=by simpa using h
theorem Bz {a b:Int} (h:(a != b)=false):a=b:=by simpa using h
theorem eU {x:Int} (h0:-9223372036854775808≤x) (h1:x<9223372036854775808):IntKind.i64.wrap x=x:=by
 unfold IntKind.wrap
 simp only [IntKind.bits,IntKind.signed,Bool.true_and]
 split <;> (rename_i h;simp only [ge_iff_le,decide_eq_true_eq] at h;omega)
theorem ah {p:Prop} (h:p:=by kernel_rfl):p:=h
theorem aC (e:Int) (h0:-9223372036854775808≤e:=by omega) (h1:e<9223372036854775808:=by omega):(iI (IntKind.i64.wrap e):Value)=iI e:=by rw [eU h0 h1]
theorem Wx {p:Prop} (h:p:=by rw [eU (by omega) (by omega)]):p:=h
theorem aG {p:Prop} (h:p:=by intro q hq;simp only [List.mem_cons,List.not_mem_nil,or_false,false_or,bF,List.length_cons,List.length_nil] at hq ⊢;omega):p:=h
theorem aJ {p:Prop} (h:p:=by intro q hq;simp only [List.mem_cons,List.not_mem_nil,or_false] at hq;omega):p:=h
theorem aV {p:Prop} (h:p:=by first |omega |(simp only [bF,List.length_cons,List.length_nil];omega)):p:=h
theorem cu {p:Prop} (h:p:=by simp only [List.mem_cons,List.not_mem_nil,or_false];omega):p:=h
theorem aj {p:Prop} (h:p:=by simp):p:=h
abbrev ai (n:Nat):Value:=.func (.func n) #[] #[]
def ZF:List (Tmp×Value)→Prop
 |[]=>True
 |(_,v)::l=>(some v=some v)∧ZF l
theorem ab8:∀ l:List (Tmp×Value),ZF l
 |[]=>trivial
 |(_,_)::l=>⟨rfl,ab8 l⟩
abbrev bO (f:Func) (n:Nat):Bool:=(f.body.isSome&&Nat.ble n f.ntmps&&!(f.name== "runtime.NumGoroutine"))
theorem aS:True:=trivial
theorem ag:true=true:=rfl
abbrev aI:Hint:=.dec true
abbrev aF:Hint:=.dec false
theorem cF {p0 q:Prop} (h0:p0) (r:q):p0∧q:=⟨h0,r⟩
theorem cU {p0 p1 q:Prop} (h0:p0) (h1:p1) (r:q):p0∧p1∧q:=⟨h0,h1,r⟩
theorem eY {p0 p1 p2 q:Prop} (h0:p0) (h1:p1) (h2:p2) (r:q):p0∧p1∧p2∧q:=⟨h0,h1,h2,r⟩
theorem gm {p0 p1 p2 p3 q:Prop} (h0:p0) (h1:p1) (h2:p2) (h3:p3) (r:q):p0∧p1∧p2∧p3∧q:=⟨h0,h1,h2,h3,r⟩
theorem eM {p0 p1 p2 p3 p4 q:Prop} (h0:p0) (h1:p1) (h2:p2) (h3:p3) (h4:p4) (r:q):p0∧p1∧p2∧p3∧p4∧q:=⟨h0,h1,h2,h3,h4,r⟩
theorem fG {p0 p1 p2 p3 p4 p5 q:Prop} (h0:p0) (h1:p1) (h2:p2) (h3:p3) (h4:p4) (h5:p5) (r:q):p0∧p1∧p2∧p3∧p4∧p5∧q:=⟨h0,h1,h2,h3,h4,h5,r⟩
theorem fk {p0 p1 p2 p3 p4 p5 p6 q:Prop} (h0:p0) (h1:p1) (h2:p2) (h3:p3) (h4:p4) (h5:p5) (h6:p6) (r:q):p0∧p1∧p2∧p3∧p4∧p5∧p6∧q:=⟨h0,h1,h2,h3,h4,h5,h6,r⟩
theorem aE {p0 p1 p2 p3 p4 p5 p6 p7 q:Prop} (h0:p0) (h1:p1) (h2:p2) (h3:p3) (h4:p4) (h5:p5) (h6:p6) (h7:p7) (r:q):p0∧p1∧p2∧p3∧p4∧p5∧p6∧p7∧q:=⟨h0,h1,h2,h3,h4,h5,h6,h7,r⟩
abbrev aH:=@List.not_mem_nil
abbrev aQ:=@of_decide_eq_false
abbrev aL:=@of_decide_eq_true
abbrev bK:=@ne_of_beq_false
abbrev bW:=@eq_of_beq
abbrev bZ:=@List.getElem?_eq_getElem
abbrev dm:=@Nat.le_of_ble_eq_true
theorem dj {g:FuncId} {fn:Func} {args:List Value} {H:Hp} (hs:List Hint) (v:Value) (H':Hp) (W:List Nat) (hf:E.func g=some fn) (hn:(fn.body.isSome&&Nat.ble args.length fn.ntmps&&!(fn.name== "runtime.NumGoroutine"))=true) {P:Prop} (hp:P) (h:(SQ E fn 300 args H none hs).map (fun r=>(jU r.1,r.2))=some (P,v,H',W):=by kernel_rfl):CC E g args H (.ret v) H' W:=CC.hH ok hf hn hp h
theorem bA {G:Hp} {Q:Value→Hp→Prop} {g:FuncId} {fn:Func} {args:List Value} {H:Hp} (y:Gd E G H) (hs:List Hint) (v:Value) (H':Hp) (hf:E.func g=some fn) (hn:(fn.body.isSome&&Nat.ble args.length fn.ntmps&&!(fn.name== "runtime.NumGoroutine"))=true) {P:Prop} (hp:P) (q:Q v H') (h:(SQ E fn 300 args H none hs).map (fun r=>(jU r.1,r.2))=some (P,v,H',[]):=by kernel_rfl):aD E G g args H [] Q:=aD.mk y (dj hs v H' [] hf hn hp h) aM aM q
theorem bf {nt:Nat} {c:Code} {pre:List (Tmp×Value)} {H:Hp} (hs:List Hint) (post:List (Tmp×Value)) (x:Ex) (H':Hp) (W:List Nat) {P:Prop→Prop} (hp:∀ q:Prop,q→P q) (h:(O4 E nt 300 c pre post H hs).map (fun r=>(jU r.1,r.2))=some (P (ZF post),x,H',W):=by kernel_rfl):CG E nt c (bw pre) H [] x (bw post) H' [] W:=CG.nw ok (hp _ (ab8 _)) h
theorem sI {s:ByteArray} (h:(s.toList==(⟨#[]⟩:ByteArray).toList)=true):s.size=0:=by
 have e:=congrArg List.length (eq_of_beq h)
 rw [ByteArray.toList_eq,ByteArray.toList_eq] at e
 simpa using e
theorem lG {s:ByteArray} (h:(s.toList==(⟨#[]⟩:ByteArray).toList)=false):0<s.size:=by
 rcases Nat.eq_zero_or_pos s.size with h0 |h0
 ·exfalso
  have:s.toList=(⟨#[]⟩:ByteArray).toList:=by
   rw [ByteArray.toList_eq,ByteArray.toList_eq]
   exact List.eq_nil_of_length_eq_zero (by simpa using h0)
  rw [this] at h
  simp at h
 ·exact h0
theorem iN:E.agg 104=some false:=ah
theorem cQ:E.agg 112=some true:=ah
theorem qG:E.agg 126=some true:=ah
theorem jx:E.agg 128=some false:=ah
theorem iO:E.agg 135=some true:=ah
theorem uG:E.agg 162=some false:=ah
theorem NQ:E.agg 221=some true:=ah
theorem E6:E.agg 224=some true:=ah
theorem qH:E.agg 22=some false:=ah
theorem oo:E.agg 23=some false:=ah
theorem tj:E.agg 24=some false:=ah
theorem di:E.agg 25=some false:=ah
theorem bL:E.agg 27=some true:=ah
theorem jy:E.agg 2=some false:=ah
theorem kN:E.agg 306=some false:=ah
theorem Ij:E.agg 31=some false:=ah
theorem NR:E.agg 322=some false:=ah
theorem aR:E.agg 3=some false:=ah
theorem Ik:E.agg 40=some true:=ah
theorem tn:E.agg 44=some false:=ah
theorem kY:E.agg 4=some false:=ah
theorem cG:E.agg 5=some false:=ah
theorem jj:E.agg 68=some true:=ah
theorem dN:E.agg 69=some false:=ah
theorem fW:E.agg 91=some false:=ah
theorem bB:E.agg 9=some false:=ah
theorem aX:E.size 112=some 3:=ah
theorem iT:E.size 126=some 2:=ah
theorem O5:E.size 128=some 1:=ah
theorem fS:E.size 135=some 2:=ah
theorem fo:E.size 220=some 2:=ah
theorem O6:E.size 221=some 14:=ah
theorem eB:E.size 224=some 2:=ah
theorem Ed:E.size 22=some 1:=ah
theorem SS:E.size 23=some 1:=ah
theorem FU:E.size 240=some 256:=ah
theorem JN:E.size 24=some 1:=ah
theorem yR:E.size 25=some 1:=ah
theorem aK:E.size 27=some 13:=ah
theorem HJ:E.size 2=some 1:=ah
theorem bY:E.size 3=some 1:=ah
theorem gJ:E.size 40=some 3:=ah
theorem qX:E.size 48=some 2:=ah
theorem jS:E.size 4=some 1:=ah
theorem eg:E.size 5=some 1:=ah
theorem ct:E.size 68=some 13:=ah
theorem dx:E.size 70=some 7:=ah
theorem mP:E.size 9=some 1:=ah
theorem vc:E.ul 279=some (.array 800 5):=ah
theorem S0:E.ul 5=some (.int .u8):=ah
theorem LM:E.ul 122=some (.slice 126):=ah
theorem ez:E.ul 192=some (.slice 5):=ah
theorem gE:E.ul 23=some (.slice 40):=ah
theorem ve:E.ul 24=some (.slice 9):=ah
theorem bD:E.ul 25=some (.slice 27):=ah
theorem oh:E.ul 44=some (.slice 3):=ah
theorem S1:E.ul 9=some .string:=ah
theorem L7:E.zero 126=some (.agg #[.string ⟨#[]⟩,.string ⟨#[]⟩]):=ah
def Gl:List Ob:=[
 .cells [.iface 78 (.agg #[.pointer (some ⟨22,31,none⟩)])] 60 true,
 .cells [] 4 true,
 .cells [.int .u8 0,.int .u8 0,.int .u8 0,.int .u8 0,.int .u8 0,.int .u8 0,.int .u8 0,.int .u8 0,.int .u8 0,.int .u8 1,.int .u8 1,.int .u8 1,.int .u8 1,.int .u8 1,.int .u8 0,.int .u8 0,.int .u8 0,.int .u8 0,.int .u8 0,.int .u8 0,.int .u8 0,.int .u8 0,.int .u8 0,.int .u8 0,.int .u8 0,.int .u8 0,.int .u8 0,.int .u8 0,.int .u8 0,.int .u8 0,.int .u8 0,.int .u8 0,.int .u8 1,.int .u8 0,.int .u8 0,.int .u8 0,.int .u8 0,.int .u8 0,.int .u8 0,.int .u8 0,.int .u8 0,.int .u8 0,.int .u8 0,.int .u8 0,.int .u8 0,.int .u8 0,.int .u8 0,.int .u8 0,.int .u8 0,.int .u8 0,.int .u8 0,.int .u8 0,.int .u8 0,.int .u8 0,.int .u8 0,.int .u8 0,.int .u8 0,.int .u8 0,.int .u8 0,.int .u8 0,.int .u8 0,.int .u8 0,.int .u8 0,.int .u8 0,.int .u8 0,.int .u8 0,.int .u8 0,.int .u8 0,.int .u8 0,.int .u8 0,.int .u8 0,.int .u8 0,.int .u8 0,.int .u8 0,.int .u8 0,.int .u8 0,.int .u8 0,.int .u8 0,.int .u8 0,.int .u8 0,.int .u8 0,.int .u8 0,.int .u8 0,.int .u8 0,.int .u8 0,.int .u8 0,.int .u8 0,.int .u8 0,.int .u8 0,.int .u8 0,.int .u8 0,.int .u8 0,.int .u8 0,.int .u8 0,.int .u8 0,.int .u8 0,.int .u8 0,.int .u8 0,.int .u8 0,.int .u8 0,.int .u8 0,.int .u8 0,.int .u8 0,.int .u8 0,.int .u8 0,.int .u8 0,.int .u8 0,.int .u8 0,.int .u8 0,.int .u8 0,.int .u8 0,.int .u8 0,.int .u8 0,.int .u8 0,.int .u8 0,.int .u8 0,.int .u8 0,.int .u8 0,.int .u8 0,.int .u8 0,.int .u8 0,.int .u8 0,.int .u8 0,.int .u8 0,.int .u8 0,.int .u8 0,.int .u8 0,.int .u8 0,.int .u8 0,.int .u8 0,.int .u8 0,.int .u8 0,.int .u8 0,.int .u8 0,.int .u8 0,.int .u8 0,.int .u8 0,.int .u8 0,.int .u8 0,.int .u8 0,.int .u8 0,.int .u8 0,.int .u8 0,.int .u8 0,.int .u8 0,.int .u8 0,.int .u8 0,.int .u8 0,.int .u8 0,.int .u8 0,.int .u8 0,.int .u8 0,.int .u8 0,.int .u8 0,.int .u8 0,.int .u8 0,.int .u8 0,.int .u8 0,.int .u8 0,.int .u8 0,.int .u8 0,.int .u8 0,.int .u8 0,.int .u8 0,.int .u8 0,.int .u8 0,.int .u8 0,.int .u8 0,.int .u8 0,.int .u8 0,.int .u8 0,.int .u8 0,.int .u8 0,.int .u8 0,.int .u8 0,.int .u8 0,.int .u8 0,.int .u8 0,.int .u8 0,.int .u8 0,.int .u8 0,.int .u8 0,.int .u8 0,.int .u8 0,.int .u8 0,.int .u8 0,.int .u8 0,.int .u8 0,.int .u8 0,.int .u8 0,.int .u8 0,.int .u8 0,.int .u8 0,.int .u8 0,.int .u8 0,.int .u8 0,.int .u8 0,.int .u8 0,.int .u8 0,.int .u8 0,.int .u8 0,.int .u8 0,.int .u8 0,.int .u8 0,.int .u8 0,.int .u8 0,.int .u8 0,.int .u8 0,.int .u8 0,.int .u8 0,.int .u8 0,.int .u8 0,.int .u8 0,.int .u8 0,.int .u8 0,.int .u8 0,.int .u8 0,.int .u8 0,.int .u8 0,.int .u8 0,.int .u8 0,.int .u8 0,.int .u8 0,.int .u8 0,.int .u8 0,.int .u8 0,.int .u8 0,.int .u8 0,.int .u8 0,.int .u8 0,.int .u8 0,.int .u8 0,.int .u8 0,.int .u8 0,.int .u8 0,.int .u8 0,.int .u8 0,.int .u8 0,.int .u8 0,.int .u8 0,.int .u8 0,.int .u8 0,.int .u8 0,.int .u8 0,.int .u8 0,.int .u8 0,.int .u8 0,.int .u8 0,.int .u8 0,.int .u8 0,.int .u8 0,.int .u8 0,.int .u8 0,.int .u8 0,.int .u8 0,.int .u8 0] 131 true,
 .cells [.pointer (some ⟨30,0,none⟩)] 159 true,
 .cells [.string ⟨#[121]⟩,.int .i64 31536000000,.string ⟨#[119]⟩,.int .i64 604800000,.string ⟨#[100]⟩,.int .i64 86400000,.string ⟨#[104]⟩,.int .i64 3600000,.string ⟨#[109]⟩,.int .i64 60000,.string ⟨#[115]⟩,.int .i64 1000,.string ⟨#[109,115]⟩,.int .i64 1] 221 true,
 .cells (Go.Pinned.utf8FirstZ.map fun (n:Nat)=>.int .u8 n) 131 true,
 .cells [.int .u8 128,.int .u8 191,.int .u8 160,.int .u8 191,.int .u8 128,.int .u8 159,.int .u8 144,.int .u8 191,.int .u8 128,.int .u8 143,.int .u8 0,.int .u8 0,.int .u8 0,.int .u8 0,.int .u8 0,.int .u8 0,.int .u8 0,.int .u8 0,.int .u8 0,.int .u8 0,.int .u8 0,.int .u8 0,.int .u8 0,.int .u8 0,.int .u8 0,.int .u8 0,.int .u8 0,.int .u8 0,.int .u8 0,.int .u8 0,.int .u8 0,.int .u8 0] 225 true,
 .cells [] 3 true,
 .cells [.iface 289 (.pointer (some ⟨24,0,none⟩))] 31 true,
 .cells [.iface 289 (.pointer (some ⟨25,0,none⟩))] 31 true,
 .cells [.int .u64 23,.int .u64 8,.int .i64 (-127)] 272 true,
 .cells [.bool true] 4 true,
 .cells [.int .u64 52,.int .u64 11,.int .i64 (-1023)] 272 true,
 .cells [.slice (some ⟨28,0,none⟩) 11 23] 294 true,
 .cells [.slice (some ⟨26,0,none⟩) 9 19] 44 true,
 .cells [.slice (some ⟨27,0,none⟩) 23 47] 306 true,
 .cells (Go.Pinned.pow10Rows.flatMap fun x=>[.int .u64 x.1,.int .u64 x.2]) 311 true,
 .cells [.slice (some ⟨29,0,none⟩) 61 123] 322 true,
 .cells [.int .u64 1,.int .u64 10,.int .u64 100,.int .u64 1000,.int .u64 10000,.int .u64 100000,.int .u64 1000000,.int .u64 10000000,.int .u64 100000000,.int .u64 1000000000,.int .u64 10000000000,.int .u64 100000000000,.int .u64 1000000000000,.int .u64 10000000000000,.int .u64 100000000000000,.int .u64 1000000000000000,.int .u64 10000000000000000,.int .u64 100000000000000000,.int .u64 1000000000000000000,.int .u64 10000000000000000000] 325 true,
 .cells [.int .u8 0,.int .u8 1,.int .u8 28,.int .u8 2,.int .u8 29,.int .u8 14,.int .u8 24,.int .u8 3,.int .u8 30,.int .u8 22,.int .u8 20,.int .u8 15,.int .u8 25,.int .u8 17,.int .u8 4,.int .u8 8,.int .u8 31,.int .u8 27,.int .u8 13,.int .u8 23,.int .u8 21,.int .u8 19,.int .u8 16,.int .u8 7,.int .u8 26,.int .u8 12,.int .u8 18,.int .u8 6,.int .u8 11,.int .u8 5,.int .u8 10,.int .u8 9] 328 true,
 .cells [.int .u8 0,.int .u8 1,.int .u8 56,.int .u8 2,.int .u8 57,.int .u8 49,.int .u8 28,.int .u8 3,.int .u8 61,.int .u8 58,.int .u8 42,.int .u8 50,.int .u8 38,.int .u8 29,.int .u8 17,.int .u8 4,.int .u8 62,.int .u8 47,.int .u8 59,.int .u8 36,.int .u8 45,.int .u8 43,.int .u8 51,.int .u8 22,.int .u8 53,.int .u8 39,.int .u8 33,.int .u8 30,.int .u8 24,.int .u8 18,.int .u8 12,.int .u8 5,.int .u8 63,.int .u8 55,.int .u8 48,.int .u8 27,.int .u8 60,.int .u8 41,.int .u8 37,.int .u8 16,.int .u8 46,.int .u8 35,.int .u8 44,.int .u8 21,.int .u8 52,.int .u8 32,.int .u8 23,.int .u8 11,.int .u8 54,.int .u8 26,.int .u8 40,.int .u8 15,.int .u8 34,.int .u8 20,.int .u8 31,.int .u8 10,.int .u8 25,.int .u8 14,.int .u8 19,.int .u8 9,.int .u8 13,.int .u8 8,.int .u8 7,.int .u8 6] 329 true,
 .cells [] 159 true,
 .cells [] 0 true,
 .cells [.int .u16 9,.int .u16 13,.int .u16 1,.int .u16 32,.int .u16 133,.int .u16 101,.int .u16 160,.int .u16 5760,.int .u16 5600,.int .u16 8192,.int .u16 8202,.int .u16 1,.int .u16 8232,.int .u16 8233,.int .u16 1,.int .u16 8239,.int .u16 8287,.int .u16 48,.int .u16 12288,.int .u16 12288,.int .u16 1] 183 true,
 .cells [.string ⟨#[105,110,118,97,108,105,100,32,115,121,110,116,97,120]⟩] 291 true,
 .cells [.string ⟨#[118,97,108,117,101,32,111,117,116,32,111,102,32,114,97,110,103,101]⟩] 291 true,
 .cells [.int .i64 1,.int .i64 3,.int .i64 6,.int .i64 9,.int .i64 13,.int .i64 16,.int .i64 19,.int .i64 23,.int .i64 26] 3 true,
 .cells [.float .f64 4607182418800017408,.float .f64 4621819117588971520,.float .f64 4636737291354636288,.float .f64 4652007308841189376,.float .f64 4666723172467343360,.float .f64 4681608360884174848,.float .f64 4696837146684686336,.float .f64 4711630319722168320,.float .f64 4726483295884279808,.float .f64 4741671816366391296,.float .f64 4756540486875873280,.float .f64 4771362005757984768,.float .f64 4786511204640096256,.float .f64 4801453603149578240,.float .f64 4816244402031689728,.float .f64 4831355200913801216,.float .f64 4846369599423283200,.float .f64 4861130398305394688,.float .f64 4876203697187506176,.float .f64 4891288408196988160,.float .f64 4906019910204099648,.float .f64 4921056587992461136,.float .f64 4936209963552724370] 104 true,
 .cells [.float .f32 1065353216,.float .f32 1092616192,.float .f32 1120403456,.float .f32 1148846080,.float .f32 1176256512,.float .f32 1203982336,.float .f32 1232348160,.float .f32 1259902592,.float .f32 1287568416,.float .f32 1315859240,.float .f32 1343554297] 255 true,
 .cells (Go.Pinned.cheatRows.flatMap fun x=>[.int .i64 x.1,.string ⟨x.2.toArray⟩]) 321 true,
 .cells [.slice (some ⟨23,0,none⟩) 7 15,.slice none 0 0,.int .i64 2] 180 true]
def G:Hp:=news ⟨0,.nil⟩ Gl
theorem vR:G.n=31:=by rw [G,bF];rfl
theorem NO:Wf G:=Wf.news (fun i _=>rfl) Gl
theorem NM:E.ng≤G.n:=by rw [vR];show 23≤31;omega
theorem nL (k:Nat) {o:Ob} (h:Gl[k]?=some o):G.get k=some o:=by
 have:=aB Gl ⟨0,.nil⟩ k o h
 rwa [show (Hp.mk 0 (Tr.nil:Tr Ob)).n+k=k by show 0+k=k;omega] at this
theorem G_4 {H:Hp} (y:Gd E G H):H.get 4=some (.cells [.string ⟨#[121]⟩,.int .i64 31536000000,.string ⟨#[119]⟩,.int .i64 604800000,.string ⟨#[100]⟩,.int .i64 86400000,.string ⟨#[104]⟩,.int .i64 3600000,.string ⟨#[109]⟩,.int .i64 60000,.string ⟨#[115]⟩,.int .i64 1000,.string ⟨#[109,115]⟩,.int .i64 1] 221 true):=y.cell (nL 4 rfl) (by rw [vR];omega)
theorem G_5 {H:Hp} (y:Gd E G H):H.get 5=some (.cells (Go.Pinned.utf8FirstZ.map fun (n:Nat)=>.int .u8 n) 131 true):=y.cell (nL 5 rfl) (by rw [vR];omega)
theorem G_6 {H:Hp} (y:Gd E G H):H.get 6=some (.cells [.int .u8 128,.int .u8 191,.int .u8 160,.int .u8 191,.int .u8 128,.int .u8 159,.int .u8 144,.int .u8 191,.int .u8 128,.int .u8 143,.int .u8 0,.int .u8 0,.int .u8 0,.int .u8 0,.int .u8 0,.int .u8 0,.int .u8 0,.int .u8 0,.int .u8 0,.int .u8 0,.int .u8 0,.int .u8 0,.int .u8 0,.int .u8 0,.int .u8 0,.int .u8 0,.int .u8 0,.int .u8 0,.int .u8 0,.int .u8 0,.int .u8 0,.int .u8 0] 225 true):=y.cell (nL 6 rfl) (by rw [vR];omega)
theorem G_8 {H:Hp} (y:Gd E G H):H.get 8=some (.cells [.iface 289 (.pointer (some ⟨24,0,none⟩))] 31 true):=y.cell (nL 8 rfl) (by rw [vR];omega)
theorem G_9 {H:Hp} (y:Gd E G H):H.get 9=some (.cells [.iface 289 (.pointer (some ⟨25,0,none⟩))] 31 true):=y.cell (nL 9 rfl) (by rw [vR];omega)
theorem ac3 {H:Hp} (y:Gd E G H):H.get 11=some (.cells [.bool true] 4 true):=y.cell (nL 11 rfl) (by rw [vR];omega)
theorem xW {H:Hp} (y:Gd E G H):H.get 12=some (.cells [.int .u64 52,.int .u64 11,.int .i64 (-1023)] 272 true):=y.cell (nL 12 rfl) (by rw [vR];omega)
theorem Xs {H:Hp} (y:Gd E G H):H.get 14=some (.cells [.slice (some ⟨26,0,none⟩) 9 19] 44 true):=y.cell (nL 14 rfl) (by rw [vR];omega)
theorem Ig {H:Hp} (y:Gd E G H):H.get 15=some (.cells [.slice (some ⟨27,0,none⟩) 23 47] 306 true):=y.cell (nL 15 rfl) (by rw [vR];omega)
theorem aag {H:Hp} (y:Gd E G H):H.get 16=some (.cells (Go.Pinned.pow10Rows.flatMap fun x=>[.int .u64 x.1,.int .u64 x.2]) 311 true):=y.cell (nL 16 rfl) (by rw [vR];omega)
theorem ac4 {H:Hp} (y:Gd E G H):H.get 17=some (.cells [.slice (some ⟨29,0,none⟩) 61 123] 322 true):=y.cell (nL 17 rfl) (by rw [vR];omega)
theorem Xt {H:Hp} (y:Gd E G H):H.get 26=some (.cells [.int .i64 1,.int .i64 3,.int .i64 6,.int .i64 9,.int .i64 13,.int .i64 16,.int .i64 19,.int .i64 23,.int .i64 26] 3 true):=y.cell (nL 26 rfl) (by rw [vR];omega)
theorem ED {H:Hp} (y:Gd E G H):H.get 27=some (.cells [.float .f64 4607182418800017408,.float .f64 4621819117588971520,.float .f64 4636737291354636288,.float .f64 4652007308841189376,.float .f64 4666723172467343360,.float .f64 4681608360884174848,.float .f64 4696837146684686336,.float .f64 4711630319722168320,.float .f64 4726483295884279808,.float .f64 4741671816366391296,.float .f64 4756540486875873280,.float .f64 4771362005757984768,.float .f64 4786511204640096256,.float .f64 4801453603149578240,.float .f64 4816244402031689728,.float .f64 4831355200913801216,.float .f64 4846369599423283200,.float .f64 4861130398305394688,.float .f64 4876203697187506176,.float .f64 4891288408196988160,.float .f64 4906019910204099648,.float .f64 4921056587992461136,.float .f64 4936209963552724370] 104 true):=y.cell (nL 27 rfl) (by rw [vR];omega)
theorem aah {H:Hp} (y:Gd E G H):H.get 29=some (.cells (Go.Pinned.cheatRows.flatMap fun x=>[.int .i64 x.1,.string ⟨x.2.toArray⟩]) 321 true):=y.cell (nL 29 rfl) (by rw [vR];omega)
theorem WD:Xr G:=by
 intro i hi
 rw [vR] at hi
 have key:∀ k o,Gl[k]?=some o→Ih 31 (some o)→Ih G.n (G.get k):=fun k o h hl=>by rw [nL k h,vR];exact hl
 have gr:∀(c:List Value) e ro,c.all ground=true→Ih 31 (some (.cells c e ro)):=fun c e ro h x hx=>.ground (List.all_eq_true.1 h x hx)
 match i,hi with
 |0,_=>exact key 0 _ rfl (fun x hx=>by simp only [List.mem_singleton] at hx;subst hx;exact .iface (.agg fun x hx=>by simp only [List.mem_singleton] at hx;subst hx;exact .ptr aa))
 |1,_=>exact key 1 _ rfl (gr _ _ _ ah)
 |2,_=>exact key 2 _ rfl (gr _ _ _ ah)
 |3,_=>exact key 3 _ rfl (fun x hx=>by simp only [List.mem_singleton] at hx;subst hx;exact .ptr aa)
 |4,_=>exact key 4 _ rfl (gr _ _ _ ah)
 |5,_=>exact key 5 _ rfl (gr _ _ _ ah)
 |6,_=>exact key 6 _ rfl (gr _ _ _ ah)
 |7,_=>exact key 7 _ rfl (gr _ _ _ ah)
 |8,_=>exact key 8 _ rfl (fun x hx=>by simp only [List.mem_singleton] at hx;subst hx;exact .iface (.ptr aa))
 |9,_=>exact key 9 _ rfl (fun x hx=>by simp only [List.mem_singleton] at hx;subst hx;exact .iface (.ptr aa))
 |10,_=>exact key 10 _ rfl (gr _ _ _ ah)
 |11,_=>exact key 11 _ rfl (gr _ _ _ ah)
 |12,_=>exact key 12 _ rfl (gr _ _ _ ah)
 |13,_=>exact key 13 _ rfl (fun x hx=>by simp only [List.mem_singleton] at hx;subst hx;exact .slice aa)
 |14,_=>exact key 14 _ rfl (fun x hx=>by simp only [List.mem_singleton] at hx;subst hx;exact .slice aa)
 |15,_=>exact key 15 _ rfl (fun x hx=>by simp only [List.mem_singleton] at hx;subst hx;exact .slice aa)
 |16,_=>exact key 16 _ rfl (gr _ _ _ ah)
 |17,_=>exact key 17 _ rfl (fun x hx=>by simp only [List.mem_singleton] at hx;subst hx;exact .slice aa)
 |18,_=>exact key 18 _ rfl (gr _ _ _ ah)
 |19,_=>exact key 19 _ rfl (gr _ _ _ ah)
 |20,_=>exact key 20 _ rfl (gr _ _ _ ah)
 |21,_=>exact key 21 _ rfl (gr _ _ _ ah)
 |22,_=>exact key 22 _ rfl (gr _ _ _ ah)
 |23,_=>exact key 23 _ rfl (gr _ _ _ ah)
 |24,_=>exact key 24 _ rfl (gr _ _ _ ah)
 |25,_=>exact key 25 _ rfl (gr _ _ _ ah)
 |26,_=>exact key 26 _ rfl (gr _ _ _ ah)
 |27,_=>exact key 27 _ rfl (gr _ _ _ ah)
 |28,_=>exact key 28 _ rfl (gr _ _ _ ah)
 |29,_=>exact key 29 _ rfl (gr _ _ _ ah)
 |30,_=>exact key 30 _ rfl (fun x hx=>by
   simp only [List.mem_cons,aH,or_false] at hx
   rcases hx with rfl |rfl |rfl
   ·exact .slice aa
   ·exact .ground rfl
   ·exact .ground rfl)
 |n+31,h=>omega
theorem aW {g:FuncId} {args:List Value} {v:Value} {G1:Hp} (ha:∀ x∈args,iE x) (hv:iE v) (c:CC E g args G (.ret v) G1 []) {H:Hp} (y:Gd E G H):CC E g args H (.ret v) H []:=c.aW WD NO NM ha hv y
theorem eZ:Gd E G G:=⟨NO,Nat.le_refl _,NM,fun _ _=>rfl⟩
end Go.Proofs.YtglmagcldkngbaaGreatDoor
