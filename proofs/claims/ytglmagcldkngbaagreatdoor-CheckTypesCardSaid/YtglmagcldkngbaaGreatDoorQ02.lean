/- Part of the proof that CheckTypes answers true. -/
import Derived.Test.YtglmagcldkngbaaGreatDoorQ01
import Derived.Scope
import Derived.ScopeJumps
import Derived.KernelRfl
import Derived.Laws.Strings
import Derived.Test.YtglmagcldkngbaaGreatDoorProg
import GoSem.PinnedTables
set_option linter.unusedVariables false
set_option linter.unusedSimpArgs false
set_option maxRecDepth 100000
set_option maxHeartbeats 4000000
namespace Go.Am
section
variable {E:Env} {call:Call} {aA:Nat} {ops:Array Oper} {d:List (Value×List Value)} {hs:Nat→Z} {ts:Nat→cg} {ft:Nat→iX}
theorem Inv.init {base:Nat} {φ:bC} {w w0:World} {a:Act} {W:List Nat} {S:Nat→Bool} (h:lF E aA ops d hs ts ft) (hS:∀ k,k<ops.size→S k=false) (dr:Rel E base (hs 0) φ w)
  (ht:ii φ (ts 0) a.tmps aA) (hd:j7 φ d a.defers) (hf:gw φ (hs 0).n (hs ops.size).n) (hw:Step φ W w0 w):Inv E base φ w0 aA ops d hs ts ft W S φ a w:=by
 have z:∀ ia,kL S ia ops.size=0:=fun ia=>by
  rcases AT S ia ops.size with h0 |⟨k,h1,h2,h3,h4⟩
  ·exact h0
  ·rw [hS k h1] at h3;cases h3
 refine ⟨?_,ht.1,fun t v hv=>?_,hd,fun _ _=>rfl,fun k hk _ i h1 h2=>?_,hw,fun i l h1 h2 h3=>?_⟩
 ·have:nc ops.size hs ft S=(hs 0).get:=by funext i;unfold nc;rw [z]
  rw [this];exact .of (h.wf 0 J) dr
 ·unfold vv at hv;rw [z] at hv;exact ht.2 t v hv
 ·have a1:=h.mono (i:=0) (j:=k) J J
  have a2:=h.mono (i:=k+1) (j:=ops.size) J J
  exact hf i J J
 ·rw [hf i h1 h2] at h3;cases h3
theorem Inv.done {base:Nat} {iw φ:bC} {w w0:World} {a:Act} {W:List Nat} {S:Nat→Bool} (h:lF E aA ops d hs ts ft) (I:Inv E base iw w0 aA ops d hs ts ft W S φ a w) (hS:∀ k,k<ops.size→S k=true) :
  Out E base iw w0 (hs 0) (hs ops.size) W φ w∧ii φ (ts ops.size) a.tmps aA∧j7 φ d a.defers:=by
 have cs:∀ i,nc ops.size hs ft S i=(hs ops.size).get i:=by
  intro i
  unfold nc
  have hle:=La S (tb hs ft i) ops.size
  have hnt:∀ k,kL S (tb hs ft i) ops.size≤k→k<ops.size→tb hs ft i k=false:=by
   intro k h1 h2
   cases hb:tb hs ft i k with
   |false=>rfl
   |true=>have:=yy S (tb hs ft i) ops.size k h2 (hS k h2) hb;omega
  generalize kL S (tb hs ft i) ops.size=st at *
  rcases Nat.lt_or_ge i (hs st).n with h1 |h1
  ·exact (h.keep h1 hle (Nat.le_refl _) fun k h2 h3 hm=>by have:=hnt k h2 h3;rw [q9.2 (.inl hm)] at this;cases this).symm
  ·rcases Nat.lt_or_ge i (hs ops.size).n with h2 |h2
   ·exfalso
    have h0:=h.mono (i:=0) (j:=st) J J
    obtain ⟨k,h3,h4,h5⟩:=h.Ph (Nat.le_refl _) J h2
    have:st≤k:=by
     rcases Nat.lt_or_ge k st with h6 |h6
     ·have:=h.mono (i:=k+1) (j:=st) J J;omega
     ·exact h6
    have:=hnt k this h3
    rw [q9.2 (.inr ⟨h4,h5⟩)] at this;cases this
   ·rw [h.wf st hle i h1,h.wf ops.size (Nat.le_refl _) i h2]
 have afW:∀ t,vv ops.size ts ft S t=(ts ops.size).get t:=by
  intro t
  unfold vv
  have hle:=La S (tt ft t) ops.size
  refine (h.OD hle (Nat.le_refl _) fun k h1 h2 hm=>?_).symm
  have:=yy S (tt ft t) ops.size k h2 (hS k h2) (yD.2 hm)
  omega
 refine ⟨⟨I.out,I.rel.rel fun i _ _=>cs i,I.step,fun i l h1 h2 h3=>?_⟩,⟨I.Dp,fun t v hv=>I.aT t v (by rw [afW];exact hv)⟩,I.je⟩
 rcases I.fresh i l h1 h2 h3 with hb |⟨q,q1,m,cv,cY,cO,dc,di⟩
 ·exact .inl hb
 ·exact .inr ⟨q,q1,m,cv,cY,cO,dc,by rw [← cs q];exact di⟩
theorem R5 {base:Nat} {iw:bC} {w0:World} {W:List Nat} {md:Region.Mode} {Q:Exit→Act→World→Prop} (h:lF E aA ops d hs ts ft) (hp:nN md ops) (s7:∀ j,j<ops.size→∀ q,q∈(ft j).w→q∈W)
  (hQ:∀ φ a w,Out E base iw w0 (hs 0) (hs ops.size) W φ w→ii φ (ts ops.size) a.tmps aA→j7 φ d a.defers→Q .normal a w) :
  ∀(fuel:Nat) (listed:Array Bool) (φ:bC) (a:Act) (w:World),listed.size=ops.size→ra ops.size listed≤fuel→LY ops (fun k=>listed.getD k false)→
   Inv E base iw w0 aA ops d hs ts ft W (fun k=>listed.getD k false) φ a w→wpAny E.P md ops Q fuel listed a w:=by
 have fin:∀(listed:Array Bool) (φ:bC) (a:Act) (w:World),listed.size=ops.size→Inv E base iw w0 aA ops d hs ts ft W (fun k=>listed.getD k false) φ a w→(∀ j,j<ops.size→listed.getD j true=true)→Q .normal a w:=by
  intro listed φ a w hs1 I hall
  obtain ⟨h1,h2,h3⟩:=I.done h fun k hk=>by rw [vN J false true];exact hall k hk
  exact hQ φ a w h1 h2 h3
 have SH:∀(listed:Array Bool),listed.size=ops.size→Region.ready md ops listed=[]→∀ j,j<ops.size→listed.getD j true=true:=by
  intro listed hs1 hr j hj
  cases hb:listed.getD j true with
  |true=>rfl
  |false=>exact (hp listed hs1 ⟨j,hj,hb⟩ hr).elim
 intro fuel
 induction fuel with
 |zero=>
  intro listed φ a w hs1 hu hc I
  have hall:=Lm (Nat.le_zero.1 hu)
  refine ⟨?_,fin listed φ a w hs1 I hall⟩
  cases hr:Region.ready md ops listed with
  |nil=>rfl
  |cons x l=>
   have:x∈Region.ready md ops listed:=by rw [hr];simp
   obtain ⟨o,h1,h2,_⟩:=mem_ready.1 this
   rw [hall x (Array.getElem?_eq_some_iff.1 h1).1] at h2;cases h2
 |succ fuel ih=>
  intro listed φ a w hs1 hu hc I
  refine ⟨fun hr=>fin listed φ a w hs1 I (SH listed hs1 hr),fun j hj=>?_⟩
  obtain ⟨o,h1,h2,h3⟩:=mem_ready.1 hj
  have hjn:=(Array.getElem?_eq_some_iff.1 h1).1
  have s6:listed.getD j false=false:=by rw [vN J false true];exact h2
  have uj:∀ k,(listed.setIfInBounds j true).getD k false=true↔(listed.getD k false=true∨k=j):=fun k=>by
   rw [xr J]
   split
   ·rename_i e;subst e;simp
   ·rename_i e
    exact ⟨.inl,fun h=>h.elim id fun h=>(e h.symm).elim⟩
  have vR:∀ i,((Region.before ops).getD j 0).testBit i=true→listed.getD i false=true:=
   Hz hc (j+1) j o J h1 fun e he hb=>h3 e he (Mx hb)
  have s8:∀ k,k<ops.size→listed.getD k false=true→((Region.before ops).getD k 0).testBit j=false:=by
   intro k hk hl
   cases hb:((Region.before ops).getD k 0).testBit j with
   |false=>rfl
   |true=>
    have:=Hz hc (k+1) k ops[k] J (by simp [hk]) (fun e he hbd=>hc k _ (by simp [hk]) hl e he hbd) j hb
    rw [s6] at this;cases this
  refine I.next h s7 hjn s6 vR s8 (fun k _=>uj k) fun be a' w' I'=>?_
  refine ih _ be a' w' (by simpa using hs1) ?_ (fun k o' hk hl e he hb=>?_) I'
  ·have:=Ll hs1 hjn h2;omega
  ·rw [uj] at hl ⊢
   rcases hl with hl |rfl
   ·exact .inl (hc k o' hk hl e he hb)
   ·rw [h1] at hk
    injection hk with hk
    subst hk
    exact .inl (h3 e he (Mx hb))
end
theorem Ol {gu:Array Nat} {ft:Nat→iX} {n:Nat} (h:indep gu ((List.range n).map ft)=true) {i j:Nat} (hij:i<j) (hj:j<n) (hb:(gu.getD j 0).testBit i=false):y9 (ft i) (ft j)=true:=by
 unfold indep at h
 rw [List.all_eq_true] at h
 have mem:∀ k,k<n→(ft k,k)∈((List.range n).map ft).zipIdx:=fun k hk=>by
  rw [List.mem_zipIdx_iff_getElem?];simp [hk]
 have h1:=h _ (mem j hj)
 simp only [List.all_eq_true] at h1
 have h2:=h1 _ (mem i J)
 simp only [hb,Bool.or_false,Bool.or_eq_true,Nat.ble_eq] at h2
 rcases h2 with h2 |h2
 ·omega
 ·exact h2
theorem Nv {E:Env} (ok:E.fy) {aA id:Nat} {ops:Array Oper} {d:List (Value×List Value)} {hs:Nat→Z} {ts:Nat→cg} {kA:Nat→List Nat} {ft:Nat→iX} {W:List Nat} (hro:q3 ops=true)
  (hi:indep (Region.before ops) ((List.range ops.size).map ft)=true) (a7:∀ j,j<ops.size→∀ q,q∈kA j→q∈W)
  (a9:∀(j:Nat) (o:Oper),ops.toList[j]?=some o→cW (hs j)→E.d4≤(hs j).n→∃ call,nf E call∧pZ E call aA ops d o (ts j) (ts (j+1)) (hs j) (hs (j+1)) (kA j) (ft j)) (wf:cW (hs 0)) (cE:E.d4≤(hs 0).n) :
  dn W (hs 0) (hs ops.size)∧cW (hs ops.size)∧∀(base:Nat) (φ:bC) (w:World) (a:Act) (w1 w2:List Nat),sG E base φ w aA ⟨ts 0,hs 0,d,w1⟩ a→gw φ (hs 0).n (hs ops.size).n→
   (Code.region id ops true).wp E.P (Post E base φ w aA (hs 0) W .normal ⟨ts ops.size,hs ops.size,d,w2⟩) a w:=by
 have Yj:=hro
 unfold q3 at hro
 simp only [dZ] at hro
 obtain ⟨⟨j0,q5⟩,AH⟩:=hro
 have hnd:∀ o∈ops.toList,xU o.op=false:=by
  intro o ho
  unfold FN at q5
  rw [Array.all_eq_true_iff_forall_mem] at q5
  have:=q5 o (by simpa using ho)
  cases hop:o.op <;> rw [hop] at this <;> first
   |rfl
   |cases this
 have un:∀ j:Nat,j<ops.size→ops.toList[j]?=some ops[j]!∧ops[j]?=some ops[j]!:=fun j hj=>by simp [hj]
 have o5:∀ j,j≤ops.size→cW (hs j)∧E.d4≤(hs j).n:=by
  intro j
  induction j with
  |zero=>intro _;exact ⟨wf,cE⟩
  |succ j ih=>
   intro hj
   obtain ⟨h1,h2⟩:=ih J
   obtain ⟨g1,g2⟩:=un j J
   obtain ⟨call,hc,hst⟩:=a9 j _ g1 h1 h2
   obtain ⟨k1,k2,_⟩:=Gx ok hc (hnd _ (List.mem_of_getElem? g1)) hst h1 h2
   exact ⟨k2,Nat.le_trans h2 k1.n⟩
 have ex:=fun (j:Nat) (hj:j<ops.size)=>a9 j _ (un j hj).1 (o5 j J).1 (o5 j J).2
 have st:=fun (j:Nat) (hj:j<ops.size)=>Gx ok (ex j hj).choose_spec.1 (hnd _ (List.mem_of_getElem? (un j hj).1)) (ex j hj).choose_spec.2 (o5 j J).1 (o5 j J).2
 have yC:lF E aA ops d hs ts ft:=by
  refine ⟨fun j hj=>(o5 j hj).1,(o5 0 J).2,fun j hj=>(st j hj).1,fun j hj=>?_,fun j hj q hq=>?_,fun i j hij hj hb=>Ml (Ol hi hij hj hb),fun j o ho=>?_⟩
  ·obtain ⟨_,_,h3,h4,_⟩:=st j hj;exact ⟨h3,h4⟩
  ·obtain ⟨_,_,_,_,_,_,h7,_⟩:=st j hj
   exact (h7 q hq).2
  ·have hj:=(Array.getElem?_eq_some_iff.1 ho).1
   have e:ops[j]! = o:=by have:=(un j hj).2;rw [ho] at this;injection this with this;exact this.symm
   obtain ⟨_,_,_,_,h5,h6,_,v,h8,h9⟩:=st j hj
   rw [e] at h5 h6 h8 h9
   exact ⟨h5,h6,v,h8,fun base φ w a C K Q dr hag hf ht hd hK=>h9 base φ w a C j K Q ho dr hag hf ht hd hK⟩
 have s7:∀ j,j<ops.size→∀ q,q∈(ft j).w→q∈W:=by
  intro j hj q hq
  obtain ⟨_,_,_,_,_,_,h7,_⟩:=st j hj
  exact a7 j hj q (h7 q hq).1
 have ext:dn W (hs 0) (hs ops.size):=by
  have key:∀ j,j≤ops.size→dn W (hs 0) (hs j):=by
   intro j
   induction j with
   |zero=>intro _;exact dn.refl ..
   |succ j ih=>intro hj;exact ((ih J).trans ((yC.ext j J).wider (s7 j J))).wider (fun i hi=>by simpa using hi)
  exact key _ (Nat.le_refl _)
 refine ⟨ext,(o5 _ (Nat.le_refl _)).1,fun base φ w a w1 w2 dH hf=>wp_region_draw fun t=>?_⟩
 have rK:Rel E base (hs 0) φ w:=dH.rel
 have go:∀(md:Region.Mode) (t:Nat),nN md ops→wpOps E.P ops (Post E base φ w aA (hs 0) W .normal ⟨ts ops.size,hs ops.size,d,w2⟩) (Region.linearise md ops t) a { w with drawn:=w.drawn+1 }:=by
  intro md t hp
  refine wpAny_sound ops.size t _ a _ ?_
  refine R5 (iw:=φ) (w0:=w) (W:=W) (base:=base) yC hp s7 (fun be a' w' h1 h2 h3=>⟨be,h1,rfl,h2,h3⟩) ops.size _ φ a _ (by simp) ?_ (fun k o ho hl=>?_) ?_
  ·unfold ra
   have:=List.countP_le_length (p:=fun i=>!(Array.replicate ops.size false).getD i true) (l:=List.range ops.size)
   simpa using this
  ·have hk:=(Array.getElem?_eq_some_iff.1 ho).1
   simp [Array.getD_eq_getD_getElem?,hk] at hl
  ·refine .init yC (fun k hk=>by simp [Array.getD_eq_getD_getElem?,hk]) ?_ dH.aT dH.je hf ⟨rfl,rfl,rfl,Nat.le_refl _,fun _ _ _=>rfl⟩
   exact ⟨rK.bs,fun i l o h1 h2 h3=>(rK.blocks i l o h1 h2 h3).same rfl,fun i l h1 h2 h3=>rK.lt i l h1 h2 h3,rK.inj,rK.iO⟩
 unfold Region.schedule
 split
 ·exact go .any t (ac1 j0)
 ·rename_i hm
  have Iq:Region.departs ops=true:=by
   cases hd:Region.departs ops with
   |true=>rfl
   |false=>rw [hd] at hm;simp at hm
  rw [Iq] at AH
  simp only [Bool.not_true,Bool.false_or,dZ] at AH
  split
  ·exact go .text _ (kV (Nat.eq_of_beq_eq_true AH.1))
  ·exact go .gc _ (kV (Nat.eq_of_beq_eq_true AH.2))
theorem J4 {ops:Array Oper} (hro:q3 ops=true):∀ o∈ops.toList,xU o.op=false:=by
 unfold q3 at hro
 simp only [dZ] at hro
 obtain ⟨⟨j0,q5⟩,AH⟩:=hro
 intro o ho
 unfold FN at q5
 rw [Array.all_eq_true_iff_forall_mem] at q5
 have:=q5 o (by simpa using ho)
 cases hop:o.op <;> rw [hop] at this <;> first
  |rfl
  |cases this
theorem Wh {E:Env} (ok:E.fy) {call:Call} (hc:nf E call):G1 E call:=by
 intro aA id ops s s' hr wf cE
 simp only [AE,cond_true] at hr
 cases hro:q3 ops with
 |false=>rw [hro] at hr;cases hr
 |true=>
 rw [hro] at hr
 simp only [cond_true] at hr
 split at hr
 rotate_left
 ·cases hr
 rename_i s1 fs eK
 cases hi:indep (Region.before ops) fs with
 |false=>rw [hi] at hr;cases hr
 |true=>
 rw [hi] at hr
 simp only [cond_true,bH,b8,true_and] at hr
 subst hr
 obtain ⟨hs,ts,kA,ft,W,a1,a2,a3,a4,a5,a6,a7,a8,a9⟩:=P8 _ _ _ _ _ eK (J4 hro)
 simp only [Array.length_toList] at a3 a4 a7 a8
 simp only [List.reverse_nil,List.nil_append] at a8
 subst a8
 obtain ⟨k1,k2,jp⟩:=Nv (id:=id) (W:=W) ok hro hi a7 (fun j o ho _ _=>⟨call,hc,a9 j o ho⟩) (by rw [a1];exact wf) (by rw [a1];exact cE)
 rw [a1,a3] at k1
 rw [a3] at k2
 refine ⟨W,a6,k1,k2,fun base φ w a dH hf=>?_⟩
 have:=jp base φ w a s.w s1.w (by rw [a1,a2];exact dH) (by rw [a1,a3];exact hf)
 rw [a1,a3,a4,← a5] at this
 exact this
theorem Ht {E:Env} (hS:Sound E) (f:Nat):nf E (vB E f):=(NG hS (fun call hc=>Wh hS.ok hc) f).2
def mG (S T:cg):Prop:=∀ t v,S.get t=some v→T.get t=some v
theorem mG.refl (T:cg):mG T T:=fun _ _ h=>h
theorem ii.sub {φ:bC} {S T:cg} {tm:Array Value} {aA:Nat} (h:mG S T) (ht:ii φ T tm aA):ii φ S tm aA:=⟨ht.1,fun t v hv=>ht.2 t v (h t v hv)⟩
theorem Step.norm {φ:bC} {W V:List Nat} {w w':World} {a b:Nat} (h:Step φ W w w') (hf:gw φ a b) (hw:∀ q∈W,q∈V∨(a≤q∧q<b)):Step φ V w w':=
 ⟨h.os,h.tape,h.output,h.size,fun B hB hk=>h.keep B hB fun j hj l hl=>by
  rcases hw j hj with h1 |h1
  ·exact hk j h1 l hl
  ·rw [hf j h1.1 h1.2] at hl;cases hl⟩
theorem Out.norm {E:Env} {base:Nat} {φ:bC} {w:World} {H H':Z} {W V:List Nat} {be:bC} {w':World} (h:Out E base φ w H H' W be w') (hf:gw φ H.n H'.n) (hw:∀ q∈W,q∈V∨(H.n≤q∧q<H'.n)) :
  Out E base φ w H H' V be w':=
 ⟨h.ext,h.rel,h.step.norm hf hw,fun i l h1 h2 h3=>by
  rcases h.fresh i l h1 h2 h3 with hb |⟨j,hj,m,hjn,hr⟩
  ·exact .inl hb
  ·rcases hw j hj with h4 |h4
   ·exact .inr ⟨j,h4,m,hjn,hr⟩
   ·omega⟩
theorem dn.norm {H H':Z} {W V:List Nat} (h:dn W H H') (hw:∀ q∈W,q∈V∨(H.n≤q∧q<H'.n)):dn V H H':=
 ⟨h.n,fun i hi hn=>h.keep i hi fun hm=>by
  rcases hw i hm with h1 |h1
  ·exact hn h1
  ·omega,h.live,h.gf⟩
def dF (E:Env) (aA:Nat) (c:Code) (T:cg) (H:Z) (d:List (Value×List Value)) (x:fx) (c9:cg) (H':Z) (d':List (Value×List Value)) (W:List Nat):Prop:=
 cW H→E.d4≤H.n→dn W H H'∧cW H'∧∀(base:Nat) (φ:bC) (w:World) (a:Act),sG E base φ w aA ⟨T,H,d,[]⟩ a→gw φ H.n H'.n→c.wp E.P (Post E base φ w aA H W x ⟨c9,H',d',[]⟩) a w
def ol (E:Env) (n aA:Nat) (c:Code) (T:cg) (H:Z) (d:List (Value×List Value)) (x:fx) (c9:cg) (H':Z) (d':List (Value×List Value)) (W:List Nat):Prop:=
 cW H→E.d4≤H.n→dn W H H'∧cW H'∧∀(base:Nat) (φ:bC) (w:World) (a:Act),sG E base φ w aA ⟨T,H,d,[]⟩ a→gw φ H.n H'.n→Code.rounds E.P c (Post E base φ w aA H W x ⟨c9,H',d',[]⟩) n a w
def bF (E:Env) (g:FuncId) (args:List Value) (H:Z) (r:rh) (H':Z) (W:List Nat):Prop:=cW H→E.d4≤H.n→tY E g args H r H' W
section
variable {E:Env} {aA:Nat} {c:Code} {T c9:cg} {H H':Z} {d d':List (Value×List Value)} {x:fx} {W:List Nat}
theorem dF.post (h:dF E aA c T H d x c9 H' d' W) {mF:cg} {V:List Nat} (ht:mG mF c9) (hw:∀ q∈W,q∈V∨(H.n≤q∧q<H'.n)):dF E aA c T H d x mF H' d' V:=fun wf cE=>by
 obtain ⟨h1,h2,h3⟩:=h wf cE
 exact ⟨h1.norm hw,h2,fun base φ w a hs hf=>wp_mono (h3 base φ w a hs hf) fun e a1 w1 ⟨be,ci,he,oH,eK⟩=>⟨be,ci.norm hf hw,he,oH.sub ht,eK⟩⟩
theorem ol.post {n:Nat} (h:ol E n aA c T H d x c9 H' d' W) {mF:cg} {V:List Nat} (ht:mG mF c9) (hw:∀ q∈W,q∈V∨(H.n≤q∧q<H'.n)):ol E n aA c T H d x mF H' d' V:=fun wf cE=>by
 obtain ⟨h1,h2,h3⟩:=h wf cE
 exact ⟨h1.norm hw,h2,fun base φ w a hs hf=>Gg (fun e a1 w1 ⟨be,ci,he,oH,eK⟩=>⟨be,ci.norm hf hw,he,oH.sub ht,eK⟩) n a w (h3 base φ w a hs hf)⟩
theorem dF.pre (h:dF E aA c T H d x c9 H' d' W) {S:cg} (hs:mG T S):dF E aA c S H d x c9 H' d' W:=fun wf cE=>by
 obtain ⟨h1,h2,h3⟩:=h wf cE
 exact ⟨h1,h2,fun base φ w a dH hf=>h3 base φ w a ⟨dH.rel,dH.aT.sub hs,dH.je⟩ hf⟩
theorem Post.Ev {base:Nat} {φ fu:bC} {w w1:World} {aA:Nat} {H H1 H2:Z} {mF:cg} {d2:List (Value×List Value)} {W V:List Nat} {x:fx} {e:Exit} {a:Act} {w2:World} (x1:dn W H H1) (aC:dn V H1 H2)
  (ci:Out E base φ w H H1 W fu w1) (hf:gw φ H.n H2.n) (h:Post E base fu w1 aA H1 V x ⟨mF,H2,d2,[]⟩ e a w2):Post E base φ w aA H (W++V) x ⟨mF,H2,d2,[]⟩ e a w2:=by
 obtain ⟨o8,h1,h2,h3,h4⟩:=h
 exact ⟨o8,ci.trans x1 aC h1 hf,h2,h3,h4⟩
theorem dF.skip:dF E aA .skip T H d .normal T H d []:=fun wf cE=>⟨dn.refl ..,wf,fun base φ w a h hf=>wp_skip ⟨φ,Out.refl [] h.rel,rfl,h.aT,h.je⟩⟩
theorem dF.label {l:Nat}:dF E aA (.label l) T H d .normal T H d []:=fun wf cE=>⟨dn.refl ..,wf,fun base φ w a h hf=>wp_label ⟨φ,Out.refl [] h.rel,rfl,h.aT,h.je⟩⟩
theorem dF.exit {id:Nat}:dF E aA (.exit id) T H d (.exit id) T H d []:=fun wf cE=>⟨dn.refl ..,wf,fun base φ w a h hf=>wp_exit ⟨φ,Out.refl [] h.rel,rfl,h.aT,h.je⟩⟩
theorem dF.goto {l:Nat}:dF E aA (.goto l) T H d (.goto l) T H d []:=fun wf cE=>⟨dn.refl ..,wf,fun base φ w a h hf=>wp_goto ⟨φ,Out.refl [] h.rel,rfl,h.aT,h.je⟩⟩
theorem dF.ret:dF E aA .ret T H d .ret T H d []:=fun wf cE=>⟨dn.refl ..,wf,fun base φ w a h hf=>wp_ret ⟨φ,Out.refl [] h.rel,rfl,h.aT,h.je⟩⟩
theorem dF.seq {c1 c2:Code} {gG:cg} {H1:Z} {d1:List (Value×List Value)} {V:List Nat} (h:dF E aA c1 T H d .normal gG H1 d1 W) (k:dF E aA c2 gG H1 d1 x c9 H' d' V):dF E aA (.seq c1 c2) T H d x c9 H' d' (W++V):=fun wf cE=>by
 obtain ⟨x1,fT,k1⟩:=h wf cE
 have jP:=x1.n
 obtain ⟨aC,kX,k2⟩:=k fT J
 have hn2:=aC.n
 refine ⟨x1.trans aC,kX,fun base φ w a dH hf=>wp_seq (wp_mono (k1 base φ w a dH (hf.first hn2)) fun e a1 w1 hp=>?_)⟩
 obtain ⟨fu,ci,he,ht,eK⟩:=hp
 have he:e=.normal:=he
 subst he
 exact wp_mono (k2 base fu w1 a1 ⟨ci.rel,ht,eK⟩ (hf.next ci jP)) fun e a2 w2 hp=>Post.Ev x1 aC ci hf hp
theorem Bb.PX {φ:bC} {e:Exit} (h:Bb φ x e) (hx:x≠.normal):e≠.normal:=fun e'=>by
 subst e'
 cases x with
 |normal=>exact hx rfl
 |panic v=>obtain ⟨u,hu,_⟩:=h;cases hu
 |_=>cases h
theorem dF.aeE {c1 c2:Code} (h:dF E aA c1 T H d x c9 H' d' W) (hx:x≠.normal):dF E aA (.seq c1 c2) T H d x c9 H' d' W:=fun wf cE=>by
 obtain ⟨x1,fT,k1⟩:=h wf cE
 refine ⟨x1,fT,fun base φ w a dH hf=>wp_seq (wp_mono (k1 base φ w a dH hf) fun e a1 w1 hp=>?_)⟩
 obtain ⟨fu,ci,he,ht,eK⟩:=hp
 have:=Bb.PX he hx
 cases e <;> first
  |exact absurd rfl this
  |exact ⟨fu,ci,he,ht,eK⟩
theorem dF.cond {o:Operand} {b:Bool} {c1 c2:Code} (hb:ev E T o=some (.bool b)) (h:dF E aA (if b then c1 else c2) T H d x c9 H' d' W):dF E aA (.cond o c1 c2) T H d x c9 H' d' W:=fun wf cE=>by
 obtain ⟨x1,fT,k1⟩:=h wf cE
 refine ⟨x1,fT,fun base φ w a dH hf=>?_⟩
 have:=(dH.aT.ev (H:=H) (w:=w) dH.rel.iO o _ hb).oA rfl
 cases b with
 |true=>exact wp_cond_true this (k1 base φ w a dH hf)
 |false=>exact wp_cond_false this (k1 base φ w a dH hf)
theorem dF.Ti {id:Nat} {c1:Code} (h:dF E aA c1 T H d (.exit id) c9 H' d' W):dF E aA (.block id c1) T H d .normal c9 H' d' W:=fun wf cE=>by
 obtain ⟨x1,fT,k1⟩:=h wf cE
 refine ⟨x1,fT,fun base φ w a dH hf=>wp_block (wp_mono (k1 base φ w a dH hf) fun e a1 w1 hp=>?_)⟩
 obtain ⟨fu,ci,he,ht,eK⟩:=hp
 have he:e=.exit id:=he
 subst he
 simp only [Exit.inBlock,if_true]
 exact ⟨fu,ci,rfl,ht,eK⟩
theorem dF.block {id:Nat} {c1:Code} (h:dF E aA c1 T H d x c9 H' d' W) (hx:x≠.exit id):dF E aA (.block id c1) T H d x c9 H' d' W:=fun wf cE=>by
 obtain ⟨x1,fT,k1⟩:=h wf cE
 refine ⟨x1,fT,fun base φ w a dH hf=>wp_block (wp_mono (k1 base φ w a dH hf) fun e a1 w1 hp=>?_)⟩
 obtain ⟨fu,ci,he,ht,eK⟩:=hp
 cases e with
 |exit id'=>
  have:id'≠id:=fun e'=>by
   subst e'
   cases x with
   |exit id2=>have he:Exit.exit id'=.exit id2:=he;injection he with he;exact hx (by rw [he])
   |panic v=>obtain ⟨u,hu,_⟩:=he;cases hu
   |_=>cases he
  simp only [Exit.inBlock,this,if_false]
  exact ⟨fu,ci,he,ht,eK⟩
 |_=>exact ⟨fu,ci,he,ht,eK⟩
theorem dF.scope {c1:Code} (h:dF E aA c1 T H d x c9 H' d' W) (hx:∀ l,x≠.goto l):dF E aA (.scope c1) T H d x c9 H' d' W:=fun wf cE=>by
 obtain ⟨x1,fT,k1⟩:=h wf cE
 refine ⟨x1,fT,fun base φ w a dH hf=>wp_scope_straight (wp_mono (k1 base φ w a dH hf) fun e a1 w1 hp=>?_)⟩
 obtain ⟨fu,ci,he,ht,eK⟩:=hp
 cases e with
 |goto l=>
  exfalso
  cases x with
  |goto l2=>exact hx l2 rfl
  |panic v=>obtain ⟨u,hu,_⟩:=he;cases hu
  |_=>cases he
 |_=>exact ⟨fu,ci,he,ht,eK⟩
theorem dF.aeD {c1 rest:Code} {l:Nat} {gG:cg} {H1:Z} {d1:List (Value×List Value)} {V:List Nat} (h:dF E aA c1 T H d (.goto l) gG H1 d1 W) (hf:findLabel c1 l=some rest) (k:dF E aA rest gG H1 d1 x c9 H' d' V) (hx:∀ l,x≠.goto l) :
  dF E aA (.scope c1) T H d x c9 H' d' (W++V):=fun wf cE=>by
 obtain ⟨x1,fT,k1⟩:=h wf cE
 have jP:=x1.n
 obtain ⟨aC,kX,k2⟩:=k fT J
 have hn2:=aC.n
 refine ⟨x1.trans aC,kX,fun base φ w a dH hf'=>?_⟩
 have abW:∀ e a1 w1,Post E base φ w aA H (W++V) x ⟨c9,H',d',[]⟩ e a1 w1→Exit.noGoto (Post E base φ w aA H (W++V) x ⟨c9,H',d',[]⟩) e a1 w1:=by
  intro e a1 w1 hp
  obtain ⟨fu,ci,he,ht,eK⟩:=hp
  cases e with
  |goto l=>
   exfalso
   cases x with
   |goto l2=>exact hx l2 rfl
   |panic v=>obtain ⟨u,hu,_⟩:=he;cases hu
   |_=>cases he
  |_=>exact ⟨fu,ci,he,ht,eK⟩
 refine wp_scope_jumps l (fun a1 w1=>rest.wp E.P (Exit.noGoto (Post E base φ w aA H (W++V) x ⟨c9,H',d',[]⟩)) a1 w1) (fun _ _=>0) hf ?_ ?_
 ·refine wp_mono (k1 base φ w a dH (hf'.first hn2)) fun e a1 w1 hp=>?_
  obtain ⟨fu,ci,he,ht,eK⟩:=hp
  have he:e=.goto l:=he
  subst he
  exact ⟨rfl,wp_mono (k2 base fu w1 a1 ⟨ci.rel,ht,eK⟩ (hf'.next ci jP)) fun e a2 w2 hp=>abW e a2 w2 (Post.Ev x1 aC ci hf' hp)⟩
 ·intro a1 w1 hj
  refine wp_mono hj fun e a2 w2 hp=>?_
  cases e with
  |goto l=>exact hp.elim
  |_=>exact hp
theorem ol.T0 {n:Nat} (h:ol E n aA c T H d x c9 H' d' W):dF E aA (.loop c) T H d x c9 H' d' W:=fun wf cE=>by
 obtain ⟨x1,fT,k1⟩:=h wf cE
 exact ⟨x1,fT,fun base φ w a dH hf=>wp_loop_rounds n (k1 base φ w a dH hf)⟩
theorem ol.next {n:Nat} {gG:cg} {H1:Z} {d1:List (Value×List Value)} {V:List Nat} (h:dF E aA c T H d .normal gG H1 d1 W) (k:ol E n aA c gG H1 d1 x c9 H' d' V):ol E (n+1) aA c T H d x c9 H' d' (W++V):=fun wf cE=>by
 obtain ⟨x1,fT,k1⟩:=h wf cE
 have jP:=x1.n
 obtain ⟨aC,kX,k2⟩:=k fT J
 have hn2:=aC.n
 refine ⟨x1.trans aC,kX,fun base φ w a dH hf=>?_⟩
 rw [rounds_succ]
 refine wp_mono (k1 base φ w a dH (hf.first hn2)) fun e a1 w1 hp=>?_
 obtain ⟨fu,ci,he,ht,eK⟩:=hp
 have he:e=.normal:=he
 subst he
 exact Gg (fun e a2 w2 hp=>Post.Ev x1 aC ci hf hp) n a1 w1 (k2 base fu w1 a1 ⟨ci.rel,ht,eK⟩ (hf.next ci jP))
theorem ol.last (h:dF E aA c T H d x c9 H' d' W) (hx:x≠.normal):ol E 1 aA c T H d x c9 H' d' W:=fun wf cE=>by
 obtain ⟨x1,fT,k1⟩:=h wf cE
 refine ⟨x1,fT,fun base φ w a dH hf=>?_⟩
 rw [rounds_succ]
 refine wp_mono (k1 base φ w a dH hf) fun e a1 w1 hp=>?_
 obtain ⟨fu,ci,he,ht,eK⟩:=hp
 have:=Bb.PX he hx
 cases e <;> first
  |exact absurd rfl this
  |exact ⟨fu,ci,he,ht,eK⟩
theorem bF.norm {g:FuncId} {args:List Value} {r:rh} {V:List Nat} (h:bF E g args H r H' W) (hw:∀ q∈W,q∈V∨(H.n≤q∧q<H'.n)):bF E g args H r H' V:=fun wf cE=>by
 obtain ⟨h1,h2,h3⟩:=h wf cE
 refine ⟨h1.norm hw,h2,fun base φ w args' dr hf hl=>?_⟩
 have post:∀ e w',nL E base φ w H H' W r e w'→nL E base φ w H H' V r e w':=fun e w' ⟨be,ci,he⟩=>⟨be,ci.norm hf hw,he⟩
 rcases h3 base φ w args' dr hf hl with ⟨he,hc⟩ |⟨v,w',he,hv⟩
 ·exact .inl ⟨he,hc.mono post⟩
 ·exact .inr ⟨v,w',he,post _ _ hv⟩
theorem bF.J8 (ok:E.fy) {g:FuncId} {fn:Func} {args:List Value} {v:Value} (hf:E.func g=some fn) (hname:(fn.name== "runtime.NumGoroutine")=false) (hb:fn.body=some c) (hn:Nat.ble args.length fn.ntmps=true)
  (hx:x=.normal∨x=.ret) (h:dF E fn.ntmps c (tS args 0 .nil) H [] x c9 H' [] W) (hr:u9 E fn ⟨c9,H',[],[]⟩=some v):bF E g args H (.ret v) H' W:=fun wf cE=>by
 obtain ⟨x1,fT,k1⟩:=h wf cE
 refine ⟨x1,fT,fun base φ w args' dr hfr hlr=>.inl ⟨?_,?_⟩⟩
 ·unfold callFunc
  rw [bI (run_program w)]
  simp only [ok.func _ _ hf,hname,Bool.false_eq_true,if_false,hb,Option.isNone_some]
  rfl
 ·refine calls_of_wp (ok.func _ _ hf) hb (wp_mono (k1 base φ w { tmps:=args'.toArray++Array.replicate (fn.ntmps-args'.toArray.size) undef,defers:=[] } ⟨dr,Lb hlr (Nat.le_of_ble_eq_true hn),.nil⟩ hfr) fun e a1 w1 hp=>?_)
  obtain ⟨be,ci,he,oH,eK⟩:=hp
  have eK:a1.defers=[]:=by
   have eK:j7 be [] a1.defers:=eK
   cases hd:a1.defers with
   |nil=>rfl
   |cons _ _=>rw [hd] at eK;cases eK
  obtain ⟨y,hy,B7⟩:=KG ok fT ci.rel oH hr
  rcases hx with rfl |rfl
  ·have he:e=.normal:=he
   subst he
   exact ⟨eK,y,B7,be,ci,y,rfl,hy⟩
  ·have he:e=.ret:=he
   subst he
   exact ⟨eK,y,B7,be,ci,y,rfl,hy⟩
end
inductive Hint where
 |auto (n:Nat)
 |val (v:Value) (h:Z) (W R:List Nat)
 |call (v:Value) (h:Z) (W:List Nat)
 |dec (b:Bool)
 |as (v:Value)
 |ax
 |want (b:Bool)
 |Tm (b:Bool)
 |loop (live:List Tmp) (x:fx) (T:cg) (h:Z) (W:List Nat)
 |block (id:Nat) (live:List Tmp) (x:fx) (T:cg) (h:Z) (W:List Nat)
 |piece (k:Nat) (live:List Tmp) (x:fx) (T:cg) (h:Z) (W:List Nat)
def Kg:List Hint→Option (List Tmp×fx×cg×Z×List Nat×List Hint)
 |.piece 0 live x T h W::hs=>some (live,x,T,h,W,hs)
 |_=>none
def qk:List Hint→List Hint
 |.piece (k+1) live x T h W::hs=>.piece k live x T h W::hs
 |hs=>hs
def gx:List Prop→Prop
 |[]=>True
 |p::ps=>p∧gx ps
theorem ni {a b:List Prop}:gx (a++b)↔gx a∧gx b:=by
 induction a with
 |nil=>simp [gx]
 |cons p a ih=>simp only [List.cons_append,gx,ih,and_assoc]
def lw:Call:=fun _ _ _=>none
abbrev lZ:=List (Value×List Value)
def Oq:Op→Bool
 |.call { callee:=.builtin _,.. }=>false
 |.call _=>true
 |_=>false
def MQ:Op→Option Go.Call
 |.call c=>some c
 |_=>none
def ad (s:ByteArray) (i:Int):Int:=(s.data[i.toNat]?.getD 0).toNat
def Ej (E:Env) (op:BinOp) (t:TypeId) (x y:Operand) (a b:Value):Option Value:=
 bif ground a&&ground b then (match fr E.P (do eqGuard op t x y a b;binOp op t a b) with |some v=>bif ground v then some v else none |none=>none) else none
def HC (E:Env) (o:Oper) (T:cg) (H:Z) (d:lZ) (v:Value) (h:Z) (W R:List Nat):List Prop×Value×Z×List Nat×List Nat:=
 match o.op with
 |.load t x=>match ev E T x with
  |some (.pointer (some ⟨b,off,none⟩))=>([al E t b off H=some v],v,H,[],[b])
  |_=>([False],v,H,W,R)
 |.store t x y=>match ev E T x,ev E T y with
  |some (.pointer (some ⟨b,off,none⟩)),some u=>([bu E t b off u H=some h],dw,h,[b],[b])
  |_,_=>([False],v,H,W,R)
 |.call { callee:=.builtin .append,args,argTypes }=>match mK E T args.toList with
  |some [s,x]=>([gZ E argTypes s x H=some (v,h,W,R)],v,h,W,R)
  |_=>([False],v,H,W,R)
 |.call { callee:=.builtin .copy,args,argTypes }=>match mK E T args.toList with
  |some [s,x]=>([Ed E argTypes s x H=some (v,h,W,R)],v,h,W,R)
  |_=>([False],v,H,W,R)
 |.call { callee:=.builtin .clear,args,argTypes }=>match mK E T args.toList with
  |some [x]=>([xg E argTypes x H=some (v,h,W,R)],v,h,W,R)
  |_=>([False],v,H,W,R)
 |.makeSlice t l c=>match ev E T l,ev E T c with
  |some l,some c=>([Fb E t l c H=some (v,h,W,R)],v,h,W,R)
  |_,_=>([False],v,H,W,R)
 |.lookup t m k ok=>match ev E T m,ev E T k with
  |some m,some k=>([n5 E t m k ok H=some (v,h,W,R)],v,h,W,R)
  |_,_=>([False],v,H,W,R)
 |.mapUpdate t m k y=>match ev E T m,ev E T k,ev E T y with
  |some m,some k,some y=>([g5 E t m k y H=some (v,h,W,R)],v,h,W,R)
  |_,_,_=>([False],v,H,W,R)
 |.insert t m k y=>match ev E T m,ev E T k,ev E T y with
  |some m,some k,some y=>([g5 E t m k y H=some (v,h,W,R)],v,h,W,R)
  |_,_,_=>([False],v,H,W,R)
 |.slice t x l hi m=>match ev E T x,l8 E T l,l8 E T hi,l8 E T m with
  |some (.pointer p),some l,some hi,some m=>([pJ E t (.pointer p) l hi m=some v],v,H,[],[])
  |some (.slice p n c),some l,some hi,some m=>([pJ E t (.slice p n c) l hi m=some v],v,H,[],[])
  |_,_,_,_=>([False],v,H,W,R)
 |.indexAddr t x i=>match ev E T x,ev E T i with
  |some (.slice p n c),some i=>([gk E t (.slice p n c) i=some v],v,H,[],[])
  |_,_=>([gJ E lw o T H d=some (.val v h d W (some R))],v,h,W,R)
 |.binOp op t x y _=>match ev E T x,ev E T y with
  |some (.agg a),some (.agg b)=>([Ej E op t x y (.agg a) (.agg b)=some v],v,H,[],[])
  |_,_=>([gJ E lw o T H d=some (.val v h d W (some R))],v,h,W,R)
 |.convert s t x=>match l9 E T o,ev E T x with
  |none,some (.slice p n c)=>([zj E s t (.slice p n c) H=some (v,h,W,R)],v,h,W,R)
  |_,_=>([gJ E lw o T H d=some (.val v h d W (some R))],v,h,W,R)
 |_=>([gJ E lw o T H d=some (.val v h d W (some R))],v,h,W,R)
def Hy (E:Env) (o:Oper) (T:cg):Option (List Prop×Value):=
 match o.op with
 |.index t x i=>match ev E T x,ev E T i,E.ul t with
  |some (.string s),some (.int _ n),some .string=>some ([0≤n,n<(s.size:Int)],.int .u8 (ad s n))
  |_,_,_=>none
 |.indexAddr t x i=>match ev E T x,ev E T i,E.ul t with
  |some (.pointer (some ⟨b,off,none⟩)),some (.int _ i),some (.array n e)=>match E.size e with
   |some sz=>some ([0≤i,i<(n:Int)],.pointer (some ⟨b,off+i.toNat*sz,none⟩))
   |none=>none
  |some (.slice (some ⟨b,off,none⟩) n _),some (.int _ i),some (.slice e)=>match E.size e with
   |some sz=>some ([0≤i,i<(n:Int)],.pointer (some ⟨b,off+i.toNat*sz,none⟩))
   |none=>none
  |_,_,_=>none
 |.slice t x l h none=>match ev E T x,l8 E T l,l8 E T h,E.ul t with
  |some (.string s),some none,some none,some .string=>some ([],.string (s.extract 0 s.size))
  |some (.string s),some (some (.int _ l)),some none,some .string=>some ([0≤l,l≤(s.size:Int)],.string (s.extract l.toNat s.size))
  |some (.string s),some none,some (some (.int _ h)),some .string=>some ([0≤h,h≤(s.size:Int)],.string (s.extract 0 h.toNat))
  |some (.string s),some (some (.int _ l)),some (some (.int _ h)),some .string=>some ([0≤l,l≤h,h≤(s.size:Int)],.string (s.extract l.toNat h.toNat))
  |_,_,_,_=>none
 |_=>none
def Hw (E:Env) (T:cg) (op:BinOp) (x y:Operand):Option (List Prop×Value):=
 match op,ev E T x,ev E T y with
 |.shl,some (.int k a),some (.int _ b)=>some ([0≤b],.int k (k.wrap (a*2 ^ (min b.toNat k.bits))))
 |.shr,some (.int k a),some (.int _ b)=>some ([0≤b],.int k (a.fdiv (2 ^ (min b.toNat k.bits))))
 |.quo,some (.int k a),some (.int k' b)=>bif decide (k=k') then some ([b≠0],.int k (k.wrap (a.tdiv b))) else none
 |.rem,some (.int k a),some (.int k' b)=>bif decide (k=k') then some ([b≠0],.int k (a.tmod b)) else none
 |.mul,some (.float k a),some (.float k' b)=>bif decide (k=k') then some ([(k.format.mul a b).isSome=true],.float k ((k.format.mul a b).getD 0)) else none
 |.quo,some (.float k a),some (.float k' b)=>bif decide (k=k') then some ([(k.format.div a b).isSome=true],.float k ((k.format.div a b).getD 0)) else none
 |_,_,_=>none
def Hx (E:Env) (o:Oper) (T:cg):Option (List Prop×Value):=
 match o.op with
 |.binOp op _ x y _=>Hw E T op x y
 |_=>Hy E o T
def GB (E:Env) (o:Oper) (T:cg) (H:Z) (d:lZ):List Hint→Option (List Prop×Value×Z×lZ×List Nat×Option (List Nat)×List Hint)
 |.auto n::hs=>match gJ E lw o T H d with
  |some (.val v h d' w r)=>some ([],v,h,d',w,r,match n with |0=>hs |n+1=>.auto n::hs)
  |_=>none
 |.dec b::hs=>match gJ E lw o T H d with
  |some (.val (.bool x) h d' w r)=>some ([x=b],.bool b,h,d',w,r,hs)
  |_=>none
 |.as u::hs=>match gJ E lw o T H d with
  |some (.val v h d' w r)=>some ([v=u],u,h,d',w,r,hs)
  |_=>none
 |.ax::hs=>match Hx E o T with
  |some (Ps,v)=>some (Ps,v,H,d,[],some [],hs)
  |none=>none
 |.val v h W R::hs=>match HC E o T H d v h W R with
  |(Ps,v,h,W,R)=>some (Ps,v,h,d,W,some R,hs)
 |.call v h W::hs=>bif Oq o.op then match MQ o.op with
  |some c=>match Ge E T c with
   |some (g,args)=>some ([bF E g args H (.ret v) h W],v,h,d,W,none,hs)
   |none=>none
  |none=>none else none
 |_=>none
def GC (ops:Array Oper) (T:cg) (o:Oper):List Hint→Option (List Prop×Bool×List Hint)
 |.want b::hs=>some ([vi ops T o=some b],b,hs)
 |hs=>match vi ops T o with
  |some b=>some ([],b,hs)
  |none=>none
def AU (E:Env) (aA:Nat) (ops:Array Oper):List Oper→cg→Z→lZ→List Hint→Option (List Prop×cg×Z×lZ×List Nat×List Hint)
 |[],T,H,d,hs=>some ([],T,H,d,[],hs)
 |o::rest,T,H,d,hs=>match GC ops T o hs with
  |some (o9,true,hs)=>match GB E o T H d hs with
   |some (y5,v,H,d,W,_,hs)=>match mo T aA o.dst v with
    |some T=>match AU E aA ops rest T H d hs with
     |some (nh,T,H,d,V,hs)=>some (o9++(y5++nh),T,H,d,W++V,hs)
     |none=>none
    |none=>none
   |none=>none
  |some (o9,false,hs)=>match mo T aA o.dst dw with
   |some T=>match AU E aA ops rest T H d hs with
    |some (nh,T,H,d,V,hs)=>some (o9++nh,T,H,d,V,hs)
    |none=>none
   |none=>none
  |none=>none
abbrev l3:=iX×List Nat
def KZ (W R:List Nat):List Prop:=W.flatMap fun q=>R.map fun r=>q≠r
def Gp (W:List Nat):Option (List Nat)→List Prop
 |some R=>KZ W R
 |none=>match W with |[]=>[] |_=>[False]
def Ha (x y:iX):Bool:=vK x.dst y.looks&&vK y.dst x.looks&&vK x.dst y.dst.toList
def G9 (x y:l3):List Prop:=KZ x.2 y.2++(Gp x.2 y.1.r++(Gp y.2 x.1.r++y.2.map fun q=>q<x.1.lo∨x.1.hi≤q))
def loose (gu:Array Nat) (fs:List l3):List (l3×l3):=
 fs.zipIdx.flatMap fun f=>fs.zipIdx.filterMap fun g=>bif Nat.ble f.2 g.2||(gu.getD f.2 0).testBit g.2 then none else some (g.1,f.1)
def Cz (l:List (l3×l3)):Bool:=l.all fun p=>Ha p.1.1 p.2.1
def O5 (l:List (l3×l3)):List Prop:=l.flatMap fun p=>G9 p.1 p.2
theorem Me:∀{l:List Prop},gx l→∀ p∈l,p
 |_::_,h,p,hp=>by
  rcases List.mem_cons.1 hp with rfl |hp
  ·exact h.1
  ·exact Me h.2 p hp
theorem Ri {W R:List Nat} (h:∀ p∈KZ W R,p) {q r:Nat} (hq:q∈W) (hr:r∈R):q≠r:=
 h _ (List.mem_flatMap.2 ⟨q,hq,List.mem_map.2 ⟨r,hr,rfl⟩⟩)
theorem Nt {a b:List Nat} (h:∀ q∈a,∀ r∈b,q≠r):xi a b=true:=by
 unfold xi zz
 rw [List.all_eq_true]
 intro q hq
 rw [Bool.not_eq_true',List.any_eq_false]
 intro r hr e
 exact h q hq r hr (Nat.eq_of_beq_eq_true e)
theorem Nr {a W:List Nat} {b:Option (List Nat)} (hw:∀ q∈a,q∈W) (h:∀ p∈Gp W b,p):xj a b=true:=by
 cases b with
 |some R=>exact Nt fun q hq r hr=>Ri h (hw q hq) hr
 |none=>
  cases W with
  |nil=>
   cases a with
   |nil=>rfl
   |cons q a=>exact absurd (hw q (by simp)) (by simp)
  |cons w W=>exact (h False (by simp [Gp])).elim
theorem SN {x y:l3} (hx:∀ q∈x.1.w,q∈x.2) (hy:∀ q∈y.1.w,q∈y.2) (ht:Ha x.1 y.1=true) (hp:∀ p∈G9 x y,p):y9 x.1 y.1=true:=by
 unfold G9 at hp
 unfold y9
 unfold Ha at ht
 have h1:xi x.1.w y.1.w=true:=Nt fun q hq r hr=>Ri (fun p h=>hp p (List.mem_append_left _ h)) (hx q hq) (hy r hr)
 have h2:xj x.1.w y.1.r=true:=Nr hx fun p h=>hp p (List.mem_append_right _ (List.mem_append_left _ h))
 have h3:xj y.1.w x.1.r=true:=Nr hy fun p h=>hp p (List.mem_append_right _ (List.mem_append_right _ (List.mem_append_left _ h)))
 have h4:(y.1.w.all fun q=>Nat.blt q x.1.lo||Nat.ble x.1.hi q)=true:=by
  rw [List.all_eq_true]
  intro q hq
  have:=hp _ (List.mem_append_right _ (List.mem_append_right _ (List.mem_append_right _ (List.mem_map.2 ⟨q,hy q hq,rfl⟩))))
  rcases this with h |h
  ·rw [Bool.or_eq_true];exact .inl (by simpa [Nat.blt_eq] using h)
  ·rw [Bool.or_eq_true];exact .inr (Nat.ble_eq_true_of_le h)
 rw [ht,h1,h2,h3,h4];rfl
theorem O6 {gu:Array Nat} {fs:List l3} (hw:∀ f∈fs,∀ q∈f.1.w,q∈f.2) (ht:Cz (loose gu fs)=true) (hp:gx (O5 (loose gu fs))):indep gu (fs.map (·.1))=true:=by
 unfold indep
 rw [List.all_eq_true]
 intro f hf
 rw [List.all_eq_true]
 intro g hg
 obtain ⟨f,j⟩:=f
 obtain ⟨g,i⟩:=g
 have hmem:∀{f:iX} {j:Nat},(f,j)∈(fs.map (·.1)).zipIdx→∃ F∈fs,F.1=f∧(F,j)∈fs.zipIdx:=fun {f j} h=>by
  rw [List.mem_zipIdx_iff_getElem?] at h
  simp only [List.getElem?_map,Option.map_eq_some_iff] at h
  obtain ⟨F,h1,h2⟩:=h
  exact ⟨F,List.mem_of_getElem? h1,h2,List.mem_zipIdx_iff_getElem?.2 h1⟩
 obtain ⟨F,hF,rfl,Xg⟩:=hmem hf
 obtain ⟨K,hK,rfl,Xh⟩:=hmem hg
 simp only
 cases hb:(Nat.ble j i||(gu.getD j 0).testBit i) with
 |true=>rfl
 |false=>
  rw [Bool.false_or]
  have hl:(K,F)∈loose gu fs:=List.mem_flatMap.2 ⟨_,Xg,List.mem_filterMap.2 ⟨_,Xh,by simp only [hb,cond_false]⟩⟩
  unfold Cz at ht
  rw [List.all_eq_true] at ht
  exact SN (hw K hK) (hw F hF) (ht _ hl) fun p h=>Me hp p (List.mem_flatMap.2 ⟨_,hl,h⟩)
def JE (l:List (l3×l3)):List Prop:=bif Cz l then [] else [False]
theorem O4 {l:List (l3×l3)} (h:gx (JE l)):Cz l=true:=by
 unfold JE at h
 cases e:Cz l with
 |true=>rfl
 |false=>rw [e] at h;exact h.1.elim
def R3 (H H1:Z) (W:List Nat):List Prop:=match W with
 |[]=>[]
 |_=>[cK H H1 W=true]
theorem ag0 {H H1:Z} {W:List Nat} (h:gx (R3 H H1 W)):cK H H1 W=true:=by
 cases W with
 |nil=>rfl
 |cons=>exact h.1
def tR (E:Env) (aA:Nat) (ops:Array Oper):List Oper→cg→Z→lZ→List Hint→Option (List Prop×cg×Z×List Nat×List l3×List Hint)
 |[],T,H,d,hs=>some ([],T,H,[],[],hs)
 |o::rest,T,H,d,hs=>match GC ops (oR T (mS ops o) .nil) o hs with
  |some (o9,true,hs)=>match GB E o (oR T (mS ops o) .nil) H d hs with
   |some (y5,v,H1,_,W,r,hs)=>match mo T aA o.dst v with
    |some T=>match tR E aA ops rest T H1 d hs with
     |some (nh,T,H2,V,fs,hs)=>some (o9++(y5++(R3 H H1 W++nh)),T,H2,W++V,(⟨o.dst,mS ops o,W.filter (Nat.blt · H.n),r,H.n,H1.n⟩,W)::fs,hs)
     |none=>none
    |none=>none
   |none=>none
  |some (o9,false,hs)=>match mo T aA o.dst dw with
   |some T=>match tR E aA ops rest T H d hs with
    |some (nh,T,H2,V,fs,hs)=>some (o9++nh,T,H2,V,(⟨o.dst,mS ops o,[],some [],H.n,H.n⟩,[])::fs,hs)
    |none=>none
   |none=>none
  |none=>none
def aP:List (Tmp×Value)→cg
 |[]=>.nil
 |(t,v)::l=>(aP l).set t v
theorem Fi:∀(l:List (Tmp×Value)) (t:Tmp) (v:Value),(aP l).get t=some v→(t,v)∈l
 |[],t,v,h=>by simp [aP,de.get] at h
 |(t',v')::l,t,v,h=>by
  simp only [aP] at h
  rw [de.kP] at h
  split at h
  ·rename_i e;subst e;injection h with h;subst h;simp
  ·exact List.mem_cons_of_mem _ (Fi l t v h)
def qI (T:cg):List Tmp→List (Tmp×Value)
 |[]=>[]
 |t::ts=>match T.get t with
  |some v=>(t,v)::qI T ts
  |none=>qI T ts
theorem H0 {T:cg}:∀(l:List Tmp) (t:Tmp) (v:Value),(t,v)∈qI T l→T.get t=some v
 |[],t,v,h=>by cases h
 |t'::l,t,v,h=>by
  unfold qI at h
  split at h
  ·rename_i v' hv
   rcases List.mem_cons.1 h with h |h
   ·injection h with h1 h2;subst h1;subst h2;exact hv
   ·exact H0 l t v h
  ·exact H0 l t v h
theorem mG.qI (T:cg) (l:List Tmp):mG (aP (qI T l)) T:=fun t v h=>H0 l t v (Fi _ t v h)
def oY (E:Env) (aA:Nat):Nat→Code→cg→Z→lZ→List Hint→Option (List Prop×fx×cg×Z×lZ×List Nat×List Hint)
 |0,_,_,_,_,_=>none
 |f+1,c,T,H,d,hs=>match Kg hs with
  |some (live,x,c9,h,W,hs)=>some ([dF E aA c (aP (qI T live)) H d x c9 h d W],x,c9,h,d,W,hs)
  |none=>match c with
  |.skip=>some ([],.normal,T,H,d,[],qk hs)
  |.label _=>some ([],.normal,T,H,d,[],qk hs)
  |.exit id=>some ([],.exit id,T,H,d,[],qk hs)
  |.goto l=>some ([],.goto l,T,H,d,[],qk hs)
  |.ret=>some ([],.ret,T,H,d,[],qk hs)
  |.region _ ops false=>match AU E aA ops ops.toList T H d (qk hs) with
   |some (Ps,T,H,d,W,hs)=>some (Ps,.normal,T,H,d,W,hs)
   |none=>none
  |.region _ ops true=>bif q3 ops then match tR E aA ops ops.toList T H d (qk hs) with
   |some (Ps,T,H,W,fs,hs)=>some (JE (loose (Region.before ops) fs)++(O5 (loose (Region.before ops) fs)++Ps),.normal,T,H,d,W,hs)
   |none=>none else none
  |.seq a b=>match oY E aA f a T H d (qk hs) with
   |some (Ps,.normal,T,H,d,W,hs)=>match oY E aA f b T H d hs with
    |some (w4,x,T,H,d,V,hs)=>some (Ps++w4,x,T,H,d,W++V,hs)
    |none=>none
   |r=>r
  |.cond o a b=>match qk hs with
   |.Tm v::hs=>match oY E aA f (bif v then a else b) T H d hs with
    |some (Ps,r)=>some ((ev E T o=some (.bool v))::Ps,r)
    |none=>none
   |hs=>match ev E T o with
    |some (.bool true)=>oY E aA f a T H d hs
    |some (.bool false)=>oY E aA f b T H d hs
    |_=>none
  |.block id c=>match qk hs with
   |.block id' live x c9 h W::hs=>bif Nat.beq id id' then some ([dF E aA (.block id c) (aP (qI T live)) H d x c9 h d W],x,c9,h,d,W,hs) else none
   |hs=>match oY E aA f c T H d hs with
    |some (Ps,.exit id',T,H,d,W,hs)=>bif Nat.beq id' id then some (Ps,.normal,T,H,d,W,hs) else some (Ps,.exit id',T,H,d,W,hs)
    |r=>r
  |.scope c=>match oY E aA f c T H d (qk hs) with
   |some (Ps,.goto l,T,H,d,W,hs)=>match findLabel c l with
    |some rest=>match oY E aA f rest T H d hs with
     |some (_,.goto _,_)=>none
     |some (w4,x,T,H,d,V,hs)=>some (Ps++w4,x,T,H,d,W++V,hs)
     |none=>none
    |none=>none
   |r=>r
  |.loop c=>match qk hs with
   |.loop live x c9 h W::hs=>some ([dF E aA (.loop c) (aP (qI T live)) H d x c9 h d W],x,c9,h,d,W,hs)
   |_=>none
  |_=>none
section
variable {E:Env}
theorem TB {g:FuncId} {args:List Value} {H H':Z} {v:Value} {W:List Nat} (h:tY E g args H (.ret v) H' W):∃ call,nf E call∧call g args H=some (.ret v,H',W):=by
 classical
 refine ⟨fun g' a' h'=>if g'=g∧a'=args∧h'=H then some (.ret v,H',W) else none,fun g' a' h' r k V hr wf cE=>?_,if_pos ⟨rfl,rfl,rfl⟩⟩
 simp only at hr
 split at hr
 ·rename_i hc
  obtain ⟨rfl,rfl,rfl⟩:=hc
  simp only [bH,b8] at hr
  obtain ⟨rfl,rfl,rfl⟩:=hr
  exact h
 ·cases hr
theorem Ap:nf E lw:=fun g a h r k V hr=>by simp [lw] at hr
theorem Kn {α β:Type} {P:Program} {s:Sem α} {f:α→Sem β} {a:α} (h:fr P s=some a):fr P (s >>= f)=fr P (f a):=by
 show fr P (s.bind f)=_
 induction s with
 |pure x=>simp only [fr,bH] at h;subst h;rfl
 |program k ih=>simp only [Sem.bind,fr] at h ⊢;exact ih _ h
 |mark m k ih=>simp only [Sem.bind,fr] at h ⊢;exact ih h
 |_=>simp [fr] at h
theorem UY {o:Oper} {T:cg} {H h h':Z} {d:lZ} {v v':Value} {W R W' R':List Nat} {Ps:List Prop} (hc:HC E o T H d v h W R=(Ps,v',h',W',R')) (hp:gx Ps):gJ E lw o T H d=some (.val v' h' d W' (some R')):=by
 obtain ⟨dst,op,ty,pos,after,guard⟩:=o
 unfold HC at hc
 simp only at hc
 split at hc
 ·split at hc
  ·rename_i hx
   injection hc with e1 e2;injection e2 with e2 bc;injection bc with bc aN;injection aN with aN bJ
   subst e1;subst e2;subst bc;subst aN;subst bJ
   have h1:=hp.1
   simp only [gJ,simple,hx,h1]
  ·injection hc with e1;subst e1;exact hp.1.elim
 ·split at hc
  ·rename_i hx hy
   injection hc with e1 e2;injection e2 with e2 bc;injection bc with bc aN;injection aN with aN bJ
   subst e1;subst e2;subst bc;subst aN;subst bJ
   have h1:=hp.1
   simp only [gJ,simple,hx,hy,h1]
  ·injection hc with e1;subst e1;exact hp.1.elim
 ·split at hc
  ·rename_i hx
   injection hc with e1 e2;injection e2 with e2 bc;injection bc with bc aN;injection aN with aN bJ
   subst e1;subst e2;subst bc;subst aN;subst bJ
   have h1:=hp.1
   simp only [gJ,simple,hx,h1]
  ·injection hc with e1;subst e1;exact hp.1.elim
 ·split at hc
  ·rename_i hx
   injection hc with e1 e2;injection e2 with e2 bc;injection bc with bc aN;injection aN with aN bJ
   subst e1;subst e2;subst bc;subst aN;subst bJ
   have h1:=hp.1
   simp only [gJ,simple,hx,h1]
  ·injection hc with e1;subst e1;exact hp.1.elim
 ·split at hc
  ·rename_i hx
   injection hc with e1 e2;injection e2 with e2 bc;injection bc with bc aN;injection aN with aN bJ
   subst e1;subst e2;subst bc;subst aN;subst bJ
   have h1:=hp.1
   simp only [gJ,simple,hx,h1]
  ·injection hc with e1;subst e1;exact hp.1.elim
 ·split at hc
  ·rename_i hx hy
   injection hc with e1 e2;injection e2 with e2 bc;injection bc with bc aN;injection aN with aN bJ
   subst e1;subst e2;subst bc;subst aN;subst bJ
   have h1:=hp.1
   simp only [gJ,simple,hx,hy,h1]
  ·injection hc with e1;subst e1;exact hp.1.elim
 ·split at hc
  ·rename_i hx hy
   injection hc with e1 e2;injection e2 with e2 bc;injection bc with bc aN;injection aN with aN bJ
   subst e1;subst e2;subst bc;subst aN;subst bJ
   have h1:=hp.1
   simp only [gJ,simple,hx,hy,h1]
  ·injection hc with e1;subst e1;exact hp.1.elim
 ·split at hc
  ·rename_i hx hy hz
   injection hc with e1 e2;injection e2 with e2 bc;injection bc with bc aN;injection aN with aN bJ
   subst e1;subst e2;subst bc;subst aN;subst bJ
   have h1:=hp.1
   simp only [gJ,simple,hx,hy,hz,h1]
  ·injection hc with e1;subst e1;exact hp.1.elim
 ·split at hc
  ·rename_i hx hy hz
   injection hc with e1 e2;injection e2 with e2 bc;injection bc with bc aN;injection aN with aN bJ
   subst e1;subst e2;subst bc;subst aN;subst bJ
   have h1:=hp.1
   simp only [gJ,simple,hx,hy,hz,h1]
  ·injection hc with e1;subst e1;exact hp.1.elim
 ·split at hc
  ·rename_i hx hl hi hm
   injection hc with e1 e2;injection e2 with e2 bc;injection bc with bc aN;injection aN with aN bJ
   subst e1;subst e2;subst bc;subst aN;subst bJ
   have h1:=hp.1
   simp only [gJ,simple,hx,hl,hi,hm,h1]
  ·rename_i hx hl hi hm
   injection hc with e1 e2;injection e2 with e2 bc;injection bc with bc aN;injection aN with aN bJ
   subst e1;subst e2;subst bc;subst aN;subst bJ
   have h1:=hp.1
   simp only [gJ,simple,hx,hl,hi,hm,h1]
  ·injection hc with e1;subst e1;exact hp.1.elim
 ·split at hc
  ·rename_i hx hi
   injection hc with e1 e2;injection e2 with e2 bc;injection bc with bc aN;injection aN with aN bJ
   subst e1;subst e2;subst bc;subst aN;subst bJ
   have h1:=hp.1
   simp only [gJ,simple,hx,hi,h1]
  ·injection hc with e1 e2;injection e2 with e2 bc;injection bc with bc aN;injection aN with aN bJ
   subst e1;subst e2;subst bc;subst aN;subst bJ
   exact hp.1
 ·rename_i P7 t0 x0 y0 LF
  split at hc
  ·rename_i a b hx hy
   injection hc with e1 e2;injection e2 with e2 bc;injection bc with bc aN;injection aN with aN bJ
   subst e1;subst e2;subst bc;subst aN;subst bJ
   have h1:=hp.1
   unfold Ej at h1
   cases hg:(ground (.agg a)&&ground (.agg b)) with
   |false=>rw [hg] at h1;cases h1
   |true=>
    rw [hg] at h1
    simp only [cond_true] at h1
    split at h1
    ·rename_i u hu
     cases xC:ground u with
     |false=>rw [xC] at h1;cases h1
     |true=>
      rw [xC] at h1
      simp only [cond_true,bH] at h1
      subst h1
      rw [dZ] at hg
      have XP:l9 E T ⟨dst,.binOp P7 t0 x0 y0 LF,ty,pos,after,guard⟩=some u:=by
       unfold l9
       have h2:qC E T [x0,y0]=true:=by
        unfold qC
        simp only [List.all_cons,List.all_nil,hx,hy,hg.1,hg.2,Bool.and_self]
       show (bif qC E T [x0,y0] then _ else _)=_
       rw [h2]
       simp only [cond_true]
       have h3:fr E.P (execOp (fun x=>(ev E T x).getD dw) ⟨dst,.binOp P7 t0 x0 y0 LF,ty,pos,after,guard⟩)=some (.value u):=by
        simp only [execOp,hx,hy,Option.getD_some]
        rw [Kn hu];rfl
       rw [h3]
       simp only [xC,cond_true]
      simp only [gJ,simple,XP]
    ·cases h1
  ·injection hc with e1 e2;injection e2 with e2 bc;injection bc with bc aN;injection aN with aN bJ
   subst e1;subst e2;subst bc;subst aN;subst bJ
   exact hp.1
 ·split at hc
  ·rename_i hg hx
   injection hc with e1 e2;injection e2 with e2 bc;injection bc with bc aN;injection aN with aN bJ
   subst e1;subst e2;subst bc;subst aN;subst bJ
   have h1:=hp.1
   simp only [gJ,simple,hg,hx,h1]
  ·injection hc with e1 e2;injection e2 with e2 bc;injection bc with bc aN;injection aN with aN bJ
   subst e1;subst e2;subst bc;subst aN;subst bJ
   exact hp.1
 ·injection hc with e1 e2;injection e2 with e2 bc;injection bc with bc aN;injection aN with aN bJ
  subst e1;subst e2;subst bc;subst aN;subst bJ
  exact hp.1
theorem MI {s:ByteArray} {n:Int} (h0:0≤n) (h1:n<(s.size:Int)):∃ b:UInt8,s[n.toNat]?=some b∧ad s n=(b.toNat:Int):=by
 have hlt:n.toNat<s.size:=by omega
 refine ⟨s[n.toNat],by simp [hlt],?_⟩
 unfold ad
 have:s.data[n.toNat]?=some s[n.toNat]:=by
  have h2:n.toNat<s.data.size:=hlt
  rw [Array.getElem?_eq_getElem h2];rfl
 rw [this];rfl
theorem Ud (ok:E.fy) {o:Oper} {T:cg} {H:Z} {d:lZ} {v:Value} {Ps:List Prop} (hc:Hy E o T=some (Ps,v)) (hp:gx Ps):gJ E lw o T H d=some (.val v H d [] (some [])):=by
 obtain ⟨dst,op,ty,pos,after,guard⟩:=o
 unfold Hy at hc
 simp only at hc
 split at hc
 ·
  rename_i t x i
  split at hc
  ·rename_i s k n hx hi ht
   simp only [bH,b8] at hc
   obtain ⟨rfl,rfl⟩:=hc
   obtain ⟨h0,h1,_⟩:=hp
   obtain ⟨b,hb,Ii⟩:=MI h0 h1
   have hg:l9 E T ⟨dst,.index t x i,ty,pos,after,guard⟩=some (.int .u8 (ad s n)):=by
    unfold l9
    have hall:qC E T (Op.operands (.index t x i)).toList=true:=by
     simp [qC,Op.operands,hx,hi,ground,lI]
    simp only [hall,cond_true]
    have hr:fr E.P (execOp (fun x=>(ev E T x).getD dw) ⟨dst,.index t x i,ty,pos,after,guard⟩)=some (.value (.int .u8 (ad s n))):=by
     simp only [execOp,hx,hi,Option.getD_some,Instr.index,asIntOf,underlying,program,bind,Sem.bind,fr,ok.ul ht,pure,h0,if_true,hb,Ii]
    rw [hr]
    simp [ground,lI]
   simp only [gJ,simple,hg]
  ·cases hc
 ·
  rename_i t x i
  split at hc
  ·rename_i b off k n m e hx hi ht
   split at hc
   ·rename_i sz hsz
    simp only [bH,b8] at hc
    obtain ⟨rfl,rfl⟩:=hc
    obtain ⟨h0,h1,_⟩:=hp
    simp only [gJ,simple,hx,hi,gk,ht,hsz,decide_eq_true h0,decide_eq_true h1,Bool.and_true,cond_true]
   ·cases hc
  ·rename_i b off m cp k n e hx hi ht
   split at hc
   ·rename_i sz hsz
    simp only [bH,b8] at hc
    obtain ⟨rfl,rfl⟩:=hc
    obtain ⟨h0,h1,_⟩:=hp
    simp only [gJ,simple,hx,hi,gk,ht,hsz,decide_eq_true h0,decide_eq_true h1,Bool.and_true,cond_true]
   ·cases hc
  ·cases hc
 ·
  rename_i t x l h
  have fin:∀(s:ByteArray) (bw RY:Option Value) (v:ByteArray),ev E T x=some (.string s)→l8 E T l=some bw→l8 E T h=some RY→(∀ y∈l.toArray++h.toArray,∃ u,ev E T y=some u∧ground u=true)→
    fr E.P (Instr.sliceAt t (.string s) (l.map fun x=>(ev E T x).getD dw) (h.map fun x=>(ev E T x).getD dw) none)=some (.string v)→
    gJ E lw ⟨dst,.slice t x l h none,ty,pos,after,guard⟩ T H d=some (.val (.string v) H d [] (some [])):=by
   intro s bw RY v hx hl hh hall hrun
   have hg:l9 E T ⟨dst,.slice t x l h none,ty,pos,after,guard⟩=some (.string v):=by
    unfold l9
    have Xm:qC E T (Op.operands (.slice t x l h none)).toList=true:=by
     unfold qC
     rw [List.all_eq_true]
     intro y hy
     have hy:y=x∨y∈l.toArray++h.toArray:=by simpa [Op.operands,or_assoc] using hy
     rcases hy with rfl |hy
     ·rw [hx];rfl
     ·obtain ⟨u,h1,h2⟩:=hall y hy
      rw [h1];exact h2
    simp only [Xm,cond_true]
    have hr:fr E.P (execOp (fun x=>(ev E T x).getD dw) ⟨dst,.slice t x l h none,ty,pos,after,guard⟩)=some (.value (.string v)):=by
     simp only [execOp,hx,Option.getD_some,Option.map_none]
     exact Kn hrun
    rw [hr]
    simp [ground,lI]
   have he:l8 E T none=some none:=rfl
   simp only [gJ,simple,hx,hl,hh,he,hg]
  have ex:∀{l:Option Operand} {k:IntKind} {n:Int},l8 E T l=some (some (.int k n))→∃ y,l=some y∧ev E T y=some (.int k n):=by
   intro l k n hl
   cases l with
   |none=>cases hl
   |some y=>
    simp only [l8] at hl
    split at hl
    ·rename_i v hv;simp only [bH] at hl;subst hl;exact ⟨y,rfl,hv⟩
    ·cases hl
  have El:∀{l:Option Operand},l8 E T l=some none→l=none:=by
   intro l hl
   cases l with
   |none=>rfl
   |some y=>
    simp only [l8] at hl
    split at hl
    ·simp at hl
    ·cases hl
  split at hc
  ·rename_i s hx hl hh ht
   simp only [bH,b8] at hc
   obtain ⟨rfl,rfl⟩:=hc
   have:=El hl;subst this
   have:=El hh;subst this
   exact fin s none none _ hx hl hh (by simp) (by simp [Instr.sliceAt,Instr.slice,Instr.sliceBounds,underlying,program,bind,Sem.bind,fr,ok.ul ht,pure])
  ·rename_i s k n hx hl hh ht
   simp only [bH,b8] at hc
   obtain ⟨rfl,rfl⟩:=hc
   obtain ⟨h0,h1,_⟩:=hp
   obtain ⟨y,rfl,hy⟩:=ex hl
   have:=El hh;subst this
   exact fin s _ none _ hx hl hh (by simp [hy,ground,lI]) (by simp [Instr.sliceAt,Instr.slice,Instr.sliceBounds,Instr.sliceBound,asIntOf,underlying,program,bind,Sem.bind,fr,ok.ul ht,pure,hy,h0,h1])
  ·rename_i s k n hx hl hh ht
   simp only [bH,b8] at hc
   obtain ⟨rfl,rfl⟩:=hc
   obtain ⟨h0,h1,_⟩:=hp
   obtain ⟨y,rfl,hy⟩:=ex hh
   have:=El hl;subst this
   exact fin s none _ _ hx hl hh (by simp [hy,ground,lI]) (by simp [Instr.sliceAt,Instr.slice,Instr.sliceBounds,Instr.sliceBound,asIntOf,underlying,program,bind,Sem.bind,fr,ok.ul ht,pure,hy,h0,h1])
  ·rename_i s k n k2 n2 hx hl hh ht
   simp only [bH,b8] at hc
   obtain ⟨rfl,rfl⟩:=hc
   obtain ⟨h0,h1,h2,_⟩:=hp
   obtain ⟨y,rfl,hy⟩:=ex hl
   obtain ⟨ar,rfl,Og⟩:=ex hh
   have h3:0≤n2:=by omega
   have h4:n≤(n2.toNat:Int):=by omega
   have h5:n≤max n2 0:=by omega
   exact fin s _ _ _ hx hl hh (by simp [hy,Og,ground,lI]) (by simp [Instr.sliceAt,Instr.slice,Instr.sliceBounds,Instr.sliceBound,asIntOf,underlying,program,bind,Sem.bind,fr,ok.ul ht,pure,hy,Og,h0,h2,h3,h4,h5])
  ·cases hc
 ·cases hc
theorem Uc {op:BinOp} {t u:TypeId} {x y:Operand} {T:cg} {H:Z} {d:lZ} {v:Value} {Ps:List Prop} {dst:Option Tmp} {ty:TypeId} {pos:_} {after:_} {guard:_} (hc:Hw E T op x y=some (Ps,v)) (hp:gx Ps) :
  gJ E lw ⟨dst,.binOp op t x y u,ty,pos,after,guard⟩ T H d=some (.val v H d [] (some [])):=by
 have fin:∀(a b:Value),ev E T x=some a→ev E T y=some b→ground a=true→ground b=true→ground v=true→(∀ p q:Operand,(do eqGuard op t p q a b;binOp op t a b:Sem Value)=pure v)→
   gJ E lw ⟨dst,.binOp op t x y u,ty,pos,after,guard⟩ T H d=some (.val v H d [] (some [])):=by
  intro a b hx hy cU pv Xb hr
  have hg:l9 E T ⟨dst,.binOp op t x y u,ty,pos,after,guard⟩=some v:=by
   unfold l9
   have hall:qC E T (Op.operands (.binOp op t x y u)).toList=true:=by
    simp [qC,Op.operands,hx,hy,cU,pv]
   simp only [hall,cond_true]
   have hr':fr E.P (execOp (fun x=>(ev E T x).getD dw) ⟨dst,.binOp op t x y u,ty,pos,after,guard⟩)=some (.value v):=by
    simp only [execOp,hx,hy,Option.getD_some]
    rw [hr];rfl
   rw [hr']
   simp only [Xb,cond_true,if_true]
  simp only [gJ,simple,hg]
 unfold Hw at hc
 split at hc
 ·rename_i k a k2 b hx hy
  simp only [bH,b8] at hc
  obtain ⟨rfl,rfl⟩:=hc
  refine fin _ _ hx hy rfl rfl rfl fun p q=>?_
  show Op.shift .shl k a k2 b=_
  unfold Op.shift
  rw [if_neg (by have:=hp.1;omega)]
 ·rename_i k a k2 b hx hy
  simp only [bH,b8] at hc
  obtain ⟨rfl,rfl⟩:=hc
  refine fin _ _ hx hy rfl rfl rfl fun p q=>?_
  show Op.shift .shr k a k2 b=_
  unfold Op.shift
  rw [if_neg (by have:=hp.1;omega)]
 ·rename_i k a k2 b hx hy
  by_cases e:k=k2
  ·subst e
   simp only [decide_true,cond_true,bH,b8] at hc
   obtain ⟨rfl,rfl⟩:=hc
   refine fin _ _ hx hy rfl rfl rfl fun p q=>?_
   show (if k≠k then stuck _ else Op.intDiv .quo k a b)=_
   rw [if_neg (by simp)]
   unfold Op.intDiv
   rw [if_neg hp.1]
  ·simp only [decide_eq_false e,cond_false] at hc;cases hc
 ·rename_i k a k2 b hx hy
  by_cases e:k=k2
  ·subst e
   simp only [decide_true,cond_true,bH,b8] at hc
   obtain ⟨rfl,rfl⟩:=hc
   refine fin _ _ hx hy rfl rfl rfl fun p q=>?_
   show (if k≠k then stuck _ else Op.intDiv .rem k a b)=_
   rw [if_neg (by simp)]
   unfold Op.intDiv
   rw [if_neg hp.1]
  ·simp only [decide_eq_false e,cond_false] at hc;cases hc
 ·rename_i k a k2 b hx hy
  by_cases e:k=k2
  ·subst e
   simp only [decide_true,cond_true,bH,b8] at hc
   obtain ⟨rfl,rfl⟩:=hc
   refine fin _ _ hx hy rfl rfl rfl fun p q=>?_
   show (if k≠k then stuck _ else Op.floatArith .mul k a b)=_
   rw [if_neg (by simp)]
   obtain ⟨r,hr⟩:=Option.isSome_iff_exists.1 hp.1
   rw [hr]
   show (match k.format.mul a b with |some r=>pure (.float k r) |none=>_:Sem Value)=_
   rw [hr];rfl
  ·simp only [decide_eq_false e,cond_false] at hc;cases hc
 ·rename_i k a k2 b hx hy
  by_cases e:k=k2
  ·subst e
   simp only [decide_true,cond_true,bH,b8] at hc
   obtain ⟨rfl,rfl⟩:=hc
   refine fin _ _ hx hy rfl rfl rfl fun p q=>?_
   show (if k≠k then stuck _ else Op.floatArith .quo k a b)=_
   rw [if_neg (by simp)]
   obtain ⟨r,hr⟩:=Option.isSome_iff_exists.1 hp.1
   rw [hr]
   show (match k.format.div a b with |some r=>pure (.float k r) |none=>_:Sem Value)=_
   rw [hr];rfl
  ·simp only [decide_eq_false e,cond_false] at hc;cases hc
 ·cases hc
theorem Ue (ok:E.fy) {o:Oper} {T:cg} {H:Z} {d:lZ} {v:Value} {Ps:List Prop} (hc:Hx E o T=some (Ps,v)) (hp:gx Ps):gJ E lw o T H d=some (.val v H d [] (some [])):=by
 unfold Hx at hc
 split at hc
 ·rename_i op t x y u ho
  obtain ⟨dst,op',ty,pos,after,guard⟩:=o
  have ho:op'=_:=ho
  subst ho
  exact Uc hc hp
 ·exact Ud ok hc hp
theorem RG (ok:E.fy) {o:Oper} {T:cg} {H H':Z} {d d':lZ} {hs hs':List Hint} {Ps:List Prop} {v:Value} {W:List Nat} {r:Option (List Nat)} (h:GB E o T H d hs=some (Ps,v,H',d',W,r,hs')) (hp:gx Ps) (wf:cW H) (cE:E.d4≤H.n) :
  ∃ call,nf E call∧gJ E call o T H d=some (.val v H' d' W r):=by
 unfold GB at h
 split at h
 ·split at h
  ·rename_i hop
   simp only [bH,b8] at h
   obtain ⟨rfl,rfl,rfl,rfl,rfl,rfl,_⟩:=h
   exact ⟨lw,Ap,hop⟩
  ·cases h
 ·split at h
  ·rename_i b1 x1 h1 d1 w1 r1 hop
   simp only [bH,b8] at h
   obtain ⟨rfl,rfl,rfl,rfl,rfl,rfl,_⟩:=h
   have e:=hp.1
   subst e
   exact ⟨lw,Ap,hop⟩
  ·cases h
 ·split at h
  ·rename_i u1 v1 h1 d1 w1 r1 hop
   simp only [bH,b8] at h
   obtain ⟨rfl,rfl,rfl,rfl,rfl,rfl,_⟩:=h
   have e:=hp.1
   subst e
   exact ⟨lw,Ap,hop⟩
  ·cases h
 ·split at h
  ·rename_i o9 v1 s9
   simp only [bH,b8] at h
   obtain ⟨rfl,rfl,rfl,rfl,rfl,rfl,_⟩:=h
   exact ⟨lw,Ap,Ue ok s9 hp⟩
  ·cases h
 ·split at h
  rename_i o9 v1 h1 w1 r1 Io
  simp only [bH,b8] at h
  obtain ⟨rfl,rfl,rfl,rfl,rfl,rfl,_⟩:=h
  exact ⟨lw,Ap,UY Io hp⟩
 ·rename_i v' h' W' hs1
  cases hc:Oq o.op with
  |false=>rw [hc] at h;cases h
  |true=>
   rw [hc] at h
   simp only [cond_true] at h
   split at h
   ·rename_i c BQ
    split at h
    ·rename_i g args hres
     simp only [bH,b8] at h
     obtain ⟨rfl,rfl,rfl,rfl,rfl,rfl,_⟩:=h
     obtain ⟨call,k1,k2⟩:=TB (hp.1 wf cE)
     refine ⟨call,k1,?_⟩
     obtain ⟨dst,op,ty,pos,after,guard⟩:=o
     cases op <;> simp only [MQ] at BQ <;> first
      |(cases BQ;done)
      |skip
     injection BQ with BQ
     subst BQ
     rename_i c
     obtain ⟨callee,ahG,ts⟩:=c
     cases callee with
     |builtin b=>cases hc
     |value f=>simp only [gJ,hres,k2]
     |invoke r m=>simp only [gJ,hres,k2]
    ·cases h
   ·cases h
 ·cases h
theorem GD {ops:Array Oper} {T:cg} {o:Oper} {hs hs':List Hint} {Ps:List Prop} {b:Bool} (h:GC ops T o hs=some (Ps,b,hs')) (hp:gx Ps):vi ops T o=some b:=by
 unfold GC at h
 split at h
 ·simp only [bH,b8] at h
  obtain ⟨rfl,rfl,_⟩:=h
  exact hp.1
 ·split at h
  ·rename_i hw
   simp only [bH,b8] at h
   obtain ⟨rfl,rfl,_⟩:=h
   exact hw
  ·cases h
theorem Lg (ok:E.fy) {aA:Nat} {ops:Array Oper}:∀(rest:List Oper) (T c9:cg) (H H':Z) (d d':lZ) (hs hs':List Hint) (Ps:List Prop) (W:List Nat),AU E aA ops rest T H d hs=some (Ps,c9,H',d',W,hs')→gx Ps→cW H→E.d4≤H.n→
  dn W H H'∧cW H'∧∀(base:Nat) (φ:bC) (w:World) (a:Act),sG E base φ w aA ⟨T,H,d,[]⟩ a→gw φ H.n H'.n→wpList E.P ops (Post E base φ w aA H W .normal ⟨c9,H',d',[]⟩) rest a w
 |[],T,c9,H,H',d,d',hs,hs',Ps,W,h,hp,wf,cE=>by
  simp only [AU,bH,b8] at h
  obtain ⟨rfl,rfl,rfl,rfl,rfl,_⟩:=h
  exact ⟨dn.refl ..,wf,fun base φ w a hs hf=>⟨φ,Out.refl [] hs.rel,rfl,hs.aT,hs.je⟩⟩
 |o::rest,T,c9,H,H',d,d',hs,hs',Ps,W,h,hp,wf,cE=>by
  simp only [AU] at h
  split at h
  ·rename_i o9 hs1 xO
   split at h
   ·rename_i y5 v H1 d1 hU r1 uw hop
    split at h
    ·rename_i gG oC
     split at h
     ·rename_i nh mF H2 d2 V IH mc
      simp only [bH,b8] at h
      obtain ⟨rfl,rfl,rfl,rfl,rfl,_⟩:=h
      rw [ni,ni] at hp
      obtain ⟨jZ,oG,zP⟩:=hp
      have hw:=GD xO jZ
      obtain ⟨call,hc,ES⟩:=RG ok hop oG wf cE
      obtain ⟨g1,g2,g3⟩:DN E o T H d v H1 d1 hU:=FS ok hc wf cE ES
      have jP:=g1.n
      obtain ⟨aC,kX,k⟩:=Lg ok rest _ _ _ _ _ _ _ _ _ _ mc zP g2 J
      have hn2:=aC.n
      refine ⟨g1.trans aC,kX,fun base φ w a hs hf=>?_⟩
      simp only [wpList]
      rw [if_pos (yJ hs.aT hw)]
      refine .inl (g3 base φ w a aA _ _ hs.rel (hf.first hn2) hs.aT hs.je fun be w' u a' ci jo rL hda=>?_)
      have oH:ii be T a'.tmps aA:=by rw [rL];exact hs.aT.mono (ci.sub (hf.first hn2))
      have:=k base be w' (a'.put o.dst u) ⟨ci.rel,oH.put jo oC,by rw [put_defers];exact hda⟩ (hf.next ci jP)
      exact GO (fun e a w h=>Post.Ev g1 aC ci hf h) _ _ _ this
     ·cases h
    ·cases h
   ·cases h
  ·rename_i o9 hs1 xO
   split at h
   ·rename_i gG oC
    split at h
    ·rename_i nh mF H2 d2 V IH mc
     simp only [bH,b8] at h
     obtain ⟨rfl,rfl,rfl,rfl,rfl,_⟩:=h
     rw [ni] at hp
     have hw:=GD xO hp.1
     obtain ⟨aC,kX,k⟩:=Lg ok rest _ _ _ _ _ _ _ _ _ _ mc hp.2 wf cE
     refine ⟨aC,kX,fun base φ w a hs hf=>?_⟩
     simp only [wpList]
     rw [if_neg (by rw [yJ hs.aT hw];simp)]
     exact k base φ w _ ⟨hs.rel,hs.aT.put (.tuple' ⟨rfl,fun i x y hx=>by simp at hx⟩) oC,by rw [put_defers];exact hs.je⟩ hf
    ·cases h
   ·cases h
  ·cases h
theorem Le (ok:E.fy) {aA:Nat} {ops:Array Oper}:∀(rest:List Oper) (T c9:cg) (H H':Z) (d:lZ) (hs hs':List Hint) (Ps:List Prop) (W:List Nat) (fs:List l3),tR E aA ops rest T H d hs=some (Ps,c9,H',W,fs,hs')→gx Ps→(∀ o∈rest,xU o.op=false)→
  ∃(hp:Nat→Z) (ts:Nat→cg) (kA:Nat→List Nat) (ft:Nat→iX),hp 0=H∧ts 0=T∧hp rest.length=H'∧ts rest.length=c9∧
   (∀ j,j<rest.length→∀ q,q∈kA j→q∈W)∧fs.map (·.1)=(List.range rest.length).map ft∧
   ∀(j:Nat) (o:Oper),rest[j]?=some o→cW (hp j)→E.d4≤(hp j).n→∃ call,nf E call∧pZ E call aA ops d o (ts j) (ts (j+1)) (hp j) (hp (j+1)) (kA j) (ft j)
 |[],T,c9,H,H',d,hs,hs',Ps,W,fs,h,hp,hd=>by
  simp only [tR,bH,b8] at h
  obtain ⟨rfl,rfl,rfl,rfl,rfl,_⟩:=h
  exact ⟨fun _=>H,fun _=>T,fun _=>[],fun _=>⟨none,[],[],none,0,0⟩,rfl,rfl,rfl,rfl,fun j hj=>by simp at hj,by simp,fun j o h=>by simp at h⟩
 |o::rest,T,c9,H,H',d,hs,hs',Ps,W,fs,h,hp,hd=>by
  simp only [tR] at h
  have glue:∀(gG:cg) (H1:Z) (hU:List Nat) (f:l3) (nh:List Prop) (V:List Nat) (xq:List l3) (uw:List Hint),(cW H→E.d4≤H.n→∃ call,nf E call∧pZ E call aA ops d o T gG H H1 hU f.1)→tR E aA ops rest gG H1 d uw=some (nh,c9,H',V,xq,hs')→gx nh→
    W=hU++V→fs=f::xq→
    ∃(hp:Nat→Z) (ts:Nat→cg) (kA:Nat→List Nat) (ft:Nat→iX),hp 0=H∧ts 0=T∧hp (o::rest).length=H'∧ts (o::rest).length=c9∧
     (∀ j,j<(o::rest).length→∀ q,q∈kA j→q∈W)∧fs.map (·.1)=(List.range (o::rest).length).map ft∧
     ∀(j:Nat) (o':Oper),(o::rest)[j]?=some o'→cW (hp j)→E.d4≤(hp j).n→∃ call,nf E call∧pZ E call aA ops d o' (ts j) (ts (j+1)) (hp j) (hp (j+1)) (kA j) (ft j):=by
   intro gG H1 hU f nh V xq uw hstep mc zP hW EK
   obtain ⟨hq,ts,kA,ft,a1,a2,a3,a4,a5,a6,a7⟩:=Le ok rest _ _ _ _ _ _ _ _ _ _ mc zP (fun o' ho'=>hd o' (List.mem_cons_of_mem _ ho'))
   refine ⟨fun |0=>H |j+1=>hq j,fun |0=>T |j+1=>ts j,fun |0=>hU |j+1=>kA j,fun |0=>f.1 |j+1=>ft j,rfl,rfl,a3,a4,?_,?_,?_⟩
   ·intro j hj q hq
    rw [hW]
    cases j with
    |zero=>exact List.mem_append_left _ hq
    |succ j=>exact List.mem_append_right _ (a5 j (by simpa using hj) q hq)
   ·rw [EK,List.map_cons,a6,dX,List.range_succ_eq_map,List.map_cons,List.map_map]
    simp [Function.comp_def]
   ·intro j o' ho' hwf cE
    cases j with
    |zero=>
     simp at ho'
     subst ho'
     obtain ⟨call,c1,c2⟩:=hstep hwf cE
     exact ⟨call,c1,by show pZ E call aA ops d o T (ts 0) H (hq 0) hU f.1;rw [a1,a2];exact c2⟩
    |succ j=>exact a7 j o' (by simpa using ho') hwf cE
  split at h
  ·rename_i o9 hs1 xO
   split at h
   ·rename_i y5 v H1 d1 hU r1 uw hop
    split at h
    ·rename_i gG oC
     split at h
     ·rename_i nh mF H2 V xq IH mc
      simp only [bH,b8] at h
      obtain ⟨rfl,rfl,rfl,rfl,rfl,rfl⟩:=h
      rw [ni,ni,ni] at hp
      obtain ⟨jZ,oG,zP⟩:=hp
      have hw:=GD xO jZ
      refine glue gG H1 hU _ nh V xq uw (fun hwf cE=>?_) mc zP.2 rfl rfl
      obtain ⟨call,hc,ES⟩:=RG ok hop oG hwf cE
      obtain ⟨dT,_⟩:=Ka (hd o (by simp)) ES
      subst dT
      exact ⟨call,hc,.go v hU r1 hw ES oC (ag0 zP.1)⟩
     ·cases h
    ·cases h
   ·cases h
  ·rename_i o9 hs1 xO
   split at h
   ·rename_i gG oC
    split at h
    ·rename_i nh mF H2 V xq IH mc
     simp only [bH,b8] at h
     obtain ⟨rfl,rfl,rfl,rfl,rfl,rfl⟩:=h
     rw [ni] at hp
     have hw:=GD xO hp.1
     exact glue gG H [] _ nh V xq hs1 (fun hwf cE=>⟨lw,Ap,.skip hw oC rfl⟩) mc hp.2 rfl rfl
    ·cases h
   ·cases h
  ·cases h
theorem GA {aA:Nat} {ops:Array Oper}:∀(rest:List Oper) (T c9:cg) (H H':Z) (d:lZ) (hs hs':List Hint) (Ps:List Prop) (W:List Nat) (fs:List l3),tR E aA ops rest T H d hs=some (Ps,c9,H',W,fs,hs')→∀ f∈fs,∀ q∈f.1.w,q∈f.2
 |[],T,c9,H,H',d,hs,hs',Ps,W,fs,h=>by
  simp only [tR,bH,b8] at h
  obtain ⟨_,_,_,_,rfl,_⟩:=h
  intro f hf;cases hf
 |o::rest,T,c9,H,H',d,hs,hs',Ps,W,fs,h=>by
  simp only [tR] at h
  split at h
  ·split at h
   ·split at h
    ·split at h
     ·rename_i mc
      simp only [bH,b8] at h
      obtain ⟨_,_,_,_,rfl,_⟩:=h
      intro f hf
      rcases List.mem_cons.1 hf with rfl |hf
      ·exact fun q hq=>(List.mem_filter.1 hq).1
      ·exact GA rest _ _ _ _ _ _ _ _ _ _ mc f hf
     ·cases h
    ·cases h
   ·cases h
  ·split at h
   ·split at h
    ·rename_i mc
     simp only [bH,b8] at h
     obtain ⟨_,_,_,_,rfl,_⟩:=h
     intro f hf
     rcases List.mem_cons.1 hf with rfl |hf
     ·exact fun q hq=>hq
     ·exact GA rest _ _ _ _ _ _ _ _ _ _ mc f hf
    ·cases h
   ·cases h
  ·cases h
theorem oc (ok:E.fy) {aA:Nat}:∀(f:Nat) (c:Code) (T c9:cg) (H H':Z) (d d':lZ) (hs hs':List Hint) (Ps:List Prop) (x:fx) (W:List Nat),oY E aA f c T H d hs=some (Ps,x,c9,H',d',W,hs')→gx Ps→dF E aA c T H d x c9 H' d' W
 |0,_,_,_,_,_,_,_,_,_,_,_,_,h,_=>by simp [oY] at h
 |f+1,c,T,c9,H,H',d,d',hs,hs',Ps,x,W,h,hp=>by
  unfold oY at h
  cases zQ:Kg hs with
  |some p=>
   obtain ⟨live,x1,gG,h1,hU,hs1⟩:=p
   rw [zQ] at h
   simp only [bH,b8] at h;obtain ⟨rfl,rfl,rfl,rfl,rfl,rfl,_⟩:=h
   exact hp.1.pre (mG.qI _ _)
  |none=>
  rw [zQ] at h
  generalize qk hs=hs at h
  simp only at h
  split at h
  ·simp only [bH,b8] at h;obtain ⟨rfl,rfl,rfl,rfl,rfl,rfl,_⟩:=h;exact dF.skip
  ·simp only [bH,b8] at h;obtain ⟨rfl,rfl,rfl,rfl,rfl,rfl,_⟩:=h;exact dF.label
  ·simp only [bH,b8] at h;obtain ⟨rfl,rfl,rfl,rfl,rfl,rfl,_⟩:=h;exact dF.exit
  ·simp only [bH,b8] at h;obtain ⟨rfl,rfl,rfl,rfl,rfl,rfl,_⟩:=h;exact dF.goto
  ·simp only [bH,b8] at h;obtain ⟨rfl,rfl,rfl,rfl,rfl,rfl,_⟩:=h;exact dF.ret
  ·
   rename_i id ops
   split at h
   ·rename_i vu gG H1 d1 hU hs1 Yb
    simp only [bH,b8] at h;obtain ⟨rfl,rfl,rfl,rfl,rfl,rfl,_⟩:=h
    intro wf cE
    obtain ⟨k1,k2,jp⟩:=Lg ok _ _ _ _ _ _ _ _ _ _ _ Yb hp wf cE
    refine ⟨k1,k2,fun base φ w a dH hf=>wp_region ?_⟩
    have e:∀ Q,wpOps E.P ops Q (List.range ops.size)=wpList E.P ops Q ops.toList:=fun Q=>by
     have:=wpOps_eq_wpList (P:=E.P) (ops:=ops) (Q:=Q) ops.toList 0 (fun j=>by simp)
     rw [Array.length_toList] at this
     rw [List.range_eq_range',this]
    rw [e]
    exact jp base φ w a dH hf
   ·cases h
  ·
   rename_i id ops
   cases hro:q3 ops with
   |false=>rw [hro] at h;cases h
   |true=>
    rw [hro] at h
    simp only [cond_true] at h
    split at h
    ·rename_i vu gG H1 hU fs hs1 eK
     simp only [bH,b8] at h;obtain ⟨rfl,rfl,rfl,rfl,rfl,rfl,_⟩:=h
     rw [ni,ni] at hp
     obtain ⟨ht,hp⟩:=hp
     have ht:=O4 ht
     have hi:=O6 (GA _ _ _ _ _ _ _ _ _ _ _ eK) ht hp.1
     have hp:=hp.2
     intro wf cE
     obtain ⟨hq,ts,kA,ft,a1,a2,a3,a4,a5,a6,a7⟩:=Le ok _ _ _ _ _ _ _ _ _ _ _ eK hp (J4 hro)
     simp only [Array.length_toList] at a3 a4 a5 a6
     rw [a6] at hi
     obtain ⟨k1,k2,jp⟩:=Nv (id:=id) (W:=hU) ok hro hi a5 a7 (by rw [a1];exact wf) (by rw [a1];exact cE)
     rw [a1,a3] at k1
     rw [a3] at k2
     refine ⟨k1,k2,fun base φ w a dH hf=>?_⟩
     have:=jp base φ w a [] [] (by rw [a1,a2];exact dH) (by rw [a1,a3];exact hf)
     rw [a1,a3,a4] at this
     exact this
    ·cases h
  ·
   rename_i a b
   split at h
   ·rename_i o9 gG H1 d1 hU hs1 h1
    split at h
    ·rename_i y5 aC mF H2 d2 V uw h2
     simp only [bH,b8] at h;obtain ⟨rfl,rfl,rfl,rfl,rfl,rfl,_⟩:=h
     rw [ni] at hp
     exact dF.seq (oc ok f _ _ _ _ _ _ _ _ _ _ _ _ h1 hp.1) (oc ok f _ _ _ _ _ _ _ _ _ _ _ _ h2 hp.2)
    ·cases h
   ·rename_i r hne
    have hx:x≠.normal:=fun e=>by subst e;exact hne _ _ _ _ _ _ h
    exact dF.aeE (oc ok f _ _ _ _ _ _ _ _ _ _ _ _ h hp) hx
  ·
   rename_i o a b
   split at h
   ·rename_i v hs1
    split at h
    ·rename_i vu r hr
     simp only [bH,b8] at h
     obtain ⟨rfl,rfl⟩:=h
     obtain ⟨h1,hp⟩:=hp
     refine dF.cond h1 ?_
     cases v with
     |true=>exact oc ok f _ _ _ _ _ _ _ _ _ _ _ _ hr hp
     |false=>exact oc ok f _ _ _ _ _ _ _ _ _ _ _ _ hr hp
    ·cases h
   ·split at h
    ·rename_i hb;exact dF.cond hb (oc ok f _ _ _ _ _ _ _ _ _ _ _ _ h hp)
    ·rename_i hb;exact dF.cond hb (oc ok f _ _ _ _ _ _ _ _ _ _ _ _ h hp)
    ·cases h
  ·
   rename_i id c1
   split at h
   ·rename_i id' live x' gG H1 hU hs1
    cases hid:Nat.beq id id' with
    |false=>rw [hid] at h;cases h
    |true=>
     rw [hid] at h
     simp only [cond_true,bH,b8] at h;obtain ⟨rfl,rfl,rfl,rfl,rfl,rfl,_⟩:=h
     exact hp.1.pre (mG.qI _ _)
   ·split at h
    ·rename_i vu id' gG H1 d1 hU hs1 h1
     have g:=oc ok f _ _ _ _ _ _ _ _ _ _ _ _ h1
     cases hid:Nat.beq id' id with
     |true=>
      rw [hid] at h
      simp only [cond_true,bH,b8] at h;obtain ⟨rfl,rfl,rfl,rfl,rfl,rfl,_⟩:=h
      have e:=Nat.eq_of_beq_eq_true hid
      subst e
      exact dF.Ti (g hp)
     |false=>
      rw [hid] at h
      simp only [cond_false,bH,b8] at h;obtain ⟨rfl,rfl,rfl,rfl,rfl,rfl,_⟩:=h
      exact dF.block (g hp) (fun e=>by injection e with e;rw [e,Nat.beq_refl] at hid;cases hid)
    ·rename_i r hne
     exact dF.block (oc ok f _ _ _ _ _ _ _ _ _ _ _ _ h hp) (fun e=>by subst e;exact hne _ _ _ _ _ _ _ h)
  ·
   rename_i c1
   split at h
   ·rename_i vu l gG H1 d1 hU hs1 h1
    split at h
    ·rename_i rest hfl
     split at h
     ·cases h
     ·rename_i w4 aC mF H2 d2 ahF uw hne h2
      simp only [bH,b8] at h;obtain ⟨rfl,rfl,rfl,rfl,rfl,rfl,_⟩:=h
      rw [ni] at hp
      exact dF.aeD (oc ok f _ _ _ _ _ _ _ _ _ _ _ _ h1 hp.1) hfl (oc ok f _ _ _ _ _ _ _ _ _ _ _ _ h2 hp.2) fun l e=>by subst e;exact hne l rfl
     ·cases h
    ·cases h
   ·rename_i hne
    have g:=oc ok f _ _ _ _ _ _ _ _ _ _ _ _ h hp
    exact dF.scope g fun l e=>by subst e;exact hne _ _ _ _ _ _ _ h
  ·
   rename_i c1
   split at h
   ·simp only [bH,b8] at h;obtain ⟨rfl,rfl,rfl,rfl,rfl,rfl,_⟩:=h
    exact hp.1.pre (mG.qI _ _)
   ·cases h
  ·cases h
end
def cx (fn:Func):Code:=match fn.body with |some c=>c |none=>.skip
def cw:List Nat→Code→Code
 |[],c=>c
 |0::p,.seq a _=>cw p a
 |_::p,.seq _ b=>cw p b
 |0::p,.cond _ a _=>cw p a
 |_::p,.cond _ _ b=>cw p b
 |_::p,.block _ c=>cw p c
 |_::p,.loop c=>cw p c
 |_::p,.scope c=>cw p c
 |_,c=>c
def HZ (T:cg):List (Tmp×Value)→List Prop
 |[]=>[]
 |(t,v)::l=>(T.get t=some v)::HZ T l
theorem H6 {T:cg}:∀{l:List (Tmp×Value)},gx (HZ T l)→∀ t v,(t,v)∈l→T.get t=some v
 |[],_,t,v,h=>by cases h
 |(t',v')::l,hp,t,v,h=>by
  rcases List.mem_cons.1 h with h |h
  ·injection h with h1 h2;subst h1;subst h2;exact hp.1
  ·exact H6 hp.2 t v h
def qp (E:Env) (aA f:Nat) (c:Code) (pre post:List (Tmp×Value)) (H:Z) (hs:List Hint):Option (List Prop×fx×Z×List Nat):=
 match oY E aA f c (aP pre) H [] hs with
 |some (Ps,x,c9,H',[],W,[])=>some (Ps++HZ c9 post,x,H',W)
 |_=>none
def yA (E:Env) (fn:Func) (f:Nat) (args:List Value) (H:Z) (rv:Option Value) (hs:List Hint):Option (List Prop×Value×Z×List Nat):=
 match oY E fn.ntmps f (cx fn) (tS args 0 .nil) H [] hs with
 |some (Ps,x,c9,H',[],W,[])=>match (match x with |.ret=>true |.normal=>true |_=>false) with
  |true=>match rv with
   |some v=>some (Ps++[u9 E fn ⟨c9,H',[],[]⟩=some v],v,H',W)
   |none=>match u9 E fn ⟨c9,H',[],[]⟩ with
    |some v=>some (Ps,v,H',W)
    |none=>none
  |false=>none
 |_=>none
section
variable {E:Env}
theorem dF.ab8 (ok:E.fy) {aA f:Nat} {c:Code} {pre post:List (Tmp×Value)} {H H':Z} {hs:List Hint} {Ps:List Prop} {x:fx} {W:List Nat} (h:qp E aA f c pre post H hs=some (Ps,x,H',W)) (hp:gx Ps) :
  dF E aA c (aP pre) H [] x (aP post) H' [] W:=by
 unfold qp at h
 split at h
 ·rename_i vu x1 gG H1 hU hr
  simp only [bH,b8] at h
  obtain ⟨rfl,rfl,rfl,rfl⟩:=h
  rw [ni] at hp
  exact (oc ok f _ _ _ _ _ _ _ _ _ _ _ _ hr hp.1).post (fun t v hv=>H6 hp.2 t v (Fi _ _ _ hv)) (fun q hq=>.inl hq)
 ·cases h
theorem bF.ab9 (ok:E.fy) {g f:Nat} {fn:Func} {args:List Value} {H H':Z} {rv:Option Value} {hs:List Hint} {Ps:List Prop} {v:Value} {W:List Nat} (hf:E.func g=some fn)
  (hn:(fn.body.isSome&&Nat.ble args.length fn.ntmps&&!(fn.name== "runtime.NumGoroutine"))=true) (h:yA E fn f args H rv hs=some (Ps,v,H',W)) (hp:gx Ps):bF E g args H (.ret v) H' W:=by
 simp only [dZ,Bool.not_eq_true'] at hn
 obtain ⟨⟨hb,hle⟩,hname⟩:=hn
 obtain ⟨c,hc⟩:=Option.isSome_iff_exists.1 hb
 have hbc:cx fn=c:=by unfold cx;rw [hc]
 unfold yA at h
 split at h
 ·rename_i vu x1 gG H1 hU hr
  rw [hbc] at hr
  split at h
  ·rename_i hx
   have hx:x1=.normal∨x1=.ret:=by
    cases x1 <;> first
     |exact .inl rfl
     |exact .inr rfl
     |cases hx
   split at h
   ·rename_i v1
    simp only [bH,b8] at h
    obtain ⟨rfl,rfl,rfl,rfl⟩:=h
    rw [ni] at hp
    exact bF.J8 ok hf hname hc hle hx (oc ok f _ _ _ _ _ _ _ _ _ _ _ _ hr hp.1) hp.2.1
   ·split at h
    ·rename_i v1 hres
     simp only [bH,b8] at h
     obtain ⟨rfl,rfl,rfl,rfl⟩:=h
     exact bF.J8 ok hf hname hc hle hx (oc ok f _ _ _ _ _ _ _ _ _ _ _ _ hr hp) hres
    ·cases h
  ·cases h
 ·cases h
theorem dF.qZ (ok:E.fy) {P:Prop} {aA f:Nat} {c:Code} {pre post:List (Tmp×Value)} {H H':Z} {hs:List Hint} {x:fx} {W:List Nat} (hp:P) (h:(qp E aA f c pre post H hs).map (fun r=>(gx r.1,r.2))=some (P,x,H',W)) :
  dF E aA c (aP pre) H [] x (aP post) H' [] W:=by
 obtain ⟨⟨Ps,r⟩,h1,h2⟩:=Option.map_eq_some_iff.1 h
 injection h2 with h2 h3
 subst h3
 exact dF.ab8 ok h1 (h2▸hp)
theorem bF.CX (ok:E.fy) {P:Prop} {g f:Nat} {fn:Func} {args:List Value} {H H':Z} {hs:List Hint} {v:Value} {W:List Nat} (hf:E.func g=some fn)
  (hn:(fn.body.isSome&&Nat.ble args.length fn.ntmps&&!(fn.name== "runtime.NumGoroutine"))=true) (hp:P) (h:(yA E fn f args H none hs).map (fun r=>(gx r.1,r.2))=some (P,v,H',W)):bF E g args H (.ret v) H' W:=by
 obtain ⟨⟨Ps,r⟩,h1,h2⟩:=Option.map_eq_some_iff.1 h
 injection h2 with h2 h3
 subst h3
 exact bF.ab9 ok hf hn h1 (h2▸hp)
end
theorem de.aeH {α:Type} (a b:α):∀(f g:Nat) (t:de α) (i:Nat),i<f→i<g→de.g7 g (de.g7 f t i a) i b=de.g7 g t i b:=by
 intro f
 induction f with
 |zero=>intro g t i h;omega
 |succ f ih=>
  intro g t i hf hg
  cases g with
  |zero=>omega
  |succ g=>
   cases t with
   |nil=>
    simp only [de.g7]
    cases h0:Nat.beq i 0 with
    |true=>simp [de.g7,h0]
    |false=>
     have hi:i≠0:=fun e=>by subst e;cases h0
     cases h1:Nat.beq (i%2) 1 with
     |true=>simp only [cond_true,cond_false,de.g7,h0,h1];rw [ih g _ _ J J]
     |false=>simp only [cond_true,cond_false,de.g7,h0,h1];rw [ih g _ _ J J]
   |node v l r=>
    simp only [de.g7]
    cases h0:Nat.beq i 0 with
    |true=>simp [de.g7,h0]
    |false=>
     have hi:i≠0:=fun e=>by subst e;cases h0
     cases h1:Nat.beq (i%2) 1 with
     |true=>simp only [cond_true,cond_false,de.g7,h0,h1];rw [ih g _ _ J J]
     |false=>simp only [cond_true,cond_false,de.g7,h0,h1];rw [ih g _ _ J J]
theorem de.Rj {α:Type} (a:α):∀(f g:Nat) (t:de α) (i:Nat),i<f→i<g→de.g7 f t i a=de.g7 g t i a:=by
 intro f
 induction f with
 |zero=>intro g t i h;omega
 |succ f ih=>
  intro g t i hf hg
  cases g with
  |zero=>omega
  |succ g=>
   cases t <;> simp only [de.g7] <;> cases h0:Nat.beq i 0 <;> simp only [cond_true,cond_false] <;>
    (have hi:i≠0:=fun e=>by subst e;cases h0) <;>
    (cases h1:Nat.beq (i%2) 1 <;> simp only [cond_true,cond_false] <;> rw [ih g _ _ J J])
theorem de.set_set {α:Type} (t:de α) (i:Nat) (a b:α):(t.set i a).set i b=t.set i b:=de.aeH a b _ _ _ _ J J
theorem de.aeG {α:Type} (a b:α):∀(f:Nat) (t:de α) (i j:Nat),i≠j→i<f→j<f→de.g7 f (de.g7 f t i a) j b=de.g7 f (de.g7 f t j b) i a:=by
 intro f
 induction f with
 |zero=>intro t i j h h1;omega
 |succ f ih=>
  intro t i j hij hi hj
  by_cases hi0:i=0
  ·have hj0:j≠0:=fun e=>hij (hi0.trans e.symm)
   have i0:=lO hi0
   have rP:=iu hj0
   cases t <;> simp only [de.g7,i0,rP,cond_true,cond_false] <;> cases Nat.beq (j%2) 1 <;> simp only [cond_true,cond_false,de.g7,i0,rP]
  ·have i0:=iu hi0
   by_cases hj0:j=0
   ·have rP:=lO hj0
    cases t <;> simp only [de.g7,i0,rP,cond_true,cond_false] <;> cases Nat.beq (i%2) 1 <;> simp only [cond_true,cond_false,de.g7,i0,rP]
   ·have rP:=iu hj0
    by_cases mi:i%2=1
    ·have i1:=lO mi
     by_cases CB:j%2=1
     ·have j1:=lO CB
      cases t <;> simp only [de.g7,i0,rP,i1,j1,cond_true,cond_false] <;> rw [ih _ _ _ J J J]
     ·have j1:=iu CB
      cases t <;> simp only [de.g7,i0,rP,i1,j1,cond_true,cond_false]
    ·have i1:=iu mi
     by_cases CB:j%2=1
     ·have j1:=lO CB
      cases t <;> simp only [de.g7,i0,rP,i1,j1,cond_true,cond_false]
     ·have j1:=iu CB
      cases t <;> simp only [de.g7,i0,rP,i1,j1,cond_true,cond_false] <;> rw [ih _ _ _ J J J]
theorem de.set_comm {α:Type} (t:de α) {i j:Nat} (h:i≠j) (a b:α):(t.set i a).set j b=(t.set j b).set i a:=by
 unfold de.set
 have e1:∀(t:de α),de.g7 (i+1) t i a=de.g7 (i+j+1) t i a:=fun t=>de.Rj a _ _ t i J J
 have e2:∀(t:de α),de.g7 (j+1) t j b=de.g7 (i+j+1) t j b:=fun t=>de.Rj b _ _ t j J J
 rw [e1,e2,e2,e1]
 exact de.aeG a b _ t i j h J J
def news (H:Z):List dL→Z
 |[]=>H
 |o::l=>news (H.new o) l
theorem dj:∀(l:List dL) (H:Z),(news H l).n=H.n+l.length
 |[],H=>rfl
 |o::l,H=>by simp only [news,dj l,dX];show H.n+1+l.length=_;omega
theorem Ab:∀(l:List dL) (H:Z) (i:Nat),i<H.n→(news H l).get i=H.get i
 |[],H,i,h=>rfl
 |o::l,H,i,h=>by
  have hn:(H.new o).n=H.n+1:=rfl
  rw [news,Ab l _ i J,Z.jO,if_neg J]
theorem aR:∀(l:List dL) (H:Z) (k:Nat) (o:dL),l[k]?=some o→(news H l).get (H.n+k)=some o
 |[],H,k,o,h=>by simp at h
 |o'::l,H,0,o,h=>by
  simp only [dX,List.getElem?_cons_zero,bH] at h
  subst h
  have hn:(H.new o').n=H.n+1:=rfl
  rw [news,Ab l _ _ J,Z.jO];simp
 |o'::l,H,k+1,o,h=>by
  have hn:(H.new o').n=H.n+1:=rfl
  have:=aR l (H.new o') k o (by simpa using h)
  rw [hn] at this
  rw [news,← this];congr 1;omega
theorem PD:∀(l:List dL) (H:Z) (i:Nat) (o:dL),i<H.n→(news H l).set i o=news (H.set i o) l
 |[],H,i,o,h=>rfl
 |o'::l,H,i,o,h=>by
  have hn:(H.new o').n=H.n+1:=rfl
  rw [news,PD l _ i o J,news]
  congr 1
  show Z.mk (H.n+1) ((H.t.set H.n o').set i o)=Z.mk (H.n+1) ((H.t.set i o).set H.n o')
  rw [de.set_comm _ J]
theorem JR:∀(l:List dL) (H:Z) (k:Nat) (o:dL),k<l.length→(news H l).set (H.n+k) o=news H (l.set k o)
 |[],H,k,o,h=>by simp at h
 |o'::l,H,0,o,h=>by
  have hn:(H.new o').n=H.n+1:=rfl
  rw [news,Nat.add_zero,PD l _ _ o J,List.set_cons_zero,news]
  congr 1
  show Z.mk (H.n+1) ((H.t.set H.n o').set H.n o)=Z.mk (H.n+1) (H.t.set H.n o)
  rw [de.set_set]
 |o'::l,H,k+1,o,h=>by
  have hn:(H.new o').n=H.n+1:=rfl
  have:=JR l (H.new o') k o (by simpa using h)
  rw [hn] at this
  rw [news,List.set_cons_succ,news,← this];congr 1;omega
theorem cW.news {H:Z} (h:cW H):∀(l:List dL),cW (news H l):=by
 intro l
 induction l generalizing H with
 |nil=>exact h
 |cons o l ih=>exact ih (h.new o)
section
variable {E:Env}
theorem cH {t:TypeId} {b off:Nat} {H:Z} {c:List Value} {e:TypeId} {ro:Bool} {v:Value} (ha:E.agg t=some false) (hb:H.get b=some (.cells c e ro)) (hv:c[off]?=some v):al E t b off H=some v:=by
 simp only [al,ha,cell,hb,hv]
theorem cd {t:TypeId} {b off n:Nat} {H:Z} {c:List Value} {e:TypeId} {ro:Bool} {vs:List Value} (ha:E.agg t=some true) (hs:E.size t=some n) (hb:H.get b=some (.cells c e ro)) (hn:Nat.ble (off+n) c.length=true) (hv:(c.drop off).take n=vs):al E t b off H=some (.agg vs.toArray):=by
 simp only [al,ha,hs,row,hb,hn,cond_true,hv]
theorem st {t:TypeId} {b off n:Nat} {H:Z} {c c':List Value} {e:TypeId} {v:Value} (hs:E.size t=some n) (hb:H.get b=some (.cells c e false)) (hn:(Nat.beq v.cells.size n&&v.cells.toList.all one&&Nat.ble (off+n) c.length)=true) (hc:splice c off v.cells.toList=c'):bu E t b off v H=some (H.set b (.cells c' e false)):=by
 simp only [bu,hb,hs,hn,cond_true,hc]
theorem aaJ {t:TypeId} {k off:Nat} {H:Z} {l:List dL} {c:List Value} {e:TypeId} {ro:Bool} {v:Value} (ha:E.agg t=some false) (hb:l[k]?=some (.cells c e ro)) (hv:c[off]?=some v):al E t (H.n+k) off (news H l)=some v:=
 cH ha (aR l H k _ hb) hv
theorem dt {t:TypeId} {k off n:Nat} {H:Z} {l:List dL} {c:List Value} {e:TypeId} {ro:Bool} {vs:List Value} (ha:E.agg t=some true) (hs:E.size t=some n) (hb:l[k]?=some (.cells c e ro)) (hn:Nat.ble (off+n) c.length=true) (hv:(c.drop off).take n=vs) :
  al E t (H.n+k) off (news H l)=some (.agg vs.toArray):=cd ha hs (aR l H k _ hb) hn hv
theorem bG {t:TypeId} {k off n:Nat} {H:Z} {l l':List dL} {c c':List Value} {e:TypeId} {v:Value} (hs:E.size t=some n) (hb:l[k]?=some (.cells c e false)) (hn:(Nat.beq v.cells.size n&&v.cells.toList.all one&&Nat.ble (off+n) c.length)=true) (hc:splice c off v.cells.toList=c') (hl:l.set k (.cells c' e false)=l') :
  bu E t (H.n+k) off v (news H l)=some (news H l'):=by
 rw [st hs (aR l H k _ hb) hn hc,JR l H k _ (List.getElem?_eq_some_iff.1 hb).1,hl]
def oq (n:Nat) (v:Value):Prop:=∀(φ ψ:bC) (u:Value),(∀ i,i<n→ψ i=φ i)→bn ψ v u→bn φ v u
theorem oq.ground {n:Nat} {v:Value} (h:ground v=true):oq n v:=fun φ ψ u _ hu=>by rw [hu.s4 h];exact .r3 h
theorem oq.ptr {n i o:Nat} (h:i<n):oq n (.pointer (some ⟨i,o,none⟩)):=fun φ ψ u he hu=>by
 cases hu with |ptr _ _ l hl=>exact .ptr i o l (by rw [← he i h];exact hl)
theorem oq.slice {n i o k c:Nat} (h:i<n):oq n (.slice (some ⟨i,o,none⟩) k c):=fun φ ψ u he hu=>by
 generalize hv:(Value.slice (some ⟨i,o,none⟩) k c)=v at hu
 cases hu <;> first
  |(cases hv;done)
  |(injection hv with e1 e2 bc;injection e1 with e1;injection e1 with aN bJ;subst aN;subst bJ;subst e2;subst bc
    first
     |exact .mY _ _ _ _ _ (by rw [← he _ h];assumption) (by assumption)
     |exact .pK _ _ _ _ _ _ (by rw [← he _ h];assumption) (by assumption) (by assumption))
theorem oq.agg {n:Nat} {cs:Array Value} (h:∀ x∈cs.toList,oq n x):oq n (.agg cs):=fun φ ψ u he hu=>by
 obtain ⟨ds,rfl,ha⟩:=hu.Bk
 exact .agg cs ds ha.1 fun i x y hx hy=>h x (by simpa using Array.mem_of_getElem? hx) φ ψ y he (ha.2 i x y hx hy)
theorem oq.iface {n:Nat} {t:TypeId} {v:Value} (h:oq n v):oq n (.iface t v):=fun φ ψ u he hu=>by
 cases hu with |iface _ _ x hx=>exact .iface t v x (h φ ψ x he hx)
def Bf (n:Nat):Option dL→Prop
 |some (.cells c _ _)=>∀ x∈c,oq n x
 |some (.map es _)=>∀ x∈es,oq n x.key∧oq n x.val
 |_=>True
theorem mB.low {base:Nat} {φ ψ:bC} {w:World} {l:Loc} {o:dL} {n:Nat} (he:∀ i,i<n→ψ i=φ i) (h:Bf n (some o)) (hb:mB E base ψ w l o):mB E base φ w l o:=by
 cases o with
 |cells c e ro=>
  have key:∀(j:Nat) x y,c[j]?=some x→bn ψ x y→bn φ x y:=fun j x y hx hv=>h x (List.mem_of_getElem? hx) φ ψ y he hv
  cases ro with
  |true=>exact fun j x hx=>let ⟨y,a,b⟩:=hb j x hx;⟨y,a,key j x y hx b⟩
  |false=>
   obtain ⟨fj,lo,hi,a1,a2,a3,a4,a5⟩:=hb
   exact ⟨fj,lo,hi,a1,a2,a3,fun j x hx=>let ⟨y,a,b⟩:=a4 j x hx;⟨y,a,key j x y hx b⟩,a5⟩
 |map es ax=>
  obtain ⟨es',a1,a2,a3,a4⟩:=hb
  exact ⟨es',a1,a2,a3,fun j x y hx hy=>let ⟨p,q,r⟩:=a4 j x y hx hy;⟨(h x (List.mem_of_getElem? hx)).1 φ ψ _ he p,(h x (List.mem_of_getElem? hx)).2 φ ψ _ he q,r⟩⟩
 |dead=>trivial
structure Ext (E:Env) (H H':Z):Prop where
 n:H.n≤H'.n
 get:∀ i,i<H.n→H'.get i=H.get i
 wf:cW H'
 d4:E.d4≤H'.n
abbrev DM:=Z→Prop
def ahE (E:Env) (K:DM):Prop:=∀ H H',cW H→Ext E H H'→K H→K H'
def Pure (E:Env) (K:DM) (g:FuncId) (args:List Value) (v:Value):Prop:=∀ H,cW H→E.d4≤H.n→K H→∃ H',Ext E H H'∧bF E g args H (.ret v) H' []
def ahC (E:Env) (K:DM) (aA:Nat) (c:Code) (pre:List (Tmp×Value)) (x:fx) (post:List (Tmp×Value)):Prop:=∀ H,cW H→E.d4≤H.n→K H→∃ H',Ext E H H'∧dF E aA c (aP pre) H [] x (aP post) H' [] []
def ahD (E:Env) (K:DM) (aA:Nat) (c:Code) (pre:List (Tmp×Value)) (x:fx) (post:List (Tmp×Value)):Prop:=∀ H,cW H→E.d4≤H.n→K H→∃ n H',Ext E H H'∧ol E n aA c (aP pre) H [] x (aP post) H' [] []
end
structure aa (E:Env) (G H:Z):Prop where
 wf:cW H
 n:G.n≤H.n
 d4:E.d4≤G.n
 get:∀ i,i<G.n→H.get i=G.get i
theorem aa.yc {E:Env} {G H:Z} (y:aa E G H):E.d4≤H.n:=Nat.le_trans y.d4 y.n
theorem aa.step {E:Env} {G H H':Z} {V:List Nat} (y:aa E G H) (x:dn V H H') (wf:cW H') (hv:∀ q∈V,G.n≤q):aa E G H':=
 ⟨wf,Nat.le_trans y.n x.n,y.d4,fun i hi=>(x.keep i (Nat.lt_of_lt_of_le hi y.n) fun hm=>by have:=hv i hm;omega).trans (y.get i hi)⟩
theorem aa.news {E:Env} {G H:Z} (y:aa E G H) (l:List dL):aa E G (news H l):=
 ⟨y.wf.news l,by rw [dj];have:=y.n;omega,y.d4,fun i hi=>(Ab l H i (Nat.lt_of_lt_of_le hi y.n)).trans (y.get i hi)⟩
theorem aa.set {E:Env} {G H:Z} (y:aa E G H) {b:Nat} (o:dL) (h1:G.n≤b) (h2:b<H.n):aa E G (H.set b o):=
 ⟨y.wf.set h2 o,y.n,y.d4,fun i hi=>by rw [Z.kP,if_neg J];exact y.get i hi⟩
theorem aa.cell {E:Env} {G H:Z} (y:aa E G H) {i:Nat} {o:dL} (h:G.get i=some o) (hi:i<G.n):H.get i=some o:=(y.get i hi).trans h
def aV (E:Env) (G:Z) (g:FuncId) (args:List Value) (H:Z) (V:List Nat) (Q:Value→Z→Prop):Prop:=
 ∃ v H',bF E g args H (.ret v) H' V∧dn V H H'∧aa E G H'∧Q v H'
def jL (E:Env) (G:Z) (aA:Nat) (c:Code) (pre:List (Tmp×Value)) (H:Z) (V:List Nat) (Q:fx→cg→Z→Prop):Prop:=
 ∃ x c9 H',dF E aA c (aP pre) H [] x c9 H' [] V∧dn V H H'∧aa E G H'∧Q x c9 H'
def bV (E:Env) (G:Z) (aA:Nat) (c:Code) (pre:List (Tmp×Value)) (H:Z) (V:List Nat) (Q:fx→cg→Z→Prop):Prop:=
 ∃ n x c9 H',ol E n aA c (aP pre) H [] x c9 H' [] V∧dn V H H'∧aa E G H'∧Q x c9 H'
theorem OP {p q:Prop} (h:p) (k:q):p∧q:=⟨h,k⟩
section
variable {E:Env} {G H H':Z}
theorem aV.mk {g:FuncId} {args:List Value} {v:Value} {V W:List Nat} {Q:Value→Z→Prop} (y:aa E G H) (c:bF E g args H (.ret v) H' W) (hw:∀ q∈W,q∈V∨(H.n≤q∧q<H'.n)) (hv:∀ q∈V,G.n≤q) (hq:Q v H'):aV E G g args H V Q:=by
 have c':=c.norm hw
 obtain ⟨x,wf,_⟩:=c' y.wf y.yc
 exact ⟨v,H',c',x,y.step x wf hv,hq⟩
theorem jL.mk {aA:Nat} {c:Code} {pre post:List (Tmp×Value)} {x:fx} {V W:List Nat} {Q:fx→cg→Z→Prop} (y:aa E G H) (h:dF E aA c (aP pre) H [] x (aP post) H' [] W) (hw:∀ q∈W,q∈V∨(H.n≤q∧q<H'.n)) (hv:∀ q∈V,G.n≤q) (hq:Q x (aP post) H'):jL E G aA c pre H V Q:=by
 have h':=h.post (mG.refl _) hw
 obtain ⟨x,wf,_⟩:=h' y.wf y.yc
 exact ⟨_,_,H',h',x,y.step x wf hv,hq⟩
theorem bV.next {aA:Nat} {c:Code} {pre mid:List (Tmp×Value)} {V:List Nat} {Q:fx→cg→Z→Prop} {H1:Z} (h:dF E aA c (aP pre) H [] .normal (aP mid) H1 [] V) (hx:dn V H H1) (k:bV E G aA c mid H1 V Q):bV E G aA c pre H V Q:=by
 obtain ⟨n,x,T,H',h1,h2,h3,h4⟩:=k
 have hn:=hx.n
 have hn':=h2.n
 refine ⟨n+1,x,T,H',(ol.next h h1).post (mG.refl _) (fun q hq=>.inl ?_),(hx.trans h2).wider (fun q hq=>?_),h3,h4⟩
 ·rcases List.mem_append.1 hq with hq |hq <;> exact hq
 ·rcases List.mem_append.1 hq with hq |hq <;> exact hq
theorem bV.code {aA:Nat} {c:Code} {pre:List (Tmp×Value)} {V:List Nat} {Q:fx→cg→Z→Prop} (h:bV E G aA c pre H V Q):jL E G aA (.loop c) pre H V Q:=by
 obtain ⟨n,x,T,H',h1,h2⟩:=h
 exact ⟨x,T,H',h1.T0,h2⟩
theorem bV.mono {aA:Nat} {c:Code} {pre:List (Tmp×Value)} {V:List Nat} {Q R:fx→cg→Z→Prop} (h:bV E G aA c pre H V Q) (hq:∀ x T H',Q x T H'→R x T H'):bV E G aA c pre H V R:=by
 obtain ⟨n,x,T,H',h1,h2,h3,h4⟩:=h
 exact ⟨n,x,T,H',h1,h2,h3,hq _ _ _ h4⟩
theorem aV.mono {g:FuncId} {args:List Value} {V:List Nat} {Q R:Value→Z→Prop} (h:aV E G g args H V Q) (hq:∀ v H',Q v H'→R v H'):aV E G g args H V R:=by
 obtain ⟨v,H',h1,h2,h3,h4⟩:=h
 exact ⟨v,H',h1,h2,h3,hq _ _ h4⟩
theorem aa.old (y:aa E G H) {b:Nat} {o:dL} (k:H.get b=some o) (l:List dL):(Go.Am.news H l).get b=some o:=(Ab l H b (y.wf.lt k)).trans k
theorem aa.kept (y:aa E G H) {V:List Nat} (x:dn V H H') {b:Nat} {o:dL} (hb:b∉V) (k:H.get b=some o):H'.get b=some o:=(x.keep b (y.wf.lt k) hb).trans k
theorem bz {K:Z} {q:Nat} {o:dL} (e:K=H.set q o):K.get q=some o:=by rw [e,Z.kP,if_pos rfl]
theorem bW {K:Z} {q b:Nat} {o o':dL} (e:K=H.set q o) (hne:q≠b) (k:H.get b=some o'):K.get b=some o':=by rw [e,Z.kP,if_neg hne];exact k
theorem bV.next' {aA:Nat} {c:Code} {pre mid:List (Tmp×Value)} {V W:List Nat} {Q:fx→cg→Z→Prop} {H1:Z} (y:aa E G H) (h:dF E aA c (aP pre) H [] .normal (aP mid) H1 [] W) (hw:∀ q∈W,q∈V∨(H.n≤q∧q<H1.n)) (k:bV E G aA c mid H1 V Q):bV E G aA c pre H V Q:=by
 have h':=h.post (mG.refl _) hw
 obtain ⟨x,wf,_⟩:=h' y.wf y.yc
 exact bV.next h' x k
theorem bV.last' {aA:Nat} {c:Code} {pre post:List (Tmp×Value)} {x:fx} {V W:List Nat} {Q:fx→cg→Z→Prop} (y:aa E G H) (h:dF E aA c (aP pre) H [] x (aP post) H' [] W) (hx:x≠.normal) (hw:∀ q∈W,q∈V∨(H.n≤q∧q<H'.n)) (hv:∀ q∈V,G.n≤q) (hq:Q x (aP post) H'):bV E G aA c pre H V Q:=by
 have h':=h.post (mG.refl _) hw
 obtain ⟨x',wf,_⟩:=h' y.wf y.yc
 exact ⟨1,_,_,H',ol.last h' hx,x',y.step x' wf hv,hq⟩
def j8 (v:Value):Prop:=∀(φ ψ:bC) (u:Value),bn φ v u→bn ψ v u
theorem j8.ground {v:Value} (h:ground v=true):j8 v:=fun φ ψ u hu=>by rw [hu.s4 h];exact .r3 h
theorem j8.iface {t:TypeId} {v:Value} (h:j8 v):j8 (.iface t v):=fun φ ψ u hu=>by
 cases hu with |iface _ _ x hx=>exact .iface t _ x (h φ ψ x hx)
theorem j8.tuple {cs:Array Value} (h:∀ x∈cs.toList,j8 x):j8 (.tuple cs):=fun φ ψ u hu=>by
 obtain ⟨ds,rfl,ha⟩:=hu.Lj
 exact .tuple cs ds ha.1 fun i x y hx hy=>h x (by simpa using Array.mem_of_getElem? hx) φ ψ y (ha.2 i x y hx hy)
def G2 (G:Z):Prop:=∀ i,i<G.n→Bf G.n (G.get i)
theorem bF.eh {g:FuncId} {args:List Value} {v:Value} {lE:Z} (low:G2 G) (Lv:cW G) (cE:E.d4≤G.n) (ha:∀ x∈args,j8 x) (hv:j8 v) (c:bF E g args G (.ret v) lE []) (y:aa E G H):bF E g args H (.ret v) H []:=fun wf _=>by
 obtain ⟨x1,fT,k⟩:=c Lv cE
 have jP:=x1.n
 refine ⟨dn.refl ..,wf,fun base φ w args' dr hf hl=>?_⟩
 let iw:bC:=fun i=>if i<G.n then φ i else none
 have e0:∀ i,i<G.n→iw i=φ i:=fun i hi=>if_pos hi
 have KB:Rel E base G iw w:=by
  refine ⟨dr.bs,fun i l o hi hl ho=>?_,fun i l hi hl hlv=>?_,fun i j l m hi hj hij hl hm hw hv=>?_,fun g hg=>?_⟩
  ·rw [e0 i hi] at hl
   have hb:=dr.blocks i l o (Nat.lt_of_lt_of_le hi y.n) hl (y.cell ho hi)
   have B0:=low i hi
   rw [ho] at B0
   exact hb.low (ψ:=φ) (φ:=iw) (fun i hi=>(e0 i hi).symm) B0
  ·rw [e0 i hi] at hl
   exact dr.lt i l (Nat.lt_of_lt_of_le hi y.n) hl (by rw [y.get i hi];exact hlv)
  ·rw [e0 i hi] at hl
   rw [e0 j hj] at hm
   exact dr.inj i j l m (Nat.lt_of_lt_of_le hi y.n) (Nat.lt_of_lt_of_le hj y.n) hij hl hm (by rw [y.get i hi];exact hw) (by rw [y.get j hj];exact hv)
  ·obtain ⟨l,h1,h2⟩:=dr.iO g hg
   exact ⟨l,by rw [e0 g J];exact h1,h2⟩
 have HT:gw iw G.n lE.n:=fun i h1 h2=>if_neg J
 have pw:eI iw args args':=⟨hl.1,fun i x y hx hy=>ha x (List.mem_of_getElem? hx) φ iw y (hl.2 i x y hx hy)⟩
 have post:∀ e w',nL E base iw w G lE [] (.ret v) e w'→nL E base φ w H H [] (.ret v) e w':=by
  rintro e w' ⟨fu,ci,he⟩
  have hs:=ci.step
  refine ⟨φ,⟨fun _ _=>rfl,⟨Nat.le_trans dr.bs hs.size,fun i l o hi hl ho=>?_,fun i l hi hl hlv=>Nat.lt_of_lt_of_le (dr.lt i l hi hl hlv) hs.size,dr.inj,dr.iO⟩,⟨hs.os,hs.tape,hs.output,hs.size,fun B hB _=>hs.keep B hB fun j hj=>by cases hj⟩,fun i l h1 h2=>by omega⟩,?_⟩
  ·have hb:=dr.blocks i l o hi hl ho
   by_cases hlv:live (H.get i)=true
   ·exact hb.same (hs.keep _ (dr.lt i l hi hl hlv) fun j hj=>by cases hj)
   ·rw [ho] at hlv
    cases o with
    |cells c e ro=>
     cases ro with
     |false=>cases c <;> exact absurd rfl hlv
     |true=>
      cases c with
      |nil=>intro j x hx;simp at hx
      |cons _ _=>exact absurd rfl hlv
    |map es ax=>exact absurd rfl hlv
    |dead=>trivial
  ·obtain ⟨u,h1,h2⟩:=he
   exact ⟨u,h1,hv fu φ u h2⟩
 rcases k base iw w args' KB HT pw with ⟨he,hc⟩ |⟨v',w',he,oI⟩
 ·exact .inl ⟨he,hc.mono post⟩
 ·exact .inr ⟨v',w',he,post _ _ oI⟩
end
theorem eI.s4 {φ:bC}:∀{xs ys:List Value},eI φ xs ys→xs.all ground=true→ys=xs
 |[],ys,h,_=>h.tE
 |x::xs,zs,h,hg=>by
  obtain ⟨y,ys,rfl,h1,h2⟩:=h.cons_inv
  simp only [List.all_cons,dZ] at hg
  rw [h1.s4 hg.1,eI.s4 h2 hg.2]
theorem et {l:List Value} (h:l.all ground=true):∀ x∈l,j8 x:=fun x hx=>.ground (List.all_eq_true.1 h x hx)
theorem bF.extern {E:Env} (ok:E.fy) {g:FuncId} {fn:Func} {args:List Value} {H:Z} {v:Value} {e:Array Value→Sem Value} (hf:E.func g=some fn) (hn:(fn.name== "runtime.NumGoroutine")=false) (hb:fn.body=none)
  (hx:(Extern.findNext fn).isNone=true) (he:Extern.find fn=some e) (ha:args.all ground=true) (hg:ground v=true) (hv:e args.toArray=pure v):bF E g args H (.ret v) H []:=fun wf cE=>
 ⟨dn.refl ..,wf,fun base φ w args' dr hfr hl=>by
  have:=hl.s4 ha
  subst this
  have hx':Extern.findNext fn=none:=by
   cases h:Extern.findNext fn with
   |none=>rfl
   |some x=>rw [h] at hx;cases hx
  refine .inr ⟨v,w,?_,φ,Out.refl [] dr,v,rfl,.r3 hg⟩
  unfold callFunc
  rw [bI (run_program w)]
  simp only [ok.func _ _ hf,hn,Bool.false_eq_true,if_false,hb,Option.isNone_none,if_true]
  rw [hx',he]
  show ((mark (.extern g)).bind _).run E.P w=_
  rw [run_bind]
  simp only [mark,Sem.run]
  rw [hv]
  rfl⟩
abbrev M (x:Int):Value:=.int .i64 x
abbrev ap (x:Int):Value:=.int .u64 x
abbrev ab (x:Int):Value:=.int .u8 x
abbrev pt (b o:Nat):Value:=.pointer (some ⟨b,o,none⟩)
abbrev sc (b o n c:Nat):Value:=.slice (some ⟨b,o,none⟩) n c
abbrev bw (v:Value) (H:Z):Hint:=.val v H [] []
abbrev am (n:Nat):Hint:=.auto n
theorem q8 {p:Prop} (v:Value) (r:p):(some v=some v)∧p:=⟨rfl,r⟩
theorem bp {p q:Prop} (h:p) (k:q):p∧q:=⟨h,k⟩
def va (E:Env) (T:cg) (H:Z):List ResultVar→List Value→Option (List Prop)
 |[],[]=>some []
 |.tmp t::rs,v::vs=>match va E T H rs vs with
  |some ps=>some ((T.get t=some v)::ps)
  |none=>none
 |.cell a t::rs,v::vs=>match T.get a with
  |some (.pointer (some ⟨b,off,none⟩))=>match va E T H rs vs with
   |some ps=>some ((al E t b off H=some v)::ps)
   |none=>none
  |_=>none
 |_,_=>none
theorem KF {E:Env} {T:cg} {H:Z}:∀{rs:List ResultVar} {vs:List Value} {ps:List Prop},va E T H rs vs=some ps→gx ps→tJ E ⟨T,H,[],[]⟩ rs=some vs
 |[],[],_,_,_=>rfl
 |[],_::_,ps,h,_=>by simp [va] at h
 |.tmp t::rs,[],ps,h,_=>by simp [va] at h
 |.cell a t::rs,[],ps,h,_=>by simp [va] at h
 |.tmp t::rs,v::vs,ps,h,hp=>by
  simp only [va] at h
  split at h
  ·rename_i ac6 hq
   injection h with h;subst h
   simp only [tJ,hp.1,KF hq hp.2]
  ·cases h
 |.cell a t::rs,v::vs,ps,h,hp=>by
  simp only [va] at h
  split at h
  ·rename_i b off ha
   split at h
   ·rename_i ac6 hq
    injection h with h;subst h
    simp only [tJ,ha,hp.1,KF hq hp.2]
   ·cases h
  ·cases h
def afZ:List Value→Value
 |[v]=>v
 |vs=>.tuple vs.toArray
def Lf (E:Env) (fn:Func) (f:Nat) (args:List Value) (H:Z) (vs:List Value) (hs:List Hint):Option (List Prop×Value×Z×List Nat):=
 match oY E fn.ntmps f (cx fn) (tS args 0 .nil) H [] hs with
 |some (Ps,x,c9,H',[],W,[])=>match (match x with |.ret=>true |.normal=>true |_=>false) with
  |true=>match va E c9 H' fn.results.toList vs with
   |some w4=>some (Ps++w4,afZ vs,H',W)
   |none=>none
  |false=>none
 |_=>none
theorem bF.aca {E:Env} (ok:E.fy) {P:Prop} {g f:Nat} {fn:Func} {args vs:List Value} {H H':Z} {hs:List Hint} {v:Value} {W:List Nat} (hf:E.func g=some fn)
  (hn:(fn.body.isSome&&Nat.ble args.length fn.ntmps&&!(fn.name== "runtime.NumGoroutine"))=true) (hp:P) (h:(Lf E fn f args H vs hs).map (fun r=>(gx r.1,r.2))=some (P,v,H',W)):bF E g args H (.ret v) H' W:=by
 obtain ⟨⟨Ps,r⟩,h1,h2⟩:=Option.map_eq_some_iff.1 h
 injection h2 with h2 h3
 subst h3
 have hp:gx Ps:=h2▸hp
 simp only [dZ,Bool.not_eq_true'] at hn
 obtain ⟨⟨hb,hle⟩,hname⟩:=hn
 obtain ⟨c,hc⟩:=Option.isSome_iff_exists.1 hb
 have hbc:cx fn=c:=by unfold cx;rw [hc]
 unfold Lf at h1
 split at h1
 ·rename_i vu x1 gG H1 hU hr
  rw [hbc] at hr
  split at h1
  ·rename_i hx
   have hx:x1=.normal∨x1=.ret:=by
    cases x1 <;> first
     |exact .inl rfl
     |exact .inr rfl
     |cases hx
   split at h1
   ·rename_i w4 hq
    simp only [bH,b8] at h1
    obtain ⟨rfl,rfl,rfl,rfl⟩:=h1
    rw [ni] at hp
    refine bF.J8 ok hf hname hc hle hx (oc ok f _ _ _ _ _ _ _ _ _ _ _ _ hr hp.1) ?_
    have:=KF hq hp.2
    unfold u9
    rw [this]
    match vs with
    |[]=>rfl
    |[v]=>rfl
    |_::_::_=>rfl
   ·cases h1
  ·cases h1
 ·cases h1
theorem j8.func0 (f:FuncId):j8 (.func (.func f) #[] #[]):=fun φ ψ u hu=>by
 obtain ⟨g,fs,cs,e,rfl,h1,h2⟩:=hu.HW
 injection e with e
 subst e
 exact .func f #[] fs #[] cs h1.1 (fun i x y hx=>by simp at hx) h2.1 (fun i x y hx=>by simp at hx)
theorem dO {E:Env} {G H H':Z} (y:aa E G H) {b:Nat} {c:List Value} {e:TypeId} (k:H.get b=some (.cells c e false)):cK H H' [b]=true:=by
 have h:=y.wf.lt k
 have e1:Nat.blt b H.n=true:=by simpa [Nat.blt_eq] using h
 simp only [cK,List.all_cons,List.all_nil,e1,cond_true,k,gf,Bool.and_true]
end Go.Am
namespace Go.Proofs.YtglmagcldkngbaaGreatDoor
open Go Go.Am
def Nx (P:Program) (n:Nat):Env:={ P:=P,info:=fun t=>P.info? t,func:=fun f=>P.funcs[f]?,d4:=n,Az:=fun _=>none,By:=fun _=>none }
theorem Wq (P:Program) (n:Nat):(Nx P n).fy:=⟨fun _ _ h=>h,fun _ _ h=>h⟩
noncomputable def E:Env:=Nx Tryz.prog 23
theorem ok:E.fy:=Wq _ _
theorem aL {p:Nat→Prop}:∀ q∈([]:List Nat),p q:=fun _ h=>absurd h List.not_mem_nil
theorem ME {a b:Int} (h:(a != b)=true):a≠b:=by simpa using h
theorem MD {a b:Int} (h:(a != b)=false):a=b:=by simpa using h
theorem nE {x:Int} (h0:-9223372036854775808≤x) (h1:x<9223372036854775808):IntKind.i64.wrap x=x:=by
 unfold IntKind.wrap
 simp only [IntKind.bits,IntKind.signed,Bool.true_and]
 split <;> (rename_i h;simp only [ge_iff_le,decide_eq_true_eq] at h;omega)
theorem an {p:Prop} (h:p:=by kernel_rfl):p:=h
theorem ajz (e:Int) (h0:-9223372036854775808≤e:=by omega) (h1:e<9223372036854775808:=by omega):(M (IntKind.i64.wrap e):Value)=M e:=by rw [nE h0 h1]
theorem ajy {p:Prop} (h:p:=by rw [nE (by omega) (by omega)]):p:=h
theorem aJ {p:Prop} (h:p:=by intro q hq;simp only [List.mem_cons,List.not_mem_nil,or_false,false_or,dj,List.length_cons,List.length_nil] at hq ⊢;omega):p:=h
theorem aZ {p:Prop} (h:p:=by intro q hq;simp only [List.mem_cons,List.not_mem_nil,or_false] at hq;omega):p:=h
theorem bk {p:Prop} (h:p:=by first |omega |(simp only [dj,List.length_cons,List.length_nil];omega)):p:=h
theorem bU {p:Prop} (h:p:=by simp only [List.mem_cons,List.not_mem_nil,or_false];omega):p:=h
theorem aW {p:Prop} (h:p:=by simp):p:=h
abbrev bS (n:Nat):Value:=.func (.func n) #[] #[]
def Ld:List (Tmp×Value)→Prop
 |[]=>True
 |(_,v)::l=>(some v=some v)∧Ld l
theorem RF:∀ l:List (Tmp×Value),Ld l
 |[]=>trivial
 |(_,_)::l=>⟨rfl,RF l⟩
abbrev HS (f:Func) (n:Nat):Bool:=(f.body.isSome&&Nat.ble n f.ntmps&&!(f.name== "runtime.NumGoroutine"))
theorem ajv:True:=trivial
theorem aju:true=true:=rfl
abbrev ahO:Hint:=.dec true
abbrev ahN:Hint:=.dec false
theorem aiv {iC q:Prop} (h0:iC) (r:q):iC∧q:=⟨h0,r⟩
theorem th {iC p1 q:Prop} (h0:iC) (h1:p1) (r:q):iC∧p1∧q:=⟨h0,h1,r⟩
theorem aiw {iC p1 p2 q:Prop} (h0:iC) (h1:p1) (h2:p2) (r:q):iC∧p1∧p2∧q:=⟨h0,h1,h2,r⟩
theorem aix {iC p1 p2 p3 q:Prop} (h0:iC) (h1:p1) (h2:p2) (h3:p3) (r:q):iC∧p1∧p2∧p3∧q:=⟨h0,h1,h2,h3,r⟩
theorem aiy {iC p1 p2 p3 pG q:Prop} (h0:iC) (h1:p1) (h2:p2) (h3:p3) (h4:pG) (r:q):iC∧p1∧p2∧p3∧pG∧q:=⟨h0,h1,h2,h3,h4,r⟩
theorem aiz {iC p1 p2 p3 pG r7 q:Prop} (h0:iC) (h1:p1) (h2:p2) (h3:p3) (h4:pG) (h5:r7) (r:q):iC∧p1∧p2∧p3∧pG∧r7∧q:=⟨h0,h1,h2,h3,h4,h5,r⟩
theorem aiA {iC p1 p2 p3 pG r7 CY q:Prop} (h0:iC) (h1:p1) (h2:p2) (h3:p3) (h4:pG) (h5:r7) (h6:CY) (r:q):iC∧p1∧p2∧p3∧pG∧r7∧CY∧q:=⟨h0,h1,h2,h3,h4,h5,h6,r⟩
theorem aiB {iC p1 p2 p3 pG r7 CY Qi q:Prop} (h0:iC) (h1:p1) (h2:p2) (h3:p3) (h4:pG) (h5:r7) (h6:CY) (h7:Qi) (r:q):iC∧p1∧p2∧p3∧pG∧r7∧CY∧Qi∧q:=⟨h0,h1,h2,h3,h4,h5,h6,h7,r⟩
abbrev aq:=@List.not_mem_nil
abbrev fM:=@of_decide_eq_false
abbrev fD:=@of_decide_eq_true
abbrev tu:=@ne_of_beq_false
abbrev pr:=@eq_of_beq
abbrev fU:=@List.getElem?_eq_getElem
abbrev gg:=@Nat.le_of_ble_eq_true
theorem Tu {g:FuncId} {fn:Func} {args:List Value} {H:Z} (hs:List Hint) (v:Value) (H':Z) (W:List Nat) (hf:E.func g=some fn) (hn:(fn.body.isSome&&Nat.ble args.length fn.ntmps&&!(fn.name== "runtime.NumGoroutine"))=true) {P:Prop} (hp:P) (h:(yA E fn 300 args H none hs).map (fun r=>(gx r.1,r.2))=some (P,v,H',W):=by kernel_rfl):bF E g args H (.ret v) H' W:=bF.CX ok hf hn hp h
theorem aiQ {G:Z} {Q:Value→Z→Prop} {g:FuncId} {fn:Func} {args:List Value} {H:Z} (y:aa E G H) (hs:List Hint) (v:Value) (H':Z) (hf:E.func g=some fn) (hn:(fn.body.isSome&&Nat.ble args.length fn.ntmps&&!(fn.name== "runtime.NumGoroutine"))=true) {P:Prop} (hp:P) (q:Q v H') (h:(yA E fn 300 args H none hs).map (fun r=>(gx r.1,r.2))=some (P,v,H',[]):=by kernel_rfl):aV E G g args H [] Q:=aV.mk y (Tu hs v H' [] hf hn hp h) aL aL q
theorem p4 {aA:Nat} {c:Code} {pre:List (Tmp×Value)} {H:Z} (hs:List Hint) (post:List (Tmp×Value)) (x:fx) (H':Z) (W:List Nat) {P:Prop→Prop} (hp:∀ q:Prop,q→P q) (h:(qp E aA 300 c pre post H hs).map (fun r=>(gx r.1,r.2))=some (P (Ld post),x,H',W):=by kernel_rfl):dF E aA c (aP pre) H [] x (aP post) H' [] W:=dF.qZ ok (hp _ (RF _)) h
noncomputable abbrev bt (l:List Value):List dL:=[.cells l 100 false]
noncomputable abbrev iS (l:List Value):List dL:=[.cells l 112 false]
noncomputable abbrev lR (l:List Value):List dL:=[.cells l 126 false]
noncomputable abbrev lg (l:List Value):List dL:=[.cells l 135 false]
noncomputable abbrev au (l:List Value):List dL:=[.cells l 27 false]
noncomputable abbrev n7 (l:List Value):List dL:=[.cells l 40 false]
noncomputable abbrev uY (l:List Value):List dL:=[.cells l 48 false]
noncomputable abbrev uZ (l:List Value):List dL:=[.cells l 5 false]
noncomputable abbrev g6 (l:List Value):List dL:=[.cells l 9 false]
theorem d9 {W:List Nat} {H K:Z} {o:dL} (e:dn W (news H [o]) K):H.n+1≤K.n:=by have h:=e.n;rw [dj] at h;exact h
theorem uT {W:List Nat} {H K:Z} {o p:dL} (e:dn W (news H [o,p]) K):H.n+2≤K.n:=by have h:=e.n;rw [dj] at h;exact h
theorem ya {W:List Nat} {H K:Z} {o p q:dL} (e:dn W (news H [o,p,q]) K):H.n+3≤K.n:=by have h:=e.n;rw [dj] at h;exact h
theorem dx (H:Z) (l:List dL) (h:0<l.length:=by exact Nat.zero_lt_succ _):(H.n+0)<(news H l).n∨(news H l).n≤(H.n+0):=.inl (by rw [dj];omega)
theorem dJ {P:Nat→Prop} (h:∀ m,(∀ k,k<m→P k)→P m) (m:Nat):P m:=Nat.strongRecOn m h
abbrev aw:Value:=.bool true
abbrev O (l:List Value) (t:TypeId):dL:=.cells l t false
abbrev ox (l:List Value) (t:TypeId):dL:=.cells l t true
abbrev U:Value:=.bool false
abbrev ajg (a:Nat):List Nat:=[a,a]
abbrev ajh (a:Nat):List Nat:=[a,a,a]
abbrev Q0 (a:Nat):List Nat:=[a,a,a,a]
abbrev vc (a:Nat):List Nat:=[a,a,a,a,a]
abbrev C9 (a:Nat):List Nat:=[a,a,a,a,a,a]
abbrev aji (a:Nat):List Nat:=[a,a,a,a,a,a,a]
abbrev ajj (a:Nat):List Nat:=[a,a,a,a,a,a,a,a]
abbrev ajk (a:Nat):List Nat:=[a,a,a,a,a,a,a,a,a]
abbrev ajd (a:Nat):List Nat:=[a,a,a,a,a,a,a,a,a,a]
abbrev aje (a:Nat):List Nat:=[a,a,a,a,a,a,a,a,a,a,a]
abbrev ajf (a:Nat):List Nat:=[a,a,a,a,a,a,a,a,a,a,a,a]
theorem Dk {s:ByteArray} (h:(s.toList==(⟨#[]⟩:ByteArray).toList)=true):s.size=0:=by
 have e:=congrArg List.length (eq_of_beq h)
 rw [ByteArray.toList_eq,ByteArray.toList_eq] at e
 simpa using e
theorem Dj {s:ByteArray} (h:(s.toList==(⟨#[]⟩:ByteArray).toList)=false):0<s.size:=by
 rcases Nat.eq_zero_or_pos s.size with h0 |h0
 ·exfalso
  have:s.toList=(⟨#[]⟩:ByteArray).toList:=by
   rw [ByteArray.toList_eq,ByteArray.toList_eq]
   exact List.eq_nil_of_length_eq_zero (by simpa using h0)
  rw [this] at h
  simp at h
 ·exact h0
def fa (pre:List Hint→List Hint) (C:Prop→Prop) (g:Prop):Prop:=(∀ q:Prop,q→C q)→g
section
variable {pre:List Hint→List Hint} {C:Prop→Prop} {g:Prop}
theorem aE (hs:List Hint) (k:fa (fun l=>pre (hs++l)) C g):fa pre C g:=k
theorem az (hs:List Hint) {p:Prop} (h:p) (k:fa (fun l=>pre (hs++l)) (fun q=>C (p∧q)) g):fa pre C g:=fun hc=>k fun q hq=>hc _ ⟨h,hq⟩
theorem eV (hs:List Hint) {p p1:Prop} (h:p) (h1:p1) (k:fa (fun l=>pre (hs++l)) (fun q=>C (p∧p1∧q)) g):fa pre C g:=fun hc=>k fun q hq=>hc _ ⟨h,h1,hq⟩
theorem qo (hs:List Hint) {p p1 p2:Prop} (h:p) (h1:p1) (h2:p2) (k:fa (fun l=>pre (hs++l)) (fun q=>C (p∧p1∧p2∧q)) g):fa pre C g:=fun hc=>k fun q hq=>hc _ ⟨h,h1,h2,hq⟩
theorem Lc (hs:List Hint) {p p1 p2 p3:Prop} (h:p) (h1:p1) (h2:p2) (h3:p3) (k:fa (fun l=>pre (hs++l)) (fun q=>C (p∧p1∧p2∧p3∧q)) g):fa pre C g:=fun hc=>k fun q hq=>hc _ ⟨h,h1,h2,h3,hq⟩
theorem io (hs:List Hint) {p p1 p2 p3 pG r7:Prop} (h:p) (h1:p1) (h2:p2) (h3:p3) (h4:pG) (h5:r7) (k:fa (fun l=>pre (hs++l)) (fun q=>C (p∧p1∧p2∧p3∧pG∧r7∧q)) g):fa pre C g:=fun hc=>k fun q hq=>hc _ ⟨h,h1,h2,h3,h4,h5,hq⟩
def jA:Nat→List Hint→List Hint
 |0,l=>l
 |n+1,l=>.auto n::l
theorem Y (n:Nat) {t:TypeId} {b off:Nat} {H:Z} {v:Value} (h:al E t b off H=some v) (k:fa (fun l=>pre (jA n (.val v H [] []::l))) (fun q=>C (al E t b off H=some v∧q)) g):fa pre C g:=fun hc=>k fun q hq=>hc _ ⟨h,hq⟩
theorem aB (n:Nat) {t:TypeId} {b off:Nat} {H K:Z} {v:Value} (h:bu E t b off v H=some K) (k:fa (fun l=>pre (jA n (.val dw K [] []::l))) (fun q=>C (bu E t b off v H=some K∧q)) g):fa pre C g:=fun hc=>k fun q hq=>hc _ ⟨h,hq⟩
theorem g8 (n:Nat) {o:Option (Value×Z×List Nat×List Nat)} {v:Value} {h:Z} {W R:List Nat} (e:o=some (v,h,W,R)) (k:fa (fun l=>pre (jA n (.val v h W R::l))) (fun q=>C (o=some (v,h,W,R)∧q)) g):fa pre C g:=fun hc=>k fun q hq=>hc _ ⟨e,hq⟩
theorem gY (n:Nat) (H:Z) {o:Option Value} {v:Value} (e:o=some v) (k:fa (fun l=>pre (jA n (.val v H [] []::l))) (fun q=>C (o=some v∧q)) g):fa pre C g:=fun hc=>k fun q hq=>hc _ ⟨e,hq⟩
theorem ac (n:Nat) {f:FuncId} {args:List Value} {H H':Z} {v:Value} {W:List Nat} (e:bF E f args H (.ret v) H' W) (k:fa (fun l=>pre (jA n (.call v H' W::l))) (fun q=>C (bF E f args H (.ret v) H' W∧q)) g):fa pre C g:=fun hc=>k fun q hq=>hc _ ⟨e,hq⟩
theorem bx (n:Nat) {aA:Nat} {c:Code} {gu:List (Tmp×Value)} {H H':Z} {d d':lZ} {x:fx} {T:cg} {W:List Nat} (e:dF E aA (.loop c) (aP gu) H d x T H' d' W) (k:fa (fun l=>pre (jA n (.loop (gu.map (·.1)) x T H' W::l))) (fun q=>C (dF E aA (.loop c) (aP gu) H d x T H' d' W∧q)) g):fa pre C g:=fun hc=>k fun q hq=>hc _ ⟨e,hq⟩
theorem gi (n j:Nat) {aA:Nat} {c:Code} {gu:List (Tmp×Value)} {H H':Z} {d d':lZ} {x:fx} {T:cg} {W:List Nat} (e:dF E aA c (aP gu) H d x T H' d' W) (k:fa (fun l=>pre (jA n (.piece j (gu.map (·.1)) x T H' W::l))) (fun q=>C (dF E aA c (aP gu) H d x T H' d' W∧q)) g):fa pre C g:=fun hc=>k fun q hq=>hc _ ⟨e,hq⟩
theorem aG (n:Nat) (i m:Int) (k:fa (fun l=>pre (jA n (.ax::l))) (fun q=>C (0≤i∧i<m∧q)) g) (h0:0≤i:=by omega) (h1:i<m:=by omega):fa pre C g:=fun hc=>k fun q hq=>hc _ ⟨h0,h1,hq⟩
theorem aH (n:Nat) (e:Int) (k:fa (fun l=>pre (jA n (.as (M e)::l))) (fun q=>C ((M (IntKind.i64.wrap e):Value)=M e∧q)) g) (h0:-9223372036854775808≤e:=by omega) (h1:e<9223372036854775808:=by omega):fa pre C g:=fun hc=>k fun q hq=>hc _ ⟨by rw [nE h0 h1],hq⟩
theorem ay (n:Nat) {x b:Bool} (h:x=b) (k:fa (fun l=>pre (jA n (.dec b::l))) (fun q=>C (x=b∧q)) g):fa pre C g:=fun hc=>k fun q hq=>hc _ ⟨h,hq⟩
theorem d5 (n:Nat) (b:Bool) (t:b=true→fa (fun l=>pre (jA n (.dec true::l))) (fun q=>C (b=true∧q)) g) (e:b=false→fa (fun l=>pre (jA n (.dec false::l))) (fun q=>C (b=false∧q)) g):fa pre C g:=fun hc=>by
 cases h:b with
 |true=>exact t h fun q hq=>hc _ ⟨h,hq⟩
 |false=>exact e h fun q hq=>hc _ ⟨h,hq⟩
theorem aD (n:Nat) (c:Prop) [Decidable c] (t:decide c=true→c→fa (fun l=>pre (jA n (.dec true::l))) (fun q=>C (decide c=true∧q)) g) (e:decide c=false→¬ c→fa (fun l=>pre (jA n (.dec false::l))) (fun q=>C (decide c=false∧q)) g):fa pre C g:=
 d5 n (decide c) (fun h=>t h (of_decide_eq_true h)) fun h=>e h (of_decide_eq_false h)
theorem aY (n:Nat) (x y:Int) (t:(x==y)=true→x=y→fa (fun l=>pre (jA n (.dec true::l))) (fun q=>C ((x==y)=true∧q)) g) (e:(x==y)=false→x≠y→fa (fun l=>pre (jA n (.dec false::l))) (fun q=>C ((x==y)=false∧q)) g):fa pre C g:=
 d5 n (x==y) (fun h=>t h (eq_of_beq h)) fun h=>e h (ne_of_beq_false h)
theorem d7 (n:Nat) (x y:Int) (t:(x != y)=true→x≠y→fa (fun l=>pre (jA n (.dec true::l))) (fun q=>C ((x != y)=true∧q)) g) (e:(x != y)=false→x=y→fa (fun l=>pre (jA n (.dec false::l))) (fun q=>C ((x != y)=false∧q)) g):fa pre C g:=
 d5 n (x != y) (fun h=>t h (ME h)) fun h=>e h (MD h)
theorem df (b:Bool):b=true∨b=false:=by cases b <;> simp
theorem j5 (v:Value):some v=some v:=rfl
theorem te {o:Option Z} {a b:Z} (h:o=some a) (e:b=a):o=some b:=by rw [h,e]
theorem ag {t:TypeId} {b:Nat} {H:Z} {c:List Value} {e:TypeId} {ro:Bool} {v:Value} (off:Nat) (ha:E.agg t=some false) (hb:H.get b=some (.cells c e ro)) (hv:c[off]?=some v:=by rfl):al E t b off H=some v:=cH ha hb hv
theorem aQ {t:TypeId} (K:Z) (j off:Nat) (ha:E.agg t=some false) {H:Z} {l:List dL} {c:List Value} {e:TypeId} {ro:Bool} {v:Value} (hK:K=Go.Am.news H l:=by rfl) (hb:l[j]?=some (.cells c e ro):=by rfl) (hv:c[off]?=some v:=by rfl):al E t (H.n+j) off K=some v:=hK▸aaJ ha hb hv
theorem stx {t:TypeId} {b n:Nat} {H K:Z} {c c':List Value} {e:TypeId} (off:Nat) (v:Value) (hs:E.size t=some n) (hb:H.get b=some (.cells c e false)) (hK:K=H.set b (.cells c' e false)) (hn:(Nat.beq v.cells.size n&&v.cells.toList.all one&&Nat.ble (off+n) c.length)=true:=by rfl) (hc:splice c off v.cells.toList=c':=by rfl):bu E t b off v H=some K:=te (st hs hb hn hc) hK
def vd:List (Tmp×Value)→Prop
 |[]=>True
 |(_,v)::l=>(some v=some v)∧vd l
theorem Dl:∀ l:List (Tmp×Value),vd l
 |[]=>trivial
 |(_,_)::l=>⟨rfl,Dl l⟩
end
section
variable {pre:List Hint→List Hint} {C:Prop→Prop} {G H:Z} {V:List Nat} {f:Nat}
def DK (fn:Func) (G:Z) (args:List Value) (H:Z) (V:List Nat) (Q:Value→Z→Prop):Prop:=∀ g,E.func g=some fn→(fn.body.isSome&&Nat.ble args.length fn.ntmps&&!(fn.name== "runtime.NumGoroutine"))=true→aa E G H→aV E G g args H V Q
theorem bB (fn:Func) {args:List Value} {Q:Value→Z→Prop} {g:FuncId} (y:aa E G H) (k:fa (fun l=>l) (fun q=>q) (DK fn G args H V Q)) (hf:E.func g=some fn:=by kernel_rfl) (hn:(fn.body.isSome&&Nat.ble args.length fn.ntmps&&!(fn.name== "runtime.NumGoroutine"))=true:=by kernel_rfl):aV E G g args H V Q:=k (fun _ h=>h) g hf hn y
theorem bf {fn:Func} {args:List Value} {Q:Value→Z→Prop} (n:Nat) (v:Value) (H':Z) (W:List Nat) (hw:∀ q∈W,q∈V∨(H.n≤q∧q<H'.n)) (hv:∀ q∈V,G.n≤q) (hq:Q v H') (h:(yA E fn 300 args H none (pre (jA n []))).map (fun r=>(gx r.1,r.2))=some (C True,v,H',W):=by kernel_rfl):fa pre C (DK fn G args H V Q):=
 fun hc g hf hn y=>aV.mk y (bF.CX ok hf hn (hc True trivial) h) hw hv hq
theorem af {fn:Func} {args:List Value} {Q:Value→Z→Prop} (n:Nat) (v:Value) (H':Z) (hq:Q v H') (h:(yA E fn 300 args H none (pre (jA n []))).map (fun r=>(gx r.1,r.2))=some (C True,v,H',[]):=by kernel_rfl):fa pre C (DK fn G args H [] Q):=
 bf n v H' [] aL aL hq h
theorem fI {fn:Func} {args:List Value} {Q:Value→Z→Prop} (n:Nat) (vs:List Value) (v:Value) (H':Z) (W:List Nat) (hw:∀ q∈W,q∈V∨(H.n≤q∧q<H'.n)) (hv:∀ q∈V,G.n≤q) (hq:Q v H') (h:(Lf E fn 300 args H vs (pre (jA n []))).map (fun r=>(gx r.1,r.2))=some (C True,v,H',W):=by kernel_rfl):fa pre C (DK fn G args H V Q):=
 fun hc g hf hn y=>aV.mk y (bF.aca ok hf hn (hc True trivial) h) hw hv hq
def y3 (aA:Nat) (c:Code) (G:Z) (gu:List (Tmp×Value)) (H:Z) (V:List Nat) (Q:fx→cg→Z→Prop):Prop:=aa E G H→bV E G aA c gu H V Q
def GZ (aA:Nat) (c:Code) (G:Z) (gu:List (Tmp×Value)) (H:Z) (V:List Nat) (Q:fx→cg→Z→Prop):Prop:=aa E G H→jL E G aA c gu H V Q
variable {aA:Nat} {c:Code} {gu:List (Tmp×Value)} {Q:fx→cg→Z→Prop}
theorem cN (y:aa E G H) (k:fa (fun l=>l) (fun q=>q) (y3 aA c G gu H V Q)):bV E G aA c gu H V Q:=k (fun _ h=>h) y
theorem mq (y:aa E G H) (k:fa (fun l=>l) (fun q=>q) (GZ aA c G gu H V Q)):jL E G aA c gu H V Q:=k (fun _ h=>h) y
theorem c5 (n:Nat) (post:List (Tmp×Value)) (x:fx) (H':Z) (W:List Nat) (hw:∀ q∈W,q∈V∨(H.n≤q∧q<H'.n)) (hv:∀ q∈V,G.n≤q) (hq:Q x (aP post) H') (hx:x≠.normal:=by simp) (h:(qp E aA 300 c gu post H (pre (jA n []))).map (fun r=>(gx r.1,r.2))=some (C (vd post),x,H',W):=by kernel_rfl):fa pre C (y3 aA c G gu H V Q):=
 fun hc y=>bV.last' y (dF.qZ ok (hc _ (Dl _)) h) hx hw hv hq
theorem cF (n:Nat) (post:List (Tmp×Value)) (x:fx) (H':Z) (hq:Q x (aP post) H') (hx:x≠.normal:=by simp) (h:(qp E aA 300 c gu post H (pre (jA n []))).map (fun r=>(gx r.1,r.2))=some (C (vd post),x,H',[]):=by kernel_rfl):fa pre C (y3 aA c G gu H [] Q):=
 c5 n post x H' [] aL aL hq hx h
theorem dY (n:Nat) (post:List (Tmp×Value)) (H':Z) (W:List Nat) (hw:∀ q∈W,q∈V∨(H.n≤q∧q<H'.n)) (k:bV E G aA c post H' V Q) (h:(qp E aA 300 c gu post H (pre (jA n []))).map (fun r=>(gx r.1,r.2))=some (C (vd post),.normal,H',W):=by kernel_rfl):fa pre C (y3 aA c G gu H V Q):=
 fun hc y=>bV.next' y (dF.qZ ok (hc _ (Dl _)) h) hw k
theorem du (n:Nat) (post:List (Tmp×Value)) (H':Z) (k:bV E G aA c post H' V Q) (h:(qp E aA 300 c gu post H (pre (jA n []))).map (fun r=>(gx r.1,r.2))=some (C (vd post),.normal,H',[]):=by kernel_rfl):fa pre C (y3 aA c G gu H V Q):=
 dY n post H' [] aL k h
theorem i8 (n:Nat) (post:List (Tmp×Value)) (x:fx) (H':Z) (W:List Nat) (hw:∀ q∈W,q∈V∨(H.n≤q∧q<H'.n)) (hv:∀ q∈V,G.n≤q) (hq:Q x (aP post) H') (h:(qp E aA 300 c gu post H (pre (jA n []))).map (fun r=>(gx r.1,r.2))=some (C (vd post),x,H',W):=by kernel_rfl):fa pre C (GZ aA c G gu H V Q):=
 fun hc y=>jL.mk y (dF.qZ ok (hc _ (Dl _)) h) hw hv hq
theorem cM (n:Nat) (post:List (Tmp×Value)) (x:fx) (H':Z) (hq:Q x (aP post) H') (h:(qp E aA 300 c gu post H (pre (jA n []))).map (fun r=>(gx r.1,r.2))=some (C (vd post),x,H',[]):=by kernel_rfl):fa pre C (GZ aA c G gu H [] Q):=
 i8 n post x H' [] aL aL hq h
end
theorem fz:E.agg 100=some true:=an
theorem sH:E.agg 104=some false:=an
theorem j9:E.agg 112=some true:=an
theorem rj:E.agg 126=some true:=an
theorem kB:E.agg 128=some false:=an
theorem p0:E.agg 135=some true:=an
theorem DS:E.agg 162=some false:=an
theorem SF:E.agg 221=some true:=an
theorem ub:E.agg 224=some true:=an
theorem kZ:E.agg 22=some false:=an
theorem k3:E.agg 23=some false:=an
theorem jz:E.agg 24=some false:=an
theorem ef:E.agg 25=some false:=an
theorem c4:E.agg 27=some true:=an
theorem fQ:E.agg 2=some false:=an
theorem sI:E.agg 306=some false:=an
theorem L9:E.agg 31=some false:=an
theorem Ma:E.agg 322=some false:=an
theorem av:E.agg 3=some false:=an
theorem Bj:E.agg 40=some true:=an
theorem rl:E.agg 44=some false:=an
theorem fK:E.agg 4=some false:=an
theorem cy:E.agg 5=some false:=an
theorem ir:E.agg 68=some true:=an
theorem pc:E.agg 69=some false:=an
theorem hX:E.agg 91=some false:=an
theorem y8:E.agg 97=some false:=an
theorem vy:E.agg 98=some false:=an
theorem bA:E.agg 9=some false:=an
theorem cZ:E.size 100=some 3:=an
theorem e4:E.size 112=some 3:=an
theorem od:E.size 126=some 2:=an
theorem afn:E.size 128=some 1:=an
theorem pL:E.size 135=some 2:=an
theorem yB:E.size 220=some 2:=an
theorem afq:E.size 221=some 14:=an
theorem mZ:E.size 224=some 2:=an
theorem Dm:E.size 22=some 1:=an
theorem afr:E.size 23=some 1:=an
theorem RH:E.size 240=some 256:=an
theorem ve:E.size 24=some 1:=an
theorem qq:E.size 25=some 1:=an
theorem ct:E.size 27=some 13:=an
theorem Lh:E.size 2=some 1:=an
theorem dK:E.size 3=some 1:=an
theorem qr:E.size 40=some 3:=an
theorem GH:E.size 48=some 2:=an
theorem si:E.size 4=some 1:=an
theorem oe:E.size 5=some 1:=an
theorem fN:E.size 68=some 13:=an
theorem nB:E.size 70=some 7:=an
theorem wI:E.size 98=some 1:=an
theorem nC:E.size 9=some 1:=an
theorem af8:E.ul 279=some (.array 800 5):=an
theorem af9:E.ul 5=some (.int .u8):=an
theorem aga:E.ul 122=some (.slice 126):=an
theorem qt:E.ul 192=some (.slice 5):=an
theorem wK:E.ul 23=some (.slice 40):=an
theorem Dq:E.ul 24=some (.slice 9):=an
theorem my:E.ul 25=some (.slice 27):=an
theorem Dr:E.ul 44=some (.slice 3):=an
theorem agb:E.ul 9=some .string:=an
theorem ahs:E.zero 126=some (.agg #[.string ⟨#[]⟩,.string ⟨#[]⟩]):=an
def wX:List dL:=[
 .cells [.iface 78 (.agg #[.pointer (some ⟨22,31,none⟩)])] 60 true,
 .cells [] 4 true,
 .cells [.int .u8 0,.int .u8 0,.int .u8 0,.int .u8 0,.int .u8 0,.int .u8 0,.int .u8 0,.int .u8 0,.int .u8 0,.int .u8 1,.int .u8 1,.int .u8 1,.int .u8 1,.int .u8 1,.int .u8 0,.int .u8 0,.int .u8 0,.int .u8 0,.int .u8 0,.int .u8 0,.int .u8 0,.int .u8 0,.int .u8 0,.int .u8 0,.int .u8 0,.int .u8 0,.int .u8 0,.int .u8 0,.int .u8 0,.int .u8 0,.int .u8 0,.int .u8 0,.int .u8 1,.int .u8 0,.int .u8 0,.int .u8 0,.int .u8 0,.int .u8 0,.int .u8 0,.int .u8 0,.int .u8 0,.int .u8 0,.int .u8 0,.int .u8 0,.int .u8 0,.int .u8 0,.int .u8 0,.int .u8 0,.int .u8 0,.int .u8 0,.int .u8 0,.int .u8 0,.int .u8 0,.int .u8 0,.int .u8 0,.int .u8 0,.int .u8 0,.int .u8 0,.int .u8 0,.int .u8 0,.int .u8 0,.int .u8 0,.int .u8 0,.int .u8 0,.int .u8 0,.int .u8 0,.int .u8 0,.int .u8 0,.int .u8 0,.int .u8 0,.int .u8 0,.int .u8 0,.int .u8 0,.int .u8 0,.int .u8 0,.int .u8 0,.int .u8 0,.int .u8 0,.int .u8 0,.int .u8 0,.int .u8 0,.int .u8 0,.int .u8 0,.int .u8 0,.int .u8 0,.int .u8 0,.int .u8 0,.int .u8 0,.int .u8 0,.int .u8 0,.int .u8 0,.int .u8 0,.int .u8 0,.int .u8 0,.int .u8 0,.int .u8 0,.int .u8 0,.int .u8 0,.int .u8 0,.int .u8 0,.int .u8 0,.int .u8 0,.int .u8 0,.int .u8 0,.int .u8 0,.int .u8 0,.int .u8 0,.int .u8 0,.int .u8 0,.int .u8 0,.int .u8 0,.int .u8 0,.int .u8 0,.int .u8 0,.int .u8 0,.int .u8 0,.int .u8 0,.int .u8 0,.int .u8 0,.int .u8 0,.int .u8 0,.int .u8 0,.int .u8 0,.int .u8 0,.int .u8 0,.int .u8 0,.int .u8 0,.int .u8 0,.int .u8 0,.int .u8 0,.int .u8 0,.int .u8 0,.int .u8 0,.int .u8 0,.int .u8 0,.int .u8 0,.int .u8 0,.int .u8 0,.int .u8 0,.int .u8 0,.int .u8 0,.int .u8 0,.int .u8 0,.int .u8 0,.int .u8 0,.int .u8 0,.int .u8 0,.int .u8 0,.int .u8 0,.int .u8 0,.int .u8 0,.int .u8 0,.int .u8 0,.int .u8 0,.int .u8 0,.int .u8 0,.int .u8 0,.int .u8 0,.int .u8 0,.int .u8 0,.int .u8 0,.int .u8 0,.int .u8 0,.int .u8 0,.int .u8 0,.int .u8 0,.int .u8 0,.int .u8 0,.int .u8 0,.int .u8 0,.int .u8 0,.int .u8 0,.int .u8 0,.int .u8 0,.int .u8 0,.int .u8 0,.int .u8 0,.int .u8 0,.int .u8 0,.int .u8 0,.int .u8 0,.int .u8 0,.int .u8 0,.int .u8 0,.int .u8 0,.int .u8 0,.int .u8 0,.int .u8 0,.int .u8 0,.int .u8 0,.int .u8 0,.int .u8 0,.int .u8 0,.int .u8 0,.int .u8 0,.int .u8 0,.int .u8 0,.int .u8 0,.int .u8 0,.int .u8 0,.int .u8 0,.int .u8 0,.int .u8 0,.int .u8 0,.int .u8 0,.int .u8 0,.int .u8 0,.int .u8 0,.int .u8 0,.int .u8 0,.int .u8 0,.int .u8 0,.int .u8 0,.int .u8 0,.int .u8 0,.int .u8 0,.int .u8 0,.int .u8 0,.int .u8 0,.int .u8 0,.int .u8 0,.int .u8 0,.int .u8 0,.int .u8 0,.int .u8 0,.int .u8 0,.int .u8 0,.int .u8 0,.int .u8 0,.int .u8 0,.int .u8 0,.int .u8 0,.int .u8 0,.int .u8 0,.int .u8 0,.int .u8 0,.int .u8 0,.int .u8 0,.int .u8 0,.int .u8 0,.int .u8 0,.int .u8 0,.int .u8 0,.int .u8 0,.int .u8 0,.int .u8 0,.int .u8 0,.int .u8 0,.int .u8 0,.int .u8 0,.int .u8 0,.int .u8 0,.int .u8 0,.int .u8 0,.int .u8 0,.int .u8 0] 131 true,
 .cells [.pointer (some ⟨30,0,none⟩)] 159 true,
 .cells [.string ⟨#[121]⟩,.int .i64 31536000000,.string ⟨#[119]⟩,.int .i64 604800000,.string ⟨#[100]⟩,.int .i64 86400000,.string ⟨#[104]⟩,.int .i64 3600000,.string ⟨#[109]⟩,.int .i64 60000,.string ⟨#[115]⟩,.int .i64 1000,.string ⟨#[109,115]⟩,.int .i64 1] 221 true,
 .cells (Go.Pinned.utf8FirstZ.map fun (n:Nat)=>.int .u8 n) 131 true,
 .cells [.int .u8 128,.int .u8 191,.int .u8 160,.int .u8 191,.int .u8 128,.int .u8 159,.int .u8 144,.int .u8 191,.int .u8 128,.int .u8 143,.int .u8 0,.int .u8 0,.int .u8 0,.int .u8 0,.int .u8 0,.int .u8 0,.int .u8 0,.int .u8 0,.int .u8 0,.int .u8 0,.int .u8 0,.int .u8 0,.int .u8 0,.int .u8 0,.int .u8 0,.int .u8 0,.int .u8 0,.int .u8 0,.int .u8 0,.int .u8 0,.int .u8 0,.int .u8 0] 225 true,
 .cells [] 3 true,
 .cells [.iface 289 (.pointer (some ⟨24,0,none⟩))] 31 true,
 .cells [.iface 289 (.pointer (some ⟨25,0,none⟩))] 31 true,
 .cells [.int .u64 23,.int .u64 8,.int .i64 (-127)] 272 true,
 .cells [.bool true] 4 true,
 .cells [.int .u64 52,.int .u64 11,.int .i64 (-1023)] 272 true,
 .cells [.slice (some ⟨28,0,none⟩) 11 23] 294 true,
 .cells [.slice (some ⟨26,0,none⟩) 9 19] 44 true,
 .cells [.slice (some ⟨27,0,none⟩) 23 47] 306 true,
 .cells (Go.Pinned.pow10Rows.flatMap fun x=>[.int .u64 x.1,.int .u64 x.2]) 311 true,
 .cells [.slice (some ⟨29,0,none⟩) 61 123] 322 true,
 .cells [.int .u64 1,.int .u64 10,.int .u64 100,.int .u64 1000,.int .u64 10000,.int .u64 100000,.int .u64 1000000,.int .u64 10000000,.int .u64 100000000,.int .u64 1000000000,.int .u64 10000000000,.int .u64 100000000000,.int .u64 1000000000000,.int .u64 10000000000000,.int .u64 100000000000000,.int .u64 1000000000000000,.int .u64 10000000000000000,.int .u64 100000000000000000,.int .u64 1000000000000000000,.int .u64 10000000000000000000] 325 true,
 .cells [.int .u8 0,.int .u8 1,.int .u8 28,.int .u8 2,.int .u8 29,.int .u8 14,.int .u8 24,.int .u8 3,.int .u8 30,.int .u8 22,.int .u8 20,.int .u8 15,.int .u8 25,.int .u8 17,.int .u8 4,.int .u8 8,.int .u8 31,.int .u8 27,.int .u8 13,.int .u8 23,.int .u8 21,.int .u8 19,.int .u8 16,.int .u8 7,.int .u8 26,.int .u8 12,.int .u8 18,.int .u8 6,.int .u8 11,.int .u8 5,.int .u8 10,.int .u8 9] 328 true,
 .cells [.int .u8 0,.int .u8 1,.int .u8 56,.int .u8 2,.int .u8 57,.int .u8 49,.int .u8 28,.int .u8 3,.int .u8 61,.int .u8 58,.int .u8 42,.int .u8 50,.int .u8 38,.int .u8 29,.int .u8 17,.int .u8 4,.int .u8 62,.int .u8 47,.int .u8 59,.int .u8 36,.int .u8 45,.int .u8 43,.int .u8 51,.int .u8 22,.int .u8 53,.int .u8 39,.int .u8 33,.int .u8 30,.int .u8 24,.int .u8 18,.int .u8 12,.int .u8 5,.int .u8 63,.int .u8 55,.int .u8 48,.int .u8 27,.int .u8 60,.int .u8 41,.int .u8 37,.int .u8 16,.int .u8 46,.int .u8 35,.int .u8 44,.int .u8 21,.int .u8 52,.int .u8 32,.int .u8 23,.int .u8 11,.int .u8 54,.int .u8 26,.int .u8 40,.int .u8 15,.int .u8 34,.int .u8 20,.int .u8 31,.int .u8 10,.int .u8 25,.int .u8 14,.int .u8 19,.int .u8 9,.int .u8 13,.int .u8 8,.int .u8 7,.int .u8 6] 329 true,
 .cells [] 159 true,
 .cells [] 0 true,
 .cells [.int .u16 9,.int .u16 13,.int .u16 1,.int .u16 32,.int .u16 133,.int .u16 101,.int .u16 160,.int .u16 5760,.int .u16 5600,.int .u16 8192,.int .u16 8202,.int .u16 1,.int .u16 8232,.int .u16 8233,.int .u16 1,.int .u16 8239,.int .u16 8287,.int .u16 48,.int .u16 12288,.int .u16 12288,.int .u16 1] 183 true,
 .cells [.string ⟨#[105,110,118,97,108,105,100,32,115,121,110,116,97,120]⟩] 291 true,
 .cells [.string ⟨#[118,97,108,117,101,32,111,117,116,32,111,102,32,114,97,110,103,101]⟩] 291 true,
 .cells [.int .i64 1,.int .i64 3,.int .i64 6,.int .i64 9,.int .i64 13,.int .i64 16,.int .i64 19,.int .i64 23,.int .i64 26] 3 true,
 .cells [.float .f64 4607182418800017408,.float .f64 4621819117588971520,.float .f64 4636737291354636288,.float .f64 4652007308841189376,.float .f64 4666723172467343360,.float .f64 4681608360884174848,.float .f64 4696837146684686336,.float .f64 4711630319722168320,.float .f64 4726483295884279808,.float .f64 4741671816366391296,.float .f64 4756540486875873280,.float .f64 4771362005757984768,.float .f64 4786511204640096256,.float .f64 4801453603149578240,.float .f64 4816244402031689728,.float .f64 4831355200913801216,.float .f64 4846369599423283200,.float .f64 4861130398305394688,.float .f64 4876203697187506176,.float .f64 4891288408196988160,.float .f64 4906019910204099648,.float .f64 4921056587992461136,.float .f64 4936209963552724370] 104 true,
 .cells [.float .f32 1065353216,.float .f32 1092616192,.float .f32 1120403456,.float .f32 1148846080,.float .f32 1176256512,.float .f32 1203982336,.float .f32 1232348160,.float .f32 1259902592,.float .f32 1287568416,.float .f32 1315859240,.float .f32 1343554297] 255 true,
 .cells (Go.Pinned.cheatRows.flatMap fun x=>[.int .i64 x.1,.string ⟨x.2.toArray⟩]) 321 true,
 .cells [.slice (some ⟨23,0,none⟩) 7 15,.slice none 0 0,.int .i64 2] 180 true]
def G:Z:=news ⟨0,.nil⟩ wX
theorem iY:G.n=31:=by rw [G,dj];rfl
theorem Bd:cW G:=cW.news (fun i _=>rfl) wX
theorem Bc:E.d4≤G.n:=by rw [iY];show 23≤31;omega
theorem nM (k:Nat) {o:dL} (h:wX[k]?=some o):G.get k=some o:=by
 have:=aR wX ⟨0,.nil⟩ k o h
 rwa [show (Z.mk 0 (de.nil:de dL)).n+k=k by show 0+k=k;omega] at this
noncomputable abbrev VM:=([.string ⟨#[121]⟩,.int .i64 31536000000,.string ⟨#[119]⟩,.int .i64 604800000,.string ⟨#[100]⟩,.int .i64 86400000,.string ⟨#[104]⟩,.int .i64 3600000,.string ⟨#[109]⟩,.int .i64 60000,.string ⟨#[115]⟩,.int .i64 1000,.string ⟨#[109,115]⟩,.int .i64 1]:List Value)
theorem G4 {H:Z} (y:aa E G H):H.get 4=some (ox VM 221):=y.cell (nM 4 rfl) (by rw [iY];omega)
theorem t7 {H:Z} (y:aa E G H):H.get 5=some (ox (Go.Pinned.utf8FirstZ.map fun (n:Nat)=>.int .u8 n) 131):=y.cell (nM 5 rfl) (by rw [iY];omega)
noncomputable abbrev VN:=([.int .u8 128,.int .u8 191,.int .u8 160,.int .u8 191,.int .u8 128,.int .u8 159,.int .u8 144,.int .u8 191,.int .u8 128,.int .u8 143,.int .u8 0,.int .u8 0,.int .u8 0,.int .u8 0,.int .u8 0,.int .u8 0,.int .u8 0,.int .u8 0,.int .u8 0,.int .u8 0,.int .u8 0,.int .u8 0,.int .u8 0,.int .u8 0,.int .u8 0,.int .u8 0,.int .u8 0,.int .u8 0,.int .u8 0,.int .u8 0,.int .u8 0,.int .u8 0]:List Value)
theorem t8 {H:Z} (y:aa E G H):H.get 6=some (ox VN 225):=y.cell (nM 6 rfl) (by rw [iY];omega)
theorem Su {H:Z} (y:aa E G H):H.get 8=some (ox [.iface 289 (.pointer (some ⟨24,0,none⟩))] 31):=y.cell (nM 8 rfl) (by rw [iY];omega)
theorem Sv {H:Z} (y:aa E G H):H.get 9=some (ox [.iface 289 (.pointer (some ⟨25,0,none⟩))] 31):=y.cell (nM 9 rfl) (by rw [iY];omega)
theorem St {H:Z} (y:aa E G H):H.get 11=some (ox [aw] 4):=y.cell (nM 11 rfl) (by rw [iY];omega)
theorem jx {H:Z} (y:aa E G H):H.get 12=some (ox [.int .u64 52,.int .u64 11,.int .i64 (-1023)] 272):=y.cell (nM 12 rfl) (by rw [iY];omega)
theorem t6 {H:Z} (y:aa E G H):H.get 14=some (ox [.slice (some ⟨26,0,none⟩) 9 19] 44):=y.cell (nM 14 rfl) (by rw [iY];omega)
theorem sC {H:Z} (y:aa E G H):H.get 15=some (ox [.slice (some ⟨27,0,none⟩) 23 47] 306):=y.cell (nM 15 rfl) (by rw [iY];omega)
theorem L0 {H:Z} (y:aa E G H):H.get 16=some (ox (Go.Pinned.pow10Rows.flatMap fun x=>[.int .u64 x.1,.int .u64 x.2]) 311):=y.cell (nM 16 rfl) (by rw [iY];omega)
theorem L1 {H:Z} (y:aa E G H):H.get 17=some (ox [.slice (some ⟨29,0,none⟩) 61 123] 322):=y.cell (nM 17 rfl) (by rw [iY];omega)
noncomputable abbrev VO:=([.int .i64 1,.int .i64 3,.int .i64 6,.int .i64 9,.int .i64 13,.int .i64 16,.int .i64 19,.int .i64 23,.int .i64 26]:List Value)
theorem G3 {H:Z} (y:aa E G H):H.get 26=some (ox VO 3):=y.cell (nM 26 rfl) (by rw [iY];omega)
noncomputable abbrev VP:=([.float .f64 4607182418800017408,.float .f64 4621819117588971520,.float .f64 4636737291354636288,.float .f64 4652007308841189376,.float .f64 4666723172467343360,.float .f64 4681608360884174848,.float .f64 4696837146684686336,.float .f64 4711630319722168320,.float .f64 4726483295884279808,.float .f64 4741671816366391296,.float .f64 4756540486875873280,.float .f64 4771362005757984768,.float .f64 4786511204640096256,.float .f64 4801453603149578240,.float .f64 4816244402031689728,.float .f64 4831355200913801216,.float .f64 4846369599423283200,.float .f64 4861130398305394688,.float .f64 4876203697187506176,.float .f64 4891288408196988160,.float .f64 4906019910204099648,.float .f64 4921056587992461136,.float .f64 4936209963552724370]:List Value)
theorem sD {H:Z} (y:aa E G H):H.get 27=some (ox VP 104):=y.cell (nM 27 rfl) (by rw [iY];omega)
theorem L2 {H:Z} (y:aa E G H):H.get 29=some (ox (Go.Pinned.cheatRows.flatMap fun x=>[.int .i64 x.1,.string ⟨x.2.toArray⟩]) 321):=y.cell (nM 29 rfl) (by rw [iY];omega)
theorem L3:G2 G:=by
 intro i hi
 rw [iY] at hi
 have key:∀ k o,wX[k]?=some o→Bf 31 (some o)→Bf G.n (G.get k):=fun k o h hl=>by rw [nM k h,iY];exact hl
 have jf:∀(c:List Value) e ro,c.all ground=true→Bf 31 (some (.cells c e ro)):=fun c e ro h x hx=>.ground (List.all_eq_true.1 h x hx)
 match i,hi with
 |0,_=>exact key 0 _ rfl (fun x hx=>by simp only [List.mem_singleton] at hx;subst hx;exact .iface (.agg fun x hx=>by simp only [List.mem_singleton] at hx;subst hx;exact .ptr J))
 |1,_=>exact key 1 _ rfl (jf _ _ _ an)
 |2,_=>exact key 2 _ rfl (jf _ _ _ an)
 |3,_=>exact key 3 _ rfl (fun x hx=>by simp only [List.mem_singleton] at hx;subst hx;exact .ptr J)
 |4,_=>exact key 4 _ rfl (jf _ _ _ an)
 |5,_=>exact key 5 _ rfl (jf _ _ _ an)
 |6,_=>exact key 6 _ rfl (jf _ _ _ an)
 |7,_=>exact key 7 _ rfl (jf _ _ _ an)
 |8,_=>exact key 8 _ rfl (fun x hx=>by simp only [List.mem_singleton] at hx;subst hx;exact .iface (.ptr J))
 |9,_=>exact key 9 _ rfl (fun x hx=>by simp only [List.mem_singleton] at hx;subst hx;exact .iface (.ptr J))
 |10,_=>exact key 10 _ rfl (jf _ _ _ an)
 |11,_=>exact key 11 _ rfl (jf _ _ _ an)
 |12,_=>exact key 12 _ rfl (jf _ _ _ an)
 |13,_=>exact key 13 _ rfl (fun x hx=>by simp only [List.mem_singleton] at hx;subst hx;exact .slice J)
 |14,_=>exact key 14 _ rfl (fun x hx=>by simp only [List.mem_singleton] at hx;subst hx;exact .slice J)
 |15,_=>exact key 15 _ rfl (fun x hx=>by simp only [List.mem_singleton] at hx;subst hx;exact .slice J)
 |16,_=>exact key 16 _ rfl (jf _ _ _ an)
 |17,_=>exact key 17 _ rfl (fun x hx=>by simp only [List.mem_singleton] at hx;subst hx;exact .slice J)
 |18,_=>exact key 18 _ rfl (jf _ _ _ an)
 |19,_=>exact key 19 _ rfl (jf _ _ _ an)
 |20,_=>exact key 20 _ rfl (jf _ _ _ an)
 |21,_=>exact key 21 _ rfl (jf _ _ _ an)
 |22,_=>exact key 22 _ rfl (jf _ _ _ an)
 |23,_=>exact key 23 _ rfl (jf _ _ _ an)
 |24,_=>exact key 24 _ rfl (jf _ _ _ an)
 |25,_=>exact key 25 _ rfl (jf _ _ _ an)
 |26,_=>exact key 26 _ rfl (jf _ _ _ an)
 |27,_=>exact key 27 _ rfl (jf _ _ _ an)
 |28,_=>exact key 28 _ rfl (jf _ _ _ an)
 |29,_=>exact key 29 _ rfl (jf _ _ _ an)
 |30,_=>exact key 30 _ rfl (fun x hx=>by
   simp only [List.mem_cons,aq,or_false] at hx
   rcases hx with rfl |rfl |rfl
   ·exact .slice J
   ·exact .ground rfl
   ·exact .ground rfl)
 |n+31,h=>omega
theorem eh {g:FuncId} {args:List Value} {v:Value} {lE:Z} (ha:∀ x∈args,j8 x) (hv:j8 v) (c:bF E g args G (.ret v) lE []) {H:Z} (y:aa E G H):bF E g args H (.ret v) H []:=c.eh L3 Bd Bc ha hv y
theorem eH:aa E G G:=⟨Bd,Nat.le_refl _,Bc,fun _ _=>rfl⟩
end Go.Proofs.YtglmagcldkngbaaGreatDoor
