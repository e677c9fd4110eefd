/- Part of the proof that CheckTypes answers true. -/
import Derived.Test.YtglmagcldkngbaaGreatDoorQ00
import Derived.LoopN
import Derived.Defers
import Derived.Orders
set_option linter.unusedVariables false
set_option linter.unusedSimpArgs false
set_option maxRecDepth 100000
set_option maxHeartbeats 4000000
namespace Go.Am
section
variable {E:Env} {base:Nat} {φ:bC} {w:World} {H:Z}
theorem Tn (ok:E.fy) (wf:cW H) {T:cg} {t:TypeId} {len:Nat} {ps:Array (Nat×Operand)} {v:Value} {H':Z} {W R:List Nat} (h:Hp E T t len ps H=some (v,H',W,R)) :
  ez H H' W R∧∀ φ ρ,oo E φ T ρ→Good E H H' W R v φ (do Pure.pure (.value (← Instr.buildSlice t len (ps.map fun p=>(p.1,ρ p.2))))):=by
 unfold Hp at h
 split at h
 rotate_left
 ·cases h
 rename_i e ht
 split at h
 rotate_left
 ·cases h
 rename_i n z hn hz
 cases hc:(Nat.ble (len*n) 16777216&&Nat.beq z.cells.size n&&ground z) with
 |false=>rw [hc] at h;cases h
 |true=>
  rw [hc] at h
  simp only [cond_true] at h
  simp only [dZ] at hc
  obtain ⟨⟨hle,EV⟩,Iw⟩:=hc
  have hle:=Nat.le_of_ble_eq_true hle
  have EV:=Nat.eq_of_beq_eq_true EV
  split at h
  rotate_left
  ·cases h
  rename_i c hf
  cases hone:c.all one with
  |false=>rw [hone] at h;cases h
  |true=>
   rw [hone] at h
   simp only [cond_true,bH,b8] at h
   obtain ⟨rfl,rfl,rfl,rfl⟩:=h
   refine ⟨ez.new wf _ _,fun φ ρ he base w hp hfr=>?_⟩
   have hfree:φ H.n=none:=hfr _ (Nat.le_refl _) (by simp)
   have YH:eI φ (iM z.cells.toList len) (iM z.cells.toList len).toArray.toList:=by simpa using LU ((zF Iw).toList) len
   obtain ⟨d',h4,h5⟩:=En he (fun i=>some (i*n,n)) (fun i=>some (i*n,n)) (fun i p hp=>hp) ps.toList _ c (iM z.cells.toList len).toArray YH hf
   refine fC.value (be:=fun j=>if j=H.n then some ⟨w.heap.size,0,c.length⟩ else φ j) (u:=.slice (some ⟨w.heap.size,0,none⟩) len len)
    (w':={ w with heap:=w.heap.push (.cells d' e (0,0)) }) ?_ ?_ ?_
   ·unfold Instr.buildSlice
    rw [bI (iE ok ht w)]
    simp only
    rw [bI (lU ok hn w),if_neg J]
    have YI:=LV z.cells.toList len
    by_cases h0:len*n=0
    ·rw [if_pos h0,bI (run_pure _ w)]
     have e0:iM z.cells.toList len=[]:=by
      apply List.eq_nil_of_length_eq_zero
      rw [GW];simpa [EV] using h0
     rw [e0] at h4
     have h0':(Array.map (fun x=>(#[]:Array Value)[x%(#[]:Array Value).size]!) (Array.range (len*n)))=#[]:=by rw [h0];simp
     simp only [h0']
     have H7:Instr.fill (fun i=>some (i*n,n)) #[] (ps.map fun p=>(p.1,ρ p.2)).toList=some d':=by simpa using h4
     simp only [H7]
     rw [bI (AK _ _ w)]
     rfl
    ·rw [if_neg h0,bI (oU ok hz w),bI (run_pure _ w)]
     have e1:(Array.map (fun x=>z.cells[x%z.cells.size]!) (Array.range (len*n)))=(iM z.cells.toList len).toArray:=by
      rw [YI];simp [EV]
     simp only [e1]
     have H7:Instr.fill (fun i=>some (i*n,n)) (iM z.cells.toList len).toArray (ps.map fun p=>(p.1,ρ p.2)).toList=some d':=by simpa using h4
     simp only [H7]
     rw [bI (AK _ _ w)]
     rfl
   ·have:=bn.mY (φ:=fun j=>if j=H.n then some ⟨w.heap.size,0,c.length⟩ else φ j) H.n 0 len len ⟨w.heap.size,0,c.length⟩ (by simp) (Nat.le_refl _)
    simpa using this
   ·exact gr.Fm hp.bs hfree (ds:=d'.toList) h5 (by simp) rfl rfl rfl
def ng (φ:bC) (es es':List MapEntry):Prop:=es.length=es'.length∧∀(j:Nat) x y,es[j]?=some x→es'[j]?=some y→bn φ x.key y.key∧bn φ x.val y.val∧x.born=y.born
theorem ng.cons_inv {φ:bC} {x:MapEntry} {xs zs:List MapEntry} (h:ng φ (x::xs) zs):∃ y ys,zs=y::ys∧(bn φ x.key y.key∧bn φ x.val y.val∧x.born=y.born)∧ng φ xs ys:=by
 cases zs with
 |nil=>have:=h.1;simp at this
 |cons y ys=>
  refine ⟨y,ys,rfl,h.2 0 x y (by simp) (by simp),?_,fun i a b ha hb=>h.2 (i+1) a b (by simpa using ha) (by simpa using hb)⟩
  have:=h.1;simp at this;exact this
theorem ng.tE {φ:bC} {zs:List MapEntry} (h:ng φ [] zs):zs=[]:=by
 have h1:=h.1
 cases zs with
 |nil=>rfl
 |cons a b=>simp at h1
theorem wb {kd:TypeDesc} {k:Value} (hk:qM kd k=true):(∃ s,kd=.string∧k=.string s)∨∃ i n,kd=.int i∧k=.int i n:=by
 unfold qM at hk
 split at hk
 ·exact .inl ⟨_,rfl,rfl⟩
 ·simp at hk;subst hk;exact .inr ⟨_,_,rfl,rfl⟩
 ·cases hk
theorem Eo {kd:TypeDesc} {k:Value} (hk:qM kd k=true):∀(es es':List MapEntry) (i:Nat) (r:Option Value),ng φ es es'→pu k es=some r→
  ∃ q,Instr.findNow kd k es' i=some q∧match r with |none=>q=none |some v=>∃ j u,q=some (j,u)∧bn φ v u∧i≤j
 |[],es',i,r,hm,h=>by
  have:=hm.tE;subst this
  simp [pu] at h;subst h
  exact ⟨none,rfl,rfl⟩
 |e::es,es',i,r,hm,h=>by
  obtain ⟨e',rC,rfl,⟨h1,h2,h3⟩,hm'⟩:=hm.cons_inv
  rcases wb hk with ⟨s,rfl,rfl⟩ |⟨ik,n,rfl,rfl⟩
  ·cases nq:e.key with
   |string b=>
    rw [nq] at h1
    generalize qc:e'.key=k' at h1
    cases h1
    simp only [pu,nq] at h
    cases hab:(s==b) with
    |true=>
     rw [hab] at h
     simp only [cond_true,bH] at h
     subst h
     exact ⟨some (i,e'.val),by simp [Instr.findNow,Instr.sameNow,qc,hab],i,e'.val,rfl,h2,Nat.le_refl _⟩
    |false=>
     rw [hab] at h
     simp only [cond_false] at h
     obtain ⟨q,pz,B5⟩:=Eo hk es rC (i+1) r hm' h
     refine ⟨q,by simp [Instr.findNow,Instr.sameNow,qc,hab,pz],?_⟩
     cases r with
     |none=>exact B5
     |some v=>obtain ⟨j,u,a,b,c⟩:=B5;exact ⟨j,u,a,b,by omega⟩
   |_=>simp [pu,nq] at h
  ·cases nq:e.key with
   |int jk m=>
    rw [nq] at h1
    generalize qc:e'.key=k' at h1
    cases h1
    simp only [pu,nq] at h
    by_cases BX:ik=jk
    ·subst BX
     simp only [decide_true,cond_true] at h
     by_cases hnm:n=m
     ·subst hnm
      simp only [decide_true,cond_true,bH] at h
      subst h
      exact ⟨some (i,e'.val),by simp [Instr.findNow,Instr.sameNow,qc],i,e'.val,rfl,h2,Nat.le_refl _⟩
     ·simp only [hnm,decide_false,cond_false] at h
      obtain ⟨q,pz,B5⟩:=Eo hk es rC (i+1) r hm' h
      have hnb:(n==m)=false:=by simpa using hnm
      refine ⟨q,by simp [Instr.findNow,Instr.sameNow,qc,hnb,pz],?_⟩
      cases r with
      |none=>exact B5
      |some v=>obtain ⟨j,u,a,b,c⟩:=B5;exact ⟨j,u,a,b,by omega⟩
    ·simp [BX] at h
   |_=>simp [pu,nq] at h
theorem run_findKey {P:Program} {kt:TypeId} {kd:TypeDesc} {k:Value} {es:List MapEntry} {q:Option (Nat×Value)} (hk:P.underlying kt=some kd) (h:Instr.findNow kd k es 0=some q) (w:World) :
  (Instr.findKey kt k es).run P w=.ok q w:=by
 unfold Instr.findKey
 rw [bI (run_underlying hk w),h]
 rfl
theorem run_checkKey {P:Program} {kt:TypeId} {kd:TypeDesc} {k:Value} (hk:P.underlying kt=some kd) (h:qM kd k=true) (b:Bool) (d:Nat) (w:World) :
  (Instr.checkKey b (d+1) kt k).run P w=.ok () w:=by
 unfold Instr.checkKey
 rw [bI (run_underlying hk w)]
 rcases wb h with ⟨s,rfl,rfl⟩ |⟨ik,n,rfl,rfl⟩ <;> rfl
theorem Pk {b:Nat} {es:List MapEntry} {ax:Nat} {l:Loc} {R:List Nat} (hp:Pre E base φ w H R) (hb:b∈R) (hl:φ b=some l) (hg:H.get b=some (.map es ax)) :
  ∃ es':Array MapEntry,(getObj l.dG).run E.P w=.ok (.map es' ax) w∧w.heap[l.dG]?=some (.map es' ax)∧base≤l.dG∧ng φ es es'.toList:=by
 obtain ⟨es',h1,h2,h3,h4⟩:=hp.blocks b hb l _ hl hg
 refine ⟨es',by simp [getObj,Sem.run,h1],h1,h2,by simpa using h3,fun j x y hx hy=>h4 j x y hx (by simpa using hy)⟩
theorem O3 (ok:E.fy) (wf:cW H) {t:TypeId} {m m' k k' v:Value} {co:Bool} {H':Z} {W R:List Nat} (h:n5 E t m k co H=some (v,H',W,R)) :
  ez H H' W R∧∀ φ,bn φ m m'→bn φ k k'→Good E H H' W R v φ (do Pure.pure (.value (← Instr.lookup t m' k' co))):=by
 unfold n5 at h
 split at h
 rotate_left
 ·cases h
 rename_i kt yH ht
 split at h
 rotate_left
 ·cases h
 rename_i kd z uq hz
 cases hk:qM kd k with
 |false=>rw [hk] at h;cases h
 |true=>
  rw [hk] at h
  simp only [cond_true] at h
  split at h
  rotate_left
  ·cases h
  rename_i es R' vU
  have hkk:∀ φ,bn φ k k'→k'=k:=fun φ hv=>hv.oA (by rcases wb hk with ⟨s,_,rfl⟩ |⟨i,n,_,rfl⟩ <;> rfl)
  have hent:∀ φ base w,Pre E base φ w H R'→bn φ m m'→∃ es':Array MapEntry,ng φ es es'.toList∧
    ∀{α:Type} (K:Array MapEntry→Sem α),(match m' with
     |.map none=>(do let es ← pure #[];K es:Sem α)
     |.map (some r)=>(do
      let o ← getObj r
      match o with
      |.map es _=>(do let es ← pure es;K es)
      |_=>stuck "Lookup: map expected")
     |_=>stuck "Lookup: map expected").run E.P w=(K es').run E.P w:=by
   intro φ base w hp hm
   split at vU
   ·cases hm
    simp only [bH,b8] at vU
    obtain ⟨rfl,rfl⟩:=vU
    exact ⟨#[],⟨rfl,fun j x y hx=>by simp at hx⟩,fun K=>rfl⟩
   ·rename_i b
    split at vU
    ·rename_i ahS ax hg
     simp only [bH,b8] at vU
     obtain ⟨rfl,rfl⟩:=vU
     cases hm with
     |map _ l hl=>
      obtain ⟨es',h1,_,_,h2⟩:=Pk hp (by simp) hl hg
      refine ⟨es',h2,fun K=>?_⟩
      simp only
      rw [bI h1]
      rfl
    ·cases vU
   ·cases vU
  split at h
  ·rename_i v0 hf
   simp only [bH,b8] at h
   obtain ⟨rfl,rfl,rfl,rfl⟩:=h
   refine ⟨ez.same wf _,fun φ hm hkv base w hp hfr=>?_⟩
   have:=hkk φ hkv;subst this
   obtain ⟨es',hmr,hrun⟩:=hent φ base w hp hm
   obtain ⟨q,pz,j,u,rfl,hu,_⟩:=Eo hk es es'.toList 0 _ hmr hf
   refine fC.of_run (u:=if co then .tuple #[u,.bool true] else u) ?_ ?_
   ·cases co with
    |false=>exact hu
    |true=>exact .tuple' (eI.toArray (.cons hu (.cons (.bool true) (.nil φ))))
   ·unfold Instr.lookup
    rw [bI (iE ok ht w)]
    simp only
    refine (hrun _).trans ?_
    rw [bI (run_checkKey (ok.ul uq) hk _ 9999 w),bI (run_findKey (ok.ul uq) pz w)]
    cases co <;> rfl
  ·rename_i hf
   cases EL:ground z with
   |false=>rw [EL] at h;cases h
   |true=>
    rw [EL] at h
    simp only [cond_true,bH,b8] at h
    obtain ⟨rfl,rfl,rfl,rfl⟩:=h
    refine ⟨ez.same wf _,fun φ hm hkv base w hp hfr=>?_⟩
    have:=hkk φ hkv;subst this
    obtain ⟨es',hmr,hrun⟩:=hent φ base w hp hm
    obtain ⟨q,pz,rfl⟩:=Eo hk es es'.toList 0 _ hmr hf
    refine fC.of_run (u:=if co then .tuple #[z,.bool false] else z) ?_ ?_
    ·cases co with
     |false=>exact .r3 EL
     |true=>exact .tuple' (eI.toArray (.cons (.r3 EL) (.cons (.bool false) (.nil φ))))
    ·unfold Instr.lookup
     rw [bI (iE ok ht w)]
     simp only
     refine (hrun _).trans ?_
     rw [bI (run_checkKey (ok.ul uq) hk _ 9999 w),bI (run_findKey (ok.ul uq) pz w)]
     simp only
     rw [bI (oU ok hz w)]
     cases co <;> rfl
  ·cases h
end
section
variable {E:Env} {base:Nat} {φ:bC} {w:World} {H:Z}
theorem ML (a b:ByteArray):(a==b)=true↔a=b:=by
 show (ByteArray.beq a b)=true↔a=b
 unfold ByteArray.beq
 cases a;cases b
 simp
theorem ng.cons {x y:MapEntry} {xs ys:List MapEntry} (h:bn φ x.key y.key∧bn φ x.val y.val∧x.born=y.born) (hs:ng φ xs ys):ng φ (x::xs) (y::ys):=
 ⟨by simp [hs.1],fun j a b ha hb=>by
  cases j with
  |zero=>simp at ha hb;subst ha hb;exact h
  |succ j=>simp at ha hb;exact hs.2 j a b ha hb⟩
theorem Qw {kd:TypeDesc} {k v u:Value} {ax:Nat} (hk:qM kd k=true) (hv:bn φ v u):∀(es es':List MapEntry) (i:Nat) (s0:List MapEntry) (n:Bool),ng φ es es'→r8 k v ax es=some (s0,n)→
  (n=true∧Instr.findNow kd k es' i=some none∧ng φ s0 (es'++[{ key:=k,val:=u,born:=ax }]))∨
  (n=false∧∃ j w e,Instr.findNow kd k es' i=some (some (i+j,w))∧es'[j]?=some e∧e.key=k∧ng φ s0 (es'.modify j fun e=>{ e with key:=k,val:=u }))
 |[],es',i,s0,n,hm,h=>by
  have:=hm.tE;subst this
  simp [r8] at h
  obtain ⟨rfl,rfl⟩:=h
  have hkk:bn φ k k:=by rcases wb hk with ⟨s,_,rfl⟩ |⟨a,b,_,rfl⟩ <;> constructor
  exact .inl ⟨rfl,rfl,.cons ⟨hkk,hv,rfl⟩ ⟨rfl,fun j x y hx=>by simp at hx⟩⟩
 |e::es,es',i,s0,n,hm,h=>by
  have hkk:bn φ k k:=by rcases wb hk with ⟨s,_,rfl⟩ |⟨a,b,_,rfl⟩ <;> constructor
  obtain ⟨e',rC,rfl,⟨h1,h2,h3⟩,hm'⟩:=hm.cons_inv
  have rest:∀(hne:Instr.findNow kd k (e'::rC) i=Instr.findNow kd k rC (i+1)) (h:(match r8 k v ax es with |some (es,n)=>some (e::es,n) |none=>none)=some (s0,n)),
    (n=true∧Instr.findNow kd k (e'::rC) i=some none∧ng φ s0 ((e'::rC)++[{ key:=k,val:=u,born:=ax }]))∨
    (n=false∧∃ j w e,Instr.findNow kd k (e'::rC) i=some (some (i+j,w))∧(e'::rC)[j]?=some e∧e.key=k∧ng φ s0 ((e'::rC).modify j fun e=>{ e with key:=k,val:=u })):=by
   intro hne h
   split at h
   ·rename_i Wx CC hp
    simp only [bH,b8] at h
    obtain ⟨rfl,rfl⟩:=h
    rcases Qw hk hv es rC (i+1) Wx CC hm' hp with ⟨a,b,c⟩ |⟨a,j,w,x,b,c,d,f⟩
    ·exact .inl ⟨a,hne.trans b,.cons ⟨h1,h2,h3⟩ c⟩
    ·refine .inr ⟨a,j+1,w,x,hne.trans (b.trans (by rw [show i+1+j=i+(j+1) by omega])),by simpa using c,d,?_⟩
     simpa using ng.cons ⟨h1,h2,h3⟩ f
   ·cases h
  rcases wb hk with ⟨s,rfl,rfl⟩ |⟨ik,m,rfl,rfl⟩
  ·cases nq:e.key with
   |string b=>
    rw [nq] at h1
    generalize qc:e'.key=k' at h1
    cases h1
    simp only [r8,nq] at h
    cases hab:(s==b) with
    |true=>
     rw [hab] at h
     simp only [cond_true,bH,b8] at h
     obtain ⟨rfl,rfl⟩:=h
     have II:s=b:=(ML s b).1 hab
     refine .inr ⟨rfl,0,e'.val,e',by simp [Instr.findNow,Instr.sameNow,qc,hab],rfl,by rw [qc,II],?_⟩
     exact .cons ⟨hkk,hv,h3⟩ hm'
    |false=>
     rw [hab] at h
     simp only [cond_false] at h
     exact rest (by simp [Instr.findNow,Instr.sameNow,qc,hab]) h
   |_=>simp [r8,nq] at h
  ·cases nq:e.key with
   |int jk b=>
    rw [nq] at h1
    generalize qc:e'.key=k' at h1
    cases h1
    simp only [r8,nq] at h
    by_cases BX:ik=jk
    ·subst BX
     simp only [decide_true,cond_true] at h
     by_cases hnm:m=b
     ·subst hnm
      simp only [decide_true,cond_true,bH,b8] at h
      obtain ⟨rfl,rfl⟩:=h
      refine .inr ⟨rfl,0,e'.val,e',by simp [Instr.findNow,Instr.sameNow,qc],rfl,qc,?_⟩
      exact .cons ⟨hkk,hv,h3⟩ hm'
     ·simp only [hnm,decide_false,cond_false] at h
      have hnb:(m==b)=false:=by simpa using hnm
      exact rest (by simp [Instr.findNow,Instr.sameNow,qc,hnb]) h
    ·simp [BX] at h
   |_=>simp [r8,nq] at h
theorem Q6 {P:Program} {w:World} {r:Nat} {es:Array MapEntry} {ax:Nat} (o:Obj) (h:w.heap[r]?=some (.map es ax)) :
  ∃ w',(setObj r o).run P w=.ok () w'∧wZ w w' r o:=by
 refine ⟨{ w with heap:=w.heap.setIfInBounds r o },by simp [setObj,Sem.run,h],rfl,rfl,rfl,by simp,fun b hb=>?_,?_⟩
 ·rw [Array.getElem?_setIfInBounds_ne (fun e=>hb e.symm)]
 ·have:=(Array.getElem?_eq_some_iff.1 h).1
  rw [Array.getElem?_setIfInBounds_self_of_lt this]
theorem Fc (ok:E.fy) (wf:cW H) {t:TypeId} {m m' k k' v v' r:Value} {H':Z} {W R:List Nat} (h:g5 E t m k v H=some (r,H',W,R)) :
  ez H H' W R∧∀ φ,bn φ m m'→bn φ k k'→bn φ v v'→Good E H H' W R r φ (do Instr.mapUpdate t m' k' v';Pure.pure .skip):=by
 unfold g5 at h
 split at h
 rotate_left
 ·cases h
 rename_i kt yH b ht
 split at h
 rotate_left
 ·cases h
 rename_i kd es ax uq hg
 cases hk:qM kd k with
 |false=>rw [hk] at h;cases h
 |true=>
  rw [hk] at h
  simp only [cond_true] at h
  split at h
  rotate_left
  ·cases h
  rename_i s0 n hput
  simp only [bH,b8] at h
  obtain ⟨rfl,rfl,rfl,rfl⟩:=h
  refine ⟨ez.set wf _ (by rw [hg];rfl) (by simp),fun φ hm hkv hv base w hp hfr=>?_⟩
  have:=hkv.oA (by rcases wb hk with ⟨s,_,rfl⟩ |⟨i,n,_,rfl⟩ <;> rfl)
  subst this
  cases hm with
  |map _ l hl=>
   obtain ⟨es',h1,h2,h3,h4⟩:=Pk hp (by simp) hl hg
   rcases Qw (ax:=ax) hk hv es es'.toList 0 s0 n h4 hput with ⟨rfl,hf,hmr⟩ |⟨rfl,j,q,e,hf,he,nq,hmr⟩
   ·obtain ⟨w',hr,mb⟩:=Q6 (P:=E.P) (.map (es'.push { key:=k',val:=v',born:=ax }) (ax+1)) h2
    refine fC.unit (be:=φ) (w':=w') ?_ ?_
    ·unfold Instr.mapUpdate
     rw [bI (iE ok ht w)]
     simp only
     rw [bI h1]
     simp only
     rw [bI (run_checkKey (ok.ul uq) hk _ 9999 w),bI (run_findKey (ok.ul uq) hf w)]
     exact hr
    ·exact gr.put b l _ (wf.lt hg) (by rw [hg];rfl) hl mb.other mb.size mb.os mb.tape mb.output
      ⟨_,mb.at_,h3,by have:=hmr.1;simpa using this,fun j x y hx hy=>hmr.2 j x y hx (by rw [← Array.getElem?_toList,Array.toList_push] at hy;exact hy)⟩
   ·obtain ⟨w',hr,mb⟩:=Q6 (P:=E.P) (.map (es'.modify j fun e=>{ e with key:=k',val:=v' }) ax) h2
    refine fC.unit (be:=φ) (w':=w') ?_ ?_
    ·unfold Instr.mapUpdate
     rw [bI (iE ok ht w)]
     simp only
     rw [bI h1]
     simp only
     rw [bI (run_checkKey (ok.ul uq) hk _ 9999 w),bI (run_findKey (ok.ul uq) hf w)]
     simp only [Nat.zero_add]
     have hj:es'[j]?=some e:=by simpa using he
     rw [hj]
     simp only [Option.map_some,Option.getD_some,nq]
     have II:(Instr.keyThatStays k' k').run E.P w=.ok k' w:=by
      unfold Instr.keyThatStays
      have:Instr.sameBits 10000 k' k'=true:=by
       rcases wb hk with ⟨s,_,rfl⟩ |⟨i,n,_,rfl⟩ <;> simp [Instr.sameBits,ML]
      rw [if_pos this];rfl
     rw [bI II]
     exact hr
    ·exact gr.put b l _ (wf.lt hg) (by rw [hg];rfl) hl mb.other mb.size mb.os mb.tape mb.output
      ⟨_,mb.at_,h3,by have:=hmr.1;simpa using this,fun i x y hx hy=>hmr.2 i x y hx (by rw [← Array.getElem?_toList,Array.toList_modify] at hy;exact hy)⟩
theorem OX:∀ l:List String,Instr.least l=none→l=[]
 |[],_=>rfl
 |_::_,h=>by simp [Instr.least] at h
theorem aby {want:Array (String×TypeId)} {got:Array Method} (h:x8 want.toList got=true):Instr.missingMethod want got=none:=by
 unfold Instr.missingMethod
 have:(want.toList.filter fun (x:String×TypeId)=>!got.any fun m=>m.name==x.1&&m.sig==x.2)=[]:=by
  rw [List.filter_eq_nil_iff]
  intro x hx
  unfold x8 at h
  rw [List.all_eq_true] at h
  have:=h x hx
  simp only [this,Bool.not_true,Bool.false_eq_true,not_false_eq_true]
 simp only [this]
 rfl
theorem abz {want:Array (String×TypeId)} {got:Array Method} (h:x8 want.toList got=false):∃ m,Instr.missingMethod want got=some m:=by
 cases hm:Instr.missingMethod want got with
 |some m=>exact ⟨m,rfl⟩
 |none=>
  exfalso
  unfold Instr.missingMethod at hm
  simp only [HOrElse.hOrElse,OrElse.orElse] at hm
  generalize hf:(want.toList.filter fun (x:String×TypeId)=>!got.any fun m=>m.name==x.1&&m.sig==x.2)=fl at hm
  have hne:fl≠[]:=by
   intro e
   rw [e,List.filter_eq_nil_iff] at hf
   have:x8 want.toList got=true:=by
    unfold x8
    rw [List.all_eq_true]
    intro x hx
    have:=hf x hx
    simpa using this
   rw [this] at h;cases h
  have hpart:∀(p:String→Bool) (l:List String),l≠[]→(l.partition p).1≠[]∨(l.partition p).2≠[]:=by
   intro p l hl
   cases l with
   |nil=>exact absurd rfl hl
   |cons x xs=>
    rw [List.partition_eq_filter_filter]
    cases hx:p x with
    |true=>left;simp [List.filter_cons,hx]
    |false=>right;simp [List.filter_cons,hx]
  generalize hpq:(fl.map (·.1)).partition _=pq at hm
  have h1:pq.1≠[]∨pq.2≠[]:=by rw [← hpq];exact hpart _ _ (by simpa using hne)
  cases hl:Instr.least pq.2 with
  |some a=>rw [hl] at hm;simp [Option.orElse] at hm
  |none=>
   rcases h1 with h1 |h1
   ·rw [hl] at hm
    simp only [Option.orElse] at hm
    have:=OX _ hm
    simp at this;exact h1 this
   ·exact h1 (OX _ hl)
theorem Ke {v u:Value} (h:bn φ v u) (b:Bool):bn φ (.tuple #[v,.bool b]) (.tuple #[u,.bool b]):=.tuple' (eI.toArray (.cons h (.cons (.bool b) (.nil φ))))
theorem SU (ok:E.fy) {x x' v:Value} {xt a:TypeId} {co:Bool} (hx:bn φ x x') (h:Hd E x a co=some v):∃ u,(Instr.typeAssert x' xt a co).run E.P w=.ok u w∧bn φ v u:=by
 have Em:∀(z:Value),E.zero a=some z→(bif co&&ground z then some (Value.tuple #[z,.bool false]) else none)=some v→co=true∧v=.tuple #[z,.bool false]∧bn φ v (.tuple #[z,.bool false]):=by
  intro z hz he
  cases hc:(co&&ground z) with
  |false=>rw [hc] at he;cases he
  |true=>
   rw [hc] at he
   injection he with he
   subst he
   rw [dZ] at hc
   exact ⟨hc.1,rfl,Ke (.r3 hc.2) false⟩
 unfold Hd at h
 split at h
 ·rename_i want t y ha
  obtain ⟨sk,rfl,IM⟩:∃ sk,x'=.iface t sk∧bn φ y sk:=by cases hx with |iface _ _ u hu=>exact ⟨u,rfl,hu⟩
  split at h
  rotate_left
  ·cases h
  rename_i i hi
  have qK:(typeInfo t).run E.P w=.ok i w:=by simp [typeInfo,ok.info _ _ hi]
  cases hm:x8 want.toList i.methods with
  |true=>
   rw [hm] at h
   simp only [cond_true,bH] at h
   subst h
   refine ⟨if co then .tuple #[.iface t sk,.bool true] else .iface t sk,?_,?_⟩
   ·unfold Instr.typeAssert
    rw [bI (iE ok ha w)]
    simp only
    rw [bI qK,aby hm]
    cases co <;> rfl
   ·cases co with
    |false=>exact hx
    |true=>exact Ke hx true
  |false=>
   rw [hm] at h
   simp only [cond_false] at h
   split at h
   ·rename_i z hz
    obtain ⟨rfl,rfl,hv⟩:=Em z hz h
    obtain ⟨aiT,N4⟩:=abz hm
    refine ⟨_,?_,hv⟩
    unfold Instr.typeAssert
    rw [bI (iE ok ha w)]
    simp only
    rw [bI qK,N4]
    simp only [if_true]
    rw [bI (oU ok hz w)]
    rfl
   ·cases h
 ·rename_i want ha
  cases hx
  split at h
  ·rename_i z hz
   obtain ⟨rfl,rfl,hv⟩:=Em z hz h
   refine ⟨_,?_,hv⟩
   unfold Instr.typeAssert
   rw [bI (iE ok ha w)]
   simp only [if_true]
   rw [bI (oU ok hz w)]
   rfl
  ·cases h
 ·rename_i d t y hni ha
  obtain ⟨sk,rfl,IM⟩:∃ sk,x'=.iface t sk∧bn φ y sk:=by cases hx with |iface _ _ u hu=>exact ⟨u,rfl,hu⟩
  by_cases ht:t=a
  ·rw [lO ht] at h
   simp only [cond_true,bH] at h
   subst h
   subst ht
   refine ⟨if co then .tuple #[sk,.bool true] else sk,?_,?_⟩
   ·unfold Instr.typeAssert
    rw [bI (iE ok ha w)]
    cases d <;> first
     |exact (hni _ rfl).elim
     |(simp only [if_true];cases co <;> rfl)
   ·cases co with
    |false=>exact IM
    |true=>exact Ke IM true
  ·rw [iu ht] at h
   simp only [cond_false] at h
   split at h
   ·rename_i z hz
    obtain ⟨rfl,rfl,hv⟩:=Em z hz h
    refine ⟨_,?_,hv⟩
    unfold Instr.typeAssert
    rw [bI (iE ok ha w)]
    cases d <;> first
     |exact (hni _ rfl).elim
     |(simp only [if_neg ht,if_true];rw [bI (oU ok hz w)];rfl)
   ·cases h
 ·rename_i d hni ha
  cases hx
  split at h
  ·rename_i z hz
   obtain ⟨rfl,rfl,hv⟩:=Em z hz h
   refine ⟨_,?_,hv⟩
   unfold Instr.typeAssert
   rw [bI (iE ok ha w)]
   cases d <;> (simp only [if_true];rw [bI (oU ok hz w)];rfl)
  ·cases h
 ·cases h
end
section
variable {E:Env} {base:Nat} {φ:bC} {w:World} {H:Z}
theorem Tq (a:Array UInt8):eI φ (a.map fun b=>Value.int .u8 b.toNat).toList (a.map fun b=>Value.int .u8 b.toNat).toList:=
 ⟨rfl,fun i x y hx hy=>by
  rw [hx] at hy;injection hy with hy;subst hy
  simp at hx
  obtain ⟨b,_,rfl⟩:=hx
  exact .int _ _⟩
theorem MK:∀{xs ys:List Value} {l:List UInt8},eI φ xs ys→ue xs=some l→ys=xs
 |[],ys,l,h,_=>h.tE
 |x::xs,zs,l,h,e=>by
  obtain ⟨y,ys,rfl,h1,h2⟩:=h.cons_inv
  unfold ue at e
  split at e
  ·cases ‹_::_=[]›
  ·rename_i n xs' heq
   injection heq with h3 h4
   subst h3 h4
   split at e
   ·rename_i r hr
    cases h1
    rw [MK h2 hr]
   ·cases e
  ·cases e
theorem Q2 {P:Program} (w:World) (g:Value→ByteArray→Sem (ForInStep ByteArray)) (hg:∀ n s,g (.int .u8 n) s=pure (ForInStep.yield (s.push (UInt8.ofNat n.toNat)))) :
  ∀(xs:List Value) (l:List UInt8) (s:ByteArray),ue xs=some l→(forIn (m:=Sem) xs s g).run P w=.ok ⟨(s.data.toList++l).toArray⟩ w
 |[],l,s,h=>by simp [ue] at h;subst h;simp
 |x::xs,l,s,h=>by
  unfold ue at h
  split at h
  ·cases ‹_::_=[]›
  ·rename_i n xs' heq
   injection heq with h3 h4
   subst h3 h4
   split at h
   ·rename_i r hr
    injection h with h
    subst h
    have:=Q2 (P:=P) w g hg xs r (s.push (UInt8.ofNat n.toNat)) hr
    simp [hg] at this ⊢
    exact this
   ·cases h
  ·cases h
theorem M6 (ok:E.fy) (wf:cW H) {s d:TypeId} {x x' v:Value} {H':Z} {W R:List Nat} (h:zj E s d x H=some (v,H',W,R)) :
  ez H H' W R∧∀ φ,bn φ x x'→Good E H H' W R v φ (do Pure.pure (.value (← convert s d x'))):=by
 unfold zj at h
 split at h
 ·rename_i e b hs hd
  split at h
  ·rename_i he
   cases hb:Nat.ble b.size most with
   |false=>rw [hb] at h;cases h
   |true=>
    rw [hb] at h
    simp only [cond_true,bH,b8] at h
    obtain ⟨rfl,rfl,rfl,rfl⟩:=h
    have hb:=Nat.le_of_ble_eq_true hb
    refine ⟨ez.new wf _ _,fun φ hx base w hp hfr=>?_⟩
    cases hx
    have hfree:φ H.n=none:=hfr _ (Nat.le_refl _) (by simp)
    have hlt:b.size<2 ^ 63:=by unfold most at hb;omega
    have hcap:=No b.size 0 e (w.tape w.drawn (.appendCap b.size 0 e)) hlt
    generalize XD:(Question.appendCap b.size 0 e).cut (w.tape w.drawn (.appendCap b.size 0 e))=cap at hcap
    let w1:World:={ w with drawn:=w.drawn+1 }
    let fj:Array Value:=(b.data.map fun b=>Value.int .u8 b.toNat)++Array.replicate (cap-b.size) (.int .u8 0)
    have hcs:fj.size=cap:=by simp [fj];show b.size+(cap-b.size)=cap;omega
    refine fC.value (be:=fun j=>if j=H.n then some ⟨w.heap.size,0,cap⟩ else φ j) (u:=.slice (some ⟨w.heap.size,0,none⟩) b.size cap)
     (w':={ w1 with heap:=w.heap.push (.cells fj e (cap,cap+1)) }) ?_ ?_ ?_
    ·unfold convert
     rw [bI (iE ok hs w),bI (iE ok hd w)]
     simp only
     rw [bI (iE ok he w)]
     simp only [Conv.stringToBytes]
     have Im:(choose (.appendCap b.size 0 e)).run E.P w=.ok cap w1:=by rw [← XD];rfl
     rw [bI Im,bI (AK _ _ w1)]
     have hmk:(markStringish ⟨w.heap.size,0,none⟩).run E.P { w1 with heap:=w1.heap.push (.cells fj e (0,0)) }=.ok () { w1 with heap:=w.heap.push (.cells fj e (cap,cap+1)) }:=by
      unfold markStringish
      have hsh:(shape w.heap.size).run E.P { w1 with heap:=w1.heap.push (.cells fj e (0,0)) }=.ok (some (e,cap)) { w1 with heap:=w1.heap.push (.cells fj e (0,0)) }:=by
       simp [shape,Sem.run,World.shape?,w1,hcs]
      rw [bI hsh]
      simp only
      show Result.ok () (World.freeze _ _ _)=_
      congr 1
      simp only [World.freeze]
      rw [if_neg J]
      congr 1
      apply Array.ext_getElem?
      intro j
      rw [Array.getElem?_modify]
      simp only [w1]
      by_cases hj:w.heap.size=j
      ·subst hj;simp
      ·rw [if_neg hj,Array.getElem?_push,Array.getElem?_push]
       rw [if_neg (fun h=>hj h.symm),if_neg (fun h=>hj h.symm)]
     rw [bI hmk]
     rfl
    ·have:=bn.pK (φ:=fun j=>if j=H.n then some ⟨w.heap.size,0,cap⟩ else φ j) H.n 0 b.size cap 1 ⟨w.heap.size,0,cap⟩ (by simp) hcap (by simp)
     simpa using this
    ·refine gr.row cap _ fj e cap (cap+1) hfree hp.bs rfl rfl rfl rfl J (by simp;exact hcap) (fun j y hy=>?_) (fun j hj=>by omega)
     obtain ⟨u,hu,hv⟩:=(Tq (φ:=φ) b.data).get hy
     refine ⟨u,?_,hv⟩
     have:j<(b.data.map fun b=>Value.int .u8 b.toNat).size:=by simpa using (List.getElem?_eq_some_iff.1 hu).1
     simp only [fj]
     rw [Array.getElem?_append_left this]
     simpa using hu
  ·cases h
 ·rename_i e hs hd
  split at h
  ·rename_i he
   simp only [bH,b8] at h
   obtain ⟨rfl,rfl,rfl,rfl⟩:=h
   refine ⟨ez.same wf _,fun φ hx base w hp hfr=>fC.of_run (.string _) ?_⟩
   cases hx
   unfold convert
   rw [bI (iE ok hs w),bI (iE ok hd w)]
   simp only
   rw [bI (iE ok he w)]
   rfl
  ·cases h
 ·rename_i e b off n c hs hd
  split at h
  ·rename_i he
   split at h
   rotate_left
   ·cases h
   rename_i xs hr
   split at h
   rotate_left
   ·cases h
   rename_i l hl
   simp only [bH,b8] at h
   obtain ⟨rfl,rfl,rfl,rfl⟩:=h
   refine ⟨ez.same wf _,fun φ hx base w hp hfr=>fC.of_run (.string _) ?_⟩
   obtain ⟨lc,c',h1,h2,rfl,_⟩:=hx.wF
   obtain ⟨ys,g1,g2,g3⟩:=AI hp (by simp) h1 hr
   have:=MK g2 hl
   subst this
   unfold convert
   rw [bI (iE ok hs w),bI (iE ok hd w)]
   simp only
   rw [bI (iE ok he w)]
   simp only [Conv.bytesToString]
   rw [bI (run_loadCells ys g1 g3)]
   have hk:=fun g hg=>Q2 (P:=E.P) w g hg ys l ByteArray.empty hl
   simp at hk ⊢
   rw [hk _ (fun n s=>rfl)]
   rfl
  ·cases h
 ·cases h
end
section
variable {E:Env} {H:Z}
theorem ac3 {P:Program} {s:Sem Next} {v:Value} (h:fr P s=some (.value v)) (w:World):s.run P w=.ok (.value v) w:=ac2 s _ h w
theorem NO {T:cg} {o:Oper} {v:Value} (zO:∀ cs b,o.op≠.select cs b) (h:l9 E T o=some v) {φ:bC} {ρ:Operand→Value} (he:oo E φ T ρ) (w:World) :
  (execOp ρ o).run E.P w=.ok (.value v) w∧bn φ v v:=by
 unfold l9 at h
 cases hg:qC E T o.op.operands.toList with
 |false=>rw [hg] at h;cases h
 |true=>
  rw [hg] at h
  simp only [cond_true] at h
  split at h
  ·rename_i u hp
   cases xC:ground u with
   |false=>rw [xC] at h;cases h
   |true=>
    rw [xC] at h
    simp only [cond_true,bH] at h
    subst h
    refine ⟨?_,.r3 xC⟩
    have:execOp ρ o=execOp (fun x=>(ev E T x).getD dw) o:=by
     refine execOp_congr o zO fun x hx=>?_
     unfold qC at hg
     rw [List.all_eq_true] at hg
     have hx':=hg x (by simpa using hx)
     cases hv:ev E T x with
     |none=>rw [hv] at hx';cases hx'
     |some y=>
      rw [hv] at hx'
      simp only [Option.getD_some]
      exact (he x y hv).s4 hx'
    rw [this]
    exact ac3 hp w
  ·cases h
theorem fC.ground {T:cg} {o:Oper} {v:Value} (zO:∀ cs b,o.op≠.select cs b) (h:l9 E T o=some v) {base:Nat} {φ:bC} {w:World} {ρ:Operand→Value} (he:oo E φ T ρ) :
  fC E base φ w H (execOp ρ o) v H []:=
 ⟨_,v,w,φ,(NO zO h he w).1,.inl rfl,(NO zO h he w).2,.same rfl rfl rfl rfl⟩
def mC (E:Env) (H H':Z) (W R:List Nat) (v:Value) (T:cg) (o:Oper):Prop:=
 ez H H' W R∧∀(base:Nat) (φ:bC) (w:World) (ρ:Operand→Value),Pre E base φ w H R→gw φ H.n H'.n→oo E φ T ρ→fC E base φ w H (execOp ρ o) v H' W
theorem mC.pure {T:cg} {o:Oper} {v:Value} (wf:cW H) (h:∀ φ ρ,oo E φ T ρ→∃ u,bn φ v u∧∀ w,(execOp ρ o).run E.P w=.ok (.value u) w):mC E H H [] [] v T o:=
 ⟨ez.same wf _,fun base φ w ρ hp hf he=>by
  obtain ⟨u,hu,hr⟩:=h φ ρ he
  exact ⟨_,u,w,φ,hr w,.inl rfl,hu,.same rfl rfl rfl rfl⟩⟩
theorem mC.ground {T:cg} {o:Oper} {v:Value} (wf:cW H) (zO:∀ cs b,o.op≠.select cs b) (h:l9 E T o=some v):mC E H H [] [] v T o:=
 ⟨ez.same wf _,fun base φ w ρ hp hf he=>fC.ground zO h he⟩
theorem aeo {P:Program} {s:Sem Value} {u:Value} {w w':World} (h:s.run P w=.ok u w'):(do Pure.pure (Next.value (← s)):Sem Next).run P w=.ok (.value u) w':=by
 rw [bI h];rfl
theorem NA {P:Program} {op:BinOp} {t:TypeId} {x y:Operand} {a b:Value} (h:∀ c d,a=.agg c→b=.agg d→False) (h':a=.nilIface→b=.nilIface→False) (w:World):(eqGuard op t x y a b).run P w=.ok () w:=by
 cases op
 all_goals try rfl
 all_goals
  unfold eqGuard
  rw [if_neg (by simp)]
  split
  ·exact (h' rfl rfl).elim
  ·rename_i c d;exact (h c d rfl rfl).elim
  ·rfl
theorem HP {T:cg} {xs:Array Operand} {v:Value} (h:mK E T xs.toList=some [v]) {φ:bC} {ρ:Operand→Value} (he:oo E φ T ρ):∃ u,xs.map ρ=#[u]∧bn φ v u:=by
 obtain ⟨y,ys,h1,h2,h3⟩:=(xl he h).cons_inv
 have:=h3.tE
 subst this
 refine ⟨y,?_,h2⟩
 apply Array.ext'
 simpa using h1
theorem NF {T:cg} {xs:Array Operand} {v v2:Value} (h:mK E T xs.toList=some [v,v2]) {φ:bC} {ρ:Operand→Value} (he:oo E φ T ρ):∃ u u2,xs.map ρ=#[u,u2]∧bn φ v u∧bn φ v2 u2:=by
 obtain ⟨y,ys,h1,h2,h3⟩:=(xl he h).cons_inv
 obtain ⟨ar,ajC,h4,h5,h6⟩:=h3.cons_inv
 have:=h6.tE
 subst this
 subst h4
 refine ⟨y,ar,?_,h2,h5⟩
 apply Array.ext'
 simpa using h1
theorem Nz {t:Nat} {x y:Value} {r:Bool} (h:xk E t x y=some r) {φ:bC} {x' y':Value} (hx:bn φ x x') (hy:bn φ y y') :
  (∀ c d,x'=.agg c→y'=.agg d→False)∧(x'=.nilIface→y'=.nilIface→False)∧(∀ w,(binOp .eql t x' y').run E.P w=(do Pure.pure (Value.bool (← Op.equal t x' y')):Sem Value).run E.P w)∧
  (∀ w,(binOp .neq t x' y').run E.P w=(do Pure.pure (Value.bool (!(← Op.equal t x' y'))):Sem Value).run E.P w):=by
 unfold xk at h
 split at h <;> first
  |(cases h;done)
  |(cases hx <;> cases hy <;> (refine ⟨?_,?_,(fun _=>rfl),(fun _=>rfl)⟩ <;> (intros;contradiction)))
theorem Rp (ok:E.fy) (wf:cW H) {T:cg} {o:Oper} {v:Value} {H':Z} {W R:List Nat} (h:simple E o T H=some (v,H',W,R)):mC E H H' W R v T o:=by
 obtain ⟨dst,op,ty,pos,after,guard⟩:=o
 unfold simple at h
 simp only at h
 split at h
 ·
  rename_i x
  split at h
  ·rename_i y hy
   simp only [bH,b8] at h
   obtain ⟨rfl,rfl,rfl,rfl⟩:=h
   exact .pure wf fun φ ρ he=>⟨ρ x,he x _ hy,fun w=>rfl⟩
  ·cases h
 ·
  rename_i x
  split at h
  ·rename_i y hy
   simp only [bH,b8] at h
   obtain ⟨rfl,rfl,rfl,rfl⟩:=h
   exact .pure wf fun φ ρ he=>⟨ρ x,he x _ hy,fun w=>rfl⟩
  ·cases h
 ·
  rename_i c a b
  split at h
  ·rename_i hc
   split at h
   ·rename_i y hy
    simp only [bH,b8] at h
    obtain ⟨rfl,rfl,rfl,rfl⟩:=h
    refine .pure wf fun φ ρ he=>⟨ρ a,he a _ hy,fun w=>?_⟩
    have:=(he c _ hc).oA rfl
    simp [execOp,this,asBool,bI]
   ·cases h
  ·rename_i hc
   split at h
   ·rename_i y hy
    simp only [bH,b8] at h
    obtain ⟨rfl,rfl,rfl,rfl⟩:=h
    refine .pure wf fun φ ρ he=>⟨ρ b,he b _ hy,fun w=>?_⟩
    have:=(he c _ hc).oA rfl
    simp [execOp,this,asBool,bI]
   ·cases h
  ·cases h
 ·
  rename_i t
  split at h
  ·rename_i z n hz hn
   cases hc:(ground z&&Nat.beq z.cells.size n) with
   |false=>rw [hc] at h;cases h
   |true=>
    rw [hc] at h
    simp only [cond_true,bH,b8] at h
    obtain ⟨rfl,rfl,rfl,rfl⟩:=h
    rw [dZ] at hc
    refine ⟨ez.new wf _ _,fun base φ w ρ hp hf he=>?_⟩
    have hfree:φ H.n=none:=hf _ (Nat.le_refl _) (by simp)
    refine fC.value (be:=fun j=>if j=H.n then some ⟨w.heap.size,0,z.cells.toList.length⟩ else φ j) (u:=.pointer (some ⟨w.heap.size,0,none⟩)) (w':={ w with heap:=w.heap.push (.cells z.cells t (0,0)) }) ?_ ?_ ?_
    ·unfold Instr.alloc
     rw [bI (oU ok hz w)]
     simp only
     rw [bI (Q5 t z w)];rfl
    ·have:=bn.ptr (φ:=fun j=>if j=H.n then some ⟨w.heap.size,0,z.cells.toList.length⟩ else φ j) H.n 0 ⟨w.heap.size,0,z.cells.toList.length⟩ (by simp)
     simpa using this
    ·exact gr.Fm hp.bs hfree (zF hc.1).toList (by simp) rfl rfl rfl
  ·cases h
 ·
  rename_i t x
  split at h
  ·rename_i y hy
   simp only [bH,b8] at h
   obtain ⟨rfl,rfl,rfl,rfl⟩:=h
   refine ⟨ez.new wf _ _,fun base φ w ρ hp hf he=>?_⟩
   have hfree:φ H.n=none:=hf _ (Nat.le_refl _) (by simp)
   refine fC.value (be:=fun j=>if j=H.n then some ⟨w.heap.size,0,y.cells.toList.length⟩ else φ j) (u:=.pointer (some ⟨w.heap.size,0,none⟩)) (w':={ w with heap:=w.heap.push (.cells (ρ x).cells t (0,0)) }) ?_ ?_ ?_
   ·unfold Instr.box
    rw [bI (Q5 t (ρ x) w)];rfl
   ·have:=bn.ptr (φ:=fun j=>if j=H.n then some ⟨w.heap.size,0,y.cells.toList.length⟩ else φ j) H.n 0 ⟨w.heap.size,0,y.cells.toList.length⟩ (by simp)
    simpa using this
   ·exact gr.Fm hp.bs hfree (he x y hy).cells.toList (by simp) rfl rfl rfl
  ·cases h
 ·
  rename_i t ps
  split at h
  ·rename_i y hy
   simp only [bH,b8] at h
   obtain ⟨rfl,rfl,rfl,rfl⟩:=h
   refine ⟨ez.same wf _,fun base φ w ρ hp hf he=>?_⟩
   obtain ⟨u,hr,hu⟩:=To (w:=w) ok he hy
   exact fC.of_run hu hr
  ·cases h
 ·
  rename_i t len ps
  obtain ⟨h1,h2⟩:=Tn ok wf h
  exact ⟨h1,fun base φ w ρ hp hf he=>h2 φ ρ he base w hp hf⟩
 ·
  rename_i t x
  split at h
  ·rename_i b off hx
   split at h
   ·rename_i y hy
    simp only [bH,b8] at h
    obtain ⟨rfl,rfl,rfl,rfl⟩:=h
    refine ⟨ez.same wf _,fun base φ w ρ hp hf he=>?_⟩
    obtain ⟨l,hl,he'⟩:=(he x _ hx).wC
    obtain ⟨u,hr,hu⟩:=Q4 ok hp (by simp) hl hy
    refine fC.of_run hu ?_
    simp only [he',Instr.loadAt,Instr.sureAddr]
    rw [bI (run_pure _ w)];exact hr
   ·cases h
  ·cases h
 ·
  rename_i t x y
  split at h
  ·rename_i b off v' hx hy
   split at h
   ·rename_i H2 hst
    simp only [bH,b8] at h
    obtain ⟨rfl,rfl,rfl,rfl⟩:=h
    unfold bu at hst
    split at hst
    ·rename_i c e hg
     split at hst
     ·rename_i n hn
      cases hc:(Nat.beq v'.cells.size n&&v'.cells.toList.all one&&Nat.ble (off+n) c.length) with
      |false=>rw [hc] at hst;cases hst
      |true=>
       rw [hc] at hst
       simp only [cond_true,bH] at hst
       subst hst
       simp only [dZ] at hc
       obtain ⟨⟨h1,h2⟩,h3⟩:=hc
       have h1:=Nat.eq_of_beq_eq_true h1
       have h3:=Nat.le_of_ble_eq_true h3
       refine ⟨ez.set wf _ (by rw [hg];rfl) (by simp),fun base φ w ρ hp hf he=>?_⟩
       obtain ⟨l,hl,he'⟩:=(he x _ hx).wC
       have Od:=(he y _ hy).cells
       obtain ⟨w',hw,hout⟩:=gr.write (o:=off) hp wf (by simp) hl hg (by simp;omega) Od.toList (Bl h2)
       refine fC.unit ?_ hout
       simp only [he',Instr.storeAt,Instr.sureAddr]
       rw [bI (run_pure _ w)]
       unfold storeVar
       rw [bI (lU ok hn w)]
       rw [if_neg (by rw [← Od.1,h1];simp)]
       exact hw
     ·cases hst
    ·cases hst
   ·cases h
  ·cases h
 ·
  rename_i x
  split at h
  ·rename_i a hx
   simp only [bH,b8] at h
   obtain ⟨rfl,rfl,rfl,rfl⟩:=h
   refine .pure wf fun φ ρ he=>⟨ρ x,he x _ hx,fun w=>?_⟩
   have hv:=he x _ hx
   generalize xP:ρ x=y at hv
   cases hv
   simp only [execOp,xP]
   rfl
  ·rename_i f a b hx
   simp only [bH,b8] at h
   obtain ⟨rfl,rfl,rfl,rfl⟩:=h
   refine .pure wf fun φ ρ he=>⟨ρ x,he x _ hx,fun w=>?_⟩
   have hv:=he x _ hx
   generalize xP:ρ x=y at hv
   cases hv
   simp only [execOp,xP]
   rfl
  ·rename_i t y hx
   simp only [bH,b8] at h
   obtain ⟨rfl,rfl,rfl,rfl⟩:=h
   refine .pure wf fun φ ρ he=>⟨ρ x,he x _ hx,fun w=>?_⟩
   have hv:=he x _ hx
   generalize xP:ρ x=y at hv
   cases hv
   simp only [execOp,xP]
   rfl
  ·cases h
 ·
  rename_i op t x y LF
  split at h
  ·rename_i u hu
   simp only [bH,b8] at h
   obtain ⟨rfl,rfl,rfl,rfl⟩:=h
   exact .ground wf (fun _ _=>by simp) hu
  ·split at h
   ·rename_i xv yv hx hy _
    split at h
    ·rename_i r hr
     simp only [bH,b8] at h
     obtain ⟨rfl,rfl,rfl,rfl⟩:=h
     refine ⟨ez.same wf _,fun base φ w ρ hp hf he=>fC.of_run (.bool r) ?_⟩
     have hsh:=Nz hr (he x _ hx) (he y _ hy)
     rw [bI (NA hsh.1 hsh.2.1 w),hsh.2.2.1 w,bI (ND ok (he x _ hx) (he y _ hy) hr)]
     rfl
    ·cases h
   ·rename_i xv yv hx hy _
    split at h
    ·rename_i r hr
     simp only [bH,b8] at h
     obtain ⟨rfl,rfl,rfl,rfl⟩:=h
     refine ⟨ez.same wf _,fun base φ w ρ hp hf he=>fC.of_run (.bool (!r)) ?_⟩
     have hsh:=Nz hr (he x _ hx) (he y _ hy)
     rw [bI (NA hsh.1 hsh.2.1 w),hsh.2.2.2 w,bI (ND ok (he x _ hx) (he y _ hy) hr)]
     rfl
    ·cases h
   ·cases h
 ·
  split at h
  ·rename_i u hu
   simp only [bH,b8] at h
   obtain ⟨rfl,rfl,rfl,rfl⟩:=h
   exact .ground wf (fun _ _=>by simp) hu
  ·cases h
 ·
  rename_i s d x
  split at h
  ·rename_i u hu
   simp only [bH,b8] at h
   obtain ⟨rfl,rfl,rfl,rfl⟩:=h
   exact .ground wf (fun _ _=>by simp) hu
  ·split at h
   ·rename_i y hy
    obtain ⟨h1,h2⟩:ez H H' W R∧∀ x' φ,bn φ y x'→Good E H H' W R v φ (do Pure.pure (.value (← convert s d x'))):=
     ⟨(M6 (x':=y) ok wf h).1,fun x'=>(M6 (x':=x') ok wf h).2⟩
    exact ⟨h1,fun base φ w ρ hp hf he=>h2 (ρ x) φ (he x _ hy) base w hp hf⟩
   ·cases h
 ·
  rename_i t x
  split at h
  ·cases h
  ·rename_i y d hni hy ht
   simp only [bH,b8] at h
   obtain ⟨rfl,rfl,rfl,rfl⟩:=h
   refine .pure wf fun φ ρ he=>⟨.iface t (ρ x),.iface _ _ _ (he x _ hy),fun w=>?_⟩
   refine aeo ?_
   unfold Instr.makeInterface
   rw [bI (iE ok ht w)]
   cases d <;> first
    |rfl
    |exact (hni _ rfl).elim
  ·cases h
 ·
  rename_i f a b
  split at h
  ·rename_i ahH bv ha hb
   simp only [bH,b8] at h
   obtain ⟨rfl,rfl,rfl,rfl⟩:=h
   refine .pure wf fun φ ρ he=>⟨.func (.func f) (a.map ρ) (b.map ρ),?_,fun w=>rfl⟩
   have h1:=(xl he ha).toArray
   have h2:=(xl he hb).toArray
   have e1:(a.toList.map ρ).toArray=a.map ρ:=by apply Array.ext';simp
   have e2:(b.toList.map ρ).toArray=b.map ρ:=by apply Array.ext';simp
   rw [e1] at h1
   rw [e2] at h2
   exact .func _ _ _ _ _ h1.1 h1.2 h2.1 h2.2
  ·cases h
 ·
  rename_i t r
  have mk:∀{v:Value} {H':Z} {W R:List Nat},some (Value.map (some H.n),H.new (.map [] 0),([]:List Nat),([]:List Nat))=some (v,H',W,R)→
    (∀ φ ρ w,oo E φ T ρ→(Instr.makeMap t (r.map ρ)).run E.P w=.ok (.map (some w.heap.size)) { w with heap:=w.heap.push (.map #[] 0) })→mC E H H' W R v T ⟨dst,.makeMap t r,ty,pos,after,guard⟩:=by
   intro v H' W R h hr
   simp only [bH,b8] at h
   obtain ⟨rfl,rfl,rfl,rfl⟩:=h
   refine ⟨ez.new wf _ _,fun base φ w ρ hp hf he=>?_⟩
   have hfree:φ H.n=none:=hf _ (Nat.le_refl _) (by simp)
   refine fC.value (be:=fun j=>if j=H.n then some ⟨w.heap.size,0,0⟩ else φ j) (hr φ ρ w he) ?_ (gr.abP hfree hp.bs rfl rfl rfl rfl)
   have:=bn.map (φ:=fun j=>if j=H.n then some ⟨w.heap.size,0,0⟩ else φ j) H.n ⟨w.heap.size,0,0⟩ (by simp)
   simpa using this
  split at h
  ·rename_i hr
   exact mk h fun φ ρ w he=>by
    rcases HN he hr with ⟨rfl,_⟩ |⟨_,_,_,BR,_⟩
    ·rfl
    ·cases BR
  ·rename_i k n hr
   split at h
   ·rename_i kt yH ht
    exact mk h fun φ ρ w he=>by
     rcases HN he hr with ⟨_,BR⟩ |⟨y,u,rfl,hu,hv⟩
     ·cases BR
     ·injection hu with hu
      subst hu
      have:=hv.oA rfl
      simp only [Option.map_some,this]
      unfold Instr.makeMap
      simp only
      rw [bI (iE ok ht w)]
      rfl
   ·cases h
  ·cases h
 ·
  rename_i t l c
  split at h
  ·rename_i lv Np hl hc
   obtain ⟨h1,h2⟩:ez H H' W R∧∀ l' c' φ,bn φ lv l'→bn φ Np c'→Good E H H' W R v φ (do Pure.pure (.value (← Instr.makeSlice t l' c'))):=
    ⟨(Pg (l':=lv) (c':=Np) ok wf h).1,fun l' c'=>(Pg (l':=l') (c':=c') ok wf h).2⟩
   exact ⟨h1,fun base φ w ρ hp hf he=>h2 _ _ φ (he l _ hl) (he c _ hc) base w hp hf⟩
  ·cases h
 ·
  rename_i t x l hi m
  split at h
  ·split at h
   ·rename_i u hu
    simp only [bH,b8] at h
    obtain ⟨rfl,rfl,rfl,rfl⟩:=h
    exact .ground wf (fun _ _=>by simp) hu
   ·cases h
  ·rename_i xv lv hv mv _ hx hl hh hm
   split at h
   ·rename_i u hu
    simp only [bH,b8] at h
    obtain ⟨rfl,rfl,rfl,rfl⟩:=h
    refine ⟨ez.same wf _,fun base φ w ρ hp hf he=>?_⟩
    obtain ⟨r,hr,mN⟩:=ae2 (w:=w) ok (he x _ hx) (HO he hl) (HO he hh) (HO he hm) hu
    exact fC.of_run mN hr
   ·cases h
  ·cases h
 ·
  rename_i t x f
  split at h
  ·rename_i xv hx
   split at h
   ·rename_i u hu
    simp only [bH,b8] at h
    obtain ⟨rfl,rfl,rfl,rfl⟩:=h
    refine ⟨ez.same wf _,fun base φ w ρ hp hf he=>?_⟩
    obtain ⟨r,hr,mN⟩:=WF (w:=w) ok (he x _ hx) hu
    exact fC.of_run mN hr
   ·cases h
  ·cases h
 ·
  rename_i t x f
  split at h
  ·rename_i cs fs hx ht
   split at h
   ·rename_i fd XL
    split at h
    ·rename_i u hu
     simp only [bH,b8] at h
     obtain ⟨rfl,rfl,rfl,rfl⟩:=h
     refine ⟨ez.same wf _,fun base φ w ρ hp hf he=>?_⟩
     obtain ⟨cs',hcs,har⟩:=(he x _ hx).Bk
     obtain ⟨r,hr,mN⟩:=Ql (w:=w) ok har hu
     refine fC.of_run mN ?_
     unfold Instr.field
     rw [bI (iE ok ht w)]
     simp only [XL,hcs,asAgg]
     rw [bI (run_pure _ w)];exact hr
    ·cases h
   ·cases h
  ·cases h
 ·
  rename_i t x i
  split at h
  ·rename_i xv iv hx hi
   split at h
   ·rename_i u hu
    simp only [bH,b8] at h
    obtain ⟨rfl,rfl,rfl,rfl⟩:=h
    refine ⟨ez.same wf _,fun base φ w ρ hp hf he=>?_⟩
    obtain ⟨r,hr,mN⟩:=YS (w:=w) ok (he x _ hx) (he i _ hi) hu
    exact fC.of_run mN hr
   ·cases h
  ·cases h
 ·
  rename_i t x i
  split at h
  ·rename_i u hu
   simp only [bH,b8] at h
   obtain ⟨rfl,rfl,rfl,rfl⟩:=h
   exact .ground wf (fun _ _=>by simp) hu
  ·split at h
   ·rename_i cs k iv n e hx hi ht
    split at h
    ·rename_i sz hsz
     cases hc:(decide (0≤iv)&&decide (iv<(n:Int))) with
     |false=>rw [hc] at h;cases h
     |true=>
      rw [hc] at h
      simp only [cond_true] at h
      simp at hc
      split at h
      ·rename_i u hu
       simp only [bH,b8] at h
       obtain ⟨rfl,rfl,rfl,rfl⟩:=h
       refine ⟨ez.same wf _,fun base φ w ρ hp hf he=>?_⟩
       obtain ⟨cs',hcs,har⟩:=(he x _ hx).Bk
       have hiv:=(he i _ hi).oA rfl
       obtain ⟨r,hr,mN⟩:=Ql (w:=w) ok har hu
       refine fC.of_run mN ?_
       unfold Instr.index
       simp only [hcs,hiv,asIntOf]
       rw [bI (run_pure _ w),bI (iE ok ht w)]
       simp only
       rw [if_pos hc,bI (lU ok hsz w)]
       exact hr
      ·cases h
    ·cases h
   ·cases h
 ·
  rename_i t m k co
  split at h
  ·rename_i mv kv hm hk
   obtain ⟨h1,h2⟩:ez H H' W R∧∀ m' k' φ,bn φ mv m'→bn φ kv k'→Good E H H' W R v φ (do Pure.pure (.value (← Instr.lookup t m' k' co))):=
    ⟨(O3 (m':=mv) (k':=kv) ok wf h).1,fun m' k'=>(O3 (m':=m') (k':=k') ok wf h).2⟩
   exact ⟨h1,fun base φ w ρ hp hf he=>h2 _ _ φ (he m _ hm) (he k _ hk) base w hp hf⟩
  ·cases h
 ·
  rename_i t m k x
  split at h
  ·rename_i mv kv xv hm hk hx
   obtain ⟨h1,h2⟩:ez H H' W R∧∀ m' k' x' φ,bn φ mv m'→bn φ kv k'→bn φ xv x'→Good E H H' W R v φ (do Instr.mapUpdate t m' k' x';Pure.pure .skip):=
    ⟨(Fc (m':=mv) (k':=kv) (v':=xv) ok wf h).1,fun m' k' x'=>(Fc (m':=m') (k':=k') (v':=x') ok wf h).2⟩
   exact ⟨h1,fun base φ w ρ hp hf he=>h2 _ _ _ φ (he m _ hm) (he k _ hk) (he x _ hx) base w hp hf⟩
  ·cases h
 ·
  rename_i t m k x
  split at h
  ·rename_i mv kv xv hm hk hx
   obtain ⟨h1,h2⟩:ez H H' W R∧∀ m' k' x' φ,bn φ mv m'→bn φ kv k'→bn φ xv x'→Good E H H' W R v φ (do Instr.mapUpdate t m' k' x';Pure.pure .skip):=
    ⟨(Fc (m':=mv) (k':=kv) (v':=xv) ok wf h).1,fun m' k' x'=>(Fc (m':=m') (k':=k') (v':=x') ok wf h).2⟩
   exact ⟨h1,fun base φ w ρ hp hf he=>h2 _ _ _ φ (he m _ hm) (he k _ hk) (he x _ hx) base w hp hf⟩
  ·cases h
 ·
  rename_i x xt a co
  split at h
  ·rename_i xv hx
   split at h
   ·rename_i u hu
    simp only [bH,b8] at h
    obtain ⟨rfl,rfl,rfl,rfl⟩:=h
    refine ⟨ez.same wf _,fun base φ w ρ hp hf he=>?_⟩
    obtain ⟨r,hr,mN⟩:=SU (w:=w) (xt:=xt) ok (he x _ hx) hu
    exact fC.of_run mN hr
   ·cases h
  ·cases h
 ·
  rename_i x i
  split at h
  ·rename_i vs hx
   split at h
   ·rename_i u hu
    simp only [bH,b8] at h
    obtain ⟨rfl,rfl,rfl,rfl⟩:=h
    refine ⟨ez.same wf _,fun base φ w ρ hp hf he=>?_⟩
    obtain ⟨vs',hvs,har⟩:=(he x _ hx).Lj
    obtain ⟨r,hr,mN⟩:=har.get hu
    refine fC.of_run mN ?_
    simp only [hvs,Instr.extract,hr];rfl
   ·cases h
  ·cases h
 ·
  rename_i args ts
  split at h
  ·rename_i xv hx
   obtain ⟨h1,h2⟩:ez H H' W R∧∀ x' φ,bn φ xv x'→Good E H H' W R v φ (do Pure.pure (.value (← Builtin.len_ ts ty #[x']))):=
    ⟨(OY (ty:=ty) (x':=xv) ok wf h).1,fun x'=>(OY (ty:=ty) (x':=x') ok wf h).2⟩
   refine ⟨h1,fun base φ w ρ hp hf he=>?_⟩
   obtain ⟨u,hu,hv⟩:=HP hx he
   have:=h2 u φ hv base w hp hf
   rw [← hu] at this
   exact this
  ·cases h
 ·
  rename_i args ts
  split at h
  ·rename_i xv hx
   obtain ⟨h1,h2⟩:ez H H' W R∧∀ x' φ,bn φ xv x'→Good E H H' W R v φ (do Pure.pure (.value (← Builtin.cap_ ts ty #[x']))):=
    ⟨(MR (ty:=ty) (x':=xv) ok wf h).1,fun x'=>(MR (ty:=ty) (x':=x') ok wf h).2⟩
   refine ⟨h1,fun base φ w ρ hp hf he=>?_⟩
   obtain ⟨u,hu,hv⟩:=HP hx he
   have:=h2 u φ hv base w hp hf
   rw [← hu] at this
   exact this
  ·cases h
 ·
  rename_i args ts
  split at h
  ·rename_i gD xv hx
   refine ⟨(Mm (ty:=ty) (s':=gD) (x':=xv) ok wf h).1,fun base φ w ρ hp hf he=>?_⟩
   obtain ⟨u,u2,hu,hv,vY⟩:=NF hx he
   have:=(Mm (ty:=ty) (s':=u) (x':=u2) ok wf h).2 base φ w hp hf hv vY
   rw [← hu] at this
   exact this
  ·cases h
 ·
  rename_i args ts
  split at h
  ·rename_i gD xv hx
   refine ⟨(M7 (ty:=ty) (d':=gD) (s':=xv) ok wf h).1,fun base φ w ρ hp hf he=>?_⟩
   obtain ⟨u,u2,hu,hv,vY⟩:=NF hx he
   have:=(M7 (ty:=ty) (d':=u) (s':=u2) ok wf h).2 φ hv vY base w hp hf
   rw [← hu] at this
   exact this
  ·cases h
 ·
  rename_i args ts
  split at h
  ·rename_i xv hx
   obtain ⟨h1,h2⟩:ez H H' W R∧∀ x' φ,bn φ xv x'→Good E H H' W R v φ (do Pure.pure (.value (← Builtin.clear_ ts ty #[x']))):=
    ⟨(M3 (ty:=ty) (x':=xv) ok wf h).1,fun x'=>(M3 (ty:=ty) (x':=x') ok wf h).2⟩
   refine ⟨h1,fun base φ w ρ hp hf he=>?_⟩
   obtain ⟨u,hu,hv⟩:=HP hx he
   have:=h2 u φ hv base w hp hf
   rw [← hu] at this
   exact this
  ·cases h
 ·
  split at h
  ·rename_i u hu
   simp only [bH,b8] at h
   obtain ⟨rfl,rfl,rfl,rfl⟩:=h
   exact .ground wf (fun _ _=>by simp) hu
  ·cases h
 ·
  split at h
  ·rename_i u hu
   simp only [bH,b8] at h
   obtain ⟨rfl,rfl,rfl,rfl⟩:=h
   exact .ground wf (fun _ _=>by simp) hu
  ·cases h
 ·cases h
end
def ii (φ:bC) (T:cg) (tm:Array Value) (aA:Nat):Prop:=tm.size=aA∧∀ t v,T.get t=some v→∃ u,tm[t]?=some u∧bn φ v u
inductive j7 (φ:bC):List (Value×List Value)→List Deferred→Prop
 |nil:j7 φ [] []
 |cons (g:FuncId) (a b a' b':Array Value) (args args':List Value) (ds:List (Value×List Value)) (es:List Deferred) :
   jK φ a a'→jK φ b b'→eI φ args args'→j7 φ ds es→j7 φ ((.func (.func g) a b,args)::ds) ({ target:=.fn (.func g) b',args:=a'++args'.toArray }::es)
section
variable {E:Env} {base:Nat} {φ ψ:bC}
theorem ii.mono (h:∀ i l,φ i=some l→ψ i=some l) {T:cg} {tm:Array Value} {aA:Nat} (ht:ii φ T tm aA):ii ψ T tm aA:=
 ⟨ht.1,fun t v hv=>by obtain ⟨u,h1,h2⟩:=ht.2 t v hv;exact ⟨u,h1,h2.mono h⟩⟩
theorem j7.mono (h:∀ i l,φ i=some l→ψ i=some l) {d:List (Value×List Value)} {e:List Deferred} (hd:j7 φ d e):j7 ψ d e:=by
 induction hd with
 |nil=>exact .nil
 |cons g a b a' b' args args' ds es h1 h2 h3 _ ih=>exact .cons g a b a' b' args args' ds es (h1.mono h) (h2.mono h) (h3.mono h) ih
theorem ii.ev {H:Z} {w:World} {T:cg} {a:Act} {aA:Nat} (ht:ii φ T a.tmps aA) (hg:∀ g,g<E.d4→∃ l,φ g=some l∧l.dG=g∧l.off=0):oo E φ T a.eval:=by
 intro x v h
 cases x with
 |tmp t=>
  obtain ⟨u,h1,h2⟩:=ht.2 t v h
  simp only [Act.eval,Array.getD_eq_getD_getElem?,h1,Option.getD_some]
  exact h2
 |const c=>
  simp only [Am.ev] at h
  cases hc:ground c with
  |false=>rw [hc] at h;cases h
  |true=>rw [hc] at h;injection h with h;subst h;exact .r3 hc
 |global g=>
  simp only [Am.ev] at h
  cases hc:Nat.blt g E.d4 with
  |false=>rw [hc] at h;cases h
  |true=>
   rw [hc] at h;injection h with h;subst h
   obtain ⟨l,h1,h2,h3⟩:=hg g (by simpa [Nat.blt_eq] using hc)
   have:=bn.ptr (φ:=φ) g 0 l h1
   rw [h2,h3] at this
   exact this
 |func f=>
  simp only [Am.ev] at h
  injection h with h;subst h
  exact .func _ _ _ _ _ rfl (fun i x y hx=>by simp at hx) rfl (fun i x y hx=>by simp at hx)
theorem ii.set {T:cg} {tm:Array Value} {aA:Nat} (ht:ii φ T tm aA) {d:Nat} (hd:d<aA) {v u:Value} (hv:bn φ v u):ii φ (T.set d v) (tm.setIfInBounds d u) aA:=
 ⟨by simpa using ht.1,fun t x hx=>by
  rw [de.kP] at hx
  by_cases e:d=t
  ·subst e
   rw [if_pos rfl] at hx
   injection hx with hx
   subst hx
   exact ⟨u,by rw [Array.getElem?_setIfInBounds_self_of_lt (by rw [ht.1];exact hd)],hv⟩
  ·rw [if_neg e] at hx
   obtain ⟨y,h1,h2⟩:=ht.2 t x hx
   exact ⟨y,by rw [Array.getElem?_setIfInBounds_ne e];exact h1,h2⟩⟩
theorem ii.put {T c9:cg} {a:Act} {aA:Nat} (ht:ii φ T a.tmps aA) {d:Option Tmp} {v u:Value} (hv:bn φ v u) (h:mo T aA d v=some c9):ii φ c9 (a.put d u).tmps aA:=by
 cases d with
 |none=>simp [mo] at h;subst h;exact ht
 |some d=>
  simp only [mo] at h
  cases hd:Nat.blt d aA with
  |false=>rw [hd] at h;cases h
  |true=>rw [hd] at h;injection h with h;subst h;exact ht.set (by simpa [Nat.blt_eq] using hd) hv
theorem put_defers (a:Act) (d:Option Tmp) (u:Value):(a.put d u).defers=a.defers:=by cases d <;> rfl
def Ss (φ:bC) (r:rh) (e:Ending):Prop:=
 match r with
 |.ret v=>∃ u,e=.returned u∧bn φ v u
 |.q2 v=>∃ u,e=.panicked [{ v:=u,recovered:=false }]∧bn φ v u
def L4 (P:Program) (g:FuncId) (args:Array Value) (w:World) (R:Ending→World→Prop):Prop:=
 ((callFunc g args).run P w=.ok (.enter g args) w∧Calls P g args w R)∨∃ v w',(callFunc g args).run P w=.ok (.value v) w'∧R (.returned v) w'
def nL (E:Env) (base:Nat) (φ:bC) (w:World) (H H':Z) (W:List Nat) (r:rh) (e:Ending) (w':World):Prop:=
 ∃ be,Out E base φ w H H' W be w'∧Ss be r e
def tY (E:Env) (g:FuncId) (args:List Value) (H:Z) (r:rh) (H':Z) (W:List Nat):Prop:=
 dn W H H'∧cW H'∧∀ base φ w args',Rel E base H φ w→gw φ H.n H'.n→eI φ args args'→L4 E.P g args'.toArray w (nL E base φ w H H' W r)
def nf (E:Env) (call:Call):Prop:=∀ g args H r H' W,call g args H=some (r,H',W)→cW H→E.d4≤H.n→tY E g args H r H' W
theorem ad1 (ok:E.fy) {T:cg} {c:Go.Call} {g:FuncId} {args:List Value} {ρ:Operand→Value} (he:oo E φ T ρ) (h:Ge E T c=some (g,args)) (ty:TypeId) (w:World) :
  ∃ args',eI φ args args'∧(do let d ← resolve ρ c ty;invoke d.target d.args:Sem Next).run E.P w=(callFunc g args'.toArray).run E.P w:=by
 unfold Ge at h
 split at h
 rotate_left
 ·cases h
 rename_i as has
 have hlr:=xl he has
 have hmap:c.args.map ρ=(c.args.toList.map ρ).toArray:=by apply Array.ext';simp
 split at h
 ·
  rename_i f hf
  split at h
  ·rename_i g' a b Ir
   simp only [bH,b8] at h
   obtain ⟨rfl,rfl⟩:=h
   obtain ⟨_,a',b',xB,hu,ha,hb⟩:=(he f _ Ir).HW
   injection xB with xB
   subst xB
   refine ⟨a'.toList++(c.args.toList.map ρ)++b'.toList,(ha.toList.append hlr).append hb.toList,?_⟩
   unfold resolve
   rw [hf]
   simp only [hu,Deferred.ofValue]
   rw [bI (run_pure _ w)]
   simp only [invoke]
   congr 2
   apply Array.ext'
   simp
  ·cases h
 ·
  rename_i r name hf
  split at h
  ·rename_i t v Ir
   split at h
   ·rename_i i hi
    split at h
    ·rename_i m hm
     cases hp:m.path.isEmpty with
     |false=>rw [hp] at h;cases h
     |true=>
      rw [hp] at h
      simp only [cond_true] at h
      split at h
      ·rename_i f p xI
       obtain ⟨u,hu,jo⟩:∃ u,ρ r=.iface t u∧bn φ v u:=by
        have:=he r _ Ir
        generalize ρ r=y at this
        cases this with |iface _ _ u hu=>exact ⟨u,rfl,hu⟩
       have Ye:m.path.toList=[]:=by
        have:m.path=#[]:=by simpa using hp
        rw [this]
       have hres:∀{x:Value},(∃ d,E.ul t=some d∧((∃ e,d=.pointer e)↔p=true))→(method (E.P.types.size+Made.depth) t u name).run E.P w=.ok (f,u) w:=by
        intro x ⟨d,hd,vT⟩
        have Iq:E.P.types.size+Made.depth=(E.P.types.size+99)+1:=rfl
        rw [Iq]
        unfold method
        have qK:(typeInfo t).run E.P w=.ok i w:=by simp [typeInfo,ok.info _ _ hi]
        rw [bI qK]
        simp only [hm,Ye,follow]
        rw [bI (run_pure _ w)]
        simp only [xI]
        have:(receiverAt t (.val u) p (if m.path.isEmpty then some ((name.splitOn ".").getLastD name) else none)).run E.P w=.ok u w:=by
         unfold receiverAt
         rw [bI (iE ok hd w)]
         cases p with
         |true=>
          obtain ⟨e,rfl⟩:=vT.2 rfl
          rfl
         |false=>
          cases d <;> first
           |rfl
           |(exfalso;have:=vT.1 ⟨_,rfl⟩;cases this)
        rw [bI this]
        rfl
       have fin:∀(hd:∃ d,E.ul t=some d∧((∃ e,d=.pointer e)↔p=true)) (h:some (f,v::as)=some (g,args)),∃ args',eI φ args args'∧(do let d ← resolve ρ c ty;invoke d.target d.args:Sem Next).run E.P w=(callFunc g args'.toArray).run E.P w:=by
        intro hd h
        simp only [bH,b8] at h
        obtain ⟨rfl,rfl⟩:=h
        refine ⟨u::c.args.toList.map ρ,.cons jo hlr,?_⟩
        unfold resolve
        rw [hf]
        simp only [hu]
        rw [bI (run_pure _ w)]
        simp only [invoke]
        have e0:(#[Value.iface t u]++c.args.map ρ)[0]?=some (.iface t u):=by
         rw [Array.getElem?_append_left (by simp)];rfl
        simp only [e0]
        have e1:(#[Value.iface t u]++c.args.map ρ).extract 1 (#[Value.iface t u]++c.args.map ρ).size=c.args.map ρ:=by
         apply Array.ext'
         simp
         exact List.take_of_length_le (by simp)
        rw [e1]
        unfold callMethod
        simp only
        rw [bI (run_program w),bI (hres (x:=u) hd)]
        simp only
        congr 2
        apply Array.ext'
        simp
       split at h
       ·rename_i e Cb
        cases p with
        |true=>exact fin ⟨_,Cb,⟨fun _=>rfl,fun _=>⟨e,rfl⟩⟩⟩ h
        |false=>cases h
       ·rename_i d hne Cb
        cases p with
        |true=>cases h
        |false=>exact fin ⟨d,Cb,⟨fun ⟨e,he⟩=>(hne e he).elim,fun h=>by cases h⟩⟩ h
       ·cases h
      ·cases h
    ·cases h
   ·cases h
  ·cases h
 ·cases h
end
theorem acf {P:Program} {o:Oper} {a:Act} {w:World} {K K':Act→World→Prop} {Q Q':Exit→Act→World→Prop} (h:∀ a w,K a w→K' a w) (hq:∀ e a w,Q e a w→Q' e a w)
  (hh:o.wp P a w K Q):o.wp P a w K' Q':=by
 unfold Oper.wp at *
 generalize (execOp a.eval o).run P w=r at *
 cases r with
 |ok n w'=>
  cases n <;> simp only [Oper.upon] at hh ⊢ <;>
   first
    |exact h _ _ hh
    |exact Calls.mono hh (fun e w'' he=>by
      cases e with
      |returned v=>exact h _ _ he
      |panicked c=>exact hq _ _ _ he
      |outgrown=>obtain ⟨a0,w0,h0⟩:=he;exact ⟨a0,w0,hq _ _ _ h0⟩)
    |exact Rows.mono hh (fun _ _ he=>h _ _ he)
 |halt x w'=>cases x <;> simp only [Oper.upon] at hh ⊢ <;> first |exact hh |exact hq _ _ _ hh
theorem GO {P:Program} {ops:Array Oper} {Q Q':Exit→Act→World→Prop} (hq:∀ e a w,Q e a w→Q' e a w):∀(rest:List Oper) (a:Act) (w:World),wpList P ops Q rest a w→wpList P ops Q' rest a w
 |[],a,w,h=>hq _ _ _ h
 |o::rest,a,w,h=>by
  simp only [wpList] at h ⊢
  split
  ·rename_i hw
   rw [if_pos hw] at h
   rcases h with h |⟨h1,a0,w0,h2⟩
   ·exact .inl (acf (fun a w h=>GO hq rest a w h) hq h)
   ·exact .inr ⟨h1,a0,w0,hq _ _ _ h2⟩
  ·rename_i hw
   rw [if_neg hw] at h
   exact GO hq rest _ w h
section
variable {E:Env} {call:Call}
theorem R7 {P:Program} {o:Oper} {a:Act} {w w':World} {uX:Next} {u:Value} {next:Act→World→Prop} {Q:Exit→Act→World→Prop}
  (hr:(execOp a.eval o).run P w=.ok uX w') (hn:uX=.value u∨(uX=.skip∧u=undef)) (h:next (a.put o.dst u) w'):o.wp P a w next Q:=by
 unfold Oper.wp
 rw [hr]
 rcases hn with rfl |⟨rfl,rfl⟩ <;> exact h
theorem ag6 {P:Program} {o:Oper} {a:Act} {w:World} {g:FuncId} {args:Array Value} {next:Act→World→Prop} {Q:Exit→Act→World→Prop} {R:Ending→World→Prop}
  (hr:(execOp a.eval o).run P w=(callFunc g args).run P w) (h:L4 P g args w R)
  (h1:∀ v w',R (.returned v) w'→next (a.put o.dst v) w') (h2:∀ c w',R (.panicked c) w'→Q (.panic c) a w') (h3:∀ w',¬ R .outgrown w'):o.wp P a w next Q:=by
 unfold Oper.wp
 rw [hr]
 rcases h with ⟨he,hc⟩ |⟨v,w',he,hv⟩
 ·rw [he]
  simp only [Oper.upon]
  exact hc.mono fun e w' hR=>by
   cases e with
   |returned v=>exact h1 v w' hR
   |panicked c=>exact h2 c w' hR
   |outgrown=>exact (h3 w' hR).elim
 ·rw [he]
  exact h1 v w' hv
def DN (E:Env) (o:Oper) (T:cg) (H:Z) (d:List (Value×List Value)) (v:Value) (H':Z) (d':List (Value×List Value)) (W:List Nat):Prop:=
 dn W H H'∧cW H'∧∀(base:Nat) (φ:bC) (w:World) (a:Act) (aA:Nat) (next:Act→World→Prop) (Q:Exit→Act→World→Prop),
  Rel E base H φ w→gw φ H.n H'.n→ii φ T a.tmps aA→j7 φ d a.defers→
  (∀(be:bC) (w':World) (u:Value) (a':Act),Out E base φ w H H' W be w'→bn be v u→a'.tmps=a.tmps→j7 be d' a'.defers→next (a'.put o.dst u) w')→o.wp E.P a w next Q
def Sw (E:Env) (o:Oper) (T:cg) (H:Z) (d:List (Value×List Value)) (v:Value) (H':Z) (W:List Nat):Prop:=
 dn W H H'∧cW H'∧∀(base:Nat) (φ:bC) (w:World) (a:Act) (aA:Nat) (next:Act→World→Prop) (Q:Exit→Act→World→Prop),
  Rel E base H φ w→gw φ H.n H'.n→ii φ T a.tmps aA→j7 φ d a.defers→
  (∀ be w' u,Out E base φ w H H' W be w'→bn be v u→Q (.panic [{ v:=u,recovered:=false }]) a w')→o.wp E.P a w next Q
def Sx (E:Env) (o:Oper) (T:cg) (H:Z) (d:List (Value×List Value)):G5→Prop
 |.val v H' d' W _=>DN E o T H d v H' d' W
 |.q2 v H' W=>Sw E o T H d v H' W
theorem NN (ok:E.fy) {o:Oper} {T:cg} {H H':Z} {d:List (Value×List Value)} {v:Value} {W R:List Nat} (wf:cW H) (cE:E.d4≤H.n) (h:simple E o T H=some (v,H',W,R)):DN E o T H d v H' d W:=by
 obtain ⟨h1,h2⟩:=Rp ok wf h
 refine ⟨h1.ext,h1.wf,fun base φ w a aA next Q dr hf ht hd hnext=>?_⟩
 obtain ⟨uX,u,w',be,hr,Iy,jo,hout⟩:=h2 base φ w a.eval (Pre.P3 wf dr R) hf (ht.ev (H:=H) (w:=w) dr.iO)
 have ci:=hout.out wf h1.ext dr hf cE
 exact R7 hr Iy (hnext be w' u a ci jo rfl (hd.mono (ci.sub hf)))
theorem FS (ok:E.fy) (hc:nf E call) {o:Oper} {T:cg} {H:Z} {d:List (Value×List Value)} {x:G5} (wf:cW H) (cE:E.d4≤H.n) (h:gJ E call o T H d=some x) :
  Sx E o T H d x:=by
 obtain ⟨dst,op,ty,pos,after,guard⟩:=o
 unfold gJ at h
 simp only at h
 split at h
 ·
  split at h
  ·rename_i v H' W R hs
   injection h with h
   subst h
   exact NN ok wf cE hs
  ·cases h
 ·
  rename_i c hnb
  split at h
  ·rename_i f args hres
   have run:∀(r:rh) (H':Z) (W:List Nat),call f args H=some (r,H',W)→dn W H H'∧cW H'∧∀(base:Nat) (φ:bC) (w:World) (a:Act) (aA:Nat) (next:Act→World→Prop) (Q:Exit→Act→World→Prop),
     Rel E base H φ w→gw φ H.n H'.n→ii φ T a.tmps aA→j7 φ d a.defers→
     (∀ be w' u,Out E base φ w H H' W be w'→(∃ v,r=.ret v∧bn be v u)→next (a.put dst u) w')→
     (∀ be w' u,Out E base φ w H H' W be w'→(∃ v,r=.q2 v∧bn be v u)→Q (.panic [{ v:=u,recovered:=false }]) a w')→Oper.wp E.P ⟨dst,.call c,ty,pos,after,guard⟩ a w next Q:=by
    intro r H' W BP
    obtain ⟨g1,g2,g3⟩:=hc f args H r H' W BP wf cE
    refine ⟨g1,g2,fun base φ w a aA next Q dr hf ht hd hn hq=>?_⟩
    obtain ⟨args',hlr,hrun⟩:=ad1 (φ:=φ) ok (ht.ev (H:=H) (w:=w) dr.iO) hres ty w
    have hR:=g3 base φ w args' dr hf hlr
    refine ag6 (by exact hrun) hR (fun u w' hp=>?_) (fun ch w' hp=>?_) (fun w' hp=>?_)
    ·obtain ⟨be,ci,he⟩:=hp
     cases r with
     |ret v=>
      obtain ⟨u',he,hv⟩:=he
      injection he with he
      subst he
      exact hn be w' u ci ⟨v,rfl,hv⟩
     |q2 v=>obtain ⟨u',he,_⟩:=he;cases he
    ·obtain ⟨be,ci,he⟩:=hp
     cases r with
     |ret v=>obtain ⟨u',he,_⟩:=he;cases he
     |q2 v=>
      obtain ⟨u',he,hv⟩:=he
      injection he with he
      subst he
      exact hq be w' u' ci ⟨v,rfl,hv⟩
    ·obtain ⟨be,ci,he⟩:=hp
     cases r with
     |ret v=>obtain ⟨u',he,_⟩:=he;cases he
     |q2 v=>obtain ⟨u',he,_⟩:=he;cases he
   split at h
   ·rename_i v H' W BP
    injection h with h
    subst h
    obtain ⟨g1,g2,g3⟩:=run _ _ _ BP
    refine ⟨g1,g2,fun base φ w a aA next Q dr hf ht hd hn=>g3 base φ w a aA next Q dr hf ht hd (fun be w' u ci hv=>?_) (fun be w' u ci hv=>?_)⟩
    ·obtain ⟨v',oI,jo⟩:=hv
     injection oI with oI
     subst oI
     exact hn be w' u a ci jo rfl (hd.mono (ci.sub hf))
    ·obtain ⟨v',oI,_⟩:=hv;cases oI
   ·rename_i v H' W BP
    injection h with h
    subst h
    obtain ⟨g1,g2,g3⟩:=run _ _ _ BP
    refine ⟨g1,g2,fun base φ w a aA next Q dr hf ht hd hq=>g3 base φ w a aA next Q dr hf ht hd (fun be w' u ci hv=>?_) (fun be w' u ci hv=>?_)⟩
    ·obtain ⟨v',oI,_⟩:=hv;cases oI
    ·obtain ⟨v',oI,jo⟩:=hv
     injection oI with oI
     subst oI
     exact hq be w' u ci jo
   ·cases h
  ·cases h
 ·
  rename_i f args ts
  split at h
  ·rename_i g a b as hf ha
   injection h with h
   subst h
   refine ⟨dn.refl ..,wf,fun base φ w act aA next Q dr hfr ht hd hn=>?_⟩
   have he:=ht.ev (E:=E) (H:=H) (w:=w) dr.iO
   obtain ⟨_,a',b',xB,hu,hla,hlb⟩:=(he f _ hf).HW
   injection xB with xB
   subst xB
   have hlr:=xl he ha
   have hmap:args.map act.eval=(args.toList.map act.eval).toArray:=by apply Array.ext';simp
   have ci:=Out.refl (W:=[]) dr
   have:=hn φ w undef { act with defers:={ target:=.fn (.func g) b',args:=a'++(args.map act.eval) }::act.defers } ci (.tuple' ⟨rfl,fun i x y hx=>by simp at hx⟩) rfl
    (by rw [hmap];exact .cons g a b a' b' as (args.toList.map act.eval) d act.defers hla hlb hlr hd)
   unfold Oper.wp
   have hr:(execOp act.eval ⟨dst,.defer { callee:=.value f,args:=args,argTypes:=ts },ty,pos,after,guard⟩).run E.P w=.ok (.defer { target:=.fn (.func g) b',args:=a'++(args.map act.eval) }) w:=by
    unfold execOp resolve
    simp only [hu,Deferred.ofValue]
    rfl
   rw [hr]
   exact this
  ·cases h
 ·
  rename_i x
  split at h
  ·rename_i t v hx
   injection h with h
   subst h
   refine ⟨dn.refl ..,wf,fun base φ w a aA next Q dr hf ht hd hq=>?_⟩
   have he:=ht.ev (E:=E) (H:=H) (w:=w) dr.iO
   have hv:=he x _ hx
   obtain ⟨u,hu,jo⟩:∃ u,a.eval x=.iface t u∧bn φ v u:=by
    generalize a.eval x=y at hv
    cases hv with |iface _ _ u hu=>exact ⟨u,rfl,hu⟩
   have hr:(execOp a.eval ⟨dst,.panic x,ty,pos,after,guard⟩).run E.P w=.halt (.panic (.iface t u)) w:=by
    unfold execOp
    simp only [hu]
    rfl
   unfold Oper.wp
   rw [hr]
   exact hq φ w _ (Out.refl [] dr) (.iface _ _ _ jo)
  ·cases h
 ·
  split at h
  ·rename_i v H' W R hs
   injection h with h
   subst h
   exact NN ok wf cE hs
  ·cases h
theorem yJ {ops:Array Oper} {T:cg} {o:Oper} {b:Bool} {φ:bC} {a:Act} {aA:Nat} (ht:ii φ T a.tmps aA) (h:vi ops T o=some b):Region.wanted o (yielded ops a.tmps)=b:=by
 unfold vi at h
 unfold Region.wanted
 split at h
 ·rename_i hg;injection h with h;subst h;simp [hg]
 ·rename_i j want hg
  simp only [hg]
  split at h
  ·rename_i p hp
   split at h
   ·rename_i dd hd
    split at h
    ·rename_i bb hb
     injection h with h
     subst h
     obtain ⟨u,hu,hv⟩:=ht.2 _ _ hb
     have:=hv.oA rfl
     subst this
     simp only [yielded,hp,hd,hu,Option.bind_some]
     cases bb <;> cases want <;> rfl
    ·rename_i y Ya hy
     injection h with h
     subst h
     obtain ⟨u,hu,hv⟩:=ht.2 _ _ hy
     simp only [yielded,hp,hd,hu,Option.bind_some]
     cases hv <;> first
      |rfl
      |exact (Ya _ rfl).elim
    ·cases h
   ·rename_i hd
    injection h with h
    subst h
    simp [yielded,hp,hd]
  ·rename_i hp
   injection h with h
   subst h
   simp [yielded,hp]
def Bb (φ:bC) (x:fx) (e:Exit):Prop:=
 match x with
 |.normal=>e=.normal
 |.exit id=>e=.exit id
 |.goto l=>e=.goto l
 |.ret=>e=.ret
 |.panic v=>∃ u,e=.panic [{ v:=u,recovered:=false }]∧bn φ v u
def Post (E:Env) (base:Nat) (φ:bC) (w:World) (aA:Nat) (H:Z) (W:List Nat) (x:fx) (s':gW) (e:Exit) (a':Act) (w':World):Prop:=
 ∃ be,Out E base φ w H s'.h W be w'∧Bb be x e∧ii be s'.t a'.tmps aA∧j7 be s'.d a'.defers
structure sG (E:Env) (base:Nat) (φ:bC) (w:World) (aA:Nat) (s:gW) (a:Act):Prop where
 rel:Rel E base s.h φ w
 aT:ii φ s.t a.tmps aA
 je:j7 φ s.d a.defers
theorem Post.glue {base:Nat} {φ fu:bC} {w w1:World} {aA:Nat} {H:Z} {s1 s2:gW} {W V:List Nat} {x:fx} {e:Exit} {a:Act} {w2:World} (x1:dn W H s1.h) (aC:dn V s1.h s2.h)
  (ci:Out E base φ w H s1.h W fu w1) (hf:gw φ H.n s2.h.n) (h:Post E base fu w1 aA s1.h V x s2 e a w2):Post E base φ w aA H (W++V) x s2 e a w2:=by
 obtain ⟨o8,h1,h2,h3,h4⟩:=h
 exact ⟨o8,ci.trans x1 aC h1 hf,h2,h3,h4⟩
theorem gw.next {base:Nat} {φ fu:bC} {w w1:World} {H H1 H2:Z} {W:List Nat} (ci:Out E base φ w H H1 W fu w1) (hn:H.n≤H1.n) (hf:gw φ H.n H2.n):gw fu H1.n H2.n:=fun i h1 h2=>by
 rw [ci.ext i (.inr h1)];exact hf i J h2
theorem gw.first {φ:bC} {a b c:Nat} (hf:gw φ a c) (h:b≤c):gw φ a b:=fun i h1 h2=>hf i h1 J
theorem Kb (ok:E.fy) (hc:nf E call) (aA:Nat) (ops:Array Oper):∀(rest:List Oper) (s s':gW) (p:Option Value),At E call aA ops rest s=some (p,s')→cW s.h→E.d4≤s.h.n→
  ∃ W,s'.w=s.w++W∧dn W s.h s'.h∧cW s'.h∧∀(base:Nat) (φ:bC) (w:World) (a:Act),sG E base φ w aA s a→gw φ s.h.n s'.h.n→
   wpList E.P ops (Post E base φ w aA s.h W (match p with |none=>.normal |some v=>.panic v) s') rest a w
 |[],s,s',p,h,wf,cE=>by
  simp only [At,bH,b8] at h
  obtain ⟨rfl,rfl⟩:=h
  exact ⟨[],by simp,dn.refl ..,wf,fun base φ w a hs hf=>⟨φ,Out.refl [] hs.rel,rfl,hs.aT,hs.je⟩⟩
 |o::rest,s,s',p,h,wf,cE=>by
  simp only [At] at h
  split at h
  ·rename_i hw
   split at h
   ·rename_i v H1 d1 hU r1 hop
    obtain ⟨g1,g2,g3⟩:=FS ok hc wf cE hop
    split at h
    ·rename_i gG oC
     have jP:=g1.n
     obtain ⟨V,hV,aC,kX,k⟩:=Kb ok hc aA ops rest _ s' p h g2 (by show E.d4≤H1.n;omega)
     have R9:dn V H1 s'.h:=aC
     have hn2:H1.n≤s'.h.n:=aC.n
     refine ⟨hU++V,by rw [hV];simp,g1.trans R9,kX,fun base φ w a hs hf=>?_⟩
     simp only [wpList]
     rw [if_pos (yJ hs.aT hw)]
     refine .inl (g3 base φ w a aA _ _ hs.rel (hf.first hn2) hs.aT hs.je fun be w' u a' ci jo rL hda=>?_)
     have oH:ii be s.t a'.tmps aA:=by rw [rL];exact hs.aT.mono (ci.sub (hf.first hn2))
     have:=k base be w' (a'.put o.dst u) ⟨ci.rel,oH.put jo oC,by rw [put_defers];exact hda⟩ (hf.next ci jP)
     exact GO (fun e a w h=>Post.glue g1 R9 ci hf h) _ _ _ this
    ·cases h
   ·rename_i v H1 hU hop
    obtain ⟨g1,g2,g3⟩:=FS ok hc wf cE hop
    simp only [bH,b8] at h
    obtain ⟨rfl,rfl⟩:=h
    refine ⟨hU,rfl,g1,g2,fun base φ w a hs hf=>?_⟩
    simp only [wpList]
    rw [if_pos (yJ hs.aT hw)]
    refine .inl (g3 base φ w a aA _ _ hs.rel hf hs.aT hs.je fun be w' u ci jo=>?_)
    exact ⟨be,ci,⟨u,rfl,jo⟩,hs.aT.mono (ci.sub hf),hs.je.mono (ci.sub hf)⟩
   ·cases h
  ·rename_i hw
   split at h
   ·rename_i gG oC
    obtain ⟨V,hV,aC,kX,k⟩:=Kb ok hc aA ops rest _ s' p h wf cE
    refine ⟨V,hV,aC,kX,fun base φ w a hs hf=>?_⟩
    simp only [wpList]
    rw [if_neg (by rw [yJ hs.aT hw];simp)]
    exact k base φ w _ ⟨hs.rel,hs.aT.put (.tuple' ⟨rfl,fun i x y hx=>by simp at hx⟩) oC,by rw [put_defers];exact hs.je⟩ hf
   ·cases h
  ·cases h
end
def Sy (E:Env) (g:FuncId) (p:List Value→Z→vr):Prop:=
 ∀ args H r H' W,p args H=some (r,H',W)→cW H→E.d4≤H.n→tY E g args H r H' W
def pX (φ:bC):Option Value→FrameMode→Prop
 |none,m=>m=.returning
 |some v,m=>∃ u,m=.panicking [{ v:=u,recovered:=false }]∧bn φ v u
def Sr (E:Env) (g:FuncId) (p:Option Value→List Value→Z→Option (Option Value×Z×List Nat)):Prop:=
 (∀ args w,(callFunc g args).run E.P w=.ok (.enter g args) w)∧
 ∀ m args H m' H' W,p m args H=some (m',H',W)→cW H→E.d4≤H.n→dn W H H'∧cW H'∧
  ∀ base φ w args' u,Rel E base H φ w→gw φ H.n H'.n→eI φ args args'→pX φ m u→
   CallsD E.P g args'.toArray u w fun e u' w'=>(∃ v,e=.returned v)∧∃ be,Out E base φ w H H' W be w'∧pX be m' (settle u')
structure Sound (E:Env):Prop where
 ok:E.fy
 name:∀ f fn,E.func f=some fn→(fn.name== "runtime.NumGoroutine")=false
 Az:∀ g p,E.Az g=some p→Sy E g p
 By:∀ g p,E.By g=some p→Sr E g p
def G1 (E:Env) (call:Call):Prop:=∀ aA id ops s s',AE E call aA ops true s=some (none,s')→cW s.h→E.d4≤s.h.n→
 ∃ W,s'.w=s.w++W∧dn W s.h s'.h∧cW s'.h∧∀(base:Nat) (φ:bC) (w:World) (a:Act),sG E base φ w aA s a→gw φ s.h.n s'.h.n→
  (Code.region id ops true).wp E.P (Post E base φ w aA s.h W .normal s') a w
section
variable {E:Env}
theorem Q3 (hS:Sound E) {g:FuncId} {fn:Func} {c:Code} (hf:E.func g=some fn) (hb:fn.body=some c) (args:Array Value) (w:World):(callFunc g args).run E.P w=.ok (.enter g args) w:=by
 unfold callFunc
 rw [bI (run_program w)]
 simp only [hS.ok.func _ _ hf,hS.name _ _ hf,Bool.false_eq_true,if_false,hb,Option.isNone_some]
 rfl
theorem RM {φ:bC}:∀(vs us:List Value) (i:Nat) (T:cg) (tm:Array Value) (aA:Nat),ii φ T tm aA→eI φ vs us→i+vs.length≤aA→(∀(j:Nat) u,us[j]?=some u→tm[i+j]?=some u)→ii φ (tS vs i T) tm aA
 |[],us,i,T,tm,aA,ht,hl,hi,hu=>ht
 |v::vs,us,i,T,tm,aA,ht,hl,hi,hu=>by
  obtain ⟨u,us',rfl,hv,hl'⟩:=hl.cons_inv
  have qK:ii φ (T.set i v) tm aA:=⟨ht.1,fun t x hx=>by
   rw [de.kP] at hx
   by_cases e:i=t
   ·subst e
    rw [if_pos rfl] at hx
    injection hx with hx
    subst hx
    exact ⟨u,by simpa using hu 0 u (by simp),hv⟩
   ·rw [if_neg e] at hx;exact ht.2 t x hx⟩
  exact RM vs us' (i+1) _ tm aA qK hl' (by simp at hi;omega) (fun j x hx=>by
   have:=hu (j+1) x (by simpa using hx)
   rw [show i+1+j=i+(j+1) by omega];exact this)
theorem Lb {φ:bC} {args:List Value} {args':List Value} {aA:Nat} (hl:eI φ args args') (hn:args.length≤aA):ii φ (tS args 0 .nil) (args'.toArray++Array.replicate (aA-args'.toArray.size) undef) aA:=by
 refine RM args args' 0 .nil _ aA ⟨by simp;have:=hl.1;omega,fun t v h=>by simp [de.get] at h⟩ hl J (fun j u hu=>?_)
 have hj:=(List.getElem?_eq_some_iff.1 hu).1
 rw [Nat.zero_add,Array.getElem?_append_left (by simpa using hj)]
 simpa using hu
theorem Gd (ok:E.fy) {base:Nat} {φ:bC} {w:World} {s:gW} {tm:Array Value} {aA:Nat} (wf:cW s.h) (dr:Rel E base s.h φ w) (ht:ii φ s.t tm aA):∀(rs:List ResultVar) (vs:List Value),tJ E s rs=some vs→
  ∃ us,eI φ vs us∧(rs.mapM fun (r:ResultVar)=>(match r with
   |.tmp t=>(pure (tm.getD t undef):Sem Value)
   |.cell a t=>do loadVar t (← asAddr (tm.getD a undef)):Sem Value)).run E.P w=.ok us w
 |[],vs,h=>by simp [tJ] at h;subst h;exact ⟨[],.nil φ,rfl⟩
 |.tmp t::rs,vs,h=>by
  simp only [tJ] at h
  split at h
  ·rename_i v ws hv hw
   injection h with h
   subst h
   obtain ⟨us,h1,h2⟩:=Gd ok wf dr ht rs ws hw
   obtain ⟨u,hu,jo⟩:=ht.2 _ _ hv
   refine ⟨u::us,.cons jo h1,?_⟩
   rw [List.mapM_cons]
   have e:tm.getD t undef=u:=by simp [Array.getD_eq_getD_getElem?,hu]
   simp only [e]
   rw [bI (run_pure u w),bI h2];rfl
  ·cases h
 |.cell a t::rs,vs,h=>by
  simp only [tJ] at h
  split at h
  ·rename_i b off hv
   split at h
   ·rename_i v ws XW hw
    injection h with h
    subst h
    obtain ⟨us,h1,h2⟩:=Gd ok wf dr ht rs ws hw
    obtain ⟨u,hu,jo⟩:=ht.2 _ _ hv
    obtain ⟨l,hl,rfl⟩:=jo.wC
    obtain ⟨x,hx,Yx⟩:=Q4 ok (Pre.P3 wf dr [b]) (by simp) hl XW
    refine ⟨x::us,.cons Yx h1,?_⟩
    rw [List.mapM_cons]
    have e:tm.getD a undef=.pointer (some ⟨l.dG,l.off+off,none⟩):=by simp [Array.getD_eq_getD_getElem?,hu]
    have hx':(do loadVar t (← asAddr (tm.getD a undef)):Sem Value).run E.P w=.ok x w:=by
     rw [e]
     show ((pure _:Sem Addr) >>= fun y=>loadVar t y).run E.P w=_
     rw [bI (run_pure _ w)];exact hx
    rw [bI hx',bI h2];rfl
   ·cases h
  ·cases h
theorem KG (ok:E.fy) {base:Nat} {φ:bC} {w:World} {s:gW} {tm:Array Value} {aA:Nat} {fn:Func} {v:Value} (wf:cW s.h) (dr:Rel E base s.h φ w) (ht:ii φ s.t tm aA) (h:u9 E fn s=some v) :
  ∃ u,bn φ v u∧(results fn tm).run E.P w=.ok u w:=by
 unfold u9 at h
 have key:∀ us:List Value,(fn.results.toList.mapM fun (r:ResultVar)=>(match r with
   |.tmp t=>(pure (tm.getD t undef):Sem Value)
   |.cell a t=>do loadVar t (← asAddr (tm.getD a undef)):Sem Value)).run E.P w=.ok us w→
   (results fn tm).run E.P w=.ok (if h:us.toArray.size=1 then us.toArray[0] else .tuple us.toArray) w:=by
  intro us Yt
  unfold results
  rw [Array.mapM_eq_mapM_toList]
  have:(List.toArray <$> (fn.results.toList.mapM fun (r:ResultVar)=>(match r with
   |.tmp t=>(pure (tm.getD t undef):Sem Value)
   |.cell a t=>do loadVar t (← asAddr (tm.getD a undef)):Sem Value))).run E.P w=.ok us.toArray w:=by
   rw [map_eq_pure_bind,bI Yt];rfl
  exact (bI (f:=fun (vs:Array Value)=>(pure (if h:vs.size=1 then vs[0] else .tuple vs):Sem Value)) this).trans rfl
 split at h
 ·rename_i x hx
  injection h with h
  subst h
  obtain ⟨us,h1,h2⟩:=Gd ok wf dr ht _ _ hx
  obtain ⟨u,us',rfl,hv,hn⟩:=h1.cons_inv
  have:=hn.tE
  subst this
  exact ⟨u,hv,key _ h2⟩
 ·rename_i vs hne hx
  injection h with h
  subst h
  obtain ⟨us,h1,h2⟩:=Gd ok wf dr ht _ _ hx
  refine ⟨.tuple us.toArray,.tuple' h1.toArray,?_⟩
  rw [key _ h2]
  have hl:=h1.1
  have:¬ us.toArray.size=1:=by
   intro e
   have:vs.length=1:=by rw [hl];simpa using e
   match vs,this with
   |[x],_=>exact hne x rfl
  rw [dif_neg this]
 ·cases h
def G0 (n:Nat) (P:Program) (c:Code) (Q:Exit→Act→World→Prop) (a:Act) (w:World):Prop:=
 match c with
 |.loop b=>Code.rounds P b Q n a w
 |c=>c.wp P Q a w
theorem G0.wp {n:Nat} {P:Program} {c:Code} {Q:Exit→Act→World→Prop} {a:Act} {w:World} (h:G0 n P c Q a w):c.wp P Q a w:=by
 cases c <;> first
  |exact h
  |exact wp_loop_rounds n h
def ais:Code→Bool
 |.loop _=>true
 |_=>false
def LZ (E:Env) (n aA:Nat) (c:Code) (s:gW) (x:fx) (s':gW):Prop:=
 ∃ W,s'.w=s.w++W∧dn W s.h s'.h∧cW s'.h∧∀(base:Nat) (φ:bC) (w:World) (a:Act),sG E base φ w aA s a→gw φ s.h.n s'.h.n→G0 n E.P c (Post E base φ w aA s.h W x s') a w
def DO (E:Env) (n aA:Nat) (self:Code→gW→Option (fx×gW)):Prop:=∀ c s x s',self c s=some (x,s')→cW s.h→E.d4≤s.h.n→LZ E n aA c s x s'
theorem Gg {P:Program} {c:Code} {Q Q':Exit→Act→World→Prop} (hq:∀ e a w,Q e a w→Q' e a w):∀ n a w,Code.rounds P c Q n a w→Code.rounds P c Q' n a w
 |0,_,_,h=>h
 |n+1,a,w,h=>by
  rw [rounds_succ] at h ⊢
  refine wp_mono h fun e a w he=>?_
  cases e <;> simp only [Exit.then] at he ⊢ <;> first |exact Gg hq n _ _ he |exact hq _ _ _ he
theorem UW (hS:Sound E) {call:Call} (hc:nf E call) (hd:G1 E call) {n aA:Nat} {self:Code→gW→Option (fx×gW)} (hs:DO E n aA self) {c:Code} {s:gW} {x:fx} {s':gW}
  (h:HB E call aA self c s=some (x,s')) (wf:cW s.h) (cE:E.d4≤s.h.n):LZ E (n+1) aA c s x s':=by
 have none_:∀{x:fx},some (x,s)=some (x,s')→s'=s:=fun e=>by injection e with e;injection e with _ e;exact e.symm
 unfold HB at h
 split at h
 ·
  simp only [bH,b8] at h;obtain ⟨rfl,rfl⟩:=h
  exact ⟨[],by simp,dn.refl ..,wf,fun base φ w a h hf=>wp_skip ⟨φ,Out.refl [] h.rel,rfl,h.aT,h.je⟩⟩
 ·
  simp only [bH,b8] at h;obtain ⟨rfl,rfl⟩:=h
  exact ⟨[],by simp,dn.refl ..,wf,fun base φ w a h hf=>wp_label ⟨φ,Out.refl [] h.rel,rfl,h.aT,h.je⟩⟩
 ·
  rename_i id ops draw
  cases draw with
  |false=>
   have seq:∀(p:Option Value),AE E call aA ops false s=some (p,s')→∃ W,s'.w=s.w++W∧dn W s.h s'.h∧cW s'.h∧∀(base:Nat) (φ:bC) (w:World) (a:Act),sG E base φ w aA s a→gw φ s.h.n s'.h.n→
     (Code.region id ops false).wp E.P (Post E base φ w aA s.h W (match p with |none=>.normal |some v=>.panic v) s') a w:=by
    intro p hp
    simp only [AE,cond_false] at hp
    obtain ⟨W,h1,h2,h3,h4⟩:=Kb hS.ok hc aA ops ops.toList s s' p hp wf cE
    refine ⟨W,h1,h2,h3,fun base φ w a dH hf=>wp_region ?_⟩
    have e:∀ Q,wpOps E.P ops Q (List.range ops.size)=wpList E.P ops Q ops.toList:=fun Q=>by
     have:=wpOps_eq_wpList (P:=E.P) (ops:=ops) (Q:=Q) ops.toList 0 (fun j=>by simp)
     rw [Array.length_toList] at this
     rw [List.range_eq_range',this]
    rw [e]
    exact h4 base φ w a dH hf
   split at h
   ·rename_i s1 hr
    simp only [bH,b8] at h;obtain ⟨rfl,rfl⟩:=h
    exact seq none hr
   ·rename_i v s1 hr
    simp only [bH,b8] at h;obtain ⟨rfl,rfl⟩:=h
    exact seq (some v) hr
   ·cases h
  |true=>
   split at h
   ·rename_i s1 hr
    simp only [bH,b8] at h;obtain ⟨rfl,rfl⟩:=h
    exact hd aA id ops s s1 hr wf cE
   ·rename_i v s1 hr
    exfalso
    simp only [AE,cond_true] at hr
    cases hro:q3 ops with
    |false=>rw [hro] at hr;cases hr
    |true=>
     rw [hro] at hr
     simp only [cond_true] at hr
     split at hr
     ·rename_i s2 fs _
      cases hi:indep (Region.before ops) fs with
      |false=>rw [hi] at hr;cases hr
      |true=>rw [hi] at hr;simp at hr
     ·cases hr
   ·cases h
 ·
  rename_i c1 c2
  split at h
  ·rename_i s1 h1
   obtain ⟨W,hW,x1,fT,k1⟩:=hs _ _ _ _ h1 wf cE
   have jP:=x1.n
   obtain ⟨V,hV,aC,kX,k2⟩:=hs _ _ _ _ h fT J
   have hn2:=aC.n
   refine ⟨W++V,by rw [hV,hW];simp,x1.trans aC,kX,fun base φ w a dH hf=>wp_seq (wp_mono (k1 base φ w a dH (hf.first hn2)).wp fun e a1 w1 hp=>?_)⟩
   obtain ⟨fu,ci,he,ht,eK⟩:=hp
   have he:e=.normal:=he
   subst he
   exact wp_mono (k2 base fu w1 a1 ⟨ci.rel,ht,eK⟩ (hf.next ci jP)).wp fun e a2 w2 hp=>Post.glue x1 aC ci hf hp
  ·rename_i r hne
   have hx:x≠.normal:=fun e=>by subst e;exact hne _ h
   obtain ⟨W,hW,x1,fT,k1⟩:=hs _ _ _ _ h wf cE
   refine ⟨W,hW,x1,fT,fun base φ w a dH hf=>wp_seq (wp_mono (k1 base φ w a dH hf).wp fun e a1 w1 hp=>?_)⟩
   obtain ⟨fu,ci,he,ht,eK⟩:=hp
   have:e≠.normal:=fun e'=>by
    subst e'
    cases x with
    |normal=>exact hx rfl
    |panic v=>obtain ⟨u,hu,_⟩:=he;cases hu
    |_=>cases he
   cases e <;> first
    |exact absurd rfl this
    |exact ⟨fu,ci,he,ht,eK⟩
 ·
  rename_i c1 a1 b1
  split at h
  ·rename_i hb
   obtain ⟨W,hW,x1,fT,k1⟩:=hs _ _ _ _ h wf cE
   refine ⟨W,hW,x1,fT,fun base φ w a dH hf=>wp_cond_true ?_ (k1 base φ w a dH hf).wp⟩
   exact (dH.aT.ev (H:=s.h) (w:=w) dH.rel.iO c1 _ hb).oA rfl
  ·rename_i hb
   obtain ⟨W,hW,x1,fT,k1⟩:=hs _ _ _ _ h wf cE
   refine ⟨W,hW,x1,fT,fun base φ w a dH hf=>wp_cond_false ?_ (k1 base φ w a dH hf).wp⟩
   exact (dH.aT.ev (H:=s.h) (w:=w) dH.rel.iO c1 _ hb).oA rfl
  ·cases h
 ·
  rename_i id c1
  split at h
  ·rename_i id' s1 h1
   obtain ⟨W,hW,x1,fT,k1⟩:=hs _ _ _ _ h1 wf cE
   by_cases hid:id'=id
   ·rw [lO hid] at h
    simp only [cond_true,bH,b8] at h;obtain ⟨rfl,rfl⟩:=h
    refine ⟨W,hW,x1,fT,fun base φ w a dH hf=>wp_block (wp_mono (k1 base φ w a dH hf).wp fun e a1 w1 hp=>?_)⟩
    obtain ⟨fu,ci,he,ht,eK⟩:=hp
    have he:e=.exit id':=he
    subst he
    simp only [Exit.inBlock,hid,if_true]
    exact ⟨fu,ci,rfl,ht,eK⟩
   ·rw [iu hid] at h
    simp only [cond_false,bH,b8] at h;obtain ⟨rfl,rfl⟩:=h
    refine ⟨W,hW,x1,fT,fun base φ w a dH hf=>wp_block (wp_mono (k1 base φ w a dH hf).wp fun e a1 w1 hp=>?_)⟩
    obtain ⟨fu,ci,he,ht,eK⟩:=hp
    have he:e=.exit id':=he
    subst he
    simp only [Exit.inBlock,hid,if_false]
    exact ⟨fu,ci,rfl,ht,eK⟩
  ·rename_i r hne
   obtain ⟨W,hW,x1,fT,k1⟩:=hs _ _ _ _ h wf cE
   refine ⟨W,hW,x1,fT,fun base φ w a dH hf=>wp_block (wp_mono (k1 base φ w a dH hf).wp fun e a1 w1 hp=>?_)⟩
   obtain ⟨fu,ci,he,ht,eK⟩:=hp
   cases e with
   |exit id'=>
    exfalso
    cases x with
    |exit id2=>exact hne id2 s' h
    |panic v=>obtain ⟨u,hu,_⟩:=he;cases hu
    |_=>cases he
   |_=>exact ⟨fu,ci,he,ht,eK⟩
 ·
  rename_i c1
  split at h
  ·rename_i s1 h1
   obtain ⟨W,hW,x1,fT,k1⟩:=hs _ _ _ _ h1 wf cE
   have jP:=x1.n
   obtain ⟨V,hV,aC,kX,k2⟩:=hs _ _ _ _ h fT J
   have hn2:=aC.n
   refine ⟨W++V,by rw [hV,hW];simp,x1.trans aC,kX,fun base φ w a dH hf=>?_⟩
   show Code.rounds E.P c1 _ (n+1) a w
   rw [rounds_succ]
   refine wp_mono (k1 base φ w a dH (hf.first hn2)).wp fun e a1 w1 hp=>?_
   obtain ⟨fu,ci,he,ht,eK⟩:=hp
   have he:e=.normal:=he
   subst he
   have:=k2 base fu w1 a1 ⟨ci.rel,ht,eK⟩ (hf.next ci jP)
   exact Gg (fun e a2 w2 hp=>Post.glue x1 aC ci hf hp) n a1 w1 this
  ·rename_i r hne
   have hx:x≠.normal:=fun e=>by subst e;exact hne _ h
   obtain ⟨W,hW,x1,fT,k1⟩:=hs _ _ _ _ h wf cE
   refine ⟨W,hW,x1,fT,fun base φ w a dH hf=>?_⟩
   show Code.rounds E.P c1 _ (n+1) a w
   rw [rounds_succ]
   refine wp_mono (k1 base φ w a dH hf).wp fun e a1 w1 hp=>?_
   obtain ⟨fu,ci,he,ht,eK⟩:=hp
   have:e≠.normal:=fun e'=>by
    subst e'
    cases x with
    |normal=>exact hx rfl
    |panic v=>obtain ⟨u,hu,_⟩:=he;cases hu
    |_=>cases he
   cases e <;> first
    |exact absurd rfl this
    |exact ⟨fu,ci,he,ht,eK⟩
 ·
  simp only [bH,b8] at h;obtain ⟨rfl,rfl⟩:=h
  exact ⟨[],by simp,dn.refl ..,wf,fun base φ w a h hf=>wp_exit ⟨φ,Out.refl [] h.rel,rfl,h.aT,h.je⟩⟩
 ·
  simp only [bH,b8] at h;obtain ⟨rfl,rfl⟩:=h
  exact ⟨[],by simp,dn.refl ..,wf,fun base φ w a h hf=>wp_goto ⟨φ,Out.refl [] h.rel,rfl,h.aT,h.je⟩⟩
 ·
  simp only [bH,b8] at h;obtain ⟨rfl,rfl⟩:=h
  exact ⟨[],by simp,dn.refl ..,wf,fun base φ w a h hf=>wp_ret ⟨φ,Out.refl [] h.rel,rfl,h.aT,h.je⟩⟩
 ·cases h
end
theorem Cu {P:Program} {fn:Func} {tm:Array Value} {R R':Ending→World→Prop} (hr:∀ e w,R e w→R' e w):∀(ds:List Deferred) (u:FrameMode) (w:World),Leaves P fn tm R ds u w→Leaves P fn tm R' ds u w
 |[],u,w,h=>by
  cases u with
  |run=>exact h.elim
  |returning=>obtain ⟨v,h1,h2⟩:=h;exact ⟨v,h1,hr _ _ h2⟩
  |panicking c=>exact hr _ _ h
 |d::ds,u,w,h=>by
  obtain ⟨h1,fv,cap,f,args,h2,h3,h4⟩:=h
  refine ⟨h1,fv,cap,f,args,h2,h3,h4.mono fun e u' w' h=>?_⟩
  cases e with
  |returned v=>exact Cu hr ds _ _ h
  |panicked c=>exact Cu hr ds _ _ h
  |outgrown=>exact hr _ _ h
theorem nL.glue {E:Env} {base:Nat} {φ fu:bC} {w w1:World} {H H1 H2:Z} {W V:List Nat} {r:rh} {e:Ending} {w2:World} (x1:dn W H H1) (aC:dn V H1 H2)
  (ci:Out E base φ w H H1 W fu w1) (hf:gw φ H.n H2.n) (h:nL E base fu w1 H1 H2 V r e w2):nL E base φ w H H2 (W++V) r e w2:=by
 obtain ⟨o8,h1,h2⟩:=h
 exact ⟨o8,ci.trans x1 aC h1 hf,h2⟩
theorem pX.mono {φ ψ:bC} (h:∀ i l,φ i=some l→ψ i=some l) {m:Option Value} {u:FrameMode} (hm:pX φ m u):pX ψ m u:=by
 cases m with
 |none=>exact hm
 |some v=>obtain ⟨x,h1,h2⟩:=hm;exact ⟨x,h1,h2.mono h⟩
theorem pX.ne {φ:bC} {m:Option Value} {u:FrameMode} (hm:pX φ m u):u≠.run:=by
 cases m with
 |none=>have:u=.returning:=hm;rw [this];exact fun h=>by cases h
 |some v=>obtain ⟨x,h1,h2⟩:=hm;rw [h1];exact fun h=>by cases h
theorem pX.settle {φ:bC} {m:Option Value} {u:FrameMode} (hm:pX φ m u):pX φ m (Go.settle u):=by
 cases m with
 |none=>have:u=.returning:=hm;rw [this];rfl
 |some v=>obtain ⟨x,h1,h2⟩:=hm;rw [h1];exact ⟨x,rfl,h2⟩
section
variable {E:Env}
theorem Jz (hS:Sound E) {n aA:Nat} {code:Nat→Code→gW→Option (fx×gW)} (zI:∀ aA,DO E n aA (code aA)) (fn:Func) (T:cg):∀(ds:List (Value×List Value)) (m:Option Value) (H:Z) (w0:List Nat) (r:rh) (H':Z) (W':List Nat),
  tk E code fn T ds m H w0=some (r,H',W')→cW H→E.d4≤H.n→∃ W,W'=w0++W∧dn W H H'∧cW H'∧∀(base:Nat) (φ:bC) (w:World) (tm:Array Value) (es:List Deferred) (u:FrameMode),
   Rel E base H φ w→gw φ H.n H'.n→ii φ T tm aA→j7 φ ds es→pX φ m u→Leaves E.P fn tm (nL E base φ w H H' W r) es u w
 |[],none,H,w0,r,H',W',h,wf,cE=>by
  simp only [tk] at h
  split at h
  ·rename_i v hv
   simp only [bH,b8] at h;obtain ⟨rfl,rfl,rfl⟩:=h
   refine ⟨[],by simp,dn.refl ..,wf,fun base φ w tm es u dr hf ht hd hm=>?_⟩
   cases hd
   have:u=.returning:=hm
   subst this
   obtain ⟨x,hx,hr⟩:=KG hS.ok (s:=⟨T,H,[],[]⟩) wf dr ht hv
   exact ⟨x,hr,φ,Out.refl [] dr,x,rfl,hx⟩
  ·cases h
 |[],some v,H,w0,r,H',W',h,wf,cE=>by
  simp only [tk,bH,b8] at h;obtain ⟨rfl,rfl,rfl⟩:=h
  refine ⟨[],by simp,dn.refl ..,wf,fun base φ w tm es u dr hf ht hd hm=>?_⟩
  cases hd
  obtain ⟨x,hu,hx⟩:=hm
  subst hu
  exact ⟨φ,Out.refl [] dr,x,rfl,hx⟩
 |(f,args)::ds,m,H,w0,r,H',W',h,wf,cE=>by
  simp only [tk] at h
  split at h
  rotate_left
  ·cases h
  rename_i g a b
  have inv:∀(φ:bC) (es:List Deferred),j7 φ ((.func (.func g) a b,args)::ds) es→∃ a' b' args' es',es={ target:=.fn (.func g) b',args:=a'++args'.toArray }::es'∧eI φ (a.toList++args++b.toList) (a'.toList++args'++b'.toList)∧j7 φ ds es':=by
   intro φ es hd
   cases hd with
   |cons _ _ _ a' b' _ args' _ es' h1 h2 h3 h4=>exact ⟨a',b',args',es',rfl,(h1.toList.append h3).append h2.toList,h4⟩
  have inv2:∀(a' b':Array Value) (args':List Value) (w:World),(invoke (.fn (.func g) b') (a'++args'.toArray)).run E.P w=(callFunc g (a'.toList++args'++b'.toList).toArray).run E.P w:=by
   intro a' b' args' w
   simp only [invoke]
   congr 2
   apply Array.ext'
   simp
  split at h
  ·
   rename_i p hp
   split at h
   ·rename_i m1 H1 Sz B3
    obtain ⟨d1,d2⟩:=hS.By _ _ hp
    obtain ⟨x1,fT,k1⟩:=d2 _ _ _ _ _ _ B3 wf cE
    have jP:=x1.n
    obtain ⟨W,hW,aC,kX,k2⟩:=Jz hS zI fn T ds m1 H1 _ r H' W' h fT J
    have hn2:=aC.n
    refine ⟨Sz++W,by rw [hW];simp,x1.trans aC,kX,fun base φ w tm es u dr hf ht hd hm=>?_⟩
    obtain ⟨a',b',args',es',rfl,hl,hd'⟩:=inv φ es hd
    refine leaves_cons hm.ne ((inv2 a' b' args' w).trans (d1 _ w)) ((k1 base φ w _ u dr (hf.first hn2) hl hm).mono fun e u' w' he=>?_)
    obtain ⟨⟨v,rfl⟩,be,ci,hm'⟩:=he
    have hsub:=ci.sub (hf.first hn2)
    exact Cu (fun e w h=>nL.glue x1 aC ci hf h) _ _ _ (k2 base be w' tm es' _ ci.rel (hf.next ci jP) (ht.mono hsub) (hd'.mono hsub) hm')
   ·cases h
  ·split at h
   ·rename_i fn' hfn
    split at h
    ·rename_i c hb
     cases hle:Nat.ble (a.toList++args++b.toList).length fn'.ntmps with
     |false=>rw [hle] at h;cases h
     |true=>
      rw [hle] at h
      simp only [cond_true] at h
      have hle':=Nat.le_of_ble_eq_true hle
      have main:∀(x:fx) (s:gW),(x=.normal∨x=.ret)→code fn'.ntmps c ⟨tS (a.toList++args++b.toList) 0 .nil,H,[],[]⟩=some (x,s)→∀(v:Value),s.d=[]→u9 E fn' s=some v→tk E code fn T ds m s.h (w0++s.w)=some (r,H',W')→
        ∃ W,W'=w0++W∧dn W H H'∧cW H'∧∀(base:Nat) (φ:bC) (w:World) (tm:Array Value) (es:List Deferred) (u:FrameMode),
         Rel E base H φ w→gw φ H.n H'.n→ii φ T tm aA→j7 φ ((.func (.func g) a b,args)::ds) es→pX φ m u→Leaves E.P fn tm (nL E base φ w H H' W r) es u w:=by
       intro x s hx hrun v B8 hres mc
       obtain ⟨V,hV,x1,fT,k1⟩:=zI fn'.ntmps _ _ _ _ hrun wf cE
       have x1:dn V H s.h:=x1
       have hV:s.w=V:=by rw [hV];simp
       have jP:=x1.n
       obtain ⟨W,hW,aC,kX,k2⟩:=Jz hS zI fn T ds m s.h _ r H' W' mc fT J
       have hn2:=aC.n
       refine ⟨V++W,by rw [hW,hV];simp,x1.trans aC,kX,fun base φ w tm es u dr hf ht hd hm=>?_⟩
       obtain ⟨a',b',args',es',rfl,hl,hd'⟩:=inv φ es hd
       refine leaves_cons hm.ne ((inv2 a' b' args' w).trans (Q3 hS hfn hb _ w)) ?_
       have hwp:=(k1 base φ w { tmps:=(a'.toList++args'++b'.toList).toArray++Array.replicate (fn'.ntmps-(a'.toList++args'++b'.toList).toArray.size) undef,defers:=[] } ⟨dr,Lb hl hle',.nil⟩ (hf.first hn2)).wp
       refine (callsD_of_wp (R:=fun e w'=>(∃ v,e=.returned v)∧∃ be,Out E base φ w H s.h V be w') (hS.ok.func _ _ hfn) hb (wp_mono hwp fun e a1 w1 hp=>?_)).mono fun e u' w' he=>?_
       ·obtain ⟨be,ci,he,oH,eK⟩:=hp
        have ci:Out E base φ w H s.h V be w1:=ci
        rw [B8] at eK
        have eK:a1.defers=[]:=by cases XG:a1.defers with |nil=>rfl |cons _ _=>rw [XG] at eK;cases eK
        obtain ⟨y,hy,B7⟩:=KG hS.ok fT ci.rel oH hres
        rcases hx with rfl |rfl
        ·have he:e=.normal:=he
         subst he
         exact ⟨eK,y,B7,⟨y,rfl⟩,be,ci⟩
        ·have he:e=.ret:=he
         subst he
         exact ⟨eK,y,B7,⟨y,rfl⟩,be,ci⟩
       ·obtain ⟨rfl,⟨y,rfl⟩,be,ci⟩:=he
        have hsub:=ci.sub (hf.first hn2)
        exact Cu (fun e w h=>nL.glue x1 aC ci hf h) _ _ _ (k2 base be w' tm es' _ ci.rel (hf.next ci jP) (ht.mono hsub) (hd'.mono hsub) (hm.mono hsub).settle)
      split at h
      ·rename_i s hrun
       split at h
       ·rename_i v B8 hres;exact main _ _ (.inl rfl) hrun v B8 hres h
       ·cases h
      ·rename_i s hrun
       split at h
       ·rename_i v B8 hres;exact main _ _ (.inr rfl) hrun v B8 hres h
       ·cases h
      ·cases h
    ·cases h
   ·cases h
theorem Tz (hS:Sound E) {n:Nat} {code:Nat→Code→gW→Option (fx×gW)} (zI:∀ aA,DO E n aA (code aA)):nf E (Hs E code):=by
 intro g args H r H' W h wf cE
 unfold Hs at h
 split at h
 ·rename_i p hp
  exact hS.Az _ _ hp _ _ _ _ _ h wf cE
 ·split at h
  ·rename_i fn hfn
   split at h
   ·rename_i c hb
    cases hle:Nat.ble args.length fn.ntmps with
    |false=>rw [hle] at h;cases h
    |true=>
     rw [hle] at h
     simp only [cond_true] at h
     have hle':=Nat.le_of_ble_eq_true hle
     have main:∀(x:fx) (s:gW) (m:Option Value),((x=.normal∨x=.ret)∧m=none∨∃ v,x=.panic v∧m=some v)→code fn.ntmps c ⟨tS args 0 .nil,H,[],[]⟩=some (x,s)→
       tk E code fn s.t s.d m s.h s.w=some (r,H',W)→tY E g args H r H' W:=by
      intro x s m hx hrun hl
      obtain ⟨V,hV,x1,fT,k1⟩:=zI fn.ntmps _ _ _ _ hrun wf cE
      have x1:dn V H s.h:=x1
      have hV:s.w=V:=by rw [hV];simp
      have jP:=x1.n
      obtain ⟨G6,hW,aC,kX,k2⟩:=Jz hS zI (aA:=fn.ntmps) fn s.t s.d m s.h _ r H' W hl fT J
      have hn2:=aC.n
      rw [hV] at hW
      subst hW
      refine ⟨x1.trans aC,kX,fun base φ w args' dr hf hlr=>.inl ⟨Q3 hS hfn hb _ w,calls_of_wp_defers (hS.ok.func _ _ hfn) hb ?_⟩⟩
      refine wp_mono (k1 base φ w { tmps:=args'.toArray++Array.replicate (fn.ntmps-args'.toArray.size) undef,defers:=[] } ⟨dr,Lb hlr hle',.nil⟩ (hf.first hn2)).wp fun e a1 w1 hp=>?_
      obtain ⟨be,ci,he,oH,eK⟩:=hp
      have ci:Out E base φ w H s.h V be w1:=ci
      have key:∀ u,pX be m u→Leaves E.P fn a1.tmps (nL E base φ w H H' (V++G6) r) a1.defers u w1:=fun u hu=>
       Cu (fun e w h=>nL.glue x1 aC ci hf h) _ _ _ (k2 base be w1 a1.tmps a1.defers u ci.rel (hf.next ci jP) oH eK hu)
      rcases hx with ⟨rfl |rfl,rfl⟩ |⟨v,rfl,rfl⟩
      ·have he:e=.normal:=he
       subst he
       exact key _ rfl
      ·have he:e=.ret:=he
       subst he
       exact key _ rfl
      ·obtain ⟨u,rfl,jo⟩:=he
       exact key _ ⟨u,rfl,jo⟩
     split at h
     ·rename_i s hrun;exact main _ _ none (.inl ⟨.inl rfl,rfl⟩) hrun h
     ·rename_i s hrun;exact main _ _ none (.inl ⟨.inr rfl,rfl⟩) hrun h
     ·rename_i v s hrun;exact main _ _ (some v) (.inr ⟨v,rfl,rfl⟩) hrun h
     ·cases h
   ·cases h
  ·cases h
theorem NG (hS:Sound E) (hd:∀ call,nf E call→G1 E call):∀ f:Nat,(∀ aA,DO E f aA (exec E f aA))∧nf E (vB E f)
 |0=>⟨fun aA c s x s' h=>by simp [exec] at h,fun g args H r H' W h=>by simp [vB] at h⟩
 |f+1=>by
  obtain ⟨h1,h2⟩:=NG hS hd f
  refine ⟨fun aA c s x s' h wf cE=>?_,fun g args H r H' W h wf cE=>?_⟩
  ·simp only [exec] at h
   exact UW hS h2 (hd _ h2) (h1 aA) h wf cE
  ·simp only [vB] at h
   exact Tz hS h1 _ _ _ _ _ _ h wf cE
end
theorem JO {a b:Nat} (h:a<b):Nat.blt a b=true:=by rw [Nat.blt_eq];exact h
theorem abN {a b:Nat} (h:¬ a<b):Nat.blt a b=false:=by
 cases hb:Nat.blt a b with
 |false=>rfl
 |true=>rw [Nat.blt_eq] at hb;exact (h hb).elim
def kL (S:Nat→Bool) (ia:Nat→Bool):Nat→Nat
 |0=>0
 |n+1=>if S n=true∧ia n=true then n+1 else kL S ia n
theorem La (S ia:Nat→Bool):∀ n,kL S ia n≤n
 |0=>Nat.le_refl 0
 |n+1=>by
  simp only [kL]
  split
  ·exact Nat.le_refl _
  ·exact Nat.le_succ_of_le (La S ia n)
theorem yy (S ia:Nat→Bool):∀ n k,k<n→S k=true→ia k=true→k+1≤kL S ia n
 |0,k,h,_,_=>by omega
 |n+1,k,h,hs,ht=>by
  simp only [kL]
  split
  ·omega
  ·rename_i hn
   rcases Nat.lt_or_ge k n with h1 |h1
   ·exact yy S ia n k h1 hs ht
   ·have:k=n:=by omega
    subst this
    exact (hn ⟨hs,ht⟩).elim
theorem AT (S ia:Nat→Bool):∀ n,kL S ia n=0∨∃ k,k<n∧kL S ia n=k+1∧S k=true∧ia k=true
 |0=>.inl rfl
 |n+1=>by
  simp only [kL]
  split
  ·rename_i h;exact .inr ⟨n,by omega,rfl,h.1,h.2⟩
  ·rcases AT S ia n with h |⟨k,h1,h2⟩
   ·exact .inl h
   ·exact .inr ⟨k,by omega,h2⟩
theorem Ry {S ia:Nat→Bool} {n m:Nat} (h:m=0∨∃ k,k<n∧m=k+1∧S k=true∧ia k=true) (hk:∀ k,k<n→S k=true→ia k=true→k+1≤m):kL S ia n=m:=by
 have h1:kL S ia n≤m:=by
  rcases AT S ia n with h0 |⟨k,rI,hk2,zK,BY⟩
  ·omega
  ·rw [hk2];exact hk k rI zK BY
 have h2:m≤kL S ia n:=by
  rcases h with h0 |⟨k,rI,hk2,zK,BY⟩
  ·omega
  ·rw [hk2];exact yy S ia n k rI zK BY
 omega
theorem RA {S S' ia:Nat→Bool} {n j:Nat} (hS:∀ k,k<n→(S' k=true↔(S k=true∨k=j))) (hj:ia j=false):kL S' ia n=kL S ia n:=by
 refine Ry ?_ fun k hk h1 h2=>?_
 ·rcases AT S ia n with h0 |⟨k,rI,hk2,zK,BY⟩
  ·exact .inl h0
  ·exact .inr ⟨k,rI,hk2,(hS k rI).2 (.inl zK),BY⟩
 ·rcases (hS k hk).1 h1 with h3 |h3
  ·exact yy S ia n k hk h3 h2
  ·subst h3;rw [hj] at h2;cases h2
theorem Rz {S S' ia:Nat→Bool} {n j:Nat} (hS:∀ k,k<n→(S' k=true↔(S k=true∨k=j))) (hjn:j<n) (hj:ia j=true) (hk:∀ k,j<k→k<n→S k=true→ia k=false):kL S' ia n=j+1:=by
 refine Ry (.inr ⟨j,hjn,rfl,(hS j hjn).2 (.inr rfl),hj⟩) fun k hkn h1 h2=>?_
 rcases Nat.lt_or_ge j k with h3 |h3
 ·rcases (hS k hkn).1 h1 with h4 |h4
  ·rw [hk k h3 hkn h4] at h2;cases h2
  ·omega
 ·omega
structure qA (E:Env) (base:Nat) (C:Nat→Option dL) (φ:bC) (w:World):Prop where
 bs:base≤w.heap.size
 blocks:∀ i l o,φ i=some l→C i=some o→mB E base φ w l o
 lt:∀ i l,φ i=some l→live (C i)=true→l.dG<w.heap.size
 inj:∀ i j l m,i≠j→φ i=some l→φ j=some m→gf (C i)=true→live (C j)=true→l.dG≠m.dG
 iO:∀ g,g<E.d4→∃ l,φ g=some l∧l.dG=g∧l.off=0
theorem cW.live {H:Z} (wf:cW H) {i:Nat} (h:live (H.get i)=true):i<H.n:=by
 cases hg:H.get i with
 |none=>rw [hg] at h;cases h
 |some o=>exact wf.lt hg
theorem qA.of {E:Env} {base:Nat} {H:Z} {φ:bC} {w:World} (wf:cW H) (h:Rel E base H φ w):qA E base H.get φ w:=
 ⟨h.bs,fun i l o hl ho=>h.blocks i l o (wf.lt ho) hl ho,fun i l hl hv=>h.lt i l (wf.live hv) hl hv,
  fun i j l m hij hl hm hi hj=>h.inj i j l m (wf.live (rX hi)) (wf.live hj) hij hl hm hi hj,h.iO⟩
theorem qA.rel {E:Env} {base:Nat} {H:Z} {C:Nat→Option dL} {φ:bC} {w:World} (h:qA E base C φ w) (hc:∀ i,i<H.n→φ i≠none→C i=H.get i):Rel E base H φ w:=
 ⟨h.bs,fun i l o hi hl ho=>h.blocks i l o hl (by rw [hc i hi (by rw [hl];simp)];exact ho),fun i l hi hl hv=>h.lt i l hl (by rw [hc i hi (by rw [hl];simp)];exact hv),
  fun i j l m hi hj hij hl hm hw hv=>h.inj i j l m hij hl hm (by rw [hc i hi (by rw [hl];simp)];exact hw) (by rw [hc j hj (by rw [hm];simp)];exact hv),h.iO⟩
theorem qA.pre {E:Env} {base:Nat} {H:Z} {C:Nat→Option dL} {φ:bC} {w:World} {R:List Nat} (wf:cW H) (h:qA E base C φ w) (hc:∀ i,i∈R→i<H.n→φ i≠none→C i=H.get i):Pre E base φ w H R:=
 ⟨h.bs,fun i hi l o hl ho=>h.blocks i l o hl (by rw [hc i hi (wf.lt ho) (by rw [hl];simp)];exact ho),
  fun i hi l hl hv=>h.lt i l hl (by rw [hc i hi (wf.live hv) (by rw [hl];simp)];exact hv),h.iO⟩
theorem qA.step {E:Env} {base:Nat} {H H':Z} {C yY:Nat→Option dL} {φ be:bC} {w w':World} {W:List Nat} (cE:E.d4≤H.n) (h:qA E base C φ w) (k:gr E base φ w H H' W be w') (hn:H.n≤H'.n)
  (hf:gw φ H.n H'.n) (hW:∀ i,i∈W→φ i≠none→C i=H.get i) (h1:∀ i,(i∈W∨(H.n≤i∧i<H'.n))→yY i=H'.get i) (h2:∀ i,i∉W→¬ (H.n≤i∧i<H'.n)→yY i=C i)
  (ur:∀ i,i∈W→gf (H'.get i)=true→gf (H.get i)=true) (hlv:∀ i,i∈W→live (H'.get i)=true→live (H.get i)=true):qA E base yY be w':=by
 have hsub:∀ i l,φ i=some l→be i=some l:=by
  intro i l hi
  by_cases h1:i<H.n
  ·rw [k.ext i (.inl h1)];exact hi
  ·by_cases h2:H'.n≤i
   ·rw [k.ext i (.inr h2)];exact hi
   ·rw [hf i J J] at hi;cases hi
 have BS:∀ i,¬ (H.n≤i∧i<H'.n)→be i=φ i:=fun i hi=>k.ext i J
 have Xj:∀ i,i∈W→i<H.n:=fun i hi=>(k.wr i hi).1
 have acb:∀ i,¬ (H.n≤i∧i<H'.n)→φ i≠none→gf (yY i)=true→gf (C i)=true:=by
  intro i hi hm hl
  by_cases hw:i∈W
  ·rw [h1 i (.inl hw)] at hl
   rw [hW i hw hm]
   exact ur i hw hl
  ·rw [h2 i hw hi] at hl;exact hl
 have J9:∀ i,¬ (H.n≤i∧i<H'.n)→φ i≠none→live (yY i)=true→live (C i)=true:=by
  intro i hi hm hl
  by_cases hw:i∈W
  ·rw [h1 i (.inl hw)] at hl
   rw [hW i hw hm]
   exact hlv i hw hl
  ·rw [h2 i hw hi] at hl;exact hl
 refine ⟨Nat.le_trans h.bs k.step.size,fun i l o hl ho=>?_,fun i l hl hv=>?_,fun i j l m hij hl hm hw hv=>?_,fun g hg=>?_⟩
 ·by_cases hc:i∈W∨(H.n≤i∧i<H'.n)
  ·rw [h1 i hc] at ho
   exact k.blocks i l o (hc.imp id (·.1)) (hc.elim (fun h=>Nat.lt_of_lt_of_le (Xj i h) hn) (·.2)) hl ho
  ·have xz:i∉W:=fun h=>hc (.inl h)
   have vS:¬ (H.n≤i∧i<H'.n):=fun h=>hc (.inr h)
   rw [BS i vS] at hl
   rw [h2 i xz vS] at ho
   by_cases zL:live (C i)=true
   ·have hb:=h.blocks i l o hl ho
    refine (hb.mono hsub).same (k.step.keep l.dG (h.lt i l hl zL) fun j hj m hm he=>?_)
    obtain ⟨hjn,EN⟩:=k.wr j hj
    rw [← hW j hj (by rw [hm];simp)] at EN
    exact h.inj j i m l (fun e=>xz (e▸hj)) hm hl EN zL he
   ·rw [ho] at zL
    unfold Am.live at zL
    split at zL
    ·rename_i heq;injection heq with heq;subst heq;intro j x hx;simp at hx
    ·rename_i heq;injection heq with heq;subst heq;trivial
    ·simp at zL
    ·rename_i heq;cases heq
 ·by_cases hc:H.n≤i∧i<H'.n
  ·rw [h1 i (.inr hc)] at hv
   exact k.lt i l hc.1 hc.2 hl hv
  ·rw [BS i hc] at hl
   exact Nat.lt_of_lt_of_le (h.lt i l hl (J9 i hc (by rw [hl];simp) hv)) k.step.size
 ·by_cases hi:H.n≤i∧i<H'.n
  ·by_cases hj:H.n≤j∧j<H'.n
   ·rw [h1 i (.inr hi)] at hw
    rw [h1 j (.inr hj)] at hv
    exact k.inj i j l m hi.1 hi.2 hj.1 hj.2 hij hl hm hw hv
   ·rw [BS j hj] at hm
    have xN:=J9 j hj (by rw [hm];simp) hv
    rcases k.fresh i l hi.1 hi.2 hl with hb |⟨q,hq,x9,B6,ut,Il,uy,rG⟩
    ·have:=h.lt j m hm xN;omega
    ·have hne:q≠j:=fun e=>by
      subst e
      rw [h1 q (.inl hq)] at hv
      rw [hv] at rG;cases rG
     rw [← hW q hq (by rw [ut];simp)] at uy
     have:=h.inj q j x9 m hne ut hm uy xN
     omega
  ·rw [BS i hi] at hl
   have hw0:=acb i hi (by rw [hl];simp) hw
   by_cases hj:H.n≤j∧j<H'.n
   ·rcases k.fresh j m hj.1 hj.2 hm with hb |⟨q,hq,x9,B6,ut,Il,uy,rG⟩
    ·have:=h.lt i l hl (rX hw0);omega
    ·have hne:q≠i:=fun e=>by
      subst e
      rw [h1 q (.inl hq)] at hw
      rw [rX hw] at rG;cases rG
     rw [← hW q hq (by rw [ut];simp)] at uy
     have:=h.inj q i x9 l hne ut hl uy (rX hw0)
     omega
   ·rw [BS j hj] at hm
    exact h.inj i j l m hij hl hm hw0 (J9 j hj (by rw [hm];simp) hv)
 ·obtain ⟨l,e1,e2⟩:=h.iO g hg
  exact ⟨l,hsub g l e1,e2⟩
theorem Out.WV {E:Env} {base:Nat} {φ be:bC} {w w':World} {H H':Z} {W:List Nat} (hn:H.n≤H'.n) (hf:gw φ H.n H'.n) (h:Out E base φ w H H' W be w') (hw:cK H H' W=true) :
  gr E base φ w H H' (W.filter (Nat.blt · H.n)) be w':=by
 have hw':∀ q,q∈W→if q<H.n then gf (H.get q)=true else q<H'.n:=by
  intro q hq
  unfold cK at hw
  rw [List.all_eq_true] at hw
  have:=hw q hq
  split
  ·rename_i h1;rw [JO h1] at this;exact this
  ·rename_i h1;rw [abN h1] at this;simpa [Nat.blt_eq] using this
 have mem:∀ q,q∈W.filter (Nat.blt · H.n)↔q∈W∧q<H.n:=fun q=>by simp [List.mem_filter,Nat.blt_eq]
 refine ⟨fun j hj=>?_,h.ext,⟨h.step.os,h.step.tape,h.step.output,h.step.size,fun B hB hk=>h.step.keep B hB fun j hj l hl=>?_⟩,fun i l h1 h2 h3=>?_,fun i l o h1 h2 h3 h4=>h.rel.blocks i l o h2 h3 h4,fun i l h1 h2 h3 h4=>h.rel.lt i l h2 h3 h4,fun i j l m h1 h2 h3 h4 h5 h6 h7 h8 h9=>h.rel.inj i j l m h2 h4 h5 h6 h7 h8 h9⟩
 ·obtain ⟨h1,h2⟩:=(mem j).1 hj
  have:=hw' j h1
  rw [if_pos h2] at this
  exact ⟨h2,this⟩
 ·by_cases h1:j<H.n
  ·exact hk j ((mem j).2 ⟨hj,h1⟩) l hl
  ·have:=hw' j hj
   rw [if_neg h1] at this
   rw [hf j J this] at hl;cases hl
 ·rcases h.fresh i l h1 h2 h3 with hb |⟨j,hj,m,hjn,hr⟩
  ·exact .inl hb
  ·exact .inr ⟨j,(mem j).2 ⟨hj,hjn⟩,m,hjn,hr⟩
def sN (acc:Array Nat) (o:Oper):Nat:=o.after.foldl (fun s e=>if Region.binds .any e then s |||2 ^ e.on |||acc.getD e.on 0 else s) 0
theorem S7 (acc:Array Nat) (o:Oper) (i:Nat) (h:(sN acc o).testBit i=true):∃ e∈o.after,Region.binds .any e=true∧(i=e.on∨(acc.getD e.on 0).testBit i=true):=by
 unfold sN at h
 rw [← Array.foldl_toList] at h
 have key:∀(l:List Edge) (s:Nat),(l.foldl (fun s e=>if Region.binds .any e then s |||2 ^ e.on |||acc.getD e.on 0 else s) s).testBit i=true→s.testBit i=true∨∃ e∈l,Region.binds .any e=true∧(i=e.on∨(acc.getD e.on 0).testBit i=true):=by
  intro l
  induction l with
  |nil=>intro s h;exact .inl h
  |cons e l ih=>
   intro s h
   rw [List.foldl_cons] at h
   rcases ih _ h with h1 |⟨e',h1,h2⟩
   ·split at h1
    ·rename_i hb
     rw [Nat.testBit_or,Nat.testBit_or,Bool.or_eq_true,Bool.or_eq_true] at h1
     rcases h1 with (h1 |h1) |h1
     ·exact .inl h1
     ·exact .inr ⟨e,by simp,hb,.inl (by rw [Nat.testBit_two_pow] at h1;exact (of_decide_eq_true h1).symm)⟩
     ·exact .inr ⟨e,by simp,hb,.inr h1⟩
    ·exact .inl h1
   ·exact .inr ⟨e',List.mem_cons_of_mem _ h1,h2⟩
 rcases key _ _ h with h1 |⟨e,h1,h2⟩
 ·simp at h1
 ·exact ⟨e,by simpa using h1,h2⟩
theorem S8 (ops:Array Oper):(Region.before ops).size=ops.size∧∀(j:Nat) (o:Oper),ops[j]?=some o→∀ i,((Region.before ops).getD j 0).testBit i=true→∃ e∈o.after,Region.binds .any e=true∧(i=e.on∨(e.on<j∧((Region.before ops).getD e.on 0).testBit i=true)):=by
 have hb:Region.before ops=ops.toList.foldl (fun acc o=>acc.push (sN acc o)) #[]:=by
  unfold Region.before
  rw [← Array.foldl_toList]
  rfl
 rw [hb]
 have key:∀(l pre:List Oper) (acc:Array Nat),acc.size=pre.length→(∀(j:Nat) (o:Oper),pre[j]?=some o→∀ i,(acc.getD j 0).testBit i=true→∃ e∈o.after,Region.binds .any e=true∧(i=e.on∨(e.on<j∧(acc.getD e.on 0).testBit i=true)))→
   (l.foldl (fun acc o=>acc.push (sN acc o)) acc).size=(pre++l).length∧∀(j:Nat) (o:Oper),(pre++l)[j]?=some o→∀ i,((l.foldl (fun acc o=>acc.push (sN acc o)) acc).getD j 0).testBit i=true→∃ e∈o.after,Region.binds .any e=true∧(i=e.on∨(e.on<j∧((l.foldl (fun acc o=>acc.push (sN acc o)) acc).getD e.on 0).testBit i=true)):=by
  intro l
  induction l with
  |nil=>intro pre acc hs hp;simpa [hs] using hp
  |cons o l ih=>
   intro pre acc hs hp
   have:=ih (pre++[o]) (acc.push (sN acc o)) (by simp [hs]) (fun j p hj i hi=>?_)
   ·simpa [List.append_assoc] using this
   ·have lower:∀ k,k<acc.size→(acc.push (sN acc o)).getD k 0=acc.getD k 0:=fun k hk=>by
     rw [Array.getD_eq_getD_getElem?,Array.getD_eq_getD_getElem?,Array.getElem?_push,if_neg J]
    rcases Nat.lt_or_ge j pre.length with h1 |h1
    ·rw [List.getElem?_append_left h1] at hj
     rw [lower j J] at hi
     obtain ⟨e,h2,h3,h4⟩:=hp j p hj i hi
     refine ⟨e,h2,h3,h4.imp id fun h4=>⟨h4.1,?_⟩⟩
     rw [lower _ J];exact h4.2
    ·have hj0:j=pre.length:=by
      have:=(List.getElem?_eq_some_iff.1 hj).1
      simp at this;omega
     subst hj0
     rw [List.getElem?_append_right (Nat.le_refl _)] at hj
     simp at hj
     subst hj
     have e1:(acc.push (sN acc o)).getD pre.length 0=sN acc o:=by
      rw [← hs,Array.getD_eq_getD_getElem?];simp
     rw [e1] at hi
     obtain ⟨e,h2,h3,h4⟩:=S7 acc o i hi
     refine ⟨e,h2,h3,h4.imp id fun h4=>?_⟩
     have hlt:e.on<acc.size:=by
      rcases Nat.lt_or_ge e.on acc.size with h5 |h5
      ·exact h5
      ·rw [Array.getD_eq_getD_getElem?,Array.getElem?_eq_none h5] at h4;simp at h4
     exact ⟨by omega,by rw [lower _ hlt];exact h4⟩
 have:=key ops.toList [] #[] rfl (fun j o h=>by simp at h)
 simpa using this
def LY (ops:Array Oper) (S:Nat→Bool):Prop:=∀(j:Nat) (o:Oper),ops[j]?=some o→S j=true→∀ e∈o.after,Region.binds .any e=true→S e.on=true
theorem Hz {ops:Array Oper} {S:Nat→Bool} (hc:LY ops S):∀(n j:Nat) (o:Oper),j<n→ops[j]?=some o→(∀ e∈o.after,Region.binds .any e=true→S e.on=true)→∀ i,((Region.before ops).getD j 0).testBit i=true→S i=true
 |0,j,o,h,_,_,_,_=>by omega
 |n+1,j,o,hn,ho,he,i,hi=>by
  obtain ⟨e,h1,h2,h3⟩:=(S8 ops).2 j o ho i hi
  rcases h3 with rfl |⟨h3,h4⟩
  ·exact he e h1 h2
  ·have hs:S e.on=true:=he e h1 h2
   have hj:=(Array.getElem?_eq_some_iff.1 ho).1
   have hlt:e.on<ops.size:=by omega
   exact Hz hc n e.on ops[e.on] J (by simp [hlt]) (fun e' h5 h6=>hc e.on _ (by simp [hlt]) hs e' h5 h6) i h4
def ra (n:Nat) (listed:Array Bool):Nat:=(List.range n).countP fun i=>!listed.getD i true
theorem countP_le {p q:Nat→Bool}:∀(l:List Nat),(∀ x∈l,q x=true→p x=true)→l.countP q≤l.countP p
 |[],_=>Nat.le_refl _
 |x::l,h=>by
  have ih:=countP_le l (fun y hy=>h y (List.mem_cons_of_mem _ hy))
  rw [List.countP_cons,List.countP_cons]
  have:=h x (by simp)
  split <;> split <;> first
   |omega
   |(rename_i h1 h2;exact (h2 (this h1)).elim)
theorem M8 {p q:Nat→Bool} {y:Nat} (hp:p y=true) (hq:q y=false):∀(l:List Nat),(∀ x∈l,q x=true→p x=true)→y∈l→l.countP q<l.countP p
 |[],_,h=>by cases h
 |x::l,h,hy=>by
  have hx:=h x (by simp)
  have hl:=fun y hy=>h y (List.mem_cons_of_mem _ hy)
  rw [List.countP_cons,List.countP_cons]
  rcases List.mem_cons.1 hy with e |hy
  ·subst e
   have:=countP_le l hl
   rw [hp,hq];simp;omega
  ·have:=M8 hp hq l hl hy
   split <;> split <;> first
    |omega
    |(rename_i h1 h2;exact (h2 (hx h1)).elim)
theorem mem_ready {md:Region.Mode} {ops:Array Oper} {listed:Array Bool} {i:Nat}:i∈Region.ready md ops listed↔∃ o,ops[i]?=some o∧listed.getD i true=false∧∀ e∈o.after,Region.binds md e=true→listed.getD e.on false=true:=by
 unfold Region.ready
 rw [List.mem_filter,List.mem_range]
 constructor
 ·intro ⟨h1,h2⟩
  refine ⟨ops[i],by simp [h1],?_⟩
  rw [dZ] at h2
  refine ⟨by simpa using h2.1,fun e he hb=>?_⟩
  have h3:=h2.2
  simp only [Array.getElem?_eq_getElem h1,Option.map_some,Option.getD_some,Array.all_eq_true_iff_forall_mem] at h3
  have:=h3 e he
  rw [hb] at this
  simpa using this
 ·intro ⟨o,h1,h2,h3⟩
  have hi:=(Array.getElem?_eq_some_iff.1 h1).1
  refine ⟨hi,?_⟩
  rw [h2,h1]
  simp only [Bool.not_false,Option.map_some,Option.getD_some,Bool.true_and,Array.all_eq_true_iff_forall_mem]
  intro e he
  cases hb:Region.binds md e with
  |false=>simp
  |true=>simpa using h3 e he hb
def nN (md:Region.Mode) (ops:Array Oper):Prop:=∀ listed:Array Bool,listed.size=ops.size→(∃ j,j<ops.size∧listed.getD j true=false)→Region.ready md ops listed≠[]
theorem ac1 {ops:Array Oper} (h:HJ ops=true):nN .any ops:=by
 intro listed hl ⟨j,hj,hjl⟩ hr
 have key:∀ n j,j<n→j<ops.size→listed.getD j true=true:=by
  intro n
  induction n with
  |zero=>intro j h;omega
  |succ n ih=>
   intro j hjn hj
   cases hb:listed.getD j true with
   |true=>rfl
   |false=>
    exfalso
    have:j∈Region.ready .any ops listed:=mem_ready.2 ⟨ops[j],by simp [hj],hb,fun e he hbd=>by
     unfold HJ at h
     rw [Array.all_eq_true_iff_forall_mem] at h
     have h1:=h (ops[j],j) (by rw [Array.mem_zipIdx_iff_getElem?];simp [hj])
     simp only [Array.all_eq_true_iff_forall_mem] at h1
     have h2:=h1 e he
     rw [hbd] at h2
     simp [Nat.blt_eq] at h2
     have h3:=ih e.on J J
     have h4:e.on<listed.size:=by omega
     simpa [Array.getD_eq_getD_getElem?,h4] using h3⟩
    rw [hr] at this;cases this
 rw [key (j+1) j J hj] at hjl
 cases hjl
theorem vN {listed:Array Bool} {i:Nat} (h:i<listed.size) (a b:Bool):listed.getD i a=listed.getD i b:=by
 simp [Array.getD_eq_getD_getElem?,h]
theorem Lm {n:Nat} {listed:Array Bool} (h:ra n listed=0) (i:Nat) (hi:i<n):listed.getD i true=true:=by
 unfold ra at h
 rw [List.countP_eq_zero] at h
 have:=h i (List.mem_range.2 hi)
 simpa using this
theorem xr {listed:Array Bool} {i j:Nat} (hi:i<listed.size) (d:Bool):(listed.setIfInBounds i true).getD j d=if i=j then true else listed.getD j d:=by
 rw [Array.getD_eq_getD_getElem?,Array.getD_eq_getD_getElem?]
 by_cases e:i=j
 ·subst e;rw [Array.getElem?_setIfInBounds_self_of_lt hi];simp
 ·rw [Array.getElem?_setIfInBounds_ne e,if_neg e]
theorem Ll {n:Nat} {listed:Array Bool} {i:Nat} (hn:listed.size=n) (hi:i<n) (h:listed.getD i true=false):ra n (listed.setIfInBounds i true)<ra n listed:=by
 unfold ra
 refine M8 (y:=i) (by rw [h];rfl) (by rw [xr J,if_pos rfl];rfl) _ (fun x hx hq=>?_) (List.mem_range.2 hi)
 rw [xr J] at hq
 split at hq
 ·cases hq
 ·exact hq
theorem Qv {md:Region.Mode} {ops:Array Oper}:∀(fuel t:Nat) (listed:Array Bool),(Region.linearise.go md ops fuel t listed []).length=fuel→listed.size=ops.size→ra ops.size listed≤fuel→
  ∀ uP:Array Bool,uP.size=ops.size→(∀ i,i<ops.size→listed.getD i true=true→uP.getD i true=true)→(∃ j,j<ops.size∧uP.getD j true=false)→Region.ready md ops uP≠[]
 |0,t,listed,hlen,hs,hu,uP,hs',hsub,⟨j,hj,hjl⟩=>by
  rw [hsub j hj (Lm J j hj)] at hjl;cases hjl
 |fuel+1,t,listed,hlen,hs,hu,uP,hs',hsub,hex=>by
  simp only [Region.linearise.go] at hlen
  change (match (Region.ready md ops listed)[t%(Region.ready md ops listed).length]? with
   |some i=>Region.linearise.go md ops fuel (t / (Region.ready md ops listed).length) (listed.setIfInBounds i true) [i]
   |none=>[].reverse).length=fuel+1 at hlen
  split at hlen
  ·rename_i i hi
   rw [linearise_go_acc] at hlen
   simp only [List.reverse_singleton,List.length_append,List.length_singleton] at hlen
   have hm:=List.mem_of_getElem? hi
   obtain ⟨o,h1,h2,h3⟩:=mem_ready.1 hm
   have hin:=(Array.getElem?_eq_some_iff.1 h1).1
   have Ys:=Ll hs hin h2
   cases hl:uP.getD i true with
   |true=>
    refine Qv fuel (t / (Region.ready md ops listed).length) (listed.setIfInBounds i true) J (by simpa using hs) J uP hs' (fun k hk Ix=>?_) hex
    rw [xr J] at Ix
    split at Ix
    ·rename_i e;subst e;exact hl
    ·exact hsub k hk Ix
   |false=>
    intro hr
    have:i∈Region.ready md ops uP:=mem_ready.2 ⟨o,h1,hl,fun e he hb=>by
     have h4:=h3 e he hb
     have h5:e.on<listed.size:=by
      rcases Nat.lt_or_ge e.on listed.size with h6 |h6
      ·exact h6
      ·rw [Array.getD_eq_getD_getElem?,Array.getElem?_eq_none h6] at h4;cases h4
     rw [vN J false true]
     exact hsub _ J (by rw [vN h5 true false];exact h4)⟩
    rw [hr] at this;cases this
  ·simp at hlen
theorem kV {md:Region.Mode} {ops:Array Oper} (h:(Region.linearise md ops 0).length=ops.size):nN md ops:=by
 intro listed hs hex
 refine Qv ops.size 0 (Array.replicate ops.size false) h (by simp) ?_ listed hs (fun i hi h=>?_) hex
 ·unfold ra
  have:=List.countP_le_length (p:=fun i=>!(Array.replicate ops.size false).getD i true) (l:=List.range ops.size)
  simpa using this
 ·simp [Array.getD_eq_getD_getElem?,hi] at h
theorem Mx {md:Region.Mode} {e:Edge} (h:Region.binds .any e=true):Region.binds md e=true:=by
 unfold Region.binds at *
 cases hg:e.ground <;> rw [hg] at h <;> first
  |rfl
  |(simp at h;done)
theorem KH (T:cg):∀(ts:List Tmp) (a:cg) (t:Nat) (v:Value),(oR T ts a).get t=some v→a.get t=some v∨(t∈ts∧T.get t=some v)
 |[],a,t,v,h=>.inl h
 |x::ts,a,t,v,h=>by
  simp only [oR] at h
  split at h
  ·rename_i u hu
   rcases KH T ts _ t v h with h1 |h1
   ·rw [de.kP] at h1
    split at h1
    ·rename_i e;subst e;injection h1 with h1;subst h1;exact .inr ⟨by simp,hu⟩
    ·exact .inl h1
   ·exact .inr ⟨List.mem_cons_of_mem _ h1.1,h1.2⟩
  ·rcases KH T ts _ t v h with h1 |h1
   ·exact .inl h1
   ·exact .inr ⟨List.mem_cons_of_mem _ h1.1,h1.2⟩
theorem ad2 {T:cg} {ts:List Tmp} {t:Nat} {v:Value} (h:(oR T ts .nil).get t=some v):t∈ts∧T.get t=some v:=by
 rcases KH T ts .nil t v h with h1 |h1
 ·simp [de.get] at h1
 ·exact h1
def xU:Op→Bool
 |.defer _=>true
 |_=>false
inductive pZ (E:Env) (call:Call) (aA:Nat) (ops:Array Oper) (d:List (Value×List Value)) (o:Oper) (T c9:cg) (H H':Z):List Nat→iX→Prop
 |skip:vi ops (oR T (mS ops o) .nil) o=some false→mo T aA o.dst dw=some c9→H'=H→pZ E call aA ops d o T c9 H H' [] ⟨o.dst,mS ops o,[],some [],H.n,H.n⟩
 |go (v:Value) (W:List Nat) (r:Option (List Nat)):vi ops (oR T (mS ops o) .nil) o=some true→gJ E call o (oR T (mS ops o) .nil) H d=some (.val v H' d W r)→mo T aA o.dst v=some c9→
   cK H H' W=true→pZ E call aA ops d o T c9 H H' W ⟨o.dst,mS ops o,W.filter (Nat.blt · H.n),r,H.n,H'.n⟩
section
variable {E:Env} {call:Call}
theorem Ka {o:Oper} {T:cg} {H H':Z} {d d':List (Value×List Value)} {v:Value} {W:List Nat} {r:Option (List Nat)} (hnd:xU o.op=false) (h:gJ E call o T H d=some (.val v H' d' W r)) :
  d'=d∧∀ R,r=some R→simple E o T H=some (v,H',W,R):=by
 unfold gJ at h
 split at h
 ·split at h
  ·rename_i h1
   injection h with h
   injection h with a1 a2 a3 a4 a5
   subst a1;subst a2;subst a3;subst a4;subst a5
   exact ⟨rfl,fun R hR=>by injection hR with hR;subst hR;exact h1⟩
  ·cases h
 ·split at h
  ·split at h
   ·injection h with h
    injection h with a1 a2 a3 a4 a5
    exact ⟨a3.symm,fun R hR=>by rw [← a5] at hR;cases hR⟩
   ·injection h with h;cases h
   ·cases h
  ·cases h
 ·rename_i he;rw [he] at hnd;cases hnd
 ·split at h
  ·injection h with h;cases h
  ·cases h
 ·split at h
  ·rename_i h1
   injection h with h
   injection h with a1 a2 a3 a4 a5
   subst a1;subst a2;subst a3;subst a4;subst a5
   exact ⟨rfl,fun R hR=>by injection hR with hR;subst hR;exact h1⟩
  ·cases h
theorem P8 {aA:Nat} {ops:Array Oper}:∀(rest:List Oper) (s s':gW) (zD fs:List iX),yi E call aA ops rest s zD=some (s',fs)→(∀ o∈rest,xU o.op=false)→
  ∃(hs:Nat→Z) (ts:Nat→cg) (kA:Nat→List Nat) (ft:Nat→iX) (W:List Nat),hs 0=s.h∧ts 0=s.t∧hs rest.length=s'.h∧ts rest.length=s'.t∧s'.d=s.d∧s'.w=s.w++W∧
   (∀ j,j<rest.length→∀ q,q∈kA j→q∈W)∧fs=zD.reverse++(List.range rest.length).map ft∧
   ∀(j:Nat) (o:Oper),rest[j]?=some o→pZ E call aA ops s.d o (ts j) (ts (j+1)) (hs j) (hs (j+1)) (kA j) (ft j)
 |[],s,s',zD,fs,h,hd=>by
  simp only [yi,bH,b8] at h
  obtain ⟨rfl,rfl⟩:=h
  exact ⟨fun _=>s.h,fun _=>s.t,fun _=>[],fun _=>⟨none,[],[],none,0,0⟩,[],rfl,rfl,rfl,rfl,rfl,by simp,fun j hj=>by simp at hj,by simp,fun j o h=>by simp at h⟩
 |o::rest,s,s',zD,fs,h,hd=>by
  simp only [yi] at h
  have glue:∀(v:Value) (H1:Z) (gG:cg) (hU:List Nat) (f:iX),pZ E call aA ops s.d o s.t gG s.h H1 hU f→yi E call aA ops rest ⟨gG,H1,s.d,s.w++hU⟩ (f::zD)=some (s',fs)→
    ∃(hs:Nat→Z) (ts:Nat→cg) (kA:Nat→List Nat) (ft:Nat→iX) (W:List Nat),hs 0=s.h∧ts 0=s.t∧hs (o::rest).length=s'.h∧ts (o::rest).length=s'.t∧s'.d=s.d∧s'.w=s.w++W∧
     (∀ j,j<(o::rest).length→∀ q,q∈kA j→q∈W)∧fs=zD.reverse++(List.range (o::rest).length).map ft∧
     ∀(j:Nat) (o':Oper),(o::rest)[j]?=some o'→pZ E call aA ops s.d o' (ts j) (ts (j+1)) (hs j) (hs (j+1)) (kA j) (ft j):=by
   intro v H1 gG hU f hstep mc
   obtain ⟨hs,ts,kA,ft,W,a1,a2,a3,a4,a5,a6,a7,a8,a9⟩:=P8 rest _ s' _ fs mc (fun o' ho'=>hd o' (List.mem_cons_of_mem _ ho'))
   refine ⟨fun |0=>s.h |j+1=>hs j,fun |0=>s.t |j+1=>ts j,fun |0=>hU |j+1=>kA j,fun |0=>f |j+1=>ft j,hU++W,rfl,rfl,a3,a4,a5,?_,?_,?_,?_⟩
   ·rw [a6];simp
   ·intro j hj q hq
    cases j with
    |zero=>exact List.mem_append_left _ hq
    |succ j=>exact List.mem_append_right _ (a7 j (by simpa using hj) q hq)
   ·rw [a8,dX,List.range_succ_eq_map,List.map_cons,List.map_map]
    simp [Function.comp_def]
   ·intro j o' ho'
    cases j with
    |zero=>
     simp at ho'
     subst ho'
     show pZ E call aA ops s.d o s.t (ts 0) s.h (hs 0) hU f
     rw [a1,a2];exact hstep
    |succ j=>exact a9 j o' (by simpa using ho')
  split at h
  ·rename_i hw
   split at h
   ·rename_i v H1 d1 hU r1 hop
    split at h
    ·rename_i gG oC zR
     obtain ⟨dT,_⟩:=Ka (hd o (by simp)) hop
     subst dT
     exact glue v H1 gG hU _ (.go v hU r1 hw hop oC zR) h
    ·cases h
   ·cases h
  ·rename_i hw
   split at h
   ·rename_i gG oC
    exact glue dw s.h gG [] _ (.skip hw oC rfl) (by simpa using h)
   ·cases h
  ·cases h
def GY (H:Z) (f:iX) (φ:bC) (C:Nat→Option dL):Prop:=∀ i,i<H.n→φ i≠none→(match f.r with |some R=>i∈R∨i∈f.w |none=>True)→C i=H.get i
theorem Gx (ok:E.fy) (hc:nf E call) {aA:Nat} {ops:Array Oper} {d:List (Value×List Value)} {o:Oper} {T c9:cg} {H H':Z} {W:List Nat} {f:iX} (hnd:xU o.op=false)
  (h:pZ E call aA ops d o T c9 H H' W f) (wf:cW H) (cE:E.d4≤H.n) :
  dn f.w H H'∧cW H'∧f.lo=H.n∧f.hi=H'.n∧f.dst=o.dst∧f.looks=mS ops o∧(∀ q∈f.w,q∈W∧q<H.n∧gf (H.get q)=true)∧∃ v,mo T aA o.dst v=some c9∧
   ∀(base:Nat) (φ:bC) (w:World) (a:Act) (C:Nat→Option dL) (i:Nat) (K:Act→World→Prop) (Q:Exit→Act→World→Prop),ops[i]?=some o→qA E base C φ w→GY H f φ C→gw φ H.n H'.n→
    ii φ (oR T (mS ops o) .nil) a.tmps aA→j7 φ d a.defers→
    (∀(be:bC) (w':World) (u:Value) (a':Act),gr E base φ w H H' f.w be w'→bn be v u→a'.tmps=a.tmps→j7 be d a'.defers→K (a'.put o.dst u) w')→wpOp E.P ops Q i K a w:=by
 cases h with
 |skip hw hT he=>
  subst he
  refine ⟨dn.refl ..,wf,rfl,rfl,rfl,rfl,fun q hq=>by simp at hq,dw,hT,fun base φ w a C i K Q hi dr hag hf ht hd hK=>?_⟩
  unfold wpOp
  simp only [hi]
  rw [if_neg (by rw [yJ ht hw];simp)]
  exact hK φ w undef a (gr.same rfl rfl rfl rfl) (.tuple' ⟨rfl,fun i x y hx=>by simp at hx⟩) rfl hd
 |go v _ r hw hop hT zR=>
  obtain ⟨_,Yl⟩:=Ka hnd hop
  have YA:∀ q∈W.filter (Nat.blt · H.n),q∈W∧q<H.n∧gf (H.get q)=true:=by
   intro q hq
   have vW:q∈W∧q<H.n:=by simpa [List.mem_filter,Nat.blt_eq] using hq
   unfold cK at zR
   rw [List.all_eq_true] at zR
   have:=zR q vW.1
   rw [JO vW.2] at this
   exact ⟨vW.1,vW.2,this⟩
  obtain ⟨g1,g2,g3⟩:DN E o (oR T (mS ops o) .nil) H d v H' d W:=FS ok hc wf cE hop
  have W1:dn (W.filter (Nat.blt · H.n)) H H':=⟨g1.n,fun i hi hn=>g1.keep i hi fun hm=>hn (by simp [List.mem_filter,Nat.blt_eq,hm,hi]),g1.live,g1.gf⟩
  refine ⟨W1,g2,rfl,rfl,rfl,rfl,YA,v,hT,fun base φ w a C i K Q hi dr hag hf ht hd hK=>?_⟩
  unfold wpOp
  simp only [hi]
  rw [if_pos (yJ ht hw)]
  refine .inl ?_
  cases r with
  |none=>
   refine g3 base φ w a aA K Q (dr.rel fun i hi hm=>hag i hi hm trivial) hf ht hd fun be w' u a' ci jo rL hda=>?_
   exact hK be w' u a' (ci.WV g1.n hf zR) jo rL hda
  |some R=>
   obtain ⟨k1,k2⟩:=Rp ok wf (Yl R rfl)
   obtain ⟨uX,u,w',be,hr,Iy,jo,hout⟩:=k2 base φ w a.eval (dr.pre wf fun i hi hin hm=>hag i hin hm (.inl hi)) hf (ht.ev (H:=H) (w:=w) dr.iO)
   have XN:W.filter (Nat.blt · H.n)=W:=List.filter_eq_self.2 fun q hq=>JO (hout.wr q hq).1
   have hsub:∀ i l,φ i=some l→be i=some l:=by
    intro i l hi
    by_cases h1:i<H.n
    ·rw [hout.ext i (.inl h1)];exact hi
    ·by_cases h2:H'.n≤i
     ·rw [hout.ext i (.inr h2)];exact hi
     ·rw [hf i J J] at hi;cases hi
   exact R7 hr Iy (hK be w' u a (by show gr E base φ w H H' (W.filter (Nat.blt · H.n)) be w';rw [XN];exact hout) jo rfl (hd.mono hsub))
end
theorem HK {x:Nat} {l:List Nat}:zz x l=true↔x∈l:=by
 unfold zz
 rw [List.any_eq_true]
 exact ⟨fun ⟨y,h1,h2⟩=>by rw [Nat.eq_of_beq_eq_true h2];exact h1,fun h=>⟨x,h,Nat.beq_refl x⟩⟩
def tb (hs:Nat→Z) (ft:Nat→iX) (i:Nat) (k:Nat):Bool:=zz i (ft k).w||(Nat.ble (hs k).n i&&Nat.blt i (hs (k+1)).n)
def tt (ft:Nat→iX) (t:Nat) (k:Nat):Bool:=match (ft k).dst with |some d=>Nat.beq d t |none=>false
theorem q9 {hs:Nat→Z} {ft:Nat→iX} {i k:Nat}:tb hs ft i k=true↔i∈(ft k).w∨((hs k).n≤i∧i<(hs (k+1)).n):=by
 unfold tb
 rw [Bool.or_eq_true,dZ,HK,Nat.blt_eq,Nat.ble_eq]
theorem yD {ft:Nat→iX} {t k:Nat}:tt ft t k=true↔(ft k).dst=some t:=by
 unfold tt
 split
 ·rename_i d hd
  rw [hd]
  exact ⟨fun h=>by rw [Nat.eq_of_beq_eq_true h],fun h=>by injection h with h;rw [h];exact Nat.beq_refl t⟩
 ·rename_i hd;rw [hd];simp
structure LX (x y:iX):Prop where
 ag9:∀ d,x.dst=some d→d∉y.looks
 aha:∀ d,y.dst=some d→d∉x.looks
 dd:∀ d,x.dst=some d→y.dst≠some d
 ww:∀ q,q∈x.w→q∉y.w
 wr:∀ q,q∈x.w→match y.r with |some R=>q∉R |none=>False
 rw_:∀ q,q∈y.w→match x.r with |some R=>q∉R |none=>False
 new:∀ q,q∈y.w→¬ (x.lo≤q∧q<x.hi)
theorem Ml {x y:iX} (h:y9 x y=true):LX x y:=by
 unfold y9 at h
 simp only [dZ] at h
 obtain ⟨⟨⟨⟨⟨⟨h1,h2⟩,h3⟩,h4⟩,h5⟩,h6⟩,h7⟩:=h
 have Nu:∀{a b:List Nat},xi a b=true→∀ q,q∈a→q∉b:=by
  intro a b h q hq hb
  unfold xi at h
  rw [List.all_eq_true] at h
  have:=h q hq
  rw [HK.2 hb] at this;cases this
 have Ns:∀{a:List Nat} {b:Option (List Nat)},xj a b=true→∀ q,q∈a→match b with |some R=>q∉R |none=>False:=by
  intro a b h q hq
  cases b with
  |some R=>exact Nu h q hq
  |none=>
   simp only [xj,List.isEmpty_iff] at h
   rw [h] at hq;cases hq
 have HG:∀{d:Option Tmp} {l:List Tmp},vK d l=true→∀ x,d=some x→x∉l:=by
  intro d l h x hx hm
  subst hx
  simp only [vK,HK.2 hm] at h
  cases h
 refine ⟨HG h1,HG h2,fun d hd hy=>HG h3 d hd (by rw [hy];simp),Nu h4,Ns h5,Ns h6,fun q hq hn=>?_⟩
 rw [List.all_eq_true] at h7
 have:=h7 q hq
 rw [Bool.or_eq_true,Nat.blt_eq,Nat.ble_eq] at this
 omega
structure lF (E:Env) (aA:Nat) (ops:Array Oper) (d:List (Value×List Value)) (hs:Nat→Z) (ts:Nat→cg) (ft:Nat→iX):Prop where
 wf:∀ j,j≤ops.size→cW (hs j)
 d4:E.d4≤(hs 0).n
 ext:∀ j,j<ops.size→dn (ft j).w (hs j) (hs (j+1))
 lo:∀ j,j<ops.size→(ft j).lo=(hs j).n∧(ft j).hi=(hs (j+1)).n
 w:∀ j,j<ops.size→∀ q,q∈(ft j).w→q<(hs j).n∧gf ((hs j).get q)=true
 ind:∀ i j,i<j→j<ops.size→((Region.before ops).getD j 0).testBit i=false→LX (ft i) (ft j)
 run : ∀(j:Nat) (o:Oper),ops[j]?=some o→(ft j).dst=o.dst∧(ft j).looks=mS ops o∧∃ v,mo (ts j) aA o.dst v=some (ts (j+1))∧
     ∀(base:Nat) (φ:bC) (w:World) (a:Act) (C:Nat→Option dL) (K:Act→World→Prop) (Q:Exit→Act→World→Prop),qA E base C φ w→GY (hs j) (ft j) φ C→gw φ (hs j).n (hs (j+1)).n→
      ii φ (oR (ts j) (mS ops o) .nil) a.tmps aA→j7 φ d a.defers→
      (∀(be:bC) (w':World) (u:Value) (a':Act),gr E base φ w (hs j) (hs (j+1)) (ft j).w be w'→bn be v u→a'.tmps=a.tmps→j7 be d a'.defers→K (a'.put o.dst u) w')→wpOp E.P ops Q j K a w
section
variable {E:Env} {aA:Nat} {ops:Array Oper} {d:List (Value×List Value)} {hs:Nat→Z} {ts:Nat→cg} {ft:Nat→iX}
theorem lF.mono (h:lF E aA ops d hs ts ft) {i:Nat}:∀{j},i≤j→j≤ops.size→(hs i).n≤(hs j).n:=by
 intro j hij hj
 induction j with
 |zero=>have:i=0:=by omega
        subst this;exact Nat.le_refl _
 |succ j ih=>
  rcases Nat.lt_or_ge i (j+1) with h1 |h1
  ·exact Nat.le_trans (ih J J) (h.ext j J).n
  ·have:i=j+1:=by omega
   subst this;exact Nat.le_refl _
theorem lF.keep (h:lF E aA ops d hs ts ft) {q:Nat} {i:Nat} (hq:q<(hs i).n):∀{j},i≤j→j≤ops.size→(∀ k,i≤k→k<j→q∉(ft k).w)→(hs j).get q=(hs i).get q:=by
 intro j hij hj hk
 induction j with
 |zero=>have:i=0:=by omega
        subst this;rfl
 |succ j ih=>
  rcases Nat.lt_or_ge i (j+1) with h1 |h1
  ·have hn:=h.mono (i:=i) (j:=j) J J
   rw [(h.ext j J).keep q J (hk j J J),ih J J fun k h2 h3=>hk k h2 J]
  ·have:i=j+1:=by omega
   subst this;rfl
theorem lF.gf (h:lF E aA ops d hs ts ft) {q:Nat} {i:Nat} (hq:q<(hs i).n):∀{j},i≤j→j≤ops.size→gf ((hs j).get q)=true→Am.gf ((hs i).get q)=true:=by
 intro j hij hj hl
 induction j with
 |zero=>have:i=0:=by omega
        subst this;exact hl
 |succ j ih=>
  rcases Nat.lt_or_ge i (j+1) with h1 |h1
  ·have hn:=h.mono (i:=i) (j:=j) J J
   exact ih J J ((h.ext j J).gf q J hl)
  ·have:i=j+1:=by omega
   subst this;exact hl
theorem Rk {T c9:cg} {dst:Option Tmp} {v:Value} (h:mo T aA dst v=some c9) (t:Nat):c9.get t=if dst=some t then some v else T.get t:=by
 cases dst with
 |none=>simp only [mo,bH] at h;subst h;simp
 |some x=>
  simp only [mo] at h
  cases hb:Nat.blt x aA with
  |false=>rw [hb] at h;cases h
  |true=>
   rw [hb] at h;injection h with h;subst h
   rw [de.kP];simp
theorem lF.OD (h:lF E aA ops d hs ts ft) {t:Nat} {i:Nat}:∀{j},i≤j→j≤ops.size→(∀ k,i≤k→k<j→(ft k).dst≠some t)→(ts j).get t=(ts i).get t:=by
 intro j hij hj hk
 induction j with
 |zero=>have:i=0:=by omega
        subst this;rfl
 |succ j ih=>
  rcases Nat.lt_or_ge i (j+1) with h1 |h1
  ·obtain ⟨e1,_,v,e2,_⟩:=h.run j ops[j] (by simp)
   rw [Rk e2,if_neg (by rw [← e1];exact hk j J J),ih J J fun k h2 h3=>hk k h2 J]
  ·have:i=j+1:=by omega
   subst this;rfl
def nc (n:Nat) (hs:Nat→Z) (ft:Nat→iX) (S:Nat→Bool) (i:Nat):Option dL:=(hs (kL S (tb hs ft i) n)).get i
def vv (n:Nat) (ts:Nat→cg) (ft:Nat→iX) (S:Nat→Bool) (t:Nat):Option Value:=(ts (kL S (tt ft t) n)).get t
structure Inv (E:Env) (base:Nat) (iw:bC) (w0:World) (aA:Nat) (ops:Array Oper) (d:List (Value×List Value)) (hs:Nat→Z) (ts:Nat→cg) (ft:Nat→iX) (W:List Nat) (S:Nat→Bool) (φ:bC) (a:Act) (w:World):Prop where
 rel:qA E base (nc ops.size hs ft S) φ w
 Dp:a.tmps.size=aA
 aT:∀ t v,vv ops.size ts ft S t=some v→∃ u,a.tmps[t]?=some u∧bn φ v u
 je:j7 φ d a.defers
 out:∀ i,(i<(hs 0).n∨(hs ops.size).n≤i)→φ i=iw i
 free:∀ k,k<ops.size→S k=false→gw φ (hs k).n (hs (k+1)).n
 step:Step iw W w0 w
 fresh:∀ i l,(hs 0).n≤i→i<(hs ops.size).n→φ i=some l→w0.heap.size≤l.dG∨∃ q∈W,∃ m,q<(hs 0).n∧iw q=some m∧m.dG=l.dG∧Am.gf ((hs 0).get q)=true∧live (nc ops.size hs ft S q)=false
theorem lF.Ph (h:lF E aA ops d hs ts ft) {i:Nat}:∀{j},j≤ops.size→(hs 0).n≤i→i<(hs j).n→∃ k,k<j∧(hs k).n≤i∧i<(hs (k+1)).n:=by
 intro j
 induction j with
 |zero=>intro _ h1 h2;omega
 |succ j ih=>
  intro hj h1 h2
  rcases Nat.lt_or_ge i (hs j).n with h3 |h3
  ·obtain ⟨k,h4,h5⟩:=ih J h1 h3
   exact ⟨k,by omega,h5⟩
  ·exact ⟨j,by omega,h3,h2⟩
theorem lF.agree (h:lF E aA ops d hs ts ft) {S:Nat→Bool} {φ:bC} {j:Nat} (hj:j<ops.size) (s6:S j=false) (vR:∀ i,((Region.before ops).getD j 0).testBit i=true→S i=true)
  (s8:∀ k,k<ops.size→S k=true→((Region.before ops).getD k 0).testBit j=false) (hfree:∀ k,k<ops.size→S k=false→gw φ (hs k).n (hs (k+1)).n):GY (hs j) (ft j) φ (nc ops.size hs ft S):=by
 intro i hi hm hrd
 have J2:∀ k,k<j→S k=false→tb hs ft i k=false:=by
  intro k hk hs1
  cases hb:tb hs ft i k with
  |false=>rfl
  |true=>
   exfalso
   rcases q9.1 hb with h1 |⟨h1,h2⟩
   ·have hap:=h.ind k j hk hj (by cases ht:((Region.before ops).getD j 0).testBit k with |false=>rfl |true=>rw [vR k ht] at hs1;cases hs1)
    have h3:=hap.wr i h1
    cases hr:(ft j).r with
    |none=>rw [hr] at h3;exact h3
    |some R=>
     rw [hr] at h3 hrd
     rcases hrd with h4 |h4
     ·exact h3 h4
     ·exact hap.ww i h1 h4
   ·exact hm (hfree k J hs1 i h1 h2)
 have J3:∀ k,j≤k→k<ops.size→S k=true→tb hs ft i k=false:=by
  intro k hk hkn hs1
  have hne:k≠j:=fun e=>by subst e;rw [s6] at hs1;cases hs1
  have hn:=h.mono (i:=j) (j:=k) hk J
  cases hb:tb hs ft i k with
  |false=>rfl
  |true=>
   exfalso
   rcases q9.1 hb with h1 |⟨h1,h2⟩
   ·have hap:=h.ind j k J hkn (s8 k hkn hs1)
    have h3:=hap.rw_ i h1
    cases hr:(ft j).r with
    |none=>rw [hr] at h3;exact h3
    |some R=>
     rw [hr] at h3 hrd
     rcases hrd with h4 |h4
     ·exact h3 h4
     ·exact hap.ww i h4 h1
   ·omega
 unfold nc
 generalize hst:kL S (tb hs ft i) ops.size=st
 have hle:st≤j:=by
  rcases AT S (tb hs ft i) ops.size with h0 |⟨k,h1,h2,h3,h4⟩
  ·omega
  ·rcases Nat.lt_or_ge k j with h5 |h5
   ·omega
   ·rw [J3 k h5 h1 h3] at h4;cases h4
 have hnt:∀ k,st≤k→k<j→tb hs ft i k=false:=by
  intro k h1 h2
  cases hb:tb hs ft i k with
  |false=>rfl
  |true=>
   cases hs1:S k with
   |false=>rw [J2 k h2 hs1] at hb;cases hb
   |true=>have:=yy S (tb hs ft i) ops.size k J hs1 hb;omega
 have hin:i<(hs st).n:=by
  rcases Nat.lt_or_ge i (hs st).n with h1 |h1
  ·exact h1
  ·exfalso
   have h0:=h.mono (i:=0) (j:=st) J J
   obtain ⟨k,h2,h3,h4⟩:=h.Ph J J hi
   have:st≤k:=by
    rcases Nat.lt_or_ge k st with h5 |h5
    ·have:=h.mono (i:=k+1) (j:=st) J J;omega
    ·exact h5
   have:=hnt k this h2
   rw [q9.2 (.inr ⟨h3,h4⟩)] at this;cases this
 exact (h.keep hin hle J fun k h1 h2 hm=>by have:=hnt k h1 h2;rw [q9.2 (.inl hm)] at this;cases this).symm
theorem lF.looks (h:lF E aA ops d hs ts ft) {S:Nat→Bool} {j:Nat} (hj:j<ops.size) (s6:S j=false) (vR:∀ i,((Region.before ops).getD j 0).testBit i=true→S i=true)
  (s8:∀ k,k<ops.size→S k=true→((Region.before ops).getD k 0).testBit j=false) {t:Nat} (ht:t∈(ft j).looks):vv ops.size ts ft S t=(ts j).get t:=by
 have J2:∀ k,k<j→S k=false→tt ft t k=false:=by
  intro k hk hs1
  cases hb:tt ft t k with
  |false=>rfl
  |true=>
   have hap:=h.ind k j hk hj (by cases ht:((Region.before ops).getD j 0).testBit k with |false=>rfl |true=>rw [vR k ht] at hs1;cases hs1)
   exact (hap.ag9 t (yD.1 hb) ht).elim
 have J3:∀ k,j≤k→k<ops.size→S k=true→tt ft t k=false:=by
  intro k hk hkn hs1
  have hne:k≠j:=fun e=>by subst e;rw [s6] at hs1;cases hs1
  cases hb:tt ft t k with
  |false=>rfl
  |true=>
   have hap:=h.ind j k J hkn (s8 k hkn hs1)
   exact (hap.aha t (yD.1 hb) ht).elim
 unfold vv
 generalize hst:kL S (tt ft t) ops.size=st
 have hle:st≤j:=by
  rcases AT S (tt ft t) ops.size with h0 |⟨k,h1,h2,h3,h4⟩
  ·omega
  ·rcases Nat.lt_or_ge k j with h5 |h5
   ·omega
   ·rw [J3 k h5 h1 h3] at h4;cases h4
 exact (h.OD hle J fun k h1 h2 hm=>by
  have hb:=yD.2 hm
  cases hs1:S k with
  |false=>rw [J2 k h2 hs1] at hb;cases hb
  |true=>have:=yy S (tt ft t) ops.size k J hs1 hb;omega).symm
theorem Inv.next {base:Nat} {iw φ:bC} {w0 w:World} {a:Act} {W:List Nat} {S S':Nat→Bool} {j:Nat} (h:lF E aA ops d hs ts ft) (s7:∀ j,j<ops.size→∀ q,q∈(ft j).w→q∈W)
  (I:Inv E base iw w0 aA ops d hs ts ft W S φ a w) (hj:j<ops.size) (s6:S j=false) (vR:∀ i,((Region.before ops).getD j 0).testBit i=true→S i=true)
  (s8:∀ k,k<ops.size→S k=true→((Region.before ops).getD k 0).testBit j=false) (uj:∀ k,k<ops.size→(S' k=true↔(S k=true∨k=j)))
  {K:Act→World→Prop} {Q:Exit→Act→World→Prop} (hK:∀ be a' w',Inv E base iw w0 aA ops d hs ts ft W S' be a' w'→K a' w'):wpOp E.P ops Q j K a w:=by
 obtain ⟨e1,e2,v,qd,run⟩:=h.run j ops[j] (by simp [hj])
 have hag:=h.agree hj s6 vR s8 I.free
 have hn0:=h.mono (i:=0) (j:=j) J J
 have jP:=(h.ext j hj).n
 have hn2:=h.mono (i:=j+1) (j:=ops.size) J J
 have hfree:=I.free j hj s6
 have SD:∀ i,tb hs ft i j=true→∀ k,j<k→k<ops.size→S k=true→tb hs ft i k=false:=by
  intro i hi k hk hkn hs1
  have hap:=h.ind j k hk hkn (s8 k hkn hs1)
  have hnk:=h.mono (i:=j+1) (j:=k) J J
  obtain ⟨l1,l2⟩:=h.lo j hj
  cases hb:tb hs ft i k with
  |false=>rfl
  |true=>
   exfalso
   rcases q9.1 hb with h1 |⟨h1,h2⟩
   ·rcases q9.1 hi with h3 |h3
    ·exact hap.ww i h3 h1
    ·exact hap.new i h1 (by rw [l1,l2];exact h3)
   ·rcases q9.1 hi with h3 |h3
    ·have:=(h.w j hj i h3).1;omega
    ·omega
 have HD:∀ i,(i∈(ft j).w∨((hs j).n≤i∧i<(hs (j+1)).n))→nc ops.size hs ft S' i=(hs (j+1)).get i:=fun i hi=>by
  unfold nc
  rw [Rz uj hj (q9.2 hi) (SD i (q9.2 hi))]
 have M9:∀ i,i∉(ft j).w→¬ ((hs j).n≤i∧i<(hs (j+1)).n)→nc ops.size hs ft S' i=nc ops.size hs ft S i:=fun i h1 h2=>by
  unfold nc
  rw [RA uj (by cases hb:tb hs ft i j with |false=>rfl |true=>rcases q9.1 hb with h3 |h3;exact (h1 h3).elim;exact (h2 h3).elim)]
 have NY:∀ i,i∈(ft j).w→φ i≠none→nc ops.size hs ft S i=(hs j).get i:=fun i hi hm=>hag i (h.w j hj i hi).1 hm (by split;exact .inr hi;trivial)
 refine run base φ w a (nc ops.size hs ft S) K Q I.rel hag hfree ⟨I.Dp,fun t x hx=>?_⟩ I.je fun be w' u a' ci jo rL hda=>hK be _ w' ?_
 ·obtain ⟨h1,h2⟩:=ad2 hx
  rw [← e2] at h1
  exact I.aT t x (by rw [h.looks hj s6 vR s8 h1];exact h2)
 ·have hsub:∀ i l,φ i=some l→be i=some l:=by
   intro i l hi
   by_cases h1:i<(hs j).n
   ·rw [ci.ext i (.inl h1)];exact hi
   ·by_cases h2:(hs (j+1)).n≤i
    ·rw [ci.ext i (.inr h2)];exact hi
    ·rw [hfree i J J] at hi;cases hi
  have dr:=I.rel.step (H:=hs j) (H':=hs (j+1)) (yY:=nc ops.size hs ft S') (by have:=h.d4;omega) ci jP hfree NY HD M9
   (fun i hi=>(h.ext j hj).gf i (h.w j hj i hi).1) (fun i hi=>(h.ext j hj).live i (h.w j hj i hi).1)
  have hsz:(a'.put ops[j].dst u).tmps.size=aA:=by
   cases hd:ops[j].dst with
   |none=>show a'.tmps.size=aA;rw [rL];exact I.Dp
   |some x=>show (a'.tmps.setIfInBounds x u).size=aA;rw [Array.size_setIfInBounds,rL];exact I.Dp
  have NL:∀ i l,(hs 0).n≤i→i<(hs ops.size).n→φ i=some l→w0.heap.size≤l.dG∨∃ q∈W,∃ m,q<(hs 0).n∧iw q=some m∧m.dG=l.dG∧Am.gf ((hs 0).get q)=true∧live (nc ops.size hs ft S' q)=false:=by
   intro i l h1 h2 h3
   rcases I.fresh i l h1 h2 h3 with hb |⟨q,q1,m,cv,cY,cO,dc,di⟩
   ·exact .inl hb
   ·refine .inr ⟨q,q1,m,cv,cY,cO,dc,?_⟩
    by_cases IE:q∈(ft j).w
    ·have pz:=NY q IE (by rw [I.out q (.inl cv),cY];simp)
     rw [pz] at di
     have:=rX (h.w j hj q IE).2
     rw [this] at di;cases di
    ·rw [M9 q IE J];exact di
  refine ⟨dr,hsz,fun t x hx=>?_,by rw [put_defers];exact hda,fun i hi=>?_,fun k hk Ex=>?_,⟨ci.step.os.trans I.step.os,ci.step.tape.trans I.step.tape,ci.step.output.trans I.step.output,Nat.le_trans I.step.size ci.step.size,fun B hB hk=>?_⟩,fun i l h1 h2 h3=>?_⟩
  ·by_cases hd:(ft j).dst=some t
   ·have hst:kL S' (tt ft t) ops.size=j+1:=Rz uj hj (yD.2 hd) fun k hk hkn hs1=>by
     cases hb:tt ft t k with
     |false=>rfl
     |true=>exact ((h.ind j k hk hkn (s8 k hkn hs1)).dd t hd (yD.1 hb)).elim
    unfold vv at hx
    rw [hst,Rk qd,if_pos (by rw [← e1];exact hd)] at hx
    injection hx with hx
    subst hx
    have Yr:t<aA:=by
     rw [e1] at hd
     rw [hd] at qd
     simp only [mo] at qd
     cases hb:Nat.blt t aA with
     |false=>rw [hb] at qd;cases qd
     |true=>exact Nat.blt_eq▸hb
    refine ⟨u,?_,jo⟩
    rw [← e1,hd]
    show (a'.tmps.setIfInBounds t u)[t]?=some u
    rw [Array.getElem?_setIfInBounds_self_of_lt (by rw [rL,I.Dp];exact Yr)]
   ·have hst:kL S' (tt ft t) ops.size=kL S (tt ft t) ops.size:=RA uj (by cases hb:tt ft t j with |false=>rfl |true=>exact (hd (yD.1 hb)).elim)
    unfold vv at hx
    rw [hst] at hx
    obtain ⟨y,y1,ar⟩:=I.aT t x hx
    refine ⟨y,?_,ar.mono hsub⟩
    rw [e1] at hd
    cases XF:ops[j].dst with
    |none=>show a'.tmps[t]?=some y;rw [rL];exact y1
    |some z=>
     show (a'.tmps.setIfInBounds z u)[t]?=some y
     rw [Array.getElem?_setIfInBounds_ne (fun e=>hd (by rw [XF,e])),rL];exact y1
  ·rw [ci.ext i J];exact I.out i hi
  ·have ah5:k≠j:=fun e=>by rw [(uj k hk).2 (.inr e)] at Ex;cases Ex
   have Xi:S k=false:=by
    cases hb:S k with
    |false=>rfl
    |true=>rw [(uj k hk).2 (.inl hb)] at Ex;cases Ex
   intro i h1 h2
   have hlt:i<(hs j).n∨(hs (j+1)).n≤i:=by
    rcases Nat.lt_or_ge k j with h3 |h3
    ·have:=h.mono (i:=k+1) (j:=j) J J;omega
    ·have:=h.mono (i:=j+1) (j:=k) J J;omega
   rw [ci.ext i hlt]
   exact I.free k hk Xi i h1 h2
  ·have b1:=I.step.keep B hB hk
   have hsz:=I.step.size
   rw [← b1]
   refine ci.step.keep B J fun q hq l hl=>?_
   by_cases B4:q<(hs 0).n
   ·rw [I.out q (.inl B4)] at hl
    exact hk q (s7 j hj q hq) l hl
   ·have aib:=(h.w j hj q hq).1
    have X5:=h.mono (i:=j) (j:=ops.size) J J
    rcases I.fresh q l J J hl with hb |⟨q',q1,m,cv,cY,cO,dc,di⟩
    ·omega
    ·rw [← cO];exact hk q' q1 m cY
  ·by_cases hnew:(hs j).n≤i∧i<(hs (j+1)).n
   ·rcases ci.fresh i l hnew.1 hnew.2 h3 with hb |⟨q,q1,m,cv,cY,cO,dc,di⟩
    ·have:=I.step.size;exact .inl J
    ·by_cases B4:q<(hs 0).n
     ·refine .inr ⟨q,s7 j hj q q1,m,B4,by rw [← I.out q (.inl B4)];exact cY,cO,h.gf B4 J J dc,?_⟩
      rw [HD q (.inl q1)];exact di
     ·have X5:=h.mono (i:=j) (j:=ops.size) J J
      rcases NL q m J J cY with hb |⟨q',r1,m',r2,yp,Ks,ac8⟩
      ·exact .inl J
      ·exact .inr ⟨q',r1,m',r2,yp,by omega,ac8⟩
   ·rw [ci.ext i J] at h3
    exact NL i l h1 h2 h3
end
end Go.Am
