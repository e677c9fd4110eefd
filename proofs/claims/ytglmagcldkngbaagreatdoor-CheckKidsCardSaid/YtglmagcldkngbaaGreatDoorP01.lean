/- Part of the proof that CheckKids answers true. -/
import Derived.Test.YtglmagcldkngbaaGreatDoorP00
import Derived.LoopN
import Derived.Defers
import Derived.Orders
set_option linter.unusedVariables false
set_option linter.unusedSimpArgs false
set_option maxRecDepth 100000
set_option maxHeartbeats 4000000
namespace Go.Am
section
variable {E:Env} {base:Nat} {φ:cS} {w:World} {H:Hp}
theorem EF (ok:E.Ok) (wf:Wf H) {T:Tm} {t:TypeId} {len:Nat} {ps:Array (Nat×Operand)} {v:Value} {H':Hp} {W R:List Nat} (h:tw E T t len ps H=some (v,H',W,R)) :
  jJ H H' W R∧∀ φ ρ,J2 E φ T ρ→Good E H H' W R v φ (do Pure.pure (.value (← Instr.buildSlice t len (ps.map fun p=>(p.1,ρ p.2))))):=by
 unfold tw at h
 split at h
 rotate_left
 ·cases h
 rename_i e ht
 split at h
 rotate_left
 ·cases h
 rename_i n z hn hz
 cases hc:(Nat.ble (len*n) 16777216&&Nat.beq z.cells.size n&&ground z) with
 |false=>rw [hc] at h;cases h
 |true=>
  rw [hc] at h
  simp only [cond_true] at h
  simp only [Bool.and_eq_true] at hc
  obtain ⟨⟨hle,hzn⟩,hgr⟩:=hc
  have hle:=Nat.le_of_ble_eq_true hle
  have hzn:=Nat.eq_of_beq_eq_true hzn
  split at h
  rotate_left
  ·cases h
  rename_i c hf
  cases hone:c.all one with
  |false=>rw [hone] at h;cases h
  |true=>
   rw [hone] at h
   simp only [cond_true,Option.some.injEq,Prod.mk.injEq] at h
   obtain ⟨rfl,rfl,rfl,rfl⟩:=h
   refine ⟨jJ.new wf _ _,fun φ ρ he base w hp hfr=>?_⟩
   have hfree:φ H.n=none:=hfr _ (Nat.le_refl _) (by simp)
   have hz0:LR φ (fD z.cells.toList len) (fD z.cells.toList len).toArray.toList:=by simpa using Ez ((jz hgr).toList) len
   obtain ⟨d',h4,h5⟩:=A0 he (fun i=>some (i*n,n)) (fun i=>some (i*n,n)) (fun i p hp=>hp) ps.toList _ c (fD z.cells.toList len).toArray hz0 hf
   refine mR.value (φ':=fun j=>if j=H.n then some ⟨w.heap.size,0,c.length⟩ else φ j) (u:=.slice (some ⟨w.heap.size,0,none⟩) len len)
    (w':={ w with heap:=w.heap.push (.cells d' e (0,0)) }) ?_ ?_ ?_
   ·unfold Instr.buildSlice
    rw [ax (dI ok ht w)]
    simp only
    rw [ax (ec ok hn w),if_neg aa]
    have hzr:=uE z.cells.toList len
    by_cases h0:len*n=0
    ·rw [if_pos h0,ax (run_pure _ w)]
     have e0:fD z.cells.toList len=[]:=by
      apply List.eq_nil_of_length_eq_zero
      rw [oc];simpa [hzn] using h0
     rw [e0] at h4
     have h0':(Array.map (fun x=>(#[]:Array Value)[x%(#[]:Array Value).size]!) (Array.range (len*n)))=#[]:=by rw [h0];simp
     simp only [h0']
     have h4':Instr.fill (fun i=>some (i*n,n)) #[] (ps.map fun p=>(p.1,ρ p.2)).toList=some d':=by simpa using h4
     simp only [h4']
     rw [ax (mg _ _ w)]
     rfl
    ·rw [if_neg h0,ax (gi ok hz w),ax (run_pure _ w)]
     have e1:(Array.map (fun x=>z.cells[x%z.cells.size]!) (Array.range (len*n)))=(fD z.cells.toList len).toArray:=by
      rw [hzr];simp [hzn]
     simp only [e1]
     have h4':Instr.fill (fun i=>some (i*n,n)) (fD z.cells.toList len).toArray (ps.map fun p=>(p.1,ρ p.2)).toList=some d':=by simpa using h4
     simp only [h4']
     rw [ax (mg _ _ w)]
     rfl
   ·have:=VR.Ia (φ:=fun j=>if j=H.n then some ⟨w.heap.size,0,c.length⟩ else φ j) H.n 0 len len ⟨w.heap.size,0,c.length⟩ (by simp) (Nat.le_refl _)
    simpa using this
   ·exact gF.Hs hp.bs hfree (ds:=d'.toList) h5 (by simp) rfl rfl rfl
def MR (φ:cS) (es es':List MapEntry):Prop:=es.length=es'.length∧∀(j:Nat) x y,es[j]?=some x→es'[j]?=some y→VR φ x.key y.key∧VR φ x.val y.val∧x.born=y.born
theorem MR.cons_inv {φ:cS} {x:MapEntry} {xs zs:List MapEntry} (h:MR φ (x::xs) zs):∃ y ys,zs=y::ys∧(VR φ x.key y.key∧VR φ x.val y.val∧x.born=y.born)∧MR φ xs ys:=by
 cases zs with
 |nil=>have:=h.1;simp at this
 |cons y ys=>
  refine ⟨y,ys,rfl,h.2 0 x y (by simp) (by simp),?_,fun i a b ha hb=>h.2 (i+1) a b (by simpa using ha) (by simpa using hb)⟩
  have:=h.1;simp at this;exact this
theorem MR.mL {φ:cS} {zs:List MapEntry} (h:MR φ [] zs):zs=[]:=by
 have h1:=h.1
 cases zs with
 |nil=>rfl
 |cons a b=>simp at h1
theorem mX {kd:TypeDesc} {k:Value} (hk:AS kd k=true):(∃ s,kd=.string∧k=.string s)∨∃ i n,kd=.int i∧k=.int i n:=by
 unfold AS at hk
 split at hk
 ·exact .inl ⟨_,rfl,rfl⟩
 ·simp at hk;subst hk;exact .inr ⟨_,_,rfl,rfl⟩
 ·cases hk
theorem A1 {kd:TypeDesc} {k:Value} (hk:AS kd k=true):∀(es es':List MapEntry) (i:Nat) (r:Option Value),MR φ es es'→pI k es=some r→
  ∃ q,Instr.findNow kd k es' i=some q∧match r with |none=>q=none |some v=>∃ j u,q=some (j,u)∧VR φ v u∧i≤j
 |[],es',i,r,hm,h=>by
  have:=hm.mL;subst this
  simp [pI] at h;subst h
  exact ⟨none,rfl,rfl⟩
 |e::es,es',i,r,hm,h=>by
  obtain ⟨e',BN,rfl,⟨h1,h2,h3⟩,hm'⟩:=hm.cons_inv
  rcases mX hk with ⟨s,rfl,rfl⟩ |⟨ik,n,rfl,rfl⟩
  ·cases IX:e.key with
   |string b=>
    rw [IX] at h1
    generalize zm:e'.key=k' at h1
    cases h1
    simp only [pI,IX] at h
    cases hab:(s==b) with
    |true=>
     rw [hab] at h
     simp only [cond_true,Option.some.injEq] at h
     subst h
     exact ⟨some (i,e'.val),by simp [Instr.findNow,Instr.sameNow,zm,hab],i,e'.val,rfl,h2,Nat.le_refl _⟩
    |false=>
     rw [hab] at h
     simp only [cond_false] at h
     obtain ⟨q,Nh,hq2⟩:=A1 hk es BN (i+1) r hm' h
     refine ⟨q,by simp [Instr.findNow,Instr.sameNow,zm,hab,Nh],?_⟩
     cases r with
     |none=>exact hq2
     |some v=>obtain ⟨j,u,a,b,c⟩:=hq2;exact ⟨j,u,a,b,by omega⟩
   |_=>simp [pI,IX] at h
  ·cases IX:e.key with
   |int jk m=>
    rw [IX] at h1
    generalize zm:e'.key=k' at h1
    cases h1
    simp only [pI,IX] at h
    by_cases hjk:ik=jk
    ·subst hjk
     simp only [decide_true,cond_true] at h
     by_cases hnm:n=m
     ·subst hnm
      simp only [decide_true,cond_true,Option.some.injEq] at h
      subst h
      exact ⟨some (i,e'.val),by simp [Instr.findNow,Instr.sameNow,zm],i,e'.val,rfl,h2,Nat.le_refl _⟩
     ·simp only [hnm,decide_false,cond_false] at h
      obtain ⟨q,Nh,hq2⟩:=A1 hk es BN (i+1) r hm' h
      have hnb:(n==m)=false:=by simpa using hnm
      refine ⟨q,by simp [Instr.findNow,Instr.sameNow,zm,hnb,Nh],?_⟩
      cases r with
      |none=>exact hq2
      |some v=>obtain ⟨j,u,a,b,c⟩:=hq2;exact ⟨j,u,a,b,by omega⟩
    ·simp [hjk] at h
   |_=>simp [pI,IX] at h
theorem run_findKey {P:Program} {kt:TypeId} {kd:TypeDesc} {k:Value} {es:List MapEntry} {q:Option (Nat×Value)} (hk:P.underlying kt=some kd) (h:Instr.findNow kd k es 0=some q) (w:World) :
  (Instr.findKey kt k es).run P w=.ok q w:=by
 unfold Instr.findKey
 rw [ax (run_underlying hk w),h]
 rfl
theorem run_checkKey {P:Program} {kt:TypeId} {kd:TypeDesc} {k:Value} (hk:P.underlying kt=some kd) (h:AS kd k=true) (b:Bool) (d:Nat) (w:World) :
  (Instr.checkKey b (d+1) kt k).run P w=.ok () w:=by
 unfold Instr.checkKey
 rw [ax (run_underlying hk w)]
 rcases mX h with ⟨s,rfl,rfl⟩ |⟨ik,n,rfl,rfl⟩ <;> rfl
theorem R1 {b:Nat} {es:List MapEntry} {ck:Nat} {l:Loc} {R:List Nat} (hp:Pre E base φ w H R) (hb:b∈R) (hl:φ b=some l) (hg:H.get b=some (.map es ck)) :
  ∃ es':Array MapEntry,(getObj l.gK).run E.P w=.ok (.map es' ck) w∧w.heap[l.gK]?=some (.map es' ck)∧base≤l.gK∧MR φ es es'.toList:=by
 obtain ⟨es',h1,h2,h3,h4⟩:=hp.blocks b hb l _ hl hg
 refine ⟨es',by simp [getObj,Sem.run,h1],h1,h2,by simpa using h3,fun j x y hx hy=>h4 j x y hx (by simpa using hy)⟩
theorem Fy (ok:E.Ok) (wf:Wf H) {t:TypeId} {m m' k k' v:Value} {co:Bool} {H':Hp} {W R:List Nat} (h:gZ E t m k co H=some (v,H',W,R)) :
  jJ H H' W R∧∀ φ,VR φ m m'→VR φ k k'→Good E H H' W R v φ (do Pure.pure (.value (← Instr.lookup t m' k' co))):=by
 unfold gZ at h
 split at h
 rotate_left
 ·cases h
 rename_i kt vt ht
 split at h
 rotate_left
 ·cases h
 rename_i kd z U8 hz
 cases hk:AS kd k with
 |false=>rw [hk] at h;cases h
 |true=>
  rw [hk] at h
  simp only [cond_true] at h
  split at h
  rotate_left
  ·cases h
  rename_i es R' WX
  have hkk:∀ φ,VR φ k k'→k'=k:=fun φ hv=>hv.dS (by rcases mX hk with ⟨s,_,rfl⟩ |⟨i,n,_,rfl⟩ <;> rfl)
  have hent:∀ φ base w,Pre E base φ w H R'→VR φ m m'→∃ es':Array MapEntry,MR φ es es'.toList∧
    ∀{α:Type} (K:Array MapEntry→Sem α),(match m' with
     |.map none=>(do let es ← pure #[];K es:Sem α)
     |.map (some r)=>(do
      let o ← getObj r
      match o with
      |.map es _=>(do let es ← pure es;K es)
      |_=>stuck "Lookup: map expected")
     |_=>stuck "Lookup: map expected").run E.P w=(K es').run E.P w:=by
   intro φ base w hp hm
   split at WX
   ·cases hm
    simp only [Option.some.injEq,Prod.mk.injEq] at WX
    obtain ⟨rfl,rfl⟩:=WX
    exact ⟨#[],⟨rfl,fun j x y hx=>by simp at hx⟩,fun K=>rfl⟩
   ·rename_i b
    split at WX
    ·rename_i es0 ck hg
     simp only [Option.some.injEq,Prod.mk.injEq] at WX
     obtain ⟨rfl,rfl⟩:=WX
     cases hm with
     |map _ l hl=>
      obtain ⟨es',h1,_,_,h2⟩:=R1 hp (by simp) hl hg
      refine ⟨es',h2,fun K=>?_⟩
      simp only
      rw [ax h1]
      rfl
    ·cases WX
   ·cases WX
  split at h
  ·rename_i v0 hf
   simp only [Option.some.injEq,Prod.mk.injEq] at h
   obtain ⟨rfl,rfl,rfl,rfl⟩:=h
   refine ⟨jJ.same wf _,fun φ hm hkv base w hp hfr=>?_⟩
   have:=hkk φ hkv;subst this
   obtain ⟨es',hmr,hrun⟩:=hent φ base w hp hm
   obtain ⟨q,Nh,j,u,rfl,hu,_⟩:=A1 hk es es'.toList 0 _ hmr hf
   refine mR.of_run (u:=if co then .tuple #[u,.bool true] else u) ?_ ?_
   ·cases co with
    |false=>exact hu
    |true=>exact .tuple' (LR.toArray (.cons hu (.cons (.bool true) (.nil φ))))
   ·unfold Instr.lookup
    rw [ax (dI ok ht w)]
    simp only
    refine (hrun _).trans ?_
    rw [ax (run_checkKey (ok.ul U8) hk _ 9999 w),ax (run_findKey (ok.ul U8) Nh w)]
    cases co <;> rfl
  ·rename_i hf
   cases hgz:ground z with
   |false=>rw [hgz] at h;cases h
   |true=>
    rw [hgz] at h
    simp only [cond_true,Option.some.injEq,Prod.mk.injEq] at h
    obtain ⟨rfl,rfl,rfl,rfl⟩:=h
    refine ⟨jJ.same wf _,fun φ hm hkv base w hp hfr=>?_⟩
    have:=hkk φ hkv;subst this
    obtain ⟨es',hmr,hrun⟩:=hent φ base w hp hm
    obtain ⟨q,Nh,rfl⟩:=A1 hk es es'.toList 0 _ hmr hf
    refine mR.of_run (u:=if co then .tuple #[z,.bool false] else z) ?_ ?_
    ·cases co with
     |false=>exact .hG hgz
     |true=>exact .tuple' (LR.toArray (.cons (.hG hgz) (.cons (.bool false) (.nil φ))))
    ·unfold Instr.lookup
     rw [ax (dI ok ht w)]
     simp only
     refine (hrun _).trans ?_
     rw [ax (run_checkKey (ok.ul U8) hk _ 9999 w),ax (run_findKey (ok.ul U8) Nh w)]
     simp only
     rw [ax (gi ok hz w)]
     cases co <;> rfl
  ·cases h
end
section
variable {E:Env} {base:Nat} {φ:cS} {w:World} {H:Hp}
theorem yf (a b:ByteArray):(a==b)=true↔a=b:=by
 show (ByteArray.beq a b)=true↔a=b
 unfold ByteArray.beq
 cases a;cases b
 simp
theorem MR.cons {x y:MapEntry} {xs ys:List MapEntry} (h:VR φ x.key y.key∧VR φ x.val y.val∧x.born=y.born) (hs:MR φ xs ys):MR φ (x::xs) (y::ys):=
 ⟨by simp [hs.1],fun j a b ha hb=>by
  cases j with
  |zero=>simp at ha hb;subst ha hb;exact h
  |succ j=>simp at ha hb;exact hs.2 j a b ha hb⟩
theorem Sw {kd:TypeDesc} {k v u:Value} {ck:Nat} (hk:AS kd k=true) (hv:VR φ v u):∀(es es':List MapEntry) (i:Nat) (Tp:List MapEntry) (n:Bool),MR φ es es'→D1 k v ck es=some (Tp,n)→
  (n=true∧Instr.findNow kd k es' i=some none∧MR φ Tp (es'++[{ key:=k,val:=u,born:=ck }]))∨
  (n=false∧∃ j w e,Instr.findNow kd k es' i=some (some (i+j,w))∧es'[j]?=some e∧e.key=k∧MR φ Tp (es'.modify j fun e=>{ e with key:=k,val:=u }))
 |[],es',i,Tp,n,hm,h=>by
  have:=hm.mL;subst this
  simp [D1] at h
  obtain ⟨rfl,rfl⟩:=h
  have hkk:VR φ k k:=by rcases mX hk with ⟨s,_,rfl⟩ |⟨a,b,_,rfl⟩ <;> constructor
  exact .inl ⟨rfl,rfl,.cons ⟨hkk,hv,rfl⟩ ⟨rfl,fun j x y hx=>by simp at hx⟩⟩
 |e::es,es',i,Tp,n,hm,h=>by
  have hkk:VR φ k k:=by rcases mX hk with ⟨s,_,rfl⟩ |⟨a,b,_,rfl⟩ <;> constructor
  obtain ⟨e',BN,rfl,⟨h1,h2,h3⟩,hm'⟩:=hm.cons_inv
  have rest:∀(hne:Instr.findNow kd k (e'::BN) i=Instr.findNow kd k BN (i+1)) (h:(match D1 k v ck es with |some (es,n)=>some (e::es,n) |none=>none)=some (Tp,n)),
    (n=true∧Instr.findNow kd k (e'::BN) i=some none∧MR φ Tp ((e'::BN)++[{ key:=k,val:=u,born:=ck }]))∨
    (n=false∧∃ j w e,Instr.findNow kd k (e'::BN) i=some (some (i+j,w))∧(e'::BN)[j]?=some e∧e.key=k∧MR φ Tp ((e'::BN).modify j fun e=>{ e with key:=k,val:=u })):=by
   intro hne h
   split at h
   ·rename_i es3 n3 hp
    simp only [Option.some.injEq,Prod.mk.injEq] at h
    obtain ⟨rfl,rfl⟩:=h
    rcases Sw hk hv es BN (i+1) es3 n3 hm' hp with ⟨a,b,c⟩ |⟨a,j,w,x,b,c,d,f⟩
    ·exact .inl ⟨a,hne.trans b,.cons ⟨h1,h2,h3⟩ c⟩
    ·refine .inr ⟨a,j+1,w,x,hne.trans (b.trans (by rw [show i+1+j=i+(j+1) by omega])),by simpa using c,d,?_⟩
     simpa using MR.cons ⟨h1,h2,h3⟩ f
   ·cases h
  rcases mX hk with ⟨s,rfl,rfl⟩ |⟨ik,m,rfl,rfl⟩
  ·cases IX:e.key with
   |string b=>
    rw [IX] at h1
    generalize zm:e'.key=k' at h1
    cases h1
    simp only [D1,IX] at h
    cases hab:(s==b) with
    |true=>
     rw [hab] at h
     simp only [cond_true,Option.some.injEq,Prod.mk.injEq] at h
     obtain ⟨rfl,rfl⟩:=h
     have hsb:s=b:=(yf s b).1 hab
     refine .inr ⟨rfl,0,e'.val,e',by simp [Instr.findNow,Instr.sameNow,zm,hab],rfl,by rw [zm,hsb],?_⟩
     exact .cons ⟨hkk,hv,h3⟩ hm'
    |false=>
     rw [hab] at h
     simp only [cond_false] at h
     exact rest (by simp [Instr.findNow,Instr.sameNow,zm,hab]) h
   |_=>simp [D1,IX] at h
  ·cases IX:e.key with
   |int jk b=>
    rw [IX] at h1
    generalize zm:e'.key=k' at h1
    cases h1
    simp only [D1,IX] at h
    by_cases hjk:ik=jk
    ·subst hjk
     simp only [decide_true,cond_true] at h
     by_cases hnm:m=b
     ·subst hnm
      simp only [decide_true,cond_true,Option.some.injEq,Prod.mk.injEq] at h
      obtain ⟨rfl,rfl⟩:=h
      refine .inr ⟨rfl,0,e'.val,e',by simp [Instr.findNow,Instr.sameNow,zm],rfl,zm,?_⟩
      exact .cons ⟨hkk,hv,h3⟩ hm'
     ·simp only [hnm,decide_false,cond_false] at h
      have hnb:(m==b)=false:=by simpa using hnm
      exact rest (by simp [Instr.findNow,Instr.sameNow,zm,hnb]) h
    ·simp [hjk] at h
   |_=>simp [D1,IX] at h
theorem D5 {P:Program} {w:World} {r:Nat} {es:Array MapEntry} {ck:Nat} (o:Obj) (h:w.heap[r]?=some (.map es ck)) :
  ∃ w',(setObj r o).run P w=.ok () w'∧Xv w w' r o:=by
 refine ⟨{ w with heap:=w.heap.setIfInBounds r o },by simp [setObj,Sem.run,h],rfl,rfl,rfl,by simp,fun b hb=>?_,?_⟩
 ·rw [Array.getElem?_setIfInBounds_ne (fun e=>hb e.symm)]
 ·have:=(Array.getElem?_eq_some_iff.1 h).1
  rw [Array.getElem?_setIfInBounds_self_of_lt this]
theorem uS (ok:E.Ok) (wf:Wf H) {t:TypeId} {m m' k k' v v' r:Value} {H':Hp} {W R:List Nat} (h:cH E t m k v H=some (r,H',W,R)) :
  jJ H H' W R∧∀ φ,VR φ m m'→VR φ k k'→VR φ v v'→Good E H H' W R r φ (do Instr.mapUpdate t m' k' v';Pure.pure .skip):=by
 unfold cH at h
 split at h
 rotate_left
 ·cases h
 rename_i kt vt b ht
 split at h
 rotate_left
 ·cases h
 rename_i kd es ck U8 hg
 cases hk:AS kd k with
 |false=>rw [hk] at h;cases h
 |true=>
  rw [hk] at h
  simp only [cond_true] at h
  split at h
  rotate_left
  ·cases h
  rename_i Tp n hput
  simp only [Option.some.injEq,Prod.mk.injEq] at h
  obtain ⟨rfl,rfl,rfl,rfl⟩:=h
  refine ⟨jJ.set wf _ (by rw [hg];rfl) (by simp),fun φ hm hkv hv base w hp hfr=>?_⟩
  have:=hkv.dS (by rcases mX hk with ⟨s,_,rfl⟩ |⟨i,n,_,rfl⟩ <;> rfl)
  subst this
  cases hm with
  |map _ l hl=>
   obtain ⟨es',h1,h2,h3,h4⟩:=R1 hp (by simp) hl hg
   rcases Sw (ck:=ck) hk hv es es'.toList 0 Tp n h4 hput with ⟨rfl,hf,hmr⟩ |⟨rfl,j,q,e,hf,he,IX,hmr⟩
   ·obtain ⟨w',hr,GZ⟩:=D5 (P:=E.P) (.map (es'.push { key:=k',val:=v',born:=ck }) (ck+1)) h2
    refine mR.unit (φ':=φ) (w':=w') ?_ ?_
    ·unfold Instr.mapUpdate
     rw [ax (dI ok ht w)]
     simp only
     rw [ax h1]
     simp only
     rw [ax (run_checkKey (ok.ul U8) hk _ 9999 w),ax (run_findKey (ok.ul U8) hf w)]
     exact hr
    ·exact gF.put b l _ (wf.lt hg) (by rw [hg];rfl) hl GZ.other GZ.size GZ.os GZ.tape GZ.output
      ⟨_,GZ.at_,h3,by have:=hmr.1;simpa using this,fun j x y hx hy=>hmr.2 j x y hx (by rw [← Array.getElem?_toList,Array.toList_push] at hy;exact hy)⟩
   ·obtain ⟨w',hr,GZ⟩:=D5 (P:=E.P) (.map (es'.modify j fun e=>{ e with key:=k',val:=v' }) ck) h2
    refine mR.unit (φ':=φ) (w':=w') ?_ ?_
    ·unfold Instr.mapUpdate
     rw [ax (dI ok ht w)]
     simp only
     rw [ax h1]
     simp only
     rw [ax (run_checkKey (ok.ul U8) hk _ 9999 w),ax (run_findKey (ok.ul U8) hf w)]
     simp only [Nat.zero_add]
     have hj:es'[j]?=some e:=by simpa using he
     rw [hj]
     simp only [Option.map_some,Option.getD_some,IX]
     have hsb:(Instr.keyThatStays k' k').run E.P w=.ok k' w:=by
      unfold Instr.keyThatStays
      have:Instr.sameBits 10000 k' k'=true:=by
       rcases mX hk with ⟨s,_,rfl⟩ |⟨i,n,_,rfl⟩ <;> simp [Instr.sameBits,yf]
      rw [if_pos this];rfl
     rw [ax hsb]
     exact hr
    ·exact gF.put b l _ (wf.lt hg) (by rw [hg];rfl) hl GZ.other GZ.size GZ.os GZ.tape GZ.output
      ⟨_,GZ.at_,h3,by have:=hmr.1;simpa using this,fun i x y hx hy=>hmr.2 i x y hx (by rw [← Array.getElem?_toList,Array.toList_modify] at hy;exact hy)⟩
theorem Ch:∀ l:List String,Instr.least l=none→l=[]
 |[],_=>rfl
 |_::_,h=>by simp [Instr.least] at h
theorem Ho {want:Array (String×TypeId)} {got:Array Method} (h:oA want.toList got=true):Instr.missingMethod want got=none:=by
 unfold Instr.missingMethod
 have:(want.toList.filter fun (x:String×TypeId)=>!got.any fun m=>m.name==x.1&&m.sig==x.2)=[]:=by
  rw [List.filter_eq_nil_iff]
  intro x hx
  unfold oA at h
  rw [List.all_eq_true] at h
  have:=h x hx
  simp only [this,Bool.not_true,Bool.false_eq_true,not_false_eq_true]
 simp only [this]
 rfl
theorem Hq {want:Array (String×TypeId)} {got:Array Method} (h:oA want.toList got=false):∃ m,Instr.missingMethod want got=some m:=by
 cases hm:Instr.missingMethod want got with
 |some m=>exact ⟨m,rfl⟩
 |none=>
  exfalso
  unfold Instr.missingMethod at hm
  simp only [HOrElse.hOrElse,OrElse.orElse] at hm
  generalize hf:(want.toList.filter fun (x:String×TypeId)=>!got.any fun m=>m.name==x.1&&m.sig==x.2)=fl at hm
  have hne:fl≠[]:=by
   intro e
   rw [e,List.filter_eq_nil_iff] at hf
   have:oA want.toList got=true:=by
    unfold oA
    rw [List.all_eq_true]
    intro x hx
    have:=hf x hx
    simpa using this
   rw [this] at h;cases h
  have hpart:∀(p:String→Bool) (l:List String),l≠[]→(l.partition p).1≠[]∨(l.partition p).2≠[]:=by
   intro p l hl
   cases l with
   |nil=>exact absurd rfl hl
   |cons x xs=>
    rw [List.partition_eq_filter_filter]
    cases hx:p x with
    |true=>left;simp [List.filter_cons,hx]
    |false=>right;simp [List.filter_cons,hx]
  generalize hpq:(fl.map (·.1)).partition _=pq at hm
  have h1:pq.1≠[]∨pq.2≠[]:=by rw [← hpq];exact hpart _ _ (by simpa using hne)
  cases hl:Instr.least pq.2 with
  |some a=>rw [hl] at hm;simp [Option.orElse] at hm
  |none=>
   rcases h1 with h1 |h1
   ·rw [hl] at hm
    simp only [Option.orElse] at hm
    have:=Ch _ hm
    simp at this;exact h1 this
   ·exact h1 (Ch _ hl)
theorem Hw {v u:Value} (h:VR φ v u) (b:Bool):VR φ (.tuple #[v,.bool b]) (.tuple #[u,.bool b]):=.tuple' (LR.toArray (.cons h (.cons (.bool b) (.nil φ))))
theorem NS (ok:E.Ok) {x x' v:Value} {xt a:TypeId} {co:Bool} (hx:VR φ x x') (h:F4 E x a co=some v):∃ u,(Instr.typeAssert x' xt a co).run E.P w=.ok u w∧VR φ v u:=by
 have Mi:∀(z:Value),E.zero a=some z→(bif co&&ground z then some (Value.tuple #[z,.bool false]) else none)=some v→co=true∧v=.tuple #[z,.bool false]∧VR φ v (.tuple #[z,.bool false]):=by
  intro z hz he
  cases hc:(co&&ground z) with
  |false=>rw [hc] at he;cases he
  |true=>
   rw [hc] at he
   injection he with he
   subst he
   rw [Bool.and_eq_true] at hc
   exact ⟨hc.1,rfl,Hw (.hG hc.2) false⟩
 unfold F4 at h
 split at h
 ·rename_i want t y ha
  obtain ⟨u0,rfl,hu0⟩:∃ u0,x'=.iface t u0∧VR φ y u0:=by cases hx with |iface _ _ u hu=>exact ⟨u,rfl,hu⟩
  split at h
  rotate_left
  ·cases h
  rename_i i hi
  have Pq:(typeInfo t).run E.P w=.ok i w:=by simp [typeInfo,ok.info _ _ hi]
  cases hm:oA want.toList i.methods with
  |true=>
   rw [hm] at h
   simp only [cond_true,Option.some.injEq] at h
   subst h
   refine ⟨if co then .tuple #[.iface t u0,.bool true] else .iface t u0,?_,?_⟩
   ·unfold Instr.typeAssert
    rw [ax (dI ok ha w)]
    simp only
    rw [ax Pq,Ho hm]
    cases co <;> rfl
   ·cases co with
    |false=>exact hx
    |true=>exact Hw hx true
  |false=>
   rw [hm] at h
   simp only [cond_false] at h
   split at h
   ·rename_i z hz
    obtain ⟨rfl,rfl,hv⟩:=Mi z hz h
    obtain ⟨mm,hmm⟩:=Hq hm
    refine ⟨_,?_,hv⟩
    unfold Instr.typeAssert
    rw [ax (dI ok ha w)]
    simp only
    rw [ax Pq,hmm]
    simp only [if_true]
    rw [ax (gi ok hz w)]
    rfl
   ·cases h
 ·rename_i want ha
  cases hx
  split at h
  ·rename_i z hz
   obtain ⟨rfl,rfl,hv⟩:=Mi z hz h
   refine ⟨_,?_,hv⟩
   unfold Instr.typeAssert
   rw [ax (dI ok ha w)]
   simp only [if_true]
   rw [ax (gi ok hz w)]
   rfl
  ·cases h
 ·rename_i d t y hni ha
  obtain ⟨u0,rfl,hu0⟩:∃ u0,x'=.iface t u0∧VR φ y u0:=by cases hx with |iface _ _ u hu=>exact ⟨u,rfl,hu⟩
  by_cases ht:t=a
  ·rw [Fz ht] at h
   simp only [cond_true,Option.some.injEq] at h
   subst h
   subst ht
   refine ⟨if co then .tuple #[u0,.bool true] else u0,?_,?_⟩
   ·unfold Instr.typeAssert
    rw [ax (dI ok ha w)]
    cases d <;> first
     |exact (hni _ rfl).elim
     |(simp only [if_true];cases co <;> rfl)
   ·cases co with
    |false=>exact hu0
    |true=>exact Hw hu0 true
  ·rw [uT ht] at h
   simp only [cond_false] at h
   split at h
   ·rename_i z hz
    obtain ⟨rfl,rfl,hv⟩:=Mi z hz h
    refine ⟨_,?_,hv⟩
    unfold Instr.typeAssert
    rw [ax (dI ok ha w)]
    cases d <;> first
     |exact (hni _ rfl).elim
     |(simp only [if_neg ht,if_true];rw [ax (gi ok hz w)];rfl)
   ·cases h
 ·rename_i d hni ha
  cases hx
  split at h
  ·rename_i z hz
   obtain ⟨rfl,rfl,hv⟩:=Mi z hz h
   refine ⟨_,?_,hv⟩
   unfold Instr.typeAssert
   rw [ax (dI ok ha w)]
   cases d <;> (simp only [if_true];rw [ax (gi ok hz w)];rfl)
  ·cases h
 ·cases h
end
section
variable {E:Env} {base:Nat} {φ:cS} {w:World} {H:Hp}
theorem PO (a:Array UInt8):LR φ (a.map fun b=>Value.int .u8 b.toNat).toList (a.map fun b=>Value.int .u8 b.toNat).toList:=
 ⟨rfl,fun i x y hx hy=>by
  rw [hx] at hy;injection hy with hy;subst hy
  simp at hx
  obtain ⟨b,_,rfl⟩:=hx
  exact .int _ _⟩
theorem BA:∀{xs ys:List Value} {l:List UInt8},LR φ xs ys→kZ xs=some l→ys=xs
 |[],ys,l,h,_=>h.mL
 |x::xs,zs,l,h,e=>by
  obtain ⟨y,ys,rfl,h1,h2⟩:=h.cons_inv
  unfold kZ at e
  split at e
  ·cases ‹_::_=[]›
  ·rename_i n xs' heq
   injection heq with h3 h4
   subst h3 h4
   split at e
   ·rename_i r hr
    cases h1
    rw [BA h2 hr]
   ·cases e
  ·cases e
theorem FK {P:Program} (w:World) (g:Value→ByteArray→Sem (ForInStep ByteArray)) (hg:∀ n s,g (.int .u8 n) s=pure (ForInStep.yield (s.push (UInt8.ofNat n.toNat)))) :
  ∀(xs:List Value) (l:List UInt8) (s:ByteArray),kZ xs=some l→(forIn (m:=Sem) xs s g).run P w=.ok ⟨(s.data.toList++l).toArray⟩ w
 |[],l,s,h=>by simp [kZ] at h;subst h;simp
 |x::xs,l,s,h=>by
  unfold kZ at h
  split at h
  ·cases ‹_::_=[]›
  ·rename_i n xs' heq
   injection heq with h3 h4
   subst h3 h4
   split at h
   ·rename_i r hr
    injection h with h
    subst h
    have:=FK (P:=P) w g hg xs r (s.push (UInt8.ofNat n.toNat)) hr
    simp [hg] at this ⊢
    exact this
   ·cases h
  ·cases h
theorem BJ (ok:E.Ok) (wf:Wf H) {s d:TypeId} {x x' v:Value} {H':Hp} {W R:List Nat} (h:qM E s d x H=some (v,H',W,R)) :
  jJ H H' W R∧∀ φ,VR φ x x'→Good E H H' W R v φ (do Pure.pure (.value (← convert s d x'))):=by
 unfold qM at h
 split at h
 ·rename_i e b hs hd
  split at h
  ·rename_i he
   cases hb:Nat.ble b.size most with
   |false=>rw [hb] at h;cases h
   |true=>
    rw [hb] at h
    simp only [cond_true,Option.some.injEq,Prod.mk.injEq] at h
    obtain ⟨rfl,rfl,rfl,rfl⟩:=h
    have hb:=Nat.le_of_ble_eq_true hb
    refine ⟨jJ.new wf _ _,fun φ hx base w hp hfr=>?_⟩
    cases hx
    have hfree:φ H.n=none:=hfr _ (Nat.le_refl _) (by simp)
    have hlt:b.size<2 ^ 63:=by unfold most at hb;omega
    have hcap:=Qk b.size 0 e (w.tape w.drawn (.appendCap b.size 0 e)) hlt
    generalize hcp:(Question.appendCap b.size 0 e).cut (w.tape w.drawn (.appendCap b.size 0 e))=cap at hcap
    let w1:World:={ w with drawn:=w.drawn+1 }
    let cc:Array Value:=(b.data.map fun b=>Value.int .u8 b.toNat)++Array.replicate (cap-b.size) (.int .u8 0)
    have hcs:cc.size=cap:=by simp [cc];show b.size+(cap-b.size)=cap;omega
    refine mR.value (φ':=fun j=>if j=H.n then some ⟨w.heap.size,0,cap⟩ else φ j) (u:=.slice (some ⟨w.heap.size,0,none⟩) b.size cap)
     (w':={ w1 with heap:=w.heap.push (.cells cc e (cap,cap+1)) }) ?_ ?_ ?_
    ·unfold convert
     rw [ax (dI ok hs w),ax (dI ok hd w)]
     simp only
     rw [ax (dI ok he w)]
     simp only [Conv.stringToBytes]
     have hch:(choose (.appendCap b.size 0 e)).run E.P w=.ok cap w1:=by rw [← hcp];rfl
     rw [ax hch,ax (mg _ _ w1)]
     have hmk:(markStringish ⟨w.heap.size,0,none⟩).run E.P { w1 with heap:=w1.heap.push (.cells cc e (0,0)) }=.ok () { w1 with heap:=w.heap.push (.cells cc e (cap,cap+1)) }:=by
      unfold markStringish
      have hsh:(shape w.heap.size).run E.P { w1 with heap:=w1.heap.push (.cells cc e (0,0)) }=.ok (some (e,cap)) { w1 with heap:=w1.heap.push (.cells cc e (0,0)) }:=by
       simp [shape,Sem.run,World.shape?,w1,hcs]
      rw [ax hsh]
      simp only
      show Result.ok () (World.freeze _ _ _)=_
      congr 1
      simp only [World.freeze]
      rw [if_neg aa]
      congr 1
      apply Array.ext_getElem?
      intro j
      rw [Array.getElem?_modify]
      simp only [w1]
      by_cases hj:w.heap.size=j
      ·subst hj;simp
      ·rw [if_neg hj,Array.getElem?_push,Array.getElem?_push]
       rw [if_neg (fun h=>hj h.symm),if_neg (fun h=>hj h.symm)]
     rw [ax hmk]
     rfl
    ·have:=VR.NB (φ:=fun j=>if j=H.n then some ⟨w.heap.size,0,cap⟩ else φ j) H.n 0 b.size cap 1 ⟨w.heap.size,0,cap⟩ (by simp) hcap (by simp)
     simpa using this
    ·refine gF.row cap _ cc e cap (cap+1) hfree hp.bs rfl rfl rfl rfl aa (by simp;exact hcap) (fun j y hy=>?_) (fun j hj=>by omega)
     obtain ⟨u,hu,hv⟩:=(PO (φ:=φ) b.data).get hy
     refine ⟨u,?_,hv⟩
     have:j<(b.data.map fun b=>Value.int .u8 b.toNat).size:=by simpa using (List.getElem?_eq_some_iff.1 hu).1
     simp only [cc]
     rw [Array.getElem?_append_left this]
     simpa using hu
  ·cases h
 ·rename_i e hs hd
  split at h
  ·rename_i he
   simp only [Option.some.injEq,Prod.mk.injEq] at h
   obtain ⟨rfl,rfl,rfl,rfl⟩:=h
   refine ⟨jJ.same wf _,fun φ hx base w hp hfr=>mR.of_run (.string _) ?_⟩
   cases hx
   unfold convert
   rw [ax (dI ok hs w),ax (dI ok hd w)]
   simp only
   rw [ax (dI ok he w)]
   rfl
  ·cases h
 ·rename_i e b off n c hs hd
  split at h
  ·rename_i he
   split at h
   rotate_left
   ·cases h
   rename_i xs hr
   split at h
   rotate_left
   ·cases h
   rename_i l hl
   simp only [Option.some.injEq,Prod.mk.injEq] at h
   obtain ⟨rfl,rfl,rfl,rfl⟩:=h
   refine ⟨jJ.same wf _,fun φ hx base w hp hfr=>mR.of_run (.string _) ?_⟩
   obtain ⟨lc,c',h1,h2,rfl,_⟩:=hx.uz
   obtain ⟨ys,g1,g2,g3⟩:=zR hp (by simp) h1 hr
   have:=BA g2 hl
   subst this
   unfold convert
   rw [ax (dI ok hs w),ax (dI ok hd w)]
   simp only
   rw [ax (dI ok he w)]
   simp only [Conv.bytesToString]
   rw [ax (run_loadCells ys g1 g3)]
   have hk:=fun g hg=>FK (P:=E.P) w g hg ys l ByteArray.empty hl
   simp at hk ⊢
   rw [hk _ (fun n s=>rfl)]
   rfl
  ·cases h
 ·cases h
end
section
variable {E:Env} {H:Hp}
theorem EP {P:Program} {s:Sem Next} {v:Value} (h:bU P s=some (.value v)) (w:World):s.run P w=.ok (.value v) w:=JA s _ h w
theorem Fo {T:Tm} {o:Oper} {v:Value} (Z1:∀ cs b,o.op≠.select cs b) (h:eo E T o=some v) {φ:cS} {ρ:Operand→Value} (he:J2 E φ T ρ) (w:World) :
  (execOp ρ o).run E.P w=.ok (.value v) w∧VR φ v v:=by
 unfold eo at h
 cases hg:AK E T o.op.operands.toList with
 |false=>rw [hg] at h;cases h
 |true=>
  rw [hg] at h
  simp only [cond_true] at h
  split at h
  ·rename_i u hp
   cases Yu:ground u with
   |false=>rw [Yu] at h;cases h
   |true=>
    rw [Yu] at h
    simp only [cond_true,Option.some.injEq] at h
    subst h
    refine ⟨?_,.hG Yu⟩
    have:execOp ρ o=execOp (fun x=>(ev E T x).getD bJ) o:=by
     refine execOp_congr o Z1 fun x hx=>?_
     unfold AK at hg
     rw [List.all_eq_true] at hg
     have hx':=hg x (by simpa using hx)
     cases hv:ev E T x with
     |none=>rw [hv] at hx';cases hx'
     |some y=>
      rw [hv] at hx'
      simp only [Option.getD_some]
      exact (he x y hv).iP hx'
    rw [this]
    exact EP hp w
  ·cases h
theorem mR.ground {T:Tm} {o:Oper} {v:Value} (Z1:∀ cs b,o.op≠.select cs b) (h:eo E T o=some v) {base:Nat} {φ:cS} {w:World} {ρ:Operand→Value} (he:J2 E φ T ρ) :
  mR E base φ w H (execOp ρ o) v H []:=
 ⟨_,v,w,φ,(Fo Z1 h he w).1,.inl rfl,(Fo Z1 h he w).2,.same rfl rfl rfl rfl⟩
def qB (E:Env) (H H':Hp) (W R:List Nat) (v:Value) (T:Tm) (o:Oper):Prop:=
 jJ H H' W R∧∀(base:Nat) (φ:cS) (w:World) (ρ:Operand→Value),Pre E base φ w H R→gM φ H.n H'.n→J2 E φ T ρ→mR E base φ w H (execOp ρ o) v H' W
theorem qB.pure {T:Tm} {o:Oper} {v:Value} (wf:Wf H) (h:∀ φ ρ,J2 E φ T ρ→∃ u,VR φ v u∧∀ w,(execOp ρ o).run E.P w=.ok (.value u) w):qB E H H [] [] v T o:=
 ⟨jJ.same wf _,fun base φ w ρ hp hf he=>by
  obtain ⟨u,hu,hr⟩:=h φ ρ he
  exact ⟨_,u,w,φ,hr w,.inl rfl,hu,.same rfl rfl rfl rfl⟩⟩
theorem qB.ground {T:Tm} {o:Oper} {v:Value} (wf:Wf H) (Z1:∀ cs b,o.op≠.select cs b) (h:eo E T o=some v):qB E H H [] [] v T o:=
 ⟨jJ.same wf _,fun base φ w ρ hp hf he=>mR.ground Z1 h he⟩
theorem Wc {P:Program} {s:Sem Value} {u:Value} {w w':World} (h:s.run P w=.ok u w'):(do Pure.pure (Next.value (← s)):Sem Next).run P w=.ok (.value u) w':=by
 rw [ax h];rfl
theorem Aj {P:Program} {op:BinOp} {t:TypeId} {x y:Operand} {a b:Value} (h:∀ c d,a=.agg c→b=.agg d→False) (h':a=.nilIface→b=.nilIface→False) (w:World):(eqGuard op t x y a b).run P w=.ok () w:=by
 cases op
 all_goals try rfl
 all_goals
  unfold eqGuard
  rw [if_neg (by simp)]
  split
  ·exact (h' rfl rfl).elim
  ·rename_i c d;exact (h c d rfl rfl).elim
  ·rfl
theorem Gc {T:Tm} {xs:Array Operand} {v:Value} (h:HV E T xs.toList=some [v]) {φ:cS} {ρ:Operand→Value} (he:J2 E φ T ρ):∃ u,xs.map ρ=#[u]∧VR φ v u:=by
 obtain ⟨y,ys,h1,h2,h3⟩:=(vW he h).cons_inv
 have:=h3.mL
 subst this
 refine ⟨y,?_,h2⟩
 apply Array.ext'
 simpa using h1
theorem Mg {T:Tm} {xs:Array Operand} {v v2:Value} (h:HV E T xs.toList=some [v,v2]) {φ:cS} {ρ:Operand→Value} (he:J2 E φ T ρ):∃ u u2,xs.map ρ=#[u,u2]∧VR φ v u∧VR φ v2 u2:=by
 obtain ⟨y,ys,h1,h2,h3⟩:=(vW he h).cons_inv
 obtain ⟨y2,ys2,h4,h5,h6⟩:=h3.cons_inv
 have:=h6.mL
 subst this
 subst h4
 refine ⟨y,y2,?_,h2,h5⟩
 apply Array.ext'
 simpa using h1
theorem Fi {t:Nat} {x y:Value} {r:Bool} (h:X3 E t x y=some r) {φ:cS} {x' y':Value} (hx:VR φ x x') (hy:VR φ y y') :
  (∀ c d,x'=.agg c→y'=.agg d→False)∧(x'=.nilIface→y'=.nilIface→False)∧(∀ w,(binOp .eql t x' y').run E.P w=(do Pure.pure (Value.bool (← Op.equal t x' y')):Sem Value).run E.P w)∧
  (∀ w,(binOp .neq t x' y').run E.P w=(do Pure.pure (Value.bool (!(← Op.equal t x' y'))):Sem Value).run E.P w):=by
 unfold X3 at h
 split at h <;> first
  |(cases h;done)
  |(cases hx <;> cases hy <;> (refine ⟨?_,?_,(fun _=>rfl),(fun _=>rfl)⟩ <;> (intros;contradiction)))
theorem FO (ok:E.Ok) (wf:Wf H) {T:Tm} {o:Oper} {v:Value} {H':Hp} {W R:List Nat} (h:simple E o T H=some (v,H',W,R)):qB E H H' W R v T o:=by
 obtain ⟨dst,op,ty,pos,after,guard⟩:=o
 unfold simple at h
 simp only at h
 split at h
 ·
  rename_i x
  split at h
  ·rename_i y hy
   simp only [Option.some.injEq,Prod.mk.injEq] at h
   obtain ⟨rfl,rfl,rfl,rfl⟩:=h
   exact .pure wf fun φ ρ he=>⟨ρ x,he x _ hy,fun w=>rfl⟩
  ·cases h
 ·
  rename_i x
  split at h
  ·rename_i y hy
   simp only [Option.some.injEq,Prod.mk.injEq] at h
   obtain ⟨rfl,rfl,rfl,rfl⟩:=h
   exact .pure wf fun φ ρ he=>⟨ρ x,he x _ hy,fun w=>rfl⟩
  ·cases h
 ·
  rename_i c a b
  split at h
  ·rename_i hc
   split at h
   ·rename_i y hy
    simp only [Option.some.injEq,Prod.mk.injEq] at h
    obtain ⟨rfl,rfl,rfl,rfl⟩:=h
    refine .pure wf fun φ ρ he=>⟨ρ a,he a _ hy,fun w=>?_⟩
    have:=(he c _ hc).dS rfl
    simp [execOp,this,asBool,ax]
   ·cases h
  ·rename_i hc
   split at h
   ·rename_i y hy
    simp only [Option.some.injEq,Prod.mk.injEq] at h
    obtain ⟨rfl,rfl,rfl,rfl⟩:=h
    refine .pure wf fun φ ρ he=>⟨ρ b,he b _ hy,fun w=>?_⟩
    have:=(he c _ hc).dS rfl
    simp [execOp,this,asBool,ax]
   ·cases h
  ·cases h
 ·
  rename_i t
  split at h
  ·rename_i z n hz hn
   cases hc:(ground z&&Nat.beq z.cells.size n) with
   |false=>rw [hc] at h;cases h
   |true=>
    rw [hc] at h
    simp only [cond_true,Option.some.injEq,Prod.mk.injEq] at h
    obtain ⟨rfl,rfl,rfl,rfl⟩:=h
    rw [Bool.and_eq_true] at hc
    refine ⟨jJ.new wf _ _,fun base φ w ρ hp hf he=>?_⟩
    have hfree:φ H.n=none:=hf _ (Nat.le_refl _) (by simp)
    refine mR.value (φ':=fun j=>if j=H.n then some ⟨w.heap.size,0,z.cells.toList.length⟩ else φ j) (u:=.pointer (some ⟨w.heap.size,0,none⟩)) (w':={ w with heap:=w.heap.push (.cells z.cells t (0,0)) }) ?_ ?_ ?_
    ·unfold Instr.alloc
     rw [ax (gi ok hz w)]
     simp only
     rw [ax (D4 t z w)];rfl
    ·have:=VR.ptr (φ:=fun j=>if j=H.n then some ⟨w.heap.size,0,z.cells.toList.length⟩ else φ j) H.n 0 ⟨w.heap.size,0,z.cells.toList.length⟩ (by simp)
     simpa using this
    ·exact gF.Hs hp.bs hfree (jz hc.1).toList (by simp) rfl rfl rfl
  ·cases h
 ·
  rename_i t x
  split at h
  ·rename_i y hy
   simp only [Option.some.injEq,Prod.mk.injEq] at h
   obtain ⟨rfl,rfl,rfl,rfl⟩:=h
   refine ⟨jJ.new wf _ _,fun base φ w ρ hp hf he=>?_⟩
   have hfree:φ H.n=none:=hf _ (Nat.le_refl _) (by simp)
   refine mR.value (φ':=fun j=>if j=H.n then some ⟨w.heap.size,0,y.cells.toList.length⟩ else φ j) (u:=.pointer (some ⟨w.heap.size,0,none⟩)) (w':={ w with heap:=w.heap.push (.cells (ρ x).cells t (0,0)) }) ?_ ?_ ?_
   ·unfold Instr.box
    rw [ax (D4 t (ρ x) w)];rfl
   ·have:=VR.ptr (φ:=fun j=>if j=H.n then some ⟨w.heap.size,0,y.cells.toList.length⟩ else φ j) H.n 0 ⟨w.heap.size,0,y.cells.toList.length⟩ (by simp)
    simpa using this
   ·exact gF.Hs hp.bs hfree (he x y hy).cells.toList (by simp) rfl rfl rfl
  ·cases h
 ·
  rename_i t ps
  split at h
  ·rename_i y hy
   simp only [Option.some.injEq,Prod.mk.injEq] at h
   obtain ⟨rfl,rfl,rfl,rfl⟩:=h
   refine ⟨jJ.same wf _,fun base φ w ρ hp hf he=>?_⟩
   obtain ⟨u,hr,hu⟩:=PN (w:=w) ok he hy
   exact mR.of_run hu hr
  ·cases h
 ·
  rename_i t len ps
  obtain ⟨h1,h2⟩:=EF ok wf h
  exact ⟨h1,fun base φ w ρ hp hf he=>h2 φ ρ he base w hp hf⟩
 ·
  rename_i t x
  split at h
  ·rename_i b off hx
   split at h
   ·rename_i y hy
    simp only [Option.some.injEq,Prod.mk.injEq] at h
    obtain ⟨rfl,rfl,rfl,rfl⟩:=h
    refine ⟨jJ.same wf _,fun base φ w ρ hp hf he=>?_⟩
    obtain ⟨l,hl,he'⟩:=(he x _ hx).qc
    obtain ⟨u,hr,hu⟩:=FM ok hp (by simp) hl hy
    refine mR.of_run hu ?_
    simp only [he',Instr.loadAt,Instr.sureAddr]
    rw [ax (run_pure _ w)];exact hr
   ·cases h
  ·cases h
 ·
  rename_i t x y
  split at h
  ·rename_i b off v' hx hy
   split at h
   ·rename_i H2 hst
    simp only [Option.some.injEq,Prod.mk.injEq] at h
    obtain ⟨rfl,rfl,rfl,rfl⟩:=h
    unfold az at hst
    split at hst
    ·rename_i c e hg
     split at hst
     ·rename_i n hn
      cases hc:(Nat.beq v'.cells.size n&&v'.cells.toList.all one&&Nat.ble (off+n) c.length) with
      |false=>rw [hc] at hst;cases hst
      |true=>
       rw [hc] at hst
       simp only [cond_true,Option.some.injEq] at hst
       subst hst
       simp only [Bool.and_eq_true] at hc
       obtain ⟨⟨h1,h2⟩,h3⟩:=hc
       have h1:=Nat.eq_of_beq_eq_true h1
       have h3:=Nat.le_of_ble_eq_true h3
       refine ⟨jJ.set wf _ (by rw [hg];rfl) (by simp),fun base φ w ρ hp hf he=>?_⟩
       obtain ⟨l,hl,he'⟩:=(he x _ hx).qc
       have hvc:=(he y _ hy).cells
       obtain ⟨w',hw,hout⟩:=gF.write (o:=off) hp wf (by simp) hl hg (by simp;omega) hvc.toList (xY h2)
       refine mR.unit ?_ hout
       simp only [he',Instr.storeAt,Instr.sureAddr]
       rw [ax (run_pure _ w)]
       unfold storeVar
       rw [ax (ec ok hn w)]
       rw [if_neg (by rw [← hvc.1,h1];simp)]
       exact hw
     ·cases hst
    ·cases hst
   ·cases h
  ·cases h
 ·
  rename_i x
  split at h
  ·rename_i a hx
   simp only [Option.some.injEq,Prod.mk.injEq] at h
   obtain ⟨rfl,rfl,rfl,rfl⟩:=h
   refine .pure wf fun φ ρ he=>⟨ρ x,he x _ hx,fun w=>?_⟩
   have hv:=he x _ hx
   generalize YM:ρ x=y at hv
   cases hv
   simp only [execOp,YM]
   rfl
  ·rename_i f a b hx
   simp only [Option.some.injEq,Prod.mk.injEq] at h
   obtain ⟨rfl,rfl,rfl,rfl⟩:=h
   refine .pure wf fun φ ρ he=>⟨ρ x,he x _ hx,fun w=>?_⟩
   have hv:=he x _ hx
   generalize YM:ρ x=y at hv
   cases hv
   simp only [execOp,YM]
   rfl
  ·rename_i t y hx
   simp only [Option.some.injEq,Prod.mk.injEq] at h
   obtain ⟨rfl,rfl,rfl,rfl⟩:=h
   refine .pure wf fun φ ρ he=>⟨ρ x,he x _ hx,fun w=>?_⟩
   have hv:=he x _ hx
   generalize YM:ρ x=y at hv
   cases hv
   simp only [execOp,YM]
   rfl
  ·cases h
 ·
  rename_i op t x y yt
  split at h
  ·rename_i u hu
   simp only [Option.some.injEq,Prod.mk.injEq] at h
   obtain ⟨rfl,rfl,rfl,rfl⟩:=h
   exact .ground wf (fun _ _=>by simp) hu
  ·split at h
   ·rename_i xv yv hx hy _
    split at h
    ·rename_i r hr
     simp only [Option.some.injEq,Prod.mk.injEq] at h
     obtain ⟨rfl,rfl,rfl,rfl⟩:=h
     refine ⟨jJ.same wf _,fun base φ w ρ hp hf he=>mR.of_run (.bool r) ?_⟩
     have hsh:=Fi hr (he x _ hx) (he y _ hy)
     rw [ax (Aj hsh.1 hsh.2.1 w),hsh.2.2.1 w,ax (WM ok (he x _ hx) (he y _ hy) hr)]
     rfl
    ·cases h
   ·rename_i xv yv hx hy _
    split at h
    ·rename_i r hr
     simp only [Option.some.injEq,Prod.mk.injEq] at h
     obtain ⟨rfl,rfl,rfl,rfl⟩:=h
     refine ⟨jJ.same wf _,fun base φ w ρ hp hf he=>mR.of_run (.bool (!r)) ?_⟩
     have hsh:=Fi hr (he x _ hx) (he y _ hy)
     rw [ax (Aj hsh.1 hsh.2.1 w),hsh.2.2.2 w,ax (WM ok (he x _ hx) (he y _ hy) hr)]
     rfl
    ·cases h
   ·cases h
 ·
  split at h
  ·rename_i u hu
   simp only [Option.some.injEq,Prod.mk.injEq] at h
   obtain ⟨rfl,rfl,rfl,rfl⟩:=h
   exact .ground wf (fun _ _=>by simp) hu
  ·cases h
 ·
  rename_i s d x
  split at h
  ·rename_i u hu
   simp only [Option.some.injEq,Prod.mk.injEq] at h
   obtain ⟨rfl,rfl,rfl,rfl⟩:=h
   exact .ground wf (fun _ _=>by simp) hu
  ·split at h
   ·rename_i y hy
    obtain ⟨h1,h2⟩:jJ H H' W R∧∀ x' φ,VR φ y x'→Good E H H' W R v φ (do Pure.pure (.value (← convert s d x'))):=
     ⟨(BJ (x':=y) ok wf h).1,fun x'=>(BJ (x':=x') ok wf h).2⟩
    exact ⟨h1,fun base φ w ρ hp hf he=>h2 (ρ x) φ (he x _ hy) base w hp hf⟩
   ·cases h
 ·
  rename_i t x
  split at h
  ·cases h
  ·rename_i y d hni hy ht
   simp only [Option.some.injEq,Prod.mk.injEq] at h
   obtain ⟨rfl,rfl,rfl,rfl⟩:=h
   refine .pure wf fun φ ρ he=>⟨.iface t (ρ x),.iface _ _ _ (he x _ hy),fun w=>?_⟩
   refine Wc ?_
   unfold Instr.makeInterface
   rw [ax (dI ok ht w)]
   cases d <;> first
    |rfl
    |exact (hni _ rfl).elim
  ·cases h
 ·
  rename_i f a b
  split at h
  ·rename_i av bv ha hb
   simp only [Option.some.injEq,Prod.mk.injEq] at h
   obtain ⟨rfl,rfl,rfl,rfl⟩:=h
   refine .pure wf fun φ ρ he=>⟨.func (.func f) (a.map ρ) (b.map ρ),?_,fun w=>rfl⟩
   have h1:=(vW he ha).toArray
   have h2:=(vW he hb).toArray
   have e1:(a.toList.map ρ).toArray=a.map ρ:=by apply Array.ext';simp
   have e2:(b.toList.map ρ).toArray=b.map ρ:=by apply Array.ext';simp
   rw [e1] at h1
   rw [e2] at h2
   exact .func _ _ _ _ _ h1.1 h1.2 h2.1 h2.2
  ·cases h
 ·
  rename_i t r
  have mk:∀{v:Value} {H':Hp} {W R:List Nat},some (Value.map (some H.n),H.new (.map [] 0),([]:List Nat),([]:List Nat))=some (v,H',W,R)→
    (∀ φ ρ w,J2 E φ T ρ→(Instr.makeMap t (r.map ρ)).run E.P w=.ok (.map (some w.heap.size)) { w with heap:=w.heap.push (.map #[] 0) })→qB E H H' W R v T ⟨dst,.makeMap t r,ty,pos,after,guard⟩:=by
   intro v H' W R h hr
   simp only [Option.some.injEq,Prod.mk.injEq] at h
   obtain ⟨rfl,rfl,rfl,rfl⟩:=h
   refine ⟨jJ.new wf _ _,fun base φ w ρ hp hf he=>?_⟩
   have hfree:φ H.n=none:=hf _ (Nat.le_refl _) (by simp)
   refine mR.value (φ':=fun j=>if j=H.n then some ⟨w.heap.size,0,0⟩ else φ j) (hr φ ρ w he) ?_ (gF.Zf hfree hp.bs rfl rfl rfl rfl)
   have:=VR.map (φ:=fun j=>if j=H.n then some ⟨w.heap.size,0,0⟩ else φ j) H.n ⟨w.heap.size,0,0⟩ (by simp)
   simpa using this
  split at h
  ·rename_i hr
   exact mk h fun φ ρ w he=>by
    rcases Kp he hr with ⟨rfl,_⟩ |⟨_,_,_,Rn,_⟩
    ·rfl
    ·cases Rn
  ·rename_i k n hr
   split at h
   ·rename_i kt vt ht
    exact mk h fun φ ρ w he=>by
     rcases Kp he hr with ⟨_,Rn⟩ |⟨y,u,rfl,hu,hv⟩
     ·cases Rn
     ·injection hu with hu
      subst hu
      have:=hv.dS rfl
      simp only [Option.map_some,this]
      unfold Instr.makeMap
      simp only
      rw [ax (dI ok ht w)]
      rfl
   ·cases h
  ·cases h
 ·
  rename_i t l c
  split at h
  ·rename_i lv cv hl hc
   obtain ⟨h1,h2⟩:jJ H H' W R∧∀ l' c' φ,VR φ lv l'→VR φ cv c'→Good E H H' W R v φ (do Pure.pure (.value (← Instr.makeSlice t l' c'))):=
    ⟨(yF (l':=lv) (c':=cv) ok wf h).1,fun l' c'=>(yF (l':=l') (c':=c') ok wf h).2⟩
   exact ⟨h1,fun base φ w ρ hp hf he=>h2 _ _ φ (he l _ hl) (he c _ hc) base w hp hf⟩
  ·cases h
 ·
  rename_i t x l hi m
  split at h
  ·split at h
   ·rename_i u hu
    simp only [Option.some.injEq,Prod.mk.injEq] at h
    obtain ⟨rfl,rfl,rfl,rfl⟩:=h
    exact .ground wf (fun _ _=>by simp) hu
   ·cases h
  ·rename_i xv lv hv mv _ hx hl hh hm
   split at h
   ·rename_i u hu
    simp only [Option.some.injEq,Prod.mk.injEq] at h
    obtain ⟨rfl,rfl,rfl,rfl⟩:=h
    refine ⟨jJ.same wf _,fun base φ w ρ hp hf he=>?_⟩
    obtain ⟨r,hr,HX⟩:=SM (w:=w) ok (he x _ hx) (Kq he hl) (Kq he hh) (Kq he hm) hu
    exact mR.of_run HX hr
   ·cases h
  ·cases h
 ·
  rename_i t x f
  split at h
  ·rename_i xv hx
   split at h
   ·rename_i u hu
    simp only [Option.some.injEq,Prod.mk.injEq] at h
    obtain ⟨rfl,rfl,rfl,rfl⟩:=h
    refine ⟨jJ.same wf _,fun base φ w ρ hp hf he=>?_⟩
    obtain ⟨r,hr,HX⟩:=Ge (w:=w) ok (he x _ hx) hu
    exact mR.of_run HX hr
   ·cases h
  ·cases h
 ·
  rename_i t x f
  split at h
  ·rename_i cs fs hx ht
   split at h
   ·rename_i fd hfd
    split at h
    ·rename_i u hu
     simp only [Option.some.injEq,Prod.mk.injEq] at h
     obtain ⟨rfl,rfl,rfl,rfl⟩:=h
     refine ⟨jJ.same wf _,fun base φ w ρ hp hf he=>?_⟩
     obtain ⟨cs',hcs,har⟩:=(he x _ hx).xX
     obtain ⟨r,hr,HX⟩:=Nw (w:=w) ok har hu
     refine mR.of_run HX ?_
     unfold Instr.field
     rw [ax (dI ok ht w)]
     simp only [hfd,hcs,asAgg]
     rw [ax (run_pure _ w)];exact hr
    ·cases h
   ·cases h
  ·cases h
 ·
  rename_i t x i
  split at h
  ·rename_i xv iv hx hi
   split at h
   ·rename_i u hu
    simp only [Option.some.injEq,Prod.mk.injEq] at h
    obtain ⟨rfl,rfl,rfl,rfl⟩:=h
    refine ⟨jJ.same wf _,fun base φ w ρ hp hf he=>?_⟩
    obtain ⟨r,hr,HX⟩:=G2 (w:=w) ok (he x _ hx) (he i _ hi) hu
    exact mR.of_run HX hr
   ·cases h
  ·cases h
 ·
  rename_i t x i
  split at h
  ·rename_i u hu
   simp only [Option.some.injEq,Prod.mk.injEq] at h
   obtain ⟨rfl,rfl,rfl,rfl⟩:=h
   exact .ground wf (fun _ _=>by simp) hu
  ·split at h
   ·rename_i cs k iv n e hx hi ht
    split at h
    ·rename_i sz hsz
     cases hc:(decide (0≤iv)&&decide (iv<(n:Int))) with
     |false=>rw [hc] at h;cases h
     |true=>
      rw [hc] at h
      simp only [cond_true] at h
      simp at hc
      split at h
      ·rename_i u hu
       simp only [Option.some.injEq,Prod.mk.injEq] at h
       obtain ⟨rfl,rfl,rfl,rfl⟩:=h
       refine ⟨jJ.same wf _,fun base φ w ρ hp hf he=>?_⟩
       obtain ⟨cs',hcs,har⟩:=(he x _ hx).xX
       have hiv:=(he i _ hi).dS rfl
       obtain ⟨r,hr,HX⟩:=Nw (w:=w) ok har hu
       refine mR.of_run HX ?_
       unfold Instr.index
       simp only [hcs,hiv,asIntOf]
       rw [ax (run_pure _ w),ax (dI ok ht w)]
       simp only
       rw [if_pos hc,ax (ec ok hsz w)]
       exact hr
      ·cases h
    ·cases h
   ·cases h
 ·
  rename_i t m k co
  split at h
  ·rename_i mv kv hm hk
   obtain ⟨h1,h2⟩:jJ H H' W R∧∀ m' k' φ,VR φ mv m'→VR φ kv k'→Good E H H' W R v φ (do Pure.pure (.value (← Instr.lookup t m' k' co))):=
    ⟨(Fy (m':=mv) (k':=kv) ok wf h).1,fun m' k'=>(Fy (m':=m') (k':=k') ok wf h).2⟩
   exact ⟨h1,fun base φ w ρ hp hf he=>h2 _ _ φ (he m _ hm) (he k _ hk) base w hp hf⟩
  ·cases h
 ·
  rename_i t m k x
  split at h
  ·rename_i mv kv xv hm hk hx
   obtain ⟨h1,h2⟩:jJ H H' W R∧∀ m' k' x' φ,VR φ mv m'→VR φ kv k'→VR φ xv x'→Good E H H' W R v φ (do Instr.mapUpdate t m' k' x';Pure.pure .skip):=
    ⟨(uS (m':=mv) (k':=kv) (v':=xv) ok wf h).1,fun m' k' x'=>(uS (m':=m') (k':=k') (v':=x') ok wf h).2⟩
   exact ⟨h1,fun base φ w ρ hp hf he=>h2 _ _ _ φ (he m _ hm) (he k _ hk) (he x _ hx) base w hp hf⟩
  ·cases h
 ·
  rename_i t m k x
  split at h
  ·rename_i mv kv xv hm hk hx
   obtain ⟨h1,h2⟩:jJ H H' W R∧∀ m' k' x' φ,VR φ mv m'→VR φ kv k'→VR φ xv x'→Good E H H' W R v φ (do Instr.mapUpdate t m' k' x';Pure.pure .skip):=
    ⟨(uS (m':=mv) (k':=kv) (v':=xv) ok wf h).1,fun m' k' x'=>(uS (m':=m') (k':=k') (v':=x') ok wf h).2⟩
   exact ⟨h1,fun base φ w ρ hp hf he=>h2 _ _ _ φ (he m _ hm) (he k _ hk) (he x _ hx) base w hp hf⟩
  ·cases h
 ·
  rename_i x xt a co
  split at h
  ·rename_i xv hx
   split at h
   ·rename_i u hu
    simp only [Option.some.injEq,Prod.mk.injEq] at h
    obtain ⟨rfl,rfl,rfl,rfl⟩:=h
    refine ⟨jJ.same wf _,fun base φ w ρ hp hf he=>?_⟩
    obtain ⟨r,hr,HX⟩:=NS (w:=w) (xt:=xt) ok (he x _ hx) hu
    exact mR.of_run HX hr
   ·cases h
  ·cases h
 ·
  rename_i x i
  split at h
  ·rename_i vs hx
   split at h
   ·rename_i u hu
    simp only [Option.some.injEq,Prod.mk.injEq] at h
    obtain ⟨rfl,rfl,rfl,rfl⟩:=h
    refine ⟨jJ.same wf _,fun base φ w ρ hp hf he=>?_⟩
    obtain ⟨vs',hvs,har⟩:=(he x _ hx).zW
    obtain ⟨r,hr,HX⟩:=har.get hu
    refine mR.of_run HX ?_
    simp only [hvs,Instr.extract,hr];rfl
   ·cases h
  ·cases h
 ·
  rename_i args ts
  split at h
  ·rename_i xv hx
   obtain ⟨h1,h2⟩:jJ H H' W R∧∀ x' φ,VR φ xv x'→Good E H H' W R v φ (do Pure.pure (.value (← Builtin.len_ ts ty #[x']))):=
    ⟨(RT (ty:=ty) (x':=xv) ok wf h).1,fun x'=>(RT (ty:=ty) (x':=x') ok wf h).2⟩
   refine ⟨h1,fun base φ w ρ hp hf he=>?_⟩
   obtain ⟨u,hu,hv⟩:=Gc hx he
   have:=h2 u φ hv base w hp hf
   rw [← hu] at this
   exact this
  ·cases h
 ·
  rename_i args ts
  split at h
  ·rename_i xv hx
   obtain ⟨h1,h2⟩:jJ H H' W R∧∀ x' φ,VR φ xv x'→Good E H H' W R v φ (do Pure.pure (.value (← Builtin.cap_ ts ty #[x']))):=
    ⟨(PW (ty:=ty) (x':=xv) ok wf h).1,fun x'=>(PW (ty:=ty) (x':=x') ok wf h).2⟩
   refine ⟨h1,fun base φ w ρ hp hf he=>?_⟩
   obtain ⟨u,hu,hv⟩:=Gc hx he
   have:=h2 u φ hv base w hp hf
   rw [← hu] at this
   exact this
  ·cases h
 ·
  rename_i args ts
  split at h
  ·rename_i sv xv hx
   refine ⟨(E8 (ty:=ty) (s':=sv) (x':=xv) ok wf h).1,fun base φ w ρ hp hf he=>?_⟩
   obtain ⟨u,u2,hu,hv,W0⟩:=Mg hx he
   have:=(E8 (ty:=ty) (s':=u) (x':=u2) ok wf h).2 base φ w hp hf hv W0
   rw [← hu] at this
   exact this
  ·cases h
 ·
  rename_i args ts
  split at h
  ·rename_i sv xv hx
   refine ⟨(Mb (ty:=ty) (d':=sv) (s':=xv) ok wf h).1,fun base φ w ρ hp hf he=>?_⟩
   obtain ⟨u,u2,hu,hv,W0⟩:=Mg hx he
   have:=(Mb (ty:=ty) (d':=u) (s':=u2) ok wf h).2 φ hv W0 base w hp hf
   rw [← hu] at this
   exact this
  ·cases h
 ·
  rename_i args ts
  split at h
  ·rename_i xv hx
   obtain ⟨h1,h2⟩:jJ H H' W R∧∀ x' φ,VR φ xv x'→Good E H H' W R v φ (do Pure.pure (.value (← Builtin.clear_ ts ty #[x']))):=
    ⟨(IC (ty:=ty) (x':=xv) ok wf h).1,fun x'=>(IC (ty:=ty) (x':=x') ok wf h).2⟩
   refine ⟨h1,fun base φ w ρ hp hf he=>?_⟩
   obtain ⟨u,hu,hv⟩:=Gc hx he
   have:=h2 u φ hv base w hp hf
   rw [← hu] at this
   exact this
  ·cases h
 ·
  split at h
  ·rename_i u hu
   simp only [Option.some.injEq,Prod.mk.injEq] at h
   obtain ⟨rfl,rfl,rfl,rfl⟩:=h
   exact .ground wf (fun _ _=>by simp) hu
  ·cases h
 ·
  split at h
  ·rename_i u hu
   simp only [Option.some.injEq,Prod.mk.injEq] at h
   obtain ⟨rfl,rfl,rfl,rfl⟩:=h
   exact .ground wf (fun _ _=>by simp) hu
  ·cases h
 ·cases h
end
def TR (φ:cS) (T:Tm) (tm:Array Value) (nt:Nat):Prop:=tm.size=nt∧∀ t v,T.get t=some v→∃ u,tm[t]?=some u∧VR φ v u
inductive DR (φ:cS):List (Value×List Value)→List Deferred→Prop
 |nil:DR φ [] []
 |cons (g:FuncId) (a b a' b':Array Value) (args args':List Value) (ds:List (Value×List Value)) (es:List Deferred) :
   AR φ a a'→AR φ b b'→LR φ args args'→DR φ ds es→DR φ ((.func (.func g) a b,args)::ds) ({ target:=.fn (.func g) b',args:=a'++args'.toArray }::es)
section
variable {E:Env} {base:Nat} {φ ψ:cS}
theorem TR.mono (h:∀ i l,φ i=some l→ψ i=some l) {T:Tm} {tm:Array Value} {nt:Nat} (ht:TR φ T tm nt):TR ψ T tm nt:=
 ⟨ht.1,fun t v hv=>by obtain ⟨u,h1,h2⟩:=ht.2 t v hv;exact ⟨u,h1,h2.mono h⟩⟩
theorem DR.mono (h:∀ i l,φ i=some l→ψ i=some l) {d:List (Value×List Value)} {e:List Deferred} (hd:DR φ d e):DR ψ d e:=by
 induction hd with
 |nil=>exact .nil
 |cons g a b a' b' args args' ds es h1 h2 h3 _ ih=>exact .cons g a b a' b' args args' ds es (h1.mono h) (h2.mono h) (h3.mono h) ih
theorem TR.ev {H:Hp} {w:World} {T:Tm} {a:Act} {nt:Nat} (ht:TR φ T a.tmps nt) (hg:∀ g,g<E.ng→∃ l,φ g=some l∧l.gK=g∧l.off=0):J2 E φ T a.eval:=by
 intro x v h
 cases x with
 |tmp t=>
  obtain ⟨u,h1,h2⟩:=ht.2 t v h
  simp only [Act.eval,Array.getD_eq_getD_getElem?,h1,Option.getD_some]
  exact h2
 |const c=>
  simp only [Am.ev] at h
  cases hc:ground c with
  |false=>rw [hc] at h;cases h
  |true=>rw [hc] at h;injection h with h;subst h;exact .hG hc
 |global g=>
  simp only [Am.ev] at h
  cases hc:Nat.blt g E.ng with
  |false=>rw [hc] at h;cases h
  |true=>
   rw [hc] at h;injection h with h;subst h
   obtain ⟨l,h1,h2,h3⟩:=hg g (by simpa [Nat.blt_eq] using hc)
   have:=VR.ptr (φ:=φ) g 0 l h1
   rw [h2,h3] at this
   exact this
 |func f=>
  simp only [Am.ev] at h
  injection h with h;subst h
  exact .func _ _ _ _ _ rfl (fun i x y hx=>by simp at hx) rfl (fun i x y hx=>by simp at hx)
theorem TR.set {T:Tm} {tm:Array Value} {nt:Nat} (ht:TR φ T tm nt) {d:Nat} (hd:d<nt) {v u:Value} (hv:VR φ v u):TR φ (T.set d v) (tm.setIfInBounds d u) nt:=
 ⟨by simpa using ht.1,fun t x hx=>by
  rw [Tr.ek] at hx
  by_cases e:d=t
  ·subst e
   rw [if_pos rfl] at hx
   injection hx with hx
   subst hx
   exact ⟨u,by rw [Array.getElem?_setIfInBounds_self_of_lt (by rw [ht.1];exact hd)],hv⟩
  ·rw [if_neg e] at hx
   obtain ⟨y,h1,h2⟩:=ht.2 t x hx
   exact ⟨y,by rw [Array.getElem?_setIfInBounds_ne e];exact h1,h2⟩⟩
theorem TR.put {T T':Tm} {a:Act} {nt:Nat} (ht:TR φ T a.tmps nt) {d:Option Tmp} {v u:Value} (hv:VR φ v u) (h:sG T nt d v=some T'):TR φ T' (a.put d u).tmps nt:=by
 cases d with
 |none=>simp [sG] at h;subst h;exact ht
 |some d=>
  simp only [sG] at h
  cases hd:Nat.blt d nt with
  |false=>rw [hd] at h;cases h
  |true=>rw [hd] at h;injection h with h;subst h;exact ht.set (by simpa [Nat.blt_eq] using hd) hv
theorem put_defers (a:Act) (d:Option Tmp) (u:Value):(a.put d u).defers=a.defers:=by cases d <;> rfl
def ac2 (φ:cS) (r:Bu) (e:Ending):Prop:=
 match r with
 |.ret v=>∃ u,e=.returned u∧VR φ v u
 |.Pu v=>∃ u,e=.panicked [{ v:=u,recovered:=false }]∧VR φ v u
def aak (P:Program) (g:FuncId) (args:Array Value) (w:World) (R:Ending→World→Prop):Prop:=
 ((callFunc g args).run P w=.ok (.enter g args) w∧Calls P g args w R)∨∃ v w',(callFunc g args).run P w=.ok (.value v) w'∧R (.returned v) w'
def fz (E:Env) (base:Nat) (φ:cS) (w:World) (H H':Hp) (W:List Nat) (r:Bu) (e:Ending) (w':World):Prop:=
 ∃ φ',Out E base φ w H H' W φ' w'∧ac2 φ' r e
def kX (E:Env) (g:FuncId) (args:List Value) (H:Hp) (r:Bu) (H':Hp) (W:List Nat):Prop:=
 cR W H H'∧Wf H'∧∀ base φ w args',Rel E base H φ w→gM φ H.n H'.n→LR φ args args'→aak E.P g args'.toArray w (fz E base φ w H H' W r)
def ji (E:Env) (call:Call):Prop:=∀ g args H r H' W,call g args H=some (r,H',W)→Wf H→E.ng≤H.n→kX E g args H r H' W
theorem Ly (ok:E.Ok) {T:Tm} {c:Go.Call} {g:FuncId} {args:List Value} {ρ:Operand→Value} (he:J2 E φ T ρ) (h:yN E T c=some (g,args)) (ty:TypeId) (w:World) :
  ∃ args',LR φ args args'∧(do let d ← resolve ρ c ty;invoke d.target d.args:Sem Next).run E.P w=(callFunc g args'.toArray).run E.P w:=by
 unfold yN at h
 split at h
 rotate_left
 ·cases h
 rename_i as has
 have hlr:=vW he has
 have hmap:c.args.map ρ=(c.args.toList.map ρ).toArray:=by apply Array.ext';simp
 split at h
 ·
  rename_i f hf
  split at h
  ·rename_i g' a b hev
   simp only [Option.some.injEq,Prod.mk.injEq] at h
   obtain ⟨rfl,rfl⟩:=h
   obtain ⟨_,a',b',Yt,hu,ha,hb⟩:=(he f _ hev).BW
   injection Yt with Yt
   subst Yt
   refine ⟨a'.toList++(c.args.toList.map ρ)++b'.toList,(ha.toList.append hlr).append hb.toList,?_⟩
   unfold resolve
   rw [hf]
   simp only [hu,Deferred.ofValue]
   rw [ax (run_pure _ w)]
   simp only [invoke]
   congr 2
   apply Array.ext'
   simp
  ·cases h
 ·
  rename_i r name hf
  split at h
  ·rename_i t v hev
   split at h
   ·rename_i i hi
    split at h
    ·rename_i m hm
     cases hp:m.path.isEmpty with
     |false=>rw [hp] at h;cases h
     |true=>
      rw [hp] at h
      simp only [cond_true] at h
      split at h
      ·rename_i f p Yw
       obtain ⟨u,hu,yA⟩:∃ u,ρ r=.iface t u∧VR φ v u:=by
        have:=he r _ hev
        generalize ρ r=y at this
        cases this with |iface _ _ u hu=>exact ⟨u,rfl,hu⟩
       have aaK:m.path.toList=[]:=by
        have:m.path=#[]:=by simpa using hp
        rw [this]
       have hres:∀{x:Value},(∃ d,E.ul t=some d∧((∃ e,d=.pointer e)↔p=true))→(method (E.P.types.size+Made.depth) t u name).run E.P w=.ok (f,u) w:=by
        intro x ⟨d,hd,WW⟩
        have Yr:E.P.types.size+Made.depth=(E.P.types.size+99)+1:=rfl
        rw [Yr]
        unfold method
        have Pq:(typeInfo t).run E.P w=.ok i w:=by simp [typeInfo,ok.info _ _ hi]
        rw [ax Pq]
        simp only [hm,aaK,follow]
        rw [ax (run_pure _ w)]
        simp only [Yw]
        have:(receiverAt t (.val u) p (if m.path.isEmpty then some ((name.splitOn ".").getLastD name) else none)).run E.P w=.ok u w:=by
         unfold receiverAt
         rw [ax (dI ok hd w)]
         cases p with
         |true=>
          obtain ⟨e,rfl⟩:=WW.2 rfl
          rfl
         |false=>
          cases d <;> first
           |rfl
           |(exfalso;have:=WW.1 ⟨_,rfl⟩;cases this)
        rw [ax this]
        rfl
       have fin:∀(hd:∃ d,E.ul t=some d∧((∃ e,d=.pointer e)↔p=true)) (h:some (f,v::as)=some (g,args)),∃ args',LR φ args args'∧(do let d ← resolve ρ c ty;invoke d.target d.args:Sem Next).run E.P w=(callFunc g args'.toArray).run E.P w:=by
        intro hd h
        simp only [Option.some.injEq,Prod.mk.injEq] at h
        obtain ⟨rfl,rfl⟩:=h
        refine ⟨u::c.args.toList.map ρ,.cons yA hlr,?_⟩
        unfold resolve
        rw [hf]
        simp only [hu]
        rw [ax (run_pure _ w)]
        simp only [invoke]
        have e0:(#[Value.iface t u]++c.args.map ρ)[0]?=some (.iface t u):=by
         rw [Array.getElem?_append_left (by simp)];rfl
        simp only [e0]
        have e1:(#[Value.iface t u]++c.args.map ρ).extract 1 (#[Value.iface t u]++c.args.map ρ).size=c.args.map ρ:=by
         apply Array.ext'
         simp
         exact List.take_of_length_le (by simp)
        rw [e1]
        unfold callMethod
        simp only
        rw [ax (run_program w),ax (hres (x:=u) hd)]
        simp only
        congr 2
        apply Array.ext'
        simp
       split at h
       ·rename_i e hul
        cases p with
        |true=>exact fin ⟨_,hul,⟨fun _=>rfl,fun _=>⟨e,rfl⟩⟩⟩ h
        |false=>cases h
       ·rename_i d hne hul
        cases p with
        |true=>cases h
        |false=>exact fin ⟨d,hul,⟨fun ⟨e,he⟩=>(hne e he).elim,fun h=>by cases h⟩⟩ h
       ·cases h
      ·cases h
    ·cases h
   ·cases h
  ·cases h
 ·cases h
end
theorem Lm {P:Program} {o:Oper} {a:Act} {w:World} {K K':Act→World→Prop} {Q Q':Exit→Act→World→Prop} (h:∀ a w,K a w→K' a w) (hq:∀ e a w,Q e a w→Q' e a w)
  (hh:o.wp P a w K Q):o.wp P a w K' Q':=by
 unfold Oper.wp at *
 generalize (execOp a.eval o).run P w=r at *
 cases r with
 |ok n w'=>
  cases n <;> simp only [Oper.upon] at hh ⊢ <;>
   first
    |exact h _ _ hh
    |exact Calls.mono hh (fun e w'' he=>by
      cases e with
      |returned v=>exact h _ _ he
      |panicked c=>exact hq _ _ _ he
      |outgrown=>obtain ⟨a0,w0,h0⟩:=he;exact ⟨a0,w0,hq _ _ _ h0⟩)
    |exact Rows.mono hh (fun _ _ he=>h _ _ he)
 |halt x w'=>cases x <;> simp only [Oper.upon] at hh ⊢ <;> first |exact hh |exact hq _ _ _ hh
theorem qi {P:Program} {ops:Array Oper} {Q Q':Exit→Act→World→Prop} (hq:∀ e a w,Q e a w→Q' e a w):∀(rest:List Oper) (a:Act) (w:World),wpList P ops Q rest a w→wpList P ops Q' rest a w
 |[],a,w,h=>hq _ _ _ h
 |o::rest,a,w,h=>by
  simp only [wpList] at h ⊢
  split
  ·rename_i hw
   rw [if_pos hw] at h
   rcases h with h |⟨h1,a0,w0,h2⟩
   ·exact .inl (Lm (fun a w h=>qi hq rest a w h) hq h)
   ·exact .inr ⟨h1,a0,w0,hq _ _ _ h2⟩
  ·rename_i hw
   rw [if_neg hw] at h
   exact qi hq rest _ w h
section
variable {E:Env} {call:Call}
theorem F0 {P:Program} {o:Oper} {a:Act} {w w':World} {nx:Next} {u:Value} {next:Act→World→Prop} {Q:Exit→Act→World→Prop}
  (hr:(execOp a.eval o).run P w=.ok nx w') (hn:nx=.value u∨(nx=.skip∧u=undef)) (h:next (a.put o.dst u) w'):o.wp P a w next Q:=by
 unfold Oper.wp
 rw [hr]
 rcases hn with rfl |⟨rfl,rfl⟩ <;> exact h
theorem LY {P:Program} {o:Oper} {a:Act} {w:World} {g:FuncId} {args:Array Value} {next:Act→World→Prop} {Q:Exit→Act→World→Prop} {R:Ending→World→Prop}
  (hr:(execOp a.eval o).run P w=(callFunc g args).run P w) (h:aak P g args w R)
  (h1:∀ v w',R (.returned v) w'→next (a.put o.dst v) w') (h2:∀ c w',R (.panicked c) w'→Q (.panic c) a w') (h3:∀ w',¬ R .outgrown w'):o.wp P a w next Q:=by
 unfold Oper.wp
 rw [hr]
 rcases h with ⟨he,hc⟩ |⟨v,w',he,hv⟩
 ·rw [he]
  simp only [Oper.upon]
  exact hc.mono fun e w' hR=>by
   cases e with
   |returned v=>exact h1 v w' hR
   |panicked c=>exact h2 c w' hR
   |outgrown=>exact (h3 w' hR).elim
 ·rw [he]
  exact h1 v w' hv
def F2 (E:Env) (o:Oper) (T:Tm) (H:Hp) (d:List (Value×List Value)) (v:Value) (H':Hp) (d':List (Value×List Value)) (W:List Nat):Prop:=
 cR W H H'∧Wf H'∧∀(base:Nat) (φ:cS) (w:World) (a:Act) (nt:Nat) (next:Act→World→Prop) (Q:Exit→Act→World→Prop),
  Rel E base H φ w→gM φ H.n H'.n→TR φ T a.tmps nt→DR φ d a.defers→
  (∀(φ':cS) (w':World) (u:Value) (a':Act),Out E base φ w H H' W φ' w'→VR φ' v u→a'.tmps=a.tmps→DR φ' d' a'.defers→next (a'.put o.dst u) w')→o.wp E.P a w next Q
def aai (E:Env) (o:Oper) (T:Tm) (H:Hp) (d:List (Value×List Value)) (v:Value) (H':Hp) (W:List Nat):Prop:=
 cR W H H'∧Wf H'∧∀(base:Nat) (φ:cS) (w:World) (a:Act) (nt:Nat) (next:Act→World→Prop) (Q:Exit→Act→World→Prop),
  Rel E base H φ w→gM φ H.n H'.n→TR φ T a.tmps nt→DR φ d a.defers→
  (∀ φ' w' u,Out E base φ w H H' W φ' w'→VR φ' v u→Q (.panic [{ v:=u,recovered:=false }]) a w')→o.wp E.P a w next Q
def aaj (E:Env) (o:Oper) (T:Tm) (H:Hp) (d:List (Value×List Value)):OpX→Prop
 |.val v H' d' W _=>F2 E o T H d v H' d' W
 |.Pu v H' W=>aai E o T H d v H' W
theorem tM (ok:E.Ok) {o:Oper} {T:Tm} {H H':Hp} {d:List (Value×List Value)} {v:Value} {W R:List Nat} (wf:Wf H) (dy:E.ng≤H.n) (h:simple E o T H=some (v,H',W,R)):F2 E o T H d v H' d W:=by
 obtain ⟨h1,h2⟩:=FO ok wf h
 refine ⟨h1.ext,h1.wf,fun base φ w a nt next Q cM hf ht hd hnext=>?_⟩
 obtain ⟨nx,u,w',φ',hr,hnx,yA,hout⟩:=h2 base φ w a.eval (Pre.Sb wf cM R) hf (ht.ev (H:=H) (w:=w) cM.fI)
 have hO:=hout.out wf h1.ext cM hf dy
 exact F0 hr hnx (hnext φ' w' u a hO yA rfl (hd.mono (hO.sub hf)))
theorem Bl (ok:E.Ok) (hc:ji E call) {o:Oper} {T:Tm} {H:Hp} {d:List (Value×List Value)} {x:OpX} (wf:Wf H) (dy:E.ng≤H.n) (h:dR E call o T H d=some x) :
  aaj E o T H d x:=by
 obtain ⟨dst,op,ty,pos,after,guard⟩:=o
 unfold dR at h
 simp only at h
 split at h
 ·
  split at h
  ·rename_i v H' W R hs
   injection h with h
   subst h
   exact tM ok wf dy hs
  ·cases h
 ·
  rename_i c hnb
  split at h
  ·rename_i f args hres
   have run:∀(r:Bu) (H':Hp) (W:List Nat),call f args H=some (r,H',W)→cR W H H'∧Wf H'∧∀(base:Nat) (φ:cS) (w:World) (a:Act) (nt:Nat) (next:Act→World→Prop) (Q:Exit→Act→World→Prop),
     Rel E base H φ w→gM φ H.n H'.n→TR φ T a.tmps nt→DR φ d a.defers→
     (∀ φ' w' u,Out E base φ w H H' W φ' w'→(∃ v,r=.ret v∧VR φ' v u)→next (a.put dst u) w')→
     (∀ φ' w' u,Out E base φ w H H' W φ' w'→(∃ v,r=.Pu v∧VR φ' v u)→Q (.panic [{ v:=u,recovered:=false }]) a w')→Oper.wp E.P ⟨dst,.call c,ty,pos,after,guard⟩ a w next Q:=by
    intro r H' W IW
    obtain ⟨g1,g2,g3⟩:=hc f args H r H' W IW wf dy
    refine ⟨g1,g2,fun base φ w a nt next Q cM hf ht hd hn hq=>?_⟩
    obtain ⟨args',hlr,hrun⟩:=Ly (φ:=φ) ok (ht.ev (H:=H) (w:=w) cM.fI) hres ty w
    have hR:=g3 base φ w args' cM hf hlr
    refine LY (by exact hrun) hR (fun u w' hp=>?_) (fun ch w' hp=>?_) (fun w' hp=>?_)
    ·obtain ⟨φ',hO,he⟩:=hp
     cases r with
     |ret v=>
      obtain ⟨u',he,hv⟩:=he
      injection he with he
      subst he
      exact hn φ' w' u hO ⟨v,rfl,hv⟩
     |Pu v=>obtain ⟨u',he,_⟩:=he;cases he
    ·obtain ⟨φ',hO,he⟩:=hp
     cases r with
     |ret v=>obtain ⟨u',he,_⟩:=he;cases he
     |Pu v=>
      obtain ⟨u',he,hv⟩:=he
      injection he with he
      subst he
      exact hq φ' w' u' hO ⟨v,rfl,hv⟩
    ·obtain ⟨φ',hO,he⟩:=hp
     cases r with
     |ret v=>obtain ⟨u',he,_⟩:=he;cases he
     |Pu v=>obtain ⟨u',he,_⟩:=he;cases he
   split at h
   ·rename_i v H' W IW
    injection h with h
    subst h
    obtain ⟨g1,g2,g3⟩:=run _ _ _ IW
    refine ⟨g1,g2,fun base φ w a nt next Q cM hf ht hd hn=>g3 base φ w a nt next Q cM hf ht hd (fun φ' w' u hO hv=>?_) (fun φ' w' u hO hv=>?_)⟩
    ·obtain ⟨v',KP,yA⟩:=hv
     injection KP with KP
     subst KP
     exact hn φ' w' u a hO yA rfl (hd.mono (hO.sub hf))
    ·obtain ⟨v',KP,_⟩:=hv;cases KP
   ·rename_i v H' W IW
    injection h with h
    subst h
    obtain ⟨g1,g2,g3⟩:=run _ _ _ IW
    refine ⟨g1,g2,fun base φ w a nt next Q cM hf ht hd hq=>g3 base φ w a nt next Q cM hf ht hd (fun φ' w' u hO hv=>?_) (fun φ' w' u hO hv=>?_)⟩
    ·obtain ⟨v',KP,_⟩:=hv;cases KP
    ·obtain ⟨v',KP,yA⟩:=hv
     injection KP with KP
     subst KP
     exact hq φ' w' u hO yA
   ·cases h
  ·cases h
 ·
  rename_i f args ts
  split at h
  ·rename_i g a b as hf ha
   injection h with h
   subst h
   refine ⟨cR.refl ..,wf,fun base φ w act nt next Q cM hfr ht hd hn=>?_⟩
   have he:=ht.ev (E:=E) (H:=H) (w:=w) cM.fI
   obtain ⟨_,a',b',Yt,hu,hla,hlb⟩:=(he f _ hf).BW
   injection Yt with Yt
   subst Yt
   have hlr:=vW he ha
   have hmap:args.map act.eval=(args.toList.map act.eval).toArray:=by apply Array.ext';simp
   have hO:=Out.refl (W:=[]) cM
   have:=hn φ w undef { act with defers:={ target:=.fn (.func g) b',args:=a'++(args.map act.eval) }::act.defers } hO (.tuple' ⟨rfl,fun i x y hx=>by simp at hx⟩) rfl
    (by rw [hmap];exact .cons g a b a' b' as (args.toList.map act.eval) d act.defers hla hlb hlr hd)
   unfold Oper.wp
   have hr:(execOp act.eval ⟨dst,.defer { callee:=.value f,args:=args,argTypes:=ts },ty,pos,after,guard⟩).run E.P w=.ok (.defer { target:=.fn (.func g) b',args:=a'++(args.map act.eval) }) w:=by
    unfold execOp resolve
    simp only [hu,Deferred.ofValue]
    rfl
   rw [hr]
   exact this
  ·cases h
 ·
  rename_i x
  split at h
  ·rename_i t v hx
   injection h with h
   subst h
   refine ⟨cR.refl ..,wf,fun base φ w a nt next Q cM hf ht hd hq=>?_⟩
   have he:=ht.ev (E:=E) (H:=H) (w:=w) cM.fI
   have hv:=he x _ hx
   obtain ⟨u,hu,yA⟩:∃ u,a.eval x=.iface t u∧VR φ v u:=by
    generalize a.eval x=y at hv
    cases hv with |iface _ _ u hu=>exact ⟨u,rfl,hu⟩
   have hr:(execOp a.eval ⟨dst,.panic x,ty,pos,after,guard⟩).run E.P w=.halt (.panic (.iface t u)) w:=by
    unfold execOp
    simp only [hu]
    rfl
   unfold Oper.wp
   rw [hr]
   exact hq φ w _ (Out.refl [] cM) (.iface _ _ _ yA)
  ·cases h
 ·
  split at h
  ·rename_i v H' W R hs
   injection h with h
   subst h
   exact tM ok wf dy hs
  ·cases h
theorem mu {ops:Array Oper} {T:Tm} {o:Oper} {b:Bool} {φ:cS} {a:Act} {nt:Nat} (ht:TR φ T a.tmps nt) (h:oa ops T o=some b):Region.wanted o (yielded ops a.tmps)=b:=by
 unfold oa at h
 unfold Region.wanted
 split at h
 ·rename_i hg;injection h with h;subst h;simp [hg]
 ·rename_i j want hg
  simp only [hg]
  split at h
  ·rename_i p hp
   split at h
   ·rename_i dd hd
    split at h
    ·rename_i bb hb
     injection h with h
     subst h
     obtain ⟨u,hu,hv⟩:=ht.2 _ _ hb
     have:=hv.dS rfl
     subst this
     simp only [yielded,hp,hd,hu,Option.bind_some]
     cases bb <;> cases want <;> rfl
    ·rename_i y hny hy
     injection h with h
     subst h
     obtain ⟨u,hu,hv⟩:=ht.2 _ _ hy
     simp only [yielded,hp,hd,hu,Option.bind_some]
     cases hv <;> first
      |rfl
      |exact (hny _ rfl).elim
    ·cases h
   ·rename_i hd
    injection h with h
    subst h
    simp [yielded,hp,hd]
  ·rename_i hp
   injection h with h
   subst h
   simp [yielded,hp]
def ExR (φ:cS) (x:Ex) (e:Exit):Prop:=
 match x with
 |.normal=>e=.normal
 |.exit id=>e=.exit id
 |.goto l=>e=.goto l
 |.ret=>e=.ret
 |.panic v=>∃ u,e=.panic [{ v:=u,recovered:=false }]∧VR φ v u
def Post (E:Env) (base:Nat) (φ:cS) (w:World) (nt:Nat) (H:Hp) (W:List Nat) (x:Ex) (s':St) (e:Exit) (a':Act) (w':World):Prop:=
 ∃ φ',Out E base φ w H s'.h W φ' w'∧ExR φ' x e∧TR φ' s'.t a'.tmps nt∧DR φ' s'.d a'.defers
structure SR (E:Env) (base:Nat) (φ:cS) (w:World) (nt:Nat) (s:St) (a:Act):Prop where
 rel:Rel E base s.h φ w
 tr:TR φ s.t a.tmps nt
 dr:DR φ s.d a.defers
theorem Post.glue {base:Nat} {φ φ1:cS} {w w1:World} {nt:Nat} {H:Hp} {s1 s2:St} {W V:List Nat} {x:Ex} {e:Exit} {a:Act} {w2:World} (x1:cR W H s1.h) (x2:cR V s1.h s2.h)
  (hO:Out E base φ w H s1.h W φ1 w1) (hf:gM φ H.n s2.h.n) (h:Post E base φ1 w1 nt s1.h V x s2 e a w2):Post E base φ w nt H (W++V) x s2 e a w2:=by
 obtain ⟨φ2,h1,h2,h3,h4⟩:=h
 exact ⟨φ2,hO.trans x1 x2 h1 hf,h2,h3,h4⟩
theorem gM.next {base:Nat} {φ φ1:cS} {w w1:World} {H H1 H2:Hp} {W:List Nat} (hO:Out E base φ w H H1 W φ1 w1) (hn:H.n≤H1.n) (hf:gM φ H.n H2.n):gM φ1 H1.n H2.n:=fun i h1 h2=>by
 rw [hO.ext i (.inr h1)];exact hf i aa h2
theorem gM.first {φ:cS} {a b c:Nat} (hf:gM φ a c) (h:b≤c):gM φ a b:=fun i h1 h2=>hf i h1 aa
theorem zM (ok:E.Ok) (hc:ji E call) (nt:Nat) (ops:Array Oper):∀(rest:List Oper) (s s':St) (p:Option Value),zL E call nt ops rest s=some (p,s')→Wf s.h→E.ng≤s.h.n→
  ∃ W,s'.w=s.w++W∧cR W s.h s'.h∧Wf s'.h∧∀(base:Nat) (φ:cS) (w:World) (a:Act),SR E base φ w nt s a→gM φ s.h.n s'.h.n→
   wpList E.P ops (Post E base φ w nt s.h W (match p with |none=>.normal |some v=>.panic v) s') rest a w
 |[],s,s',p,h,wf,dy=>by
  simp only [zL,Option.some.injEq,Prod.mk.injEq] at h
  obtain ⟨rfl,rfl⟩:=h
  exact ⟨[],by simp,cR.refl ..,wf,fun base φ w a hs hf=>⟨φ,Out.refl [] hs.rel,rfl,hs.tr,hs.dr⟩⟩
 |o::rest,s,s',p,h,wf,dy=>by
  simp only [zL] at h
  split at h
  ·rename_i hw
   split at h
   ·rename_i v H1 d1 W1 r1 hop
    obtain ⟨g1,g2,g3⟩:=Bl ok hc wf dy hop
    split at h
    ·rename_i T1 KH
     have zo:=g1.n
     obtain ⟨V,hV,x2,Ep,k⟩:=zM ok hc nt ops rest _ s' p h g2 (by show E.ng≤H1.n;omega)
     have x2':cR V H1 s'.h:=x2
     have hn2:H1.n≤s'.h.n:=x2.n
     refine ⟨W1++V,by rw [hV];simp,g1.trans x2',Ep,fun base φ w a hs hf=>?_⟩
     simp only [wpList]
     rw [if_pos (mu hs.tr hw)]
     refine .inl (g3 base φ w a nt _ _ hs.rel (hf.first hn2) hs.tr hs.dr fun φ' w' u a' hO yA Rw hda=>?_)
     have KO:TR φ' s.t a'.tmps nt:=by rw [Rw];exact hs.tr.mono (hO.sub (hf.first hn2))
     have:=k base φ' w' (a'.put o.dst u) ⟨hO.rel,KO.put yA KH,by rw [put_defers];exact hda⟩ (hf.next hO zo)
     exact qi (fun e a w h=>Post.glue g1 x2' hO hf h) _ _ _ this
    ·cases h
   ·rename_i v H1 W1 hop
    obtain ⟨g1,g2,g3⟩:=Bl ok hc wf dy hop
    simp only [Option.some.injEq,Prod.mk.injEq] at h
    obtain ⟨rfl,rfl⟩:=h
    refine ⟨W1,rfl,g1,g2,fun base φ w a hs hf=>?_⟩
    simp only [wpList]
    rw [if_pos (mu hs.tr hw)]
    refine .inl (g3 base φ w a nt _ _ hs.rel hf hs.tr hs.dr fun φ' w' u hO yA=>?_)
    exact ⟨φ',hO,⟨u,rfl,yA⟩,hs.tr.mono (hO.sub hf),hs.dr.mono (hO.sub hf)⟩
   ·cases h
  ·rename_i hw
   split at h
   ·rename_i T1 KH
    obtain ⟨V,hV,x2,Ep,k⟩:=zM ok hc nt ops rest _ s' p h wf dy
    refine ⟨V,hV,x2,Ep,fun base φ w a hs hf=>?_⟩
    simp only [wpList]
    rw [if_neg (by rw [mu hs.tr hw];simp)]
    exact k base φ w _ ⟨hs.rel,hs.tr.put (.tuple' ⟨rfl,fun i x y hx=>by simp at hx⟩) KH,by rw [put_defers];exact hs.dr⟩ hf
   ·cases h
  ·cases h
end
def Xu (E:Env) (g:FuncId) (p:List Value→Hp→Ad):Prop:=
 ∀ args H r H' W,p args H=some (r,H',W)→Wf H→E.ng≤H.n→kX E g args H r H' W
def qC (φ:cS):Option Value→FrameMode→Prop
 |none,m=>m=.returning
 |some v,m=>∃ u,m=.panicking [{ v:=u,recovered:=false }]∧VR φ v u
def TC (E:Env) (g:FuncId) (p:Option Value→List Value→Hp→Option (Option Value×Hp×List Nat)):Prop:=
 (∀ args w,(callFunc g args).run E.P w=.ok (.enter g args) w)∧
 ∀ m args H m' H' W,p m args H=some (m',H',W)→Wf H→E.ng≤H.n→cR W H H'∧Wf H'∧
  ∀ base φ w args' u,Rel E base H φ w→gM φ H.n H'.n→LR φ args args'→qC φ m u→
   CallsD E.P g args'.toArray u w fun e u' w'=>(∃ v,e=.returned v)∧∃ φ',Out E base φ w H H' W φ' w'∧qC φ' m' (settle u')
structure Sound (E:Env):Prop where
 ok:E.Ok
 name:∀ f fn,E.func f=some fn→(fn.name== "runtime.NumGoroutine")=false
 OM:∀ g p,E.OM g=some p→Xu E g p
 IJ:∀ g p,E.IJ g=some p→TC E g p
def J1 (E:Env) (call:Call):Prop:=∀ nt id ops s s',og E call nt ops true s=some (none,s')→Wf s.h→E.ng≤s.h.n→
 ∃ W,s'.w=s.w++W∧cR W s.h s'.h∧Wf s'.h∧∀(base:Nat) (φ:cS) (w:World) (a:Act),SR E base φ w nt s a→gM φ s.h.n s'.h.n→
  (Code.region id ops true).wp E.P (Post E base φ w nt s.h W .normal s') a w
section
variable {E:Env}
theorem FL (hS:Sound E) {g:FuncId} {fn:Func} {c:Code} (hf:E.func g=some fn) (hb:fn.body=some c) (args:Array Value) (w:World):(callFunc g args).run E.P w=.ok (.enter g args) w:=by
 unfold callFunc
 rw [ax (run_program w)]
 simp only [hS.ok.func _ _ hf,hS.name _ _ hf,Bool.false_eq_true,if_false,hb,Option.isNone_some]
 rfl
theorem NF {φ:cS}:∀(vs us:List Value) (i:Nat) (T:Tm) (tm:Array Value) (nt:Nat),TR φ T tm nt→LR φ vs us→i+vs.length≤nt→(∀(j:Nat) u,us[j]?=some u→tm[i+j]?=some u)→TR φ (EX vs i T) tm nt
 |[],us,i,T,tm,nt,ht,hl,hi,hu=>ht
 |v::vs,us,i,T,tm,nt,ht,hl,hi,hu=>by
  obtain ⟨u,us',rfl,hv,hl'⟩:=hl.cons_inv
  have Pq:TR φ (T.set i v) tm nt:=⟨ht.1,fun t x hx=>by
   rw [Tr.ek] at hx
   by_cases e:i=t
   ·subst e
    rw [if_pos rfl] at hx
    injection hx with hx
    subst hx
    exact ⟨u,by simpa using hu 0 u (by simp),hv⟩
   ·rw [if_neg e] at hx;exact ht.2 t x hx⟩
  exact NF vs us' (i+1) _ tm nt Pq hl' (by simp at hi;omega) (fun j x hx=>by
   have:=hu (j+1) x (by simpa using hx)
   rw [show i+1+j=i+(j+1) by omega];exact this)
theorem Eb {φ:cS} {args:List Value} {args':List Value} {nt:Nat} (hl:LR φ args args') (hn:args.length≤nt):TR φ (EX args 0 .nil) (args'.toArray++Array.replicate (nt-args'.toArray.size) undef) nt:=by
 refine NF args args' 0 .nil _ nt ⟨by simp;have:=hl.1;omega,fun t v h=>by simp [Tr.get] at h⟩ hl aa (fun j u hu=>?_)
 have hj:=(List.getElem?_eq_some_iff.1 hu).1
 rw [Nat.zero_add,Array.getElem?_append_left (by simpa using hj)]
 simpa using hu
theorem Bm (ok:E.Ok) {base:Nat} {φ:cS} {w:World} {s:St} {tm:Array Value} {nt:Nat} (wf:Wf s.h) (cM:Rel E base s.h φ w) (ht:TR φ s.t tm nt):∀(rs:List ResultVar) (vs:List Value),ES E s rs=some vs→
  ∃ us,LR φ vs us∧(rs.mapM fun (r:ResultVar)=>(match r with
   |.tmp t=>(pure (tm.getD t undef):Sem Value)
   |.cell a t=>do loadVar t (← asAddr (tm.getD a undef)):Sem Value)).run E.P w=.ok us w
 |[],vs,h=>by simp [ES] at h;subst h;exact ⟨[],.nil φ,rfl⟩
 |.tmp t::rs,vs,h=>by
  simp only [ES] at h
  split at h
  ·rename_i v ws hv hw
   injection h with h
   subst h
   obtain ⟨us,h1,h2⟩:=Bm ok wf cM ht rs ws hw
   obtain ⟨u,hu,yA⟩:=ht.2 _ _ hv
   refine ⟨u::us,.cons yA h1,?_⟩
   rw [List.mapM_cons]
   have e:tm.getD t undef=u:=by simp [Array.getD_eq_getD_getElem?,hu]
   simp only [e]
   rw [ax (run_pure u w),ax h2];rfl
  ·cases h
 |.cell a t::rs,vs,h=>by
  simp only [ES] at h
  split at h
  ·rename_i b off hv
   split at h
   ·rename_i v ws hld hw
    injection h with h
    subst h
    obtain ⟨us,h1,h2⟩:=Bm ok wf cM ht rs ws hw
    obtain ⟨u,hu,yA⟩:=ht.2 _ _ hv
    obtain ⟨l,hl,rfl⟩:=yA.qc
    obtain ⟨x,hx,hvx⟩:=FM ok (Pre.Sb wf cM [b]) (by simp) hl hld
    refine ⟨x::us,.cons hvx h1,?_⟩
    rw [List.mapM_cons]
    have e:tm.getD a undef=.pointer (some ⟨l.gK,l.off+off,none⟩):=by simp [Array.getD_eq_getD_getElem?,hu]
    have hx':(do loadVar t (← asAddr (tm.getD a undef)):Sem Value).run E.P w=.ok x w:=by
     rw [e]
     show ((pure _:Sem Addr) >>= fun y=>loadVar t y).run E.P w=_
     rw [ax (run_pure _ w)];exact hx
    rw [ax hx',ax h2];rfl
   ·cases h
  ·cases h
theorem Lx (ok:E.Ok) {base:Nat} {φ:cS} {w:World} {s:St} {tm:Array Value} {nt:Nat} {fn:Func} {v:Value} (wf:Wf s.h) (cM:Rel E base s.h φ w) (ht:TR φ s.t tm nt) (h:HB E fn s=some v) :
  ∃ u,VR φ v u∧(results fn tm).run E.P w=.ok u w:=by
 unfold HB at h
 have key:∀ us:List Value,(fn.results.toList.mapM fun (r:ResultVar)=>(match r with
   |.tmp t=>(pure (tm.getD t undef):Sem Value)
   |.cell a t=>do loadVar t (← asAddr (tm.getD a undef)):Sem Value)).run E.P w=.ok us w→
   (results fn tm).run E.P w=.ok (if h:us.toArray.size=1 then us.toArray[0] else .tuple us.toArray) w:=by
  intro us hus
  unfold results
  rw [Array.mapM_eq_mapM_toList]
  have:(List.toArray <$> (fn.results.toList.mapM fun (r:ResultVar)=>(match r with
   |.tmp t=>(pure (tm.getD t undef):Sem Value)
   |.cell a t=>do loadVar t (← asAddr (tm.getD a undef)):Sem Value))).run E.P w=.ok us.toArray w:=by
   rw [map_eq_pure_bind,ax hus];rfl
  exact (ax (f:=fun (vs:Array Value)=>(pure (if h:vs.size=1 then vs[0] else .tuple vs):Sem Value)) this).trans rfl
 split at h
 ·rename_i x hx
  injection h with h
  subst h
  obtain ⟨us,h1,h2⟩:=Bm ok wf cM ht _ _ hx
  obtain ⟨u,us',rfl,hv,hn⟩:=h1.cons_inv
  have:=hn.mL
  subst this
  exact ⟨u,hv,key _ h2⟩
 ·rename_i vs hne hx
  injection h with h
  subst h
  obtain ⟨us,h1,h2⟩:=Bm ok wf cM ht _ _ hx
  refine ⟨.tuple us.toArray,.tuple' h1.toArray,?_⟩
  rw [key _ h2]
  have hl:=h1.1
  have:¬ us.toArray.size=1:=by
   intro e
   have:vs.length=1:=by rw [hl];simpa using e
   match vs,this with
   |[x],_=>exact hne x rfl
  rw [dif_neg this]
 ·cases h
def CWp (n:Nat) (P:Program) (c:Code) (Q:Exit→Act→World→Prop) (a:Act) (w:World):Prop:=
 match c with
 |.loop b=>Code.rounds P b Q n a w
 |c=>c.wp P Q a w
theorem CWp.wp {n:Nat} {P:Program} {c:Code} {Q:Exit→Act→World→Prop} {a:Act} {w:World} (h:CWp n P c Q a w):c.wp P Q a w:=by
 cases c <;> first
  |exact h
  |exact wp_loop_rounds n h
def aep:Code→Bool
 |.loop _=>true
 |_=>false
def Ic (E:Env) (n nt:Nat) (c:Code) (s:St) (x:Ex) (s':St):Prop:=
 ∃ W,s'.w=s.w++W∧cR W s.h s'.h∧Wf s'.h∧∀(base:Nat) (φ:cS) (w:World) (a:Act),SR E base φ w nt s a→gM φ s.h.n s'.h.n→CWp n E.P c (Post E base φ w nt s.h W x s') a w
def F3 (E:Env) (n nt:Nat) (self:Code→St→Option (Ex×St)):Prop:=∀ c s x s',self c s=some (x,s')→Wf s.h→E.ng≤s.h.n→Ic E n nt c s x s'
theorem qg {P:Program} {c:Code} {Q Q':Exit→Act→World→Prop} (hq:∀ e a w,Q e a w→Q' e a w):∀ n a w,Code.rounds P c Q n a w→Code.rounds P c Q' n a w
 |0,_,_,h=>h
 |n+1,a,w,h=>by
  rw [rounds_succ] at h ⊢
  refine wp_mono h fun e a w he=>?_
  cases e <;> simp only [Exit.then] at he ⊢ <;> first |exact qg hq n _ _ he |exact hq _ _ _ he
theorem ID (hS:Sound E) {call:Call} (hc:ji E call) (hd:J1 E call) {n nt:Nat} {self:Code→St→Option (Ex×St)} (hs:F3 E n nt self) {c:Code} {s:St} {x:Ex} {s':St}
  (h:BG E call nt self c s=some (x,s')) (wf:Wf s.h) (dy:E.ng≤s.h.n):Ic E (n+1) nt c s x s':=by
 have none_:∀{x:Ex},some (x,s)=some (x,s')→s'=s:=fun e=>by injection e with e;injection e with _ e;exact e.symm
 unfold BG at h
 split at h
 ·
  simp only [Option.some.injEq,Prod.mk.injEq] at h;obtain ⟨rfl,rfl⟩:=h
  exact ⟨[],by simp,cR.refl ..,wf,fun base φ w a h hf=>wp_skip ⟨φ,Out.refl [] h.rel,rfl,h.tr,h.dr⟩⟩
 ·
  simp only [Option.some.injEq,Prod.mk.injEq] at h;obtain ⟨rfl,rfl⟩:=h
  exact ⟨[],by simp,cR.refl ..,wf,fun base φ w a h hf=>wp_label ⟨φ,Out.refl [] h.rel,rfl,h.tr,h.dr⟩⟩
 ·
  rename_i id ops draw
  cases draw with
  |false=>
   have seq:∀(p:Option Value),og E call nt ops false s=some (p,s')→∃ W,s'.w=s.w++W∧cR W s.h s'.h∧Wf s'.h∧∀(base:Nat) (φ:cS) (w:World) (a:Act),SR E base φ w nt s a→gM φ s.h.n s'.h.n→
     (Code.region id ops false).wp E.P (Post E base φ w nt s.h W (match p with |none=>.normal |some v=>.panic v) s') a w:=by
    intro p hp
    simp only [og,cond_false] at hp
    obtain ⟨W,h1,h2,h3,h4⟩:=zM hS.ok hc nt ops ops.toList s s' p hp wf dy
    refine ⟨W,h1,h2,h3,fun base φ w a gL hf=>wp_region ?_⟩
    have e:∀ Q,wpOps E.P ops Q (List.range ops.size)=wpList E.P ops Q ops.toList:=fun Q=>by
     have:=wpOps_eq_wpList (P:=E.P) (ops:=ops) (Q:=Q) ops.toList 0 (fun j=>by simp)
     rw [Array.length_toList] at this
     rw [List.range_eq_range',this]
    rw [e]
    exact h4 base φ w a gL hf
   split at h
   ·rename_i s1 hr
    simp only [Option.some.injEq,Prod.mk.injEq] at h;obtain ⟨rfl,rfl⟩:=h
    exact seq none hr
   ·rename_i v s1 hr
    simp only [Option.some.injEq,Prod.mk.injEq] at h;obtain ⟨rfl,rfl⟩:=h
    exact seq (some v) hr
   ·cases h
  |true=>
   split at h
   ·rename_i s1 hr
    simp only [Option.some.injEq,Prod.mk.injEq] at h;obtain ⟨rfl,rfl⟩:=h
    exact hd nt id ops s s1 hr wf dy
   ·rename_i v s1 hr
    exfalso
    simp only [og,cond_true] at hr
    cases hro:iJ ops with
    |false=>rw [hro] at hr;cases hr
    |true=>
     rw [hro] at hr
     simp only [cond_true] at hr
     split at hr
     ·rename_i s2 fs _
      cases hi:indep (Region.before ops) fs with
      |false=>rw [hi] at hr;cases hr
      |true=>rw [hi] at hr;simp at hr
     ·cases hr
   ·cases h
 ·
  rename_i c1 c2
  split at h
  ·rename_i s1 h1
   obtain ⟨W,hW,x1,ob,k1⟩:=hs _ _ _ _ h1 wf dy
   have zo:=x1.n
   obtain ⟨V,hV,x2,Ep,k2⟩:=hs _ _ _ _ h ob aa
   have hn2:=x2.n
   refine ⟨W++V,by rw [hV,hW];simp,x1.trans x2,Ep,fun base φ w a gL hf=>wp_seq (wp_mono (k1 base φ w a gL (hf.first hn2)).wp fun e a1 w1 hp=>?_)⟩
   obtain ⟨φ1,hO,he,ht,jX⟩:=hp
   have he:e=.normal:=he
   subst he
   exact wp_mono (k2 base φ1 w1 a1 ⟨hO.rel,ht,jX⟩ (hf.next hO zo)).wp fun e a2 w2 hp=>Post.glue x1 x2 hO hf hp
  ·rename_i r hne
   have hx:x≠.normal:=fun e=>by subst e;exact hne _ h
   obtain ⟨W,hW,x1,ob,k1⟩:=hs _ _ _ _ h wf dy
   refine ⟨W,hW,x1,ob,fun base φ w a gL hf=>wp_seq (wp_mono (k1 base φ w a gL hf).wp fun e a1 w1 hp=>?_)⟩
   obtain ⟨φ1,hO,he,ht,jX⟩:=hp
   have:e≠.normal:=fun e'=>by
    subst e'
    cases x with
    |normal=>exact hx rfl
    |panic v=>obtain ⟨u,hu,_⟩:=he;cases hu
    |_=>cases he
   cases e <;> first
    |exact absurd rfl this
    |exact ⟨φ1,hO,he,ht,jX⟩
 ·
  rename_i c1 a1 b1
  split at h
  ·rename_i hb
   obtain ⟨W,hW,x1,ob,k1⟩:=hs _ _ _ _ h wf dy
   refine ⟨W,hW,x1,ob,fun base φ w a gL hf=>wp_cond_true ?_ (k1 base φ w a gL hf).wp⟩
   exact (gL.tr.ev (H:=s.h) (w:=w) gL.rel.fI c1 _ hb).dS rfl
  ·rename_i hb
   obtain ⟨W,hW,x1,ob,k1⟩:=hs _ _ _ _ h wf dy
   refine ⟨W,hW,x1,ob,fun base φ w a gL hf=>wp_cond_false ?_ (k1 base φ w a gL hf).wp⟩
   exact (gL.tr.ev (H:=s.h) (w:=w) gL.rel.fI c1 _ hb).dS rfl
  ·cases h
 ·
  rename_i id c1
  split at h
  ·rename_i id' s1 h1
   obtain ⟨W,hW,x1,ob,k1⟩:=hs _ _ _ _ h1 wf dy
   by_cases hid:id'=id
   ·rw [Fz hid] at h
    simp only [cond_true,Option.some.injEq,Prod.mk.injEq] at h;obtain ⟨rfl,rfl⟩:=h
    refine ⟨W,hW,x1,ob,fun base φ w a gL hf=>wp_block (wp_mono (k1 base φ w a gL hf).wp fun e a1 w1 hp=>?_)⟩
    obtain ⟨φ1,hO,he,ht,jX⟩:=hp
    have he:e=.exit id':=he
    subst he
    simp only [Exit.inBlock,hid,if_true]
    exact ⟨φ1,hO,rfl,ht,jX⟩
   ·rw [uT hid] at h
    simp only [cond_false,Option.some.injEq,Prod.mk.injEq] at h;obtain ⟨rfl,rfl⟩:=h
    refine ⟨W,hW,x1,ob,fun base φ w a gL hf=>wp_block (wp_mono (k1 base φ w a gL hf).wp fun e a1 w1 hp=>?_)⟩
    obtain ⟨φ1,hO,he,ht,jX⟩:=hp
    have he:e=.exit id':=he
    subst he
    simp only [Exit.inBlock,hid,if_false]
    exact ⟨φ1,hO,rfl,ht,jX⟩
  ·rename_i r hne
   obtain ⟨W,hW,x1,ob,k1⟩:=hs _ _ _ _ h wf dy
   refine ⟨W,hW,x1,ob,fun base φ w a gL hf=>wp_block (wp_mono (k1 base φ w a gL hf).wp fun e a1 w1 hp=>?_)⟩
   obtain ⟨φ1,hO,he,ht,jX⟩:=hp
   cases e with
   |exit id'=>
    exfalso
    cases x with
    |exit id2=>exact hne id2 s' h
    |panic v=>obtain ⟨u,hu,_⟩:=he;cases hu
    |_=>cases he
   |_=>exact ⟨φ1,hO,he,ht,jX⟩
 ·
  rename_i c1
  split at h
  ·rename_i s1 h1
   obtain ⟨W,hW,x1,ob,k1⟩:=hs _ _ _ _ h1 wf dy
   have zo:=x1.n
   obtain ⟨V,hV,x2,Ep,k2⟩:=hs _ _ _ _ h ob aa
   have hn2:=x2.n
   refine ⟨W++V,by rw [hV,hW];simp,x1.trans x2,Ep,fun base φ w a gL hf=>?_⟩
   show Code.rounds E.P c1 _ (n+1) a w
   rw [rounds_succ]
   refine wp_mono (k1 base φ w a gL (hf.first hn2)).wp fun e a1 w1 hp=>?_
   obtain ⟨φ1,hO,he,ht,jX⟩:=hp
   have he:e=.normal:=he
   subst he
   have:=k2 base φ1 w1 a1 ⟨hO.rel,ht,jX⟩ (hf.next hO zo)
   exact qg (fun e a2 w2 hp=>Post.glue x1 x2 hO hf hp) n a1 w1 this
  ·rename_i r hne
   have hx:x≠.normal:=fun e=>by subst e;exact hne _ h
   obtain ⟨W,hW,x1,ob,k1⟩:=hs _ _ _ _ h wf dy
   refine ⟨W,hW,x1,ob,fun base φ w a gL hf=>?_⟩
   show Code.rounds E.P c1 _ (n+1) a w
   rw [rounds_succ]
   refine wp_mono (k1 base φ w a gL hf).wp fun e a1 w1 hp=>?_
   obtain ⟨φ1,hO,he,ht,jX⟩:=hp
   have:e≠.normal:=fun e'=>by
    subst e'
    cases x with
    |normal=>exact hx rfl
    |panic v=>obtain ⟨u,hu,_⟩:=he;cases hu
    |_=>cases he
   cases e <;> first
    |exact absurd rfl this
    |exact ⟨φ1,hO,he,ht,jX⟩
 ·
  simp only [Option.some.injEq,Prod.mk.injEq] at h;obtain ⟨rfl,rfl⟩:=h
  exact ⟨[],by simp,cR.refl ..,wf,fun base φ w a h hf=>wp_exit ⟨φ,Out.refl [] h.rel,rfl,h.tr,h.dr⟩⟩
 ·
  simp only [Option.some.injEq,Prod.mk.injEq] at h;obtain ⟨rfl,rfl⟩:=h
  exact ⟨[],by simp,cR.refl ..,wf,fun base φ w a h hf=>wp_goto ⟨φ,Out.refl [] h.rel,rfl,h.tr,h.dr⟩⟩
 ·
  simp only [Option.some.injEq,Prod.mk.injEq] at h;obtain ⟨rfl,rfl⟩:=h
  exact ⟨[],by simp,cR.refl ..,wf,fun base φ w a h hf=>wp_ret ⟨φ,Out.refl [] h.rel,rfl,h.tr,h.dr⟩⟩
 ·cases h
end
theorem m5 {P:Program} {fn:Func} {tm:Array Value} {R R':Ending→World→Prop} (hr:∀ e w,R e w→R' e w):∀(ds:List Deferred) (u:FrameMode) (w:World),Leaves P fn tm R ds u w→Leaves P fn tm R' ds u w
 |[],u,w,h=>by
  cases u with
  |run=>exact h.elim
  |returning=>obtain ⟨v,h1,h2⟩:=h;exact ⟨v,h1,hr _ _ h2⟩
  |panicking c=>exact hr _ _ h
 |d::ds,u,w,h=>by
  obtain ⟨h1,fv,cap,f,args,h2,h3,h4⟩:=h
  refine ⟨h1,fv,cap,f,args,h2,h3,h4.mono fun e u' w' h=>?_⟩
  cases e with
  |returned v=>exact m5 hr ds _ _ h
  |panicked c=>exact m5 hr ds _ _ h
  |outgrown=>exact hr _ _ h
theorem fz.glue {E:Env} {base:Nat} {φ φ1:cS} {w w1:World} {H H1 H2:Hp} {W V:List Nat} {r:Bu} {e:Ending} {w2:World} (x1:cR W H H1) (x2:cR V H1 H2)
  (hO:Out E base φ w H H1 W φ1 w1) (hf:gM φ H.n H2.n) (h:fz E base φ1 w1 H1 H2 V r e w2):fz E base φ w H H2 (W++V) r e w2:=by
 obtain ⟨φ2,h1,h2⟩:=h
 exact ⟨φ2,hO.trans x1 x2 h1 hf,h2⟩
theorem qC.mono {φ ψ:cS} (h:∀ i l,φ i=some l→ψ i=some l) {m:Option Value} {u:FrameMode} (hm:qC φ m u):qC ψ m u:=by
 cases m with
 |none=>exact hm
 |some v=>obtain ⟨x,h1,h2⟩:=hm;exact ⟨x,h1,h2.mono h⟩
theorem qC.ne {φ:cS} {m:Option Value} {u:FrameMode} (hm:qC φ m u):u≠.run:=by
 cases m with
 |none=>have:u=.returning:=hm;rw [this];exact fun h=>by cases h
 |some v=>obtain ⟨x,h1,h2⟩:=hm;rw [h1];exact fun h=>by cases h
theorem qC.settle {φ:cS} {m:Option Value} {u:FrameMode} (hm:qC φ m u):qC φ m (Go.settle u):=by
 cases m with
 |none=>have:u=.returning:=hm;rw [this];rfl
 |some v=>obtain ⟨x,h1,h2⟩:=hm;rw [h1];exact ⟨x,rfl,h2⟩
section
variable {E:Env}
theorem zH (hS:Sound E) {n nt:Nat} {code:Nat→Code→St→Option (Ex×St)} (Fq:∀ nt,F3 E n nt (code nt)) (fn:Func) (T:Tm):∀(ds:List (Value×List Value)) (m:Option Value) (H:Hp) (w0:List Nat) (r:Bu) (H':Hp) (W':List Nat),
  qt E code fn T ds m H w0=some (r,H',W')→Wf H→E.ng≤H.n→∃ W,W'=w0++W∧cR W H H'∧Wf H'∧∀(base:Nat) (φ:cS) (w:World) (tm:Array Value) (es:List Deferred) (u:FrameMode),
   Rel E base H φ w→gM φ H.n H'.n→TR φ T tm nt→DR φ ds es→qC φ m u→Leaves E.P fn tm (fz E base φ w H H' W r) es u w
 |[],none,H,w0,r,H',W',h,wf,dy=>by
  simp only [qt] at h
  split at h
  ·rename_i v hv
   simp only [Option.some.injEq,Prod.mk.injEq] at h;obtain ⟨rfl,rfl,rfl⟩:=h
   refine ⟨[],by simp,cR.refl ..,wf,fun base φ w tm es u cM hf ht hd hm=>?_⟩
   cases hd
   have:u=.returning:=hm
   subst this
   obtain ⟨x,hx,hr⟩:=Lx hS.ok (s:=⟨T,H,[],[]⟩) wf cM ht hv
   exact ⟨x,hr,φ,Out.refl [] cM,x,rfl,hx⟩
  ·cases h
 |[],some v,H,w0,r,H',W',h,wf,dy=>by
  simp only [qt,Option.some.injEq,Prod.mk.injEq] at h;obtain ⟨rfl,rfl,rfl⟩:=h
  refine ⟨[],by simp,cR.refl ..,wf,fun base φ w tm es u cM hf ht hd hm=>?_⟩
  cases hd
  obtain ⟨x,hu,hx⟩:=hm
  subst hu
  exact ⟨φ,Out.refl [] cM,x,rfl,hx⟩
 |(f,args)::ds,m,H,w0,r,H',W',h,wf,dy=>by
  simp only [qt] at h
  split at h
  rotate_left
  ·cases h
  rename_i g a b
  have inv:∀(φ:cS) (es:List Deferred),DR φ ((.func (.func g) a b,args)::ds) es→∃ a' b' args' es',es={ target:=.fn (.func g) b',args:=a'++args'.toArray }::es'∧LR φ (a.toList++args++b.toList) (a'.toList++args'++b'.toList)∧DR φ ds es':=by
   intro φ es hd
   cases hd with
   |cons _ _ _ a' b' _ args' _ es' h1 h2 h3 h4=>exact ⟨a',b',args',es',rfl,(h1.toList.append h3).append h2.toList,h4⟩
  have inv2:∀(a' b':Array Value) (args':List Value) (w:World),(invoke (.fn (.func g) b') (a'++args'.toArray)).run E.P w=(callFunc g (a'.toList++args'++b'.toList).toArray).run E.P w:=by
   intro a' b' args' w
   simp only [invoke]
   congr 2
   apply Array.ext'
   simp
  split at h
  ·
   rename_i p hp
   split at h
   ·rename_i m1 H1 V1 hpr
    obtain ⟨d1,d2⟩:=hS.IJ _ _ hp
    obtain ⟨x1,ob,k1⟩:=d2 _ _ _ _ _ _ hpr wf dy
    have zo:=x1.n
    obtain ⟨W,hW,x2,Ep,k2⟩:=zH hS Fq fn T ds m1 H1 _ r H' W' h ob aa
    have hn2:=x2.n
    refine ⟨V1++W,by rw [hW];simp,x1.trans x2,Ep,fun base φ w tm es u cM hf ht hd hm=>?_⟩
    obtain ⟨a',b',args',es',rfl,hl,hd'⟩:=inv φ es hd
    refine leaves_cons hm.ne ((inv2 a' b' args' w).trans (d1 _ w)) ((k1 base φ w _ u cM (hf.first hn2) hl hm).mono fun e u' w' he=>?_)
    obtain ⟨⟨v,rfl⟩,φ',hO,hm'⟩:=he
    have hsub:=hO.sub (hf.first hn2)
    exact m5 (fun e w h=>fz.glue x1 x2 hO hf h) _ _ _ (k2 base φ' w' tm es' _ hO.rel (hf.next hO zo) (ht.mono hsub) (hd'.mono hsub) hm')
   ·cases h
  ·split at h
   ·rename_i fn' hfn
    split at h
    ·rename_i c hb
     cases hle:Nat.ble (a.toList++args++b.toList).length fn'.ntmps with
     |false=>rw [hle] at h;cases h
     |true=>
      rw [hle] at h
      simp only [cond_true] at h
      have hle':=Nat.le_of_ble_eq_true hle
      have main:∀(x:Ex) (s:St),(x=.normal∨x=.ret)→code fn'.ntmps c ⟨EX (a.toList++args++b.toList) 0 .nil,H,[],[]⟩=some (x,s)→∀(v:Value),s.d=[]→HB E fn' s=some v→qt E code fn T ds m s.h (w0++s.w)=some (r,H',W')→
        ∃ W,W'=w0++W∧cR W H H'∧Wf H'∧∀(base:Nat) (φ:cS) (w:World) (tm:Array Value) (es:List Deferred) (u:FrameMode),
         Rel E base H φ w→gM φ H.n H'.n→TR φ T tm nt→DR φ ((.func (.func g) a b,args)::ds) es→qC φ m u→Leaves E.P fn tm (fz E base φ w H H' W r) es u w:=by
       intro x s hx hrun v hsd hres lA
       obtain ⟨V,hV,x1,ob,k1⟩:=Fq fn'.ntmps _ _ _ _ hrun wf dy
       have x1:cR V H s.h:=x1
       have hV:s.w=V:=by rw [hV];simp
       have zo:=x1.n
       obtain ⟨W,hW,x2,Ep,k2⟩:=zH hS Fq fn T ds m s.h _ r H' W' lA ob aa
       have hn2:=x2.n
       refine ⟨V++W,by rw [hW,hV];simp,x1.trans x2,Ep,fun base φ w tm es u cM hf ht hd hm=>?_⟩
       obtain ⟨a',b',args',es',rfl,hl,hd'⟩:=inv φ es hd
       refine leaves_cons hm.ne ((inv2 a' b' args' w).trans (FL hS hfn hb _ w)) ?_
       have hwp:=(k1 base φ w { tmps:=(a'.toList++args'++b'.toList).toArray++Array.replicate (fn'.ntmps-(a'.toList++args'++b'.toList).toArray.size) undef,defers:=[] } ⟨cM,Eb hl hle',.nil⟩ (hf.first hn2)).wp
       refine (callsD_of_wp (R:=fun e w'=>(∃ v,e=.returned v)∧∃ φ',Out E base φ w H s.h V φ' w') (hS.ok.func _ _ hfn) hb (wp_mono hwp fun e a1 w1 hp=>?_)).mono fun e u' w' he=>?_
       ·obtain ⟨φ',hO,he,KO,jX⟩:=hp
        have hO:Out E base φ w H s.h V φ' w1:=hO
        rw [hsd] at jX
        have jX:a1.defers=[]:=by cases adI:a1.defers with |nil=>rfl |cons _ _=>rw [adI] at jX;cases jX
        obtain ⟨y,hy,hrs⟩:=Lx hS.ok ob hO.rel KO hres
        rcases hx with rfl |rfl
        ·have he:e=.normal:=he
         subst he
         exact ⟨jX,y,hrs,⟨y,rfl⟩,φ',hO⟩
        ·have he:e=.ret:=he
         subst he
         exact ⟨jX,y,hrs,⟨y,rfl⟩,φ',hO⟩
       ·obtain ⟨rfl,⟨y,rfl⟩,φ',hO⟩:=he
        have hsub:=hO.sub (hf.first hn2)
        exact m5 (fun e w h=>fz.glue x1 x2 hO hf h) _ _ _ (k2 base φ' w' tm es' _ hO.rel (hf.next hO zo) (ht.mono hsub) (hd'.mono hsub) (hm.mono hsub).settle)
      split at h
      ·rename_i s hrun
       split at h
       ·rename_i v hsd hres;exact main _ _ (.inl rfl) hrun v hsd hres h
       ·cases h
      ·rename_i s hrun
       split at h
       ·rename_i v hsd hres;exact main _ _ (.inr rfl) hrun v hsd hres h
       ·cases h
      ·cases h
    ·cases h
   ·cases h
theorem PT (hS:Sound E) {n:Nat} {code:Nat→Code→St→Option (Ex×St)} (Fq:∀ nt,F3 E n nt (code nt)):ji E (PS E code):=by
 intro g args H r H' W h wf dy
 unfold PS at h
 split at h
 ·rename_i p hp
  exact hS.OM _ _ hp _ _ _ _ _ h wf dy
 ·split at h
  ·rename_i fn hfn
   split at h
   ·rename_i c hb
    cases hle:Nat.ble args.length fn.ntmps with
    |false=>rw [hle] at h;cases h
    |true=>
     rw [hle] at h
     simp only [cond_true] at h
     have hle':=Nat.le_of_ble_eq_true hle
     have main:∀(x:Ex) (s:St) (m:Option Value),((x=.normal∨x=.ret)∧m=none∨∃ v,x=.panic v∧m=some v)→code fn.ntmps c ⟨EX args 0 .nil,H,[],[]⟩=some (x,s)→
       qt E code fn s.t s.d m s.h s.w=some (r,H',W)→kX E g args H r H' W:=by
      intro x s m hx hrun hl
      obtain ⟨V,hV,x1,ob,k1⟩:=Fq fn.ntmps _ _ _ _ hrun wf dy
      have x1:cR V H s.h:=x1
      have hV:s.w=V:=by rw [hV];simp
      have zo:=x1.n
      obtain ⟨W2,hW,x2,Ep,k2⟩:=zH hS Fq (nt:=fn.ntmps) fn s.t s.d m s.h _ r H' W hl ob aa
      have hn2:=x2.n
      rw [hV] at hW
      subst hW
      refine ⟨x1.trans x2,Ep,fun base φ w args' cM hf hlr=>.inl ⟨FL hS hfn hb _ w,calls_of_wp_defers (hS.ok.func _ _ hfn) hb ?_⟩⟩
      refine wp_mono (k1 base φ w { tmps:=args'.toArray++Array.replicate (fn.ntmps-args'.toArray.size) undef,defers:=[] } ⟨cM,Eb hlr hle',.nil⟩ (hf.first hn2)).wp fun e a1 w1 hp=>?_
      obtain ⟨φ',hO,he,KO,jX⟩:=hp
      have hO:Out E base φ w H s.h V φ' w1:=hO
      have key:∀ u,qC φ' m u→Leaves E.P fn a1.tmps (fz E base φ w H H' (V++W2) r) a1.defers u w1:=fun u hu=>
       m5 (fun e w h=>fz.glue x1 x2 hO hf h) _ _ _ (k2 base φ' w1 a1.tmps a1.defers u hO.rel (hf.next hO zo) KO jX hu)
      rcases hx with ⟨rfl |rfl,rfl⟩ |⟨v,rfl,rfl⟩
      ·have he:e=.normal:=he
       subst he
       exact key _ rfl
      ·have he:e=.ret:=he
       subst he
       exact key _ rfl
      ·obtain ⟨u,rfl,yA⟩:=he
       exact key _ ⟨u,rfl,yA⟩
     split at h
     ·rename_i s hrun;exact main _ _ none (.inl ⟨.inl rfl,rfl⟩) hrun h
     ·rename_i s hrun;exact main _ _ none (.inl ⟨.inr rfl,rfl⟩) hrun h
     ·rename_i v s hrun;exact main _ _ (some v) (.inr ⟨v,rfl,rfl⟩) hrun h
     ·cases h
   ·cases h
  ·cases h
theorem Mh (hS:Sound E) (hd:∀ call,ji E call→J1 E call):∀ f:Nat,(∀ nt,F3 E f nt (exec E f nt))∧ji E (Ag E f)
 |0=>⟨fun nt c s x s' h=>by simp [exec] at h,fun g args H r H' W h=>by simp [Ag] at h⟩
 |f+1=>by
  obtain ⟨h1,h2⟩:=Mh hS hd f
  refine ⟨fun nt c s x s' h wf dy=>?_,fun g args H r H' W h wf dy=>?_⟩
  ·simp only [exec] at h
   exact ID hS h2 (hd _ h2) (h1 nt) h wf dy
  ·simp only [Ag] at h
   exact PT hS h1 _ _ _ _ _ _ h wf dy
end
theorem Ze {a b:Nat} (h:a<b):Nat.blt a b=true:=by rw [Nat.blt_eq];exact h
theorem aeE {a b:Nat} (h:¬ a<b):Nat.blt a b=false:=by
 cases hb:Nat.blt a b with
 |false=>rfl
 |true=>rw [Nat.blt_eq] at hb;exact (h hb).elim
def jd (S:Nat→Bool) (eV:Nat→Bool):Nat→Nat
 |0=>0
 |n+1=>if S n=true∧eV n=true then n+1 else jd S eV n
theorem Ea (S eV:Nat→Bool):∀ n,jd S eV n≤n
 |0=>Nat.le_refl 0
 |n+1=>by
  simp only [jd]
  split
  ·exact Nat.le_refl _
  ·exact Nat.le_succ_of_le (Ea S eV n)
theorem oX (S eV:Nat→Bool):∀ n k,k<n→S k=true→eV k=true→k+1≤jd S eV n
 |0,k,h,_,_=>by omega
 |n+1,k,h,hs,ht=>by
  simp only [jd]
  split
  ·omega
  ·rename_i hn
   rcases Nat.lt_or_ge k n with h1 |h1
   ·exact oX S eV n k h1 hs ht
   ·have:k=n:=by omega
    subst this
    exact (hn ⟨hs,ht⟩).elim
theorem qW (S eV:Nat→Bool):∀ n,jd S eV n=0∨∃ k,k<n∧jd S eV n=k+1∧S k=true∧eV k=true
 |0=>.inl rfl
 |n+1=>by
  simp only [jd]
  split
  ·rename_i h;exact .inr ⟨n,by omega,rfl,h.1,h.2⟩
  ·rcases qW S eV n with h |⟨k,h1,h2⟩
   ·exact .inl h
   ·exact .inr ⟨k,by omega,h2⟩
theorem JL {S eV:Nat→Bool} {n m:Nat} (h:m=0∨∃ k,k<n∧m=k+1∧S k=true∧eV k=true) (hk:∀ k,k<n→S k=true→eV k=true→k+1≤m):jd S eV n=m:=by
 have h1:jd S eV n≤m:=by
  rcases qW S eV n with h0 |⟨k,Rs,hk2,Z0,hk4⟩
  ·omega
  ·rw [hk2];exact hk k Rs Z0 hk4
 have h2:m≤jd S eV n:=by
  rcases h with h0 |⟨k,Rs,hk2,Z0,hk4⟩
  ·omega
  ·rw [hk2];exact oX S eV n k Rs Z0 hk4
 omega
theorem vN {S S' eV:Nat→Bool} {n j:Nat} (hS:∀ k,k<n→(S' k=true↔(S k=true∨k=j))) (hj:eV j=false):jd S' eV n=jd S eV n:=by
 refine JL ?_ fun k hk h1 h2=>?_
 ·rcases qW S eV n with h0 |⟨k,Rs,hk2,Z0,hk4⟩
  ·exact .inl h0
  ·exact .inr ⟨k,Rs,hk2,(hS k Rs).2 (.inl Z0),hk4⟩
 ·rcases (hS k hk).1 h1 with h3 |h3
  ·exact oX S eV n k hk h3 h2
  ·subst h3;rw [hj] at h2;cases h2
theorem FT {S S' eV:Nat→Bool} {n j:Nat} (hS:∀ k,k<n→(S' k=true↔(S k=true∨k=j))) (hjn:j<n) (hj:eV j=true) (hk:∀ k,j<k→k<n→S k=true→eV k=false):jd S' eV n=j+1:=by
 refine JL (.inr ⟨j,hjn,rfl,(hS j hjn).2 (.inr rfl),hj⟩) fun k hkn h1 h2=>?_
 rcases Nat.lt_or_ge j k with h3 |h3
 ·rcases (hS k hkn).1 h1 with h4 |h4
  ·rw [hk k h3 hkn h4] at h2;cases h2
  ·omega
 ·omega
structure AJ (E:Env) (base:Nat) (C:Nat→Option Ob) (φ:cS) (w:World):Prop where
 bs:base≤w.heap.size
 blocks:∀ i l o,φ i=some l→C i=some o→sS E base φ w l o
 lt:∀ i l,φ i=some l→live (C i)=true→l.gK<w.heap.size
 inj:∀ i j l m,i≠j→φ i=some l→φ j=some m→dA (C i)=true→live (C j)=true→l.gK≠m.gK
 fI:∀ g,g<E.ng→∃ l,φ g=some l∧l.gK=g∧l.off=0
theorem Wf.live {H:Hp} (wf:Wf H) {i:Nat} (h:live (H.get i)=true):i<H.n:=by
 cases hg:H.get i with
 |none=>rw [hg] at h;cases h
 |some o=>exact wf.lt hg
theorem AJ.of {E:Env} {base:Nat} {H:Hp} {φ:cS} {w:World} (wf:Wf H) (h:Rel E base H φ w):AJ E base H.get φ w:=
 ⟨h.bs,fun i l o hl ho=>h.blocks i l o (wf.lt ho) hl ho,fun i l hl hv=>h.lt i l (wf.live hv) hl hv,
  fun i j l m hij hl hm hi hj=>h.inj i j l m (wf.live (dQ hi)) (wf.live hj) hij hl hm hi hj,h.fI⟩
theorem AJ.rel {E:Env} {base:Nat} {H:Hp} {C:Nat→Option Ob} {φ:cS} {w:World} (h:AJ E base C φ w) (hc:∀ i,i<H.n→φ i≠none→C i=H.get i):Rel E base H φ w:=
 ⟨h.bs,fun i l o hi hl ho=>h.blocks i l o hl (by rw [hc i hi (by rw [hl];simp)];exact ho),fun i l hi hl hv=>h.lt i l hl (by rw [hc i hi (by rw [hl];simp)];exact hv),
  fun i j l m hi hj hij hl hm hw hv=>h.inj i j l m hij hl hm (by rw [hc i hi (by rw [hl];simp)];exact hw) (by rw [hc j hj (by rw [hm];simp)];exact hv),h.fI⟩
theorem AJ.pre {E:Env} {base:Nat} {H:Hp} {C:Nat→Option Ob} {φ:cS} {w:World} {R:List Nat} (wf:Wf H) (h:AJ E base C φ w) (hc:∀ i,i∈R→i<H.n→φ i≠none→C i=H.get i):Pre E base φ w H R:=
 ⟨h.bs,fun i hi l o hl ho=>h.blocks i l o hl (by rw [hc i hi (wf.lt ho) (by rw [hl];simp)];exact ho),
  fun i hi l hl hv=>h.lt i l hl (by rw [hc i hi (wf.live hv) (by rw [hl];simp)];exact hv),h.fI⟩
theorem AJ.step {E:Env} {base:Nat} {H H':Hp} {C C':Nat→Option Ob} {φ φ':cS} {w w':World} {W:List Nat} (dy:E.ng≤H.n) (h:AJ E base C φ w) (k:gF E base φ w H H' W φ' w') (hn:H.n≤H'.n)
  (hf:gM φ H.n H'.n) (hW:∀ i,i∈W→φ i≠none→C i=H.get i) (h1:∀ i,(i∈W∨(H.n≤i∧i<H'.n))→C' i=H'.get i) (h2:∀ i,i∉W→¬ (H.n≤i∧i<H'.n)→C' i=C i)
  (U9:∀ i,i∈W→dA (H'.get i)=true→dA (H.get i)=true) (hlv:∀ i,i∈W→live (H'.get i)=true→live (H.get i)=true):AJ E base C' φ' w':=by
 have hsub:∀ i l,φ i=some l→φ' i=some l:=by
  intro i l hi
  by_cases h1:i<H.n
  ·rw [k.ext i (.inl h1)];exact hi
  ·by_cases h2:H'.n≤i
   ·rw [k.ext i (.inr h2)];exact hi
   ·rw [hf i aa aa] at hi;cases hi
 have Rq:∀ i,¬ (H.n≤i∧i<H'.n)→φ' i=φ i:=fun i hi=>k.ext i aa
 have adu:∀ i,i∈W→i<H.n:=fun i hi=>(k.wr i hi).1
 have aeL:∀ i,¬ (H.n≤i∧i<H'.n)→φ i≠none→dA (C' i)=true→dA (C i)=true:=by
  intro i hi hm hl
  by_cases hw:i∈W
  ·rw [h1 i (.inl hw)] at hl
   rw [hW i hw hm]
   exact U9 i hw hl
  ·rw [h2 i hw hi] at hl;exact hl
 have Zj:∀ i,¬ (H.n≤i∧i<H'.n)→φ i≠none→live (C' i)=true→live (C i)=true:=by
  intro i hi hm hl
  by_cases hw:i∈W
  ·rw [h1 i (.inl hw)] at hl
   rw [hW i hw hm]
   exact hlv i hw hl
  ·rw [h2 i hw hi] at hl;exact hl
 refine ⟨Nat.le_trans h.bs k.step.size,fun i l o hl ho=>?_,fun i l hl hv=>?_,fun i j l m hij hl hm hw hv=>?_,fun g hg=>?_⟩
 ·by_cases hc:i∈W∨(H.n≤i∧i<H'.n)
  ·rw [h1 i hc] at ho
   exact k.blocks i l o (hc.imp id (·.1)) (hc.elim (fun h=>Nat.lt_of_lt_of_le (adu i h) hn) (·.2)) hl ho
  ·have HW:i∉W:=fun h=>hc (.inl h)
   have KM:¬ (H.n≤i∧i<H'.n):=fun h=>hc (.inr h)
   rw [Rq i KM] at hl
   rw [h2 i HW KM] at ho
   by_cases Fs:live (C i)=true
   ·have hb:=h.blocks i l o hl ho
    refine (hb.mono hsub).same (k.step.keep l.gK (h.lt i l hl Fs) fun j hj m hm he=>?_)
    obtain ⟨hjn,hjw⟩:=k.wr j hj
    rw [← hW j hj (by rw [hm];simp)] at hjw
    exact h.inj j i m l (fun e=>HW (e▸hj)) hm hl hjw Fs he
   ·rw [ho] at Fs
    unfold Am.live at Fs
    split at Fs
    ·rename_i heq;injection heq with heq;subst heq;intro j x hx;simp at hx
    ·rename_i heq;injection heq with heq;subst heq;trivial
    ·simp at Fs
    ·rename_i heq;cases heq
 ·by_cases hc:H.n≤i∧i<H'.n
  ·rw [h1 i (.inr hc)] at hv
   exact k.lt i l hc.1 hc.2 hl hv
  ·rw [Rq i hc] at hl
   exact Nat.lt_of_lt_of_le (h.lt i l hl (Zj i hc (by rw [hl];simp) hv)) k.step.size
 ·by_cases hi:H.n≤i∧i<H'.n
  ·by_cases hj:H.n≤j∧j<H'.n
   ·rw [h1 i (.inr hi)] at hw
    rw [h1 j (.inr hj)] at hv
    exact k.inj i j l m hi.1 hi.2 hj.1 hj.2 hij hl hm hw hv
   ·rw [Rq j hj] at hm
    have YE:=Zj j hj (by rw [hm];simp) hv
    rcases k.fresh i l hi.1 hi.2 hl with hb |⟨q,hq,mq,hqn,Va,hbq,Vi,Rp⟩
    ·have:=h.lt j m hm YE;omega
    ·have hne:q≠j:=fun e=>by
      subst e
      rw [h1 q (.inl hq)] at hv
      rw [hv] at Rp;cases Rp
     rw [← hW q hq (by rw [Va];simp)] at Vi
     have:=h.inj q j mq m hne Va hm Vi YE
     omega
  ·rw [Rq i hi] at hl
   have hw0:=aeL i hi (by rw [hl];simp) hw
   by_cases hj:H.n≤j∧j<H'.n
   ·rcases k.fresh j m hj.1 hj.2 hm with hb |⟨q,hq,mq,hqn,Va,hbq,Vi,Rp⟩
    ·have:=h.lt i l hl (dQ hw0);omega
    ·have hne:q≠i:=fun e=>by
      subst e
      rw [h1 q (.inl hq)] at hw
      rw [dQ hw] at Rp;cases Rp
     rw [← hW q hq (by rw [Va];simp)] at Vi
     have:=h.inj q i mq l hne Va hl Vi (dQ hw0)
     omega
   ·rw [Rq j hj] at hm
    exact h.inj i j l m hij hl hm hw0 (Zj j hj (by rw [hm];simp) hv)
 ·obtain ⟨l,e1,e2⟩:=h.fI g hg
  exact ⟨l,hsub g l e1,e2⟩
theorem Out.adn {E:Env} {base:Nat} {φ φ':cS} {w w':World} {H H':Hp} {W:List Nat} (hn:H.n≤H'.n) (hf:gM φ H.n H'.n) (h:Out E base φ w H H' W φ' w') (hw:bC H H' W=true) :
  gF E base φ w H H' (W.filter (Nat.blt · H.n)) φ' w':=by
 have hw':∀ q,q∈W→if q<H.n then dA (H.get q)=true else q<H'.n:=by
  intro q hq
  unfold bC at hw
  rw [List.all_eq_true] at hw
  have:=hw q hq
  split
  ·rename_i h1;rw [Ze h1] at this;exact this
  ·rename_i h1;rw [aeE h1] at this;simpa [Nat.blt_eq] using this
 have mem:∀ q,q∈W.filter (Nat.blt · H.n)↔q∈W∧q<H.n:=fun q=>by simp [List.mem_filter,Nat.blt_eq]
 refine ⟨fun j hj=>?_,h.ext,⟨h.step.os,h.step.tape,h.step.output,h.step.size,fun B hB hk=>h.step.keep B hB fun j hj l hl=>?_⟩,fun i l h1 h2 h3=>?_,fun i l o h1 h2 h3 h4=>h.rel.blocks i l o h2 h3 h4,fun i l h1 h2 h3 h4=>h.rel.lt i l h2 h3 h4,fun i j l m h1 h2 h3 h4 h5 h6 h7 h8 h9=>h.rel.inj i j l m h2 h4 h5 h6 h7 h8 h9⟩
 ·obtain ⟨h1,h2⟩:=(mem j).1 hj
  have:=hw' j h1
  rw [if_pos h2] at this
  exact ⟨h2,this⟩
 ·by_cases h1:j<H.n
  ·exact hk j ((mem j).2 ⟨hj,h1⟩) l hl
  ·have:=hw' j hj
   rw [if_neg h1] at this
   rw [hf j aa this] at hl;cases hl
 ·rcases h.fresh i l h1 h2 h3 with hb |⟨j,hj,m,hjn,hr⟩
  ·exact .inl hb
  ·exact .inr ⟨j,(mem j).2 ⟨hj,hjn⟩,m,hjn,hr⟩
def mz (acc:Array Nat) (o:Oper):Nat:=o.after.foldl (fun s e=>if Region.binds .any e then s |||2 ^ e.on |||acc.getD e.on 0 else s) 0
theorem F5 (acc:Array Nat) (o:Oper) (i:Nat) (h:(mz acc o).testBit i=true):∃ e∈o.after,Region.binds .any e=true∧(i=e.on∨(acc.getD e.on 0).testBit i=true):=by
 unfold mz at h
 rw [← Array.foldl_toList] at h
 have key:∀(l:List Edge) (s:Nat),(l.foldl (fun s e=>if Region.binds .any e then s |||2 ^ e.on |||acc.getD e.on 0 else s) s).testBit i=true→s.testBit i=true∨∃ e∈l,Region.binds .any e=true∧(i=e.on∨(acc.getD e.on 0).testBit i=true):=by
  intro l
  induction l with
  |nil=>intro s h;exact .inl h
  |cons e l ih=>
   intro s h
   rw [List.foldl_cons] at h
   rcases ih _ h with h1 |⟨e',h1,h2⟩
   ·split at h1
    ·rename_i hb
     rw [Nat.testBit_or,Nat.testBit_or,Bool.or_eq_true,Bool.or_eq_true] at h1
     rcases h1 with (h1 |h1) |h1
     ·exact .inl h1
     ·exact .inr ⟨e,by simp,hb,.inl (by rw [Nat.testBit_two_pow] at h1;exact (of_decide_eq_true h1).symm)⟩
     ·exact .inr ⟨e,by simp,hb,.inr h1⟩
    ·exact .inl h1
   ·exact .inr ⟨e',List.mem_cons_of_mem _ h1,h2⟩
 rcases key _ _ h with h1 |⟨e,h1,h2⟩
 ·simp at h1
 ·exact ⟨e,by simpa using h1,h2⟩
theorem Is (ops:Array Oper):(Region.before ops).size=ops.size∧∀(j:Nat) (o:Oper),ops[j]?=some o→∀ i,((Region.before ops).getD j 0).testBit i=true→∃ e∈o.after,Region.binds .any e=true∧(i=e.on∨(e.on<j∧((Region.before ops).getD e.on 0).testBit i=true)):=by
 have hb:Region.before ops=ops.toList.foldl (fun acc o=>acc.push (mz acc o)) #[]:=by
  unfold Region.before
  rw [← Array.foldl_toList]
  rfl
 rw [hb]
 have key:∀(l pre:List Oper) (acc:Array Nat),acc.size=pre.length→(∀(j:Nat) (o:Oper),pre[j]?=some o→∀ i,(acc.getD j 0).testBit i=true→∃ e∈o.after,Region.binds .any e=true∧(i=e.on∨(e.on<j∧(acc.getD e.on 0).testBit i=true)))→
   (l.foldl (fun acc o=>acc.push (mz acc o)) acc).size=(pre++l).length∧∀(j:Nat) (o:Oper),(pre++l)[j]?=some o→∀ i,((l.foldl (fun acc o=>acc.push (mz acc o)) acc).getD j 0).testBit i=true→∃ e∈o.after,Region.binds .any e=true∧(i=e.on∨(e.on<j∧((l.foldl (fun acc o=>acc.push (mz acc o)) acc).getD e.on 0).testBit i=true)):=by
  intro l
  induction l with
  |nil=>intro pre acc hs hp;simpa [hs] using hp
  |cons o l ih=>
   intro pre acc hs hp
   have:=ih (pre++[o]) (acc.push (mz acc o)) (by simp [hs]) (fun j p hj i hi=>?_)
   ·simpa [List.append_assoc] using this
   ·have lower:∀ k,k<acc.size→(acc.push (mz acc o)).getD k 0=acc.getD k 0:=fun k hk=>by
     rw [Array.getD_eq_getD_getElem?,Array.getD_eq_getD_getElem?,Array.getElem?_push,if_neg aa]
    rcases Nat.lt_or_ge j pre.length with h1 |h1
    ·rw [List.getElem?_append_left h1] at hj
     rw [lower j aa] at hi
     obtain ⟨e,h2,h3,h4⟩:=hp j p hj i hi
     refine ⟨e,h2,h3,h4.imp id fun h4=>⟨h4.1,?_⟩⟩
     rw [lower _ aa];exact h4.2
    ·have hj0:j=pre.length:=by
      have:=(List.getElem?_eq_some_iff.1 hj).1
      simp at this;omega
     subst hj0
     rw [List.getElem?_append_right (Nat.le_refl _)] at hj
     simp at hj
     subst hj
     have e1:(acc.push (mz acc o)).getD pre.length 0=mz acc o:=by
      rw [← hs,Array.getD_eq_getD_getElem?];simp
     rw [e1] at hi
     obtain ⟨e,h2,h3,h4⟩:=F5 acc o i hi
     refine ⟨e,h2,h3,h4.imp id fun h4=>?_⟩
     have hlt:e.on<acc.size:=by
      rcases Nat.lt_or_ge e.on acc.size with h5 |h5
      ·exact h5
      ·rw [Array.getD_eq_getD_getElem?,Array.getElem?_eq_none h5] at h4;simp at h4
     exact ⟨by omega,by rw [lower _ hlt];exact h4⟩
 have:=key ops.toList [] #[] rfl (fun j o h=>by simp at h)
 simpa using this
def PC (ops:Array Oper) (S:Nat→Bool):Prop:=∀(j:Nat) (o:Oper),ops[j]?=some o→S j=true→∀ e∈o.after,Region.binds .any e=true→S e.on=true
theorem ql {ops:Array Oper} {S:Nat→Bool} (hc:PC ops S):∀(n j:Nat) (o:Oper),j<n→ops[j]?=some o→(∀ e∈o.after,Region.binds .any e=true→S e.on=true)→∀ i,((Region.before ops).getD j 0).testBit i=true→S i=true
 |0,j,o,h,_,_,_,_=>by omega
 |n+1,j,o,hn,ho,he,i,hi=>by
  obtain ⟨e,h1,h2,h3⟩:=(Is ops).2 j o ho i hi
  rcases h3 with rfl |⟨h3,h4⟩
  ·exact he e h1 h2
  ·have hs:S e.on=true:=he e h1 h2
   have hj:=(Array.getElem?_eq_some_iff.1 ho).1
   have hlt:e.on<ops.size:=by omega
   exact ql hc n e.on ops[e.on] aa (by simp [hlt]) (fun e' h5 h6=>hc e.on _ (by simp [hlt]) hs e' h5 h6) i h4
def Px (n:Nat) (listed:Array Bool):Nat:=(List.range n).countP fun i=>!listed.getD i true
theorem countP_le {p q:Nat→Bool}:∀(l:List Nat),(∀ x∈l,q x=true→p x=true)→l.countP q≤l.countP p
 |[],_=>Nat.le_refl _
 |x::l,h=>by
  have ih:=countP_le l (fun y hy=>h y (List.mem_cons_of_mem _ hy))
  rw [List.countP_cons,List.countP_cons]
  have:=h x (by simp)
  split <;> split <;> first
   |omega
   |(rename_i h1 h2;exact (h2 (this h1)).elim)
theorem Ff {p q:Nat→Bool} {y:Nat} (hp:p y=true) (hq:q y=false):∀(l:List Nat),(∀ x∈l,q x=true→p x=true)→y∈l→l.countP q<l.countP p
 |[],_,h=>by cases h
 |x::l,h,hy=>by
  have hx:=h x (by simp)
  have hl:=fun y hy=>h y (List.mem_cons_of_mem _ hy)
  rw [List.countP_cons,List.countP_cons]
  rcases List.mem_cons.1 hy with e |hy
  ·subst e
   have:=countP_le l hl
   rw [hp,hq];simp;omega
  ·have:=Ff hp hq l hl hy
   split <;> split <;> first
    |omega
    |(rename_i h1 h2;exact (h2 (hx h1)).elim)
theorem mem_ready {md:Region.Mode} {ops:Array Oper} {listed:Array Bool} {i:Nat}:i∈Region.ready md ops listed↔∃ o,ops[i]?=some o∧listed.getD i true=false∧∀ e∈o.after,Region.binds md e=true→listed.getD e.on false=true:=by
 unfold Region.ready
 rw [List.mem_filter,List.mem_range]
 constructor
 ·intro ⟨h1,h2⟩
  refine ⟨ops[i],by simp [h1],?_⟩
  rw [Bool.and_eq_true] at h2
  refine ⟨by simpa using h2.1,fun e he hb=>?_⟩
  have h3:=h2.2
  simp only [Array.getElem?_eq_getElem h1,Option.map_some,Option.getD_some,Array.all_eq_true_iff_forall_mem] at h3
  have:=h3 e he
  rw [hb] at this
  simpa using this
 ·intro ⟨o,h1,h2,h3⟩
  have hi:=(Array.getElem?_eq_some_iff.1 h1).1
  refine ⟨hi,?_⟩
  rw [h2,h1]
  simp only [Bool.not_false,Option.map_some,Option.getD_some,Bool.true_and,Array.all_eq_true_iff_forall_mem]
  intro e he
  cases hb:Region.binds md e with
  |false=>simp
  |true=>simpa using h3 e he hb
def fA (md:Region.Mode) (ops:Array Oper):Prop:=∀ listed:Array Bool,listed.size=ops.size→(∃ j,j<ops.size∧listed.getD j true=false)→Region.ready md ops listed≠[]
theorem Hy {ops:Array Oper} (h:Ga ops=true):fA .any ops:=by
 intro listed hl ⟨j,hj,hjl⟩ hr
 have key:∀ n j,j<n→j<ops.size→listed.getD j true=true:=by
  intro n
  induction n with
  |zero=>intro j h;omega
  |succ n ih=>
   intro j hjn hj
   cases hb:listed.getD j true with
   |true=>rfl
   |false=>
    exfalso
    have:j∈Region.ready .any ops listed:=mem_ready.2 ⟨ops[j],by simp [hj],hb,fun e he hbd=>by
     unfold Ga at h
     rw [Array.all_eq_true_iff_forall_mem] at h
     have h1:=h (ops[j],j) (by rw [Array.mem_zipIdx_iff_getElem?];simp [hj])
     simp only [Array.all_eq_true_iff_forall_mem] at h1
     have h2:=h1 e he
     rw [hbd] at h2
     simp [Nat.blt_eq] at h2
     have h3:=ih e.on aa aa
     have h4:e.on<listed.size:=by omega
     simpa [Array.getD_eq_getD_getElem?,h4] using h3⟩
    rw [hr] at this;cases this
 rw [key (j+1) j aa hj] at hjl
 cases hjl
theorem kO {listed:Array Bool} {i:Nat} (h:i<listed.size) (a b:Bool):listed.getD i a=listed.getD i b:=by
 simp [Array.getD_eq_getD_getElem?,h]
theorem El {n:Nat} {listed:Array Bool} (h:Px n listed=0) (i:Nat) (hi:i<n):listed.getD i true=true:=by
 unfold Px at h
 rw [List.countP_eq_zero] at h
 have:=h i (List.mem_range.2 hi)
 simpa using this
theorem ou {listed:Array Bool} {i j:Nat} (hi:i<listed.size) (d:Bool):(listed.setIfInBounds i true).getD j d=if i=j then true else listed.getD j d:=by
 rw [Array.getD_eq_getD_getElem?,Array.getD_eq_getD_getElem?]
 by_cases e:i=j
 ·subst e;rw [Array.getElem?_setIfInBounds_self_of_lt hi];simp
 ·rw [Array.getElem?_setIfInBounds_ne e,if_neg e]
theorem HL {n:Nat} {listed:Array Bool} {i:Nat} (hn:listed.size=n) (hi:i<n) (h:listed.getD i true=false):Px n (listed.setIfInBounds i true)<Px n listed:=by
 unfold Px
 refine Ff (y:=i) (by rw [h];rfl) (by rw [ou aa,if_pos rfl];rfl) _ (fun x hx hq=>?_) (List.mem_range.2 hi)
 rw [ou aa] at hq
 split at hq
 ·cases hq
 ·exact hq
theorem AF {md:Region.Mode} {ops:Array Oper}:∀(fuel t:Nat) (listed:Array Bool),(Region.linearise.go md ops fuel t listed []).length=fuel→listed.size=ops.size→Px ops.size listed≤fuel→
  ∀ n5:Array Bool,n5.size=ops.size→(∀ i,i<ops.size→listed.getD i true=true→n5.getD i true=true)→(∃ j,j<ops.size∧n5.getD j true=false)→Region.ready md ops n5≠[]
 |0,t,listed,hlen,hs,hu,n5,hs',hsub,⟨j,hj,hjl⟩=>by
  rw [hsub j hj (El aa j hj)] at hjl;cases hjl
 |fuel+1,t,listed,hlen,hs,hu,n5,hs',hsub,hex=>by
  simp only [Region.linearise.go] at hlen
  change (match (Region.ready md ops listed)[t%(Region.ready md ops listed).length]? with
   |some i=>Region.linearise.go md ops fuel (t / (Region.ready md ops listed).length) (listed.setIfInBounds i true) [i]
   |none=>[].reverse).length=fuel+1 at hlen
  split at hlen
  ·rename_i i hi
   rw [linearise_go_acc] at hlen
   simp only [List.reverse_singleton,List.length_append,List.length_singleton] at hlen
   have hm:=List.mem_of_getElem? hi
   obtain ⟨o,h1,h2,h3⟩:=mem_ready.1 hm
   have hin:=(Array.getElem?_eq_some_iff.1 h1).1
   have hu':=HL hs hin h2
   cases hl:n5.getD i true with
   |true=>
    refine AF fuel (t / (Region.ready md ops listed).length) (listed.setIfInBounds i true) aa (by simpa using hs) aa n5 hs' (fun k hk hkl=>?_) hex
    rw [ou aa] at hkl
    split at hkl
    ·rename_i e;subst e;exact hl
    ·exact hsub k hk hkl
   |false=>
    intro hr
    have:i∈Region.ready md ops n5:=mem_ready.2 ⟨o,h1,hl,fun e he hb=>by
     have h4:=h3 e he hb
     have h5:e.on<listed.size:=by
      rcases Nat.lt_or_ge e.on listed.size with h6 |h6
      ·exact h6
      ·rw [Array.getD_eq_getD_getElem?,Array.getElem?_eq_none h6] at h4;cases h4
     rw [kO aa false true]
     exact hsub _ aa (by rw [kO h5 true false];exact h4)⟩
    rw [hr] at this;cases this
  ·simp at hlen
theorem cr {md:Region.Mode} {ops:Array Oper} (h:(Region.linearise md ops 0).length=ops.size):fA md ops:=by
 intro listed hs hex
 refine AF ops.size 0 (Array.replicate ops.size false) h (by simp) ?_ listed hs (fun i hi h=>?_) hex
 ·unfold Px
  have:=List.countP_le_length (p:=fun i=>!(Array.replicate ops.size false).getD i true) (l:=List.range ops.size)
  simpa using this
 ·simp [Array.getD_eq_getD_getElem?,hi] at h
theorem Fa {md:Region.Mode} {e:Edge} (h:Region.binds .any e=true):Region.binds md e=true:=by
 unfold Region.binds at *
 cases hg:e.ground <;> rw [hg] at h <;> first
  |rfl
  |(simp at h;done)
theorem zQ (T:Tm):∀(ts:List Tmp) (a:Tm) (t:Nat) (v:Value),(oT T ts a).get t=some v→a.get t=some v∨(t∈ts∧T.get t=some v)
 |[],a,t,v,h=>.inl h
 |x::ts,a,t,v,h=>by
  simp only [oT] at h
  split at h
  ·rename_i u hu
   rcases zQ T ts _ t v h with h1 |h1
   ·rw [Tr.ek] at h1
    split at h1
    ·rename_i e;subst e;injection h1 with h1;subst h1;exact .inr ⟨by simp,hu⟩
    ·exact .inl h1
   ·exact .inr ⟨List.mem_cons_of_mem _ h1.1,h1.2⟩
  ·rcases zQ T ts _ t v h with h1 |h1
   ·exact .inl h1
   ·exact .inr ⟨List.mem_cons_of_mem _ h1.1,h1.2⟩
theorem OT {T:Tm} {ts:List Tmp} {t:Nat} {v:Value} (h:(oT T ts .nil).get t=some v):t∈ts∧T.get t=some v:=by
 rcases zQ T ts .nil t v h with h1 |h1
 ·simp [Tr.get] at h1
 ·exact h1
def rL:Op→Bool
 |.defer _=>true
 |_=>false
inductive qE (E:Env) (call:Call) (nt:Nat) (ops:Array Oper) (d:List (Value×List Value)) (o:Oper) (T T':Tm) (H H':Hp):List Nat→jT→Prop
 |skip:oa ops (oT T (iU ops o) .nil) o=some false→sG T nt o.dst bJ=some T'→H'=H→qE E call nt ops d o T T' H H' [] ⟨o.dst,iU ops o,[],some [],H.n,H.n⟩
 |go (v:Value) (W:List Nat) (r:Option (List Nat)):oa ops (oT T (iU ops o) .nil) o=some true→dR E call o (oT T (iU ops o) .nil) H d=some (.val v H' d W r)→sG T nt o.dst v=some T'→
   bC H H' W=true→qE E call nt ops d o T T' H H' W ⟨o.dst,iU ops o,W.filter (Nat.blt · H.n),r,H.n,H'.n⟩
section
variable {E:Env} {call:Call}
theorem Hv {o:Oper} {T:Tm} {H H':Hp} {d d':List (Value×List Value)} {v:Value} {W:List Nat} {r:Option (List Nat)} (hnd:rL o.op=false) (h:dR E call o T H d=some (.val v H' d' W r)) :
  d'=d∧∀ R,r=some R→simple E o T H=some (v,H',W,R):=by
 unfold dR at h
 split at h
 ·split at h
  ·rename_i h1
   injection h with h
   injection h with a1 a2 a3 a4 a5
   subst a1;subst a2;subst a3;subst a4;subst a5
   exact ⟨rfl,fun R hR=>by injection hR with hR;subst hR;exact h1⟩
  ·cases h
 ·split at h
  ·split at h
   ·injection h with h
    injection h with a1 a2 a3 a4 a5
    exact ⟨a3.symm,fun R hR=>by rw [← a5] at hR;cases hR⟩
   ·injection h with h;cases h
   ·cases h
  ·cases h
 ·rename_i he;rw [he] at hnd;cases hnd
 ·split at h
  ·injection h with h;cases h
  ·cases h
 ·split at h
  ·rename_i h1
   injection h with h
   injection h with a1 a2 a3 a4 a5
   subst a1;subst a2;subst a3;subst a4;subst a5
   exact ⟨rfl,fun R hR=>by injection hR with hR;subst hR;exact h1⟩
  ·cases h
theorem vJ {nt:Nat} {ops:Array Oper}:∀(rest:List Oper) (s s':St) (ZX fs:List jT),r7 E call nt ops rest s ZX=some (s',fs)→(∀ o∈rest,rL o.op=false)→
  ∃(hs:Nat→Hp) (ts:Nat→Tm) (Ws:Nat→List Nat) (ft:Nat→jT) (W:List Nat),hs 0=s.h∧ts 0=s.t∧hs rest.length=s'.h∧ts rest.length=s'.t∧s'.d=s.d∧s'.w=s.w++W∧
   (∀ j,j<rest.length→∀ q,q∈Ws j→q∈W)∧fs=ZX.reverse++(List.range rest.length).map ft∧
   ∀(j:Nat) (o:Oper),rest[j]?=some o→qE E call nt ops s.d o (ts j) (ts (j+1)) (hs j) (hs (j+1)) (Ws j) (ft j)
 |[],s,s',ZX,fs,h,hd=>by
  simp only [r7,Option.some.injEq,Prod.mk.injEq] at h
  obtain ⟨rfl,rfl⟩:=h
  exact ⟨fun _=>s.h,fun _=>s.t,fun _=>[],fun _=>⟨none,[],[],none,0,0⟩,[],rfl,rfl,rfl,rfl,rfl,by simp,fun j hj=>by simp at hj,by simp,fun j o h=>by simp at h⟩
 |o::rest,s,s',ZX,fs,h,hd=>by
  simp only [r7] at h
  have glue:∀(v:Value) (H1:Hp) (T1:Tm) (W1:List Nat) (f:jT),qE E call nt ops s.d o s.t T1 s.h H1 W1 f→r7 E call nt ops rest ⟨T1,H1,s.d,s.w++W1⟩ (f::ZX)=some (s',fs)→
    ∃(hs:Nat→Hp) (ts:Nat→Tm) (Ws:Nat→List Nat) (ft:Nat→jT) (W:List Nat),hs 0=s.h∧ts 0=s.t∧hs (o::rest).length=s'.h∧ts (o::rest).length=s'.t∧s'.d=s.d∧s'.w=s.w++W∧
     (∀ j,j<(o::rest).length→∀ q,q∈Ws j→q∈W)∧fs=ZX.reverse++(List.range (o::rest).length).map ft∧
     ∀(j:Nat) (o':Oper),(o::rest)[j]?=some o'→qE E call nt ops s.d o' (ts j) (ts (j+1)) (hs j) (hs (j+1)) (Ws j) (ft j):=by
   intro v H1 T1 W1 f hstep lA
   obtain ⟨hs,ts,Ws,ft,W,a1,a2,a3,a4,a5,a6,a7,a8,a9⟩:=vJ rest _ s' _ fs lA (fun o' ho'=>hd o' (List.mem_cons_of_mem _ ho'))
   refine ⟨fun |0=>s.h |j+1=>hs j,fun |0=>s.t |j+1=>ts j,fun |0=>W1 |j+1=>Ws j,fun |0=>f |j+1=>ft j,W1++W,rfl,rfl,a3,a4,a5,?_,?_,?_,?_⟩
   ·rw [a6];simp
   ·intro j hj q hq
    cases j with
    |zero=>exact List.mem_append_left _ hq
    |succ j=>exact List.mem_append_right _ (a7 j (by simpa using hj) q hq)
   ·rw [a8,List.length_cons,List.range_succ_eq_map,List.map_cons,List.map_map]
    simp [Function.comp_def]
   ·intro j o' ho'
    cases j with
    |zero=>
     simp at ho'
     subst ho'
     show qE E call nt ops s.d o s.t (ts 0) s.h (hs 0) W1 f
     rw [a1,a2];exact hstep
    |succ j=>exact a9 j o' (by simpa using ho')
  split at h
  ·rename_i hw
   split at h
   ·rename_i v H1 d1 W1 r1 hop
    split at h
    ·rename_i T1 KH Z4
     obtain ⟨lM,_⟩:=Hv (hd o (by simp)) hop
     subst lM
     exact glue v H1 T1 W1 _ (.go v W1 r1 hw hop KH Z4) h
    ·cases h
   ·cases h
  ·rename_i hw
   split at h
   ·rename_i T1 KH
    exact glue bJ s.h T1 [] _ (.skip hw KH rfl) (by simpa using h)
   ·cases h
  ·cases h
def PA (H:Hp) (f:jT) (φ:cS) (C:Nat→Option Ob):Prop:=∀ i,i<H.n→φ i≠none→(match f.r with |some R=>i∈R∨i∈f.w |none=>True)→C i=H.get i
theorem yQ (ok:E.Ok) (hc:ji E call) {nt:Nat} {ops:Array Oper} {d:List (Value×List Value)} {o:Oper} {T T':Tm} {H H':Hp} {W:List Nat} {f:jT} (hnd:rL o.op=false)
  (h:qE E call nt ops d o T T' H H' W f) (wf:Wf H) (dy:E.ng≤H.n) :
  cR f.w H H'∧Wf H'∧f.lo=H.n∧f.hi=H'.n∧f.dst=o.dst∧f.looks=iU ops o∧(∀ q∈f.w,q∈W∧q<H.n∧dA (H.get q)=true)∧∃ v,sG T nt o.dst v=some T'∧
   ∀(base:Nat) (φ:cS) (w:World) (a:Act) (C:Nat→Option Ob) (i:Nat) (K:Act→World→Prop) (Q:Exit→Act→World→Prop),ops[i]?=some o→AJ E base C φ w→PA H f φ C→gM φ H.n H'.n→
    TR φ (oT T (iU ops o) .nil) a.tmps nt→DR φ d a.defers→
    (∀(φ':cS) (w':World) (u:Value) (a':Act),gF E base φ w H H' f.w φ' w'→VR φ' v u→a'.tmps=a.tmps→DR φ' d a'.defers→K (a'.put o.dst u) w')→wpOp E.P ops Q i K a w:=by
 cases h with
 |skip hw hT he=>
  subst he
  refine ⟨cR.refl ..,wf,rfl,rfl,rfl,rfl,fun q hq=>by simp at hq,bJ,hT,fun base φ w a C i K Q hi cM hag hf ht hd hK=>?_⟩
  unfold wpOp
  simp only [hi]
  rw [if_neg (by rw [mu ht hw];simp)]
  exact hK φ w undef a (gF.same rfl rfl rfl rfl) (.tuple' ⟨rfl,fun i x y hx=>by simp at hx⟩) rfl hd
 |go v _ r hw hop hT Z4=>
  obtain ⟨_,aee⟩:=Hv hnd hop
  have hwm:∀ q∈W.filter (Nat.blt · H.n),q∈W∧q<H.n∧dA (H.get q)=true:=by
   intro q hq
   have Z3:q∈W∧q<H.n:=by simpa [List.mem_filter,Nat.blt_eq] using hq
   unfold bC at Z4
   rw [List.all_eq_true] at Z4
   have:=Z4 q Z3.1
   rw [Ze Z3.2] at this
   exact ⟨Z3.1,Z3.2,this⟩
  obtain ⟨g1,g2,g3⟩:F2 E o (oT T (iU ops o) .nil) H d v H' d W:=Bl ok hc wf dy hop
  have g1':cR (W.filter (Nat.blt · H.n)) H H':=⟨g1.n,fun i hi hn=>g1.keep i hi fun hm=>hn (by simp [List.mem_filter,Nat.blt_eq,hm,hi]),g1.live,g1.dA⟩
  refine ⟨g1',g2,rfl,rfl,rfl,rfl,hwm,v,hT,fun base φ w a C i K Q hi cM hag hf ht hd hK=>?_⟩
  unfold wpOp
  simp only [hi]
  rw [if_pos (mu ht hw)]
  refine .inl ?_
  cases r with
  |none=>
   refine g3 base φ w a nt K Q (cM.rel fun i hi hm=>hag i hi hm trivial) hf ht hd fun φ' w' u a' hO yA Rw hda=>?_
   exact hK φ' w' u a' (hO.adn g1.n hf Z4) yA Rw hda
  |some R=>
   obtain ⟨k1,k2⟩:=FO ok wf (aee R rfl)
   obtain ⟨nx,u,w',φ',hr,hnx,yA,hout⟩:=k2 base φ w a.eval (cM.pre wf fun i hi hin hm=>hag i hin hm (.inl hi)) hf (ht.ev (H:=H) (w:=w) cM.fI)
   have hfw:W.filter (Nat.blt · H.n)=W:=List.filter_eq_self.2 fun q hq=>Ze (hout.wr q hq).1
   have hsub:∀ i l,φ i=some l→φ' i=some l:=by
    intro i l hi
    by_cases h1:i<H.n
    ·rw [hout.ext i (.inl h1)];exact hi
    ·by_cases h2:H'.n≤i
     ·rw [hout.ext i (.inr h2)];exact hi
     ·rw [hf i aa aa] at hi;cases hi
   exact F0 hr hnx (hK φ' w' u a (by show gF E base φ w H H' (W.filter (Nat.blt · H.n)) φ' w';rw [hfw];exact hout) yA rfl (hd.mono hsub))
end
end Go.Am
