/- Part of the proof that TreeKids answers true. -/
import Derived.Test.YtbehemdcaiigeaaGreatDoorR00
import Derived.LoopN
import Derived.Defers
import Derived.Orders
set_option linter.unusedVariables false
set_option linter.unusedSimpArgs false
set_option maxRecDepth 100000
set_option maxHeartbeats 4000000
namespace Go.Am
section
variable {E:Env} {base:Nat} {φ:bA} {w:World} {H:U}
theorem Vl (ok:E.eU) (wf:cz H) {T:b5} {t:TypeId} {len:Nat} {ps:Array (Nat×Operand)} {v:Value} {H':U} {W R:List Nat} (h:Iu E T t len ps H=some (v,H',W,R)) :
  dN H H' W R∧∀ φ ρ,ol E φ T ρ→Good E H H' W R v φ (do Pure.pure (.value (← Instr.buildSlice t len (ps.map fun p=>(p.1,ρ p.2))))):=by
 unfold Iu at h
 split at h
 rotate_left
 ·cases h
 rename_i e ht
 split at h
 rotate_left
 ·cases h
 rename_i n z hn hz
 cases hc:(Nat.ble (len*n) 16777216&&Nat.beq z.cells.size n&&ground z) with
 |false=>rw [hc] at h;cases h
 |true=>
  rw [hc] at h
  simp only [cond_true] at h
  simp only [dI] at hc
  obtain ⟨⟨hle,Fg⟩,JH⟩:=hc
  have hle:=Nat.le_of_ble_eq_true hle
  have Fg:=Nat.eq_of_beq_eq_true Fg
  split at h
  rotate_left
  ·cases h
  rename_i c hf
  cases hone:c.all one with
  |false=>rw [hone] at h;cases h
  |true=>
   rw [hone] at h
   simp only [cond_true,bx,bG] at h
   obtain ⟨rfl,rfl,rfl,rfl⟩:=h
   refine ⟨dN.new wf _ _,fun φ ρ he base w hp hfr=>?_⟩
   have hfree:φ H.n=none:=hfr _ (Nat.le_refl _) (by simp)
   have Z2:eb φ (hM z.cells.toList len) (hM z.cells.toList len).toArray.toList:=by simpa using Nl ((zy JH).toList) len
   obtain ⟨d',h4,h5⟩:=EK he (fun i=>some (i*n,n)) (fun i=>some (i*n,n)) (fun i p hp=>hp) ps.toList _ c (hM z.cells.toList len).toArray Z2 hf
   refine eQ.value (aU:=fun j=>if j=H.n then some ⟨w.heap.size,0,c.length⟩ else φ j) (u:=.slice (some ⟨w.heap.size,0,none⟩) len len)
    (w':={ w with heap:=w.heap.push (.cells d' e (0,0)) }) ?_ ?_ ?_
   ·unfold Instr.buildSlice
    rw [bt (ig ok ht w)]
    simp only
    rw [bt (ql ok hn w),if_neg D]
    have JX:=Nm z.cells.toList len
    by_cases h0:len*n=0
    ·rw [if_pos h0,bt (run_pure _ w)]
     have e0:hM z.cells.toList len=[]:=by
      apply List.eq_nil_of_length_eq_zero
      rw [HV];simpa [Fg] using h0
     rw [e0] at h4
     have Jn:(Array.map (fun x=>(#[]:Array Value)[x%(#[]:Array Value).size]!) (Array.range (len*n)))=#[]:=by rw [h0];simp
     simp only [Jn]
     have Jo:Instr.fill (fun i=>some (i*n,n)) #[] (ps.map fun p=>(p.1,ρ p.2)).toList=some d':=by simpa using h4
     simp only [Jo]
     rw [bt (x9 _ _ w)]
     rfl
    ·rw [if_neg h0,bt (wz ok hz w),bt (run_pure _ w)]
     have e1:(Array.map (fun x=>z.cells[x%z.cells.size]!) (Array.range (len*n)))=(hM z.cells.toList len).toArray:=by
      rw [JX];simp [Fg]
     simp only [e1]
     have Jo:Instr.fill (fun i=>some (i*n,n)) (hM z.cells.toList len).toArray (ps.map fun p=>(p.1,ρ p.2)).toList=some d':=by simpa using h4
     simp only [Jo]
     rw [bt (x9 _ _ w)]
     rfl
   ·have:=be.oa (φ:=fun j=>if j=H.n then some ⟨w.heap.size,0,c.length⟩ else φ j) H.n 0 len len ⟨w.heap.size,0,c.length⟩ (by simp) (Nat.le_refl _)
    simpa using this
   ·exact eV.FN hp.bs hfree (ds:=d'.toList) h5 (by simp) rfl rfl rfl
def m3 (φ:bA) (es es':List MapEntry):Prop:=es.length=es'.length∧∀(j:Nat) x y,es[j]?=some x→es'[j]?=some y→be φ x.key y.key∧be φ x.val y.val∧x.born=y.born
theorem m3.cons_inv {φ:bA} {x:MapEntry} {xs zs:List MapEntry} (h:m3 φ (x::xs) zs):∃ y ys,zs=y::ys∧(be φ x.key y.key∧be φ x.val y.val∧x.born=y.born)∧m3 φ xs ys:=by
 cases zs with
 |nil=>have:=h.1;simp at this
 |cons y ys=>
  refine ⟨y,ys,rfl,h.2 0 x y (by simp) (by simp),?_,fun i a b ha hb=>h.2 (i+1) a b (by simpa using ha) (by simpa using hb)⟩
  have:=h.1;simp at this;exact this
theorem m3.mO {φ:bA} {zs:List MapEntry} (h:m3 φ [] zs):zs=[]:=by
 have h1:=h.1
 cases zs with
 |nil=>rfl
 |cons a b=>simp at h1
theorem vK {kd:TypeDesc} {k:Value} (hk:rL kd k=true):(∃ s,kd=.string∧k=.string s)∨∃ i n,kd=.int i∧k=.int i n:=by
 unfold rL at hk
 split at hk
 ·exact .inl ⟨_,rfl,rfl⟩
 ·simp at hk;subst hk;exact .inr ⟨_,_,rfl,rfl⟩
 ·cases hk
theorem EL {kd:TypeDesc} {k:Value} (hk:rL kd k=true):∀(es es':List MapEntry) (i:Nat) (r:Option Value),m3 φ es es'→sD k es=some r→
  ∃ q,Instr.findNow kd k es' i=some q∧match r with |none=>q=none |some v=>∃ j u,q=some (j,u)∧be φ v u∧i≤j
 |[],es',i,r,hm,h=>by
  have:=hm.mO;subst this
  simp [sD] at h;subst h
  exact ⟨none,rfl,rfl⟩
 |e::es,es',i,r,hm,h=>by
  obtain ⟨e',rl,rfl,⟨h1,h2,h3⟩,hm'⟩:=hm.cons_inv
  rcases vK hk with ⟨s,rfl,rfl⟩ |⟨ik,n,rfl,rfl⟩
  ·cases nh:e.key with
   |string b=>
    rw [nh] at h1
    generalize p8:e'.key=k' at h1
    cases h1
    simp only [sD,nh] at h
    cases hab:(s==b) with
    |true=>
     rw [hab] at h
     simp only [cond_true,bx] at h
     subst h
     exact ⟨some (i,e'.val),by simp [Instr.findNow,Instr.sameNow,p8,hab],i,e'.val,rfl,h2,Nat.le_refl _⟩
    |false=>
     rw [hab] at h
     simp only [cond_false] at h
     obtain ⟨q,pE,vD⟩:=EL hk es rl (i+1) r hm' h
     refine ⟨q,by simp [Instr.findNow,Instr.sameNow,p8,hab,pE],?_⟩
     cases r with
     |none=>exact vD
     |some v=>obtain ⟨j,u,a,b,c⟩:=vD;exact ⟨j,u,a,b,by omega⟩
   |_=>simp [sD,nh] at h
  ·cases nh:e.key with
   |int jk m=>
    rw [nh] at h1
    generalize p8:e'.key=k' at h1
    cases h1
    simp only [sD,nh] at h
    by_cases BN:ik=jk
    ·subst BN
     simp only [decide_true,cond_true] at h
     by_cases hnm:n=m
     ·subst hnm
      simp only [decide_true,cond_true,bx] at h
      subst h
      exact ⟨some (i,e'.val),by simp [Instr.findNow,Instr.sameNow,p8],i,e'.val,rfl,h2,Nat.le_refl _⟩
     ·simp only [hnm,decide_false,cond_false] at h
      obtain ⟨q,pE,vD⟩:=EL hk es rl (i+1) r hm' h
      have hnb:(n==m)=false:=by simpa using hnm
      refine ⟨q,by simp [Instr.findNow,Instr.sameNow,p8,hnb,pE],?_⟩
      cases r with
      |none=>exact vD
      |some v=>obtain ⟨j,u,a,b,c⟩:=vD;exact ⟨j,u,a,b,by omega⟩
    ·simp [BN] at h
   |_=>simp [sD,nh] at h
theorem run_findKey {P:Program} {kt:TypeId} {kd:TypeDesc} {k:Value} {es:List MapEntry} {q:Option (Nat×Value)} (hk:P.underlying kt=some kd) (h:Instr.findNow kd k es 0=some q) (w:World) :
  (Instr.findKey kt k es).run P w=.ok q w:=by
 unfold Instr.findKey
 rw [bt (run_underlying hk w),h]
 rfl
theorem run_checkKey {P:Program} {kt:TypeId} {kd:TypeDesc} {k:Value} (hk:P.underlying kt=some kd) (h:rL kd k=true) (b:Bool) (d:Nat) (w:World) :
  (Instr.checkKey b (d+1) kt k).run P w=.ok () w:=by
 unfold Instr.checkKey
 rw [bt (run_underlying hk w)]
 rcases vK h with ⟨s,rfl,rfl⟩ |⟨ik,n,rfl,rfl⟩ <;> rfl
theorem QJ {b:Nat} {es:List MapEntry} {ak:Nat} {l:Loc} {R:List Nat} (hp:Pre E base φ w H R) (hb:b∈R) (hl:φ b=some l) (hg:H.get b=some (.map es ak)) :
  ∃ es':Array MapEntry,(getObj l.cD).run E.P w=.ok (.map es' ak) w∧w.heap[l.cD]?=some (.map es' ak)∧base≤l.cD∧m3 φ es es'.toList:=by
 obtain ⟨es',h1,h2,h3,h4⟩:=hp.blocks b hb l _ hl hg
 refine ⟨es',by simp [getObj,Sem.run,h1],h1,h2,by simpa using h3,fun j x y hx hy=>h4 j x y hx (by simpa using hy)⟩
theorem Qu (ok:E.eU) (wf:cz H) {t:TypeId} {m m' k k' v:Value} {co:Bool} {H':U} {W R:List Nat} (h:qN E t m k co H=some (v,H',W,R)) :
  dN H H' W R∧∀ φ,be φ m m'→be φ k k'→Good E H H' W R v φ (do Pure.pure (.value (← Instr.lookup t m' k' co))):=by
 unfold qN at h
 split at h
 rotate_left
 ·cases h
 rename_i kt ym ht
 split at h
 rotate_left
 ·cases h
 rename_i kd z tP hz
 cases hk:rL kd k with
 |false=>rw [hk] at h;cases h
 |true=>
  rw [hk] at h
  simp only [cond_true] at h
  split at h
  rotate_left
  ·cases h
  rename_i es R' vB
  have hkk:∀ φ,be φ k k'→k'=k:=fun φ hv=>hv.ow (by rcases vK hk with ⟨s,_,rfl⟩ |⟨i,n,_,rfl⟩ <;> rfl)
  have hent:∀ φ base w,Pre E base φ w H R'→be φ m m'→∃ es':Array MapEntry,m3 φ es es'.toList∧
    ∀{α:Type} (K:Array MapEntry→Sem α),(match m' with
     |.map none=>(do let es ← pure #[];K es:Sem α)
     |.map (some r)=>(do
      let o ← getObj r
      match o with
      |.map es _=>(do let es ← pure es;K es)
      |_=>stuck "Lookup: map expected")
     |_=>stuck "Lookup: map expected").run E.P w=(K es').run E.P w:=by
   intro φ base w hp hm
   split at vB
   ·cases hm
    simp only [bx,bG] at vB
    obtain ⟨rfl,rfl⟩:=vB
    exact ⟨#[],⟨rfl,fun j x y hx=>by simp at hx⟩,fun K=>rfl⟩
   ·rename_i b
    split at vB
    ·rename_i ajt ak hg
     simp only [bx,bG] at vB
     obtain ⟨rfl,rfl⟩:=vB
     cases hm with
     |map _ l hl=>
      obtain ⟨es',h1,_,_,h2⟩:=QJ hp (by simp) hl hg
      refine ⟨es',h2,fun K=>?_⟩
      simp only
      rw [bt h1]
      rfl
    ·cases vB
   ·cases vB
  split at h
  ·rename_i v0 hf
   simp only [bx,bG] at h
   obtain ⟨rfl,rfl,rfl,rfl⟩:=h
   refine ⟨dN.same wf _,fun φ hm hkv base w hp hfr=>?_⟩
   have:=hkk φ hkv;subst this
   obtain ⟨es',hmr,hrun⟩:=hent φ base w hp hm
   obtain ⟨q,pE,j,u,rfl,hu,_⟩:=EL hk es es'.toList 0 _ hmr hf
   refine eQ.of_run (u:=if co then .tuple #[u,.bool true] else u) ?_ ?_
   ·cases co with
    |false=>exact hu
    |true=>exact .tuple' (eb.toArray (.cons hu (.cons (.bool true) (.nil φ))))
   ·unfold Instr.lookup
    rw [bt (ig ok ht w)]
    simp only
    refine (hrun _).trans ?_
    rw [bt (run_checkKey (ok.ul tP) hk _ 9999 w),bt (run_findKey (ok.ul tP) pE w)]
    cases co <;> rfl
  ·rename_i hf
   cases E5:ground z with
   |false=>rw [E5] at h;cases h
   |true=>
    rw [E5] at h
    simp only [cond_true,bx,bG] at h
    obtain ⟨rfl,rfl,rfl,rfl⟩:=h
    refine ⟨dN.same wf _,fun φ hm hkv base w hp hfr=>?_⟩
    have:=hkk φ hkv;subst this
    obtain ⟨es',hmr,hrun⟩:=hent φ base w hp hm
    obtain ⟨q,pE,rfl⟩:=EL hk es es'.toList 0 _ hmr hf
    refine eQ.of_run (u:=if co then .tuple #[z,.bool false] else z) ?_ ?_
    ·cases co with
     |false=>exact .rR E5
     |true=>exact .tuple' (eb.toArray (.cons (.rR E5) (.cons (.bool false) (.nil φ))))
    ·unfold Instr.lookup
     rw [bt (ig ok ht w)]
     simp only
     refine (hrun _).trans ?_
     rw [bt (run_checkKey (ok.ul tP) hk _ 9999 w),bt (run_findKey (ok.ul tP) pE w)]
     simp only
     rw [bt (wz ok hz w)]
     cases co <;> rfl
  ·cases h
end
section
variable {E:Env} {base:Nat} {φ:bA} {w:World} {H:U}
theorem Ob (a b:ByteArray):(a==b)=true↔a=b:=by
 show (ByteArray.beq a b)=true↔a=b
 unfold ByteArray.beq
 cases a;cases b
 simp
theorem m3.cons {x y:MapEntry} {xs ys:List MapEntry} (h:be φ x.key y.key∧be φ x.val y.val∧x.born=y.born) (hs:m3 φ xs ys):m3 φ (x::xs) (y::ys):=
 ⟨by simp [hs.1],fun j a b ha hb=>by
  cases j with
  |zero=>simp at ha hb;subst ha hb;exact h
  |succ j=>simp at ha hb;exact hs.2 j a b ha hb⟩
theorem R4 {kd:TypeDesc} {k v u:Value} {ak:Nat} (hk:rL kd k=true) (hv:be φ v u):∀(es es':List MapEntry) (i:Nat) (jz:List MapEntry) (n:Bool),m3 φ es es'→rX k v ak es=some (jz,n)→
  (n=true∧Instr.findNow kd k es' i=some none∧m3 φ jz (es'++[{ key:=k,val:=u,born:=ak }]))∨
  (n=false∧∃ j w e,Instr.findNow kd k es' i=some (some (i+j,w))∧es'[j]?=some e∧e.key=k∧m3 φ jz (es'.modify j fun e=>{ e with key:=k,val:=u }))
 |[],es',i,jz,n,hm,h=>by
  have:=hm.mO;subst this
  simp [rX] at h
  obtain ⟨rfl,rfl⟩:=h
  have hkk:be φ k k:=by rcases vK hk with ⟨s,_,rfl⟩ |⟨a,b,_,rfl⟩ <;> constructor
  exact .inl ⟨rfl,rfl,.cons ⟨hkk,hv,rfl⟩ ⟨rfl,fun j x y hx=>by simp at hx⟩⟩
 |e::es,es',i,jz,n,hm,h=>by
  have hkk:be φ k k:=by rcases vK hk with ⟨s,_,rfl⟩ |⟨a,b,_,rfl⟩ <;> constructor
  obtain ⟨e',rl,rfl,⟨h1,h2,h3⟩,hm'⟩:=hm.cons_inv
  have rest:∀(hne:Instr.findNow kd k (e'::rl) i=Instr.findNow kd k rl (i+1)) (h:(match rX k v ak es with |some (es,n)=>some (e::es,n) |none=>none)=some (jz,n)),
    (n=true∧Instr.findNow kd k (e'::rl) i=some none∧m3 φ jz ((e'::rl)++[{ key:=k,val:=u,born:=ak }]))∨
    (n=false∧∃ j w e,Instr.findNow kd k (e'::rl) i=some (some (i+j,w))∧(e'::rl)[j]?=some e∧e.key=k∧m3 φ jz ((e'::rl).modify j fun e=>{ e with key:=k,val:=u })):=by
   intro hne h
   split at h
   ·rename_i XW rP hp
    simp only [bx,bG] at h
    obtain ⟨rfl,rfl⟩:=h
    rcases R4 hk hv es rl (i+1) XW rP hm' hp with ⟨a,b,c⟩ |⟨a,j,w,x,b,c,d,f⟩
    ·exact .inl ⟨a,hne.trans b,.cons ⟨h1,h2,h3⟩ c⟩
    ·refine .inr ⟨a,j+1,w,x,hne.trans (b.trans (by rw [show i+1+j=i+(j+1) by omega])),by simpa using c,d,?_⟩
     simpa using m3.cons ⟨h1,h2,h3⟩ f
   ·cases h
  rcases vK hk with ⟨s,rfl,rfl⟩ |⟨ik,m,rfl,rfl⟩
  ·cases nh:e.key with
   |string b=>
    rw [nh] at h1
    generalize p8:e'.key=k' at h1
    cases h1
    simp only [rX,nh] at h
    cases hab:(s==b) with
    |true=>
     rw [hab] at h
     simp only [cond_true,bx,bG] at h
     obtain ⟨rfl,rfl⟩:=h
     have JQ:s=b:=(Ob s b).1 hab
     refine .inr ⟨rfl,0,e'.val,e',by simp [Instr.findNow,Instr.sameNow,p8,hab],rfl,by rw [p8,JQ],?_⟩
     exact .cons ⟨hkk,hv,h3⟩ hm'
    |false=>
     rw [hab] at h
     simp only [cond_false] at h
     exact rest (by simp [Instr.findNow,Instr.sameNow,p8,hab]) h
   |_=>simp [rX,nh] at h
  ·cases nh:e.key with
   |int jk b=>
    rw [nh] at h1
    generalize p8:e'.key=k' at h1
    cases h1
    simp only [rX,nh] at h
    by_cases BN:ik=jk
    ·subst BN
     simp only [decide_true,cond_true] at h
     by_cases hnm:m=b
     ·subst hnm
      simp only [decide_true,cond_true,bx,bG] at h
      obtain ⟨rfl,rfl⟩:=h
      refine .inr ⟨rfl,0,e'.val,e',by simp [Instr.findNow,Instr.sameNow,p8],rfl,p8,?_⟩
      exact .cons ⟨hkk,hv,h3⟩ hm'
     ·simp only [hnm,decide_false,cond_false] at h
      have hnb:(m==b)=false:=by simpa using hnm
      exact rest (by simp [Instr.findNow,Instr.sameNow,p8,hnb]) h
    ·simp [BN] at h
   |_=>simp [rX,nh] at h
theorem SJ {P:Program} {w:World} {r:Nat} {es:Array MapEntry} {ak:Nat} (o:Obj) (h:w.heap[r]?=some (.map es ak)) :
  ∃ w',(setObj r o).run P w=.ok () w'∧wU w w' r o:=by
 refine ⟨{ w with heap:=w.heap.setIfInBounds r o },by simp [setObj,Sem.run,h],rfl,rfl,rfl,by simp,fun b hb=>?_,?_⟩
 ·rw [Array.getElem?_setIfInBounds_ne (fun e=>hb e.symm)]
 ·have:=(Array.getElem?_eq_some_iff.1 h).1
  rw [Array.getElem?_setIfInBounds_self_of_lt this]
theorem FB (ok:E.eU) (wf:cz H) {t:TypeId} {m m' k k' v v' r:Value} {H':U} {W R:List Nat} (h:jO E t m k v H=some (r,H',W,R)) :
  dN H H' W R∧∀ φ,be φ m m'→be φ k k'→be φ v v'→Good E H H' W R r φ (do Instr.mapUpdate t m' k' v';Pure.pure .skip):=by
 unfold jO at h
 split at h
 rotate_left
 ·cases h
 rename_i kt ym b ht
 split at h
 rotate_left
 ·cases h
 rename_i kd es ak tP hg
 cases hk:rL kd k with
 |false=>rw [hk] at h;cases h
 |true=>
  rw [hk] at h
  simp only [cond_true] at h
  split at h
  rotate_left
  ·cases h
  rename_i jz n hput
  simp only [bx,bG] at h
  obtain ⟨rfl,rfl,rfl,rfl⟩:=h
  refine ⟨dN.set wf _ (by rw [hg];rfl) (by simp),fun φ hm hkv hv base w hp hfr=>?_⟩
  have:=hkv.ow (by rcases vK hk with ⟨s,_,rfl⟩ |⟨i,n,_,rfl⟩ <;> rfl)
  subst this
  cases hm with
  |map _ l hl=>
   obtain ⟨es',h1,h2,h3,h4⟩:=QJ hp (by simp) hl hg
   rcases R4 (ak:=ak) hk hv es es'.toList 0 jz n h4 hput with ⟨rfl,hf,hmr⟩ |⟨rfl,j,q,e,hf,he,nh,hmr⟩
   ·obtain ⟨w',hr,lW⟩:=SJ (P:=E.P) (.map (es'.push { key:=k',val:=v',born:=ak }) (ak+1)) h2
    refine eQ.unit (aU:=φ) (w':=w') ?_ ?_
    ·unfold Instr.mapUpdate
     rw [bt (ig ok ht w)]
     simp only
     rw [bt h1]
     simp only
     rw [bt (run_checkKey (ok.ul tP) hk _ 9999 w),bt (run_findKey (ok.ul tP) hf w)]
     exact hr
    ·exact eV.put b l _ (wf.lt hg) (by rw [hg];rfl) hl lW.other lW.size lW.os lW.tape lW.output
      ⟨_,lW.at_,h3,by have:=hmr.1;simpa using this,fun j x y hx hy=>hmr.2 j x y hx (by rw [← Array.getElem?_toList,Array.toList_push] at hy;exact hy)⟩
   ·obtain ⟨w',hr,lW⟩:=SJ (P:=E.P) (.map (es'.modify j fun e=>{ e with key:=k',val:=v' }) ak) h2
    refine eQ.unit (aU:=φ) (w':=w') ?_ ?_
    ·unfold Instr.mapUpdate
     rw [bt (ig ok ht w)]
     simp only
     rw [bt h1]
     simp only
     rw [bt (run_checkKey (ok.ul tP) hk _ 9999 w),bt (run_findKey (ok.ul tP) hf w)]
     simp only [Nat.zero_add]
     have hj:es'[j]?=some e:=by simpa using he
     rw [hj]
     simp only [Option.map_some,Option.getD_some,nh]
     have JQ:(Instr.keyThatStays k' k').run E.P w=.ok k' w:=by
      unfold Instr.keyThatStays
      have:Instr.sameBits 10000 k' k'=true:=by
       rcases vK hk with ⟨s,_,rfl⟩ |⟨i,n,_,rfl⟩ <;> simp [Instr.sameBits,Ob]
      rw [if_pos this];rfl
     rw [bt JQ]
     exact hr
    ·exact eV.put b l _ (wf.lt hg) (by rw [hg];rfl) hl lW.other lW.size lW.os lW.tape lW.output
      ⟨_,lW.at_,h3,by have:=hmr.1;simpa using this,fun i x y hx hy=>hmr.2 i x y hx (by rw [← Array.getElem?_toList,Array.toList_modify] at hy;exact hy)⟩
theorem Qm:∀ l:List String,Instr.least l=none→l=[]
 |[],_=>rfl
 |_::_,h=>by simp [Instr.least] at h
theorem ac6 {want:Array (String×TypeId)} {got:Array Method} (h:xS want.toList got=true):Instr.missingMethod want got=none:=by
 unfold Instr.missingMethod
 have:(want.toList.filter fun (x:String×TypeId)=>!got.any fun m=>m.name==x.1&&m.sig==x.2)=[]:=by
  rw [List.filter_eq_nil_iff]
  intro x hx
  unfold xS at h
  rw [List.all_eq_true] at h
  have:=h x hx
  simp only [this,Bool.not_true,Bool.false_eq_true,not_false_eq_true]
 simp only [this]
 rfl
theorem ac7 {want:Array (String×TypeId)} {got:Array Method} (h:xS want.toList got=false):∃ m,Instr.missingMethod want got=some m:=by
 cases hm:Instr.missingMethod want got with
 |some m=>exact ⟨m,rfl⟩
 |none=>
  exfalso
  unfold Instr.missingMethod at hm
  simp only [HOrElse.hOrElse,OrElse.orElse] at hm
  generalize hf:(want.toList.filter fun (x:String×TypeId)=>!got.any fun m=>m.name==x.1&&m.sig==x.2)=fl at hm
  have hne:fl≠[]:=by
   intro e
   rw [e,List.filter_eq_nil_iff] at hf
   have:xS want.toList got=true:=by
    unfold xS
    rw [List.all_eq_true]
    intro x hx
    have:=hf x hx
    simpa using this
   rw [this] at h;cases h
  have hpart:∀(p:String→Bool) (l:List String),l≠[]→(l.partition p).1≠[]∨(l.partition p).2≠[]:=by
   intro p l hl
   cases l with
   |nil=>exact absurd rfl hl
   |cons x xs=>
    rw [List.partition_eq_filter_filter]
    cases hx:p x with
    |true=>left;simp [List.filter_cons,hx]
    |false=>right;simp [List.filter_cons,hx]
  generalize hpq:(fl.map (·.1)).partition _=pq at hm
  have h1:pq.1≠[]∨pq.2≠[]:=by rw [← hpq];exact hpart _ _ (by simpa using hne)
  cases hl:Instr.least pq.2 with
  |some a=>rw [hl] at hm;simp [Option.orElse] at hm
  |none=>
   rcases h1 with h1 |h1
   ·rw [hl] at hm
    simp only [Option.orElse] at hm
    have:=Qm _ hm
    simp at this;exact h1 this
   ·exact h1 (Qm _ hl)
theorem Lu {v u:Value} (h:be φ v u) (b:Bool):be φ (.tuple #[v,.bool b]) (.tuple #[u,.bool b]):=.tuple' (eb.toArray (.cons h (.cons (.bool b) (.nil φ))))
theorem US (ok:E.eU) {x x' v:Value} {xt a:TypeId} {co:Bool} (hx:be φ x x') (h:Iq E x a co=some v):∃ u,(Instr.typeAssert x' xt a co).run E.P w=.ok u w∧be φ v u:=by
 have EJ:∀(z:Value),E.zero a=some z→(bif co&&ground z then some (Value.tuple #[z,.bool false]) else none)=some v→co=true∧v=.tuple #[z,.bool false]∧be φ v (.tuple #[z,.bool false]):=by
  intro z hz he
  cases hc:(co&&ground z) with
  |false=>rw [hc] at he;cases he
  |true=>
   rw [hc] at he
   injection he with he
   subst he
   rw [dI] at hc
   exact ⟨hc.1,rfl,Lu (.rR hc.2) false⟩
 unfold Iq at h
 split at h
 ·rename_i want t y ha
  obtain ⟨pQ,rfl,JR⟩:∃ pQ,x'=.iface t pQ∧be φ y pQ:=by cases hx with |iface _ _ u hu=>exact ⟨u,rfl,hu⟩
  split at h
  rotate_left
  ·cases h
  rename_i i hi
  have qI:(typeInfo t).run E.P w=.ok i w:=by simp [typeInfo,ok.info _ _ hi]
  cases hm:xS want.toList i.methods with
  |true=>
   rw [hm] at h
   simp only [cond_true,bx] at h
   subst h
   refine ⟨if co then .tuple #[.iface t pQ,.bool true] else .iface t pQ,?_,?_⟩
   ·unfold Instr.typeAssert
    rw [bt (ig ok ha w)]
    simp only
    rw [bt qI,ac6 hm]
    cases co <;> rfl
   ·cases co with
    |false=>exact hx
    |true=>exact Lu hx true
  |false=>
   rw [hm] at h
   simp only [cond_false] at h
   split at h
   ·rename_i z hz
    obtain ⟨rfl,rfl,hv⟩:=EJ z hz h
    obtain ⟨akz,PA⟩:=ac7 hm
    refine ⟨_,?_,hv⟩
    unfold Instr.typeAssert
    rw [bt (ig ok ha w)]
    simp only
    rw [bt qI,PA]
    simp only [if_true]
    rw [bt (wz ok hz w)]
    rfl
   ·cases h
 ·rename_i want ha
  cases hx
  split at h
  ·rename_i z hz
   obtain ⟨rfl,rfl,hv⟩:=EJ z hz h
   refine ⟨_,?_,hv⟩
   unfold Instr.typeAssert
   rw [bt (ig ok ha w)]
   simp only [if_true]
   rw [bt (wz ok hz w)]
   rfl
  ·cases h
 ·rename_i d t y hni ha
  obtain ⟨pQ,rfl,JR⟩:∃ pQ,x'=.iface t pQ∧be φ y pQ:=by cases hx with |iface _ _ u hu=>exact ⟨u,rfl,hu⟩
  by_cases ht:t=a
  ·rw [l7 ht] at h
   simp only [cond_true,bx] at h
   subst h
   subst ht
   refine ⟨if co then .tuple #[pQ,.bool true] else pQ,?_,?_⟩
   ·unfold Instr.typeAssert
    rw [bt (ig ok ha w)]
    cases d <;> first
     |exact (hni _ rfl).elim
     |(simp only [if_true];cases co <;> rfl)
   ·cases co with
    |false=>exact JR
    |true=>exact Lu JR true
  ·rw [iz ht] at h
   simp only [cond_false] at h
   split at h
   ·rename_i z hz
    obtain ⟨rfl,rfl,hv⟩:=EJ z hz h
    refine ⟨_,?_,hv⟩
    unfold Instr.typeAssert
    rw [bt (ig ok ha w)]
    cases d <;> first
     |exact (hni _ rfl).elim
     |(simp only [if_neg ht,if_true];rw [bt (wz ok hz w)];rfl)
   ·cases h
 ·rename_i d hni ha
  cases hx
  split at h
  ·rename_i z hz
   obtain ⟨rfl,rfl,hv⟩:=EJ z hz h
   refine ⟨_,?_,hv⟩
   unfold Instr.typeAssert
   rw [bt (ig ok ha w)]
   cases d <;> (simp only [if_true];rw [bt (wz ok hz w)];rfl)
  ·cases h
 ·cases h
end
section
variable {E:Env} {base:Nat} {φ:bA} {w:World} {H:U}
theorem Vo (a:Array UInt8):eb φ (a.map fun b=>Value.int .u8 b.toNat).toList (a.map fun b=>Value.int .u8 b.toNat).toList:=
 ⟨rfl,fun i x y hx hy=>by
  rw [hx] at hy;injection hy with hy;subst hy
  simp at hx
  obtain ⟨b,_,rfl⟩:=hx
  exact .int _ _⟩
theorem Iv:∀{xs ys:List Value} {l:List UInt8},eb φ xs ys→m6 xs=some l→ys=xs
 |[],ys,l,h,_=>h.mO
 |x::xs,zs,l,h,e=>by
  obtain ⟨y,ys,rfl,h1,h2⟩:=h.cons_inv
  unfold m6 at e
  split at e
  ·cases ‹_::_=[]›
  ·rename_i n xs' heq
   injection heq with h3 h4
   subst h3 h4
   split at e
   ·rename_i r hr
    cases h1
    rw [Iv h2 hr]
   ·cases e
  ·cases e
theorem SE {P:Program} (w:World) (g:Value→ByteArray→Sem (ForInStep ByteArray)) (hg:∀ n s,g (.int .u8 n) s=pure (ForInStep.yield (s.push (UInt8.ofNat n.toNat)))) :
  ∀(xs:List Value) (l:List UInt8) (s:ByteArray),m6 xs=some l→(forIn (m:=Sem) xs s g).run P w=.ok ⟨(s.data.toList++l).toArray⟩ w
 |[],l,s,h=>by simp [m6] at h;subst h;simp
 |x::xs,l,s,h=>by
  unfold m6 at h
  split at h
  ·cases ‹_::_=[]›
  ·rename_i n xs' heq
   injection heq with h3 h4
   subst h3 h4
   split at h
   ·rename_i r hr
    injection h with h
    subst h
    have:=SE (P:=P) w g hg xs r (s.push (UInt8.ofNat n.toNat)) hr
    simp [hg] at this ⊢
    exact this
   ·cases h
  ·cases h
theorem agd {P:Program} {w:World} {src dst t e:TypeId} {j:TypeInfo} {cells:Nat} (a:Addr) (hs:P.underlying src=some (.pointer t)) (hd:P.underlying dst=some .unsafePointer) (ht:P.info? t=some j) (hj:j.size≠0)
  (hsh:w.shape? a.block=some (e,cells)) (hoff:a.off<cells) :
  (convert src dst (.pointer (some a))).run P w=.ok (.pointer (some a)) w:=by
 simp [convert,run_underlying hs,run_underlying hd,Conv.unsafePointer,Conv.seenAt,viewAt,cellsIn,hsh,sizeOf,typeInfo,ht,hj]
 intro h
 omega
theorem agb {P:Program} {w:World} {src dst u e:TypeId} {j:TypeInfo} {cells:Nat} (a:Addr) (hs:P.underlying src=some .unsafePointer) (hd:P.underlying dst=some (.pointer u)) (hu:P.info? u=some j)
  (hsh:w.shape? a.block=some (e,cells)) (JL:liesAt P P.depth e (cells / P.cellsOf e) a.off u 1=true) :
  (convert src dst (.pointer (some a))).run P w=.ok (.pointer (some a)) w:=by
 simp [convert,run_underlying hs,run_underlying hd,Conv.unsafePointer,Conv.seenAt,viewAt,hsh,variablesAt,JL,sizeOf,typeInfo,hu]
theorem Ov (ok:E.eU) (wf:cz H) {s d:TypeId} {x x' v:Value} {H':U} {W R:List Nat} (h:lO E s d x H=some (v,H',W,R)) :
  dN H H' W R∧∀ φ,be φ x x'→Good E H H' W R v φ (do Pure.pure (.value (← convert s d x'))):=by
 unfold lO at h
 split at h
 ·rename_i e b hs hd
  split at h
  ·rename_i he
   cases E0:(!E.tight e&&Nat.ble b.size most) with
   |false=>rw [E0] at h;cases h
   |true=>
    rw [E0] at h
    simp only [cond_true,bx,bG] at h
    obtain ⟨rfl,rfl,rfl,rfl⟩:=h
    rw [dI,Bool.not_eq_true'] at E0
    obtain ⟨sK,hb⟩:=E0
    have hb:=Nat.le_of_ble_eq_true hb
    refine ⟨dN.new wf _ _,fun φ hx base w hp hfr=>?_⟩
    cases hx
    have hfree:φ H.n=none:=hfr _ (Nat.le_refl _) (by simp)
    have hlt:b.size<2 ^ 63:=by unfold most at hb;omega
    have hcap:=IR b.size 0 e (w.tape w.drawn (.appendCap b.size 0 e)) hlt
    generalize JB:(Question.appendCap b.size 0 e).cut (w.tape w.drawn (.appendCap b.size 0 e))=cap at hcap
    let w1:World:={ w with drawn:=w.drawn+1 }
    let d4:Array Value:=(b.data.map fun b=>Value.int .u8 b.toNat)++Array.replicate (cap-b.size) (.int .u8 0)
    have hcs:d4.size=cap:=by simp [d4];show b.size+(cap-b.size)=cap;omega
    refine eQ.value (aU:=fun j=>if j=H.n then some ⟨w.heap.size,0,cap⟩ else φ j) (u:=.slice (some ⟨w.heap.size,0,none⟩) b.size cap)
     (w':={ w1 with heap:=w.heap.push (.cells d4 e (cap,cap+1)) }) ?_ ?_ ?_
    ·unfold convert
     rw [bt (ig ok hs w),bt (ig ok hd w)]
     simp only
     rw [bt (ig ok he w)]
     simp only [Conv.stringToBytes]
     have BG:(choose (.appendCap b.size 0 e)).run E.P w=.ok cap w1:=by rw [← JB];rfl
     rw [bt BG,bt (x9 _ _ w1)]
     have hmk:(markStringish ⟨w.heap.size,0,none⟩).run E.P { w1 with heap:=w1.heap.push (.cells d4 e (0,0)) }=.ok () { w1 with heap:=w.heap.push (.cells d4 e (cap,cap+1)) }:=by
      unfold markStringish
      have hsh:(shape w.heap.size).run E.P { w1 with heap:=w1.heap.push (.cells d4 e (0,0)) }=.ok (some (e,cap)) { w1 with heap:=w1.heap.push (.cells d4 e (0,0)) }:=by
       simp [shape,Sem.run,World.shape?,w1,hcs]
      rw [bt hsh]
      simp only
      show Result.ok () (World.freeze _ _ _)=_
      congr 1
      simp only [World.freeze]
      rw [if_neg D]
      congr 1
      apply Array.ext_getElem?
      intro j
      rw [Array.getElem?_modify]
      simp only [w1]
      by_cases hj:w.heap.size=j
      ·subst hj;simp
      ·rw [if_neg hj,Array.getElem?_push,Array.getElem?_push]
       rw [if_neg (fun h=>hj h.symm),if_neg (fun h=>hj h.symm)]
     rw [bt hmk]
     rfl
    ·have:=be.pO (φ:=fun j=>if j=H.n then some ⟨w.heap.size,0,cap⟩ else φ j) H.n 0 b.size cap 1 ⟨w.heap.size,0,cap⟩ (by simp) hcap (by simp)
     simpa using this
    ·refine eV.row cap _ d4 e cap (cap+1) hfree hp.bs rfl rfl rfl rfl D (by simp;exact hcap) (fun j y hy=>?_) (fun j hj=>by omega) (fun h=>by rw [sK] at h;cases h)
     obtain ⟨u,hu,hv⟩:=(Vo (φ:=φ) b.data).get hy
     refine ⟨u,?_,hv⟩
     have:j<(b.data.map fun b=>Value.int .u8 b.toNat).size:=by simpa using (List.getElem?_eq_some_iff.1 hu).1
     simp only [d4]
     rw [Array.getElem?_append_left this]
     simpa using hu
  ·cases h
 ·rename_i e hs hd
  split at h
  ·rename_i he
   simp only [bx,bG] at h
   obtain ⟨rfl,rfl,rfl,rfl⟩:=h
   refine ⟨dN.same wf _,fun φ hx base w hp hfr=>eQ.of_run (.string _) ?_⟩
   cases hx
   unfold convert
   rw [bt (ig ok hs w),bt (ig ok hd w)]
   simp only
   rw [bt (ig ok he w)]
   rfl
  ·cases h
 ·rename_i e b off n c hs hd
  split at h
  ·rename_i he
   split at h
   rotate_left
   ·cases h
   rename_i xs hr
   split at h
   rotate_left
   ·cases h
   rename_i l hl
   simp only [bx,bG] at h
   obtain ⟨rfl,rfl,rfl,rfl⟩:=h
   refine ⟨dN.same wf _,fun φ hx base w hp hfr=>eQ.of_run (.string _) ?_⟩
   obtain ⟨lc,c',h1,h2,rfl,_⟩:=hx.wB
   obtain ⟨ys,g1,g2,g3⟩:=x8 hp (by simp) h1 hr
   have:=Iv g2 hl
   subst this
   unfold convert
   rw [bt (ig ok hs w),bt (ig ok hd w)]
   simp only
   rw [bt (ig ok he w)]
   simp only [Conv.bytesToString]
   rw [bt (run_loadCells ys g1 g3)]
   have hk:=fun g hg=>SE (P:=E.P) w g hg ys l ByteArray.empty hl
   simp at hk ⊢
   rw [hk _ (fun n s=>rfl)]
   rfl
  ·cases h
 ·
  rename_i t b off hs hd
  split at h
  ·rename_i i cs e hi hg
   cases hc:(Nat.blt off cs.length&&Nat.blt 0 i.size) with
   |false=>rw [hc] at h;cases h
   |true=>
    rw [hc] at h
    simp only [cond_true,bx,bG] at h
    obtain ⟨rfl,rfl,rfl,rfl⟩:=h
    simp only [dI,Nat.blt_eq] at hc
    refine ⟨dN.same wf _,fun φ hx base w hp hfr=>eQ.of_run hx ?_⟩
    cases hx with
    |ptr _ _ l hl=>
     obtain ⟨d4,lo,hi',q1,cw,dv,_⟩:=hp.blocks b (by simp) l _ hl hg
     exact agd ⟨l.cD,l.off+off,none⟩ (ok.ul hs) (ok.ul hd) (ok.info _ _ hi) D (show w.shape? l.cD=some (e,d4.size) by simp [World.shape?,q1]) (by show l.off+off<d4.size;omega)
  ·cases h
 ·
  rename_i u b off hs hd
  split at h
  ·rename_i i cs e hi hg
   cases hc:(E.tight e&&liesAt E.P E.P.depth e (cs.length / E.P.cellsOf e) off u 1) with
   |false=>rw [hc] at h;cases h
   |true=>
    rw [hc] at h
    simp only [cond_true,bx,bG] at h
    obtain ⟨rfl,rfl,rfl,rfl⟩:=h
    rw [dI] at hc
    refine ⟨dN.same wf _,fun φ hx base w hp hfr=>eQ.of_run hx ?_⟩
    cases hx with
    |ptr _ _ l hl=>
     obtain ⟨d4,lo,hi',q1,cw,dv,_,_,_,mR⟩:=hp.blocks b (by simp) l _ hl hg
     obtain ⟨x6,uw⟩:=mR hc.1
     exact agb ⟨l.cD,l.off+off,none⟩ (ok.ul hs) (ok.ul hd) (ok.info _ _ hi) (show w.shape? l.cD=some (e,cs.length) by simp [World.shape?,q1,uw]) (by show liesAt _ _ _ _ (l.off+off) _ _=true;rw [x6,Nat.zero_add];exact hc.2)
  ·cases h
 ·cases h
theorem ah2 {ts:Array TypeId} {ty:TypeId} {x x' v:Value} (h:yj x=some v) (hx:be φ x x'):∃ u,(Builtin.unsafeSliceData_ ts ty #[x']).run E.P w=.ok u w∧be φ v u:=by
 unfold yj at h
 split at h
 ·injection h with h;subst h
  cases hx
  exact ⟨_,rfl,.CT⟩
 ·rename_i b off n c
  have nz:∀(a:Addr) (m k:Nat),k≠0→(Builtin.unsafeSliceData_ ts ty #[.slice (some a) m k]).run E.P w=.ok (.pointer (some a)) w:=fun a m k hk=>by
   obtain ⟨k,rfl⟩:∃ j,k=j+1:=⟨k-1,by omega⟩
   rfl
  split at h
  ·rename_i k hk
   cases hb:Nat.blt 0 k with
   |false=>rw [hb] at h;cases h
   |true=>
    rw [hb] at h;injection h with h;subst h
    rw [Nat.blt_eq] at hb
    obtain ⟨l,hl,_,rfl⟩:=hx.Do hk
    exact ⟨_,nz _ _ _ D,.ptr _ _ l hl⟩
  ·rename_i s hk
   cases hb:Nat.blt 0 n with
   |false=>rw [hb] at h;cases h
   |true=>
    rw [hb] at h;injection h with h;subst h
    rw [Nat.blt_eq] at hb
    obtain ⟨l,c',hl,hnc,_,rfl⟩:=hx.Mp hk
    exact ⟨_,nz _ _ _ D,.ptr _ _ l hl⟩
 ·cases h
theorem SG {P:Program} {w:World}:∀(ys:List Value) (s:List UInt8) (B o:Nat) (acc:ByteArray),m6 ys=some s→(∀(j:Nat) y,ys[j]?=some y→w.cell? ⟨B,o+j,none⟩=some y)→
  (loadBytes ⟨B,o,none⟩ acc ys.length).run P w=.ok ⟨acc.data++s.toArray⟩ w
 |[],s,B,o,acc,h,_=>by simp [m6] at h;subst h;simp [loadBytes]
 |y::ys,s,B,o,acc,h,hc=>by
  unfold m6 at h
  split at h
  ·cases ‹_::_=[]›
  ·rename_i n xs' heq
   injection heq with h3 h4
   subst h3 h4
   split at h
   ·rename_i r hr
    injection h with h
    subst h
    have h0:w.cell? ⟨B,o,none⟩=some (.int .u8 n):=hc 0 _ rfl
    have ih:=SG (P:=P) (w:=w) ys r B (o+1) (acc.push (UInt8.ofNat n.toNat)) hr (fun j y hy=>by
     rw [show o+1+j=o+(j+1) by omega]
     exact hc (j+1) y (by simpa using hy))
    have e1:(⟨B,o,none⟩:Addr).add 1=⟨B,o+1,none⟩:=rfl
    have e2:n.toNat.toUInt8=UInt8.ofNat n.toNat:=rfl
    have JK:(load ⟨B,o,none⟩).run P w=.ok (.int .u8 n) w:=by unfold load;simp only [Sem.run];rw [h0]
    simp only [cj,loadBytes]
    rw [bt JK]
    simp only [e1,e2]
    rw [ih]
    simp
   ·cases h
  ·cases h
theorem acv {P:Program} {e:TypeId} (hc:P.cellsOf e=1) (count off n:Nat) (hn:off+n≤count):liesAt P P.depth e count off e n=true:=by
 have hd:P.depth=(2*(P.types.size+Made.depth)+1)+1:=rfl
 rw [hd]
 simp only [liesAt,Bool.or_eq_true]
 left
 rw [hd]
 simp [rowAt,hc,hn,sameLayout,Nat.mod_one]
theorem TQ (pt:TypeId) (ts:Array TypeId) (ty:TypeId) (p:Option Addr) (n:Int) (h0:ts[0]?=some pt):Builtin.unsafeString_ ts ty #[.pointer p,.int .i64 n] =
  (do
   let n ← asInt (.int .i64 n)
   if n<0 then runtimePanic (.error "unsafe.String: len out of range")
   if n>IntKind.i64.max then unsupported (.unsafePointer "String: a length above the largest int")
   match p with
   |none=>
    if n=0 then pure (.string .empty)
    else runtimePanic (.error "unsafe.String: ptr is nil and len is not zero")
   |some a=>
    if n=0 then pure (.string .empty)
    else if ← variablesAt a (← elemOf pt) n.toNat then do
     let s ← loadBytes a .empty n.toNat
     freeze a n.toNat
     pure (.string s)
    else unsupported (.unsafePointer "String: not so many bytes at ptr")):=by
 have hd:Builtin.unsafeString_ ts ty #[.pointer p,.int .i64 n] =
  (do
   let n ← asInt (.int .i64 n)
   let some pt:=ts[0]? |stuck "unsafe.String: no argument types"
   if n<0 then runtimePanic (.error "unsafe.String: len out of range")
   if n>IntKind.i64.max then unsupported (.unsafePointer "String: a length above the largest int")
   match p with
   |none=>
    if n=0 then pure (.string .empty)
    else runtimePanic (.error "unsafe.String: ptr is nil and len is not zero")
   |some a=>
    if n=0 then pure (.string .empty)
    else if ← variablesAt a (← elemOf pt) n.toNat then do
     let s ← loadBytes a .empty n.toNat
     freeze a n.toNat
     pure (.string s)
    else unsupported (.unsafePointer "String: not so many bytes at ptr")):=rfl
 rw [hd]
 simp only [h0]
theorem TR (ok:E.eU) (wf:cz H) {ts:Array TypeId} {ty:TypeId} {x l x' l' v:Value} {H':U} {W R:List Nat} (h:yk E ts x l H=some (v,H',W,R)) :
  dN H H' W R∧∀ φ,be φ x x'→be φ l l'→Good E H H' W R v φ (do Pure.pure (.value (← Builtin.unsafeString_ ts ty #[x',l']))):=by
 have Pz:IntKind.i64.max=9223372036854775807:=rfl
 unfold yk at h
 split at h
 ·rename_i h0
  simp only [bx,bG] at h
  obtain ⟨rfl,rfl,rfl,rfl⟩:=h
  refine ⟨dN.same wf _,fun φ hx hl base w hp hfr=>eQ.of_run (.string _) ?_⟩
  cases hx;cases hl
  rw [TQ _ ts ty none 0 h0]
  simp [asInt,asIntOf,Pz]
  rfl
 ·rename_i b off n pt h0
  split at h
  ·rename_i e cs e' hu hg
   cases hc:(decide (0<n)&&decide (n≤(most:Int))&&Nat.beq (E.P.cellsOf e) 1&&Nat.beq e e') with
   |false=>rw [hc] at h;cases h
   |true=>
    rw [hc] at h
    simp only [cond_true] at h
    simp only [dI,decide_eq_true_eq] at hc
    obtain ⟨⟨⟨hn0,hnm⟩,hcell⟩,hee⟩:=hc
    have hcell:=Nat.eq_of_beq_eq_true hcell
    have hee:=Nat.eq_of_beq_eq_true hee
    subst hee
    split at h
    ·rename_i xs hr
     split at h
     ·rename_i s hs
      simp only [bx,bG] at h
      obtain ⟨rfl,rfl,rfl,rfl⟩:=h
      have qG:fG (H.get b)=true:=by rw [hg];rfl
      refine ⟨dN.set wf .dead qG (by simp),fun φ hx hl base w hp hfr=>?_⟩
      cases hl
      cases hx with
      |ptr _ _ l hl=>
      obtain ⟨d4,lo,hi',q1,cw,dv,dT,_⟩:=hp.blocks b (by simp) l _ hl hg
      obtain ⟨ys,g1,g2,g3⟩:=x8 hp (by simp) hl hr
      have:=Iv g2 hs
      subst this
      have hrow:off+n.toNat≤cs.length:=by
       unfold row at hr
       rw [hg] at hr
       simp only at hr
       cases hb:Nat.ble (off+n.toNat) cs.length with
       |false=>rw [hb] at hr;cases hr
       |true=>exact Nat.le_of_ble_eq_true hb
      have hsh:w.shape? l.cD=some (e,d4.size):=by simp [World.shape?,q1]
      have hlb:=SG (P:=E.P) (w:=w) ys s l.cD (l.off+off) .empty hs g3
      rw [g1] at hlb
      have nX:n.toNat≠0:=by omega
      have hfz:w.freeze ⟨l.cD,l.off+off,none⟩ n.toNat={ w with heap:=w.heap.modify l.cD fun
        |.cells c elem (lo,hi)=>.cells c elem (if lo==hi then (l.off+off,l.off+off+n.toNat) else (min lo (l.off+off),max hi (l.off+off+n.toNat)))
        |o=>o }:=by
       unfold World.freeze
       rw [if_neg nX]
       rfl
      refine eQ.value (aU:=φ) (u:=.string ⟨s.toArray⟩) (w':=w.freeze ⟨l.cD,l.off+off,none⟩ n.toNat) ?_ (.string _) ?_
      ·rw [TQ _ ts ty _ n h0]
       have e1:¬ n<0:=by omega
       have e2:¬ (9223372036854775807:Int)<n:=by unfold most at hnm;omega
       have aM:n≠0:=by omega
       have JL:=acv (P:=E.P) hcell (d4.size / E.P.cellsOf e) (l.off+off) n.toNat (by rw [hcell,Nat.div_one];omega)
       simp [asInt,asIntOf,Pz,e1,e2,aM,variablesAt,hsh,elemOf,run_underlying (ok.ul hu),JL,hlb]
      ·refine eV.put b l .dead (wf.lt hg) qG hl (fun B hB=>?_) ?_ ?_ ?_ ?_ trivial
       ·rw [hfz]
        simp only [Array.getElem?_modify]
        rw [if_neg (fun e=>hB e.symm)]
       ·rw [hfz];simp
       ·rw [hfz]
       ·rw [hfz]
       ·rw [hfz]
     ·cases h
    ·cases h
  ·cases h
 ·cases h
end
section
variable {E:Env} {H:U}
theorem aeP {P:Program} {s:Sem Next} {v:Value} (h:e3 P s=some (.value v)) (w:World):s.run P w=.ok (.value v) w:=aeO s _ h w
theorem Pm {T:b5} {o:Oper} {v:Value} (zE:∀ cs b,o.op≠.select cs b) (h:k6 E T o=some v) {φ:bA} {ρ:Operand→Value} (he:ol E φ T ρ) (w:World) :
  (execOp ρ o).run E.P w=.ok (.value v) w∧be φ v v:=by
 unfold k6 at h
 cases hg:ph E T o.op.operands.toList with
 |false=>rw [hg] at h;cases h
 |true=>
  rw [hg] at h
  simp only [cond_true] at h
  split at h
  ·rename_i u hp
   cases xp:ground u with
   |false=>rw [xp] at h;cases h
   |true=>
    rw [xp] at h
    simp only [cond_true,bx] at h
    subst h
    refine ⟨?_,.rR xp⟩
    have:execOp ρ o=execOp (fun x=>(ev E T x).getD cZ) o:=by
     refine execOp_congr o zE fun x hx=>?_
     unfold ph at hg
     rw [List.all_eq_true] at hg
     have hx':=hg x (by simpa using hx)
     cases hv:ev E T x with
     |none=>rw [hv] at hx';cases hx'
     |some y=>
      rw [hv] at hx'
      simp only [Option.getD_some]
      exact (he x y hv).ox hx'
    rw [this]
    exact aeP hp w
  ·cases h
theorem eQ.ground {T:b5} {o:Oper} {v:Value} (zE:∀ cs b,o.op≠.select cs b) (h:k6 E T o=some v) {base:Nat} {φ:bA} {w:World} {ρ:Operand→Value} (he:ol E φ T ρ) :
  eQ E base φ w H (execOp ρ o) v H []:=
 ⟨_,v,w,φ,(Pm zE h he w).1,.inl rfl,(Pm zE h he w).2,.same rfl rfl rfl rfl⟩
def nK (E:Env) (H H':U) (W R:List Nat) (v:Value) (T:b5) (o:Oper):Prop:=
 dN H H' W R∧∀(base:Nat) (φ:bA) (w:World) (ρ:Operand→Value),Pre E base φ w H R→fW φ H.n H'.n→ol E φ T ρ→eQ E base φ w H (execOp ρ o) v H' W
theorem nK.pure {T:b5} {o:Oper} {v:Value} (wf:cz H) (h:∀ φ ρ,ol E φ T ρ→∃ u,be φ v u∧∀ w,(execOp ρ o).run E.P w=.ok (.value u) w):nK E H H [] [] v T o:=
 ⟨dN.same wf _,fun base φ w ρ hp hf he=>by
  obtain ⟨u,hu,hr⟩:=h φ ρ he
  exact ⟨_,u,w,φ,hr w,.inl rfl,hu,.same rfl rfl rfl rfl⟩⟩
theorem nK.ground {T:b5} {o:Oper} {v:Value} (wf:cz H) (zE:∀ cs b,o.op≠.select cs b) (h:k6 E T o=some v):nK E H H [] [] v T o:=
 ⟨dN.same wf _,fun base φ w ρ hp hf he=>eQ.ground zE h he⟩
theorem age {P:Program} {s:Sem Value} {u:Value} {w w':World} (h:s.run P w=.ok u w'):(do Pure.pure (Next.value (← s)):Sem Next).run P w=.ok (.value u) w':=by
 rw [bt h];rfl
theorem O4 {P:Program} {op:BinOp} {t:TypeId} {x y:Operand} {a b:Value} (h:∀ c d,a=.agg c→b=.agg d→False) (h':a=.nilIface→b=.nilIface→False) (w:World):(eqGuard op t x y a b).run P w=.ok () w:=by
 cases op
 all_goals try rfl
 all_goals
  unfold eqGuard
  rw [if_neg (by simp)]
  split
  ·exact (h' rfl rfl).elim
  ·rename_i c d;exact (h c d rfl rfl).elim
  ·rfl
theorem EI {T:b5} {xs:Array Operand} {v:Value} (h:kP E T xs.toList=some [v]) {φ:bA} {ρ:Operand→Value} (he:ol E φ T ρ):∃ u,xs.map ρ=#[u]∧be φ v u:=by
 obtain ⟨y,ys,h1,h2,h3⟩:=(xh he h).cons_inv
 have:=h3.mO
 subst this
 refine ⟨y,?_,h2⟩
 apply Array.ext'
 simpa using h1
theorem Jb {T:b5} {xs:Array Operand} {v v2:Value} (h:kP E T xs.toList=some [v,v2]) {φ:bA} {ρ:Operand→Value} (he:ol E φ T ρ):∃ u u2,xs.map ρ=#[u,u2]∧be φ v u∧be φ v2 u2:=by
 obtain ⟨y,ys,h1,h2,h3⟩:=(xh he h).cons_inv
 obtain ⟨ah,aln,h4,h5,h6⟩:=h3.cons_inv
 have:=h6.mO
 subst this
 subst h4
 refine ⟨y,ah,?_,h2,h5⟩
 apply Array.ext'
 simpa using h1
theorem O3 {t:Nat} {x y:Value} {r:Bool} (h:sB E t x y=some r) {φ:bA} {x' y':Value} (hx:be φ x x') (hy:be φ y y') :
  (∀ c d,x'=.agg c→y'=.agg d→False)∧(x'=.nilIface→y'=.nilIface→False)∧(∀ w,(binOp .eql t x' y').run E.P w=(do Pure.pure (Value.bool (← Op.equal t x' y')):Sem Value).run E.P w)∧
  (∀ w,(binOp .neq t x' y').run E.P w=(do Pure.pure (Value.bool (!(← Op.equal t x' y'))):Sem Value).run E.P w):=by
 unfold sB at h
 split at h <;> first
  |(cases h;done)
  |(cases hx <;> cases hy <;> (refine ⟨?_,?_,(fun _=>rfl),(fun _=>rfl)⟩ <;> (intros;contradiction)))
theorem S8 (ok:E.eU) (wf:cz H) {T:b5} {o:Oper} {v:Value} {H':U} {W R:List Nat} (h:simple E o T H=some (v,H',W,R)):nK E H H' W R v T o:=by
 obtain ⟨dst,op,ty,pos,after,guard⟩:=o
 unfold simple at h
 simp only at h
 split at h
 ·
  rename_i x
  split at h
  ·rename_i y hy
   simp only [bx,bG] at h
   obtain ⟨rfl,rfl,rfl,rfl⟩:=h
   exact .pure wf fun φ ρ he=>⟨ρ x,he x _ hy,fun w=>rfl⟩
  ·cases h
 ·
  rename_i x
  split at h
  ·rename_i y hy
   simp only [bx,bG] at h
   obtain ⟨rfl,rfl,rfl,rfl⟩:=h
   exact .pure wf fun φ ρ he=>⟨ρ x,he x _ hy,fun w=>rfl⟩
  ·cases h
 ·
  rename_i c a b
  split at h
  ·rename_i hc
   split at h
   ·rename_i y hy
    simp only [bx,bG] at h
    obtain ⟨rfl,rfl,rfl,rfl⟩:=h
    refine .pure wf fun φ ρ he=>⟨ρ a,he a _ hy,fun w=>?_⟩
    have:=(he c _ hc).ow rfl
    simp [execOp,this,asBool,bt]
   ·cases h
  ·rename_i hc
   split at h
   ·rename_i y hy
    simp only [bx,bG] at h
    obtain ⟨rfl,rfl,rfl,rfl⟩:=h
    refine .pure wf fun φ ρ he=>⟨ρ b,he b _ hy,fun w=>?_⟩
    have:=(he c _ hc).ow rfl
    simp [execOp,this,asBool,bt]
   ·cases h
  ·cases h
 ·
  rename_i t
  split at h
  ·rename_i z n hz hn
   cases hc:(ground z&&Nat.beq z.cells.size n) with
   |false=>rw [hc] at h;cases h
   |true=>
    rw [hc] at h
    simp only [cond_true,bx,bG] at h
    obtain ⟨rfl,rfl,rfl,rfl⟩:=h
    rw [dI] at hc
    refine ⟨dN.new wf _ _,fun base φ w ρ hp hf he=>?_⟩
    have hfree:φ H.n=none:=hf _ (Nat.le_refl _) (by simp)
    refine eQ.value (aU:=fun j=>if j=H.n then some ⟨w.heap.size,0,z.cells.toList.length⟩ else φ j) (u:=.pointer (some ⟨w.heap.size,0,none⟩)) (w':={ w with heap:=w.heap.push (.cells z.cells t (0,0)) }) ?_ ?_ ?_
    ·unfold Instr.alloc
     rw [bt (wz ok hz w)]
     simp only
     rw [bt (SI t z w)];rfl
    ·have:=be.ptr (φ:=fun j=>if j=H.n then some ⟨w.heap.size,0,z.cells.toList.length⟩ else φ j) H.n 0 ⟨w.heap.size,0,z.cells.toList.length⟩ (by simp)
     simpa using this
    ·exact eV.FN hp.bs hfree (zy hc.1).toList (by simp) rfl rfl rfl
  ·cases h
 ·
  rename_i t x
  split at h
  ·rename_i y hy
   simp only [bx,bG] at h
   obtain ⟨rfl,rfl,rfl,rfl⟩:=h
   refine ⟨dN.new wf _ _,fun base φ w ρ hp hf he=>?_⟩
   have hfree:φ H.n=none:=hf _ (Nat.le_refl _) (by simp)
   refine eQ.value (aU:=fun j=>if j=H.n then some ⟨w.heap.size,0,y.cells.toList.length⟩ else φ j) (u:=.pointer (some ⟨w.heap.size,0,none⟩)) (w':={ w with heap:=w.heap.push (.cells (ρ x).cells t (0,0)) }) ?_ ?_ ?_
   ·unfold Instr.box
    rw [bt (SI t (ρ x) w)];rfl
   ·have:=be.ptr (φ:=fun j=>if j=H.n then some ⟨w.heap.size,0,y.cells.toList.length⟩ else φ j) H.n 0 ⟨w.heap.size,0,y.cells.toList.length⟩ (by simp)
    simpa using this
   ·exact eV.FN hp.bs hfree (he x y hy).cells.toList (by simp) rfl rfl rfl
  ·cases h
 ·
  rename_i t ps
  split at h
  ·rename_i y hy
   simp only [bx,bG] at h
   obtain ⟨rfl,rfl,rfl,rfl⟩:=h
   refine ⟨dN.same wf _,fun base φ w ρ hp hf he=>?_⟩
   obtain ⟨u,hr,hu⟩:=Vm (w:=w) ok he hy
   exact eQ.of_run hu hr
  ·cases h
 ·
  rename_i t len ps
  obtain ⟨h1,h2⟩:=Vl ok wf h
  exact ⟨h1,fun base φ w ρ hp hf he=>h2 φ ρ he base w hp hf⟩
 ·
  rename_i t x
  split at h
  ·rename_i b off hx
   split at h
   ·rename_i y hy
    simp only [bx,bG] at h
    obtain ⟨rfl,rfl,rfl,rfl⟩:=h
    refine ⟨dN.same wf _,fun base φ w ρ hp hf he=>?_⟩
    obtain ⟨l,hl,he'⟩:=(he x _ hx).wt
    obtain ⟨u,hr,hu⟩:=SH ok hp (by simp) hl hy
    refine eQ.of_run hu ?_
    simp only [he',Instr.loadAt,Instr.sureAddr]
    rw [bt (run_pure _ w)];exact hr
   ·cases h
  ·cases h
 ·
  rename_i t x y
  split at h
  ·rename_i b off v' hx hy
   split at h
   ·rename_i H2 hst
    simp only [bx,bG] at h
    obtain ⟨rfl,rfl,rfl,rfl⟩:=h
    unfold bp at hst
    split at hst
    ·rename_i c e hg
     split at hst
     ·rename_i n hn
      cases hc:(Nat.beq v'.cells.size n&&v'.cells.toList.all one&&Nat.ble (off+n) c.length) with
      |false=>rw [hc] at hst;cases hst
      |true=>
       rw [hc] at hst
       simp only [cond_true,bx] at hst
       subst hst
       simp only [dI] at hc
       obtain ⟨⟨h1,h2⟩,h3⟩:=hc
       have h1:=Nat.eq_of_beq_eq_true h1
       have h3:=Nat.le_of_ble_eq_true h3
       refine ⟨dN.set wf _ (by rw [hg];rfl) (by simp),fun base φ w ρ hp hf he=>?_⟩
       obtain ⟨l,hl,he'⟩:=(he x _ hx).wt
       have PI:=(he y _ hy).cells
       obtain ⟨w',hw,hout⟩:=eV.write (o:=off) hp wf (by simp) hl hg (by simp;omega) PI.toList (vd h2)
       refine eQ.unit ?_ hout
       simp only [he',Instr.storeAt,Instr.sureAddr]
       rw [bt (run_pure _ w)]
       unfold storeVar
       rw [bt (ql ok hn w)]
       rw [if_neg (by rw [← PI.1,h1];simp)]
       exact hw
     ·cases hst
    ·cases hst
   ·cases h
  ·cases h
 ·
  rename_i x
  split at h
  ·rename_i a hx
   simp only [bx,bG] at h
   obtain ⟨rfl,rfl,rfl,rfl⟩:=h
   refine .pure wf fun φ ρ he=>⟨ρ x,he x _ hx,fun w=>?_⟩
   have hv:=he x _ hx
   generalize xC:ρ x=y at hv
   cases hv
   simp only [execOp,xC]
   rfl
  ·rename_i f a b hx
   simp only [bx,bG] at h
   obtain ⟨rfl,rfl,rfl,rfl⟩:=h
   refine .pure wf fun φ ρ he=>⟨ρ x,he x _ hx,fun w=>?_⟩
   have hv:=he x _ hx
   generalize xC:ρ x=y at hv
   cases hv
   simp only [execOp,xC]
   rfl
  ·rename_i t y hx
   simp only [bx,bG] at h
   obtain ⟨rfl,rfl,rfl,rfl⟩:=h
   refine .pure wf fun φ ρ he=>⟨ρ x,he x _ hx,fun w=>?_⟩
   have hv:=he x _ hx
   generalize xC:ρ x=y at hv
   cases hv
   simp only [execOp,xC]
   rfl
  ·cases h
 ·
  rename_i op t x y DT
  split at h
  ·rename_i u hu
   simp only [bx,bG] at h
   obtain ⟨rfl,rfl,rfl,rfl⟩:=h
   exact .ground wf (fun _ _=>by simp) hu
  ·split at h
   ·rename_i xv yv hx hy _
    split at h
    ·rename_i r hr
     simp only [bx,bG] at h
     obtain ⟨rfl,rfl,rfl,rfl⟩:=h
     refine ⟨dN.same wf _,fun base φ w ρ hp hf he=>eQ.of_run (.bool r) ?_⟩
     have hsh:=O3 hr (he x _ hx) (he y _ hy)
     rw [bt (O4 hsh.1 hsh.2.1 w),hsh.2.2.1 w,bt (O6 ok (he x _ hx) (he y _ hy) hr)]
     rfl
    ·cases h
   ·rename_i xv yv hx hy _
    split at h
    ·rename_i r hr
     simp only [bx,bG] at h
     obtain ⟨rfl,rfl,rfl,rfl⟩:=h
     refine ⟨dN.same wf _,fun base φ w ρ hp hf he=>eQ.of_run (.bool (!r)) ?_⟩
     have hsh:=O3 hr (he x _ hx) (he y _ hy)
     rw [bt (O4 hsh.1 hsh.2.1 w),hsh.2.2.2 w,bt (O6 ok (he x _ hx) (he y _ hy) hr)]
     rfl
    ·cases h
   ·cases h
 ·
  split at h
  ·rename_i u hu
   simp only [bx,bG] at h
   obtain ⟨rfl,rfl,rfl,rfl⟩:=h
   exact .ground wf (fun _ _=>by simp) hu
  ·cases h
 ·
  rename_i s d x
  split at h
  ·rename_i u hu
   simp only [bx,bG] at h
   obtain ⟨rfl,rfl,rfl,rfl⟩:=h
   exact .ground wf (fun _ _=>by simp) hu
  ·split at h
   ·rename_i y hy
    obtain ⟨h1,h2⟩:dN H H' W R∧∀ x' φ,be φ y x'→Good E H H' W R v φ (do Pure.pure (.value (← convert s d x'))):=
     ⟨(Ov (x':=y) ok wf h).1,fun x'=>(Ov (x':=x') ok wf h).2⟩
    exact ⟨h1,fun base φ w ρ hp hf he=>h2 (ρ x) φ (he x _ hy) base w hp hf⟩
   ·cases h
 ·
  rename_i t x
  split at h
  ·cases h
  ·rename_i y d hni hy ht
   simp only [bx,bG] at h
   obtain ⟨rfl,rfl,rfl,rfl⟩:=h
   refine .pure wf fun φ ρ he=>⟨.iface t (ρ x),.iface _ _ _ (he x _ hy),fun w=>?_⟩
   refine age ?_
   unfold Instr.makeInterface
   rw [bt (ig ok ht w)]
   cases d <;> first
    |rfl
    |exact (hni _ rfl).elim
  ·cases h
 ·
  rename_i f a b
  split at h
  ·rename_i ajh bv ha hb
   simp only [bx,bG] at h
   obtain ⟨rfl,rfl,rfl,rfl⟩:=h
   refine .pure wf fun φ ρ he=>⟨.func (.func f) (a.map ρ) (b.map ρ),?_,fun w=>rfl⟩
   have h1:=(xh he ha).toArray
   have h2:=(xh he hb).toArray
   have e1:(a.toList.map ρ).toArray=a.map ρ:=by apply Array.ext';simp
   have e2:(b.toList.map ρ).toArray=b.map ρ:=by apply Array.ext';simp
   rw [e1] at h1
   rw [e2] at h2
   exact .func _ _ _ _ _ h1.1 h1.2 h2.1 h2.2
  ·cases h
 ·
  rename_i t r
  have mk:∀{v:Value} {H':U} {W R:List Nat},some (Value.map (some H.n),H.new (.map [] 0),([]:List Nat),([]:List Nat))=some (v,H',W,R)→
    (∀ φ ρ w,ol E φ T ρ→(Instr.makeMap t (r.map ρ)).run E.P w=.ok (.map (some w.heap.size)) { w with heap:=w.heap.push (.map #[] 0) })→nK E H H' W R v T ⟨dst,.makeMap t r,ty,pos,after,guard⟩:=by
   intro v H' W R h hr
   simp only [bx,bG] at h
   obtain ⟨rfl,rfl,rfl,rfl⟩:=h
   refine ⟨dN.new wf _ _,fun base φ w ρ hp hf he=>?_⟩
   have hfree:φ H.n=none:=hf _ (Nat.le_refl _) (by simp)
   refine eQ.value (aU:=fun j=>if j=H.n then some ⟨w.heap.size,0,0⟩ else φ j) (hr φ ρ w he) ?_ (eV.adw hfree hp.bs rfl rfl rfl rfl)
   have:=be.map (φ:=fun j=>if j=H.n then some ⟨w.heap.size,0,0⟩ else φ j) H.n ⟨w.heap.size,0,0⟩ (by simp)
   simpa using this
  split at h
  ·rename_i hr
   exact mk h fun φ ρ w he=>by
    rcases I9 he hr with ⟨rfl,_⟩ |⟨_,_,_,BI,_⟩
    ·rfl
    ·cases BI
  ·rename_i k n hr
   split at h
   ·rename_i kt ym ht
    exact mk h fun φ ρ w he=>by
     rcases I9 he hr with ⟨_,BI⟩ |⟨y,u,rfl,hu,hv⟩
     ·cases BI
     ·injection hu with hu
      subst hu
      have:=hv.ow rfl
      simp only [Option.map_some,this]
      unfold Instr.makeMap
      simp only
      rw [bt (ig ok ht w)]
      rfl
   ·cases h
  ·cases h
 ·
  rename_i t l c
  split at h
  ·rename_i lv ON hl hc
   obtain ⟨h1,h2⟩:dN H H' W R∧∀ l' c' φ,be φ lv l'→be φ ON c'→Good E H H' W R v φ (do Pure.pure (.value (← Instr.makeSlice t l' c'))):=
    ⟨(QG (l':=lv) (c':=ON) ok wf h).1,fun l' c'=>(QG (l':=l') (c':=c') ok wf h).2⟩
   exact ⟨h1,fun base φ w ρ hp hf he=>h2 _ _ φ (he l _ hl) (he c _ hc) base w hp hf⟩
  ·cases h
 ·
  rename_i t x l hi m
  split at h
  ·split at h
   ·rename_i u hu
    simp only [bx,bG] at h
    obtain ⟨rfl,rfl,rfl,rfl⟩:=h
    exact .ground wf (fun _ _=>by simp) hu
   ·cases h
  ·rename_i xv lv hv mv _ hx hl hh hm
   split at h
   ·rename_i u hu
    simp only [bx,bG] at h
    obtain ⟨rfl,rfl,rfl,rfl⟩:=h
    refine ⟨dN.same wf _,fun base φ w ρ hp hf he=>?_⟩
    obtain ⟨r,hr,lz⟩:=agT (w:=w) ok (he x _ hx) (Ja he hl) (Ja he hh) (Ja he hm) hu
    exact eQ.of_run lz hr
   ·cases h
  ·cases h
 ·
  rename_i t x f
  split at h
  ·rename_i xv hx
   split at h
   ·rename_i u hu
    simp only [bx,bG] at h
    obtain ⟨rfl,rfl,rfl,rfl⟩:=h
    refine ⟨dN.same wf _,fun base φ w ρ hp hf he=>?_⟩
    obtain ⟨r,hr,lz⟩:=X4 (w:=w) ok (he x _ hx) hu
    exact eQ.of_run lz hr
   ·cases h
  ·cases h
 ·
  rename_i t x f
  split at h
  ·rename_i cs fs hx ht
   split at h
   ·rename_i fd Y3
    split at h
    ·rename_i u hu
     simp only [bx,bG] at h
     obtain ⟨rfl,rfl,rfl,rfl⟩:=h
     refine ⟨dN.same wf _,fun base φ w ρ hp hf he=>?_⟩
     obtain ⟨cs',hcs,har⟩:=(he x _ hx).A8
     obtain ⟨r,hr,lz⟩:=RS (w:=w) ok har hu
     refine eQ.of_run lz ?_
     unfold Instr.field
     rw [bt (ig ok ht w)]
     simp only [Y3,hcs,asAgg]
     rw [bt (run_pure _ w)];exact hr
    ·cases h
   ·cases h
  ·cases h
 ·
  rename_i t x i
  split at h
  ·rename_i xv iv hx hi
   split at h
   ·rename_i u hu
    simp only [bx,bG] at h
    obtain ⟨rfl,rfl,rfl,rfl⟩:=h
    refine ⟨dN.same wf _,fun base φ w ρ hp hf he=>?_⟩
    obtain ⟨r,hr,lz⟩:=aae (w:=w) ok (he x _ hx) (he i _ hi) hu
    exact eQ.of_run lz hr
   ·cases h
  ·cases h
 ·
  rename_i t x i
  split at h
  ·rename_i u hu
   simp only [bx,bG] at h
   obtain ⟨rfl,rfl,rfl,rfl⟩:=h
   exact .ground wf (fun _ _=>by simp) hu
  ·split at h
   ·rename_i cs k iv n e hx hi ht
    split at h
    ·rename_i sz hsz
     cases hc:(decide (0≤iv)&&decide (iv<(n:Int))) with
     |false=>rw [hc] at h;cases h
     |true=>
      rw [hc] at h
      simp only [cond_true] at h
      simp at hc
      split at h
      ·rename_i u hu
       simp only [bx,bG] at h
       obtain ⟨rfl,rfl,rfl,rfl⟩:=h
       refine ⟨dN.same wf _,fun base φ w ρ hp hf he=>?_⟩
       obtain ⟨cs',hcs,har⟩:=(he x _ hx).A8
       have hiv:=(he i _ hi).ow rfl
       obtain ⟨r,hr,lz⟩:=RS (w:=w) ok har hu
       refine eQ.of_run lz ?_
       unfold Instr.index
       simp only [hcs,hiv,asIntOf]
       rw [bt (run_pure _ w),bt (ig ok ht w)]
       simp only
       rw [if_pos hc,bt (ql ok hsz w)]
       exact hr
      ·cases h
    ·cases h
   ·cases h
 ·
  rename_i t m k co
  split at h
  ·rename_i mv kv hm hk
   obtain ⟨h1,h2⟩:dN H H' W R∧∀ m' k' φ,be φ mv m'→be φ kv k'→Good E H H' W R v φ (do Pure.pure (.value (← Instr.lookup t m' k' co))):=
    ⟨(Qu (m':=mv) (k':=kv) ok wf h).1,fun m' k'=>(Qu (m':=m') (k':=k') ok wf h).2⟩
   exact ⟨h1,fun base φ w ρ hp hf he=>h2 _ _ φ (he m _ hm) (he k _ hk) base w hp hf⟩
  ·cases h
 ·
  rename_i t m k x
  split at h
  ·rename_i mv kv xv hm hk hx
   obtain ⟨h1,h2⟩:dN H H' W R∧∀ m' k' x' φ,be φ mv m'→be φ kv k'→be φ xv x'→Good E H H' W R v φ (do Instr.mapUpdate t m' k' x';Pure.pure .skip):=
    ⟨(FB (m':=mv) (k':=kv) (v':=xv) ok wf h).1,fun m' k' x'=>(FB (m':=m') (k':=k') (v':=x') ok wf h).2⟩
   exact ⟨h1,fun base φ w ρ hp hf he=>h2 _ _ _ φ (he m _ hm) (he k _ hk) (he x _ hx) base w hp hf⟩
  ·cases h
 ·
  rename_i t m k x
  split at h
  ·rename_i mv kv xv hm hk hx
   obtain ⟨h1,h2⟩:dN H H' W R∧∀ m' k' x' φ,be φ mv m'→be φ kv k'→be φ xv x'→Good E H H' W R v φ (do Instr.mapUpdate t m' k' x';Pure.pure .skip):=
    ⟨(FB (m':=mv) (k':=kv) (v':=xv) ok wf h).1,fun m' k' x'=>(FB (m':=m') (k':=k') (v':=x') ok wf h).2⟩
   exact ⟨h1,fun base φ w ρ hp hf he=>h2 _ _ _ φ (he m _ hm) (he k _ hk) (he x _ hx) base w hp hf⟩
  ·cases h
 ·
  rename_i x xt a co
  split at h
  ·rename_i xv hx
   split at h
   ·rename_i u hu
    simp only [bx,bG] at h
    obtain ⟨rfl,rfl,rfl,rfl⟩:=h
    refine ⟨dN.same wf _,fun base φ w ρ hp hf he=>?_⟩
    obtain ⟨r,hr,lz⟩:=US (w:=w) (xt:=xt) ok (he x _ hx) hu
    exact eQ.of_run lz hr
   ·cases h
  ·cases h
 ·
  rename_i x i
  split at h
  ·rename_i vs hx
   split at h
   ·rename_i u hu
    simp only [bx,bG] at h
    obtain ⟨rfl,rfl,rfl,rfl⟩:=h
    refine ⟨dN.same wf _,fun base φ w ρ hp hf he=>?_⟩
    obtain ⟨vs',hvs,har⟩:=(he x _ hx).ML
    obtain ⟨r,hr,lz⟩:=har.get hu
    refine eQ.of_run lz ?_
    simp only [hvs,Instr.extract,hr];rfl
   ·cases h
  ·cases h
 ·
  rename_i args ts
  split at h
  ·rename_i xv hx
   obtain ⟨h1,h2⟩:dN H H' W R∧∀ x' φ,be φ xv x'→Good E H H' W R v φ (do Pure.pure (.value (← Builtin.len_ ts ty #[x']))):=
    ⟨(Qn (ty:=ty) (x':=xv) ok wf h).1,fun x'=>(Qn (ty:=ty) (x':=x') ok wf h).2⟩
   refine ⟨h1,fun base φ w ρ hp hf he=>?_⟩
   obtain ⟨u,hu,hv⟩:=EI hx he
   have:=h2 u φ hv base w hp hf
   rw [← hu] at this
   exact this
  ·cases h
 ·
  rename_i args ts
  split at h
  ·rename_i xv hx
   obtain ⟨h1,h2⟩:dN H H' W R∧∀ x' φ,be φ xv x'→Good E H H' W R v φ (do Pure.pure (.value (← Builtin.cap_ ts ty #[x']))):=
    ⟨(Oe (ty:=ty) (x':=xv) ok wf h).1,fun x'=>(Oe (ty:=ty) (x':=x') ok wf h).2⟩
   refine ⟨h1,fun base φ w ρ hp hf he=>?_⟩
   obtain ⟨u,hu,hv⟩:=EI hx he
   have:=h2 u φ hv base w hp hf
   rw [← hu] at this
   exact this
  ·cases h
 ·
  rename_i args ts
  split at h
  ·rename_i Dr xv hx
   refine ⟨(NN (ty:=ty) (s':=Dr) (x':=xv) ok wf h).1,fun base φ w ρ hp hf he=>?_⟩
   obtain ⟨u,u2,hu,hv,sL⟩:=Jb hx he
   have:=(NN (ty:=ty) (s':=u) (x':=u2) ok wf h).2 base φ w hp hf hv sL
   rw [← hu] at this
   exact this
  ·cases h
 ·
  rename_i args ts
  split at h
  ·rename_i Dr xv hx
   refine ⟨(Ow (ty:=ty) (d':=Dr) (s':=xv) ok wf h).1,fun base φ w ρ hp hf he=>?_⟩
   obtain ⟨u,u2,hu,hv,sL⟩:=Jb hx he
   have:=(Ow (ty:=ty) (d':=u) (s':=u2) ok wf h).2 φ hv sL base w hp hf
   rw [← hu] at this
   exact this
  ·cases h
 ·
  rename_i args ts
  split at h
  ·rename_i xv hx
   obtain ⟨h1,h2⟩:dN H H' W R∧∀ x' φ,be φ xv x'→Good E H H' W R v φ (do Pure.pure (.value (← Builtin.clear_ ts ty #[x']))):=
    ⟨(Oo (ty:=ty) (x':=xv) ok wf h).1,fun x'=>(Oo (ty:=ty) (x':=x') ok wf h).2⟩
   refine ⟨h1,fun base φ w ρ hp hf he=>?_⟩
   obtain ⟨u,hu,hv⟩:=EI hx he
   have:=h2 u φ hv base w hp hf
   rw [← hu] at this
   exact this
  ·cases h
 ·
  rename_i args ts
  split at h
  ·rename_i xv hx
   split at h
   ·rename_i u hu
    simp only [bx,bG] at h
    obtain ⟨rfl,rfl,rfl,rfl⟩:=h
    refine ⟨dN.same wf _,fun base φ w ρ hp hf he=>?_⟩
    obtain ⟨x',hx',hv⟩:=EI hx he
    obtain ⟨r,hr,lz⟩:=ah2 (E:=E) (w:=w) (ts:=ts) (ty:=ty) hu hv
    have:=eQ.of_run (E:=E) (base:=base) (φ:=φ) (w:=w) (H:=H) lz hr
    rw [← hx'] at this
    exact this
   ·cases h
  ·cases h
 ·
  rename_i args ts
  split at h
  ·rename_i Dr xv hx
   refine ⟨(TR (ty:=ty) (x':=Dr) (l':=xv) ok wf h).1,fun base φ w ρ hp hf he=>?_⟩
   obtain ⟨u,u2,hu,hv,sL⟩:=Jb hx he
   have:=(TR (ty:=ty) (x':=u) (l':=u2) ok wf h).2 φ hv sL base w hp hf
   rw [← hu] at this
   exact this
  ·cases h
 ·
  split at h
  ·rename_i u hu
   simp only [bx,bG] at h
   obtain ⟨rfl,rfl,rfl,rfl⟩:=h
   exact .ground wf (fun _ _=>by simp) hu
  ·cases h
 ·
  split at h
  ·rename_i u hu
   simp only [bx,bG] at h
   obtain ⟨rfl,rfl,rfl,rfl⟩:=h
   exact .ground wf (fun _ _=>by simp) hu
  ·cases h
 ·cases h
end
def g6 (φ:bA) (T:b5) (tm:Array Value) (aq:Nat):Prop:=tm.size=aq∧∀ t v,T.get t=some v→∃ u,tm[t]?=some u∧be φ v u
inductive jG (φ:bA):List (Value×List Value)→List Deferred→Prop
 |nil:jG φ [] []
 |cons (g:FuncId) (a b a' b':Array Value) (args args':List Value) (ds:List (Value×List Value)) (es:List Deferred) :
   jm φ a a'→jm φ b b'→eb φ args args'→jG φ ds es→jG φ ((.func (.func g) a b,args)::ds) ({ target:=.fn (.func g) b',args:=a'++args'.toArray }::es)
section
variable {E:Env} {base:Nat} {φ ψ:bA}
theorem g6.mono (h:∀ i l,φ i=some l→ψ i=some l) {T:b5} {tm:Array Value} {aq:Nat} (ht:g6 φ T tm aq):g6 ψ T tm aq:=
 ⟨ht.1,fun t v hv=>by obtain ⟨u,h1,h2⟩:=ht.2 t v hv;exact ⟨u,h1,h2.mono h⟩⟩
theorem jG.mono (h:∀ i l,φ i=some l→ψ i=some l) {d:List (Value×List Value)} {e:List Deferred} (hd:jG φ d e):jG ψ d e:=by
 induction hd with
 |nil=>exact .nil
 |cons g a b a' b' args args' ds es h1 h2 h3 _ ih=>exact .cons g a b a' b' args args' ds es (h1.mono h) (h2.mono h) (h3.mono h) ih
theorem g6.ev {H:U} {w:World} {T:b5} {a:Act} {aq:Nat} (ht:g6 φ T a.tmps aq) (hg:∀ g,g<E.ej→∃ l,φ g=some l∧l.cD=g∧l.off=0):ol E φ T a.eval:=by
 intro x v h
 cases x with
 |tmp t=>
  obtain ⟨u,h1,h2⟩:=ht.2 t v h
  simp only [Act.eval,Array.getD_eq_getD_getElem?,h1,Option.getD_some]
  exact h2
 |const c=>
  simp only [Am.ev] at h
  cases hc:ground c with
  |false=>rw [hc] at h;cases h
  |true=>rw [hc] at h;injection h with h;subst h;exact .rR hc
 |global g=>
  simp only [Am.ev] at h
  cases hc:Nat.blt g E.ej with
  |false=>rw [hc] at h;cases h
  |true=>
   rw [hc] at h;injection h with h;subst h
   obtain ⟨l,h1,h2,h3⟩:=hg g (by simpa [Nat.blt_eq] using hc)
   have:=be.ptr (φ:=φ) g 0 l h1
   rw [h2,h3] at this
   exact this
 |func f=>
  simp only [Am.ev] at h
  injection h with h;subst h
  exact .func _ _ _ _ _ rfl (fun i x y hx=>by simp at hx) rfl (fun i x y hx=>by simp at hx)
theorem g6.set {T:b5} {tm:Array Value} {aq:Nat} (ht:g6 φ T tm aq) {d:Nat} (hd:d<aq) {v u:Value} (hv:be φ v u):g6 φ (T.set d v) (tm.setIfInBounds d u) aq:=
 ⟨by simpa using ht.1,fun t x hx=>by
  rw [c6.kr] at hx
  by_cases e:d=t
  ·subst e
   rw [if_pos rfl] at hx
   injection hx with hx
   subst hx
   exact ⟨u,by rw [Array.getElem?_setIfInBounds_self_of_lt (by rw [ht.1];exact hd)],hv⟩
  ·rw [if_neg e] at hx
   obtain ⟨y,h1,h2⟩:=ht.2 t x hx
   exact ⟨y,by rw [Array.getElem?_setIfInBounds_ne e];exact h1,h2⟩⟩
theorem g6.put {T cO:b5} {a:Act} {aq:Nat} (ht:g6 φ T a.tmps aq) {d:Option Tmp} {v u:Value} (hv:be φ v u) (h:me T aq d v=some cO):g6 φ cO (a.put d u).tmps aq:=by
 cases d with
 |none=>simp [me] at h;subst h;exact ht
 |some d=>
  simp only [me] at h
  cases hd:Nat.blt d aq with
  |false=>rw [hd] at h;cases h
  |true=>rw [hd] at h;injection h with h;subst h;exact ht.set (by simpa [Nat.blt_eq] using hd) hv
theorem put_defers (a:Act) (d:Option Tmp) (u:Value):(a.put d u).defers=a.defers:=by cases d <;> rfl
def Uo (φ:bA) (r:mX) (e:Ending):Prop:=
 match r with
 |.ret v=>∃ u,e=.returned u∧be φ v u
 |.qW v=>∃ u,e=.panicked [{ v:=u,recovered:=false }]∧be φ v u
def Nv (P:Program) (g:FuncId) (args:Array Value) (w:World) (R:Ending→World→Prop):Prop:=
 ((callFunc g args).run P w=.ok (.enter g args) w∧Calls P g args w R)∨∃ v w',(callFunc g args).run P w=.ok (.value v) w'∧R (.returned v) w'
def nJ (E:Env) (base:Nat) (φ:bA) (w:World) (H H':U) (W:List Nat) (r:mX) (e:Ending) (w':World):Prop:=
 ∃ aU,Out E base φ w H H' W aU w'∧Uo aU r e
def tx (E:Env) (g:FuncId) (args:List Value) (H:U) (r:mX) (H':U) (W:List Nat):Prop:=
 cX W H H'∧cz H'∧∀ base φ w args',Rel E base H φ w→fW φ H.n H'.n→eb φ args args'→Nv E.P g args'.toArray w (nJ E base φ w H H' W r)
def mZ (E:Env) (call:Call):Prop:=∀ g args H r H' W,call g args H=some (r,H',W)→cz H→E.ej≤H.n→tx E g args H r H' W
theorem afO (ok:E.eU) {T:b5} {c:Go.Call} {g:FuncId} {args:List Value} {ρ:Operand→Value} (he:ol E φ T ρ) (h:GR E T c=some (g,args)) (ty:TypeId) (w:World) :
  ∃ args',eb φ args args'∧(do let d ← resolve ρ c ty;invoke d.target d.args:Sem Next).run E.P w=(callFunc g args'.toArray).run E.P w:=by
 unfold GR at h
 split at h
 rotate_left
 ·cases h
 rename_i as has
 have hlr:=xh he has
 have hmap:c.args.map ρ=(c.args.toList.map ρ).toArray:=by apply Array.ext';simp
 split at h
 ·
  rename_i f hf
  split at h
  ·rename_i g' a b JE
   simp only [bx,bG] at h
   obtain ⟨rfl,rfl⟩:=h
   obtain ⟨_,a',b',xo,hu,ha,hb⟩:=(he f _ JE).Jh
   injection xo with xo
   subst xo
   refine ⟨a'.toList++(c.args.toList.map ρ)++b'.toList,(ha.toList.append hlr).append hb.toList,?_⟩
   unfold resolve
   rw [hf]
   simp only [hu,Deferred.ofValue]
   rw [bt (run_pure _ w)]
   simp only [invoke]
   congr 2
   apply Array.ext'
   simp
  ·cases h
 ·
  rename_i r name hf
  split at h
  ·rename_i t v JE
   split at h
   ·rename_i i hi
    split at h
    ·rename_i m hm
     cases hp:m.path.isEmpty with
     |false=>rw [hp] at h;cases h
     |true=>
      rw [hp] at h
      simp only [cond_true] at h
      split at h
      ·rename_i f p Zi
       obtain ⟨u,hu,i7⟩:∃ u,ρ r=.iface t u∧be φ v u:=by
        have:=he r _ JE
        generalize ρ r=y at this
        cases this with |iface _ _ u hu=>exact ⟨u,rfl,hu⟩
       have ZB:m.path.toList=[]:=by
        have:m.path=#[]:=by simpa using hp
        rw [this]
       have hres:∀{x:Value},(∃ d,E.ul t=some d∧((∃ e,d=.pointer e)↔p=true))→(method (E.P.types.size+Made.depth) t u name).run E.P w=.ok (f,u) w:=by
        intro x ⟨d,hd,Pw⟩
        have JC:E.P.types.size+Made.depth=(E.P.types.size+99)+1:=rfl
        rw [JC]
        unfold method
        have qI:(typeInfo t).run E.P w=.ok i w:=by simp [typeInfo,ok.info _ _ hi]
        rw [bt qI]
        simp only [hm,ZB,follow]
        rw [bt (run_pure _ w)]
        simp only [Zi]
        have:(receiverAt t (.val u) p (if m.path.isEmpty then some ((name.splitOn ".").getLastD name) else none)).run E.P w=.ok u w:=by
         unfold receiverAt
         rw [bt (ig ok hd w)]
         cases p with
         |true=>
          obtain ⟨e,rfl⟩:=Pw.2 rfl
          rfl
         |false=>
          cases d <;> first
           |rfl
           |(exfalso;have:=Pw.1 ⟨_,rfl⟩;cases this)
        rw [bt this]
        rfl
       have fin:∀(hd:∃ d,E.ul t=some d∧((∃ e,d=.pointer e)↔p=true)) (h:some (f,v::as)=some (g,args)),∃ args',eb φ args args'∧(do let d ← resolve ρ c ty;invoke d.target d.args:Sem Next).run E.P w=(callFunc g args'.toArray).run E.P w:=by
        intro hd h
        simp only [bx,bG] at h
        obtain ⟨rfl,rfl⟩:=h
        refine ⟨u::c.args.toList.map ρ,.cons i7 hlr,?_⟩
        unfold resolve
        rw [hf]
        simp only [hu]
        rw [bt (run_pure _ w)]
        simp only [invoke]
        have e0:(#[Value.iface t u]++c.args.map ρ)[0]?=some (.iface t u):=by
         rw [Array.getElem?_append_left (by simp)];rfl
        simp only [e0]
        have e1:(#[Value.iface t u]++c.args.map ρ).extract 1 (#[Value.iface t u]++c.args.map ρ).size=c.args.map ρ:=by
         apply Array.ext'
         simp
         exact List.take_of_length_le (by simp)
        rw [e1]
        unfold callMethod
        simp only
        rw [bt (run_program w),bt (hres (x:=u) hd)]
        simp only
        congr 2
        apply Array.ext'
        simp
       split at h
       ·rename_i e B0
        cases p with
        |true=>exact fin ⟨_,B0,⟨fun _=>rfl,fun _=>⟨e,rfl⟩⟩⟩ h
        |false=>cases h
       ·rename_i d hne B0
        cases p with
        |true=>cases h
        |false=>exact fin ⟨d,B0,⟨fun ⟨e,he⟩=>(hne e he).elim,fun h=>by cases h⟩⟩ h
       ·cases h
      ·cases h
    ·cases h
   ·cases h
  ·cases h
 ·cases h
end
theorem adW {P:Program} {o:Oper} {a:Act} {w:World} {K K':Act→World→Prop} {Q Q':Exit→Act→World→Prop} (h:∀ a w,K a w→K' a w) (hq:∀ e a w,Q e a w→Q' e a w)
  (hh:o.wp P a w K Q):o.wp P a w K' Q':=by
 unfold Oper.wp at *
 generalize (execOp a.eval o).run P w=r at *
 cases r with
 |ok n w'=>
  cases n <;> simp only [Oper.upon] at hh ⊢ <;>
   first
    |exact h _ _ hh
    |exact Calls.mono hh (fun e w'' he=>by
      cases e with
      |returned v=>exact h _ _ he
      |panicked c=>exact hq _ _ _ he
      |outgrown=>obtain ⟨a0,w0,h0⟩:=he;exact ⟨a0,w0,hq _ _ _ h0⟩)
    |exact Rows.mono hh (fun _ _ he=>h _ _ he)
 |halt x w'=>cases x <;> simp only [Oper.upon] at hh ⊢ <;> first |exact hh |exact hq _ _ _ hh
theorem HM {P:Program} {ops:Array Oper} {Q Q':Exit→Act→World→Prop} (hq:∀ e a w,Q e a w→Q' e a w):∀(rest:List Oper) (a:Act) (w:World),wpList P ops Q rest a w→wpList P ops Q' rest a w
 |[],a,w,h=>hq _ _ _ h
 |o::rest,a,w,h=>by
  simp only [wpList] at h ⊢
  split
  ·rename_i hw
   rw [if_pos hw] at h
   rcases h with h |⟨h1,a0,w0,h2⟩
   ·exact .inl (adW (fun a w h=>HM hq rest a w h) hq h)
   ·exact .inr ⟨h1,a0,w0,hq _ _ _ h2⟩
  ·rename_i hw
   rw [if_neg hw] at h
   exact HM hq rest _ w h
section
variable {E:Env} {call:Call}
theorem T7 {P:Program} {o:Oper} {a:Act} {w w':World} {ut:Next} {u:Value} {next:Act→World→Prop} {Q:Exit→Act→World→Prop}
  (hr:(execOp a.eval o).run P w=.ok ut w') (hn:ut=.value u∨(ut=.skip∧u=undef)) (h:next (a.put o.dst u) w'):o.wp P a w next Q:=by
 unfold Oper.wp
 rw [hr]
 rcases hn with rfl |⟨rfl,rfl⟩ <;> exact h
theorem aiH {P:Program} {o:Oper} {a:Act} {w:World} {g:FuncId} {args:Array Value} {next:Act→World→Prop} {Q:Exit→Act→World→Prop} {R:Ending→World→Prop}
  (hr:(execOp a.eval o).run P w=(callFunc g args).run P w) (h:Nv P g args w R)
  (h1:∀ v w',R (.returned v) w'→next (a.put o.dst v) w') (h2:∀ c w',R (.panicked c) w'→Q (.panic c) a w') (h3:∀ w',¬ R .outgrown w'):o.wp P a w next Q:=by
 unfold Oper.wp
 rw [hr]
 rcases h with ⟨he,hc⟩ |⟨v,w',he,hv⟩
 ·rw [he]
  simp only [Oper.upon]
  exact hc.mono fun e w' hR=>by
   cases e with
   |returned v=>exact h1 v w' hR
   |panicked c=>exact h2 c w' hR
   |outgrown=>exact (h3 w' hR).elim
 ·rw [he]
  exact h1 v w' hv
def D3 (E:Env) (o:Oper) (T:b5) (H:U) (d:List (Value×List Value)) (v:Value) (H':U) (d':List (Value×List Value)) (W:List Nat):Prop:=
 cX W H H'∧cz H'∧∀(base:Nat) (φ:bA) (w:World) (a:Act) (aq:Nat) (next:Act→World→Prop) (Q:Exit→Act→World→Prop),
  Rel E base H φ w→fW φ H.n H'.n→g6 φ T a.tmps aq→jG φ d a.defers→
  (∀(aU:bA) (w':World) (u:Value) (a':Act),Out E base φ w H H' W aU w'→be aU v u→a'.tmps=a.tmps→jG aU d' a'.defers→next (a'.put o.dst u) w')→o.wp E.P a w next Q
def Us (E:Env) (o:Oper) (T:b5) (H:U) (d:List (Value×List Value)) (v:Value) (H':U) (W:List Nat):Prop:=
 cX W H H'∧cz H'∧∀(base:Nat) (φ:bA) (w:World) (a:Act) (aq:Nat) (next:Act→World→Prop) (Q:Exit→Act→World→Prop),
  Rel E base H φ w→fW φ H.n H'.n→g6 φ T a.tmps aq→jG φ d a.defers→
  (∀ aU w' u,Out E base φ w H H' W aU w'→be aU v u→Q (.panic [{ v:=u,recovered:=false }]) a w')→o.wp E.P a w next Q
def Ut (E:Env) (o:Oper) (T:b5) (H:U) (d:List (Value×List Value)):H8→Prop
 |.val v H' d' W _=>D3 E o T H d v H' d' W
 |.qW v H' W=>Us E o T H d v H' W
theorem Pl (ok:E.eU) {o:Oper} {T:b5} {H H':U} {d:List (Value×List Value)} {v:Value} {W R:List Nat} (wf:cz H) (cu:E.ej≤H.n) (h:simple E o T H=some (v,H',W,R)):D3 E o T H d v H' d W:=by
 obtain ⟨h1,h2⟩:=S8 ok wf h
 refine ⟨h1.ext,h1.wf,fun base φ w a aq next Q cC hf ht hd hnext=>?_⟩
 obtain ⟨ut,u,w',aU,hr,JM,i7,hout⟩:=h2 base φ w a.eval (Pre.Lk wf cC R) hf (ht.ev (H:=H) (w:=w) cC.iL)
 have b6:=hout.out wf h1.ext cC hf cu
 exact T7 hr JM (hnext aU w' u a b6 i7 rfl (hd.mono (b6.sub hf)))
theorem Gv (ok:E.eU) (hc:mZ E call) {o:Oper} {T:b5} {H:U} {d:List (Value×List Value)} {x:H8} (wf:cz H) (cu:E.ej≤H.n) (h:fK E call o T H d=some x) :
  Ut E o T H d x:=by
 obtain ⟨dst,op,ty,pos,after,guard⟩:=o
 unfold fK at h
 simp only at h
 split at h
 ·
  split at h
  ·rename_i v H' W R hs
   injection h with h
   subst h
   exact Pl ok wf cu hs
  ·cases h
 ·
  rename_i c hnb
  split at h
  ·rename_i f args hres
   have run:∀(r:mX) (H':U) (W:List Nat),call f args H=some (r,H',W)→cX W H H'∧cz H'∧∀(base:Nat) (φ:bA) (w:World) (a:Act) (aq:Nat) (next:Act→World→Prop) (Q:Exit→Act→World→Prop),
     Rel E base H φ w→fW φ H.n H'.n→g6 φ T a.tmps aq→jG φ d a.defers→
     (∀ aU w' u,Out E base φ w H H' W aU w'→(∃ v,r=.ret v∧be aU v u)→next (a.put dst u) w')→
     (∀ aU w' u,Out E base φ w H H' W aU w'→(∃ v,r=.qW v∧be aU v u)→Q (.panic [{ v:=u,recovered:=false }]) a w')→Oper.wp E.P ⟨dst,.call c,ty,pos,after,guard⟩ a w next Q:=by
    intro r H' W BF
    obtain ⟨g1,g2,g3⟩:=hc f args H r H' W BF wf cu
    refine ⟨g1,g2,fun base φ w a aq next Q cC hf ht hd hn hq=>?_⟩
    obtain ⟨args',hlr,hrun⟩:=afO (φ:=φ) ok (ht.ev (H:=H) (w:=w) cC.iL) hres ty w
    have hR:=g3 base φ w args' cC hf hlr
    refine aiH (by exact hrun) hR (fun u w' hp=>?_) (fun ch w' hp=>?_) (fun w' hp=>?_)
    ·obtain ⟨aU,b6,he⟩:=hp
     cases r with
     |ret v=>
      obtain ⟨u',he,hv⟩:=he
      injection he with he
      subst he
      exact hn aU w' u b6 ⟨v,rfl,hv⟩
     |qW v=>obtain ⟨u',he,_⟩:=he;cases he
    ·obtain ⟨aU,b6,he⟩:=hp
     cases r with
     |ret v=>obtain ⟨u',he,_⟩:=he;cases he
     |qW v=>
      obtain ⟨u',he,hv⟩:=he
      injection he with he
      subst he
      exact hq aU w' u' b6 ⟨v,rfl,hv⟩
    ·obtain ⟨aU,b6,he⟩:=hp
     cases r with
     |ret v=>obtain ⟨u',he,_⟩:=he;cases he
     |qW v=>obtain ⟨u',he,_⟩:=he;cases he
   split at h
   ·rename_i v H' W BF
    injection h with h
    subst h
    obtain ⟨g1,g2,g3⟩:=run _ _ _ BF
    refine ⟨g1,g2,fun base φ w a aq next Q cC hf ht hd hn=>g3 base φ w a aq next Q cC hf ht hd (fun aU w' u b6 hv=>?_) (fun aU w' u b6 hv=>?_)⟩
    ·obtain ⟨v',oC,i7⟩:=hv
     injection oC with oC
     subst oC
     exact hn aU w' u a b6 i7 rfl (hd.mono (b6.sub hf))
    ·obtain ⟨v',oC,_⟩:=hv;cases oC
   ·rename_i v H' W BF
    injection h with h
    subst h
    obtain ⟨g1,g2,g3⟩:=run _ _ _ BF
    refine ⟨g1,g2,fun base φ w a aq next Q cC hf ht hd hq=>g3 base φ w a aq next Q cC hf ht hd (fun aU w' u b6 hv=>?_) (fun aU w' u b6 hv=>?_)⟩
    ·obtain ⟨v',oC,_⟩:=hv;cases oC
    ·obtain ⟨v',oC,i7⟩:=hv
     injection oC with oC
     subst oC
     exact hq aU w' u b6 i7
   ·cases h
  ·cases h
 ·
  rename_i f args ts
  split at h
  ·rename_i g a b as hf ha
   injection h with h
   subst h
   refine ⟨cX.refl ..,wf,fun base φ w act aq next Q cC hfr ht hd hn=>?_⟩
   have he:=ht.ev (E:=E) (H:=H) (w:=w) cC.iL
   obtain ⟨_,a',b',xo,hu,hla,hlb⟩:=(he f _ hf).Jh
   injection xo with xo
   subst xo
   have hlr:=xh he ha
   have hmap:args.map act.eval=(args.toList.map act.eval).toArray:=by apply Array.ext';simp
   have b6:=Out.refl (W:=[]) cC
   have:=hn φ w undef { act with defers:={ target:=.fn (.func g) b',args:=a'++(args.map act.eval) }::act.defers } b6 (.tuple' ⟨rfl,fun i x y hx=>by simp at hx⟩) rfl
    (by rw [hmap];exact .cons g a b a' b' as (args.toList.map act.eval) d act.defers hla hlb hlr hd)
   unfold Oper.wp
   have hr:(execOp act.eval ⟨dst,.defer { callee:=.value f,args:=args,argTypes:=ts },ty,pos,after,guard⟩).run E.P w=.ok (.defer { target:=.fn (.func g) b',args:=a'++(args.map act.eval) }) w:=by
    unfold execOp resolve
    simp only [hu,Deferred.ofValue]
    rfl
   rw [hr]
   exact this
  ·cases h
 ·
  rename_i x
  split at h
  ·rename_i t v hx
   injection h with h
   subst h
   refine ⟨cX.refl ..,wf,fun base φ w a aq next Q cC hf ht hd hq=>?_⟩
   have he:=ht.ev (E:=E) (H:=H) (w:=w) cC.iL
   have hv:=he x _ hx
   obtain ⟨u,hu,i7⟩:∃ u,a.eval x=.iface t u∧be φ v u:=by
    generalize a.eval x=y at hv
    cases hv with |iface _ _ u hu=>exact ⟨u,rfl,hu⟩
   have hr:(execOp a.eval ⟨dst,.panic x,ty,pos,after,guard⟩).run E.P w=.halt (.panic (.iface t u)) w:=by
    unfold execOp
    simp only [hu]
    rfl
   unfold Oper.wp
   rw [hr]
   exact hq φ w _ (Out.refl [] cC) (.iface _ _ _ i7)
  ·cases h
 ·
  split at h
  ·rename_i v H' W R hs
   injection h with h
   subst h
   exact Pl ok wf cu hs
  ·cases h
theorem yp {ops:Array Oper} {T:b5} {o:Oper} {b:Bool} {φ:bA} {a:Act} {aq:Nat} (ht:g6 φ T a.tmps aq) (h:uM ops T o=some b):Region.wanted o (yielded ops a.tmps)=b:=by
 unfold uM at h
 unfold Region.wanted
 split at h
 ·rename_i hg;injection h with h;subst h;simp [hg]
 ·rename_i j want hg
  simp only [hg]
  split at h
  ·rename_i p hp
   split at h
   ·rename_i dd hd
    split at h
    ·rename_i bb hb
     injection h with h
     subst h
     obtain ⟨u,hu,hv⟩:=ht.2 _ _ hb
     have:=hv.ow rfl
     subst this
     simp only [yielded,hp,hd,hu,Option.bind_some]
     cases bb <;> cases want <;> rfl
    ·rename_i y Zt hy
     injection h with h
     subst h
     obtain ⟨u,hu,hv⟩:=ht.2 _ _ hy
     simp only [yielded,hp,hd,hu,Option.bind_some]
     cases hv <;> first
      |rfl
      |exact (Zt _ rfl).elim
    ·cases h
   ·rename_i hd
    injection h with h
    subst h
    simp [yielded,hp,hd]
  ·rename_i hp
   injection h with h
   subst h
   simp [yielded,hp]
def A1 (φ:bA) (x:eY) (e:Exit):Prop:=
 match x with
 |.normal=>e=.normal
 |.exit id=>e=.exit id
 |.goto l=>e=.goto l
 |.ret=>e=.ret
 |.panic v=>∃ u,e=.panic [{ v:=u,recovered:=false }]∧be φ v u
def Post (E:Env) (base:Nat) (φ:bA) (w:World) (aq:Nat) (H:U) (W:List Nat) (x:eY) (s':gp) (e:Exit) (a':Act) (w':World):Prop:=
 ∃ aU,Out E base φ w H s'.h W aU w'∧A1 aU x e∧g6 aU s'.t a'.tmps aq∧jG aU s'.d a'.defers
structure sj (E:Env) (base:Nat) (φ:bA) (w:World) (aq:Nat) (s:gp) (a:Act):Prop where
 rel:Rel E base s.h φ w
 hH:g6 φ s.t a.tmps aq
 iT:jG φ s.d a.defers
theorem Post.glue {base:Nat} {φ e4:bA} {w w1:World} {aq:Nat} {H:U} {s1 s2:gp} {W V:List Nat} {x:eY} {e:Exit} {a:Act} {w2:World} (x1:cX W H s1.h) (au:cX V s1.h s2.h)
  (b6:Out E base φ w H s1.h W e4 w1) (hf:fW φ H.n s2.h.n) (h:Post E base e4 w1 aq s1.h V x s2 e a w2):Post E base φ w aq H (W++V) x s2 e a w2:=by
 obtain ⟨o8,h1,h2,h3,h4⟩:=h
 exact ⟨o8,b6.trans x1 au h1 hf,h2,h3,h4⟩
theorem fW.next {base:Nat} {φ e4:bA} {w w1:World} {H H1 H2:U} {W:List Nat} (b6:Out E base φ w H H1 W e4 w1) (hn:H.n≤H1.n) (hf:fW φ H.n H2.n):fW e4 H1.n H2.n:=fun i h1 h2=>by
 rw [b6.ext i (.inr h1)];exact hf i D h2
theorem fW.first {φ:bA} {a b c:Nat} (hf:fW φ a c) (h:b≤c):fW φ a b:=fun i h1 h2=>hf i h1 D
theorem Lp (ok:E.eU) (hc:mZ E call) (aq:Nat) (ops:Array Oper):∀(rest:List Oper) (s s':gp) (p:Option Value),z9 E call aq ops rest s=some (p,s')→cz s.h→E.ej≤s.h.n→
  ∃ W,s'.w=s.w++W∧cX W s.h s'.h∧cz s'.h∧∀(base:Nat) (φ:bA) (w:World) (a:Act),sj E base φ w aq s a→fW φ s.h.n s'.h.n→
   wpList E.P ops (Post E base φ w aq s.h W (match p with |none=>.normal |some v=>.panic v) s') rest a w
 |[],s,s',p,h,wf,cu=>by
  simp only [z9,bx,bG] at h
  obtain ⟨rfl,rfl⟩:=h
  exact ⟨[],by simp,cX.refl ..,wf,fun base φ w a hs hf=>⟨φ,Out.refl [] hs.rel,rfl,hs.hH,hs.iT⟩⟩
 |o::rest,s,s',p,h,wf,cu=>by
  simp only [z9] at h
  split at h
  ·rename_i hw
   split at h
   ·rename_i v H1 d1 fa r1 hop
    obtain ⟨g1,g2,g3⟩:=Gv ok hc wf cu hop
    split at h
    ·rename_i fT oy
     have j6:=g1.n
     obtain ⟨V,hV,au,kG,k⟩:=Lp ok hc aq ops rest _ s' p h g2 (by show E.ej≤H1.n;omega)
     have T9:cX V H1 s'.h:=au
     have hn2:H1.n≤s'.h.n:=au.n
     refine ⟨fa++V,by rw [hV];simp,g1.trans T9,kG,fun base φ w a hs hf=>?_⟩
     simp only [wpList]
     rw [if_pos (yp hs.hH hw)]
     refine .inl (g3 base φ w a aq _ _ hs.rel (hf.first hn2) hs.hH hs.iT fun aU w' u a' b6 i7 rx hda=>?_)
     have oB:g6 aU s.t a'.tmps aq:=by rw [rx];exact hs.hH.mono (b6.sub (hf.first hn2))
     have:=k base aU w' (a'.put o.dst u) ⟨b6.rel,oB.put i7 oy,by rw [put_defers];exact hda⟩ (hf.next b6 j6)
     exact HM (fun e a w h=>Post.glue g1 T9 b6 hf h) _ _ _ this
    ·cases h
   ·rename_i v H1 fa hop
    obtain ⟨g1,g2,g3⟩:=Gv ok hc wf cu hop
    simp only [bx,bG] at h
    obtain ⟨rfl,rfl⟩:=h
    refine ⟨fa,rfl,g1,g2,fun base φ w a hs hf=>?_⟩
    simp only [wpList]
    rw [if_pos (yp hs.hH hw)]
    refine .inl (g3 base φ w a aq _ _ hs.rel hf hs.hH hs.iT fun aU w' u b6 i7=>?_)
    exact ⟨aU,b6,⟨u,rfl,i7⟩,hs.hH.mono (b6.sub hf),hs.iT.mono (b6.sub hf)⟩
   ·cases h
  ·rename_i hw
   split at h
   ·rename_i fT oy
    obtain ⟨V,hV,au,kG,k⟩:=Lp ok hc aq ops rest _ s' p h wf cu
    refine ⟨V,hV,au,kG,fun base φ w a hs hf=>?_⟩
    simp only [wpList]
    rw [if_neg (by rw [yp hs.hH hw];simp)]
    exact k base φ w _ ⟨hs.rel,hs.hH.put (.tuple' ⟨rfl,fun i x y hx=>by simp at hx⟩) oy,by rw [put_defers];exact hs.iT⟩ hf
   ·cases h
  ·cases h
end
def Uu (E:Env) (g:FuncId) (p:List Value→U→m0):Prop:=
 ∀ args H r H' W,p args H=some (r,H',W)→cz H→E.ej≤H.n→tx E g args H r H' W
def pX (φ:bA):Option Value→FrameMode→Prop
 |none,m=>m=.returning
 |some v,m=>∃ u,m=.panicking [{ v:=u,recovered:=false }]∧be φ v u
def Un (E:Env) (g:FuncId) (p:Option Value→List Value→U→Option (Option Value×U×List Nat)):Prop:=
 (∀ args w,(callFunc g args).run E.P w=.ok (.enter g args) w)∧
 ∀ m args H m' H' W,p m args H=some (m',H',W)→cz H→E.ej≤H.n→cX W H H'∧cz H'∧
  ∀ base φ w args' u,Rel E base H φ w→fW φ H.n H'.n→eb φ args args'→pX φ m u→
   CallsD E.P g args'.toArray u w fun e u' w'=>(∃ v,e=.returned v)∧∃ aU,Out E base φ w H H' W aU w'∧pX aU m' (settle u')
structure Sound (E:Env):Prop where
 ok:E.eU
 name:∀ f fn,E.func f=some fn→(fn.name== "runtime.NumGoroutine")=false
 x5:∀ g p,E.x5 g=some p→Uu E g p
 zn:∀ g p,E.zn g=some p→Un E g p
def HZ (E:Env) (call:Call):Prop:=∀ aq id ops s s',An E call aq ops true s=some (none,s')→cz s.h→E.ej≤s.h.n→
 ∃ W,s'.w=s.w++W∧cX W s.h s'.h∧cz s'.h∧∀(base:Nat) (φ:bA) (w:World) (a:Act),sj E base φ w aq s a→fW φ s.h.n s'.h.n→
  (Code.region id ops true).wp E.P (Post E base φ w aq s.h W .normal s') a w
section
variable {E:Env}
theorem SF (hS:Sound E) {g:FuncId} {fn:Func} {c:Code} (hf:E.func g=some fn) (hb:fn.body=some c) (args:Array Value) (w:World):(callFunc g args).run E.P w=.ok (.enter g args) w:=by
 unfold callFunc
 rw [bt (run_program w)]
 simp only [hS.ok.func _ _ hf,hS.name _ _ hf,Bool.false_eq_true,if_false,hb,Option.isNone_some]
 rfl
theorem TI {φ:bA}:∀(vs us:List Value) (i:Nat) (T:b5) (tm:Array Value) (aq:Nat),g6 φ T tm aq→eb φ vs us→i+vs.length≤aq→(∀(j:Nat) u,us[j]?=some u→tm[i+j]?=some u)→g6 φ (mj vs i T) tm aq
 |[],us,i,T,tm,aq,ht,hl,hi,hu=>ht
 |v::vs,us,i,T,tm,aq,ht,hl,hi,hu=>by
  obtain ⟨u,us',rfl,hv,hl'⟩:=hl.cons_inv
  have qI:g6 φ (T.set i v) tm aq:=⟨ht.1,fun t x hx=>by
   rw [c6.kr] at hx
   by_cases e:i=t
   ·subst e
    rw [if_pos rfl] at hx
    injection hx with hx
    subst hx
    exact ⟨u,by simpa using hu 0 u (by simp),hv⟩
   ·rw [if_neg e] at hx;exact ht.2 t x hx⟩
  exact TI vs us' (i+1) _ tm aq qI hl' (by simp at hi;omega) (fun j x hx=>by
   have:=hu (j+1) x (by simpa using hx)
   rw [show i+1+j=i+(j+1) by omega];exact this)
theorem Mw {φ:bA} {args:List Value} {args':List Value} {aq:Nat} (hl:eb φ args args') (hn:args.length≤aq):g6 φ (mj args 0 .nil) (args'.toArray++Array.replicate (aq-args'.toArray.size) undef) aq:=by
 refine TI args args' 0 .nil _ aq ⟨by simp;have:=hl.1;omega,fun t v h=>by simp [c6.get] at h⟩ hl D (fun j u hu=>?_)
 have hj:=(List.getElem?_eq_some_iff.1 hu).1
 rw [Nat.zero_add,Array.getElem?_append_left (by simpa using hj)]
 simpa using hu
theorem GQ (ok:E.eU) {base:Nat} {φ:bA} {w:World} {s:gp} {tm:Array Value} {aq:Nat} (wf:cz s.h) (cC:Rel E base s.h φ w) (ht:g6 φ s.t tm aq):∀(rs:List ResultVar) (vs:List Value),s9 E s rs=some vs→
  ∃ us,eb φ vs us∧(rs.mapM fun (r:ResultVar)=>(match r with
   |.tmp t=>(pure (tm.getD t undef):Sem Value)
   |.cell a t=>do loadVar t (← asAddr (tm.getD a undef)):Sem Value)).run E.P w=.ok us w
 |[],vs,h=>by simp [s9] at h;subst h;exact ⟨[],.nil φ,rfl⟩
 |.tmp t::rs,vs,h=>by
  simp only [s9] at h
  split at h
  ·rename_i v ws hv hw
   injection h with h
   subst h
   obtain ⟨us,h1,h2⟩:=GQ ok wf cC ht rs ws hw
   obtain ⟨u,hu,i7⟩:=ht.2 _ _ hv
   refine ⟨u::us,.cons i7 h1,?_⟩
   rw [List.mapM_cons]
   have e:tm.getD t undef=u:=by simp [Array.getD_eq_getD_getElem?,hu]
   simp only [e]
   rw [bt (run_pure u w),bt h2];rfl
  ·cases h
 |.cell a t::rs,vs,h=>by
  simp only [s9] at h
  split at h
  ·rename_i b off hv
   split at h
   ·rename_i v ws JK hw
    injection h with h
    subst h
    obtain ⟨us,h1,h2⟩:=GQ ok wf cC ht rs ws hw
    obtain ⟨u,hu,i7⟩:=ht.2 _ _ hv
    obtain ⟨l,hl,rfl⟩:=i7.wt
    obtain ⟨x,hx,ZP⟩:=SH ok (Pre.Lk wf cC [b]) (by simp) hl JK
    refine ⟨x::us,.cons ZP h1,?_⟩
    rw [List.mapM_cons]
    have e:tm.getD a undef=.pointer (some ⟨l.cD,l.off+off,none⟩):=by simp [Array.getD_eq_getD_getElem?,hu]
    have hx':(do loadVar t (← asAddr (tm.getD a undef)):Sem Value).run E.P w=.ok x w:=by
     rw [e]
     show ((pure _:Sem Addr) >>= fun y=>loadVar t y).run E.P w=_
     rw [bt (run_pure _ w)];exact hx
    rw [bt hx',bt h2];rfl
   ·cases h
  ·cases h
theorem L4 (ok:E.eU) {base:Nat} {φ:bA} {w:World} {s:gp} {tm:Array Value} {aq:Nat} {fn:Func} {v:Value} (wf:cz s.h) (cC:Rel E base s.h φ w) (ht:g6 φ s.t tm aq) (h:rZ E fn s=some v) :
  ∃ u,be φ v u∧(results fn tm).run E.P w=.ok u w:=by
 unfold rZ at h
 have key:∀ us:List Value,(fn.results.toList.mapM fun (r:ResultVar)=>(match r with
   |.tmp t=>(pure (tm.getD t undef):Sem Value)
   |.cell a t=>do loadVar t (← asAddr (tm.getD a undef)):Sem Value)).run E.P w=.ok us w→
   (results fn tm).run E.P w=.ok (if h:us.toArray.size=1 then us.toArray[0] else .tuple us.toArray) w:=by
  intro us ZM
  unfold results
  rw [Array.mapM_eq_mapM_toList]
  have:(List.toArray <$> (fn.results.toList.mapM fun (r:ResultVar)=>(match r with
   |.tmp t=>(pure (tm.getD t undef):Sem Value)
   |.cell a t=>do loadVar t (← asAddr (tm.getD a undef)):Sem Value))).run E.P w=.ok us.toArray w:=by
   rw [map_eq_pure_bind,bt ZM];rfl
  exact (bt (f:=fun (vs:Array Value)=>(pure (if h:vs.size=1 then vs[0] else .tuple vs):Sem Value)) this).trans rfl
 split at h
 ·rename_i x hx
  injection h with h
  subst h
  obtain ⟨us,h1,h2⟩:=GQ ok wf cC ht _ _ hx
  obtain ⟨u,us',rfl,hv,hn⟩:=h1.cons_inv
  have:=hn.mO
  subst this
  exact ⟨u,hv,key _ h2⟩
 ·rename_i vs hne hx
  injection h with h
  subst h
  obtain ⟨us,h1,h2⟩:=GQ ok wf cC ht _ _ hx
  refine ⟨.tuple us.toArray,.tuple' h1.toArray,?_⟩
  rw [key _ h2]
  have hl:=h1.1
  have:¬ us.toArray.size=1:=by
   intro e
   have:vs.length=1:=by rw [hl];simpa using e
   match vs,this with
   |[x],_=>exact hne x rfl
  rw [dif_neg this]
 ·cases h
def wP (n:Nat) (P:Program) (c:Code) (Q:Exit→Act→World→Prop) (a:Act) (w:World):Prop:=
 match c with
 |.loop b=>Code.rounds P b Q n a w
 |c=>c.wp P Q a w
theorem wP.wp {n:Nat} {P:Program} {c:Code} {Q:Exit→Act→World→Prop} {a:Act} {w:World} (h:wP n P c Q a w):c.wp P Q a w:=by
 cases c <;> first
  |exact h
  |exact wp_loop_rounds n h
def J2:Code→Bool
 |.loop _=>true
 |_=>false
theorem wP.of {n:Nat} {P:Program} {c:Code} {Q:Exit→Act→World→Prop} {a:Act} {w:World} (hc:J2 c=false) (h:c.wp P Q a w):wP n P c Q a w:=by
 cases c <;> first
  |exact h
  |cases hc
def Nr (E:Env) (n aq:Nat) (c:Code) (s:gp) (x:eY) (s':gp):Prop:=
 ∃ W,s'.w=s.w++W∧cX W s.h s'.h∧cz s'.h∧∀(base:Nat) (φ:bA) (w:World) (a:Act),sj E base φ w aq s a→fW φ s.h.n s'.h.n→wP n E.P c (Post E base φ w aq s.h W x s') a w
def A6 (E:Env) (n aq:Nat) (self:Code→gp→Option (eY×gp)):Prop:=∀ c s x s',self c s=some (x,s')→cz s.h→E.ej≤s.h.n→Nr E n aq c s x s'
theorem GU {P:Program} {c:Code} {Q Q':Exit→Act→World→Prop} (hq:∀ e a w,Q e a w→Q' e a w):∀ n a w,Code.rounds P c Q n a w→Code.rounds P c Q' n a w
 |0,_,_,h=>h
 |n+1,a,w,h=>by
  rw [rounds_succ] at h ⊢
  refine wp_mono h fun e a w he=>?_
  cases e <;> simp only [Exit.then] at he ⊢ <;> first |exact GU hq n _ _ he |exact hq _ _ _ he
theorem WD (hS:Sound E) {call:Call} (hc:mZ E call) (hd:HZ E call) {n aq:Nat} {self:Code→gp→Option (eY×gp)} (hs:A6 E n aq self) {c:Code} {s:gp} {x:eY} {s':gp}
  (h:IJ E call aq self c s=some (x,s')) (wf:cz s.h) (cu:E.ej≤s.h.n):Nr E (n+1) aq c s x s':=by
 have none_:∀{x:eY},some (x,s)=some (x,s')→s'=s:=fun e=>by injection e with e;injection e with _ e;exact e.symm
 unfold IJ at h
 split at h
 ·
  simp only [bx,bG] at h;obtain ⟨rfl,rfl⟩:=h
  exact ⟨[],by simp,cX.refl ..,wf,fun base φ w a h hf=>wp_skip ⟨φ,Out.refl [] h.rel,rfl,h.hH,h.iT⟩⟩
 ·
  simp only [bx,bG] at h;obtain ⟨rfl,rfl⟩:=h
  exact ⟨[],by simp,cX.refl ..,wf,fun base φ w a h hf=>wp_label ⟨φ,Out.refl [] h.rel,rfl,h.hH,h.iT⟩⟩
 ·
  rename_i id ops draw
  cases draw with
  |false=>
   have seq:∀(p:Option Value),An E call aq ops false s=some (p,s')→∃ W,s'.w=s.w++W∧cX W s.h s'.h∧cz s'.h∧∀(base:Nat) (φ:bA) (w:World) (a:Act),sj E base φ w aq s a→fW φ s.h.n s'.h.n→
     (Code.region id ops false).wp E.P (Post E base φ w aq s.h W (match p with |none=>.normal |some v=>.panic v) s') a w:=by
    intro p hp
    simp only [An,cond_false] at hp
    obtain ⟨W,h1,h2,h3,h4⟩:=Lp hS.ok hc aq ops ops.toList s s' p hp wf cu
    refine ⟨W,h1,h2,h3,fun base φ w a du hf=>wp_region ?_⟩
    have e:∀ Q,wpOps E.P ops Q (List.range ops.size)=wpList E.P ops Q ops.toList:=fun Q=>by
     have:=wpOps_eq_wpList (P:=E.P) (ops:=ops) (Q:=Q) ops.toList 0 (fun j=>by simp)
     rw [Array.length_toList] at this
     rw [List.range_eq_range',this]
    rw [e]
    exact h4 base φ w a du hf
   split at h
   ·rename_i s1 hr
    simp only [bx,bG] at h;obtain ⟨rfl,rfl⟩:=h
    exact seq none hr
   ·rename_i v s1 hr
    simp only [bx,bG] at h;obtain ⟨rfl,rfl⟩:=h
    exact seq (some v) hr
   ·cases h
  |true=>
   split at h
   ·rename_i s1 hr
    simp only [bx,bG] at h;obtain ⟨rfl,rfl⟩:=h
    exact hd aq id ops s s1 hr wf cu
   ·rename_i v s1 hr
    exfalso
    simp only [An,cond_true] at hr
    cases hro:qX ops with
    |false=>rw [hro] at hr;cases hr
    |true=>
     rw [hro] at hr
     simp only [cond_true] at hr
     split at hr
     ·rename_i s2 fs _
      cases hi:indep (Region.before ops) fs with
      |false=>rw [hi] at hr;cases hr
      |true=>rw [hi] at hr;simp at hr
     ·cases hr
   ·cases h
 ·
  rename_i c1 c2
  split at h
  ·rename_i s1 h1
   obtain ⟨W,hW,x1,fD,k1⟩:=hs _ _ _ _ h1 wf cu
   have j6:=x1.n
   obtain ⟨V,hV,au,kG,k2⟩:=hs _ _ _ _ h fD D
   have hn2:=au.n
   refine ⟨W++V,by rw [hV,hW];simp,x1.trans au,kG,fun base φ w a du hf=>wp_seq (wp_mono (k1 base φ w a du (hf.first hn2)).wp fun e a1 w1 hp=>?_)⟩
   obtain ⟨e4,b6,he,ht,er⟩:=hp
   have he:e=.normal:=he
   subst he
   exact wp_mono (k2 base e4 w1 a1 ⟨b6.rel,ht,er⟩ (hf.next b6 j6)).wp fun e a2 w2 hp=>Post.glue x1 au b6 hf hp
  ·rename_i r hne
   have hx:x≠.normal:=fun e=>by subst e;exact hne _ h
   obtain ⟨W,hW,x1,fD,k1⟩:=hs _ _ _ _ h wf cu
   refine ⟨W,hW,x1,fD,fun base φ w a du hf=>wp_seq (wp_mono (k1 base φ w a du hf).wp fun e a1 w1 hp=>?_)⟩
   obtain ⟨e4,b6,he,ht,er⟩:=hp
   have:e≠.normal:=fun e'=>by
    subst e'
    cases x with
    |normal=>exact hx rfl
    |panic v=>obtain ⟨u,hu,_⟩:=he;cases hu
    |_=>cases he
   cases e <;> first
    |exact absurd rfl this
    |exact ⟨e4,b6,he,ht,er⟩
 ·
  rename_i c1 a1 b1
  split at h
  ·rename_i hb
   obtain ⟨W,hW,x1,fD,k1⟩:=hs _ _ _ _ h wf cu
   refine ⟨W,hW,x1,fD,fun base φ w a du hf=>wp_cond_true ?_ (k1 base φ w a du hf).wp⟩
   exact (du.hH.ev (H:=s.h) (w:=w) du.rel.iL c1 _ hb).ow rfl
  ·rename_i hb
   obtain ⟨W,hW,x1,fD,k1⟩:=hs _ _ _ _ h wf cu
   refine ⟨W,hW,x1,fD,fun base φ w a du hf=>wp_cond_false ?_ (k1 base φ w a du hf).wp⟩
   exact (du.hH.ev (H:=s.h) (w:=w) du.rel.iL c1 _ hb).ow rfl
  ·cases h
 ·
  rename_i id c1
  split at h
  ·rename_i id' s1 h1
   obtain ⟨W,hW,x1,fD,k1⟩:=hs _ _ _ _ h1 wf cu
   by_cases hid:id'=id
   ·rw [l7 hid] at h
    simp only [cond_true,bx,bG] at h;obtain ⟨rfl,rfl⟩:=h
    refine ⟨W,hW,x1,fD,fun base φ w a du hf=>wp_block (wp_mono (k1 base φ w a du hf).wp fun e a1 w1 hp=>?_)⟩
    obtain ⟨e4,b6,he,ht,er⟩:=hp
    have he:e=.exit id':=he
    subst he
    simp only [Exit.inBlock,hid,if_true]
    exact ⟨e4,b6,rfl,ht,er⟩
   ·rw [iz hid] at h
    simp only [cond_false,bx,bG] at h;obtain ⟨rfl,rfl⟩:=h
    refine ⟨W,hW,x1,fD,fun base φ w a du hf=>wp_block (wp_mono (k1 base φ w a du hf).wp fun e a1 w1 hp=>?_)⟩
    obtain ⟨e4,b6,he,ht,er⟩:=hp
    have he:e=.exit id':=he
    subst he
    simp only [Exit.inBlock,hid,if_false]
    exact ⟨e4,b6,rfl,ht,er⟩
  ·rename_i r hne
   obtain ⟨W,hW,x1,fD,k1⟩:=hs _ _ _ _ h wf cu
   refine ⟨W,hW,x1,fD,fun base φ w a du hf=>wp_block (wp_mono (k1 base φ w a du hf).wp fun e a1 w1 hp=>?_)⟩
   obtain ⟨e4,b6,he,ht,er⟩:=hp
   cases e with
   |exit id'=>
    exfalso
    cases x with
    |exit id2=>exact hne id2 s' h
    |panic v=>obtain ⟨u,hu,_⟩:=he;cases hu
    |_=>cases he
   |_=>exact ⟨e4,b6,he,ht,er⟩
 ·
  rename_i c1
  split at h
  ·rename_i s1 h1
   obtain ⟨W,hW,x1,fD,k1⟩:=hs _ _ _ _ h1 wf cu
   have j6:=x1.n
   obtain ⟨V,hV,au,kG,k2⟩:=hs _ _ _ _ h fD D
   have hn2:=au.n
   refine ⟨W++V,by rw [hV,hW];simp,x1.trans au,kG,fun base φ w a du hf=>?_⟩
   show Code.rounds E.P c1 _ (n+1) a w
   rw [rounds_succ]
   refine wp_mono (k1 base φ w a du (hf.first hn2)).wp fun e a1 w1 hp=>?_
   obtain ⟨e4,b6,he,ht,er⟩:=hp
   have he:e=.normal:=he
   subst he
   have:=k2 base e4 w1 a1 ⟨b6.rel,ht,er⟩ (hf.next b6 j6)
   exact GU (fun e a2 w2 hp=>Post.glue x1 au b6 hf hp) n a1 w1 this
  ·rename_i r hne
   have hx:x≠.normal:=fun e=>by subst e;exact hne _ h
   obtain ⟨W,hW,x1,fD,k1⟩:=hs _ _ _ _ h wf cu
   refine ⟨W,hW,x1,fD,fun base φ w a du hf=>?_⟩
   show Code.rounds E.P c1 _ (n+1) a w
   rw [rounds_succ]
   refine wp_mono (k1 base φ w a du hf).wp fun e a1 w1 hp=>?_
   obtain ⟨e4,b6,he,ht,er⟩:=hp
   have:e≠.normal:=fun e'=>by
    subst e'
    cases x with
    |normal=>exact hx rfl
    |panic v=>obtain ⟨u,hu,_⟩:=he;cases hu
    |_=>cases he
   cases e <;> first
    |exact absurd rfl this
    |exact ⟨e4,b6,he,ht,er⟩
 ·
  simp only [bx,bG] at h;obtain ⟨rfl,rfl⟩:=h
  exact ⟨[],by simp,cX.refl ..,wf,fun base φ w a h hf=>wp_exit ⟨φ,Out.refl [] h.rel,rfl,h.hH,h.iT⟩⟩
 ·
  simp only [bx,bG] at h;obtain ⟨rfl,rfl⟩:=h
  exact ⟨[],by simp,cX.refl ..,wf,fun base φ w a h hf=>wp_goto ⟨φ,Out.refl [] h.rel,rfl,h.hH,h.iT⟩⟩
 ·
  simp only [bx,bG] at h;obtain ⟨rfl,rfl⟩:=h
  exact ⟨[],by simp,cX.refl ..,wf,fun base φ w a h hf=>wp_ret ⟨φ,Out.refl [] h.rel,rfl,h.hH,h.iT⟩⟩
 ·cases h
end
theorem Co {P:Program} {fn:Func} {tm:Array Value} {R R':Ending→World→Prop} (hr:∀ e w,R e w→R' e w):∀(ds:List Deferred) (u:FrameMode) (w:World),Leaves P fn tm R ds u w→Leaves P fn tm R' ds u w
 |[],u,w,h=>by
  cases u with
  |run=>exact h.elim
  |returning=>obtain ⟨v,h1,h2⟩:=h;exact ⟨v,h1,hr _ _ h2⟩
  |panicking c=>exact hr _ _ h
 |d::ds,u,w,h=>by
  obtain ⟨h1,fv,cap,f,args,h2,h3,h4⟩:=h
  refine ⟨h1,fv,cap,f,args,h2,h3,h4.mono fun e u' w' h=>?_⟩
  cases e with
  |returned v=>exact Co hr ds _ _ h
  |panicked c=>exact Co hr ds _ _ h
  |outgrown=>exact hr _ _ h
theorem nJ.glue {E:Env} {base:Nat} {φ e4:bA} {w w1:World} {H H1 H2:U} {W V:List Nat} {r:mX} {e:Ending} {w2:World} (x1:cX W H H1) (au:cX V H1 H2)
  (b6:Out E base φ w H H1 W e4 w1) (hf:fW φ H.n H2.n) (h:nJ E base e4 w1 H1 H2 V r e w2):nJ E base φ w H H2 (W++V) r e w2:=by
 obtain ⟨o8,h1,h2⟩:=h
 exact ⟨o8,b6.trans x1 au h1 hf,h2⟩
theorem pX.mono {φ ψ:bA} (h:∀ i l,φ i=some l→ψ i=some l) {m:Option Value} {u:FrameMode} (hm:pX φ m u):pX ψ m u:=by
 cases m with
 |none=>exact hm
 |some v=>obtain ⟨x,h1,h2⟩:=hm;exact ⟨x,h1,h2.mono h⟩
theorem pX.ne {φ:bA} {m:Option Value} {u:FrameMode} (hm:pX φ m u):u≠.run:=by
 cases m with
 |none=>have:u=.returning:=hm;rw [this];exact fun h=>by cases h
 |some v=>obtain ⟨x,h1,h2⟩:=hm;rw [h1];exact fun h=>by cases h
theorem pX.settle {φ:bA} {m:Option Value} {u:FrameMode} (hm:pX φ m u):pX φ m (Go.settle u):=by
 cases m with
 |none=>have:u=.returning:=hm;rw [this];rfl
 |some v=>obtain ⟨x,h1,h2⟩:=hm;rw [h1];exact ⟨x,rfl,h2⟩
section
variable {E:Env}
theorem KC (hS:Sound E) {n aq:Nat} {code:Nat→Code→gp→Option (eY×gp)} (vA:∀ aq,A6 E n aq (code aq)) (fn:Func) (T:b5):∀(ds:List (Value×List Value)) (m:Option Value) (H:U) (w0:List Nat) (r:mX) (H':U) (W':List Nat),
  qM E code fn T ds m H w0=some (r,H',W')→cz H→E.ej≤H.n→∃ W,W'=w0++W∧cX W H H'∧cz H'∧∀(base:Nat) (φ:bA) (w:World) (tm:Array Value) (es:List Deferred) (u:FrameMode),
   Rel E base H φ w→fW φ H.n H'.n→g6 φ T tm aq→jG φ ds es→pX φ m u→Leaves E.P fn tm (nJ E base φ w H H' W r) es u w
 |[],none,H,w0,r,H',W',h,wf,cu=>by
  simp only [qM] at h
  split at h
  ·rename_i v hv
   simp only [bx,bG] at h;obtain ⟨rfl,rfl,rfl⟩:=h
   refine ⟨[],by simp,cX.refl ..,wf,fun base φ w tm es u cC hf ht hd hm=>?_⟩
   cases hd
   have:u=.returning:=hm
   subst this
   obtain ⟨x,hx,hr⟩:=L4 hS.ok (s:=⟨T,H,[],[]⟩) wf cC ht hv
   exact ⟨x,hr,φ,Out.refl [] cC,x,rfl,hx⟩
  ·cases h
 |[],some v,H,w0,r,H',W',h,wf,cu=>by
  simp only [qM,bx,bG] at h;obtain ⟨rfl,rfl,rfl⟩:=h
  refine ⟨[],by simp,cX.refl ..,wf,fun base φ w tm es u cC hf ht hd hm=>?_⟩
  cases hd
  obtain ⟨x,hu,hx⟩:=hm
  subst hu
  exact ⟨φ,Out.refl [] cC,x,rfl,hx⟩
 |(f,args)::ds,m,H,w0,r,H',W',h,wf,cu=>by
  simp only [qM] at h
  split at h
  rotate_left
  ·cases h
  rename_i g a b
  have inv:∀(φ:bA) (es:List Deferred),jG φ ((.func (.func g) a b,args)::ds) es→∃ a' b' args' es',es={ target:=.fn (.func g) b',args:=a'++args'.toArray }::es'∧eb φ (a.toList++args++b.toList) (a'.toList++args'++b'.toList)∧jG φ ds es':=by
   intro φ es hd
   cases hd with
   |cons _ _ _ a' b' _ args' _ es' h1 h2 h3 h4=>exact ⟨a',b',args',es',rfl,(h1.toList.append h3).append h2.toList,h4⟩
  have inv2:∀(a' b':Array Value) (args':List Value) (w:World),(invoke (.fn (.func g) b') (a'++args'.toArray)).run E.P w=(callFunc g (a'.toList++args'++b'.toList).toArray).run E.P w:=by
   intro a' b' args' w
   simp only [invoke]
   congr 2
   apply Array.ext'
   simp
  split at h
  ·
   rename_i p hp
   split at h
   ·rename_i m1 H1 Uv BS
    obtain ⟨d1,d2⟩:=hS.zn _ _ hp
    obtain ⟨x1,fD,k1⟩:=d2 _ _ _ _ _ _ BS wf cu
    have j6:=x1.n
    obtain ⟨W,hW,au,kG,k2⟩:=KC hS vA fn T ds m1 H1 _ r H' W' h fD D
    have hn2:=au.n
    refine ⟨Uv++W,by rw [hW];simp,x1.trans au,kG,fun base φ w tm es u cC hf ht hd hm=>?_⟩
    obtain ⟨a',b',args',es',rfl,hl,hd'⟩:=inv φ es hd
    refine leaves_cons hm.ne ((inv2 a' b' args' w).trans (d1 _ w)) ((k1 base φ w _ u cC (hf.first hn2) hl hm).mono fun e u' w' he=>?_)
    obtain ⟨⟨v,rfl⟩,aU,b6,hm'⟩:=he
    have hsub:=b6.sub (hf.first hn2)
    exact Co (fun e w h=>nJ.glue x1 au b6 hf h) _ _ _ (k2 base aU w' tm es' _ b6.rel (hf.next b6 j6) (ht.mono hsub) (hd'.mono hsub) hm')
   ·cases h
  ·split at h
   ·rename_i fn' hfn
    split at h
    ·rename_i c hb
     cases hle:Nat.ble (a.toList++args++b.toList).length fn'.ntmps with
     |false=>rw [hle] at h;cases h
     |true=>
      rw [hle] at h
      simp only [cond_true] at h
      have hle':=Nat.le_of_ble_eq_true hle
      have main:∀(x:eY) (s:gp),(x=.normal∨x=.ret)→code fn'.ntmps c ⟨mj (a.toList++args++b.toList) 0 .nil,H,[],[]⟩=some (x,s)→∀(v:Value),s.d=[]→rZ E fn' s=some v→qM E code fn T ds m s.h (w0++s.w)=some (r,H',W')→
        ∃ W,W'=w0++W∧cX W H H'∧cz H'∧∀(base:Nat) (φ:bA) (w:World) (tm:Array Value) (es:List Deferred) (u:FrameMode),
         Rel E base H φ w→fW φ H.n H'.n→g6 φ T tm aq→jG φ ((.func (.func g) a b,args)::ds) es→pX φ m u→Leaves E.P fn tm (nJ E base φ w H H' W r) es u w:=by
       intro x s hx hrun v BW hres ni
       obtain ⟨V,hV,x1,fD,k1⟩:=vA fn'.ntmps _ _ _ _ hrun wf cu
       have x1:cX V H s.h:=x1
       have hV:s.w=V:=by rw [hV];simp
       have j6:=x1.n
       obtain ⟨W,hW,au,kG,k2⟩:=KC hS vA fn T ds m s.h _ r H' W' ni fD D
       have hn2:=au.n
       refine ⟨V++W,by rw [hW,hV];simp,x1.trans au,kG,fun base φ w tm es u cC hf ht hd hm=>?_⟩
       obtain ⟨a',b',args',es',rfl,hl,hd'⟩:=inv φ es hd
       refine leaves_cons hm.ne ((inv2 a' b' args' w).trans (SF hS hfn hb _ w)) ?_
       have hwp:=(k1 base φ w { tmps:=(a'.toList++args'++b'.toList).toArray++Array.replicate (fn'.ntmps-(a'.toList++args'++b'.toList).toArray.size) undef,defers:=[] } ⟨cC,Mw hl hle',.nil⟩ (hf.first hn2)).wp
       refine (callsD_of_wp (R:=fun e w'=>(∃ v,e=.returned v)∧∃ aU,Out E base φ w H s.h V aU w') (hS.ok.func _ _ hfn) hb (wp_mono hwp fun e a1 w1 hp=>?_)).mono fun e u' w' he=>?_
       ·obtain ⟨aU,b6,he,oB,er⟩:=hp
        have b6:Out E base φ w H s.h V aU w1:=b6
        rw [BW] at er
        have er:a1.defers=[]:=by cases YY:a1.defers with |nil=>rfl |cons _ _=>rw [YY] at er;cases er
        obtain ⟨y,hy,BV⟩:=L4 hS.ok fD b6.rel oB hres
        rcases hx with rfl |rfl
        ·have he:e=.normal:=he
         subst he
         exact ⟨er,y,BV,⟨y,rfl⟩,aU,b6⟩
        ·have he:e=.ret:=he
         subst he
         exact ⟨er,y,BV,⟨y,rfl⟩,aU,b6⟩
       ·obtain ⟨rfl,⟨y,rfl⟩,aU,b6⟩:=he
        have hsub:=b6.sub (hf.first hn2)
        exact Co (fun e w h=>nJ.glue x1 au b6 hf h) _ _ _ (k2 base aU w' tm es' _ b6.rel (hf.next b6 j6) (ht.mono hsub) (hd'.mono hsub) (hm.mono hsub).settle)
      split at h
      ·rename_i s hrun
       split at h
       ·rename_i v BW hres;exact main _ _ (.inl rfl) hrun v BW hres h
       ·cases h
      ·rename_i s hrun
       split at h
       ·rename_i v BW hres;exact main _ _ (.inr rfl) hrun v BW hres h
       ·cases h
      ·cases h
    ·cases h
   ·cases h
theorem Oc (hS:Sound E) {n:Nat} {code:Nat→Code→gp→Option (eY×gp)} (vA:∀ aq,A6 E n aq (code aq)):mZ E (En E code):=by
 intro g args H r H' W h wf cu
 unfold En at h
 split at h
 ·rename_i p hp
  exact hS.x5 _ _ hp _ _ _ _ _ h wf cu
 ·split at h
  ·rename_i fn hfn
   split at h
   ·rename_i c hb
    cases hle:Nat.ble args.length fn.ntmps with
    |false=>rw [hle] at h;cases h
    |true=>
     rw [hle] at h
     simp only [cond_true] at h
     have hle':=Nat.le_of_ble_eq_true hle
     have main:∀(x:eY) (s:gp) (m:Option Value),((x=.normal∨x=.ret)∧m=none∨∃ v,x=.panic v∧m=some v)→code fn.ntmps c ⟨mj args 0 .nil,H,[],[]⟩=some (x,s)→
       qM E code fn s.t s.d m s.h s.w=some (r,H',W)→tx E g args H r H' W:=by
      intro x s m hx hrun hl
      obtain ⟨V,hV,x1,fD,k1⟩:=vA fn.ntmps _ _ _ _ hrun wf cu
      have x1:cX V H s.h:=x1
      have hV:s.w=V:=by rw [hV];simp
      have j6:=x1.n
      obtain ⟨jW,hW,au,kG,k2⟩:=KC hS vA (aq:=fn.ntmps) fn s.t s.d m s.h _ r H' W hl fD D
      have hn2:=au.n
      rw [hV] at hW
      subst hW
      refine ⟨x1.trans au,kG,fun base φ w args' cC hf hlr=>.inl ⟨SF hS hfn hb _ w,calls_of_wp_defers (hS.ok.func _ _ hfn) hb ?_⟩⟩
      refine wp_mono (k1 base φ w { tmps:=args'.toArray++Array.replicate (fn.ntmps-args'.toArray.size) undef,defers:=[] } ⟨cC,Mw hlr hle',.nil⟩ (hf.first hn2)).wp fun e a1 w1 hp=>?_
      obtain ⟨aU,b6,he,oB,er⟩:=hp
      have b6:Out E base φ w H s.h V aU w1:=b6
      have key:∀ u,pX aU m u→Leaves E.P fn a1.tmps (nJ E base φ w H H' (V++jW) r) a1.defers u w1:=fun u hu=>
       Co (fun e w h=>nJ.glue x1 au b6 hf h) _ _ _ (k2 base aU w1 a1.tmps a1.defers u b6.rel (hf.next b6 j6) oB er hu)
      rcases hx with ⟨rfl |rfl,rfl⟩ |⟨v,rfl,rfl⟩
      ·have he:e=.normal:=he
       subst he
       exact key _ rfl
      ·have he:e=.ret:=he
       subst he
       exact key _ rfl
      ·obtain ⟨u,rfl,i7⟩:=he
       exact key _ ⟨u,rfl,i7⟩
     split at h
     ·rename_i s hrun;exact main _ _ none (.inl ⟨.inl rfl,rfl⟩) hrun h
     ·rename_i s hrun;exact main _ _ none (.inl ⟨.inr rfl,rfl⟩) hrun h
     ·rename_i v s hrun;exact main _ _ (some v) (.inr ⟨v,rfl,rfl⟩) hrun h
     ·cases h
   ·cases h
  ·cases h
theorem Pa (hS:Sound E) (hd:∀ call,mZ E call→HZ E call):∀ f:Nat,(∀ aq,A6 E f aq (exec E f aq))∧mZ E (rg E f)
 |0=>⟨fun aq c s x s' h=>by simp [exec] at h,fun g args H r H' W h=>by simp [rg] at h⟩
 |f+1=>by
  obtain ⟨h1,h2⟩:=Pa hS hd f
  refine ⟨fun aq c s x s' h wf cu=>?_,fun g args H r H' W h wf cu=>?_⟩
  ·simp only [exec] at h
   exact WD hS h2 (hd _ h2) (h1 aq) h wf cu
  ·simp only [rg] at h
   exact Oc hS h1 _ _ _ _ _ _ h wf cu
end
theorem KX {a b:Nat} (h:a<b):Nat.blt a b=true:=by rw [Nat.blt_eq];exact h
theorem adq {a b:Nat} (h:¬ a<b):Nat.blt a b=false:=by
 cases hb:Nat.blt a b with
 |false=>rfl
 |true=>rw [Nat.blt_eq] at hb;exact (h hb).elim
def kg (S:Nat→Bool) (g5:Nat→Bool):Nat→Nat
 |0=>0
 |n+1=>if S n=true∧g5 n=true then n+1 else kg S g5 n
theorem Mv (S g5:Nat→Bool):∀ n,kg S g5 n≤n
 |0=>Nat.le_refl 0
 |n+1=>by
  simp only [kg]
  split
  ·exact Nat.le_refl _
  ·exact Nat.le_succ_of_le (Mv S g5 n)
theorem yb (S g5:Nat→Bool):∀ n k,k<n→S k=true→g5 k=true→k+1≤kg S g5 n
 |0,k,h,_,_=>by omega
 |n+1,k,h,hs,ht=>by
  simp only [kg]
  split
  ·omega
  ·rename_i hn
   rcases Nat.lt_or_ge k n with h1 |h1
   ·exact yb S g5 n k h1 hs ht
   ·have:k=n:=by omega
    subst this
    exact (hn ⟨hs,ht⟩).elim
theorem AG (S g5:Nat→Bool):∀ n,kg S g5 n=0∨∃ k,k<n∧kg S g5 n=k+1∧S k=true∧g5 k=true
 |0=>.inl rfl
 |n+1=>by
  simp only [kg]
  split
  ·rename_i h;exact .inr ⟨n,by omega,rfl,h.1,h.2⟩
  ·rcases AG S g5 n with h |⟨k,h1,h2⟩
   ·exact .inl h
   ·exact .inr ⟨k,by omega,h2⟩
theorem Tr {S g5:Nat→Bool} {n m:Nat} (h:m=0∨∃ k,k<n∧m=k+1∧S k=true∧g5 k=true) (hk:∀ k,k<n→S k=true→g5 k=true→k+1≤m):kg S g5 n=m:=by
 have h1:kg S g5 n≤m:=by
  rcases AG S g5 n with h0 |⟨k,zB,hk2,BO,BP⟩
  ·omega
  ·rw [hk2];exact hk k zB BO BP
 have h2:m≤kg S g5 n:=by
  rcases h with h0 |⟨k,zB,hk2,BO,BP⟩
  ·omega
  ·rw [hk2];exact yb S g5 n k zB BO BP
 omega
theorem Tt {S S' g5:Nat→Bool} {n j:Nat} (hS:∀ k,k<n→(S' k=true↔(S k=true∨k=j))) (hj:g5 j=false):kg S' g5 n=kg S g5 n:=by
 refine Tr ?_ fun k hk h1 h2=>?_
 ·rcases AG S g5 n with h0 |⟨k,zB,hk2,BO,BP⟩
  ·exact .inl h0
  ·exact .inr ⟨k,zB,hk2,(hS k zB).2 (.inl BO),BP⟩
 ·rcases (hS k hk).1 h1 with h3 |h3
  ·exact yb S g5 n k hk h3 h2
  ·subst h3;rw [hj] at h2;cases h2
theorem Ts {S S' g5:Nat→Bool} {n j:Nat} (hS:∀ k,k<n→(S' k=true↔(S k=true∨k=j))) (hjn:j<n) (hj:g5 j=true) (hk:∀ k,j<k→k<n→S k=true→g5 k=false):kg S' g5 n=j+1:=by
 refine Tr (.inr ⟨j,hjn,rfl,(hS j hjn).2 (.inr rfl),hj⟩) fun k hkn h1 h2=>?_
 rcases Nat.lt_or_ge j k with h3 |h3
 ·rcases (hS k hkn).1 h1 with h4 |h4
  ·rw [hk k h3 hkn h4] at h2;cases h2
  ·omega
 ·omega
structure qy (E:Env) (base:Nat) (C:Nat→Option df) (φ:bA) (w:World):Prop where
 bs:base≤w.heap.size
 blocks:∀ i l o,φ i=some l→C i=some o→mw E base φ w l o
 lt:∀ i l,φ i=some l→live (C i)=true→l.cD<w.heap.size
 inj:∀ i j l m,i≠j→φ i=some l→φ j=some m→fG (C i)=true→live (C j)=true→l.cD≠m.cD
 iL:∀ g,g<E.ej→∃ l,φ g=some l∧l.cD=g∧l.off=0
theorem cz.live {H:U} (wf:cz H) {i:Nat} (h:live (H.get i)=true):i<H.n:=by
 cases hg:H.get i with
 |none=>rw [hg] at h;cases h
 |some o=>exact wf.lt hg
theorem qy.of {E:Env} {base:Nat} {H:U} {φ:bA} {w:World} (wf:cz H) (h:Rel E base H φ w):qy E base H.get φ w:=
 ⟨h.bs,fun i l o hl ho=>h.blocks i l o (wf.lt ho) hl ho,fun i l hl hv=>h.lt i l (wf.live hv) hl hv,
  fun i j l m hij hl hm hi hj=>h.inj i j l m (wf.live (rN hi)) (wf.live hj) hij hl hm hi hj,h.iL⟩
theorem qy.rel {E:Env} {base:Nat} {H:U} {C:Nat→Option df} {φ:bA} {w:World} (h:qy E base C φ w) (hc:∀ i,i<H.n→φ i≠none→C i=H.get i):Rel E base H φ w:=
 ⟨h.bs,fun i l o hi hl ho=>h.blocks i l o hl (by rw [hc i hi (by rw [hl];simp)];exact ho),fun i l hi hl hv=>h.lt i l hl (by rw [hc i hi (by rw [hl];simp)];exact hv),
  fun i j l m hi hj hij hl hm hw hv=>h.inj i j l m hij hl hm (by rw [hc i hi (by rw [hl];simp)];exact hw) (by rw [hc j hj (by rw [hm];simp)];exact hv),h.iL⟩
theorem qy.pre {E:Env} {base:Nat} {H:U} {C:Nat→Option df} {φ:bA} {w:World} {R:List Nat} (wf:cz H) (h:qy E base C φ w) (hc:∀ i,i∈R→i<H.n→φ i≠none→C i=H.get i):Pre E base φ w H R:=
 ⟨h.bs,fun i hi l o hl ho=>h.blocks i l o hl (by rw [hc i hi (wf.lt ho) (by rw [hl];simp)];exact ho),
  fun i hi l hl hv=>h.lt i l hl (by rw [hc i hi (wf.live hv) (by rw [hl];simp)];exact hv),h.iL⟩
theorem qy.step {E:Env} {base:Nat} {H H':U} {C yK:Nat→Option df} {φ aU:bA} {w w':World} {W:List Nat} (cu:E.ej≤H.n) (h:qy E base C φ w) (k:eV E base φ w H H' W aU w') (hn:H.n≤H'.n)
  (hf:fW φ H.n H'.n) (hW:∀ i,i∈W→φ i≠none→C i=H.get i) (h1:∀ i,(i∈W∨(H.n≤i∧i<H'.n))→yK i=H'.get i) (h2:∀ i,i∉W→¬ (H.n≤i∧i<H'.n)→yK i=C i)
  (qG:∀ i,i∈W→fG (H'.get i)=true→fG (H.get i)=true) (hlv:∀ i,i∈W→live (H'.get i)=true→live (H.get i)=true):qy E base yK aU w':=by
 have hsub:∀ i l,φ i=some l→aU i=some l:=by
  intro i l hi
  by_cases h1:i<H.n
  ·rw [k.ext i (.inl h1)];exact hi
  ·by_cases h2:H'.n≤i
   ·rw [k.ext i (.inr h2)];exact hi
   ·rw [hf i D D] at hi;cases hi
 have BJ:∀ i,¬ (H.n≤i∧i<H'.n)→aU i=φ i:=fun i hi=>k.ext i D
 have YK:∀ i,i∈W→i<H.n:=fun i hi=>(k.wr i hi).1
 have adS:∀ i,¬ (H.n≤i∧i<H'.n)→φ i≠none→fG (yK i)=true→fG (C i)=true:=by
  intro i hi hm hl
  by_cases hw:i∈W
  ·rw [h1 i (.inl hw)] at hl
   rw [hW i hw hm]
   exact qG i hw hl
  ·rw [h2 i hw hi] at hl;exact hl
 have Lm:∀ i,¬ (H.n≤i∧i<H'.n)→φ i≠none→live (yK i)=true→live (C i)=true:=by
  intro i hi hm hl
  by_cases hw:i∈W
  ·rw [h1 i (.inl hw)] at hl
   rw [hW i hw hm]
   exact hlv i hw hl
  ·rw [h2 i hw hi] at hl;exact hl
 refine ⟨Nat.le_trans h.bs k.step.size,fun i l o hl ho=>?_,fun i l hl hv=>?_,fun i j l m hij hl hm hw hv=>?_,fun g hg=>?_⟩
 ·by_cases hc:i∈W∨(H.n≤i∧i<H'.n)
  ·rw [h1 i hc] at ho
   exact k.blocks i l o (hc.imp id (·.1)) (hc.elim (fun h=>Nat.lt_of_lt_of_le (YK i h) hn) (·.2)) hl ho
  ·have E1:i∉W:=fun h=>hc (.inl h)
   have vz:¬ (H.n≤i∧i<H'.n):=fun h=>hc (.inr h)
   rw [BJ i vz] at hl
   rw [h2 i E1 vz] at ho
   by_cases zC:live (C i)=true
   ·have hb:=h.blocks i l o hl ho
    refine (hb.mono hsub).same (k.step.keep l.cD (h.lt i l hl zC) fun j hj m hm he=>?_)
    obtain ⟨hjn,E7⟩:=k.wr j hj
    rw [← hW j hj (by rw [hm];simp)] at E7
    exact h.inj j i m l (fun e=>E1 (e▸hj)) hm hl E7 zC he
   ·rw [ho] at zC
    unfold Am.live at zC
    split at zC
    ·rename_i heq;injection heq with heq;subst heq;intro j x hx;simp at hx
    ·rename_i heq;injection heq with heq;subst heq;trivial
    ·simp at zC
    ·rename_i heq;cases heq
 ·by_cases hc:H.n≤i∧i<H'.n
  ·rw [h1 i (.inr hc)] at hv
   exact k.lt i l hc.1 hc.2 hl hv
  ·rw [BJ i hc] at hl
   exact Nat.lt_of_lt_of_le (h.lt i l hl (Lm i hc (by rw [hl];simp) hv)) k.step.size
 ·by_cases hi:H.n≤i∧i<H'.n
  ·by_cases hj:H.n≤j∧j<H'.n
   ·rw [h1 i (.inr hi)] at hw
    rw [h1 j (.inr hj)] at hv
    exact k.inj i j l m hi.1 hi.2 hj.1 hj.2 hij hl hm hw hv
   ·rw [BJ j hj] at hm
    have xA:=Lm j hj (by rw [hm];simp) hv
    rcases k.fresh i l hi.1 hi.2 hl with hb |⟨q,hq,xT,BU,tQ,Jy,tZ,rp⟩
    ·have:=h.lt j m hm xA;omega
    ·have hne:q≠j:=fun e=>by
      subst e
      rw [h1 q (.inl hq)] at hv
      rw [hv] at rp;cases rp
     rw [← hW q hq (by rw [tQ];simp)] at tZ
     have:=h.inj q j xT m hne tQ hm tZ xA
     omega
  ·rw [BJ i hi] at hl
   have hw0:=adS i hi (by rw [hl];simp) hw
   by_cases hj:H.n≤j∧j<H'.n
   ·rcases k.fresh j m hj.1 hj.2 hm with hb |⟨q,hq,xT,BU,tQ,Jy,tZ,rp⟩
    ·have:=h.lt i l hl (rN hw0);omega
    ·have hne:q≠i:=fun e=>by
      subst e
      rw [h1 q (.inl hq)] at hw
      rw [rN hw] at rp;cases rp
     rw [← hW q hq (by rw [tQ];simp)] at tZ
     have:=h.inj q i xT l hne tQ hl tZ (rN hw0)
     omega
   ·rw [BJ j hj] at hm
    exact h.inj i j l m hij hl hm hw0 (Lm j hj (by rw [hm];simp) hv)
 ·obtain ⟨l,e1,e2⟩:=h.iL g hg
  exact ⟨l,hsub g l e1,e2⟩
theorem Out.Yd {E:Env} {base:Nat} {φ aU:bA} {w w':World} {H H':U} {W:List Nat} (hn:H.n≤H'.n) (hf:fW φ H.n H'.n) (h:Out E base φ w H H' W aU w') (hw:bZ H H' W=true) :
  eV E base φ w H H' (W.filter (Nat.blt · H.n)) aU w':=by
 have hw':∀ q,q∈W→if q<H.n then fG (H.get q)=true else q<H'.n:=by
  intro q hq
  unfold bZ at hw
  rw [List.all_eq_true] at hw
  have:=hw q hq
  split
  ·rename_i h1;rw [KX h1] at this;exact this
  ·rename_i h1;rw [adq h1] at this;simpa [Nat.blt_eq] using this
 have mem:∀ q,q∈W.filter (Nat.blt · H.n)↔q∈W∧q<H.n:=fun q=>by simp [List.mem_filter,Nat.blt_eq]
 refine ⟨fun j hj=>?_,h.ext,⟨h.step.os,h.step.tape,h.step.output,h.step.size,fun B hB hk=>h.step.keep B hB fun j hj l hl=>?_⟩,fun i l h1 h2 h3=>?_,fun i l o h1 h2 h3 h4=>h.rel.blocks i l o h2 h3 h4,fun i l h1 h2 h3 h4=>h.rel.lt i l h2 h3 h4,fun i j l m h1 h2 h3 h4 h5 h6 h7 h8 h9=>h.rel.inj i j l m h2 h4 h5 h6 h7 h8 h9⟩
 ·obtain ⟨h1,h2⟩:=(mem j).1 hj
  have:=hw' j h1
  rw [if_pos h2] at this
  exact ⟨h2,this⟩
 ·by_cases h1:j<H.n
  ·exact hk j ((mem j).2 ⟨hj,h1⟩) l hl
  ·have:=hw' j hj
   rw [if_neg h1] at this
   rw [hf j D this] at hl;cases hl
 ·rcases h.fresh i l h1 h2 h3 with hb |⟨j,hj,m,hjn,hr⟩
  ·exact .inl hb
  ·exact .inr ⟨j,(mem j).2 ⟨hj,hjn⟩,m,hjn,hr⟩
def sn (acc:Array Nat) (o:Oper):Nat:=o.after.foldl (fun s e=>if Region.binds .any e then s |||2 ^ e.on |||acc.getD e.on 0 else s) 0
theorem U3 (acc:Array Nat) (o:Oper) (i:Nat) (h:(sn acc o).testBit i=true):∃ e∈o.after,Region.binds .any e=true∧(i=e.on∨(acc.getD e.on 0).testBit i=true):=by
 unfold sn at h
 rw [← Array.foldl_toList] at h
 have key:∀(l:List Edge) (s:Nat),(l.foldl (fun s e=>if Region.binds .any e then s |||2 ^ e.on |||acc.getD e.on 0 else s) s).testBit i=true→s.testBit i=true∨∃ e∈l,Region.binds .any e=true∧(i=e.on∨(acc.getD e.on 0).testBit i=true):=by
  intro l
  induction l with
  |nil=>intro s h;exact .inl h
  |cons e l ih=>
   intro s h
   rw [List.foldl_cons] at h
   rcases ih _ h with h1 |⟨e',h1,h2⟩
   ·split at h1
    ·rename_i hb
     rw [Nat.testBit_or,Nat.testBit_or,Bool.or_eq_true,Bool.or_eq_true] at h1
     rcases h1 with (h1 |h1) |h1
     ·exact .inl h1
     ·exact .inr ⟨e,by simp,hb,.inl (by rw [Nat.testBit_two_pow] at h1;exact (of_decide_eq_true h1).symm)⟩
     ·exact .inr ⟨e,by simp,hb,.inr h1⟩
    ·exact .inl h1
   ·exact .inr ⟨e',List.mem_cons_of_mem _ h1,h2⟩
 rcases key _ _ h with h1 |⟨e,h1,h2⟩
 ·simp at h1
 ·exact ⟨e,by simpa using h1,h2⟩
theorem U4 (ops:Array Oper):(Region.before ops).size=ops.size∧∀(j:Nat) (o:Oper),ops[j]?=some o→∀ i,((Region.before ops).getD j 0).testBit i=true→∃ e∈o.after,Region.binds .any e=true∧(i=e.on∨(e.on<j∧((Region.before ops).getD e.on 0).testBit i=true)):=by
 have hb:Region.before ops=ops.toList.foldl (fun acc o=>acc.push (sn acc o)) #[]:=by
  unfold Region.before
  rw [← Array.foldl_toList]
  rfl
 rw [hb]
 have key:∀(l pre:List Oper) (acc:Array Nat),acc.size=pre.length→(∀(j:Nat) (o:Oper),pre[j]?=some o→∀ i,(acc.getD j 0).testBit i=true→∃ e∈o.after,Region.binds .any e=true∧(i=e.on∨(e.on<j∧(acc.getD e.on 0).testBit i=true)))→
   (l.foldl (fun acc o=>acc.push (sn acc o)) acc).size=(pre++l).length∧∀(j:Nat) (o:Oper),(pre++l)[j]?=some o→∀ i,((l.foldl (fun acc o=>acc.push (sn acc o)) acc).getD j 0).testBit i=true→∃ e∈o.after,Region.binds .any e=true∧(i=e.on∨(e.on<j∧((l.foldl (fun acc o=>acc.push (sn acc o)) acc).getD e.on 0).testBit i=true)):=by
  intro l
  induction l with
  |nil=>intro pre acc hs hp;simpa [hs] using hp
  |cons o l ih=>
   intro pre acc hs hp
   have:=ih (pre++[o]) (acc.push (sn acc o)) (by simp [hs]) (fun j p hj i hi=>?_)
   ·simpa [List.append_assoc] using this
   ·have lower:∀ k,k<acc.size→(acc.push (sn acc o)).getD k 0=acc.getD k 0:=fun k hk=>by
     rw [Array.getD_eq_getD_getElem?,Array.getD_eq_getD_getElem?,Array.getElem?_push,if_neg D]
    rcases Nat.lt_or_ge j pre.length with h1 |h1
    ·rw [List.getElem?_append_left h1] at hj
     rw [lower j D] at hi
     obtain ⟨e,h2,h3,h4⟩:=hp j p hj i hi
     refine ⟨e,h2,h3,h4.imp id fun h4=>⟨h4.1,?_⟩⟩
     rw [lower _ D];exact h4.2
    ·have hj0:j=pre.length:=by
      have:=(List.getElem?_eq_some_iff.1 hj).1
      simp at this;omega
     subst hj0
     rw [List.getElem?_append_right (Nat.le_refl _)] at hj
     simp at hj
     subst hj
     have e1:(acc.push (sn acc o)).getD pre.length 0=sn acc o:=by
      rw [← hs,Array.getD_eq_getD_getElem?];simp
     rw [e1] at hi
     obtain ⟨e,h2,h3,h4⟩:=U3 acc o i hi
     refine ⟨e,h2,h3,h4.imp id fun h4=>?_⟩
     have hlt:e.on<acc.size:=by
      rcases Nat.lt_or_ge e.on acc.size with h5 |h5
      ·exact h5
      ·rw [Array.getD_eq_getD_getElem?,Array.getElem?_eq_none h5] at h4;simp at h4
     exact ⟨by omega,by rw [lower _ hlt];exact h4⟩
 have:=key ops.toList [] #[] rfl (fun j o h=>by simp at h)
 simpa using this
def Nq (ops:Array Oper) (S:Nat→Bool):Prop:=∀(j:Nat) (o:Oper),ops[j]?=some o→S j=true→∀ e∈o.after,Region.binds .any e=true→S e.on=true
theorem IG {ops:Array Oper} {S:Nat→Bool} (hc:Nq ops S):∀(n j:Nat) (o:Oper),j<n→ops[j]?=some o→(∀ e∈o.after,Region.binds .any e=true→S e.on=true)→∀ i,((Region.before ops).getD j 0).testBit i=true→S i=true
 |0,j,o,h,_,_,_,_=>by omega
 |n+1,j,o,hn,ho,he,i,hi=>by
  obtain ⟨e,h1,h2,h3⟩:=(U4 ops).2 j o ho i hi
  rcases h3 with rfl |⟨h3,h4⟩
  ·exact he e h1 h2
  ·have hs:S e.on=true:=he e h1 h2
   have hj:=(Array.getElem?_eq_some_iff.1 ho).1
   have hlt:e.on<ops.size:=by omega
   exact IG hc n e.on ops[e.on] D (by simp [hlt]) (fun e' h5 h6=>hc e.on _ (by simp [hlt]) hs e' h5 h6) i h4
def q6 (n:Nat) (listed:Array Bool):Nat:=(List.range n).countP fun i=>!listed.getD i true
theorem countP_le {p q:Nat→Bool}:∀(l:List Nat),(∀ x∈l,q x=true→p x=true)→l.countP q≤l.countP p
 |[],_=>Nat.le_refl _
 |x::l,h=>by
  have ih:=countP_le l (fun y hy=>h y (List.mem_cons_of_mem _ hy))
  rw [List.countP_cons,List.countP_cons]
  have:=h x (by simp)
  split <;> split <;> first
   |omega
   |(rename_i h1 h2;exact (h2 (this h1)).elim)
theorem Ox {p q:Nat→Bool} {y:Nat} (hp:p y=true) (hq:q y=false):∀(l:List Nat),(∀ x∈l,q x=true→p x=true)→y∈l→l.countP q<l.countP p
 |[],_,h=>by cases h
 |x::l,h,hy=>by
  have hx:=h x (by simp)
  have hl:=fun y hy=>h y (List.mem_cons_of_mem _ hy)
  rw [List.countP_cons,List.countP_cons]
  rcases List.mem_cons.1 hy with e |hy
  ·subst e
   have:=countP_le l hl
   rw [hp,hq];simp;omega
  ·have:=Ox hp hq l hl hy
   split <;> split <;> first
    |omega
    |(rename_i h1 h2;exact (h2 (hx h1)).elim)
theorem mem_ready {md:Region.Mode} {ops:Array Oper} {listed:Array Bool} {i:Nat}:i∈Region.ready md ops listed↔∃ o,ops[i]?=some o∧listed.getD i true=false∧∀ e∈o.after,Region.binds md e=true→listed.getD e.on false=true:=by
 unfold Region.ready
 rw [List.mem_filter,List.mem_range]
 constructor
 ·intro ⟨h1,h2⟩
  refine ⟨ops[i],by simp [h1],?_⟩
  rw [dI] at h2
  refine ⟨by simpa using h2.1,fun e he hb=>?_⟩
  have h3:=h2.2
  simp only [Array.getElem?_eq_getElem h1,Option.map_some,Option.getD_some,Array.all_eq_true_iff_forall_mem] at h3
  have:=h3 e he
  rw [hb] at this
  simpa using this
 ·intro ⟨o,h1,h2,h3⟩
  have hi:=(Array.getElem?_eq_some_iff.1 h1).1
  refine ⟨hi,?_⟩
  rw [h2,h1]
  simp only [Bool.not_false,Option.map_some,Option.getD_some,Bool.true_and,Array.all_eq_true_iff_forall_mem]
  intro e he
  cases hb:Region.binds md e with
  |false=>simp
  |true=>simpa using h3 e he hb
def nL (md:Region.Mode) (ops:Array Oper):Prop:=∀ listed:Array Bool,listed.size=ops.size→(∃ j,j<ops.size∧listed.getD j true=false)→Region.ready md ops listed≠[]
theorem aeF {ops:Array Oper} (h:I1 ops=true):nL .any ops:=by
 intro listed hl ⟨j,hj,hjl⟩ hr
 have key:∀ n j,j<n→j<ops.size→listed.getD j true=true:=by
  intro n
  induction n with
  |zero=>intro j h;omega
  |succ n ih=>
   intro j hjn hj
   cases hb:listed.getD j true with
   |true=>rfl
   |false=>
    exfalso
    have:j∈Region.ready .any ops listed:=mem_ready.2 ⟨ops[j],by simp [hj],hb,fun e he hbd=>by
     unfold I1 at h
     rw [Array.all_eq_true_iff_forall_mem] at h
     have h1:=h (ops[j],j) (by rw [Array.mem_zipIdx_iff_getElem?];simp [hj])
     simp only [Array.all_eq_true_iff_forall_mem] at h1
     have h2:=h1 e he
     rw [hbd] at h2
     simp [Nat.blt_eq] at h2
     have h3:=ih e.on D D
     have h4:e.on<listed.size:=by omega
     simpa [Array.getD_eq_getD_getElem?,h4] using h3⟩
    rw [hr] at this;cases this
 rw [key (j+1) j D hj] at hjl
 cases hjl
theorem vw {listed:Array Bool} {i:Nat} (h:i<listed.size) (a b:Bool):listed.getD i a=listed.getD i b:=by
 simp [Array.getD_eq_getD_getElem?,h]
theorem MP {n:Nat} {listed:Array Bool} (h:q6 n listed=0) (i:Nat) (hi:i<n):listed.getD i true=true:=by
 unfold q6 at h
 rw [List.countP_eq_zero] at h
 have:=h i (List.mem_range.2 hi)
 simpa using this
theorem xk {listed:Array Bool} {i j:Nat} (hi:i<listed.size) (d:Bool):(listed.setIfInBounds i true).getD j d=if i=j then true else listed.getD j d:=by
 rw [Array.getD_eq_getD_getElem?,Array.getD_eq_getD_getElem?]
 by_cases e:i=j
 ·subst e;rw [Array.getElem?_setIfInBounds_self_of_lt hi];simp
 ·rw [Array.getElem?_setIfInBounds_ne e,if_neg e]
theorem MO {n:Nat} {listed:Array Bool} {i:Nat} (hn:listed.size=n) (hi:i<n) (h:listed.getD i true=false):q6 n (listed.setIfInBounds i true)<q6 n listed:=by
 unfold q6
 refine Ox (y:=i) (by rw [h];rfl) (by rw [xk D,if_pos rfl];rfl) _ (fun x hx hq=>?_) (List.mem_range.2 hi)
 rw [xk D] at hq
 split at hq
 ·cases hq
 ·exact hq
theorem R2 {md:Region.Mode} {ops:Array Oper}:∀(fuel t:Nat) (listed:Array Bool),(Region.linearise.go md ops fuel t listed []).length=fuel→listed.size=ops.size→q6 ops.size listed≤fuel→
  ∀ uf:Array Bool,uf.size=ops.size→(∀ i,i<ops.size→listed.getD i true=true→uf.getD i true=true)→(∃ j,j<ops.size∧uf.getD j true=false)→Region.ready md ops uf≠[]
 |0,t,listed,hlen,hs,hu,uf,hs',hsub,⟨j,hj,hjl⟩=>by
  rw [hsub j hj (MP D j hj)] at hjl;cases hjl
 |fuel+1,t,listed,hlen,hs,hu,uf,hs',hsub,hex=>by
  simp only [Region.linearise.go] at hlen
  change (match (Region.ready md ops listed)[t%(Region.ready md ops listed).length]? with
   |some i=>Region.linearise.go md ops fuel (t / (Region.ready md ops listed).length) (listed.setIfInBounds i true) [i]
   |none=>[].reverse).length=fuel+1 at hlen
  split at hlen
  ·rename_i i hi
   rw [linearise_go_acc] at hlen
   simp only [List.reverse_singleton,List.length_append,List.length_singleton] at hlen
   have hm:=List.mem_of_getElem? hi
   obtain ⟨o,h1,h2,h3⟩:=mem_ready.1 hm
   have hin:=(Array.getElem?_eq_some_iff.1 h1).1
   have ZL:=MO hs hin h2
   cases hl:uf.getD i true with
   |true=>
    refine R2 fuel (t / (Region.ready md ops listed).length) (listed.setIfInBounds i true) D (by simpa using hs) D uf hs' (fun k hk JI=>?_) hex
    rw [xk D] at JI
    split at JI
    ·rename_i e;subst e;exact hl
    ·exact hsub k hk JI
   |false=>
    intro hr
    have:i∈Region.ready md ops uf:=mem_ready.2 ⟨o,h1,hl,fun e he hb=>by
     have h4:=h3 e he hb
     have h5:e.on<listed.size:=by
      rcases Nat.lt_or_ge e.on listed.size with h6 |h6
      ·exact h6
      ·rw [Array.getD_eq_getD_getElem?,Array.getElem?_eq_none h6] at h4;cases h4
     rw [vw D false true]
     exact hsub _ D (by rw [vw h5 true false];exact h4)⟩
    rw [hr] at this;cases this
  ·simp at hlen
theorem kB {md:Region.Mode} {ops:Array Oper} (h:(Region.linearise md ops 0).length=ops.size):nL md ops:=by
 intro listed hs hex
 refine R2 ops.size 0 (Array.replicate ops.size false) h (by simp) ?_ listed hs (fun i hi h=>?_) hex
 ·unfold q6
  have:=List.countP_le_length (p:=fun i=>!(Array.replicate ops.size false).getD i true) (l:=List.range ops.size)
  simpa using this
 ·simp [Array.getD_eq_getD_getElem?,hi] at h
theorem NZ {md:Region.Mode} {e:Edge} (h:Region.binds .any e=true):Region.binds md e=true:=by
 unfold Region.binds at *
 cases hg:e.ground <;> rw [hg] at h <;> first
  |rfl
  |(simp at h;done)
theorem L5 (T:b5):∀(ts:List Tmp) (a:b5) (t:Nat) (v:Value),(oP T ts a).get t=some v→a.get t=some v∨(t∈ts∧T.get t=some v)
 |[],a,t,v,h=>.inl h
 |x::ts,a,t,v,h=>by
  simp only [oP] at h
  split at h
  ·rename_i u hu
   rcases L5 T ts _ t v h with h1 |h1
   ·rw [c6.kr] at h1
    split at h1
    ·rename_i e;subst e;injection h1 with h1;subst h1;exact .inr ⟨by simp,hu⟩
    ·exact .inl h1
   ·exact .inr ⟨List.mem_cons_of_mem _ h1.1,h1.2⟩
  ·rcases L5 T ts _ t v h with h1 |h1
   ·exact .inl h1
   ·exact .inr ⟨List.mem_cons_of_mem _ h1.1,h1.2⟩
theorem afP {T:b5} {ts:List Tmp} {t:Nat} {v:Value} (h:(oP T ts .nil).get t=some v):t∈ts∧T.get t=some v:=by
 rcases L5 T ts .nil t v h with h1 |h1
 ·simp [c6.get] at h1
 ·exact h1
def xG:Op→Bool
 |.defer _=>true
 |_=>false
inductive pZ (E:Env) (call:Call) (aq:Nat) (ops:Array Oper) (d:List (Value×List Value)) (o:Oper) (T cO:b5) (H H':U):List Nat→iG→Prop
 |skip:uM ops (oP T (mL ops o) .nil) o=some false→me T aq o.dst cZ=some cO→H'=H→pZ E call aq ops d o T cO H H' [] ⟨o.dst,mL ops o,[],some [],H.n,H.n⟩
 |go (v:Value) (W:List Nat) (r:Option (List Nat)):uM ops (oP T (mL ops o) .nil) o=some true→fK E call o (oP T (mL ops o) .nil) H d=some (.val v H' d W r)→me T aq o.dst v=some cO→
   bZ H H' W=true→pZ E call aq ops d o T cO H H' W ⟨o.dst,mL ops o,W.filter (Nat.blt · H.n),r,H.n,H'.n⟩
section
variable {E:Env} {call:Call}
theorem Lo {o:Oper} {T:b5} {H H':U} {d d':List (Value×List Value)} {v:Value} {W:List Nat} {r:Option (List Nat)} (hnd:xG o.op=false) (h:fK E call o T H d=some (.val v H' d' W r)) :
  d'=d∧∀ R,r=some R→simple E o T H=some (v,H',W,R):=by
 unfold fK at h
 split at h
 ·split at h
  ·rename_i h1
   injection h with h
   injection h with a1 a2 a3 a4 a5
   subst a1;subst a2;subst a3;subst a4;subst a5
   exact ⟨rfl,fun R hR=>by injection hR with hR;subst hR;exact h1⟩
  ·cases h
 ·split at h
  ·split at h
   ·injection h with h
    injection h with a1 a2 a3 a4 a5
    exact ⟨a3.symm,fun R hR=>by rw [← a5] at hR;cases hR⟩
   ·injection h with h;cases h
   ·cases h
  ·cases h
 ·rename_i he;rw [he] at hnd;cases hnd
 ·split at h
  ·injection h with h;cases h
  ·cases h
 ·split at h
  ·rename_i h1
   injection h with h
   injection h with a1 a2 a3 a4 a5
   subst a1;subst a2;subst a3;subst a4;subst a5
   exact ⟨rfl,fun R hR=>by injection hR with hR;subst hR;exact h1⟩
  ·cases h
theorem Rw {aq:Nat} {ops:Array Oper}:∀(rest:List Oper) (s s':gp) (zw fs:List iG),x2 E call aq ops rest s zw=some (s',fs)→(∀ o∈rest,xG o.op=false)→
  ∃(hs:Nat→U) (ts:Nat→b5) (jX:Nat→List Nat) (ft:Nat→iG) (W:List Nat),hs 0=s.h∧ts 0=s.t∧hs rest.length=s'.h∧ts rest.length=s'.t∧s'.d=s.d∧s'.w=s.w++W∧
   (∀ j,j<rest.length→∀ q,q∈jX j→q∈W)∧fs=zw.reverse++(List.range rest.length).map ft∧
   ∀(j:Nat) (o:Oper),rest[j]?=some o→pZ E call aq ops s.d o (ts j) (ts (j+1)) (hs j) (hs (j+1)) (jX j) (ft j)
 |[],s,s',zw,fs,h,hd=>by
  simp only [x2,bx,bG] at h
  obtain ⟨rfl,rfl⟩:=h
  exact ⟨fun _=>s.h,fun _=>s.t,fun _=>[],fun _=>⟨none,[],[],none,0,0⟩,[],rfl,rfl,rfl,rfl,rfl,by simp,fun j hj=>by simp at hj,by simp,fun j o h=>by simp at h⟩
 |o::rest,s,s',zw,fs,h,hd=>by
  simp only [x2] at h
  have glue:∀(v:Value) (H1:U) (fT:b5) (fa:List Nat) (f:iG),pZ E call aq ops s.d o s.t fT s.h H1 fa f→x2 E call aq ops rest ⟨fT,H1,s.d,s.w++fa⟩ (f::zw)=some (s',fs)→
    ∃(hs:Nat→U) (ts:Nat→b5) (jX:Nat→List Nat) (ft:Nat→iG) (W:List Nat),hs 0=s.h∧ts 0=s.t∧hs (o::rest).length=s'.h∧ts (o::rest).length=s'.t∧s'.d=s.d∧s'.w=s.w++W∧
     (∀ j,j<(o::rest).length→∀ q,q∈jX j→q∈W)∧fs=zw.reverse++(List.range (o::rest).length).map ft∧
     ∀(j:Nat) (o':Oper),(o::rest)[j]?=some o'→pZ E call aq ops s.d o' (ts j) (ts (j+1)) (hs j) (hs (j+1)) (jX j) (ft j):=by
   intro v H1 fT fa f hstep ni
   obtain ⟨hs,ts,jX,ft,W,a1,a2,a3,a4,a5,a6,a7,a8,a9⟩:=Rw rest _ s' _ fs ni (fun o' ho'=>hd o' (List.mem_cons_of_mem _ ho'))
   refine ⟨fun |0=>s.h |j+1=>hs j,fun |0=>s.t |j+1=>ts j,fun |0=>fa |j+1=>jX j,fun |0=>f |j+1=>ft j,fa++W,rfl,rfl,a3,a4,a5,?_,?_,?_,?_⟩
   ·rw [a6];simp
   ·intro j hj q hq
    cases j with
    |zero=>exact List.mem_append_left _ hq
    |succ j=>exact List.mem_append_right _ (a7 j (by simpa using hj) q hq)
   ·rw [a8,cj,List.range_succ_eq_map,List.map_cons,List.map_map]
    simp [Function.comp_def]
   ·intro j o' ho'
    cases j with
    |zero=>
     simp at ho'
     subst ho'
     show pZ E call aq ops s.d o s.t (ts 0) s.h (hs 0) fa f
     rw [a1,a2];exact hstep
    |succ j=>exact a9 j o' (by simpa using ho')
  split at h
  ·rename_i hw
   split at h
   ·rename_i v H1 d1 fa r1 hop
    split at h
    ·rename_i fT oy zG
     obtain ⟨dh,_⟩:=Lo (hd o (by simp)) hop
     subst dh
     exact glue v H1 fT fa _ (.go v fa r1 hw hop oy zG) h
    ·cases h
   ·cases h
  ·rename_i hw
   split at h
   ·rename_i fT oy
    exact glue cZ s.h fT [] _ (.skip hw oy rfl) (by simpa using h)
   ·cases h
  ·cases h
def HX (H:U) (f:iG) (φ:bA) (C:Nat→Option df):Prop:=∀ i,i<H.n→φ i≠none→(match f.r with |some R=>i∈R∨i∈f.w |none=>True)→C i=H.get i
theorem Hh (ok:E.eU) (hc:mZ E call) {aq:Nat} {ops:Array Oper} {d:List (Value×List Value)} {o:Oper} {T cO:b5} {H H':U} {W:List Nat} {f:iG} (hnd:xG o.op=false)
  (h:pZ E call aq ops d o T cO H H' W f) (wf:cz H) (cu:E.ej≤H.n) :
  cX f.w H H'∧cz H'∧f.lo=H.n∧f.hi=H'.n∧f.dst=o.dst∧f.looks=mL ops o∧(∀ q∈f.w,q∈W∧q<H.n∧fG (H.get q)=true)∧∃ v,me T aq o.dst v=some cO∧
   ∀(base:Nat) (φ:bA) (w:World) (a:Act) (C:Nat→Option df) (i:Nat) (K:Act→World→Prop) (Q:Exit→Act→World→Prop),ops[i]?=some o→qy E base C φ w→HX H f φ C→fW φ H.n H'.n→
    g6 φ (oP T (mL ops o) .nil) a.tmps aq→jG φ d a.defers→
    (∀(aU:bA) (w':World) (u:Value) (a':Act),eV E base φ w H H' f.w aU w'→be aU v u→a'.tmps=a.tmps→jG aU d a'.defers→K (a'.put o.dst u) w')→wpOp E.P ops Q i K a w:=by
 cases h with
 |skip hw hT he=>
  subst he
  refine ⟨cX.refl ..,wf,rfl,rfl,rfl,rfl,fun q hq=>by simp at hq,cZ,hT,fun base φ w a C i K Q hi cC hag hf ht hd hK=>?_⟩
  unfold wpOp
  simp only [hi]
  rw [if_neg (by rw [yp ht hw];simp)]
  exact hK φ w undef a (eV.same rfl rfl rfl rfl) (.tuple' ⟨rfl,fun i x y hx=>by simp at hx⟩) rfl hd
 |go v _ r hw hop hT zG=>
  obtain ⟨_,ZH⟩:=Lo hnd hop
  have ZS:∀ q∈W.filter (Nat.blt · H.n),q∈W∧q<H.n∧fG (H.get q)=true:=by
   intro q hq
   have pD:q∈W∧q<H.n:=by simpa [List.mem_filter,Nat.blt_eq] using hq
   unfold bZ at zG
   rw [List.all_eq_true] at zG
   have:=zG q pD.1
   rw [KX pD.2] at this
   exact ⟨pD.1,pD.2,this⟩
  obtain ⟨g1,g2,g3⟩:D3 E o (oP T (mL ops o) .nil) H d v H' d W:=Gv ok hc wf cu hop
  have Yo:cX (W.filter (Nat.blt · H.n)) H H':=⟨g1.n,fun i hi hn=>g1.keep i hi fun hm=>hn (by simp [List.mem_filter,Nat.blt_eq,hm,hi]),g1.live,g1.fG⟩
  refine ⟨Yo,g2,rfl,rfl,rfl,rfl,ZS,v,hT,fun base φ w a C i K Q hi cC hag hf ht hd hK=>?_⟩
  unfold wpOp
  simp only [hi]
  rw [if_pos (yp ht hw)]
  refine .inl ?_
  cases r with
  |none=>
   refine g3 base φ w a aq K Q (cC.rel fun i hi hm=>hag i hi hm trivial) hf ht hd fun aU w' u a' b6 i7 rx hda=>?_
   exact hK aU w' u a' (b6.Yd g1.n hf zG) i7 rx hda
  |some R=>
   obtain ⟨k1,k2⟩:=S8 ok wf (ZH R rfl)
   obtain ⟨ut,u,w',aU,hr,JM,i7,hout⟩:=k2 base φ w a.eval (cC.pre wf fun i hi hin hm=>hag i hin hm (.inl hi)) hf (ht.ev (H:=H) (w:=w) cC.iL)
   have Y6:W.filter (Nat.blt · H.n)=W:=List.filter_eq_self.2 fun q hq=>KX (hout.wr q hq).1
   have hsub:∀ i l,φ i=some l→aU i=some l:=by
    intro i l hi
    by_cases h1:i<H.n
    ·rw [hout.ext i (.inl h1)];exact hi
    ·by_cases h2:H'.n≤i
     ·rw [hout.ext i (.inr h2)];exact hi
     ·rw [hf i D D] at hi;cases hi
   exact T7 hr JM (hK aU w' u a (by show eV E base φ w H H' (W.filter (Nat.blt · H.n)) aU w';rw [Y6];exact hout) i7 rfl (hd.mono hsub))
end
end Go.Am
