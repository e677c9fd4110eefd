/- Part of the proof that CheckKids answers true. -/
import Derived.Orders
import Derived.Defers
import Derived.Below
import Derived.Laws.Append
import Derived.Laws.Tables
set_option linter.unusedVariables false
set_option linter.unusedSimpArgs false
set_option maxRecDepth 100000
set_option maxHeartbeats 4000000
namespace Go.Am
open Go.RowKit (Below)
theorem aa {p:Prop} (h:p:=by omega):p:=h
inductive Tr (α:Type) where
 |nil
 |node (v:Option α) (l r:Tr α)
def Tr.get {α:Type}:Tr α→Nat→Option α
 |.nil,_=>none
 |.node v l r,i=>bif Nat.beq i 0 then v else bif Nat.beq (i%2) 1 then l.get (i / 2) else r.get (i / 2-1)
def Tr.iK {α:Type}:Nat→Tr α→Nat→α→Tr α
 |0,t,_,_=>t
 |f+1,.nil,i,a=>bif Nat.beq i 0 then .node (some a) .nil .nil else bif Nat.beq (i%2) 1 then .node none (Tr.iK f .nil (i / 2) a) .nil else .node none .nil (Tr.iK f .nil (i / 2-1) a)
 |f+1,.node v l r,i,a=>bif Nat.beq i 0 then .node (some a) l r else bif Nat.beq (i%2) 1 then .node v (Tr.iK f l (i / 2) a) r else .node v l (Tr.iK f r (i / 2-1) a)
def Tr.set {α:Type} (t:Tr α) (i:Nat) (a:α):Tr α:=Tr.iK (i+1) t i a
theorem uT {a b:Nat} (h:a≠b):Nat.beq a b=false:=by
 cases hb:Nat.beq a b with
 |false=>rfl
 |true=>exact absurd (Nat.eq_of_beq_eq_true hb) h
theorem Fz {a b:Nat} (h:a=b):Nat.beq a b=true:=by subst h;exact Nat.beq_refl a
theorem Tr.Ri {α:Type} (a:α):∀(f:Nat) (t:Tr α) (i j:Nat),i<f→(Tr.iK f t i a).get j=if i=j then some a else t.get j:=by
 intro f
 induction f with
 |zero=>intro t i j h;omega
 |succ f ih=>
  intro t i j h
  cases t with
  |nil=>
   simp only [Tr.iK]
   by_cases h0:i=0
   ·subst h0
    by_cases hj:j=0
    ·subst hj;simp [Tr.get]
    ·rw [if_neg aa]
     have:Nat.beq j 0=false:=uT hj
     simp [Tr.get,this]
   ·have e0:Nat.beq i 0=false:=uT h0
    rw [e0]
    by_cases ho:i%2=1
    ·have e1:Nat.beq (i%2) 1=true:=Fz ho
     rw [e1]
     simp only [cond_true,cond_false,Tr.get]
     by_cases hj0:j=0
     ·subst hj0;simp;omega
     ·have f0:Nat.beq j 0=false:=uT hj0
      rw [f0]
      by_cases Rr:j%2=1
      ·have f1:Nat.beq (j%2) 1=true:=Fz Rr
       rw [f1];simp only [cond_true,cond_false]
       rw [ih _ _ _ aa]
       by_cases e:i / 2=j / 2
       ·rw [if_pos e,if_pos aa]
       ·rw [if_neg e,if_neg aa];rfl
      ·have f1:Nat.beq (j%2) 1=false:=uT Rr
       rw [f1];simp only [cond_false]
       rw [if_neg aa]
    ·have e1:Nat.beq (i%2) 1=false:=uT ho
     rw [e1]
     simp only [cond_true,cond_false,Tr.get]
     by_cases hj0:j=0
     ·subst hj0;simp;omega
     ·have f0:Nat.beq j 0=false:=uT hj0
      rw [f0]
      by_cases Rr:j%2=1
      ·have f1:Nat.beq (j%2) 1=true:=Fz Rr
       rw [f1];simp only [cond_true,cond_false]
       rw [if_neg aa]
      ·have f1:Nat.beq (j%2) 1=false:=uT Rr
       rw [f1];simp only [cond_false]
       rw [ih _ _ _ aa]
       by_cases e:i / 2-1=j / 2-1
       ·rw [if_pos e,if_pos aa]
       ·rw [if_neg e,if_neg aa];rfl
  |node v l r=>
   simp only [Tr.iK]
   by_cases h0:i=0
   ·subst h0
    by_cases hj:j=0
    ·subst hj;simp [Tr.get]
    ·rw [if_neg aa]
     have:Nat.beq j 0=false:=uT hj
     simp [Tr.get,this]
   ·have e0:Nat.beq i 0=false:=uT h0
    rw [e0]
    by_cases ho:i%2=1
    ·have e1:Nat.beq (i%2) 1=true:=Fz ho
     rw [e1]
     simp only [cond_true,cond_false,Tr.get]
     by_cases hj0:j=0
     ·subst hj0;simp;omega
     ·have f0:Nat.beq j 0=false:=uT hj0
      rw [f0]
      by_cases Rr:j%2=1
      ·have f1:Nat.beq (j%2) 1=true:=Fz Rr
       rw [f1];simp only [cond_true,cond_false]
       rw [ih _ _ _ aa]
       by_cases e:i / 2=j / 2
       ·rw [if_pos e,if_pos aa]
       ·rw [if_neg e,if_neg aa]
      ·have f1:Nat.beq (j%2) 1=false:=uT Rr
       rw [f1];simp only [cond_false]
       rw [if_neg aa]
    ·have e1:Nat.beq (i%2) 1=false:=uT ho
     rw [e1]
     simp only [cond_true,cond_false,Tr.get]
     by_cases hj0:j=0
     ·subst hj0;simp;omega
     ·have f0:Nat.beq j 0=false:=uT hj0
      rw [f0]
      by_cases Rr:j%2=1
      ·have f1:Nat.beq (j%2) 1=true:=Fz Rr
       rw [f1];simp only [cond_true,cond_false]
       rw [if_neg aa]
      ·have f1:Nat.beq (j%2) 1=false:=uT Rr
       rw [f1];simp only [cond_false]
       rw [ih _ _ _ aa]
       by_cases e:i / 2-1=j / 2-1
       ·rw [if_pos e,if_pos aa]
       ·rw [if_neg e,if_neg aa]
theorem Tr.ek {α:Type} (t:Tr α) (i j:Nat) (a:α):(t.set i a).get j=if i=j then some a else t.get j:=Tr.Ri a _ t i j aa
def Tr.ofList {α:Type} (l:List α):Tr α:=(l.foldl (fun (p:Tr α×Nat) x=>(p.1.set p.2 x,p.2+1)) (.nil,0)).1
inductive Ob where
 |cells (c:List Value) (e:TypeId) (ro:Bool)
 |map (es:List MapEntry) (clock:Nat)
 |dead
structure Hp where
 n:Nat
 t:Tr Ob
def Hp.get (h:Hp) (i:Nat):Option Ob:=h.t.get i
def Hp.set (h:Hp) (i:Nat) (o:Ob):Hp:=⟨h.n,h.t.set i o⟩
def Hp.new (h:Hp) (o:Ob):Hp:=⟨h.n+1,h.t.set h.n o⟩
theorem Hp.ek (h:Hp) (i j:Nat) (o:Ob):(h.set i o).get j=if i=j then some o else h.get j:=Tr.ek ..
theorem Hp.dF (h:Hp) (j:Nat) (o:Ob):(h.new o).get j=if h.n=j then some o else h.get j:=Tr.ek ..
@[simp] theorem Hp.cT (h:Hp) (i:Nat) (o:Ob):(h.set i o).n=h.n:=rfl
@[simp] theorem Hp.sQ (h:Hp) (o:Ob):(h.new o).n=h.n+1:=rfl
structure Loc where
 gK:Nat
 off:Nat
 HZ:Nat
abbrev cS:=Nat→Option Loc
inductive VR (φ:cS):Value→Value→Prop
 |bool (b:Bool):VR φ (.bool b) (.bool b)
 |int (k:IntKind) (n:Int):VR φ (.int k n) (.int k n)
 |float (k:FloatKind) (b:Nat):VR φ (.float k b) (.float k b)
 |string (s:ByteArray):VR φ (.string s) (.string s)
 |VW:VR φ (.pointer none) (.pointer none)
 |ptr (i o:Nat) (l:Loc):φ i=some l→VR φ (.pointer (some ⟨i,o,none⟩)) (.pointer (some ⟨l.gK,l.off+o,none⟩))
 |EN:VR φ (.slice none 0 0) (.slice none 0 0)
 |Ia (i o n c:Nat) (l:Loc):φ i=some l→n≤c→VR φ (.slice (some ⟨i,o,none⟩) n (2*c+1)) (.slice (some ⟨l.gK,l.off+o,none⟩) n c)
 |NB (i o n c s:Nat) (l:Loc):φ i=some l→n≤c→o+c*s≤l.HZ→VR φ (.slice (some ⟨i,o,none⟩) n (2*s)) (.slice (some ⟨l.gK,l.off+o,none⟩) n c)
 |slz (a:Addr) (c:Nat):VR φ (.slice (some ⟨0,0,some 0⟩) 0 0) (.slice (some a) 0 c)
 |VV:VR φ (.map none) (.map none)
 |map (i:Nat) (l:Loc):φ i=some l→VR φ (.map (some i)) (.map (some l.gK))
 |VT:VR φ .nilFunc .nilFunc
 |func (f:FuncId) (fs fs' cs cs':Array Value):fs.size=fs'.size→(∀(i:Nat) x y,fs[i]?=some x→fs'[i]?=some y→VR φ x y)→
   cs.size=cs'.size→(∀(i:Nat) x y,cs[i]?=some x→cs'[i]?=some y→VR φ x y)→VR φ (.func (.func f) fs cs) (.func (.func f) fs' cs')
 |VU:VR φ .nilIface .nilIface
 |iface (t:TypeId) (v u:Value):VR φ v u→VR φ (.iface t v) (.iface t u)
 |agg (cs cs':Array Value):cs.size=cs'.size→(∀(i:Nat) x y,cs[i]?=some x→cs'[i]?=some y→VR φ x y)→VR φ (.agg cs) (.agg cs')
 |tuple (cs cs':Array Value):cs.size=cs'.size→(∀(i:Nat) x y,cs[i]?=some x→cs'[i]?=some y→VR φ x y)→VR φ (.tuple cs) (.tuple cs')
theorem VR.mono {φ ψ:cS} (h:∀ i l,φ i=some l→ψ i=some l) {v u:Value} (hv:VR φ v u):VR ψ v u:=by
 induction hv with
 |bool b=>exact .bool b
 |int k n=>exact .int k n
 |float k b=>exact .float k b
 |string s=>exact .string s
 |VW=>exact .VW
 |ptr i o l hl=>exact .ptr i o l (h _ _ hl)
 |EN=>exact .EN
 |Ia i o n c l hl hn=>exact .Ia i o n c l (h _ _ hl) hn
 |slz a c=>exact .slz a c
 |NB i o n c s l hl hn hc=>exact .NB i o n c s l (h _ _ hl) hn hc
 |VV=>exact .VV
 |map i l hl=>exact .map i l (h _ _ hl)
 |VT=>exact .VT
 |func f fs fs' cs cs' h1 _ h2 _ i1 i2=>exact .func f fs fs' cs cs' h1 i1 h2 i2
 |VU=>exact .VU
 |iface t v u _ ih=>exact .iface t v u ih
 |agg cs cs' h1 _ ih=>exact .agg cs cs' h1 ih
 |tuple cs cs' h1 _ ih=>exact .tuple cs cs' h1 ih
def LR (φ:cS) (xs ys:List Value):Prop:=xs.length=ys.length∧∀(i:Nat) x y,xs[i]?=some x→ys[i]?=some y→VR φ x y
def AR (φ:cS) (xs ys:Array Value):Prop:=xs.size=ys.size∧∀(i:Nat) x y,xs[i]?=some x→ys[i]?=some y→VR φ x y
theorem LR.mono {φ ψ:cS} (h:∀ i l,φ i=some l→ψ i=some l) {xs ys:List Value} (hv:LR φ xs ys):LR ψ xs ys:=⟨hv.1,fun i x y a b=>(hv.2 i x y a b).mono h⟩
theorem AR.mono {φ ψ:cS} (h:∀ i l,φ i=some l→ψ i=some l) {xs ys:Array Value} (hv:AR φ xs ys):AR ψ xs ys:=⟨hv.1,fun i x y a b=>(hv.2 i x y a b).mono h⟩
theorem LR.nil (φ:cS):LR φ [] []:=⟨rfl,fun i x y h=>by simp at h⟩
theorem LR.cons {φ:cS} {x y:Value} {xs ys:List Value} (h:VR φ x y) (hs:LR φ xs ys):LR φ (x::xs) (y::ys):=
 ⟨by simp [hs.1],fun i a b ha hb=>by
  cases i with
  |zero=>simp at ha hb;subst ha hb;exact h
  |succ i=>simp at ha hb;exact hs.2 i a b ha hb⟩
theorem LR.cons_inv {φ:cS} {x:Value} {xs zs:List Value} (h:LR φ (x::xs) zs):∃ y ys,zs=y::ys∧VR φ x y∧LR φ xs ys:=by
 cases zs with
 |nil=>have:=h.1;simp at this
 |cons y ys=>
  refine ⟨y,ys,rfl,h.2 0 x y (by simp) (by simp),?_,fun i a b ha hb=>h.2 (i+1) a b (by simpa using ha) (by simpa using hb)⟩
  have:=h.1;simp at this;exact this
theorem LR.mL {φ:cS} {zs:List Value} (h:LR φ [] zs):zs=[]:=by
 have h1:=h.1
 cases zs with
 |nil=>rfl
 |cons a b=>simp at h1
theorem LR.append {φ:cS} {xs ys xs' ys':List Value} (h:LR φ xs ys) (h':LR φ xs' ys'):LR φ (xs++xs') (ys++ys'):=by
 induction xs generalizing ys with
 |nil=>have:=h.mL;subst this;simpa using h'
 |cons x xs ih=>
  obtain ⟨y,zs,rfl,h1,h2⟩:=h.cons_inv
  exact LR.cons h1 (ih h2)
theorem LR.get {φ:cS} {xs ys:List Value} (h:LR φ xs ys) {i:Nat} {x:Value} (hx:xs[i]?=some x):∃ y,ys[i]?=some y∧VR φ x y:=by
 have hi:i<xs.length:=(List.getElem?_eq_some_iff.1 hx).1
 have hi':i<ys.length:=h.1▸hi
 exact ⟨ys[i],List.getElem?_eq_getElem hi',h.2 i _ _ hx (List.getElem?_eq_getElem hi')⟩
theorem AR.get {φ:cS} {xs ys:Array Value} (h:AR φ xs ys) {i:Nat} {x:Value} (hx:xs[i]?=some x):∃ y,ys[i]?=some y∧VR φ x y:=by
 have hi:i<xs.size:=(Array.getElem?_eq_some_iff.1 hx).1
 have hi':i<ys.size:=h.1▸hi
 exact ⟨ys[i],Array.getElem?_eq_getElem hi',h.2 i _ _ hx (Array.getElem?_eq_getElem hi')⟩
theorem LR.take {φ:cS} {xs ys:List Value} (h:LR φ xs ys) (n:Nat):LR φ (xs.take n) (ys.take n):=
 ⟨by simp [h.1],fun i x y hx hy=>by
  rw [List.getElem?_take] at hx hy
  split at hx
  ·rw [if_pos ‹_›] at hy;exact h.2 i x y hx hy
  ·simp at hx⟩
theorem AR.toList {φ:cS} {xs ys:Array Value} (h:AR φ xs ys):LR φ xs.toList ys.toList:=
 ⟨by simpa using h.1,fun i x y hx hy=>h.2 i x y (by simpa using hx) (by simpa using hy)⟩
theorem LR.toArray {φ:cS} {xs ys:List Value} (h:LR φ xs ys):AR φ xs.toArray ys.toArray:=
 ⟨by simpa using h.1,fun i x y hx hy=>h.2 i x y (by simpa using hx) (by simpa using hy)⟩
theorem VR.J5 {φ:cS} {cs cs':Array Value} (h:AR φ cs cs'):VR φ (.agg cs) (.agg cs'):=.agg cs cs' h.1 h.2
theorem VR.tuple' {φ:cS} {cs cs':Array Value} (h:AR φ cs cs'):VR φ (.tuple cs) (.tuple cs'):=.tuple cs cs' h.1 h.2
theorem VR.xX {φ:cS} {cs:Array Value} {u:Value} (h:VR φ (.agg cs) u):∃ cs',u=.agg cs'∧AR φ cs cs':=by
 cases h with |agg _ cs' h1 h2=>exact ⟨cs',rfl,h1,h2⟩
theorem VR.zW {φ:cS} {cs:Array Value} {u:Value} (h:VR φ (.tuple cs) u):∃ cs',u=.tuple cs'∧AR φ cs cs':=by
 cases h with |tuple _ cs' h1 h2=>exact ⟨cs',rfl,h1,h2⟩
theorem VR.BW {φ:cS} {fn:Fn} {fs cs:Array Value} {u:Value} (h:VR φ (.func fn fs cs) u):∃ f fs' cs',fn=.func f∧u=.func (.func f) fs' cs'∧AR φ fs fs'∧AR φ cs cs':=by
 cases h with |func f _ fs' _ cs' h1 h2 h3 h4=>exact ⟨f,fs',cs',rfl,rfl,⟨h1,h2⟩,⟨h3,h4⟩⟩
def yz:Value→Bool
 |.bool _ |.int _ _ |.float _ _ |.string _=>true
 |_=>false
def fj:Value→Bool
 |.iface _ v=>yz v
 |.bool _ |.int _ _ |.float _ _ |.string _ |.pointer none |.slice none 0 0 |.map none |.nilFunc |.nilIface=>true
 |_=>false
def ground:Value→Bool
 |.agg cs=>cs.toList.all fj
 |.tuple cs=>cs.toList.all fj
 |v=>fj v
theorem VR.l8 {φ:cS} {v:Value} (h:fj v=true):VR φ v v:=by
 have z:∀ v,yz v=true→VR φ v v:=fun v h=>by
  unfold yz at h
  split at h <;> first |constructor |(exact absurd h (by simp))
 unfold fj at h
 split at h <;> first |(exact .iface _ _ _ (z _ h)) |constructor |(exact absurd h (by simp))
theorem AR.l8 {φ:cS} {cs:Array Value} (h:cs.toList.all fj=true):AR φ cs cs:=
 ⟨rfl,fun i x y hx hy=>by
  rw [hx] at hy;injection hy with hy;subst hy
  rw [List.all_eq_true] at h
  exact .l8 (h x (by simpa using Array.mem_of_getElem? hx))⟩
theorem VR.hG {φ:cS} {v:Value} (h:ground v=true):VR φ v v:=by
 unfold ground at h
 split at h
 ·exact .J5 (.l8 h)
 ·exact .tuple' (.l8 h)
 ·exact .l8 h
theorem VR.dS {φ:cS} {v u:Value} (h:fj v=true) (hv:VR φ v u):u=v:=by
 have z:∀{v u:Value},yz v=true→VR φ v u→u=v:=fun h hv=>by
  cases hv <;> first |rfl |simp [yz] at h
 cases hv with
 |iface t v u yA=>rw [z h yA]
 |_=>first |rfl |simp [fj] at h
theorem AR.dS {φ:cS} {cs ds:Array Value} (h:cs.toList.all fj=true) (hv:AR φ cs ds):ds=cs:=by
 refine Array.ext hv.1.symm fun i h1 h2=>?_
 rw [List.all_eq_true] at h
 exact VR.dS (h _ (by simp)) (hv.2 i _ _ (Array.getElem?_eq_getElem h2) (Array.getElem?_eq_getElem h1))
theorem VR.iP {φ:cS} {v u:Value} (h:ground v=true) (hv:VR φ v u):u=v:=by
 unfold ground at h
 split at h
 ·obtain ⟨ds,rfl,hd⟩:=hv.xX;rw [AR.dS h hd]
 ·obtain ⟨ds,rfl,hd⟩:=hv.zW;rw [AR.dS h hd]
 ·exact hv.dS h
def one:Value→Bool
 |.agg _ |.tuple _=>false
 |_=>true
theorem VR.Sc {φ:cS} {v u:Value} (hv:VR φ v u):one u=one v:=by cases hv <;> rfl
theorem VR.cells {φ:cS} {v u:Value} (hv:VR φ v u):AR φ v.cells u.cells:=by
 have single:∀{a b:Value},VR φ a b→AR φ #[a] #[b]:=fun h=>⟨rfl,fun i x y hx hy=>by
  have:i=0:=by
   have:=(Array.getElem?_eq_some_iff.1 hx).1
   simpa using this
  subst this
  simp at hx hy;subst hx hy;exact h⟩
 cases hv with
 |agg cs cs' h1 h2=>exact ⟨h1,h2⟩
 |bool b=>exact single (.bool b)
 |int k n=>exact single (.int k n)
 |float k b=>exact single (.float k b)
 |string s=>exact single (.string s)
 |VW=>exact single .VW
 |ptr i o l hl=>exact single (.ptr i o l hl)
 |EN=>exact single .EN
 |Ia i o n c l hl hn=>exact single (.Ia i o n c l hl hn)
 |slz a c=>exact single (.slz a c)
 |NB i o n c s l hl hn hc=>exact single (.NB i o n c s l hl hn hc)
 |VV=>exact single .VV
 |map i l hl=>exact single (.map i l hl)
 |VT=>exact single .VT
 |func f fs fs' cs cs' h1 h2 h3 h4=>exact single (.func f fs fs' cs cs' h1 h2 h3 h4)
 |VU=>exact single .VU
 |iface t v u h=>exact single (.iface t v u h)
 |tuple cs cs' h1 h2=>exact single (.tuple cs cs' h1 h2)
inductive Bu where
 |ret (v:Value)
 |Pu (v:Value)
abbrev Ad:=Option (Bu×Hp×List Nat)
structure Env where
 P:Program
 info:Nat→Option TypeInfo
 func:Nat→Option Func
 ng:Nat
 OM:Nat→Option (List Value→Hp→Ad)
 IJ:Nat→Option (Option Value→List Value→Hp→Option (Option Value×Hp×List Nat))
structure Env.Ok (E:Env):Prop where
 info:∀ t i,E.info t=some i→E.P.info? t=some i
 func:∀ f fn,E.func f=some fn→E.P.funcs[f]?=some fn
def Env.ul (E:Env) (t:Nat):Option TypeDesc:=
 match E.info t with
 |some i=>match i.desc with
  |.named _ u=>match E.info u with
   |some j=>some j.desc
   |none=>none
  |d=>some d
 |none=>none
def Env.size (E:Env) (t:Nat):Option Nat:=match E.info t with |some i=>some i.size |none=>none
def Env.zero (E:Env) (t:Nat):Option Value:=match E.info t with |some i=>i.zero |none=>none
def aam:TypeDesc→Bool
 |.struct _ |.array _ _=>true
 |_=>false
def Env.agg (E:Env) (t:Nat):Option Bool:=match E.ul t with |some d=>some (aam d) |none=>none
section
variable {E:Env} (ok:E.Ok)
include ok
theorem Env.Ok.ul {t:Nat} {d:TypeDesc} (h:E.ul t=some d):E.P.underlying t=some d:=by
 unfold Env.ul at h
 unfold Program.underlying
 split at h
 ·rename_i i hi
  rw [ok.info _ _ hi]
  obtain ⟨desc,a1,a2,a3,a4,a5,a6,a7,a8,a9⟩:=i
  cases desc with
  |named nm u=>
   simp only at h ⊢
   split at h
   ·rename_i j hj
    rw [ok.info _ _ hj]
    simpa using h
   ·simp at h
  |_=>simpa using h
 ·simp at h
theorem Env.Ok.size {t n:Nat} (h:E.size t=some n):∃ i,E.P.info? t=some i∧i.size=n:=by
 unfold Env.size at h
 split at h
 ·rename_i i hi;injection h with h;exact ⟨i,ok.info _ _ hi,h⟩
 ·simp at h
theorem Env.Ok.zero {t:Nat} {z:Value} (h:E.zero t=some z):∃ i,E.P.info? t=some i∧i.zero=some z:=by
 unfold Env.zero at h
 split at h
 ·rename_i i hi;exact ⟨i,ok.info _ _ hi,h⟩
 ·simp at h
theorem dI {t:Nat} {d:TypeDesc} (h:E.ul t=some d) (w:World):(underlying t).run E.P w=.ok d w:=by
 have:=ok.ul h
 simp [underlying,program,bind,Sem.bind,Sem.run,this,pure]
theorem ec {t n:Nat} (h:E.size t=some n) (w:World):(sizeOf t).run E.P w=.ok n w:=by
 obtain ⟨i,hi,rfl⟩:=ok.size h
 simp [Go.sizeOf,typeInfo,program,bind,Sem.bind,Sem.run,hi,pure]
theorem gi {t:Nat} {z:Value} (h:E.zero t=some z) (w:World):(zeroValue t).run E.P w=.ok z w:=by
 obtain ⟨i,hi,hz⟩:=ok.zero h
 simp [zeroValue,typeInfo,program,bind,Sem.bind,Sem.run,hi,hz,pure]
theorem lE {t:Nat} {b:Bool} (h:E.agg t=some b) (w:World):(isAgg t).run E.P w=.ok b w:=by
 unfold Env.agg at h
 split at h
 ·rename_i d hd
  injection h with h
  subst h
  have:=ok.ul hd
  simp only [isAgg,underlying,program,bind,Sem.bind,Sem.run,this,pure]
  cases d <;> simp [aam,Sem.run]
 ·simp at h
end
theorem run_bind {α β:Type} (P:Program) (s:Sem α) (f:α→Sem β) (w:World) :
  (s.bind f).run P w=match s.run P w with |.ok a w'=>(f a).run P w' |.halt h w'=>.halt h w':=by
 induction s generalizing w with
 |pure a=>rfl
 |load m a k ih=>
  simp only [Sem.bind,Sem.run]
  cases w.cell? a with
  |some v=>exact ih _ _
  |none=>
   simp only
   split
   ·exact ih _ _
   ·rfl
 |store m a v k ih=>
  cases v <;> simp only [Sem.bind,Sem.run] <;> first
   |rfl
   |(cases w.cell? a with
     |some v=>
      simp only
      split
      ·rfl
      ·exact ih _
     |none=>
      simp only
      split
      ·exact ih _
      ·rfl)
 |new o k ih=>simp only [Sem.bind,Sem.run];exact ih _ _
 |shape r k ih=>simp only [Sem.bind,Sem.run];exact ih _ _
 |freeze a n k ih=>simp only [Sem.bind,Sem.run];exact ih _
 |frozen a k ih=>simp only [Sem.bind,Sem.run];exact ih _ _
 |getObj r k ih=>
  simp only [Sem.bind,Sem.run]
  split
  ·rfl
  ·exact ih _ _
  ·rfl
 |setObj r o k ih=>
  simp only [Sem.bind,Sem.run]
  split
  ·rfl
  ·exact ih _
  ·rfl
 |choose q k ih=>
  simp only [Sem.bind,Sem.run]
  split
  ·exact ih _ _
  ·exact ih _ _
 |sys c k ih=>simp only [Sem.bind,Sem.run];exact ih _ _
 |program k ih=>simp only [Sem.bind,Sem.run];exact ih _ _
 |mark m k ih=>simp only [Sem.bind,Sem.run];exact ih _
 |halt h=>rfl
theorem ax {α β:Type} {P:Program} {s:Sem α} {f:α→Sem β} {w w':World} {a:α} (h:s.run P w=.ok a w'):(s >>= f).run P w=(f a).run P w':=by
 show (s.bind f).run P w=_
 rw [run_bind,h]
def live:Option Ob→Bool
 |some (.cells [] _ true)=>false
 |some .dead=>false
 |some _=>true
 |none=>false
def dA:Option Ob→Bool
 |some (.cells _ _ false)=>true
 |some (.map _ _)=>true
 |_=>false
theorem dQ {o:Option Ob} (h:dA o=true):live o=true:=by
 unfold dA at h
 split at h
 ·rename_i c e;cases c <;> rfl
 ·rfl
 ·simp at h
def sS (E:Env) (base:Nat) (φ:cS) (w:World) (l:Loc):Ob→Prop
 |.cells c e true=>∀(j:Nat) (x:Value),c[j]?=some x→∃ y,w.cell? ⟨l.gK,l.off+j,none⟩=some y∧VR φ x y
 |.cells c e false=>∃ cc lo hi,w.heap[l.gK]?=some (.cells cc e (lo,hi))∧l.off+l.HZ≤cc.size∧c.length≤l.HZ∧
   (∀(j:Nat) (x:Value),c[j]?=some x→∃ y,cc[l.off+j]?=some y∧VR φ x y)∧base≤l.gK∧∀ j,l.off≤j→j<l.off+l.HZ→¬ (lo≤j∧j<hi)
 |.map es ck=>∃ es',w.heap[l.gK]?=some (.map es' ck)∧base≤l.gK∧es.length=es'.size∧
   ∀(j:Nat) x y,es[j]?=some x→es'[j]?=some y→VR φ x.key y.key∧VR φ x.val y.val∧x.born=y.born
 |.dead=>True
theorem sS.mono {E:Env} {base:Nat} {φ ψ:cS} (h:∀ i l,φ i=some l→ψ i=some l) {w:World} {l:Loc} {o:Ob} (hb:sS E base φ w l o):sS E base ψ w l o:=by
 cases o with
 |cells c e ro=>
  cases ro with
  |true=>exact fun j x hx=>let ⟨y,a,b⟩:=hb j x hx;⟨y,a,b.mono h⟩
  |false=>
   obtain ⟨cc,lo,hi,a1,a2,a3,a4,a5⟩:=hb
   exact ⟨cc,lo,hi,a1,a2,a3,fun j x hx=>let ⟨y,a,b⟩:=a4 j x hx;⟨y,a,b.mono h⟩,a5⟩
 |map es ck=>
  obtain ⟨es',a1,a2,a3,a4⟩:=hb
  exact ⟨es',a1,a2,a3,fun j x y hx hy=>let ⟨p,q,r⟩:=a4 j x y hx hy;⟨p.mono h,q.mono h,r⟩⟩
 |dead=>trivial
theorem sS.same {E:Env} {base:Nat} {φ:cS} {w w':World} {l:Loc} {o:Ob} (h:w'.heap[l.gK]?=w.heap[l.gK]?) (hb:sS E base φ w l o):sS E base φ w' l o:=by
 cases o with
 |cells c e ro=>
  cases ro with
  |true=>
   intro j x hx
   obtain ⟨y,a,b⟩:=hb j x hx
   refine ⟨y,?_,b⟩
   rw [← a]
   simp only [World.cell?,h]
  |false=>
   obtain ⟨cc,lo,hi,a1,a2⟩:=hb
   exact ⟨cc,lo,hi,h.trans a1,a2⟩
 |map es ck=>
  obtain ⟨es',a1,a2⟩:=hb
  exact ⟨es',h.trans a1,a2⟩
 |dead=>trivial
theorem sS.cell {E:Env} {base:Nat} {φ:cS} {w:World} {l:Loc} {c:List Value} {e:TypeId} {ro:Bool} (hb:sS E base φ w l (.cells c e ro)) {j:Nat} {x:Value} (hx:c[j]?=some x) :
  ∃ y,w.cell? ⟨l.gK,l.off+j,none⟩=some y∧VR φ x y:=by
 cases ro with
 |true=>exact hb j x hx
 |false=>
  obtain ⟨cc,lo,hi,a1,a2,a3,a4,a5⟩:=hb
  obtain ⟨y,h1,h2⟩:=a4 j x hx
  refine ⟨y,?_,h2⟩
  simp [World.cell?,a1,h1]
structure Rel (E:Env) (base:Nat) (H:Hp) (φ:cS) (w:World):Prop where
 bs:base≤w.heap.size
 blocks:∀ i l o,i<H.n→φ i=some l→H.get i=some o→sS E base φ w l o
 lt:∀ i l,i<H.n→φ i=some l→live (H.get i)=true→l.gK<w.heap.size
 inj:∀ i j l m,i<H.n→j<H.n→i≠j→φ i=some l→φ j=some m→dA (H.get i)=true→live (H.get j)=true→l.gK≠m.gK
 fI:∀ g,g<E.ng→∃ l,φ g=some l∧l.gK=g∧l.off=0
structure Step (φ:cS) (W:List Nat) (w w':World):Prop where
 os:w'.os=w.os
 tape:w'.tape=w.tape
 output:w'.output=w.output
 size:w.heap.size≤w'.heap.size
 keep:∀ B,B<w.heap.size→(∀ j∈W,∀ l,φ j=some l→l.gK≠B)→w'.heap[B]?=w.heap[B]?
structure cR (W:List Nat) (H H':Hp):Prop where
 n:H.n≤H'.n
 keep:∀ i,i<H.n→i∉W→H'.get i=H.get i
 live:∀ i,i<H.n→live (H'.get i)=true→live (H.get i)=true
 dA:∀ i,i<H.n→dA (H'.get i)=true→dA (H.get i)=true
theorem Step.refl (φ:cS) (W:List Nat) (w:World):Step φ W w w:=⟨rfl,rfl,rfl,Nat.le_refl _,fun _ _ _=>rfl⟩
theorem cR.refl (W:List Nat) (H:Hp):cR W H H:=⟨Nat.le_refl _,fun _ _ _=>rfl,fun _ _ h=>h,fun _ _ h=>h⟩
theorem cR.trans {W V:List Nat} {A B C:Hp} (h:cR W A B) (k:cR V B C):cR (W++V) A C:=
 ⟨Nat.le_trans h.n k.n,fun i hi hn=>by
   have hn':i∉W∧i∉V:=by simpa using hn
   exact (k.keep i (Nat.lt_of_lt_of_le hi h.n) hn'.2).trans (h.keep i hi hn'.1),
  fun i hi hl=>h.live i hi (k.live i (Nat.lt_of_lt_of_le hi h.n) hl),fun i hi hl=>h.dA i hi (k.dA i (Nat.lt_of_lt_of_le hi h.n) hl)⟩
theorem cR.wider {W V:List Nat} {A B:Hp} (h:cR W A B) (hs:∀ i,i∈W→i∈V):cR V A B:=
 ⟨h.n,fun i hi hn=>h.keep i hi (fun hw=>hn (hs i hw)),h.live,h.dA⟩
structure Out (E:Env) (base:Nat) (φ:cS) (w:World) (H H':Hp) (W:List Nat) (φ':cS) (w':World):Prop where
 ext:∀ i,(i<H.n∨H'.n≤i)→φ' i=φ i
 rel:Rel E base H' φ' w'
 step:Step φ W w w'
 fresh:∀ i l,H.n≤i→i<H'.n→φ' i=some l→
  w.heap.size≤l.gK∨∃ j∈W,∃ m,j<H.n∧φ j=some m∧m.gK=l.gK∧dA (H.get j)=true∧live (H'.get j)=false
def gM (φ:cS) (a b:Nat):Prop:=∀ i,a≤i→i<b→φ i=none
theorem Out.sub {E:Env} {base:Nat} {φ:cS} {w:World} {H H':Hp} {W:List Nat} {φ':cS} {w':World} (h:Out E base φ w H H' W φ' w') (hf:gM φ H.n H'.n) :
  ∀ i l,φ i=some l→φ' i=some l:=by
 intro i l hi
 by_cases h1:i<H.n
 ·rw [h.ext i (.inl h1)];exact hi
 ·by_cases h2:H'.n≤i
  ·rw [h.ext i (.inr h2)];exact hi
  ·rw [hf i aa aa] at hi;cases hi
theorem Out.refl {E:Env} {base:Nat} {φ:cS} {w:World} {H:Hp} (W:List Nat) (h:Rel E base H φ w):Out E base φ w H H W φ w:=
 ⟨fun _ _=>rfl,h,Step.refl ..,fun i l h1 h2=>by omega⟩
theorem Out.trans {E:Env} {base:Nat} {φ:cS} {w:World} {H H1 H2:Hp} {W V:List Nat} {φ1 φ2:cS} {w1 w2:World} (x1:cR W H H1) (x2:cR V H1 H2)
  (h:Out E base φ w H H1 W φ1 w1) (k:Out E base φ1 w1 H1 H2 V φ2 w2) (hf:gM φ H.n H2.n):Out E base φ w H H2 (W++V) φ2 w2:=by
 have n1:=x1.n
 have n2:=x2.n
 refine ⟨fun i hi=>?_,k.rel,⟨k.step.os.trans h.step.os,k.step.tape.trans h.step.tape,k.step.output.trans h.step.output,Nat.le_trans h.step.size k.step.size,fun B hB hn=>?_⟩,fun i l h1 h2 hl=>?_⟩
 ·rcases hi with hi |hi
  ·rw [k.ext i (.inl aa),h.ext i (.inl hi)]
  ·rw [k.ext i (.inr hi),h.ext i (.inr aa)]
 ·have e1:w1.heap[B]?=w.heap[B]?:=h.step.keep B hB fun j hj l hl=>hn j (by simp [hj]) l hl
  have:=h.step.size
  rw [← e1]
  refine k.step.keep B aa fun j hj l hl=>?_
  by_cases hjH:j<H.n∨H1.n≤j
  ·rw [h.ext j hjH] at hl;exact hn j (by simp [hj]) l hl
  ·rcases h.fresh j l aa aa hl with hb |⟨j',hj',m,_,hm,hml,_⟩
   ·omega
   ·rw [← hml];exact hn j' (by simp [hj']) m hm
 ·by_cases hi:i<H1.n
  ·have Yv:φ1 i=some l:=by rw [← k.ext i (.inl hi)];exact hl
   rcases h.fresh i l h1 hi Yv with hb |⟨j,hj,m,hjn,hm,hml,hw,hd⟩
   ·exact .inl hb
   ·refine .inr ⟨j,by simp [hj],m,hjn,hm,hml,hw,?_⟩
    cases hlv:live (H2.get j) with
    |false=>rfl
    |true=>rw [x2.live j aa hlv] at hd;exact hd
  ·rcases k.fresh i l aa h2 hl with hb |⟨j,hj,m,hjn,hm,hml,hw,hd⟩
   ·have:=h.step.size;exact .inl aa
   ·by_cases hjH:j<H.n
    ·rw [h.ext j (.inl hjH)] at hm
     exact .inr ⟨j,by simp [hj],m,hjH,hm,hml,x1.dA j hjH hw,hd⟩
    ·rcases h.fresh j m aa hjn hm with hb |⟨j',hj',m',adQ,hm',agZ,hw',hd'⟩
     ·exact .inl aa
     ·refine .inr ⟨j',by simp [hj'],m',adQ,hm',by omega,hw',?_⟩
      cases hlv:live (H2.get j') with
      |false=>rfl
      |true=>rw [x2.live j' aa hlv] at hd';exact hd'
end Go.Am
namespace Go.Am
def bU {α:Type} (P:Program):Sem α→Option α
 |.pure a=>some a
 |.program k=>bU P (k P)
 |.mark _ k=>bU P k
 |_=>none
abbrev Tm:=Tr Value
def ev (E:Env) (T:Tm):Operand→Option Value
 |.tmp t=>T.get t
 |.const v=>bif ground v then some v else none
 |.global g=>bif Nat.blt g E.ng then some (.pointer (some ⟨g,0,none⟩)) else none
 |.func f=>some (.func (.func f) #[] #[])
def HV (E:Env) (T:Tm):List Operand→Option (List Value)
 |[]=>some []
 |x::xs=>match ev E T x with
  |some v=>match HV E T xs with
   |some vs=>some (v::vs)
   |none=>none
  |none=>none
def Gb (E:Env) (T:Tm):Option Operand→Option (Option Value)
 |none=>some none
 |some x=>match ev E T x with
  |some v=>some (some v)
  |none=>none
def splice:List Value→Nat→List Value→List Value
 |c,0,[]=>c
 |[],_,_=>[]
 |_::c,0,x::xs=>x::splice c 0 xs
 |y::c,k+1,xs=>y::splice c k xs
def row (h:Hp) (b off n:Nat):Option (List Value):=
 match h.get b with
 |some (.cells c _ _)=>bif Nat.ble (off+n) c.length then some ((c.drop off).take n) else none
 |_=>none
def cell (h:Hp) (b off:Nat):Option Value:=
 match h.get b with
 |some (.cells c _ _)=>c[off]?
 |_=>none
def aq (E:Env) (t:TypeId) (b off:Nat) (h:Hp):Option Value:=
 match E.agg t with
 |some true=>match E.size t with
  |some n=>match row h b off n with
   |some xs=>some (.agg xs.toArray)
   |none=>none
  |none=>none
 |some false=>cell h b off
 |none=>none
def az (E:Env) (t:TypeId) (b off:Nat) (v:Value) (h:Hp):Option Hp:=
 match h.get b with
 |some (.cells c e false)=>match E.size t with
  |some n=>bif Nat.beq v.cells.size n&&v.cells.toList.all one&&Nat.ble (off+n) c.length then some (h.set b (.cells (splice c off v.cells.toList) e false)) else none
  |none=>none
 |_=>none
def Nv (E:Env) (t:TypeId) (cs:Array Value) (off:Nat):Option Value:=
 match E.agg t with
 |some true=>match E.size t with
  |some n=>some (.agg (cs.extract off (off+n)))
  |none=>none
 |some false=>cs[off]?
 |none=>none
abbrev Pn:=Option (Value×Hp×List Nat×List Nat)
def bJ:Value:=.tuple #[]
def ah0 (E:Env) (e:TypeId) (cs:List Value) (h:Hp):Hp:=h.new (.cells cs e false)
def fD (z:List Value):Nat→List Value
 |0=>[]
 |n+1=>z++fD z n
def BO (E:Env) (T:Tm) (place:Nat→Option (Nat×Nat)) (c:List Value):List (Nat×Operand)→Option (List Value)
 |[]=>some c
 |(i,x)::rest=>match place i with
  |some (off,size)=>match ev E T x with
   |some v=>bif Nat.beq v.cells.size size&&Nat.ble (off+size) c.length then BO E T place (splice c off v.cells.toList) rest else none
   |none=>none
  |none=>none
def Lr (E:Env) (fs:Array Field) (i:Nat):Option (Nat×Nat):=
 match fs[i]? with
 |some f=>match E.size f.type with
  |some n=>some (f.offset,n)
  |none=>none
 |none=>none
def Kd (E:Env) (T:Tm) (t:TypeId) (parts:Array (Nat×Operand)):Option Value:=
 match E.zero t,E.ul t with
 |some z,some (.struct fs)=>
  bif ground z&&fs.all (fun f=>(E.size f.type).isSome) then
  match BO E T (Lr E fs) z.cells.toList parts.toList with
  |some c=>some (.agg c.toArray)
  |none=>none
  else none
 |some z,some (.array _ e)=>match E.size e with
  |some n=>bif ground z then (match BO E T (fun i=>some (i*n,n)) z.cells.toList parts.toList with
   |some c=>some (.agg c.toArray)
   |none=>none) else none
  |none=>none
 |_,_=>none
def intOf (v:Value):Option Int:=match v with |.int _ n=>some n |_=>none
def upto (v:Value) (y:Nat):Option Nat:=match v with |.int _ n=>bif (decide (0≤n)&&decide (n≤(y:Int))) then some n.toNat else none |_=>none
def jv (v:Option Value) (y d:Nat):Option Nat:=match v with |none=>some d |some v=>upto v y
inductive ac1 where
 |known (c:Nat)
 |ZH (s:Nat)
def tB (c:Nat):ac1:=bif Nat.beq (c%2) 1 then .known (c / 2) else .ZH (c / 2)
def mB (lo hi mx:Option Value) (len cap:Nat):Option (Nat×Nat×Nat):=
 bif mx.isSome&&hi.isNone then none else
 match jv mx cap cap with
 |some m=>match jv hi m len with
  |some h=>match jv lo h 0 with
   |some l=>some (l,h,m)
   |none=>none
  |none=>none
 |none=>none
def ja (E:Env) (t:TypeId) (x:Value) (lo hi mx:Option Value):Option Value:=
 match x with
 |.slice none 0 0=>match E.ul t with
  |some (.slice e)=>match E.size e,mB lo hi mx 0 0 with
   |some _,some _=>some (.slice none 0 0)
   |_,_=>none
  |_=>none
 |.slice (some ⟨b,off,none⟩) n c=>match E.ul t with
  |some (.slice e)=>match E.size e with
   |some sz=>match tB c with
    |.known k=>match mB lo hi mx n k with
     |some (l,h,m)=>some (.slice (some (bif Nat.beq m l then ⟨b,off,none⟩ else ⟨b,off+l*sz,none⟩)) (h-l) (2*(m-l)+1))
     |none=>none
    |.ZH s=>match mB lo hi mx n n with
     |some (l,h,m)=>match mx with
      |some _=>some (.slice (some (bif Nat.beq m l then ⟨b,off,none⟩ else ⟨b,off+l*sz,none⟩)) (h-l) (2*(m-l)+1))
      |none=>bif Nat.beq s sz&&(Nat.beq l 0||Nat.blt l n) then some (.slice (some ⟨b,off+l*sz,none⟩) (h-l) (2*s)) else none
     |none=>none
   |none=>none
  |_=>none
 |.pointer (some ⟨b,off,none⟩)=>match E.ul t,mx with
  |some (.array n e),none=>match E.size e,mB lo hi none n n with
   |some sz,some (l,h,m)=>some (.slice (some (bif Nat.beq m l then ⟨b,off,none⟩ else ⟨b,off+l*sz,none⟩)) (h-l) (2*(m-l)+1))
   |_,_=>none
  |_,_=>none
 |_=>none
def vX (E:Env) (t:TypeId) (x:Value) (f:Nat):Option Value:=
 match x,E.ul t with
 |.pointer (some ⟨b,off,none⟩),some (.struct fs)=>match fs[f]? with
  |some f=>match E.size f.type with
   |some (_+1)=>some (.pointer (some ⟨b,off+f.offset,none⟩))
   |_=>none
  |none=>none
 |_,_=>none
def aN (E:Env) (t:TypeId) (x i:Value):Option Value:=
 match E.ul t,i with
 |some (.array n e),.int _ i=>match x,E.size e with
  |.pointer (some ⟨b,off,none⟩),some sz=>bif decide (0≤i)&&decide (i<(n:Int)) then some (.pointer (some ⟨b,off+i.toNat*sz,none⟩)) else none
  |_,_=>none
 |some (.slice e),.int _ i=>match x,E.size e with
  |.slice (some ⟨b,off,none⟩) n _,some sz=>bif decide (0≤i)&&decide (i<(n:Int)) then some (.pointer (some ⟨b,off+i.toNat*sz,none⟩)) else none
  |_,_=>none
 |_,_=>none
def X3 (E:Env) (t:TypeId) (x y:Value):Option Bool:=
 match E.ul t,x,y with
 |some (.pointer _),.pointer none,.pointer (some _)=>some false
 |some (.pointer _),.pointer (some _),.pointer none=>some false
 |some (.pointer e),.pointer (some ⟨b,o,none⟩),.pointer (some ⟨b',o',none⟩)=>match E.size e with
  |some (_+1)=>bif Nat.beq b b' then some (Nat.beq o o') else none
  |_=>none
 |some (.slice _),.slice none 0 0,.slice (some _) _ _=>some false
 |some (.slice _),.slice (some _) _ _,.slice none 0 0=>some false
 |some (.map _ _),.map none,.map (some _)=>some false
 |some (.map _ _),.map (some _),.map none=>some false
 |some (.func _ _ _),.nilFunc,.func _ _ _=>some false
 |some (.func _ _ _),.func _ _ _,.nilFunc=>some false
 |some (.interface _),.nilIface,.iface _ _=>some false
 |some (.interface _),.iface _ _,.nilIface=>some false
 |_,_,_=>none
def pI (k:Value):List MapEntry→Option (Option Value)
 |[]=>some none
 |e::es=>match k,e.key with
  |.string a,.string b=>bif a==b then some (some e.val) else pI k es
  |.int i a,.int j b=>bif decide (i=j) then (bif decide (a=b) then some (some e.val) else pI k es) else none
  |_,_=>none
def D1 (k v:Value) (clock:Nat):List MapEntry→Option (List MapEntry×Bool)
 |[]=>some ([{ key:=k,val:=v,born:=clock }],true)
 |e::es=>match k,e.key with
  |.string a,.string b=>bif a==b then some ({ e with key:=k,val:=v }::es,false) else match D1 k v clock es with |some (es,n)=>some (e::es,n) |none=>none
  |.int i a,.int j b=>bif decide (i=j) then (bif decide (a=b) then some ({ e with key:=k,val:=v }::es,false) else match D1 k v clock es with |some (es,n)=>some (e::es,n) |none=>none) else none
  |_,_=>none
def AS:TypeDesc→Value→Bool
 |.string,.string _=>true
 |.int k,.int k' _=>decide (k=k')
 |_,_=>false
def n9 (h:Hp) (sz:Nat):Value→Option (Nat×List Value×List Nat)
 |.string s=>some (s.size,(s.data.map fun b=>.int .u8 b.toNat).toList,[])
 |.slice none 0 0=>some (0,[],[])
 |.slice (some ⟨b,off,none⟩) n _=>match row h b off (n*sz) with
  |some xs=>some (n,xs,[b])
  |none=>none
 |_=>none
def most:Nat:=1099511627776
def mN (x:Value) (sz:Nat):Bool:=match x with |.string _=>Nat.beq sz 1 |_=>true
def Pg (E:Env) (ts:Array TypeId):Bool:=
 match ts[1]? with
 |some u=>match E.ul u with
  |some (.int _)=>true
  |some _=>false
  |none=>true
 |none=>false
def uI (E:Env) (e:TypeId) (i:TypeInfo) (s:Value) (m:Nat) (new:List Value) (R:List Nat) (h:Hp):Pn:=
 match s with
 |.slice none 0 0=>
  bif Nat.beq m 0 then some (.slice none 0 0,h,[],R) else
  bif Nat.ble (m*i.bytes) most then some (.slice (some ⟨h.n,0,none⟩) m (2*i.size),h.new (.cells new e false),[],R) else none
 |.slice (some ⟨b,off,none⟩) n c=>match tB c with
  |.known c=>
   bif Nat.ble (n+m) c then
    match h.get b with
    |some (.cells cs e' false)=>
     bif Nat.ble (off+(n+m)*i.size) cs.length then some (.slice (some ⟨b,off,none⟩) (n+m) (2*c+1),h.set b (.cells (splice cs (off+n*i.size) new) e' false),[b],b::R) else none
    |_=>none
   else match row h b off (n*i.size) with
    |some old=>bif Nat.ble ((n+m)*i.bytes) most then some (.slice (some ⟨h.n,0,none⟩) (n+m) (2*i.size),h.new (.cells (old++new) e false),[],b::R) else none
    |none=>none
  |.ZH s=>
   match h.get b with
   |some (.cells cs e' false)=>
    bif Nat.ble (off+n*i.size) cs.length&&Nat.beq s i.size&&Nat.beq e e'&&Nat.ble ((n+m)*i.bytes) most then some (.slice (some ⟨h.n,0,none⟩) (n+m) (2*s),(h.set b .dead).new (.cells ((cs.drop off).take (n*i.size)++new) e false),[b],b::R) else none
   |_=>none
 |_=>none
def ee (E:Env) (ts:Array TypeId) (s x:Value) (h:Hp):Pn:=
 match ts[0]? with
 |some t=>match E.ul t with
  |some (.slice e)=>match E.info e with
   |some i=>match i.zero with
    |some z=>
     bif !Pg E ts&&Nat.beq z.cells.size i.size&&Nat.blt 0 i.size&&Nat.blt 0 i.bytes&&mN x i.size then
     match n9 h i.size x with
     |some (m,new,R)=>bif new.all one then uI E e i s m new R h else none
     |none=>none
     else none
    |none=>none
   |none=>none
  |_=>none
 |none=>none
def AK (E:Env) (T:Tm) (xs:List Operand):Bool:=xs.all fun x=>match ev E T x with |some v=>ground v |none=>false
def eo (E:Env) (T:Tm) (o:Oper):Option Value:=
 bif AK E T o.op.operands.toList then
  match bU E.P (execOp (fun x=>(ev E T x).getD bJ) o) with
  |some (.value v)=>bif ground v then some v else none
  |_=>none
 else none
def Y7 (E:Env) (ts:Array TypeId) (x:Value) (h:Hp):Pn:=
 match ts[0]? with
 |some t=>match E.ul t,x with
  |some (.slice _),.slice _ n _=>some (.int .i64 n,h,[],[])
  |some .string,.string s=>some (.int .i64 s.size,h,[],[])
  |some (.map _ _),.map none=>some (.int .i64 0,h,[],[])
  |some (.map _ _),.map (some b)=>match h.get b with
   |some (.map es _)=>some (.int .i64 es.length,h,[],[b])
   |_=>none
  |some (.pointer p),_=>match E.ul p with
   |some (.array n _)=>some (.int .i64 n,h,[],[])
   |_=>none
  |_,_=>none
 |none=>none
def XT (E:Env) (ts:Array TypeId) (x:Value) (h:Hp):Pn:=
 match ts[0]? with
 |some t=>match E.ul t,x with
  |some (.slice _),.slice none 0 0=>some (.int .i64 0,h,[],[])
  |some (.slice _),.slice (some _) n c=>match tB c with |.known k=>some (.int .i64 k,h,[],[]) |_=>none
  |_,_=>none
 |none=>none
def Ma (E:Env) (ts:Array TypeId) (d s:Value) (h:Hp):Pn:=
 match ts[0]? with
 |some t=>match E.ul t with
  |some (.slice e)=>match E.size e with
   |some sz=>bif mN s sz then (match d,n9 h sz s with
    |.slice none 0 0,some (m,new,R)=>some (.int .i64 0,h,[],R)
    |.slice (some ⟨b,off,none⟩) n _,some (m,new,R)=>
     match h.get b with
     |some (.cells cs e' false)=>
      bif Nat.ble (off+min m n*sz) cs.length&&new.all one then some (.int .i64 ((min m n:Nat):Int),h.set b (.cells (splice cs off (new.take (min m n*sz))) e' false),[b],b::R) else none
     |_=>none
    |_,_=>none) else none
   |none=>none
  |_=>none
 |none=>none
def vU (E:Env) (ts:Array TypeId) (x:Value) (h:Hp):Pn:=
 match ts[0]? with
 |some t=>match E.ul t,x with
  |some (.slice e),.slice _ 0 _=>some (bJ,h,[],[])
  |some (.slice e),.slice (some ⟨b,off,none⟩) (n+1) _=>match E.zero e,h.get b with
   |some z,some (.cells cs e' false)=>
    bif Nat.ble (off+(n+1)*z.cells.size) cs.length&&z.cells.toList.all one&&ground z then some (bJ,h.set b (.cells (splice cs off (fD z.cells.toList (n+1))) e' false),[b],[b]) else none
   |_,_=>none
  |_,_=>none
 |none=>none
def rP (E:Env) (t:TypeId) (l c:Value) (h:Hp):Pn:=
 match E.ul t,l,c with
 |some (.slice e),.int _ l,.int _ c=>match E.info e with
  |some i=>match i.zero with
   |some z=>
    bif decide (0≤l)&&decide (l≤c)&&decide (c*i.bytes≤(most:Int))&&decide (c≤(most:Int))&&Nat.beq z.cells.size i.size&&z.cells.toList.all one&&ground z then
     some (.slice (some ⟨h.n,0,none⟩) l.toNat (2*c.toNat+1),h.new (.cells (fD z.cells.toList c.toNat) e false),[],[])
    else none
   |none=>none
  |none=>none
 |_,_,_=>none
def tw (E:Env) (T:Tm) (t:TypeId) (len:Nat) (parts:Array (Nat×Operand)) (h:Hp):Pn:=
 match E.ul t with
 |some (.slice e)=>match E.size e,E.zero e with
  |some n,some z=>
   bif Nat.ble (len*n) 16777216&&Nat.beq z.cells.size n&&ground z then
    match BO E T (fun i=>some (i*n,n)) (fD z.cells.toList len) parts.toList with
    |some c=>bif c.all one then some (.slice (some ⟨h.n,0,none⟩) len (2*len+1),h.new (.cells c e false),[],[]) else none
    |none=>none
   else none
  |_,_=>none
 |_=>none
def gZ (E:Env) (t:TypeId) (m k:Value) (ok:Bool) (h:Hp):Pn:=
 match E.ul t with
 |some (.map kt vt)=>match E.ul kt,E.zero vt with
  |some kd,some z=>
   bif AS kd k then
    match (match m with |.map none=>some ([],[]) |.map (some b)=>(match h.get b with |some (.map es _)=>some (es,[b]) |_=>none) |_=>none:Option (List MapEntry×List Nat)) with
    |some (es,R)=>match pI k es with
     |some (some v)=>some (bif ok then .tuple #[v,.bool true] else v,h,[],R)
     |some none=>bif ground z then some (bif ok then .tuple #[z,.bool false] else z,h,[],R) else none
     |none=>none
    |none=>none
   else none
  |_,_=>none
 |_=>none
def cH (E:Env) (t:TypeId) (m k v:Value) (h:Hp):Pn:=
 match E.ul t,m with
 |some (.map kt vt),.map (some b)=>match E.ul kt,h.get b with
  |some kd,some (.map es clock)=>
   bif AS kd k then
    match D1 k v clock es with
    |some (es',n)=>some (bJ,h.set b (.map es' (bif n then clock+1 else clock)),[b],[b])
    |none=>none
   else none
  |_,_=>none
 |_,_=>none
def oA (want:List (String×TypeId)) (got:Array Method):Bool:=want.all fun m=>got.any fun g=>g.name==m.1&&g.sig==m.2
def F4 (E:Env) (x:Value) (a:TypeId) (ok:Bool):Option Value:=
 match E.ul a,x with
 |some (.interface want),.iface t v=>match E.info t with
  |some i=>bif oA want.toList i.methods then some (bif ok then .tuple #[x,.bool true] else x) else
    match E.zero a with |some z=>bif ok&&ground z then some (.tuple #[z,.bool false]) else none |none=>none
  |none=>none
 |some (.interface _),.nilIface=>match E.zero a with |some z=>bif ok&&ground z then some (.tuple #[z,.bool false]) else none |none=>none
 |some _,.iface t v=>bif Nat.beq t a then some (bif ok then .tuple #[v,.bool true] else v) else
    match E.zero a with |some z=>bif ok&&ground z then some (.tuple #[z,.bool false]) else none |none=>none
 |some _,.nilIface=>match E.zero a with |some z=>bif ok&&ground z then some (.tuple #[z,.bool false]) else none |none=>none
 |_,_=>none
def kZ:List Value→Option (List UInt8)
 |[]=>some []
 |.int .u8 n::xs=>match kZ xs with |some r=>some (UInt8.ofNat n.toNat::r) |none=>none
 |_=>none
def qM (E:Env) (s d:TypeId) (x:Value) (h:Hp):Pn:=
 match E.ul s,E.ul d,x with
 |some .string,some (.slice e),.string b=>match E.ul e with
  |some (.int .u8)=>bif Nat.ble b.size most then some (.slice (some ⟨h.n,0,none⟩) b.size 2,h.new (.cells ((b.data.map fun b=>.int .u8 b.toNat).toList) e false),[],[]) else none
  |_=>none
 |some (.slice e),some .string,.slice none 0 0=>match E.ul e with
  |some (.int .u8)=>some (.string ⟨#[]⟩,h,[],[])
  |_=>none
 |some (.slice e),some .string,.slice (some ⟨b,off,none⟩) n _=>match E.ul e with
  |some (.int .u8)=>match row h b off n with
   |some xs=>match kZ xs with
    |some l=>some (.string ⟨l.toArray⟩,h,[],[b])
    |none=>none
   |none=>none
  |_=>none
 |_,_,_=>none
def simple (E:Env) (o:Oper) (T:Tm) (h:Hp):Pn:=
 match o.op with
 |.move x |.assign x=>match ev E T x with |some v=>some (v,h,[],[]) |none=>none
 |.pick c a b=>match ev E T c with
  |some (.bool true)=>match ev E T a with |some v=>some (v,h,[],[]) |none=>none
  |some (.bool false)=>match ev E T b with |some v=>some (v,h,[],[]) |none=>none
  |_=>none
 |.alloc t=>match E.zero t,E.size t with
  |some z,some n=>bif ground z&&Nat.beq z.cells.size n then some (.pointer (some ⟨h.n,0,none⟩),h.new (.cells z.cells.toList t false),[],[]) else none
  |_,_=>none
 |.box t x=>match ev E T x with
  |some v=>some (.pointer (some ⟨h.n,0,none⟩),h.new (.cells v.cells.toList t false),[],[])
  |none=>none
 |.build t ps=>match Kd E T t ps with |some v=>some (v,h,[],[]) |none=>none
 |.buildSlice t len ps=>tw E T t len ps h
 |.load t x=>match ev E T x with
  |some (.pointer (some ⟨b,off,none⟩))=>match aq E t b off h with |some v=>some (v,h,[],[b]) |none=>none
  |_=>none
 |.store t x v=>match ev E T x,ev E T v with
  |some (.pointer (some ⟨b,off,none⟩)),some v=>match az E t b off v h with |some h'=>some (bJ,h',[b],[b]) |none=>none
  |_,_=>none
 |.nilCheck x=>match ev E T x with
  |some (.pointer (some a))=>some (.pointer (some a),h,[],[])
  |some (.func (.func f) a b)=>some (.func (.func f) a b,h,[],[])
  |some (.iface t v)=>some (.iface t v,h,[],[])
  |_=>none
 |.binOp op t x y _=>match eo E T o with
  |some v=>some (v,h,[],[])
  |none=>match op,ev E T x,ev E T y with
   |.eql,some x,some y=>match X3 E t x y with |some b=>some (.bool b,h,[],[]) |none=>none
   |.neq,some x,some y=>match X3 E t x y with |some b=>some (.bool (!b),h,[],[]) |none=>none
   |_,_,_=>none
 |.unOp _ _ _=>match eo E T o with |some v=>some (v,h,[],[]) |none=>none
 |.convert s d x=>match eo E T o with
  |some v=>some (v,h,[],[])
  |none=>match ev E T x with |some v=>qM E s d v h |none=>none
 |.makeInterface t x=>match ev E T x,E.ul t with
  |_,some (.interface _)=>none
  |some v,some _=>some (.iface t v,h,[],[])
  |_,_=>none
 |.makeFunc (.func f) a b=>match HV E T a.toList,HV E T b.toList with
  |some a,some b=>some (.func (.func f) a.toArray b.toArray,h,[],[])
  |_,_=>none
 |.makeMap t r=>match Gb E T r with
  |some none=>some (.map (some h.n),h.new (.map [] 0),[],[])
  |some (some (.int _ _))=>match E.ul t with |some (.map _ _)=>some (.map (some h.n),h.new (.map [] 0),[],[]) |_=>none
  |_=>none
 |.makeSlice t l c=>match ev E T l,ev E T c with
  |some l,some c=>rP E t l c h
  |_,_=>none
 |.slice t x l hi m=>match ev E T x,Gb E T l,Gb E T hi,Gb E T m with
  |some (.string s),some l,some hi,some m=>match eo E T o with |some v=>some (v,h,[],[]) |none=>none
  |some x,some l,some hi,some m=>match ja E t x l hi m with |some v=>some (v,h,[],[]) |none=>none
  |_,_,_,_=>none
 |.fieldAddr t x f=>match ev E T x with
  |some x=>match vX E t x f with |some v=>some (v,h,[],[]) |none=>none
  |none=>none
 |.field t x f=>match ev E T x,E.ul t with
  |some (.agg cs),some (.struct fs)=>match fs[f]? with
   |some f=>match Nv E f.type cs f.offset with |some v=>some (v,h,[],[]) |none=>none
   |none=>none
  |_,_=>none
 |.indexAddr t x i=>match ev E T x,ev E T i with
  |some x,some i=>match aN E t x i with |some v=>some (v,h,[],[]) |none=>none
  |_,_=>none
 |.index t x i=>match eo E T o with
  |some v=>some (v,h,[],[])
  |none=>match ev E T x,ev E T i,E.ul t with
   |some (.agg cs),some (.int _ i),some (.array n e)=>match E.size e with
    |some sz=>bif decide (0≤i)&&decide (i<(n:Int)) then (match Nv E e cs (i.toNat*sz) with |some v=>some (v,h,[],[]) |none=>none) else none
    |none=>none
   |_,_,_=>none
 |.lookup t m k ok=>match ev E T m,ev E T k with
  |some m,some k=>gZ E t m k ok h
  |_,_=>none
 |.mapUpdate t m k v |.insert t m k v=>match ev E T m,ev E T k,ev E T v with
  |some m,some k,some v=>cH E t m k v h
  |_,_,_=>none
 |.typeAssert x _ a ok=>match ev E T x with
  |some x=>match F4 E x a ok with |some v=>some (v,h,[],[]) |none=>none
  |none=>none
 |.extract x i=>match ev E T x with
  |some (.tuple vs)=>match vs[i]? with |some v=>some (v,h,[],[]) |none=>none
  |_=>none
 |.call { callee:=.builtin .len,args,argTypes }=>match HV E T args.toList with |some [x]=>Y7 E argTypes x h |_=>none
 |.call { callee:=.builtin .cap,args,argTypes }=>match HV E T args.toList with |some [x]=>XT E argTypes x h |_=>none
 |.call { callee:=.builtin .append,args,argTypes }=>match HV E T args.toList with |some [s,x]=>ee E argTypes s x h |_=>none
 |.call { callee:=.builtin .copy,args,argTypes }=>match HV E T args.toList with |some [d,s]=>Ma E argTypes d s h |_=>none
 |.call { callee:=.builtin .clear,args,argTypes }=>match HV E T args.toList with |some [x]=>vU E argTypes x h |_=>none
 |.call { callee:=.builtin .max,.. } |.call { callee:=.builtin .min,.. }=>match eo E T o with |some v=>some (v,h,[],[]) |none=>none
 |_=>none
inductive Ex where
 |normal
 |exit (id:Nat)
 |goto (l:Nat)
 |ret
 |panic (v:Value)
structure St where
 t:Tm
 h:Hp
 d:List (Value×List Value)
 w:List Nat
abbrev Call:=FuncId→List Value→Hp→Ad
def sG (T:Tm) (nt:Nat) (d:Option Tmp) (v:Value):Option Tm:=
 match d with
 |some d=>bif Nat.blt d nt then some (T.set d v) else none
 |none=>some T
def oa (ops:Array Oper) (T:Tm) (o:Oper):Option Bool:=
 match o.guard with
 |none=>some true
 |some (j,want)=>match ops[j]? with
  |some p=>match p.dst with
   |some d=>match T.get d with
    |some (.bool b)=>some (b==want)
    |some _=>some false
    |none=>none
   |none=>some false
  |none=>some false
def yN (E:Env) (T:Tm) (c:Go.Call):Option (FuncId×List Value):=
 match HV E T c.args.toList with
 |some args=>match c.callee with
  |.value f=>match ev E T f with
   |some (.func (.func g) a b)=>some (g,a.toList++args++b.toList)
   |_=>none
  |.invoke r name=>match ev E T r with
   |some (.iface t v)=>match E.info t with
    |some i=>match i.methods.find? (·.name==name) with
     |some m=>bif m.path.isEmpty then (match m.func with
      |some (f,p)=>match E.ul t with
       |some (.pointer _)=>bif p then some (f,v::args) else none
       |some _=>bif p then none else some (f,v::args)
       |none=>none
      |none=>none) else none
     |none=>none
    |none=>none
   |_=>none
  |.builtin _=>none
 |none=>none
inductive OpX where
 |val (v:Value) (h:Hp) (d:List (Value×List Value)) (w:List Nat) (r:Option (List Nat))
 |Pu (v:Value) (h:Hp) (w:List Nat)
def dR (E:Env) (call:Call) (o:Oper) (T:Tm) (h:Hp) (d:List (Value×List Value)):Option OpX:=
 match o.op with
 |.call { callee:=.builtin _,.. }=>match simple E o T h with
  |some (v,h',w,r)=>some (.val v h' d w (some r))
  |none=>none
 |.call c=>match yN E T c with
  |some (f,args)=>match call f args h with
   |some (.ret v,h',w)=>some (.val v h' d w none)
   |some (.Pu v,h',w)=>some (.Pu v h' w)
   |none=>none
  |none=>none
 |.defer { callee:=.value f,args,.. }=>match ev E T f,HV E T args.toList with
  |some (.func (.func g) a b),some args=>some (.val bJ h ((.func (.func g) a b,args)::d) [] (some []))
  |_,_=>none
 |.panic x=>match ev E T x with
  |some (.iface t v)=>some (.Pu (.iface t v) h [])
  |_=>none
 |_=>match simple E o T h with
  |some (v,h',w,r)=>some (.val v h' d w (some r))
  |none=>none
def zL (E:Env) (call:Call) (nt:Nat) (ops:Array Oper):List Oper→St→Option (Option Value×St)
 |[],s=>some (none,s)
 |o::rest,s=>match oa ops s.t o with
  |some true=>match dR E call o s.t s.h s.d with
   |some (.val v h d w _)=>match sG s.t nt o.dst v with
    |some t=>zL E call nt ops rest ⟨t,h,d,s.w++w⟩
    |none=>none
   |some (.Pu v h w)=>some (some v,⟨s.t,h,s.d,s.w++w⟩)
   |none=>none
  |some false=>match sG s.t nt o.dst bJ with
   |some t=>zL E call nt ops rest ⟨t,s.h,s.d,s.w⟩
   |none=>none
  |none=>none
def ace:Operand→Option Tmp
 |.tmp t=>some t
 |_=>none
def iU (ops:Array Oper) (o:Oper):List Tmp:=
 o.op.operands.toList.filterMap ace ++
 (match o.guard with
  |some (j,_)=>match ops[j]? with
   |some p=>match p.dst with
    |some d=>[d]
    |none=>[]
   |none=>[]
  |none=>[])
def oT (T:Tm):List Tmp→Tm→Tm
 |[],a=>a
 |t::ts,a=>match T.get t with
  |some v=>oT T ts (a.set t v)
  |none=>oT T ts a
structure jT where
 dst:Option Tmp
 looks:List Tmp
 w:List Nat
 r:Option (List Nat)
 lo:Nat
 hi:Nat
def bC (h h':Hp) (w:List Nat):Bool:=w.all fun q=>bif Nat.blt q h.n then dA (h.get q) else Nat.blt q h'.n
def r7 (E:Env) (call:Call) (nt:Nat) (ops:Array Oper):List Oper→St→List jT→Option (St×List jT)
 |[],s,fs=>some (s,fs.reverse)
 |o::rest,s,fs=>match oa ops (oT s.t (iU ops o) .nil) o with
  |some true=>match dR E call o (oT s.t (iU ops o) .nil) s.h s.d with
   |some (.val v h d w r)=>match sG s.t nt o.dst v,bC s.h h w with
    |some t,true=>r7 E call nt ops rest ⟨t,h,d,s.w++w⟩ (⟨o.dst,iU ops o,w.filter (Nat.blt · s.h.n),r,s.h.n,h.n⟩::fs)
    |_,_=>none
   |_=>none
  |some false=>match sG s.t nt o.dst bJ with
   |some t=>r7 E call nt ops rest ⟨t,s.h,s.d,s.w⟩ (⟨o.dst,iU ops o,[],some [],s.h.n,s.h.n⟩::fs)
   |none=>none
  |none=>none
def Fh (x:Nat) (l:List Nat):Bool:=l.any (Nat.beq x)
def Kl (a b:List Nat):Bool:=a.all fun x=>!Fh x b
def BL (a:List Nat) (b:Option (List Nat)):Bool:=match b with |some b=>Kl a b |none=>a.isEmpty
def Ai (d:Option Tmp) (l:List Tmp):Bool:=match d with |some d=>!Fh d l |none=>true
def ze (x y:jT):Bool:=
 Ai x.dst y.looks&&Ai y.dst x.looks&&Ai x.dst y.dst.toList&&Kl x.w y.w&&BL x.w y.r&&BL y.w x.r&&y.w.all fun q=>Nat.blt q x.lo||Nat.ble x.hi q
def indep (Po:Array Nat) (fs:List jT):Bool:=
 (fs.zipIdx).all fun (f,j)=>(fs.zipIdx).all fun (g,i)=>Nat.ble j i||(Po.getD j 0).testBit i||ze g f
def Ga (ops:Array Oper):Bool:=ops.zipIdx.all fun (o,i)=>o.after.all fun e=>!Region.binds .any e||Nat.blt e.on i
def Bi (ops:Array Oper):Bool:=ops.all fun o=>match o.op with |.defer _ |.panic _=>false |_=>true
def iJ (ops:Array Oper):Bool:=
 Ga ops&&Bi ops &&
 (!Region.departs ops||(Nat.beq (Region.linearise .text ops 0).length ops.size&&Nat.beq (Region.linearise .gc ops 0).length ops.size))
def og (E:Env) (call:Call) (nt:Nat) (ops:Array Oper) (draw:Bool) (s:St):Option (Option Value×St):=
 bif draw then
  bif iJ ops then
   match r7 E call nt ops ops.toList s [] with
   |some (s',fs)=>bif indep (Region.before ops) fs then some (none,s') else none
   |none=>none
  else none
 else zL E call nt ops ops.toList s
def BG (E:Env) (call:Call) (nt:Nat) (self:Code→St→Option (Ex×St)):Code→St→Option (Ex×St)
 |.skip,s=>some (.normal,s)
 |.label _,s=>some (.normal,s)
 |.region _ ops draw,s=>match og E call nt ops draw s with
  |some (none,s')=>some (.normal,s')
  |some (some v,s')=>some (.panic v,s')
  |none=>none
 |.seq a b,s=>match self a s with
  |some (.normal,s')=>self b s'
  |r=>r
 |.cond c a b,s=>match ev E s.t c with
  |some (.bool true)=>self a s
  |some (.bool false)=>self b s
  |_=>none
 |.block id c,s=>match self c s with
  |some (.exit id',s')=>bif Nat.beq id' id then some (.normal,s') else some (.exit id',s')
  |r=>r
 |.loop c,s=>match self c s with
  |some (.normal,s')=>self (.loop c) s'
  |r=>r
 |.exit id,s=>some (.exit id,s)
 |.goto l,s=>some (.goto l,s)
 |.ret,s=>some (.ret,s)
 |_,_=>none
def EX:List Value→Nat→Tm→Tm
 |[],_,t=>t
 |v::vs,i,t=>EX vs (i+1) (t.set i v)
def ES (E:Env) (s:St):List ResultVar→Option (List Value)
 |[]=>some []
 |.tmp t::rs=>match s.t.get t,ES E s rs with
  |some v,some vs=>some (v::vs)
  |_,_=>none
 |.cell a t::rs=>match s.t.get a with
  |some (.pointer (some ⟨b,off,none⟩))=>match aq E t b off s.h,ES E s rs with
   |some v,some vs=>some (v::vs)
   |_,_=>none
  |_=>none
def HB (E:Env) (fn:Func) (s:St):Option Value:=
 match ES E s fn.results.toList with
 |some [v]=>some v
 |some vs=>some (.tuple vs.toArray)
 |none=>none
def qt (E:Env) (code:Nat→Code→St→Option (Ex×St)) (fn:Func) (T:Tm):List (Value×List Value)→Option Value→Hp→List Nat→Ad
 |[],none,h,w=>match HB E fn ⟨T,h,[],[]⟩ with
  |some v=>some (.ret v,h,w)
  |none=>none
 |[],some v,h,w=>some (.Pu v,h,w)
 |(f,args)::ds,m,h,w=>match f with
  |.func (.func g) a b=>match E.IJ g with
   |some p=>match p m (a.toList++args++b.toList) h with
    |some (m',h',w')=>qt E code fn T ds m' h' (w++w')
    |none=>none
   |none=>match E.func g with
    |some fn'=>match fn'.body with
     |some c=>bif Nat.ble (a.toList++args++b.toList).length fn'.ntmps then
      match code fn'.ntmps c ⟨EX (a.toList++args++b.toList) 0 .nil,h,[],[]⟩ with
      |some (.normal,s) |some (.ret,s)=>match s.d,HB E fn' s with
       |[],some _=>qt E code fn T ds m s.h (w++s.w)
       |_,_=>none
      |_=>none
      else none
     |none=>none
    |none=>none
  |_=>none
def PS (E:Env) (code:Nat→Code→St→Option (Ex×St)) (f:FuncId) (args:List Value) (h:Hp):Ad:=
 match E.OM f with
 |some p=>p args h
 |none=>match E.func f with
  |some fn=>match fn.body with
   |some c=>bif Nat.ble args.length fn.ntmps then
    match code fn.ntmps c ⟨EX args 0 .nil,h,[],[]⟩ with
    |some (.normal,s) |some (.ret,s)=>qt E code fn s.t s.d none s.h s.w
    |some (.panic v,s)=>qt E code fn s.t s.d (some v) s.h s.w
    |_=>none
    else none
   |none=>none
  |none=>none
mutual
def exec (E:Env):Nat→Nat→Code→St→Option (Ex×St)
 |0,_,_,_=>none
 |f+1,nt,c,s=>BG E (Ag E f) nt (exec E f nt) c s
def Ag (E:Env):Nat→FuncId→List Value→Hp→Ad
 |0,_,_,_=>none
 |f+1,g,args,h=>PS E (exec E f) g args h
end
def Wf (H:Hp):Prop:=∀ i,H.n≤i→H.get i=none
theorem Wf.lt {H:Hp} (h:Wf H) {i:Nat} {o:Ob} (hi:H.get i=some o):i<H.n:=by
 rcases Nat.lt_or_ge i H.n with h1 |h1
 ·exact h1
 ·rw [h i h1] at hi;cases hi
theorem Wf.new {H:Hp} (h:Wf H) (o:Ob):Wf (H.new o):=fun i hi=>by
 rw [Hp.dF]
 simp at hi
 rw [if_neg aa];exact h i aa
theorem Wf.set {H:Hp} (h:Wf H) {b:Nat} (hb:b<H.n) (o:Ob):Wf (H.set b o):=fun i hi=>by
 rw [Hp.ek]
 simp at hi
 rw [if_neg aa];exact h i hi
structure Pre (E:Env) (base:Nat) (φ:cS) (w:World) (H:Hp) (R:List Nat):Prop where
 bs:base≤w.heap.size
 blocks:∀ i∈R,∀ l o,φ i=some l→H.get i=some o→sS E base φ w l o
 lt:∀ i∈R,∀ l,φ i=some l→live (H.get i)=true→l.gK<w.heap.size
 fI:∀ g,g<E.ng→∃ l,φ g=some l∧l.gK=g∧l.off=0
structure gF (E:Env) (base:Nat) (φ:cS) (w:World) (H H':Hp) (W:List Nat) (φ':cS) (w':World):Prop where
 wr:∀ j∈W,j<H.n∧dA (H.get j)=true
 ext:∀ i,(i<H.n∨H'.n≤i)→φ' i=φ i
 step:Step φ W w w'
 fresh:∀ i l,H.n≤i→i<H'.n→φ' i=some l→
  w.heap.size≤l.gK∨∃ j∈W,∃ m,j<H.n∧φ j=some m∧m.gK=l.gK∧dA (H.get j)=true∧live (H'.get j)=false
 blocks:∀ i l o,(i∈W∨H.n≤i)→i<H'.n→φ' i=some l→H'.get i=some o→sS E base φ' w' l o
 lt:∀ i l,H.n≤i→i<H'.n→φ' i=some l→live (H'.get i)=true→l.gK<w'.heap.size
 inj:∀ i j l m,H.n≤i→i<H'.n→H.n≤j→j<H'.n→i≠j→φ' i=some l→φ' j=some m→dA (H'.get i)=true→live (H'.get j)=true→l.gK≠m.gK
theorem Pre.Sb {E:Env} {base:Nat} {H:Hp} {φ:cS} {w:World} (wf:Wf H) (h:Rel E base H φ w) (R:List Nat):Pre E base φ w H R:=
 ⟨h.bs,fun i _ l o hl ho=>h.blocks i l o (wf.lt ho) hl ho,fun i _ l hl hv=>by
  cases hg:H.get i with
  |none=>rw [hg] at hv;simp [live] at hv
  |some o=>exact h.lt i l (wf.lt hg) hl hv,h.fI⟩
theorem Pre.sub {E:Env} {base:Nat} {H:Hp} {φ:cS} {w:World} {R S:List Nat} (h:Pre E base φ w H R) (hs:∀ i,i∈S→i∈R):Pre E base φ w H S:=
 ⟨h.bs,fun i hi=>h.blocks i (hs i hi),fun i hi=>h.lt i (hs i hi),h.fI⟩
theorem gF.out {E:Env} {base:Nat} {φ:cS} {w:World} {H H':Hp} {W:List Nat} {φ':cS} {w':World} (wf:Wf H) (x:cR W H H') (h:Rel E base H φ w) (k:gF E base φ w H H' W φ' w')
  (hf:gM φ H.n H'.n) (dy:E.ng≤H.n):Out E base φ w H H' W φ' w':=by
 have hsub:∀ i l,φ i=some l→φ' i=some l:=by
  intro i l hi
  by_cases h1:i<H.n
  ·rw [k.ext i (.inl h1)];exact hi
  ·by_cases h2:H'.n≤i
   ·rw [k.ext i (.inr h2)];exact hi
   ·rw [hf i aa aa] at hi;cases hi
 have old:∀ i,¬ (i∈W∨H.n≤i)→i∉W∧i<H.n:=fun i hc=>
  ⟨fun h=>hc (.inl h),by
   rcases Nat.lt_or_ge i H.n with h1 |h1
   ·exact h1
   ·exact absurd (.inr h1) hc⟩
 refine ⟨k.ext,⟨Nat.le_trans h.bs k.step.size,fun i l o hi hl ho=>?_,fun i l hi hl hv=>?_,fun i j l m hi hj hij hl hm hw hv=>?_,fun g hg=>?_⟩,k.step,k.fresh⟩
 ·by_cases hc:i∈W∨H.n≤i
  ·exact k.blocks i l o hc hi hl ho
  ·have Yq:=old i hc
   rw [k.ext i (.inl Yq.2)] at hl
   rw [x.keep i Yq.2 Yq.1] at ho
   by_cases hlv:live (H.get i)=true
   ·have hb:=h.blocks i l o Yq.2 hl ho
    refine (hb.mono hsub).same (k.step.keep l.gK (h.lt i l Yq.2 hl hlv) fun j hj m hm he=>?_)
    obtain ⟨hjn,hjw⟩:=k.wr j hj
    exact h.inj j i m l hjn Yq.2 (fun e=>Yq.1 (e▸hj)) hm hl hjw hlv he
   ·rw [ho] at hlv
    unfold live at hlv
    split at hlv
    ·rename_i heq;injection heq with heq;subst heq;intro j x hx;simp at hx
    ·rename_i heq;injection heq with heq;subst heq;trivial
    ·simp at hlv
    ·rename_i heq;cases heq
 ·by_cases hc:i<H.n
  ·rw [k.ext i (.inl hc)] at hl
   exact Nat.lt_of_lt_of_le (h.lt i l hc hl (x.live i hc hv)) k.step.size
  ·exact k.lt i l aa hi hl hv
 ·by_cases hi1:i<H.n
  ·rw [k.ext i (.inl hi1)] at hl
   have hw0:=x.dA i hi1 hw
   by_cases WY:j<H.n
   ·rw [k.ext j (.inl WY)] at hm
    exact h.inj i j l m hi1 WY hij hl hm hw0 (x.live j WY hv)
   ·rcases k.fresh j m aa hj hm with hb |⟨q,hq,mq,hqn,Va,hbq,Vi,Rp⟩
    ·have:=h.lt i l hi1 hl (dQ hw0);omega
    ·have hne:q≠i:=fun e=>by
      subst e
      rw [dQ hw] at Rp;cases Rp
     have:=h.inj q i mq l hqn hi1 hne Va hl Vi (dQ hw0)
     omega
  ·by_cases WY:j<H.n
   ·rw [k.ext j (.inl WY)] at hm
    have YE:=x.live j WY hv
    rcases k.fresh i l aa hi hl with hb |⟨q,hq,mq,hqn,Va,hbq,Vi,Rp⟩
    ·have:=h.lt j m WY hm YE;omega
    ·have hne:q≠j:=fun e=>by
      subst e
      rw [hv] at Rp;cases Rp
     have:=h.inj q j mq m hqn WY hne Va hm Vi YE
     omega
   ·exact k.inj i j l m aa hi aa hj hij hl hm hw hv
 ·obtain ⟨l,h1,h2⟩:=h.fI g hg
  exact ⟨l,hsub g l h1,h2⟩
theorem gF.same {E:Env} {base:Nat} {φ:cS} {w w':World} {H:Hp} (hb:w'.heap=w.heap) (ho:w'.os=w.os) (ht:w'.tape=w.tape) (hp:w'.output=w.output) :
  gF E base φ w H H [] φ w':=
 ⟨fun j hj=>by simp at hj,fun _ _=>rfl,⟨ho,ht,hp,by rw [hb];exact Nat.le_refl _,fun B _ _=>by rw [hb]⟩,fun i l h1 h2=>by omega,
  fun i l o h1 h2=>by simp at h1;omega,fun i l h1 h2=>by omega,fun i j l m h1 h2=>by omega⟩
theorem gF.row {E:Env} {base:Nat} {φ:cS} {w w':World} {H:Hp} (HZ:Nat) (cs:List Value) (cc:Array Value) (e:TypeId) (lo hi:Nat)
  (hfree:φ H.n=none) (hbase:base≤w.heap.size)
  (hb:w'.heap=w.heap.push (.cells cc e (lo,hi))) (ho:w'.os=w.os) (ht:w'.tape=w.tape) (hp:w'.output=w.output)
  (hl:HZ≤cc.size) (hc:cs.length≤HZ) (hv:∀(j:Nat) x,cs[j]?=some x→∃ y,cc[j]?=some y∧VR φ x y) (hfz:∀ j,j<HZ→¬ (lo≤j∧j<hi)) :
  gF E base φ w H (H.new (.cells cs e false)) [] (fun i=>if i=H.n then some ⟨w.heap.size,0,HZ⟩ else φ i) w':=by
 have hm:∀ i l,φ i=some l→(fun i=>if i=H.n then some ⟨w.heap.size,0,HZ⟩ else φ i) i=some l:=fun i l h=>by
  show (if i=H.n then _ else _)=_
  rw [if_neg (fun e=>by rw [e,hfree] at h;cases h)];exact h
 refine ⟨fun j hj=>by simp at hj,fun i hi=>?_,⟨ho,ht,hp,by rw [hb];simp,fun B hB _=>?_⟩,fun i l h1 h2 h3=>?_,fun i l o h1 h2 h3 h4=>?_,fun i l h1 h2 h3 _=>?_,fun i j l m h1 h2 h3 h4 h5=>?_⟩
 ·show (if i=H.n then _ else _)=_
  simp at hi
  rw [if_neg aa]
 ·rw [hb,Array.getElem?_push,if_neg aa]
 ·simp at h2
  have:i=H.n:=by omega
  subst this
  simp at h3
  subst h3
  exact .inl (Nat.le_refl _)
 ·simp at h1 h2
  have:i=H.n:=by omega
  subst this
  simp at h3
  subst h3
  rw [Hp.dF,if_pos rfl] at h4
  injection h4 with h4
  subst h4
  refine ⟨cc,lo,hi,by rw [hb];simp,by simpa using hl,hc,fun j x hx=>?_,hbase,fun j _ hj=>hfz j (by simpa using hj)⟩
  obtain ⟨y,hy,hxy⟩:=hv j x hx
  exact ⟨y,by simpa using hy,hxy.mono hm⟩
 ·simp at h2
  have:i=H.n:=by omega
  subst this
  simp at h3
  subst h3
  rw [hb];simp
 ·simp at h2 h4
  omega
theorem gF.Zf {E:Env} {base:Nat} {φ:cS} {w w':World} {H:Hp} (hfree:φ H.n=none) (hbase:base≤w.heap.size)
  (hb:w'.heap=w.heap.push (.map #[] 0)) (ho:w'.os=w.os) (ht:w'.tape=w.tape) (hp:w'.output=w.output) :
  gF E base φ w H (H.new (.map [] 0)) [] (fun i=>if i=H.n then some ⟨w.heap.size,0,0⟩ else φ i) w':=by
 refine ⟨fun j hj=>by simp at hj,fun i hi=>?_,⟨ho,ht,hp,by rw [hb];simp,fun B hB _=>?_⟩,fun i l h1 h2 h3=>?_,fun i l o h1 h2 h3 h4=>?_,fun i l h1 h2 h3 _=>?_,fun i j l m h1 h2 h3 h4 h5=>?_⟩
 ·show (if i=H.n then _ else _)=_
  simp at hi
  rw [if_neg aa]
 ·rw [hb,Array.getElem?_push,if_neg aa]
 ·simp at h2
  have:i=H.n:=by omega
  subst this
  simp at h3
  subst h3
  exact .inl (Nat.le_refl _)
 ·simp at h1 h2
  have:i=H.n:=by omega
  subst this
  simp at h3
  subst h3
  rw [Hp.dF,if_pos rfl] at h4
  injection h4 with h4
  subst h4
  exact ⟨#[],by rw [hb];simp,hbase,rfl,fun j x y hx=>by simp at hx⟩
 ·simp at h2
  have:i=H.n:=by omega
  subst this
  simp at h3
  subst h3
  rw [hb];simp
 ·simp at h2 h4
  omega
theorem gF.put {E:Env} {base:Nat} {φ:cS} {w w':World} {H:Hp} (b:Nat) (l:Loc) (o':Ob) (U5:b<H.n) (hw:dA (H.get b)=true) (hl:φ b=some l)
  (hb:∀ B,B≠l.gK→w'.heap[B]?=w.heap[B]?) (hs:w'.heap.size=w.heap.size) (ho:w'.os=w.os) (ht:w'.tape=w.tape) (hp:w'.output=w.output)
  (hr:sS E base φ w' l o'):gF E base φ w H (H.set b o') [b] φ w':=by
 refine ⟨fun j hj=>?_,fun i hi=>rfl,⟨ho,ht,hp,by rw [hs];exact Nat.le_refl _,fun B hB hn=>hb B (fun e=>hn b (by simp) l hl e.symm)⟩,fun i l h1 h2 h3=>?_,fun i l' o h1 h2 h3 h4=>?_,fun i l h1 h2 h3 _=>?_,fun i j l m h1 h2 h3 h4 h5=>?_⟩
 ·simp at hj;subst hj;exact ⟨U5,hw⟩
 ·simp at h2;omega
 ·simp at h1 h2
  have:i=b:=by omega
  subst this
  rw [hl] at h3
  injection h3 with h3
  subst h3
  rw [Hp.ek,if_pos rfl] at h4
  injection h4 with h4
  subst h4
  exact hr
 ·simp at h2;omega
 ·simp at h2;omega
theorem gF.take {E:Env} {base:Nat} {φ:cS} {w w':World} {H:Hp} (b:Nat) (l k:Loc) (cs:List Value) (e:TypeId) (U5:b<H.n) (hw:dA (H.get b)=true) (hl:φ b=some l) (hk:k.gK=l.gK)
  (hfree:φ H.n=none) (hlt:l.gK<w.heap.size)
  (hb:∀ B,B≠l.gK→w'.heap[B]?=w.heap[B]?) (hs:w'.heap.size=w.heap.size) (ho:w'.os=w.os) (ht:w'.tape=w.tape) (hp:w'.output=w.output)
  (hr:sS E base (fun i=>if i=H.n then some k else φ i) w' k (.cells cs e false)) :
  gF E base φ w H ((H.set b .dead).new (.cells cs e false)) [b] (fun i=>if i=H.n then some k else φ i) w':=by
 refine ⟨fun j hj=>?_,fun i hi=>?_,⟨ho,ht,hp,by rw [hs];exact Nat.le_refl _,fun B hB hn=>hb B (fun e=>hn b (by simp) l hl e.symm)⟩,fun i l' h1 h2 h3=>?_,fun i l' o h1 h2 h3 h4=>?_,fun i l' h1 h2 h3 _=>?_,fun i j l m h1 h2 h3 h4 h5=>?_⟩
 ·simp at hj;subst hj;exact ⟨U5,hw⟩
 ·show (if i=H.n then _ else _)=_
  simp at hi
  rw [if_neg aa]
 ·simp at h2
  have:i=H.n:=by omega
  subst this
  simp at h3
  subst h3
  refine .inr ⟨b,by simp,l,U5,hl,hk.symm,hw,?_⟩
  rw [Hp.dF,Hp.cT,if_neg aa,Hp.ek,if_pos rfl];rfl
 ·simp at h1 h2
  rcases h1 with h1 |h1
  ·subst h1
   rw [Hp.dF,Hp.cT,if_neg aa,Hp.ek,if_pos rfl] at h4
   injection h4 with h4
   subst h4
   trivial
  ·have:i=H.n:=by omega
   subst this
   simp at h3
   subst h3
   rw [Hp.dF,Hp.cT,if_pos rfl] at h4
   injection h4 with h4
   subst h4
   exact hr
 ·simp at h2
  have:i=H.n:=by omega
  subst this
  simp at h3
  subst h3
  rw [hk,hs];exact hlt
 ·simp at h2 h4
  omega
theorem cR.new (H:Hp) (wf:Wf H) (o:Ob):cR [] H (H.new o):=
 ⟨by simp,fun i hi _=>by rw [Hp.dF,if_neg aa],fun i hi h=>by rwa [Hp.dF,if_neg aa] at h,fun i hi h=>by rwa [Hp.dF,if_neg aa] at h⟩
theorem cR.set (H:Hp) (b:Nat) (o:Ob) (hw:Am.dA (H.get b)=true):cR [b] H (H.set b o):=
 ⟨by simp,fun i hi hn=>by rw [Hp.ek,if_neg (fun e=>hn (by simp [e]))],fun i hi h=>by
     rw [Hp.ek] at h
     split at h
     ·rename_i e;subst e;exact dQ hw
     ·exact h,fun i hi h=>by
     rw [Hp.ek] at h
     split at h
     ·rename_i e;subst e;exact hw
     ·exact h⟩
theorem add_plain (b o i:Nat):(⟨b,o,none⟩:Addr).add i=⟨b,o+i,none⟩:=by
 unfold Addr.add;split <;> simp_all
section
variable {P:Program}
theorem run_pure {α:Type} (a:α) (w:World):(pure a:Sem α).run P w=.ok a w:=rfl
theorem run_program (w:World):(program).run P w=.ok P w:=rfl
theorem run_load {a:Addr} {y:Value} {w:World} (h:w.cell? a=some y):(load a).run P w=.ok y w:=by
 simp [load,Sem.run,h]
theorem run_loadCellsFrom {b o:Nat} {w:World}:∀(ys:List Value) (i:Nat) (acc:Array Value),(∀(j:Nat) y,ys[j]?=some y→w.cell? ⟨b,o+(i+j),none⟩=some y)→
  (loadCellsFrom ⟨b,o,none⟩ i ys.length acc).run P w=.ok (acc++ys.toArray) w:=by
 intro ys
 induction ys with
 |nil=>intro i acc h;simp [loadCellsFrom,run_pure]
 |cons y ys ih=>
  intro i acc h
  simp only [List.length_cons,loadCellsFrom]
  rw [ax (run_load (y:=y) (by rw [add_plain];simpa using h 0 y (by simp)))]
  rw [ih (i+1) (acc.push y) (fun j z hz=>by
   have:=h (j+1) z (by simpa using hz)
   rw [show i+1+j=i+(j+1) by omega];exact this)]
  simp
theorem run_loadCells {b o n:Nat} {w:World} (ys:List Value) (hn:ys.length=n) (h:∀(j:Nat) y,ys[j]?=some y→w.cell? ⟨b,o+j,none⟩=some y) :
  (loadCells ⟨b,o,none⟩ n).run P w=.ok ys.toArray w:=by
 subst hn
 unfold loadCells
 rw [run_loadCellsFrom ys 0 #[] (fun j y hy=>by simpa using h j y hy)]
 simp
structure Xv (w w':World) (B:Nat) (o:Obj):Prop where
 os:w'.os=w.os
 tape:w'.tape=w.tape
 output:w'.output=w.output
 size:w'.heap.size=w.heap.size
 other:∀ b,b≠B→w'.heap[b]?=w.heap[b]?
 at_:w'.heap[B]?=some o
theorem mM:∀(c:List Value) (o:Nat) (xs:List Value),(splice c o xs).length=c.length
 |[],0,[]=>rfl
 |[],0,_::_=>rfl
 |[],_+1,_=>rfl
 |_::_,0,[]=>rfl
 |_::c,0,_::xs=>by simp [splice,mM c 0 xs]
 |_::c,k+1,xs=>by simp [splice,mM c k xs]
theorem sH:∀(c:List Value) (o:Nat) (xs:List Value),o+xs.length≤c.length→∀ j:Nat,(splice c o xs)[j]?=if o≤j∧j<o+xs.length then xs[j-o]? else c[j]?
 |[],o,xs,h,j=>by
  have:o=0∧xs=[]:=by
   cases xs with
   |nil=>simp at h;exact ⟨by omega,rfl⟩
   |cons a b=>simp at h
  obtain ⟨rfl,rfl⟩:=this
  simp [splice]
 |y::c,0,[],_,j=>by simp [splice]
 |y::c,0,x::xs,h,j=>by
  simp only [splice]
  cases j with
  |zero=>simp
  |succ j=>
   simp only [List.getElem?_cons_succ]
   rw [sH c 0 xs (by simpa using h) j]
   simp
 |y::c,k+1,xs,h,j=>by
  simp only [splice]
  cases j with
  |zero=>simp
  |succ j=>
   simp only [List.getElem?_cons_succ]
   rw [sH c k xs (by simp at h;omega) j]
   by_cases hc:k≤j∧j<k+xs.length
   ·rw [if_pos hc,if_pos aa]
    rw [show j+1-(k+1)=j-k by omega]
   ·rw [if_neg hc,if_neg aa]
theorem run_store {w:World} {B o:Nat} {cc:Array Value} {e:TypeId} {lo hi:Nat} {v:Value} (hb:w.heap[B]?=some (.cells cc e (lo,hi))) (ho:o<cc.size)
  (hf:¬ (lo≤o∧o<hi)) (hv:one v=true):∃ w',(store ⟨B,o,none⟩ v).run P w=.ok () w'∧Xv w w' B (.cells (cc.set o v ho) e (lo,hi)):=by
 have hc:w.cell? ⟨B,o,none⟩=some cc[o]:=by simp [World.cell?,hb,ho]
 have hfz:w.frozen? ⟨B,o,none⟩=false:=by
  simp only [World.frozen?,hb]
  simp only [Bool.and_eq_false_iff,decide_eq_false_iff_not]
  omega
 refine ⟨w.setCell ⟨B,o,none⟩ v,?_,?_⟩
 ·unfold store
  cases v <;> first
   |(cases hv;done)
   |(simp only [Sem.run];rw [hc];simp [hfz])
 ·refine ⟨rfl,rfl,rfl,by simp [World.setCell],fun b hb'=>?_,?_⟩
  ·simp only [World.setCell,Array.getElem?_modify];rw [if_neg (fun e=>hb' e.symm)]
  ·simp only [World.setCell,Array.getElem?_modify,if_true]
   rw [hb]
   simp [Array.setIfInBounds,ho]
theorem Xv.trans {a b c:World} {B:Nat} {x y:Obj} (h:Xv a b B x) (k:Xv b c B y):Xv a c B y:=
 ⟨k.os.trans h.os,k.tape.trans h.tape,k.output.trans h.output,k.size.trans h.size,fun i hi=>(k.other i hi).trans (h.other i hi),k.at_⟩
theorem uy {B o:Nat} {e:TypeId} {lo hi:Nat}:∀(vs:List Value) (i:Nat) (w:World) (cc:Array Value),w.heap[B]?=some (.cells cc e (lo,hi))→o+i+vs.length≤cc.size→
  (∀ j,o+i≤j→j<o+i+vs.length→¬ (lo≤j∧j<hi))→(∀ v∈vs,one v=true)→
  ∃ w' WK,(storeCells ⟨B,o,none⟩ vs i).run P w=.ok () w'∧Xv w w' B (.cells WK e (lo,hi))∧WK.size=cc.size∧
   ∀ j:Nat,WK[j]?=if o+i≤j∧j<o+i+vs.length then vs[j-(o+i)]? else cc[j]?:=by
 intro vs
 induction vs with
 |nil=>
  intro i w cc hb _ _ _
  exact ⟨w,cc,by simp [storeCells,run_pure],⟨rfl,rfl,rfl,rfl,fun _ _=>rfl,hb⟩,rfl,fun j=>by rw [if_neg (by simp)]⟩
 |cons v vs ih=>
  intro i w cc hb hn hf hv
  simp only [List.length_cons] at hn
  obtain ⟨w1,hr1,Ak⟩:=run_store (P:=P) (o:=o+i) (v:=v) hb aa (hf _ aa (by simp)) (hv v (by simp))
  obtain ⟨w2,cc2,YB,GY,Vg,hg2⟩:=ih (i+1) w1 (cc.set (o+i) v aa) Ak.at_ (by simp;omega) (fun j h1 h2=>hf j aa (by simp;omega)) (fun x hx=>hv x (by simp [hx]))
  refine ⟨w2,cc2,?_,Ak.trans GY,by simpa using Vg,fun j=>?_⟩
  ·simp only [storeCells,add_plain]
   rw [ax hr1];exact YB
  ·rw [hg2 j]
   by_cases h1:o+(i+1)≤j∧j<o+(i+1)+vs.length
   ·rw [if_pos h1,if_pos (by simp;omega)]
    rw [show j-(o+i)=(j-(o+(i+1)))+1 by omega]
    simp
   ·rw [if_neg h1]
    by_cases h2:j=o+i
    ·subst h2
     rw [if_pos (by simp)]
     simp
    ·rw [if_neg (by simp;omega)]
     rw [Array.getElem?_set_ne aa aa]
theorem mg (e:TypeId) (cs:Array Value) (w:World):(newRow e cs).run P w=.ok ⟨w.heap.size,0,none⟩ { w with heap:=w.heap.push (.cells cs e (0,0)) }:=rfl
theorem D4 (t:TypeId) (v:Value) (w:World):(newVar t v).run P w=.ok ⟨w.heap.size,0,none⟩ { w with heap:=w.heap.push (.cells v.cells t (0,0)) }:=rfl
theorem JA {α:Type}:∀(s:Sem α) (a:α),bU P s=some a→∀ w,s.run P w=.ok a w:=by
 intro s
 induction s with
 |pure x=>intro a h w;simp [bU] at h;subst h;rfl
 |program k ih=>intro a h w;exact ih P a h w
 |mark m k ih=>intro a h w;exact ih a h w
 |load m x k ih=>intro a h;simp [bU] at h
 |store m x v k ih=>intro a h;simp [bU] at h
 |new o k ih=>intro a h;simp [bU] at h
 |shape r k ih=>intro a h;simp [bU] at h
 |freeze x n k ih=>intro a h;simp [bU] at h
 |frozen x k ih=>intro a h;simp [bU] at h
 |getObj r k ih=>intro a h;simp [bU] at h
 |setObj r o k ih=>intro a h;simp [bU] at h
 |choose q k ih=>intro a h;simp [bU] at h
 |sys c k ih=>intro a h;simp [bU] at h
 |halt h'=>intro a h;simp [bU] at h
end
section
variable {E:Env} {base:Nat} {φ:cS} {w:World} {H:Hp} {R:List Nat}
theorem TQ {b o:Nat} {x:Value} {l:Loc} (hp:Pre E base φ w H R) (hb:b∈R) (hl:φ b=some l) (h:cell H b o=some x):∃ y,w.cell? ⟨l.gK,l.off+o,none⟩=some y∧VR φ x y:=by
 unfold cell at h
 split at h
 ·rename_i c e ro hg
  exact (hp.blocks b hb l _ hl hg).cell h
 ·cases h
theorem zR {b o n:Nat} {xs:List Value} {l:Loc} (hp:Pre E base φ w H R) (hb:b∈R) (hl:φ b=some l) (h:row H b o n=some xs) :
  ∃ ys,xs.length=n∧LR φ xs ys∧∀(j:Nat) y,ys[j]?=some y→w.cell? ⟨l.gK,l.off+o+j,none⟩=some y:=by
 unfold row at h
 split at h
 ·rename_i c e ro hg
  cases hn:Nat.ble (o+n) c.length with
  |false=>rw [hn] at h;cases h
  |true=>
   rw [hn] at h
   have hle:=Nat.le_of_ble_eq_true hn
   injection h with h
   subst h
   have hb':=hp.blocks b hb l _ hl hg
   have hlen:(List.take n (List.drop o c)).length=n:=by simp;omega
   have key:∀ j,∀ hj:j<n,∃ y,w.cell? ⟨l.gK,l.off+o+j,none⟩=some y∧VR φ (c[o+j]'aa) y:=fun j hj=>by
    obtain ⟨y,h1,h2⟩:=hb'.cell (j:=o+j) (x:=c[o+j]'aa) (List.getElem?_eq_getElem aa)
    exact ⟨y,by rw [← h1,Nat.add_assoc],h2⟩
   refine ⟨List.ofFn (n:=n) fun j=>(key j.1 j.2).choose,hlen,⟨by simp [hlen],fun j x y hx hy=>?_⟩,fun j y hy=>?_⟩
   ·have hj:j<n:=by
     have:=(List.getElem?_eq_some_iff.1 hx).1
     omega
    rw [List.getElem?_ofFn] at hy
    simp only [hj,dite_true] at hy
    injection hy with hy
    subst hy
    rw [List.getElem?_take,if_pos hj,List.getElem?_drop,List.getElem?_eq_getElem aa] at hx
    injection hx with hx
    subst hx
    exact (key j hj).choose_spec.2
   ·rw [List.getElem?_ofFn] at hy
    split at hy
    ·rename_i hj
     injection hy with hy
     subst hy
     exact (key j hj).choose_spec.1
    ·cases hy
 ·cases h
theorem FM (ok:E.Ok) {t b o:Nat} {v:Value} {l:Loc} (hp:Pre E base φ w H R) (hb:b∈R) (hl:φ b=some l) (h:aq E t b o H=some v) :
  ∃ u,(loadVar t ⟨l.gK,l.off+o,none⟩).run E.P w=.ok u w∧VR φ v u:=by
 unfold aq at h
 split at h
 ·rename_i Yl
  split at h
  ·rename_i n hn
   split at h
   ·rename_i xs hx
    injection h with h
    subst h
    obtain ⟨ys,h1,h2,h3⟩:=zR hp hb hl hx
    refine ⟨.agg ys.toArray,?_,.J5 h2.toArray⟩
    unfold loadVar
    rw [ax (lE ok Yl w)]
    simp only [if_true]
    rw [ax (ec ok hn w),ax (run_loadCells ys (by rw [← h2.1,h1]) h3)]
    rfl
   ·cases h
  ·cases h
 ·rename_i Yl
  obtain ⟨y,h1,h2⟩:=TQ hp hb hl h
  refine ⟨y,?_,h2⟩
  unfold loadVar
  rw [ax (lE ok Yl w)]
  simp only [Bool.false_eq_true,if_false]
  exact run_load h1
 ·cases h
end
def mR (E:Env) (base:Nat) (φ:cS) (w:World) (H:Hp) (s:Sem Next) (v:Value) (H':Hp) (W:List Nat):Prop:=
 ∃ nx u w' φ',s.run E.P w=.ok nx w'∧(nx=.value u∨(nx=.skip∧u=undef))∧VR φ' v u∧gF E base φ w H H' W φ' w'
def J2 (E:Env) (φ:cS) (T:Tm) (ρ:Operand→Value):Prop:=∀ x v,ev E T x=some v→VR φ v (ρ x)
theorem vW {E:Env} {φ:cS} {T:Tm} {ρ:Operand→Value} (h:J2 E φ T ρ):∀{xs:List Operand} {vs:List Value},HV E T xs=some vs→LR φ vs (xs.map ρ)
 |[],vs,e=>by simp [HV] at e;subst e;exact .nil φ
 |x::xs,vs,e=>by
  simp only [HV] at e
  split at e
  ·rename_i v hv
   split at e
   ·rename_i ws hw
    injection e with e
    subst e
    exact .cons (h x v hv) (vW h hw)
   ·cases e
  ·cases e
theorem Kp {E:Env} {φ:cS} {T:Tm} {ρ:Operand→Value} (h:J2 E φ T ρ) {x:Option Operand} {v:Option Value} (e:Gb E T x=some v) :
  (x=none∧v=none)∨∃ y u,x=some y∧v=some u∧VR φ u (ρ y):=by
 unfold Gb at e
 split at e
 ·injection e with e;exact .inl ⟨rfl,e.symm⟩
 ·rename_i y
  split at e
  ·rename_i u hu;injection e with e;exact .inr ⟨y,u,rfl,e.symm,h y u hu⟩
  ·cases e
section
variable {E:Env} {base:Nat} {φ:cS} {w:World} {H:Hp}
theorem mR.of_run {s:Sem Value} {v u:Value} (h:VR φ v u) (hr:s.run E.P w=.ok u w):mR E base φ w H (do Pure.pure (.value (← s))) v H []:=
 ⟨_,u,w,φ,by rw [ax hr];rfl,.inl rfl,h,.same rfl rfl rfl rfl⟩
theorem mR.value {s:Sem Value} {v u:Value} {w':World} {φ':cS} {H':Hp} {W:List Nat} (hr:s.run E.P w=.ok u w') (h:VR φ' v u) (ho:gF E base φ w H H' W φ' w') :
  mR E base φ w H (do Pure.pure (.value (← s))) v H' W:=
 ⟨_,u,w',φ',by rw [ax hr];rfl,.inl rfl,h,ho⟩
theorem mR.unit {s:Sem Unit} {w':World} {φ':cS} {H':Hp} {W:List Nat} (hr:s.run E.P w=.ok () w') (ho:gF E base φ w H H' W φ' w') :
  mR E base φ w H (do s;Pure.pure .skip) bJ H' W:=
 ⟨_,undef,w',φ',by rw [ax hr];rfl,.inr ⟨rfl,rfl⟩,.tuple' ⟨rfl,fun i x y hx=>by simp at hx⟩,ho⟩
theorem gF.write {b o:Nat} {c:List Value} {e:TypeId} {l:Loc} {xs ys:List Value} {R:List Nat} (hp:Pre E base φ w H R) (wf:Wf H) (hb:b∈R) (hl:φ b=some l) (hg:H.get b=some (.cells c e false))
  (hn:o+xs.length≤c.length) (hxy:LR φ xs ys) (hone:∀ v∈xs,one v=true) :
  ∃ w',(storeCells ⟨l.gK,l.off+o,none⟩ ys).run E.P w=.ok () w'∧gF E base φ w H (H.set b (.cells (splice c o xs) e false)) [b] φ w':=by
 obtain ⟨cc,lo,hi,h1,h2,h3,h4,h6,h7⟩:=hp.blocks b hb l _ hl hg
 have Rt:∀ v∈ys,one v=true:=fun v hv=>by
  obtain ⟨i,hi',rfl⟩:=List.mem_iff_getElem.1 hv
  have hx:i<xs.length:=hxy.1▸hi'
  rw [(hxy.2 i _ _ (List.getElem?_eq_getElem hx) (List.getElem?_eq_getElem hi')).Sc]
  exact hone _ (List.getElem_mem ..)
 have hlen:=hxy.1
 obtain ⟨w',WK,hr,hput,hs,hgc⟩:=uy (P:=E.P) (o:=l.off+o) ys 0 w cc h1 aa (fun j h8 h9=>h7 j aa aa) Rt
 refine ⟨w',hr,gF.put b l _ (wf.lt hg) (by rw [hg];rfl) hl hput.other hput.size hput.os hput.tape hput.output ⟨WK,lo,hi,hput.at_,by omega,by rw [mM];exact h3,fun j x hx=>?_,h6,h7⟩⟩
 rw [sH c o xs hn j] at hx
 rw [hgc]
 by_cases hc:o≤j∧j<o+xs.length
 ·rw [if_pos hc] at hx
  obtain ⟨y,hy,hv⟩:=hxy.get hx
  exact ⟨y,by rw [if_pos aa,← hy];congr 1;omega,hv⟩
 ·rw [if_neg hc] at hx
  obtain ⟨y,hy,hv⟩:=h4 j x hx
  exact ⟨y,by rw [if_neg aa];exact hy,hv⟩
theorem xY {xs:List Value} (h:xs.all one=true):∀ v∈xs,one v=true:=fun v hv=>by
 rw [List.all_eq_true] at h;exact h v hv
theorem gF.Hs {w':World} {cs ds:List Value} {e:TypeId} (hbase:base≤w.heap.size) (hfree:φ H.n=none) (h:LR φ cs ds)
  (hb:w'.heap=w.heap.push (.cells ds.toArray e (0,0))) (ho:w'.os=w.os) (ht:w'.tape=w.tape) (hp:w'.output=w.output) :
  gF E base φ w H (H.new (.cells cs e false)) [] (fun i=>if i=H.n then some ⟨w.heap.size,0,cs.length⟩ else φ i) w':=
 gF.row cs.length cs ds.toArray e 0 0 hfree hbase hb ho ht hp (by simp [h.1]) (Nat.le_refl _)
  (fun j x hx=>by obtain ⟨y,hy,hv⟩:=h.get hx;exact ⟨y,by simpa using hy,hv⟩) (fun j _=>by omega)
theorem V4 (hfree:φ H.n=none) (l:Loc):∀ i m,φ i=some m→(fun i=>if i=H.n then some l else φ i:cS) i=some m:=fun i m h=>by
 show (if i=H.n then _ else _)=_
 rw [if_neg (fun e=>by rw [e,hfree] at h;cases h)];exact h
theorem jz {z:Value} (h:ground z=true):AR φ z.cells z.cells:=(VR.hG (φ:=φ) h).cells
theorem AW (P:Program) (k:IntKind) (n:Int) (w:World):(asIntOf (.int k n)).run P w=.ok (k,n) w:=rfl
theorem kV {P:Program} {v u:Value} {y n:Nat} {code:BoundsCode} (hv:VR φ v u) (h:upto v y=some n):(Instr.sliceBound u y code).run P w=.ok n w∧n≤y:=by
 unfold upto at h
 split at h
 ·rename_i k i
  cases hv
  cases hb:(decide (0≤i)&&decide (i≤(y:Int))) with
  |false=>rw [hb] at h;cases h
  |true=>
   rw [hb] at h
   injection h with h
   subst h
   simp at hb
   refine ⟨?_,by omega⟩
   unfold Instr.sliceBound
   rw [ax (AW P _ i w)]
   simp only
   rw [if_pos ⟨hb.1,hb.2⟩];rfl
 ·cases h
end
section
variable {E:Env} {base:Nat} {φ:cS} {w:World} {H:Hp}
theorem VR.qc {b o:Nat} {u:Value} (h:VR φ (.pointer (some ⟨b,o,none⟩)) u):∃ l,φ b=some l∧u=.pointer (some ⟨l.gK,l.off+o,none⟩):=by
 cases h with |ptr _ _ l hl=>exact ⟨l,hl,rfl⟩
theorem Kg {c k:Nat} (h:tB c=.known k):c=2*k+1:=by
 unfold tB at h
 by_cases hc:c%2=1
 ·rw [Fz hc] at h;simp at h;omega
 ·rw [uT hc] at h;simp at h
theorem PV {c s:Nat} (h:tB c=.ZH s):c=2*s:=by
 unfold tB at h
 by_cases hc:c%2=1
 ·rw [Fz hc] at h;simp at h
 ·rw [uT hc] at h;simp at h;omega
theorem VR.uz {b o n c:Nat} {u:Value} (h:VR φ (.slice (some ⟨b,o,none⟩) n c) u) :
  ∃ l c',φ b=some l∧n≤c'∧u=.slice (some ⟨l.gK,l.off+o,none⟩) n c'∧(c=2*c'+1∨∃ s,c=2*s∧o+c'*s≤l.HZ):=by
 cases h with
 |Ia _ _ _ c l hl hn=>exact ⟨l,c,hl,hn,rfl,.inl rfl⟩
 |NB _ _ _ c s l hl hn hc=>exact ⟨l,c,hl,hn,rfl,.inr ⟨s,rfl,hc⟩⟩
theorem VR.Bo {b o n c k:Nat} {u:Value} (hc:tB c=.known k) (h:VR φ (.slice (some ⟨b,o,none⟩) n c) u):∃ l,φ b=some l∧n≤k∧u=.slice (some ⟨l.gK,l.off+o,none⟩) n k:=by
 obtain ⟨l,c',h1,h2,h3,h4⟩:=h.uz
 have:=Kg hc
 have:c'=k:=by rcases h4 with h4 |⟨s,h4,_⟩ <;> omega
 subst this
 exact ⟨l,h1,h2,h3⟩
theorem VR.NC {b o n c s:Nat} {u:Value} (hc:tB c=.ZH s) (h:VR φ (.slice (some ⟨b,o,none⟩) n c) u):∃ l c',φ b=some l∧n≤c'∧o+c'*s≤l.HZ∧u=.slice (some ⟨l.gK,l.off+o,none⟩) n c':=by
 obtain ⟨l,c',h1,h2,h3,h4⟩:=h.uz
 have:=PV hc
 rcases h4 with h4 |⟨s',h4,h5⟩
 ·omega
 ·have:s'=s:=by omega
  subst this
  exact ⟨l,c',h1,h2,h5,h3⟩
def OR (φ:cS) (x y:Option Value):Prop:=(x=none∧y=none)∨∃ v u,x=some v∧y=some u∧VR φ v u
theorem Kq {T:Tm} {ρ:Operand→Value} (h:J2 E φ T ρ) {x:Option Operand} {v:Option Value} (e:Gb E T x=some v):OR φ v (x.map ρ):=by
 rcases Kp h e with ⟨rfl,rfl⟩ |⟨y,u,rfl,rfl,hv⟩
 ·exact .inl ⟨rfl,rfl⟩
 ·exact .inr ⟨u,ρ y,rfl,rfl,hv⟩
theorem FW {v:Value} {y y' n:Nat} (h:upto v y=some n) (hy:y≤y'):upto v y'=some n:=by
 unfold upto at h ⊢
 split at h
 ·rename_i k i
  cases hbb:(decide (0≤i)&&decide (i≤(y:Int))) with
  |false=>rw [hbb] at h;cases h
  |true=>
   rw [hbb] at h
   simp at hbb
   have:(decide (0≤i)&&decide (i≤(y':Int)))=true:=by simp;omega
   simp only [this];exact h
 ·cases h
theorem NT {P:Program} {RE:Bool} {len cap cap' m h l:Nat} {lo hi mx lo' hi' Xb:Option Value} (hlo:OR φ lo lo') (hhi:OR φ hi hi') (Vb:OR φ mx Xb) (hcap:cap≤cap')
  (h0:¬ (mx.isSome=true∧hi=none)) (hlen:len≤cap) (hm:jv mx cap cap=some m) (hh:jv hi m len=some h) (hl:jv lo h 0=some l) :
  (Instr.sliceBounds RE len cap' lo' hi' Xb).run P w=.ok (l,h,if mx.isSome then m else cap') w∧l≤h∧(mx.isSome=true∨hi.isSome=true→h≤m)∧(mx=none→hi=none→h=len)∧m≤cap:=by
 rcases Vb with ⟨rfl,rfl⟩ |⟨v,u,rfl,rfl,hv⟩
 ·simp only [jv] at hm
  injection hm with hm
  subst hm
  rcases hhi with ⟨rfl,rfl⟩ |⟨v2,u2,rfl,rfl,W0⟩
  ·simp only [jv] at hh
   injection hh with hh
   subst hh
   rcases hlo with ⟨rfl,rfl⟩ |⟨v3,u3,rfl,rfl,hv3⟩
   ·simp only [jv] at hl
    injection hl with hl
    subst hl
    exact ⟨rfl,by omega,by simp,fun _ _=>rfl,by omega⟩
   ·simp only [jv] at hl
    have h3:=kV (P:=P) (code:=.sliceB) (w:=w) hv3 hl
    exact ⟨by simp [Instr.sliceBounds,h3.1],h3.2,by simp,fun _ _=>rfl,by omega⟩
  ·simp only [jv] at hh
   have h2:=kV (P:=P) (code:=if RE then BoundsCode.sliceAcap else .sliceAlen) (w:=w) W0 (FW hh hcap)
   have WS:=kV (P:=P) (code:=.sliceB) (w:=w) W0 hh
   rcases hlo with ⟨rfl,rfl⟩ |⟨v3,u3,rfl,rfl,hv3⟩
   ·simp only [jv] at hl
    injection hl with hl
    subst hl
    exact ⟨by simp [Instr.sliceBounds,h2.1],by omega,fun _=>WS.2,by simp,by omega⟩
   ·simp only [jv] at hl
    have h3:=kV (P:=P) (code:=.sliceB) (w:=w) hv3 hl
    exact ⟨by simp [Instr.sliceBounds,h2.1,h3.1],h3.2,fun _=>WS.2,by simp,by omega⟩
 ·simp only [jv] at hm
  have h1:=kV (P:=P) (code:=if RE then BoundsCode.slice3Acap else .slice3Alen) (w:=w) hv (FW hm hcap)
  have h1':=kV (P:=P) (code:=.sliceB) (w:=w) hv hm
  rcases hhi with ⟨rfl,rfl⟩ |⟨v2,u2,rfl,rfl,W0⟩
  ·exact absurd ⟨rfl,rfl⟩ h0
  ·simp only [jv] at hh
   have h2:=kV (P:=P) (code:=.slice3B) (w:=w) W0 hh
   rcases hlo with ⟨rfl,rfl⟩ |⟨v3,u3,rfl,rfl,hv3⟩
   ·simp only [jv] at hl
    injection hl with hl
    subst hl
    exact ⟨by simp [Instr.sliceBounds,h1.1,h2.1],by omega,fun _=>h2.2,by simp,h1'.2⟩
   ·simp only [jv] at hl
    have h3:=kV (P:=P) (code:=.slice3C) (w:=w) hv3 hl
    exact ⟨by simp [Instr.sliceBounds,h1.1,h2.1,h3.1],h3.2,fun _=>h2.2,by simp,h1'.2⟩
theorem rA {P:Program} {RE:Bool} {len cap cap' m h l:Nat} {lo hi mx lo' hi' Xb:Option Value} (hlo:OR φ lo lo') (hhi:OR φ hi hi') (Vb:OR φ mx Xb) (hcap:cap≤cap')
  (hlen:len≤cap) (hb:mB lo hi mx len cap=some (l,h,m)) :
  (Instr.sliceBounds RE len cap' lo' hi' Xb).run P w=.ok (l,h,if mx.isSome then m else cap') w∧l≤h∧h≤m∧m≤cap∧(mx=none→m=cap):=by
 unfold mB at hb
 cases h0:(mx.isSome&&hi.isNone) with
 |true=>rw [h0] at hb;cases hb
 |false=>
  rw [h0] at hb
  simp only [cond_false] at hb
  split at hb
  ·rename_i m' hm
   split at hb
   ·rename_i h' hh
    split at hb
    ·rename_i l' hl
     simp only [Option.some.injEq,Prod.mk.injEq] at hb
     obtain ⟨rfl,rfl,rfl⟩:=hb
     have h0':¬ (mx.isSome=true∧hi=none):=fun ⟨a,b⟩=>by subst b;simp [a] at h0
     have hk:=NT (P:=P) (w:=w) (RE:=RE) hlo hhi Vb hcap h0' hlen hm hh hl
     refine ⟨hk.1,hk.2.1,?_,hk.2.2.2.2,fun e=>by subst e;simpa [jv] using hm.symm⟩
     by_cases hc:mx.isSome=true∨hi.isSome=true
     ·exact hk.2.2.1 hc
     ·have e1:mx=none:=by cases mx <;> simp_all
      have e2:hi=none:=by cases hi <;> simp_all
      have:=hk.2.2.2.1 e1 e2
      subst e1
      simp [jv] at hm
      omega
    ·cases hb
   ·cases hb
  ·cases hb
theorem jR (ok:E.Ok) {t e sz:Nat} (ht:E.ul t=some (.slice e)) (hs:E.size e=some sz) {a:Option Addr} {n c l h m:Nat} {lo hi mx:Option Value}
  (hb:(Instr.sliceBounds true n c lo hi mx).run E.P w=.ok (l,h,m) w) :
  (Instr.sliceAt t (.slice a n c) lo hi mx).run E.P w=.ok (.slice (if m=l then a else a.map (·.add (l*sz))) (h-l) (m-l)) w:=by
 unfold Instr.sliceAt
 rw [ax (dI ok ht w)]
 simp only [Instr.slice]
 rw [ax (dI ok ht w)]
 simp only
 rw [ax hb]
 simp only
 rw [ax (ec ok hs w)]
 rfl
theorem F6 {a b:Nat} {α:Type} (x y:α):(bif Nat.beq a b then x else y)=if a=b then x else y:=by
 by_cases h:a=b
 ·rw [Fz h,if_pos h];rfl
 ·rw [uT h,if_neg h];rfl
theorem SM (ok:E.Ok) {t:TypeId} {x x' v:Value} {lo hi mx lo' hi' Xb:Option Value} (hx:VR φ x x') (hlo:OR φ lo lo') (hhi:OR φ hi hi') (Vb:OR φ mx Xb)
  (h:ja E t x lo hi mx=some v):∃ u,(Instr.sliceAt t x' lo' hi' Xb).run E.P w=.ok u w∧VR φ v u:=by
 unfold ja at h
 split at h
 ·
  cases hx
  split at h
  ·rename_i e ht
   split at h
   ·rename_i n r hs hb
    injection h with h
    subst h
    obtain ⟨l,h',m⟩:=r
    have hk:=rA (P:=E.P) (w:=w) (RE:=true) hlo hhi Vb (Nat.le_refl 0) (Nat.le_refl 0) hb
    refine ⟨_,jR ok ht hs hk.1,?_⟩
    have e1:l=0:=by omega
    have e2:h'=0:=by omega
    have e3:m=0:=by omega
    subst e1 e2 e3
    simp
    exact .EN
   ·cases h
  ·cases h
 ·rename_i b off n c
  split at h
  ·rename_i e ht
   split at h
   ·rename_i sz hs
    split at h
    ·rename_i k Tw
     obtain ⟨l0,Nf,hnk,rfl⟩:=hx.Bo Tw
     split at h
     ·rename_i l h' m hb
      injection h with h
      subst h
      have hk:=rA (P:=E.P) (w:=w) (RE:=true) hlo hhi Vb (Nat.le_refl k) hnk hb
      refine ⟨_,jR ok ht hs hk.1,?_⟩
      have em:(if mx.isSome=true then m else k)=m:=by
       cases mx with
       |none=>simp;exact (hk.2.2.2.2 rfl).symm
       |some q=>rfl
      rw [em,F6]
      by_cases hml:m=l
      ·rw [if_pos hml,if_pos hml];exact .Ia _ _ _ _ _ Nf aa
      ·rw [if_neg hml,if_neg hml]
       simp only [Option.map_some,add_plain,Nat.add_assoc]
       exact .Ia _ _ _ _ _ Nf aa
     ·cases h
    ·rename_i s Tw
     obtain ⟨l0,k,Nf,hnk,hlim,rfl⟩:=hx.NC Tw
     split at h
     ·rename_i l h' m hb
      have hk:=rA (P:=E.P) (w:=w) (RE:=true) hlo hhi Vb hnk (Nat.le_refl n) hb
      split at h
      ·rename_i q
       injection h with h
       subst h
       refine ⟨_,jR ok ht hs hk.1,?_⟩
       simp only [Option.isSome_some,if_true]
       rw [F6]
       by_cases hml:m=l
       ·rw [if_pos hml,if_pos hml];exact .Ia _ _ _ _ _ Nf aa
       ·rw [if_neg hml,if_neg hml]
        simp only [Option.map_some,add_plain,Nat.add_assoc]
        exact .Ia _ _ _ _ _ Nf aa
      ·cases hc:(Nat.beq s sz&&(Nat.beq l 0||Nat.blt l n)) with
       |false=>rw [hc] at h;cases h
       |true=>
        rw [hc] at h
        injection h with h
        subst h
        simp at hc
        obtain ⟨rfl,hc⟩:=hc
        have hm:=hk.2.2.2.2 rfl
        refine ⟨_,jR ok ht hs hk.1,?_⟩
        simp only [Option.isSome_none,Bool.false_eq_true,if_false]
        have hbound:off+l*s+(k-l)*s≤l0.HZ:=by
         have:l*s+(k-l)*s=k*s:=by rw [← Nat.add_mul];congr 1;omega
         omega
        by_cases hml:k=l
        ·have:l=0:=by omega
         subst this
         subst hml
         simp
         have:=VR.NB b off (h'-0) 0 s l0 Nf aa aa
         simpa using this
        ·rw [if_neg hml]
         simp only [Option.map_some,add_plain,Nat.add_assoc]
         exact .NB _ _ _ _ _ _ Nf aa hbound
     ·cases h
   ·cases h
  ·cases h
 ·rename_i b off
  obtain ⟨l0,Nf,rfl⟩:=hx.qc
  split at h
  ·rename_i n e ht
   split at h
   ·rename_i sz l h' m hs hb
    injection h with h
    subst h
    have hk:=rA (P:=E.P) (w:=w) (RE:=false) hlo hhi Vb (Nat.le_refl n) (Nat.le_refl n) hb
    have hm:=hk.2.2.2.2 rfl
    subst hm
    have hr:=hk.1
    simp only [Option.isSome_none,Bool.false_eq_true,if_false] at hr
    rcases Vb with ⟨_,rfl⟩ |⟨_,_,Rn,_⟩
    ·refine ⟨.slice (some (if m=l then ⟨l0.gK,l0.off+off,none⟩ else ⟨l0.gK,l0.off+(off+l*sz),none⟩)) (h'-l) (m-l),?_,?_⟩
     ·unfold Instr.sliceAt
      rw [ax (dI ok ht w)]
      simp only [Instr.sureAddr]
      rw [ax (run_pure _ w),ax hr]
      simp only
      rw [ax (ec ok hs w)]
      simp only [add_plain,Nat.add_assoc]
      rfl
     ·rw [F6]
      by_cases hml:m=l
      ·rw [if_pos hml,if_pos hml];exact .Ia _ _ _ _ _ Nf aa
      ·rw [if_neg hml,if_neg hml];exact .Ia _ _ _ _ _ Nf aa
    ·cases Rn
   ·cases h
  ·cases h
 ·cases h
end
section
variable {E:Env} {base:Nat} {φ:cS} {w:World} {H:Hp}
theorem Ge (ok:E.Ok) {t f:Nat} {x x' v:Value} (hx:VR φ x x') (h:vX E t x f=some v):∃ u,(Instr.fieldAt t x' f).run E.P w=.ok u w∧VR φ v u:=by
 unfold vX at h
 split at h
 ·rename_i b off fs ht
  obtain ⟨l,hl,rfl⟩:=hx.qc
  split at h
  ·rename_i fd hf
   split at h
   ·rename_i n hn
    injection h with h
    subst h
    refine ⟨.pointer (some ⟨l.gK,l.off+(off+fd.offset),none⟩),?_,.ptr _ _ _ hl⟩
    unfold Instr.fieldAt
    rw [ax (dI ok ht w)]
    simp only [hf,Instr.sureAddr]
    rw [ax (run_pure _ w)]
    unfold fieldPlace
    have:(do let __do_lift ← sizeOf fd.type;if __do_lift=0 then partAt ⟨l.gK,l.off+off,none⟩ fd.offset fd.byteOffset else pure ((⟨l.gK,l.off+off,none⟩:Addr).add fd.offset):Sem Addr).run E.P w=.ok ⟨l.gK,l.off+(off+fd.offset),none⟩ w:=by
     rw [ax (ec ok hn w)]
     rw [if_neg aa,add_plain,Nat.add_assoc];rfl
    rw [ax this];rfl
   ·cases h
  ·cases h
 ·cases h
theorem G2 (ok:E.Ok) {t:Nat} {x x' i i' v:Value} (hx:VR φ x x') (hi:VR φ i i') (h:aN E t x i=some v):∃ u,(Instr.indexAt t x' i').run E.P w=.ok u w∧VR φ v u:=by
 unfold aN at h
 split at h
 ·rename_i n e k i ht
  cases hi
  split at h
  ·rename_i b off sz hs
   obtain ⟨l,hl,rfl⟩:=hx.qc
   cases hb:(decide (0≤i)&&decide (i<(n:Int))) with
   |false=>rw [hb] at h;cases h
   |true=>
    rw [hb] at h
    injection h with h
    subst h
    simp at hb
    refine ⟨.pointer (some ⟨l.gK,l.off+(off+i.toNat*sz),none⟩),?_,.ptr _ _ _ hl⟩
    simp [Instr.indexAt,ax,asIntOf,run_underlying (ok.ul ht),Instr.sureAddr,hb.1,hb.2,ec ok hs,add_plain,Nat.add_assoc]
  ·cases h
 ·rename_i e k i ht
  cases hi
  split at h
  ·rename_i b off n c sz hs
   obtain ⟨l,c',hl,hn,rfl,_⟩:=hx.uz
   cases hb:(decide (0≤i)&&decide (i<(n:Int))) with
   |false=>rw [hb] at h;cases h
   |true=>
    rw [hb] at h
    injection h with h
    subst h
    simp at hb
    refine ⟨.pointer (some ⟨l.gK,l.off+(off+i.toNat*sz),none⟩),?_,.ptr _ _ _ hl⟩
    simp [Instr.indexAt,ax,asIntOf,run_underlying (ok.ul ht),hb.1,hb.2,ec ok hs,add_plain,Nat.add_assoc]
  ·cases h
 ·cases h
theorem Nw (ok:E.Ok) {t off:Nat} {cs cs':Array Value} {v:Value} (hc:AR φ cs cs') (h:Nv E t cs off=some v):∃ u,(part t cs' off).run E.P w=.ok u w∧VR φ v u:=by
 unfold Nv at h
 split at h
 ·rename_i ha
  split at h
  ·rename_i n hn
   injection h with h
   subst h
   refine ⟨.agg (cs'.extract off (off+n)),?_,.J5 ⟨by simp [hc.1],fun i x y hx hy=>?_⟩⟩
   ·unfold part
    rw [ax (lE ok ha w)]
    simp only [if_true]
    rw [ax (ec ok hn w)];rfl
   ·rw [Array.getElem?_extract] at hx hy
    split at hx
    ·rename_i h1
     rw [← hc.1,if_pos h1] at hy
     exact hc.2 _ x y hx hy
    ·cases hx
  ·cases h
 ·rename_i ha
  obtain ⟨u,hu,hv⟩:=hc.get h
  refine ⟨u,?_,hv⟩
  unfold part
  rw [ax (lE ok ha w)]
  simp only [Bool.false_eq_true,if_false,hu];rfl
 ·cases h
theorem T8 (ok:E.Ok) (d:Nat) {t:Nat} {x x' y y':Value} {b:Bool} (hx:VR φ x x') (hy:VR φ y y') (h:X3 E t x y=some b):(Op.equalIn (d+1) t x' y').run E.P w=.ok b w:=by
 unfold X3 at h
 split at h
 case h_3=>
  rename_i e b o b' o' ht
  split at h
  ·rename_i n hn
   by_cases hb:b=b'
   ·rw [Fz hb] at h
    injection h with h
    subst h hb
    obtain ⟨l,hl,rfl⟩:=hx.qc
    obtain ⟨l',hl',rfl⟩:=hy.qc
    rw [hl] at hl'
    injection hl' with hl'
    subst hl'
    simp [Op.equalIn,run_underlying (ok.ul ht),ec ok hn,sameAddr]
    by_cases ho:o=o'
    ·subst ho;simp [Nat.beq_refl]
    ·rw [uT ho];simp [ho]
   ·rw [uT hb] at h;cases h
  ·cases h
 all_goals first
  |(cases h;done)
  |(rename_i ht
    injection h with h;subst h
    cases hx <;> cases hy <;> simp [Op.equalIn,run_underlying (ok.ul ht)])
theorem WM (ok:E.Ok) {t:Nat} {x x' y y':Value} {b:Bool} (hx:VR φ x x') (hy:VR φ y y') (h:X3 E t x y=some b):(Op.equal t x' y').run E.P w=.ok b w:=
 T8 ok 9999 hx hy h
end
theorem Fm (off:Nat):∀(vs:List Value) (k:Nat) (cells:Array Value),off+k+vs.length≤cells.size→
  ((vs.zipIdx k).foldl (fun cs (p:Value×Nat)=>cs.setIfInBounds (off+p.2) p.1) cells).size=cells.size∧
  ∀ j:Nat,((vs.zipIdx k).foldl (fun cs (p:Value×Nat)=>cs.setIfInBounds (off+p.2) p.1) cells)[j]?=if off+k≤j∧j<off+k+vs.length then vs[j-(off+k)]? else cells[j]?
 |[],k,cells,_=>by simp;intro j h1 h2;omega
 |v::vs,k,cells,h=>by
  simp only [List.length_cons] at h
  simp only [List.zipIdx_cons,List.foldl_cons]
  have ih:=Fm off vs (k+1) (cells.setIfInBounds (off+k) v) (by simp;omega)
  refine ⟨by rw [ih.1];simp,fun j=>?_⟩
  rw [ih.2 j]
  by_cases h1:off+(k+1)≤j∧j<off+(k+1)+vs.length
  ·rw [if_pos h1,if_pos (by simp;omega),show j-(off+k)=(j-(off+(k+1)))+1 by omega];simp
  ·rw [if_neg h1]
   by_cases h2:j=off+k
   ·subst h2
    rw [if_pos (by simp),Array.getElem?_setIfInBounds_self_of_lt aa]
    simp
   ·rw [if_neg (by simp;omega),Array.getElem?_setIfInBounds_ne aa]
section
variable {E:Env} {base:Nat} {φ:cS} {w:World} {H:Hp}
theorem O2 {c xs:List Value} {d r:Array Value} {ys:Array Value} {o:Nat} (hc:LR φ c d.toList) (hx:AR φ xs.toArray ys) (hn:o+xs.length≤c.length)
  (hr:r.size=d.size) (hg:∀ j:Nat,r[j]?=if o≤j∧j<o+xs.length then ys[j-o]? else d[j]?):LR φ (splice c o xs) r.toList:=by
 have hcl:=hc.1
 refine ⟨by rw [mM];simpa [hr] using hcl,fun j x y h1 h2=>?_⟩
 rw [sH c o xs hn] at h1
 have WS:r[j]?=some y:=by simpa using h2
 rw [hg] at WS
 by_cases hj:o≤j∧j<o+xs.length
 ·rw [if_pos hj] at h1 WS
  exact hx.2 _ x y (by simpa using h1) WS
 ·rw [if_neg hj] at h1 WS
  exact hc.2 j x y h1 (by simpa using WS)
theorem A0 {T:Tm} {ρ:Operand→Value} (he:J2 E φ T ρ) (place Lq:Nat→Option (Nat×Nat)) (hp:∀ i p,place i=some p→Lq i=some p) :
  ∀(ps:List (Nat×Operand)) (c c':List Value) (d:Array Value),LR φ c d.toList→BO E T place c ps=some c'→
   ∃ d',Instr.fill Lq d (ps.map fun p=>(p.1,ρ p.2))=some d'∧LR φ c' d'.toList
 |[],c,c',d,hc,h=>by simp [BO] at h;subst h;exact ⟨d,rfl,hc⟩
 |(i,x)::ps,c,c',d,hc,h=>by
  simp only [BO] at h
  split at h
  ·rename_i off size qQ
   split at h
   ·rename_i v hv
    cases hb:(Nat.beq v.cells.size size&&Nat.ble (off+size) c.length) with
    |false=>rw [hb] at h;cases h
    |true=>
     rw [hb] at h
     simp at hb
     obtain ⟨ei,ig⟩:=hb
     have HX:=(he x v hv).cells
     have hcl:c.length=d.size:=by simpa using hc.1
     have hfs:=Fm off (ρ x).cells.toList 0 d (by simp [← HX.1,ei];omega)
     have hkey:(ρ x).cells.zipIdx.foldl (fun cs (p:Value×Nat)=>cs.setIfInBounds (off+p.2) p.1) d=((ρ x).cells.toList.zipIdx 0).foldl (fun cs (p:Value×Nat)=>cs.setIfInBounds (off+p.2) p.1) d:=by
      rw [← Array.foldl_toList,Array.toList_zipIdx]
     have hlr:LR φ (splice c off v.cells.toList) (((ρ x).cells.toList.zipIdx 0).foldl (fun cs (p:Value×Nat)=>cs.setIfInBounds (off+p.2) p.1) d).toList:=by
      refine O2 (ys:=(ρ x).cells) hc (by simpa using HX) (by simp [ei];omega) hfs.1 (fun j=>?_)
      rw [hfs.2 j]
      have e1:(ρ x).cells.toList.length=v.cells.toList.length:=by simp [HX.1]
      simp [e1]
     obtain ⟨d',h1,h2⟩:=A0 he place Lq hp ps _ c' _ hlr h
     refine ⟨d',?_,h2⟩
     simp only [List.map_cons,Instr.fill,hp i _ qQ]
     rw [if_neg (by simp [← HX.1,ei];omega)]
     rw [hkey]
     exact h1
   ·cases h
  ·cases h
theorem Ao (ok:E.Ok):∀(fs:List Field),fs.all (fun f=>(E.size f.type).isSome)=true→
  ∃ ps,fs.mapM (fun f=>(E.P.info? f.type).map fun i=>(f.offset,i.size))=some ps∧ps.length=fs.length∧∀(i:Nat) f n,fs[i]?=some f→E.size f.type=some n→ps[i]?=some (f.offset,n)
 |[],_=>⟨[],rfl,rfl,fun i f n h=>by simp at h⟩
 |f::fs,h=>by
  simp only [List.all_cons,Bool.and_eq_true] at h
  obtain ⟨ps,h1,h2,h3⟩:=Ao ok fs h.2
  obtain ⟨n,hn⟩:=Option.isSome_iff_exists.1 h.1
  obtain ⟨i,hi,hin⟩:=ok.size hn
  refine ⟨(f.offset,n)::ps,by simp [List.mapM_cons,hi,h1,hin],by simp [h2],fun j g m hj hm=>?_⟩
  cases j with
  |zero=>
   simp at hj;subst hj
   rw [hn] at hm;injection hm with hm;subst hm;rfl
  |succ j=>simp at hj;simpa using h3 j g m hj hm
theorem PN (ok:E.Ok) {T:Tm} {ρ:Operand→Value} (he:J2 E φ T ρ) {t:TypeId} {ps:Array (Nat×Operand)} {v:Value} (h:Kd E T t ps=some v) :
  ∃ u,(Instr.build t (ps.map fun p=>(p.1,ρ p.2))).run E.P w=.ok u w∧VR φ v u:=by
 unfold Kd at h
 split at h
 ·rename_i z fs hz ht
  obtain ⟨iz,U7,hzz⟩:=ok.zero hz
  cases hb:(ground z&&fs.all fun f=>(E.size f.type).isSome) with
  |false=>rw [hb] at h;cases h
  |true=>
   rw [hb] at h
   simp only [cond_true] at h
   rw [Bool.and_eq_true] at hb
   split at h
   ·rename_i c hf
    injection h with h
    subst h
    obtain ⟨pl,h1,h2,h3⟩:=Ao ok fs.toList (by rw [← hb.2];simp)
    obtain ⟨d',h4,h5⟩:=A0 he (Lr E fs) (pl.toArray[·]?) (fun i p hp=>by
     unfold Lr at hp
     split at hp
     ·rename_i f hf'
      split at hp
      ·rename_i n hn
       injection hp with hp
       subst hp
       simpa using h3 i f n (by simpa using hf') hn
      ·cases hp
     ·cases hp) ps.toList _ c z.cells ((jz hb.1).toList) hf
    refine ⟨.agg d',run_build w t _ d' ?_,.J5 (by simpa using h5.toArray)⟩
    unfold Program.built
    simp only [U7,ok.ul ht,hzz,h1]
    simpa using h4
   ·cases h
 ·rename_i z n e hz ht
  obtain ⟨iz,U7,hzz⟩:=ok.zero hz
  split at h
  ·rename_i m hm
   obtain ⟨ie,hie,adP⟩:=ok.size hm
   cases hb:ground z with
   |false=>rw [hb] at h;cases h
   |true=>
    rw [hb] at h
    simp only [cond_true] at h
    split at h
    ·rename_i c hf
     injection h with h
     subst h
     obtain ⟨d',h4,h5⟩:=A0 he (fun i=>some (i*m,m)) (fun i=>some (i*m,m)) (fun i p hp=>hp) ps.toList _ c z.cells ((jz hb).toList) hf
     refine ⟨.agg d',run_build w t _ d' ?_,.J5 (by simpa using h5.toArray)⟩
     unfold Program.built
     simp only [U7,ok.ul ht,hzz,hie,adP]
     simpa using h4
    ·cases h
  ·cases h
 ·cases h
theorem oc (z:List Value) (n:Nat):(fD z n).length=n*z.length:=by
 induction n with
 |zero=>simp [fD]
 |succ n ih=>simp [fD,ih,Nat.add_mul];omega
theorem F1 (z:List Value) (hz:0<z.length):∀(n j:Nat),j<n*z.length→(fD z n)[j]?=z[j%z.length]?
 |0,j,h=>by simp at h
 |n+1,j,h=>by
  rw [Nat.add_mul] at h
  simp only [fD]
  by_cases hj:j<z.length
  ·rw [List.getElem?_append_left hj,Nat.mod_eq_of_lt hj]
  ·rw [List.getElem?_append_right aa,F1 z hz n _ aa,← Nat.mod_eq_sub_mod aa]
theorem uE (z:List Value) (n:Nat):(fD z n).toArray=(Array.range (n*z.length)).map fun i=>z.toArray[i%z.length]!:=by
 apply Array.ext_getElem?
 intro j
 by_cases hj:j<n*z.length
 ·have hz:0<z.length:=by
   rcases Nat.eq_zero_or_pos z.length with h |h
   ·rw [h] at hj;simp at hj
   ·exact h
  simp only [List.getElem?_toArray,F1 z hz n j hj]
  have hm:j%z.length<z.length:=Nat.mod_lt _ hz
  simp [hj,List.getElem?_eq_getElem hm]
 ·rw [Array.getElem?_eq_none (by simp [oc];omega),Array.getElem?_eq_none (by simp;omega)]
theorem Pk (z:List Value) (p:Value→Bool) (h:z.all p=true) (n:Nat):(fD z n).all p=true:=by
 induction n with
 |zero=>rfl
 |succ n ih=>simp only [fD,List.all_append,h,ih];rfl
theorem Ez {z:List Value} (h:LR φ z z) (n:Nat):LR φ (fD z n) (fD z n):=by
 induction n with
 |zero=>exact .nil φ
 |succ n ih=>exact h.append ih
end
section
variable {E:Env} {base:Nat} {φ:cS} {w:World} {H:Hp}
structure Src (P:Program) (w:World) (size:Nat) (x:Value) (m:Nat) (news:List Value):Prop where
 len:∀ w',(Builtin.lenOf x).run P w'=.ok m w'
 cells:∀ w',w'.heap=w.heap→(Builtin.firstCells size m x).run P w'=.ok news.toArray w'
 size:news.length=m*size
theorem zf {w w':World} (h:w'.heap=w.heap) (a:Addr):w'.cell? a=w.cell? a:=by simp [World.cell?,h]
theorem u9 {sz m:Nat} {x x':Value} {new:List Value} {R S:List Nat} (hx:VR φ x x') (h:n9 H sz x=some (m,new,R)) (hp:Pre E base φ w H S) (hS:∀ i,i∈R→i∈S) (hsz:∀ s,x=.string s→sz=1) :
  ∃ news,Src E.P w sz x' m news∧LR φ new news:=by
 unfold n9 at h
 split at h
 ·rename_i s
  cases hx
  simp only [Option.some.injEq,Prod.mk.injEq] at h
  obtain ⟨rfl,rfl,rfl⟩:=h
  have h1:=hsz s rfl
  subst h1
  refine ⟨(s.data.map fun b=>Value.int .u8 b.toNat).toList,⟨fun w'=>rfl,fun w' _=>?_,by simp⟩,⟨rfl,fun i x y hx hy=>?_⟩⟩
  ·simp only [Builtin.firstCells]
   have:(s.extract 0 s.size)=s:=by
    apply ByteArray.ext;simp
   rw [this];rfl
  ·rw [hx] at hy;injection hy with hy;subst hy
   simp at hx
   obtain ⟨b,_,rfl⟩:=hx
   exact .int _ _
 ·cases hx
  simp only [Option.some.injEq,Prod.mk.injEq] at h
  obtain ⟨rfl,rfl,rfl⟩:=h
  exact ⟨[],⟨fun w'=>rfl,fun w' _=>rfl,by simp⟩,.nil φ⟩
 ·rename_i b off n c
  split at h
  ·rename_i xs hr
   simp only [Option.some.injEq,Prod.mk.injEq] at h
   obtain ⟨rfl,rfl,rfl⟩:=h
   obtain ⟨l,c',hl,hn,rfl,_⟩:=hx.uz
   obtain ⟨ys,h1,h2,h3⟩:=zR hp (hS b (by simp)) hl hr
   refine ⟨ys,⟨fun w'=>rfl,fun w' hw'=>?_,by rw [← h2.1,h1]⟩,h2⟩
   simp only [Builtin.firstCells]
   exact run_loadCells ys (by rw [← h2.1,h1]) (fun j y hy=>by rw [zf hw'];exact h3 j y hy)
  ·cases h
 ·cases h
theorem zS {P:Program} {ts:Array TypeId} (hz:∀ u,ts[1]?=some u→∃ d,P.underlying u=some d∧∀ k,d≠.int k) (w:World) {α:Type} (K:Bool→Sem α) :
  (match ts[1]? with
  |some xType=>(do
   let d ← underlying xType
   let fD ← pure (match d with |.int k=>true |x=>false)
   K fD)
  |none=>(do
   let fD ← pure false
   K fD)).run P w=(K false).run P w:=by
 cases h:ts[1]? with
 |none=>rfl
 |some u=>
  obtain ⟨d,h1,h2⟩:=hz u h
  simp only
  rw [ax (run_underlying h1 w)]
  cases d <;> first |rfl |exact absurd rfl (h2 _)
theorem vL {P:Program} {ts:Array TypeId} {t ty e:TypeId} {i:TypeInfo} (h0:ts[0]?=some t) (ht:P.underlying t=some (.slice e)) (hi:P.info? e=some i)
  (hz:∀ u,ts[1]?=some u→∃ d,P.underlying u=some d∧∀ k,d≠.int k) {x:Value} {m:Nat} {news:List Value} (hs:Src P w i.size x m news)
  {B o n c:Nat} (hfit:n+m≤c) {w':World} (hw:(storeCells ⟨B,o+n*i.size,none⟩ news).run P w=.ok () w') :
  (Builtin.append_ ts ty #[.slice (some ⟨B,o,none⟩) n c,x]).run P w=.ok (.slice (some ⟨B,o,none⟩) (n+m) c) w':=by
 have hsz:(sizeOf e).run P w=.ok i.size w:=by simp [Go.sizeOf,typeInfo,hi]
 unfold Builtin.append_
 simp only [h0]
 have a0:(#[Value.slice (some ⟨B,o,none⟩) n c,x]:Array Value)[0]?=some (.slice (some ⟨B,o,none⟩) n c):=rfl
 have a1:(#[Value.slice (some ⟨B,o,none⟩) n c,x]:Array Value)[1]?=some x:=rfl
 simp only [a0,a1]
 rw [ax (run_underlying ht w)]
 simp only
 rw [ax hsz]
 refine (zS hz w _).trans ?_
 simp only [Bool.false_eq_true,if_false,Bool.not_false,if_true]
 rw [ax (hs.len w)]
 rw [if_pos hfit]
 rw [ax (hs.cells w rfl)]
 simp only [add_plain]
 rw [ax (by simpa using hw)]
 rfl
theorem AV {P:Program} {ts:Array TypeId} {t ty e:TypeId} {i:TypeInfo} (h0:ts[0]?=some t) (ht:P.underlying t=some (.slice e)) (hi:P.info? e=some i)
  (hz:∀ u,ts[1]?=some u→∃ d,P.underlying u=some d∧∀ k,d≠.int k) {x:Value} {news:List Value} (hs:Src P w i.size x 0 news) :
  (Builtin.append_ ts ty #[.slice none 0 0,x]).run P w=.ok (.slice none 0 0) w:=by
 have hsz:(sizeOf e).run P w=.ok i.size w:=by simp [Go.sizeOf,typeInfo,hi]
 unfold Builtin.append_
 simp only [h0]
 have a0:(#[Value.slice none 0 0,x]:Array Value)[0]?=some (.slice none 0 0):=rfl
 have a1:(#[Value.slice none 0 0,x]:Array Value)[1]?=some x:=rfl
 simp only [a0,a1]
 rw [ax (run_underlying ht w)]
 simp only
 rw [ax hsz]
 refine (zS hz w _).trans ?_
 simp only [Bool.false_eq_true,if_false,Bool.not_false,if_true]
 rw [ax (hs.len w)]
 rw [if_pos aa]
 rw [ax (hs.cells w rfl)]
 rfl
theorem Qk (need old e t:Nat) (h:need<2 ^ 63):need≤(Question.appendCap need old e).cut t:=by simp only [Question.cut];omega
theorem Af {P:Program} (b:Nat) (w:World):(askRoom b).run P w=.ok () w:=by unfold askRoom;split <;> rfl
theorem oU {P:Program} {ts:Array TypeId} {t ty e:TypeId} {i:TypeInfo} {z:Value} (h0:ts[0]?=some t) (ht:P.underlying t=some (.slice e)) (hi:P.info? e=some i) (U7:i.zero=some z)
  (hz:∀ u,ts[1]?=some u→∃ d,P.underlying u=some d∧∀ k,d≠.int k) {x:Value} {m:Nat} {news:List Value} (hs:Src P w i.size x m news)
  {a:Option Addr} {n c:Nat} {olds:List Value} (ho:∀ w',w'.heap=w.heap→(Builtin.firstCells i.size n (.slice a n c)).run P w'=.ok olds.toArray w')
  (hfit:¬ n+m≤c) (hb:0<i.bytes) (WZ:(n+m)*i.bytes≤most) :
  ∃ cap,n+m≤cap∧∃ w',w'.heap=w.heap.push (.cells (olds.toArray++news.toArray++Builtin.zeroCells z.cells (cap-(n+m))) e (0,0))∧w'.os=w.os∧w'.tape=w.tape∧w'.output=w.output∧
   (Builtin.append_ ts ty #[.slice a n c,x]).run P w=.ok (.slice (some ⟨w.heap.size,0,none⟩) (n+m) cap) w':=by
 have hsz:(sizeOf e).run P w=.ok i.size w:=by simp [Go.sizeOf,typeInfo,hi]
 have Pq:∀ w',(typeInfo e).run P w'=.ok i w':=fun w'=>by simp [typeInfo,hi]
 have hzv:∀ w',(zeroValue e).run P w'=.ok z w':=fun w'=>by simp [zeroValue,typeInfo,hi,U7]
 have hlt:n+m<2 ^ 63:=by
  have:n+m≤(n+m)*i.bytes:=Nat.le_mul_of_pos_right _ hb
  unfold most at WZ
  omega
 let w1:World:={ w with drawn:=w.drawn+1 }
 refine ⟨(Question.appendCap (n+m) c e).cut (w.tape w.drawn (.appendCap (n+m) c e)),Qk _ _ _ _ hlt,{ w1 with heap:=w1.heap.push _ },rfl,rfl,rfl,rfl,?_⟩
 unfold Builtin.append_
 simp only [h0]
 have a0:(#[Value.slice a n c,x]:Array Value)[0]?=some (.slice a n c):=rfl
 have a1:(#[Value.slice a n c,x]:Array Value)[1]?=some x:=rfl
 simp only [a0,a1]
 rw [ax (run_underlying ht w)]
 simp only
 rw [ax hsz]
 refine (zS hz w _).trans ?_
 simp only [Bool.false_eq_true,if_false,Bool.not_false,if_true,false_or]
 rw [ax (hs.len w)]
 rw [if_neg hfit]
 rw [ax (Pq w)]
 have hne:¬ (((n+m:Nat):Int)>IntKind.i64.max∧i.bytes=0):=by omega
 rw [if_neg hne]
 rw [ax (Pq w)]
 have ad1:¬ (Builtin.nextslicecap (n+m) c*i.bytes>2 ^ 48):=by
  have:=growslice_fits (need:=n+m) (old:=c) (bytes:=i.bytes) aa (by unfold most at WZ;omega)
  omega
 rw [if_neg ad1]
 have hch:(choose (.appendCap (n+m) c e)).run P w=.ok ((Question.appendCap (n+m) c e).cut (w.tape w.drawn (.appendCap (n+m) c e))) w1:=rfl
 rw [ax hch,ax (Pq w1),ax (Af _ w1),ax (ho w1 rfl),ax (hs.cells w1 rfl),ax (hzv w1),ax (mg _ _ w1)]
 rfl
end
structure jJ (H H':Hp) (W R:List Nat):Prop where
 ext:cR W H H'
 wf:Wf H'
 sub:∀ i,i∈W→i∈R
section
variable {E:Env} {base:Nat} {φ:cS} {w:World} {H:Hp}
theorem jJ.same (wf:Wf H) (R:List Nat):jJ H H [] R:=⟨cR.refl ..,wf,by simp⟩
theorem jJ.new (wf:Wf H) (o:Ob) (R:List Nat):jJ H (H.new o) [] R:=⟨cR.new H wf o,wf.new o,by simp⟩
theorem jJ.set (wf:Wf H) {b:Nat} (o:Ob) (hw:dA (H.get b)=true) {R:List Nat} (hb:b∈R):jJ H (H.set b o) [b] R:=
 ⟨cR.set H b o hw,wf.set (by
  cases hg:H.get b with
  |none=>rw [hg] at hw;simp [dA] at hw
  |some o=>exact wf.lt hg) o,fun i hi=>by simp at hi;subst hi;exact hb⟩
theorem Wy (ok:E.Ok) {ts:Array TypeId} (h:Pg E ts=false):∀ u,ts[1]?=some u→∃ d,E.P.underlying u=some d∧∀ k,d≠.int k:=by
 intro u hu
 unfold Pg at h
 rw [hu] at h
 simp only at h
 split at h
 ·cases h
 ·rename_i d hn hd;exact ⟨d,ok.ul hd,fun k e=>hn k e⟩
 ·cases h
theorem E8 (ok:E.Ok) (wf:Wf H) {ts:Array TypeId} {ty:TypeId} {s s' x x' v:Value} {H':Hp} {W R:List Nat} (h:ee E ts s x H=some (v,H',W,R)) :
  jJ H H' W R∧∀(base:Nat) (φ:cS) (w:World),Pre E base φ w H R→gM φ H.n H'.n→VR φ s s'→VR φ x x'→
   mR E base φ w H (do Pure.pure (.value (← Builtin.append_ ts ty #[s',x']))) v H' W:=by
 unfold ee at h
 split at h
 rotate_left
 ·cases h
 rename_i t h0
 split at h
 rotate_left
 ·cases h
 rename_i e ht
 split at h
 rotate_left
 ·cases h
 rename_i i hi
 split at h
 rotate_left
 ·cases h
 rename_i z U7
 cases hc:(!Pg E ts&&Nat.beq z.cells.size i.size&&Nat.blt 0 i.size&&Nat.blt 0 i.bytes&&mN x i.size) with
 |false=>rw [hc] at h;cases h
 |true=>
  rw [hc] at h
  simp only [cond_true] at h
  simp only [Bool.and_eq_true,Bool.not_eq_true'] at hc
  obtain ⟨⟨⟨⟨hx0,hzs⟩,aaY⟩,Rm⟩,aeh⟩:=hc
  have hzs:=Nat.eq_of_beq_eq_true hzs
  have aaY:0<i.size:=by simpa [Nat.blt_eq] using aaY
  have Rm:0<i.bytes:=by simpa [Nat.blt_eq] using Rm
  split at h
  rotate_left
  ·cases h
  rename_i m new R' hsrc
  have hz:=Wy ok hx0
  have Tq:=ok.info _ _ hi
  have ZY:=ok.ul ht
  have I0:∀ q,x=.string q→i.size=1:=fun q e=>by subst e;simpa [mN] using aeh
  cases hone:new.all one with
  |false=>rw [hone] at h;cases h
  |true=>
   rw [hone] at h
   simp only [cond_true] at h
   unfold uI at h
   split at h
   ·
    by_cases hm:m=0
    ·rw [Fz hm] at h
     simp only [cond_true,Option.some.injEq,Prod.mk.injEq] at h
     obtain ⟨rfl,rfl,rfl,rfl⟩:=h
     refine ⟨jJ.same wf _,fun base φ w hp hf hs hx=>?_⟩
     cases hs
     obtain ⟨news,gL,_⟩:=u9 hx hsrc hp (fun i hi=>hi) I0
     subst hm
     exact mR.of_run .EN (AV h0 ZY Tq hz gL)
    ·rw [uT hm] at h
     simp only [cond_false] at h
     cases hmo:Nat.ble (m*i.bytes) most with
     |false=>rw [hmo] at h;cases h
     |true=>
      rw [hmo] at h
      simp only [cond_true,Option.some.injEq,Prod.mk.injEq] at h
      obtain ⟨rfl,rfl,rfl,rfl⟩:=h
      refine ⟨jJ.new wf _ _,fun base φ w hp hf hs hx=>?_⟩
      cases hs
      obtain ⟨news,gL,hlr⟩:=u9 hx hsrc hp (fun i hi=>hi) I0
      obtain ⟨cap,hcap,w',hb,ho,htp,GZ,hr⟩:=oU (ty:=ty) (n:=0) (c:=0) (a:=none) (olds:=[]) h0 ZY Tq U7 hz gL (fun w' _=>rfl) aa Rm (by rw [Nat.zero_add];exact Nat.le_of_ble_eq_true hmo)
      have hfree:φ H.n=none:=hf _ (Nat.le_refl _) (by simp)
      rw [Nat.zero_add] at hcap hb hr
      refine mR.value (φ':=fun j=>if j=H.n then some ⟨w.heap.size,0,cap*i.size⟩ else φ j) hr ?_ ?_
      ·have:=VR.NB (φ:=fun j=>if j=H.n then some ⟨w.heap.size,0,cap*i.size⟩ else φ j) H.n 0 m cap i.size ⟨w.heap.size,0,cap*i.size⟩ (by simp) hcap (by simp)
       simpa using this
      ·have hlen:=hlr.1
       have Vh:=gL.size
       refine gF.row (cap*i.size) new _ e 0 0 hfree hp.bs hb ho htp GZ ?_ ?_ (fun j y hy=>?_) (fun j _=>by omega)
       ·have:(m+(cap-m))*i.size=cap*i.size:=by congr 1;omega
        simp [Vh,Builtin.zeroCells,hzs,← Nat.add_mul];omega
       ·have:m*i.size≤cap*i.size:=Nat.mul_le_mul_right _ hcap
        omega
       ·obtain ⟨u,hu,hv⟩:=hlr.get hy
        exact ⟨u,by
         have:j<news.length:=(List.getElem?_eq_some_iff.1 hu).1
         rw [Array.getElem?_append_left (by simpa using this)]
         simpa using hu,hv⟩
   ·rename_i b off n c
    split at h
    ·rename_i k Tw
     cases hfit:Nat.ble (n+m) k with
     |true=>
      rw [hfit] at h
      simp only [cond_true] at h
      split at h
      rotate_left
      ·cases h
      rename_i cs e' hg
      cases hle:Nat.ble (off+(n+m)*i.size) cs.length with
      |false=>rw [hle] at h;cases h
      |true=>
       rw [hle] at h
       simp only [cond_true,Option.some.injEq,Prod.mk.injEq] at h
       obtain ⟨rfl,rfl,rfl,rfl⟩:=h
       have hle:=Nat.le_of_ble_eq_true hle
       have hfit:=Nat.le_of_ble_eq_true hfit
       refine ⟨jJ.set wf _ (by rw [hg];rfl) (by simp),fun base φ w hp hf hs hx=>?_⟩
       obtain ⟨l,hl,hnk,rfl⟩:=hs.Bo Tw
       obtain ⟨news,gL,hlr⟩:=u9 hx hsrc (hp.sub (S:=R') (fun i hi=>by simp [hi])) (fun i hi=>hi) I0
       have Vh:=gL.size
       have hmul:(n+m)*i.size=n*i.size+m*i.size:=Nat.add_mul ..
       obtain ⟨w',hw,hout⟩:=gF.write (o:=off+n*i.size) hp wf (by simp) hl hg (by rw [hlr.1,Vh];omega) hlr (xY hone)
       refine mR.value (vL h0 ZY Tq hz gL hfit (by rw [Nat.add_assoc];exact hw)) ?_ hout
       exact .Ia _ _ _ _ _ hl hfit
     |false=>
      rw [hfit] at h
      simp only [cond_false] at h
      split at h
      rotate_left
      ·cases h
      rename_i old hrow
      cases hmo:Nat.ble ((n+m)*i.bytes) most with
      |false=>rw [hmo] at h;cases h
      |true=>
       rw [hmo] at h
       simp only [cond_true,Option.some.injEq,Prod.mk.injEq] at h
       obtain ⟨rfl,rfl,rfl,rfl⟩:=h
       have aaI:¬ n+m≤k:=fun hh=>by rw [Nat.ble_eq_true_of_le hh] at hfit;cases hfit
       refine ⟨jJ.new wf _ _,fun base φ w hp hf hs hx=>?_⟩
       obtain ⟨l,hl,hnk,rfl⟩:=hs.Bo Tw
       obtain ⟨news,gL,hlr⟩:=u9 hx hsrc (hp.sub (S:=R') (fun i hi=>by simp [hi])) (fun i hi=>hi) I0
       obtain ⟨olds,o1,o2,o3⟩:=zR hp (by simp) hl hrow
       obtain ⟨cap,hcap,w',hb,ho,htp,GZ,hr⟩:=oU (ty:=ty) (n:=n) (c:=k) (a:=some ⟨l.gK,l.off+off,none⟩) (olds:=olds) h0 ZY Tq U7 hz gL
        (fun w' hw'=>by
         simp only [Builtin.firstCells]
         exact run_loadCells olds (by rw [← o2.1,o1]) (fun j y hy=>by rw [zf hw'];exact o3 j y hy)) aaI Rm (Nat.le_of_ble_eq_true hmo)
       have hfree:φ H.n=none:=hf _ (Nat.le_refl _) (by simp)
       have hall:=o2.append hlr
       refine mR.value (φ':=fun j=>if j=H.n then some ⟨w.heap.size,0,cap*i.size⟩ else φ j) hr ?_ ?_
       ·have:=VR.NB (φ:=fun j=>if j=H.n then some ⟨w.heap.size,0,cap*i.size⟩ else φ j) H.n 0 (n+m) cap i.size ⟨w.heap.size,0,cap*i.size⟩ (by simp) hcap (by simp)
        simpa using this
       ·have Vh:=gL.size
        have hol:olds.length=n*i.size:=by rw [← o2.1,o1]
        have hnl:new.length=m*i.size:=by rw [hlr.1,Vh]
        refine gF.row (cap*i.size) (old++new) _ e 0 0 hfree hp.bs hb ho htp GZ ?_ ?_ (fun j y hy=>?_) (fun j _=>by omega)
        ·have:(n+m+(cap-(n+m)))*i.size=cap*i.size:=by congr 1;omega
         simp [Vh,hol,Builtin.zeroCells,hzs,← Nat.add_mul];omega
        ·have:(n+m)*i.size≤cap*i.size:=Nat.mul_le_mul_right _ hcap
         rw [Nat.add_mul] at this
         simp [o1,hnl];omega
        ·obtain ⟨u,hu,hv⟩:=hall.get hy
         exact ⟨u,by
          have:j<(olds++news).length:=(List.getElem?_eq_some_iff.1 hu).1
          rw [Array.getElem?_append_left (by simpa using this)]
          simpa using hu,hv⟩
    ·rename_i sz Tw
     split at h
     rotate_left
     ·cases h
     rename_i cs e' hg
     cases hcc:(Nat.ble (off+n*i.size) cs.length&&Nat.beq sz i.size&&Nat.beq e e'&&Nat.ble ((n+m)*i.bytes) most) with
     |false=>rw [hcc] at h;cases h
     |true=>
      rw [hcc] at h
      simp only [cond_true,Option.some.injEq,Prod.mk.injEq] at h
      obtain ⟨rfl,rfl,rfl,rfl⟩:=h
      simp only [Bool.and_eq_true] at hcc
      obtain ⟨⟨⟨hle,hsz⟩,hee⟩,hmo⟩:=hcc
      have hle:=Nat.le_of_ble_eq_true hle
      have hsz:=Nat.eq_of_beq_eq_true hsz
      have hee:=Nat.eq_of_beq_eq_true hee
      have hmo:=Nat.le_of_ble_eq_true hmo
      subst hsz hee
      have U5:=wf.lt hg
      have U9:dA (H.get b)=true:=by rw [hg];rfl
      refine ⟨⟨by simpa using (cR.set H b .dead U9).trans (cR.new (H.set b .dead) (wf.set U5 _) _),(wf.set U5 _).new _,fun i hi=>by simp at hi;subst hi;simp⟩,fun base φ w hp hf hs hx=>?_⟩
      obtain ⟨l,c',hl,hnc,hlim,rfl⟩:=hs.NC Tw
      obtain ⟨news,gL,hlr⟩:=u9 hx hsrc (hp.sub (S:=R') (fun i hi=>by simp [hi])) (fun i hi=>hi) I0
      have hfree:φ H.n=none:=hf _ (Nat.le_refl _) (by simp)
      have hrow:row H b off (n*i.size)=some ((cs.drop off).take (n*i.size)):=by
       unfold row;rw [hg];simp only;rw [Nat.ble_eq_true_of_le hle];rfl
      obtain ⟨olds,o1,o2,o3⟩:=zR hp (by simp) hl hrow
      have Vh:=gL.size
      have hol:olds.length=n*i.size:=by rw [← o2.1,o1]
      have hnl:new.length=m*i.size:=by rw [hlr.1,Vh]
      have hall:=o2.append hlr
      by_cases hfit:n+m≤c'
      ·
       obtain ⟨cc,lo,hi',q1,q2,q3,q4,q5,q6⟩:=hp.blocks b (by simp) l _ hl hg
       have hmul:(n+m)*i.size≤c'*i.size:=Nat.mul_le_mul_right _ hfit
       rw [Nat.add_mul] at hmul
       have Rt:∀ v∈news,one v=true:=fun v hv=>by
        obtain ⟨j,hj,rfl⟩:=List.mem_iff_getElem.1 hv
        have hx:j<new.length:=hlr.1▸hj
        rw [(hlr.2 j _ _ (List.getElem?_eq_getElem hx) (List.getElem?_eq_getElem hj)).Sc]
        exact xY hone _ (List.getElem_mem ..)
       obtain ⟨w',WK,hr,hput,hs',hgc⟩:=uy (P:=E.P) (o:=l.off+off+n*i.size) news 0 w cc q1 aa (fun j h8 h9=>q6 j aa aa) Rt
       refine mR.value (φ':=fun j=>if j=H.n then some ⟨l.gK,l.off+off,l.HZ-off⟩ else φ j) (vL h0 ZY Tq hz gL hfit hr) ?_ ?_
       ·have:=VR.NB (φ:=fun j=>if j=H.n then some ⟨l.gK,l.off+off,l.HZ-off⟩ else φ j) H.n 0 (n+m) c' i.size ⟨l.gK,l.off+off,l.HZ-off⟩ (by simp) hfit (by simp;omega)
        simpa using this
       ·refine gF.take b l ⟨l.gK,l.off+off,l.HZ-off⟩ _ e U5 U9 hl rfl hfree (hp.lt b (by simp) l hl (dQ U9)) hput.other hput.size hput.os hput.tape hput.output ?_
        refine ⟨WK,lo,hi',hput.at_,by simp;omega,by simp [hnl];omega,fun j y hy=>?_,q5,fun j hj hj2=>q6 j (by simp at hj;omega) (by simp at hj2;omega)⟩
        obtain ⟨u,hu,hv⟩:=hall.get hy
        refine ⟨u,?_,hv.mono (V4 hfree _)⟩
        show WK[l.off+off+j]?=some u
        rw [hgc]
        by_cases hj:j<olds.length
        ·rw [List.getElem?_append_left hj] at hu
         rw [if_neg aa]
         have:=o3 j u hu
         simpa [World.cell?,q1] using this
        ·rw [List.getElem?_append_right aa] at hu
         have:=(List.getElem?_eq_some_iff.1 hu).1
         rw [if_pos aa,← hu];congr 1;omega
      ·obtain ⟨cap,hcap,w',hb,ho,htp,GZ,hr⟩:=oU (ty:=ty) (n:=n) (c:=c') (a:=some ⟨l.gK,l.off+off,none⟩) (olds:=olds) h0 ZY Tq U7 hz gL
        (fun w' hw'=>by
         simp only [Builtin.firstCells]
         exact run_loadCells olds hol (fun j y hy=>by rw [zf hw'];exact o3 j y hy)) hfit Rm hmo
       refine mR.value (φ':=fun j=>if j=H.n then some ⟨w.heap.size,0,cap*i.size⟩ else φ j) hr ?_ ?_
       ·have:=VR.NB (φ:=fun j=>if j=H.n then some ⟨w.heap.size,0,cap*i.size⟩ else φ j) H.n 0 (n+m) cap i.size ⟨w.heap.size,0,cap*i.size⟩ (by simp) hcap (by simp)
        simpa using this
       ·
        have Vd:=gF.row (E:=E) (cap*i.size) ((cs.drop off).take (n*i.size)++new) _ e 0 0 hfree hp.bs hb ho htp GZ (by
          have:(n+m+(cap-(n+m)))*i.size=cap*i.size:=by congr 1;omega
          simp [Vh,hol,Builtin.zeroCells,hzs,← Nat.add_mul];omega) (by
          have:(n+m)*i.size≤cap*i.size:=Nat.mul_le_mul_right _ hcap
          rw [Nat.add_mul] at this
          simp [hnl];omega) (fun j y hy=>by
          obtain ⟨u,hu,hv⟩:=hall.get hy
          exact ⟨u,by
           have:j<(olds++news).length:=(List.getElem?_eq_some_iff.1 hu).1
           rw [Array.getElem?_append_left (by simpa using this)]
           simpa using hu,hv⟩) (fun j _=>by omega)
        refine ⟨fun j hj=>by simp at hj;subst hj;exact ⟨U5,U9⟩,fun j hj=>Vd.ext j (by simpa using hj),⟨Vd.step.os,Vd.step.tape,Vd.step.output,Vd.step.size,fun B hB _=>Vd.step.keep B hB (by simp)⟩,fun j lj h1 h2 h3=>?_,fun j lj oj h1 h2 h3 h4=>?_,fun j lj h1 h2 h3 h4=>?_,fun j j' _ _ h1 h2 h3 h4 h5=>?_⟩
        ·rcases Vd.fresh j lj h1 (by simpa using h2) h3 with hh |⟨q,hq,_⟩
         ·exact .inl hh
         ·simp at hq
        ·simp at h1 h2
         rcases h1 with h1 |h1
         ·subst h1
          rw [Hp.dF,Hp.cT,if_neg aa,Hp.ek,if_pos rfl] at h4
          injection h4 with h4
          subst h4
          trivial
         ·have:j=H.n:=by omega
          subst this
          rw [Hp.dF,Hp.cT,if_pos rfl] at h4
          exact Vd.blocks H.n lj oj (.inr (Nat.le_refl _)) (by simp) h3 (by rw [Hp.dF,if_pos rfl];exact h4)
        ·simp at h2
         have:j=H.n:=by omega
         subst this
         rw [Hp.dF,Hp.cT,if_pos rfl] at h4
         exact Vd.lt H.n lj (Nat.le_refl _) (by simp) h3 (by rw [Hp.dF,if_pos rfl];exact h4)
        ·simp at h2 h4
         omega
   ·cases h
end
section
variable {E:Env} {base:Nat} {φ:cS} {w:World} {H:Hp}
abbrev Good (E:Env) (H H':Hp) (W R:List Nat) (v:Value) (φ:cS) (s:Sem Next):Prop:=
 ∀(base:Nat) (w:World),Pre E base φ w H R→gM φ H.n H'.n→mR E base φ w H s v H' W
theorem RT (ok:E.Ok) (wf:Wf H) {ts:Array TypeId} {ty:TypeId} {x x' v:Value} {H':Hp} {W R:List Nat} (h:Y7 E ts x H=some (v,H',W,R)) :
  jJ H H' W R∧∀ φ,VR φ x x'→Good E H H' W R v φ (do Pure.pure (.value (← Builtin.len_ ts ty #[x']))):=by
 have a0:∀ y:Value,(#[y]:Array Value)[0]?=some y:=fun _=>rfl
 unfold Y7 at h
 split at h
 rotate_left
 ·cases h
 rename_i t h0
 split at h
 ·rename_i e n c ht
  simp only [Option.some.injEq,Prod.mk.injEq] at h
  obtain ⟨rfl,rfl,rfl,rfl⟩:=h
  refine ⟨jJ.same wf _,fun φ hx base w hp hf=>mR.of_run (.int .i64 _) ?_⟩
  cases hx <;> simp [Builtin.len_,h0,a0,run_underlying (ok.ul ht),goInt]
 ·rename_i s ht
  simp only [Option.some.injEq,Prod.mk.injEq] at h
  obtain ⟨rfl,rfl,rfl,rfl⟩:=h
  refine ⟨jJ.same wf _,fun φ hx base w hp hf=>mR.of_run (.int .i64 _) ?_⟩
  cases hx <;> simp [Builtin.len_,h0,a0,run_underlying (ok.ul ht),goInt]
 ·rename_i ht
  simp only [Option.some.injEq,Prod.mk.injEq] at h
  obtain ⟨rfl,rfl,rfl,rfl⟩:=h
  refine ⟨jJ.same wf _,fun φ hx base w hp hf=>mR.of_run (.int .i64 _) ?_⟩
  cases hx <;> simp [Builtin.len_,h0,a0,run_underlying (ok.ul ht),goInt]
 ·rename_i b ht
  split at h
  ·rename_i es ck hg
   simp only [Option.some.injEq,Prod.mk.injEq] at h
   obtain ⟨rfl,rfl,rfl,rfl⟩:=h
   refine ⟨jJ.same wf _,fun φ hx base w hp hf=>mR.of_run (.int .i64 _) ?_⟩
   cases hx with
   |map _ l hl=>
    obtain ⟨es',h1,h2,h3,h4⟩:=hp.blocks b (by simp) l _ hl hg
    simp [Builtin.len_,h0,a0,run_underlying (ok.ul ht),goInt,getObj,Sem.run,h1,h3]
  ·cases h
 ·rename_i p ht
  split at h
  ·rename_i n e hp'
   simp only [Option.some.injEq,Prod.mk.injEq] at h
   obtain ⟨rfl,rfl,rfl,rfl⟩:=h
   refine ⟨jJ.same wf _,fun φ hx base w hp hf=>mR.of_run (.int .i64 _) ?_⟩
   simp [Builtin.len_,h0,a0,run_underlying (ok.ul ht),run_underlying (ok.ul hp'),goInt]
  ·cases h
 ·cases h
theorem PW (ok:E.Ok) (wf:Wf H) {ts:Array TypeId} {ty:TypeId} {x x' v:Value} {H':Hp} {W R:List Nat} (h:XT E ts x H=some (v,H',W,R)) :
  jJ H H' W R∧∀ φ,VR φ x x'→Good E H H' W R v φ (do Pure.pure (.value (← Builtin.cap_ ts ty #[x']))):=by
 have a0:∀ y:Value,(#[y]:Array Value)[0]?=some y:=fun _=>rfl
 unfold XT at h
 split at h
 rotate_left
 ·cases h
 rename_i t h0
 split at h
 ·rename_i e ht
  simp only [Option.some.injEq,Prod.mk.injEq] at h
  obtain ⟨rfl,rfl,rfl,rfl⟩:=h
  refine ⟨jJ.same wf _,fun φ hx base w hp hf=>mR.of_run (.int .i64 _) ?_⟩
  cases hx
  simp [Builtin.cap_,h0,a0,run_underlying (ok.ul ht),goInt]
 ·rename_i e a n c ht
  split at h
  ·rename_i k hk
   simp only [Option.some.injEq,Prod.mk.injEq] at h
   obtain ⟨rfl,rfl,rfl,rfl⟩:=h
   refine ⟨jJ.same wf _,fun φ hx base w hp hf=>mR.of_run (.int .i64 _) ?_⟩
   obtain ⟨b,o,sp⟩:=a
   cases sp with
   |none=>
    obtain ⟨l,hl,hn,rfl⟩:=hx.Bo hk
    simp [Builtin.cap_,h0,a0,run_underlying (ok.ul ht),goInt]
   |some q=>cases hx with |slz _ _=>cases hk
  ·cases h
 ·cases h
theorem D9 {sz m:Nat} {x x':Value} {new:List Value} {R S:List Nat} (hx:VR φ x x') (h:n9 H sz x=some (m,new,R)) (hp:Pre E base φ w H S) (hS:∀ i,i∈R→i∈S) (hsz:mN x sz=true) :
  ∃ news,LR φ new news∧new.length=m*sz∧(∀ w',(Builtin.lenOf x').run E.P w'=.ok m w')∧∀ k,k≤m→(Builtin.firstCells sz k x').run E.P w=.ok (news.take (k*sz)).toArray w:=by
 have aaX:∀ q,x=.string q→sz=1:=fun q e=>by subst e;simpa [mN] using hsz
 obtain ⟨news,gL,hlr⟩:=u9 hx h hp hS aaX
 refine ⟨news,hlr,by rw [hlr.1,gL.size],gL.len,fun k hk=>?_⟩
 unfold n9 at h
 split at h
 ·rename_i s
  have:=aaX s rfl
  subst this
  cases hx
  simp only [Option.some.injEq,Prod.mk.injEq] at h
  obtain ⟨rfl,rfl,rfl⟩:=h
  have hc:=gL.cells w rfl
  simp only [Builtin.firstCells] at hc ⊢
  have h2:(s.extract 0 s.size)=s:=by apply ByteArray.ext;simp
  rw [h2] at hc
  have h3:=Result.ok.inj hc
  have h4:news=(s.data.map fun b=>Value.int .u8 b.toNat).toList:=by
   have:=congrArg Array.toList h3.1
   simpa using this.symm
  subst h4
  show Result.ok _ w=_
  congr 1
  apply Array.ext'
  simp [ByteArray.data_extract]
 ·cases hx
  simp only [Option.some.injEq,Prod.mk.injEq] at h
  obtain ⟨rfl,rfl,rfl⟩:=h
  have:k=0:=by omega
  subst this
  simp [Builtin.firstCells,run_pure]
 ·rename_i b off n c
  split at h
  ·rename_i xs hr
   simp only [Option.some.injEq,Prod.mk.injEq] at h
   obtain ⟨rfl,rfl,rfl⟩:=h
   obtain ⟨l,c',hl,hn,rfl,_⟩:=hx.uz
   obtain ⟨ys,h1,h2,h3⟩:=zR hp (hS b (by simp)) hl hr
   have hc:=gL.cells w rfl
   simp only [Builtin.firstCells] at hc ⊢
   rw [run_loadCells ys (by rw [← h2.1,h1]) h3] at hc
   have h4:=Result.ok.inj hc
   have h5:news=ys:=by
    have:=congrArg Array.toList h4.1
    simpa using this.symm
   subst h5
   have hlen:news.length=n*sz:=by rw [← h2.1,h1]
   have hks:k*sz≤n*sz:=Nat.mul_le_mul_right _ hk
   refine run_loadCells (news.take (k*sz)) (by simp;omega) (fun j y hy=>?_)
   rw [List.getElem?_take] at hy
   split at hy
   ·exact h3 j y hy
   ·cases hy
  ·cases h
 ·cases h
theorem Mb (ok:E.Ok) (wf:Wf H) {ts:Array TypeId} {ty:TypeId} {d d' s s' v:Value} {H':Hp} {W R:List Nat} (h:Ma E ts d s H=some (v,H',W,R)) :
  jJ H H' W R∧∀ φ,VR φ d d'→VR φ s s'→Good E H H' W R v φ (do Pure.pure (.value (← Builtin.copy_ ts ty #[d',s']))):=by
 have a0:∀ y z:Value,(#[y,z]:Array Value)[0]?=some y:=fun _ _=>rfl
 have a1:∀ y z:Value,(#[y,z]:Array Value)[1]?=some z:=fun _ _=>rfl
 unfold Ma at h
 split at h
 rotate_left
 ·cases h
 rename_i t h0
 split at h
 rotate_left
 ·cases h
 rename_i e ht
 split at h
 rotate_left
 ·cases h
 rename_i sz hsz
 cases hst:mN s sz with
 |false=>rw [hst] at h;cases h
 |true=>
  rw [hst] at h
  simp only [cond_true] at h
  split at h
  ·rename_i m new R' hsrc
   simp only [Option.some.injEq,Prod.mk.injEq] at h
   obtain ⟨rfl,rfl,rfl,rfl⟩:=h
   refine ⟨jJ.same wf _,fun φ hd hs base w hp hf=>?_⟩
   cases hd
   obtain ⟨news,hlr,hl,hlen,hpre⟩:=D9 hs hsrc hp (fun i hi=>hi) hst
   refine mR.of_run (.int .i64 _) ?_
   unfold Builtin.copy_
   simp only [h0,a0,a1]
   rw [ax (dI ok ht w)]
   simp only
   rw [ax (hlen w),ax (ec ok hsz w)]
   have hmin:Nat.min m 0=0:=Nat.min_zero m
   rw [hmin,ax (hpre 0 (Nat.zero_le _))]
   rfl
  ·rename_i b off n c m new R' hsrc
   split at h
   rotate_left
   ·cases h
   rename_i cs e' hg
   cases hc:(Nat.ble (off+min m n*sz) cs.length&&new.all one) with
   |false=>rw [hc] at h;cases h
   |true=>
    rw [hc] at h
    simp only [cond_true,Option.some.injEq,Prod.mk.injEq] at h
    obtain ⟨rfl,rfl,rfl,rfl⟩:=h
    simp only [Bool.and_eq_true] at hc
    obtain ⟨hle,hone⟩:=hc
    have hle:=Nat.le_of_ble_eq_true hle
    refine ⟨jJ.set wf _ (by rw [hg];rfl) (by simp),fun φ hd hs base w hp hf=>?_⟩
    obtain ⟨l,c',hl,hn,rfl,_⟩:=hd.uz
    obtain ⟨news,hlr,hnl,hlen,hpre⟩:=D9 hs hsrc (hp.sub (S:=R') (fun i hi=>by simp [hi])) (fun i hi=>hi) hst
    have hmm:min m n*sz≤m*sz:=Nat.mul_le_mul_right _ (Nat.min_le_left ..)
    obtain ⟨w',hw,hout⟩:=gF.write (o:=off) (xs:=new.take (min m n*sz)) (ys:=news.take (min m n*sz)) hp wf (by simp) hl hg (by simp;omega) (hlr.take _)
     (fun v hv=>xY hone v (List.mem_of_mem_take hv))
    refine mR.value (φ':=φ) (u:=.int .i64 ((min m n:Nat):Int)) ?_ (.int .i64 _) hout
    unfold Builtin.copy_
    simp only [h0,a0,a1]
    rw [ax (dI ok ht w)]
    simp only
    rw [ax (hlen w),ax (ec ok hsz w)]
    have hmin:Nat.min m n=min m n:=rfl
    rw [hmin,ax (hpre _ (Nat.min_le_left ..))]
    simp only
    rw [ax hw]
    rfl
  ·cases h
theorem HS {z:Value} {n:Nat}:(Builtin.zeroCells z.cells n).toList=fD z.cells.toList n:=by
 have:=uE z.cells.toList n
 have h2:=congrArg Array.toList this
 simp at h2
 rw [h2]
 simp [Builtin.zeroCells]
theorem IC (ok:E.Ok) (wf:Wf H) {ts:Array TypeId} {ty:TypeId} {x x' v:Value} {H':Hp} {W R:List Nat} (h:vU E ts x H=some (v,H',W,R)) :
  jJ H H' W R∧∀ φ,VR φ x x'→Good E H H' W R v φ (do Pure.pure (.value (← Builtin.clear_ ts ty #[x']))):=by
 have a0:∀ y:Value,(#[y]:Array Value)[0]?=some y:=fun _=>rfl
 unfold vU at h
 split at h
 rotate_left
 ·cases h
 rename_i t h0
 split at h
 ·rename_i e a c ht
  simp only [Option.some.injEq,Prod.mk.injEq] at h
  obtain ⟨rfl,rfl,rfl,rfl⟩:=h
  refine ⟨jJ.same wf _,fun φ hx base w hp hf=>mR.of_run (.tuple' ⟨rfl,fun i x y hx=>by simp at hx⟩) ?_⟩
  cases hx <;> simp [Builtin.clear_,h0,a0,run_underlying (ok.ul ht)]
 ·rename_i e b off n c ht
  split at h
  ·rename_i z cs e' hz hg
   cases hc:(Nat.ble (off+(n+1)*z.cells.size) cs.length&&z.cells.toList.all one&&ground z) with
   |false=>rw [hc] at h;cases h
   |true=>
    rw [hc] at h
    simp only [cond_true,Option.some.injEq,Prod.mk.injEq] at h
    obtain ⟨rfl,rfl,rfl,rfl⟩:=h
    simp only [Bool.and_eq_true] at hc
    obtain ⟨⟨hle,hone⟩,hgr⟩:=hc
    have hle:=Nat.le_of_ble_eq_true hle
    refine ⟨jJ.set wf _ (by rw [hg];rfl) (by simp),fun φ hx base w hp hf=>?_⟩
    obtain ⟨l,c',hl,hn,rfl,_⟩:=hx.uz
    have hzl:=oc z.cells.toList (n+1)
    obtain ⟨w',hw,hout⟩:=gF.write (o:=off) (xs:=fD z.cells.toList (n+1)) (ys:=fD z.cells.toList (n+1)) hp wf (by simp) hl hg (by rw [hzl];simpa using hle)
     (Ez ((jz hgr).toList) _) (xY (Pk _ _ hone _))
    refine mR.value (φ':=φ) (u:=.tuple #[]) ?_ (.tuple' ⟨rfl,fun i x y hx=>by simp at hx⟩) hout
    unfold Builtin.clear_
    simp only [h0,a0]
    rw [ax (dI ok ht w)]
    simp only
    rw [ax (gi ok hz w),HS,ax hw]
    rfl
  ·cases h
 ·cases h
theorem yF (ok:E.Ok) (wf:Wf H) {t:TypeId} {l l' c c' v:Value} {H':Hp} {W R:List Nat} (h:rP E t l c H=some (v,H',W,R)) :
  jJ H H' W R∧∀ φ,VR φ l l'→VR φ c c'→Good E H H' W R v φ (do Pure.pure (.value (← Instr.makeSlice t l' c'))):=by
 unfold rP at h
 split at h
 rotate_left
 ·cases h
 rename_i e kl l kc c ht
 split at h
 rotate_left
 ·cases h
 rename_i i hi
 split at h
 rotate_left
 ·cases h
 rename_i z hz
 cases hc:(decide (0≤l)&&decide (l≤c)&&decide (c*i.bytes≤(most:Int))&&decide (c≤(most:Int))&&Nat.beq z.cells.size i.size&&z.cells.toList.all one&&ground z) with
 |false=>rw [hc] at h;cases h
 |true=>
  rw [hc] at h
  simp only [cond_true,Option.some.injEq,Prod.mk.injEq] at h
  obtain ⟨rfl,rfl,rfl,rfl⟩:=h
  simp only [Bool.and_eq_true,decide_eq_true_eq] at hc
  obtain ⟨⟨⟨⟨⟨⟨h1,h2⟩,h3⟩,h4⟩,h5⟩,h6⟩,h7⟩:=hc
  have h5:=Nat.eq_of_beq_eq_true h5
  unfold most at h3 h4
  refine ⟨jJ.new wf _ _,fun φ hl hc base w hp hf=>?_⟩
  cases hl
  cases hc
  have hfree:φ H.n=none:=hf _ (Nat.le_refl _) (by simp)
  have hwl:IntKind.i64.wrap l=l:=by simp [IntKind.wrap,IntKind.signed,IntKind.bits];omega
  have hwc:IntKind.i64.wrap c=c:=by simp [IntKind.wrap,IntKind.signed,IntKind.bits];omega
  have Tq:=ok.info _ _ hi
  have Pq:(typeInfo e).run E.P w=.ok i w:=by simp [typeInfo,Tq]
  have hzz:(zeroValue e).run E.P w=.ok z w:=by simp [zeroValue,typeInfo,Tq,hz]
  have hsz:(sizeOf e).run E.P w=.ok i.size w:=by simp [Go.sizeOf,typeInfo,Tq]
  have hmul:(i.bytes:Int)*c≤1099511627776:=by rw [Int.mul_comm];exact h3
  refine mR.value (φ':=fun j=>if j=H.n then some ⟨w.heap.size,0,(fD z.cells.toList c.toNat).length⟩ else φ j) (u:=.slice (some ⟨w.heap.size,0,none⟩) l.toNat c.toNat)
   (w':={ w with heap:=w.heap.push (.cells (fD z.cells.toList c.toNat).toArray e (0,0)) }) ?_ ?_ ?_
  ·unfold Instr.makeSlice
   rw [ax (dI ok ht w)]
   simp only [asInt,asIntOf]
   rw [ax (a:=l) rfl,ax (a:=c) rfl,ax Pq]
   simp only [hwl,hwc]
   have Ro:(decide (c<0)||decide ((i.bytes:Int)*c>2 ^ 48)||decide (l<0)||decide (l>c))=false:=by
    simp only [Bool.or_eq_false_iff,decide_eq_false_iff_not]
    omega
   rw [if_neg (by rw [Ro];simp)]
   rw [ax (Af _ w),ax hsz]
   by_cases hn:c.toNat*i.size=0
   ·rw [if_pos hn,ax (run_pure _ w),ax (mg _ _ w)]
    have:fD z.cells.toList c.toNat=[]:=by
     apply List.eq_nil_of_length_eq_zero
     rw [oc];simpa [h5] using hn
    have h0:(Array.map (fun x=>(#[]:Array Value)[x%(#[]:Array Value).size]!) (Array.range 0))=#[]:=by simp
    rw [this,hn]
    simp only [h0]
    rfl
   ·rw [if_neg hn]
    rw [ax hzz,ax (run_pure z.cells w),ax (mg _ _ w)]
    rw [uE]
    simp [h5]
  ·have:=VR.Ia (φ:=fun j=>if j=H.n then some ⟨w.heap.size,0,(fD z.cells.toList c.toNat).length⟩ else φ j) H.n 0 l.toNat c.toNat ⟨w.heap.size,0,(fD z.cells.toList c.toNat).length⟩ (by simp) aa
   simpa using this
  ·exact gF.Hs hp.bs hfree (Ez ((jz h7).toList) _) rfl rfl rfl rfl
end
end Go.Am
