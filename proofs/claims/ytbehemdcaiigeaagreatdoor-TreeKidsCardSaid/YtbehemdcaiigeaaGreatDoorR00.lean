/- Part of the proof that TreeKids answers true. -/
import Derived.Orders
import Derived.Defers
import Derived.Below
import Derived.Laws.Append
import Derived.Laws.Tables
set_option linter.unusedVariables false
set_option linter.unusedSimpArgs false
set_option maxRecDepth 100000
set_option maxHeartbeats 4000000
namespace Go.Am
open Go.RowKit Below
theorem D {p:Prop} (h:p:=by omega):p:=h
theorem bx {α:Type _} (a b:α):(some a=some b)=(a=b):=Option.some.injEq a b
theorem bG {α β:Type _} (a:α) (b:β) (c:α) (d:β):((a,b)=(c,d))=(a=c∧b=d):=Prod.mk.injEq a b c d
theorem cj {α:Type _} {a:α} {l:List α}:(a::l).length=l.length+1:=List.length_cons
theorem cF {α:Type _}:([]:List α).length=0:=List.length_nil
theorem dI (a b:Bool):((a&&b)=true)=(a=true∧b=true):=Bool.and_eq_true a b
theorem yX {b:ByteArray} {i j:Nat}:(b.extract i j).size=min j b.size-i:=ByteArray.size_extract
inductive c6 (α:Type) where
 |nil
 |node (v:Option α) (l r:c6 α)
def c6.get {α:Type}:c6 α→Nat→Option α
 |.nil,_=>none
 |.node v l r,i=>bif Nat.beq i 0 then v else bif Nat.beq (i%2) 1 then l.get (i / 2) else r.get (i / 2-1)
def c6.gL {α:Type}:Nat→c6 α→Nat→α→c6 α
 |0,t,_,_=>t
 |f+1,.nil,i,a=>bif Nat.beq i 0 then .node (some a) .nil .nil else bif Nat.beq (i%2) 1 then .node none (c6.gL f .nil (i / 2) a) .nil else .node none .nil (c6.gL f .nil (i / 2-1) a)
 |f+1,.node v l r,i,a=>bif Nat.beq i 0 then .node (some a) l r else bif Nat.beq (i%2) 1 then .node v (c6.gL f l (i / 2) a) r else .node v l (c6.gL f r (i / 2-1) a)
def c6.set {α:Type} (t:c6 α) (i:Nat) (a:α):c6 α:=c6.gL (i+1) t i a
theorem iz {a b:Nat} (h:a≠b):Nat.beq a b=false:=by
 cases hb:Nat.beq a b with
 |false=>rfl
 |true=>exact absurd (Nat.eq_of_beq_eq_true hb) h
theorem l7 {a b:Nat} (h:a=b):Nat.beq a b=true:=by subst h;exact Nat.beq_refl a
theorem c6.Yq {α:Type} (a:α):∀(f:Nat) (t:c6 α) (i j:Nat),i<f→(c6.gL f t i a).get j=if i=j then some a else t.get j:=by
 intro f
 induction f with
 |zero=>intro t i j h;omega
 |succ f ih=>
  intro t i j h
  cases t with
  |nil=>
   simp only [c6.gL]
   by_cases h0:i=0
   ·subst h0
    by_cases hj:j=0
    ·subst hj;simp [c6.get]
    ·rw [if_neg D]
     have:Nat.beq j 0=false:=iz hj
     simp [c6.get,this]
   ·have e0:Nat.beq i 0=false:=iz h0
    rw [e0]
    by_cases ho:i%2=1
    ·have e1:Nat.beq (i%2) 1=true:=l7 ho
     rw [e1]
     simp only [cond_true,cond_false,c6.get]
     by_cases hj0:j=0
     ·subst hj0;simp;omega
     ·have f0:Nat.beq j 0=false:=iz hj0
      rw [f0]
      by_cases rq:j%2=1
      ·have f1:Nat.beq (j%2) 1=true:=l7 rq
       rw [f1];simp only [cond_true,cond_false]
       rw [ih _ _ _ D]
       by_cases e:i / 2=j / 2
       ·rw [if_pos e,if_pos D]
       ·rw [if_neg e,if_neg D];rfl
      ·have f1:Nat.beq (j%2) 1=false:=iz rq
       rw [f1];simp only [cond_false]
       rw [if_neg D]
    ·have e1:Nat.beq (i%2) 1=false:=iz ho
     rw [e1]
     simp only [cond_true,cond_false,c6.get]
     by_cases hj0:j=0
     ·subst hj0;simp;omega
     ·have f0:Nat.beq j 0=false:=iz hj0
      rw [f0]
      by_cases rq:j%2=1
      ·have f1:Nat.beq (j%2) 1=true:=l7 rq
       rw [f1];simp only [cond_true,cond_false]
       rw [if_neg D]
      ·have f1:Nat.beq (j%2) 1=false:=iz rq
       rw [f1];simp only [cond_false]
       rw [ih _ _ _ D]
       by_cases e:i / 2-1=j / 2-1
       ·rw [if_pos e,if_pos D]
       ·rw [if_neg e,if_neg D];rfl
  |node v l r=>
   simp only [c6.gL]
   by_cases h0:i=0
   ·subst h0
    by_cases hj:j=0
    ·subst hj;simp [c6.get]
    ·rw [if_neg D]
     have:Nat.beq j 0=false:=iz hj
     simp [c6.get,this]
   ·have e0:Nat.beq i 0=false:=iz h0
    rw [e0]
    by_cases ho:i%2=1
    ·have e1:Nat.beq (i%2) 1=true:=l7 ho
     rw [e1]
     simp only [cond_true,cond_false,c6.get]
     by_cases hj0:j=0
     ·subst hj0;simp;omega
     ·have f0:Nat.beq j 0=false:=iz hj0
      rw [f0]
      by_cases rq:j%2=1
      ·have f1:Nat.beq (j%2) 1=true:=l7 rq
       rw [f1];simp only [cond_true,cond_false]
       rw [ih _ _ _ D]
       by_cases e:i / 2=j / 2
       ·rw [if_pos e,if_pos D]
       ·rw [if_neg e,if_neg D]
      ·have f1:Nat.beq (j%2) 1=false:=iz rq
       rw [f1];simp only [cond_false]
       rw [if_neg D]
    ·have e1:Nat.beq (i%2) 1=false:=iz ho
     rw [e1]
     simp only [cond_true,cond_false,c6.get]
     by_cases hj0:j=0
     ·subst hj0;simp;omega
     ·have f0:Nat.beq j 0=false:=iz hj0
      rw [f0]
      by_cases rq:j%2=1
      ·have f1:Nat.beq (j%2) 1=true:=l7 rq
       rw [f1];simp only [cond_true,cond_false]
       rw [if_neg D]
      ·have f1:Nat.beq (j%2) 1=false:=iz rq
       rw [f1];simp only [cond_false]
       rw [ih _ _ _ D]
       by_cases e:i / 2-1=j / 2-1
       ·rw [if_pos e,if_pos D]
       ·rw [if_neg e,if_neg D]
theorem c6.kr {α:Type} (t:c6 α) (i j:Nat) (a:α):(t.set i a).get j=if i=j then some a else t.get j:=c6.Yq a _ t i j D
def c6.ofList {α:Type} (l:List α):c6 α:=(l.foldl (fun (p:c6 α×Nat) x=>(p.1.set p.2 x,p.2+1)) (.nil,0)).1
inductive df where
 |cells (c:List Value) (e:TypeId) (ro:Bool)
 |map (es:List MapEntry) (clock:Nat)
 |dead
structure U where
 n:Nat
 t:c6 df
def U.get (h:U) (i:Nat):Option df:=h.t.get i
def U.set (h:U) (i:Nat) (o:df):U:=⟨h.n,h.t.set i o⟩
def U.new (h:U) (o:df):U:=⟨h.n+1,h.t.set h.n o⟩
theorem U.kr (h:U) (i j:Nat) (o:df):(h.set i o).get j=if i=j then some o else h.get j:=c6.kr ..
theorem U.jn (h:U) (j:Nat) (o:df):(h.new o).get j=if h.n=j then some o else h.get j:=c6.kr ..
@[simp] theorem U.cB (h:U) (i:Nat) (o:df):(h.set i o).n=h.n:=rfl
@[simp] theorem U.qO (h:U) (o:df):(h.new o).n=h.n+1:=rfl
structure Loc where
 cD:Nat
 off:Nat
 mJ:Nat
abbrev bA:=Nat→Option Loc
inductive be (φ:bA):Value→Value→Prop
 |bool (b:Bool):be φ (.bool b) (.bool b)
 |int (k:IntKind) (n:Int):be φ (.int k n) (.int k n)
 |float (k:FloatKind) (b:Nat):be φ (.float k b) (.float k b)
 |string (s:ByteArray):be φ (.string s) (.string s)
 |CT:be φ (.pointer none) (.pointer none)
 |ptr (i o:Nat) (l:Loc):φ i=some l→be φ (.pointer (some ⟨i,o,none⟩)) (.pointer (some ⟨l.cD,l.off+o,none⟩))
 |uo:be φ (.slice none 0 0) (.slice none 0 0)
 |oa (i o n c:Nat) (l:Loc):φ i=some l→n≤c→be φ (.slice (some ⟨i,o,none⟩) n (2*c+1)) (.slice (some ⟨l.cD,l.off+o,none⟩) n c)
 |pO (i o n c s:Nat) (l:Loc):φ i=some l→n≤c→o+c*s≤l.mJ→be φ (.slice (some ⟨i,o,none⟩) n (2*s)) (.slice (some ⟨l.cD,l.off+o,none⟩) n c)
 |AB (a:Addr) (c:Nat):be φ (.slice (some ⟨0,0,some 0⟩) 0 0) (.slice (some a) 0 c)
 |Ge:be φ (.map none) (.map none)
 |map (i:Nat) (l:Loc):φ i=some l→be φ (.map (some i)) (.map (some l.cD))
 |Gc:be φ .nilFunc .nilFunc
 |func (f:FuncId) (fs fs' cs cs':Array Value):fs.size=fs'.size→(∀(i:Nat) x y,fs[i]?=some x→fs'[i]?=some y→be φ x y)→
   cs.size=cs'.size→(∀(i:Nat) x y,cs[i]?=some x→cs'[i]?=some y→be φ x y)→be φ (.func (.func f) fs cs) (.func (.func f) fs' cs')
 |Gd:be φ .nilIface .nilIface
 |iface (t:TypeId) (v u:Value):be φ v u→be φ (.iface t v) (.iface t u)
 |agg (cs cs':Array Value):cs.size=cs'.size→(∀(i:Nat) x y,cs[i]?=some x→cs'[i]?=some y→be φ x y)→be φ (.agg cs) (.agg cs')
 |tuple (cs cs':Array Value):cs.size=cs'.size→(∀(i:Nat) x y,cs[i]?=some x→cs'[i]?=some y→be φ x y)→be φ (.tuple cs) (.tuple cs')
theorem be.mono {φ ψ:bA} (h:∀ i l,φ i=some l→ψ i=some l) {v u:Value} (hv:be φ v u):be ψ v u:=by
 induction hv with
 |bool b=>exact .bool b
 |int k n=>exact .int k n
 |float k b=>exact .float k b
 |string s=>exact .string s
 |CT=>exact .CT
 |ptr i o l hl=>exact .ptr i o l (h _ _ hl)
 |uo=>exact .uo
 |oa i o n c l hl hn=>exact .oa i o n c l (h _ _ hl) hn
 |AB a c=>exact .AB a c
 |pO i o n c s l hl hn hc=>exact .pO i o n c s l (h _ _ hl) hn hc
 |Ge=>exact .Ge
 |map i l hl=>exact .map i l (h _ _ hl)
 |Gc=>exact .Gc
 |func f fs fs' cs cs' h1 _ h2 _ i1 i2=>exact .func f fs fs' cs cs' h1 i1 h2 i2
 |Gd=>exact .Gd
 |iface t v u _ ih=>exact .iface t v u ih
 |agg cs cs' h1 _ ih=>exact .agg cs cs' h1 ih
 |tuple cs cs' h1 _ ih=>exact .tuple cs cs' h1 ih
def eb (φ:bA) (xs ys:List Value):Prop:=xs.length=ys.length∧∀(i:Nat) x y,xs[i]?=some x→ys[i]?=some y→be φ x y
def jm (φ:bA) (xs ys:Array Value):Prop:=xs.size=ys.size∧∀(i:Nat) x y,xs[i]?=some x→ys[i]?=some y→be φ x y
theorem eb.mono {φ ψ:bA} (h:∀ i l,φ i=some l→ψ i=some l) {xs ys:List Value} (hv:eb φ xs ys):eb ψ xs ys:=⟨hv.1,fun i x y a b=>(hv.2 i x y a b).mono h⟩
theorem jm.mono {φ ψ:bA} (h:∀ i l,φ i=some l→ψ i=some l) {xs ys:Array Value} (hv:jm φ xs ys):jm ψ xs ys:=⟨hv.1,fun i x y a b=>(hv.2 i x y a b).mono h⟩
theorem eb.nil (φ:bA):eb φ [] []:=⟨rfl,fun i x y h=>by simp at h⟩
theorem eb.cons {φ:bA} {x y:Value} {xs ys:List Value} (h:be φ x y) (hs:eb φ xs ys):eb φ (x::xs) (y::ys):=
 ⟨by simp [hs.1],fun i a b ha hb=>by
  cases i with
  |zero=>simp at ha hb;subst ha hb;exact h
  |succ i=>simp at ha hb;exact hs.2 i a b ha hb⟩
theorem eb.cons_inv {φ:bA} {x:Value} {xs zs:List Value} (h:eb φ (x::xs) zs):∃ y ys,zs=y::ys∧be φ x y∧eb φ xs ys:=by
 cases zs with
 |nil=>have:=h.1;simp at this
 |cons y ys=>
  refine ⟨y,ys,rfl,h.2 0 x y (by simp) (by simp),?_,fun i a b ha hb=>h.2 (i+1) a b (by simpa using ha) (by simpa using hb)⟩
  have:=h.1;simp at this;exact this
theorem eb.mO {φ:bA} {zs:List Value} (h:eb φ [] zs):zs=[]:=by
 have h1:=h.1
 cases zs with
 |nil=>rfl
 |cons a b=>simp at h1
theorem eb.append {φ:bA} {xs ys xs' ys':List Value} (h:eb φ xs ys) (h':eb φ xs' ys'):eb φ (xs++xs') (ys++ys'):=by
 induction xs generalizing ys with
 |nil=>have:=h.mO;subst this;simpa using h'
 |cons x xs ih=>
  obtain ⟨y,zs,rfl,h1,h2⟩:=h.cons_inv
  exact eb.cons h1 (ih h2)
theorem eb.get {φ:bA} {xs ys:List Value} (h:eb φ xs ys) {i:Nat} {x:Value} (hx:xs[i]?=some x):∃ y,ys[i]?=some y∧be φ x y:=by
 have hi:i<xs.length:=(List.getElem?_eq_some_iff.1 hx).1
 have hi':i<ys.length:=h.1▸hi
 exact ⟨ys[i],List.getElem?_eq_getElem hi',h.2 i _ _ hx (List.getElem?_eq_getElem hi')⟩
theorem jm.get {φ:bA} {xs ys:Array Value} (h:jm φ xs ys) {i:Nat} {x:Value} (hx:xs[i]?=some x):∃ y,ys[i]?=some y∧be φ x y:=by
 have hi:i<xs.size:=(Array.getElem?_eq_some_iff.1 hx).1
 have hi':i<ys.size:=h.1▸hi
 exact ⟨ys[i],Array.getElem?_eq_getElem hi',h.2 i _ _ hx (Array.getElem?_eq_getElem hi')⟩
theorem eb.take {φ:bA} {xs ys:List Value} (h:eb φ xs ys) (n:Nat):eb φ (xs.take n) (ys.take n):=
 ⟨by simp [h.1],fun i x y hx hy=>by
  rw [List.getElem?_take] at hx hy
  split at hx
  ·rw [if_pos ‹_›] at hy;exact h.2 i x y hx hy
  ·simp at hx⟩
theorem jm.toList {φ:bA} {xs ys:Array Value} (h:jm φ xs ys):eb φ xs.toList ys.toList:=
 ⟨by simpa using h.1,fun i x y hx hy=>h.2 i x y (by simpa using hx) (by simpa using hy)⟩
theorem eb.toArray {φ:bA} {xs ys:List Value} (h:eb φ xs ys):jm φ xs.toArray ys.toArray:=
 ⟨by simpa using h.1,fun i x y hx hy=>h.2 i x y (by simpa using hx) (by simpa using hy)⟩
theorem be.wW {φ:bA} {cs cs':Array Value} (h:jm φ cs cs'):be φ (.agg cs) (.agg cs'):=.agg cs cs' h.1 h.2
theorem be.tuple' {φ:bA} {cs cs':Array Value} (h:jm φ cs cs'):be φ (.tuple cs) (.tuple cs'):=.tuple cs cs' h.1 h.2
theorem be.A8 {φ:bA} {cs:Array Value} {u:Value} (h:be φ (.agg cs) u):∃ cs',u=.agg cs'∧jm φ cs cs':=by
 cases h with |agg _ cs' h1 h2=>exact ⟨cs',rfl,h1,h2⟩
theorem be.ML {φ:bA} {cs:Array Value} {u:Value} (h:be φ (.tuple cs) u):∃ cs',u=.tuple cs'∧jm φ cs cs':=by
 cases h with |tuple _ cs' h1 h2=>exact ⟨cs',rfl,h1,h2⟩
theorem be.Jh {φ:bA} {fn:Fn} {fs cs:Array Value} {u:Value} (h:be φ (.func fn fs cs) u):∃ f fs' cs',fn=.func f∧u=.func (.func f) fs' cs'∧jm φ fs fs'∧jm φ cs cs':=by
 cases h with |func f _ fs' _ cs' h1 h2 h3 h4=>exact ⟨f,fs',cs',rfl,rfl,⟨h1,h2⟩,⟨h3,h4⟩⟩
def By:Value→Bool
 |.bool _ |.int _ _ |.float _ _ |.string _=>true
 |_=>false
def k5:Value→Bool
 |.iface _ v=>By v
 |.bool _ |.int _ _ |.float _ _ |.string _ |.pointer none |.slice none 0 0 |.map none |.nilFunc |.nilIface=>true
 |_=>false
def ground:Value→Bool
 |.agg cs=>cs.toList.all k5
 |.tuple cs=>cs.toList.all k5
 |v=>k5 v
theorem be.z7 {φ:bA} {v:Value} (h:k5 v=true):be φ v v:=by
 have z:∀ v,By v=true→be φ v v:=fun v h=>by
  unfold By at h
  split at h <;> first |constructor |(exact absurd h (by simp))
 unfold k5 at h
 split at h <;> first |(exact .iface _ _ _ (z _ h)) |constructor |(exact absurd h (by simp))
theorem jm.z7 {φ:bA} {cs:Array Value} (h:cs.toList.all k5=true):jm φ cs cs:=
 ⟨rfl,fun i x y hx hy=>by
  rw [hx] at hy;injection hy with hy;subst hy
  rw [List.all_eq_true] at h
  exact .z7 (h x (by simpa using Array.mem_of_getElem? hx))⟩
theorem be.rR {φ:bA} {v:Value} (h:ground v=true):be φ v v:=by
 unfold ground at h
 split at h
 ·exact .wW (.z7 h)
 ·exact .tuple' (.z7 h)
 ·exact .z7 h
theorem be.ow {φ:bA} {v u:Value} (h:k5 v=true) (hv:be φ v u):u=v:=by
 have z:∀{v u:Value},By v=true→be φ v u→u=v:=fun h hv=>by
  cases hv <;> first |rfl |simp [By] at h
 cases hv with
 |iface t v u i7=>rw [z h i7]
 |_=>first |rfl |simp [k5] at h
theorem jm.ow {φ:bA} {cs ds:Array Value} (h:cs.toList.all k5=true) (hv:jm φ cs ds):ds=cs:=by
 refine Array.ext hv.1.symm fun i h1 h2=>?_
 rw [List.all_eq_true] at h
 exact be.ow (h _ (by simp)) (hv.2 i _ _ (Array.getElem?_eq_getElem h2) (Array.getElem?_eq_getElem h1))
theorem be.ox {φ:bA} {v u:Value} (h:ground v=true) (hv:be φ v u):u=v:=by
 unfold ground at h
 split at h
 ·obtain ⟨ds,rfl,hd⟩:=hv.A8;rw [jm.ow h hd]
 ·obtain ⟨ds,rfl,hd⟩:=hv.ML;rw [jm.ow h hd]
 ·exact hv.ow h
def one:Value→Bool
 |.agg _ |.tuple _=>false
 |_=>true
theorem be.Rv {φ:bA} {v u:Value} (hv:be φ v u):one u=one v:=by cases hv <;> rfl
theorem be.cells {φ:bA} {v u:Value} (hv:be φ v u):jm φ v.cells u.cells:=by
 have single:∀{a b:Value},be φ a b→jm φ #[a] #[b]:=fun h=>⟨rfl,fun i x y hx hy=>by
  have:i=0:=by
   have:=(Array.getElem?_eq_some_iff.1 hx).1
   simpa using this
  subst this
  simp at hx hy;subst hx hy;exact h⟩
 cases hv with
 |agg cs cs' h1 h2=>exact ⟨h1,h2⟩
 |bool b=>exact single (.bool b)
 |int k n=>exact single (.int k n)
 |float k b=>exact single (.float k b)
 |string s=>exact single (.string s)
 |CT=>exact single .CT
 |ptr i o l hl=>exact single (.ptr i o l hl)
 |uo=>exact single .uo
 |oa i o n c l hl hn=>exact single (.oa i o n c l hl hn)
 |AB a c=>exact single (.AB a c)
 |pO i o n c s l hl hn hc=>exact single (.pO i o n c s l hl hn hc)
 |Ge=>exact single .Ge
 |map i l hl=>exact single (.map i l hl)
 |Gc=>exact single .Gc
 |func f fs fs' cs cs' h1 h2 h3 h4=>exact single (.func f fs fs' cs cs' h1 h2 h3 h4)
 |Gd=>exact single .Gd
 |iface t v u h=>exact single (.iface t v u h)
 |tuple cs cs' h1 h2=>exact single (.tuple cs cs' h1 h2)
inductive mX where
 |ret (v:Value)
 |qW (v:Value)
abbrev m0:=Option (mX×U×List Nat)
structure Env where
 P:Program
 info:Nat→Option TypeInfo
 func:Nat→Option Func
 ej:Nat
 x5:Nat→Option (List Value→U→m0)
 zn:Nat→Option (Option Value→List Value→U→Option (Option Value×U×List Nat))
 tight:Nat→Bool:=fun _=>false
structure Env.eU (E:Env):Prop where
 info:∀ t i,E.info t=some i→E.P.info? t=some i
 func:∀ f fn,E.func f=some fn→E.P.funcs[f]?=some fn
def Env.ul (E:Env) (t:Nat):Option TypeDesc:=
 match E.info t with
 |some i=>match i.desc with
  |.named _ u=>match E.info u with
   |some j=>some j.desc
   |none=>none
  |d=>some d
 |none=>none
def Env.size (E:Env) (t:Nat):Option Nat:=match E.info t with |some i=>some i.size |none=>none
def Env.zero (E:Env) (t:Nat):Option Value:=match E.info t with |some i=>i.zero |none=>none
def NC:TypeDesc→Bool
 |.struct _ |.array _ _=>true
 |_=>false
def Env.agg (E:Env) (t:Nat):Option Bool:=match E.ul t with |some d=>some (NC d) |none=>none
section
variable {E:Env} (ok:E.eU)
include ok
theorem Env.eU.ul {t:Nat} {d:TypeDesc} (h:E.ul t=some d):E.P.underlying t=some d:=by
 unfold Env.ul at h
 unfold Program.underlying
 split at h
 ·rename_i i hi
  rw [ok.info _ _ hi]
  obtain ⟨desc,a1,a2,a3,a4,a5,a6,a7,a8,a9⟩:=i
  cases desc with
  |named nm u=>
   simp only at h ⊢
   split at h
   ·rename_i j hj
    rw [ok.info _ _ hj]
    simpa using h
   ·simp at h
  |_=>simpa using h
 ·simp at h
theorem Env.eU.size {t n:Nat} (h:E.size t=some n):∃ i,E.P.info? t=some i∧i.size=n:=by
 unfold Env.size at h
 split at h
 ·rename_i i hi;injection h with h;exact ⟨i,ok.info _ _ hi,h⟩
 ·simp at h
theorem Env.eU.zero {t:Nat} {z:Value} (h:E.zero t=some z):∃ i,E.P.info? t=some i∧i.zero=some z:=by
 unfold Env.zero at h
 split at h
 ·rename_i i hi;exact ⟨i,ok.info _ _ hi,h⟩
 ·simp at h
theorem ig {t:Nat} {d:TypeDesc} (h:E.ul t=some d) (w:World):(underlying t).run E.P w=.ok d w:=by
 have:=ok.ul h
 simp [underlying,program,bind,Sem.bind,Sem.run,this,pure]
theorem ql {t n:Nat} (h:E.size t=some n) (w:World):(sizeOf t).run E.P w=.ok n w:=by
 obtain ⟨i,hi,rfl⟩:=ok.size h
 simp [Go.sizeOf,typeInfo,program,bind,Sem.bind,Sem.run,hi,pure]
theorem wz {t:Nat} {z:Value} (h:E.zero t=some z) (w:World):(zeroValue t).run E.P w=.ok z w:=by
 obtain ⟨i,hi,hz⟩:=ok.zero h
 simp [zeroValue,typeInfo,program,bind,Sem.bind,Sem.run,hi,hz,pure]
theorem G0 {t:Nat} {b:Bool} (h:E.agg t=some b) (w:World):(isAgg t).run E.P w=.ok b w:=by
 unfold Env.agg at h
 split at h
 ·rename_i d hd
  injection h with h
  subst h
  have:=ok.ul hd
  simp only [isAgg,underlying,program,bind,Sem.bind,Sem.run,this,pure]
  cases d <;> simp [NC,Sem.run]
 ·simp at h
end
theorem run_bind {α β:Type} (P:Program) (s:Sem α) (f:α→Sem β) (w:World) :
  (s.bind f).run P w=match s.run P w with |.ok a w'=>(f a).run P w' |.halt h w'=>.halt h w':=by
 induction s generalizing w with
 |pure a=>rfl
 |load m a k ih=>
  simp only [Sem.bind,Sem.run]
  cases w.cell? a with
  |some v=>exact ih _ _
  |none=>
   simp only
   split
   ·exact ih _ _
   ·rfl
 |store m a v k ih=>
  cases v <;> simp only [Sem.bind,Sem.run] <;> first
   |rfl
   |(cases w.cell? a with
     |some v=>
      simp only
      split
      ·rfl
      ·exact ih _
     |none=>
      simp only
      split
      ·exact ih _
      ·rfl)
 |new o k ih=>simp only [Sem.bind,Sem.run];exact ih _ _
 |shape r k ih=>simp only [Sem.bind,Sem.run];exact ih _ _
 |freeze a n k ih=>simp only [Sem.bind,Sem.run];exact ih _
 |frozen a k ih=>simp only [Sem.bind,Sem.run];exact ih _ _
 |getObj r k ih=>
  simp only [Sem.bind,Sem.run]
  split
  ·rfl
  ·exact ih _ _
  ·rfl
 |setObj r o k ih=>
  simp only [Sem.bind,Sem.run]
  split
  ·rfl
  ·exact ih _
  ·rfl
 |choose q k ih=>
  simp only [Sem.bind,Sem.run]
  split
  ·exact ih _ _
  ·exact ih _ _
 |sys c k ih=>simp only [Sem.bind,Sem.run];exact ih _ _
 |program k ih=>simp only [Sem.bind,Sem.run];exact ih _ _
 |mark m k ih=>simp only [Sem.bind,Sem.run];exact ih _
 |halt h=>rfl
theorem bt {α β:Type} {P:Program} {s:Sem α} {f:α→Sem β} {w w':World} {a:α} (h:s.run P w=.ok a w'):(s >>= f).run P w=(f a).run P w':=by
 show (s.bind f).run P w=_
 rw [run_bind,h]
def live:Option df→Bool
 |some (.cells [] _ true)=>false
 |some .dead=>false
 |some _=>true
 |none=>false
def fG:Option df→Bool
 |some (.cells _ _ false)=>true
 |some (.map _ _)=>true
 |_=>false
theorem rN {o:Option df} (h:fG o=true):live o=true:=by
 unfold fG at h
 split at h
 ·rename_i c e;cases c <;> rfl
 ·rfl
 ·simp at h
def mw (E:Env) (base:Nat) (φ:bA) (w:World) (l:Loc):df→Prop
 |.cells c e true=>∀(j:Nat) (x:Value),c[j]?=some x→∃ y,w.cell? ⟨l.cD,l.off+j,none⟩=some y∧be φ x y
 |.cells c e false=>∃ d4 lo hi,w.heap[l.cD]?=some (.cells d4 e (lo,hi))∧l.off+l.mJ≤d4.size∧c.length≤l.mJ∧
   (∀(j:Nat) (x:Value),c[j]?=some x→∃ y,d4[l.off+j]?=some y∧be φ x y)∧base≤l.cD∧(∀ j,l.off≤j→j<l.off+l.mJ→¬ (lo≤j∧j<hi))∧(E.tight e=true→l.off=0∧d4.size=c.length)
 |.map es ak=>∃ es',w.heap[l.cD]?=some (.map es' ak)∧base≤l.cD∧es.length=es'.size∧
   ∀(j:Nat) x y,es[j]?=some x→es'[j]?=some y→be φ x.key y.key∧be φ x.val y.val∧x.born=y.born
 |.dead=>True
theorem mw.mono {E:Env} {base:Nat} {φ ψ:bA} (h:∀ i l,φ i=some l→ψ i=some l) {w:World} {l:Loc} {o:df} (hb:mw E base φ w l o):mw E base ψ w l o:=by
 cases o with
 |cells c e ro=>
  cases ro with
  |true=>exact fun j x hx=>let ⟨y,a,b⟩:=hb j x hx;⟨y,a,b.mono h⟩
  |false=>
   obtain ⟨d4,lo,hi,a1,a2,a3,a4,a5⟩:=hb
   exact ⟨d4,lo,hi,a1,a2,a3,fun j x hx=>let ⟨y,a,b⟩:=a4 j x hx;⟨y,a,b.mono h⟩,a5⟩
 |map es ak=>
  obtain ⟨es',a1,a2,a3,a4⟩:=hb
  exact ⟨es',a1,a2,a3,fun j x y hx hy=>let ⟨p,q,r⟩:=a4 j x y hx hy;⟨p.mono h,q.mono h,r⟩⟩
 |dead=>trivial
theorem mw.same {E:Env} {base:Nat} {φ:bA} {w w':World} {l:Loc} {o:df} (h:w'.heap[l.cD]?=w.heap[l.cD]?) (hb:mw E base φ w l o):mw E base φ w' l o:=by
 cases o with
 |cells c e ro=>
  cases ro with
  |true=>
   intro j x hx
   obtain ⟨y,a,b⟩:=hb j x hx
   refine ⟨y,?_,b⟩
   rw [← a]
   simp only [World.cell?,h]
  |false=>
   obtain ⟨d4,lo,hi,a1,a2⟩:=hb
   exact ⟨d4,lo,hi,h.trans a1,a2⟩
 |map es ak=>
  obtain ⟨es',a1,a2⟩:=hb
  exact ⟨es',h.trans a1,a2⟩
 |dead=>trivial
theorem mw.cell {E:Env} {base:Nat} {φ:bA} {w:World} {l:Loc} {c:List Value} {e:TypeId} {ro:Bool} (hb:mw E base φ w l (.cells c e ro)) {j:Nat} {x:Value} (hx:c[j]?=some x) :
  ∃ y,w.cell? ⟨l.cD,l.off+j,none⟩=some y∧be φ x y:=by
 cases ro with
 |true=>exact hb j x hx
 |false=>
  obtain ⟨d4,lo,hi,a1,a2,a3,a4,a5⟩:=hb
  obtain ⟨y,h1,h2⟩:=a4 j x hx
  refine ⟨y,?_,h2⟩
  simp [World.cell?,a1,h1]
structure Rel (E:Env) (base:Nat) (H:U) (φ:bA) (w:World):Prop where
 bs:base≤w.heap.size
 blocks:∀ i l o,i<H.n→φ i=some l→H.get i=some o→mw E base φ w l o
 lt:∀ i l,i<H.n→φ i=some l→live (H.get i)=true→l.cD<w.heap.size
 inj:∀ i j l m,i<H.n→j<H.n→i≠j→φ i=some l→φ j=some m→fG (H.get i)=true→live (H.get j)=true→l.cD≠m.cD
 iL:∀ g,g<E.ej→∃ l,φ g=some l∧l.cD=g∧l.off=0
structure Step (φ:bA) (W:List Nat) (w w':World):Prop where
 os:w'.os=w.os
 tape:w'.tape=w.tape
 output:w'.output=w.output
 size:w.heap.size≤w'.heap.size
 keep:∀ B,B<w.heap.size→(∀ j∈W,∀ l,φ j=some l→l.cD≠B)→w'.heap[B]?=w.heap[B]?
structure cX (W:List Nat) (H H':U):Prop where
 n:H.n≤H'.n
 keep:∀ i,i<H.n→i∉W→H'.get i=H.get i
 live:∀ i,i<H.n→live (H'.get i)=true→live (H.get i)=true
 fG:∀ i,i<H.n→fG (H'.get i)=true→fG (H.get i)=true
theorem Step.refl (φ:bA) (W:List Nat) (w:World):Step φ W w w:=⟨rfl,rfl,rfl,Nat.le_refl _,fun _ _ _=>rfl⟩
theorem cX.refl (W:List Nat) (H:U):cX W H H:=⟨Nat.le_refl _,fun _ _ _=>rfl,fun _ _ h=>h,fun _ _ h=>h⟩
theorem cX.trans {W V:List Nat} {A B C:U} (h:cX W A B) (k:cX V B C):cX (W++V) A C:=
 ⟨Nat.le_trans h.n k.n,fun i hi hn=>by
   have hn':i∉W∧i∉V:=by simpa using hn
   exact (k.keep i (Nat.lt_of_lt_of_le hi h.n) hn'.2).trans (h.keep i hi hn'.1),
  fun i hi hl=>h.live i hi (k.live i (Nat.lt_of_lt_of_le hi h.n) hl),fun i hi hl=>h.fG i hi (k.fG i (Nat.lt_of_lt_of_le hi h.n) hl)⟩
theorem cX.wider {W V:List Nat} {A B:U} (h:cX W A B) (hs:∀ i,i∈W→i∈V):cX V A B:=
 ⟨h.n,fun i hi hn=>h.keep i hi (fun hw=>hn (hs i hw)),h.live,h.fG⟩
structure Out (E:Env) (base:Nat) (φ:bA) (w:World) (H H':U) (W:List Nat) (aU:bA) (w':World):Prop where
 ext:∀ i,(i<H.n∨H'.n≤i)→aU i=φ i
 rel:Rel E base H' aU w'
 step:Step φ W w w'
 fresh:∀ i l,H.n≤i→i<H'.n→aU i=some l→
  w.heap.size≤l.cD∨∃ j∈W,∃ m,j<H.n∧φ j=some m∧m.cD=l.cD∧fG (H.get j)=true∧live (H'.get j)=false
def fW (φ:bA) (a b:Nat):Prop:=∀ i,a≤i→i<b→φ i=none
theorem Out.sub {E:Env} {base:Nat} {φ:bA} {w:World} {H H':U} {W:List Nat} {aU:bA} {w':World} (h:Out E base φ w H H' W aU w') (hf:fW φ H.n H'.n) :
  ∀ i l,φ i=some l→aU i=some l:=by
 intro i l hi
 by_cases h1:i<H.n
 ·rw [h.ext i (.inl h1)];exact hi
 ·by_cases h2:H'.n≤i
  ·rw [h.ext i (.inr h2)];exact hi
  ·rw [hf i D D] at hi;cases hi
theorem Out.refl {E:Env} {base:Nat} {φ:bA} {w:World} {H:U} (W:List Nat) (h:Rel E base H φ w):Out E base φ w H H W φ w:=
 ⟨fun _ _=>rfl,h,Step.refl ..,fun i l h1 h2=>by omega⟩
theorem Out.trans {E:Env} {base:Nat} {φ:bA} {w:World} {H H1 H2:U} {W V:List Nat} {e4 o8:bA} {w1 w2:World} (x1:cX W H H1) (au:cX V H1 H2)
  (h:Out E base φ w H H1 W e4 w1) (k:Out E base e4 w1 H1 H2 V o8 w2) (hf:fW φ H.n H2.n):Out E base φ w H H2 (W++V) o8 w2:=by
 have n1:=x1.n
 have n2:=au.n
 refine ⟨fun i hi=>?_,k.rel,⟨k.step.os.trans h.step.os,k.step.tape.trans h.step.tape,k.step.output.trans h.step.output,Nat.le_trans h.step.size k.step.size,fun B hB hn=>?_⟩,fun i l h1 h2 hl=>?_⟩
 ·rcases hi with hi |hi
  ·rw [k.ext i (.inl D),h.ext i (.inl hi)]
  ·rw [k.ext i (.inr hi),h.ext i (.inr D)]
 ·have e1:w1.heap[B]?=w.heap[B]?:=h.step.keep B hB fun j hj l hl=>hn j (by simp [hj]) l hl
  have:=h.step.size
  rw [← e1]
  refine k.step.keep B D fun j hj l hl=>?_
  by_cases BM:j<H.n∨H1.n≤j
  ·rw [h.ext j BM] at hl;exact hn j (by simp [hj]) l hl
  ·rcases h.fresh j l D D hl with hb |⟨j',hj',m,_,hm,hml,_⟩
   ·omega
   ·rw [← hml];exact hn j' (by simp [hj']) m hm
 ·by_cases hi:i<H1.n
  ·have dR:e4 i=some l:=by rw [← k.ext i (.inl hi)];exact hl
   rcases h.fresh i l h1 hi dR with hb |⟨j,hj,m,hjn,hm,hml,hw,hd⟩
   ·exact .inl hb
   ·refine .inr ⟨j,by simp [hj],m,hjn,hm,hml,hw,?_⟩
    cases hlv:live (H2.get j) with
    |false=>rfl
    |true=>rw [au.live j D hlv] at hd;exact hd
  ·rcases k.fresh i l D h2 hl with hb |⟨j,hj,m,hjn,hm,hml,hw,hd⟩
   ·have:=h.step.size;exact .inl D
   ·by_cases BM:j<H.n
    ·rw [h.ext j (.inl BM)] at hm
     exact .inr ⟨j,by simp [hj],m,BM,hm,hml,x1.fG j BM hw,hd⟩
    ·rcases h.fresh j m D hjn hm with hb |⟨j',hj',m',Zc,hm',ajH,hw',hd'⟩
     ·exact .inl D
     ·refine .inr ⟨j',by simp [hj'],m',Zc,hm',by omega,hw',?_⟩
      cases hlv:live (H2.get j') with
      |false=>rfl
      |true=>rw [au.live j' D hlv] at hd';exact hd'
end Go.Am
namespace Go.Am
def e3 {α:Type} (P:Program):Sem α→Option α
 |.pure a=>some a
 |.program k=>e3 P (k P)
 |.mark _ k=>e3 P k
 |_=>none
abbrev b5:=c6 Value
def ev (E:Env) (T:b5):Operand→Option Value
 |.tmp t=>T.get t
 |.const v=>bif ground v then some v else none
 |.global g=>bif Nat.blt g E.ej then some (.pointer (some ⟨g,0,none⟩)) else none
 |.func f=>some (.func (.func f) #[] #[])
def kP (E:Env) (T:b5):List Operand→Option (List Value)
 |[]=>some []
 |x::xs=>match ev E T x with
  |some v=>match kP E T xs with
   |some vs=>some (v::vs)
   |none=>none
  |none=>none
def lU (E:Env) (T:b5):Option Operand→Option (Option Value)
 |none=>some none
 |some x=>match ev E T x with
  |some v=>some (some v)
  |none=>none
def splice:List Value→Nat→List Value→List Value
 |c,0,[]=>c
 |[],_,_=>[]
 |_::c,0,x::xs=>x::splice c 0 xs
 |y::c,k+1,xs=>y::splice c k xs
def row (h:U) (b off n:Nat):Option (List Value):=
 match h.get b with
 |some (.cells c _ _)=>bif Nat.ble (off+n) c.length then some ((c.drop off).take n) else none
 |_=>none
def cell (h:U) (b off:Nat):Option Value:=
 match h.get b with
 |some (.cells c _ _)=>c[off]?
 |_=>none
def ay (E:Env) (t:TypeId) (b off:Nat) (h:U):Option Value:=
 match E.agg t with
 |some true=>match E.size t with
  |some n=>match row h b off n with
   |some xs=>some (.agg xs.toArray)
   |none=>none
  |none=>none
 |some false=>cell h b off
 |none=>none
def bp (E:Env) (t:TypeId) (b off:Nat) (v:Value) (h:U):Option U:=
 match h.get b with
 |some (.cells c e false)=>match E.size t with
  |some n=>bif Nat.beq v.cells.size n&&v.cells.toList.all one&&Nat.ble (off+n) c.length then some (h.set b (.cells (splice c off v.cells.toList) e false)) else none
  |none=>none
 |_=>none
def Gz (E:Env) (t:TypeId) (cs:Array Value) (off:Nat):Option Value:=
 match E.agg t with
 |some true=>match E.size t with
  |some n=>some (.agg (cs.extract off (off+n)))
  |none=>none
 |some false=>cs[off]?
 |none=>none
abbrev pd:=Option (Value×U×List Nat×List Nat)
def cZ:Value:=.tuple #[]
def akI (E:Env) (e:TypeId) (cs:List Value) (h:U):U:=h.new (.cells cs e false)
def hM (z:List Value):Nat→List Value
 |0=>[]
 |n+1=>z++hM z n
def xi (E:Env) (T:b5) (place:Nat→Option (Nat×Nat)) (c:List Value):List (Nat×Operand)→Option (List Value)
 |[]=>some c
 |(i,x)::rest=>match place i with
  |some (off,size)=>match ev E T x with
   |some v=>bif Nat.beq v.cells.size size&&Nat.ble (off+size) c.length then xi E T place (splice c off v.cells.toList) rest else none
   |none=>none
  |none=>none
def LB (E:Env) (fs:Array Field) (i:Nat):Option (Nat×Nat):=
 match fs[i]? with
 |some f=>match E.size f.type with
  |some n=>some (f.offset,n)
  |none=>none
 |none=>none
def It (E:Env) (T:b5) (t:TypeId) (parts:Array (Nat×Operand)):Option Value:=
 match E.zero t,E.ul t with
 |some z,some (.struct fs)=>
  bif ground z&&fs.all (fun f=>(E.size f.type).isSome) then
  match xi E T (LB E fs) z.cells.toList parts.toList with
  |some c=>some (.agg c.toArray)
  |none=>none
  else none
 |some z,some (.array _ e)=>match E.size e with
  |some n=>bif ground z then (match xi E T (fun i=>some (i*n,n)) z.cells.toList parts.toList with
   |some c=>some (.agg c.toArray)
   |none=>none) else none
  |none=>none
 |_,_=>none
def intOf (v:Value):Option Int:=match v with |.int _ n=>some n |_=>none
def qp (v:Value) (y:Nat):Option Nat:=match v with |.int _ n=>bif (decide (0≤n)&&decide (n≤(y:Int))) then some n.toNat else none |_=>none
def ju (v:Option Value) (y d:Nat):Option Nat:=match v with |none=>some d |some v=>qp v y
inductive Um where
 |known (c:Nat)
 |uH (s:Nat)
def ko (c:Nat):Um:=bif Nat.beq (c%2) 1 then .known (c / 2) else .uH (c / 2)
def nR (lo hi mx:Option Value) (len cap:Nat):Option (Nat×Nat×Nat):=
 bif mx.isSome&&hi.isNone then none else
 match ju mx cap cap with
 |some m=>match ju hi m len with
  |some h=>match ju lo h 0 with
   |some l=>some (l,h,m)
   |none=>none
  |none=>none
 |none=>none
def ge (E:Env) (t:TypeId) (x:Value) (lo hi mx:Option Value):Option Value:=
 match x with
 |.slice none 0 0=>match E.ul t with
  |some (.slice e)=>match E.size e,nR lo hi mx 0 0 with
   |some _,some _=>some (.slice none 0 0)
   |_,_=>none
  |_=>none
 |.slice (some ⟨b,off,none⟩) n c=>match E.ul t with
  |some (.slice e)=>match E.size e with
   |some sz=>match ko c with
    |.known k=>match nR lo hi mx n k with
     |some (l,h,m)=>some (.slice (some (bif Nat.beq m l then ⟨b,off,none⟩ else ⟨b,off+l*sz,none⟩)) (h-l) (2*(m-l)+1))
     |none=>none
    |.uH s=>match nR lo hi mx n n with
     |some (l,h,m)=>match mx with
      |some _=>some (.slice (some (bif Nat.beq m l then ⟨b,off,none⟩ else ⟨b,off+l*sz,none⟩)) (h-l) (2*(m-l)+1))
      |none=>bif Nat.beq s sz&&(Nat.beq l 0||Nat.blt l n) then some (.slice (some ⟨b,off+l*sz,none⟩) (h-l) (2*s)) else none
     |none=>none
   |none=>none
  |_=>none
 |.pointer (some ⟨b,off,none⟩)=>match E.ul t,mx with
  |some (.array n e),none=>match E.size e,nR lo hi none n n with
   |some sz,some (l,h,m)=>some (.slice (some (bif Nat.beq m l then ⟨b,off,none⟩ else ⟨b,off+l*sz,none⟩)) (h-l) (2*(m-l)+1))
   |_,_=>none
  |_,_=>none
 |_=>none
def Jc (E:Env) (t:TypeId) (x:Value) (f:Nat):Option Value:=
 match x,E.ul t with
 |.pointer (some ⟨b,off,none⟩),some (.struct fs)=>match fs[f]? with
  |some f=>match E.size f.type with
   |some (_+1)=>some (.pointer (some ⟨b,off+f.offset,none⟩))
   |_=>none
  |none=>none
 |_,_=>none
def fE (E:Env) (t:TypeId) (x i:Value):Option Value:=
 match E.ul t,i with
 |some (.array n e),.int _ i=>match x,E.size e with
  |.pointer (some ⟨b,off,none⟩),some sz=>bif decide (0≤i)&&decide (i<(n:Int)) then some (.pointer (some ⟨b,off+i.toNat*sz,none⟩)) else none
  |_,_=>none
 |some (.slice e),.int _ i=>match x,E.size e with
  |.slice (some ⟨b,off,none⟩) n _,some sz=>bif decide (0≤i)&&decide (i<(n:Int)) then some (.pointer (some ⟨b,off+i.toNat*sz,none⟩)) else none
  |_,_=>none
 |_,_=>none
def sB (E:Env) (t:TypeId) (x y:Value):Option Bool:=
 match E.ul t,x,y with
 |some (.pointer _),.pointer none,.pointer (some _)=>some false
 |some (.pointer _),.pointer (some _),.pointer none=>some false
 |some (.pointer e),.pointer (some ⟨b,o,none⟩),.pointer (some ⟨b',o',none⟩)=>match E.size e with
  |some (_+1)=>bif Nat.beq b b' then some (Nat.beq o o') else none
  |_=>none
 |some (.slice _),.slice none 0 0,.slice (some _) _ _=>some false
 |some (.slice _),.slice (some _) _ _,.slice none 0 0=>some false
 |some (.map _ _),.map none,.map (some _)=>some false
 |some (.map _ _),.map (some _),.map none=>some false
 |some (.func _ _ _),.nilFunc,.func _ _ _=>some false
 |some (.func _ _ _),.func _ _ _,.nilFunc=>some false
 |some (.interface _),.nilIface,.iface _ _=>some false
 |some (.interface _),.iface _ _,.nilIface=>some false
 |_,_,_=>none
def sD (k:Value):List MapEntry→Option (Option Value)
 |[]=>some none
 |e::es=>match k,e.key with
  |.string a,.string b=>bif a==b then some (some e.val) else sD k es
  |.int i a,.int j b=>bif decide (i=j) then (bif decide (a=b) then some (some e.val) else sD k es) else none
  |_,_=>none
def rX (k v:Value) (clock:Nat):List MapEntry→Option (List MapEntry×Bool)
 |[]=>some ([{ key:=k,val:=v,born:=clock }],true)
 |e::es=>match k,e.key with
  |.string a,.string b=>bif a==b then some ({ e with key:=k,val:=v }::es,false) else match rX k v clock es with |some (es,n)=>some (e::es,n) |none=>none
  |.int i a,.int j b=>bif decide (i=j) then (bif decide (a=b) then some ({ e with key:=k,val:=v }::es,false) else match rX k v clock es with |some (es,n)=>some (e::es,n) |none=>none) else none
  |_,_=>none
def rL:TypeDesc→Value→Bool
 |.string,.string _=>true
 |.int k,.int k' _=>decide (k=k')
 |_,_=>false
def hG (h:U) (sz:Nat):Value→Option (Nat×List Value×List Nat)
 |.string s=>some (s.size,(s.data.map fun b=>.int .u8 b.toNat).toList,[])
 |.slice none 0 0=>some (0,[],[])
 |.slice (some ⟨b,off,none⟩) n _=>match row h b off (n*sz) with
  |some xs=>some (n,xs,[b])
  |none=>none
 |_=>none
def most:Nat:=1099511627776
def pP (x:Value) (sz:Nat):Bool:=match x with |.string _=>Nat.beq sz 1 |_=>true
def AP (E:Env) (ts:Array TypeId):Bool:=
 match ts[1]? with
 |some u=>match E.ul u with
  |some (.int _)=>true
  |some _=>false
  |none=>true
 |none=>false
def wY (E:Env) (e:TypeId) (i:TypeInfo) (s:Value) (m:Nat) (new:List Value) (R:List Nat) (h:U):pd:=
 match s with
 |.slice none 0 0=>
  bif Nat.beq m 0 then some (.slice none 0 0,h,[],R) else
  bif Nat.ble (m*i.bytes) most then some (.slice (some ⟨h.n,0,none⟩) m (2*i.size),h.new (.cells new e false),[],R) else none
 |.slice (some ⟨b,off,none⟩) n c=>match ko c with
  |.known c=>
   bif Nat.ble (n+m) c then
    match h.get b with
    |some (.cells cs e' false)=>
     bif Nat.ble (off+(n+m)*i.size) cs.length then some (.slice (some ⟨b,off,none⟩) (n+m) (2*c+1),h.set b (.cells (splice cs (off+n*i.size) new) e' false),[b],b::R) else none
    |_=>none
   else match row h b off (n*i.size) with
    |some old=>bif Nat.ble ((n+m)*i.bytes) most then some (.slice (some ⟨h.n,0,none⟩) (n+m) (2*i.size),h.new (.cells (old++new) e false),[],b::R) else none
    |none=>none
  |.uH s=>
   match h.get b with
   |some (.cells cs e' false)=>
    bif Nat.ble (off+n*i.size) cs.length&&Nat.beq s i.size&&Nat.beq e e'&&Nat.ble ((n+m)*i.bytes) most then some (.slice (some ⟨h.n,0,none⟩) (n+m) (2*s),(h.set b .dead).new (.cells ((cs.drop off).take (n*i.size)++new) e false),[b],b::R) else none
   |_=>none
 |_=>none
def eW (E:Env) (ts:Array TypeId) (s x:Value) (h:U):pd:=
 match ts[0]? with
 |some t=>match E.ul t with
  |some (.slice e)=>match E.info e with
   |some i=>match i.zero with
    |some z=>
     bif !E.tight e&&!AP E ts&&Nat.beq z.cells.size i.size&&Nat.blt 0 i.size&&Nat.blt 0 i.bytes&&pP x i.size then
     match hG h i.size x with
     |some (m,new,R)=>bif new.all one then wY E e i s m new R h else none
     |none=>none
     else none
    |none=>none
   |none=>none
  |_=>none
 |none=>none
def ph (E:Env) (T:b5) (xs:List Operand):Bool:=xs.all fun x=>match ev E T x with |some v=>ground v |none=>false
def k6 (E:Env) (T:b5) (o:Oper):Option Value:=
 bif ph E T o.op.operands.toList then
  match e3 E.P (execOp (fun x=>(ev E T x).getD cZ) o) with
  |some (.value v)=>bif ground v then some v else none
  |_=>none
 else none
def KE (E:Env) (ts:Array TypeId) (x:Value) (h:U):pd:=
 match ts[0]? with
 |some t=>match E.ul t,x with
  |some (.slice _),.slice _ n _=>some (.int .i64 n,h,[],[])
  |some .string,.string s=>some (.int .i64 s.size,h,[],[])
  |some (.map _ _),.map none=>some (.int .i64 0,h,[],[])
  |some (.map _ _),.map (some b)=>match h.get b with
   |some (.map es _)=>some (.int .i64 es.length,h,[],[b])
   |_=>none
  |some (.pointer p),_=>match E.ul p with
   |some (.array n _)=>some (.int .i64 n,h,[],[])
   |_=>none
  |_,_=>none
 |none=>none
def Ix (E:Env) (ts:Array TypeId) (x:Value) (h:U):pd:=
 match ts[0]? with
 |some t=>match E.ul t,x with
  |some (.slice _),.slice none 0 0=>some (.int .i64 0,h,[],[])
  |some (.slice _),.slice (some _) n c=>match ko c with |.known k=>some (.int .i64 k,h,[],[]) |_=>none
  |_,_=>none
 |none=>none
def qC (E:Env) (ts:Array TypeId) (d s:Value) (h:U):pd:=
 match ts[0]? with
 |some t=>match E.ul t with
  |some (.slice e)=>match E.size e with
   |some sz=>bif pP s sz then (match d,hG h sz s with
    |.slice none 0 0,some (m,new,R)=>some (.int .i64 0,h,[],R)
    |.slice (some ⟨b,off,none⟩) n _,some (m,new,R)=>
     match h.get b with
     |some (.cells cs e' false)=>
      bif Nat.ble (off+min m n*sz) cs.length&&new.all one then some (.int .i64 ((min m n:Nat):Int),h.set b (.cells (splice cs off (new.take (min m n*sz))) e' false),[b],b::R) else none
     |_=>none
    |_,_=>none) else none
   |none=>none
  |_=>none
 |none=>none
def w8 (E:Env) (ts:Array TypeId) (x:Value) (h:U):pd:=
 match ts[0]? with
 |some t=>match E.ul t,x with
  |some (.slice e),.slice _ 0 _=>some (cZ,h,[],[])
  |some (.slice e),.slice (some ⟨b,off,none⟩) (n+1) _=>match E.zero e,h.get b with
   |some z,some (.cells cs e' false)=>
    bif Nat.ble (off+(n+1)*z.cells.size) cs.length&&z.cells.toList.all one&&ground z then some (cZ,h.set b (.cells (splice cs off (hM z.cells.toList (n+1))) e' false),[b],[b]) else none
   |_,_=>none
  |_,_=>none
 |none=>none
def xP (E:Env) (t:TypeId) (l c:Value) (h:U):pd:=
 match E.ul t,l,c with
 |some (.slice e),.int _ l,.int _ c=>match E.info e with
  |some i=>match i.zero with
   |some z=>
    bif decide (0≤l)&&decide (l≤c)&&decide (c*i.bytes≤(most:Int))&&decide (c≤(most:Int))&&Nat.beq z.cells.size i.size&&z.cells.toList.all one&&ground z then
     some (.slice (some ⟨h.n,0,none⟩) l.toNat (2*c.toNat+1),h.new (.cells (hM z.cells.toList c.toNat) e false),[],[])
    else none
   |none=>none
  |none=>none
 |_,_,_=>none
def Iu (E:Env) (T:b5) (t:TypeId) (len:Nat) (parts:Array (Nat×Operand)) (h:U):pd:=
 match E.ul t with
 |some (.slice e)=>match E.size e,E.zero e with
  |some n,some z=>
   bif Nat.ble (len*n) 16777216&&Nat.beq z.cells.size n&&ground z then
    match xi E T (fun i=>some (i*n,n)) (hM z.cells.toList len) parts.toList with
    |some c=>bif c.all one then some (.slice (some ⟨h.n,0,none⟩) len (2*len+1),h.new (.cells c e false),[],[]) else none
    |none=>none
   else none
  |_,_=>none
 |_=>none
def qN (E:Env) (t:TypeId) (m k:Value) (ok:Bool) (h:U):pd:=
 match E.ul t with
 |some (.map kt ym)=>match E.ul kt,E.zero ym with
  |some kd,some z=>
   bif rL kd k then
    match (match m with |.map none=>some ([],[]) |.map (some b)=>(match h.get b with |some (.map es _)=>some (es,[b]) |_=>none) |_=>none:Option (List MapEntry×List Nat)) with
    |some (es,R)=>match sD k es with
     |some (some v)=>some (bif ok then .tuple #[v,.bool true] else v,h,[],R)
     |some none=>bif ground z then some (bif ok then .tuple #[z,.bool false] else z,h,[],R) else none
     |none=>none
    |none=>none
   else none
  |_,_=>none
 |_=>none
def jO (E:Env) (t:TypeId) (m k v:Value) (h:U):pd:=
 match E.ul t,m with
 |some (.map kt ym),.map (some b)=>match E.ul kt,h.get b with
  |some kd,some (.map es clock)=>
   bif rL kd k then
    match rX k v clock es with
    |some (es',n)=>some (cZ,h.set b (.map es' (bif n then clock+1 else clock)),[b],[b])
    |none=>none
   else none
  |_,_=>none
 |_,_=>none
def xS (want:List (String×TypeId)) (got:Array Method):Bool:=want.all fun m=>got.any fun g=>g.name==m.1&&g.sig==m.2
def Iq (E:Env) (x:Value) (a:TypeId) (ok:Bool):Option Value:=
 match E.ul a,x with
 |some (.interface want),.iface t v=>match E.info t with
  |some i=>bif xS want.toList i.methods then some (bif ok then .tuple #[x,.bool true] else x) else
    match E.zero a with |some z=>bif ok&&ground z then some (.tuple #[z,.bool false]) else none |none=>none
  |none=>none
 |some (.interface _),.nilIface=>match E.zero a with |some z=>bif ok&&ground z then some (.tuple #[z,.bool false]) else none |none=>none
 |some _,.iface t v=>bif Nat.beq t a then some (bif ok then .tuple #[v,.bool true] else v) else
    match E.zero a with |some z=>bif ok&&ground z then some (.tuple #[z,.bool false]) else none |none=>none
 |some _,.nilIface=>match E.zero a with |some z=>bif ok&&ground z then some (.tuple #[z,.bool false]) else none |none=>none
 |_,_=>none
def m6:List Value→Option (List UInt8)
 |[]=>some []
 |.int .u8 n::xs=>match m6 xs with |some r=>some (UInt8.ofNat n.toNat::r) |none=>none
 |_=>none
def lO (E:Env) (s d:TypeId) (x:Value) (h:U):pd:=
 match E.ul s,E.ul d,x with
 |some .string,some (.slice e),.string b=>match E.ul e with
  |some (.int .u8)=>bif !E.tight e&&Nat.ble b.size most then some (.slice (some ⟨h.n,0,none⟩) b.size 2,h.new (.cells ((b.data.map fun b=>.int .u8 b.toNat).toList) e false),[],[]) else none
  |_=>none
 |some (.slice e),some .string,.slice none 0 0=>match E.ul e with
  |some (.int .u8)=>some (.string ⟨#[]⟩,h,[],[])
  |_=>none
 |some (.slice e),some .string,.slice (some ⟨b,off,none⟩) n _=>match E.ul e with
  |some (.int .u8)=>match row h b off n with
   |some xs=>match m6 xs with
    |some l=>some (.string ⟨l.toArray⟩,h,[],[b])
    |none=>none
   |none=>none
  |_=>none
 |some (.pointer t),some .unsafePointer,.pointer (some ⟨b,off,none⟩)=>match E.info t,h.get b with
  |some i,some (.cells cs e false)=>bif Nat.blt off cs.length&&Nat.blt 0 i.size then some (.pointer (some ⟨b,off,none⟩),h,[],[b]) else none
  |_,_=>none
 |some .unsafePointer,some (.pointer u),.pointer (some ⟨b,off,none⟩)=>match E.info u,h.get b with
  |some _,some (.cells cs e false)=>bif E.tight e&&liesAt E.P E.P.depth e (cs.length / E.P.cellsOf e) off u 1 then some (.pointer (some ⟨b,off,none⟩),h,[],[b]) else none
  |_,_=>none
 |_,_,_=>none
def yj (x:Value):Option Value:=
 match x with
 |.slice none 0 0=>some (.pointer none)
 |.slice (some ⟨b,off,none⟩) n c=>match ko c with
  |.known k=>bif Nat.blt 0 k then some (.pointer (some ⟨b,off,none⟩)) else none
  |.uH _=>bif Nat.blt 0 n then some (.pointer (some ⟨b,off,none⟩)) else none
 |_=>none
def yk (E:Env) (ts:Array TypeId) (x l:Value) (h:U):pd:=
 match x,l,ts[0]? with
 |.pointer none,.int .i64 0,some _=>some (.string ⟨#[]⟩,h,[],[])
 |.pointer (some ⟨b,off,none⟩),.int .i64 n,some pt=>match E.ul pt,h.get b with
  |some (.pointer e),some (.cells cs e' false)=>
   bif decide (0<n)&&decide (n≤(most:Int))&&Nat.beq (E.P.cellsOf e) 1&&Nat.beq e e' then
    match row h b off n.toNat with
    |some xs=>match m6 xs with
     |some s=>some (.string ⟨s.toArray⟩,h.set b .dead,[b],[b])
     |none=>none
    |none=>none
   else none
  |_,_=>none
 |_,_,_=>none
def simple (E:Env) (o:Oper) (T:b5) (h:U):pd:=
 match o.op with
 |.move x |.assign x=>match ev E T x with |some v=>some (v,h,[],[]) |none=>none
 |.pick c a b=>match ev E T c with
  |some (.bool true)=>match ev E T a with |some v=>some (v,h,[],[]) |none=>none
  |some (.bool false)=>match ev E T b with |some v=>some (v,h,[],[]) |none=>none
  |_=>none
 |.alloc t=>match E.zero t,E.size t with
  |some z,some n=>bif ground z&&Nat.beq z.cells.size n then some (.pointer (some ⟨h.n,0,none⟩),h.new (.cells z.cells.toList t false),[],[]) else none
  |_,_=>none
 |.box t x=>match ev E T x with
  |some v=>some (.pointer (some ⟨h.n,0,none⟩),h.new (.cells v.cells.toList t false),[],[])
  |none=>none
 |.build t ps=>match It E T t ps with |some v=>some (v,h,[],[]) |none=>none
 |.buildSlice t len ps=>Iu E T t len ps h
 |.load t x=>match ev E T x with
  |some (.pointer (some ⟨b,off,none⟩))=>match ay E t b off h with |some v=>some (v,h,[],[b]) |none=>none
  |_=>none
 |.store t x v=>match ev E T x,ev E T v with
  |some (.pointer (some ⟨b,off,none⟩)),some v=>match bp E t b off v h with |some h'=>some (cZ,h',[b],[b]) |none=>none
  |_,_=>none
 |.nilCheck x=>match ev E T x with
  |some (.pointer (some a))=>some (.pointer (some a),h,[],[])
  |some (.func (.func f) a b)=>some (.func (.func f) a b,h,[],[])
  |some (.iface t v)=>some (.iface t v,h,[],[])
  |_=>none
 |.binOp op t x y _=>match k6 E T o with
  |some v=>some (v,h,[],[])
  |none=>match op,ev E T x,ev E T y with
   |.eql,some x,some y=>match sB E t x y with |some b=>some (.bool b,h,[],[]) |none=>none
   |.neq,some x,some y=>match sB E t x y with |some b=>some (.bool (!b),h,[],[]) |none=>none
   |_,_,_=>none
 |.unOp _ _ _=>match k6 E T o with |some v=>some (v,h,[],[]) |none=>none
 |.convert s d x=>match k6 E T o with
  |some v=>some (v,h,[],[])
  |none=>match ev E T x with |some v=>lO E s d v h |none=>none
 |.makeInterface t x=>match ev E T x,E.ul t with
  |_,some (.interface _)=>none
  |some v,some _=>some (.iface t v,h,[],[])
  |_,_=>none
 |.makeFunc (.func f) a b=>match kP E T a.toList,kP E T b.toList with
  |some a,some b=>some (.func (.func f) a.toArray b.toArray,h,[],[])
  |_,_=>none
 |.makeMap t r=>match lU E T r with
  |some none=>some (.map (some h.n),h.new (.map [] 0),[],[])
  |some (some (.int _ _))=>match E.ul t with |some (.map _ _)=>some (.map (some h.n),h.new (.map [] 0),[],[]) |_=>none
  |_=>none
 |.makeSlice t l c=>match ev E T l,ev E T c with
  |some l,some c=>xP E t l c h
  |_,_=>none
 |.slice t x l hi m=>match ev E T x,lU E T l,lU E T hi,lU E T m with
  |some (.string s),some l,some hi,some m=>match k6 E T o with |some v=>some (v,h,[],[]) |none=>none
  |some x,some l,some hi,some m=>match ge E t x l hi m with |some v=>some (v,h,[],[]) |none=>none
  |_,_,_,_=>none
 |.fieldAddr t x f=>match ev E T x with
  |some x=>match Jc E t x f with |some v=>some (v,h,[],[]) |none=>none
  |none=>none
 |.field t x f=>match ev E T x,E.ul t with
  |some (.agg cs),some (.struct fs)=>match fs[f]? with
   |some f=>match Gz E f.type cs f.offset with |some v=>some (v,h,[],[]) |none=>none
   |none=>none
  |_,_=>none
 |.indexAddr t x i=>match ev E T x,ev E T i with
  |some x,some i=>match fE E t x i with |some v=>some (v,h,[],[]) |none=>none
  |_,_=>none
 |.index t x i=>match k6 E T o with
  |some v=>some (v,h,[],[])
  |none=>match ev E T x,ev E T i,E.ul t with
   |some (.agg cs),some (.int _ i),some (.array n e)=>match E.size e with
    |some sz=>bif decide (0≤i)&&decide (i<(n:Int)) then (match Gz E e cs (i.toNat*sz) with |some v=>some (v,h,[],[]) |none=>none) else none
    |none=>none
   |_,_,_=>none
 |.lookup t m k ok=>match ev E T m,ev E T k with
  |some m,some k=>qN E t m k ok h
  |_,_=>none
 |.mapUpdate t m k v |.insert t m k v=>match ev E T m,ev E T k,ev E T v with
  |some m,some k,some v=>jO E t m k v h
  |_,_,_=>none
 |.typeAssert x _ a ok=>match ev E T x with
  |some x=>match Iq E x a ok with |some v=>some (v,h,[],[]) |none=>none
  |none=>none
 |.extract x i=>match ev E T x with
  |some (.tuple vs)=>match vs[i]? with |some v=>some (v,h,[],[]) |none=>none
  |_=>none
 |.call { callee:=.builtin .len,args,argTypes }=>match kP E T args.toList with |some [x]=>KE E argTypes x h |_=>none
 |.call { callee:=.builtin .cap,args,argTypes }=>match kP E T args.toList with |some [x]=>Ix E argTypes x h |_=>none
 |.call { callee:=.builtin .append,args,argTypes }=>match kP E T args.toList with |some [s,x]=>eW E argTypes s x h |_=>none
 |.call { callee:=.builtin .copy,args,argTypes }=>match kP E T args.toList with |some [d,s]=>qC E argTypes d s h |_=>none
 |.call { callee:=.builtin .clear,args,argTypes }=>match kP E T args.toList with |some [x]=>w8 E argTypes x h |_=>none
 |.call { callee:=.builtin .unsafeSliceData,args,.. }=>match kP E T args.toList with
  |some [x]=>match yj x with |some v=>some (v,h,[],[]) |none=>none
  |_=>none
 |.call { callee:=.builtin .unsafeString,args,argTypes }=>match kP E T args.toList with |some [x,l]=>yk E argTypes x l h |_=>none
 |.call { callee:=.builtin .max,.. } |.call { callee:=.builtin .min,.. }=>match k6 E T o with |some v=>some (v,h,[],[]) |none=>none
 |_=>none
inductive eY where
 |normal
 |exit (id:Nat)
 |goto (l:Nat)
 |ret
 |panic (v:Value)
structure gp where
 t:b5
 h:U
 d:List (Value×List Value)
 w:List Nat
abbrev Call:=FuncId→List Value→U→m0
def me (T:b5) (aq:Nat) (d:Option Tmp) (v:Value):Option b5:=
 match d with
 |some d=>bif Nat.blt d aq then some (T.set d v) else none
 |none=>some T
def uM (ops:Array Oper) (T:b5) (o:Oper):Option Bool:=
 match o.guard with
 |none=>some true
 |some (j,want)=>match ops[j]? with
  |some p=>match p.dst with
   |some d=>match T.get d with
    |some (.bool b)=>some (b==want)
    |some _=>some false
    |none=>none
   |none=>some false
  |none=>some false
def GR (E:Env) (T:b5) (c:Go.Call):Option (FuncId×List Value):=
 match kP E T c.args.toList with
 |some args=>match c.callee with
  |.value f=>match ev E T f with
   |some (.func (.func g) a b)=>some (g,a.toList++args++b.toList)
   |_=>none
  |.invoke r name=>match ev E T r with
   |some (.iface t v)=>match E.info t with
    |some i=>match i.methods.find? (·.name==name) with
     |some m=>bif m.path.isEmpty then (match m.func with
      |some (f,p)=>match E.ul t with
       |some (.pointer _)=>bif p then some (f,v::args) else none
       |some _=>bif p then none else some (f,v::args)
       |none=>none
      |none=>none) else none
     |none=>none
    |none=>none
   |_=>none
  |.builtin _=>none
 |none=>none
inductive H8 where
 |val (v:Value) (h:U) (d:List (Value×List Value)) (w:List Nat) (r:Option (List Nat))
 |qW (v:Value) (h:U) (w:List Nat)
def fK (E:Env) (call:Call) (o:Oper) (T:b5) (h:U) (d:List (Value×List Value)):Option H8:=
 match o.op with
 |.call { callee:=.builtin _,.. }=>match simple E o T h with
  |some (v,h',w,r)=>some (.val v h' d w (some r))
  |none=>none
 |.call c=>match GR E T c with
  |some (f,args)=>match call f args h with
   |some (.ret v,h',w)=>some (.val v h' d w none)
   |some (.qW v,h',w)=>some (.qW v h' w)
   |none=>none
  |none=>none
 |.defer { callee:=.value f,args,.. }=>match ev E T f,kP E T args.toList with
  |some (.func (.func g) a b),some args=>some (.val cZ h ((.func (.func g) a b,args)::d) [] (some []))
  |_,_=>none
 |.panic x=>match ev E T x with
  |some (.iface t v)=>some (.qW (.iface t v) h [])
  |_=>none
 |_=>match simple E o T h with
  |some (v,h',w,r)=>some (.val v h' d w (some r))
  |none=>none
def z9 (E:Env) (call:Call) (aq:Nat) (ops:Array Oper):List Oper→gp→Option (Option Value×gp)
 |[],s=>some (none,s)
 |o::rest,s=>match uM ops s.t o with
  |some true=>match fK E call o s.t s.h s.d with
   |some (.val v h d w _)=>match me s.t aq o.dst v with
    |some t=>z9 E call aq ops rest ⟨t,h,d,s.w++w⟩
    |none=>none
   |some (.qW v h w)=>some (some v,⟨s.t,h,s.d,s.w++w⟩)
   |none=>none
  |some false=>match me s.t aq o.dst cZ with
   |some t=>z9 E call aq ops rest ⟨t,s.h,s.d,s.w⟩
   |none=>none
  |none=>none
def ahG:Operand→Option Tmp
 |.tmp t=>some t
 |_=>none
def mL (ops:Array Oper) (o:Oper):List Tmp:=
 o.op.operands.toList.filterMap ahG ++
 (match o.guard with
  |some (j,_)=>match ops[j]? with
   |some p=>match p.dst with
    |some d=>[d]
    |none=>[]
   |none=>[]
  |none=>[])
def oP (T:b5):List Tmp→b5→b5
 |[],a=>a
 |t::ts,a=>match T.get t with
  |some v=>oP T ts (a.set t v)
  |none=>oP T ts a
structure iG where
 dst:Option Tmp
 looks:List Tmp
 w:List Nat
 r:Option (List Nat)
 lo:Nat
 hi:Nat
def bZ (h h':U) (w:List Nat):Bool:=w.all fun q=>bif Nat.blt q h.n then fG (h.get q) else Nat.blt q h'.n
def x2 (E:Env) (call:Call) (aq:Nat) (ops:Array Oper):List Oper→gp→List iG→Option (gp×List iG)
 |[],s,fs=>some (s,fs.reverse)
 |o::rest,s,fs=>match uM ops (oP s.t (mL ops o) .nil) o with
  |some true=>match fK E call o (oP s.t (mL ops o) .nil) s.h s.d with
   |some (.val v h d w r)=>match me s.t aq o.dst v,bZ s.h h w with
    |some t,true=>x2 E call aq ops rest ⟨t,h,d,s.w++w⟩ (⟨o.dst,mL ops o,w.filter (Nat.blt · s.h.n),r,s.h.n,h.n⟩::fs)
    |_,_=>none
   |_=>none
  |some false=>match me s.t aq o.dst cZ with
   |some t=>x2 E call aq ops rest ⟨t,s.h,s.d,s.w⟩ (⟨o.dst,mL ops o,[],some [],s.h.n,s.h.n⟩::fs)
   |none=>none
  |none=>none
def zq (x:Nat) (l:List Nat):Bool:=l.any (Nat.beq x)
def xf (a b:List Nat):Bool:=a.all fun x=>!zq x b
def xg (a:List Nat) (b:Option (List Nat)):Bool:=match b with |some b=>xf a b |none=>a.isEmpty
def vu (d:Option Tmp) (l:List Tmp):Bool:=match d with |some d=>!zq d l |none=>true
def yU (x y:iG):Bool:=
 vu x.dst y.looks&&vu y.dst x.looks&&vu x.dst y.dst.toList&&xf x.w y.w&&xg x.w y.r&&xg y.w x.r&&y.w.all fun q=>Nat.blt q x.lo||Nat.ble x.hi q
def indep (fX:Array Nat) (fs:List iG):Bool:=
 (fs.zipIdx).all fun (f,j)=>(fs.zipIdx).all fun (g,i)=>Nat.ble j i||(fX.getD j 0).testBit i||yU g f
def I1 (ops:Array Oper):Bool:=ops.zipIdx.all fun (o,i)=>o.after.all fun e=>!Region.binds .any e||Nat.blt e.on i
def Gi (ops:Array Oper):Bool:=ops.all fun o=>match o.op with |.defer _ |.panic _=>false |_=>true
def qX (ops:Array Oper):Bool:=
 I1 ops&&Gi ops &&
 (!Region.departs ops||(Nat.beq (Region.linearise .text ops 0).length ops.size&&Nat.beq (Region.linearise .gc ops 0).length ops.size))
def An (E:Env) (call:Call) (aq:Nat) (ops:Array Oper) (draw:Bool) (s:gp):Option (Option Value×gp):=
 bif draw then
  bif qX ops then
   match x2 E call aq ops ops.toList s [] with
   |some (s',fs)=>bif indep (Region.before ops) fs then some (none,s') else none
   |none=>none
  else none
 else z9 E call aq ops ops.toList s
def IJ (E:Env) (call:Call) (aq:Nat) (self:Code→gp→Option (eY×gp)):Code→gp→Option (eY×gp)
 |.skip,s=>some (.normal,s)
 |.label _,s=>some (.normal,s)
 |.region _ ops draw,s=>match An E call aq ops draw s with
  |some (none,s')=>some (.normal,s')
  |some (some v,s')=>some (.panic v,s')
  |none=>none
 |.seq a b,s=>match self a s with
  |some (.normal,s')=>self b s'
  |r=>r
 |.cond c a b,s=>match ev E s.t c with
  |some (.bool true)=>self a s
  |some (.bool false)=>self b s
  |_=>none
 |.block id c,s=>match self c s with
  |some (.exit id',s')=>bif Nat.beq id' id then some (.normal,s') else some (.exit id',s')
  |r=>r
 |.loop c,s=>match self c s with
  |some (.normal,s')=>self (.loop c) s'
  |r=>r
 |.exit id,s=>some (.exit id,s)
 |.goto l,s=>some (.goto l,s)
 |.ret,s=>some (.ret,s)
 |_,_=>none
def mj:List Value→Nat→b5→b5
 |[],_,t=>t
 |v::vs,i,t=>mj vs (i+1) (t.set i v)
def s9 (E:Env) (s:gp):List ResultVar→Option (List Value)
 |[]=>some []
 |.tmp t::rs=>match s.t.get t,s9 E s rs with
  |some v,some vs=>some (v::vs)
  |_,_=>none
 |.cell a t::rs=>match s.t.get a with
  |some (.pointer (some ⟨b,off,none⟩))=>match ay E t b off s.h,s9 E s rs with
   |some v,some vs=>some (v::vs)
   |_,_=>none
  |_=>none
def rZ (E:Env) (fn:Func) (s:gp):Option Value:=
 match s9 E s fn.results.toList with
 |some [v]=>some v
 |some vs=>some (.tuple vs.toArray)
 |none=>none
def qM (E:Env) (code:Nat→Code→gp→Option (eY×gp)) (fn:Func) (T:b5):List (Value×List Value)→Option Value→U→List Nat→m0
 |[],none,h,w=>match rZ E fn ⟨T,h,[],[]⟩ with
  |some v=>some (.ret v,h,w)
  |none=>none
 |[],some v,h,w=>some (.qW v,h,w)
 |(f,args)::ds,m,h,w=>match f with
  |.func (.func g) a b=>match E.zn g with
   |some p=>match p m (a.toList++args++b.toList) h with
    |some (m',h',w')=>qM E code fn T ds m' h' (w++w')
    |none=>none
   |none=>match E.func g with
    |some fn'=>match fn'.body with
     |some c=>bif Nat.ble (a.toList++args++b.toList).length fn'.ntmps then
      match code fn'.ntmps c ⟨mj (a.toList++args++b.toList) 0 .nil,h,[],[]⟩ with
      |some (.normal,s) |some (.ret,s)=>match s.d,rZ E fn' s with
       |[],some _=>qM E code fn T ds m s.h (w++s.w)
       |_,_=>none
      |_=>none
      else none
     |none=>none
    |none=>none
  |_=>none
def En (E:Env) (code:Nat→Code→gp→Option (eY×gp)) (f:FuncId) (args:List Value) (h:U):m0:=
 match E.x5 f with
 |some p=>p args h
 |none=>match E.func f with
  |some fn=>match fn.body with
   |some c=>bif Nat.ble args.length fn.ntmps then
    match code fn.ntmps c ⟨mj args 0 .nil,h,[],[]⟩ with
    |some (.normal,s) |some (.ret,s)=>qM E code fn s.t s.d none s.h s.w
    |some (.panic v,s)=>qM E code fn s.t s.d (some v) s.h s.w
    |_=>none
    else none
   |none=>none
  |none=>none
mutual
def exec (E:Env):Nat→Nat→Code→gp→Option (eY×gp)
 |0,_,_,_=>none
 |f+1,aq,c,s=>IJ E (rg E f) aq (exec E f aq) c s
def rg (E:Env):Nat→FuncId→List Value→U→m0
 |0,_,_,_=>none
 |f+1,g,args,h=>En E (exec E f) g args h
end
def cz (H:U):Prop:=∀ i,H.n≤i→H.get i=none
theorem cz.lt {H:U} (h:cz H) {i:Nat} {o:df} (hi:H.get i=some o):i<H.n:=by
 rcases Nat.lt_or_ge i H.n with h1 |h1
 ·exact h1
 ·rw [h i h1] at hi;cases hi
theorem cz.new {H:U} (h:cz H) (o:df):cz (H.new o):=fun i hi=>by
 rw [U.jn]
 simp at hi
 rw [if_neg D];exact h i D
theorem cz.set {H:U} (h:cz H) {b:Nat} (hb:b<H.n) (o:df):cz (H.set b o):=fun i hi=>by
 rw [U.kr]
 simp at hi
 rw [if_neg D];exact h i hi
structure Pre (E:Env) (base:Nat) (φ:bA) (w:World) (H:U) (R:List Nat):Prop where
 bs:base≤w.heap.size
 blocks:∀ i∈R,∀ l o,φ i=some l→H.get i=some o→mw E base φ w l o
 lt:∀ i∈R,∀ l,φ i=some l→live (H.get i)=true→l.cD<w.heap.size
 iL:∀ g,g<E.ej→∃ l,φ g=some l∧l.cD=g∧l.off=0
structure eV (E:Env) (base:Nat) (φ:bA) (w:World) (H H':U) (W:List Nat) (aU:bA) (w':World):Prop where
 wr:∀ j∈W,j<H.n∧fG (H.get j)=true
 ext:∀ i,(i<H.n∨H'.n≤i)→aU i=φ i
 step:Step φ W w w'
 fresh:∀ i l,H.n≤i→i<H'.n→aU i=some l→
  w.heap.size≤l.cD∨∃ j∈W,∃ m,j<H.n∧φ j=some m∧m.cD=l.cD∧fG (H.get j)=true∧live (H'.get j)=false
 blocks:∀ i l o,(i∈W∨H.n≤i)→i<H'.n→aU i=some l→H'.get i=some o→mw E base aU w' l o
 lt:∀ i l,H.n≤i→i<H'.n→aU i=some l→live (H'.get i)=true→l.cD<w'.heap.size
 inj:∀ i j l m,H.n≤i→i<H'.n→H.n≤j→j<H'.n→i≠j→aU i=some l→aU j=some m→fG (H'.get i)=true→live (H'.get j)=true→l.cD≠m.cD
theorem Pre.Lk {E:Env} {base:Nat} {H:U} {φ:bA} {w:World} (wf:cz H) (h:Rel E base H φ w) (R:List Nat):Pre E base φ w H R:=
 ⟨h.bs,fun i _ l o hl ho=>h.blocks i l o (wf.lt ho) hl ho,fun i _ l hl hv=>by
  cases hg:H.get i with
  |none=>rw [hg] at hv;simp [live] at hv
  |some o=>exact h.lt i l (wf.lt hg) hl hv,h.iL⟩
theorem Pre.sub {E:Env} {base:Nat} {H:U} {φ:bA} {w:World} {R S:List Nat} (h:Pre E base φ w H R) (hs:∀ i,i∈S→i∈R):Pre E base φ w H S:=
 ⟨h.bs,fun i hi=>h.blocks i (hs i hi),fun i hi=>h.lt i (hs i hi),h.iL⟩
theorem eV.out {E:Env} {base:Nat} {φ:bA} {w:World} {H H':U} {W:List Nat} {aU:bA} {w':World} (wf:cz H) (x:cX W H H') (h:Rel E base H φ w) (k:eV E base φ w H H' W aU w')
  (hf:fW φ H.n H'.n) (cu:E.ej≤H.n):Out E base φ w H H' W aU w':=by
 have hsub:∀ i l,φ i=some l→aU i=some l:=by
  intro i l hi
  by_cases h1:i<H.n
  ·rw [k.ext i (.inl h1)];exact hi
  ·by_cases h2:H'.n≤i
   ·rw [k.ext i (.inr h2)];exact hi
   ·rw [hf i D D] at hi;cases hi
 have old:∀ i,¬ (i∈W∨H.n≤i)→i∉W∧i<H.n:=fun i hc=>
  ⟨fun h=>hc (.inl h),by
   rcases Nat.lt_or_ge i H.n with h1 |h1
   ·exact h1
   ·exact absurd (.inr h1) hc⟩
 refine ⟨k.ext,⟨Nat.le_trans h.bs k.step.size,fun i l o hi hl ho=>?_,fun i l hi hl hv=>?_,fun i j l m hi hj hij hl hm hw hv=>?_,fun g hg=>?_⟩,k.step,k.fresh⟩
 ·by_cases hc:i∈W∨H.n≤i
  ·exact k.blocks i l o hc hi hl ho
  ·have xm:=old i hc
   rw [k.ext i (.inl xm.2)] at hl
   rw [x.keep i xm.2 xm.1] at ho
   by_cases hlv:live (H.get i)=true
   ·have hb:=h.blocks i l o xm.2 hl ho
    refine (hb.mono hsub).same (k.step.keep l.cD (h.lt i l xm.2 hl hlv) fun j hj m hm he=>?_)
    obtain ⟨hjn,E7⟩:=k.wr j hj
    exact h.inj j i m l hjn xm.2 (fun e=>xm.1 (e▸hj)) hm hl E7 hlv he
   ·rw [ho] at hlv
    unfold live at hlv
    split at hlv
    ·rename_i heq;injection heq with heq;subst heq;intro j x hx;simp at hx
    ·rename_i heq;injection heq with heq;subst heq;trivial
    ·simp at hlv
    ·rename_i heq;cases heq
 ·by_cases hc:i<H.n
  ·rw [k.ext i (.inl hc)] at hl
   exact Nat.lt_of_lt_of_le (h.lt i l hc hl (x.live i hc hv)) k.step.size
  ·exact k.lt i l D hi hl hv
 ·by_cases hi1:i<H.n
  ·rw [k.ext i (.inl hi1)] at hl
   have hw0:=x.fG i hi1 hw
   by_cases vC:j<H.n
   ·rw [k.ext j (.inl vC)] at hm
    exact h.inj i j l m hi1 vC hij hl hm hw0 (x.live j vC hv)
   ·rcases k.fresh j m D hj hm with hb |⟨q,hq,xT,BU,tQ,Jy,tZ,rp⟩
    ·have:=h.lt i l hi1 hl (rN hw0);omega
    ·have hne:q≠i:=fun e=>by
      subst e
      rw [rN hw] at rp;cases rp
     have:=h.inj q i xT l BU hi1 hne tQ hl tZ (rN hw0)
     omega
  ·by_cases vC:j<H.n
   ·rw [k.ext j (.inl vC)] at hm
    have xA:=x.live j vC hv
    rcases k.fresh i l D hi hl with hb |⟨q,hq,xT,BU,tQ,Jy,tZ,rp⟩
    ·have:=h.lt j m vC hm xA;omega
    ·have hne:q≠j:=fun e=>by
      subst e
      rw [hv] at rp;cases rp
     have:=h.inj q j xT m BU vC hne tQ hm tZ xA
     omega
   ·exact k.inj i j l m D hi D hj hij hl hm hw hv
 ·obtain ⟨l,h1,h2⟩:=h.iL g hg
  exact ⟨l,hsub g l h1,h2⟩
theorem eV.same {E:Env} {base:Nat} {φ:bA} {w w':World} {H:U} (hb:w'.heap=w.heap) (ho:w'.os=w.os) (ht:w'.tape=w.tape) (hp:w'.output=w.output) :
  eV E base φ w H H [] φ w':=
 ⟨fun j hj=>by simp at hj,fun _ _=>rfl,⟨ho,ht,hp,by rw [hb];exact Nat.le_refl _,fun B _ _=>by rw [hb]⟩,fun i l h1 h2=>by omega,
  fun i l o h1 h2=>by simp at h1;omega,fun i l h1 h2=>by omega,fun i j l m h1 h2=>by omega⟩
theorem eV.row {E:Env} {base:Nat} {φ:bA} {w w':World} {H:U} (mJ:Nat) (cs:List Value) (d4:Array Value) (e:TypeId) (lo hi:Nat)
  (hfree:φ H.n=none) (hbase:base≤w.heap.size)
  (hb:w'.heap=w.heap.push (.cells d4 e (lo,hi))) (ho:w'.os=w.os) (ht:w'.tape=w.tape) (hp:w'.output=w.output)
  (hl:mJ≤d4.size) (hc:cs.length≤mJ) (hv:∀(j:Nat) x,cs[j]?=some x→∃ y,d4[j]?=some y∧be φ x y) (hfz:∀ j,j<mJ→¬ (lo≤j∧j<hi)) (sK:E.tight e=true→d4.size=cs.length) :
  eV E base φ w H (H.new (.cells cs e false)) [] (fun i=>if i=H.n then some ⟨w.heap.size,0,mJ⟩ else φ i) w':=by
 have hm:∀ i l,φ i=some l→(fun i=>if i=H.n then some ⟨w.heap.size,0,mJ⟩ else φ i) i=some l:=fun i l h=>by
  show (if i=H.n then _ else _)=_
  rw [if_neg (fun e=>by rw [e,hfree] at h;cases h)];exact h
 refine ⟨fun j hj=>by simp at hj,fun i hi=>?_,⟨ho,ht,hp,by rw [hb];simp,fun B hB _=>?_⟩,fun i l h1 h2 h3=>?_,fun i l o h1 h2 h3 h4=>?_,fun i l h1 h2 h3 _=>?_,fun i j l m h1 h2 h3 h4 h5=>?_⟩
 ·show (if i=H.n then _ else _)=_
  simp at hi
  rw [if_neg D]
 ·rw [hb,Array.getElem?_push,if_neg D]
 ·simp at h2
  have:i=H.n:=by omega
  subst this
  simp at h3
  subst h3
  exact .inl (Nat.le_refl _)
 ·simp at h1 h2
  have:i=H.n:=by omega
  subst this
  simp at h3
  subst h3
  rw [U.jn,if_pos rfl] at h4
  injection h4 with h4
  subst h4
  refine ⟨d4,lo,hi,by rw [hb];simp,by simpa using hl,hc,fun j x hx=>?_,hbase,fun j _ hj=>hfz j (by simpa using hj),fun ht=>⟨rfl,sK ht⟩⟩
  obtain ⟨y,hy,hxy⟩:=hv j x hx
  exact ⟨y,by simpa using hy,hxy.mono hm⟩
 ·simp at h2
  have:i=H.n:=by omega
  subst this
  simp at h3
  subst h3
  rw [hb];simp
 ·simp at h2 h4
  omega
theorem eV.adw {E:Env} {base:Nat} {φ:bA} {w w':World} {H:U} (hfree:φ H.n=none) (hbase:base≤w.heap.size)
  (hb:w'.heap=w.heap.push (.map #[] 0)) (ho:w'.os=w.os) (ht:w'.tape=w.tape) (hp:w'.output=w.output) :
  eV E base φ w H (H.new (.map [] 0)) [] (fun i=>if i=H.n then some ⟨w.heap.size,0,0⟩ else φ i) w':=by
 refine ⟨fun j hj=>by simp at hj,fun i hi=>?_,⟨ho,ht,hp,by rw [hb];simp,fun B hB _=>?_⟩,fun i l h1 h2 h3=>?_,fun i l o h1 h2 h3 h4=>?_,fun i l h1 h2 h3 _=>?_,fun i j l m h1 h2 h3 h4 h5=>?_⟩
 ·show (if i=H.n then _ else _)=_
  simp at hi
  rw [if_neg D]
 ·rw [hb,Array.getElem?_push,if_neg D]
 ·simp at h2
  have:i=H.n:=by omega
  subst this
  simp at h3
  subst h3
  exact .inl (Nat.le_refl _)
 ·simp at h1 h2
  have:i=H.n:=by omega
  subst this
  simp at h3
  subst h3
  rw [U.jn,if_pos rfl] at h4
  injection h4 with h4
  subst h4
  exact ⟨#[],by rw [hb];simp,hbase,rfl,fun j x y hx=>by simp at hx⟩
 ·simp at h2
  have:i=H.n:=by omega
  subst this
  simp at h3
  subst h3
  rw [hb];simp
 ·simp at h2 h4
  omega
theorem eV.put {E:Env} {base:Nat} {φ:bA} {w w':World} {H:U} (b:Nat) (l:Loc) (o':df) (tM:b<H.n) (hw:fG (H.get b)=true) (hl:φ b=some l)
  (hb:∀ B,B≠l.cD→w'.heap[B]?=w.heap[B]?) (hs:w'.heap.size=w.heap.size) (ho:w'.os=w.os) (ht:w'.tape=w.tape) (hp:w'.output=w.output)
  (hr:mw E base φ w' l o'):eV E base φ w H (H.set b o') [b] φ w':=by
 refine ⟨fun j hj=>?_,fun i hi=>rfl,⟨ho,ht,hp,by rw [hs];exact Nat.le_refl _,fun B hB hn=>hb B (fun e=>hn b (by simp) l hl e.symm)⟩,fun i l h1 h2 h3=>?_,fun i l' o h1 h2 h3 h4=>?_,fun i l h1 h2 h3 _=>?_,fun i j l m h1 h2 h3 h4 h5=>?_⟩
 ·simp at hj;subst hj;exact ⟨tM,hw⟩
 ·simp at h2;omega
 ·simp at h1 h2
  have:i=b:=by omega
  subst this
  rw [hl] at h3
  injection h3 with h3
  subst h3
  rw [U.kr,if_pos rfl] at h4
  injection h4 with h4
  subst h4
  exact hr
 ·simp at h2;omega
 ·simp at h2;omega
theorem eV.take {E:Env} {base:Nat} {φ:bA} {w w':World} {H:U} (b:Nat) (l k:Loc) (cs:List Value) (e:TypeId) (tM:b<H.n) (hw:fG (H.get b)=true) (hl:φ b=some l) (hk:k.cD=l.cD)
  (hfree:φ H.n=none) (hlt:l.cD<w.heap.size)
  (hb:∀ B,B≠l.cD→w'.heap[B]?=w.heap[B]?) (hs:w'.heap.size=w.heap.size) (ho:w'.os=w.os) (ht:w'.tape=w.tape) (hp:w'.output=w.output)
  (hr:mw E base (fun i=>if i=H.n then some k else φ i) w' k (.cells cs e false)) :
  eV E base φ w H ((H.set b .dead).new (.cells cs e false)) [b] (fun i=>if i=H.n then some k else φ i) w':=by
 refine ⟨fun j hj=>?_,fun i hi=>?_,⟨ho,ht,hp,by rw [hs];exact Nat.le_refl _,fun B hB hn=>hb B (fun e=>hn b (by simp) l hl e.symm)⟩,fun i l' h1 h2 h3=>?_,fun i l' o h1 h2 h3 h4=>?_,fun i l' h1 h2 h3 _=>?_,fun i j l m h1 h2 h3 h4 h5=>?_⟩
 ·simp at hj;subst hj;exact ⟨tM,hw⟩
 ·show (if i=H.n then _ else _)=_
  simp at hi
  rw [if_neg D]
 ·simp at h2
  have:i=H.n:=by omega
  subst this
  simp at h3
  subst h3
  refine .inr ⟨b,by simp,l,tM,hl,hk.symm,hw,?_⟩
  rw [U.jn,U.cB,if_neg D,U.kr,if_pos rfl];rfl
 ·simp at h1 h2
  rcases h1 with h1 |h1
  ·subst h1
   rw [U.jn,U.cB,if_neg D,U.kr,if_pos rfl] at h4
   injection h4 with h4
   subst h4
   trivial
  ·have:i=H.n:=by omega
   subst this
   simp at h3
   subst h3
   rw [U.jn,U.cB,if_pos rfl] at h4
   injection h4 with h4
   subst h4
   exact hr
 ·simp at h2
  have:i=H.n:=by omega
  subst this
  simp at h3
  subst h3
  rw [hk,hs];exact hlt
 ·simp at h2 h4
  omega
theorem cX.new (H:U) (wf:cz H) (o:df):cX [] H (H.new o):=
 ⟨by simp,fun i hi _=>by rw [U.jn,if_neg D],fun i hi h=>by rwa [U.jn,if_neg D] at h,fun i hi h=>by rwa [U.jn,if_neg D] at h⟩
theorem cX.set (H:U) (b:Nat) (o:df) (hw:Am.fG (H.get b)=true):cX [b] H (H.set b o):=
 ⟨by simp,fun i hi hn=>by rw [U.kr,if_neg (fun e=>hn (by simp [e]))],fun i hi h=>by
     rw [U.kr] at h
     split at h
     ·rename_i e;subst e;exact rN hw
     ·exact h,fun i hi h=>by
     rw [U.kr] at h
     split at h
     ·rename_i e;subst e;exact hw
     ·exact h⟩
theorem add_plain (b o i:Nat):(⟨b,o,none⟩:Addr).add i=⟨b,o+i,none⟩:=by
 unfold Addr.add;split <;> simp_all
section
variable {P:Program}
theorem run_pure {α:Type} (a:α) (w:World):(pure a:Sem α).run P w=.ok a w:=rfl
theorem run_program (w:World):(program).run P w=.ok P w:=rfl
theorem run_load {a:Addr} {y:Value} {w:World} (h:w.cell? a=some y):(load a).run P w=.ok y w:=by
 simp [load,Sem.run,h]
theorem run_loadCellsFrom {b o:Nat} {w:World}:∀(ys:List Value) (i:Nat) (acc:Array Value),(∀(j:Nat) y,ys[j]?=some y→w.cell? ⟨b,o+(i+j),none⟩=some y)→
  (loadCellsFrom ⟨b,o,none⟩ i ys.length acc).run P w=.ok (acc++ys.toArray) w:=by
 intro ys
 induction ys with
 |nil=>intro i acc h;simp [loadCellsFrom,run_pure]
 |cons y ys ih=>
  intro i acc h
  simp only [cj,loadCellsFrom]
  rw [bt (run_load (y:=y) (by rw [add_plain];simpa using h 0 y (by simp)))]
  rw [ih (i+1) (acc.push y) (fun j z hz=>by
   have:=h (j+1) z (by simpa using hz)
   rw [show i+1+j=i+(j+1) by omega];exact this)]
  simp
theorem run_loadCells {b o n:Nat} {w:World} (ys:List Value) (hn:ys.length=n) (h:∀(j:Nat) y,ys[j]?=some y→w.cell? ⟨b,o+j,none⟩=some y) :
  (loadCells ⟨b,o,none⟩ n).run P w=.ok ys.toArray w:=by
 subst hn
 unfold loadCells
 rw [run_loadCellsFrom ys 0 #[] (fun j y hy=>by simpa using h j y hy)]
 simp
structure wU (w w':World) (B:Nat) (o:Obj):Prop where
 os:w'.os=w.os
 tape:w'.tape=w.tape
 output:w'.output=w.output
 size:w'.heap.size=w.heap.size
 other:∀ b,b≠B→w'.heap[b]?=w.heap[b]?
 at_:w'.heap[B]?=some o
theorem Dp:∀(c:List Value) (o:Nat) (xs:List Value),(splice c o xs).length=c.length
 |[],0,[]=>rfl
 |[],0,_::_=>rfl
 |[],_+1,_=>rfl
 |_::_,0,[]=>rfl
 |_::c,0,_::xs=>by simp [splice,Dp c 0 xs]
 |_::c,k+1,xs=>by simp [splice,Dp c k xs]
theorem Hf:∀(c:List Value) (o:Nat) (xs:List Value),o+xs.length≤c.length→∀ j:Nat,(splice c o xs)[j]?=if o≤j∧j<o+xs.length then xs[j-o]? else c[j]?
 |[],o,xs,h,j=>by
  have:o=0∧xs=[]:=by
   cases xs with
   |nil=>simp at h;exact ⟨by omega,rfl⟩
   |cons a b=>simp at h
  obtain ⟨rfl,rfl⟩:=this
  simp [splice]
 |y::c,0,[],_,j=>by simp [splice]
 |y::c,0,x::xs,h,j=>by
  simp only [splice]
  cases j with
  |zero=>simp
  |succ j=>
   simp only [List.getElem?_cons_succ]
   rw [Hf c 0 xs (by simpa using h) j]
   simp
 |y::c,k+1,xs,h,j=>by
  simp only [splice]
  cases j with
  |zero=>simp
  |succ j=>
   simp only [List.getElem?_cons_succ]
   rw [Hf c k xs (by simp at h;omega) j]
   by_cases hc:k≤j∧j<k+xs.length
   ·rw [if_pos hc,if_pos D]
    rw [show j+1-(k+1)=j-k by omega]
   ·rw [if_neg hc,if_neg D]
theorem run_store {w:World} {B o:Nat} {d4:Array Value} {e:TypeId} {lo hi:Nat} {v:Value} (hb:w.heap[B]?=some (.cells d4 e (lo,hi))) (ho:o<d4.size)
  (hf:¬ (lo≤o∧o<hi)) (hv:one v=true):∃ w',(store ⟨B,o,none⟩ v).run P w=.ok () w'∧wU w w' B (.cells (d4.set o v ho) e (lo,hi)):=by
 have hc:w.cell? ⟨B,o,none⟩=some d4[o]:=by simp [World.cell?,hb,ho]
 have hfz:w.frozen? ⟨B,o,none⟩=false:=by
  simp only [World.frozen?,hb]
  simp only [Bool.and_eq_false_iff,decide_eq_false_iff_not]
  omega
 refine ⟨w.setCell ⟨B,o,none⟩ v,?_,?_⟩
 ·unfold store
  cases v <;> first
   |(cases hv;done)
   |(simp only [Sem.run];rw [hc];simp [hfz])
 ·refine ⟨rfl,rfl,rfl,by simp [World.setCell],fun b hb'=>?_,?_⟩
  ·simp only [World.setCell,Array.getElem?_modify];rw [if_neg (fun e=>hb' e.symm)]
  ·simp only [World.setCell,Array.getElem?_modify,if_true]
   rw [hb]
   simp [Array.setIfInBounds,ho]
theorem wU.trans {a b c:World} {B:Nat} {x y:Obj} (h:wU a b B x) (k:wU b c B y):wU a c B y:=
 ⟨k.os.trans h.os,k.tape.trans h.tape,k.output.trans h.output,k.size.trans h.size,fun i hi=>(k.other i hi).trans (h.other i hi),k.at_⟩
theorem SK {B o:Nat} {e:TypeId} {lo hi:Nat}:∀(vs:List Value) (i:Nat) (w:World) (d4:Array Value),w.heap[B]?=some (.cells d4 e (lo,hi))→o+i+vs.length≤d4.size→
  (∀ j,o+i≤j→j<o+i+vs.length→¬ (lo≤j∧j<hi))→(∀ v∈vs,one v=true)→
  ∃ w' vl,(storeCells ⟨B,o,none⟩ vs i).run P w=.ok () w'∧wU w w' B (.cells vl e (lo,hi))∧vl.size=d4.size∧
   ∀ j:Nat,vl[j]?=if o+i≤j∧j<o+i+vs.length then vs[j-(o+i)]? else d4[j]?:=by
 intro vs
 induction vs with
 |nil=>
  intro i w d4 hb _ _ _
  exact ⟨w,d4,by simp [storeCells,run_pure],⟨rfl,rfl,rfl,rfl,fun _ _=>rfl,hb⟩,rfl,fun j=>by rw [if_neg (by simp)]⟩
 |cons v vs ih=>
  intro i w d4 hb hn hf hv
  simp only [cj] at hn
  obtain ⟨w1,tW,tV⟩:=run_store (P:=P) (o:=o+i) (v:=v) hb D (hf _ D (by simp)) (hv v (by simp))
  obtain ⟨w2,VJ,xz,qH,tX,Px⟩:=ih (i+1) w1 (d4.set (o+i) v D) tV.at_ (by simp;omega) (fun j h1 h2=>hf j D (by simp;omega)) (fun x hx=>hv x (by simp [hx]))
  refine ⟨w2,VJ,?_,tV.trans qH,by simpa using tX,fun j=>?_⟩
  ·simp only [storeCells,add_plain]
   rw [bt tW];exact xz
  ·rw [Px j]
   by_cases h1:o+(i+1)≤j∧j<o+(i+1)+vs.length
   ·rw [if_pos h1,if_pos (by simp;omega)]
    rw [show j-(o+i)=(j-(o+(i+1)))+1 by omega]
    simp
   ·rw [if_neg h1]
    by_cases h2:j=o+i
    ·subst h2
     rw [if_pos (by simp)]
     simp
    ·rw [if_neg (by simp;omega)]
     rw [Array.getElem?_set_ne D D]
theorem x9 (e:TypeId) (cs:Array Value) (w:World):(newRow e cs).run P w=.ok ⟨w.heap.size,0,none⟩ { w with heap:=w.heap.push (.cells cs e (0,0)) }:=rfl
theorem SI (t:TypeId) (v:Value) (w:World):(newVar t v).run P w=.ok ⟨w.heap.size,0,none⟩ { w with heap:=w.heap.push (.cells v.cells t (0,0)) }:=rfl
theorem aeO {α:Type}:∀(s:Sem α) (a:α),e3 P s=some a→∀ w,s.run P w=.ok a w:=by
 intro s
 induction s with
 |pure x=>intro a h w;simp [e3] at h;subst h;rfl
 |program k ih=>intro a h w;exact ih P a h w
 |mark m k ih=>intro a h w;exact ih a h w
 |load m x k ih=>intro a h;simp [e3] at h
 |store m x v k ih=>intro a h;simp [e3] at h
 |new o k ih=>intro a h;simp [e3] at h
 |shape r k ih=>intro a h;simp [e3] at h
 |freeze x n k ih=>intro a h;simp [e3] at h
 |frozen x k ih=>intro a h;simp [e3] at h
 |getObj r k ih=>intro a h;simp [e3] at h
 |setObj r o k ih=>intro a h;simp [e3] at h
 |choose q k ih=>intro a h;simp [e3] at h
 |sys c k ih=>intro a h;simp [e3] at h
 |halt h'=>intro a h;simp [e3] at h
end
section
variable {E:Env} {base:Nat} {φ:bA} {w:World} {H:U} {R:List Nat}
theorem V2 {b o:Nat} {x:Value} {l:Loc} (hp:Pre E base φ w H R) (hb:b∈R) (hl:φ b=some l) (h:cell H b o=some x):∃ y,w.cell? ⟨l.cD,l.off+o,none⟩=some y∧be φ x y:=by
 unfold cell at h
 split at h
 ·rename_i c e ro hg
  exact (hp.blocks b hb l _ hl hg).cell h
 ·cases h
theorem x8 {b o n:Nat} {xs:List Value} {l:Loc} (hp:Pre E base φ w H R) (hb:b∈R) (hl:φ b=some l) (h:row H b o n=some xs) :
  ∃ ys,xs.length=n∧eb φ xs ys∧∀(j:Nat) y,ys[j]?=some y→w.cell? ⟨l.cD,l.off+o+j,none⟩=some y:=by
 unfold row at h
 split at h
 ·rename_i c e ro hg
  cases hn:Nat.ble (o+n) c.length with
  |false=>rw [hn] at h;cases h
  |true=>
   rw [hn] at h
   have hle:=Nat.le_of_ble_eq_true hn
   injection h with h
   subst h
   have hb':=hp.blocks b hb l _ hl hg
   have hlen:(List.take n (List.drop o c)).length=n:=by simp;omega
   have key:∀ j,∀ hj:j<n,∃ y,w.cell? ⟨l.cD,l.off+o+j,none⟩=some y∧be φ (c[o+j]'D) y:=fun j hj=>by
    obtain ⟨y,h1,h2⟩:=hb'.cell (j:=o+j) (x:=c[o+j]'D) (List.getElem?_eq_getElem D)
    exact ⟨y,by rw [← h1,Nat.add_assoc],h2⟩
   refine ⟨List.ofFn (n:=n) fun j=>(key j.1 j.2).choose,hlen,⟨by simp [hlen],fun j x y hx hy=>?_⟩,fun j y hy=>?_⟩
   ·have hj:j<n:=by
     have:=(List.getElem?_eq_some_iff.1 hx).1
     omega
    rw [List.getElem?_ofFn] at hy
    simp only [hj,dite_true] at hy
    injection hy with hy
    subst hy
    rw [List.getElem?_take,if_pos hj,List.getElem?_drop,List.getElem?_eq_getElem D] at hx
    injection hx with hx
    subst hx
    exact (key j hj).choose_spec.2
   ·rw [List.getElem?_ofFn] at hy
    split at hy
    ·rename_i hj
     injection hy with hy
     subst hy
     exact (key j hj).choose_spec.1
    ·cases hy
 ·cases h
theorem SH (ok:E.eU) {t b o:Nat} {v:Value} {l:Loc} (hp:Pre E base φ w H R) (hb:b∈R) (hl:φ b=some l) (h:ay E t b o H=some v) :
  ∃ u,(loadVar t ⟨l.cD,l.off+o,none⟩).run E.P w=.ok u w∧be φ v u:=by
 unfold ay at h
 split at h
 ·rename_i Js
  split at h
  ·rename_i n hn
   split at h
   ·rename_i xs hx
    injection h with h
    subst h
    obtain ⟨ys,h1,h2,h3⟩:=x8 hp hb hl hx
    refine ⟨.agg ys.toArray,?_,.wW h2.toArray⟩
    unfold loadVar
    rw [bt (G0 ok Js w)]
    simp only [if_true]
    rw [bt (ql ok hn w),bt (run_loadCells ys (by rw [← h2.1,h1]) h3)]
    rfl
   ·cases h
  ·cases h
 ·rename_i Js
  obtain ⟨y,h1,h2⟩:=V2 hp hb hl h
  refine ⟨y,?_,h2⟩
  unfold loadVar
  rw [bt (G0 ok Js w)]
  simp only [Bool.false_eq_true,if_false]
  exact run_load h1
 ·cases h
end
def eQ (E:Env) (base:Nat) (φ:bA) (w:World) (H:U) (s:Sem Next) (v:Value) (H':U) (W:List Nat):Prop:=
 ∃ ut u w' aU,s.run E.P w=.ok ut w'∧(ut=.value u∨(ut=.skip∧u=undef))∧be aU v u∧eV E base φ w H H' W aU w'
def ol (E:Env) (φ:bA) (T:b5) (ρ:Operand→Value):Prop:=∀ x v,ev E T x=some v→be φ v (ρ x)
theorem xh {E:Env} {φ:bA} {T:b5} {ρ:Operand→Value} (h:ol E φ T ρ):∀{xs:List Operand} {vs:List Value},kP E T xs=some vs→eb φ vs (xs.map ρ)
 |[],vs,e=>by simp [kP] at e;subst e;exact .nil φ
 |x::xs,vs,e=>by
  simp only [kP] at e
  split at e
  ·rename_i v hv
   split at e
   ·rename_i ws hw
    injection e with e
    subst e
    exact .cons (h x v hv) (xh h hw)
   ·cases e
  ·cases e
theorem I9 {E:Env} {φ:bA} {T:b5} {ρ:Operand→Value} (h:ol E φ T ρ) {x:Option Operand} {v:Option Value} (e:lU E T x=some v) :
  (x=none∧v=none)∨∃ y u,x=some y∧v=some u∧be φ u (ρ y):=by
 unfold lU at e
 split at e
 ·injection e with e;exact .inl ⟨rfl,e.symm⟩
 ·rename_i y
  split at e
  ·rename_i u hu;injection e with e;exact .inr ⟨y,u,rfl,e.symm,h y u hu⟩
  ·cases e
section
variable {E:Env} {base:Nat} {φ:bA} {w:World} {H:U}
theorem eQ.of_run {s:Sem Value} {v u:Value} (h:be φ v u) (hr:s.run E.P w=.ok u w):eQ E base φ w H (do Pure.pure (.value (← s))) v H []:=
 ⟨_,u,w,φ,by rw [bt hr];rfl,.inl rfl,h,.same rfl rfl rfl rfl⟩
theorem eQ.value {s:Sem Value} {v u:Value} {w':World} {aU:bA} {H':U} {W:List Nat} (hr:s.run E.P w=.ok u w') (h:be aU v u) (ho:eV E base φ w H H' W aU w') :
  eQ E base φ w H (do Pure.pure (.value (← s))) v H' W:=
 ⟨_,u,w',aU,by rw [bt hr];rfl,.inl rfl,h,ho⟩
theorem eQ.unit {s:Sem Unit} {w':World} {aU:bA} {H':U} {W:List Nat} (hr:s.run E.P w=.ok () w') (ho:eV E base φ w H H' W aU w') :
  eQ E base φ w H (do s;Pure.pure .skip) cZ H' W:=
 ⟨_,undef,w',aU,by rw [bt hr];rfl,.inr ⟨rfl,rfl⟩,.tuple' ⟨rfl,fun i x y hx=>by simp at hx⟩,ho⟩
theorem eV.write {b o:Nat} {c:List Value} {e:TypeId} {l:Loc} {xs ys:List Value} {R:List Nat} (hp:Pre E base φ w H R) (wf:cz H) (hb:b∈R) (hl:φ b=some l) (hg:H.get b=some (.cells c e false))
  (hn:o+xs.length≤c.length) (hxy:eb φ xs ys) (hone:∀ v∈xs,one v=true) :
  ∃ w',(storeCells ⟨l.cD,l.off+o,none⟩ ys).run E.P w=.ok () w'∧eV E base φ w H (H.set b (.cells (splice c o xs) e false)) [b] φ w':=by
 obtain ⟨d4,lo,hi,h1,h2,h3,h4,h6,h7,Pq⟩:=hp.blocks b hb l _ hl hg
 have JN:∀ v∈ys,one v=true:=fun v hv=>by
  obtain ⟨i,hi',rfl⟩:=List.mem_iff_getElem.1 hv
  have hx:i<xs.length:=hxy.1▸hi'
  rw [(hxy.2 i _ _ (List.getElem?_eq_getElem hx) (List.getElem?_eq_getElem hi')).Rv]
  exact hone _ (List.getElem_mem ..)
 have hlen:=hxy.1
 obtain ⟨w',vl,hr,hput,hs,JF⟩:=SK (P:=E.P) (o:=l.off+o) ys 0 w d4 h1 D (fun j h8 h9=>h7 j D D) JN
 refine ⟨w',hr,eV.put b l _ (wf.lt hg) (by rw [hg];rfl) hl hput.other hput.size hput.os hput.tape hput.output ⟨vl,lo,hi,hput.at_,by omega,by rw [Dp];exact h3,fun j x hx=>?_,h6,h7,fun ht=>⟨(Pq ht).1,by rw [Dp,hs];exact (Pq ht).2⟩⟩⟩
 rw [Hf c o xs hn j] at hx
 rw [JF]
 by_cases hc:o≤j∧j<o+xs.length
 ·rw [if_pos hc] at hx
  obtain ⟨y,hy,hv⟩:=hxy.get hx
  exact ⟨y,by rw [if_pos D,← hy];congr 1;omega,hv⟩
 ·rw [if_neg hc] at hx
  obtain ⟨y,hy,hv⟩:=h4 j x hx
  exact ⟨y,by rw [if_neg D];exact hy,hv⟩
theorem vd {xs:List Value} (h:xs.all one=true):∀ v∈xs,one v=true:=fun v hv=>by
 rw [List.all_eq_true] at h;exact h v hv
theorem eV.FN {w':World} {cs ds:List Value} {e:TypeId} (hbase:base≤w.heap.size) (hfree:φ H.n=none) (h:eb φ cs ds)
  (hb:w'.heap=w.heap.push (.cells ds.toArray e (0,0))) (ho:w'.os=w.os) (ht:w'.tape=w.tape) (hp:w'.output=w.output) :
  eV E base φ w H (H.new (.cells cs e false)) [] (fun i=>if i=H.n then some ⟨w.heap.size,0,cs.length⟩ else φ i) w':=
 eV.row cs.length cs ds.toArray e 0 0 hfree hbase hb ho ht hp (by simp [h.1]) (Nat.le_refl _)
  (fun j x hx=>by obtain ⟨y,hy,hv⟩:=h.get hx;exact ⟨y,by simpa using hy,hv⟩) (fun j _=>by omega) (fun _=>by simp [h.1])
theorem aek (hfree:φ H.n=none) (l:Loc):∀ i m,φ i=some m→(fun i=>if i=H.n then some l else φ i:bA) i=some m:=fun i m h=>by
 show (if i=H.n then _ else _)=_
 rw [if_neg (fun e=>by rw [e,hfree] at h;cases h)];exact h
theorem zy {z:Value} (h:ground z=true):jm φ z.cells z.cells:=(be.rR (φ:=φ) h).cells
theorem aga (P:Program) (k:IntKind) (n:Int) (w:World):(asIntOf (.int k n)).run P w=.ok (k,n) w:=rfl
theorem wy {P:Program} {v u:Value} {y n:Nat} {code:BoundsCode} (hv:be φ v u) (h:qp v y=some n):(Instr.sliceBound u y code).run P w=.ok n w∧n≤y:=by
 unfold qp at h
 split at h
 ·rename_i k i
  cases hv
  cases hb:(decide (0≤i)&&decide (i≤(y:Int))) with
  |false=>rw [hb] at h;cases h
  |true=>
   rw [hb] at h
   injection h with h
   subst h
   simp at hb
   refine ⟨?_,by omega⟩
   unfold Instr.sliceBound
   rw [bt (aga P _ i w)]
   simp only
   rw [if_pos ⟨hb.1,hb.2⟩];rfl
 ·cases h
end
section
variable {E:Env} {base:Nat} {φ:bA} {w:World} {H:U}
theorem be.wt {b o:Nat} {u:Value} (h:be φ (.pointer (some ⟨b,o,none⟩)) u):∃ l,φ b=some l∧u=.pointer (some ⟨l.cD,l.off+o,none⟩):=by
 cases h with |ptr _ _ l hl=>exact ⟨l,hl,rfl⟩
theorem VA {c k:Nat} (h:ko c=.known k):c=2*k+1:=by
 unfold ko at h
 by_cases hc:c%2=1
 ·rw [l7 hc] at h;simp at h;omega
 ·rw [iz hc] at h;simp at h
theorem VB {c s:Nat} (h:ko c=.uH s):c=2*s:=by
 unfold ko at h
 by_cases hc:c%2=1
 ·rw [l7 hc] at h;simp at h
 ·rw [iz hc] at h;simp at h;omega
theorem be.wB {b o n c:Nat} {u:Value} (h:be φ (.slice (some ⟨b,o,none⟩) n c) u) :
  ∃ l c',φ b=some l∧n≤c'∧u=.slice (some ⟨l.cD,l.off+o,none⟩) n c'∧(c=2*c'+1∨∃ s,c=2*s∧o+c'*s≤l.mJ):=by
 cases h with
 |oa _ _ _ c l hl hn=>exact ⟨l,c,hl,hn,rfl,.inl rfl⟩
 |pO _ _ _ c s l hl hn hc=>exact ⟨l,c,hl,hn,rfl,.inr ⟨s,rfl,hc⟩⟩
theorem be.Do {b o n c k:Nat} {u:Value} (hc:ko c=.known k) (h:be φ (.slice (some ⟨b,o,none⟩) n c) u):∃ l,φ b=some l∧n≤k∧u=.slice (some ⟨l.cD,l.off+o,none⟩) n k:=by
 obtain ⟨l,c',h1,h2,h3,h4⟩:=h.wB
 have:=VA hc
 have:c'=k:=by rcases h4 with h4 |⟨s,h4,_⟩ <;> omega
 subst this
 exact ⟨l,h1,h2,h3⟩
theorem be.Mp {b o n c s:Nat} {u:Value} (hc:ko c=.uH s) (h:be φ (.slice (some ⟨b,o,none⟩) n c) u):∃ l c',φ b=some l∧n≤c'∧o+c'*s≤l.mJ∧u=.slice (some ⟨l.cD,l.off+o,none⟩) n c':=by
 obtain ⟨l,c',h1,h2,h3,h4⟩:=h.wB
 have:=VB hc
 rcases h4 with h4 |⟨s',h4,h5⟩
 ·omega
 ·have:s'=s:=by omega
  subst this
  exact ⟨l,c',h1,h2,h5,h3⟩
def sg (φ:bA) (x y:Option Value):Prop:=(x=none∧y=none)∨∃ v u,x=some v∧y=some u∧be φ v u
theorem Ja {T:b5} {ρ:Operand→Value} (h:ol E φ T ρ) {x:Option Operand} {v:Option Value} (e:lU E T x=some v):sg φ v (x.map ρ):=by
 rcases I9 h e with ⟨rfl,rfl⟩ |⟨y,u,rfl,rfl,hv⟩
 ·exact .inl ⟨rfl,rfl⟩
 ·exact .inr ⟨u,ρ y,rfl,rfl,hv⟩
theorem TS {v:Value} {y y' n:Nat} (h:qp v y=some n) (hy:y≤y'):qp v y'=some n:=by
 unfold qp at h ⊢
 split at h
 ·rename_i k i
  cases Jx:(decide (0≤i)&&decide (i≤(y:Int))) with
  |false=>rw [Jx] at h;cases h
  |true=>
   rw [Jx] at h
   simp at Jx
   have:(decide (0≤i)&&decide (i≤(y':Int)))=true:=by simp;omega
   simp only [this];exact h
 ·cases h
theorem Vf {P:Program} {rA:Bool} {len cap cap' m h l:Nat} {lo hi mx lo' hi' vU:Option Value} (hlo:sg φ lo lo') (hhi:sg φ hi hi') (tS:sg φ mx vU) (hcap:cap≤cap')
  (h0:¬ (mx.isSome=true∧hi=none)) (hlen:len≤cap) (hm:ju mx cap cap=some m) (hh:ju hi m len=some h) (hl:ju lo h 0=some l) :
  (Instr.sliceBounds rA len cap' lo' hi' vU).run P w=.ok (l,h,if mx.isSome then m else cap') w∧l≤h∧(mx.isSome=true∨hi.isSome=true→h≤m)∧(mx=none→hi=none→h=len)∧m≤cap:=by
 rcases tS with ⟨rfl,rfl⟩ |⟨v,u,rfl,rfl,hv⟩
 ·simp only [ju] at hm
  injection hm with hm
  subst hm
  rcases hhi with ⟨rfl,rfl⟩ |⟨v2,u2,rfl,rfl,sL⟩
  ·simp only [ju] at hh
   injection hh with hh
   subst hh
   rcases hlo with ⟨rfl,rfl⟩ |⟨v3,u3,rfl,rfl,B1⟩
   ·simp only [ju] at hl
    injection hl with hl
    subst hl
    exact ⟨rfl,by omega,by simp,fun _ _=>rfl,by omega⟩
   ·simp only [ju] at hl
    have h3:=wy (P:=P) (code:=.sliceB) (w:=w) B1 hl
    exact ⟨by simp [Instr.sliceBounds,h3.1],h3.2,by simp,fun _ _=>rfl,by omega⟩
  ·simp only [ju] at hh
   have h2:=wy (P:=P) (code:=if rA then BoundsCode.sliceAcap else .sliceAlen) (w:=w) sL (TS hh hcap)
   have vx:=wy (P:=P) (code:=.sliceB) (w:=w) sL hh
   rcases hlo with ⟨rfl,rfl⟩ |⟨v3,u3,rfl,rfl,B1⟩
   ·simp only [ju] at hl
    injection hl with hl
    subst hl
    exact ⟨by simp [Instr.sliceBounds,h2.1],by omega,fun _=>vx.2,by simp,by omega⟩
   ·simp only [ju] at hl
    have h3:=wy (P:=P) (code:=.sliceB) (w:=w) B1 hl
    exact ⟨by simp [Instr.sliceBounds,h2.1,h3.1],h3.2,fun _=>vx.2,by simp,by omega⟩
 ·simp only [ju] at hm
  have h1:=wy (P:=P) (code:=if rA then BoundsCode.slice3Acap else .slice3Alen) (w:=w) hv (TS hm hcap)
  have Pp:=wy (P:=P) (code:=.sliceB) (w:=w) hv hm
  rcases hhi with ⟨rfl,rfl⟩ |⟨v2,u2,rfl,rfl,sL⟩
  ·exact absurd ⟨rfl,rfl⟩ h0
  ·simp only [ju] at hh
   have h2:=wy (P:=P) (code:=.slice3B) (w:=w) sL hh
   rcases hlo with ⟨rfl,rfl⟩ |⟨v3,u3,rfl,rfl,B1⟩
   ·simp only [ju] at hl
    injection hl with hl
    subst hl
    exact ⟨by simp [Instr.sliceBounds,h1.1,h2.1],by omega,fun _=>h2.2,by simp,Pp.2⟩
   ·simp only [ju] at hl
    have h3:=wy (P:=P) (code:=.slice3C) (w:=w) B1 hl
    exact ⟨by simp [Instr.sliceBounds,h1.1,h2.1,h3.1],h3.2,fun _=>h2.2,by simp,Pp.2⟩
theorem Ej {P:Program} {rA:Bool} {len cap cap' m h l:Nat} {lo hi mx lo' hi' vU:Option Value} (hlo:sg φ lo lo') (hhi:sg φ hi hi') (tS:sg φ mx vU) (hcap:cap≤cap')
  (hlen:len≤cap) (hb:nR lo hi mx len cap=some (l,h,m)) :
  (Instr.sliceBounds rA len cap' lo' hi' vU).run P w=.ok (l,h,if mx.isSome then m else cap') w∧l≤h∧h≤m∧m≤cap∧(mx=none→m=cap):=by
 unfold nR at hb
 cases h0:(mx.isSome&&hi.isNone) with
 |true=>rw [h0] at hb;cases hb
 |false=>
  rw [h0] at hb
  simp only [cond_false] at hb
  split at hb
  ·rename_i m' hm
   split at hb
   ·rename_i h' hh
    split at hb
    ·rename_i l' hl
     simp only [bx,bG] at hb
     obtain ⟨rfl,rfl,rfl⟩:=hb
     have Jn:¬ (mx.isSome=true∧hi=none):=fun ⟨a,b⟩=>by subst b;simp [a] at h0
     have hk:=Vf (P:=P) (w:=w) (rA:=rA) hlo hhi tS hcap Jn hlen hm hh hl
     refine ⟨hk.1,hk.2.1,?_,hk.2.2.2.2,fun e=>by subst e;simpa [ju] using hm.symm⟩
     by_cases hc:mx.isSome=true∨hi.isSome=true
     ·exact hk.2.2.1 hc
     ·have e1:mx=none:=by cases mx <;> simp_all
      have e2:hi=none:=by cases hi <;> simp_all
      have:=hk.2.2.2.1 e1 e2
      subst e1
      simp [ju] at hm
      omega
    ·cases hb
   ·cases hb
  ·cases hb
theorem G2 (ok:E.eU) {t e sz:Nat} (ht:E.ul t=some (.slice e)) (hs:E.size e=some sz) {a:Option Addr} {n c l h m:Nat} {lo hi mx:Option Value}
  (hb:(Instr.sliceBounds true n c lo hi mx).run E.P w=.ok (l,h,m) w) :
  (Instr.sliceAt t (.slice a n c) lo hi mx).run E.P w=.ok (.slice (if m=l then a else a.map (·.add (l*sz))) (h-l) (m-l)) w:=by
 unfold Instr.sliceAt
 rw [bt (ig ok ht w)]
 simp only [Instr.slice]
 rw [bt (ig ok ht w)]
 simp only
 rw [bt hb]
 simp only
 rw [bt (ql ok hs w)]
 rfl
theorem Ir {a b:Nat} {α:Type} (x y:α):(bif Nat.beq a b then x else y)=if a=b then x else y:=by
 by_cases h:a=b
 ·rw [l7 h,if_pos h];rfl
 ·rw [iz h,if_neg h];rfl
theorem agT (ok:E.eU) {t:TypeId} {x x' v:Value} {lo hi mx lo' hi' vU:Option Value} (hx:be φ x x') (hlo:sg φ lo lo') (hhi:sg φ hi hi') (tS:sg φ mx vU)
  (h:ge E t x lo hi mx=some v):∃ u,(Instr.sliceAt t x' lo' hi' vU).run E.P w=.ok u w∧be φ v u:=by
 unfold ge at h
 split at h
 ·
  cases hx
  split at h
  ·rename_i e ht
   split at h
   ·rename_i n r hs hb
    injection h with h
    subst h
    obtain ⟨l,h',m⟩:=r
    have hk:=Ej (P:=E.P) (w:=w) (rA:=true) hlo hhi tS (Nat.le_refl 0) (Nat.le_refl 0) hb
    refine ⟨_,G2 ok ht hs hk.1,?_⟩
    have e1:l=0:=by omega
    have e2:h'=0:=by omega
    have aM:m=0:=by omega
    subst e1 e2 aM
    simp
    exact .uo
   ·cases h
  ·cases h
 ·rename_i b off n c
  split at h
  ·rename_i e ht
   split at h
   ·rename_i sz hs
    split at h
    ·rename_i k sI
     obtain ⟨l0,nX,hnk,rfl⟩:=hx.Do sI
     split at h
     ·rename_i l h' m hb
      injection h with h
      subst h
      have hk:=Ej (P:=E.P) (w:=w) (rA:=true) hlo hhi tS (Nat.le_refl k) hnk hb
      refine ⟨_,G2 ok ht hs hk.1,?_⟩
      have em:(if mx.isSome=true then m else k)=m:=by
       cases mx with
       |none=>simp;exact (hk.2.2.2.2 rfl).symm
       |some q=>rfl
      rw [em,Ir]
      by_cases hml:m=l
      ·rw [if_pos hml,if_pos hml];exact .oa _ _ _ _ _ nX D
      ·rw [if_neg hml,if_neg hml]
       simp only [Option.map_some,add_plain,Nat.add_assoc]
       exact .oa _ _ _ _ _ nX D
     ·cases h
    ·rename_i s sI
     obtain ⟨l0,k,nX,hnk,Ze,rfl⟩:=hx.Mp sI
     split at h
     ·rename_i l h' m hb
      have hk:=Ej (P:=E.P) (w:=w) (rA:=true) hlo hhi tS hnk (Nat.le_refl n) hb
      split at h
      ·rename_i q
       injection h with h
       subst h
       refine ⟨_,G2 ok ht hs hk.1,?_⟩
       simp only [Option.isSome_some,if_true]
       rw [Ir]
       by_cases hml:m=l
       ·rw [if_pos hml,if_pos hml];exact .oa _ _ _ _ _ nX D
       ·rw [if_neg hml,if_neg hml]
        simp only [Option.map_some,add_plain,Nat.add_assoc]
        exact .oa _ _ _ _ _ nX D
      ·cases hc:(Nat.beq s sz&&(Nat.beq l 0||Nat.blt l n)) with
       |false=>rw [hc] at h;cases h
       |true=>
        rw [hc] at h
        injection h with h
        subst h
        simp at hc
        obtain ⟨rfl,hc⟩:=hc
        have hm:=hk.2.2.2.2 rfl
        refine ⟨_,G2 ok ht hs hk.1,?_⟩
        simp only [Option.isSome_none,Bool.false_eq_true,if_false]
        have hbound:off+l*s+(k-l)*s≤l0.mJ:=by
         have:l*s+(k-l)*s=k*s:=by rw [← Nat.add_mul];congr 1;omega
         omega
        by_cases hml:k=l
        ·have:l=0:=by omega
         subst this
         subst hml
         simp
         have:=be.pO b off (h'-0) 0 s l0 nX D D
         simpa using this
        ·rw [if_neg hml]
         simp only [Option.map_some,add_plain,Nat.add_assoc]
         exact .pO _ _ _ _ _ _ nX D hbound
     ·cases h
   ·cases h
  ·cases h
 ·rename_i b off
  obtain ⟨l0,nX,rfl⟩:=hx.wt
  split at h
  ·rename_i n e ht
   split at h
   ·rename_i sz l h' m hs hb
    injection h with h
    subst h
    have hk:=Ej (P:=E.P) (w:=w) (rA:=false) hlo hhi tS (Nat.le_refl n) (Nat.le_refl n) hb
    have hm:=hk.2.2.2.2 rfl
    subst hm
    have hr:=hk.1
    simp only [Option.isSome_none,Bool.false_eq_true,if_false] at hr
    rcases tS with ⟨_,rfl⟩ |⟨_,_,BI,_⟩
    ·refine ⟨.slice (some (if m=l then ⟨l0.cD,l0.off+off,none⟩ else ⟨l0.cD,l0.off+(off+l*sz),none⟩)) (h'-l) (m-l),?_,?_⟩
     ·unfold Instr.sliceAt
      rw [bt (ig ok ht w)]
      simp only [Instr.sureAddr]
      rw [bt (run_pure _ w),bt hr]
      simp only
      rw [bt (ql ok hs w)]
      simp only [add_plain,Nat.add_assoc]
      rfl
     ·rw [Ir]
      by_cases hml:m=l
      ·rw [if_pos hml,if_pos hml];exact .oa _ _ _ _ _ nX D
      ·rw [if_neg hml,if_neg hml];exact .oa _ _ _ _ _ nX D
    ·cases BI
   ·cases h
  ·cases h
 ·cases h
end
section
variable {E:Env} {base:Nat} {φ:bA} {w:World} {H:U}
theorem X4 (ok:E.eU) {t f:Nat} {x x' v:Value} (hx:be φ x x') (h:Jc E t x f=some v):∃ u,(Instr.fieldAt t x' f).run E.P w=.ok u w∧be φ v u:=by
 unfold Jc at h
 split at h
 ·rename_i b off fs ht
  obtain ⟨l,hl,rfl⟩:=hx.wt
  split at h
  ·rename_i fd hf
   split at h
   ·rename_i n hn
    injection h with h
    subst h
    refine ⟨.pointer (some ⟨l.cD,l.off+(off+fd.offset),none⟩),?_,.ptr _ _ _ hl⟩
    unfold Instr.fieldAt
    rw [bt (ig ok ht w)]
    simp only [hf,Instr.sureAddr]
    rw [bt (run_pure _ w)]
    unfold fieldPlace
    have:(do let __do_lift ← sizeOf fd.type;if __do_lift=0 then partAt ⟨l.cD,l.off+off,none⟩ fd.offset fd.byteOffset else pure ((⟨l.cD,l.off+off,none⟩:Addr).add fd.offset):Sem Addr).run E.P w=.ok ⟨l.cD,l.off+(off+fd.offset),none⟩ w:=by
     rw [bt (ql ok hn w)]
     rw [if_neg D,add_plain,Nat.add_assoc];rfl
    rw [bt this];rfl
   ·cases h
  ·cases h
 ·cases h
theorem aae (ok:E.eU) {t:Nat} {x x' i i' v:Value} (hx:be φ x x') (hi:be φ i i') (h:fE E t x i=some v):∃ u,(Instr.indexAt t x' i').run E.P w=.ok u w∧be φ v u:=by
 unfold fE at h
 split at h
 ·rename_i n e k i ht
  cases hi
  split at h
  ·rename_i b off sz hs
   obtain ⟨l,hl,rfl⟩:=hx.wt
   cases hb:(decide (0≤i)&&decide (i<(n:Int))) with
   |false=>rw [hb] at h;cases h
   |true=>
    rw [hb] at h
    injection h with h
    subst h
    simp at hb
    refine ⟨.pointer (some ⟨l.cD,l.off+(off+i.toNat*sz),none⟩),?_,.ptr _ _ _ hl⟩
    simp [Instr.indexAt,bt,asIntOf,run_underlying (ok.ul ht),Instr.sureAddr,hb.1,hb.2,ql ok hs,add_plain,Nat.add_assoc]
  ·cases h
 ·rename_i e k i ht
  cases hi
  split at h
  ·rename_i b off n c sz hs
   obtain ⟨l,c',hl,hn,rfl,_⟩:=hx.wB
   cases hb:(decide (0≤i)&&decide (i<(n:Int))) with
   |false=>rw [hb] at h;cases h
   |true=>
    rw [hb] at h
    injection h with h
    subst h
    simp at hb
    refine ⟨.pointer (some ⟨l.cD,l.off+(off+i.toNat*sz),none⟩),?_,.ptr _ _ _ hl⟩
    simp [Instr.indexAt,bt,asIntOf,run_underlying (ok.ul ht),hb.1,hb.2,ql ok hs,add_plain,Nat.add_assoc]
  ·cases h
 ·cases h
theorem RS (ok:E.eU) {t off:Nat} {cs cs':Array Value} {v:Value} (hc:jm φ cs cs') (h:Gz E t cs off=some v):∃ u,(part t cs' off).run E.P w=.ok u w∧be φ v u:=by
 unfold Gz at h
 split at h
 ·rename_i ha
  split at h
  ·rename_i n hn
   injection h with h
   subst h
   refine ⟨.agg (cs'.extract off (off+n)),?_,.wW ⟨by simp [hc.1],fun i x y hx hy=>?_⟩⟩
   ·unfold part
    rw [bt (G0 ok ha w)]
    simp only [if_true]
    rw [bt (ql ok hn w)];rfl
   ·rw [Array.getElem?_extract] at hx hy
    split at hx
    ·rename_i h1
     rw [← hc.1,if_pos h1] at hy
     exact hc.2 _ x y hx hy
    ·cases hx
  ·cases h
 ·rename_i ha
  obtain ⟨u,hu,hv⟩:=hc.get h
  refine ⟨u,?_,hv⟩
  unfold part
  rw [bt (G0 ok ha w)]
  simp only [Bool.false_eq_true,if_false,hu];rfl
 ·cases h
theorem XV (ok:E.eU) (d:Nat) {t:Nat} {x x' y y':Value} {b:Bool} (hx:be φ x x') (hy:be φ y y') (h:sB E t x y=some b):(Op.equalIn (d+1) t x' y').run E.P w=.ok b w:=by
 unfold sB at h
 split at h
 case h_3=>
  rename_i e b o b' o' ht
  split at h
  ·rename_i n hn
   by_cases hb:b=b'
   ·rw [l7 hb] at h
    injection h with h
    subst h hb
    obtain ⟨l,hl,rfl⟩:=hx.wt
    obtain ⟨l',hl',rfl⟩:=hy.wt
    rw [hl] at hl'
    injection hl' with hl'
    subst hl'
    simp [Op.equalIn,run_underlying (ok.ul ht),ql ok hn,sameAddr]
    by_cases ho:o=o'
    ·subst ho;simp [Nat.beq_refl]
    ·rw [iz ho];simp [ho]
   ·rw [iz hb] at h;cases h
  ·cases h
 all_goals first
  |(cases h;done)
  |(rename_i ht
    injection h with h;subst h
    cases hx <;> cases hy <;> simp [Op.equalIn,run_underlying (ok.ul ht)])
theorem O6 (ok:E.eU) {t:Nat} {x x' y y':Value} {b:Bool} (hx:be φ x x') (hy:be φ y y') (h:sB E t x y=some b):(Op.equal t x' y').run E.P w=.ok b w:=
 XV ok 9999 hx hy h
end
theorem Pd (off:Nat):∀(vs:List Value) (k:Nat) (cells:Array Value),off+k+vs.length≤cells.size→
  ((vs.zipIdx k).foldl (fun cs (p:Value×Nat)=>cs.setIfInBounds (off+p.2) p.1) cells).size=cells.size∧
  ∀ j:Nat,((vs.zipIdx k).foldl (fun cs (p:Value×Nat)=>cs.setIfInBounds (off+p.2) p.1) cells)[j]?=if off+k≤j∧j<off+k+vs.length then vs[j-(off+k)]? else cells[j]?
 |[],k,cells,_=>by simp;intro j h1 h2;omega
 |v::vs,k,cells,h=>by
  simp only [cj] at h
  simp only [List.zipIdx_cons,List.foldl_cons]
  have ih:=Pd off vs (k+1) (cells.setIfInBounds (off+k) v) (by simp;omega)
  refine ⟨by rw [ih.1];simp,fun j=>?_⟩
  rw [ih.2 j]
  by_cases h1:off+(k+1)≤j∧j<off+(k+1)+vs.length
  ·rw [if_pos h1,if_pos (by simp;omega),show j-(off+k)=(j-(off+(k+1)))+1 by omega];simp
  ·rw [if_neg h1]
   by_cases h2:j=off+k
   ·subst h2
    rw [if_pos (by simp),Array.getElem?_setIfInBounds_self_of_lt D]
    simp
   ·rw [if_neg (by simp;omega),Array.getElem?_setIfInBounds_ne D]
section
variable {E:Env} {base:Nat} {φ:bA} {w:World} {H:U}
theorem ag0 {c xs:List Value} {d r:Array Value} {ys:Array Value} {o:Nat} (hc:eb φ c d.toList) (hx:jm φ xs.toArray ys) (hn:o+xs.length≤c.length)
  (hr:r.size=d.size) (hg:∀ j:Nat,r[j]?=if o≤j∧j<o+xs.length then ys[j-o]? else d[j]?):eb φ (splice c o xs) r.toList:=by
 have jM:=hc.1
 refine ⟨by rw [Dp];simpa [hr] using jM,fun j x y h1 h2=>?_⟩
 rw [Hf c o xs hn] at h1
 have vx:r[j]?=some y:=by simpa using h2
 rw [hg] at vx
 by_cases hj:o≤j∧j<o+xs.length
 ·rw [if_pos hj] at h1 vx
  exact hx.2 _ x y (by simpa using h1) vx
 ·rw [if_neg hj] at h1 vx
  exact hc.2 j x y h1 (by simpa using vx)
theorem EK {T:b5} {ρ:Operand→Value} (he:ol E φ T ρ) (place LA:Nat→Option (Nat×Nat)) (hp:∀ i p,place i=some p→LA i=some p) :
  ∀(ps:List (Nat×Operand)) (c c':List Value) (d:Array Value),eb φ c d.toList→xi E T place c ps=some c'→
   ∃ d',Instr.fill LA d (ps.map fun p=>(p.1,ρ p.2))=some d'∧eb φ c' d'.toList
 |[],c,c',d,hc,h=>by simp [xi] at h;subst h;exact ⟨d,rfl,hc⟩
 |(i,x)::ps,c,c',d,hc,h=>by
  simp only [xi] at h
  split at h
  ·rename_i off size ZE
   split at h
   ·rename_i v hv
    cases hb:(Nat.beq v.cells.size size&&Nat.ble (off+size) c.length) with
    |false=>rw [hb] at h;cases h
    |true=>
     rw [hb] at h
     simp at hb
     obtain ⟨cq,cJ⟩:=hb
     have lz:=(he x v hv).cells
     have jM:c.length=d.size:=by simpa using hc.1
     have E4:=Pd off (ρ x).cells.toList 0 d (by simp [← lz.1,cq];omega)
     have hkey:(ρ x).cells.zipIdx.foldl (fun cs (p:Value×Nat)=>cs.setIfInBounds (off+p.2) p.1) d=((ρ x).cells.toList.zipIdx 0).foldl (fun cs (p:Value×Nat)=>cs.setIfInBounds (off+p.2) p.1) d:=by
      rw [← Array.foldl_toList,Array.toList_zipIdx]
     have hlr:eb φ (splice c off v.cells.toList) (((ρ x).cells.toList.zipIdx 0).foldl (fun cs (p:Value×Nat)=>cs.setIfInBounds (off+p.2) p.1) d).toList:=by
      refine ag0 (ys:=(ρ x).cells) hc (by simpa using lz) (by simp [cq];omega) E4.1 (fun j=>?_)
      rw [E4.2 j]
      have e1:(ρ x).cells.toList.length=v.cells.toList.length:=by simp [lz.1]
      simp [e1]
     obtain ⟨d',h1,h2⟩:=EK he place LA hp ps _ c' _ hlr h
     refine ⟨d',?_,h2⟩
     simp only [List.map_cons,Instr.fill,hp i _ ZE]
     rw [if_neg (by simp [← lz.1,cq];omega)]
     rw [hkey]
     exact h1
   ·cases h
  ·cases h
theorem QI (ok:E.eU):∀(fs:List Field),fs.all (fun f=>(E.size f.type).isSome)=true→
  ∃ ps,fs.mapM (fun f=>(E.P.info? f.type).map fun i=>(f.offset,i.size))=some ps∧ps.length=fs.length∧∀(i:Nat) f n,fs[i]?=some f→E.size f.type=some n→ps[i]?=some (f.offset,n)
 |[],_=>⟨[],rfl,rfl,fun i f n h=>by simp at h⟩
 |f::fs,h=>by
  simp only [List.all_cons,dI] at h
  obtain ⟨ps,h1,h2,h3⟩:=QI ok fs h.2
  obtain ⟨n,hn⟩:=Option.isSome_iff_exists.1 h.1
  obtain ⟨i,hi,hin⟩:=ok.size hn
  refine ⟨(f.offset,n)::ps,by simp [List.mapM_cons,hi,h1,hin],by simp [h2],fun j g m hj hm=>?_⟩
  cases j with
  |zero=>
   simp at hj;subst hj
   rw [hn] at hm;injection hm with hm;subst hm;rfl
  |succ j=>simp at hj;simpa using h3 j g m hj hm
theorem Vm (ok:E.eU) {T:b5} {ρ:Operand→Value} (he:ol E φ T ρ) {t:TypeId} {ps:Array (Nat×Operand)} {v:Value} (h:It E T t ps=some v) :
  ∃ u,(Instr.build t (ps.map fun p=>(p.1,ρ p.2))).run E.P w=.ok u w∧be φ v u:=by
 unfold It at h
 split at h
 ·rename_i z fs hz ht
  obtain ⟨aat,tO,B7⟩:=ok.zero hz
  cases hb:(ground z&&fs.all fun f=>(E.size f.type).isSome) with
  |false=>rw [hb] at h;cases h
  |true=>
   rw [hb] at h
   simp only [cond_true] at h
   rw [dI] at hb
   split at h
   ·rename_i c hf
    injection h with h
    subst h
    obtain ⟨pl,h1,h2,h3⟩:=QI ok fs.toList (by rw [← hb.2];simp)
    obtain ⟨d',h4,h5⟩:=EK he (LB E fs) (pl.toArray[·]?) (fun i p hp=>by
     unfold LB at hp
     split at hp
     ·rename_i f hf'
      split at hp
      ·rename_i n hn
       injection hp with hp
       subst hp
       simpa using h3 i f n (by simpa using hf') hn
      ·cases hp
     ·cases hp) ps.toList _ c z.cells ((zy hb.1).toList) hf
    refine ⟨.agg d',run_build w t _ d' ?_,.wW (by simpa using h5.toArray)⟩
    unfold Program.built
    simp only [tO,ok.ul ht,B7,h1]
    simpa using h4
   ·cases h
 ·rename_i z n e hz ht
  obtain ⟨aat,tO,B7⟩:=ok.zero hz
  split at h
  ·rename_i m hm
   obtain ⟨ajT,Za,Zb⟩:=ok.size hm
   cases hb:ground z with
   |false=>rw [hb] at h;cases h
   |true=>
    rw [hb] at h
    simp only [cond_true] at h
    split at h
    ·rename_i c hf
     injection h with h
     subst h
     obtain ⟨d',h4,h5⟩:=EK he (fun i=>some (i*m,m)) (fun i=>some (i*m,m)) (fun i p hp=>hp) ps.toList _ c z.cells ((zy hb).toList) hf
     refine ⟨.agg d',run_build w t _ d' ?_,.wW (by simpa using h5.toArray)⟩
     unfold Program.built
     simp only [tO,ok.ul ht,B7,Za,Zb]
     simpa using h4
    ·cases h
  ·cases h
 ·cases h
theorem HV (z:List Value) (n:Nat):(hM z n).length=n*z.length:=by
 induction n with
 |zero=>simp [hM]
 |succ n ih=>simp [hM,ih,Nat.add_mul];omega
theorem Ul (z:List Value) (hz:0<z.length):∀(n j:Nat),j<n*z.length→(hM z n)[j]?=z[j%z.length]?
 |0,j,h=>by simp at h
 |n+1,j,h=>by
  rw [Nat.add_mul] at h
  simp only [hM]
  by_cases hj:j<z.length
  ·rw [List.getElem?_append_left hj,Nat.mod_eq_of_lt hj]
  ·rw [List.getElem?_append_right D,Ul z hz n _ D,← Nat.mod_eq_sub_mod D]
theorem Nm (z:List Value) (n:Nat):(hM z n).toArray=(Array.range (n*z.length)).map fun i=>z.toArray[i%z.length]!:=by
 apply Array.ext_getElem?
 intro j
 by_cases hj:j<n*z.length
 ·have hz:0<z.length:=by
   rcases Nat.eq_zero_or_pos z.length with h |h
   ·rw [h] at hj;simp at hj
   ·exact h
  simp only [List.getElem?_toArray,Ul z hz n j hj]
  have hm:j%z.length<z.length:=Nat.mod_lt _ hz
  simp [hj,List.getElem?_eq_getElem hm]
 ·rw [Array.getElem?_eq_none (by simp [HV];omega),Array.getElem?_eq_none (by simp;omega)]
theorem ai5 (z:List Value) (p:Value→Bool) (h:z.all p=true) (n:Nat):(hM z n).all p=true:=by
 induction n with
 |zero=>rfl
 |succ n ih=>simp only [hM,List.all_append,h,ih];rfl
theorem Nl {z:List Value} (h:eb φ z z) (n:Nat):eb φ (hM z n) (hM z n):=by
 induction n with
 |zero=>exact .nil φ
 |succ n ih=>exact h.append ih
end
section
variable {E:Env} {base:Nat} {φ:bA} {w:World} {H:U}
structure Src (P:Program) (w:World) (size:Nat) (x:Value) (m:Nat) (news:List Value):Prop where
 len:∀ w',(Builtin.lenOf x).run P w'=.ok m w'
 cells:∀ w',w'.heap=w.heap→(Builtin.firstCells size m x).run P w'=.ok news.toArray w'
 size:news.length=m*size
theorem Iz {w w':World} (h:w'.heap=w.heap) (a:Addr):w'.cell? a=w.cell? a:=by simp [World.cell?,h]
theorem AF {sz m:Nat} {x x':Value} {new:List Value} {R S:List Nat} (hx:be φ x x') (h:hG H sz x=some (m,new,R)) (hp:Pre E base φ w H S) (hS:∀ i,i∈R→i∈S) (hsz:∀ s,x=.string s→sz=1) :
  ∃ news,Src E.P w sz x' m news∧eb φ new news:=by
 unfold hG at h
 split at h
 ·rename_i s
  cases hx
  simp only [bx,bG] at h
  obtain ⟨rfl,rfl,rfl⟩:=h
  have h1:=hsz s rfl
  subst h1
  refine ⟨(s.data.map fun b=>Value.int .u8 b.toNat).toList,⟨fun w'=>rfl,fun w' _=>?_,by simp⟩,⟨rfl,fun i x y hx hy=>?_⟩⟩
  ·simp only [Builtin.firstCells]
   have:(s.extract 0 s.size)=s:=by
    apply ByteArray.ext;simp
   rw [this];rfl
  ·rw [hx] at hy;injection hy with hy;subst hy
   simp at hx
   obtain ⟨b,_,rfl⟩:=hx
   exact .int _ _
 ·cases hx
  simp only [bx,bG] at h
  obtain ⟨rfl,rfl,rfl⟩:=h
  exact ⟨[],⟨fun w'=>rfl,fun w' _=>rfl,by simp⟩,.nil φ⟩
 ·rename_i b off n c
  split at h
  ·rename_i xs hr
   simp only [bx,bG] at h
   obtain ⟨rfl,rfl,rfl⟩:=h
   obtain ⟨l,c',hl,hn,rfl,_⟩:=hx.wB
   obtain ⟨ys,h1,h2,h3⟩:=x8 hp (hS b (by simp)) hl hr
   refine ⟨ys,⟨fun w'=>rfl,fun w' hw'=>?_,by rw [← h2.1,h1]⟩,h2⟩
   simp only [Builtin.firstCells]
   exact run_loadCells ys (by rw [← h2.1,h1]) (fun j y hy=>by rw [Iz hw'];exact h3 j y hy)
  ·cases h
 ·cases h
theorem L8 {P:Program} {ts:Array TypeId} (hz:∀ u,ts[1]?=some u→∃ d,P.underlying u=some d∧∀ k,d≠.int k) (w:World) {α:Type} (K:Bool→Sem α) :
  (match ts[1]? with
  |some xType=>(do
   let d ← underlying xType
   let hM ← pure (match d with |.int k=>true |x=>false)
   K hM)
  |none=>(do
   let hM ← pure false
   K hM)).run P w=(K false).run P w:=by
 cases h:ts[1]? with
 |none=>rfl
 |some u=>
  obtain ⟨d,h1,h2⟩:=hz u h
  simp only
  rw [bt (run_underlying h1 w)]
  cases d <;> first |rfl |exact absurd rfl (h2 _)
theorem SD {P:Program} {ts:Array TypeId} {t ty e:TypeId} {i:TypeInfo} (h0:ts[0]?=some t) (ht:P.underlying t=some (.slice e)) (hi:P.info? e=some i)
  (hz:∀ u,ts[1]?=some u→∃ d,P.underlying u=some d∧∀ k,d≠.int k) {x:Value} {m:Nat} {news:List Value} (hs:Src P w i.size x m news)
  {B o n c:Nat} (hfit:n+m≤c) {w':World} (hw:(storeCells ⟨B,o+n*i.size,none⟩ news).run P w=.ok () w') :
  (Builtin.append_ ts ty #[.slice (some ⟨B,o,none⟩) n c,x]).run P w=.ok (.slice (some ⟨B,o,none⟩) (n+m) c) w':=by
 have hsz:(sizeOf e).run P w=.ok i.size w:=by simp [Go.sizeOf,typeInfo,hi]
 unfold Builtin.append_
 simp only [h0]
 have a0:(#[Value.slice (some ⟨B,o,none⟩) n c,x]:Array Value)[0]?=some (.slice (some ⟨B,o,none⟩) n c):=rfl
 have a1:(#[Value.slice (some ⟨B,o,none⟩) n c,x]:Array Value)[1]?=some x:=rfl
 simp only [a0,a1]
 rw [bt (run_underlying ht w)]
 simp only
 rw [bt hsz]
 refine (L8 hz w _).trans ?_
 simp only [Bool.false_eq_true,if_false,Bool.not_false,if_true]
 rw [bt (hs.len w)]
 rw [if_pos hfit]
 rw [bt (hs.cells w rfl)]
 simp only [add_plain]
 rw [bt (by simpa using hw)]
 rfl
theorem af9 {P:Program} {ts:Array TypeId} {t ty e:TypeId} {i:TypeInfo} (h0:ts[0]?=some t) (ht:P.underlying t=some (.slice e)) (hi:P.info? e=some i)
  (hz:∀ u,ts[1]?=some u→∃ d,P.underlying u=some d∧∀ k,d≠.int k) {x:Value} {news:List Value} (hs:Src P w i.size x 0 news) :
  (Builtin.append_ ts ty #[.slice none 0 0,x]).run P w=.ok (.slice none 0 0) w:=by
 have hsz:(sizeOf e).run P w=.ok i.size w:=by simp [Go.sizeOf,typeInfo,hi]
 unfold Builtin.append_
 simp only [h0]
 have a0:(#[Value.slice none 0 0,x]:Array Value)[0]?=some (.slice none 0 0):=rfl
 have a1:(#[Value.slice none 0 0,x]:Array Value)[1]?=some x:=rfl
 simp only [a0,a1]
 rw [bt (run_underlying ht w)]
 simp only
 rw [bt hsz]
 refine (L8 hz w _).trans ?_
 simp only [Bool.false_eq_true,if_false,Bool.not_false,if_true]
 rw [bt (hs.len w)]
 rw [if_pos D]
 rw [bt (hs.cells w rfl)]
 rfl
theorem IR (need old e t:Nat) (h:need<2 ^ 63):need≤(Question.appendCap need old e).cut t:=by simp only [Question.cut];omega
theorem Ip {P:Program} (b:Nat) (w:World):(askRoom b).run P w=.ok () w:=by unfold askRoom;split <;> rfl
theorem L7 {P:Program} {ts:Array TypeId} {t ty e:TypeId} {i:TypeInfo} {z:Value} (h0:ts[0]?=some t) (ht:P.underlying t=some (.slice e)) (hi:P.info? e=some i) (tO:i.zero=some z)
  (hz:∀ u,ts[1]?=some u→∃ d,P.underlying u=some d∧∀ k,d≠.int k) {x:Value} {m:Nat} {news:List Value} (hs:Src P w i.size x m news)
  {a:Option Addr} {n c:Nat} {olds:List Value} (ho:∀ w',w'.heap=w.heap→(Builtin.firstCells i.size n (.slice a n c)).run P w'=.ok olds.toArray w')
  (hfit:¬ n+m≤c) (hb:0<i.bytes) (PB:(n+m)*i.bytes≤most) :
  ∃ cap,n+m≤cap∧∃ w',w'.heap=w.heap.push (.cells (olds.toArray++news.toArray++Builtin.zeroCells z.cells (cap-(n+m))) e (0,0))∧w'.os=w.os∧w'.tape=w.tape∧w'.output=w.output∧
   (Builtin.append_ ts ty #[.slice a n c,x]).run P w=.ok (.slice (some ⟨w.heap.size,0,none⟩) (n+m) cap) w':=by
 have hsz:(sizeOf e).run P w=.ok i.size w:=by simp [Go.sizeOf,typeInfo,hi]
 have qI:∀ w',(typeInfo e).run P w'=.ok i w':=fun w'=>by simp [typeInfo,hi]
 have Z3:∀ w',(zeroValue e).run P w'=.ok z w':=fun w'=>by simp [zeroValue,typeInfo,hi,tO]
 have hlt:n+m<2 ^ 63:=by
  have:n+m≤(n+m)*i.bytes:=Nat.le_mul_of_pos_right _ hb
  unfold most at PB
  omega
 let w1:World:={ w with drawn:=w.drawn+1 }
 refine ⟨(Question.appendCap (n+m) c e).cut (w.tape w.drawn (.appendCap (n+m) c e)),IR _ _ _ _ hlt,{ w1 with heap:=w1.heap.push _ },rfl,rfl,rfl,rfl,?_⟩
 unfold Builtin.append_
 simp only [h0]
 have a0:(#[Value.slice a n c,x]:Array Value)[0]?=some (.slice a n c):=rfl
 have a1:(#[Value.slice a n c,x]:Array Value)[1]?=some x:=rfl
 simp only [a0,a1]
 rw [bt (run_underlying ht w)]
 simp only
 rw [bt hsz]
 refine (L8 hz w _).trans ?_
 simp only [Bool.false_eq_true,if_false,Bool.not_false,if_true,false_or]
 rw [bt (hs.len w)]
 rw [if_neg hfit]
 rw [bt (qI w)]
 have hne:¬ (((n+m:Nat):Int)>IntKind.i64.max∧i.bytes=0):=by omega
 rw [if_neg hne]
 rw [bt (qI w)]
 have Zq:¬ (Builtin.nextslicecap (n+m) c*i.bytes>2 ^ 48):=by
  have:=growslice_fits (need:=n+m) (old:=c) (bytes:=i.bytes) D (by unfold most at PB;omega)
  omega
 rw [if_neg Zq]
 have BG:(choose (.appendCap (n+m) c e)).run P w=.ok ((Question.appendCap (n+m) c e).cut (w.tape w.drawn (.appendCap (n+m) c e))) w1:=rfl
 rw [bt BG,bt (qI w1),bt (Ip _ w1),bt (ho w1 rfl),bt (hs.cells w1 rfl),bt (Z3 w1),bt (x9 _ _ w1)]
 rfl
end
structure dN (H H':U) (W R:List Nat):Prop where
 ext:cX W H H'
 wf:cz H'
 sub:∀ i,i∈W→i∈R
section
variable {E:Env} {base:Nat} {φ:bA} {w:World} {H:U}
theorem dN.same (wf:cz H) (R:List Nat):dN H H [] R:=⟨cX.refl ..,wf,by simp⟩
theorem dN.new (wf:cz H) (o:df) (R:List Nat):dN H (H.new o) [] R:=⟨cX.new H wf o,wf.new o,by simp⟩
theorem dN.set (wf:cz H) {b:Nat} (o:df) (hw:fG (H.get b)=true) {R:List Nat} (hb:b∈R):dN H (H.set b o) [b] R:=
 ⟨cX.set H b o hw,wf.set (by
  cases hg:H.get b with
  |none=>rw [hg] at hw;simp [fG] at hw
  |some o=>exact wf.lt hg) o,fun i hi=>by simp at hi;subst hi;exact hb⟩
theorem aiQ (ok:E.eU) {ts:Array TypeId} (h:AP E ts=false):∀ u,ts[1]?=some u→∃ d,E.P.underlying u=some d∧∀ k,d≠.int k:=by
 intro u hu
 unfold AP at h
 rw [hu] at h
 simp only at h
 split at h
 ·cases h
 ·rename_i d hn hd;exact ⟨d,ok.ul hd,fun k e=>hn k e⟩
 ·cases h
theorem NN (ok:E.eU) (wf:cz H) {ts:Array TypeId} {ty:TypeId} {s s' x x' v:Value} {H':U} {W R:List Nat} (h:eW E ts s x H=some (v,H',W,R)) :
  dN H H' W R∧∀(base:Nat) (φ:bA) (w:World),Pre E base φ w H R→fW φ H.n H'.n→be φ s s'→be φ x x'→
   eQ E base φ w H (do Pure.pure (.value (← Builtin.append_ ts ty #[s',x']))) v H' W:=by
 unfold eW at h
 split at h
 rotate_left
 ·cases h
 rename_i t h0
 split at h
 rotate_left
 ·cases h
 rename_i e ht
 split at h
 rotate_left
 ·cases h
 rename_i i hi
 split at h
 rotate_left
 ·cases h
 rename_i z tO
 cases hc:(!E.tight e&&!AP E ts&&Nat.beq z.cells.size i.size&&Nat.blt 0 i.size&&Nat.blt 0 i.bytes&&pP x i.size) with
 |false=>rw [hc] at h;cases h
 |true=>
  rw [hc] at h
  simp only [cond_true] at h
  simp only [dI,Bool.not_eq_true'] at hc
  obtain ⟨⟨⟨⟨⟨sK,hx0⟩,hzs⟩,PE⟩,BE⟩,ZI⟩:=hc
  have sK:∀{p:Prop},E.tight e=true→p:=fun h=>by rw [sK] at h;cases h
  have hzs:=Nat.eq_of_beq_eq_true hzs
  have PE:0<i.size:=by simpa [Nat.blt_eq] using PE
  have BE:0<i.bytes:=by simpa [Nat.blt_eq] using BE
  split at h
  rotate_left
  ·cases h
  rename_i m new R' hsrc
  have hz:=aiQ ok hx0
  have sE:=ok.info _ _ hi
  have zA:=ok.ul ht
  have BY:∀ q,x=.string q→i.size=1:=fun q e=>by subst e;simpa [pP] using ZI
  cases hone:new.all one with
  |false=>rw [hone] at h;cases h
  |true=>
   rw [hone] at h
   simp only [cond_true] at h
   unfold wY at h
   split at h
   ·
    by_cases hm:m=0
    ·rw [l7 hm] at h
     simp only [cond_true,bx,bG] at h
     obtain ⟨rfl,rfl,rfl,rfl⟩:=h
     refine ⟨dN.same wf _,fun base φ w hp hf hs hx=>?_⟩
     cases hs
     obtain ⟨news,du,_⟩:=AF hx hsrc hp (fun i hi=>hi) BY
     subst hm
     exact eQ.of_run .uo (af9 h0 zA sE hz du)
    ·rw [iz hm] at h
     simp only [cond_false] at h
     cases hmo:Nat.ble (m*i.bytes) most with
     |false=>rw [hmo] at h;cases h
     |true=>
      rw [hmo] at h
      simp only [cond_true,bx,bG] at h
      obtain ⟨rfl,rfl,rfl,rfl⟩:=h
      refine ⟨dN.new wf _ _,fun base φ w hp hf hs hx=>?_⟩
      cases hs
      obtain ⟨news,du,hlr⟩:=AF hx hsrc hp (fun i hi=>hi) BY
      obtain ⟨cap,hcap,w',hb,ho,BZ,lW,hr⟩:=L7 (ty:=ty) (n:=0) (c:=0) (a:=none) (olds:=[]) h0 zA sE tO hz du (fun w' _=>rfl) D BE (by rw [Nat.zero_add];exact Nat.le_of_ble_eq_true hmo)
      have hfree:φ H.n=none:=hf _ (Nat.le_refl _) (by simp)
      rw [Nat.zero_add] at hcap hb hr
      refine eQ.value (aU:=fun j=>if j=H.n then some ⟨w.heap.size,0,cap*i.size⟩ else φ j) hr ?_ ?_
      ·have:=be.pO (φ:=fun j=>if j=H.n then some ⟨w.heap.size,0,cap*i.size⟩ else φ j) H.n 0 m cap i.size ⟨w.heap.size,0,cap*i.size⟩ (by simp) hcap (by simp)
       simpa using this
      ·have hlen:=hlr.1
       have rt:=du.size
       refine eV.row (cap*i.size) new _ e 0 0 hfree hp.bs hb ho BZ lW ?_ ?_ (fun j y hy=>?_) (fun j _=>by omega) sK
       ·have:(m+(cap-m))*i.size=cap*i.size:=by congr 1;omega
        simp [rt,Builtin.zeroCells,hzs,← Nat.add_mul];omega
       ·have:m*i.size≤cap*i.size:=Nat.mul_le_mul_right _ hcap
        omega
       ·obtain ⟨u,hu,hv⟩:=hlr.get hy
        exact ⟨u,by
         have:j<news.length:=(List.getElem?_eq_some_iff.1 hu).1
         rw [Array.getElem?_append_left (by simpa using this)]
         simpa using hu,hv⟩
   ·rename_i b off n c
    split at h
    ·rename_i k sI
     cases hfit:Nat.ble (n+m) k with
     |true=>
      rw [hfit] at h
      simp only [cond_true] at h
      split at h
      rotate_left
      ·cases h
      rename_i cs e' hg
      cases hle:Nat.ble (off+(n+m)*i.size) cs.length with
      |false=>rw [hle] at h;cases h
      |true=>
       rw [hle] at h
       simp only [cond_true,bx,bG] at h
       obtain ⟨rfl,rfl,rfl,rfl⟩:=h
       have hle:=Nat.le_of_ble_eq_true hle
       have hfit:=Nat.le_of_ble_eq_true hfit
       refine ⟨dN.set wf _ (by rw [hg];rfl) (by simp),fun base φ w hp hf hs hx=>?_⟩
       obtain ⟨l,hl,hnk,rfl⟩:=hs.Do sI
       obtain ⟨news,du,hlr⟩:=AF hx hsrc (hp.sub (S:=R') (fun i hi=>by simp [hi])) (fun i hi=>hi) BY
       have rt:=du.size
       have hmul:(n+m)*i.size=n*i.size+m*i.size:=Nat.add_mul ..
       obtain ⟨w',hw,hout⟩:=eV.write (o:=off+n*i.size) hp wf (by simp) hl hg (by rw [hlr.1,rt];omega) hlr (vd hone)
       refine eQ.value (SD h0 zA sE hz du hfit (by rw [Nat.add_assoc];exact hw)) ?_ hout
       exact .oa _ _ _ _ _ hl hfit
     |false=>
      rw [hfit] at h
      simp only [cond_false] at h
      split at h
      rotate_left
      ·cases h
      rename_i old hrow
      cases hmo:Nat.ble ((n+m)*i.bytes) most with
      |false=>rw [hmo] at h;cases h
      |true=>
       rw [hmo] at h
       simp only [cond_true,bx,bG] at h
       obtain ⟨rfl,rfl,rfl,rfl⟩:=h
       have Zr:¬ n+m≤k:=fun hh=>by rw [Nat.ble_eq_true_of_le hh] at hfit;cases hfit
       refine ⟨dN.new wf _ _,fun base φ w hp hf hs hx=>?_⟩
       obtain ⟨l,hl,hnk,rfl⟩:=hs.Do sI
       obtain ⟨news,du,hlr⟩:=AF hx hsrc (hp.sub (S:=R') (fun i hi=>by simp [hi])) (fun i hi=>hi) BY
       obtain ⟨olds,o1,o2,Gp⟩:=x8 hp (by simp) hl hrow
       obtain ⟨cap,hcap,w',hb,ho,BZ,lW,hr⟩:=L7 (ty:=ty) (n:=n) (c:=k) (a:=some ⟨l.cD,l.off+off,none⟩) (olds:=olds) h0 zA sE tO hz du
        (fun w' hw'=>by
         simp only [Builtin.firstCells]
         exact run_loadCells olds (by rw [← o2.1,o1]) (fun j y hy=>by rw [Iz hw'];exact Gp j y hy)) Zr BE (Nat.le_of_ble_eq_true hmo)
       have hfree:φ H.n=none:=hf _ (Nat.le_refl _) (by simp)
       have hall:=o2.append hlr
       refine eQ.value (aU:=fun j=>if j=H.n then some ⟨w.heap.size,0,cap*i.size⟩ else φ j) hr ?_ ?_
       ·have:=be.pO (φ:=fun j=>if j=H.n then some ⟨w.heap.size,0,cap*i.size⟩ else φ j) H.n 0 (n+m) cap i.size ⟨w.heap.size,0,cap*i.size⟩ (by simp) hcap (by simp)
        simpa using this
       ·have rt:=du.size
        have Fc:olds.length=n*i.size:=by rw [← o2.1,o1]
        have BR:new.length=m*i.size:=by rw [hlr.1,rt]
        refine eV.row (cap*i.size) (old++new) _ e 0 0 hfree hp.bs hb ho BZ lW ?_ ?_ (fun j y hy=>?_) (fun j _=>by omega) sK
        ·have:(n+m+(cap-(n+m)))*i.size=cap*i.size:=by congr 1;omega
         simp [rt,Fc,Builtin.zeroCells,hzs,← Nat.add_mul];omega
        ·have:(n+m)*i.size≤cap*i.size:=Nat.mul_le_mul_right _ hcap
         rw [Nat.add_mul] at this
         simp [o1,BR];omega
        ·obtain ⟨u,hu,hv⟩:=hall.get hy
         exact ⟨u,by
          have:j<(olds++news).length:=(List.getElem?_eq_some_iff.1 hu).1
          rw [Array.getElem?_append_left (by simpa using this)]
          simpa using hu,hv⟩
    ·rename_i sz sI
     split at h
     rotate_left
     ·cases h
     rename_i cs e' hg
     cases E2:(Nat.ble (off+n*i.size) cs.length&&Nat.beq sz i.size&&Nat.beq e e'&&Nat.ble ((n+m)*i.bytes) most) with
     |false=>rw [E2] at h;cases h
     |true=>
      rw [E2] at h
      simp only [cond_true,bx,bG] at h
      obtain ⟨rfl,rfl,rfl,rfl⟩:=h
      simp only [dI] at E2
      obtain ⟨⟨⟨hle,hsz⟩,hee⟩,hmo⟩:=E2
      have hle:=Nat.le_of_ble_eq_true hle
      have hsz:=Nat.eq_of_beq_eq_true hsz
      have hee:=Nat.eq_of_beq_eq_true hee
      have hmo:=Nat.le_of_ble_eq_true hmo
      subst hsz hee
      have tM:=wf.lt hg
      have qG:fG (H.get b)=true:=by rw [hg];rfl
      refine ⟨⟨by simpa using (cX.set H b .dead qG).trans (cX.new (H.set b .dead) (wf.set tM _) _),(wf.set tM _).new _,fun i hi=>by simp at hi;subst hi;simp⟩,fun base φ w hp hf hs hx=>?_⟩
      obtain ⟨l,c',hl,hnc,Ze,rfl⟩:=hs.Mp sI
      obtain ⟨news,du,hlr⟩:=AF hx hsrc (hp.sub (S:=R') (fun i hi=>by simp [hi])) (fun i hi=>hi) BY
      have hfree:φ H.n=none:=hf _ (Nat.le_refl _) (by simp)
      have hrow:row H b off (n*i.size)=some ((cs.drop off).take (n*i.size)):=by
       unfold row;rw [hg];simp only;rw [Nat.ble_eq_true_of_le hle];rfl
      obtain ⟨olds,o1,o2,Gp⟩:=x8 hp (by simp) hl hrow
      have rt:=du.size
      have Fc:olds.length=n*i.size:=by rw [← o2.1,o1]
      have BR:new.length=m*i.size:=by rw [hlr.1,rt]
      have hall:=o2.append hlr
      by_cases hfit:n+m≤c'
      ·
       obtain ⟨d4,lo,hi',q1,cw,dv,dT,ff,e7,_⟩:=hp.blocks b (by simp) l _ hl hg
       have hmul:(n+m)*i.size≤c'*i.size:=Nat.mul_le_mul_right _ hfit
       rw [Nat.add_mul] at hmul
       have JN:∀ v∈news,one v=true:=fun v hv=>by
        obtain ⟨j,hj,rfl⟩:=List.mem_iff_getElem.1 hv
        have hx:j<new.length:=hlr.1▸hj
        rw [(hlr.2 j _ _ (List.getElem?_eq_getElem hx) (List.getElem?_eq_getElem hj)).Rv]
        exact vd hone _ (List.getElem_mem ..)
       obtain ⟨w',vl,hr,hput,hs',JF⟩:=SK (P:=E.P) (o:=l.off+off+n*i.size) news 0 w d4 q1 D (fun j h8 h9=>e7 j D D) JN
       refine eQ.value (aU:=fun j=>if j=H.n then some ⟨l.cD,l.off+off,l.mJ-off⟩ else φ j) (SD h0 zA sE hz du hfit hr) ?_ ?_
       ·have:=be.pO (φ:=fun j=>if j=H.n then some ⟨l.cD,l.off+off,l.mJ-off⟩ else φ j) H.n 0 (n+m) c' i.size ⟨l.cD,l.off+off,l.mJ-off⟩ (by simp) hfit (by simp;omega)
        simpa using this
       ·refine eV.take b l ⟨l.cD,l.off+off,l.mJ-off⟩ _ e tM qG hl rfl hfree (hp.lt b (by simp) l hl (rN qG)) hput.other hput.size hput.os hput.tape hput.output ?_
        refine ⟨vl,lo,hi',hput.at_,by simp;omega,by simp [BR];omega,fun j y hy=>?_,ff,fun j hj hj2=>e7 j (by simp at hj;omega) (by simp at hj2;omega),sK⟩
        obtain ⟨u,hu,hv⟩:=hall.get hy
        refine ⟨u,?_,hv.mono (aek hfree _)⟩
        show vl[l.off+off+j]?=some u
        rw [JF]
        by_cases hj:j<olds.length
        ·rw [List.getElem?_append_left hj] at hu
         rw [if_neg D]
         have:=Gp j u hu
         simpa [World.cell?,q1] using this
        ·rw [List.getElem?_append_right D] at hu
         have:=(List.getElem?_eq_some_iff.1 hu).1
         rw [if_pos D,← hu];congr 1;omega
      ·obtain ⟨cap,hcap,w',hb,ho,BZ,lW,hr⟩:=L7 (ty:=ty) (n:=n) (c:=c') (a:=some ⟨l.cD,l.off+off,none⟩) (olds:=olds) h0 zA sE tO hz du
        (fun w' hw'=>by
         simp only [Builtin.firstCells]
         exact run_loadCells olds Fc (fun j y hy=>by rw [Iz hw'];exact Gp j y hy)) hfit BE hmo
       refine eQ.value (aU:=fun j=>if j=H.n then some ⟨w.heap.size,0,cap*i.size⟩ else φ j) hr ?_ ?_
       ·have:=be.pO (φ:=fun j=>if j=H.n then some ⟨w.heap.size,0,cap*i.size⟩ else φ j) H.n 0 (n+m) cap i.size ⟨w.heap.size,0,cap*i.size⟩ (by simp) hcap (by simp)
        simpa using this
       ·
        have tT:=eV.row (E:=E) (cap*i.size) ((cs.drop off).take (n*i.size)++new) _ e 0 0 hfree hp.bs hb ho BZ lW (by
          have:(n+m+(cap-(n+m)))*i.size=cap*i.size:=by congr 1;omega
          simp [rt,Fc,Builtin.zeroCells,hzs,← Nat.add_mul];omega) (by
          have:(n+m)*i.size≤cap*i.size:=Nat.mul_le_mul_right _ hcap
          rw [Nat.add_mul] at this
          simp [BR];omega) (fun j y hy=>by
          obtain ⟨u,hu,hv⟩:=hall.get hy
          exact ⟨u,by
           have:j<(olds++news).length:=(List.getElem?_eq_some_iff.1 hu).1
           rw [Array.getElem?_append_left (by simpa using this)]
           simpa using hu,hv⟩) (fun j _=>by omega) sK
        refine ⟨fun j hj=>by simp at hj;subst hj;exact ⟨tM,qG⟩,fun j hj=>tT.ext j (by simpa using hj),⟨tT.step.os,tT.step.tape,tT.step.output,tT.step.size,fun B hB _=>tT.step.keep B hB (by simp)⟩,fun j lj h1 h2 h3=>?_,fun j lj oj h1 h2 h3 h4=>?_,fun j lj h1 h2 h3 h4=>?_,fun j j' _ _ h1 h2 h3 h4 h5=>?_⟩
        ·rcases tT.fresh j lj h1 (by simpa using h2) h3 with hh |⟨q,hq,_⟩
         ·exact .inl hh
         ·simp at hq
        ·simp at h1 h2
         rcases h1 with h1 |h1
         ·subst h1
          rw [U.jn,U.cB,if_neg D,U.kr,if_pos rfl] at h4
          injection h4 with h4
          subst h4
          trivial
         ·have:j=H.n:=by omega
          subst this
          rw [U.jn,U.cB,if_pos rfl] at h4
          exact tT.blocks H.n lj oj (.inr (Nat.le_refl _)) (by simp) h3 (by rw [U.jn,if_pos rfl];exact h4)
        ·simp at h2
         have:j=H.n:=by omega
         subst this
         rw [U.jn,U.cB,if_pos rfl] at h4
         exact tT.lt H.n lj (Nat.le_refl _) (by simp) h3 (by rw [U.jn,if_pos rfl];exact h4)
        ·simp at h2 h4
         omega
   ·cases h
end
section
variable {E:Env} {base:Nat} {φ:bA} {w:World} {H:U}
abbrev Good (E:Env) (H H':U) (W R:List Nat) (v:Value) (φ:bA) (s:Sem Next):Prop:=
 ∀(base:Nat) (w:World),Pre E base φ w H R→fW φ H.n H'.n→eQ E base φ w H s v H' W
theorem Qn (ok:E.eU) (wf:cz H) {ts:Array TypeId} {ty:TypeId} {x x' v:Value} {H':U} {W R:List Nat} (h:KE E ts x H=some (v,H',W,R)) :
  dN H H' W R∧∀ φ,be φ x x'→Good E H H' W R v φ (do Pure.pure (.value (← Builtin.len_ ts ty #[x']))):=by
 have a0:∀ y:Value,(#[y]:Array Value)[0]?=some y:=fun _=>rfl
 unfold KE at h
 split at h
 rotate_left
 ·cases h
 rename_i t h0
 split at h
 ·rename_i e n c ht
  simp only [bx,bG] at h
  obtain ⟨rfl,rfl,rfl,rfl⟩:=h
  refine ⟨dN.same wf _,fun φ hx base w hp hf=>eQ.of_run (.int .i64 _) ?_⟩
  cases hx <;> simp [Builtin.len_,h0,a0,run_underlying (ok.ul ht),goInt]
 ·rename_i s ht
  simp only [bx,bG] at h
  obtain ⟨rfl,rfl,rfl,rfl⟩:=h
  refine ⟨dN.same wf _,fun φ hx base w hp hf=>eQ.of_run (.int .i64 _) ?_⟩
  cases hx <;> simp [Builtin.len_,h0,a0,run_underlying (ok.ul ht),goInt]
 ·rename_i ht
  simp only [bx,bG] at h
  obtain ⟨rfl,rfl,rfl,rfl⟩:=h
  refine ⟨dN.same wf _,fun φ hx base w hp hf=>eQ.of_run (.int .i64 _) ?_⟩
  cases hx <;> simp [Builtin.len_,h0,a0,run_underlying (ok.ul ht),goInt]
 ·rename_i b ht
  split at h
  ·rename_i es ak hg
   simp only [bx,bG] at h
   obtain ⟨rfl,rfl,rfl,rfl⟩:=h
   refine ⟨dN.same wf _,fun φ hx base w hp hf=>eQ.of_run (.int .i64 _) ?_⟩
   cases hx with
   |map _ l hl=>
    obtain ⟨es',h1,h2,h3,h4⟩:=hp.blocks b (by simp) l _ hl hg
    simp [Builtin.len_,h0,a0,run_underlying (ok.ul ht),goInt,getObj,Sem.run,h1,h3]
  ·cases h
 ·rename_i p ht
  split at h
  ·rename_i n e hp'
   simp only [bx,bG] at h
   obtain ⟨rfl,rfl,rfl,rfl⟩:=h
   refine ⟨dN.same wf _,fun φ hx base w hp hf=>eQ.of_run (.int .i64 _) ?_⟩
   simp [Builtin.len_,h0,a0,run_underlying (ok.ul ht),run_underlying (ok.ul hp'),goInt]
  ·cases h
 ·cases h
theorem Oe (ok:E.eU) (wf:cz H) {ts:Array TypeId} {ty:TypeId} {x x' v:Value} {H':U} {W R:List Nat} (h:Ix E ts x H=some (v,H',W,R)) :
  dN H H' W R∧∀ φ,be φ x x'→Good E H H' W R v φ (do Pure.pure (.value (← Builtin.cap_ ts ty #[x']))):=by
 have a0:∀ y:Value,(#[y]:Array Value)[0]?=some y:=fun _=>rfl
 unfold Ix at h
 split at h
 rotate_left
 ·cases h
 rename_i t h0
 split at h
 ·rename_i e ht
  simp only [bx,bG] at h
  obtain ⟨rfl,rfl,rfl,rfl⟩:=h
  refine ⟨dN.same wf _,fun φ hx base w hp hf=>eQ.of_run (.int .i64 _) ?_⟩
  cases hx
  simp [Builtin.cap_,h0,a0,run_underlying (ok.ul ht),goInt]
 ·rename_i e a n c ht
  split at h
  ·rename_i k hk
   simp only [bx,bG] at h
   obtain ⟨rfl,rfl,rfl,rfl⟩:=h
   refine ⟨dN.same wf _,fun φ hx base w hp hf=>eQ.of_run (.int .i64 _) ?_⟩
   obtain ⟨b,o,sp⟩:=a
   cases sp with
   |none=>
    obtain ⟨l,hl,hn,rfl⟩:=hx.Do hk
    simp [Builtin.cap_,h0,a0,run_underlying (ok.ul ht),goInt]
   |some q=>cases hx with |AB _ _=>cases hk
  ·cases h
 ·cases h
theorem Tq {sz m:Nat} {x x':Value} {new:List Value} {R S:List Nat} (hx:be φ x x') (h:hG H sz x=some (m,new,R)) (hp:Pre E base φ w H S) (hS:∀ i,i∈R→i∈S) (hsz:pP x sz=true) :
  ∃ news,eb φ new news∧new.length=m*sz∧(∀ w',(Builtin.lenOf x').run E.P w'=.ok m w')∧∀ k,k≤m→(Builtin.firstCells sz k x').run E.P w=.ok (news.take (k*sz)).toArray w:=by
 have PD:∀ q,x=.string q→sz=1:=fun q e=>by subst e;simpa [pP] using hsz
 obtain ⟨news,du,hlr⟩:=AF hx h hp hS PD
 refine ⟨news,hlr,by rw [hlr.1,du.size],du.len,fun k hk=>?_⟩
 unfold hG at h
 split at h
 ·rename_i s
  have:=PD s rfl
  subst this
  cases hx
  simp only [bx,bG] at h
  obtain ⟨rfl,rfl,rfl⟩:=h
  have hc:=du.cells w rfl
  simp only [Builtin.firstCells] at hc ⊢
  have h2:(s.extract 0 s.size)=s:=by apply ByteArray.ext;simp
  rw [h2] at hc
  have h3:=Result.ok.inj hc
  have h4:news=(s.data.map fun b=>Value.int .u8 b.toNat).toList:=by
   have:=congrArg Array.toList h3.1
   simpa using this.symm
  subst h4
  show Result.ok _ w=_
  congr 1
  apply Array.ext'
  simp [ByteArray.data_extract]
 ·cases hx
  simp only [bx,bG] at h
  obtain ⟨rfl,rfl,rfl⟩:=h
  have:k=0:=by omega
  subst this
  simp [Builtin.firstCells,run_pure]
 ·rename_i b off n c
  split at h
  ·rename_i xs hr
   simp only [bx,bG] at h
   obtain ⟨rfl,rfl,rfl⟩:=h
   obtain ⟨l,c',hl,hn,rfl,_⟩:=hx.wB
   obtain ⟨ys,h1,h2,h3⟩:=x8 hp (hS b (by simp)) hl hr
   have hc:=du.cells w rfl
   simp only [Builtin.firstCells] at hc ⊢
   rw [run_loadCells ys (by rw [← h2.1,h1]) h3] at hc
   have h4:=Result.ok.inj hc
   have h5:news=ys:=by
    have:=congrArg Array.toList h4.1
    simpa using this.symm
   subst h5
   have hlen:news.length=n*sz:=by rw [← h2.1,h1]
   have hks:k*sz≤n*sz:=Nat.mul_le_mul_right _ hk
   refine run_loadCells (news.take (k*sz)) (by simp;omega) (fun j y hy=>?_)
   rw [List.getElem?_take] at hy
   split at hy
   ·exact h3 j y hy
   ·cases hy
  ·cases h
 ·cases h
theorem Ow (ok:E.eU) (wf:cz H) {ts:Array TypeId} {ty:TypeId} {d d' s s' v:Value} {H':U} {W R:List Nat} (h:qC E ts d s H=some (v,H',W,R)) :
  dN H H' W R∧∀ φ,be φ d d'→be φ s s'→Good E H H' W R v φ (do Pure.pure (.value (← Builtin.copy_ ts ty #[d',s']))):=by
 have a0:∀ y z:Value,(#[y,z]:Array Value)[0]?=some y:=fun _ _=>rfl
 have a1:∀ y z:Value,(#[y,z]:Array Value)[1]?=some z:=fun _ _=>rfl
 unfold qC at h
 split at h
 rotate_left
 ·cases h
 rename_i t h0
 split at h
 rotate_left
 ·cases h
 rename_i e ht
 split at h
 rotate_left
 ·cases h
 rename_i sz hsz
 cases hst:pP s sz with
 |false=>rw [hst] at h;cases h
 |true=>
  rw [hst] at h
  simp only [cond_true] at h
  split at h
  ·rename_i m new R' hsrc
   simp only [bx,bG] at h
   obtain ⟨rfl,rfl,rfl,rfl⟩:=h
   refine ⟨dN.same wf _,fun φ hd hs base w hp hf=>?_⟩
   cases hd
   obtain ⟨news,hlr,hl,hlen,hpre⟩:=Tq hs hsrc hp (fun i hi=>hi) hst
   refine eQ.of_run (.int .i64 _) ?_
   unfold Builtin.copy_
   simp only [h0,a0,a1]
   rw [bt (ig ok ht w)]
   simp only
   rw [bt (hlen w),bt (ql ok hsz w)]
   have hmin:Nat.min m 0=0:=Nat.min_zero m
   rw [hmin,bt (hpre 0 (Nat.zero_le _))]
   rfl
  ·rename_i b off n c m new R' hsrc
   split at h
   rotate_left
   ·cases h
   rename_i cs e' hg
   cases hc:(Nat.ble (off+min m n*sz) cs.length&&new.all one) with
   |false=>rw [hc] at h;cases h
   |true=>
    rw [hc] at h
    simp only [cond_true,bx,bG] at h
    obtain ⟨rfl,rfl,rfl,rfl⟩:=h
    simp only [dI] at hc
    obtain ⟨hle,hone⟩:=hc
    have hle:=Nat.le_of_ble_eq_true hle
    refine ⟨dN.set wf _ (by rw [hg];rfl) (by simp),fun φ hd hs base w hp hf=>?_⟩
    obtain ⟨l,c',hl,hn,rfl,_⟩:=hd.wB
    obtain ⟨news,hlr,BR,hlen,hpre⟩:=Tq hs hsrc (hp.sub (S:=R') (fun i hi=>by simp [hi])) (fun i hi=>hi) hst
    have PA:min m n*sz≤m*sz:=Nat.mul_le_mul_right _ (Nat.min_le_left ..)
    obtain ⟨w',hw,hout⟩:=eV.write (o:=off) (xs:=new.take (min m n*sz)) (ys:=news.take (min m n*sz)) hp wf (by simp) hl hg (by simp;omega) (hlr.take _)
     (fun v hv=>vd hone v (List.mem_of_mem_take hv))
    refine eQ.value (aU:=φ) (u:=.int .i64 ((min m n:Nat):Int)) ?_ (.int .i64 _) hout
    unfold Builtin.copy_
    simp only [h0,a0,a1]
    rw [bt (ig ok ht w)]
    simp only
    rw [bt (hlen w),bt (ql ok hsz w)]
    have hmin:Nat.min m n=min m n:=rfl
    rw [hmin,bt (hpre _ (Nat.min_le_left ..))]
    simp only
    rw [bt hw]
    rfl
  ·cases h
theorem ai4 {z:Value} {n:Nat}:(Builtin.zeroCells z.cells n).toList=hM z.cells.toList n:=by
 have:=Nm z.cells.toList n
 have h2:=congrArg Array.toList this
 simp at h2
 rw [h2]
 simp [Builtin.zeroCells]
theorem Oo (ok:E.eU) (wf:cz H) {ts:Array TypeId} {ty:TypeId} {x x' v:Value} {H':U} {W R:List Nat} (h:w8 E ts x H=some (v,H',W,R)) :
  dN H H' W R∧∀ φ,be φ x x'→Good E H H' W R v φ (do Pure.pure (.value (← Builtin.clear_ ts ty #[x']))):=by
 have a0:∀ y:Value,(#[y]:Array Value)[0]?=some y:=fun _=>rfl
 unfold w8 at h
 split at h
 rotate_left
 ·cases h
 rename_i t h0
 split at h
 ·rename_i e a c ht
  simp only [bx,bG] at h
  obtain ⟨rfl,rfl,rfl,rfl⟩:=h
  refine ⟨dN.same wf _,fun φ hx base w hp hf=>eQ.of_run (.tuple' ⟨rfl,fun i x y hx=>by simp at hx⟩) ?_⟩
  cases hx <;> simp [Builtin.clear_,h0,a0,run_underlying (ok.ul ht)]
 ·rename_i e b off n c ht
  split at h
  ·rename_i z cs e' hz hg
   cases hc:(Nat.ble (off+(n+1)*z.cells.size) cs.length&&z.cells.toList.all one&&ground z) with
   |false=>rw [hc] at h;cases h
   |true=>
    rw [hc] at h
    simp only [cond_true,bx,bG] at h
    obtain ⟨rfl,rfl,rfl,rfl⟩:=h
    simp only [dI] at hc
    obtain ⟨⟨hle,hone⟩,JH⟩:=hc
    have hle:=Nat.le_of_ble_eq_true hle
    refine ⟨dN.set wf _ (by rw [hg];rfl) (by simp),fun φ hx base w hp hf=>?_⟩
    obtain ⟨l,c',hl,hn,rfl,_⟩:=hx.wB
    have hzl:=HV z.cells.toList (n+1)
    obtain ⟨w',hw,hout⟩:=eV.write (o:=off) (xs:=hM z.cells.toList (n+1)) (ys:=hM z.cells.toList (n+1)) hp wf (by simp) hl hg (by rw [hzl];simpa using hle)
     (Nl ((zy JH).toList) _) (vd (ai5 _ _ hone _))
    refine eQ.value (aU:=φ) (u:=.tuple #[]) ?_ (.tuple' ⟨rfl,fun i x y hx=>by simp at hx⟩) hout
    unfold Builtin.clear_
    simp only [h0,a0]
    rw [bt (ig ok ht w)]
    simp only
    rw [bt (wz ok hz w),ai4,bt hw]
    rfl
  ·cases h
 ·cases h
theorem QG (ok:E.eU) (wf:cz H) {t:TypeId} {l l' c c' v:Value} {H':U} {W R:List Nat} (h:xP E t l c H=some (v,H',W,R)) :
  dN H H' W R∧∀ φ,be φ l l'→be φ c c'→Good E H H' W R v φ (do Pure.pure (.value (← Instr.makeSlice t l' c'))):=by
 unfold xP at h
 split at h
 rotate_left
 ·cases h
 rename_i e kl l kc c ht
 split at h
 rotate_left
 ·cases h
 rename_i i hi
 split at h
 rotate_left
 ·cases h
 rename_i z hz
 cases hc:(decide (0≤l)&&decide (l≤c)&&decide (c*i.bytes≤(most:Int))&&decide (c≤(most:Int))&&Nat.beq z.cells.size i.size&&z.cells.toList.all one&&ground z) with
 |false=>rw [hc] at h;cases h
 |true=>
  rw [hc] at h
  simp only [cond_true,bx,bG] at h
  obtain ⟨rfl,rfl,rfl,rfl⟩:=h
  simp only [dI,decide_eq_true_eq] at hc
  obtain ⟨⟨⟨⟨⟨⟨h1,h2⟩,h3⟩,h4⟩,h5⟩,h6⟩,h7⟩:=hc
  have h5:=Nat.eq_of_beq_eq_true h5
  unfold most at h3 h4
  refine ⟨dN.new wf _ _,fun φ hl hc base w hp hf=>?_⟩
  cases hl
  cases hc
  have hfree:φ H.n=none:=hf _ (Nat.le_refl _) (by simp)
  have PL:IntKind.i64.wrap l=l:=by simp [IntKind.wrap,IntKind.signed,IntKind.bits];omega
  have ZR:IntKind.i64.wrap c=c:=by simp [IntKind.wrap,IntKind.signed,IntKind.bits];omega
  have sE:=ok.info _ _ hi
  have qI:(typeInfo e).run E.P w=.ok i w:=by simp [typeInfo,sE]
  have B7:(zeroValue e).run E.P w=.ok z w:=by simp [zeroValue,typeInfo,sE,hz]
  have hsz:(sizeOf e).run E.P w=.ok i.size w:=by simp [Go.sizeOf,typeInfo,sE]
  have hmul:(i.bytes:Int)*c≤1099511627776:=by rw [Int.mul_comm];exact h3
  refine eQ.value (aU:=fun j=>if j=H.n then some ⟨w.heap.size,0,(hM z.cells.toList c.toNat).length⟩ else φ j) (u:=.slice (some ⟨w.heap.size,0,none⟩) l.toNat c.toNat)
   (w':={ w with heap:=w.heap.push (.cells (hM z.cells.toList c.toNat).toArray e (0,0)) }) ?_ ?_ ?_
  ·unfold Instr.makeSlice
   rw [bt (ig ok ht w)]
   simp only [asInt,asIntOf]
   rw [bt (a:=l) rfl,bt (a:=c) rfl,bt qI]
   simp only [PL,ZR]
   have JA:(decide (c<0)||decide ((i.bytes:Int)*c>2 ^ 48)||decide (l<0)||decide (l>c))=false:=by
    simp only [Bool.or_eq_false_iff,decide_eq_false_iff_not]
    omega
   rw [if_neg (by rw [JA];simp)]
   rw [bt (Ip _ w),bt hsz]
   by_cases hn:c.toNat*i.size=0
   ·rw [if_pos hn,bt (run_pure _ w),bt (x9 _ _ w)]
    have:hM z.cells.toList c.toNat=[]:=by
     apply List.eq_nil_of_length_eq_zero
     rw [HV];simpa [h5] using hn
    have h0:(Array.map (fun x=>(#[]:Array Value)[x%(#[]:Array Value).size]!) (Array.range 0))=#[]:=by simp
    rw [this,hn]
    simp only [h0]
    rfl
   ·rw [if_neg hn]
    rw [bt B7,bt (run_pure z.cells w),bt (x9 _ _ w)]
    rw [Nm]
    simp [h5]
  ·have:=be.oa (φ:=fun j=>if j=H.n then some ⟨w.heap.size,0,(hM z.cells.toList c.toNat).length⟩ else φ j) H.n 0 l.toNat c.toNat ⟨w.heap.size,0,(hM z.cells.toList c.toNat).length⟩ (by simp) D
   simpa using this
  ·exact eV.FN hp.bs hfree (Nl ((zy h7).toList) _) rfl rfl rfl rfl
end
end Go.Am
