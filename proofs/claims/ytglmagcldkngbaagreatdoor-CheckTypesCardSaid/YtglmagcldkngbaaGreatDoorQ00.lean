/- Part of the proof that CheckTypes answers true. -/
import Derived.Orders
import Derived.Defers
import Derived.Below
import Derived.Laws.Append
import Derived.Laws.Tables
set_option linter.unusedVariables false
set_option linter.unusedSimpArgs false
set_option maxRecDepth 100000
set_option maxHeartbeats 4000000
namespace Go.Am
open Go.RowKit Below
theorem J {p:Prop} (h:p:=by omega):p:=h
theorem bH {α:Type _} (a b:α):(some a=some b)=(a=b):=Option.some.injEq a b
theorem b8 {α β:Type _} (a:α) (b:β) (c:α) (d:β):((a,b)=(c,d))=(a=c∧b=d):=Prod.mk.injEq a b c d
theorem dX {α:Type _} {a:α} {l:List α}:(a::l).length=l.length+1:=List.length_cons
theorem e3 {α:Type _}:([]:List α).length=0:=List.length_nil
theorem dZ (a b:Bool):((a&&b)=true)=(a=true∧b=true):=Bool.and_eq_true a b
theorem iy {b:ByteArray} {i j:Nat}:(b.extract i j).size=min j b.size-i:=ByteArray.size_extract
inductive de (α:Type) where
 |nil
 |node (v:Option α) (l r:de α)
def de.get {α:Type}:de α→Nat→Option α
 |.nil,_=>none
 |.node v l r,i=>bif Nat.beq i 0 then v else bif Nat.beq (i%2) 1 then l.get (i / 2) else r.get (i / 2-1)
def de.g7 {α:Type}:Nat→de α→Nat→α→de α
 |0,t,_,_=>t
 |f+1,.nil,i,a=>bif Nat.beq i 0 then .node (some a) .nil .nil else bif Nat.beq (i%2) 1 then .node none (de.g7 f .nil (i / 2) a) .nil else .node none .nil (de.g7 f .nil (i / 2-1) a)
 |f+1,.node v l r,i,a=>bif Nat.beq i 0 then .node (some a) l r else bif Nat.beq (i%2) 1 then .node v (de.g7 f l (i / 2) a) r else .node v l (de.g7 f r (i / 2-1) a)
def de.set {α:Type} (t:de α) (i:Nat) (a:α):de α:=de.g7 (i+1) t i a
theorem iu {a b:Nat} (h:a≠b):Nat.beq a b=false:=by
 cases hb:Nat.beq a b with
 |false=>rfl
 |true=>exact absurd (Nat.eq_of_beq_eq_true hb) h
theorem lO {a b:Nat} (h:a=b):Nat.beq a b=true:=by subst h;exact Nat.beq_refl a
theorem de.W5 {α:Type} (a:α):∀(f:Nat) (t:de α) (i j:Nat),i<f→(de.g7 f t i a).get j=if i=j then some a else t.get j:=by
 intro f
 induction f with
 |zero=>intro t i j h;omega
 |succ f ih=>
  intro t i j h
  cases t with
  |nil=>
   simp only [de.g7]
   by_cases h0:i=0
   ·subst h0
    by_cases hj:j=0
    ·subst hj;simp [de.get]
    ·rw [if_neg J]
     have:Nat.beq j 0=false:=iu hj
     simp [de.get,this]
   ·have e0:Nat.beq i 0=false:=iu h0
    rw [e0]
    by_cases ho:i%2=1
    ·have e1:Nat.beq (i%2) 1=true:=lO ho
     rw [e1]
     simp only [cond_true,cond_false,de.get]
     by_cases hj0:j=0
     ·subst hj0;simp;omega
     ·have f0:Nat.beq j 0=false:=iu hj0
      rw [f0]
      by_cases rH:j%2=1
      ·have f1:Nat.beq (j%2) 1=true:=lO rH
       rw [f1];simp only [cond_true,cond_false]
       rw [ih _ _ _ J]
       by_cases e:i / 2=j / 2
       ·rw [if_pos e,if_pos J]
       ·rw [if_neg e,if_neg J];rfl
      ·have f1:Nat.beq (j%2) 1=false:=iu rH
       rw [f1];simp only [cond_false]
       rw [if_neg J]
    ·have e1:Nat.beq (i%2) 1=false:=iu ho
     rw [e1]
     simp only [cond_true,cond_false,de.get]
     by_cases hj0:j=0
     ·subst hj0;simp;omega
     ·have f0:Nat.beq j 0=false:=iu hj0
      rw [f0]
      by_cases rH:j%2=1
      ·have f1:Nat.beq (j%2) 1=true:=lO rH
       rw [f1];simp only [cond_true,cond_false]
       rw [if_neg J]
      ·have f1:Nat.beq (j%2) 1=false:=iu rH
       rw [f1];simp only [cond_false]
       rw [ih _ _ _ J]
       by_cases e:i / 2-1=j / 2-1
       ·rw [if_pos e,if_pos J]
       ·rw [if_neg e,if_neg J];rfl
  |node v l r=>
   simp only [de.g7]
   by_cases h0:i=0
   ·subst h0
    by_cases hj:j=0
    ·subst hj;simp [de.get]
    ·rw [if_neg J]
     have:Nat.beq j 0=false:=iu hj
     simp [de.get,this]
   ·have e0:Nat.beq i 0=false:=iu h0
    rw [e0]
    by_cases ho:i%2=1
    ·have e1:Nat.beq (i%2) 1=true:=lO ho
     rw [e1]
     simp only [cond_true,cond_false,de.get]
     by_cases hj0:j=0
     ·subst hj0;simp;omega
     ·have f0:Nat.beq j 0=false:=iu hj0
      rw [f0]
      by_cases rH:j%2=1
      ·have f1:Nat.beq (j%2) 1=true:=lO rH
       rw [f1];simp only [cond_true,cond_false]
       rw [ih _ _ _ J]
       by_cases e:i / 2=j / 2
       ·rw [if_pos e,if_pos J]
       ·rw [if_neg e,if_neg J]
      ·have f1:Nat.beq (j%2) 1=false:=iu rH
       rw [f1];simp only [cond_false]
       rw [if_neg J]
    ·have e1:Nat.beq (i%2) 1=false:=iu ho
     rw [e1]
     simp only [cond_true,cond_false,de.get]
     by_cases hj0:j=0
     ·subst hj0;simp;omega
     ·have f0:Nat.beq j 0=false:=iu hj0
      rw [f0]
      by_cases rH:j%2=1
      ·have f1:Nat.beq (j%2) 1=true:=lO rH
       rw [f1];simp only [cond_true,cond_false]
       rw [if_neg J]
      ·have f1:Nat.beq (j%2) 1=false:=iu rH
       rw [f1];simp only [cond_false]
       rw [ih _ _ _ J]
       by_cases e:i / 2-1=j / 2-1
       ·rw [if_pos e,if_pos J]
       ·rw [if_neg e,if_neg J]
theorem de.kP {α:Type} (t:de α) (i j:Nat) (a:α):(t.set i a).get j=if i=j then some a else t.get j:=de.W5 a _ t i j J
def de.ofList {α:Type} (l:List α):de α:=(l.foldl (fun (p:de α×Nat) x=>(p.1.set p.2 x,p.2+1)) (.nil,0)).1
inductive dL where
 |cells (c:List Value) (e:TypeId) (ro:Bool)
 |map (es:List MapEntry) (clock:Nat)
 |dead
structure Z where
 n:Nat
 t:de dL
def Z.get (h:Z) (i:Nat):Option dL:=h.t.get i
def Z.set (h:Z) (i:Nat) (o:dL):Z:=⟨h.n,h.t.set i o⟩
def Z.new (h:Z) (o:dL):Z:=⟨h.n+1,h.t.set h.n o⟩
theorem Z.kP (h:Z) (i j:Nat) (o:dL):(h.set i o).get j=if i=j then some o else h.get j:=de.kP ..
theorem Z.jO (h:Z) (j:Nat) (o:dL):(h.new o).get j=if h.n=j then some o else h.get j:=de.kP ..
@[simp] theorem Z.cI (h:Z) (i:Nat) (o:dL):(h.set i o).n=h.n:=rfl
@[simp] theorem Z.qQ (h:Z) (o:dL):(h.new o).n=h.n+1:=rfl
structure Loc where
 dG:Nat
 off:Nat
 mR:Nat
abbrev bC:=Nat→Option Loc
inductive bn (φ:bC):Value→Value→Prop
 |bool (b:Bool):bn φ (.bool b) (.bool b)
 |int (k:IntKind) (n:Int):bn φ (.int k n) (.int k n)
 |float (k:FloatKind) (b:Nat):bn φ (.float k b) (.float k b)
 |string (s:ByteArray):bn φ (.string s) (.string s)
 |FM:bn φ (.pointer none) (.pointer none)
 |ptr (i o:Nat) (l:Loc):φ i=some l→bn φ (.pointer (some ⟨i,o,none⟩)) (.pointer (some ⟨l.dG,l.off+o,none⟩))
 |tF:bn φ (.slice none 0 0) (.slice none 0 0)
 |mY (i o n c:Nat) (l:Loc):φ i=some l→n≤c→bn φ (.slice (some ⟨i,o,none⟩) n (2*c+1)) (.slice (some ⟨l.dG,l.off+o,none⟩) n c)
 |pK (i o n c s:Nat) (l:Loc):φ i=some l→n≤c→o+c*s≤l.mR→bn φ (.slice (some ⟨i,o,none⟩) n (2*s)) (.slice (some ⟨l.dG,l.off+o,none⟩) n c)
 |AQ (a:Addr) (c:Nat):bn φ (.slice (some ⟨0,0,some 0⟩) 0 0) (.slice (some a) 0 c)
 |FL:bn φ (.map none) (.map none)
 |map (i:Nat) (l:Loc):φ i=some l→bn φ (.map (some i)) (.map (some l.dG))
 |FJ:bn φ .nilFunc .nilFunc
 |func (f:FuncId) (fs fs' cs cs':Array Value):fs.size=fs'.size→(∀(i:Nat) x y,fs[i]?=some x→fs'[i]?=some y→bn φ x y)→
   cs.size=cs'.size→(∀(i:Nat) x y,cs[i]?=some x→cs'[i]?=some y→bn φ x y)→bn φ (.func (.func f) fs cs) (.func (.func f) fs' cs')
 |FK:bn φ .nilIface .nilIface
 |iface (t:TypeId) (v u:Value):bn φ v u→bn φ (.iface t v) (.iface t u)
 |agg (cs cs':Array Value):cs.size=cs'.size→(∀(i:Nat) x y,cs[i]?=some x→cs'[i]?=some y→bn φ x y)→bn φ (.agg cs) (.agg cs')
 |tuple (cs cs':Array Value):cs.size=cs'.size→(∀(i:Nat) x y,cs[i]?=some x→cs'[i]?=some y→bn φ x y)→bn φ (.tuple cs) (.tuple cs')
theorem bn.mono {φ ψ:bC} (h:∀ i l,φ i=some l→ψ i=some l) {v u:Value} (hv:bn φ v u):bn ψ v u:=by
 induction hv with
 |bool b=>exact .bool b
 |int k n=>exact .int k n
 |float k b=>exact .float k b
 |string s=>exact .string s
 |FM=>exact .FM
 |ptr i o l hl=>exact .ptr i o l (h _ _ hl)
 |tF=>exact .tF
 |mY i o n c l hl hn=>exact .mY i o n c l (h _ _ hl) hn
 |AQ a c=>exact .AQ a c
 |pK i o n c s l hl hn hc=>exact .pK i o n c s l (h _ _ hl) hn hc
 |FL=>exact .FL
 |map i l hl=>exact .map i l (h _ _ hl)
 |FJ=>exact .FJ
 |func f fs fs' cs cs' h1 _ h2 _ i1 i2=>exact .func f fs fs' cs cs' h1 i1 h2 i2
 |FK=>exact .FK
 |iface t v u _ ih=>exact .iface t v u ih
 |agg cs cs' h1 _ ih=>exact .agg cs cs' h1 ih
 |tuple cs cs' h1 _ ih=>exact .tuple cs cs' h1 ih
def eI (φ:bC) (xs ys:List Value):Prop:=xs.length=ys.length∧∀(i:Nat) x y,xs[i]?=some x→ys[i]?=some y→bn φ x y
def jK (φ:bC) (xs ys:Array Value):Prop:=xs.size=ys.size∧∀(i:Nat) x y,xs[i]?=some x→ys[i]?=some y→bn φ x y
theorem eI.mono {φ ψ:bC} (h:∀ i l,φ i=some l→ψ i=some l) {xs ys:List Value} (hv:eI φ xs ys):eI ψ xs ys:=⟨hv.1,fun i x y a b=>(hv.2 i x y a b).mono h⟩
theorem jK.mono {φ ψ:bC} (h:∀ i l,φ i=some l→ψ i=some l) {xs ys:Array Value} (hv:jK φ xs ys):jK ψ xs ys:=⟨hv.1,fun i x y a b=>(hv.2 i x y a b).mono h⟩
theorem eI.nil (φ:bC):eI φ [] []:=⟨rfl,fun i x y h=>by simp at h⟩
theorem eI.cons {φ:bC} {x y:Value} {xs ys:List Value} (h:bn φ x y) (hs:eI φ xs ys):eI φ (x::xs) (y::ys):=
 ⟨by simp [hs.1],fun i a b ha hb=>by
  cases i with
  |zero=>simp at ha hb;subst ha hb;exact h
  |succ i=>simp at ha hb;exact hs.2 i a b ha hb⟩
theorem eI.cons_inv {φ:bC} {x:Value} {xs zs:List Value} (h:eI φ (x::xs) zs):∃ y ys,zs=y::ys∧bn φ x y∧eI φ xs ys:=by
 cases zs with
 |nil=>have:=h.1;simp at this
 |cons y ys=>
  refine ⟨y,ys,rfl,h.2 0 x y (by simp) (by simp),?_,fun i a b ha hb=>h.2 (i+1) a b (by simpa using ha) (by simpa using hb)⟩
  have:=h.1;simp at this;exact this
theorem eI.tE {φ:bC} {zs:List Value} (h:eI φ [] zs):zs=[]:=by
 have h1:=h.1
 cases zs with
 |nil=>rfl
 |cons a b=>simp at h1
theorem eI.append {φ:bC} {xs ys xs' ys':List Value} (h:eI φ xs ys) (h':eI φ xs' ys'):eI φ (xs++xs') (ys++ys'):=by
 induction xs generalizing ys with
 |nil=>have:=h.tE;subst this;simpa using h'
 |cons x xs ih=>
  obtain ⟨y,zs,rfl,h1,h2⟩:=h.cons_inv
  exact eI.cons h1 (ih h2)
theorem eI.get {φ:bC} {xs ys:List Value} (h:eI φ xs ys) {i:Nat} {x:Value} (hx:xs[i]?=some x):∃ y,ys[i]?=some y∧bn φ x y:=by
 have hi:i<xs.length:=(List.getElem?_eq_some_iff.1 hx).1
 have hi':i<ys.length:=h.1▸hi
 exact ⟨ys[i],List.getElem?_eq_getElem hi',h.2 i _ _ hx (List.getElem?_eq_getElem hi')⟩
theorem jK.get {φ:bC} {xs ys:Array Value} (h:jK φ xs ys) {i:Nat} {x:Value} (hx:xs[i]?=some x):∃ y,ys[i]?=some y∧bn φ x y:=by
 have hi:i<xs.size:=(Array.getElem?_eq_some_iff.1 hx).1
 have hi':i<ys.size:=h.1▸hi
 exact ⟨ys[i],Array.getElem?_eq_getElem hi',h.2 i _ _ hx (Array.getElem?_eq_getElem hi')⟩
theorem eI.take {φ:bC} {xs ys:List Value} (h:eI φ xs ys) (n:Nat):eI φ (xs.take n) (ys.take n):=
 ⟨by simp [h.1],fun i x y hx hy=>by
  rw [List.getElem?_take] at hx hy
  split at hx
  ·rw [if_pos ‹_›] at hy;exact h.2 i x y hx hy
  ·simp at hx⟩
theorem jK.toList {φ:bC} {xs ys:Array Value} (h:jK φ xs ys):eI φ xs.toList ys.toList:=
 ⟨by simpa using h.1,fun i x y hx hy=>h.2 i x y (by simpa using hx) (by simpa using hy)⟩
theorem eI.toArray {φ:bC} {xs ys:List Value} (h:eI φ xs ys):jK φ xs.toArray ys.toArray:=
 ⟨by simpa using h.1,fun i x y hx hy=>h.2 i x y (by simpa using hx) (by simpa using hy)⟩
theorem bn.w7 {φ:bC} {cs cs':Array Value} (h:jK φ cs cs'):bn φ (.agg cs) (.agg cs'):=.agg cs cs' h.1 h.2
theorem bn.tuple' {φ:bC} {cs cs':Array Value} (h:jK φ cs cs'):bn φ (.tuple cs) (.tuple cs'):=.tuple cs cs' h.1 h.2
theorem bn.Bk {φ:bC} {cs:Array Value} {u:Value} (h:bn φ (.agg cs) u):∃ cs',u=.agg cs'∧jK φ cs cs':=by
 cases h with |agg _ cs' h1 h2=>exact ⟨cs',rfl,h1,h2⟩
theorem bn.Lj {φ:bC} {cs:Array Value} {u:Value} (h:bn φ (.tuple cs) u):∃ cs',u=.tuple cs'∧jK φ cs cs':=by
 cases h with |tuple _ cs' h1 h2=>exact ⟨cs',rfl,h1,h2⟩
theorem bn.HW {φ:bC} {fn:Fn} {fs cs:Array Value} {u:Value} (h:bn φ (.func fn fs cs) u):∃ f fs' cs',fn=.func f∧u=.func (.func f) fs' cs'∧jK φ fs fs'∧jK φ cs cs':=by
 cases h with |func f _ fs' _ cs' h1 h2 h3 h4=>exact ⟨f,fs',cs',rfl,rfl,⟨h1,h2⟩,⟨h3,h4⟩⟩
def BF:Value→Bool
 |.bool _ |.int _ _ |.float _ _ |.string _=>true
 |_=>false
def lI:Value→Bool
 |.iface _ v=>BF v
 |.bool _ |.int _ _ |.float _ _ |.string _ |.pointer none |.slice none 0 0 |.map none |.nilFunc |.nilIface=>true
 |_=>false
def ground:Value→Bool
 |.agg cs=>cs.toList.all lI
 |.tuple cs=>cs.toList.all lI
 |v=>lI v
theorem bn.Ar {φ:bC} {v:Value} (h:lI v=true):bn φ v v:=by
 have z:∀ v,BF v=true→bn φ v v:=fun v h=>by
  unfold BF at h
  split at h <;> first |constructor |(exact absurd h (by simp))
 unfold lI at h
 split at h <;> first |(exact .iface _ _ _ (z _ h)) |constructor |(exact absurd h (by simp))
theorem jK.Ar {φ:bC} {cs:Array Value} (h:cs.toList.all lI=true):jK φ cs cs:=
 ⟨rfl,fun i x y hx hy=>by
  rw [hx] at hy;injection hy with hy;subst hy
  rw [List.all_eq_true] at h
  exact .Ar (h x (by simpa using Array.mem_of_getElem? hx))⟩
theorem bn.r3 {φ:bC} {v:Value} (h:ground v=true):bn φ v v:=by
 unfold ground at h
 split at h
 ·exact .w7 (.Ar h)
 ·exact .tuple' (.Ar h)
 ·exact .Ar h
theorem bn.oA {φ:bC} {v u:Value} (h:lI v=true) (hv:bn φ v u):u=v:=by
 have z:∀{v u:Value},BF v=true→bn φ v u→u=v:=fun h hv=>by
  cases hv <;> first |rfl |simp [BF] at h
 cases hv with
 |iface t v u jo=>rw [z h jo]
 |_=>first |rfl |simp [lI] at h
theorem jK.oA {φ:bC} {cs ds:Array Value} (h:cs.toList.all lI=true) (hv:jK φ cs ds):ds=cs:=by
 refine Array.ext hv.1.symm fun i h1 h2=>?_
 rw [List.all_eq_true] at h
 exact bn.oA (h _ (by simp)) (hv.2 i _ _ (Array.getElem?_eq_getElem h2) (Array.getElem?_eq_getElem h1))
theorem bn.s4 {φ:bC} {v u:Value} (h:ground v=true) (hv:bn φ v u):u=v:=by
 unfold ground at h
 split at h
 ·obtain ⟨ds,rfl,hd⟩:=hv.Bk;rw [jK.oA h hd]
 ·obtain ⟨ds,rfl,hd⟩:=hv.Lj;rw [jK.oA h hd]
 ·exact hv.oA h
def one:Value→Bool
 |.agg _ |.tuple _=>false
 |_=>true
theorem bn.P5 {φ:bC} {v u:Value} (hv:bn φ v u):one u=one v:=by cases hv <;> rfl
theorem bn.cells {φ:bC} {v u:Value} (hv:bn φ v u):jK φ v.cells u.cells:=by
 have single:∀{a b:Value},bn φ a b→jK φ #[a] #[b]:=fun h=>⟨rfl,fun i x y hx hy=>by
  have:i=0:=by
   have:=(Array.getElem?_eq_some_iff.1 hx).1
   simpa using this
  subst this
  simp at hx hy;subst hx hy;exact h⟩
 cases hv with
 |agg cs cs' h1 h2=>exact ⟨h1,h2⟩
 |bool b=>exact single (.bool b)
 |int k n=>exact single (.int k n)
 |float k b=>exact single (.float k b)
 |string s=>exact single (.string s)
 |FM=>exact single .FM
 |ptr i o l hl=>exact single (.ptr i o l hl)
 |tF=>exact single .tF
 |mY i o n c l hl hn=>exact single (.mY i o n c l hl hn)
 |AQ a c=>exact single (.AQ a c)
 |pK i o n c s l hl hn hc=>exact single (.pK i o n c s l hl hn hc)
 |FL=>exact single .FL
 |map i l hl=>exact single (.map i l hl)
 |FJ=>exact single .FJ
 |func f fs fs' cs cs' h1 h2 h3 h4=>exact single (.func f fs fs' cs cs' h1 h2 h3 h4)
 |FK=>exact single .FK
 |iface t v u h=>exact single (.iface t v u h)
 |tuple cs cs' h1 h2=>exact single (.tuple cs cs' h1 h2)
inductive rh where
 |ret (v:Value)
 |q2 (v:Value)
abbrev vr:=Option (rh×Z×List Nat)
structure Env where
 P:Program
 info:Nat→Option TypeInfo
 func:Nat→Option Func
 d4:Nat
 Az:Nat→Option (List Value→Z→vr)
 By:Nat→Option (Option Value→List Value→Z→Option (Option Value×Z×List Nat))
structure Env.fy (E:Env):Prop where
 info:∀ t i,E.info t=some i→E.P.info? t=some i
 func:∀ f fn,E.func f=some fn→E.P.funcs[f]?=some fn
def Env.ul (E:Env) (t:Nat):Option TypeDesc:=
 match E.info t with
 |some i=>match i.desc with
  |.named _ u=>match E.info u with
   |some j=>some j.desc
   |none=>none
  |d=>some d
 |none=>none
def Env.size (E:Env) (t:Nat):Option Nat:=match E.info t with |some i=>some i.size |none=>none
def Env.zero (E:Env) (t:Nat):Option Value:=match E.info t with |some i=>i.zero |none=>none
def Md:TypeDesc→Bool
 |.struct _ |.array _ _=>true
 |_=>false
def Env.agg (E:Env) (t:Nat):Option Bool:=match E.ul t with |some d=>some (Md d) |none=>none
section
variable {E:Env} (ok:E.fy)
include ok
theorem Env.fy.ul {t:Nat} {d:TypeDesc} (h:E.ul t=some d):E.P.underlying t=some d:=by
 unfold Env.ul at h
 unfold Program.underlying
 split at h
 ·rename_i i hi
  rw [ok.info _ _ hi]
  obtain ⟨desc,a1,a2,a3,a4,a5,a6,a7,a8,a9⟩:=i
  cases desc with
  |named nm u=>
   simp only at h ⊢
   split at h
   ·rename_i j hj
    rw [ok.info _ _ hj]
    simpa using h
   ·simp at h
  |_=>simpa using h
 ·simp at h
theorem Env.fy.size {t n:Nat} (h:E.size t=some n):∃ i,E.P.info? t=some i∧i.size=n:=by
 unfold Env.size at h
 split at h
 ·rename_i i hi;injection h with h;exact ⟨i,ok.info _ _ hi,h⟩
 ·simp at h
theorem Env.fy.zero {t:Nat} {z:Value} (h:E.zero t=some z):∃ i,E.P.info? t=some i∧i.zero=some z:=by
 unfold Env.zero at h
 split at h
 ·rename_i i hi;exact ⟨i,ok.info _ _ hi,h⟩
 ·simp at h
theorem iE {t:Nat} {d:TypeDesc} (h:E.ul t=some d) (w:World):(underlying t).run E.P w=.ok d w:=by
 have:=ok.ul h
 simp [underlying,program,bind,Sem.bind,Sem.run,this,pure]
theorem lU {t n:Nat} (h:E.size t=some n) (w:World):(sizeOf t).run E.P w=.ok n w:=by
 obtain ⟨i,hi,rfl⟩:=ok.size h
 simp [Go.sizeOf,typeInfo,program,bind,Sem.bind,Sem.run,hi,pure]
theorem oU {t:Nat} {z:Value} (h:E.zero t=some z) (w:World):(zeroValue t).run E.P w=.ok z w:=by
 obtain ⟨i,hi,hz⟩:=ok.zero h
 simp [zeroValue,typeInfo,program,bind,Sem.bind,Sem.run,hi,hz,pure]
theorem sd {t:Nat} {b:Bool} (h:E.agg t=some b) (w:World):(isAgg t).run E.P w=.ok b w:=by
 unfold Env.agg at h
 split at h
 ·rename_i d hd
  injection h with h
  subst h
  have:=ok.ul hd
  simp only [isAgg,underlying,program,bind,Sem.bind,Sem.run,this,pure]
  cases d <;> simp [Md,Sem.run]
 ·simp at h
end
theorem run_bind {α β:Type} (P:Program) (s:Sem α) (f:α→Sem β) (w:World) :
  (s.bind f).run P w=match s.run P w with |.ok a w'=>(f a).run P w' |.halt h w'=>.halt h w':=by
 induction s generalizing w with
 |pure a=>rfl
 |load m a k ih=>
  simp only [Sem.bind,Sem.run]
  cases w.cell? a with
  |some v=>exact ih _ _
  |none=>
   simp only
   split
   ·exact ih _ _
   ·rfl
 |store m a v k ih=>
  cases v <;> simp only [Sem.bind,Sem.run] <;> first
   |rfl
   |(cases w.cell? a with
     |some v=>
      simp only
      split
      ·rfl
      ·exact ih _
     |none=>
      simp only
      split
      ·exact ih _
      ·rfl)
 |new o k ih=>simp only [Sem.bind,Sem.run];exact ih _ _
 |shape r k ih=>simp only [Sem.bind,Sem.run];exact ih _ _
 |freeze a n k ih=>simp only [Sem.bind,Sem.run];exact ih _
 |frozen a k ih=>simp only [Sem.bind,Sem.run];exact ih _ _
 |getObj r k ih=>
  simp only [Sem.bind,Sem.run]
  split
  ·rfl
  ·exact ih _ _
  ·rfl
 |setObj r o k ih=>
  simp only [Sem.bind,Sem.run]
  split
  ·rfl
  ·exact ih _
  ·rfl
 |choose q k ih=>
  simp only [Sem.bind,Sem.run]
  split
  ·exact ih _ _
  ·exact ih _ _
 |sys c k ih=>simp only [Sem.bind,Sem.run];exact ih _ _
 |program k ih=>simp only [Sem.bind,Sem.run];exact ih _ _
 |mark m k ih=>simp only [Sem.bind,Sem.run];exact ih _
 |halt h=>rfl
theorem bI {α β:Type} {P:Program} {s:Sem α} {f:α→Sem β} {w w':World} {a:α} (h:s.run P w=.ok a w'):(s >>= f).run P w=(f a).run P w':=by
 show (s.bind f).run P w=_
 rw [run_bind,h]
def live:Option dL→Bool
 |some (.cells [] _ true)=>false
 |some .dead=>false
 |some _=>true
 |none=>false
def gf:Option dL→Bool
 |some (.cells _ _ false)=>true
 |some (.map _ _)=>true
 |_=>false
theorem rX {o:Option dL} (h:gf o=true):live o=true:=by
 unfold gf at h
 split at h
 ·rename_i c e;cases c <;> rfl
 ·rfl
 ·simp at h
def mB (E:Env) (base:Nat) (φ:bC) (w:World) (l:Loc):dL→Prop
 |.cells c e true=>∀(j:Nat) (x:Value),c[j]?=some x→∃ y,w.cell? ⟨l.dG,l.off+j,none⟩=some y∧bn φ x y
 |.cells c e false=>∃ fj lo hi,w.heap[l.dG]?=some (.cells fj e (lo,hi))∧l.off+l.mR≤fj.size∧c.length≤l.mR∧
   (∀(j:Nat) (x:Value),c[j]?=some x→∃ y,fj[l.off+j]?=some y∧bn φ x y)∧base≤l.dG∧∀ j,l.off≤j→j<l.off+l.mR→¬ (lo≤j∧j<hi)
 |.map es ax=>∃ es',w.heap[l.dG]?=some (.map es' ax)∧base≤l.dG∧es.length=es'.size∧
   ∀(j:Nat) x y,es[j]?=some x→es'[j]?=some y→bn φ x.key y.key∧bn φ x.val y.val∧x.born=y.born
 |.dead=>True
theorem mB.mono {E:Env} {base:Nat} {φ ψ:bC} (h:∀ i l,φ i=some l→ψ i=some l) {w:World} {l:Loc} {o:dL} (hb:mB E base φ w l o):mB E base ψ w l o:=by
 cases o with
 |cells c e ro=>
  cases ro with
  |true=>exact fun j x hx=>let ⟨y,a,b⟩:=hb j x hx;⟨y,a,b.mono h⟩
  |false=>
   obtain ⟨fj,lo,hi,a1,a2,a3,a4,a5⟩:=hb
   exact ⟨fj,lo,hi,a1,a2,a3,fun j x hx=>let ⟨y,a,b⟩:=a4 j x hx;⟨y,a,b.mono h⟩,a5⟩
 |map es ax=>
  obtain ⟨es',a1,a2,a3,a4⟩:=hb
  exact ⟨es',a1,a2,a3,fun j x y hx hy=>let ⟨p,q,r⟩:=a4 j x y hx hy;⟨p.mono h,q.mono h,r⟩⟩
 |dead=>trivial
theorem mB.same {E:Env} {base:Nat} {φ:bC} {w w':World} {l:Loc} {o:dL} (h:w'.heap[l.dG]?=w.heap[l.dG]?) (hb:mB E base φ w l o):mB E base φ w' l o:=by
 cases o with
 |cells c e ro=>
  cases ro with
  |true=>
   intro j x hx
   obtain ⟨y,a,b⟩:=hb j x hx
   refine ⟨y,?_,b⟩
   rw [← a]
   simp only [World.cell?,h]
  |false=>
   obtain ⟨fj,lo,hi,a1,a2⟩:=hb
   exact ⟨fj,lo,hi,h.trans a1,a2⟩
 |map es ax=>
  obtain ⟨es',a1,a2⟩:=hb
  exact ⟨es',h.trans a1,a2⟩
 |dead=>trivial
theorem mB.cell {E:Env} {base:Nat} {φ:bC} {w:World} {l:Loc} {c:List Value} {e:TypeId} {ro:Bool} (hb:mB E base φ w l (.cells c e ro)) {j:Nat} {x:Value} (hx:c[j]?=some x) :
  ∃ y,w.cell? ⟨l.dG,l.off+j,none⟩=some y∧bn φ x y:=by
 cases ro with
 |true=>exact hb j x hx
 |false=>
  obtain ⟨fj,lo,hi,a1,a2,a3,a4,a5⟩:=hb
  obtain ⟨y,h1,h2⟩:=a4 j x hx
  refine ⟨y,?_,h2⟩
  simp [World.cell?,a1,h1]
structure Rel (E:Env) (base:Nat) (H:Z) (φ:bC) (w:World):Prop where
 bs:base≤w.heap.size
 blocks:∀ i l o,i<H.n→φ i=some l→H.get i=some o→mB E base φ w l o
 lt:∀ i l,i<H.n→φ i=some l→live (H.get i)=true→l.dG<w.heap.size
 inj:∀ i j l m,i<H.n→j<H.n→i≠j→φ i=some l→φ j=some m→gf (H.get i)=true→live (H.get j)=true→l.dG≠m.dG
 iO:∀ g,g<E.d4→∃ l,φ g=some l∧l.dG=g∧l.off=0
structure Step (φ:bC) (W:List Nat) (w w':World):Prop where
 os:w'.os=w.os
 tape:w'.tape=w.tape
 output:w'.output=w.output
 size:w.heap.size≤w'.heap.size
 keep:∀ B,B<w.heap.size→(∀ j∈W,∀ l,φ j=some l→l.dG≠B)→w'.heap[B]?=w.heap[B]?
structure dn (W:List Nat) (H H':Z):Prop where
 n:H.n≤H'.n
 keep:∀ i,i<H.n→i∉W→H'.get i=H.get i
 live:∀ i,i<H.n→live (H'.get i)=true→live (H.get i)=true
 gf:∀ i,i<H.n→gf (H'.get i)=true→gf (H.get i)=true
theorem Step.refl (φ:bC) (W:List Nat) (w:World):Step φ W w w:=⟨rfl,rfl,rfl,Nat.le_refl _,fun _ _ _=>rfl⟩
theorem dn.refl (W:List Nat) (H:Z):dn W H H:=⟨Nat.le_refl _,fun _ _ _=>rfl,fun _ _ h=>h,fun _ _ h=>h⟩
theorem dn.trans {W V:List Nat} {A B C:Z} (h:dn W A B) (k:dn V B C):dn (W++V) A C:=
 ⟨Nat.le_trans h.n k.n,fun i hi hn=>by
   have hn':i∉W∧i∉V:=by simpa using hn
   exact (k.keep i (Nat.lt_of_lt_of_le hi h.n) hn'.2).trans (h.keep i hi hn'.1),
  fun i hi hl=>h.live i hi (k.live i (Nat.lt_of_lt_of_le hi h.n) hl),fun i hi hl=>h.gf i hi (k.gf i (Nat.lt_of_lt_of_le hi h.n) hl)⟩
theorem dn.wider {W V:List Nat} {A B:Z} (h:dn W A B) (hs:∀ i,i∈W→i∈V):dn V A B:=
 ⟨h.n,fun i hi hn=>h.keep i hi (fun hw=>hn (hs i hw)),h.live,h.gf⟩
structure Out (E:Env) (base:Nat) (φ:bC) (w:World) (H H':Z) (W:List Nat) (be:bC) (w':World):Prop where
 ext:∀ i,(i<H.n∨H'.n≤i)→be i=φ i
 rel:Rel E base H' be w'
 step:Step φ W w w'
 fresh:∀ i l,H.n≤i→i<H'.n→be i=some l→
  w.heap.size≤l.dG∨∃ j∈W,∃ m,j<H.n∧φ j=some m∧m.dG=l.dG∧gf (H.get j)=true∧live (H'.get j)=false
def gw (φ:bC) (a b:Nat):Prop:=∀ i,a≤i→i<b→φ i=none
theorem Out.sub {E:Env} {base:Nat} {φ:bC} {w:World} {H H':Z} {W:List Nat} {be:bC} {w':World} (h:Out E base φ w H H' W be w') (hf:gw φ H.n H'.n) :
  ∀ i l,φ i=some l→be i=some l:=by
 intro i l hi
 by_cases h1:i<H.n
 ·rw [h.ext i (.inl h1)];exact hi
 ·by_cases h2:H'.n≤i
  ·rw [h.ext i (.inr h2)];exact hi
  ·rw [hf i J J] at hi;cases hi
theorem Out.refl {E:Env} {base:Nat} {φ:bC} {w:World} {H:Z} (W:List Nat) (h:Rel E base H φ w):Out E base φ w H H W φ w:=
 ⟨fun _ _=>rfl,h,Step.refl ..,fun i l h1 h2=>by omega⟩
theorem Out.trans {E:Env} {base:Nat} {φ:bC} {w:World} {H H1 H2:Z} {W V:List Nat} {fu o8:bC} {w1 w2:World} (x1:dn W H H1) (aC:dn V H1 H2)
  (h:Out E base φ w H H1 W fu w1) (k:Out E base fu w1 H1 H2 V o8 w2) (hf:gw φ H.n H2.n):Out E base φ w H H2 (W++V) o8 w2:=by
 have n1:=x1.n
 have n2:=aC.n
 refine ⟨fun i hi=>?_,k.rel,⟨k.step.os.trans h.step.os,k.step.tape.trans h.step.tape,k.step.output.trans h.step.output,Nat.le_trans h.step.size k.step.size,fun B hB hn=>?_⟩,fun i l h1 h2 hl=>?_⟩
 ·rcases hi with hi |hi
  ·rw [k.ext i (.inl J),h.ext i (.inl hi)]
  ·rw [k.ext i (.inr hi),h.ext i (.inr J)]
 ·have e1:w1.heap[B]?=w.heap[B]?:=h.step.keep B hB fun j hj l hl=>hn j (by simp [hj]) l hl
  have:=h.step.size
  rw [← e1]
  refine k.step.keep B J fun j hj l hl=>?_
  by_cases BW:j<H.n∨H1.n≤j
  ·rw [h.ext j BW] at hl;exact hn j (by simp [hj]) l hl
  ·rcases h.fresh j l J J hl with hb |⟨j',hj',m,_,hm,hml,_⟩
   ·omega
   ·rw [← hml];exact hn j' (by simp [hj']) m hm
 ·by_cases hi:i<H1.n
  ·have fk:fu i=some l:=by rw [← k.ext i (.inl hi)];exact hl
   rcases h.fresh i l h1 hi fk with hb |⟨j,hj,m,hjn,hm,hml,hw,hd⟩
   ·exact .inl hb
   ·refine .inr ⟨j,by simp [hj],m,hjn,hm,hml,hw,?_⟩
    cases hlv:live (H2.get j) with
    |false=>rfl
    |true=>rw [aC.live j J hlv] at hd;exact hd
  ·rcases k.fresh i l J h2 hl with hb |⟨j,hj,m,hjn,hm,hml,hw,hd⟩
   ·have:=h.step.size;exact .inl J
   ·by_cases BW:j<H.n
    ·rw [h.ext j (.inl BW)] at hm
     exact .inr ⟨j,by simp [hj],m,BW,hm,hml,x1.gf j BW hw,hd⟩
    ·rcases h.fresh j m J hjn hm with hb |⟨j',hj',m',XU,hm',ah7,hw',hd'⟩
     ·exact .inl J
     ·refine .inr ⟨j',by simp [hj'],m',XU,hm',by omega,hw',?_⟩
      cases hlv:live (H2.get j') with
      |false=>rfl
      |true=>rw [aC.live j' J hlv] at hd';exact hd'
end Go.Am
namespace Go.Am
def fr {α:Type} (P:Program):Sem α→Option α
 |.pure a=>some a
 |.program k=>fr P (k P)
 |.mark _ k=>fr P k
 |_=>none
abbrev cg:=de Value
def ev (E:Env) (T:cg):Operand→Option Value
 |.tmp t=>T.get t
 |.const v=>bif ground v then some v else none
 |.global g=>bif Nat.blt g E.d4 then some (.pointer (some ⟨g,0,none⟩)) else none
 |.func f=>some (.func (.func f) #[] #[])
def mK (E:Env) (T:cg):List Operand→Option (List Value)
 |[]=>some []
 |x::xs=>match ev E T x with
  |some v=>match mK E T xs with
   |some vs=>some (v::vs)
   |none=>none
  |none=>none
def l8 (E:Env) (T:cg):Option Operand→Option (Option Value)
 |none=>some none
 |some x=>match ev E T x with
  |some v=>some (some v)
  |none=>none
def splice:List Value→Nat→List Value→List Value
 |c,0,[]=>c
 |[],_,_=>[]
 |_::c,0,x::xs=>x::splice c 0 xs
 |y::c,k+1,xs=>y::splice c k xs
def row (h:Z) (b off n:Nat):Option (List Value):=
 match h.get b with
 |some (.cells c _ _)=>bif Nat.ble (off+n) c.length then some ((c.drop off).take n) else none
 |_=>none
def cell (h:Z) (b off:Nat):Option Value:=
 match h.get b with
 |some (.cells c _ _)=>c[off]?
 |_=>none
def al (E:Env) (t:TypeId) (b off:Nat) (h:Z):Option Value:=
 match E.agg t with
 |some true=>match E.size t with
  |some n=>match row h b off n with
   |some xs=>some (.agg xs.toArray)
   |none=>none
  |none=>none
 |some false=>cell h b off
 |none=>none
def bu (E:Env) (t:TypeId) (b off:Nat) (v:Value) (h:Z):Option Z:=
 match h.get b with
 |some (.cells c e false)=>match E.size t with
  |some n=>bif Nat.beq v.cells.size n&&v.cells.toList.all one&&Nat.ble (off+n) c.length then some (h.set b (.cells (splice c off v.cells.toList) e false)) else none
  |none=>none
 |_=>none
def FW (E:Env) (t:TypeId) (cs:Array Value) (off:Nat):Option Value:=
 match E.agg t with
 |some true=>match E.size t with
  |some n=>some (.agg (cs.extract off (off+n)))
  |none=>none
 |some false=>cs[off]?
 |none=>none
abbrev qz:=Option (Value×Z×List Nat×List Nat)
def dw:Value:=.tuple #[]
def aiW (E:Env) (e:TypeId) (cs:List Value) (h:Z):Z:=h.new (.cells cs e false)
def iM (z:List Value):Nat→List Value
 |0=>[]
 |n+1=>z++iM z n
def xo (E:Env) (T:cg) (place:Nat→Option (Nat×Nat)) (c:List Value):List (Nat×Operand)→Option (List Value)
 |[]=>some c
 |(i,x)::rest=>match place i with
  |some (off,size)=>match ev E T x with
   |some v=>bif Nat.beq v.cells.size size&&Nat.ble (off+size) c.length then xo E T place (splice c off v.cells.toList) rest else none
   |none=>none
  |none=>none
def Ki (E:Env) (fs:Array Field) (i:Nat):Option (Nat×Nat):=
 match fs[i]? with
 |some f=>match E.size f.type with
  |some n=>some (f.offset,n)
  |none=>none
 |none=>none
def Ho (E:Env) (T:cg) (t:TypeId) (parts:Array (Nat×Operand)):Option Value:=
 match E.zero t,E.ul t with
 |some z,some (.struct fs)=>
  bif ground z&&fs.all (fun f=>(E.size f.type).isSome) then
  match xo E T (Ki E fs) z.cells.toList parts.toList with
  |some c=>some (.agg c.toArray)
  |none=>none
  else none
 |some z,some (.array _ e)=>match E.size e with
  |some n=>bif ground z then (match xo E T (fun i=>some (i*n,n)) z.cells.toList parts.toList with
   |some c=>some (.agg c.toArray)
   |none=>none) else none
  |none=>none
 |_,_=>none
def intOf (v:Value):Option Int:=match v with |.int _ n=>some n |_=>none
def upto (v:Value) (y:Nat):Option Nat:=match v with |.int _ n=>bif (decide (0≤n)&&decide (n≤(y:Int))) then some n.toNat else none |_=>none
def kW (v:Option Value) (y d:Nat):Option Nat:=match v with |none=>some d |some v=>upto v y
inductive Sq where
 |known (c:Nat)
 |yF (s:Nat)
def nk (c:Nat):Sq:=bif Nat.beq (c%2) 1 then .known (c / 2) else .yF (c / 2)
def sO (lo hi mx:Option Value) (len cap:Nat):Option (Nat×Nat×Nat):=
 bif mx.isSome&&hi.isNone then none else
 match kW mx cap cap with
 |some m=>match kW hi m len with
  |some h=>match kW lo h 0 with
   |some l=>some (l,h,m)
   |none=>none
  |none=>none
 |none=>none
def pJ (E:Env) (t:TypeId) (x:Value) (lo hi mx:Option Value):Option Value:=
 match x with
 |.slice none 0 0=>match E.ul t with
  |some (.slice e)=>match E.size e,sO lo hi mx 0 0 with
   |some _,some _=>some (.slice none 0 0)
   |_,_=>none
  |_=>none
 |.slice (some ⟨b,off,none⟩) n c=>match E.ul t with
  |some (.slice e)=>match E.size e with
   |some sz=>match nk c with
    |.known k=>match sO lo hi mx n k with
     |some (l,h,m)=>some (.slice (some (bif Nat.beq m l then ⟨b,off,none⟩ else ⟨b,off+l*sz,none⟩)) (h-l) (2*(m-l)+1))
     |none=>none
    |.yF s=>match sO lo hi mx n n with
     |some (l,h,m)=>match mx with
      |some _=>some (.slice (some (bif Nat.beq m l then ⟨b,off,none⟩ else ⟨b,off+l*sz,none⟩)) (h-l) (2*(m-l)+1))
      |none=>bif Nat.beq s sz&&(Nat.beq l 0||Nat.blt l n) then some (.slice (some ⟨b,off+l*sz,none⟩) (h-l) (2*s)) else none
     |none=>none
   |none=>none
  |_=>none
 |.pointer (some ⟨b,off,none⟩)=>match E.ul t,mx with
  |some (.array n e),none=>match E.size e,sO lo hi none n n with
   |some sz,some (l,h,m)=>some (.slice (some (bif Nat.beq m l then ⟨b,off,none⟩ else ⟨b,off+l*sz,none⟩)) (h-l) (2*(m-l)+1))
   |_,_=>none
  |_,_=>none
 |_=>none
def HQ (E:Env) (t:TypeId) (x:Value) (f:Nat):Option Value:=
 match x,E.ul t with
 |.pointer (some ⟨b,off,none⟩),some (.struct fs)=>match fs[f]? with
  |some f=>match E.size f.type with
   |some (_+1)=>some (.pointer (some ⟨b,off+f.offset,none⟩))
   |_=>none
  |none=>none
 |_,_=>none
def gk (E:Env) (t:TypeId) (x i:Value):Option Value:=
 match E.ul t,i with
 |some (.array n e),.int _ i=>match x,E.size e with
  |.pointer (some ⟨b,off,none⟩),some sz=>bif decide (0≤i)&&decide (i<(n:Int)) then some (.pointer (some ⟨b,off+i.toNat*sz,none⟩)) else none
  |_,_=>none
 |some (.slice e),.int _ i=>match x,E.size e with
  |.slice (some ⟨b,off,none⟩) n _,some sz=>bif decide (0≤i)&&decide (i<(n:Int)) then some (.pointer (some ⟨b,off+i.toNat*sz,none⟩)) else none
  |_,_=>none
 |_,_=>none
def xk (E:Env) (t:TypeId) (x y:Value):Option Bool:=
 match E.ul t,x,y with
 |some (.pointer _),.pointer none,.pointer (some _)=>some false
 |some (.pointer _),.pointer (some _),.pointer none=>some false
 |some (.pointer e),.pointer (some ⟨b,o,none⟩),.pointer (some ⟨b',o',none⟩)=>match E.size e with
  |some (_+1)=>bif Nat.beq b b' then some (Nat.beq o o') else none
  |_=>none
 |some (.slice _),.slice none 0 0,.slice (some _) _ _=>some false
 |some (.slice _),.slice (some _) _ _,.slice none 0 0=>some false
 |some (.map _ _),.map none,.map (some _)=>some false
 |some (.map _ _),.map (some _),.map none=>some false
 |some (.func _ _ _),.nilFunc,.func _ _ _=>some false
 |some (.func _ _ _),.func _ _ _,.nilFunc=>some false
 |some (.interface _),.nilIface,.iface _ _=>some false
 |some (.interface _),.iface _ _,.nilIface=>some false
 |_,_,_=>none
def pu (k:Value):List MapEntry→Option (Option Value)
 |[]=>some none
 |e::es=>match k,e.key with
  |.string a,.string b=>bif a==b then some (some e.val) else pu k es
  |.int i a,.int j b=>bif decide (i=j) then (bif decide (a=b) then some (some e.val) else pu k es) else none
  |_,_=>none
def r8 (k v:Value) (clock:Nat):List MapEntry→Option (List MapEntry×Bool)
 |[]=>some ([{ key:=k,val:=v,born:=clock }],true)
 |e::es=>match k,e.key with
  |.string a,.string b=>bif a==b then some ({ e with key:=k,val:=v }::es,false) else match r8 k v clock es with |some (es,n)=>some (e::es,n) |none=>none
  |.int i a,.int j b=>bif decide (i=j) then (bif decide (a=b) then some ({ e with key:=k,val:=v }::es,false) else match r8 k v clock es with |some (es,n)=>some (e::es,n) |none=>none) else none
  |_,_=>none
def qM:TypeDesc→Value→Bool
 |.string,.string _=>true
 |.int k,.int k' _=>decide (k=k')
 |_,_=>false
def g9 (h:Z) (sz:Nat):Value→Option (Nat×List Value×List Nat)
 |.string s=>some (s.size,(s.data.map fun b=>.int .u8 b.toNat).toList,[])
 |.slice none 0 0=>some (0,[],[])
 |.slice (some ⟨b,off,none⟩) n _=>match row h b off (n*sz) with
  |some xs=>some (n,xs,[b])
  |none=>none
 |_=>none
def most:Nat:=1099511627776
def tQ (x:Value) (sz:Nat):Bool:=match x with |.string _=>Nat.beq sz 1 |_=>true
def A2 (E:Env) (ts:Array TypeId):Bool:=
 match ts[1]? with
 |some u=>match E.ul u with
  |some (.int _)=>true
  |some _=>false
  |none=>true
 |none=>false
def za (E:Env) (e:TypeId) (i:TypeInfo) (s:Value) (m:Nat) (new:List Value) (R:List Nat) (h:Z):qz:=
 match s with
 |.slice none 0 0=>
  bif Nat.beq m 0 then some (.slice none 0 0,h,[],R) else
  bif Nat.ble (m*i.bytes) most then some (.slice (some ⟨h.n,0,none⟩) m (2*i.size),h.new (.cells new e false),[],R) else none
 |.slice (some ⟨b,off,none⟩) n c=>match nk c with
  |.known c=>
   bif Nat.ble (n+m) c then
    match h.get b with
    |some (.cells cs e' false)=>
     bif Nat.ble (off+(n+m)*i.size) cs.length then some (.slice (some ⟨b,off,none⟩) (n+m) (2*c+1),h.set b (.cells (splice cs (off+n*i.size) new) e' false),[b],b::R) else none
    |_=>none
   else match row h b off (n*i.size) with
    |some old=>bif Nat.ble ((n+m)*i.bytes) most then some (.slice (some ⟨h.n,0,none⟩) (n+m) (2*i.size),h.new (.cells (old++new) e false),[],b::R) else none
    |none=>none
  |.yF s=>
   match h.get b with
   |some (.cells cs e' false)=>
    bif Nat.ble (off+n*i.size) cs.length&&Nat.beq s i.size&&Nat.beq e e'&&Nat.ble ((n+m)*i.bytes) most then some (.slice (some ⟨h.n,0,none⟩) (n+m) (2*s),(h.set b .dead).new (.cells ((cs.drop off).take (n*i.size)++new) e false),[b],b::R) else none
   |_=>none
 |_=>none
def gZ (E:Env) (ts:Array TypeId) (s x:Value) (h:Z):qz:=
 match ts[0]? with
 |some t=>match E.ul t with
  |some (.slice e)=>match E.info e with
   |some i=>match i.zero with
    |some z=>
     bif !A2 E ts&&Nat.beq z.cells.size i.size&&Nat.blt 0 i.size&&Nat.blt 0 i.bytes&&tQ x i.size then
     match g9 h i.size x with
     |some (m,new,R)=>bif new.all one then za E e i s m new R h else none
     |none=>none
     else none
    |none=>none
   |none=>none
  |_=>none
 |none=>none
def qC (E:Env) (T:cg) (xs:List Operand):Bool:=xs.all fun x=>match ev E T x with |some v=>ground v |none=>false
def l9 (E:Env) (T:cg) (o:Oper):Option Value:=
 bif qC E T o.op.operands.toList then
  match fr E.P (execOp (fun x=>(ev E T x).getD dw) o) with
  |some (.value v)=>bif ground v then some v else none
  |_=>none
 else none
def JA (E:Env) (ts:Array TypeId) (x:Value) (h:Z):qz:=
 match ts[0]? with
 |some t=>match E.ul t,x with
  |some (.slice _),.slice _ n _=>some (.int .i64 n,h,[],[])
  |some .string,.string s=>some (.int .i64 s.size,h,[],[])
  |some (.map _ _),.map none=>some (.int .i64 0,h,[],[])
  |some (.map _ _),.map (some b)=>match h.get b with
   |some (.map es _)=>some (.int .i64 es.length,h,[],[b])
   |_=>none
  |some (.pointer p),_=>match E.ul p with
   |some (.array n _)=>some (.int .i64 n,h,[],[])
   |_=>none
  |_,_=>none
 |none=>none
def Hu (E:Env) (ts:Array TypeId) (x:Value) (h:Z):qz:=
 match ts[0]? with
 |some t=>match E.ul t,x with
  |some (.slice _),.slice none 0 0=>some (.int .i64 0,h,[],[])
  |some (.slice _),.slice (some _) n c=>match nk c with |.known k=>some (.int .i64 k,h,[],[]) |_=>none
  |_,_=>none
 |none=>none
def Ed (E:Env) (ts:Array TypeId) (d s:Value) (h:Z):qz:=
 match ts[0]? with
 |some t=>match E.ul t with
  |some (.slice e)=>match E.size e with
   |some sz=>bif tQ s sz then (match d,g9 h sz s with
    |.slice none 0 0,some (m,new,R)=>some (.int .i64 0,h,[],R)
    |.slice (some ⟨b,off,none⟩) n _,some (m,new,R)=>
     match h.get b with
     |some (.cells cs e' false)=>
      bif Nat.ble (off+min m n*sz) cs.length&&new.all one then some (.int .i64 ((min m n:Nat):Int),h.set b (.cells (splice cs off (new.take (min m n*sz))) e' false),[b],b::R) else none
     |_=>none
    |_,_=>none) else none
   |none=>none
  |_=>none
 |none=>none
def xg (E:Env) (ts:Array TypeId) (x:Value) (h:Z):qz:=
 match ts[0]? with
 |some t=>match E.ul t,x with
  |some (.slice e),.slice _ 0 _=>some (dw,h,[],[])
  |some (.slice e),.slice (some ⟨b,off,none⟩) (n+1) _=>match E.zero e,h.get b with
   |some z,some (.cells cs e' false)=>
    bif Nat.ble (off+(n+1)*z.cells.size) cs.length&&z.cells.toList.all one&&ground z then some (dw,h.set b (.cells (splice cs off (iM z.cells.toList (n+1))) e' false),[b],[b]) else none
   |_,_=>none
  |_,_=>none
 |none=>none
def Fb (E:Env) (t:TypeId) (l c:Value) (h:Z):qz:=
 match E.ul t,l,c with
 |some (.slice e),.int _ l,.int _ c=>match E.info e with
  |some i=>match i.zero with
   |some z=>
    bif decide (0≤l)&&decide (l≤c)&&decide (c*i.bytes≤(most:Int))&&decide (c≤(most:Int))&&Nat.beq z.cells.size i.size&&z.cells.toList.all one&&ground z then
     some (.slice (some ⟨h.n,0,none⟩) l.toNat (2*c.toNat+1),h.new (.cells (iM z.cells.toList c.toNat) e false),[],[])
    else none
   |none=>none
  |none=>none
 |_,_,_=>none
def Hp (E:Env) (T:cg) (t:TypeId) (len:Nat) (parts:Array (Nat×Operand)) (h:Z):qz:=
 match E.ul t with
 |some (.slice e)=>match E.size e,E.zero e with
  |some n,some z=>
   bif Nat.ble (len*n) 16777216&&Nat.beq z.cells.size n&&ground z then
    match xo E T (fun i=>some (i*n,n)) (iM z.cells.toList len) parts.toList with
    |some c=>bif c.all one then some (.slice (some ⟨h.n,0,none⟩) len (2*len+1),h.new (.cells c e false),[],[]) else none
    |none=>none
   else none
  |_,_=>none
 |_=>none
def n5 (E:Env) (t:TypeId) (m k:Value) (ok:Bool) (h:Z):qz:=
 match E.ul t with
 |some (.map kt yH)=>match E.ul kt,E.zero yH with
  |some kd,some z=>
   bif qM kd k then
    match (match m with |.map none=>some ([],[]) |.map (some b)=>(match h.get b with |some (.map es _)=>some (es,[b]) |_=>none) |_=>none:Option (List MapEntry×List Nat)) with
    |some (es,R)=>match pu k es with
     |some (some v)=>some (bif ok then .tuple #[v,.bool true] else v,h,[],R)
     |some none=>bif ground z then some (bif ok then .tuple #[z,.bool false] else z,h,[],R) else none
     |none=>none
    |none=>none
   else none
  |_,_=>none
 |_=>none
def g5 (E:Env) (t:TypeId) (m k v:Value) (h:Z):qz:=
 match E.ul t,m with
 |some (.map kt yH),.map (some b)=>match E.ul kt,h.get b with
  |some kd,some (.map es clock)=>
   bif qM kd k then
    match r8 k v clock es with
    |some (es',n)=>some (dw,h.set b (.map es' (bif n then clock+1 else clock)),[b],[b])
    |none=>none
   else none
  |_,_=>none
 |_,_=>none
def x8 (want:List (String×TypeId)) (got:Array Method):Bool:=want.all fun m=>got.any fun g=>g.name==m.1&&g.sig==m.2
def Hd (E:Env) (x:Value) (a:TypeId) (ok:Bool):Option Value:=
 match E.ul a,x with
 |some (.interface want),.iface t v=>match E.info t with
  |some i=>bif x8 want.toList i.methods then some (bif ok then .tuple #[x,.bool true] else x) else
    match E.zero a with |some z=>bif ok&&ground z then some (.tuple #[z,.bool false]) else none |none=>none
  |none=>none
 |some (.interface _),.nilIface=>match E.zero a with |some z=>bif ok&&ground z then some (.tuple #[z,.bool false]) else none |none=>none
 |some _,.iface t v=>bif Nat.beq t a then some (bif ok then .tuple #[v,.bool true] else v) else
    match E.zero a with |some z=>bif ok&&ground z then some (.tuple #[z,.bool false]) else none |none=>none
 |some _,.nilIface=>match E.zero a with |some z=>bif ok&&ground z then some (.tuple #[z,.bool false]) else none |none=>none
 |_,_=>none
def ue:List Value→Option (List UInt8)
 |[]=>some []
 |.int .u8 n::xs=>match ue xs with |some r=>some (UInt8.ofNat n.toNat::r) |none=>none
 |_=>none
def zj (E:Env) (s d:TypeId) (x:Value) (h:Z):qz:=
 match E.ul s,E.ul d,x with
 |some .string,some (.slice e),.string b=>match E.ul e with
  |some (.int .u8)=>bif Nat.ble b.size most then some (.slice (some ⟨h.n,0,none⟩) b.size 2,h.new (.cells ((b.data.map fun b=>.int .u8 b.toNat).toList) e false),[],[]) else none
  |_=>none
 |some (.slice e),some .string,.slice none 0 0=>match E.ul e with
  |some (.int .u8)=>some (.string ⟨#[]⟩,h,[],[])
  |_=>none
 |some (.slice e),some .string,.slice (some ⟨b,off,none⟩) n _=>match E.ul e with
  |some (.int .u8)=>match row h b off n with
   |some xs=>match ue xs with
    |some l=>some (.string ⟨l.toArray⟩,h,[],[b])
    |none=>none
   |none=>none
  |_=>none
 |_,_,_=>none
def simple (E:Env) (o:Oper) (T:cg) (h:Z):qz:=
 match o.op with
 |.move x |.assign x=>match ev E T x with |some v=>some (v,h,[],[]) |none=>none
 |.pick c a b=>match ev E T c with
  |some (.bool true)=>match ev E T a with |some v=>some (v,h,[],[]) |none=>none
  |some (.bool false)=>match ev E T b with |some v=>some (v,h,[],[]) |none=>none
  |_=>none
 |.alloc t=>match E.zero t,E.size t with
  |some z,some n=>bif ground z&&Nat.beq z.cells.size n then some (.pointer (some ⟨h.n,0,none⟩),h.new (.cells z.cells.toList t false),[],[]) else none
  |_,_=>none
 |.box t x=>match ev E T x with
  |some v=>some (.pointer (some ⟨h.n,0,none⟩),h.new (.cells v.cells.toList t false),[],[])
  |none=>none
 |.build t ps=>match Ho E T t ps with |some v=>some (v,h,[],[]) |none=>none
 |.buildSlice t len ps=>Hp E T t len ps h
 |.load t x=>match ev E T x with
  |some (.pointer (some ⟨b,off,none⟩))=>match al E t b off h with |some v=>some (v,h,[],[b]) |none=>none
  |_=>none
 |.store t x v=>match ev E T x,ev E T v with
  |some (.pointer (some ⟨b,off,none⟩)),some v=>match bu E t b off v h with |some h'=>some (dw,h',[b],[b]) |none=>none
  |_,_=>none
 |.nilCheck x=>match ev E T x with
  |some (.pointer (some a))=>some (.pointer (some a),h,[],[])
  |some (.func (.func f) a b)=>some (.func (.func f) a b,h,[],[])
  |some (.iface t v)=>some (.iface t v,h,[],[])
  |_=>none
 |.binOp op t x y _=>match l9 E T o with
  |some v=>some (v,h,[],[])
  |none=>match op,ev E T x,ev E T y with
   |.eql,some x,some y=>match xk E t x y with |some b=>some (.bool b,h,[],[]) |none=>none
   |.neq,some x,some y=>match xk E t x y with |some b=>some (.bool (!b),h,[],[]) |none=>none
   |_,_,_=>none
 |.unOp _ _ _=>match l9 E T o with |some v=>some (v,h,[],[]) |none=>none
 |.convert s d x=>match l9 E T o with
  |some v=>some (v,h,[],[])
  |none=>match ev E T x with |some v=>zj E s d v h |none=>none
 |.makeInterface t x=>match ev E T x,E.ul t with
  |_,some (.interface _)=>none
  |some v,some _=>some (.iface t v,h,[],[])
  |_,_=>none
 |.makeFunc (.func f) a b=>match mK E T a.toList,mK E T b.toList with
  |some a,some b=>some (.func (.func f) a.toArray b.toArray,h,[],[])
  |_,_=>none
 |.makeMap t r=>match l8 E T r with
  |some none=>some (.map (some h.n),h.new (.map [] 0),[],[])
  |some (some (.int _ _))=>match E.ul t with |some (.map _ _)=>some (.map (some h.n),h.new (.map [] 0),[],[]) |_=>none
  |_=>none
 |.makeSlice t l c=>match ev E T l,ev E T c with
  |some l,some c=>Fb E t l c h
  |_,_=>none
 |.slice t x l hi m=>match ev E T x,l8 E T l,l8 E T hi,l8 E T m with
  |some (.string s),some l,some hi,some m=>match l9 E T o with |some v=>some (v,h,[],[]) |none=>none
  |some x,some l,some hi,some m=>match pJ E t x l hi m with |some v=>some (v,h,[],[]) |none=>none
  |_,_,_,_=>none
 |.fieldAddr t x f=>match ev E T x with
  |some x=>match HQ E t x f with |some v=>some (v,h,[],[]) |none=>none
  |none=>none
 |.field t x f=>match ev E T x,E.ul t with
  |some (.agg cs),some (.struct fs)=>match fs[f]? with
   |some f=>match FW E f.type cs f.offset with |some v=>some (v,h,[],[]) |none=>none
   |none=>none
  |_,_=>none
 |.indexAddr t x i=>match ev E T x,ev E T i with
  |some x,some i=>match gk E t x i with |some v=>some (v,h,[],[]) |none=>none
  |_,_=>none
 |.index t x i=>match l9 E T o with
  |some v=>some (v,h,[],[])
  |none=>match ev E T x,ev E T i,E.ul t with
   |some (.agg cs),some (.int _ i),some (.array n e)=>match E.size e with
    |some sz=>bif decide (0≤i)&&decide (i<(n:Int)) then (match FW E e cs (i.toNat*sz) with |some v=>some (v,h,[],[]) |none=>none) else none
    |none=>none
   |_,_,_=>none
 |.lookup t m k ok=>match ev E T m,ev E T k with
  |some m,some k=>n5 E t m k ok h
  |_,_=>none
 |.mapUpdate t m k v |.insert t m k v=>match ev E T m,ev E T k,ev E T v with
  |some m,some k,some v=>g5 E t m k v h
  |_,_,_=>none
 |.typeAssert x _ a ok=>match ev E T x with
  |some x=>match Hd E x a ok with |some v=>some (v,h,[],[]) |none=>none
  |none=>none
 |.extract x i=>match ev E T x with
  |some (.tuple vs)=>match vs[i]? with |some v=>some (v,h,[],[]) |none=>none
  |_=>none
 |.call { callee:=.builtin .len,args,argTypes }=>match mK E T args.toList with |some [x]=>JA E argTypes x h |_=>none
 |.call { callee:=.builtin .cap,args,argTypes }=>match mK E T args.toList with |some [x]=>Hu E argTypes x h |_=>none
 |.call { callee:=.builtin .append,args,argTypes }=>match mK E T args.toList with |some [s,x]=>gZ E argTypes s x h |_=>none
 |.call { callee:=.builtin .copy,args,argTypes }=>match mK E T args.toList with |some [d,s]=>Ed E argTypes d s h |_=>none
 |.call { callee:=.builtin .clear,args,argTypes }=>match mK E T args.toList with |some [x]=>xg E argTypes x h |_=>none
 |.call { callee:=.builtin .max,.. } |.call { callee:=.builtin .min,.. }=>match l9 E T o with |some v=>some (v,h,[],[]) |none=>none
 |_=>none
inductive fx where
 |normal
 |exit (id:Nat)
 |goto (l:Nat)
 |ret
 |panic (v:Value)
structure gW where
 t:cg
 h:Z
 d:List (Value×List Value)
 w:List Nat
abbrev Call:=FuncId→List Value→Z→vr
def mo (T:cg) (aA:Nat) (d:Option Tmp) (v:Value):Option cg:=
 match d with
 |some d=>bif Nat.blt d aA then some (T.set d v) else none
 |none=>some T
def vi (ops:Array Oper) (T:cg) (o:Oper):Option Bool:=
 match o.guard with
 |none=>some true
 |some (j,want)=>match ops[j]? with
  |some p=>match p.dst with
   |some d=>match T.get d with
    |some (.bool b)=>some (b==want)
    |some _=>some false
    |none=>none
   |none=>some false
  |none=>some false
def Ge (E:Env) (T:cg) (c:Go.Call):Option (FuncId×List Value):=
 match mK E T c.args.toList with
 |some args=>match c.callee with
  |.value f=>match ev E T f with
   |some (.func (.func g) a b)=>some (g,a.toList++args++b.toList)
   |_=>none
  |.invoke r name=>match ev E T r with
   |some (.iface t v)=>match E.info t with
    |some i=>match i.methods.find? (·.name==name) with
     |some m=>bif m.path.isEmpty then (match m.func with
      |some (f,p)=>match E.ul t with
       |some (.pointer _)=>bif p then some (f,v::args) else none
       |some _=>bif p then none else some (f,v::args)
       |none=>none
      |none=>none) else none
     |none=>none
    |none=>none
   |_=>none
  |.builtin _=>none
 |none=>none
inductive G5 where
 |val (v:Value) (h:Z) (d:List (Value×List Value)) (w:List Nat) (r:Option (List Nat))
 |q2 (v:Value) (h:Z) (w:List Nat)
def gJ (E:Env) (call:Call) (o:Oper) (T:cg) (h:Z) (d:List (Value×List Value)):Option G5:=
 match o.op with
 |.call { callee:=.builtin _,.. }=>match simple E o T h with
  |some (v,h',w,r)=>some (.val v h' d w (some r))
  |none=>none
 |.call c=>match Ge E T c with
  |some (f,args)=>match call f args h with
   |some (.ret v,h',w)=>some (.val v h' d w none)
   |some (.q2 v,h',w)=>some (.q2 v h' w)
   |none=>none
  |none=>none
 |.defer { callee:=.value f,args,.. }=>match ev E T f,mK E T args.toList with
  |some (.func (.func g) a b),some args=>some (.val dw h ((.func (.func g) a b,args)::d) [] (some []))
  |_,_=>none
 |.panic x=>match ev E T x with
  |some (.iface t v)=>some (.q2 (.iface t v) h [])
  |_=>none
 |_=>match simple E o T h with
  |some (v,h',w,r)=>some (.val v h' d w (some r))
  |none=>none
def At (E:Env) (call:Call) (aA:Nat) (ops:Array Oper):List Oper→gW→Option (Option Value×gW)
 |[],s=>some (none,s)
 |o::rest,s=>match vi ops s.t o with
  |some true=>match gJ E call o s.t s.h s.d with
   |some (.val v h d w _)=>match mo s.t aA o.dst v with
    |some t=>At E call aA ops rest ⟨t,h,d,s.w++w⟩
    |none=>none
   |some (.q2 v h w)=>some (some v,⟨s.t,h,s.d,s.w++w⟩)
   |none=>none
  |some false=>match mo s.t aA o.dst dw with
   |some t=>At E call aA ops rest ⟨t,s.h,s.d,s.w⟩
   |none=>none
  |none=>none
def afv:Operand→Option Tmp
 |.tmp t=>some t
 |_=>none
def mS (ops:Array Oper) (o:Oper):List Tmp:=
 o.op.operands.toList.filterMap afv ++
 (match o.guard with
  |some (j,_)=>match ops[j]? with
   |some p=>match p.dst with
    |some d=>[d]
    |none=>[]
   |none=>[]
  |none=>[])
def oR (T:cg):List Tmp→cg→cg
 |[],a=>a
 |t::ts,a=>match T.get t with
  |some v=>oR T ts (a.set t v)
  |none=>oR T ts a
structure iX where
 dst:Option Tmp
 looks:List Tmp
 w:List Nat
 r:Option (List Nat)
 lo:Nat
 hi:Nat
def cK (h h':Z) (w:List Nat):Bool:=w.all fun q=>bif Nat.blt q h.n then gf (h.get q) else Nat.blt q h'.n
def yi (E:Env) (call:Call) (aA:Nat) (ops:Array Oper):List Oper→gW→List iX→Option (gW×List iX)
 |[],s,fs=>some (s,fs.reverse)
 |o::rest,s,fs=>match vi ops (oR s.t (mS ops o) .nil) o with
  |some true=>match gJ E call o (oR s.t (mS ops o) .nil) s.h s.d with
   |some (.val v h d w r)=>match mo s.t aA o.dst v,cK s.h h w with
    |some t,true=>yi E call aA ops rest ⟨t,h,d,s.w++w⟩ (⟨o.dst,mS ops o,w.filter (Nat.blt · s.h.n),r,s.h.n,h.n⟩::fs)
    |_,_=>none
   |_=>none
  |some false=>match mo s.t aA o.dst dw with
   |some t=>yi E call aA ops rest ⟨t,s.h,s.d,s.w⟩ (⟨o.dst,mS ops o,[],some [],s.h.n,s.h.n⟩::fs)
   |none=>none
  |none=>none
def zz (x:Nat) (l:List Nat):Bool:=l.any (Nat.beq x)
def xi (a b:List Nat):Bool:=a.all fun x=>!zz x b
def xj (a:List Nat) (b:Option (List Nat)):Bool:=match b with |some b=>xi a b |none=>a.isEmpty
def vK (d:Option Tmp) (l:List Tmp):Bool:=match d with |some d=>!zz d l |none=>true
def y9 (x y:iX):Bool:=
 vK x.dst y.looks&&vK y.dst x.looks&&vK x.dst y.dst.toList&&xi x.w y.w&&xj x.w y.r&&xj y.w x.r&&y.w.all fun q=>Nat.blt q x.lo||Nat.ble x.hi q
def indep (gu:Array Nat) (fs:List iX):Bool:=
 (fs.zipIdx).all fun (f,j)=>(fs.zipIdx).all fun (g,i)=>Nat.ble j i||(gu.getD j 0).testBit i||y9 g f
def HJ (ops:Array Oper):Bool:=ops.zipIdx.all fun (o,i)=>o.after.all fun e=>!Region.binds .any e||Nat.blt e.on i
def FN (ops:Array Oper):Bool:=ops.all fun o=>match o.op with |.defer _ |.panic _=>false |_=>true
def q3 (ops:Array Oper):Bool:=
 HJ ops&&FN ops &&
 (!Region.departs ops||(Nat.beq (Region.linearise .text ops 0).length ops.size&&Nat.beq (Region.linearise .gc ops 0).length ops.size))
def AE (E:Env) (call:Call) (aA:Nat) (ops:Array Oper) (draw:Bool) (s:gW):Option (Option Value×gW):=
 bif draw then
  bif q3 ops then
   match yi E call aA ops ops.toList s [] with
   |some (s',fs)=>bif indep (Region.before ops) fs then some (none,s') else none
   |none=>none
  else none
 else At E call aA ops ops.toList s
def HB (E:Env) (call:Call) (aA:Nat) (self:Code→gW→Option (fx×gW)):Code→gW→Option (fx×gW)
 |.skip,s=>some (.normal,s)
 |.label _,s=>some (.normal,s)
 |.region _ ops draw,s=>match AE E call aA ops draw s with
  |some (none,s')=>some (.normal,s')
  |some (some v,s')=>some (.panic v,s')
  |none=>none
 |.seq a b,s=>match self a s with
  |some (.normal,s')=>self b s'
  |r=>r
 |.cond c a b,s=>match ev E s.t c with
  |some (.bool true)=>self a s
  |some (.bool false)=>self b s
  |_=>none
 |.block id c,s=>match self c s with
  |some (.exit id',s')=>bif Nat.beq id' id then some (.normal,s') else some (.exit id',s')
  |r=>r
 |.loop c,s=>match self c s with
  |some (.normal,s')=>self (.loop c) s'
  |r=>r
 |.exit id,s=>some (.exit id,s)
 |.goto l,s=>some (.goto l,s)
 |.ret,s=>some (.ret,s)
 |_,_=>none
def tS:List Value→Nat→cg→cg
 |[],_,t=>t
 |v::vs,i,t=>tS vs (i+1) (t.set i v)
def tJ (E:Env) (s:gW):List ResultVar→Option (List Value)
 |[]=>some []
 |.tmp t::rs=>match s.t.get t,tJ E s rs with
  |some v,some vs=>some (v::vs)
  |_,_=>none
 |.cell a t::rs=>match s.t.get a with
  |some (.pointer (some ⟨b,off,none⟩))=>match al E t b off s.h,tJ E s rs with
   |some v,some vs=>some (v::vs)
   |_,_=>none
  |_=>none
def u9 (E:Env) (fn:Func) (s:gW):Option Value:=
 match tJ E s fn.results.toList with
 |some [v]=>some v
 |some vs=>some (.tuple vs.toArray)
 |none=>none
def tk (E:Env) (code:Nat→Code→gW→Option (fx×gW)) (fn:Func) (T:cg):List (Value×List Value)→Option Value→Z→List Nat→vr
 |[],none,h,w=>match u9 E fn ⟨T,h,[],[]⟩ with
  |some v=>some (.ret v,h,w)
  |none=>none
 |[],some v,h,w=>some (.q2 v,h,w)
 |(f,args)::ds,m,h,w=>match f with
  |.func (.func g) a b=>match E.By g with
   |some p=>match p m (a.toList++args++b.toList) h with
    |some (m',h',w')=>tk E code fn T ds m' h' (w++w')
    |none=>none
   |none=>match E.func g with
    |some fn'=>match fn'.body with
     |some c=>bif Nat.ble (a.toList++args++b.toList).length fn'.ntmps then
      match code fn'.ntmps c ⟨tS (a.toList++args++b.toList) 0 .nil,h,[],[]⟩ with
      |some (.normal,s) |some (.ret,s)=>match s.d,u9 E fn' s with
       |[],some _=>tk E code fn T ds m s.h (w++s.w)
       |_,_=>none
      |_=>none
      else none
     |none=>none
    |none=>none
  |_=>none
def Hs (E:Env) (code:Nat→Code→gW→Option (fx×gW)) (f:FuncId) (args:List Value) (h:Z):vr:=
 match E.Az f with
 |some p=>p args h
 |none=>match E.func f with
  |some fn=>match fn.body with
   |some c=>bif Nat.ble args.length fn.ntmps then
    match code fn.ntmps c ⟨tS args 0 .nil,h,[],[]⟩ with
    |some (.normal,s) |some (.ret,s)=>tk E code fn s.t s.d none s.h s.w
    |some (.panic v,s)=>tk E code fn s.t s.d (some v) s.h s.w
    |_=>none
    else none
   |none=>none
  |none=>none
mutual
def exec (E:Env):Nat→Nat→Code→gW→Option (fx×gW)
 |0,_,_,_=>none
 |f+1,aA,c,s=>HB E (vB E f) aA (exec E f aA) c s
def vB (E:Env):Nat→FuncId→List Value→Z→vr
 |0,_,_,_=>none
 |f+1,g,args,h=>Hs E (exec E f) g args h
end
def cW (H:Z):Prop:=∀ i,H.n≤i→H.get i=none
theorem cW.lt {H:Z} (h:cW H) {i:Nat} {o:dL} (hi:H.get i=some o):i<H.n:=by
 rcases Nat.lt_or_ge i H.n with h1 |h1
 ·exact h1
 ·rw [h i h1] at hi;cases hi
theorem cW.new {H:Z} (h:cW H) (o:dL):cW (H.new o):=fun i hi=>by
 rw [Z.jO]
 simp at hi
 rw [if_neg J];exact h i J
theorem cW.set {H:Z} (h:cW H) {b:Nat} (hb:b<H.n) (o:dL):cW (H.set b o):=fun i hi=>by
 rw [Z.kP]
 simp at hi
 rw [if_neg J];exact h i hi
structure Pre (E:Env) (base:Nat) (φ:bC) (w:World) (H:Z) (R:List Nat):Prop where
 bs:base≤w.heap.size
 blocks:∀ i∈R,∀ l o,φ i=some l→H.get i=some o→mB E base φ w l o
 lt:∀ i∈R,∀ l,φ i=some l→live (H.get i)=true→l.dG<w.heap.size
 iO:∀ g,g<E.d4→∃ l,φ g=some l∧l.dG=g∧l.off=0
structure gr (E:Env) (base:Nat) (φ:bC) (w:World) (H H':Z) (W:List Nat) (be:bC) (w':World):Prop where
 wr:∀ j∈W,j<H.n∧gf (H.get j)=true
 ext:∀ i,(i<H.n∨H'.n≤i)→be i=φ i
 step:Step φ W w w'
 fresh:∀ i l,H.n≤i→i<H'.n→be i=some l→
  w.heap.size≤l.dG∨∃ j∈W,∃ m,j<H.n∧φ j=some m∧m.dG=l.dG∧gf (H.get j)=true∧live (H'.get j)=false
 blocks:∀ i l o,(i∈W∨H.n≤i)→i<H'.n→be i=some l→H'.get i=some o→mB E base be w' l o
 lt:∀ i l,H.n≤i→i<H'.n→be i=some l→live (H'.get i)=true→l.dG<w'.heap.size
 inj:∀ i j l m,H.n≤i→i<H'.n→H.n≤j→j<H'.n→i≠j→be i=some l→be j=some m→gf (H'.get i)=true→live (H'.get j)=true→l.dG≠m.dG
theorem Pre.P3 {E:Env} {base:Nat} {H:Z} {φ:bC} {w:World} (wf:cW H) (h:Rel E base H φ w) (R:List Nat):Pre E base φ w H R:=
 ⟨h.bs,fun i _ l o hl ho=>h.blocks i l o (wf.lt ho) hl ho,fun i _ l hl hv=>by
  cases hg:H.get i with
  |none=>rw [hg] at hv;simp [live] at hv
  |some o=>exact h.lt i l (wf.lt hg) hl hv,h.iO⟩
theorem Pre.sub {E:Env} {base:Nat} {H:Z} {φ:bC} {w:World} {R S:List Nat} (h:Pre E base φ w H R) (hs:∀ i,i∈S→i∈R):Pre E base φ w H S:=
 ⟨h.bs,fun i hi=>h.blocks i (hs i hi),fun i hi=>h.lt i (hs i hi),h.iO⟩
theorem gr.out {E:Env} {base:Nat} {φ:bC} {w:World} {H H':Z} {W:List Nat} {be:bC} {w':World} (wf:cW H) (x:dn W H H') (h:Rel E base H φ w) (k:gr E base φ w H H' W be w')
  (hf:gw φ H.n H'.n) (cE:E.d4≤H.n):Out E base φ w H H' W be w':=by
 have hsub:∀ i l,φ i=some l→be i=some l:=by
  intro i l hi
  by_cases h1:i<H.n
  ·rw [k.ext i (.inl h1)];exact hi
  ·by_cases h2:H'.n≤i
   ·rw [k.ext i (.inr h2)];exact hi
   ·rw [hf i J J] at hi;cases hi
 have old:∀ i,¬ (i∈W∨H.n≤i)→i∉W∧i<H.n:=fun i hc=>
  ⟨fun h=>hc (.inl h),by
   rcases Nat.lt_or_ge i H.n with h1 |h1
   ·exact h1
   ·exact absurd (.inr h1) hc⟩
 refine ⟨k.ext,⟨Nat.le_trans h.bs k.step.size,fun i l o hi hl ho=>?_,fun i l hi hl hv=>?_,fun i j l m hi hj hij hl hm hw hv=>?_,fun g hg=>?_⟩,k.step,k.fresh⟩
 ·by_cases hc:i∈W∨H.n≤i
  ·exact k.blocks i l o hc hi hl ho
  ·have xy:=old i hc
   rw [k.ext i (.inl xy.2)] at hl
   rw [x.keep i xy.2 xy.1] at ho
   by_cases hlv:live (H.get i)=true
   ·have hb:=h.blocks i l o xy.2 hl ho
    refine (hb.mono hsub).same (k.step.keep l.dG (h.lt i l xy.2 hl hlv) fun j hj m hm he=>?_)
    obtain ⟨hjn,EN⟩:=k.wr j hj
    exact h.inj j i m l hjn xy.2 (fun e=>xy.1 (e▸hj)) hm hl EN hlv he
   ·rw [ho] at hlv
    unfold live at hlv
    split at hlv
    ·rename_i heq;injection heq with heq;subst heq;intro j x hx;simp at hx
    ·rename_i heq;injection heq with heq;subst heq;trivial
    ·simp at hlv
    ·rename_i heq;cases heq
 ·by_cases hc:i<H.n
  ·rw [k.ext i (.inl hc)] at hl
   exact Nat.lt_of_lt_of_le (h.lt i l hc hl (x.live i hc hv)) k.step.size
  ·exact k.lt i l J hi hl hv
 ·by_cases hi1:i<H.n
  ·rw [k.ext i (.inl hi1)] at hl
   have hw0:=x.gf i hi1 hw
   by_cases vV:j<H.n
   ·rw [k.ext j (.inl vV)] at hm
    exact h.inj i j l m hi1 vV hij hl hm hw0 (x.live j vV hv)
   ·rcases k.fresh j m J hj hm with hb |⟨q,hq,x9,B6,ut,Il,uy,rG⟩
    ·have:=h.lt i l hi1 hl (rX hw0);omega
    ·have hne:q≠i:=fun e=>by
      subst e
      rw [rX hw] at rG;cases rG
     have:=h.inj q i x9 l B6 hi1 hne ut hl uy (rX hw0)
     omega
  ·by_cases vV:j<H.n
   ·rw [k.ext j (.inl vV)] at hm
    have xN:=x.live j vV hv
    rcases k.fresh i l J hi hl with hb |⟨q,hq,x9,B6,ut,Il,uy,rG⟩
    ·have:=h.lt j m vV hm xN;omega
    ·have hne:q≠j:=fun e=>by
      subst e
      rw [hv] at rG;cases rG
     have:=h.inj q j x9 m B6 vV hne ut hm uy xN
     omega
   ·exact k.inj i j l m J hi J hj hij hl hm hw hv
 ·obtain ⟨l,h1,h2⟩:=h.iO g hg
  exact ⟨l,hsub g l h1,h2⟩
theorem gr.same {E:Env} {base:Nat} {φ:bC} {w w':World} {H:Z} (hb:w'.heap=w.heap) (ho:w'.os=w.os) (ht:w'.tape=w.tape) (hp:w'.output=w.output) :
  gr E base φ w H H [] φ w':=
 ⟨fun j hj=>by simp at hj,fun _ _=>rfl,⟨ho,ht,hp,by rw [hb];exact Nat.le_refl _,fun B _ _=>by rw [hb]⟩,fun i l h1 h2=>by omega,
  fun i l o h1 h2=>by simp at h1;omega,fun i l h1 h2=>by omega,fun i j l m h1 h2=>by omega⟩
theorem gr.row {E:Env} {base:Nat} {φ:bC} {w w':World} {H:Z} (mR:Nat) (cs:List Value) (fj:Array Value) (e:TypeId) (lo hi:Nat)
  (hfree:φ H.n=none) (hbase:base≤w.heap.size)
  (hb:w'.heap=w.heap.push (.cells fj e (lo,hi))) (ho:w'.os=w.os) (ht:w'.tape=w.tape) (hp:w'.output=w.output)
  (hl:mR≤fj.size) (hc:cs.length≤mR) (hv:∀(j:Nat) x,cs[j]?=some x→∃ y,fj[j]?=some y∧bn φ x y) (hfz:∀ j,j<mR→¬ (lo≤j∧j<hi)) :
  gr E base φ w H (H.new (.cells cs e false)) [] (fun i=>if i=H.n then some ⟨w.heap.size,0,mR⟩ else φ i) w':=by
 have hm:∀ i l,φ i=some l→(fun i=>if i=H.n then some ⟨w.heap.size,0,mR⟩ else φ i) i=some l:=fun i l h=>by
  show (if i=H.n then _ else _)=_
  rw [if_neg (fun e=>by rw [e,hfree] at h;cases h)];exact h
 refine ⟨fun j hj=>by simp at hj,fun i hi=>?_,⟨ho,ht,hp,by rw [hb];simp,fun B hB _=>?_⟩,fun i l h1 h2 h3=>?_,fun i l o h1 h2 h3 h4=>?_,fun i l h1 h2 h3 _=>?_,fun i j l m h1 h2 h3 h4 h5=>?_⟩
 ·show (if i=H.n then _ else _)=_
  simp at hi
  rw [if_neg J]
 ·rw [hb,Array.getElem?_push,if_neg J]
 ·simp at h2
  have:i=H.n:=by omega
  subst this
  simp at h3
  subst h3
  exact .inl (Nat.le_refl _)
 ·simp at h1 h2
  have:i=H.n:=by omega
  subst this
  simp at h3
  subst h3
  rw [Z.jO,if_pos rfl] at h4
  injection h4 with h4
  subst h4
  refine ⟨fj,lo,hi,by rw [hb];simp,by simpa using hl,hc,fun j x hx=>?_,hbase,fun j _ hj=>hfz j (by simpa using hj)⟩
  obtain ⟨y,hy,hxy⟩:=hv j x hx
  exact ⟨y,by simpa using hy,hxy.mono hm⟩
 ·simp at h2
  have:i=H.n:=by omega
  subst this
  simp at h3
  subst h3
  rw [hb];simp
 ·simp at h2 h4
  omega
theorem gr.abP {E:Env} {base:Nat} {φ:bC} {w w':World} {H:Z} (hfree:φ H.n=none) (hbase:base≤w.heap.size)
  (hb:w'.heap=w.heap.push (.map #[] 0)) (ho:w'.os=w.os) (ht:w'.tape=w.tape) (hp:w'.output=w.output) :
  gr E base φ w H (H.new (.map [] 0)) [] (fun i=>if i=H.n then some ⟨w.heap.size,0,0⟩ else φ i) w':=by
 refine ⟨fun j hj=>by simp at hj,fun i hi=>?_,⟨ho,ht,hp,by rw [hb];simp,fun B hB _=>?_⟩,fun i l h1 h2 h3=>?_,fun i l o h1 h2 h3 h4=>?_,fun i l h1 h2 h3 _=>?_,fun i j l m h1 h2 h3 h4 h5=>?_⟩
 ·show (if i=H.n then _ else _)=_
  simp at hi
  rw [if_neg J]
 ·rw [hb,Array.getElem?_push,if_neg J]
 ·simp at h2
  have:i=H.n:=by omega
  subst this
  simp at h3
  subst h3
  exact .inl (Nat.le_refl _)
 ·simp at h1 h2
  have:i=H.n:=by omega
  subst this
  simp at h3
  subst h3
  rw [Z.jO,if_pos rfl] at h4
  injection h4 with h4
  subst h4
  exact ⟨#[],by rw [hb];simp,hbase,rfl,fun j x y hx=>by simp at hx⟩
 ·simp at h2
  have:i=H.n:=by omega
  subst this
  simp at h3
  subst h3
  rw [hb];simp
 ·simp at h2 h4
  omega
theorem gr.put {E:Env} {base:Nat} {φ:bC} {w w':World} {H:Z} (b:Nat) (l:Loc) (o':dL) (uk:b<H.n) (hw:gf (H.get b)=true) (hl:φ b=some l)
  (hb:∀ B,B≠l.dG→w'.heap[B]?=w.heap[B]?) (hs:w'.heap.size=w.heap.size) (ho:w'.os=w.os) (ht:w'.tape=w.tape) (hp:w'.output=w.output)
  (hr:mB E base φ w' l o'):gr E base φ w H (H.set b o') [b] φ w':=by
 refine ⟨fun j hj=>?_,fun i hi=>rfl,⟨ho,ht,hp,by rw [hs];exact Nat.le_refl _,fun B hB hn=>hb B (fun e=>hn b (by simp) l hl e.symm)⟩,fun i l h1 h2 h3=>?_,fun i l' o h1 h2 h3 h4=>?_,fun i l h1 h2 h3 _=>?_,fun i j l m h1 h2 h3 h4 h5=>?_⟩
 ·simp at hj;subst hj;exact ⟨uk,hw⟩
 ·simp at h2;omega
 ·simp at h1 h2
  have:i=b:=by omega
  subst this
  rw [hl] at h3
  injection h3 with h3
  subst h3
  rw [Z.kP,if_pos rfl] at h4
  injection h4 with h4
  subst h4
  exact hr
 ·simp at h2;omega
 ·simp at h2;omega
theorem gr.take {E:Env} {base:Nat} {φ:bC} {w w':World} {H:Z} (b:Nat) (l k:Loc) (cs:List Value) (e:TypeId) (uk:b<H.n) (hw:gf (H.get b)=true) (hl:φ b=some l) (hk:k.dG=l.dG)
  (hfree:φ H.n=none) (hlt:l.dG<w.heap.size)
  (hb:∀ B,B≠l.dG→w'.heap[B]?=w.heap[B]?) (hs:w'.heap.size=w.heap.size) (ho:w'.os=w.os) (ht:w'.tape=w.tape) (hp:w'.output=w.output)
  (hr:mB E base (fun i=>if i=H.n then some k else φ i) w' k (.cells cs e false)) :
  gr E base φ w H ((H.set b .dead).new (.cells cs e false)) [b] (fun i=>if i=H.n then some k else φ i) w':=by
 refine ⟨fun j hj=>?_,fun i hi=>?_,⟨ho,ht,hp,by rw [hs];exact Nat.le_refl _,fun B hB hn=>hb B (fun e=>hn b (by simp) l hl e.symm)⟩,fun i l' h1 h2 h3=>?_,fun i l' o h1 h2 h3 h4=>?_,fun i l' h1 h2 h3 _=>?_,fun i j l m h1 h2 h3 h4 h5=>?_⟩
 ·simp at hj;subst hj;exact ⟨uk,hw⟩
 ·show (if i=H.n then _ else _)=_
  simp at hi
  rw [if_neg J]
 ·simp at h2
  have:i=H.n:=by omega
  subst this
  simp at h3
  subst h3
  refine .inr ⟨b,by simp,l,uk,hl,hk.symm,hw,?_⟩
  rw [Z.jO,Z.cI,if_neg J,Z.kP,if_pos rfl];rfl
 ·simp at h1 h2
  rcases h1 with h1 |h1
  ·subst h1
   rw [Z.jO,Z.cI,if_neg J,Z.kP,if_pos rfl] at h4
   injection h4 with h4
   subst h4
   trivial
  ·have:i=H.n:=by omega
   subst this
   simp at h3
   subst h3
   rw [Z.jO,Z.cI,if_pos rfl] at h4
   injection h4 with h4
   subst h4
   exact hr
 ·simp at h2
  have:i=H.n:=by omega
  subst this
  simp at h3
  subst h3
  rw [hk,hs];exact hlt
 ·simp at h2 h4
  omega
theorem dn.new (H:Z) (wf:cW H) (o:dL):dn [] H (H.new o):=
 ⟨by simp,fun i hi _=>by rw [Z.jO,if_neg J],fun i hi h=>by rwa [Z.jO,if_neg J] at h,fun i hi h=>by rwa [Z.jO,if_neg J] at h⟩
theorem dn.set (H:Z) (b:Nat) (o:dL) (hw:Am.gf (H.get b)=true):dn [b] H (H.set b o):=
 ⟨by simp,fun i hi hn=>by rw [Z.kP,if_neg (fun e=>hn (by simp [e]))],fun i hi h=>by
     rw [Z.kP] at h
     split at h
     ·rename_i e;subst e;exact rX hw
     ·exact h,fun i hi h=>by
     rw [Z.kP] at h
     split at h
     ·rename_i e;subst e;exact hw
     ·exact h⟩
theorem add_plain (b o i:Nat):(⟨b,o,none⟩:Addr).add i=⟨b,o+i,none⟩:=by
 unfold Addr.add;split <;> simp_all
section
variable {P:Program}
theorem run_pure {α:Type} (a:α) (w:World):(pure a:Sem α).run P w=.ok a w:=rfl
theorem run_program (w:World):(program).run P w=.ok P w:=rfl
theorem run_load {a:Addr} {y:Value} {w:World} (h:w.cell? a=some y):(load a).run P w=.ok y w:=by
 simp [load,Sem.run,h]
theorem run_loadCellsFrom {b o:Nat} {w:World}:∀(ys:List Value) (i:Nat) (acc:Array Value),(∀(j:Nat) y,ys[j]?=some y→w.cell? ⟨b,o+(i+j),none⟩=some y)→
  (loadCellsFrom ⟨b,o,none⟩ i ys.length acc).run P w=.ok (acc++ys.toArray) w:=by
 intro ys
 induction ys with
 |nil=>intro i acc h;simp [loadCellsFrom,run_pure]
 |cons y ys ih=>
  intro i acc h
  simp only [dX,loadCellsFrom]
  rw [bI (run_load (y:=y) (by rw [add_plain];simpa using h 0 y (by simp)))]
  rw [ih (i+1) (acc.push y) (fun j z hz=>by
   have:=h (j+1) z (by simpa using hz)
   rw [show i+1+j=i+(j+1) by omega];exact this)]
  simp
theorem run_loadCells {b o n:Nat} {w:World} (ys:List Value) (hn:ys.length=n) (h:∀(j:Nat) y,ys[j]?=some y→w.cell? ⟨b,o+j,none⟩=some y) :
  (loadCells ⟨b,o,none⟩ n).run P w=.ok ys.toArray w:=by
 subst hn
 unfold loadCells
 rw [run_loadCellsFrom ys 0 #[] (fun j y hy=>by simpa using h j y hy)]
 simp
structure wZ (w w':World) (B:Nat) (o:Obj):Prop where
 os:w'.os=w.os
 tape:w'.tape=w.tape
 output:w'.output=w.output
 size:w'.heap.size=w.heap.size
 other:∀ b,b≠B→w'.heap[b]?=w.heap[b]?
 at_:w'.heap[B]?=some o
theorem Gu:∀(c:List Value) (o:Nat) (xs:List Value),(splice c o xs).length=c.length
 |[],0,[]=>rfl
 |[],0,_::_=>rfl
 |[],_+1,_=>rfl
 |_::_,0,[]=>rfl
 |_::c,0,_::xs=>by simp [splice,Gu c 0 xs]
 |_::c,k+1,xs=>by simp [splice,Gu c k xs]
theorem Gt:∀(c:List Value) (o:Nat) (xs:List Value),o+xs.length≤c.length→∀ j:Nat,(splice c o xs)[j]?=if o≤j∧j<o+xs.length then xs[j-o]? else c[j]?
 |[],o,xs,h,j=>by
  have:o=0∧xs=[]:=by
   cases xs with
   |nil=>simp at h;exact ⟨by omega,rfl⟩
   |cons a b=>simp at h
  obtain ⟨rfl,rfl⟩:=this
  simp [splice]
 |y::c,0,[],_,j=>by simp [splice]
 |y::c,0,x::xs,h,j=>by
  simp only [splice]
  cases j with
  |zero=>simp
  |succ j=>
   simp only [List.getElem?_cons_succ]
   rw [Gt c 0 xs (by simpa using h) j]
   simp
 |y::c,k+1,xs,h,j=>by
  simp only [splice]
  cases j with
  |zero=>simp
  |succ j=>
   simp only [List.getElem?_cons_succ]
   rw [Gt c k xs (by simp at h;omega) j]
   by_cases hc:k≤j∧j<k+xs.length
   ·rw [if_pos hc,if_pos J]
    rw [show j+1-(k+1)=j-k by omega]
   ·rw [if_neg hc,if_neg J]
theorem run_store {w:World} {B o:Nat} {fj:Array Value} {e:TypeId} {lo hi:Nat} {v:Value} (hb:w.heap[B]?=some (.cells fj e (lo,hi))) (ho:o<fj.size)
  (hf:¬ (lo≤o∧o<hi)) (hv:one v=true):∃ w',(store ⟨B,o,none⟩ v).run P w=.ok () w'∧wZ w w' B (.cells (fj.set o v ho) e (lo,hi)):=by
 have hc:w.cell? ⟨B,o,none⟩=some fj[o]:=by simp [World.cell?,hb,ho]
 have hfz:w.frozen? ⟨B,o,none⟩=false:=by
  simp only [World.frozen?,hb]
  simp only [Bool.and_eq_false_iff,decide_eq_false_iff_not]
  omega
 refine ⟨w.setCell ⟨B,o,none⟩ v,?_,?_⟩
 ·unfold store
  cases v <;> first
   |(cases hv;done)
   |(simp only [Sem.run];rw [hc];simp [hfz])
 ·refine ⟨rfl,rfl,rfl,by simp [World.setCell],fun b hb'=>?_,?_⟩
  ·simp only [World.setCell,Array.getElem?_modify];rw [if_neg (fun e=>hb' e.symm)]
  ·simp only [World.setCell,Array.getElem?_modify,if_true]
   rw [hb]
   simp [Array.setIfInBounds,ho]
theorem wZ.trans {a b c:World} {B:Nat} {x y:Obj} (h:wZ a b B x) (k:wZ b c B y):wZ a c B y:=
 ⟨k.os.trans h.os,k.tape.trans h.tape,k.output.trans h.output,k.size.trans h.size,fun i hi=>(k.other i hi).trans (h.other i hi),k.at_⟩
theorem Q7 {B o:Nat} {e:TypeId} {lo hi:Nat}:∀(vs:List Value) (i:Nat) (w:World) (fj:Array Value),w.heap[B]?=some (.cells fj e (lo,hi))→o+i+vs.length≤fj.size→
  (∀ j,o+i≤j→j<o+i+vs.length→¬ (lo≤j∧j<hi))→(∀ v∈vs,one v=true)→
  ∃ w' vC,(storeCells ⟨B,o,none⟩ vs i).run P w=.ok () w'∧wZ w w' B (.cells vC e (lo,hi))∧vC.size=fj.size∧
   ∀ j:Nat,vC[j]?=if o+i≤j∧j<o+i+vs.length then vs[j-(o+i)]? else fj[j]?:=by
 intro vs
 induction vs with
 |nil=>
  intro i w fj hb _ _ _
  exact ⟨w,fj,by simp [storeCells,run_pure],⟨rfl,rfl,rfl,rfl,fun _ _=>rfl,hb⟩,rfl,fun j=>by rw [if_neg (by simp)]⟩
 |cons v vs ih=>
  intro i w fj hb hn hf hv
  simp only [dX] at hn
  obtain ⟨w1,IF,jZ⟩:=run_store (P:=P) (o:=o+i) (v:=v) hb J (hf _ J (by simp)) (hv v (by simp))
  obtain ⟨w2,TO,xK,oG,uw,N3⟩:=ih (i+1) w1 (fj.set (o+i) v J) jZ.at_ (by simp;omega) (fun j h1 h2=>hf j J (by simp;omega)) (fun x hx=>hv x (by simp [hx]))
  refine ⟨w2,TO,?_,jZ.trans oG,by simpa using uw,fun j=>?_⟩
  ·simp only [storeCells,add_plain]
   rw [bI IF];exact xK
  ·rw [N3 j]
   by_cases h1:o+(i+1)≤j∧j<o+(i+1)+vs.length
   ·rw [if_pos h1,if_pos (by simp;omega)]
    rw [show j-(o+i)=(j-(o+(i+1)))+1 by omega]
    simp
   ·rw [if_neg h1]
    by_cases h2:j=o+i
    ·subst h2
     rw [if_pos (by simp)]
     simp
    ·rw [if_neg (by simp;omega)]
     rw [Array.getElem?_set_ne J J]
theorem AK (e:TypeId) (cs:Array Value) (w:World):(newRow e cs).run P w=.ok ⟨w.heap.size,0,none⟩ { w with heap:=w.heap.push (.cells cs e (0,0)) }:=rfl
theorem Q5 (t:TypeId) (v:Value) (w:World):(newVar t v).run P w=.ok ⟨w.heap.size,0,none⟩ { w with heap:=w.heap.push (.cells v.cells t (0,0)) }:=rfl
theorem ac2 {α:Type}:∀(s:Sem α) (a:α),fr P s=some a→∀ w,s.run P w=.ok a w:=by
 intro s
 induction s with
 |pure x=>intro a h w;simp [fr] at h;subst h;rfl
 |program k ih=>intro a h w;exact ih P a h w
 |mark m k ih=>intro a h w;exact ih a h w
 |load m x k ih=>intro a h;simp [fr] at h
 |store m x v k ih=>intro a h;simp [fr] at h
 |new o k ih=>intro a h;simp [fr] at h
 |shape r k ih=>intro a h;simp [fr] at h
 |freeze x n k ih=>intro a h;simp [fr] at h
 |frozen x k ih=>intro a h;simp [fr] at h
 |getObj r k ih=>intro a h;simp [fr] at h
 |setObj r o k ih=>intro a h;simp [fr] at h
 |choose q k ih=>intro a h;simp [fr] at h
 |sys c k ih=>intro a h;simp [fr] at h
 |halt h'=>intro a h;simp [fr] at h
end
section
variable {E:Env} {base:Nat} {φ:bC} {w:World} {H:Z} {R:List Nat}
theorem TW {b o:Nat} {x:Value} {l:Loc} (hp:Pre E base φ w H R) (hb:b∈R) (hl:φ b=some l) (h:cell H b o=some x):∃ y,w.cell? ⟨l.dG,l.off+o,none⟩=some y∧bn φ x y:=by
 unfold cell at h
 split at h
 ·rename_i c e ro hg
  exact (hp.blocks b hb l _ hl hg).cell h
 ·cases h
theorem AI {b o n:Nat} {xs:List Value} {l:Loc} (hp:Pre E base φ w H R) (hb:b∈R) (hl:φ b=some l) (h:row H b o n=some xs) :
  ∃ ys,xs.length=n∧eI φ xs ys∧∀(j:Nat) y,ys[j]?=some y→w.cell? ⟨l.dG,l.off+o+j,none⟩=some y:=by
 unfold row at h
 split at h
 ·rename_i c e ro hg
  cases hn:Nat.ble (o+n) c.length with
  |false=>rw [hn] at h;cases h
  |true=>
   rw [hn] at h
   have hle:=Nat.le_of_ble_eq_true hn
   injection h with h
   subst h
   have hb':=hp.blocks b hb l _ hl hg
   have hlen:(List.take n (List.drop o c)).length=n:=by simp;omega
   have key:∀ j,∀ hj:j<n,∃ y,w.cell? ⟨l.dG,l.off+o+j,none⟩=some y∧bn φ (c[o+j]'J) y:=fun j hj=>by
    obtain ⟨y,h1,h2⟩:=hb'.cell (j:=o+j) (x:=c[o+j]'J) (List.getElem?_eq_getElem J)
    exact ⟨y,by rw [← h1,Nat.add_assoc],h2⟩
   refine ⟨List.ofFn (n:=n) fun j=>(key j.1 j.2).choose,hlen,⟨by simp [hlen],fun j x y hx hy=>?_⟩,fun j y hy=>?_⟩
   ·have hj:j<n:=by
     have:=(List.getElem?_eq_some_iff.1 hx).1
     omega
    rw [List.getElem?_ofFn] at hy
    simp only [hj,dite_true] at hy
    injection hy with hy
    subst hy
    rw [List.getElem?_take,if_pos hj,List.getElem?_drop,List.getElem?_eq_getElem J] at hx
    injection hx with hx
    subst hx
    exact (key j hj).choose_spec.2
   ·rw [List.getElem?_ofFn] at hy
    split at hy
    ·rename_i hj
     injection hy with hy
     subst hy
     exact (key j hj).choose_spec.1
    ·cases hy
 ·cases h
theorem Q4 (ok:E.fy) {t b o:Nat} {v:Value} {l:Loc} (hp:Pre E base φ w H R) (hb:b∈R) (hl:φ b=some l) (h:al E t b o H=some v) :
  ∃ u,(loadVar t ⟨l.dG,l.off+o,none⟩).run E.P w=.ok u w∧bn φ v u:=by
 unfold al at h
 split at h
 ·rename_i Ia
  split at h
  ·rename_i n hn
   split at h
   ·rename_i xs hx
    injection h with h
    subst h
    obtain ⟨ys,h1,h2,h3⟩:=AI hp hb hl hx
    refine ⟨.agg ys.toArray,?_,.w7 h2.toArray⟩
    unfold loadVar
    rw [bI (sd ok Ia w)]
    simp only [if_true]
    rw [bI (lU ok hn w),bI (run_loadCells ys (by rw [← h2.1,h1]) h3)]
    rfl
   ·cases h
  ·cases h
 ·rename_i Ia
  obtain ⟨y,h1,h2⟩:=TW hp hb hl h
  refine ⟨y,?_,h2⟩
  unfold loadVar
  rw [bI (sd ok Ia w)]
  simp only [Bool.false_eq_true,if_false]
  exact run_load h1
 ·cases h
end
def fC (E:Env) (base:Nat) (φ:bC) (w:World) (H:Z) (s:Sem Next) (v:Value) (H':Z) (W:List Nat):Prop:=
 ∃ uX u w' be,s.run E.P w=.ok uX w'∧(uX=.value u∨(uX=.skip∧u=undef))∧bn be v u∧gr E base φ w H H' W be w'
def oo (E:Env) (φ:bC) (T:cg) (ρ:Operand→Value):Prop:=∀ x v,ev E T x=some v→bn φ v (ρ x)
theorem xl {E:Env} {φ:bC} {T:cg} {ρ:Operand→Value} (h:oo E φ T ρ):∀{xs:List Operand} {vs:List Value},mK E T xs=some vs→eI φ vs (xs.map ρ)
 |[],vs,e=>by simp [mK] at e;subst e;exact .nil φ
 |x::xs,vs,e=>by
  simp only [mK] at e
  split at e
  ·rename_i v hv
   split at e
   ·rename_i ws hw
    injection e with e
    subst e
    exact .cons (h x v hv) (xl h hw)
   ·cases e
  ·cases e
theorem HN {E:Env} {φ:bC} {T:cg} {ρ:Operand→Value} (h:oo E φ T ρ) {x:Option Operand} {v:Option Value} (e:l8 E T x=some v) :
  (x=none∧v=none)∨∃ y u,x=some y∧v=some u∧bn φ u (ρ y):=by
 unfold l8 at e
 split at e
 ·injection e with e;exact .inl ⟨rfl,e.symm⟩
 ·rename_i y
  split at e
  ·rename_i u hu;injection e with e;exact .inr ⟨y,u,rfl,e.symm,h y u hu⟩
  ·cases e
section
variable {E:Env} {base:Nat} {φ:bC} {w:World} {H:Z}
theorem fC.of_run {s:Sem Value} {v u:Value} (h:bn φ v u) (hr:s.run E.P w=.ok u w):fC E base φ w H (do Pure.pure (.value (← s))) v H []:=
 ⟨_,u,w,φ,by rw [bI hr];rfl,.inl rfl,h,.same rfl rfl rfl rfl⟩
theorem fC.value {s:Sem Value} {v u:Value} {w':World} {be:bC} {H':Z} {W:List Nat} (hr:s.run E.P w=.ok u w') (h:bn be v u) (ho:gr E base φ w H H' W be w') :
  fC E base φ w H (do Pure.pure (.value (← s))) v H' W:=
 ⟨_,u,w',be,by rw [bI hr];rfl,.inl rfl,h,ho⟩
theorem fC.unit {s:Sem Unit} {w':World} {be:bC} {H':Z} {W:List Nat} (hr:s.run E.P w=.ok () w') (ho:gr E base φ w H H' W be w') :
  fC E base φ w H (do s;Pure.pure .skip) dw H' W:=
 ⟨_,undef,w',be,by rw [bI hr];rfl,.inr ⟨rfl,rfl⟩,.tuple' ⟨rfl,fun i x y hx=>by simp at hx⟩,ho⟩
theorem gr.write {b o:Nat} {c:List Value} {e:TypeId} {l:Loc} {xs ys:List Value} {R:List Nat} (hp:Pre E base φ w H R) (wf:cW H) (hb:b∈R) (hl:φ b=some l) (hg:H.get b=some (.cells c e false))
  (hn:o+xs.length≤c.length) (hxy:eI φ xs ys) (hone:∀ v∈xs,one v=true) :
  ∃ w',(storeCells ⟨l.dG,l.off+o,none⟩ ys).run E.P w=.ok () w'∧gr E base φ w H (H.set b (.cells (splice c o xs) e false)) [b] φ w':=by
 obtain ⟨fj,lo,hi,h1,h2,h3,h4,h6,h7⟩:=hp.blocks b hb l _ hl hg
 have IA:∀ v∈ys,one v=true:=fun v hv=>by
  obtain ⟨i,hi',rfl⟩:=List.mem_iff_getElem.1 hv
  have hx:i<xs.length:=hxy.1▸hi'
  rw [(hxy.2 i _ _ (List.getElem?_eq_getElem hx) (List.getElem?_eq_getElem hi')).P5]
  exact hone _ (List.getElem_mem ..)
 have hlen:=hxy.1
 obtain ⟨w',vC,hr,hput,hs,Iu⟩:=Q7 (P:=E.P) (o:=l.off+o) ys 0 w fj h1 J (fun j h8 h9=>h7 j J J) IA
 refine ⟨w',hr,gr.put b l _ (wf.lt hg) (by rw [hg];rfl) hl hput.other hput.size hput.os hput.tape hput.output ⟨vC,lo,hi,hput.at_,by omega,by rw [Gu];exact h3,fun j x hx=>?_,h6,h7⟩⟩
 rw [Gt c o xs hn j] at hx
 rw [Iu]
 by_cases hc:o≤j∧j<o+xs.length
 ·rw [if_pos hc] at hx
  obtain ⟨y,hy,hv⟩:=hxy.get hx
  exact ⟨y,by rw [if_pos J,← hy];congr 1;omega,hv⟩
 ·rw [if_neg hc] at hx
  obtain ⟨y,hy,hv⟩:=h4 j x hx
  exact ⟨y,by rw [if_neg J];exact hy,hv⟩
theorem Bl {xs:List Value} (h:xs.all one=true):∀ v∈xs,one v=true:=fun v hv=>by
 rw [List.all_eq_true] at h;exact h v hv
theorem gr.Fm {w':World} {cs ds:List Value} {e:TypeId} (hbase:base≤w.heap.size) (hfree:φ H.n=none) (h:eI φ cs ds)
  (hb:w'.heap=w.heap.push (.cells ds.toArray e (0,0))) (ho:w'.os=w.os) (ht:w'.tape=w.tape) (hp:w'.output=w.output) :
  gr E base φ w H (H.new (.cells cs e false)) [] (fun i=>if i=H.n then some ⟨w.heap.size,0,cs.length⟩ else φ i) w':=
 gr.row cs.length cs ds.toArray e 0 0 hfree hbase hb ho ht hp (by simp [h.1]) (Nat.le_refl _)
  (fun j x hx=>by obtain ⟨y,hy,hv⟩:=h.get hx;exact ⟨y,by simpa using hy,hv⟩) (fun j _=>by omega)
theorem acP (hfree:φ H.n=none) (l:Loc):∀ i m,φ i=some m→(fun i=>if i=H.n then some l else φ i:bC) i=some m:=fun i m h=>by
 show (if i=H.n then _ else _)=_
 rw [if_neg (fun e=>by rw [e,hfree] at h;cases h)];exact h
theorem zF {z:Value} (h:ground z=true):jK φ z.cells z.cells:=(bn.r3 (φ:=φ) h).cells
theorem aem (P:Program) (k:IntKind) (n:Int) (w:World):(asIntOf (.int k n)).run P w=.ok (k,n) w:=rfl
theorem wE {P:Program} {v u:Value} {y n:Nat} {code:BoundsCode} (hv:bn φ v u) (h:upto v y=some n):(Instr.sliceBound u y code).run P w=.ok n w∧n≤y:=by
 unfold upto at h
 split at h
 ·rename_i k i
  cases hv
  cases hb:(decide (0≤i)&&decide (i≤(y:Int))) with
  |false=>rw [hb] at h;cases h
  |true=>
   rw [hb] at h
   injection h with h
   subst h
   simp at hb
   refine ⟨?_,by omega⟩
   unfold Instr.sliceBound
   rw [bI (aem P _ i w)]
   simp only
   rw [if_pos ⟨hb.1,hb.2⟩];rfl
 ·cases h
end
section
variable {E:Env} {base:Nat} {φ:bC} {w:World} {H:Z}
theorem bn.wC {b o:Nat} {u:Value} (h:bn φ (.pointer (some ⟨b,o,none⟩)) u):∃ l,φ b=some l∧u=.pointer (some ⟨l.dG,l.off+o,none⟩):=by
 cases h with |ptr _ _ l hl=>exact ⟨l,hl,rfl⟩
theorem TI {c k:Nat} (h:nk c=.known k):c=2*k+1:=by
 unfold nk at h
 by_cases hc:c%2=1
 ·rw [lO hc] at h;simp at h;omega
 ·rw [iu hc] at h;simp at h
theorem TJ {c s:Nat} (h:nk c=.yF s):c=2*s:=by
 unfold nk at h
 by_cases hc:c%2=1
 ·rw [lO hc] at h;simp at h
 ·rw [iu hc] at h;simp at h;omega
theorem bn.wF {b o n c:Nat} {u:Value} (h:bn φ (.slice (some ⟨b,o,none⟩) n c) u) :
  ∃ l c',φ b=some l∧n≤c'∧u=.slice (some ⟨l.dG,l.off+o,none⟩) n c'∧(c=2*c'+1∨∃ s,c=2*s∧o+c'*s≤l.mR):=by
 cases h with
 |mY _ _ _ c l hl hn=>exact ⟨l,c,hl,hn,rfl,.inl rfl⟩
 |pK _ _ _ c s l hl hn hc=>exact ⟨l,c,hl,hn,rfl,.inr ⟨s,rfl,hc⟩⟩
theorem bn.Gr {b o n c k:Nat} {u:Value} (hc:nk c=.known k) (h:bn φ (.slice (some ⟨b,o,none⟩) n c) u):∃ l,φ b=some l∧n≤k∧u=.slice (some ⟨l.dG,l.off+o,none⟩) n k:=by
 obtain ⟨l,c',h1,h2,h3,h4⟩:=h.wF
 have:=TI hc
 have:c'=k:=by rcases h4 with h4 |⟨s,h4,_⟩ <;> omega
 subst this
 exact ⟨l,h1,h2,h3⟩
theorem bn.Rt {b o n c s:Nat} {u:Value} (hc:nk c=.yF s) (h:bn φ (.slice (some ⟨b,o,none⟩) n c) u):∃ l c',φ b=some l∧n≤c'∧o+c'*s≤l.mR∧u=.slice (some ⟨l.dG,l.off+o,none⟩) n c':=by
 obtain ⟨l,c',h1,h2,h3,h4⟩:=h.wF
 have:=TJ hc
 rcases h4 with h4 |⟨s',h4,h5⟩
 ·omega
 ·have:s'=s:=by omega
  subst this
  exact ⟨l,c',h1,h2,h5,h3⟩
def sF (φ:bC) (x y:Option Value):Prop:=(x=none∧y=none)∨∃ v u,x=some v∧y=some u∧bn φ v u
theorem HO {T:cg} {ρ:Operand→Value} (h:oo E φ T ρ) {x:Option Operand} {v:Option Value} (e:l8 E T x=some v):sF φ v (x.map ρ):=by
 rcases HN h e with ⟨rfl,rfl⟩ |⟨y,u,rfl,rfl,hv⟩
 ·exact .inl ⟨rfl,rfl⟩
 ·exact .inr ⟨u,ρ y,rfl,rfl,hv⟩
theorem RU {v:Value} {y y' n:Nat} (h:upto v y=some n) (hy:y≤y'):upto v y'=some n:=by
 unfold upto at h ⊢
 split at h
 ·rename_i k i
  cases Ih:(decide (0≤i)&&decide (i≤(y:Int))) with
  |false=>rw [Ih] at h;cases h
  |true=>
   rw [Ih] at h
   simp at Ih
   have:(decide (0≤i)&&decide (i≤(y':Int)))=true:=by simp;omega
   simp only [this];exact h
 ·cases h
theorem Tl {P:Program} {rO:Bool} {len cap cap' m h l:Nat} {lo hi mx lo' hi' wj:Option Value} (hlo:sF φ lo lo') (hhi:sF φ hi hi') (uu:sF φ mx wj) (hcap:cap≤cap')
  (h0:¬ (mx.isSome=true∧hi=none)) (hlen:len≤cap) (hm:kW mx cap cap=some m) (hh:kW hi m len=some h) (hl:kW lo h 0=some l) :
  (Instr.sliceBounds rO len cap' lo' hi' wj).run P w=.ok (l,h,if mx.isSome then m else cap') w∧l≤h∧(mx.isSome=true∨hi.isSome=true→h≤m)∧(mx=none→hi=none→h=len)∧m≤cap:=by
 rcases uu with ⟨rfl,rfl⟩ |⟨v,u,rfl,rfl,hv⟩
 ·simp only [kW] at hm
  injection hm with hm
  subst hm
  rcases hhi with ⟨rfl,rfl⟩ |⟨v2,u2,rfl,rfl,vY⟩
  ·simp only [kW] at hh
   injection hh with hh
   subst hh
   rcases hlo with ⟨rfl,rfl⟩ |⟨v3,u3,rfl,rfl,Cc⟩
   ·simp only [kW] at hl
    injection hl with hl
    subst hl
    exact ⟨rfl,by omega,by simp,fun _ _=>rfl,by omega⟩
   ·simp only [kW] at hl
    have h3:=wE (P:=P) (code:=.sliceB) (w:=w) Cc hl
    exact ⟨by simp [Instr.sliceBounds,h3.1],h3.2,by simp,fun _ _=>rfl,by omega⟩
  ·simp only [kW] at hh
   have h2:=wE (P:=P) (code:=if rO then BoundsCode.sliceAcap else .sliceAlen) (w:=w) vY (RU hh hcap)
   have vP:=wE (P:=P) (code:=.sliceB) (w:=w) vY hh
   rcases hlo with ⟨rfl,rfl⟩ |⟨v3,u3,rfl,rfl,Cc⟩
   ·simp only [kW] at hl
    injection hl with hl
    subst hl
    exact ⟨by simp [Instr.sliceBounds,h2.1],by omega,fun _=>vP.2,by simp,by omega⟩
   ·simp only [kW] at hl
    have h3:=wE (P:=P) (code:=.sliceB) (w:=w) Cc hl
    exact ⟨by simp [Instr.sliceBounds,h2.1,h3.1],h3.2,fun _=>vP.2,by simp,by omega⟩
 ·simp only [kW] at hm
  have h1:=wE (P:=P) (code:=if rO then BoundsCode.slice3Acap else .slice3Alen) (w:=w) hv (RU hm hcap)
  have NQ:=wE (P:=P) (code:=.sliceB) (w:=w) hv hm
  rcases hhi with ⟨rfl,rfl⟩ |⟨v2,u2,rfl,rfl,vY⟩
  ·exact absurd ⟨rfl,rfl⟩ h0
  ·simp only [kW] at hh
   have h2:=wE (P:=P) (code:=.slice3B) (w:=w) vY hh
   rcases hlo with ⟨rfl,rfl⟩ |⟨v3,u3,rfl,rfl,Cc⟩
   ·simp only [kW] at hl
    injection hl with hl
    subst hl
    exact ⟨by simp [Instr.sliceBounds,h1.1,h2.1],by omega,fun _=>h2.2,by simp,NQ.2⟩
   ·simp only [kW] at hl
    have h3:=wE (P:=P) (code:=.slice3C) (w:=w) Cc hl
    exact ⟨by simp [Instr.sliceBounds,h1.1,h2.1,h3.1],h3.2,fun _=>h2.2,by simp,NQ.2⟩
theorem D2 {P:Program} {rO:Bool} {len cap cap' m h l:Nat} {lo hi mx lo' hi' wj:Option Value} (hlo:sF φ lo lo') (hhi:sF φ hi hi') (uu:sF φ mx wj) (hcap:cap≤cap')
  (hlen:len≤cap) (hb:sO lo hi mx len cap=some (l,h,m)) :
  (Instr.sliceBounds rO len cap' lo' hi' wj).run P w=.ok (l,h,if mx.isSome then m else cap') w∧l≤h∧h≤m∧m≤cap∧(mx=none→m=cap):=by
 unfold sO at hb
 cases h0:(mx.isSome&&hi.isNone) with
 |true=>rw [h0] at hb;cases hb
 |false=>
  rw [h0] at hb
  simp only [cond_false] at hb
  split at hb
  ·rename_i m' hm
   split at hb
   ·rename_i h' hh
    split at hb
    ·rename_i l' hl
     simp only [bH,b8] at hb
     obtain ⟨rfl,rfl,rfl⟩:=hb
     have h0':¬ (mx.isSome=true∧hi=none):=fun ⟨a,b⟩=>by subst b;simp [a] at h0
     have hk:=Tl (P:=P) (w:=w) (rO:=rO) hlo hhi uu hcap h0' hlen hm hh hl
     refine ⟨hk.1,hk.2.1,?_,hk.2.2.2.2,fun e=>by subst e;simpa [kW] using hm.symm⟩
     by_cases hc:mx.isSome=true∨hi.isSome=true
     ·exact hk.2.2.1 hc
     ·have e1:mx=none:=by cases mx <;> simp_all
      have e2:hi=none:=by cases hi <;> simp_all
      have:=hk.2.2.2.1 e1 e2
      subst e1
      simp [kW] at hm
      omega
    ·cases hb
   ·cases hb
  ·cases hb
theorem Gi (ok:E.fy) {t e sz:Nat} (ht:E.ul t=some (.slice e)) (hs:E.size e=some sz) {a:Option Addr} {n c l h m:Nat} {lo hi mx:Option Value}
  (hb:(Instr.sliceBounds true n c lo hi mx).run E.P w=.ok (l,h,m) w) :
  (Instr.sliceAt t (.slice a n c) lo hi mx).run E.P w=.ok (.slice (if m=l then a else a.map (·.add (l*sz))) (h-l) (m-l)) w:=by
 unfold Instr.sliceAt
 rw [bI (iE ok ht w)]
 simp only [Instr.slice]
 rw [bI (iE ok ht w)]
 simp only
 rw [bI hb]
 simp only
 rw [bI (lU ok hs w)]
 rfl
theorem Hl {a b:Nat} {α:Type} (x y:α):(bif Nat.beq a b then x else y)=if a=b then x else y:=by
 by_cases h:a=b
 ·rw [lO h,if_pos h];rfl
 ·rw [iu h,if_neg h];rfl
theorem ae2 (ok:E.fy) {t:TypeId} {x x' v:Value} {lo hi mx lo' hi' wj:Option Value} (hx:bn φ x x') (hlo:sF φ lo lo') (hhi:sF φ hi hi') (uu:sF φ mx wj)
  (h:pJ E t x lo hi mx=some v):∃ u,(Instr.sliceAt t x' lo' hi' wj).run E.P w=.ok u w∧bn φ v u:=by
 unfold pJ at h
 split at h
 ·
  cases hx
  split at h
  ·rename_i e ht
   split at h
   ·rename_i n r hs hb
    injection h with h
    subst h
    obtain ⟨l,h',m⟩:=r
    have hk:=D2 (P:=E.P) (w:=w) (rO:=true) hlo hhi uu (Nat.le_refl 0) (Nat.le_refl 0) hb
    refine ⟨_,Gi ok ht hs hk.1,?_⟩
    have e1:l=0:=by omega
    have e2:h'=0:=by omega
    have bc:m=0:=by omega
    subst e1 e2 bc
    simp
    exact .tF
   ·cases h
  ·cases h
 ·rename_i b off n c
  split at h
  ·rename_i e ht
   split at h
   ·rename_i sz hs
    split at h
    ·rename_i k s9
     obtain ⟨l0,pw,hnk,rfl⟩:=hx.Gr s9
     split at h
     ·rename_i l h' m hb
      injection h with h
      subst h
      have hk:=D2 (P:=E.P) (w:=w) (rO:=true) hlo hhi uu (Nat.le_refl k) hnk hb
      refine ⟨_,Gi ok ht hs hk.1,?_⟩
      have em:(if mx.isSome=true then m else k)=m:=by
       cases mx with
       |none=>simp;exact (hk.2.2.2.2 rfl).symm
       |some q=>rfl
      rw [em,Hl]
      by_cases hml:m=l
      ·rw [if_pos hml,if_pos hml];exact .mY _ _ _ _ _ pw J
      ·rw [if_neg hml,if_neg hml]
       simp only [Option.map_some,add_plain,Nat.add_assoc]
       exact .mY _ _ _ _ _ pw J
     ·cases h
    ·rename_i s s9
     obtain ⟨l0,k,pw,hnk,hlim,rfl⟩:=hx.Rt s9
     split at h
     ·rename_i l h' m hb
      have hk:=D2 (P:=E.P) (w:=w) (rO:=true) hlo hhi uu hnk (Nat.le_refl n) hb
      split at h
      ·rename_i q
       injection h with h
       subst h
       refine ⟨_,Gi ok ht hs hk.1,?_⟩
       simp only [Option.isSome_some,if_true]
       rw [Hl]
       by_cases hml:m=l
       ·rw [if_pos hml,if_pos hml];exact .mY _ _ _ _ _ pw J
       ·rw [if_neg hml,if_neg hml]
        simp only [Option.map_some,add_plain,Nat.add_assoc]
        exact .mY _ _ _ _ _ pw J
      ·cases hc:(Nat.beq s sz&&(Nat.beq l 0||Nat.blt l n)) with
       |false=>rw [hc] at h;cases h
       |true=>
        rw [hc] at h
        injection h with h
        subst h
        simp at hc
        obtain ⟨rfl,hc⟩:=hc
        have hm:=hk.2.2.2.2 rfl
        refine ⟨_,Gi ok ht hs hk.1,?_⟩
        simp only [Option.isSome_none,Bool.false_eq_true,if_false]
        have hbound:off+l*s+(k-l)*s≤l0.mR:=by
         have:l*s+(k-l)*s=k*s:=by rw [← Nat.add_mul];congr 1;omega
         omega
        by_cases hml:k=l
        ·have:l=0:=by omega
         subst this
         subst hml
         simp
         have:=bn.pK b off (h'-0) 0 s l0 pw J J
         simpa using this
        ·rw [if_neg hml]
         simp only [Option.map_some,add_plain,Nat.add_assoc]
         exact .pK _ _ _ _ _ _ pw J hbound
     ·cases h
   ·cases h
  ·cases h
 ·rename_i b off
  obtain ⟨l0,pw,rfl⟩:=hx.wC
  split at h
  ·rename_i n e ht
   split at h
   ·rename_i sz l h' m hs hb
    injection h with h
    subst h
    have hk:=D2 (P:=E.P) (w:=w) (rO:=false) hlo hhi uu (Nat.le_refl n) (Nat.le_refl n) hb
    have hm:=hk.2.2.2.2 rfl
    subst hm
    have hr:=hk.1
    simp only [Option.isSome_none,Bool.false_eq_true,if_false] at hr
    rcases uu with ⟨_,rfl⟩ |⟨_,_,BR,_⟩
    ·refine ⟨.slice (some (if m=l then ⟨l0.dG,l0.off+off,none⟩ else ⟨l0.dG,l0.off+(off+l*sz),none⟩)) (h'-l) (m-l),?_,?_⟩
     ·unfold Instr.sliceAt
      rw [bI (iE ok ht w)]
      simp only [Instr.sureAddr]
      rw [bI (run_pure _ w),bI hr]
      simp only
      rw [bI (lU ok hs w)]
      simp only [add_plain,Nat.add_assoc]
      rfl
     ·rw [Hl]
      by_cases hml:m=l
      ·rw [if_pos hml,if_pos hml];exact .mY _ _ _ _ _ pw J
      ·rw [if_neg hml,if_neg hml];exact .mY _ _ _ _ _ pw J
    ·cases BR
   ·cases h
  ·cases h
 ·cases h
end
section
variable {E:Env} {base:Nat} {φ:bC} {w:World} {H:Z}
theorem WF (ok:E.fy) {t f:Nat} {x x' v:Value} (hx:bn φ x x') (h:HQ E t x f=some v):∃ u,(Instr.fieldAt t x' f).run E.P w=.ok u w∧bn φ v u:=by
 unfold HQ at h
 split at h
 ·rename_i b off fs ht
  obtain ⟨l,hl,rfl⟩:=hx.wC
  split at h
  ·rename_i fd hf
   split at h
   ·rename_i n hn
    injection h with h
    subst h
    refine ⟨.pointer (some ⟨l.dG,l.off+(off+fd.offset),none⟩),?_,.ptr _ _ _ hl⟩
    unfold Instr.fieldAt
    rw [bI (iE ok ht w)]
    simp only [hf,Instr.sureAddr]
    rw [bI (run_pure _ w)]
    unfold fieldPlace
    have:(do let __do_lift ← sizeOf fd.type;if __do_lift=0 then partAt ⟨l.dG,l.off+off,none⟩ fd.offset fd.byteOffset else pure ((⟨l.dG,l.off+off,none⟩:Addr).add fd.offset):Sem Addr).run E.P w=.ok ⟨l.dG,l.off+(off+fd.offset),none⟩ w:=by
     rw [bI (lU ok hn w)]
     rw [if_neg J,add_plain,Nat.add_assoc];rfl
    rw [bI this];rfl
   ·cases h
  ·cases h
 ·cases h
theorem YS (ok:E.fy) {t:Nat} {x x' i i' v:Value} (hx:bn φ x x') (hi:bn φ i i') (h:gk E t x i=some v):∃ u,(Instr.indexAt t x' i').run E.P w=.ok u w∧bn φ v u:=by
 unfold gk at h
 split at h
 ·rename_i n e k i ht
  cases hi
  split at h
  ·rename_i b off sz hs
   obtain ⟨l,hl,rfl⟩:=hx.wC
   cases hb:(decide (0≤i)&&decide (i<(n:Int))) with
   |false=>rw [hb] at h;cases h
   |true=>
    rw [hb] at h
    injection h with h
    subst h
    simp at hb
    refine ⟨.pointer (some ⟨l.dG,l.off+(off+i.toNat*sz),none⟩),?_,.ptr _ _ _ hl⟩
    simp [Instr.indexAt,bI,asIntOf,run_underlying (ok.ul ht),Instr.sureAddr,hb.1,hb.2,lU ok hs,add_plain,Nat.add_assoc]
  ·cases h
 ·rename_i e k i ht
  cases hi
  split at h
  ·rename_i b off n c sz hs
   obtain ⟨l,c',hl,hn,rfl,_⟩:=hx.wF
   cases hb:(decide (0≤i)&&decide (i<(n:Int))) with
   |false=>rw [hb] at h;cases h
   |true=>
    rw [hb] at h
    injection h with h
    subst h
    simp at hb
    refine ⟨.pointer (some ⟨l.dG,l.off+(off+i.toNat*sz),none⟩),?_,.ptr _ _ _ hl⟩
    simp [Instr.indexAt,bI,asIntOf,run_underlying (ok.ul ht),hb.1,hb.2,lU ok hs,add_plain,Nat.add_assoc]
  ·cases h
 ·cases h
theorem Ql (ok:E.fy) {t off:Nat} {cs cs':Array Value} {v:Value} (hc:jK φ cs cs') (h:FW E t cs off=some v):∃ u,(part t cs' off).run E.P w=.ok u w∧bn φ v u:=by
 unfold FW at h
 split at h
 ·rename_i ha
  split at h
  ·rename_i n hn
   injection h with h
   subst h
   refine ⟨.agg (cs'.extract off (off+n)),?_,.w7 ⟨by simp [hc.1],fun i x y hx hy=>?_⟩⟩
   ·unfold part
    rw [bI (sd ok ha w)]
    simp only [if_true]
    rw [bI (lU ok hn w)];rfl
   ·rw [Array.getElem?_extract] at hx hy
    split at hx
    ·rename_i h1
     rw [← hc.1,if_pos h1] at hy
     exact hc.2 _ x y hx hy
    ·cases hx
  ·cases h
 ·rename_i ha
  obtain ⟨u,hu,hv⟩:=hc.get h
  refine ⟨u,?_,hv⟩
  unfold part
  rw [bI (sd ok ha w)]
  simp only [Bool.false_eq_true,if_false,hu];rfl
 ·cases h
theorem Wv (ok:E.fy) (d:Nat) {t:Nat} {x x' y y':Value} {b:Bool} (hx:bn φ x x') (hy:bn φ y y') (h:xk E t x y=some b):(Op.equalIn (d+1) t x' y').run E.P w=.ok b w:=by
 unfold xk at h
 split at h
 case h_3=>
  rename_i e b o b' o' ht
  split at h
  ·rename_i n hn
   by_cases hb:b=b'
   ·rw [lO hb] at h
    injection h with h
    subst h hb
    obtain ⟨l,hl,rfl⟩:=hx.wC
    obtain ⟨l',hl',rfl⟩:=hy.wC
    rw [hl] at hl'
    injection hl' with hl'
    subst hl'
    simp [Op.equalIn,run_underlying (ok.ul ht),lU ok hn,sameAddr]
    by_cases ho:o=o'
    ·subst ho;simp [Nat.beq_refl]
    ·rw [iu ho];simp [ho]
   ·rw [iu hb] at h;cases h
  ·cases h
 all_goals first
  |(cases h;done)
  |(rename_i ht
    injection h with h;subst h
    cases hx <;> cases hy <;> simp [Op.equalIn,run_underlying (ok.ul ht)])
theorem ND (ok:E.fy) {t:Nat} {x x' y y':Value} {b:Bool} (hx:bn φ x x') (hy:bn φ y y') (h:xk E t x y=some b):(Op.equal t x' y').run E.P w=.ok b w:=
 Wv ok 9999 hx hy h
end
theorem NK (off:Nat):∀(vs:List Value) (k:Nat) (cells:Array Value),off+k+vs.length≤cells.size→
  ((vs.zipIdx k).foldl (fun cs (p:Value×Nat)=>cs.setIfInBounds (off+p.2) p.1) cells).size=cells.size∧
  ∀ j:Nat,((vs.zipIdx k).foldl (fun cs (p:Value×Nat)=>cs.setIfInBounds (off+p.2) p.1) cells)[j]?=if off+k≤j∧j<off+k+vs.length then vs[j-(off+k)]? else cells[j]?
 |[],k,cells,_=>by simp;intro j h1 h2;omega
 |v::vs,k,cells,h=>by
  simp only [dX] at h
  simp only [List.zipIdx_cons,List.foldl_cons]
  have ih:=NK off vs (k+1) (cells.setIfInBounds (off+k) v) (by simp;omega)
  refine ⟨by rw [ih.1];simp,fun j=>?_⟩
  rw [ih.2 j]
  by_cases h1:off+(k+1)≤j∧j<off+(k+1)+vs.length
  ·rw [if_pos h1,if_pos (by simp;omega),show j-(off+k)=(j-(off+(k+1)))+1 by omega];simp
  ·rw [if_neg h1]
   by_cases h2:j=off+k
   ·subst h2
    rw [if_pos (by simp),Array.getElem?_setIfInBounds_self_of_lt J]
    simp
   ·rw [if_neg (by simp;omega),Array.getElem?_setIfInBounds_ne J]
section
variable {E:Env} {base:Nat} {φ:bC} {w:World} {H:Z}
theorem afg {c xs:List Value} {d r:Array Value} {ys:Array Value} {o:Nat} (hc:eI φ c d.toList) (hx:jK φ xs.toArray ys) (hn:o+xs.length≤c.length)
  (hr:r.size=d.size) (hg:∀ j:Nat,r[j]?=if o≤j∧j<o+xs.length then ys[j-o]? else d[j]?):eI φ (splice c o xs) r.toList:=by
 have kh:=hc.1
 refine ⟨by rw [Gu];simpa [hr] using kh,fun j x y h1 h2=>?_⟩
 rw [Gt c o xs hn] at h1
 have vP:r[j]?=some y:=by simpa using h2
 rw [hg] at vP
 by_cases hj:o≤j∧j<o+xs.length
 ·rw [if_pos hj] at h1 vP
  exact hx.2 _ x y (by simpa using h1) vP
 ·rw [if_neg hj] at h1 vP
  exact hc.2 j x y h1 (by simpa using vP)
theorem En {T:cg} {ρ:Operand→Value} (he:oo E φ T ρ) (place Kh:Nat→Option (Nat×Nat)) (hp:∀ i p,place i=some p→Kh i=some p) :
  ∀(ps:List (Nat×Operand)) (c c':List Value) (d:Array Value),eI φ c d.toList→xo E T place c ps=some c'→
   ∃ d',Instr.fill Kh d (ps.map fun p=>(p.1,ρ p.2))=some d'∧eI φ c' d'.toList
 |[],c,c',d,hc,h=>by simp [xo] at h;subst h;exact ⟨d,rfl,hc⟩
 |(i,x)::ps,c,c',d,hc,h=>by
  simp only [xo] at h
  split at h
  ·rename_i off size gL
   split at h
   ·rename_i v hv
    cases hb:(Nat.beq v.cells.size size&&Nat.ble (off+size) c.length) with
    |false=>rw [hb] at h;cases h
    |true=>
     rw [hb] at h
     simp at hb
     obtain ⟨b7,bj⟩:=hb
     have mN:=(he x v hv).cells
     have kh:c.length=d.size:=by simpa using hc.1
     have EK:=NK off (ρ x).cells.toList 0 d (by simp [← mN.1,b7];omega)
     have hkey:(ρ x).cells.zipIdx.foldl (fun cs (p:Value×Nat)=>cs.setIfInBounds (off+p.2) p.1) d=((ρ x).cells.toList.zipIdx 0).foldl (fun cs (p:Value×Nat)=>cs.setIfInBounds (off+p.2) p.1) d:=by
      rw [← Array.foldl_toList,Array.toList_zipIdx]
     have hlr:eI φ (splice c off v.cells.toList) (((ρ x).cells.toList.zipIdx 0).foldl (fun cs (p:Value×Nat)=>cs.setIfInBounds (off+p.2) p.1) d).toList:=by
      refine afg (ys:=(ρ x).cells) hc (by simpa using mN) (by simp [b7];omega) EK.1 (fun j=>?_)
      rw [EK.2 j]
      have e1:(ρ x).cells.toList.length=v.cells.toList.length:=by simp [mN.1]
      simp [e1]
     obtain ⟨d',h1,h2⟩:=En he place Kh hp ps _ c' _ hlr h
     refine ⟨d',?_,h2⟩
     simp only [List.map_cons,Instr.fill,hp i _ gL]
     rw [if_neg (by simp [← mN.1,b7];omega)]
     rw [hkey]
     exact h1
   ·cases h
  ·cases h
theorem Pj (ok:E.fy):∀(fs:List Field),fs.all (fun f=>(E.size f.type).isSome)=true→
  ∃ ps,fs.mapM (fun f=>(E.P.info? f.type).map fun i=>(f.offset,i.size))=some ps∧ps.length=fs.length∧∀(i:Nat) f n,fs[i]?=some f→E.size f.type=some n→ps[i]?=some (f.offset,n)
 |[],_=>⟨[],rfl,rfl,fun i f n h=>by simp at h⟩
 |f::fs,h=>by
  simp only [List.all_cons,dZ] at h
  obtain ⟨ps,h1,h2,h3⟩:=Pj ok fs h.2
  obtain ⟨n,hn⟩:=Option.isSome_iff_exists.1 h.1
  obtain ⟨i,hi,hin⟩:=ok.size hn
  refine ⟨(f.offset,n)::ps,by simp [List.mapM_cons,hi,h1,hin],by simp [h2],fun j g m hj hm=>?_⟩
  cases j with
  |zero=>
   simp at hj;subst hj
   rw [hn] at hm;injection hm with hm;subst hm;rfl
  |succ j=>simp at hj;simpa using h3 j g m hj hm
theorem To (ok:E.fy) {T:cg} {ρ:Operand→Value} (he:oo E φ T ρ) {t:TypeId} {ps:Array (Nat×Operand)} {v:Value} (h:Ho E T t ps=some v) :
  ∃ u,(Instr.build t (ps.map fun p=>(p.1,ρ p.2))).run E.P w=.ok u w∧bn φ v u:=by
 unfold Ho at h
 split at h
 ·rename_i z fs hz ht
  obtain ⟨Y9,uo,uz⟩:=ok.zero hz
  cases hb:(ground z&&fs.all fun f=>(E.size f.type).isSome) with
  |false=>rw [hb] at h;cases h
  |true=>
   rw [hb] at h
   simp only [cond_true] at h
   rw [dZ] at hb
   split at h
   ·rename_i c hf
    injection h with h
    subst h
    obtain ⟨pl,h1,h2,h3⟩:=Pj ok fs.toList (by rw [← hb.2];simp)
    obtain ⟨d',h4,h5⟩:=En he (Ki E fs) (pl.toArray[·]?) (fun i p hp=>by
     unfold Ki at hp
     split at hp
     ·rename_i f hf'
      split at hp
      ·rename_i n hn
       injection hp with hp
       subst hp
       simpa using h3 i f n (by simpa using hf') hn
      ·cases hp
     ·cases hp) ps.toList _ c z.cells ((zF hb.1).toList) hf
    refine ⟨.agg d',run_build w t _ d' ?_,.w7 (by simpa using h5.toArray)⟩
    unfold Program.built
    simp only [uo,ok.ul ht,uz,h1]
    simpa using h4
   ·cases h
 ·rename_i z n e hz ht
  obtain ⟨Y9,uo,uz⟩:=ok.zero hz
  split at h
  ·rename_i m hm
   obtain ⟨aip,XS,XT⟩:=ok.size hm
   cases hb:ground z with
   |false=>rw [hb] at h;cases h
   |true=>
    rw [hb] at h
    simp only [cond_true] at h
    split at h
    ·rename_i c hf
     injection h with h
     subst h
     obtain ⟨d',h4,h5⟩:=En he (fun i=>some (i*m,m)) (fun i=>some (i*m,m)) (fun i p hp=>hp) ps.toList _ c z.cells ((zF hb).toList) hf
     refine ⟨.agg d',run_build w t _ d' ?_,.w7 (by simpa using h5.toArray)⟩
     unfold Program.built
     simp only [uo,ok.ul ht,uz,XS,XT]
     simpa using h4
    ·cases h
  ·cases h
 ·cases h
theorem GW (z:List Value) (n:Nat):(iM z n).length=n*z.length:=by
 induction n with
 |zero=>simp [iM]
 |succ n ih=>simp [iM,ih,Nat.add_mul];omega
theorem So (z:List Value) (hz:0<z.length):∀(n j:Nat),j<n*z.length→(iM z n)[j]?=z[j%z.length]?
 |0,j,h=>by simp at h
 |n+1,j,h=>by
  rw [Nat.add_mul] at h
  simp only [iM]
  by_cases hj:j<z.length
  ·rw [List.getElem?_append_left hj,Nat.mod_eq_of_lt hj]
  ·rw [List.getElem?_append_right J,So z hz n _ J,← Nat.mod_eq_sub_mod J]
theorem LV (z:List Value) (n:Nat):(iM z n).toArray=(Array.range (n*z.length)).map fun i=>z.toArray[i%z.length]!:=by
 apply Array.ext_getElem?
 intro j
 by_cases hj:j<n*z.length
 ·have hz:0<z.length:=by
   rcases Nat.eq_zero_or_pos z.length with h |h
   ·rw [h] at hj;simp at hj
   ·exact h
  simp only [List.getElem?_toArray,So z hz n j hj]
  have hm:j%z.length<z.length:=Nat.mod_lt _ hz
  simp [hj,List.getElem?_eq_getElem hm]
 ·rw [Array.getElem?_eq_none (by simp [GW];omega),Array.getElem?_eq_none (by simp;omega)]
theorem ahv (z:List Value) (p:Value→Bool) (h:z.all p=true) (n:Nat):(iM z n).all p=true:=by
 induction n with
 |zero=>rfl
 |succ n ih=>simp only [iM,List.all_append,h,ih];rfl
theorem LU {z:List Value} (h:eI φ z z) (n:Nat):eI φ (iM z n) (iM z n):=by
 induction n with
 |zero=>exact .nil φ
 |succ n ih=>exact h.append ih
end
section
variable {E:Env} {base:Nat} {φ:bC} {w:World} {H:Z}
structure Src (P:Program) (w:World) (size:Nat) (x:Value) (m:Nat) (news:List Value):Prop where
 len:∀ w',(Builtin.lenOf x).run P w'=.ok m w'
 cells:∀ w',w'.heap=w.heap→(Builtin.firstCells size m x).run P w'=.ok news.toArray w'
 size:news.length=m*size
theorem Hv {w w':World} (h:w'.heap=w.heap) (a:Addr):w'.cell? a=w.cell? a:=by simp [World.cell?,h]
theorem AS {sz m:Nat} {x x':Value} {new:List Value} {R S:List Nat} (hx:bn φ x x') (h:g9 H sz x=some (m,new,R)) (hp:Pre E base φ w H S) (hS:∀ i,i∈R→i∈S) (hsz:∀ s,x=.string s→sz=1) :
  ∃ news,Src E.P w sz x' m news∧eI φ new news:=by
 unfold g9 at h
 split at h
 ·rename_i s
  cases hx
  simp only [bH,b8] at h
  obtain ⟨rfl,rfl,rfl⟩:=h
  have h1:=hsz s rfl
  subst h1
  refine ⟨(s.data.map fun b=>Value.int .u8 b.toNat).toList,⟨fun w'=>rfl,fun w' _=>?_,by simp⟩,⟨rfl,fun i x y hx hy=>?_⟩⟩
  ·simp only [Builtin.firstCells]
   have:(s.extract 0 s.size)=s:=by
    apply ByteArray.ext;simp
   rw [this];rfl
  ·rw [hx] at hy;injection hy with hy;subst hy
   simp at hx
   obtain ⟨b,_,rfl⟩:=hx
   exact .int _ _
 ·cases hx
  simp only [bH,b8] at h
  obtain ⟨rfl,rfl,rfl⟩:=h
  exact ⟨[],⟨fun w'=>rfl,fun w' _=>rfl,by simp⟩,.nil φ⟩
 ·rename_i b off n c
  split at h
  ·rename_i xs hr
   simp only [bH,b8] at h
   obtain ⟨rfl,rfl,rfl⟩:=h
   obtain ⟨l,c',hl,hn,rfl,_⟩:=hx.wF
   obtain ⟨ys,h1,h2,h3⟩:=AI hp (hS b (by simp)) hl hr
   refine ⟨ys,⟨fun w'=>rfl,fun w' hw'=>?_,by rw [← h2.1,h1]⟩,h2⟩
   simp only [Builtin.firstCells]
   exact run_loadCells ys (by rw [← h2.1,h1]) (fun j y hy=>by rw [Hv hw'];exact h3 j y hy)
  ·cases h
 ·cases h
theorem KL {P:Program} {ts:Array TypeId} (hz:∀ u,ts[1]?=some u→∃ d,P.underlying u=some d∧∀ k,d≠.int k) (w:World) {α:Type} (K:Bool→Sem α) :
  (match ts[1]? with
  |some xType=>(do
   let d ← underlying xType
   let iM ← pure (match d with |.int k=>true |x=>false)
   K iM)
  |none=>(do
   let iM ← pure false
   K iM)).run P w=(K false).run P w:=by
 cases h:ts[1]? with
 |none=>rfl
 |some u=>
  obtain ⟨d,h1,h2⟩:=hz u h
  simp only
  rw [bI (run_underlying h1 w)]
  cases d <;> first |rfl |exact absurd rfl (h2 _)
theorem Q1 {P:Program} {ts:Array TypeId} {t ty e:TypeId} {i:TypeInfo} (h0:ts[0]?=some t) (ht:P.underlying t=some (.slice e)) (hi:P.info? e=some i)
  (hz:∀ u,ts[1]?=some u→∃ d,P.underlying u=some d∧∀ k,d≠.int k) {x:Value} {m:Nat} {news:List Value} (hs:Src P w i.size x m news)
  {B o n c:Nat} (hfit:n+m≤c) {w':World} (hw:(storeCells ⟨B,o+n*i.size,none⟩ news).run P w=.ok () w') :
  (Builtin.append_ ts ty #[.slice (some ⟨B,o,none⟩) n c,x]).run P w=.ok (.slice (some ⟨B,o,none⟩) (n+m) c) w':=by
 have hsz:(sizeOf e).run P w=.ok i.size w:=by simp [Go.sizeOf,typeInfo,hi]
 unfold Builtin.append_
 simp only [h0]
 have a0:(#[Value.slice (some ⟨B,o,none⟩) n c,x]:Array Value)[0]?=some (.slice (some ⟨B,o,none⟩) n c):=rfl
 have a1:(#[Value.slice (some ⟨B,o,none⟩) n c,x]:Array Value)[1]?=some x:=rfl
 simp only [a0,a1]
 rw [bI (run_underlying ht w)]
 simp only
 rw [bI hsz]
 refine (KL hz w _).trans ?_
 simp only [Bool.false_eq_true,if_false,Bool.not_false,if_true]
 rw [bI (hs.len w)]
 rw [if_pos hfit]
 rw [bI (hs.cells w rfl)]
 simp only [add_plain]
 rw [bI (by simpa using hw)]
 rfl
theorem ael {P:Program} {ts:Array TypeId} {t ty e:TypeId} {i:TypeInfo} (h0:ts[0]?=some t) (ht:P.underlying t=some (.slice e)) (hi:P.info? e=some i)
  (hz:∀ u,ts[1]?=some u→∃ d,P.underlying u=some d∧∀ k,d≠.int k) {x:Value} {news:List Value} (hs:Src P w i.size x 0 news) :
  (Builtin.append_ ts ty #[.slice none 0 0,x]).run P w=.ok (.slice none 0 0) w:=by
 have hsz:(sizeOf e).run P w=.ok i.size w:=by simp [Go.sizeOf,typeInfo,hi]
 unfold Builtin.append_
 simp only [h0]
 have a0:(#[Value.slice none 0 0,x]:Array Value)[0]?=some (.slice none 0 0):=rfl
 have a1:(#[Value.slice none 0 0,x]:Array Value)[1]?=some x:=rfl
 simp only [a0,a1]
 rw [bI (run_underlying ht w)]
 simp only
 rw [bI hsz]
 refine (KL hz w _).trans ?_
 simp only [Bool.false_eq_true,if_false,Bool.not_false,if_true]
 rw [bI (hs.len w)]
 rw [if_pos J]
 rw [bI (hs.cells w rfl)]
 rfl
theorem No (need old e t:Nat) (h:need<2 ^ 63):need≤(Question.appendCap need old e).cut t:=by simp only [Question.cut];omega
theorem Mn {P:Program} (b:Nat) (w:World):(askRoom b).run P w=.ok () w:=by unfold askRoom;split <;> rfl
theorem KK {P:Program} {ts:Array TypeId} {t ty e:TypeId} {i:TypeInfo} {z:Value} (h0:ts[0]?=some t) (ht:P.underlying t=some (.slice e)) (hi:P.info? e=some i) (uo:i.zero=some z)
  (hz:∀ u,ts[1]?=some u→∃ d,P.underlying u=some d∧∀ k,d≠.int k) {x:Value} {m:Nat} {news:List Value} (hs:Src P w i.size x m news)
  {a:Option Addr} {n c:Nat} {olds:List Value} (ho:∀ w',w'.heap=w.heap→(Builtin.firstCells i.size n (.slice a n c)).run P w'=.ok olds.toArray w')
  (hfit:¬ n+m≤c) (hb:0<i.bytes) (N5:(n+m)*i.bytes≤most) :
  ∃ cap,n+m≤cap∧∃ w',w'.heap=w.heap.push (.cells (olds.toArray++news.toArray++Builtin.zeroCells z.cells (cap-(n+m))) e (0,0))∧w'.os=w.os∧w'.tape=w.tape∧w'.output=w.output∧
   (Builtin.append_ ts ty #[.slice a n c,x]).run P w=.ok (.slice (some ⟨w.heap.size,0,none⟩) (n+m) cap) w':=by
 have hsz:(sizeOf e).run P w=.ok i.size w:=by simp [Go.sizeOf,typeInfo,hi]
 have qK:∀ w',(typeInfo e).run P w'=.ok i w':=fun w'=>by simp [typeInfo,hi]
 have YJ:∀ w',(zeroValue e).run P w'=.ok z w':=fun w'=>by simp [zeroValue,typeInfo,hi,uo]
 have hlt:n+m<2 ^ 63:=by
  have:n+m≤(n+m)*i.bytes:=Nat.le_mul_of_pos_right _ hb
  unfold most at N5
  omega
 let w1:World:={ w with drawn:=w.drawn+1 }
 refine ⟨(Question.appendCap (n+m) c e).cut (w.tape w.drawn (.appendCap (n+m) c e)),No _ _ _ _ hlt,{ w1 with heap:=w1.heap.push _ },rfl,rfl,rfl,rfl,?_⟩
 unfold Builtin.append_
 simp only [h0]
 have a0:(#[Value.slice a n c,x]:Array Value)[0]?=some (.slice a n c):=rfl
 have a1:(#[Value.slice a n c,x]:Array Value)[1]?=some x:=rfl
 simp only [a0,a1]
 rw [bI (run_underlying ht w)]
 simp only
 rw [bI hsz]
 refine (KL hz w _).trans ?_
 simp only [Bool.false_eq_true,if_false,Bool.not_false,if_true,false_or]
 rw [bI (hs.len w)]
 rw [if_neg hfit]
 rw [bI (qK w)]
 have hne:¬ (((n+m:Nat):Int)>IntKind.i64.max∧i.bytes=0):=by omega
 rw [if_neg hne]
 rw [bI (qK w)]
 have X7:¬ (Builtin.nextslicecap (n+m) c*i.bytes>2 ^ 48):=by
  have:=growslice_fits (need:=n+m) (old:=c) (bytes:=i.bytes) J (by unfold most at N5;omega)
  omega
 rw [if_neg X7]
 have Im:(choose (.appendCap (n+m) c e)).run P w=.ok ((Question.appendCap (n+m) c e).cut (w.tape w.drawn (.appendCap (n+m) c e))) w1:=rfl
 rw [bI Im,bI (qK w1),bI (Mn _ w1),bI (ho w1 rfl),bI (hs.cells w1 rfl),bI (YJ w1),bI (AK _ _ w1)]
 rfl
end
structure ez (H H':Z) (W R:List Nat):Prop where
 ext:dn W H H'
 wf:cW H'
 sub:∀ i,i∈W→i∈R
section
variable {E:Env} {base:Nat} {φ:bC} {w:World} {H:Z}
theorem ez.same (wf:cW H) (R:List Nat):ez H H [] R:=⟨dn.refl ..,wf,by simp⟩
theorem ez.new (wf:cW H) (o:dL) (R:List Nat):ez H (H.new o) [] R:=⟨dn.new H wf o,wf.new o,by simp⟩
theorem ez.set (wf:cW H) {b:Nat} (o:dL) (hw:gf (H.get b)=true) {R:List Nat} (hb:b∈R):ez H (H.set b o) [b] R:=
 ⟨dn.set H b o hw,wf.set (by
  cases hg:H.get b with
  |none=>rw [hg] at hw;simp [gf] at hw
  |some o=>exact wf.lt hg) o,fun i hi=>by simp at hi;subst hi;exact hb⟩
theorem ag8 (ok:E.fy) {ts:Array TypeId} (h:A2 E ts=false):∀ u,ts[1]?=some u→∃ d,E.P.underlying u=some d∧∀ k,d≠.int k:=by
 intro u hu
 unfold A2 at h
 rw [hu] at h
 simp only at h
 split at h
 ·cases h
 ·rename_i d hn hd;exact ⟨d,ok.ul hd,fun k e=>hn k e⟩
 ·cases h
theorem Mm (ok:E.fy) (wf:cW H) {ts:Array TypeId} {ty:TypeId} {s s' x x' v:Value} {H':Z} {W R:List Nat} (h:gZ E ts s x H=some (v,H',W,R)) :
  ez H H' W R∧∀(base:Nat) (φ:bC) (w:World),Pre E base φ w H R→gw φ H.n H'.n→bn φ s s'→bn φ x x'→
   fC E base φ w H (do Pure.pure (.value (← Builtin.append_ ts ty #[s',x']))) v H' W:=by
 unfold gZ at h
 split at h
 rotate_left
 ·cases h
 rename_i t h0
 split at h
 rotate_left
 ·cases h
 rename_i e ht
 split at h
 rotate_left
 ·cases h
 rename_i i hi
 split at h
 rotate_left
 ·cases h
 rename_i z uo
 cases hc:(!A2 E ts&&Nat.beq z.cells.size i.size&&Nat.blt 0 i.size&&Nat.blt 0 i.bytes&&tQ x i.size) with
 |false=>rw [hc] at h;cases h
 |true=>
  rw [hc] at h
  simp only [cond_true] at h
  simp only [dZ,Bool.not_eq_true'] at hc
  obtain ⟨⟨⟨⟨hx0,hzs⟩,Oa⟩,BN⟩,Yp⟩:=hc
  have hzs:=Nat.eq_of_beq_eq_true hzs
  have Oa:0<i.size:=by simpa [Nat.blt_eq] using Oa
  have BN:0<i.bytes:=by simpa [Nat.blt_eq] using BN
  split at h
  rotate_left
  ·cases h
  rename_i m new R' hsrc
  have hz:=ag8 ok hx0
  have s5:=ok.info _ _ hi
  have zH:=ok.ul ht
  have B9:∀ q,x=.string q→i.size=1:=fun q e=>by subst e;simpa [tQ] using Yp
  cases hone:new.all one with
  |false=>rw [hone] at h;cases h
  |true=>
   rw [hone] at h
   simp only [cond_true] at h
   unfold za at h
   split at h
   ·
    by_cases hm:m=0
    ·rw [lO hm] at h
     simp only [cond_true,bH,b8] at h
     obtain ⟨rfl,rfl,rfl,rfl⟩:=h
     refine ⟨ez.same wf _,fun base φ w hp hf hs hx=>?_⟩
     cases hs
     obtain ⟨news,dH,_⟩:=AS hx hsrc hp (fun i hi=>hi) B9
     subst hm
     exact fC.of_run .tF (ael h0 zH s5 hz dH)
    ·rw [iu hm] at h
     simp only [cond_false] at h
     cases hmo:Nat.ble (m*i.bytes) most with
     |false=>rw [hmo] at h;cases h
     |true=>
      rw [hmo] at h
      simp only [cond_true,bH,b8] at h
      obtain ⟨rfl,rfl,rfl,rfl⟩:=h
      refine ⟨ez.new wf _ _,fun base φ w hp hf hs hx=>?_⟩
      cases hs
      obtain ⟨news,dH,hlr⟩:=AS hx hsrc hp (fun i hi=>hi) B9
      obtain ⟨cap,hcap,w',hb,ho,Ca,mb,hr⟩:=KK (ty:=ty) (n:=0) (c:=0) (a:=none) (olds:=[]) h0 zH s5 uo hz dH (fun w' _=>rfl) J BN (by rw [Nat.zero_add];exact Nat.le_of_ble_eq_true hmo)
      have hfree:φ H.n=none:=hf _ (Nat.le_refl _) (by simp)
      rw [Nat.zero_add] at hcap hb hr
      refine fC.value (be:=fun j=>if j=H.n then some ⟨w.heap.size,0,cap*i.size⟩ else φ j) hr ?_ ?_
      ·have:=bn.pK (φ:=fun j=>if j=H.n then some ⟨w.heap.size,0,cap*i.size⟩ else φ j) H.n 0 m cap i.size ⟨w.heap.size,0,cap*i.size⟩ (by simp) hcap (by simp)
       simpa using this
      ·have hlen:=hlr.1
       have ux:=dH.size
       refine gr.row (cap*i.size) new _ e 0 0 hfree hp.bs hb ho Ca mb ?_ ?_ (fun j y hy=>?_) (fun j _=>by omega)
       ·have:(m+(cap-m))*i.size=cap*i.size:=by congr 1;omega
        simp [ux,Builtin.zeroCells,hzs,← Nat.add_mul];omega
       ·have:m*i.size≤cap*i.size:=Nat.mul_le_mul_right _ hcap
        omega
       ·obtain ⟨u,hu,hv⟩:=hlr.get hy
        exact ⟨u,by
         have:j<news.length:=(List.getElem?_eq_some_iff.1 hu).1
         rw [Array.getElem?_append_left (by simpa using this)]
         simpa using hu,hv⟩
   ·rename_i b off n c
    split at h
    ·rename_i k s9
     cases hfit:Nat.ble (n+m) k with
     |true=>
      rw [hfit] at h
      simp only [cond_true] at h
      split at h
      rotate_left
      ·cases h
      rename_i cs e' hg
      cases hle:Nat.ble (off+(n+m)*i.size) cs.length with
      |false=>rw [hle] at h;cases h
      |true=>
       rw [hle] at h
       simp only [cond_true,bH,b8] at h
       obtain ⟨rfl,rfl,rfl,rfl⟩:=h
       have hle:=Nat.le_of_ble_eq_true hle
       have hfit:=Nat.le_of_ble_eq_true hfit
       refine ⟨ez.set wf _ (by rw [hg];rfl) (by simp),fun base φ w hp hf hs hx=>?_⟩
       obtain ⟨l,hl,hnk,rfl⟩:=hs.Gr s9
       obtain ⟨news,dH,hlr⟩:=AS hx hsrc (hp.sub (S:=R') (fun i hi=>by simp [hi])) (fun i hi=>hi) B9
       have ux:=dH.size
       have hmul:(n+m)*i.size=n*i.size+m*i.size:=Nat.add_mul ..
       obtain ⟨w',hw,hout⟩:=gr.write (o:=off+n*i.size) hp wf (by simp) hl hg (by rw [hlr.1,ux];omega) hlr (Bl hone)
       refine fC.value (Q1 h0 zH s5 hz dH hfit (by rw [Nat.add_assoc];exact hw)) ?_ hout
       exact .mY _ _ _ _ _ hl hfit
     |false=>
      rw [hfit] at h
      simp only [cond_false] at h
      split at h
      rotate_left
      ·cases h
      rename_i old hrow
      cases hmo:Nat.ble ((n+m)*i.bytes) most with
      |false=>rw [hmo] at h;cases h
      |true=>
       rw [hmo] at h
       simp only [cond_true,bH,b8] at h
       obtain ⟨rfl,rfl,rfl,rfl⟩:=h
       have X8:¬ n+m≤k:=fun hh=>by rw [Nat.ble_eq_true_of_le hh] at hfit;cases hfit
       refine ⟨ez.new wf _ _,fun base φ w hp hf hs hx=>?_⟩
       obtain ⟨l,hl,hnk,rfl⟩:=hs.Gr s9
       obtain ⟨news,dH,hlr⟩:=AS hx hsrc (hp.sub (S:=R') (fun i hi=>by simp [hi])) (fun i hi=>hi) B9
       obtain ⟨olds,o1,o2,FQ⟩:=AI hp (by simp) hl hrow
       obtain ⟨cap,hcap,w',hb,ho,Ca,mb,hr⟩:=KK (ty:=ty) (n:=n) (c:=k) (a:=some ⟨l.dG,l.off+off,none⟩) (olds:=olds) h0 zH s5 uo hz dH
        (fun w' hw'=>by
         simp only [Builtin.firstCells]
         exact run_loadCells olds (by rw [← o2.1,o1]) (fun j y hy=>by rw [Hv hw'];exact FQ j y hy)) X8 BN (Nat.le_of_ble_eq_true hmo)
       have hfree:φ H.n=none:=hf _ (Nat.le_refl _) (by simp)
       have hall:=o2.append hlr
       refine fC.value (be:=fun j=>if j=H.n then some ⟨w.heap.size,0,cap*i.size⟩ else φ j) hr ?_ ?_
       ·have:=bn.pK (φ:=fun j=>if j=H.n then some ⟨w.heap.size,0,cap*i.size⟩ else φ j) H.n 0 (n+m) cap i.size ⟨w.heap.size,0,cap*i.size⟩ (by simp) hcap (by simp)
        simpa using this
       ·have ux:=dH.size
        have ER:olds.length=n*i.size:=by rw [← o2.1,o1]
        have B1:new.length=m*i.size:=by rw [hlr.1,ux]
        refine gr.row (cap*i.size) (old++new) _ e 0 0 hfree hp.bs hb ho Ca mb ?_ ?_ (fun j y hy=>?_) (fun j _=>by omega)
        ·have:(n+m+(cap-(n+m)))*i.size=cap*i.size:=by congr 1;omega
         simp [ux,ER,Builtin.zeroCells,hzs,← Nat.add_mul];omega
        ·have:(n+m)*i.size≤cap*i.size:=Nat.mul_le_mul_right _ hcap
         rw [Nat.add_mul] at this
         simp [o1,B1];omega
        ·obtain ⟨u,hu,hv⟩:=hall.get hy
         exact ⟨u,by
          have:j<(olds++news).length:=(List.getElem?_eq_some_iff.1 hu).1
          rw [Array.getElem?_append_left (by simpa using this)]
          simpa using hu,hv⟩
    ·rename_i sz s9
     split at h
     rotate_left
     ·cases h
     rename_i cs e' hg
     cases EH:(Nat.ble (off+n*i.size) cs.length&&Nat.beq sz i.size&&Nat.beq e e'&&Nat.ble ((n+m)*i.bytes) most) with
     |false=>rw [EH] at h;cases h
     |true=>
      rw [EH] at h
      simp only [cond_true,bH,b8] at h
      obtain ⟨rfl,rfl,rfl,rfl⟩:=h
      simp only [dZ] at EH
      obtain ⟨⟨⟨hle,hsz⟩,hee⟩,hmo⟩:=EH
      have hle:=Nat.le_of_ble_eq_true hle
      have hsz:=Nat.eq_of_beq_eq_true hsz
      have hee:=Nat.eq_of_beq_eq_true hee
      have hmo:=Nat.le_of_ble_eq_true hmo
      subst hsz hee
      have uk:=wf.lt hg
      have ur:gf (H.get b)=true:=by rw [hg];rfl
      refine ⟨⟨by simpa using (dn.set H b .dead ur).trans (dn.new (H.set b .dead) (wf.set uk _) _),(wf.set uk _).new _,fun i hi=>by simp at hi;subst hi;simp⟩,fun base φ w hp hf hs hx=>?_⟩
      obtain ⟨l,c',hl,hnc,hlim,rfl⟩:=hs.Rt s9
      obtain ⟨news,dH,hlr⟩:=AS hx hsrc (hp.sub (S:=R') (fun i hi=>by simp [hi])) (fun i hi=>hi) B9
      have hfree:φ H.n=none:=hf _ (Nat.le_refl _) (by simp)
      have hrow:row H b off (n*i.size)=some ((cs.drop off).take (n*i.size)):=by
       unfold row;rw [hg];simp only;rw [Nat.ble_eq_true_of_le hle];rfl
      obtain ⟨olds,o1,o2,FQ⟩:=AI hp (by simp) hl hrow
      have ux:=dH.size
      have ER:olds.length=n*i.size:=by rw [← o2.1,o1]
      have B1:new.length=m*i.size:=by rw [hlr.1,ux]
      have hall:=o2.append hlr
      by_cases hfit:n+m≤c'
      ·
       obtain ⟨fj,lo,hi',q1,cv,cY,cO,dc,di⟩:=hp.blocks b (by simp) l _ hl hg
       have hmul:(n+m)*i.size≤c'*i.size:=Nat.mul_le_mul_right _ hfit
       rw [Nat.add_mul] at hmul
       have IA:∀ v∈news,one v=true:=fun v hv=>by
        obtain ⟨j,hj,rfl⟩:=List.mem_iff_getElem.1 hv
        have hx:j<new.length:=hlr.1▸hj
        rw [(hlr.2 j _ _ (List.getElem?_eq_getElem hx) (List.getElem?_eq_getElem hj)).P5]
        exact Bl hone _ (List.getElem_mem ..)
       obtain ⟨w',vC,hr,hput,hs',Iu⟩:=Q7 (P:=E.P) (o:=l.off+off+n*i.size) news 0 w fj q1 J (fun j h8 h9=>di j J J) IA
       refine fC.value (be:=fun j=>if j=H.n then some ⟨l.dG,l.off+off,l.mR-off⟩ else φ j) (Q1 h0 zH s5 hz dH hfit hr) ?_ ?_
       ·have:=bn.pK (φ:=fun j=>if j=H.n then some ⟨l.dG,l.off+off,l.mR-off⟩ else φ j) H.n 0 (n+m) c' i.size ⟨l.dG,l.off+off,l.mR-off⟩ (by simp) hfit (by simp;omega)
        simpa using this
       ·refine gr.take b l ⟨l.dG,l.off+off,l.mR-off⟩ _ e uk ur hl rfl hfree (hp.lt b (by simp) l hl (rX ur)) hput.other hput.size hput.os hput.tape hput.output ?_
        refine ⟨vC,lo,hi',hput.at_,by simp;omega,by simp [B1];omega,fun j y hy=>?_,dc,fun j hj hj2=>di j (by simp at hj;omega) (by simp at hj2;omega)⟩
        obtain ⟨u,hu,hv⟩:=hall.get hy
        refine ⟨u,?_,hv.mono (acP hfree _)⟩
        show vC[l.off+off+j]?=some u
        rw [Iu]
        by_cases hj:j<olds.length
        ·rw [List.getElem?_append_left hj] at hu
         rw [if_neg J]
         have:=FQ j u hu
         simpa [World.cell?,q1] using this
        ·rw [List.getElem?_append_right J] at hu
         have:=(List.getElem?_eq_some_iff.1 hu).1
         rw [if_pos J,← hu];congr 1;omega
      ·obtain ⟨cap,hcap,w',hb,ho,Ca,mb,hr⟩:=KK (ty:=ty) (n:=n) (c:=c') (a:=some ⟨l.dG,l.off+off,none⟩) (olds:=olds) h0 zH s5 uo hz dH
        (fun w' hw'=>by
         simp only [Builtin.firstCells]
         exact run_loadCells olds ER (fun j y hy=>by rw [Hv hw'];exact FQ j y hy)) hfit BN hmo
       refine fC.value (be:=fun j=>if j=H.n then some ⟨w.heap.size,0,cap*i.size⟩ else φ j) hr ?_ ?_
       ·have:=bn.pK (φ:=fun j=>if j=H.n then some ⟨w.heap.size,0,cap*i.size⟩ else φ j) H.n 0 (n+m) cap i.size ⟨w.heap.size,0,cap*i.size⟩ (by simp) hcap (by simp)
        simpa using this
       ·
        have uv:=gr.row (E:=E) (cap*i.size) ((cs.drop off).take (n*i.size)++new) _ e 0 0 hfree hp.bs hb ho Ca mb (by
          have:(n+m+(cap-(n+m)))*i.size=cap*i.size:=by congr 1;omega
          simp [ux,ER,Builtin.zeroCells,hzs,← Nat.add_mul];omega) (by
          have:(n+m)*i.size≤cap*i.size:=Nat.mul_le_mul_right _ hcap
          rw [Nat.add_mul] at this
          simp [B1];omega) (fun j y hy=>by
          obtain ⟨u,hu,hv⟩:=hall.get hy
          exact ⟨u,by
           have:j<(olds++news).length:=(List.getElem?_eq_some_iff.1 hu).1
           rw [Array.getElem?_append_left (by simpa using this)]
           simpa using hu,hv⟩) (fun j _=>by omega)
        refine ⟨fun j hj=>by simp at hj;subst hj;exact ⟨uk,ur⟩,fun j hj=>uv.ext j (by simpa using hj),⟨uv.step.os,uv.step.tape,uv.step.output,uv.step.size,fun B hB _=>uv.step.keep B hB (by simp)⟩,fun j lj h1 h2 h3=>?_,fun j lj oj h1 h2 h3 h4=>?_,fun j lj h1 h2 h3 h4=>?_,fun j j' _ _ h1 h2 h3 h4 h5=>?_⟩
        ·rcases uv.fresh j lj h1 (by simpa using h2) h3 with hh |⟨q,hq,_⟩
         ·exact .inl hh
         ·simp at hq
        ·simp at h1 h2
         rcases h1 with h1 |h1
         ·subst h1
          rw [Z.jO,Z.cI,if_neg J,Z.kP,if_pos rfl] at h4
          injection h4 with h4
          subst h4
          trivial
         ·have:j=H.n:=by omega
          subst this
          rw [Z.jO,Z.cI,if_pos rfl] at h4
          exact uv.blocks H.n lj oj (.inr (Nat.le_refl _)) (by simp) h3 (by rw [Z.jO,if_pos rfl];exact h4)
        ·simp at h2
         have:j=H.n:=by omega
         subst this
         rw [Z.jO,Z.cI,if_pos rfl] at h4
         exact uv.lt H.n lj (Nat.le_refl _) (by simp) h3 (by rw [Z.jO,if_pos rfl];exact h4)
        ·simp at h2 h4
         omega
   ·cases h
end
section
variable {E:Env} {base:Nat} {φ:bC} {w:World} {H:Z}
abbrev Good (E:Env) (H H':Z) (W R:List Nat) (v:Value) (φ:bC) (s:Sem Next):Prop:=
 ∀(base:Nat) (w:World),Pre E base φ w H R→gw φ H.n H'.n→fC E base φ w H s v H' W
theorem OY (ok:E.fy) (wf:cW H) {ts:Array TypeId} {ty:TypeId} {x x' v:Value} {H':Z} {W R:List Nat} (h:JA E ts x H=some (v,H',W,R)) :
  ez H H' W R∧∀ φ,bn φ x x'→Good E H H' W R v φ (do Pure.pure (.value (← Builtin.len_ ts ty #[x']))):=by
 have a0:∀ y:Value,(#[y]:Array Value)[0]?=some y:=fun _=>rfl
 unfold JA at h
 split at h
 rotate_left
 ·cases h
 rename_i t h0
 split at h
 ·rename_i e n c ht
  simp only [bH,b8] at h
  obtain ⟨rfl,rfl,rfl,rfl⟩:=h
  refine ⟨ez.same wf _,fun φ hx base w hp hf=>fC.of_run (.int .i64 _) ?_⟩
  cases hx <;> simp [Builtin.len_,h0,a0,run_underlying (ok.ul ht),goInt]
 ·rename_i s ht
  simp only [bH,b8] at h
  obtain ⟨rfl,rfl,rfl,rfl⟩:=h
  refine ⟨ez.same wf _,fun φ hx base w hp hf=>fC.of_run (.int .i64 _) ?_⟩
  cases hx <;> simp [Builtin.len_,h0,a0,run_underlying (ok.ul ht),goInt]
 ·rename_i ht
  simp only [bH,b8] at h
  obtain ⟨rfl,rfl,rfl,rfl⟩:=h
  refine ⟨ez.same wf _,fun φ hx base w hp hf=>fC.of_run (.int .i64 _) ?_⟩
  cases hx <;> simp [Builtin.len_,h0,a0,run_underlying (ok.ul ht),goInt]
 ·rename_i b ht
  split at h
  ·rename_i es ax hg
   simp only [bH,b8] at h
   obtain ⟨rfl,rfl,rfl,rfl⟩:=h
   refine ⟨ez.same wf _,fun φ hx base w hp hf=>fC.of_run (.int .i64 _) ?_⟩
   cases hx with
   |map _ l hl=>
    obtain ⟨es',h1,h2,h3,h4⟩:=hp.blocks b (by simp) l _ hl hg
    simp [Builtin.len_,h0,a0,run_underlying (ok.ul ht),goInt,getObj,Sem.run,h1,h3]
  ·cases h
 ·rename_i p ht
  split at h
  ·rename_i n e hp'
   simp only [bH,b8] at h
   obtain ⟨rfl,rfl,rfl,rfl⟩:=h
   refine ⟨ez.same wf _,fun φ hx base w hp hf=>fC.of_run (.int .i64 _) ?_⟩
   simp [Builtin.len_,h0,a0,run_underlying (ok.ul ht),run_underlying (ok.ul hp'),goInt]
  ·cases h
 ·cases h
theorem MR (ok:E.fy) (wf:cW H) {ts:Array TypeId} {ty:TypeId} {x x' v:Value} {H':Z} {W R:List Nat} (h:Hu E ts x H=some (v,H',W,R)) :
  ez H H' W R∧∀ φ,bn φ x x'→Good E H H' W R v φ (do Pure.pure (.value (← Builtin.cap_ ts ty #[x']))):=by
 have a0:∀ y:Value,(#[y]:Array Value)[0]?=some y:=fun _=>rfl
 unfold Hu at h
 split at h
 rotate_left
 ·cases h
 rename_i t h0
 split at h
 ·rename_i e ht
  simp only [bH,b8] at h
  obtain ⟨rfl,rfl,rfl,rfl⟩:=h
  refine ⟨ez.same wf _,fun φ hx base w hp hf=>fC.of_run (.int .i64 _) ?_⟩
  cases hx
  simp [Builtin.cap_,h0,a0,run_underlying (ok.ul ht),goInt]
 ·rename_i e a n c ht
  split at h
  ·rename_i k hk
   simp only [bH,b8] at h
   obtain ⟨rfl,rfl,rfl,rfl⟩:=h
   refine ⟨ez.same wf _,fun φ hx base w hp hf=>fC.of_run (.int .i64 _) ?_⟩
   obtain ⟨b,o,sp⟩:=a
   cases sp with
   |none=>
    obtain ⟨l,hl,hn,rfl⟩:=hx.Gr hk
    simp [Builtin.cap_,h0,a0,run_underlying (ok.ul ht),goInt]
   |some q=>cases hx with |AQ _ _=>cases hk
  ·cases h
 ·cases h
theorem Rx {sz m:Nat} {x x':Value} {new:List Value} {R S:List Nat} (hx:bn φ x x') (h:g9 H sz x=some (m,new,R)) (hp:Pre E base φ w H S) (hS:∀ i,i∈R→i∈S) (hsz:tQ x sz=true) :
  ∃ news,eI φ new news∧new.length=m*sz∧(∀ w',(Builtin.lenOf x').run E.P w'=.ok m w')∧∀ k,k≤m→(Builtin.firstCells sz k x').run E.P w=.ok (news.take (k*sz)).toArray w:=by
 have N9:∀ q,x=.string q→sz=1:=fun q e=>by subst e;simpa [tQ] using hsz
 obtain ⟨news,dH,hlr⟩:=AS hx h hp hS N9
 refine ⟨news,hlr,by rw [hlr.1,dH.size],dH.len,fun k hk=>?_⟩
 unfold g9 at h
 split at h
 ·rename_i s
  have:=N9 s rfl
  subst this
  cases hx
  simp only [bH,b8] at h
  obtain ⟨rfl,rfl,rfl⟩:=h
  have hc:=dH.cells w rfl
  simp only [Builtin.firstCells] at hc ⊢
  have h2:(s.extract 0 s.size)=s:=by apply ByteArray.ext;simp
  rw [h2] at hc
  have h3:=Result.ok.inj hc
  have h4:news=(s.data.map fun b=>Value.int .u8 b.toNat).toList:=by
   have:=congrArg Array.toList h3.1
   simpa using this.symm
  subst h4
  show Result.ok _ w=_
  congr 1
  apply Array.ext'
  simp [ByteArray.data_extract]
 ·cases hx
  simp only [bH,b8] at h
  obtain ⟨rfl,rfl,rfl⟩:=h
  have:k=0:=by omega
  subst this
  simp [Builtin.firstCells,run_pure]
 ·rename_i b off n c
  split at h
  ·rename_i xs hr
   simp only [bH,b8] at h
   obtain ⟨rfl,rfl,rfl⟩:=h
   obtain ⟨l,c',hl,hn,rfl,_⟩:=hx.wF
   obtain ⟨ys,h1,h2,h3⟩:=AI hp (hS b (by simp)) hl hr
   have hc:=dH.cells w rfl
   simp only [Builtin.firstCells] at hc ⊢
   rw [run_loadCells ys (by rw [← h2.1,h1]) h3] at hc
   have h4:=Result.ok.inj hc
   have h5:news=ys:=by
    have:=congrArg Array.toList h4.1
    simpa using this.symm
   subst h5
   have hlen:news.length=n*sz:=by rw [← h2.1,h1]
   have hks:k*sz≤n*sz:=Nat.mul_le_mul_right _ hk
   refine run_loadCells (news.take (k*sz)) (by simp;omega) (fun j y hy=>?_)
   rw [List.getElem?_take] at hy
   split at hy
   ·exact h3 j y hy
   ·cases hy
  ·cases h
 ·cases h
theorem M7 (ok:E.fy) (wf:cW H) {ts:Array TypeId} {ty:TypeId} {d d' s s' v:Value} {H':Z} {W R:List Nat} (h:Ed E ts d s H=some (v,H',W,R)) :
  ez H H' W R∧∀ φ,bn φ d d'→bn φ s s'→Good E H H' W R v φ (do Pure.pure (.value (← Builtin.copy_ ts ty #[d',s']))):=by
 have a0:∀ y z:Value,(#[y,z]:Array Value)[0]?=some y:=fun _ _=>rfl
 have a1:∀ y z:Value,(#[y,z]:Array Value)[1]?=some z:=fun _ _=>rfl
 unfold Ed at h
 split at h
 rotate_left
 ·cases h
 rename_i t h0
 split at h
 rotate_left
 ·cases h
 rename_i e ht
 split at h
 rotate_left
 ·cases h
 rename_i sz hsz
 cases hst:tQ s sz with
 |false=>rw [hst] at h;cases h
 |true=>
  rw [hst] at h
  simp only [cond_true] at h
  split at h
  ·rename_i m new R' hsrc
   simp only [bH,b8] at h
   obtain ⟨rfl,rfl,rfl,rfl⟩:=h
   refine ⟨ez.same wf _,fun φ hd hs base w hp hf=>?_⟩
   cases hd
   obtain ⟨news,hlr,hl,hlen,hpre⟩:=Rx hs hsrc hp (fun i hi=>hi) hst
   refine fC.of_run (.int .i64 _) ?_
   unfold Builtin.copy_
   simp only [h0,a0,a1]
   rw [bI (iE ok ht w)]
   simp only
   rw [bI (hlen w),bI (lU ok hsz w)]
   have hmin:Nat.min m 0=0:=Nat.min_zero m
   rw [hmin,bI (hpre 0 (Nat.zero_le _))]
   rfl
  ·rename_i b off n c m new R' hsrc
   split at h
   rotate_left
   ·cases h
   rename_i cs e' hg
   cases hc:(Nat.ble (off+min m n*sz) cs.length&&new.all one) with
   |false=>rw [hc] at h;cases h
   |true=>
    rw [hc] at h
    simp only [cond_true,bH,b8] at h
    obtain ⟨rfl,rfl,rfl,rfl⟩:=h
    simp only [dZ] at hc
    obtain ⟨hle,hone⟩:=hc
    have hle:=Nat.le_of_ble_eq_true hle
    refine ⟨ez.set wf _ (by rw [hg];rfl) (by simp),fun φ hd hs base w hp hf=>?_⟩
    obtain ⟨l,c',hl,hn,rfl,_⟩:=hd.wF
    obtain ⟨news,hlr,B1,hlen,hpre⟩:=Rx hs hsrc (hp.sub (S:=R') (fun i hi=>by simp [hi])) (fun i hi=>hi) hst
    have N4:min m n*sz≤m*sz:=Nat.mul_le_mul_right _ (Nat.min_le_left ..)
    obtain ⟨w',hw,hout⟩:=gr.write (o:=off) (xs:=new.take (min m n*sz)) (ys:=news.take (min m n*sz)) hp wf (by simp) hl hg (by simp;omega) (hlr.take _)
     (fun v hv=>Bl hone v (List.mem_of_mem_take hv))
    refine fC.value (be:=φ) (u:=.int .i64 ((min m n:Nat):Int)) ?_ (.int .i64 _) hout
    unfold Builtin.copy_
    simp only [h0,a0,a1]
    rw [bI (iE ok ht w)]
    simp only
    rw [bI (hlen w),bI (lU ok hsz w)]
    have hmin:Nat.min m n=min m n:=rfl
    rw [hmin,bI (hpre _ (Nat.min_le_left ..))]
    simp only
    rw [bI hw]
    rfl
  ·cases h
theorem ahu {z:Value} {n:Nat}:(Builtin.zeroCells z.cells n).toList=iM z.cells.toList n:=by
 have:=LV z.cells.toList n
 have h2:=congrArg Array.toList this
 simp at h2
 rw [h2]
 simp [Builtin.zeroCells]
theorem M3 (ok:E.fy) (wf:cW H) {ts:Array TypeId} {ty:TypeId} {x x' v:Value} {H':Z} {W R:List Nat} (h:xg E ts x H=some (v,H',W,R)) :
  ez H H' W R∧∀ φ,bn φ x x'→Good E H H' W R v φ (do Pure.pure (.value (← Builtin.clear_ ts ty #[x']))):=by
 have a0:∀ y:Value,(#[y]:Array Value)[0]?=some y:=fun _=>rfl
 unfold xg at h
 split at h
 rotate_left
 ·cases h
 rename_i t h0
 split at h
 ·rename_i e a c ht
  simp only [bH,b8] at h
  obtain ⟨rfl,rfl,rfl,rfl⟩:=h
  refine ⟨ez.same wf _,fun φ hx base w hp hf=>fC.of_run (.tuple' ⟨rfl,fun i x y hx=>by simp at hx⟩) ?_⟩
  cases hx <;> simp [Builtin.clear_,h0,a0,run_underlying (ok.ul ht)]
 ·rename_i e b off n c ht
  split at h
  ·rename_i z cs e' hz hg
   cases hc:(Nat.ble (off+(n+1)*z.cells.size) cs.length&&z.cells.toList.all one&&ground z) with
   |false=>rw [hc] at h;cases h
   |true=>
    rw [hc] at h
    simp only [cond_true,bH,b8] at h
    obtain ⟨rfl,rfl,rfl,rfl⟩:=h
    simp only [dZ] at hc
    obtain ⟨⟨hle,hone⟩,Iw⟩:=hc
    have hle:=Nat.le_of_ble_eq_true hle
    refine ⟨ez.set wf _ (by rw [hg];rfl) (by simp),fun φ hx base w hp hf=>?_⟩
    obtain ⟨l,c',hl,hn,rfl,_⟩:=hx.wF
    have hzl:=GW z.cells.toList (n+1)
    obtain ⟨w',hw,hout⟩:=gr.write (o:=off) (xs:=iM z.cells.toList (n+1)) (ys:=iM z.cells.toList (n+1)) hp wf (by simp) hl hg (by rw [hzl];simpa using hle)
     (LU ((zF Iw).toList) _) (Bl (ahv _ _ hone _))
    refine fC.value (be:=φ) (u:=.tuple #[]) ?_ (.tuple' ⟨rfl,fun i x y hx=>by simp at hx⟩) hout
    unfold Builtin.clear_
    simp only [h0,a0]
    rw [bI (iE ok ht w)]
    simp only
    rw [bI (oU ok hz w),ahu,bI hw]
    rfl
  ·cases h
 ·cases h
theorem Pg (ok:E.fy) (wf:cW H) {t:TypeId} {l l' c c' v:Value} {H':Z} {W R:List Nat} (h:Fb E t l c H=some (v,H',W,R)) :
  ez H H' W R∧∀ φ,bn φ l l'→bn φ c c'→Good E H H' W R v φ (do Pure.pure (.value (← Instr.makeSlice t l' c'))):=by
 unfold Fb at h
 split at h
 rotate_left
 ·cases h
 rename_i e kl l kc c ht
 split at h
 rotate_left
 ·cases h
 rename_i i hi
 split at h
 rotate_left
 ·cases h
 rename_i z hz
 cases hc:(decide (0≤l)&&decide (l≤c)&&decide (c*i.bytes≤(most:Int))&&decide (c≤(most:Int))&&Nat.beq z.cells.size i.size&&z.cells.toList.all one&&ground z) with
 |false=>rw [hc] at h;cases h
 |true=>
  rw [hc] at h
  simp only [cond_true,bH,b8] at h
  obtain ⟨rfl,rfl,rfl,rfl⟩:=h
  simp only [dZ,decide_eq_true_eq] at hc
  obtain ⟨⟨⟨⟨⟨⟨h1,h2⟩,h3⟩,h4⟩,h5⟩,h6⟩,h7⟩:=hc
  have h5:=Nat.eq_of_beq_eq_true h5
  unfold most at h3 h4
  refine ⟨ez.new wf _ _,fun φ hl hc base w hp hf=>?_⟩
  cases hl
  cases hc
  have hfree:φ H.n=none:=hf _ (Nat.le_refl _) (by simp)
  have Yz:IntKind.i64.wrap l=l:=by simp [IntKind.wrap,IntKind.signed,IntKind.bits];omega
  have Yy:IntKind.i64.wrap c=c:=by simp [IntKind.wrap,IntKind.signed,IntKind.bits];omega
  have s5:=ok.info _ _ hi
  have qK:(typeInfo e).run E.P w=.ok i w:=by simp [typeInfo,s5]
  have uz:(zeroValue e).run E.P w=.ok z w:=by simp [zeroValue,typeInfo,s5,hz]
  have hsz:(sizeOf e).run E.P w=.ok i.size w:=by simp [Go.sizeOf,typeInfo,s5]
  have hmul:(i.bytes:Int)*c≤1099511627776:=by rw [Int.mul_comm];exact h3
  refine fC.value (be:=fun j=>if j=H.n then some ⟨w.heap.size,0,(iM z.cells.toList c.toNat).length⟩ else φ j) (u:=.slice (some ⟨w.heap.size,0,none⟩) l.toNat c.toNat)
   (w':={ w with heap:=w.heap.push (.cells (iM z.cells.toList c.toNat).toArray e (0,0)) }) ?_ ?_ ?_
  ·unfold Instr.makeSlice
   rw [bI (iE ok ht w)]
   simp only [asInt,asIntOf]
   rw [bI (a:=l) rfl,bI (a:=c) rfl,bI qK]
   simp only [Yz,Yy]
   have Io:(decide (c<0)||decide ((i.bytes:Int)*c>2 ^ 48)||decide (l<0)||decide (l>c))=false:=by
    simp only [Bool.or_eq_false_iff,decide_eq_false_iff_not]
    omega
   rw [if_neg (by rw [Io];simp)]
   rw [bI (Mn _ w),bI hsz]
   by_cases hn:c.toNat*i.size=0
   ·rw [if_pos hn,bI (run_pure _ w),bI (AK _ _ w)]
    have:iM z.cells.toList c.toNat=[]:=by
     apply List.eq_nil_of_length_eq_zero
     rw [GW];simpa [h5] using hn
    have h0:(Array.map (fun x=>(#[]:Array Value)[x%(#[]:Array Value).size]!) (Array.range 0))=#[]:=by simp
    rw [this,hn]
    simp only [h0]
    rfl
   ·rw [if_neg hn]
    rw [bI uz,bI (run_pure z.cells w),bI (AK _ _ w)]
    rw [LV]
    simp [h5]
  ·have:=bn.mY (φ:=fun j=>if j=H.n then some ⟨w.heap.size,0,(iM z.cells.toList c.toNat).length⟩ else φ j) H.n 0 l.toNat c.toNat ⟨w.heap.size,0,(iM z.cells.toList c.toNat).length⟩ (by simp) J
   simpa using this
  ·exact gr.Fm hp.bs hfree (LU ((zF h7).toList) _) rfl rfl rfl rfl
end
end Go.Am
