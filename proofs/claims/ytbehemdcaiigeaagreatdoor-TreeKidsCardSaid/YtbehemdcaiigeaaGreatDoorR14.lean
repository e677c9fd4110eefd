/- Part of the proof that TreeKids answers true. -/
import Derived.Test.YtbehemdcaiigeaaGreatDoorR13
set_option linter.unusedVariables false
set_option linter.unusedSimpArgs false
set_option maxRecDepth 100000
set_option maxHeartbeats 4000000
set_option maxRecDepth 1000000
namespace Go.Proofs.YtbehemdcaiigeaaGreatDoor
open Go Go.Am
theorem tJ {w:World} {φ:bA} {c:List Value} {b o:Nat} (hg:c.all k5=true) (h:∀(j:Nat) x,c[j]?=some x→w.cell? ⟨b,o+j,none⟩=some x):∀(j:Nat) x,c[j]?=some x→∃ y,w.cell? ⟨b,o+j,none⟩=some y∧be φ x y:=fun j x hx=>
 ⟨x,h j x hx,.z7 (List.all_eq_true.1 hg x (List.mem_of_getElem? hx))⟩
theorem adV {w:World} {φ:bA} {v y:Value} {b:Nat} (h:w.cell? ⟨b,0,none⟩=some y) (hv:be φ v y):∀(j:Nat) x,[v][j]?=some x→∃ y,w.cell? ⟨b,0+j,none⟩=some y∧be φ x y:=fun j x hx=>by
 cases j with
 |zero=>simp at hx;subst hx;exact ⟨y,h,hv⟩
 |succ j=>simp at hx
def Ad (i:Nat):Option Am.Loc:=if i<23 then some ⟨i,0,0⟩ else none
theorem Yw {w:World} (h:laidMetH Tryz.prog Rows.treeKidsRow.laid w):∃ φ,kj w G φ:=by
 refine ⟨Ad,yM,yL,fun i hi=>?_,fun g hg=>?_,?_⟩
 ·rw [lq] at hi
  unfold Ad
  rw [if_neg D]
 ·have hg:g<23:=hg
  exact ⟨⟨g,0,0⟩,if_pos hg,rfl,rfl⟩
 ·have R:∀(i:Nat) (e:TypeId) (l:Am.Loc),Ad i=some l→wR[i]?=some (.cells (k3 i) e true)→(∀(j:Nat) x,(k3 i)[j]?=some x→∃ y,w.cell? ⟨l.cD,l.off+j,none⟩=some y∧be Ad x y)→
    ∀ m o,Ad i=some m→G.get i=some o→∃ c e,o=.cells c e true∧∀(j:Nat) x,c[j]?=some x→∃ y,w.cell? ⟨m.cD,m.off+j,none⟩=some y∧be Ad x y:=by
   intro i e l hl Y7 hk m o hm ho
   rw [hl] at hm
   injection hm with hm
   subst hm
   rw [wQ i Y7] at ho
   injection ho with ho
   exact ⟨k3 i,e,ho.symm,hk⟩
  intro i m o hm ho
  have hi:i<23:=by have:=yM.lt ho;rwa [lq] at this
  match i,hi with
  |0,_=>exact R 0 76 ⟨0,0,0⟩ rfl rfl (adV (v0 h) (.iface _ _ _ (.wW (eb.toArray (xs:=[_]) (.cons (.ptr 22 31 ⟨22,0,0⟩ rfl) (.nil _)))))) m o hm ho
  |1,_=>exact R 1 4 ⟨1,0,0⟩ rfl rfl (fun j x hx=>by cases (show ([]:List Value)[j]?=some x from hx)) m o hm ho
  |2,_=>exact R 2 145 ⟨2,0,0⟩ rfl rfl (tJ av (fun j x hx=>by rw [Nat.zero_add];exact v2 h j x hx)) m o hm ho
  |3,_=>exact R 3 168 ⟨3,0,0⟩ rfl rfl (tJ av (fun j x hx=>by rw [Nat.zero_add];exact v3 h j x hx)) m o hm ho
  |4,_=>exact R 4 179 ⟨4,0,0⟩ rfl rfl (fun j x hx=>by cases (show ([]:List Value)[j]?=some x from hx)) m o hm ho
  |5,_=>exact R 5 4 ⟨5,0,0⟩ rfl rfl (tJ av (fun j x hx=>by rw [Nat.zero_add];exact TU h j x hx)) m o hm ho
  |6,_=>exact R 6 232 ⟨6,0,0⟩ rfl rfl (tJ av (fun j x hx=>by rw [Nat.zero_add];exact v6 h j x hx)) m o hm ho
  |7,_=>exact R 7 3 ⟨7,0,0⟩ rfl rfl (fun j x hx=>by cases (show ([]:List Value)[j]?=some x from hx)) m o hm ho
  |8,_=>exact R 8 313 ⟨8,0,0⟩ rfl rfl (tJ av (fun j x hx=>by rw [Nat.zero_add];exact TV h j x hx)) m o hm ho
  |9,_=>exact R 9 320 ⟨9,0,0⟩ rfl rfl (fun j x hx=>by cases (show ([]:List Value)[j]?=some x from hx)) m o hm ho
  |10,_=>exact R 10 204 ⟨10,0,0⟩ rfl rfl (tJ av (fun j x hx=>by rw [Nat.zero_add];exact v10 h j x hx)) m o hm ho
  |11,_=>exact R 11 333 ⟨11,0,0⟩ rfl rfl (tJ av (fun j x hx=>by rw [Nat.zero_add];exact v11 h j x hx)) m o hm ho
  |12,_=>exact R 12 145 ⟨12,0,0⟩ rfl rfl (tJ av (fun j x hx=>by rw [Nat.zero_add];exact MQ h j x hx)) m o hm ho
  |13,_=>exact R 13 353 ⟨13,0,0⟩ rfl rfl (tJ av (fun j x hx=>by rw [Nat.zero_add];exact ah6 h j x hx)) m o hm ho
  |14,_=>exact R 14 31 ⟨14,0,0⟩ rfl rfl (fun j x hx=>by cases (show ([]:List Value)[j]?=some x from hx)) m o hm ho
  |15,_=>exact R 15 31 ⟨15,0,0⟩ rfl rfl (fun j x hx=>by cases (show ([]:List Value)[j]?=some x from hx)) m o hm ho
  |16,_=>exact R 16 397 ⟨16,0,0⟩ rfl rfl (fun j x hx=>by cases (show ([]:List Value)[j]?=some x from hx)) m o hm ho
  |17,_=>exact R 17 397 ⟨17,0,0⟩ rfl rfl (fun j x hx=>by cases (show ([]:List Value)[j]?=some x from hx)) m o hm ho
  |18,_=>exact R 18 412 ⟨18,0,0⟩ rfl rfl (fun j x hx=>by cases (show ([]:List Value)[j]?=some x from hx)) m o hm ho
  |19,_=>exact R 19 328 ⟨19,0,0⟩ rfl rfl (fun j x hx=>by cases (show ([]:List Value)[j]?=some x from hx)) m o hm ho
  |20,_=>exact R 20 414 ⟨20,0,0⟩ rfl rfl (fun j x hx=>by cases (show ([]:List Value)[j]?=some x from hx)) m o hm ho
  |21,_=>exact R 21 179 ⟨21,0,0⟩ rfl rfl (fun j x hx=>by cases (show ([]:List Value)[j]?=some x from hx)) m o hm ho
  |22,_=>exact R 22 0 ⟨22,0,0⟩ rfl rfl (fun j x hx=>by cases (show ([]:List Value)[j]?=some x from hx)) m o hm ho
end Go.Proofs.YtbehemdcaiigeaaGreatDoor
