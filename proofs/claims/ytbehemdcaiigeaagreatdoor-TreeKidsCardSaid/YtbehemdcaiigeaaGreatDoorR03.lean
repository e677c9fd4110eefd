/- Part of the proof that TreeKids answers true. -/
import Derived.Test.YtbehemdcaiigeaaGreatDoorR02
import GoSem.PinnedTables
set_option linter.unusedVariables false
set_option linter.unusedSimpArgs false
set_option maxRecDepth 100000
set_option maxHeartbeats 4000000
namespace Go.Proofs.YtbehemdcaiigeaaGreatDoor
open Go Go.Am
def wR:List df:=[
 .cells [.iface 107 (.agg #[.pointer (some ⟨22,31,none⟩)])] 76 true,
 .cells [] 4 true,
 .cells [.int .u8 0,.int .u8 0,.int .u8 0,.int .u8 0,.int .u8 0,.int .u8 0,.int .u8 0,.int .u8 0,.int .u8 0,.int .u8 1,.int .u8 1,.int .u8 1,.int .u8 1,.int .u8 1,.int .u8 0,.int .u8 0,.int .u8 0,.int .u8 0,.int .u8 0,.int .u8 0,.int .u8 0,.int .u8 0,.int .u8 0,.int .u8 0,.int .u8 0,.int .u8 0,.int .u8 0,.int .u8 0,.int .u8 0,.int .u8 0,.int .u8 0,.int .u8 0,.int .u8 1,.int .u8 0,.int .u8 0,.int .u8 0,.int .u8 0,.int .u8 0,.int .u8 0,.int .u8 0,.int .u8 0,.int .u8 0,.int .u8 0,.int .u8 0,.int .u8 0,.int .u8 0,.int .u8 0,.int .u8 0,.int .u8 0,.int .u8 0,.int .u8 0,.int .u8 0,.int .u8 0,.int .u8 0,.int .u8 0,.int .u8 0,.int .u8 0,.int .u8 0,.int .u8 0,.int .u8 0,.int .u8 0,.int .u8 0,.int .u8 0,.int .u8 0,.int .u8 0,.int .u8 0,.int .u8 0,.int .u8 0,.int .u8 0,.int .u8 0,.int .u8 0,.int .u8 0,.int .u8 0,.int .u8 0,.int .u8 0,.int .u8 0,.int .u8 0,.int .u8 0,.int .u8 0,.int .u8 0,.int .u8 0,.int .u8 0,.int .u8 0,.int .u8 0,.int .u8 0,.int .u8 0,.int .u8 0,.int .u8 0,.int .u8 0,.int .u8 0,.int .u8 0,.int .u8 0,.int .u8 0,.int .u8 0,.int .u8 0,.int .u8 0,.int .u8 0,.int .u8 0,.int .u8 0,.int .u8 0,.int .u8 0,.int .u8 0,.int .u8 0,.int .u8 0,.int .u8 0,.int .u8 0,.int .u8 0,.int .u8 0,.int .u8 0,.int .u8 0,.int .u8 0,.int .u8 0,.int .u8 0,.int .u8 0,.int .u8 0,.int .u8 0,.int .u8 0,.int .u8 0,.int .u8 0,.int .u8 0,.int .u8 0,.int .u8 0,.int .u8 0,.int .u8 0,.int .u8 0,.int .u8 0,.int .u8 0,.int .u8 0,.int .u8 0,.int .u8 0,.int .u8 0,.int .u8 0,.int .u8 0,.int .u8 0,.int .u8 0,.int .u8 0,.int .u8 0,.int .u8 0,.int .u8 0,.int .u8 0,.int .u8 0,.int .u8 0,.int .u8 0,.int .u8 0,.int .u8 0,.int .u8 0,.int .u8 0,.int .u8 0,.int .u8 0,.int .u8 0,.int .u8 0,.int .u8 0,.int .u8 0,.int .u8 0,.int .u8 0,.int .u8 0,.int .u8 0,.int .u8 0,.int .u8 0,.int .u8 0,.int .u8 0,.int .u8 0,.int .u8 0,.int .u8 0,.int .u8 0,.int .u8 0,.int .u8 0,.int .u8 0,.int .u8 0,.int .u8 0,.int .u8 0,.int .u8 0,.int .u8 0,.int .u8 0,.int .u8 0,.int .u8 0,.int .u8 0,.int .u8 0,.int .u8 0,.int .u8 0,.int .u8 0,.int .u8 0,.int .u8 0,.int .u8 0,.int .u8 0,.int .u8 0,.int .u8 0,.int .u8 0,.int .u8 0,.int .u8 0,.int .u8 0,.int .u8 0,.int .u8 0,.int .u8 0,.int .u8 0,.int .u8 0,.int .u8 0,.int .u8 0,.int .u8 0,.int .u8 0,.int .u8 0,.int .u8 0,.int .u8 0,.int .u8 0,.int .u8 0,.int .u8 0,.int .u8 0,.int .u8 0,.int .u8 0,.int .u8 0,.int .u8 0,.int .u8 0,.int .u8 0,.int .u8 0,.int .u8 0,.int .u8 0,.int .u8 0,.int .u8 0,.int .u8 0,.int .u8 0,.int .u8 0,.int .u8 0,.int .u8 0,.int .u8 0,.int .u8 0,.int .u8 0,.int .u8 0,.int .u8 0,.int .u8 0,.int .u8 0,.int .u8 0,.int .u8 0,.int .u8 0,.int .u8 0,.int .u8 0,.int .u8 0,.int .u8 0,.int .u8 0,.int .u8 0,.int .u8 0,.int .u8 0,.int .u8 0,.int .u8 0,.int .u8 0,.int .u8 0,.int .u8 0,.int .u8 0,.int .u8 0,.int .u8 0,.int .u8 0,.int .u8 0,.int .u8 0,.int .u8 0,.int .u8 0,.int .u8 0,.int .u8 0] 145 true,
 .cells [.string ⟨#[121]⟩,.int .i64 31536000000,.string ⟨#[119]⟩,.int .i64 604800000,.string ⟨#[100]⟩,.int .i64 86400000,.string ⟨#[104]⟩,.int .i64 3600000,.string ⟨#[109]⟩,.int .i64 60000,.string ⟨#[115]⟩,.int .i64 1000,.string ⟨#[109,115]⟩,.int .i64 1] 168 true,
 .cells [] 179 true,
 .cells [.bool true] 4 true,
 .cells [.int .u64 1,.int .u64 10,.int .u64 100,.int .u64 1000,.int .u64 10000,.int .u64 100000,.int .u64 1000000,.int .u64 10000000,.int .u64 100000000,.int .u64 1000000000,.int .u64 10000000000,.int .u64 100000000000,.int .u64 1000000000000,.int .u64 10000000000000,.int .u64 100000000000000,.int .u64 1000000000000000,.int .u64 10000000000000000,.int .u64 100000000000000000,.int .u64 1000000000000000000,.int .u64 10000000000000000000] 232 true,
 .cells [] 3 true,
 .cells (Go.Pinned.pow10Rows.flatMap fun x=>[.int .u64 x.1,.int .u64 x.2]) 313 true,
 .cells [] 320 true,
 .cells [.int .u8 0,.int .u8 1,.int .u8 28,.int .u8 2,.int .u8 29,.int .u8 14,.int .u8 24,.int .u8 3,.int .u8 30,.int .u8 22,.int .u8 20,.int .u8 15,.int .u8 25,.int .u8 17,.int .u8 4,.int .u8 8,.int .u8 31,.int .u8 27,.int .u8 13,.int .u8 23,.int .u8 21,.int .u8 19,.int .u8 16,.int .u8 7,.int .u8 26,.int .u8 12,.int .u8 18,.int .u8 6,.int .u8 11,.int .u8 5,.int .u8 10,.int .u8 9] 204 true,
 .cells [.int .u8 0,.int .u8 1,.int .u8 56,.int .u8 2,.int .u8 57,.int .u8 49,.int .u8 28,.int .u8 3,.int .u8 61,.int .u8 58,.int .u8 42,.int .u8 50,.int .u8 38,.int .u8 29,.int .u8 17,.int .u8 4,.int .u8 62,.int .u8 47,.int .u8 59,.int .u8 36,.int .u8 45,.int .u8 43,.int .u8 51,.int .u8 22,.int .u8 53,.int .u8 39,.int .u8 33,.int .u8 30,.int .u8 24,.int .u8 18,.int .u8 12,.int .u8 5,.int .u8 63,.int .u8 55,.int .u8 48,.int .u8 27,.int .u8 60,.int .u8 41,.int .u8 37,.int .u8 16,.int .u8 46,.int .u8 35,.int .u8 44,.int .u8 21,.int .u8 52,.int .u8 32,.int .u8 23,.int .u8 11,.int .u8 54,.int .u8 26,.int .u8 40,.int .u8 15,.int .u8 34,.int .u8 20,.int .u8 31,.int .u8 10,.int .u8 25,.int .u8 14,.int .u8 19,.int .u8 9,.int .u8 13,.int .u8 8,.int .u8 7,.int .u8 6] 333 true,
 .cells (Go.Pinned.utf8FirstZ.map fun (n:Nat)=>.int .u8 n) 145 true,
 .cells [.int .u8 128,.int .u8 191,.int .u8 160,.int .u8 191,.int .u8 128,.int .u8 159,.int .u8 144,.int .u8 191,.int .u8 128,.int .u8 143,.int .u8 0,.int .u8 0,.int .u8 0,.int .u8 0,.int .u8 0,.int .u8 0,.int .u8 0,.int .u8 0,.int .u8 0,.int .u8 0,.int .u8 0,.int .u8 0,.int .u8 0,.int .u8 0,.int .u8 0,.int .u8 0,.int .u8 0,.int .u8 0,.int .u8 0,.int .u8 0,.int .u8 0,.int .u8 0] 353 true,
 .cells [] 31 true,
 .cells [] 31 true,
 .cells [] 397 true,
 .cells [] 397 true,
 .cells [] 412 true,
 .cells [] 328 true,
 .cells [] 414 true,
 .cells [] 179 true,
 .cells [] 0 true]
def G:U:=news ⟨0,.nil⟩ wR
theorem lq:G.n=23:=by rw [G,bU];rfl
theorem yM:cz G:=cz.news (fun i _=>rfl) wR
theorem yL:E.ej≤G.n:=by rw [lq];show 23≤23;omega
theorem wQ (k:Nat) {o:df} (h:wR[k]?=some o):G.get k=some o:=by
 have:=aL wR ⟨0,.nil⟩ k o h
 rwa [show (U.mk 0 (c6.nil:c6 df)).n+k=k by show 0+k=k;omega] at this
noncomputable abbrev Xl:=([.string ⟨#[121]⟩,.int .i64 31536000000,.string ⟨#[119]⟩,.int .i64 604800000,.string ⟨#[100]⟩,.int .i64 86400000,.string ⟨#[104]⟩,.int .i64 3600000,.string ⟨#[109]⟩,.int .i64 60000,.string ⟨#[115]⟩,.int .i64 1000,.string ⟨#[109,115]⟩,.int .i64 1]:List Value)
theorem Up {H:U} (y:aa E G H):H.get 3=some (yZ Xl 168):=y.cell (wQ 3 rfl) (by rw [lq];omega)
noncomputable abbrev Xm:=([.int .u64 1,.int .u64 10,.int .u64 100,.int .u64 1000,.int .u64 10000,.int .u64 100000,.int .u64 1000000,.int .u64 10000000,.int .u64 100000000,.int .u64 1000000000,.int .u64 10000000000,.int .u64 100000000000,.int .u64 1000000000000,.int .u64 10000000000000,.int .u64 100000000000000,.int .u64 1000000000000000,.int .u64 10000000000000000,.int .u64 100000000000000000,.int .u64 1000000000000000000,.int .u64 10000000000000000000]:List Value)
theorem Nt {H:U} (y:aa E G H):H.get 6=some (yZ Xm 232):=y.cell (wQ 6 rfl) (by rw [lq];omega)
theorem Nu {H:U} (y:aa E G H):H.get 8=some (yZ (Go.Pinned.pow10Rows.flatMap fun x=>[.int .u64 x.1,.int .u64 x.2]) 313):=y.cell (wQ 8 rfl) (by rw [lq];omega)
theorem u5 {H:U} (y:aa E G H):H.get 12=some (yZ (Go.Pinned.utf8FirstZ.map fun (n:Nat)=>.int .u8 n) 145):=y.cell (wQ 12 rfl) (by rw [lq];omega)
noncomputable abbrev Xn:=([.int .u8 128,.int .u8 191,.int .u8 160,.int .u8 191,.int .u8 128,.int .u8 159,.int .u8 144,.int .u8 191,.int .u8 128,.int .u8 143,.int .u8 0,.int .u8 0,.int .u8 0,.int .u8 0,.int .u8 0,.int .u8 0,.int .u8 0,.int .u8 0,.int .u8 0,.int .u8 0,.int .u8 0,.int .u8 0,.int .u8 0,.int .u8 0,.int .u8 0,.int .u8 0,.int .u8 0,.int .u8 0,.int .u8 0,.int .u8 0,.int .u8 0,.int .u8 0]:List Value)
theorem u6 {H:U} (y:aa E G H):H.get 13=some (yZ Xn 353):=y.cell (wQ 13 rfl) (by rw [lq];omega)
theorem H7:H6 G:=by
 intro i hi
 rw [lq] at hi
 have key:∀ k o,wR[k]?=some o→A2 23 (some o)→A2 G.n (G.get k):=fun k o h hl=>by rw [wQ k h,lq];exact hl
 have iU:∀(c:List Value) e ro,c.all ground=true→A2 23 (some (.cells c e ro)):=fun c e ro h x hx=>.ground (List.all_eq_true.1 h x hx)
 match i,hi with
 |0,_=>exact key 0 _ rfl (fun x hx=>by simp only [List.mem_singleton] at hx;subst hx;exact .iface (.agg fun x hx=>by simp only [List.mem_singleton] at hx;subst hx;exact .ptr D))
 |1,_=>exact key 1 _ rfl (iU _ _ _ av)
 |2,_=>exact key 2 _ rfl (iU _ _ _ av)
 |3,_=>exact key 3 _ rfl (iU _ _ _ av)
 |4,_=>exact key 4 _ rfl (iU _ _ _ av)
 |5,_=>exact key 5 _ rfl (iU _ _ _ av)
 |6,_=>exact key 6 _ rfl (iU _ _ _ av)
 |7,_=>exact key 7 _ rfl (iU _ _ _ av)
 |8,_=>exact key 8 _ rfl (iU _ _ _ av)
 |9,_=>exact key 9 _ rfl (iU _ _ _ av)
 |10,_=>exact key 10 _ rfl (iU _ _ _ av)
 |11,_=>exact key 11 _ rfl (iU _ _ _ av)
 |12,_=>exact key 12 _ rfl (iU _ _ _ av)
 |13,_=>exact key 13 _ rfl (iU _ _ _ av)
 |14,_=>exact key 14 _ rfl (iU _ _ _ av)
 |15,_=>exact key 15 _ rfl (iU _ _ _ av)
 |16,_=>exact key 16 _ rfl (iU _ _ _ av)
 |17,_=>exact key 17 _ rfl (iU _ _ _ av)
 |18,_=>exact key 18 _ rfl (iU _ _ _ av)
 |19,_=>exact key 19 _ rfl (iU _ _ _ av)
 |20,_=>exact key 20 _ rfl (iU _ _ _ av)
 |21,_=>exact key 21 _ rfl (iU _ _ _ av)
 |22,_=>exact key 22 _ rfl (iU _ _ _ av)
 |n+23,h=>omega
theorem gx {g:FuncId} {args:List Value} {v:Value} {my:U} (ha:∀ x∈args,jx x) (hv:jx v) (c:bE E g args G (.ret v) my []) {H:U} (y:aa E G H):bE E g args H (.ret v) H []:=c.gx H7 yM yL ha hv y
theorem gE:aa E G G:=⟨yM,Nat.le_refl _,yL,fun _ _=>rfl⟩
end Go.Proofs.YtbehemdcaiigeaaGreatDoor
