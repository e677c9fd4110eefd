/- Part of the proof that CheckTypes answers true. -/
import Derived.Test.YtglmagcldkngbaaGreatDoorProg
import Derived.KernelRfl
import Derived.WalkKit
import Derived.LaidEql
import Derived.Stop.Asserts
import Derived.RowKitTokens
set_option linter.unusedVariables false
set_option linter.unusedSimpArgs false
set_option maxRecDepth 100000
set_option maxHeartbeats 4000000
namespace Go.Proofs.YtglmagcldkngbaaGreatDoor.AsCode
open Go.RowKit Go.Extern.Stop Go.Stop Go.Extern
theorem agx (t:Addr) (w:World):(ReflectliteValue.unpack (.iface 43 (.pointer (some t)))).run Tryz.prog w
  = .ok (.agg #[.pointer (some ⟨22,43,none⟩),.pointer (some ⟨w.heap.size,0,none⟩),.int .u64 150]) (w.alloc (.cells #[.pointer (some t)] 43)):=by kernel_rfl
theorem af4 (a:Addr) (w:World):(ReflectliteValue.methodAny (ReflectliteValue.valueError "reflectlite.Value.Type" 0) (fun t _ _ _=>ReflectliteType.toType t) #[.agg #[.pointer (some ⟨22,43,none⟩),.pointer (some a),.int .u64 150]]).run Tryz.prog w
  = .ok (.iface 78 (.agg #[.pointer (some ⟨22,43,none⟩)])) w:=by kernel_rfl
theorem abx (h:Value) (w:World):(Go.method 457 78 (.agg #[h]) "Kind").run Tryz.prog w=.ok (261,h) w:=by kernel_rfl
theorem ZG (w:World):((ReflectliteType.abiMethod fun t=>(fun a:Nat=>Value.int IntKind.u8 (a:Int)) <$> Rtype.kind t) #[.pointer (some ⟨22,43,none⟩)]).run Tryz.prog w=.ok (.int .u8 22) w:=by kernel_rfl
theorem Zy (w:World):((ReflectliteType.abiMethod fun t=>(fun a:Nat=>Value.int IntKind.u8 (a:Int)) <$> Rtype.kind t) #[.pointer (some ⟨22,41,none⟩)]).run Tryz.prog w=.ok (.int .u8 2) w:=by kernel_rfl
theorem QV (z:Sem Value) (f:TypeId→Addr→Nat→Nat→Sem Value) (v:Value) :
  ReflectliteValue.method z f #[v]=(do match ← ReflectliteValue.parts v with |none=>z |some (t,a,fl)=>f t a fl (fl%32)):=rfl
theorem Qm (a:Addr) (w:World):(ReflectliteValue.parts (.agg #[.pointer (some ⟨22,43,none⟩),.pointer (some a),.int .u64 150])).run Tryz.prog w=.ok (some (43,a,150)) w:=by kernel_rfl
theorem Y5 (a p:Addr) (W:World) (ha:W.cell? a=some (.pointer (some p))) :
  (ReflectliteValue.method (ReflectliteValue.valueError "reflectlite.Value.IsNil" 0) ReflectliteValue.isNil #[.agg #[.pointer (some ⟨22,43,none⟩),.pointer (some a),.int .u64 150]]).run Tryz.prog W=.ok (.bool false) W:=by
 rw [QV]
 simp only [Sem.run_bind,Qm,Result.andThen]
 simp [ReflectliteValue.isNil,loadVar,isAgg,underlying,Tryz.underlying43,ha,Result.andThen]
theorem abv (h:Value) (w:World):(Go.method 457 78 (.agg #[h]) "Elem").run Tryz.prog w=.ok (271,.agg #[h]) w:=by kernel_rfl
theorem abw (h:Value) (w:World):(Go.method 457 78 (.agg #[h]) "Implements").run Tryz.prog w=.ok (272,.agg #[h]) w:=by kernel_rfl
theorem abu (h:Value) (w:World):(Go.method 457 78 (.agg #[h]) "AssignableTo").run Tryz.prog w=.ok (269,.agg #[h]) w:=by kernel_rfl
theorem Wn (w:World):(ReflectliteType.method ReflectliteType.elem #[.agg #[.pointer (some ⟨22,43,none⟩)]]).run Tryz.prog w=.ok (.iface 78 (.agg #[.pointer (some ⟨22,41,none⟩)])) w:=by kernel_rfl
theorem YN (w:World):(ReflectliteType.relation "Implements" ReflectliteType.implements_ #[.agg #[.pointer (some ⟨22,41,none⟩)],.iface 78 (.agg #[.pointer (some ⟨22,31,none⟩)])]).run Tryz.prog w=.ok (.bool true) w:=by kernel_rfl
theorem af3 (v:Value) (w:World):(ReflectliteType.typeOf #[.iface 41 v]).run Tryz.prog w=.ok (.iface 78 (.agg #[.pointer (some ⟨22,41,none⟩)])) w:=by kernel_rfl
theorem SV (w:World):(ReflectliteType.relation "AssignableTo" ReflectliteType.assignableTo #[.agg #[.pointer (some ⟨22,41,none⟩)],.iface 78 (.agg #[.pointer (some ⟨22,41,none⟩)])]).run Tryz.prog w=.ok (.bool true) w:=by kernel_rfl
theorem agw (n:Int) (w:World):(ReflectliteValue.unpack (.iface 41 (.int .i64 n))).run Tryz.prog w
  = .ok (.agg #[.pointer (some ⟨22,41,none⟩),.pointer (some ⟨w.heap.size,0,none⟩),.int .u64 130]) (w.alloc (.cells #[.int .i64 n] 41)):=by kernel_rfl
theorem Wm (w:World):(Rtype.elem? 43).run Tryz.prog w=.ok (some 41) w:=by kernel_rfl
theorem abA (p:Addr) (w:World):(ReflectliteValue.mk 41 p ReflectliteValue.flagAddr).run Tryz.prog w=.ok (.agg #[.pointer (some ⟨22,41,none⟩),.pointer (some p),.int .u64 386]) w:=by kernel_rfl
theorem Wo (a p:Addr) (W:World) (ha:W.cell? a=some (.pointer (some p))) :
  (ReflectliteValue.method (ReflectliteValue.valueError "reflectlite.Value.Elem" 0) ReflectliteValue.elem #[.agg #[.pointer (some ⟨22,43,none⟩),.pointer (some a),.int .u64 150]]).run Tryz.prog W
   = .ok (.agg #[.pointer (some ⟨22,41,none⟩),.pointer (some p),.int .u64 386]) W:=by
 rw [QV]
 simp only [Sem.run_bind,Qm,Result.andThen]
 simp [ReflectliteValue.elem,loadVar,isAgg,underlying,Tryz.underlying43,ha,Result.andThen,Wm,abA]
theorem rls (v x:Value):ReflectliteValue.set #[v,x]=(do
  let (some (dst,a,fl),some (src,b,_)):=(← ReflectliteValue.parts v,← ReflectliteValue.parts x)
   |unsupported (.noEntry "extern/(internal/reflectlite.Value).Set.zeroValue")
  if fl / ReflectliteValue.flagAddr%2==0 then unsupported (.noEntry "extern/(internal/reflectlite.Value).Set.unaddressable")
  let val ← loadVar src b
  if ← Rtype.directlyAssignable dst src then storeVar dst a val
  else if ← Rtype.implements dst src then
   if (← Rtype.kind src)==20 then
    match val with
    |.nilIface=>unsupported (.noEntry "extern/reflectlite: a nil value of one interface type handed on as a value of another")
    |_=>storeVar dst a val
   else storeVar dst a (.iface src val)
  else panicString ("reflectlite.Set: value of type "++(← Rtype.spelt src)++ " is not assignable to type "++(← Rtype.spelt dst))
  pure (.tuple #[])):=rfl
theorem acM (a:Addr) (w:World):(ReflectliteValue.parts (.agg #[.pointer (some ⟨22,41,none⟩),.pointer (some a),.int .u64 386])).run Tryz.prog w=.ok (some (41,a,386)) w:=by kernel_rfl
theorem acL (a:Addr) (w:World):(ReflectliteValue.parts (.agg #[.pointer (some ⟨22,41,none⟩),.pointer (some a),.int .u64 130])).run Tryz.prog w=.ok (some (41,a,130)) w:=by kernel_rfl
theorem V2 (w:World):(Rtype.directlyAssignable 41 41).run Tryz.prog w=.ok true w:=by kernel_rfl
theorem aeF (ta b:Addr) (n:Int) (old:Value) (W:World) (hb:W.cell? b=some (.int .i64 n)) (ht:W.cell? ta=some old) (hf:W.frozen? ta=false) :
  (ReflectliteValue.set #[.agg #[.pointer (some ⟨22,41,none⟩),.pointer (some ta),.int .u64 386],.agg #[.pointer (some ⟨22,41,none⟩),.pointer (some b),.int .u64 130]]).run Tryz.prog W
   = .ok (.tuple #[]) (W.setCell ta (.int .i64 n)):=by
 rw [rls]
 simp only [Sem.run_bind,acM,acL,Result.andThen]
 simp [ReflectliteValue.flagAddr,loadVar,isAgg,underlying,Tryz.underlying41,hb,Result.andThen,V2,storeVar,Value.cells,storeCells,Addr.add]
 rw [run_store Tryz.prog W ta _ _ (by rfl)]
 simp [ht,hf]
set_option maxHeartbeats 4000000 in
theorem SP (n:Int) (t:Addr) (old:Value) (w:World) (hg:w.cell? ⟨0,0,none⟩=some (.iface 78 (.agg #[.pointer (some ⟨22,31,none⟩)]))) (ht0:w.cell? t=some old) (XJ:w.frozen? t=false) :
  Calls Tryz.prog 17 #[.iface 41 (.int .i64 n),.iface 43 (.pointer (some t))] w fun ev w'=>ev=.returned (.bool true)∧w'=((((w.alloc (.cells #[.pointer (some t)] 43)).alloc (.cells #[.pointer (some ⟨22,43,none⟩),.pointer (some ⟨w.heap.size,0,none⟩),.int .u64 150] 57)).alloc (.cells #[.pointer (some ⟨22,43,none⟩),.pointer (some ⟨w.heap.size,0,none⟩),.int .u64 150] 57)).alloc (.cells #[.int .i64 n] 41)).setCell t (.int .i64 n):=by
 have h6:=@run_callFunc_extern Tryz.prog 27 _ (fun args=>ReflectliteValue.unpack (args.getD 0 (.tuple #[]))) Tryz.func27 (by kernel_rfl) (by kernel_rfl) (by kernel_rfl) (by kernel_rfl)
 have h7:=@run_callFunc_extern Tryz.prog 28 _ (ReflectliteValue.methodAny (ReflectliteValue.valueError "reflectlite.Value.Type" 0) (fun t _ _ _=>ReflectliteType.toType t)) Tryz.func28 (by kernel_rfl) (by kernel_rfl) (by kernel_rfl) (by kernel_rfl)
 have h8:=@run_callFunc_extern Tryz.prog 29 _ (ReflectliteValue.method (ReflectliteValue.valueError "reflectlite.Value.IsNil" 0) ReflectliteValue.isNil) Tryz.func29 (by kernel_rfl) (by kernel_rfl) (by kernel_rfl) (by kernel_rfl)
 have ahV:=@run_callFunc_extern Tryz.prog 261 _ (ReflectliteType.abiMethod fun t=>do pure (.int .u8 (← Rtype.kind t))) Tryz.func261 (by kernel_rfl) (by kernel_rfl) (by kernel_rfl) (by kernel_rfl)
 have ahX:=@run_callFunc_extern Tryz.prog 271 _ (ReflectliteType.method ReflectliteType.elem) Tryz.func271 (by kernel_rfl) (by kernel_rfl) (by kernel_rfl) (by kernel_rfl)
 have ahY:=@run_callFunc_extern Tryz.prog 272 _ (ReflectliteType.relation "Implements" ReflectliteType.implements_) Tryz.func272 (by kernel_rfl) (by kernel_rfl) (by kernel_rfl) (by kernel_rfl)
 have h10:=@run_callFunc_extern Tryz.prog 50 _ ReflectliteType.typeOf Tryz.func50 (by kernel_rfl) (by kernel_rfl) (by kernel_rfl) (by kernel_rfl)
 have ahW:=@run_callFunc_extern Tryz.prog 269 _ (ReflectliteType.relation "AssignableTo" ReflectliteType.assignableTo) Tryz.func269 (by kernel_rfl) (by kernel_rfl) (by kernel_rfl) (by kernel_rfl)
 have h11:=@run_callFunc_extern Tryz.prog 51 _ (ReflectliteValue.method (ReflectliteValue.valueError "reflectlite.Value.Elem" 0) ReflectliteValue.elem) Tryz.func51 (by kernel_rfl) (by kernel_rfl) (by kernel_rfl) (by kernel_rfl)
 have h12:=@run_callFunc_extern Tryz.prog 52 _ ReflectliteValue.set Tryz.func52 (by kernel_rfl) (by kernel_rfl) (by kernel_rfl) (by kernel_rfl)
 have ajt:=af3
 have aiO:=abu
 have a25:=SV
 have v25:=agw
 have f6:=agx
 have f7:=af4
 have aiS:=abx
 have aiP:=abv
 have aiR:=abw
 have aiu:=ZG
 have ait:=Zy
 have ahP:=Wn
 have i25:=YN
 have CD:=Y5 ⟨w.heap.size,0,none⟩ t ((w.alloc (.cells #[.pointer (some t)] 43)).alloc (.cells #[.pointer (some ⟨22,43,none⟩),.pointer (some ⟨w.heap.size,0,none⟩),.int .u64 150] 57)) (by simp)
 have hlt:0<w.heap.size:=by
  rcases Nat.eq_zero_or_pos w.heap.size with h0 |h
  ·simp [World.cell?,h0] at hg
  ·exact h
 have N3:((w.alloc (.cells #[.pointer (some t)] 43)).alloc (.cells #[.pointer (some ⟨22,43,none⟩),.pointer (some ⟨w.heap.size,0,none⟩),.int .u64 150] 57)).cell? ⟨0,0,none⟩=some (.iface 78 (.agg #[.pointer (some ⟨22,31,none⟩)])):=by
  rw [World.cell?_alloc_lt _ _ ⟨0,0,none⟩ (by simp),World.cell?_alloc_lt _ _ ⟨0,0,none⟩ hlt];exact hg
 have Ob:t.block<w.heap.size:=by
  rcases Nat.lt_or_ge t.block w.heap.size with h |h
  ·exact h
  ·simp [World.cell?,Array.getElem?_eq_none h] at ht0
 have el:=Wo ⟨w.heap.size,0,none⟩ t (((w.alloc (.cells #[.pointer (some t)] 43)).alloc (.cells #[.pointer (some ⟨22,43,none⟩),.pointer (some ⟨w.heap.size,0,none⟩),.int .u64 150] 57)).alloc (.cells #[.pointer (some ⟨22,43,none⟩),.pointer (some ⟨w.heap.size,0,none⟩),.int .u64 150] 57)) (by rw [World.cell?_alloc_lt _ _ ⟨w.heap.size,0,none⟩ (by simp;omega)];simp)
 have st:=aeF t ⟨w.heap.size+1+1+1,0,none⟩ n old ((((w.alloc (.cells #[.pointer (some t)] 43)).alloc (.cells #[.pointer (some ⟨22,43,none⟩),.pointer (some ⟨w.heap.size,0,none⟩),.int .u64 150] 57)).alloc (.cells #[.pointer (some ⟨22,43,none⟩),.pointer (some ⟨w.heap.size,0,none⟩),.int .u64 150] 57)).alloc (.cells #[.int .i64 n] 41))
  (by rw [World.cell?_alloc_at _ _ _ _ (by simp)];rfl)
  (by rw [World.cell?_alloc_lt _ _ t (by simp;omega),World.cell?_alloc_lt _ _ t (by simp;omega),World.cell?_alloc_lt _ _ t (by simp;omega),World.cell?_alloc_lt _ _ t Ob];exact ht0)
  (by rw [World.frozen?_alloc_old _ _ t (by simp;omega),World.frozen?_alloc_old _ _ t (by simp;omega),World.frozen?_alloc_old _ _ t (by simp;omega),World.frozen?_alloc_old _ _ t (Nat.ne_of_lt Ob)];exact XJ)
 go_enter Tryz.func17,Tryz.ntmps17
 go_wp2
 refine wp_loop_rounds 1 ?_
 rw [rounds_succ]
 go_wp2
 go_ret
 exact ⟨rfl,rfl⟩
end Go.Proofs.YtglmagcldkngbaaGreatDoor.AsCode
