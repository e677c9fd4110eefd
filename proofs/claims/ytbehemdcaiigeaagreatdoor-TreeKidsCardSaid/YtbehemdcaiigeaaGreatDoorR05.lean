/- Part of the proof that TreeKids answers true. -/
import Derived.Test.YtbehemdcaiigeaaGreatDoorProg
import Derived.KernelRfl
import Derived.WalkKit
import Derived.LaidEql
import Derived.Stop.Asserts
import Derived.RowKitTokens
set_option linter.unusedVariables false
set_option linter.unusedSimpArgs false
set_option maxRecDepth 100000
set_option maxHeartbeats 4000000
namespace Go.Proofs.YtbehemdcaiigeaaGreatDoor.AsCode
open Go.RowKit Go.Extern.Stop Go.Stop Go.Extern
theorem aif (t:Addr) (w:World):(ReflectliteValue.unpack (.iface 51 (.pointer (some t)))).run Tryz.prog w
  = .ok (.agg #[.pointer (some ⟨22,51,none⟩),.pointer (some ⟨w.heap.size,0,none⟩),.int .u64 150]) (w.alloc (.cells #[.pointer (some t)] 51)):=by kernel_rfl
theorem ahZ (a:Addr) (w:World):(ReflectliteValue.methodAny (ReflectliteValue.valueError "reflectlite.Value.Type" 0) (fun t _ _ _=>ReflectliteType.toType t) #[.agg #[.pointer (some ⟨22,51,none⟩),.pointer (some a),.int .u64 150]]).run Tryz.prog w
  = .ok (.iface 107 (.agg #[.pointer (some ⟨22,51,none⟩)])) w:=by kernel_rfl
theorem ac5 (h:Value) (w:World):(Go.method 558 107 (.agg #[h]) "Kind").run Tryz.prog w=.ok (336,h) w:=by kernel_rfl
theorem abI (w:World):((ReflectliteType.abiMethod fun t=>(fun a:Nat=>Value.int IntKind.u8 (a:Int)) <$> Rtype.kind t) #[.pointer (some ⟨22,51,none⟩)]).run Tryz.prog w=.ok (.int .u8 22) w:=by kernel_rfl
theorem abH (w:World):((ReflectliteType.abiMethod fun t=>(fun a:Nat=>Value.int IntKind.u8 (a:Int)) <$> Rtype.kind t) #[.pointer (some ⟨22,40,none⟩)]).run Tryz.prog w=.ok (.int .u8 2) w:=by kernel_rfl
theorem Sv (z:Sem Value) (f:TypeId→Addr→Nat→Nat→Sem Value) (v:Value) :
  ReflectliteValue.method z f #[v]=(do match ← ReflectliteValue.parts v with |none=>z |some (t,a,fl)=>f t a fl (fl%32)):=rfl
theorem RU (a:Addr) (w:World):(ReflectliteValue.parts (.agg #[.pointer (some ⟨22,51,none⟩),.pointer (some a),.int .u64 150])).run Tryz.prog w=.ok (some (51,a,150)) w:=by kernel_rfl
theorem aan (a p:Addr) (W:World) (ha:W.cell? a=some (.pointer (some p))) :
  (ReflectliteValue.method (ReflectliteValue.valueError "reflectlite.Value.IsNil" 0) ReflectliteValue.isNil #[.agg #[.pointer (some ⟨22,51,none⟩),.pointer (some a),.int .u64 150]]).run Tryz.prog W=.ok (.bool false) W:=by
 rw [Sv]
 simp only [Sem.run_bind,RU,Result.andThen]
 simp [ReflectliteValue.isNil,loadVar,isAgg,underlying,Tryz.underlying51,ha,Result.andThen]
theorem ac3 (h:Value) (w:World):(Go.method 558 107 (.agg #[h]) "Elem").run Tryz.prog w=.ok (347,.agg #[h]) w:=by kernel_rfl
theorem ac4 (h:Value) (w:World):(Go.method 558 107 (.agg #[h]) "Implements").run Tryz.prog w=.ok (348,.agg #[h]) w:=by kernel_rfl
theorem ac2 (h:Value) (w:World):(Go.method 558 107 (.agg #[h]) "AssignableTo").run Tryz.prog w=.ok (345,.agg #[h]) w:=by kernel_rfl
theorem XR (w:World):(ReflectliteType.method ReflectliteType.elem #[.agg #[.pointer (some ⟨22,51,none⟩)]]).run Tryz.prog w=.ok (.iface 107 (.agg #[.pointer (some ⟨22,40,none⟩)])) w:=by kernel_rfl
theorem Z9 (w:World):(ReflectliteType.relation "Implements" ReflectliteType.implements_ #[.agg #[.pointer (some ⟨22,40,none⟩)],.iface 107 (.agg #[.pointer (some ⟨22,31,none⟩)])]).run Tryz.prog w=.ok (.bool true) w:=by kernel_rfl
theorem ahY (v:Value) (w:World):(ReflectliteType.typeOf #[.iface 40 v]).run Tryz.prog w=.ok (.iface 107 (.agg #[.pointer (some ⟨22,40,none⟩)])) w:=by kernel_rfl
theorem UT (w:World):(ReflectliteType.relation "AssignableTo" ReflectliteType.assignableTo #[.agg #[.pointer (some ⟨22,40,none⟩)],.iface 107 (.agg #[.pointer (some ⟨22,40,none⟩)])]).run Tryz.prog w=.ok (.bool true) w:=by kernel_rfl
theorem aie (n:Int) (w:World):(ReflectliteValue.unpack (.iface 40 (.int .i64 n))).run Tryz.prog w
  = .ok (.agg #[.pointer (some ⟨22,40,none⟩),.pointer (some ⟨w.heap.size,0,none⟩),.int .u64 130]) (w.alloc (.cells #[.int .i64 n] 40)):=by kernel_rfl
theorem XQ (w:World):(Rtype.elem? 51).run Tryz.prog w=.ok (some 40) w:=by kernel_rfl
theorem ac9 (p:Addr) (w:World):(ReflectliteValue.mk 40 p ReflectliteValue.flagAddr).run Tryz.prog w=.ok (.agg #[.pointer (some ⟨22,40,none⟩),.pointer (some p),.int .u64 386]) w:=by kernel_rfl
theorem XS (a p:Addr) (W:World) (ha:W.cell? a=some (.pointer (some p))) :
  (ReflectliteValue.method (ReflectliteValue.valueError "reflectlite.Value.Elem" 0) ReflectliteValue.elem #[.agg #[.pointer (some ⟨22,51,none⟩),.pointer (some a),.int .u64 150]]).run Tryz.prog W
   = .ok (.agg #[.pointer (some ⟨22,40,none⟩),.pointer (some p),.int .u64 386]) W:=by
 rw [Sv]
 simp only [Sem.run_bind,RU,Result.andThen]
 simp [ReflectliteValue.elem,loadVar,isAgg,underlying,Tryz.underlying51,ha,Result.andThen,XQ,ac9]
theorem rls (v x:Value):ReflectliteValue.set #[v,x]=(do
  let (some (dst,a,fl),some (src,b,_)):=(← ReflectliteValue.parts v,← ReflectliteValue.parts x)
   |unsupported (.noEntry "extern/(internal/reflectlite.Value).Set.zeroValue")
  if fl / ReflectliteValue.flagAddr%2==0 then unsupported (.noEntry "extern/(internal/reflectlite.Value).Set.unaddressable")
  let val ← loadVar src b
  if ← Rtype.directlyAssignable dst src then storeVar dst a val
  else if ← Rtype.implements dst src then
   if (← Rtype.kind src)==20 then
    match val with
    |.nilIface=>unsupported (.noEntry "extern/reflectlite: a nil value of one interface type handed on as a value of another")
    |_=>storeVar dst a val
   else storeVar dst a (.iface src val)
  else panicString ("reflectlite.Set: value of type "++(← Rtype.spelt src)++ " is not assignable to type "++(← Rtype.spelt dst))
  pure (.tuple #[])):=rfl
theorem aei (a:Addr) (w:World):(ReflectliteValue.parts (.agg #[.pointer (some ⟨22,40,none⟩),.pointer (some a),.int .u64 386])).run Tryz.prog w=.ok (some (40,a,386)) w:=by kernel_rfl
theorem aeh (a:Addr) (w:World):(ReflectliteValue.parts (.agg #[.pointer (some ⟨22,40,none⟩),.pointer (some a),.int .u64 130])).run Tryz.prog w=.ok (some (40,a,130)) w:=by kernel_rfl
theorem XE (w:World):(Rtype.directlyAssignable 40 40).run Tryz.prog w=.ok true w:=by kernel_rfl
theorem agx (ta b:Addr) (n:Int) (old:Value) (W:World) (hb:W.cell? b=some (.int .i64 n)) (ht:W.cell? ta=some old) (hf:W.frozen? ta=false) :
  (ReflectliteValue.set #[.agg #[.pointer (some ⟨22,40,none⟩),.pointer (some ta),.int .u64 386],.agg #[.pointer (some ⟨22,40,none⟩),.pointer (some b),.int .u64 130]]).run Tryz.prog W
   = .ok (.tuple #[]) (W.setCell ta (.int .i64 n)):=by
 rw [rls]
 simp only [Sem.run_bind,aei,aeh,Result.andThen]
 simp [ReflectliteValue.flagAddr,loadVar,isAgg,underlying,Tryz.underlying40,hb,Result.andThen,XE,storeVar,Value.cells,storeCells,Addr.add]
 rw [run_store Tryz.prog W ta _ _ (by rfl)]
 simp [ht,hf]
set_option maxHeartbeats 4000000 in
theorem UR (n:Int) (t:Addr) (old:Value) (w:World) (hg:w.cell? ⟨0,0,none⟩=some (.iface 107 (.agg #[.pointer (some ⟨22,31,none⟩)]))) (ht0:w.cell? t=some old) (Y0:w.frozen? t=false) :
  Calls Tryz.prog 20 #[.iface 40 (.int .i64 n),.iface 51 (.pointer (some t))] w fun ev w'=>ev=.returned (.bool true)∧w'=((((w.alloc (.cells #[.pointer (some t)] 51)).alloc (.cells #[.pointer (some ⟨22,51,none⟩),.pointer (some ⟨w.heap.size,0,none⟩),.int .u64 150] 73)).alloc (.cells #[.pointer (some ⟨22,51,none⟩),.pointer (some ⟨w.heap.size,0,none⟩),.int .u64 150] 73)).alloc (.cells #[.int .i64 n] 40)).setCell t (.int .i64 n):=by
 have h6:=@run_callFunc_extern Tryz.prog 49 _ (fun args=>ReflectliteValue.unpack (args.getD 0 (.tuple #[]))) Tryz.func49 (by kernel_rfl) (by kernel_rfl) (by kernel_rfl) (by kernel_rfl)
 have h7:=@run_callFunc_extern Tryz.prog 50 _ (ReflectliteValue.methodAny (ReflectliteValue.valueError "reflectlite.Value.Type" 0) (fun t _ _ _=>ReflectliteType.toType t)) Tryz.func50 (by kernel_rfl) (by kernel_rfl) (by kernel_rfl) (by kernel_rfl)
 have h8:=@run_callFunc_extern Tryz.prog 51 _ (ReflectliteValue.method (ReflectliteValue.valueError "reflectlite.Value.IsNil" 0) ReflectliteValue.isNil) Tryz.func51 (by kernel_rfl) (by kernel_rfl) (by kernel_rfl) (by kernel_rfl)
 have ajB:=@run_callFunc_extern Tryz.prog 336 _ (ReflectliteType.abiMethod fun t=>do pure (.int .u8 (← Rtype.kind t))) Tryz.func336 (by kernel_rfl) (by kernel_rfl) (by kernel_rfl) (by kernel_rfl)
 have ajD:=@run_callFunc_extern Tryz.prog 347 _ (ReflectliteType.method ReflectliteType.elem) Tryz.func347 (by kernel_rfl) (by kernel_rfl) (by kernel_rfl) (by kernel_rfl)
 have ajE:=@run_callFunc_extern Tryz.prog 348 _ (ReflectliteType.relation "Implements" ReflectliteType.implements_) Tryz.func348 (by kernel_rfl) (by kernel_rfl) (by kernel_rfl) (by kernel_rfl)
 have h10:=@run_callFunc_extern Tryz.prog 78 _ ReflectliteType.typeOf Tryz.func78 (by kernel_rfl) (by kernel_rfl) (by kernel_rfl) (by kernel_rfl)
 have ajC:=@run_callFunc_extern Tryz.prog 345 _ (ReflectliteType.relation "AssignableTo" ReflectliteType.assignableTo) Tryz.func345 (by kernel_rfl) (by kernel_rfl) (by kernel_rfl) (by kernel_rfl)
 have h11:=@run_callFunc_extern Tryz.prog 79 _ (ReflectliteValue.method (ReflectliteValue.valueError "reflectlite.Value.Elem" 0) ReflectliteValue.elem) Tryz.func79 (by kernel_rfl) (by kernel_rfl) (by kernel_rfl) (by kernel_rfl)
 have h12:=@run_callFunc_extern Tryz.prog 80 _ ReflectliteValue.set Tryz.func80 (by kernel_rfl) (by kernel_rfl) (by kernel_rfl) (by kernel_rfl)
 have ak2:=ahY
 have akj:=ac2
 have ajf:=UT
 have ak5:=aie
 have f6:=aif
 have f7:=ahZ
 have akn:=ac5
 have akk:=ac3
 have akm:=ac4
 have fJ:=abI
 have P1:=abH
 have ajq:=XR
 have i25:=Z9
 have akE:=aan ⟨w.heap.size,0,none⟩ t ((w.alloc (.cells #[.pointer (some t)] 51)).alloc (.cells #[.pointer (some ⟨22,51,none⟩),.pointer (some ⟨w.heap.size,0,none⟩),.int .u64 150] 73)) (by simp)
 have hlt:0<w.heap.size:=by
  rcases Nat.eq_zero_or_pos w.heap.size with h0 |h
  ·simp [World.cell?,h0] at hg
  ·exact h
 have Px:((w.alloc (.cells #[.pointer (some t)] 51)).alloc (.cells #[.pointer (some ⟨22,51,none⟩),.pointer (some ⟨w.heap.size,0,none⟩),.int .u64 150] 73)).cell? ⟨0,0,none⟩=some (.iface 107 (.agg #[.pointer (some ⟨22,31,none⟩)])):=by
  rw [World.cell?_alloc_lt _ _ ⟨0,0,none⟩ (by simp),World.cell?_alloc_lt _ _ ⟨0,0,none⟩ hlt];exact hg
 have PF:t.block<w.heap.size:=by
  rcases Nat.lt_or_ge t.block w.heap.size with h |h
  ·exact h
  ·simp [World.cell?,Array.getElem?_eq_none h] at ht0
 have el:=XS ⟨w.heap.size,0,none⟩ t (((w.alloc (.cells #[.pointer (some t)] 51)).alloc (.cells #[.pointer (some ⟨22,51,none⟩),.pointer (some ⟨w.heap.size,0,none⟩),.int .u64 150] 73)).alloc (.cells #[.pointer (some ⟨22,51,none⟩),.pointer (some ⟨w.heap.size,0,none⟩),.int .u64 150] 73)) (by rw [World.cell?_alloc_lt _ _ ⟨w.heap.size,0,none⟩ (by simp;omega)];simp)
 have st:=agx t ⟨w.heap.size+1+1+1,0,none⟩ n old ((((w.alloc (.cells #[.pointer (some t)] 51)).alloc (.cells #[.pointer (some ⟨22,51,none⟩),.pointer (some ⟨w.heap.size,0,none⟩),.int .u64 150] 73)).alloc (.cells #[.pointer (some ⟨22,51,none⟩),.pointer (some ⟨w.heap.size,0,none⟩),.int .u64 150] 73)).alloc (.cells #[.int .i64 n] 40))
  (by rw [World.cell?_alloc_at _ _ _ _ (by simp)];rfl)
  (by rw [World.cell?_alloc_lt _ _ t (by simp;omega),World.cell?_alloc_lt _ _ t (by simp;omega),World.cell?_alloc_lt _ _ t (by simp;omega),World.cell?_alloc_lt _ _ t PF];exact ht0)
  (by rw [World.frozen?_alloc_old _ _ t (by simp;omega),World.frozen?_alloc_old _ _ t (by simp;omega),World.frozen?_alloc_old _ _ t (by simp;omega),World.frozen?_alloc_old _ _ t (Nat.ne_of_lt PF)];exact Y0)
 go_enter Tryz.func20,Tryz.ntmps20
 go_wp2
 refine wp_loop_rounds 1 ?_
 rw [rounds_succ]
 go_wp2
 go_ret
 exact ⟨rfl,rfl⟩
end Go.Proofs.YtbehemdcaiigeaaGreatDoor.AsCode
