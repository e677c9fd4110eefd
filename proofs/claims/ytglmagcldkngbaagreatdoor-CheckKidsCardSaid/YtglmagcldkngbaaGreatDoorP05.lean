/- Part of the proof that CheckKids answers true. -/
import Derived.Test.YtglmagcldkngbaaGreatDoorP04
import Derived.Shelf.Pu.Clone
import Derived.Test.YtglmagcldkngbaaGreatDoorP02
set_option linter.unusedVariables false
set_option linter.unusedSimpArgs false
set_option maxRecDepth 100000
set_option maxHeartbeats 4000000
namespace Go.Proofs.YtglmagcldkngbaaGreatDoor
open Go Go.Am
def bS:ByteArray:=⟨#[0,1,2,2,3,3,3,3,4,4,4,4,4,4,4,4,5,5,5,5,5,5,5,5,5,5,5,5,5,5,5,5,6,6,6,6,6,6,6,6,6,6,6,6,6,6,6,6,6,6,6,6,6,6,6,6,6,6,6,6,6,6,6,6,7,7,7,7,7,7,7,7,7,7,7,7,7,7,7,7,7,7,7,7,7,7,7,7,7,7,7,7,7,7,7,7,7,7,7,7,7,7,7,7,7,7,7,7,7,7,7,7,7,7,7,7,7,7,7,7,7,7,7,7,7,7,7,7,8,8,8,8,8,8,8,8,8,8,8,8,8,8,8,8,8,8,8,8,8,8,8,8,8,8,8,8,8,8,8,8,8,8,8,8,8,8,8,8,8,8,8,8,8,8,8,8,8,8,8,8,8,8,8,8,8,8,8,8,8,8,8,8,8,8,8,8,8,8,8,8,8,8,8,8,8,8,8,8,8,8,8,8,8,8,8,8,8,8,8,8,8,8,8,8,8,8,8,8,8,8,8,8,8,8,8,8,8,8,8,8,8,8,8,8,8,8,8,8,8,8,8,8,8,8,8,8]⟩
theorem RS:((List.range 256).all fun i=>Nat.ble (ak bS (i:Int)).toNat 8)=true:=ah
theorem kQ:(bS.size:Int)=256:=by decide
theorem pO (x:Int):0≤ak bS (IntKind.u8.wrap x)∧ak bS (IntKind.u8.wrap x)≤8:=by
 have h:=fH x
 have:=List.all_eq_true.1 RS (IntKind.u8.wrap x).toNat (by simp;omega)
 rw [show (((IntKind.u8.wrap x).toNat:Nat):Int)=IntKind.u8.wrap x by omega] at this
 have:=dm this
 have:=eA bS (IntKind.u8.wrap x)
 omega
theorem pJ:E.func 142=some Tryz.f142:=ah
theorem pK:bO Tryz.f142 1=true:=ah
theorem VK (m:Int) {H:Hp} (y:Gd E G H):aD E G 142 [uU m] H [] (fun v H'=>∃(n:Int),v=(iI n)∧(0≤n∧n≤64)):=by
 cases h1:(decide (m≥4294967296)) with
 |true=>
  cases h2:(decide ((Int.fdiv m (2 ^ 32))≥65536)) with
  |true=>
   cases h3:(decide ((Int.fdiv (Int.fdiv m (2 ^ 32)) (2 ^ 16))≥256)) with
   |true=>
    have hl:=pO (Int.fdiv (Int.fdiv (Int.fdiv m (2 ^ 32)) (2 ^ 16)) (2 ^ 8))
    have hr:=fH (Int.fdiv (Int.fdiv (Int.fdiv m (2 ^ 32)) (2 ^ 16)) (2 ^ 8))
    have hz:=kQ
    have w1:0≤(IntKind.u8.wrap (Int.fdiv (Int.fdiv (Int.fdiv m (2 ^ 32)) (2 ^ 16)) (2 ^ 8))):=aa
    have w2:(IntKind.u8.wrap (Int.fdiv (Int.fdiv (Int.fdiv m (2 ^ 32)) (2 ^ 16)) (2 ^ 8)))<(bS.size:Int):=aa
    have w3:=aC (ak bS (IntKind.u8.wrap (Int.fdiv (Int.fdiv (Int.fdiv m (2 ^ 32)) (2 ^ 16)) (2 ^ 8))))
    have w4:=aC (56+(ak bS (IntKind.u8.wrap (Int.fdiv (Int.fdiv (Int.fdiv m (2 ^ 32)) (2 ^ 16)) (2 ^ 8)))))
    exact bA y [au 1,aI,au 4,aI,au 6,aI,au 8,.ck,.as (iI (ak bS (IntKind.u8.wrap (Int.fdiv (Int.fdiv (Int.fdiv m (2 ^ 32)) (2 ^ 16)) (2 ^ 8))))),.as (iI (56+(ak bS (IntKind.u8.wrap (Int.fdiv (Int.fdiv (Int.fdiv m (2 ^ 32)) (2 ^ 16)) (2 ^ 8)))))),au 0] (iI (56+(ak bS (IntKind.u8.wrap (Int.fdiv (Int.fdiv (Int.fdiv m (2 ^ 32)) (2 ^ 16)) (2 ^ 8)))))) H pJ pK (fk h1 h2 h3 w1 w2 w3 w4 aS) ⟨_,rfl,by omega,by omega⟩
   |false=>
    have hl:=pO (Int.fdiv (Int.fdiv m (2 ^ 32)) (2 ^ 16))
    have hr:=fH (Int.fdiv (Int.fdiv m (2 ^ 32)) (2 ^ 16))
    have hz:=kQ
    have w1:0≤(IntKind.u8.wrap (Int.fdiv (Int.fdiv m (2 ^ 32)) (2 ^ 16))):=aa
    have w2:(IntKind.u8.wrap (Int.fdiv (Int.fdiv m (2 ^ 32)) (2 ^ 16)))<(bS.size:Int):=aa
    have w3:=aC (ak bS (IntKind.u8.wrap (Int.fdiv (Int.fdiv m (2 ^ 32)) (2 ^ 16))))
    have w4:=aC (48+(ak bS (IntKind.u8.wrap (Int.fdiv (Int.fdiv m (2 ^ 32)) (2 ^ 16)))))
    exact bA y [au 1,aI,au 4,aI,au 6,aF,au 2,.ck,.as (iI (ak bS (IntKind.u8.wrap (Int.fdiv (Int.fdiv m (2 ^ 32)) (2 ^ 16))))),.as (iI (48+(ak bS (IntKind.u8.wrap (Int.fdiv (Int.fdiv m (2 ^ 32)) (2 ^ 16)))))),au 0] (iI (48+(ak bS (IntKind.u8.wrap (Int.fdiv (Int.fdiv m (2 ^ 32)) (2 ^ 16)))))) H pJ pK (fk h1 h2 h3 w1 w2 w3 w4 aS) ⟨_,rfl,by omega,by omega⟩
  |false=>
   cases h3:(decide ((Int.fdiv m (2 ^ 32))≥256)) with
   |true=>
    have hl:=pO (Int.fdiv (Int.fdiv m (2 ^ 32)) (2 ^ 8))
    have hr:=fH (Int.fdiv (Int.fdiv m (2 ^ 32)) (2 ^ 8))
    have hz:=kQ
    have w1:0≤(IntKind.u8.wrap (Int.fdiv (Int.fdiv m (2 ^ 32)) (2 ^ 8))):=aa
    have w2:(IntKind.u8.wrap (Int.fdiv (Int.fdiv m (2 ^ 32)) (2 ^ 8)))<(bS.size:Int):=aa
    have w3:=aC (ak bS (IntKind.u8.wrap (Int.fdiv (Int.fdiv m (2 ^ 32)) (2 ^ 8))))
    have w4:=aC (40+(ak bS (IntKind.u8.wrap (Int.fdiv (Int.fdiv m (2 ^ 32)) (2 ^ 8)))))
    exact bA y [au 1,aI,au 4,aF,au 0,aI,au 8,.ck,.as (iI (ak bS (IntKind.u8.wrap (Int.fdiv (Int.fdiv m (2 ^ 32)) (2 ^ 8))))),.as (iI (40+(ak bS (IntKind.u8.wrap (Int.fdiv (Int.fdiv m (2 ^ 32)) (2 ^ 8)))))),au 0] (iI (40+(ak bS (IntKind.u8.wrap (Int.fdiv (Int.fdiv m (2 ^ 32)) (2 ^ 8)))))) H pJ pK (fk h1 h2 h3 w1 w2 w3 w4 aS) ⟨_,rfl,by omega,by omega⟩
   |false=>
    have hl:=pO (Int.fdiv m (2 ^ 32))
    have hr:=fH (Int.fdiv m (2 ^ 32))
    have hz:=kQ
    have w1:0≤(IntKind.u8.wrap (Int.fdiv m (2 ^ 32))):=aa
    have w2:(IntKind.u8.wrap (Int.fdiv m (2 ^ 32)))<(bS.size:Int):=aa
    have w3:=aC (ak bS (IntKind.u8.wrap (Int.fdiv m (2 ^ 32))))
    have w4:=aC (32+(ak bS (IntKind.u8.wrap (Int.fdiv m (2 ^ 32)))))
    exact bA y [au 1,aI,au 4,aF,au 0,aF,au 2,.ck,.as (iI (ak bS (IntKind.u8.wrap (Int.fdiv m (2 ^ 32))))),.as (iI (32+(ak bS (IntKind.u8.wrap (Int.fdiv m (2 ^ 32)))))),au 0] (iI (32+(ak bS (IntKind.u8.wrap (Int.fdiv m (2 ^ 32)))))) H pJ pK (fk h1 h2 h3 w1 w2 w3 w4 aS) ⟨_,rfl,by omega,by omega⟩
 |false=>
  cases h2:(decide (m≥65536)) with
  |true=>
   cases h3:(decide ((Int.fdiv m (2 ^ 16))≥256)) with
   |true=>
    have hl:=pO (Int.fdiv (Int.fdiv m (2 ^ 16)) (2 ^ 8))
    have hr:=fH (Int.fdiv (Int.fdiv m (2 ^ 16)) (2 ^ 8))
    have hz:=kQ
    have w1:0≤(IntKind.u8.wrap (Int.fdiv (Int.fdiv m (2 ^ 16)) (2 ^ 8))):=aa
    have w2:(IntKind.u8.wrap (Int.fdiv (Int.fdiv m (2 ^ 16)) (2 ^ 8)))<(bS.size:Int):=aa
    have w3:=aC (ak bS (IntKind.u8.wrap (Int.fdiv (Int.fdiv m (2 ^ 16)) (2 ^ 8))))
    have w4:=aC (24+(ak bS (IntKind.u8.wrap (Int.fdiv (Int.fdiv m (2 ^ 16)) (2 ^ 8)))))
    exact bA y [au 1,aF,au 0,aI,au 6,aI,au 8,.ck,.as (iI (ak bS (IntKind.u8.wrap (Int.fdiv (Int.fdiv m (2 ^ 16)) (2 ^ 8))))),.as (iI (24+(ak bS (IntKind.u8.wrap (Int.fdiv (Int.fdiv m (2 ^ 16)) (2 ^ 8)))))),au 0] (iI (24+(ak bS (IntKind.u8.wrap (Int.fdiv (Int.fdiv m (2 ^ 16)) (2 ^ 8)))))) H pJ pK (fk h1 h2 h3 w1 w2 w3 w4 aS) ⟨_,rfl,by omega,by omega⟩
   |false=>
    have hl:=pO (Int.fdiv m (2 ^ 16))
    have hr:=fH (Int.fdiv m (2 ^ 16))
    have hz:=kQ
    have w1:0≤(IntKind.u8.wrap (Int.fdiv m (2 ^ 16))):=aa
    have w2:(IntKind.u8.wrap (Int.fdiv m (2 ^ 16)))<(bS.size:Int):=aa
    have w3:=aC (ak bS (IntKind.u8.wrap (Int.fdiv m (2 ^ 16))))
    have w4:=aC (16+(ak bS (IntKind.u8.wrap (Int.fdiv m (2 ^ 16)))))
    exact bA y [au 1,aF,au 0,aI,au 6,aF,au 2,.ck,.as (iI (ak bS (IntKind.u8.wrap (Int.fdiv m (2 ^ 16))))),.as (iI (16+(ak bS (IntKind.u8.wrap (Int.fdiv m (2 ^ 16)))))),au 0] (iI (16+(ak bS (IntKind.u8.wrap (Int.fdiv m (2 ^ 16)))))) H pJ pK (fk h1 h2 h3 w1 w2 w3 w4 aS) ⟨_,rfl,by omega,by omega⟩
  |false=>
   cases h3:(decide (m≥256)) with
   |true=>
    have hl:=pO (Int.fdiv m (2 ^ 8))
    have hr:=fH (Int.fdiv m (2 ^ 8))
    have hz:=kQ
    have w1:0≤(IntKind.u8.wrap (Int.fdiv m (2 ^ 8))):=aa
    have w2:(IntKind.u8.wrap (Int.fdiv m (2 ^ 8)))<(bS.size:Int):=aa
    have w3:=aC (ak bS (IntKind.u8.wrap (Int.fdiv m (2 ^ 8))))
    have w4:=aC (8+(ak bS (IntKind.u8.wrap (Int.fdiv m (2 ^ 8)))))
    exact bA y [au 1,aF,au 0,aF,au 0,aI,au 8,.ck,.as (iI (ak bS (IntKind.u8.wrap (Int.fdiv m (2 ^ 8))))),.as (iI (8+(ak bS (IntKind.u8.wrap (Int.fdiv m (2 ^ 8)))))),au 0] (iI (8+(ak bS (IntKind.u8.wrap (Int.fdiv m (2 ^ 8)))))) H pJ pK (fk h1 h2 h3 w1 w2 w3 w4 aS) ⟨_,rfl,by omega,by omega⟩
   |false=>
    have hl:=pO m
    have hr:=fH m
    have hz:=kQ
    have w1:0≤(IntKind.u8.wrap m):=aa
    have w2:(IntKind.u8.wrap m)<(bS.size:Int):=aa
    have w3:=aC (ak bS (IntKind.u8.wrap m))
    have w4:=aC (0+(ak bS (IntKind.u8.wrap m)))
    exact bA y [au 1,aF,au 0,aF,au 0,aF,au 2,.ck,.as (iI (ak bS (IntKind.u8.wrap m))),.as (iI (0+(ak bS (IntKind.u8.wrap m)))),au 0] (iI (0+(ak bS (IntKind.u8.wrap m)))) H pJ pK (fk h1 h2 h3 w1 w2 w3 w4 aS) ⟨_,rfl,by omega,by omega⟩
theorem abq (m:Int):∃(n:Int),(0≤n∧n≤64)∧∀{H:Hp},Gd E G H→CC E 142 [uU m] H (.ret (iI n)) H []:=by
 obtain ⟨_,_,c,_,_,n,rfl,hs⟩:=VK m eZ
 exact ⟨n,hs,fun y=>aW (cq rfl) (.ground rfl) c y⟩
theorem UL:E.func 221=some Tryz.f221:=ah
theorem UM:bO Tryz.f221 1=true:=ah
theorem Jp (p:Int) {H:Hp} (y:Gd E G H) (h0:-1000≤p) (h1:p≤1000):aD E G 221 [iI p] H [] (fun v H'=>∃(n:Int),v=(iI n)∧(-4000≤n∧n≤4000)):=by
 have w1:=aC (p*108853)
 exact bA y [au 1,.as (iI (p*108853)),au 1] (iI (Int.fdiv (p*108853) (2 ^ 15))) H UL UM (cF w1 aS) ⟨_,rfl,by rw [Int.fdiv_eq_ediv_of_nonneg _ aa];omega,by rw [Int.fdiv_eq_ediv_of_nonneg _ aa];omega⟩
theorem OA (p:Int) (h0:-1000≤p) (h1:p≤1000):∃(n:Int),(-4000≤n∧n≤4000)∧∀{H:Hp},Gd E G H→CC E 221 [iI p] H (.ret (iI n)) H []:=by
 obtain ⟨_,_,c,_,_,n,rfl,hs⟩:=Jp p eZ h0 h1
 exact ⟨n,hs,fun y=>aW (cq rfl) (.ground rfl) c y⟩
theorem UT:E.func 232=some Tryz.f232:=ah
theorem UU:bO Tryz.f232 2=true:=ah
theorem VP (x:Int) (z:Int) {H:Hp} (y:Gd E G H):aD E G 232 [uU x,uU z] H [] (fun v H'=>∃(h:Int) (l:Int),v=(.tuple #[uU h,uU l])):=by
 exact aD.mk y (CC.hH ok (f:=300) (hs:=[au 49]) (v:=(.tuple #[uU (IntKind.u64.wrap ((IntKind.u64.wrap ((IntKind.u64.wrap ((Int.fdiv x (2 ^ 32))*(Int.fdiv z (2 ^ 32))))+(Int.fdiv (IntKind.u64.wrap ((IntKind.u64.wrap ((Int.fdiv x (2 ^ 32))*(IntKind.u64.wrap ((BitVec.ofInt 64 z &&& BitVec.ofInt 64 4294967295).toNat:Int))))+(Int.fdiv (IntKind.u64.wrap ((IntKind.u64.wrap ((BitVec.ofInt 64 x &&& BitVec.ofInt 64 4294967295).toNat:Int))*(IntKind.u64.wrap ((BitVec.ofInt 64 z &&& BitVec.ofInt 64 4294967295).toNat:Int)))) (2 ^ 32)))) (2 ^ 32))))+(Int.fdiv (IntKind.u64.wrap ((IntKind.u64.wrap ((BitVec.ofInt 64 (IntKind.u64.wrap ((IntKind.u64.wrap ((Int.fdiv x (2 ^ 32))*(IntKind.u64.wrap ((BitVec.ofInt 64 z &&& BitVec.ofInt 64 4294967295).toNat:Int))))+(Int.fdiv (IntKind.u64.wrap ((IntKind.u64.wrap ((BitVec.ofInt 64 x &&& BitVec.ofInt 64 4294967295).toNat:Int))*(IntKind.u64.wrap ((BitVec.ofInt 64 z &&& BitVec.ofInt 64 4294967295).toNat:Int)))) (2 ^ 32)))) &&& BitVec.ofInt 64 4294967295).toNat:Int))+(IntKind.u64.wrap ((IntKind.u64.wrap ((BitVec.ofInt 64 x &&& BitVec.ofInt 64 4294967295).toNat:Int))*(Int.fdiv z (2 ^ 32)))))) (2 ^ 32)))),uU (IntKind.u64.wrap (x*z))])) (H':=H) (W:=[]) UT UU trivial ah) aM aM ⟨_,_,rfl⟩
theorem Xa (x:Int) (z:Int):∃(h:Int) (l:Int),∀{H:Hp},Gd E G H→CC E 232 [uU x,uU z] H (.ret (.tuple #[uU h,uU l])) H []:=by
 obtain ⟨_,_,c,_,_,h,l,rfl⟩:=VP x z eZ
 exact ⟨h,l,fun y=>aW (cq rfl) (.ground rfl) c y⟩
theorem MT:E.func 208=some Tryz.f208:=ah
theorem MU:bO Tryz.f208 1=true:=ah
theorem PL (b:Bool) {H:Hp} (y:Gd E G H):aD E G 208 [.bool b] H [] (fun v H'=>∃(n:Int),v=(uU n)∧(0≤n∧n≤1)):=by
 cases b with
 |true=>
  exact aD.mk y (CC.hH ok (f:=300) (hs:=[au 2]) (v:=(uU 1)) (H':=H) (W:=[]) MT MU trivial ah) aM aM ⟨_,rfl,by omega,by omega⟩
 |false=>
  exact aD.mk y (CC.hH ok (f:=300) (hs:=[au 2]) (v:=(uU 0)) (H':=H) (W:=[]) MT MU trivial ah) aM aM ⟨_,rfl,by omega,by omega⟩
theorem vT (b:Bool):∃(n:Int),(0≤n∧n≤1)∧∀{H:Hp},Gd E G H→CC E 208 [.bool b] H (.ret (uU n)) H []:=by
 obtain ⟨_,_,c,_,_,n,rfl,hs⟩:=PL b eZ
 exact ⟨n,hs,fun y=>aW (cq rfl) (.ground rfl) c y⟩
theorem M1:E.func 224=some Tryz.f224:=ah
theorem M4:bO Tryz.f224 1=true:=ah
theorem PK (b:Bool) {H:Hp} (y:Gd E G H):aD E G 224 [.bool b] H [] (fun v H'=>∃(n:Int),v=(iI n)∧(0≤n∧n≤1)):=by
 cases b with
 |true=>
  exact aD.mk y (CC.hH ok (f:=300) (hs:=[au 2]) (v:=(iI 1)) (H':=H) (W:=[]) M1 M4 trivial ah) aM aM ⟨_,rfl,by omega,by omega⟩
 |false=>
  exact aD.mk y (CC.hH ok (f:=300) (hs:=[au 2]) (v:=(iI 0)) (H':=H) (W:=[]) M1 M4 trivial ah) aM aM ⟨_,rfl,by omega,by omega⟩
theorem PJ (b:Bool):∃(n:Int),(0≤n∧n≤1)∧∀{H:Hp},Gd E G H→CC E 224 [.bool b] H (.ret (iI n)) H []:=by
 obtain ⟨_,_,c,_,_,n,rfl,hs⟩:=PK b eZ
 exact ⟨n,hs,fun y=>aW (cq rfl) (.ground rfl) c y⟩
theorem UP:E.func 225=some Tryz.f225:=ah
theorem UQ:bO Tryz.f225 1=true:=ah
theorem Wr (x:Int) {H:Hp} (y:Gd E G H):aD E G 225 [uU x] H [] (fun v H'=>∃(n:Int),v=(uU n)):=by
 exact aD.mk y (CC.hH ok (f:=300) (hs:=[au 4]) (v:=(uU (IntKind.u64.wrap ((IntKind.u64.wrap (x*2 ^ 2))-2)))) (H':=H) (W:=[]) UP UQ trivial ah) aM aM ⟨_,rfl⟩
theorem acm (x:Int):∃(n:Int),∀{H:Hp},Gd E G H→CC E 225 [uU x] H (.ret (uU n)) H []:=by
 obtain ⟨_,_,c,_,_,n,rfl⟩:=Wr x eZ
 exact ⟨n,fun y=>aW (cq rfl) (.ground rfl) c y⟩
theorem UR:E.func 227=some Tryz.f227:=ah
theorem US:bO Tryz.f227 1=true:=ah
theorem SC (x:Int) {H:Hp} (y:Gd E G H):aD E G 227 [uU x] H [] (fun v H'=>∃(n:Int),v=(uU n)):=by
 exact aD.mk y (CC.hH ok (f:=300) (hs:=[au 8]) (v:=(uU (Int.fdiv (IntKind.u64.wrap ((IntKind.u64.wrap (x+1))+(IntKind.u64.wrap ((BitVec.ofInt 64 (Int.fdiv x (2 ^ 2)) &&& BitVec.ofInt 64 1).toNat:Int)))) (2 ^ 2)))) (H':=H) (W:=[]) UR US trivial ah) aM aM ⟨_,rfl⟩
theorem SB (x:Int):∃(n:Int),∀{H:Hp},Gd E G H→CC E 227 [uU x] H (.ret (uU n)) H []:=by
 obtain ⟨_,_,c,_,_,n,rfl⟩:=SC x eZ
 exact ⟨n,fun y=>aW (cq rfl) (.ground rfl) c y⟩
theorem iG (x:Int) {H:Hp}:CC E 209 [.int .u64 x] H (.ret (.float .f64 x.toNat)) H []:=CC.extern ok (fn:=Tryz.f209) (e:=Extern.MathFloatBits.float64frombits) ah ah ah ah ah rfl rfl rfl
def lQ (o:Bool):Value:=match o with |true=>.iface 247 (.int .i64 1) |false=>.nilIface
theorem Ko (o:Bool):iE (lQ o):=by
 cases o
 ·exact .ground rfl
 ·exact .iface (.ground rfl)
theorem IK (f:Nat) (o:Bool):iE (.tuple #[.float .f64 f,lQ o]):=.tuple fun x hx=>by
 simp only [List.mem_cons,aH,or_false] at hx
 rcases hx with rfl |rfl
 ·exact .ground rfl
 ·exact Ko o
theorem GC:E.func 230=some Tryz.f230:=ah
theorem GD:bO Tryz.f230 2=true:=ah
theorem Sf (m:Int) (e:Int) {H:Hp} (y:Gd E G H):aD E G 230 [uU m,iI e] H [] (fun v H'=>∃(f:Nat) (o:Bool),v=.tuple #[.float .f64 f,lQ o]):=by
 cases h1:((IntKind.u64.wrap ((BitVec.ofInt 64 m &&& BitVec.ofInt 64 4503599627370496).toNat:Int))==0) with
 |true=>
  exact bA y [au 3,aI,au 0,.call (.float .f64 m.toNat) H [],au 1] (.tuple #[.float .f64 m.toNat,.nilIface]) H GC GD (cU h1 (show CC E 209 [uU m] H (.ret (.float .f64 m.toNat)) H [] from iG m) aS) ⟨_,false,rfl⟩
 |false=>
  cases h2:(decide (e≥972)) with
  |true=>
   exact bA y [au 3,aF,au 0,aI,au 2,.call (.float .f64 ((IntKind.u64.wrap ((BitVec.ofInt 64 (IntKind.u64.wrap ((BitVec.ofInt 64 m &&& BitVec.ofInt 64 9223372036854775808).toNat:Int)) |||BitVec.ofInt 64 9218868437227405312).toNat:Int)).toNat)) H [],au 2] (.tuple #[.float .f64 ((IntKind.u64.wrap ((BitVec.ofInt 64 (IntKind.u64.wrap ((BitVec.ofInt 64 m &&& BitVec.ofInt 64 9223372036854775808).toNat:Int)) |||BitVec.ofInt 64 9218868437227405312).toNat:Int)).toNat),.iface 247 (iI 1)]) H GC GD (eY h1 h2 (show CC E 209 [uU (IntKind.u64.wrap ((BitVec.ofInt 64 (IntKind.u64.wrap ((BitVec.ofInt 64 m &&& BitVec.ofInt 64 9223372036854775808).toNat:Int)) |||BitVec.ofInt 64 9218868437227405312).toNat:Int))] H (.ret (.float .f64 ((IntKind.u64.wrap ((BitVec.ofInt 64 (IntKind.u64.wrap ((BitVec.ofInt 64 m &&& BitVec.ofInt 64 9223372036854775808).toNat:Int)) |||BitVec.ofInt 64 9218868437227405312).toNat:Int)).toNat))) H [] from iG (IntKind.u64.wrap ((BitVec.ofInt 64 (IntKind.u64.wrap ((BitVec.ofInt 64 m &&& BitVec.ofInt 64 9223372036854775808).toNat:Int)) |||BitVec.ofInt 64 9218868437227405312).toNat:Int))) aS) ⟨_,true,rfl⟩
  |false=>
   exact bA y [au 3,aF,au 0,aF,au 6,.call (.float .f64 ((IntKind.u64.wrap ((BitVec.ofInt 64 (IntKind.u64.wrap ((BitVec.ofInt 64 m &&& ~~~(BitVec.ofInt 64 4503599627370496)).toNat:Int)) |||BitVec.ofInt 64 (IntKind.u64.wrap ((IntKind.u64.wrap (IntKind.i64.wrap (1075+e)))*2 ^ 52))).toNat:Int)).toNat)) H [],au 1] (.tuple #[.float .f64 ((IntKind.u64.wrap ((BitVec.ofInt 64 (IntKind.u64.wrap ((BitVec.ofInt 64 m &&& ~~~(BitVec.ofInt 64 4503599627370496)).toNat:Int)) |||BitVec.ofInt 64 (IntKind.u64.wrap ((IntKind.u64.wrap (IntKind.i64.wrap (1075+e)))*2 ^ 52))).toNat:Int)).toNat),.nilIface]) H GC GD (eY h1 h2 (show CC E 209 [uU (IntKind.u64.wrap ((BitVec.ofInt 64 (IntKind.u64.wrap ((BitVec.ofInt 64 m &&& ~~~(BitVec.ofInt 64 4503599627370496)).toNat:Int)) |||BitVec.ofInt 64 (IntKind.u64.wrap ((IntKind.u64.wrap (IntKind.i64.wrap (1075+e)))*2 ^ 52))).toNat:Int))] H (.ret (.float .f64 ((IntKind.u64.wrap ((BitVec.ofInt 64 (IntKind.u64.wrap ((BitVec.ofInt 64 m &&& ~~~(BitVec.ofInt 64 4503599627370496)).toNat:Int)) |||BitVec.ofInt 64 (IntKind.u64.wrap ((IntKind.u64.wrap (IntKind.i64.wrap (1075+e)))*2 ^ 52))).toNat:Int)).toNat))) H [] from iG (IntKind.u64.wrap ((BitVec.ofInt 64 (IntKind.u64.wrap ((BitVec.ofInt 64 m &&& ~~~(BitVec.ofInt 64 4503599627370496)).toNat:Int)) |||BitVec.ofInt 64 (IntKind.u64.wrap ((IntKind.u64.wrap (IntKind.i64.wrap (1075+e)))*2 ^ 52))).toNat:Int))) aS) ⟨_,false,rfl⟩
theorem Se (m:Int) (e:Int):∃(f:Nat) (o:Bool),∀{H:Hp},Gd E G H→CC E 230 [uU m,iI e] H (.ret (.tuple #[.float .f64 f,lQ o])) H []:=by
 obtain ⟨_,_,c,_,_,f,o,rfl⟩:=Sf m e eZ
 exact ⟨f,o,fun y=>aW (cq rfl) (IK _ _) c y⟩
theorem yM {i:Int} (h0:0≤i) (h1:i<696):∃ a b:Int,(Go.Pinned.pow10Rows.flatMap fun x=>[.int .u64 x.1,.int .u64 x.2])[0+i.toNat*2]?=some (Value.int .u64 a)∧(Go.Pinned.pow10Rows.flatMap fun x=>[.int .u64 x.1,.int .u64 x.2])[0+i.toNat*2+1]?=some (Value.int .u64 b):=by
 have h:=uV (fun x:Nat×Nat=>Value.int .u64 x.1) (fun x=>.int .u64 x.2) Go.Pinned.pow10Rows i.toNat
 have hlen:Go.Pinned.pow10Rows.length=696:=by kernel_rfl
 have hlt:i.toNat<Go.Pinned.pow10Rows.length:=aa
 rw [bZ hlt] at h
 refine ⟨((Go.Pinned.pow10Rows[i.toNat]).1:Nat),((Go.Pinned.pow10Rows[i.toNat]).2:Nat),?_,?_⟩
 ·rw [show 0+i.toNat*2=2*i.toNat by omega];exact h.1
 ·rw [show 0+i.toNat*2+1=2*i.toNat+1 by omega];exact h.2
theorem UN:E.func 222=some Tryz.f222:=ah
theorem UO:bO Tryz.f222 4=true:=ah
theorem Sv (b:Nat) (b0:Int) (b1:Int) (b2:Int) (e:Int) (p:Int) (lp:Int) {H:Hp} (y:Gd E G H) (kb:H.get b=some (.cells [.int .u64 b0,.int .u64 b1,.int .i64 b2] 296 false)) (gb:G.n≤b) (p0:-348≤p) (p1:p<348) (e0:-100000≤e) (e1:e≤100000) (l0:-100000≤lp) (l1:lp≤100000):aD E G 222 [pt b 0,iI e,iI p,iI lp] H [b] (fun v H'=>∃ c0 c1 c2:Int,v=.tuple #[]∧H'.get b=some (.cells [.int .u64 c0,.int .u64 c1,.int .i64 c2] 296 false)):=by
 have gn:=vR
 have Hi:=y.wf.lt kb
 have w1:=aC (p-(-348))
 have w2:0≤(p-(-348)):=aa
 have w3:(p-(-348))<(696:Int):=aa
 obtain ⟨pa1,pb1,ad6,ag8⟩:=yM (i:=(p-(-348))) aa aa
 have w4:aq E 22 16 (0+(p-(-348)).toNat*2) H=some (uU pa1):=bQ qH (aag y) ad6
 obtain ⟨K1,e1⟩:∃ K_,K_=H.set b (.cells [uU pa1,uU b1,iI b2] 296 false):=⟨_,rfl⟩
 have y1:Gd E G K1:=e1▸y.set _ aa aa
 have jq:K1.n=H.n+0:=by rw [e1,Hp.cT] <;> rfl
 have gN:=aP e1
 obtain ⟨pa2,Zm,ag7,ad8⟩:=yM (i:=(p-(-348))) aa aa
 have abb:=cZ e1 aa (aag y)
 have w5:aq E 22 16 ((0+(p-(-348)).toNat*2)+1) K1=some (uU Zm):=bQ qH abb ad8
 obtain ⟨K2,e2⟩:∃ K_,K_=K1.set b (.cells [uU pa1,uU Zm,iI b2] 296 false):=⟨_,rfl⟩
 have y2:Gd E G K2:=e2▸y1.set _ aa aa
 have jI:K2.n=K1.n+0:=by rw [e2,Hp.cT] <;> rfl
 have wg:=aP e2
 have w6:=aC (e+lp)
 have w7:=aC ((e+lp)+3)
 have w8:=aC (0-((e+lp)+3))
 obtain ⟨K3,e3⟩:∃ K_,K_=K2.set b (.cells [uU pa1,uU Zm,iI (0-((e+lp)+3))] 296 false):=⟨_,rfl⟩
 have Oo:=aP e3
 exact aD.mk y (dj [au 1,.as (iI (p-(-348))),.ck,au 0,vl (uU pa1) H,au 1,vl bJ K1,au 1,.as (iI (p-(-348))),.ck,au 0,vl (uU Zm) K1,au 1,vl bJ K2,au 2,.as (iI (e+lp)),.as (iI ((e+lp)+3)),.as (iI (0-((e+lp)+3))),au 1,vl bJ K3] (.tuple #[]) K3 [b,b,b] UN UO (aE w1 w2 w3 w4 (show az E 22 b 0 (uU pa1) H=some K1 from (st Ed kb rfl rfl).trans (congrArg some e1.symm)) w1 w2 w3<|fG w5 (show az E 22 b 1 (uU Zm) K1=some K2 from (st Ed gN rfl rfl).trans (congrArg some e2.symm)) w6 w7 w8 (show az E 3 b 2 (iI (0-((e+lp)+3))) K2=some K3 from (st bY wg rfl rfl).trans (congrArg some e3.symm)) aS)) aj aJ ⟨_,_,_,rfl,Oo⟩
theorem aan (x:Int):0≤IntKind.i64.wrap (((BitVec.ofInt 64 x &&& BitVec.ofInt 64 63).toNat:Nat):Int):=by
 have h:(BitVec.ofInt 64 x &&& BitVec.ofInt 64 63).toNat≤63:=by
  rw [BitVec.toNat_and]
  exact Nat.and_le_right
 rw [eU aa aa]
 omega
theorem yw:E.func 223=some Tryz.f223:=ah
theorem yy:bO Tryz.f223 2=true:=ah
noncomputable abbrev sq (b0:Int) (H:Hp) nH xE (b2:Int) s6 (b1:Int) oS ER (l_:List Hint):=au 4::vl (uU b0) H::.call (.tuple #[uU nH,uU xE]) H []::au 7::vl (iI b2) H::.as (iI s6)::au 2::.ck::au 0::.ck::au 0::aF::au 3::vl (uU b1) H::.call (.tuple #[uU oS,uU ER]) H []::au 7::l_
theorem ZI (b:Nat) (b0:Int) (b1:Int) (b2:Int) (x:Int) {H:Hp} (y:Gd E G H) (kb:H.get b=some (.cells [.int .u64 b0,.int .u64 b1,.int .i64 b2] 296 false)):aD E G 223 [uU x,pt b 0] H [] (fun v H'=>∃ n:Int,v=.int .u64 n):=by
 have w1:aq E 22 b 0 H=some (uU b0):=bQ qH kb rfl
 obtain ⟨nH,xE,HW⟩:=Xa x b0
 have w2:aq E 3 b 2 H=some (iI b2):=bQ aR kb rfl
 obtain ⟨s6,hs6,ahd⟩:∃ x:Int,IntKind.i64.wrap ((BitVec.ofInt 64 b2 &&& BitVec.ofInt 64 63).toNat:Int)=x∧0≤x:=⟨_,rfl,aan _⟩
 have w3:((iI (IntKind.i64.wrap ((BitVec.ofInt 64 b2 &&& BitVec.ofInt 64 63).toNat:Int))):Value)=(iI s6):=(by rw [hs6])
 have w4:0≤s6:=aa
 cases h1:((IntKind.u64.wrap ((Int.fdiv nH (2 ^ (min s6.toNat IntKind.u64.bits)))*2 ^ (min s6.toNat IntKind.u64.bits))) != nH) with
 |true=>
  exact bA y [au 4,vl (uU b0) H,.call (.tuple #[uU nH,uU xE]) H [],au 7,vl (iI b2) H,.as (iI s6),au 2,.ck,au 0,.ck,au 0,aI,au 1,.ck,au 1] (uU (IntKind.u64.wrap ((BitVec.ofInt 64 (Int.fdiv nH (2 ^ (min s6.toNat IntKind.u64.bits))) |||BitVec.ofInt 64 1).toNat:Int))) H yw yy (aE w1 (show CC E 232 [uU x,uU b0] H (.ret (.tuple #[uU nH,uU xE])) H [] from HW y) w2 w3 w4 w4 h1 w4 aS) ⟨_,rfl⟩
 |false=>
  have w5:aq E 22 b 1 H=some (uU b1):=bQ qH kb rfl
  obtain ⟨oS,ER,KM⟩:=Xa x b1
  cases h2:(decide (xE<oS)) with
  |true=>
   obtain ⟨zP,_,U6⟩:=vT true
   cases h3:(decide ((IntKind.u64.wrap (xE-oS))>1)) with
   |true=>
    obtain ⟨xF,_,Tv⟩:=vT true
    exact bA y (sq b0 H nH xE b2 s6 b1 oS ER [aI,.call (uU zP) H [],au 3,.ck,au 2,aI,.call (uU xF) H [],au 1]) (uU (IntKind.u64.wrap ((BitVec.ofInt 64 (Int.fdiv (IntKind.u64.wrap (nH-zP)) (2 ^ (min s6.toNat IntKind.u64.bits))) |||BitVec.ofInt 64 xF).toNat:Int))) H yw yy (aE w1 (show CC E 232 [uU x,uU b0] H (.ret (.tuple #[uU nH,uU xE])) H [] from HW y) w2 w3 w4 w4 h1 w5<|aE (show CC E 232 [uU x,uU b1] H (.ret (.tuple #[uU oS,uU ER])) H [] from KM y) h2 (show CC E 208 [.bool true] H (.ret (uU zP)) H [] from U6 y) ag ag ag w4 ag<|aE ag ag ag h3 ag (show CC E 208 [.bool true] H (.ret (uU xF)) H [] from Tv y) ag ag<|cF ag aS) ⟨_,rfl⟩
   |false=>
    obtain ⟨xF,_,Tv⟩:=vT false
    exact bA y (sq b0 H nH xE b2 s6 b1 oS ER [aI,.call (uU zP) H [],au 3,.ck,au 2,aF,.call (uU xF) H [],au 1]) (uU (IntKind.u64.wrap ((BitVec.ofInt 64 (Int.fdiv (IntKind.u64.wrap (nH-zP)) (2 ^ (min s6.toNat IntKind.u64.bits))) |||BitVec.ofInt 64 xF).toNat:Int))) H yw yy (aE w1 (show CC E 232 [uU x,uU b0] H (.ret (.tuple #[uU nH,uU xE])) H [] from HW y) w2 w3 w4 w4 h1 w5<|aE (show CC E 232 [uU x,uU b1] H (.ret (.tuple #[uU oS,uU ER])) H [] from KM y) h2 (show CC E 208 [.bool true] H (.ret (uU zP)) H [] from U6 y) ag ag ag w4 ag<|aE ag ag ag h3 ag (show CC E 208 [.bool false] H (.ret (uU xF)) H [] from Tv y) ag ag<|cF ag aS) ⟨_,rfl⟩
  |false=>
   obtain ⟨zP,_,U6⟩:=vT false
   cases h3:(decide ((IntKind.u64.wrap (xE-oS))>1)) with
   |true=>
    obtain ⟨xF,_,Tv⟩:=vT true
    exact bA y (sq b0 H nH xE b2 s6 b1 oS ER [aF,.call (uU zP) H [],au 3,.ck,au 2,aI,.call (uU xF) H [],au 1]) (uU (IntKind.u64.wrap ((BitVec.ofInt 64 (Int.fdiv (IntKind.u64.wrap (nH-zP)) (2 ^ (min s6.toNat IntKind.u64.bits))) |||BitVec.ofInt 64 xF).toNat:Int))) H yw yy (aE w1 (show CC E 232 [uU x,uU b0] H (.ret (.tuple #[uU nH,uU xE])) H [] from HW y) w2 w3 w4 w4 h1 w5<|aE (show CC E 232 [uU x,uU b1] H (.ret (.tuple #[uU oS,uU ER])) H [] from KM y) h2 (show CC E 208 [.bool false] H (.ret (uU zP)) H [] from U6 y) ag ag ag w4 ag<|aE ag ag ag h3 ag (show CC E 208 [.bool true] H (.ret (uU xF)) H [] from Tv y) ag ag<|cF ag aS) ⟨_,rfl⟩
   |false=>
    obtain ⟨xF,_,Tv⟩:=vT false
    exact bA y (sq b0 H nH xE b2 s6 b1 oS ER [aF,.call (uU zP) H [],au 3,.ck,au 2,aF,.call (uU xF) H [],au 1]) (uU (IntKind.u64.wrap ((BitVec.ofInt 64 (Int.fdiv (IntKind.u64.wrap (nH-zP)) (2 ^ (min s6.toNat IntKind.u64.bits))) |||BitVec.ofInt 64 xF).toNat:Int))) H yw yy (aE w1 (show CC E 232 [uU x,uU b0] H (.ret (.tuple #[uU nH,uU xE])) H [] from HW y) w2 w3 w4 w4 h1 w5<|aE (show CC E 232 [uU x,uU b1] H (.ret (.tuple #[uU oS,uU ER])) H [] from KM y) h2 (show CC E 208 [.bool false] H (.ret (uU zP)) H [] from U6 y) ag ag ag w4 ag<|aE ag ag ag h3 ag (show CC E 208 [.bool false] H (.ret (uU xF)) H [] from Tv y) ag ag<|cF ag aS) ⟨_,rfl⟩
theorem Ns (x y:Int):∃ z:Int,(if y<x then y else x)=z∧(z=x∨z=y)∧z≤x∧z≤y:=by
 by_cases h:y<x
 ·exact ⟨y,if_pos h,.inr rfl,by omega,by omega⟩
 ·exact ⟨x,if_neg h,.inl rfl,by omega,by omega⟩
theorem Gy:E.func 211=some Tryz.f211:=ah
theorem Gz:bO Tryz.f211 3=true:=ah
noncomputable abbrev wR bl (H:Hp) lp mn (H1:Hp) Xi (l_:List Hint):=au 2::.call (iI bl) H []::au 1::.call (iI lp) H []::au 1::.as (iI (53-bl))::au 0::.as (iI ((53-bl)-lp))::.as (iI mn)::au 3::.as (iI (64-bl))::.as (iI (mn-(64-bl)))::au 1::.call (.tuple #[]) H1 [H.n+0]::au 0::vl (iI Xi) H1::l_
theorem Cw (d:Int) (p:Int) (sg:Int) {H:Hp} (y:Gd E G H) (p0:-345≤p) (p1:p≤310):aD E G 211 [uU d,iI p,uU sg] H [] (fun v H'=>∃(f:Nat) (o:Bool),v=.tuple #[.float .f64 f,lQ o]):=by
 have g0:=y.n
 obtain ⟨bl,hbl,hbc⟩:=abq d
 obtain ⟨lp,hlp,hlc⟩:=OA p aa aa
 have w1:=aC (53-bl)
 have w2:=aC ((53-bl)-lp)
 obtain ⟨mn,hmn,adV,adW,adX⟩:=Ns 1074 ((53-bl)-lp)
 have w3:((iI (if ((53-bl)-lp)<1074 then ((53-bl)-lp) else 1074)):Value)=(iI mn):=(by rw [hmn])
 have w4:=aC (64-bl)
 have w5:=aC (mn-(64-bl))
 obtain ⟨_,H1,c1,bN,y1,sq0,sq1,Xi,rfl,kq⟩:=Sv (H.n+0) 0 0 0 (mn-(64-bl)) p lp (y.news [.cells [uU 0,uU 0,iI 0] 296 false]) (aB [.cells [uU 0,uU 0,iI 0] 296 false] H 0 _ rfl) aa aa aa aa aa aa aa
 have jq:H.n+1≤H1.n:=by have h:=bN.n;rw [bF] at h;exact h
 have w6:aq E 3 (H.n+0) 2 H1=some (iI Xi):=bQ aR kq rfl
 cases h1:(decide (Xi≥64)) with
 |true=>
  exact aD.mk y (dj (wR bl H lp mn H1 Xi [aI,au 1,.call (.float .f64 ((IntKind.u64.wrap ((BitVec.ofInt 64 sg |||BitVec.ofInt 64 0).toNat:Int)).toNat)) H1 [],au 1]) (.tuple #[.float .f64 ((IntKind.u64.wrap ((BitVec.ofInt 64 sg |||BitVec.ofInt 64 0).toNat:Int)).toNat),.nilIface]) H1 [H.n+0] Gy Gz (aE (show CC E 142 [uU d] H (.ret (iI bl)) H [] from hbc y) (show CC E 221 [iI p] H (.ret (iI lp)) H [] from hlc y) w1 w2 w3 w4 w5 c1<|eY w6 h1 (show CC E 209 [uU (IntKind.u64.wrap ((BitVec.ofInt 64 sg |||BitVec.ofInt 64 0).toNat:Int))] H1 (.ret (.float .f64 ((IntKind.u64.wrap ((BitVec.ofInt 64 sg |||BitVec.ofInt 64 0).toNat:Int)).toNat))) H1 [] from iG (IntKind.u64.wrap ((BitVec.ofInt 64 sg |||BitVec.ofInt 64 0).toNat:Int))) aS)) aG aM ⟨_,false,rfl⟩
 |false=>
  have w7:0≤(64-bl):=aa
  obtain ⟨_,H2,c2,dc,y2,us,rfl⟩:=ZI (H.n+0) sq0 sq1 Xi (IntKind.u64.wrap (d*2 ^ (min (64-bl).toNat IntKind.u64.bits))) y1 kq
  have jI:H1.n+0≤H2.n:=dc.n
  obtain ⟨nH,HW⟩:=acm 9007199254740992
  cases h2:(decide (us≥nH)) with
  |true=>
   obtain ⟨bi,hbi,Yn⟩:=PJ true
   have w8:0≤bi:=aa
   have w9:=aC (mn-bi)
   obtain ⟨oS,KM⟩:=SB (IntKind.u64.wrap ((BitVec.ofInt 64 (Int.fdiv us (2 ^ (min bi.toNat IntKind.u64.bits))) |||BitVec.ofInt 64 (IntKind.u64.wrap ((BitVec.ofInt 64 us &&& BitVec.ofInt 64 1).toNat:Int))).toNat:Int))
   have jE:=aC (0-(mn-bi))
   obtain ⟨pf,po,hpk⟩:=Se (IntKind.u64.wrap ((BitVec.ofInt 64 sg |||BitVec.ofInt 64 oS).toNat:Int)) (0-(mn-bi))
   exact aD.mk y (dj (wR bl H lp mn H1 Xi [aF,au 1,.as (iI (64-bl)),.ck,.call (uU us) H2 [],au 1,.call (uU nH) H2 [],aI,.call (iI bi) H2 [],au 2,.ck,au 5,.as (iI (mn-bi)),au 2,.call (uU oS) H2 [],au 1,.as (iI (0-(mn-bi))),.call (.tuple #[.float .f64 pf,lQ po]) H2 [],au 3]) (.tuple #[.float .f64 pf,lQ po]) H2 [H.n+0] Gy Gz (aE (show CC E 142 [uU d] H (.ret (iI bl)) H [] from hbc y) (show CC E 221 [iI p] H (.ret (iI lp)) H [] from hlc y) w1 w2 w3 w4 w5 c1<|aE w6 h1 w4 w7 c2 (show CC E 225 [uU 9007199254740992] H2 (.ret (uU nH)) H2 [] from HW y2) h2 (show CC E 224 [.bool true] H2 (.ret (iI bi)) H2 [] from Yn y2)<|eM w8 w9 (show CC E 227 [uU (IntKind.u64.wrap ((BitVec.ofInt 64 (Int.fdiv us (2 ^ (min bi.toNat IntKind.u64.bits))) |||BitVec.ofInt 64 (IntKind.u64.wrap ((BitVec.ofInt 64 us &&& BitVec.ofInt 64 1).toNat:Int))).toNat:Int))] H2 (.ret (uU oS)) H2 [] from KM y2) jE (show CC E 230 [uU (IntKind.u64.wrap ((BitVec.ofInt 64 sg |||BitVec.ofInt 64 oS).toNat:Int)),iI (0-(mn-bi))] H2 (.ret (.tuple #[.float .f64 pf,lQ po])) H2 [] from hpk y2) aS)) aG aM ⟨_,po,rfl⟩
  |false=>
   obtain ⟨bi,hbi,Yn⟩:=PJ false
   have w8:0≤bi:=aa
   have w9:=aC (mn-bi)
   obtain ⟨oS,KM⟩:=SB (IntKind.u64.wrap ((BitVec.ofInt 64 (Int.fdiv us (2 ^ (min bi.toNat IntKind.u64.bits))) |||BitVec.ofInt 64 (IntKind.u64.wrap ((BitVec.ofInt 64 us &&& BitVec.ofInt 64 1).toNat:Int))).toNat:Int))
   have jE:=aC (0-(mn-bi))
   obtain ⟨pf,po,hpk⟩:=Se (IntKind.u64.wrap ((BitVec.ofInt 64 sg |||BitVec.ofInt 64 oS).toNat:Int)) (0-(mn-bi))
   exact aD.mk y (dj (wR bl H lp mn H1 Xi [aF,au 1,.as (iI (64-bl)),.ck,.call (uU us) H2 [],au 1,.call (uU nH) H2 [],aF,.call (iI bi) H2 [],au 2,.ck,au 5,.as (iI (mn-bi)),au 2,.call (uU oS) H2 [],au 1,.as (iI (0-(mn-bi))),.call (.tuple #[.float .f64 pf,lQ po]) H2 [],au 3]) (.tuple #[.float .f64 pf,lQ po]) H2 [H.n+0] Gy Gz (aE (show CC E 142 [uU d] H (.ret (iI bl)) H [] from hbc y) (show CC E 221 [iI p] H (.ret (iI lp)) H [] from hlc y) w1 w2 w3 w4 w5 c1<|aE w6 h1 w4 w7 c2 (show CC E 225 [uU 9007199254740992] H2 (.ret (uU nH)) H2 [] from HW y2) h2 (show CC E 224 [.bool false] H2 (.ret (iI bi)) H2 [] from Yn y2)<|eM w8 w9 (show CC E 227 [uU (IntKind.u64.wrap ((BitVec.ofInt 64 (Int.fdiv us (2 ^ (min bi.toNat IntKind.u64.bits))) |||BitVec.ofInt 64 (IntKind.u64.wrap ((BitVec.ofInt 64 us &&& BitVec.ofInt 64 1).toNat:Int))).toNat:Int))] H2 (.ret (uU oS)) H2 [] from KM y2) jE (show CC E 230 [uU (IntKind.u64.wrap ((BitVec.ofInt 64 sg |||BitVec.ofInt 64 oS).toNat:Int)),iI (0-(mn-bi))] H2 (.ret (.tuple #[.float .f64 pf,lQ po])) H2 [] from hpk y2) aS)) aG aM ⟨_,po,rfl⟩
theorem sj (d:Int) (p:Int) (sg:Int) (p0:-345≤p) (p1:p≤310):∃(f:Nat) (o:Bool),∀{H:Hp},Gd E G H→CC E 211 [uU d,iI p,uU sg] H (.ret (.tuple #[.float .f64 f,lQ o])) H []:=by
 obtain ⟨_,_,c,_,_,f,o,rfl⟩:=Cw d p sg eZ p0 p1
 exact ⟨f,o,fun y=>aW (cq rfl) (IK _ _) c y⟩
end Go.Proofs.YtglmagcldkngbaaGreatDoor
namespace Go.Proofs.YtglmagcldkngbaaGreatDoor
open Go Go.Am Go.Shelf Go.RowKit
def rho:Ren:=⟨fun n=>match n with |25=>192 |_=>n,fun t=>match t with |37=>192 |47=>288 |t=>t,fun g=>g⟩
theorem clone_lays:LaysPu.n25 Tryz.prog rho where
 mixed:=by kernel_rfl
 f25:=by kernel_rfl
 t0:=ok.ul ah
 a0:=lE ok ah
 z0:=ec ok ah
 v0:=gi ok ah
 i0:=by kernel_rfl
 t3:=ok.ul ah
 a3:=lE ok ah
 z3:=ec ok ah
 v3:=gi ok ah
 i3:=by kernel_rfl
 t4:=ok.ul ah
 a4:=lE ok ah
 z4:=ec ok ah
 v4:=gi ok ah
 i4:=by kernel_rfl
 t5:=ok.ul ah
 a5:=lE ok ah
 z5:=ec ok ah
 v5:=gi ok ah
 i5:=by kernel_rfl
 t9:=ok.ul ah
 a9:=lE ok ah
 z9:=ec ok ah
 v9:=gi ok ah
 i9:=by kernel_rfl
 t37:=ok.ul ah
 a37:=lE ok ah
 z37:=ec ok ah
 v37:=gi ok ah
 i37:=by kernel_rfl
 t47:=ok.ul ah
 a47:=lE ok ah
 z47:=ec ok ah
 v47:=gi ok ah
 i47:=by kernel_rfl
theorem CC.Sa {g:FuncId} {fn:Func} {args:List Value} {v:Value} {H:Hp} (hf:E.func g=some fn) (hn:(fn.name== "runtime.NumGoroutine")=false) (hb:fn.body.isNone=false) (ha:args.all ground=true) (hv:ground v=true)
  (h:∀ w,Calls E.P g args.toArray w fun e w'=>e=.returned v∧Go.RowKit.Below w.heap.size w w'):CC E g args H (.ret v) H []:=fun wf dy=>
 ⟨cR.refl ..,wf,fun base φ w args' cM hfr hl=>by
  have:=hl.iP ha
  subst this
  refine .inl ⟨?_,(h w).mono fun e w' he=>?_⟩
  ·unfold callFunc
   rw [Go.Am.ax (Go.Am.run_program w)]
   simp only [ok.func _ _ hf,hn,Bool.false_eq_true,if_false,hb]
   rfl
  ·obtain ⟨rfl,hs⟩:=he
   refine ⟨φ,⟨fun _ _=>rfl,⟨Nat.le_trans cM.bs hs.size,fun i l o hi hl ho=>?_,fun i l hi hl hlv=>Nat.lt_of_lt_of_le (cM.lt i l hi hl hlv) hs.size,cM.inj,cM.fI⟩,⟨hs.os,hs.tape,hs.output,hs.size,fun B hB _=>hs.block B hB⟩,fun i l h1 h2=>by omega⟩,v,rfl,.hG hv⟩
   have hb:=cM.blocks i l o hi hl ho
   by_cases hlv:live (H.get i)=true
   ·exact hb.same (hs.block _ (cM.lt i l hi hl hlv))
   ·rw [ho] at hlv
    cases o with
    |cells c e ro=>
     cases ro with
     |false=>cases c <;> exact absurd rfl hlv
     |true=>
      cases c with
      |nil=>intro j x hx;simp at hx
      |cons _ _=>exact absurd rfl hlv
    |map es ck=>exact absurd rfl hlv
    |dead=>trivial⟩
theorem clone (s:ByteArray) (hs:(s.size:Int)≤1000) {H:Hp}:CC E 192 [.string s] H (.ret (.string s)) H []:=
 CC.Sa (fn:=Tryz.f192) ah ah ah rfl rfl fun w=>AnyPu.stringslite_Clone clone_lays s w aa
end Go.Proofs.YtglmagcldkngbaaGreatDoor
namespace Go.Proofs.YtglmagcldkngbaaGreatDoor
open Go Go.Am
noncomputable def AN:Code:=cz [1,1,0,1,0,0] (bH Tryz.f216)
theorem Cf (s:ByteArray) (t:ByteArray) (mn:Int):∀(m:Nat) (x6:Int) (H:Hp),Gd E G H→(h0:0≤x6)→(b1:mn≤s.size)→(b2:mn≤t.size)→(b3:mn≤1000)→(mn-x6).toNat=m→
  aA E G 36 AN [(0,.string s),(1,.string t),(5,iI mn),(6,iI x6)] H [] (fun x T H'=>(x=(.exit 0)∧T=bw [(5,iI mn)])∨(x=.ret∧∃(z4:Int),T=bw [(4,iI z4)])):=by
 intro m
 induction m using Nat.strongRecOn with
 |_ m ih=>
 intro x6 H y h0 b1 b2 b3 hm
 cases h1:(decide (x6<mn)) with
 |true=>
  have q1:=aL h1
  have w1:0≤x6:=aa
  have w2:x6<(s.size:Int):=aa
  cases h2:(decide (65≤(ak s x6))) with
  |true=>
   cases h3:(decide ((ak s x6)≤90)) with
   |true=>
    have w3:x6<(t.size:Int):=aa
    cases h4:((IntKind.u8.wrap ((ak s x6)+32)) != (ak t x6)) with
    |true=>
     exact aA.last' y (bf [au 1,aI,au 1,.ck,au 1,aI,au 1,aI,au 6,.ck,aI,au 1] [(4,iI x6)] .ret H [] (fun _ r_=>aE h1 w1 w2 h2 h3 w1 w3 h4 r_)) aj aM aM (.inr (⟨rfl,x6,rfl⟩))
    |false=>
     have w4:=aC (x6+1)
     exact aA.next' y (bf [au 1,aI,au 1,.ck,au 1,aI,au 1,aI,au 6,.ck,aF,au 0,.as (iI (x6+1)),au 0] [(0,.string s),(1,.string t),(5,iI mn),(6,iI (x6+1))] .normal H [] (fun _ r_=>aE h1 w1 w2 h2 h3 w1 w3 h4<|cF w4 r_)) aM (ih _ aa (x6+1) _ y aa b1 b2 b3 rfl)
   |false=>
    have w3:x6<(t.size:Int):=aa
    cases h4:((ak s x6) != (ak t x6)) with
    |true=>
     exact aA.last' y (bf [au 1,aI,au 1,.ck,au 1,aI,au 1,aF,au 3,.ck,aI,au 1] [(4,iI x6)] .ret H [] (fun _ r_=>aE h1 w1 w2 h2 h3 w1 w3 h4 r_)) aj aM aM (.inr (⟨rfl,x6,rfl⟩))
    |false=>
     have w4:=aC (x6+1)
     exact aA.next' y (bf [au 1,aI,au 1,.ck,au 1,aI,au 1,aF,au 3,.ck,aF,au 0,.as (iI (x6+1)),au 0] [(0,.string s),(1,.string t),(5,iI mn),(6,iI (x6+1))] .normal H [] (fun _ r_=>aE h1 w1 w2 h2 h3 w1 w3 h4<|cF w4 r_)) aM (ih _ aa (x6+1) _ y aa b1 b2 b3 rfl)
  |false=>
   have w3:x6<(t.size:Int):=aa
   cases h3:((ak s x6) != (ak t x6)) with
   |true=>
    exact aA.last' y (bf [au 1,aI,au 1,.ck,au 1,aF,au 4,.ck,aI,au 1] [(4,iI x6)] .ret H [] (fun _ r_=>fk h1 w1 w2 h2 w1 w3 h3 r_)) aj aM aM (.inr (⟨rfl,x6,rfl⟩))
   |false=>
    have w4:=aC (x6+1)
    exact aA.next' y (bf [au 1,aI,au 1,.ck,au 1,aF,au 4,.ck,aF,au 0,.as (iI (x6+1)),au 0] [(0,.string s),(1,.string t),(5,iI mn),(6,iI (x6+1))] .normal H [] (fun _ r_=>aE h1 w1 w2 h2 w1 w3 h3 w4 r_)) aM (ih _ aa (x6+1) _ y aa b1 b2 b3 rfl)
 |false=>
  exact aA.last' y (bf [au 1,aF] [(5,iI mn)] (.exit 0) H [] (fun _ r_=>cF h1 r_)) aj aM aM (.inl (⟨rfl,rfl⟩))
theorem MV:E.func 216=some Tryz.f216:=ah
theorem MW:bO Tryz.f216 2=true:=ah
theorem BH (s:ByteArray) (t:ByteArray) {H:Hp} (y:Gd E G H) (hs:(s.size:Int)<1000) (ht:(t.size:Int)<1000):aD E G 216 [.string s,.string t] H [] (fun v H'=>∃(n:Int),v=(iI n)):=by
 obtain ⟨mn,hmn,adV,adW,adX⟩:=Ns (t.size:Int) (s.size:Int)
 have w1:((iI (if (s.size:Int)<(t.size:Int) then (s.size:Int) else (t.size:Int))):Value)=(iI mn):=(by rw [hmn])
 obtain ⟨_,_,H1,c1,bN,y1,eD⟩:=(Cf s t mn _ 0 _ y aa aa aa aa rfl).code
 rcases eD with ⟨rfl,rfl⟩ |⟨rfl,cL,rfl⟩
 ·exact bA y [au 4,.as (iI mn),au 1,.loop [0,1,5,6] (.exit 0) (bw [(5,iI mn)]) H1 [],au 1] (iI mn) H1 MV MW (cU w1 c1 aS) ⟨_,rfl⟩
 ·exact bA y [au 4,.as (iI mn),au 1,.loop [0,1,5,6] .ret (bw [(4,iI cL)]) H1 []] (iI cL) H1 MV MW (cU w1 c1 aS) ⟨_,rfl⟩
theorem commonPrefix (s:ByteArray) (t:ByteArray) (hs:(s.size:Int)<1000) (ht:(t.size:Int)<1000):∃(n:Int),∀{H:Hp},Gd E G H→CC E 216 [.string s,.string t] H (.ret (iI n)) H []:=by
 obtain ⟨_,_,c,_,_,n,rfl⟩:=BH s t eZ hs ht
 exact ⟨n,fun y=>aW (cq rfl) (.ground rfl) c y⟩
theorem MX:E.func 217=some Tryz.f217:=ah
theorem MY:bO Tryz.f217 1=true:=ah
theorem ZA (n:Int) {H:Hp} (y:Gd E G H):aD E G 217 [iI n] H [] (fun v H'=>∃(f:Nat),v=(.float .f64 f)):=by
 cases h1:(decide (n≥0)) with
 |true=>
  exact bA y [au 2,aI,au 1,.call (.float .f64 ((9218868437227405312:Int).toNat)) H [],au 0] (.float .f64 ((9218868437227405312:Int).toNat)) H MX MY (cU h1 (show CC E 209 [uU 9218868437227405312] H (.ret (.float .f64 ((9218868437227405312:Int).toNat))) H [] from iG 9218868437227405312) aS) ⟨_,rfl⟩
 |false=>
  exact bA y [au 2,aF,au 1,.call (.float .f64 ((18442240474082181120:Int).toNat)) H [],au 0] (.float .f64 ((18442240474082181120:Int).toNat)) H MX MY (cU h1 (show CC E 209 [uU 18442240474082181120] H (.ret (.float .f64 ((18442240474082181120:Int).toNat))) H [] from iG 18442240474082181120) aS) ⟨_,rfl⟩
theorem SJ (n:Int):∃(f:Nat),∀{H:Hp},Gd E G H→CC E 217 [iI n] H (.ret (.float .f64 f)) H []:=by
 obtain ⟨_,_,c,_,_,f,rfl⟩:=ZA n eZ
 exact ⟨f,fun y=>aW (cq rfl) (.ground rfl) c y⟩
theorem UJ:E.func 218=some Tryz.f218:=ah
theorem UK:bO Tryz.f218 0=true:=ah
theorem ZB  {H:Hp} (y:Gd E G H):aD E G 218 [] H [] (fun v H'=>∃(f:Nat),v=(.float .f64 f)):=by
 exact bA y [au 0,.call (.float .f64 ((9221120237041090561:Int).toNat)) H [],au 0] (.float .f64 ((9221120237041090561:Int).toNat)) H UJ UK (cF (show CC E 209 [uU 9221120237041090561] H (.ret (.float .f64 ((9221120237041090561:Int).toNat))) H [] from iG 9221120237041090561) aS) ⟨_,rfl⟩
theorem aeY :∃(f:Nat),∀{H:Hp},Gd E G H→CC E 218 [] H (.ret (.float .f64 f)) H []:=by
 obtain ⟨_,_,c,_,_,f,rfl⟩:=ZB  eZ
 exact ⟨f,fun y=>aW (cq rfl) (.ground rfl) c y⟩
noncomputable def pe:Code:=cz [1,1,1,1,0,1,0,0,0,0] (bH Tryz.f199)
theorem qv (s:ByteArray)  {H:Hp} (y:Gd E G H) (hs:(s.size:Int)<1000) (b0:0<(s.size:Int)) :
  bt E G 50 pe [(0,.string s),(5,iI 1),(6,iI 0),(12,uB (ak s 0))] H [] (fun x T H'=>(x=.normal∧∃(z0:ByteArray) (z5:Int) (z6:Int),T=bw [(0,.string z0),(5,iI z5),(6,iI z6)]∧((z0.size:Int)<1000))∨(x=(.exit 3)∧∃(z0:ByteArray),T=bw [(0,.string z0)]∧((z0.size:Int)<1000))∨(x=(.exit 0)∧T=bw [])):=by
 cases h1:((ak s 0)==43) with
 |true=>
  have q1:=bW h1
  have w1:0≤(0:Int):=aa
  have w2:(0:Int)<(s.size:Int):=aa
  cases h2:((ak s 0)==45) with
  |true=>
   have q2:=bW h2
   have w3:0≤(1:Int):=aa
   have w4:(1:Int)≤(s.size:Int):=aa
   exact bt.mk y (bf [aI,au 1,.ck,aI,au 2,.ck,au 0] [(0,.string (s.extract (1:Int).toNat s.size)),(5,iI (-1)),(6,iI 1)] .normal H [] (fun _ r_=>fG h1 w1 w2 h2 w3 w4 r_)) aM aM (.inl (⟨rfl,s.extract (1:Int).toNat s.size,-1,1,rfl,(by first |omega |(simp only [ByteArray.size_extract];omega))⟩))
  |false=>
   have w3:0≤(1:Int):=aa
   have w4:(1:Int)≤(s.size:Int):=aa
   exact bt.mk y (bf [aI,au 1,.ck,aF,au 1,.ck,au 0] [(0,.string (s.extract (1:Int).toNat s.size)),(5,iI 1),(6,iI 1)] .normal H [] (fun _ r_=>fG h1 w1 w2 h2 w3 w4 r_)) aM aM (.inl (⟨rfl,s.extract (1:Int).toNat s.size,1,1,rfl,(by first |omega |(simp only [ByteArray.size_extract];omega))⟩))
 |false=>
  cases h2:((ak s 0)==45) with
  |true=>
   have w1:0≤(0:Int):=aa
   have w2:(0:Int)<(s.size:Int):=aa
   have w3:0≤(1:Int):=aa
   have w4:(1:Int)≤(s.size:Int):=aa
   exact bt.mk y (bf [aF,au 0,aI,au 1,.ck,aI,au 2,.ck,au 0] [(0,.string (s.extract (1:Int).toNat s.size)),(5,iI (-1)),(6,iI 1)] .normal H [] (fun _ r_=>fk h1 h2 w1 w2 h2 w3 w4 r_)) aM aM (.inl (⟨rfl,s.extract (1:Int).toNat s.size,-1,1,rfl,(by first |omega |(simp only [ByteArray.size_extract];omega))⟩))
  |false=>
   cases h3:((ak s 0)==105) with
   |true=>
    exact bt.mk y (bf [aF,au 0,aF,au 0,aI,au 0] [(0,.string s),(5,iI 1),(6,iI 0)] .normal H [] (fun _ r_=>eY h1 h2 h3 r_)) aM aM (.inl (⟨rfl,s,1,0,rfl,(by first |omega |(simp only [ByteArray.size_extract];omega))⟩))
   |false=>
    cases h4:((ak s 0)==73) with
    |true=>
     exact bt.mk y (bf [aF,au 0,aF,au 0,aF,au 0,aI,au 0] [(0,.string s),(5,iI 1),(6,iI 0)] .normal H [] (fun _ r_=>gm h1 h2 h3 h4 r_)) aM aM (.inl (⟨rfl,s,1,0,rfl,(by first |omega |(simp only [ByteArray.size_extract];omega))⟩))
    |false=>
     cases h5:((ak s 0)==110) with
     |true=>
      exact bt.mk y (bf [aF,au 0,aF,au 0,aF,au 0,aF,au 0,aI,au 0] [(0,.string s)] (.exit 3) H [] (fun _ r_=>eM h1 h2 h3 h4 h5 r_)) aM aM (.inr (.inl (⟨rfl,s,rfl,(by first |omega |(simp only [ByteArray.size_extract];omega))⟩)))
     |false=>
      cases h6:((ak s 0)==78) with
      |true=>
       exact bt.mk y (bf [aF,au 0,aF,au 0,aF,au 0,aF,au 0,aF,au 0,aI,au 0] [(0,.string s)] (.exit 3) H [] (fun _ r_=>fG h1 h2 h3 h4 h5 h6 r_)) aM aM (.inr (.inl (⟨rfl,s,rfl,(by first |omega |(simp only [ByteArray.size_extract];omega))⟩)))
      |false=>
       exact bt.mk y (bf [aF,au 0,aF,au 0,aF,au 0,aF,au 0,aF,au 0,aF,au 0] [] (.exit 0) H [] (fun _ r_=>fG h1 h2 h3 h4 h5 h6 r_)) aM aM (.inr (.inr (⟨rfl,rfl⟩)))
theorem lg:E.func 199=some Tryz.f199:=ah
theorem lq:bO Tryz.f199 1=true:=ah
noncomputable abbrev CY jh (H1:Hp) uL (l_:List Hint):=au 4::aF::au 2::.ck::.piece 4 [0,5,6,12] (.exit 3) (bw [(0,.string jh)]) H1 []::au 0::.call (iI uL) H1 []::l_
noncomputable abbrev kF jh eL fy (H1:Hp) uL (l_:List Hint):=au 4::aF::au 2::.ck::.piece 4 [0,5,6,12] .normal (bw [(0,.string jh),(5,iI eL),(6,iI fy)]) H1 []::au 0::.call (iI uL) H1 []::au 1::l_
theorem O1 (s:ByteArray) {H:Hp} (y:Gd E G H) (hs:(s.size:Int)<1000):aD E G 199 [.string s] H [] (fun v H'=>∃(f:Nat) (n:Int) (b:Bool),v=(.tuple #[.float .f64 f,iI n,.bool b])):=by
 cases h1:((s.size:Int)==0) with
 |true=>
  exact bA y [au 4,aI,au 2] (.tuple #[.float .f64 0,iI 0,.bool false]) H lg lq (cF h1 aS) ⟨_,_,false,rfl⟩
 |false=>
  have q1:=bK h1
  have w1:0≤(0:Int):=aa
  have w2:(0:Int)<(s.size:Int):=aa
  obtain ⟨_,_,H1,c1,bN,y1,eD⟩:=qv s  y hs aa
  rcases eD with ⟨rfl,jh,eL,fy,rfl,cw⟩ |⟨rfl,jh,rfl,cw⟩ |⟨rfl,rfl⟩
  ·obtain ⟨uL,EK⟩:=commonPrefix jh ⟨#[105,110,102,105,110,105,116,121]⟩ (by first |omega |(simp only [ByteArray.size_extract];omega)) (by decide)
   cases h3:(decide (3<uL)) with
   |true=>
    cases h4:(decide (uL<8)) with
    |true=>
     obtain ⟨v_2,B5⟩:=SJ eL
     exact bA y (kF jh eL fy H1 uL [aI,au 1,aI,au 6,.call (.float .f64 v_2) H1 [],au 5]) (.tuple #[.float .f64 v_2,iI (IntKind.i64.wrap (fy+3)),.bool true]) H1 lg lq (aE h1 w1 w2 c1 (show CC E 216 [.string jh,.string ⟨#[105,110,102,105,110,105,116,121]⟩] H1 (.ret (iI uL)) H1 [] from EK y1) h3 h4 (show CC E 217 [iI eL] H1 (.ret (.float .f64 v_2)) H1 [] from B5 y1) aS) ⟨_,_,true,rfl⟩
    |false=>
     cases h5:(uL==3) with
     |true=>
      obtain ⟨v_2,B5⟩:=SJ eL
      exact bA y (kF jh eL fy H1 uL [aI,au 1,aF,au 1,aI,au 2,.call (.float .f64 v_2) H1 [],au 5]) (.tuple #[.float .f64 v_2,iI (IntKind.i64.wrap (fy+uL)),.bool true]) H1 lg lq (aE h1 w1 w2 c1 (show CC E 216 [.string jh,.string ⟨#[105,110,102,105,110,105,116,121]⟩] H1 (.ret (iI uL)) H1 [] from EK y1) h3 h4 h5<|cF (show CC E 217 [iI eL] H1 (.ret (.float .f64 v_2)) H1 [] from B5 y1) aS) ⟨_,_,true,rfl⟩
     |false=>
      cases h6:(uL==8) with
      |true=>
       obtain ⟨v_2,B5⟩:=SJ eL
       exact bA y (kF jh eL fy H1 uL [aI,au 1,aF,au 1,aF,au 1,aI,au 1,.call (.float .f64 v_2) H1 [],au 5]) (.tuple #[.float .f64 v_2,iI (IntKind.i64.wrap (fy+uL)),.bool true]) H1 lg lq (aE h1 w1 w2 c1 (show CC E 216 [.string jh,.string ⟨#[105,110,102,105,110,105,116,121]⟩] H1 (.ret (iI uL)) H1 [] from EK y1) h3 h4 h5<|cU h6 (show CC E 217 [iI eL] H1 (.ret (.float .f64 v_2)) H1 [] from B5 y1) aS) ⟨_,_,true,rfl⟩
      |false=>
       exact bA y (kF jh eL fy H1 uL [aI,au 1,aF,au 1,aF,au 1,aF,au 3]) (.tuple #[.float .f64 0,iI 0,.bool false]) H1 lg lq (aE h1 w1 w2 c1 (show CC E 216 [.string jh,.string ⟨#[105,110,102,105,110,105,116,121]⟩] H1 (.ret (iI uL)) H1 [] from EK y1) h3 h4 h5<|cF h6 aS) ⟨_,_,false,rfl⟩
   |false=>
    cases h4:(uL==3) with
    |true=>
     obtain ⟨v_2,B5⟩:=SJ eL
     exact bA y (kF jh eL fy H1 uL [aF,au 2,aI,au 2,.call (.float .f64 v_2) H1 [],au 5]) (.tuple #[.float .f64 v_2,iI (IntKind.i64.wrap (fy+uL)),.bool true]) H1 lg lq (aE h1 w1 w2 c1 (show CC E 216 [.string jh,.string ⟨#[105,110,102,105,110,105,116,121]⟩] H1 (.ret (iI uL)) H1 [] from EK y1) h3 h4 (show CC E 217 [iI eL] H1 (.ret (.float .f64 v_2)) H1 [] from B5 y1) aS) ⟨_,_,true,rfl⟩
    |false=>
     cases h5:(uL==8) with
     |true=>
      obtain ⟨v_2,B5⟩:=SJ eL
      exact bA y (kF jh eL fy H1 uL [aF,au 2,aF,au 1,aI,au 1,.call (.float .f64 v_2) H1 [],au 5]) (.tuple #[.float .f64 v_2,iI (IntKind.i64.wrap (fy+uL)),.bool true]) H1 lg lq (aE h1 w1 w2 c1 (show CC E 216 [.string jh,.string ⟨#[105,110,102,105,110,105,116,121]⟩] H1 (.ret (iI uL)) H1 [] from EK y1) h3 h4 h5<|cF (show CC E 217 [iI eL] H1 (.ret (.float .f64 v_2)) H1 [] from B5 y1) aS) ⟨_,_,true,rfl⟩
     |false=>
      exact bA y (kF jh eL fy H1 uL [aF,au 2,aF,au 1,aF,au 3]) (.tuple #[.float .f64 0,iI 0,.bool false]) H1 lg lq (aE h1 w1 w2 c1 (show CC E 216 [.string jh,.string ⟨#[105,110,102,105,110,105,116,121]⟩] H1 (.ret (iI uL)) H1 [] from EK y1) h3 h4 h5 aS) ⟨_,_,false,rfl⟩
  ·obtain ⟨uL,EK⟩:=commonPrefix jh ⟨#[110,97,110]⟩ (by first |omega |(simp only [ByteArray.size_extract];omega)) (by decide)
   cases h3:(uL==3) with
   |true=>
    obtain ⟨v_2,B5⟩:=aeY
    exact bA y (CY jh H1 uL [aI,.call (.float .f64 v_2) H1 [],au 2]) (.tuple #[.float .f64 v_2,iI 3,.bool true]) H1 lg lq (fk h1 w1 w2 c1 (show CC E 216 [.string jh,.string ⟨#[110,97,110]⟩] H1 (.ret (iI uL)) H1 [] from EK y1) h3 (show CC E 218 [] H1 (.ret (.float .f64 v_2)) H1 [] from B5 y1) aS) ⟨_,_,true,rfl⟩
   |false=>
    exact bA y (CY jh H1 uL [aF,au 2]) (.tuple #[.float .f64 0,iI 0,.bool false]) H1 lg lq (fG h1 w1 w2 c1 (show CC E 216 [.string jh,.string ⟨#[110,97,110]⟩] H1 (.ret (iI uL)) H1 [] from EK y1) h3 aS) ⟨_,_,false,rfl⟩
  ·exact bA y [au 4,aF,au 2,.ck,.piece 4 [0,5,6,12] (.exit 0) (bw []) H1 [],au 2] (.tuple #[.float .f64 0,iI 0,.bool false]) H1 lg lq (gm h1 w1 w2 c1 aS) ⟨_,_,false,rfl⟩
theorem Wk (s:ByteArray) (hs:(s.size:Int)<1000):∃(f:Nat) (n:Int) (b:Bool),∀{H:Hp},Gd E G H→CC E 199 [.string s] H (.ret (.tuple #[.float .f64 f,iI n,.bool b])) H []:=by
 obtain ⟨_,_,c,_,_,f,n,b,rfl⟩:=O1 s eZ hs
 exact ⟨f,n,b,fun y=>aW (cq rfl) (.ground rfl) c y⟩
def Er (e:Value):Prop:=e=.nilIface∨e=.iface 247 (.int .i64 1)∨e=.iface 247 (.int .i64 2)
theorem Mf (o:Bool):Er (lQ o):=by
 cases o
 ·exact .inl rfl
 ·exact .inr (.inl rfl)
theorem Gf (a:Nat) (ds:List Int) (nd dp:Int) (neg tr:Bool) {H:Hp} (y:Gd E G H) (ka:H.get a=some (.cells (bh ds nd dp neg tr) 281 false)) (hl:ds.length=800) (hn:nd=0∨zc ds nd) (ga:G.n≤a) (Ng:-1000000<dp) (Ak:dp<1000000) :
  aD E G 207 [pt a 0,pt 12 0] H [a] (fun v H'=>∃(b:Int) (o:Bool),v=.tuple #[.int .u64 b,.bool o]):=by
 rcases hn with rfl |hn
 ·exact Kr a ds dp neg tr y ka hl ga
 ·exact Oe a ds nd dp neg tr y ka hn ga Ng Ak
theorem ld:E.func 191=some Tryz.f191:=ah
theorem lf:bO Tryz.f191 1=true:=ah
noncomputable abbrev sr sf sn (H:Hp) (l_:List Hint):=au 3::.call (.tuple #[.float .f64 sf,iI sn,.bool false]) H []::au 8::l_
noncomputable abbrev wS sf sn (H:Hp) rm re rg rt ri bu (l_:List Hint):=sr sf sn H (.call (.tuple #[uU rm,iI re,.bool rg,.bool rt,.bool false,iI ri,.bool true]) H []::au 17::vl (.bool true) H::au 0::.call (uU bu) H []::au 2::l_)
noncomputable abbrev CZ sf sn (H:Hp) rm re rg ri bu (l_:List Hint):=sr sf sn H (.call (.tuple #[uU rm,iI re,.bool rg,.bool false,.bool false,iI ri,.bool true]) H []::au 17::vl (.bool true) H::au 0::.call (uU bu) H []::au 2::aF::au 0::aF::au 0::aF::au 4::l_)
noncomputable abbrev su sf sn (H:Hp) rm re rg ri bu JY Lt Sp Tz (l_:List Hint):=sr sf sn H (.call (.tuple #[uU rm,iI re,.bool rg,.bool true,.bool false,iI ri,.bool true]) H []::au 17::vl (.bool true) H::au 0::.call (uU bu) H []::au 2::aF::au 0::aF::au 0::aF::au 4::.call (.tuple #[.float .f64 JY,lQ Lt]) H []::au 10::.call (.tuple #[.float .f64 Sp,lQ Tz]) H []::au 6::l_)
theorem XJ (s:ByteArray) {H:Hp} (y:Gd E G H) (qQ:vB s) (hs:(s.size:Int)≤300):aD E G 191 [.string s] H [] (fun v H'=>∃(f:Nat) (n:Int) (e:Value),v=.tuple #[.float .f64 f,.int .i64 n,e]∧Er e):=by
 have g0:=y.n
 obtain ⟨sf,sn,sb,hsp⟩:=Wk s aa
 cases sb with
 |true=>
  exact bA y [au 3,.call (.tuple #[.float .f64 sf,iI sn,.bool true]) H [],au 12] (.tuple #[.float .f64 sf,iI sn,.nilIface]) H ld lf (cF (show CC E 199 [.string s] H (.ret (.tuple #[.float .f64 sf,iI sn,.bool true])) H [] from hsp y) aS) ⟨_,_,_,rfl,.inl rfl⟩
 |false=>
  obtain ⟨rm,re,rg,rt,ri,ro,hrf,hrc⟩:=ON s qQ hs
  obtain ⟨rm0,rm1,ri0,ri1,re0,re1⟩:=hrf
  cases ro with
  |true=>
   have w1:aq E 4 11 0 H=some (.bool true):=bQ kY (ac3 y) rfl
   obtain ⟨bu,hbu,hbc⟩:=vT rg
   cases h3:(rm==0) with
   |true=>
    exact bA y (wS sf sn H rm re rg rt ri bu [aI,au 1,.call (.float .f64 ((IntKind.u64.wrap ((BitVec.ofInt 64 (IntKind.u64.wrap (bu*2 ^ 63)) |||BitVec.ofInt 64 0).toNat:Int)).toNat)) H [],au 3]) (.tuple #[.float .f64 ((IntKind.u64.wrap ((BitVec.ofInt 64 (IntKind.u64.wrap (bu*2 ^ 63)) |||BitVec.ofInt 64 0).toNat:Int)).toNat),iI ri,.nilIface]) H ld lf (fG (show CC E 199 [.string s] H (.ret (.tuple #[.float .f64 sf,iI sn,.bool false])) H [] from hsp y) (show CC E 200 [.string s] H (.ret (.tuple #[uU rm,iI re,.bool rg,.bool rt,.bool false,iI ri,.bool true])) H [] from hrc y) w1 (show CC E 208 [.bool rg] H (.ret (uU bu)) H [] from hbc y) h3 (show CC E 209 [uU (IntKind.u64.wrap ((BitVec.ofInt 64 (IntKind.u64.wrap (bu*2 ^ 63)) |||BitVec.ofInt 64 0).toNat:Int))] H (.ret (.float .f64 ((IntKind.u64.wrap ((BitVec.ofInt 64 (IntKind.u64.wrap (bu*2 ^ 63)) |||BitVec.ofInt 64 0).toNat:Int)).toNat))) H [] from iG (IntKind.u64.wrap ((BitVec.ofInt 64 (IntKind.u64.wrap (bu*2 ^ 63)) |||BitVec.ofInt 64 0).toNat:Int))) aS) ⟨_,_,_,rfl,.inl rfl⟩
   |false=>
    cases h4:(decide (re>310)) with
    |true=>
     exact bA y (wS sf sn H rm re rg rt ri bu [aF,au 0,aI,au 1,.call (.float .f64 ((IntKind.u64.wrap ((BitVec.ofInt 64 (IntKind.u64.wrap (bu*2 ^ 63)) |||BitVec.ofInt 64 9218868437227405312).toNat:Int)).toNat)) H [],au 4]) (.tuple #[.float .f64 ((IntKind.u64.wrap ((BitVec.ofInt 64 (IntKind.u64.wrap (bu*2 ^ 63)) |||BitVec.ofInt 64 9218868437227405312).toNat:Int)).toNat),iI ri,.iface 247 (iI 1)]) H ld lf (fk (show CC E 199 [.string s] H (.ret (.tuple #[.float .f64 sf,iI sn,.bool false])) H [] from hsp y) (show CC E 200 [.string s] H (.ret (.tuple #[uU rm,iI re,.bool rg,.bool rt,.bool false,iI ri,.bool true])) H [] from hrc y) w1 (show CC E 208 [.bool rg] H (.ret (uU bu)) H [] from hbc y) h3 h4 (show CC E 209 [uU (IntKind.u64.wrap ((BitVec.ofInt 64 (IntKind.u64.wrap (bu*2 ^ 63)) |||BitVec.ofInt 64 9218868437227405312).toNat:Int))] H (.ret (.float .f64 ((IntKind.u64.wrap ((BitVec.ofInt 64 (IntKind.u64.wrap (bu*2 ^ 63)) |||BitVec.ofInt 64 9218868437227405312).toNat:Int)).toNat))) H [] from iG (IntKind.u64.wrap ((BitVec.ofInt 64 (IntKind.u64.wrap (bu*2 ^ 63)) |||BitVec.ofInt 64 9218868437227405312).toNat:Int))) aS) ⟨_,_,_,rfl,.inr (.inl rfl)⟩
    |false=>
     have q4:=aQ h4
     cases h5:(decide (re<(-345))) with
     |true=>
      exact bA y (wS sf sn H rm re rg rt ri bu [aF,au 0,aF,au 0,aI,au 1,.call (.float .f64 ((IntKind.u64.wrap ((BitVec.ofInt 64 (IntKind.u64.wrap (bu*2 ^ 63)) |||BitVec.ofInt 64 0).toNat:Int)).toNat)) H [],au 3]) (.tuple #[.float .f64 ((IntKind.u64.wrap ((BitVec.ofInt 64 (IntKind.u64.wrap (bu*2 ^ 63)) |||BitVec.ofInt 64 0).toNat:Int)).toNat),iI ri,.nilIface]) H ld lf (aE (show CC E 199 [.string s] H (.ret (.tuple #[.float .f64 sf,iI sn,.bool false])) H [] from hsp y) (show CC E 200 [.string s] H (.ret (.tuple #[uU rm,iI re,.bool rg,.bool rt,.bool false,iI ri,.bool true])) H [] from hrc y) w1 (show CC E 208 [.bool rg] H (.ret (uU bu)) H [] from hbc y) h3 h4 h5 (show CC E 209 [uU (IntKind.u64.wrap ((BitVec.ofInt 64 (IntKind.u64.wrap (bu*2 ^ 63)) |||BitVec.ofInt 64 0).toNat:Int))] H (.ret (.float .f64 ((IntKind.u64.wrap ((BitVec.ofInt 64 (IntKind.u64.wrap (bu*2 ^ 63)) |||BitVec.ofInt 64 0).toNat:Int)).toNat))) H [] from iG (IntKind.u64.wrap ((BitVec.ofInt 64 (IntKind.u64.wrap (bu*2 ^ 63)) |||BitVec.ofInt 64 0).toNat:Int))) aS) ⟨_,_,_,rfl,.inl rfl⟩
     |false=>
      have q5:=aQ h5
      cases rt with
      |true=>
       obtain ⟨JY,Lt,Oj⟩:=sj rm re (IntKind.u64.wrap (bu*2 ^ 63)) aa aa
       obtain ⟨Sp,Tz,Vf⟩:=sj (IntKind.u64.wrap (rm+1)) re (IntKind.u64.wrap (bu*2 ^ 63)) aa aa
       cases h7:(FloatKind.f64.format.order JY Sp==some .eq) with
       |true=>
        exact bA y (su sf sn H rm re rg ri bu JY Lt Sp Tz [aI,au 5]) (.tuple #[.float .f64 JY,iI ri,lQ Lt]) H ld lf (aE (show CC E 199 [.string s] H (.ret (.tuple #[.float .f64 sf,iI sn,.bool false])) H [] from hsp y) (show CC E 200 [.string s] H (.ret (.tuple #[uU rm,iI re,.bool rg,.bool true,.bool false,iI ri,.bool true])) H [] from hrc y) w1 (show CC E 208 [.bool rg] H (.ret (uU bu)) H [] from hbc y) h3 h4 h5 (show CC E 211 [uU rm,iI re,uU (IntKind.u64.wrap (bu*2 ^ 63))] H (.ret (.tuple #[.float .f64 JY,lQ Lt])) H [] from Oj y)<|cU (show CC E 211 [uU (IntKind.u64.wrap (rm+1)),iI re,uU (IntKind.u64.wrap (bu*2 ^ 63))] H (.ret (.tuple #[.float .f64 Sp,lQ Tz])) H [] from Vf y) h7 aS) ⟨_,_,_,rfl,Mf _⟩
       |false=>
        have w2:0≤ri:=aa
        have w3:ri≤(s.size:Int):=aa
        obtain ⟨_,H1,c1,bN,y1,eD⟩:=TW (H.n+0) (s.extract 0 ri.toNat) (y.news [.cells (bh (List.replicate 800 0) 0 0 false false) 281 false]) (aB [.cells (bh (List.replicate 800 0) 0 0 false false) 281 false] H 0 _ rfl) aa (by first |omega |(simp only [ByteArray.size_extract];omega))
        rcases eD with rfl |⟨dds,dnd,ddp,dng,dtr,rfl,kd,dl,dn,T3,T4⟩
        ·have jq:H.n+1≤H1.n:=by have h:=bN.n;rw [bF] at h;exact h
         exact aD.mk y (dj (su sf sn H rm re rg ri bu JY Lt Sp Tz [aF,au 2,.ck,.call (.bool false) H1 [H.n+0],au 5]) (.tuple #[.float .f64 0,iI ri,.iface 247 (iI 2)]) H1 [H.n+0] ld lf (aE (show CC E 199 [.string s] H (.ret (.tuple #[.float .f64 sf,iI sn,.bool false])) H [] from hsp y) (show CC E 200 [.string s] H (.ret (.tuple #[uU rm,iI re,.bool rg,.bool true,.bool false,iI ri,.bool true])) H [] from hrc y) w1 (show CC E 208 [.bool rg] H (.ret (uU bu)) H [] from hbc y) h3 h4 h5 (show CC E 211 [uU rm,iI re,uU (IntKind.u64.wrap (bu*2 ^ 63))] H (.ret (.tuple #[.float .f64 JY,lQ Lt])) H [] from Oj y)<|eM (show CC E 211 [uU (IntKind.u64.wrap (rm+1)),iI re,uU (IntKind.u64.wrap (bu*2 ^ 63))] H (.ret (.tuple #[.float .f64 Sp,lQ Tz])) H [] from Vf y) h7 w2 w3 c1 aS)) aG aM ⟨_,_,_,rfl,.inr (.inr rfl)⟩
        ·have jq:H.n+1≤H1.n:=by have h:=bN.n;rw [bF] at h;exact h
         obtain ⟨_,H2,c2,dc,y2,Pp,fbo,rfl⟩:=Gf (H.n+0) dds dnd ddp dng dtr y1 kd dl dn aa aa aa
         have jI:H1.n+0≤H2.n:=dc.n
         cases fbo with
         |true=>
          exact aD.mk y (dj (su sf sn H rm re rg ri bu JY Lt Sp Tz [aF,au 2,.ck,.call (.bool true) H1 [H.n+0],au 0,.call (.tuple #[uU Pp,.bool true]) H2 [H.n+0],au 5,.call (.float .f64 Pp.toNat) H2 [],au 9]) (.tuple #[.float .f64 Pp.toNat,iI ri,.iface 247 (iI 1)]) H2 [H.n+0,H.n+0] ld lf (aE (show CC E 199 [.string s] H (.ret (.tuple #[.float .f64 sf,iI sn,.bool false])) H [] from hsp y) (show CC E 200 [.string s] H (.ret (.tuple #[uU rm,iI re,.bool rg,.bool true,.bool false,iI ri,.bool true])) H [] from hrc y) w1 (show CC E 208 [.bool rg] H (.ret (uU bu)) H [] from hbc y) h3 h4 h5 (show CC E 211 [uU rm,iI re,uU (IntKind.u64.wrap (bu*2 ^ 63))] H (.ret (.tuple #[.float .f64 JY,lQ Lt])) H [] from Oj y)<|fk (show CC E 211 [uU (IntKind.u64.wrap (rm+1)),iI re,uU (IntKind.u64.wrap (bu*2 ^ 63))] H (.ret (.tuple #[.float .f64 Sp,lQ Tz])) H [] from Vf y) h7 w2 w3 c1 c2 (show CC E 209 [uU Pp] H2 (.ret (.float .f64 Pp.toNat)) H2 [] from iG Pp) aS)) aG aM ⟨_,_,_,rfl,.inr (.inl rfl)⟩
         |false=>
          exact aD.mk y (dj (su sf sn H rm re rg ri bu JY Lt Sp Tz [aF,au 2,.ck,.call (.bool true) H1 [H.n+0],au 0,.call (.tuple #[uU Pp,.bool false]) H2 [H.n+0],au 5,.call (.float .f64 Pp.toNat) H2 [],au 7]) (.tuple #[.float .f64 Pp.toNat,iI ri,.nilIface]) H2 [H.n+0,H.n+0] ld lf (aE (show CC E 199 [.string s] H (.ret (.tuple #[.float .f64 sf,iI sn,.bool false])) H [] from hsp y) (show CC E 200 [.string s] H (.ret (.tuple #[uU rm,iI re,.bool rg,.bool true,.bool false,iI ri,.bool true])) H [] from hrc y) w1 (show CC E 208 [.bool rg] H (.ret (uU bu)) H [] from hbc y) h3 h4 h5 (show CC E 211 [uU rm,iI re,uU (IntKind.u64.wrap (bu*2 ^ 63))] H (.ret (.tuple #[.float .f64 JY,lQ Lt])) H [] from Oj y)<|fk (show CC E 211 [uU (IntKind.u64.wrap (rm+1)),iI re,uU (IntKind.u64.wrap (bu*2 ^ 63))] H (.ret (.tuple #[.float .f64 Sp,lQ Tz])) H [] from Vf y) h7 w2 w3 c1 c2 (show CC E 209 [uU Pp] H2 (.ret (.float .f64 Pp.toNat)) H2 [] from iG Pp) aS)) aG aM ⟨_,_,_,rfl,.inl rfl⟩
      |false=>
       obtain ⟨xf,xb,hxn,hxc⟩:=T9 rm re rg re0 re1
       cases xb with
       |true=>
        exact bA y (CZ sf sn H rm re rg ri bu [.call (.tuple #[.float .f64 xf,.bool true]) H [],au 10]) (.tuple #[.float .f64 xf,iI ri,.nilIface]) H ld lf (aE (show CC E 199 [.string s] H (.ret (.tuple #[.float .f64 sf,iI sn,.bool false])) H [] from hsp y) (show CC E 200 [.string s] H (.ret (.tuple #[uU rm,iI re,.bool rg,.bool false,.bool false,iI ri,.bool true])) H [] from hrc y) w1 (show CC E 208 [.bool rg] H (.ret (uU bu)) H [] from hbc y) h3 h4 h5 (show CC E 210 [uU rm,iI re,.bool rg] H (.ret (.tuple #[.float .f64 xf,.bool true])) H [] from hxc y) aS) ⟨_,_,_,rfl,.inl rfl⟩
       |false=>
        obtain ⟨JY,Lt,Oj⟩:=sj rm re (IntKind.u64.wrap (bu*2 ^ 63)) aa aa
        exact bA y (CZ sf sn H rm re rg ri bu [.call (.tuple #[.float .f64 xf,.bool false]) H [],au 8,.call (.tuple #[.float .f64 JY,lQ Lt]) H [],au 12]) (.tuple #[.float .f64 JY,iI ri,lQ Lt]) H ld lf (aE (show CC E 199 [.string s] H (.ret (.tuple #[.float .f64 sf,iI sn,.bool false])) H [] from hsp y) (show CC E 200 [.string s] H (.ret (.tuple #[uU rm,iI re,.bool rg,.bool false,.bool false,iI ri,.bool true])) H [] from hrc y) w1 (show CC E 208 [.bool rg] H (.ret (uU bu)) H [] from hbc y) h3 h4 h5 (show CC E 210 [uU rm,iI re,.bool rg] H (.ret (.tuple #[.float .f64 xf,.bool false])) H [] from hxc y)<|cF (show CC E 211 [uU rm,iI re,uU (IntKind.u64.wrap (bu*2 ^ 63))] H (.ret (.tuple #[.float .f64 JY,lQ Lt])) H [] from Oj y) aS) ⟨_,_,_,rfl,Mf _⟩
  |false=>
   exact bA y (sr sf sn H [.call (.tuple #[uU rm,iI re,.bool rg,.bool rt,.bool false,iI ri,.bool false]) H [],au 21]) (.tuple #[.float .f64 0,iI ri,.iface 247 (iI 2)]) H ld lf (cU (show CC E 199 [.string s] H (.ret (.tuple #[.float .f64 sf,iI sn,.bool false])) H [] from hsp y) (show CC E 200 [.string s] H (.ret (.tuple #[uU rm,iI re,.bool rg,.bool rt,.bool false,iI ri,.bool false])) H [] from hrc y) aS) ⟨_,_,_,rfl,.inr (.inr rfl)⟩
theorem UB:E.func 181=some Tryz.f181:=ah
theorem UC:bO Tryz.f181 2=true:=ah
theorem IM (s:ByteArray) {H:Hp} (y:Gd E G H) (qQ:vB s) (hs:(s.size:Int)≤300):aD E G 181 [.string s,iI 64] H [] (fun v H'=>∃(f:Nat) (n:Int) (e:Value),v=.tuple #[.float .f64 f,.int .i64 n,e]∧Er e):=by
 obtain ⟨_,H1,c1,bN,y1,af,an,ae,rfl,hae⟩:=XJ s y qQ hs
 exact bA y [au 5,.call (.tuple #[.float .f64 af,iI an,ae]) H1 [],au 5] (.tuple #[.float .f64 af,iI an,ae]) H1 UB UC (cF c1 aS) ⟨_,_,_,rfl,hae⟩
theorem MK:E.func 168=some Tryz.f168:=ah
theorem ML:bO Tryz.f168 2=true:=ah
theorem X6 (s:ByteArray) {H:Hp} (y:Gd E G H) (qQ:vB s) (hs:(s.size:Int)≤300):aD E G 168 [.string s,iI 64] H [] (fun v H'=>∃(f:Nat) (e:Value),v=.tuple #[.float .f64 f,e]∧Er e):=by
 obtain ⟨_,H1,c1,bN,y1,af,an,ae,rfl,hae⟩:=IM s y qQ hs
 cases h1:(an != (s.size:Int)) with
 |true=>
  exact bA y [au 3,.call (.tuple #[.float .f64 af,iI an,ae]) H1 [],au 9,aI,au 2] (.tuple #[.float .f64 0,.iface 247 (iI 2)]) H1 MK ML (cU c1 h1 aS) ⟨_,_,rfl,.inr (.inr rfl)⟩
 |false=>
  exact bA y [au 3,.call (.tuple #[.float .f64 af,iI an,ae]) H1 [],au 9,aF,au 3] (.tuple #[.float .f64 af,ae]) H1 MK ML (cU c1 h1 aS) ⟨_,_,rfl,hae⟩
theorem UD:E.func 182=some Tryz.f182:=ah
theorem UE:bO Tryz.f182 2=true:=ah
theorem JM (t:ByteArray) (s:ByteArray) {H:Hp} (y:Gd E G H) (hs:(s.size:Int)≤1000):aD E G 182 [.string t,.string s] H [] (fun v H'=>∃ b:Nat,v=pt b 0):=by
 have w1:aq E 31 8 0 H=some (.iface 289 (pt 24 0)):=bQ Ij (G_8 y) rfl
 exact bA y [au 2,.call (.string s) H [],vl (.iface 289 (pt 24 0)) H,au 2] (pt (H.n+0) 0) (news H [.cells [.string t,.string s,.iface 289 (pt 24 0)] 261 false]) UD UE (aE ag ag ag (show CC E 192 [.string s] H (.ret (.string s)) H [] from clone s hs) ag w1 ag ag<|cU ag ag aS) ⟨_,rfl⟩
theorem UF:E.func 183=some Tryz.f183:=ah
theorem UG:bO Tryz.f183 2=true:=ah
theorem Lw (t:ByteArray) (s:ByteArray) {H:Hp} (y:Gd E G H) (hs:(s.size:Int)≤1000):aD E G 183 [.string t,.string s] H [] (fun v H'=>∃ b:Nat,v=pt b 0):=by
 have w1:aq E 31 9 0 H=some (.iface 289 (pt 25 0)):=bQ Ij (G_9 y) rfl
 exact bA y [au 2,.call (.string s) H [],vl (.iface 289 (pt 25 0)) H,au 2] (pt (H.n+0) 0) (news H [.cells [.string t,.string s,.iface 289 (pt 25 0)] 261 false]) UF UG (aE ag ag ag (show CC E 192 [.string s] H (.ret (.string s)) H [] from clone s hs) ag w1 ag ag<|cU ag ag aS) ⟨_,rfl⟩
theorem MM:E.func 169=some Tryz.f169:=ah
theorem MN:bO Tryz.f169 5=true:=ah
theorem SU (s:ByteArray) {H:Hp} (y:Gd E G H) (hs:(s.size:Int)≤300):aD E G 169 [.string ⟨#[80,97,114,115,101,70,108,111,97,116]⟩,.string s,iI 0,iI 64,.iface 247 (iI 1)] H [] (fun v H'=>∃ e:Value,e=v):=by
 obtain ⟨_,H1,c1,bN,y1,eb,rfl⟩:=Lw ⟨#[80,97,114,115,101,70,108,111,97,116]⟩ s y aa
 exact bA y [au 9,.call (pt eb 0) H1 [],au 1] (.iface 248 (pt eb 0)) H1 MM MN (cF c1 aS) ⟨_,rfl⟩
theorem SV (s:ByteArray) {H:Hp} (y:Gd E G H) (hs:(s.size:Int)≤300):aD E G 169 [.string ⟨#[80,97,114,115,101,70,108,111,97,116]⟩,.string s,iI 0,iI 64,.iface 247 (iI 2)] H [] (fun v H'=>∃ e:Value,e=v):=by
 obtain ⟨_,H1,c1,bN,y1,eb,rfl⟩:=JM ⟨#[80,97,114,115,101,70,108,111,97,116]⟩ s y aa
 exact bA y [au 6,.call (pt eb 0) H1 [],au 1] (.iface 248 (pt eb 0)) H1 MM MN (cF c1 aS) ⟨_,rfl⟩
theorem Gn:E.func 151=some Tryz.f151:=ah
theorem Gp:bO Tryz.f151 2=true:=ah
theorem Lp (s:ByteArray) {H:Hp} (y:Gd E G H) (qQ:vB s) (hs:(s.size:Int)≤300):aD E G 151 [.string s,iI 64] H [] (fun v H'=>∃(f:Nat) (e:Value),v=.tuple #[.float .f64 f,e]):=by
 obtain ⟨_,H1,c1,bN,y1,af,ae,rfl,hae⟩:=X6 s y qQ hs
 rcases hae with rfl |rfl |rfl
 ·exact bA y [au 3,.call (.tuple #[.float .f64 af,Value.nilIface]) H1 [],au 9] (.tuple #[.float .f64 af,.nilIface]) H1 Gn Gp (cF c1 aS) ⟨_,_,rfl⟩
 ·obtain ⟨_,H2,c2,dc,y2,te,rfl⟩:=SU s y1 hs
  exact bA y [au 3,.call (.tuple #[.float .f64 af,.iface 247 (iI 1)]) H1 [],au 10,.call te H2 [],au 1] (.tuple #[.float .f64 af,te]) H2 Gn Gp (cU c1 c2 aS) ⟨_,_,rfl⟩
 ·obtain ⟨_,H2,c2,dc,y2,te,rfl⟩:=SV s y1 hs
  exact bA y [au 3,.call (.tuple #[.float .f64 af,.iface 247 (iI 2)]) H1 [],au 10,.call te H2 [],au 1] (.tuple #[.float .f64 af,te]) H2 Gn Gp (cU c1 c2 aS) ⟨_,_,rfl⟩
noncomputable abbrev Cn H:=news H [.cells (setCells [121,119,100,104,109,115]) 240 false]
theorem Pa (s:ByteArray) {H:Hp} (y:Gd E G H):aD E G 166 [.string s,.string ⟨#[121,119,100,104,109,115]⟩] H [] (fun v H'=>∃ x,v=.string x∧x.size≤s.size):=by
 cases h1:(s.toList==(⟨#[]⟩:ByteArray).toList) with
 |true=>
  exact bA y [au 1,aI,au 3] (.string s) H Ba Bb (cF h1 aS) ⟨_,rfl,Nat.le_refl _⟩
 |false=>
  obtain ⟨_,H1,c1,bN,y1,z1,rfl,Vj⟩:=vO s (H.n+0) _ (fun _=>True) (y.news [.cells (setCells [121,119,100,104,109,115]) 240 false]) (aB [.cells (setCells [121,119,100,104,109,115]) 240 false] H 0 _ rfl) (.of _ fun _ _=>trivial)
  have jq:H.n+1≤H1.n:=by have h:=bN.n;rw [bF] at h;exact h
  exact aD.mk y (dj [au 1,aF,au 9,.call (.tuple #[.agg (setCells [121,119,100,104,109,115]).toArray,.bool true]) H [],au 3,vl bJ (Cn H),au 2,.call (.string z1) H1 [],au 0] (.string z1) H1 [H.n+0] Ba Bb (gm h1 (show CC E 178 [.string ⟨#[121,119,100,104,109,115]⟩] H (.ret (.tuple #[.agg (setCells [121,119,100,104,109,115]).toArray,.bool true])) H [] from Ka y) (show az E 240 (H.n+0) 0 (.agg (setCells [121,119,100,104,109,115]).toArray) (news H [.cells (List.replicate 256 (.bool false)) 240 false])=some (Cn H) from cN FU rfl ah ah rfl) c1 aS)) aG aM ⟨_,rfl,Vj.size⟩
theorem EY (s:ByteArray):∃(x:ByteArray),(x.size≤s.size)∧∀{H:Hp},Gd E G H→CC E 166 [.string s,.string ⟨#[121,119,100,104,109,115]⟩] H (.ret (.string x)) H []:=by
 obtain ⟨_,_,c,_,_,x,rfl,hs⟩:=Pa s eZ
 exact ⟨x,hs,fun y=>aW (cq rfl) (.ground rfl) c y⟩
noncomputable def yh:Code:=cz [1,0,1,1,0,0,0] (bH Tryz.f152)
theorem zy (s:ByteArray) (most:Int):∀(m:Nat) (x7:Int) (x8:Int) (H:Hp),Gd E G H→(b0:0≤x8)→(b1:x8≤s.size)→(hs:(s.size:Int)<1000)→((s.size:Int)-x8).toNat=m→
  aA E G 47 yh [(0,.string s),(1,iI most),(7,iI x7),(8,iI x8)] H [] (fun x T H'=>(x=(.exit 0)∧∃(z7:Int) (z8:Int),T=bw [(0,.string s),(1,iI most),(7,iI z7),(8,iI z8)]∧((0≤z8)∧(z8≤s.size)))∨(x=.ret∧T=bw [(4,iI 0),(5,.string ⟨#[]⟩),(6,.bool false)])):=by
 intro m
 induction m using Nat.strongRecOn with
 |_ m ih=>
 intro x7 x8 H y b0 b1 hs hm
 cases h1:(decide (x8<(s.size:Int))) with
 |true=>
  have q1:=aL h1
  have w1:0≤x8:=aa
  have w2:x8<(s.size:Int):=aa
  cases h2:(decide ((ak s x8)<48)) with
  |true=>
   exact aA.last' y (bf [au 2,aI,au 1,.ck,au 1,aI,au 2] [(0,.string s),(1,iI most),(7,iI x7),(8,iI x8)] (.exit 0) H [] (fun _ r_=>gm h1 w1 w2 h2 r_)) aj aM aM (.inl (⟨rfl,x7,x8,rfl,⟨aa,aa⟩⟩))
  |false=>
   cases h3:(decide ((ak s x8)>57)) with
   |true=>
    exact aA.last' y (bf [au 2,aI,au 1,.ck,au 1,aF,au 1,aI,au 1] [(0,.string s),(1,iI most),(7,iI x7),(8,iI x8)] (.exit 0) H [] (fun _ r_=>eM h1 w1 w2 h2 h3 r_)) aj aM aM (.inl (⟨rfl,x7,x8,rfl,⟨aa,aa⟩⟩))
   |false=>
    cases h4:(decide (x7>most)) with
    |true=>
     exact aA.last' y (bf [au 2,aI,au 1,.ck,au 1,aF,au 1,aF,au 3,aI,au 3] [(4,iI 0),(5,.string ⟨#[]⟩),(6,.bool false)] .ret H [] (fun _ r_=>fG h1 w1 w2 h2 h3 h4 r_)) aj aM aM (.inr (⟨rfl,rfl⟩))
    |false=>
     have w3:=aC (x8+1)
     exact aA.next' y (bf [au 2,aI,au 1,.ck,au 1,aF,au 1,aF,au 3,aF,au 8,.as (iI (x8+1)),au 0] [(0,.string s),(1,iI most),(7,iI (IntKind.i64.wrap ((IntKind.i64.wrap (10*x7))+(IntKind.i64.wrap (IntKind.u8.wrap ((ak s x8)-48)))))),(8,iI (x8+1))] .normal H [] (fun _ r_=>fk h1 w1 w2 h2 h3 h4 w3 r_)) aM (ih _ aa (IntKind.i64.wrap ((IntKind.i64.wrap (10*x7))+(IntKind.i64.wrap (IntKind.u8.wrap ((ak s x8)-48))))) (x8+1) _ y aa aa aa rfl)
 |false=>
  exact aA.last' y (bf [au 2,aF] [(0,.string s),(1,iI most),(7,iI x7),(8,iI x8)] (.exit 0) H [] (fun _ r_=>cF h1 r_)) aj aM aM (.inl (⟨rfl,x7,x8,rfl,⟨aa,aa⟩⟩))
theorem A8:E.func 152=some Tryz.f152:=ah
theorem A9:bO Tryz.f152 2=true:=ah
theorem HI (s:ByteArray) (most:Int) {H:Hp} (y:Gd E G H) (hs:(s.size:Int)<1000):aD E G 152 [.string s,iI most] H [] (fun v H'=>∃(n:Int) (x:ByteArray) (b:Bool),v=(.tuple #[iI n,.string x,.bool b])∧((b=true→x.size<s.size)∧x.size≤s.size)):=by
 obtain ⟨_,_,H1,c1,bN,y1,eD⟩:=(zy s most _ 0 0 _ y aa aa aa rfl).code
 rcases eD with ⟨rfl,gY,Ew,rfl,cw,iX⟩ |⟨rfl,rfl⟩
 ·have w1:0≤Ew:=aa
  have w2:Ew≤(s.size:Int):=aa
  cases h2:(decide (Ew>0)) with
  |true=>
   have q2:=aL h2
   cases h3:(decide (gY≤most)) with
   |true=>
    exact bA y [au 4,.loop [0,1,7,8] (.exit 0) (bw [(0,.string s),(1,iI most),(7,iI gY),(8,iI Ew)]) H1 [],au 2,.ck,au 0,aI,au 2,aI,au 3] (.tuple #[iI gY,.string (s.extract Ew.toNat s.size),.bool true]) H1 A8 A9 (aE c1 ag ag ag ag w1 w2 ag<|aE ag h2 ag ag ag ag h3 ag<|gm ag ag ag ag aS) ⟨_,_,true,rfl,fun _=>by simp only [ByteArray.size_extract];omega,by simp only [ByteArray.size_extract];omega⟩
   |false=>
    exact bA y [au 4,.loop [0,1,7,8] (.exit 0) (bw [(0,.string s),(1,iI most),(7,iI gY),(8,iI Ew)]) H1 [],au 2,.ck,au 0,aI,au 2,aF,au 3] (.tuple #[iI gY,.string (s.extract Ew.toNat s.size),.bool false]) H1 A8 A9 (aE c1 ag ag ag ag w1 w2 ag<|aE ag h2 ag ag ag ag h3 ag<|gm ag ag ag ag aS) ⟨_,_,false,rfl,fun h=>absurd h aj,by simp only [ByteArray.size_extract];omega⟩
  |false=>
   have q2:=aQ h2
   exact bA y [au 4,.loop [0,1,7,8] (.exit 0) (bw [(0,.string s),(1,iI most),(7,iI gY),(8,iI Ew)]) H1 [],au 2,.ck,au 0,aF,au 4] (.tuple #[iI gY,.string (s.extract Ew.toNat s.size),.bool false]) H1 A8 A9 (aE c1 ag ag ag ag w1 w2 ag<|aE ag h2 ag ag ag ag ag ag aS) ⟨_,_,false,rfl,fun h=>absurd h aj,by simp only [ByteArray.size_extract];omega⟩
 ·exact bA y [au 4,.loop [0,1,7,8] .ret (bw [(4,iI 0),(5,.string ⟨#[]⟩),(6,.bool false)]) H1 []] (.tuple #[iI 0,.string ⟨#[]⟩,.bool false]) H1 A8 A9 (cF c1 aS) ⟨0,⟨#[]⟩,false,rfl,fun h=>absurd h aj,Nat.zero_le _⟩
theorem LH (s:ByteArray) (most:Int) (hs:(s.size:Int)<1000):∃(n:Int) (x:ByteArray) (b:Bool),((b=true→x.size<s.size)∧x.size≤s.size)∧∀{H:Hp},Gd E G H→CC E 152 [.string s,iI most] H (.ret (.tuple #[iI n,.string x,.bool b])) H []:=by
 obtain ⟨_,_,c,_,_,n,x,b,rfl,hs⟩:=HI s most eZ hs
 exact ⟨n,x,b,hs,fun y=>aW (cq rfl) (.ground rfl) c y⟩
noncomputable def eE:Code:=cz [1,1,0,1,0,0] (bH Tryz.f153)
theorem zG (s:ByteArray) (nm:ByteArray)  {H:Hp} (y:Gd E G H) (hn:nm.size≤s.size) (hs:(s.size:Int)<1000):aA E G 30 eE [(0,.string s),(4,.string nm),(15,.agg #[.string ⟨#[121]⟩,iI 31536000000,.string ⟨#[119]⟩,iI 604800000,.string ⟨#[100]⟩,iI 86400000,.string ⟨#[104]⟩,iI 3600000,.string ⟨#[109]⟩,iI 60000,.string ⟨#[115]⟩,iI 1000,.string ⟨#[109,115]⟩,iI 1]),(16,iI 7)] H [] (fun x T H'=>(x=(.exit 0)∧T=bw [])∨(x=.ret∧∃(z2:Int) (z3:ByteArray),T=bw [(2,iI z2),(3,.string z3)]∧((0≤z2)∧(z2≤6)∧(z3.size≤s.size)))):=by
 exact aA.last' y (bf [au 0] [] (.exit 0) H [] (fun _ r_=>r_)) aj aM aM (.inl (⟨rfl,rfl⟩))
noncomputable abbrev j4 H:=news H [.cells [.string ⟨#[109,115]⟩,iI 1] 220 false]
noncomputable abbrev er H:=news H [.cells [.string ⟨#[]⟩,iI 0] 220 false]
noncomputable abbrev wT (H:Hp) (l_:List Hint):=au 4::vl bJ (j4 H)::au 0::vl (.string ⟨#[109,115]⟩) (j4 H)::au 0::l_
theorem zF (s:ByteArray) (nm:ByteArray)  {H:Hp} (y:Gd E G H) (hn:nm.size≤s.size) (hs:(s.size:Int)<1000):aA E G 30 eE [(0,.string s),(4,.string nm),(15,.agg #[.string ⟨#[121]⟩,iI 31536000000,.string ⟨#[119]⟩,iI 604800000,.string ⟨#[100]⟩,iI 86400000,.string ⟨#[104]⟩,iI 3600000,.string ⟨#[109]⟩,iI 60000,.string ⟨#[115]⟩,iI 1000,.string ⟨#[109,115]⟩,iI 1]),(16,iI 6)] H [] (fun x T H'=>(x=(.exit 0)∧T=bw [])∨(x=.ret∧∃(z2:Int) (z3:ByteArray),T=bw [(2,iI z2),(3,.string z3)]∧((0≤z2)∧(z2≤6)∧(z3.size≤s.size)))):=by
 have w1:aq E 9 (H.n+0) 0 (j4 H)=some (.string ⟨#[109,115]⟩):=cI bB rfl rfl
 cases h1:((⟨#[109,115]⟩:ByteArray).toList==nm.toList) with
 |true=>
  have w2:0≤(nm.size:Int):=aa
  have w3:(nm.size:Int)≤(s.size:Int):=aa
  exact aA.last' y (bf (wT H [aI,au 3,.ck,au 1]) [(2,iI 6),(3,.string (s.extract (nm.size:Int).toNat s.size))] .ret (j4 H) [H.n+0] (fun _ r_=>aE (show az E 220 (H.n+0) 0 (.agg #[.string ⟨#[109,115]⟩,iI 1]) (er H)=some (j4 H) from cN fo rfl rfl rfl rfl) w1 h1 ag ag ag ag ag<|eM w2 w3 ag ag ag r_)) aj aG aM (.inr (⟨rfl,6,s.extract (nm.size:Int).toNat s.size,rfl,⟨by omega,by omega,by simp only [ByteArray.size_extract];omega⟩⟩))
 |false=>
  exact aA.next' y (bf (wT H [aF,au 1]) [(0,.string s),(4,.string nm),(15,.agg #[.string ⟨#[121]⟩,iI 31536000000,.string ⟨#[119]⟩,iI 604800000,.string ⟨#[100]⟩,iI 86400000,.string ⟨#[104]⟩,iI 3600000,.string ⟨#[109]⟩,iI 60000,.string ⟨#[115]⟩,iI 1000,.string ⟨#[109,115]⟩,iI 1]),(16,iI 7)] .normal (j4 H) [H.n+0] (fun _ r_=>eY (show az E 220 (H.n+0) 0 (.agg #[.string ⟨#[109,115]⟩,iI 1]) (er H)=some (j4 H) from cN fo rfl rfl rfl rfl) w1 h1 r_)) aG (zG s nm  (y.news [.cells [.string ⟨#[109,115]⟩,iI 1] 220 false]) hn hs)
noncomputable abbrev j5 H:=news H [.cells [.string ⟨#[115]⟩,iI 1000] 220 false]
noncomputable abbrev C0 (H:Hp) (l_:List Hint):=au 4::vl bJ (j5 H)::au 0::vl (.string ⟨#[115]⟩) (j5 H)::au 0::l_
theorem zE (s:ByteArray) (nm:ByteArray)  {H:Hp} (y:Gd E G H) (hn:nm.size≤s.size) (hs:(s.size:Int)<1000):aA E G 30 eE [(0,.string s),(4,.string nm),(15,.agg #[.string ⟨#[121]⟩,iI 31536000000,.string ⟨#[119]⟩,iI 604800000,.string ⟨#[100]⟩,iI 86400000,.string ⟨#[104]⟩,iI 3600000,.string ⟨#[109]⟩,iI 60000,.string ⟨#[115]⟩,iI 1000,.string ⟨#[109,115]⟩,iI 1]),(16,iI 5)] H [] (fun x T H'=>(x=(.exit 0)∧T=bw [])∨(x=.ret∧∃(z2:Int) (z3:ByteArray),T=bw [(2,iI z2),(3,.string z3)]∧((0≤z2)∧(z2≤6)∧(z3.size≤s.size)))):=by
 have w1:aq E 9 (H.n+0) 0 (j5 H)=some (.string ⟨#[115]⟩):=cI bB rfl rfl
 cases h1:((⟨#[115]⟩:ByteArray).toList==nm.toList) with
 |true=>
  have w2:0≤(nm.size:Int):=aa
  have w3:(nm.size:Int)≤(s.size:Int):=aa
  exact aA.last' y (bf (C0 H [aI,au 3,.ck,au 1]) [(2,iI 5),(3,.string (s.extract (nm.size:Int).toNat s.size))] .ret (j5 H) [H.n+0] (fun _ r_=>aE (show az E 220 (H.n+0) 0 (.agg #[.string ⟨#[115]⟩,iI 1000]) (er H)=some (j5 H) from cN fo rfl rfl rfl rfl) w1 h1 ag ag ag ag ag<|eM w2 w3 ag ag ag r_)) aj aG aM (.inr (⟨rfl,5,s.extract (nm.size:Int).toNat s.size,rfl,⟨by omega,by omega,by simp only [ByteArray.size_extract];omega⟩⟩))
 |false=>
  exact aA.next' y (bf (C0 H [aF,au 1]) [(0,.string s),(4,.string nm),(15,.agg #[.string ⟨#[121]⟩,iI 31536000000,.string ⟨#[119]⟩,iI 604800000,.string ⟨#[100]⟩,iI 86400000,.string ⟨#[104]⟩,iI 3600000,.string ⟨#[109]⟩,iI 60000,.string ⟨#[115]⟩,iI 1000,.string ⟨#[109,115]⟩,iI 1]),(16,iI 6)] .normal (j5 H) [H.n+0] (fun _ r_=>eY (show az E 220 (H.n+0) 0 (.agg #[.string ⟨#[115]⟩,iI 1000]) (er H)=some (j5 H) from cN fo rfl rfl rfl rfl) w1 h1 r_)) aG (zF s nm  (y.news [.cells [.string ⟨#[115]⟩,iI 1000] 220 false]) hn hs)
noncomputable abbrev j8 H:=news H [.cells [.string ⟨#[109]⟩,iI 60000] 220 false]
noncomputable abbrev C1 (H:Hp) (l_:List Hint):=au 4::vl bJ (j8 H)::au 0::vl (.string ⟨#[109]⟩) (j8 H)::au 0::l_
theorem zD (s:ByteArray) (nm:ByteArray)  {H:Hp} (y:Gd E G H) (hn:nm.size≤s.size) (hs:(s.size:Int)<1000):aA E G 30 eE [(0,.string s),(4,.string nm),(15,.agg #[.string ⟨#[121]⟩,iI 31536000000,.string ⟨#[119]⟩,iI 604800000,.string ⟨#[100]⟩,iI 86400000,.string ⟨#[104]⟩,iI 3600000,.string ⟨#[109]⟩,iI 60000,.string ⟨#[115]⟩,iI 1000,.string ⟨#[109,115]⟩,iI 1]),(16,iI 4)] H [] (fun x T H'=>(x=(.exit 0)∧T=bw [])∨(x=.ret∧∃(z2:Int) (z3:ByteArray),T=bw [(2,iI z2),(3,.string z3)]∧((0≤z2)∧(z2≤6)∧(z3.size≤s.size)))):=by
 have w1:aq E 9 (H.n+0) 0 (j8 H)=some (.string ⟨#[109]⟩):=cI bB rfl rfl
 cases h1:((⟨#[109]⟩:ByteArray).toList==nm.toList) with
 |true=>
  have w2:0≤(nm.size:Int):=aa
  have w3:(nm.size:Int)≤(s.size:Int):=aa
  exact aA.last' y (bf (C1 H [aI,au 3,.ck,au 1]) [(2,iI 4),(3,.string (s.extract (nm.size:Int).toNat s.size))] .ret (j8 H) [H.n+0] (fun _ r_=>aE (show az E 220 (H.n+0) 0 (.agg #[.string ⟨#[109]⟩,iI 60000]) (er H)=some (j8 H) from cN fo rfl rfl rfl rfl) w1 h1 ag ag ag ag ag<|eM w2 w3 ag ag ag r_)) aj aG aM (.inr (⟨rfl,4,s.extract (nm.size:Int).toNat s.size,rfl,⟨by omega,by omega,by simp only [ByteArray.size_extract];omega⟩⟩))
 |false=>
  exact aA.next' y (bf (C1 H [aF,au 1]) [(0,.string s),(4,.string nm),(15,.agg #[.string ⟨#[121]⟩,iI 31536000000,.string ⟨#[119]⟩,iI 604800000,.string ⟨#[100]⟩,iI 86400000,.string ⟨#[104]⟩,iI 3600000,.string ⟨#[109]⟩,iI 60000,.string ⟨#[115]⟩,iI 1000,.string ⟨#[109,115]⟩,iI 1]),(16,iI 5)] .normal (j8 H) [H.n+0] (fun _ r_=>eY (show az E 220 (H.n+0) 0 (.agg #[.string ⟨#[109]⟩,iI 60000]) (er H)=some (j8 H) from cN fo rfl rfl rfl rfl) w1 h1 r_)) aG (zE s nm  (y.news [.cells [.string ⟨#[109]⟩,iI 60000] 220 false]) hn hs)
noncomputable abbrev j9 H:=news H [.cells [.string ⟨#[104]⟩,iI 3600000] 220 false]
noncomputable abbrev C2 (H:Hp) (l_:List Hint):=au 4::vl bJ (j9 H)::au 0::vl (.string ⟨#[104]⟩) (j9 H)::au 0::l_
theorem zC (s:ByteArray) (nm:ByteArray)  {H:Hp} (y:Gd E G H) (hn:nm.size≤s.size) (hs:(s.size:Int)<1000):aA E G 30 eE [(0,.string s),(4,.string nm),(15,.agg #[.string ⟨#[121]⟩,iI 31536000000,.string ⟨#[119]⟩,iI 604800000,.string ⟨#[100]⟩,iI 86400000,.string ⟨#[104]⟩,iI 3600000,.string ⟨#[109]⟩,iI 60000,.string ⟨#[115]⟩,iI 1000,.string ⟨#[109,115]⟩,iI 1]),(16,iI 3)] H [] (fun x T H'=>(x=(.exit 0)∧T=bw [])∨(x=.ret∧∃(z2:Int) (z3:ByteArray),T=bw [(2,iI z2),(3,.string z3)]∧((0≤z2)∧(z2≤6)∧(z3.size≤s.size)))):=by
 have w1:aq E 9 (H.n+0) 0 (j9 H)=some (.string ⟨#[104]⟩):=cI bB rfl rfl
 cases h1:((⟨#[104]⟩:ByteArray).toList==nm.toList) with
 |true=>
  have w2:0≤(nm.size:Int):=aa
  have w3:(nm.size:Int)≤(s.size:Int):=aa
  exact aA.last' y (bf (C2 H [aI,au 3,.ck,au 1]) [(2,iI 3),(3,.string (s.extract (nm.size:Int).toNat s.size))] .ret (j9 H) [H.n+0] (fun _ r_=>aE (show az E 220 (H.n+0) 0 (.agg #[.string ⟨#[104]⟩,iI 3600000]) (er H)=some (j9 H) from cN fo rfl rfl rfl rfl) w1 h1 ag ag ag ag ag<|eM w2 w3 ag ag ag r_)) aj aG aM (.inr (⟨rfl,3,s.extract (nm.size:Int).toNat s.size,rfl,⟨by omega,by omega,by simp only [ByteArray.size_extract];omega⟩⟩))
 |false=>
  exact aA.next' y (bf (C2 H [aF,au 1]) [(0,.string s),(4,.string nm),(15,.agg #[.string ⟨#[121]⟩,iI 31536000000,.string ⟨#[119]⟩,iI 604800000,.string ⟨#[100]⟩,iI 86400000,.string ⟨#[104]⟩,iI 3600000,.string ⟨#[109]⟩,iI 60000,.string ⟨#[115]⟩,iI 1000,.string ⟨#[109,115]⟩,iI 1]),(16,iI 4)] .normal (j9 H) [H.n+0] (fun _ r_=>eY (show az E 220 (H.n+0) 0 (.agg #[.string ⟨#[104]⟩,iI 3600000]) (er H)=some (j9 H) from cN fo rfl rfl rfl rfl) w1 h1 r_)) aG (zD s nm  (y.news [.cells [.string ⟨#[104]⟩,iI 3600000] 220 false]) hn hs)
noncomputable abbrev ke H:=news H [.cells [.string ⟨#[100]⟩,iI 86400000] 220 false]
noncomputable abbrev C3 (H:Hp) (l_:List Hint):=au 4::vl bJ (ke H)::au 0::vl (.string ⟨#[100]⟩) (ke H)::au 0::l_
theorem zB (s:ByteArray) (nm:ByteArray)  {H:Hp} (y:Gd E G H) (hn:nm.size≤s.size) (hs:(s.size:Int)<1000):aA E G 30 eE [(0,.string s),(4,.string nm),(15,.agg #[.string ⟨#[121]⟩,iI 31536000000,.string ⟨#[119]⟩,iI 604800000,.string ⟨#[100]⟩,iI 86400000,.string ⟨#[104]⟩,iI 3600000,.string ⟨#[109]⟩,iI 60000,.string ⟨#[115]⟩,iI 1000,.string ⟨#[109,115]⟩,iI 1]),(16,iI 2)] H [] (fun x T H'=>(x=(.exit 0)∧T=bw [])∨(x=.ret∧∃(z2:Int) (z3:ByteArray),T=bw [(2,iI z2),(3,.string z3)]∧((0≤z2)∧(z2≤6)∧(z3.size≤s.size)))):=by
 have w1:aq E 9 (H.n+0) 0 (ke H)=some (.string ⟨#[100]⟩):=cI bB rfl rfl
 cases h1:((⟨#[100]⟩:ByteArray).toList==nm.toList) with
 |true=>
  have w2:0≤(nm.size:Int):=aa
  have w3:(nm.size:Int)≤(s.size:Int):=aa
  exact aA.last' y (bf (C3 H [aI,au 3,.ck,au 1]) [(2,iI 2),(3,.string (s.extract (nm.size:Int).toNat s.size))] .ret (ke H) [H.n+0] (fun _ r_=>aE (show az E 220 (H.n+0) 0 (.agg #[.string ⟨#[100]⟩,iI 86400000]) (er H)=some (ke H) from cN fo rfl rfl rfl rfl) w1 h1 ag ag ag ag ag<|eM w2 w3 ag ag ag r_)) aj aG aM (.inr (⟨rfl,2,s.extract (nm.size:Int).toNat s.size,rfl,⟨by omega,by omega,by simp only [ByteArray.size_extract];omega⟩⟩))
 |false=>
  exact aA.next' y (bf (C3 H [aF,au 1]) [(0,.string s),(4,.string nm),(15,.agg #[.string ⟨#[121]⟩,iI 31536000000,.string ⟨#[119]⟩,iI 604800000,.string ⟨#[100]⟩,iI 86400000,.string ⟨#[104]⟩,iI 3600000,.string ⟨#[109]⟩,iI 60000,.string ⟨#[115]⟩,iI 1000,.string ⟨#[109,115]⟩,iI 1]),(16,iI 3)] .normal (ke H) [H.n+0] (fun _ r_=>eY (show az E 220 (H.n+0) 0 (.agg #[.string ⟨#[100]⟩,iI 86400000]) (er H)=some (ke H) from cN fo rfl rfl rfl rfl) w1 h1 r_)) aG (zC s nm  (y.news [.cells [.string ⟨#[100]⟩,iI 86400000] 220 false]) hn hs)
noncomputable abbrev ki H:=news H [.cells [.string ⟨#[119]⟩,iI 604800000] 220 false]
noncomputable abbrev C4 (H:Hp) (l_:List Hint):=au 4::vl bJ (ki H)::au 0::vl (.string ⟨#[119]⟩) (ki H)::au 0::l_
theorem zA (s:ByteArray) (nm:ByteArray)  {H:Hp} (y:Gd E G H) (hn:nm.size≤s.size) (hs:(s.size:Int)<1000):aA E G 30 eE [(0,.string s),(4,.string nm),(15,.agg #[.string ⟨#[121]⟩,iI 31536000000,.string ⟨#[119]⟩,iI 604800000,.string ⟨#[100]⟩,iI 86400000,.string ⟨#[104]⟩,iI 3600000,.string ⟨#[109]⟩,iI 60000,.string ⟨#[115]⟩,iI 1000,.string ⟨#[109,115]⟩,iI 1]),(16,iI 1)] H [] (fun x T H'=>(x=(.exit 0)∧T=bw [])∨(x=.ret∧∃(z2:Int) (z3:ByteArray),T=bw [(2,iI z2),(3,.string z3)]∧((0≤z2)∧(z2≤6)∧(z3.size≤s.size)))):=by
 have w1:aq E 9 (H.n+0) 0 (ki H)=some (.string ⟨#[119]⟩):=cI bB rfl rfl
 cases h1:((⟨#[119]⟩:ByteArray).toList==nm.toList) with
 |true=>
  have w2:0≤(nm.size:Int):=aa
  have w3:(nm.size:Int)≤(s.size:Int):=aa
  exact aA.last' y (bf (C4 H [aI,au 3,.ck,au 1]) [(2,iI 1),(3,.string (s.extract (nm.size:Int).toNat s.size))] .ret (ki H) [H.n+0] (fun _ r_=>aE (show az E 220 (H.n+0) 0 (.agg #[.string ⟨#[119]⟩,iI 604800000]) (er H)=some (ki H) from cN fo rfl rfl rfl rfl) w1 h1 ag ag ag ag ag<|eM w2 w3 ag ag ag r_)) aj aG aM (.inr (⟨rfl,1,s.extract (nm.size:Int).toNat s.size,rfl,⟨by omega,by omega,by simp only [ByteArray.size_extract];omega⟩⟩))
 |false=>
  exact aA.next' y (bf (C4 H [aF,au 1]) [(0,.string s),(4,.string nm),(15,.agg #[.string ⟨#[121]⟩,iI 31536000000,.string ⟨#[119]⟩,iI 604800000,.string ⟨#[100]⟩,iI 86400000,.string ⟨#[104]⟩,iI 3600000,.string ⟨#[109]⟩,iI 60000,.string ⟨#[115]⟩,iI 1000,.string ⟨#[109,115]⟩,iI 1]),(16,iI 2)] .normal (ki H) [H.n+0] (fun _ r_=>eY (show az E 220 (H.n+0) 0 (.agg #[.string ⟨#[119]⟩,iI 604800000]) (er H)=some (ki H) from cN fo rfl rfl rfl rfl) w1 h1 r_)) aG (zB s nm  (y.news [.cells [.string ⟨#[119]⟩,iI 604800000] 220 false]) hn hs)
noncomputable abbrev kj H:=news H [.cells [.string ⟨#[121]⟩,iI 31536000000] 220 false]
noncomputable abbrev C5 (H:Hp) (l_:List Hint):=au 4::vl bJ (kj H)::au 0::vl (.string ⟨#[121]⟩) (kj H)::au 0::l_
theorem zz (s:ByteArray) (nm:ByteArray)  {H:Hp} (y:Gd E G H) (hn:nm.size≤s.size) (hs:(s.size:Int)<1000):aA E G 30 eE [(0,.string s),(4,.string nm),(15,.agg #[.string ⟨#[121]⟩,iI 31536000000,.string ⟨#[119]⟩,iI 604800000,.string ⟨#[100]⟩,iI 86400000,.string ⟨#[104]⟩,iI 3600000,.string ⟨#[109]⟩,iI 60000,.string ⟨#[115]⟩,iI 1000,.string ⟨#[109,115]⟩,iI 1]),(16,iI 0)] H [] (fun x T H'=>(x=(.exit 0)∧T=bw [])∨(x=.ret∧∃(z2:Int) (z3:ByteArray),T=bw [(2,iI z2),(3,.string z3)]∧((0≤z2)∧(z2≤6)∧(z3.size≤s.size)))):=by
 have w1:aq E 9 (H.n+0) 0 (kj H)=some (.string ⟨#[121]⟩):=cI bB rfl rfl
 cases h1:((⟨#[121]⟩:ByteArray).toList==nm.toList) with
 |true=>
  have w2:0≤(nm.size:Int):=aa
  have w3:(nm.size:Int)≤(s.size:Int):=aa
  exact aA.last' y (bf (C5 H [aI,au 3,.ck,au 1]) [(2,iI 0),(3,.string (s.extract (nm.size:Int).toNat s.size))] .ret (kj H) [H.n+0] (fun _ r_=>aE (show az E 220 (H.n+0) 0 (.agg #[.string ⟨#[121]⟩,iI 31536000000]) (er H)=some (kj H) from cN fo rfl rfl rfl rfl) w1 h1 ag ag ag ag ag<|eM w2 w3 ag ag ag r_)) aj aG aM (.inr (⟨rfl,0,s.extract (nm.size:Int).toNat s.size,rfl,⟨by omega,by omega,by simp only [ByteArray.size_extract];omega⟩⟩))
 |false=>
  exact aA.next' y (bf (C5 H [aF,au 1]) [(0,.string s),(4,.string nm),(15,.agg #[.string ⟨#[121]⟩,iI 31536000000,.string ⟨#[119]⟩,iI 604800000,.string ⟨#[100]⟩,iI 86400000,.string ⟨#[104]⟩,iI 3600000,.string ⟨#[109]⟩,iI 60000,.string ⟨#[115]⟩,iI 1000,.string ⟨#[109,115]⟩,iI 1]),(16,iI 1)] .normal (kj H) [H.n+0] (fun _ r_=>eY (show az E 220 (H.n+0) 0 (.agg #[.string ⟨#[121]⟩,iI 31536000000]) (er H)=some (kj H) from cN fo rfl rfl rfl rfl) w1 h1 r_)) aG (zA s nm  (y.news [.cells [.string ⟨#[121]⟩,iI 31536000000] 220 false]) hn hs)
theorem MI:E.func 153=some Tryz.f153:=ah
theorem MJ:bO Tryz.f153 1=true:=ah
noncomputable abbrev C6 (tx:ByteArray) (H:Hp) (s:ByteArray) (l_:List Hint):=au 5::.call (.string tx) H []::au 0::.as (iI ((s.size:Int)-(tx.size:Int)))::.ck::au 0::vl (.agg #[.string ⟨#[121]⟩,iI 31536000000,.string ⟨#[119]⟩,iI 604800000,.string ⟨#[100]⟩,iI 86400000,.string ⟨#[104]⟩,iI 3600000,.string ⟨#[109]⟩,iI 60000,.string ⟨#[115]⟩,iI 1000,.string ⟨#[109,115]⟩,iI 1]) H::au 0::l_
theorem JJ (s:ByteArray) {H:Hp} (y:Gd E G H) (hs:(s.size:Int)<1000):aD E G 153 [.string s] H [] (fun v H'=>∃(k:Int) (x:ByteArray),v=(.tuple #[iI k,.string x])∧(-1≤k∧k≤6∧x.size≤s.size)):=by
 obtain ⟨tx,htx,htc⟩:=EY s
 have w1:=aC ((s.size:Int)-(tx.size:Int))
 have w2:0≤((s.size:Int)-(tx.size:Int)):=aa
 have w3:((s.size:Int)-(tx.size:Int))≤(s.size:Int):=aa
 have w4:aq E 221 4 0 H=some (.agg #[.string ⟨#[121]⟩,iI 31536000000,.string ⟨#[119]⟩,iI 604800000,.string ⟨#[100]⟩,iI 86400000,.string ⟨#[104]⟩,iI 3600000,.string ⟨#[109]⟩,iI 60000,.string ⟨#[115]⟩,iI 1000,.string ⟨#[109,115]⟩,iI 1]):=o7 NQ O6 (G_4 y) rfl rfl
 obtain ⟨_,_,H1,c1,bN,y1,eD⟩:=(zz s (s.extract 0 ((s.size:Int)-(tx.size:Int)).toNat)  y (by simp only [ByteArray.size_extract];omega) hs).code
 rcases eD with ⟨rfl,rfl⟩ |⟨rfl,yT,ff,rfl,cw,iX,qV⟩
 ·exact bA y (C6 tx H s [.loop [0,4,15,16] (.exit 0) (bw []) H1 [],au 1]) (.tuple #[iI (-1),.string ⟨#[]⟩]) H1 MI MJ (fG (show CC E 166 [.string s,.string ⟨#[121,119,100,104,109,115]⟩] H (.ret (.string tx)) H [] from htc y) w1 w2 w3 w4 c1 aS) ⟨-1,⟨#[]⟩,rfl,by omega,by omega,Nat.zero_le _⟩
 ·exact bA y (C6 tx H s [.loop [0,4,15,16] .ret (bw [(2,iI yT),(3,.string ff)]) H1 []]) (.tuple #[iI yT,.string ff]) H1 MI MJ (fG (show CC E 166 [.string s,.string ⟨#[121,119,100,104,109,115]⟩] H (.ret (.string tx)) H [] from htc y) w1 w2 w3 w4 c1 aS) ⟨_,_,rfl,by omega,iX,qV⟩
theorem O0 (s:ByteArray) (hs:(s.size:Int)<1000):∃(k:Int) (x:ByteArray),(-1≤k∧k≤6∧x.size≤s.size)∧∀{H:Hp},Gd E G H→CC E 153 [.string s] H (.ret (.tuple #[iI k,.string x])) H []:=by
 obtain ⟨_,_,c,_,_,k,x,rfl,hs⟩:=JJ s eZ hs
 exact ⟨k,x,hs,fun y=>aW (cq rfl) (.ground rfl) c y⟩
def nE (o:Bool) (k:Int):Value:=match o with |true=>.iface 41 (.int .i64 k) |false=>.nilIface
theorem FV {k:Int} (h0:0≤k) (h1:k<7):∃ n:Int,([.string ⟨#[121]⟩,iI 31536000000,.string ⟨#[119]⟩,iI 604800000,.string ⟨#[100]⟩,iI 86400000,.string ⟨#[104]⟩,iI 3600000,.string ⟨#[109]⟩,iI 60000,.string ⟨#[115]⟩,iI 1000,.string ⟨#[109,115]⟩,iI 1]:List Value)[0+k.toNat*2+1]?=some (.int .i64 n)∧0<n:=by
 have:k=0∨k=1∨k=2∨k=3∨k=4∨k=5∨k=6:=aa
 rcases this with rfl |rfl |rfl |rfl |rfl |rfl |rfl <;> exact ⟨_,rfl,by omega⟩
noncomputable def AM:Code:=cz [1,1,1,0,0,0] (bH Tryz.f127)
noncomputable abbrev wU OF nr (H:Hp) kk kx (l_:List Hint):=au 0::aI::au 0::.call (.tuple #[iI OF,.string nr,.bool true]) H []::au 7::.call (.tuple #[iI kk,.string kx]) H []::au 9::l_
theorem Ce :∀(m:Nat) (x0:ByteArray) (x4:Int) (x5:Int) (H:Hp),Gd E G H→(b5:0≤x5)→(bs:(x0.size:Int)<1000)→x0.size=m→
  aA E G 63 AM [(0,.string x0),(4,iI x4),(5,iI x5)] H [] (fun x T H'=>(x=(.exit 0)∧∃(z4:Int),T=bw [(4,iI z4)])∨(x=.ret∧T=bw [(2,iI 0),(3,.iface 41 (iI 13))])):=by
 intro m
 induction m using Nat.strongRecOn with
 |_ m ih=>
 intro x0 x4 x5 H y b5 bs hm
 cases h1:(!(x0.toList==(⟨#[]⟩:ByteArray).toList)) with
 |true=>
  have q1:=lG ((Bool.not_eq_true' _).mp h1)
  obtain ⟨OF,nr,nb,⟨zo,hn2⟩,hnc⟩:=LH x0 35184372088832 aa
  obtain ⟨kk,kx,⟨Rs,hk2,Z0⟩,hkc⟩:=O0 nr aa
  cases nb with
  |true=>
   cases h3:(decide (kk<x5)) with
   |true=>
    exact aA.last' y (bf (wU OF nr H kk kx [aI,au 5]) [(2,iI 0),(3,.iface 41 (iI 13))] .ret H [] (fun _ r_=>gm h1 (show CC E 152 [.string x0,iI 35184372088832] H (.ret (.tuple #[iI OF,.string nr,.bool true])) H [] from hnc y) (show CC E 153 [.string nr] H (.ret (.tuple #[iI kk,.string kx])) H [] from hkc y) h3 r_)) aj aM aM (.inr (⟨rfl,rfl⟩))
   |false=>
    have q3:=aQ h3
    have w1:0≤kk:=aa
    have w2:kk<(7:Int):=aa
    obtain ⟨lg1,adS,aib⟩:=FV (k:=kk) aa aa
    have w3:aq E 2 4 ((0+kk.toNat*2)+1) H=some (iI lg1):=bQ jy (G_4 y) adS
    have w4:lg1≠0:=aa
    cases h4:(decide (OF>(IntKind.i64.wrap (Int.tdiv (IntKind.i64.wrap (35184372088832-x4)) lg1)))) with
    |true=>
     exact aA.last' y (bf (wU OF nr H kk kx [aF,au 5,.ck,au 0,vl (iI lg1) H,.ck,aI,au 3]) [(2,iI 0),(3,.iface 41 (iI 13))] .ret H [] (fun _ r_=>aE h1 (show CC E 152 [.string x0,iI 35184372088832] H (.ret (.tuple #[iI OF,.string nr,.bool true])) H [] from hnc y) (show CC E 153 [.string nr] H (.ret (.tuple #[iI kk,.string kx])) H [] from hkc y) h3 w1 w2 w3 w4<|cF h4 r_)) aj aM aM (.inr (⟨rfl,rfl⟩))
    |false=>
     obtain ⟨lg2,adT,aic⟩:=FV (k:=kk) aa aa
     have w5:aq E 2 4 ((0+kk.toNat*2)+1) H=some (iI lg2):=bQ jy (G_4 y) adT
     have w6:=aC (kk+1)
     exact aA.next' y (bf (wU OF nr H kk kx [aF,au 5,.ck,au 0,vl (iI lg1) H,.ck,aF,au 3,.ck,au 0,vl (iI lg2) H,au 2,.as (iI (kk+1)),au 3]) [(0,.string kx),(4,iI (IntKind.i64.wrap (x4+(IntKind.i64.wrap (OF*lg2))))),(5,iI (kk+1))] .normal H [] (fun _ r_=>aE h1 (show CC E 152 [.string x0,iI 35184372088832] H (.ret (.tuple #[iI OF,.string nr,.bool true])) H [] from hnc y) (show CC E 153 [.string nr] H (.ret (.tuple #[iI kk,.string kx])) H [] from hkc y) h3 w1 w2 w3 w4<|eM h4 w1 w2 w5 w6 r_)) aM (ih _ (by have:=zo rfl;omega) kx (IntKind.i64.wrap (x4+(IntKind.i64.wrap (OF*lg2)))) (kk+1) _ y aa aa rfl)
  |false=>
   exact aA.last' y (bf [au 0,aI,au 0,.call (.tuple #[iI OF,.string nr,.bool false]) H [],au 7,.call (.tuple #[iI kk,.string kx]) H [],au 13] [(2,iI 0),(3,.iface 41 (iI 13))] .ret H [] (fun _ r_=>eY h1 (show CC E 152 [.string x0,iI 35184372088832] H (.ret (.tuple #[iI OF,.string nr,.bool false])) H [] from hnc y) (show CC E 153 [.string nr] H (.ret (.tuple #[iI kk,.string kx])) H [] from hkc y) r_)) aj aM aM (.inr (⟨rfl,rfl⟩))
 |false=>
  exact aA.last' y (bf [au 0,aF] [(4,iI x4)] (.exit 0) H [] (fun _ r_=>cF h1 r_)) aj aM aM (.inl (⟨rfl,x4,rfl⟩))
theorem Ix (k:IntKind) (n:Int) (o:Bool):iE (.tuple #[.int k n,nE o 13]):=by
 cases o <;> exact .ground rfl
theorem ot (x:Int) {H:Hp}:CC E 68 [.int .u64 x] H (.ret (.float .f64 x.toNat)) H []:=CC.extern ok (fn:=Tryz.f68) (e:=Extern.MathFloatBits.float64frombits) ah ah ah ah ah rfl rfl rfl
theorem HK (x:Nat) {H:Hp}:CC E 148 [.float .f64 x] H (.ret (.int .u64 x)) H []:=CC.extern ok (fn:=Tryz.f148) (e:=Extern.MathFloatBits.float64bits) ah ah ah ah ah rfl rfl rfl
theorem A6:E.func 127=some Tryz.f127:=ah
theorem A7:bO Tryz.f127 1=true:=ah
theorem JK (s:ByteArray) {H:Hp} (y:Gd E G H):aD E G 127 [.string s] H [] (fun v H'=>∃(n:Int) (o:Bool),v=(.tuple #[iI n,nE o 13])):=by
 cases h1:(s.toList==(⟨#[]⟩:ByteArray).toList) with
 |true=>
  exact bA y [au 2,aI,au 4] (.tuple #[iI 0,.iface 41 (iI 13)]) H A6 A7 (cF h1 aS) ⟨_,true,rfl⟩
 |false=>
  have q1:=lG h1
  cases h2:(decide ((s.size:Int)>200)) with
  |true=>
   exact bA y [au 2,aF,au 2,aI,au 3] (.tuple #[iI 0,.iface 41 (iI 13)]) H A6 A7 (cU h1 h2 aS) ⟨_,true,rfl⟩
  |false=>
   have q2:=aQ h2
   obtain ⟨_,_,H1,c1,bN,y1,eD⟩:=(Ce  _ s 0 0 _ y aa aa rfl).code
   rcases eD with ⟨rfl,cL,rfl⟩ |⟨rfl,rfl⟩
   ·exact bA y [au 2,aF,au 2,aF,au 2,.loop [0,4,5] (.exit 0) (bw [(4,iI cL)]) H1 [],au 2] (.tuple #[iI cL,.nilIface]) H1 A6 A7 (eY h1 h2 c1 aS) ⟨_,false,rfl⟩
   ·exact bA y [au 2,aF,au 2,aF,au 2,.loop [0,4,5] .ret (bw [(2,iI 0),(3,.iface 41 (iI 13))]) H1 []] (.tuple #[iI 0,.iface 41 (iI 13)]) H1 A6 A7 (eY h1 h2 c1 aS) ⟨_,true,rfl⟩
theorem FR (s:ByteArray):∃(n:Int) (o:Bool),∀{H:Hp},Gd E G H→CC E 127 [.string s] H (.ret (.tuple #[iI n,nE o 13])) H []:=by
 obtain ⟨_,_,c,_,_,n,o,rfl⟩:=JK s eZ
 exact ⟨n,o,fun y=>aW (cq rfl) (Ix _ _ _) c y⟩
theorem MG:E.func 149=some Tryz.f149:=ah
theorem MH:bO Tryz.f149 1=true:=ah
theorem OC (n:Int) {H:Hp} (y:Gd E G H):aD E G 149 [iI n] H [] (fun v H'=>∃(f:Nat),v=(.float .f64 f)):=by
 cases h1:(decide (n≥0)) with
 |true=>
  exact bA y [au 2,aI,au 1,.call (.float .f64 ((9218868437227405312:Int).toNat)) H [],au 0] (.float .f64 ((9218868437227405312:Int).toNat)) H MG MH (cU h1 (show CC E 68 [uU 9218868437227405312] H (.ret (.float .f64 ((9218868437227405312:Int).toNat))) H [] from ot 9218868437227405312) aS) ⟨_,rfl⟩
 |false=>
  exact bA y [au 2,aF,au 1,.call (.float .f64 ((18442240474082181120:Int).toNat)) H [],au 0] (.float .f64 ((18442240474082181120:Int).toNat)) H MG MH (cU h1 (show CC E 68 [uU 18442240474082181120] H (.ret (.float .f64 ((18442240474082181120:Int).toNat))) H [] from ot 18442240474082181120) aS) ⟨_,rfl⟩
theorem Hl (n:Int):∃(f:Nat),∀{H:Hp},Gd E G H→CC E 149 [iI n] H (.ret (.float .f64 f)) H []:=by
 obtain ⟨_,_,c,_,_,f,rfl⟩:=OC n eZ
 exact ⟨f,fun y=>aW (cq rfl) (.ground rfl) c y⟩
theorem rD:E.func 126=some Tryz.f126:=ah
theorem rE:bO Tryz.f126 1=true:=ah
noncomputable abbrev C7  (l_:List Hint):=au 2::aF::au 0::aF::au 0::aF::au 0::aF::au 2::aF::au 1::l_
theorem HM (s:ByteArray) {H:Hp} (y:Gd E G H):aD E G 126 [.string s] H [] (fun v H'=>∃(n:Int) (o:Bool),v=(.tuple #[uU n,nE o 13])):=by
 cases h1:(s.toList==(⟨#[78,97,78]⟩:ByteArray).toList) with
 |true=>
  exact bA y [au 2,aI,au 2] (.tuple #[uU 9221120237041090561,.nilIface]) H rD rE (cF h1 aS) ⟨_,false,rfl⟩
 |false=>
  cases h2:(s.toList==(⟨#[73,110,102]⟩:ByteArray).toList) with
  |true=>
   obtain ⟨mf,Yw⟩:=Hl 1
   exact bA y [au 2,aF,au 0,aI,au 0,.call (.float .f64 mf) H [],.call (uU ((mf:Nat):Int)) H [],au 1] (.tuple #[uU ((mf:Nat):Int),.nilIface]) H rD rE (gm h1 h2 (show CC E 149 [iI 1] H (.ret (.float .f64 mf)) H [] from Yw y) (show CC E 148 [.float .f64 mf] H (.ret (uU ((mf:Nat):Int))) H [] from HK mf) aS) ⟨_,false,rfl⟩
  |false=>
   cases h3:(s.toList==(⟨#[43,73,110,102]⟩:ByteArray).toList) with
   |true=>
    obtain ⟨mf,Yw⟩:=Hl 1
    exact bA y [au 2,aF,au 0,aF,au 0,aI,au 0,.call (.float .f64 mf) H [],.call (uU ((mf:Nat):Int)) H [],au 1] (.tuple #[uU ((mf:Nat):Int),.nilIface]) H rD rE (eM h1 h2 h3 (show CC E 149 [iI 1] H (.ret (.float .f64 mf)) H [] from Yw y) (show CC E 148 [.float .f64 mf] H (.ret (uU ((mf:Nat):Int))) H [] from HK mf) aS) ⟨_,false,rfl⟩
   |false=>
    cases h4:(s.toList==(⟨#[45,73,110,102]⟩:ByteArray).toList) with
    |true=>
     obtain ⟨mf,Yw⟩:=Hl (-1)
     exact bA y [au 2,aF,au 0,aF,au 0,aF,au 0,aI,au 0,.call (.float .f64 mf) H [],.call (uU ((mf:Nat):Int)) H [],au 1] (.tuple #[uU ((mf:Nat):Int),.nilIface]) H rD rE (fG h1 h2 h3 h4 (show CC E 149 [iI (-1)] H (.ret (.float .f64 mf)) H [] from Yw y) (show CC E 148 [.float .f64 mf] H (.ret (uU ((mf:Nat):Int))) H [] from HK mf) aS) ⟨_,false,rfl⟩
    |false=>
     cases h5:(decide ((s.size:Int)>200)) with
     |true=>
      exact bA y [au 2,aF,au 0,aF,au 0,aF,au 0,aF,au 2,aI,au 4] (.tuple #[uU 0,.iface 41 (iI 13)]) H rD rE (eM h1 h2 h3 h4 h5 aS) ⟨_,true,rfl⟩
     |false=>
      have q5:=aQ h5
      obtain ⟨pb,hpb,YA⟩:=plain s
      cases pb with
      |true=>
       obtain ⟨_,H1,c1,bN,y1,qf,qe,rfl⟩:=Lp s y (hpb rfl) aa
       exact bA y (C7  [.call (.bool true) H [],au 2,.call (.tuple #[.float .f64 qf,qe]) H1 [],au 5,.call (uU ((qf:Nat):Int)) H1 [],au 1]) (.tuple #[uU ((qf:Nat):Int),.nilIface]) H1 rD rE (aE h1 h2 h3 h4 h5 (show CC E 150 [.string s] H (.ret (.bool true)) H [] from YA y) c1 (show CC E 148 [.float .f64 qf] H1 (.ret (uU ((qf:Nat):Int))) H1 [] from HK qf) aS) ⟨_,false,rfl⟩
      |false=>
       exact bA y (C7  [.call (.bool false) H [],au 4]) (.tuple #[uU 0,.iface 41 (iI 13)]) H rD rE (fG h1 h2 h3 h4 h5 (show CC E 150 [.string s] H (.ret (.bool false)) H [] from YA y) aS) ⟨_,true,rfl⟩
theorem Em (s:ByteArray):∃(n:Int) (o:Bool),∀{H:Hp},Gd E G H→CC E 126 [.string s] H (.ret (.tuple #[uU n,nE o 13])) H []:=by
 obtain ⟨_,_,c,_,_,n,o,rfl⟩:=HM s eZ
 exact ⟨n,o,fun y=>aW (cq rfl) (Ix _ _ _) c y⟩
end Go.Proofs.YtglmagcldkngbaaGreatDoor
namespace Go.Am
section
variable {E:Env} {G H:Hp}
theorem CC.fresh {g:FuncId} {args:List Value} {G1:Hp} {b n c:Nat} {cs:List Value} {e:TypeId} (low:Xr G) (wfG:Wf G) (dy:E.ng≤G.n) (ha:∀ x∈args,iE x) (hb:G.n≤b) (hG1:G1.get b=some (.cells cs e false)) (hc:cs.all ground=true)
  (h:CC E g args G (.ret (sc b 0 n c)) G1 []) (y:Gd E G H):CC E g args H (.ret (sc H.n 0 n c)) (H.new (.cells cs e false)) []:=fun wf _=>by
 obtain ⟨x1,ob,k⟩:=h wfG dy
 have zo:=x1.n
 have ei:b<G1.n:=ob.lt hG1
 have hx:cR [] H (H.new (.cells cs e false)):=by
  refine ⟨by rw [Hp.sQ];omega,fun i hi _=>by rw [Hp.dF,if_neg aa],fun i hi hl=>?_,fun i hi hl=>?_⟩
  ·rwa [Hp.dF,if_neg aa] at hl
  ·rwa [Hp.dF,if_neg aa] at hl
 refine ⟨hx,wf.new _,fun base φ w args' cM hf hl=>?_⟩
 let φ0:cS:=fun i=>if i<G.n then φ i else none
 have e0:∀ i,i<G.n→φ0 i=φ i:=fun i hi=>if_pos hi
 have Zp:Rel E base G φ0 w:=by
  refine ⟨cM.bs,fun i l o hi hl ho=>?_,fun i l hi hl hlv=>?_,fun i j l m hi hj hij hl hm hw hv=>?_,fun g hg=>?_⟩
  ·rw [e0 i hi] at hl
   have hb:=cM.blocks i l o (Nat.lt_of_lt_of_le hi y.n) hl (y.cell ho hi)
   have Og:=low i hi
   rw [ho] at Og
   exact hb.low (ψ:=φ) (φ:=φ0) (fun i hi=>(e0 i hi).symm) Og
  ·rw [e0 i hi] at hl
   exact cM.lt i l (Nat.lt_of_lt_of_le hi y.n) hl (by rw [y.get i hi];exact hlv)
  ·rw [e0 i hi] at hl
   rw [e0 j hj] at hm
   exact cM.inj i j l m (Nat.lt_of_lt_of_le hi y.n) (Nat.lt_of_lt_of_le hj y.n) hij hl hm (by rw [y.get i hi];exact hw) (by rw [y.get j hj];exact hv)
  ·obtain ⟨l,h1,h2⟩:=cM.fI g hg
   exact ⟨l,by rw [e0 g aa];exact h1,h2⟩
 have Rg:gM φ0 G.n G1.n:=fun i h1 h2=>if_neg aa
 have Nf:LR φ0 args args':=⟨hl.1,fun i x y hx hy=>ha x (List.mem_of_getElem? hx) φ φ0 y (hl.2 i x y hx hy)⟩
 have post:∀ e' w',fz E base φ0 w G G1 [] (.ret (sc b 0 n c)) e' w'→fz E base φ w H (H.new (.cells cs e false)) [] (.ret (sc H.n 0 n c)) e' w':=by
  rintro e' w' ⟨φ1,hO,he⟩
  have hs:=hO.step
  obtain ⟨u,rfl,hu⟩:=he
  obtain ⟨l,Yv,hul⟩:∃ l,φ1 b=some l∧∀ φ':cS,φ' H.n=some l→VR φ' (sc H.n 0 n c) u:=by
   generalize hv:sc b 0 n c=v at hu
   cases hu <;> first
    |(cases hv;done)
    |(injection hv with e1 e2 e3;injection e1 with e1;injection e1 with e4 e5;subst e4;subst e5;subst e2;subst e3
      refine ⟨_,by assumption,fun φ' h=>?_⟩
      first
       |exact .Ia _ _ _ _ _ h (by assumption)
       |exact .NB _ _ _ _ _ _ h (by assumption) (by assumption))
  have hfr:w.heap.size≤l.gK:=by
   rcases hO.fresh b l hb ei Yv with h |⟨j,hj,_⟩
   ·exact h
   ·cases hj
  have adA:=hO.rel.blocks b l _ ei Yv hG1
  let φ':cS:=fun i=>if i=H.n then some l else φ i
  have eN:φ' H.n=some l:=if_pos rfl
  have eO:∀ i,i≠H.n→φ' i=φ i:=fun i h=>if_neg h
  have sub:∀ i l,φ i=some l→φ' i=some l:=fun i l' h=>by
   by_cases hi:i=H.n
   ·rw [hi,hf H.n (Nat.le_refl _) (by rw [Hp.sQ];omega)] at h;cases h
   ·rw [eO i hi];exact h
  have U1:(H.new (.cells cs e false)).get H.n=some (.cells cs e false):=by rw [Hp.dF,if_pos rfl]
  have Rh:∀ i,i<H.n→(H.new (.cells cs e false)).get i=H.get i:=fun i hi=>by rw [Hp.dF,if_neg aa]
  refine ⟨φ',⟨fun i hi=>eO i (by rw [Hp.sQ] at hi;omega),⟨Nat.le_trans cM.bs hs.size,fun i l' o hi hl' ho=>?_,fun i l' hi hl' hlv=>?_,fun i j l' m hi hj hij hl' hm hw hv=>?_,fun g hg=>?_⟩,
   ⟨hs.os,hs.tape,hs.output,hs.size,fun B hB _=>hs.keep B hB fun j hj=>by cases hj⟩,fun i l' h1 h2 h3=>?_⟩,u,rfl,hul φ' eN⟩
  ·by_cases Tx:i=H.n
   ·subst Tx
    rw [eN] at hl';injection hl' with hl';subst hl'
    rw [U1] at ho;injection ho with ho;subst ho
    obtain ⟨cc,lo,hi',a1,a2,a3,a4,a5⟩:=adA
    refine ⟨cc,lo,hi',a1,a2,a3,fun j x hx=>?_,a5⟩
    obtain ⟨y',b1,b2⟩:=a4 j x hx
    have hg:=List.all_eq_true.1 hc x (List.mem_of_getElem? hx)
    exact ⟨y',b1,by rw [b2.iP hg];exact .hG hg⟩
   ·have hi:i<H.n:=by rw [Hp.sQ] at hi;omega
    rw [eO i Tx] at hl'
    rw [Rh i hi] at ho
    have hb:=cM.blocks i l' o hi hl' ho
    refine sS.mono sub ?_
    by_cases hlv:live (H.get i)=true
    ·exact hb.same (hs.keep _ (cM.lt i l' hi hl' hlv) fun j hj=>by cases hj)
    ·rw [ho] at hlv
     cases o with
     |cells c e ro=>
      cases ro with
      |false=>cases c <;> exact absurd rfl hlv
      |true=>
       cases c with
       |nil=>intro j x hx;simp at hx
       |cons _ _=>exact absurd rfl hlv
     |map es ck=>exact absurd rfl hlv
     |dead=>trivial
  ·by_cases Tx:i=H.n
   ·subst Tx
    rw [eN] at hl';injection hl' with hl';subst hl'
    exact hO.rel.lt b l ei Yv (by rw [hG1];cases cs <;> rfl)
   ·have hi:i<H.n:=by rw [Hp.sQ] at hi;omega
    rw [eO i Tx] at hl'
    rw [Rh i hi] at hlv
    exact Nat.lt_of_lt_of_le (cM.lt i l' hi hl' hlv) hs.size
  ·have old:∀ i l',i<H.n→φ i=some l'→live (H.get i)=true→l'.gK<w.heap.size:=fun i l' hi hl' hv=>cM.lt i l' hi hl' hv
   by_cases Tx:i=H.n
   ·subst Tx
    rw [eN] at hl';injection hl' with hl';subst hl'
    have hjN:j≠H.n:=fun e=>hij e.symm
    have hj:j<H.n:=by rw [Hp.sQ] at hj;omega
    rw [eO j hjN] at hm
    rw [Rh j hj] at hv
    have:=old j m hj hm hv
    omega
   ·have hi:i<H.n:=by rw [Hp.sQ] at hi;omega
    rw [eO i Tx] at hl'
    rw [Rh i hi] at hw
    by_cases hjN:j=H.n
    ·subst hjN
     rw [eN] at hm;injection hm with hm;subst hm
     have:=old i l' hi hl' (dQ hw)
     omega
    ·have hj:j<H.n:=by rw [Hp.sQ] at hj;omega
     rw [eO j hjN] at hm
     rw [Rh j hj] at hv
     exact cM.inj i j l' m hi hj hij hl' hm hw hv
  ·obtain ⟨l',h1,h2⟩:=cM.fI g hg
   exact ⟨l',sub g l' h1,h2⟩
  ·have Tx:i=H.n:=by rw [Hp.sQ] at h2;omega
   subst Tx
   rw [eN] at h3;injection h3 with h3;subst h3
   exact .inl hfr
 rcases k base φ0 w args' Zp Rg Nf with ⟨he,hc⟩ |⟨v',w',he,KP⟩
 ·exact .inl ⟨he,hc.mono post⟩
 ·exact .inr ⟨v',w',he,post _ _ KP⟩
end
end Go.Am
set_option maxRecDepth 1000000
namespace Go.Proofs.YtglmagcldkngbaaGreatDoor
open Go Go.Am
noncomputable def Xf (f:Nat) (g:FuncId) (args:List Value):Option (Nat×Nat×Nat×List Value×Nat×Bool):=
 match Ag E f g args G with
 |some (.ret (.slice (some ⟨b,0,none⟩) n c),H',W)=>match H'.get b with
  |some (.cells cs e false)=>some (b,n,c,cs,e,(W.all fun q=>Nat.ble 31 q&&Nat.blt q H'.n)&&Nat.ble 31 b&&cs.all ground)
  |_=>none
 |_=>none
theorem Zo {f:Nat} {g:FuncId} {args:List Value} {b n c e:Nat} {cs:List Value} (h:Xf f g args=some (b,n,c,cs,e,true)) (ha:∀ x∈args,iE x) {H:Hp} (y:Gd E G H):CC E g args H (.ret (sc H.n 0 n c)) (H.new (.cells cs e false)) []:=by
 unfold Xf at h
 split at h
 ·rename_i b1 n1 c1 H1 W hr
  split at h
  ·rename_i cs1 e1 hg
   simp only [Option.some.injEq,Prod.mk.injEq,Bool.and_eq_true] at h
   obtain ⟨rfl,rfl,rfl,rfl,rfl,⟨hw,hb⟩,hc⟩:=h
   have cc:CC E g args G (.ret (sc b1 0 n1 c1)) H1 W:=BB sound f g args G _ _ _ hr
   have c0:CC E g args G (.ret (sc b1 0 n1 c1)) H1 []:=cc.norm fun q hq=>.inr (by
    have:=List.all_eq_true.1 hw q hq
    simp only [Bool.and_eq_true,Nat.blt_eq] at this
    have h1:=dm this.1
    rw [vR];omega)
   exact CC.fresh WD NO NM ha (by rw [vR];exact dm hb) hg hc c0 y
  ·cases h
 ·cases h
def iw:List Value:=[.string ⟨#[115,117,109]⟩,.string ⟨#[97,118,103]⟩,.string ⟨#[109,105,110]⟩,.string ⟨#[109,97,120]⟩,.string ⟨#[99,111,117,110,116]⟩,.string ⟨#[116,111,112,107]⟩,.string ⟨#[98,111,116,116,111,109,107]⟩]
theorem BY {H:Hp} (y:Gd E G H):CC E 72 [.string ⟨#[115,117,109,32,97,118,103,32,109,105,110,32,109,97,120,32,99,111,117,110,116,32,116,111,112,107,32,98,111,116,116,111,109,107]⟩] H (.ret (sc H.n 0 7 15)) (H.new (.cells iw 9 false)) []:=Zo (f:=2000) (b:=31) ah (cq rfl) y
def qS:List Value:=[.string ⟨#[98,121]⟩,.string ⟨#[119,105,116,104,111,117,116]⟩,.string ⟨#[111,110]⟩,.string ⟨#[105,103,110,111,114,105,110,103]⟩,.string ⟨#[98,111,111,108]⟩,.string ⟨#[111,102,102,115,101,116]⟩,.string ⟨#[73,110,102]⟩,.string ⟨#[78,97,78]⟩]
theorem iQ {H:Hp} (y:Gd E G H):CC E 72 [.string ⟨#[98,121,32,119,105,116,104,111,117,116,32,111,110,32,105,103,110,111,114,105,110,103,32,98,111,111,108,32,111,102,102,115,101,116,32,73,110,102,32,78,97,78]⟩] H (.ret (sc H.n 0 8 17)) (H.new (.cells qS 9 false)) []:=Zo (f:=2000) (b:=31) ah (cq rfl) y
def gD:List Value:=[.string ⟨#[61,61]⟩,.string ⟨#[33,61]⟩,.string ⟨#[61,126]⟩,.string ⟨#[33,126]⟩,.string ⟨#[62,61]⟩,.string ⟨#[60,61]⟩,.string ⟨#[61]⟩,.string ⟨#[62]⟩,.string ⟨#[60]⟩,.string ⟨#[43]⟩,.string ⟨#[45]⟩,.string ⟨#[42]⟩,.string ⟨#[47]⟩,.string ⟨#[37]⟩,.string ⟨#[64]⟩,.string ⟨#[40]⟩,.string ⟨#[41]⟩,.string ⟨#[123]⟩,.string ⟨#[125]⟩,.string ⟨#[91]⟩,.string ⟨#[93]⟩,.string ⟨#[44]⟩]
theorem vM {H:Hp} (y:Gd E G H):CC E 72 [.string ⟨#[61,61,32,33,61,32,61,126,32,33,126,32,62,61,32,60,61,32,61,32,62,32,60,32,43,32,45,32,42,32,47,32,37,32,64,32,40,32,41,32,123,32,125,32,91,32,93,32,44]⟩] H (.ret (sc H.n 0 22 45)) (H.new (.cells gD 9 false)) []:=Zo (f:=2000) (b:=31) ah (cq rfl) y
theorem HF (v:List Value) (f:FuncId) (h:v.all fj=true:=by rfl):∀ x∈[Value.agg v.toArray,.func (.func f) #[] #[]],iE x:=fun x hx=>by
 simp only [List.mem_cons,aH,or_false] at hx
 rcases hx with rfl |rfl
 ·exact .ground (by show v.toArray.toList.all fj=true;simpa using h)
 ·exact .func0 f
theorem Mj:E.func 102=some Tryz.f102:=ah
theorem Mk:bO Tryz.f102 1=true:=ah
theorem PG (c:Int) {H:Hp} (y:Gd E G H):aD E G 102 [uB c] H [] (fun v H'=>∃(b:Bool),v=(.bool b)):=by
 obtain ⟨pE,s7⟩:=indexByte ⟨#[32,9,10,13]⟩ c
 cases h1:(decide (pE≥0)) with
 |true=>
  exact bA y [au 1,.call (iI pE) H [],aI,au 0] (.bool true) H Mj Mk (cU (show CC E 103 [.string ⟨#[32,9,10,13]⟩,uB c] H (.ret (iI pE)) H [] from s7 y) h1 aS) ⟨true,rfl⟩
 |false=>
  exact bA y [au 1,.call (iI pE) H [],aF,au 0] (.bool false) H Mj Mk (cU (show CC E 103 [.string ⟨#[32,9,10,13]⟩,uB c] H (.ret (iI pE)) H [] from s7 y) h1 aS) ⟨false,rfl⟩
theorem XN (c:Int):∃(b:Bool),∀{H:Hp},Gd E G H→CC E 102 [uB c] H (.ret (.bool b)) H []:=by
 obtain ⟨_,_,c,_,_,b,rfl⟩:=PG c eZ
 exact ⟨b,fun y=>aW (cq rfl) (.ground rfl) c y⟩
theorem Mn:E.func 104=some Tryz.f104:=ah
theorem Mo:bO Tryz.f104 1=true:=ah
theorem PI (c:Int) {H:Hp} (y:Gd E G H):aD E G 104 [uB c] H [] (fun v H'=>∃(b:Bool),v=(.bool b)):=by
 cases h1:(c != 10) with
 |true=>
  exact bA y [au 1,aI,au 0] (.bool true) H Mn Mo (cF h1 aS) ⟨true,rfl⟩
 |false=>
  exact bA y [au 1,aF,au 0] (.bool false) H Mn Mo (cF h1 aS) ⟨false,rfl⟩
theorem XO (c:Int):∃(b:Bool),∀{H:Hp},Gd E G H→CC E 104 [uB c] H (.ret (.bool b)) H []:=by
 obtain ⟨_,_,c,_,_,b,rfl⟩:=PI c eZ
 exact ⟨b,fun y=>aW (cq rfl) (.ground rfl) c y⟩
theorem MA:E.func 123=some Tryz.f123:=ah
theorem MB:bO Tryz.f123 1=true:=ah
theorem Wv (c:Int) {H:Hp} (y:Gd E G H):aD E G 123 [uB c] H [] (fun v H'=>∃(b:Bool),v=(.bool b)):=by
 obtain ⟨xQ,dM⟩:=zI c
 cases xQ with
 |true=>
  exact bA y [au 1,.call (.bool true) H [],au 2] (.bool true) H MA MB (cF (show CC E 122 [uB c] H (.ret (.bool true)) H [] from dM y) aS) ⟨true,rfl⟩
 |false=>
  obtain ⟨K9,lu⟩:=tS c
  exact bA y [au 1,.call (.bool false) H [],au 1,.call (.bool K9) H [],au 1] (.bool K9) H MA MB (cU (show CC E 122 [uB c] H (.ret (.bool false)) H [] from dM y) (show CC E 124 [uB c] H (.ret (.bool K9)) H [] from lu y) aS) ⟨K9,rfl⟩
theorem acn (c:Int):∃(b:Bool),∀{H:Hp},Gd E G H→CC E 123 [uB c] H (.ret (.bool b)) H []:=by
 obtain ⟨_,_,c,_,_,b,rfl⟩:=Wv c eZ
 exact ⟨b,fun y=>aW (cq rfl) (.ground rfl) c y⟩
noncomputable def N8:Code:=cz [1,1,0,0,0] (bH Tryz.f101)
theorem S7 (b:Nat) (s:ByteArray) (at_:Int):∀(m:Nat) (x5:Int) (H:Hp),Gd E G H→(kb:H.get b=some (.cells [.string s,iI at_] 135 false))→(hs:(s.size:Int)<100000)→(a0:0≤at_)→(a1:at_≤s.size)→(x0:at_≤x5)→(x1:x5≤s.size)→((s.size:Int)-x5).toNat=m→
  aA E G 29 N8 [(1,ai 102),(2,pt b 0),(5,iI x5)] H [] (fun x T H'=>(x=(.exit 0)∧∃(z5:Int),T=bw [(2,pt b 0),(5,iI z5)]∧((at_≤z5)∧(z5≤s.size)))):=by
 intro m
 induction m using Nat.strongRecOn with
 |_ m ih=>
 intro x5 H y kb hs a0 a1 x0 x1 hm
 have w1:aq E 9 b 0 H=some (.string s):=bQ bB kb rfl
 cases h1:(decide (x5<(s.size:Int))) with
 |true=>
  have q1:=aL h1
  have w2:0≤x5:=aa
  have w3:x5<(s.size:Int):=aa
  obtain ⟨xQ,dM⟩:=XN (ak s x5)
  cases xQ with
  |true=>
   have w4:=aC (x5+1)
   exact aA.next' y (bf [au 1,vl (.string s) H,au 0,aI,au 2,vl (.string s) H,au 0,.ck,.call (.bool true) H [],au 1,.as (iI (x5+1)),au 0] [(1,ai 102),(2,pt b 0),(5,iI (x5+1))] .normal H [] (fun _ r_=>fk w1 h1 w1 w2 w3 (show CC E 102 [uB (ak s x5)] H (.ret (.bool true)) H [] from dM y) w4 r_)) aM (ih _ aa (x5+1) _ y kb hs a0 a1 aa aa rfl)
  |false=>
   exact aA.last' y (bf [au 1,vl (.string s) H,au 0,aI,au 2,vl (.string s) H,au 0,.ck,.call (.bool false) H [],au 0] [(2,pt b 0),(5,iI x5)] (.exit 0) H [] (fun _ r_=>fG w1 h1 w1 w2 w3 (show CC E 102 [uB (ak s x5)] H (.ret (.bool false)) H [] from dM y) r_)) aj aM aM ⟨rfl,x5,rfl,⟨aa,aa⟩⟩
 |false=>
  exact aA.last' y (bf [au 1,vl (.string s) H,au 0,aF,au 1] [(2,pt b 0),(5,iI x5)] (.exit 0) H [] (fun _ r_=>cU w1 h1 r_)) aj aM aM ⟨rfl,x5,rfl,⟨aa,aa⟩⟩
theorem A2:E.func 101=some Tryz.f101:=ah
theorem A3:bO Tryz.f101 2=true:=ah
noncomputable abbrev cj H s at_:=news H [.cells [.string s,iI at_] 135 false]
theorem HN (s:ByteArray) (at_:Int) {H:Hp} (y:Gd E G H) (hs:(s.size:Int)<100000) (a0:0≤at_) (a1:at_≤s.size):aD E G 101 [.agg #[.string s,iI at_],ai 102] H [] (fun v H'=>∃(x:ByteArray),v=(.string x)∧(at_+x.size≤s.size)):=by
 have w1:aq E 3 (H.n+0) 1 (cj H s at_)=some (iI at_):=cI aR rfl rfl
 obtain ⟨_,_,H1,c1,bN,y1,rfl,eL,rfl,cw,iX⟩:=(S7 (H.n+0) s at_ _ at_ _ (y.news [.cells [.string s,iI at_] 135 false]) (aB [.cells [.string s,iI at_] 135 false] H 0 _ rfl) hs a0 a1 aa aa rfl).code
 have bz:=(y.news [.cells [.string s,iI at_] 135 false]).kept bN aH (aB [.cells [.string s,iI at_] 135 false] H 0 _ rfl)
 have w2:aq E 9 (H.n+0) 0 H1=some (.string s):=bQ bB bz rfl
 have w3:aq E 3 (H.n+0) 1 H1=some (iI at_):=bQ aR bz rfl
 have w4:0≤at_:=aa
 have w5:at_≤eL:=aa
 have w6:eL≤(s.size:Int):=aa
 exact bA y [au 2,vl (iI at_) (cj H s at_),au 0,.loop [1,2,5] (.exit 0) (bw [(2,pt (H.n+0) 0),(5,iI eL)]) H1 [],au 0,vl (.string s) H1,au 0,vl (iI at_) H1,au 0,.ck,au 0] (.string (s.extract at_.toNat eL.toNat)) H1 A2 A3 (fk w1 c1 w2 w3 w4 w5 w6 aS) ⟨_,rfl,by simp only [ByteArray.size_extract];omega⟩
theorem LQ (s:ByteArray) (at_:Int) (hs:(s.size:Int)<100000) (a0:0≤at_) (a1:at_≤s.size):∃(x:ByteArray),(at_+x.size≤s.size)∧∀{H:Hp},Gd E G H→CC E 101 [.agg #[.string s,iI at_],ai 102] H (.ret (.string x)) H []:=by
 obtain ⟨_,_,c,_,_,x,rfl,hs⟩:=HN s at_ eZ hs a0 a1
 exact ⟨x,hs,fun y=>aW (HF _ _) (.ground rfl) c y⟩
noncomputable def N9:Code:=cz [1,1,0,0,0] (bH Tryz.f101)
theorem S8 (b:Nat) (s:ByteArray) (at_:Int):∀(m:Nat) (x5:Int) (H:Hp),Gd E G H→(kb:H.get b=some (.cells [.string s,iI at_] 135 false))→(hs:(s.size:Int)<100000)→(a0:0≤at_)→(a1:at_≤s.size)→(x0:at_≤x5)→(x1:x5≤s.size)→((s.size:Int)-x5).toNat=m→
  aA E G 29 N9 [(1,ai 104),(2,pt b 0),(5,iI x5)] H [] (fun x T H'=>(x=(.exit 0)∧∃(z5:Int),T=bw [(2,pt b 0),(5,iI z5)]∧((at_≤z5)∧(z5≤s.size)))):=by
 intro m
 induction m using Nat.strongRecOn with
 |_ m ih=>
 intro x5 H y kb hs a0 a1 x0 x1 hm
 have w1:aq E 9 b 0 H=some (.string s):=bQ bB kb rfl
 cases h1:(decide (x5<(s.size:Int))) with
 |true=>
  have q1:=aL h1
  have w2:0≤x5:=aa
  have w3:x5<(s.size:Int):=aa
  obtain ⟨xQ,dM⟩:=XO (ak s x5)
  cases xQ with
  |true=>
   have w4:=aC (x5+1)
   exact aA.next' y (bf [au 1,vl (.string s) H,au 0,aI,au 2,vl (.string s) H,au 0,.ck,.call (.bool true) H [],au 1,.as (iI (x5+1)),au 0] [(1,ai 104),(2,pt b 0),(5,iI (x5+1))] .normal H [] (fun _ r_=>fk w1 h1 w1 w2 w3 (show CC E 104 [uB (ak s x5)] H (.ret (.bool true)) H [] from dM y) w4 r_)) aM (ih _ aa (x5+1) _ y kb hs a0 a1 aa aa rfl)
  |false=>
   exact aA.last' y (bf [au 1,vl (.string s) H,au 0,aI,au 2,vl (.string s) H,au 0,.ck,.call (.bool false) H [],au 0] [(2,pt b 0),(5,iI x5)] (.exit 0) H [] (fun _ r_=>fG w1 h1 w1 w2 w3 (show CC E 104 [uB (ak s x5)] H (.ret (.bool false)) H [] from dM y) r_)) aj aM aM ⟨rfl,x5,rfl,⟨aa,aa⟩⟩
 |false=>
  exact aA.last' y (bf [au 1,vl (.string s) H,au 0,aF,au 1] [(2,pt b 0),(5,iI x5)] (.exit 0) H [] (fun _ r_=>cU w1 h1 r_)) aj aM aM ⟨rfl,x5,rfl,⟨aa,aa⟩⟩
theorem HO (s:ByteArray) (at_:Int) {H:Hp} (y:Gd E G H) (hs:(s.size:Int)<100000) (a0:0≤at_) (a1:at_≤s.size):aD E G 101 [.agg #[.string s,iI at_],ai 104] H [] (fun v H'=>∃(x:ByteArray),v=(.string x)∧(at_+x.size≤s.size)):=by
 have w1:aq E 3 (H.n+0) 1 (cj H s at_)=some (iI at_):=cI aR rfl rfl
 obtain ⟨_,_,H1,c1,bN,y1,rfl,eL,rfl,cw,iX⟩:=(S8 (H.n+0) s at_ _ at_ _ (y.news [.cells [.string s,iI at_] 135 false]) (aB [.cells [.string s,iI at_] 135 false] H 0 _ rfl) hs a0 a1 aa aa rfl).code
 have bz:=(y.news [.cells [.string s,iI at_] 135 false]).kept bN aH (aB [.cells [.string s,iI at_] 135 false] H 0 _ rfl)
 have w2:aq E 9 (H.n+0) 0 H1=some (.string s):=bQ bB bz rfl
 have w3:aq E 3 (H.n+0) 1 H1=some (iI at_):=bQ aR bz rfl
 have w4:0≤at_:=aa
 have w5:at_≤eL:=aa
 have w6:eL≤(s.size:Int):=aa
 exact bA y [au 2,vl (iI at_) (cj H s at_),au 0,.loop [1,2,5] (.exit 0) (bw [(2,pt (H.n+0) 0),(5,iI eL)]) H1 [],au 0,vl (.string s) H1,au 0,vl (iI at_) H1,au 0,.ck,au 0] (.string (s.extract at_.toNat eL.toNat)) H1 A2 A3 (fk w1 c1 w2 w3 w4 w5 w6 aS) ⟨_,rfl,by simp only [ByteArray.size_extract];omega⟩
theorem LU (s:ByteArray) (at_:Int) (hs:(s.size:Int)<100000) (a0:0≤at_) (a1:at_≤s.size):∃(x:ByteArray),(at_+x.size≤s.size)∧∀{H:Hp},Gd E G H→CC E 101 [.agg #[.string s,iI at_],ai 104] H (.ret (.string x)) H []:=by
 obtain ⟨_,_,c,_,_,x,rfl,hs⟩:=HO s at_ eZ hs a0 a1
 exact ⟨x,hs,fun y=>aW (HF _ _) (.ground rfl) c y⟩
noncomputable def Oa:Code:=cz [1,1,0,0,0] (bH Tryz.f101)
theorem S9 (b:Nat) (s:ByteArray) (at_:Int):∀(m:Nat) (x5:Int) (H:Hp),Gd E G H→(kb:H.get b=some (.cells [.string s,iI at_] 135 false))→(hs:(s.size:Int)<100000)→(a0:0≤at_)→(a1:at_≤s.size)→(x0:at_≤x5)→(x1:x5≤s.size)→((s.size:Int)-x5).toNat=m→
  aA E G 29 Oa [(1,ai 123),(2,pt b 0),(5,iI x5)] H [] (fun x T H'=>(x=(.exit 0)∧∃(z5:Int),T=bw [(2,pt b 0),(5,iI z5)]∧((at_≤z5)∧(z5≤s.size)))):=by
 intro m
 induction m using Nat.strongRecOn with
 |_ m ih=>
 intro x5 H y kb hs a0 a1 x0 x1 hm
 have w1:aq E 9 b 0 H=some (.string s):=bQ bB kb rfl
 cases h1:(decide (x5<(s.size:Int))) with
 |true=>
  have q1:=aL h1
  have w2:0≤x5:=aa
  have w3:x5<(s.size:Int):=aa
  obtain ⟨xQ,dM⟩:=acn (ak s x5)
  cases xQ with
  |true=>
   have w4:=aC (x5+1)
   exact aA.next' y (bf [au 1,vl (.string s) H,au 0,aI,au 2,vl (.string s) H,au 0,.ck,.call (.bool true) H [],au 1,.as (iI (x5+1)),au 0] [(1,ai 123),(2,pt b 0),(5,iI (x5+1))] .normal H [] (fun _ r_=>fk w1 h1 w1 w2 w3 (show CC E 123 [uB (ak s x5)] H (.ret (.bool true)) H [] from dM y) w4 r_)) aM (ih _ aa (x5+1) _ y kb hs a0 a1 aa aa rfl)
  |false=>
   exact aA.last' y (bf [au 1,vl (.string s) H,au 0,aI,au 2,vl (.string s) H,au 0,.ck,.call (.bool false) H [],au 0] [(2,pt b 0),(5,iI x5)] (.exit 0) H [] (fun _ r_=>fG w1 h1 w1 w2 w3 (show CC E 123 [uB (ak s x5)] H (.ret (.bool false)) H [] from dM y) r_)) aj aM aM ⟨rfl,x5,rfl,⟨aa,aa⟩⟩
 |false=>
  exact aA.last' y (bf [au 1,vl (.string s) H,au 0,aF,au 1] [(2,pt b 0),(5,iI x5)] (.exit 0) H [] (fun _ r_=>cU w1 h1 r_)) aj aM aM ⟨rfl,x5,rfl,⟨aa,aa⟩⟩
theorem HP (s:ByteArray) (at_:Int) {H:Hp} (y:Gd E G H) (hs:(s.size:Int)<100000) (a0:0≤at_) (a1:at_≤s.size):aD E G 101 [.agg #[.string s,iI at_],ai 123] H [] (fun v H'=>∃(x:ByteArray),v=(.string x)∧(at_+x.size≤s.size)):=by
 have w1:aq E 3 (H.n+0) 1 (cj H s at_)=some (iI at_):=cI aR rfl rfl
 obtain ⟨_,_,H1,c1,bN,y1,rfl,eL,rfl,cw,iX⟩:=(S9 (H.n+0) s at_ _ at_ _ (y.news [.cells [.string s,iI at_] 135 false]) (aB [.cells [.string s,iI at_] 135 false] H 0 _ rfl) hs a0 a1 aa aa rfl).code
 have bz:=(y.news [.cells [.string s,iI at_] 135 false]).kept bN aH (aB [.cells [.string s,iI at_] 135 false] H 0 _ rfl)
 have w2:aq E 9 (H.n+0) 0 H1=some (.string s):=bQ bB bz rfl
 have w3:aq E 3 (H.n+0) 1 H1=some (iI at_):=bQ aR bz rfl
 have w4:0≤at_:=aa
 have w5:at_≤eL:=aa
 have w6:eL≤(s.size:Int):=aa
 exact bA y [au 2,vl (iI at_) (cj H s at_),au 0,.loop [1,2,5] (.exit 0) (bw [(2,pt (H.n+0) 0),(5,iI eL)]) H1 [],au 0,vl (.string s) H1,au 0,vl (iI at_) H1,au 0,.ck,au 0] (.string (s.extract at_.toNat eL.toNat)) H1 A2 A3 (fk w1 c1 w2 w3 w4 w5 w6 aS) ⟨_,rfl,by simp only [ByteArray.size_extract];omega⟩
theorem LV (s:ByteArray) (at_:Int) (hs:(s.size:Int)<100000) (a0:0≤at_) (a1:at_≤s.size):∃(x:ByteArray),(at_+x.size≤s.size)∧∀{H:Hp},Gd E G H→CC E 101 [.agg #[.string s,iI at_],ai 123] H (.ret (.string x)) H []:=by
 obtain ⟨_,_,c,_,_,x,rfl,hs⟩:=HP s at_ eZ hs a0 a1
 exact ⟨x,hs,fun y=>aW (HF _ _) (.ground rfl) c y⟩
theorem KC:E.func 85=some Tryz.f85:=ah
theorem KD:bO Tryz.f85 1=true:=ah
noncomputable abbrev C8 (s:ByteArray) (at_:Int) (H:Hp) Te (l_:List Hint):=au 1::vl (.agg #[.string s,iI at_]) (cj H s at_)::.call (.string Te) (cj H s at_) []::au 2::aI::au 1::vl (.string s) (cj H s at_)::au 0::vl (iI at_) (cj H s at_)::.ck::l_
theorem La (s:ByteArray) (at_:Int) {H:Hp} (y:Gd E G H) (hs:(s.size:Int)<100000) (a0:0≤at_) (a1:at_<s.size):aD E G 85 [.agg #[.string s,iI at_]] H [] (fun v H'=>∃(n:Int),v=(iI n)∧(0≤n∧at_+n≤s.size)):=by
 have w1:aq E 135 (H.n+0) 0 (cj H s at_)=some (.agg #[.string s,iI at_]):=fQ iO fS rfl rfl rfl
 obtain ⟨Te,ahv,YI⟩:=LQ s at_ hs a0 aa
 cases h1:((Te.size:Int)==0) with
 |true=>
  have q1:=bW h1
  have w2:aq E 9 (H.n+0) 0 (cj H s at_)=some (.string s):=cI bB rfl rfl
  have w3:aq E 3 (H.n+0) 1 (cj H s at_)=some (iI at_):=cI aR rfl rfl
  have w4:0≤at_:=aa
  have w5:at_<(s.size:Int):=aa
  cases h2:((ak s at_)==35) with
  |true=>
   obtain ⟨E1,ael,YJ⟩:=LU s at_ hs a0 aa
   exact bA y (C8 s at_ H Te [aI,au 0,vl (.agg #[.string s,iI at_]) (cj H s at_),.call (.string E1) (cj H s at_) [],au 3]) (iI (E1.size:Int)) (cj H s at_) KC KD (aE w1 (show CC E 101 [.agg #[.string s,iI at_],ai 102] (cj H s at_) (.ret (.string Te)) (cj H s at_) [] from YI (y.news [.cells [.string s,iI at_] 135 false])) h1 w2 w3 w4 w5 h2<|cU w1 (show CC E 101 [.agg #[.string s,iI at_],ai 104] (cj H s at_) (.ret (.string E1)) (cj H s at_) [] from YJ (y.news [.cells [.string s,iI at_] 135 false])) aS) ⟨_,rfl,by omega,by omega⟩
  |false=>
   exact bA y (C8 s at_ H Te [aF,au 2]) (iI (Te.size:Int)) (cj H s at_) KC KD (aE w1 (show CC E 101 [.agg #[.string s,iI at_],ai 102] (cj H s at_) (.ret (.string Te)) (cj H s at_) [] from YI (y.news [.cells [.string s,iI at_] 135 false])) h1 w2 w3 w4 w5 h2 aS) ⟨_,rfl,by omega,by omega⟩
 |false=>
  exact bA y [au 1,vl (.agg #[.string s,iI at_]) (cj H s at_),.call (.string Te) (cj H s at_) [],au 2,aF,au 3] (iI (Te.size:Int)) (cj H s at_) KC KD (eY w1 (show CC E 101 [.agg #[.string s,iI at_],ai 102] (cj H s at_) (.ret (.string Te)) (cj H s at_) [] from YI (y.news [.cells [.string s,iI at_] 135 false])) h1 aS) ⟨_,rfl,by omega,by omega⟩
theorem Jk (s:ByteArray) (at_:Int) (hs:(s.size:Int)<100000) (a0:0≤at_) (a1:at_<s.size):∃(n:Int),(0≤n∧at_+n≤s.size)∧∀{H:Hp},Gd E G H→CC E 85 [.agg #[.string s,iI at_]] H (.ret (iI n)) H []:=by
 obtain ⟨_,_,c,_,_,n,rfl,hs⟩:=La s at_ eZ hs a0 a1
 exact ⟨n,hs,fun y=>aW (cq rfl) (.ground rfl) c y⟩
theorem qY (k a n:Int) (t:ByteArray):iE (.tuple #[.agg #[.int .i64 k,.int .i64 a,.string t],.int .i64 n]):=.tuple fun x hx=>by
 simp only [List.mem_cons,aH,or_false] at hx
 rcases hx with rfl |rfl
 ·exact .ground rfl
 ·exact .ground rfl
theorem Mq:E.func 105=some Tryz.f105:=ah
theorem Mr:bO Tryz.f105 1=true:=ah
noncomputable abbrev cJ H s at_:=news H [.cells [.string s,iI at_] 135 false,.cells [iI 0,iI 0,.string ⟨#[]⟩] 112 false]
noncomputable abbrev rT H s at_ E1:=news H [.cells [.string s,iI at_] 135 false,.cells [iI 1,iI 0,.string E1] 112 false]
theorem Oz (s:ByteArray) (at_:Int) {H:Hp} (y:Gd E G H) (hs:(s.size:Int)<100000) (a0:0≤at_) (a1:at_<s.size):aD E G 105 [.agg #[.string s,iI at_]] H [] (fun v H'=>∃(k:Int) (a:Int) (t:ByteArray) (n:Int),v=(.tuple #[.agg #[iI k,iI a,.string t],iI n])∧(0≤n∧at_+n≤s.size)):=by
 have w1:aq E 9 (H.n+0) 0 (cJ H s at_)=some (.string s):=cI bB rfl rfl
 have w2:aq E 3 (H.n+0) 1 (cJ H s at_)=some (iI at_):=cI aR rfl rfl
 have w3:0≤at_:=aa
 have w4:at_<(s.size:Int):=aa
 obtain ⟨xQ,dM⟩:=zI (ak s at_)
 cases xQ with
 |true=>
  have w5:aq E 135 (H.n+0) 0 (cJ H s at_)=some (.agg #[.string s,iI at_]):=fQ iO fS rfl rfl rfl
  obtain ⟨E1,ael,YJ⟩:=LV s at_ hs a0 aa
  exact aD.mk y (CC.de ok (f:=300) (hs:=[au 3,vl (.string s) (cJ H s at_),au 0,vl (iI at_) (cJ H s at_),.ck,.call (.bool true) (cJ H s at_) [],au 0,vl (.agg #[.string s,iI at_]) (cJ H s at_),.call (.string E1) (cJ H s at_) [],au 4,vl bJ (rT H s at_ E1),au 0]) (vs:=[.agg #[iI 1,iI 0,.string E1],iI (E1.size:Int)]) (v:=(.tuple #[.agg #[iI 1,iI 0,.string E1],iI (E1.size:Int)])) (H':=(rT H s at_ E1)) (W:=[H.n+1]) Mq Mr (kn w1<|kn w2<|kn w3<|kn w4<|kn (show CC E 122 [uB (ak s at_)] (cJ H s at_) (.ret (.bool true)) (cJ H s at_) [] from dM (y.news [.cells [.string s,iI at_] 135 false,.cells [iI 0,iI 0,.string ⟨#[]⟩] 112 false]))<|kn w5<|kn (show CC E 101 [.agg #[.string s,iI at_],ai 123] (cJ H s at_) (.ret (.string E1)) (cJ H s at_) [] from YJ (y.news [.cells [.string s,iI at_] 135 false,.cells [iI 0,iI 0,.string ⟨#[]⟩] 112 false]))<|kn (show az E 112 (H.n+1) 0 (.agg #[iI 1,iI 0,.string E1]) (cJ H s at_)=some (rT H s at_ E1) from cN aX rfl rfl rfl rfl)<|kn (show aq E 112 (H.n+1) 0 (rT H s at_ E1)=some (.agg #[iI 1,iI 0,.string E1]) from (fQ cQ aX rfl rfl rfl))<|sw (iI (E1.size:Int))<|trivial) ah) aG aM ⟨1,0,E1,(E1.size:Int),rfl,by omega,by omega⟩
 |false=>
  exact aD.mk y (CC.de ok (f:=300) (hs:=[au 3,vl (.string s) (cJ H s at_),au 0,vl (iI at_) (cJ H s at_),.ck,.call (.bool false) (cJ H s at_) [],au 1,vl bJ (cJ H s at_),au 0]) (vs:=[.agg #[iI 0,iI 0,.string ⟨#[]⟩],iI 0]) (v:=(.tuple #[.agg #[iI 0,iI 0,.string ⟨#[]⟩],iI 0])) (H':=(cJ H s at_)) (W:=[H.n+1]) Mq Mr (kn w1<|kn w2<|kn w3<|kn w4<|kn (show CC E 122 [uB (ak s at_)] (cJ H s at_) (.ret (.bool false)) (cJ H s at_) [] from dM (y.news [.cells [.string s,iI at_] 135 false,.cells [iI 0,iI 0,.string ⟨#[]⟩] 112 false]))<|kn (show az E 112 (H.n+1) 0 (.agg #[iI 0,iI 0,.string ⟨#[]⟩]) (cJ H s at_)=some (cJ H s at_) from cN aX rfl rfl rfl rfl)<|kn (show aq E 112 (H.n+1) 0 (cJ H s at_)=some (.agg #[iI 0,iI 0,.string ⟨#[]⟩]) from (fQ cQ aX rfl rfl rfl))<|sw (iI 0)<|trivial) ah) aG aM ⟨0,0,⟨#[]⟩,0,rfl,by omega,by omega⟩
theorem VM (s:ByteArray) (at_:Int) (hs:(s.size:Int)<100000) (a0:0≤at_) (a1:at_<s.size):∃(k:Int) (a:Int) (t:ByteArray) (n:Int),(0≤n∧at_+n≤s.size)∧∀{H:Hp},Gd E G H→CC E 105 [.agg #[.string s,iI at_]] H (.ret (.tuple #[.agg #[iI k,iI a,.string t],iI n])) H []:=by
 obtain ⟨_,_,c,_,_,k,a,t,n,rfl,hs⟩:=Oz s at_ eZ hs a0 a1
 exact ⟨k,a,t,n,hs,fun y=>aW (cq rfl) (qY _ _ _ _) c y⟩
end Go.Proofs.YtglmagcldkngbaaGreatDoor
