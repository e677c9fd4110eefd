/- Part of the proof that TreeKids answers true. -/
import Derived.Test.YtbehemdcaiigeaaGreatDoorR10
import Derived.Lib.Bytealg
set_option linter.unusedVariables false
set_option linter.unusedSimpArgs false
set_option maxRecDepth 100000
set_option maxHeartbeats 4000000
namespace Go.Proofs.YtbehemdcaiigeaaGreatDoor
open Go Go.Am
theorem Gs {a:Int} (h0:0≤a) (h1:a<18446744073709551616):(BitVec.ofInt 64 a).toNat=a.toNat:=by
 rw [BitVec.toNat_ofInt]
 have:a%((2 ^ 64:Nat):Int)=a:=Int.emod_eq_of_lt h0 D
 rw [this]
theorem KP {a:Int} (k:Nat) (h0:0≤a) (h1:a<18446744073709551616) (m:Int) (hm0:0≤m) (Zf:m<18446744073709551616) (hm:m.toNat=2 ^ k-1):(BitVec.ofInt 64 a &&& BitVec.ofInt 64 m).toNat=a.toNat%2 ^ k:=by
 rw [BitVec.toNat_and,Gs h0 h1,Gs hm0 Zf,hm,Nat.and_two_pow_sub_one_eq_mod]
theorem acM {a:Int} (h0:0≤a) (h1:a≤63):IntKind.i64.wrap (((BitVec.ofInt 64 a &&& BitVec.ofInt 64 63).toNat:Nat):Int)=a:=by
 rw [KP 6 h0 D 63 (by decide) (by decide) (by decide),kX D D]
 omega
theorem acK {a:Int} (h0:0≤a) (h1:a≤2047):IntKind.i64.wrap (((BitVec.ofInt 64 a &&& BitVec.ofInt 64 2047).toNat:Nat):Int)=a:=by
 rw [KP 11 h0 D 2047 (by decide) (by decide) (by decide),kX D D]
 omega
theorem acL {a:Int} (h0:0≤a) (h1:a<18446744073709551616):IntKind.u64.wrap (((BitVec.ofInt 64 a &&& BitVec.ofInt 64 4503599627370495).toNat:Nat):Int)=a%4503599627370496:=by
 rw [KP 52 h0 h1 4503599627370495 (by decide) (by decide) (by decide),nE D D]
 omega
theorem Ba (a:Int):∃ w:Int,IntKind.i64.wrap (((BitVec.ofInt 64 a &&& BitVec.ofInt 64 1).toNat:Nat):Int)=w∧0≤w∧w≤1:=by
 have h:(BitVec.ofInt 64 a &&& BitVec.ofInt 64 1).toNat≤1:=by
  rw [BitVec.toNat_and];exact Nat.and_le_right
 exact ⟨_,rfl,by rw [kX D D];omega,by rw [kX D D];omega⟩
theorem UJ (a:Int):∃ w:Int,IntKind.u64.wrap (((BitVec.ofInt 64 a &&& BitVec.ofInt 64 1).toNat:Nat):Int)=w∧0≤w∧w≤1:=by
 have h:(BitVec.ofInt 64 a &&& BitVec.ofInt 64 1).toNat≤1:=by
  rw [BitVec.toNat_and];exact Nat.and_le_right
 exact ⟨_,rfl,by rw [nE D D];omega,by rw [nE D D];omega⟩
theorem RA {a b:Int} (k:Nat) (hk:k≤63) (h0:0≤a) (h1:a.toNat<2 ^ k) (h2:0≤b) (h3:b.toNat<2 ^ k):∃ w:Int,IntKind.u64.wrap (((BitVec.ofInt 64 a |||BitVec.ofInt 64 b).toNat:Nat):Int)=w∧0≤w∧w.toNat<2 ^ k∧a≤w∧b≤w:=by
 have hp:2 ^ k≤2 ^ 63:=Nat.pow_le_pow_right (by decide) hk
 have e:(BitVec.ofInt 64 a |||BitVec.ofInt 64 b).toNat=a.toNat |||b.toNat:=by
  rw [BitVec.toNat_or,Gs h0 D,Gs h2 D]
 have h4:a.toNat |||b.toNat<2 ^ k:=Nat.or_lt_two_pow h1 h3
 have h5:a.toNat≤a.toNat |||b.toNat:=Nat.left_le_or
 have h6:b.toNat≤a.toNat |||b.toNat:=Nat.right_le_or
 refine ⟨_,rfl,?_⟩
 rw [e,nE D D]
 omega
theorem C2 {a b:Int} (h0:0≤a) (h1:a<576460752303423488) (h2:0≤b) (h3:b<576460752303423488):∃ w:Int,IntKind.u64.wrap (((BitVec.ofInt 64 a |||BitVec.ofInt 64 b).toNat:Nat):Int)=w∧0≤w∧w<576460752303423488:=by
 obtain ⟨w,e,a1,a2,_,_⟩:=RA (a:=a) (b:=b) 59 (by decide) h0 (by show _<576460752303423488;omega) h2 (by show _<576460752303423488;omega)
 exact ⟨w,e,a1,by have a2:w.toNat<576460752303423488:=a2;omega⟩
theorem adX {a:Int} (h0:0≤a) (h1:a<4503599627370496):∃ w:Int,IntKind.u64.wrap (((BitVec.ofInt 64 a |||BitVec.ofInt 64 4503599627370496).toNat:Nat):Int)=w∧1≤w∧w<9007199254740992:=by
 obtain ⟨w,e,a1,a2,_,a3⟩:=RA (a:=a) (b:=4503599627370496) 53 (by decide) h0 (by show _<9007199254740992;omega) (by decide) (by decide)
 exact ⟨w,e,D,by have a2:w.toNat<9007199254740992:=a2;omega⟩
theorem Hb {a s:Int} (h0:0≤a) (h1:a<18446744073709551616) (h2:5≤s):∃ w:Int,Int.fdiv a (2 ^ (min s.toNat IntKind.u64.bits))=w∧0≤w∧w<576460752303423488:=by
 refine ⟨_,rfl,?_⟩
 obtain ⟨n,hn,hb⟩:∃ n:Nat,min s.toNat IntKind.u64.bits=n∧5≤n:=⟨_,rfl,by show 5≤min s.toNat 64;omega⟩
 rw [hn]
 have e:((2:Int) ^ n)=((2 ^ n:Nat):Int):=by rw [Int.natCast_pow];rfl
 have h5:2 ^ 5≤2 ^ n:=Nat.pow_le_pow_right (by decide) hb
 rw [e,Int.fdiv_eq_ediv_of_nonneg _ D]
 refine ⟨Int.ediv_nonneg h0 D,Int.ediv_lt_of_lt_mul D ?_⟩
 have:(576460752303423488:Int)*32≤576460752303423488*((2 ^ n:Nat):Int):=D
 omega
theorem aeB {d:Int} {k:Nat} (h:d≥(10:Int) ^ k) (hd:d<1000000000000000000) (hk:k≤18):k≤17:=by
 rcases Nat.lt_or_ge k 18 with h1 |h1
 ·omega
 ·exfalso
  have e:k=18:=D
  subst e
  have:(10:Int) ^ 18=1000000000000000000:=by decide
  omega
theorem Cs (n:Int) {H:U} (y:aa E G H) (h0:-4000≤n) (h1:n≤4000):aI E G 133 [J n] H [] (fun v H'=>v=J (n*78913 / 262144)):=by
 refine br Tryz.f133 y ?_
 have w1:((J (Int.fdiv (n*78913) (2 ^ 18))):Value)=(J ((n*78913) / 262144)):=(by rw [jt (m:=262144) 18 (by decide) D])
 exact ap 2 (n*78913)<|aj [.as (J ((n*78913) / 262144))] w1<|al 1 (J ((n*78913) / 262144)) H rfl
theorem Ct (n:Int) {H:U} (y:aa E G H) (h0:-4000≤n) (h1:n≤4000):aI E G 176 [J n] H [] (fun v H'=>v=J (n*108853 / 32768)):=by
 refine br Tryz.f176 y ?_
 have w1:((J (Int.fdiv (n*108853) (2 ^ 15))):Value)=(J ((n*108853) / 32768)):=(by rw [jt (m:=32768) 15 (by decide) D])
 exact ap 2 (n*108853)<|aj [.as (J ((n*108853) / 32768))] w1<|al 1 (J ((n*108853) / 32768)) H rfl
theorem agO (n:Int) {H:U} (y:aa E G H) (h0:-4000≤n) (h1:n≤4000):aI E G 174 [J n] H [] (fun v H'=>v=J ((n*631305-261663) / 2097152)):=by
 refine br Tryz.f174 y ?_
 have w1:((J (Int.fdiv ((n*631305)-261663) (2 ^ 21))):Value)=(J (((n*631305)-261663) / 2097152)):=(by rw [jt (m:=2097152) 21 (by decide) D])
 exact ap 2 (n*631305)<|ap 0 ((n*631305)-261663)<|aj [.as (J (((n*631305)-261663) / 2097152))] w1<|al 1 (J (((n*631305)-261663) / 2097152)) H rfl
theorem yW (b:Bool) {H:U} (y:aa E G H):aI E G 217 [.bool b] H [] (fun v H'=>∃ m:Int,v=.int .u64 m∧0≤m∧m≤1):=by
 refine br Tryz.f217 y ?_
 cases b with
 |true=>
  exact al 3 (ax 1) H ⟨_,rfl,D,D⟩
 |false=>
  exact al 3 (ax 0) H ⟨_,rfl,D,D⟩
theorem QV (x:Int) (z:Int) {H:U} (y:aa E G H):aI E G 216 [ax x,ax z] H [] (fun v H'=>∃ h l:Int,v=.tuple #[.int .u64 h,.int .u64 l]∧0≤h∧h<18446744073709551616∧0≤l∧l<18446744073709551616):=by
 refine br Tryz.f216 y ?_
 exact al 50 (.tuple #[ax (IntKind.u64.wrap ((IntKind.u64.wrap ((IntKind.u64.wrap ((Int.fdiv x (2 ^ 32))*(Int.fdiv z (2 ^ 32))))+(Int.fdiv (IntKind.u64.wrap ((IntKind.u64.wrap ((Int.fdiv x (2 ^ 32))*(IntKind.u64.wrap ((BitVec.ofInt 64 z &&& BitVec.ofInt 64 4294967295).toNat:Int))))+(Int.fdiv (IntKind.u64.wrap ((IntKind.u64.wrap ((BitVec.ofInt 64 x &&& BitVec.ofInt 64 4294967295).toNat:Int))*(IntKind.u64.wrap ((BitVec.ofInt 64 z &&& BitVec.ofInt 64 4294967295).toNat:Int)))) (2 ^ 32)))) (2 ^ 32))))+(Int.fdiv (IntKind.u64.wrap ((IntKind.u64.wrap ((BitVec.ofInt 64 (IntKind.u64.wrap ((IntKind.u64.wrap ((Int.fdiv x (2 ^ 32))*(IntKind.u64.wrap ((BitVec.ofInt 64 z &&& BitVec.ofInt 64 4294967295).toNat:Int))))+(Int.fdiv (IntKind.u64.wrap ((IntKind.u64.wrap ((BitVec.ofInt 64 x &&& BitVec.ofInt 64 4294967295).toNat:Int))*(IntKind.u64.wrap ((BitVec.ofInt 64 z &&& BitVec.ofInt 64 4294967295).toNat:Int)))) (2 ^ 32)))) &&& BitVec.ofInt 64 4294967295).toNat:Int))+(IntKind.u64.wrap ((IntKind.u64.wrap ((BitVec.ofInt 64 x &&& BitVec.ofInt 64 4294967295).toNat:Int))*(Int.fdiv z (2 ^ 32)))))) (2 ^ 32)))),ax (IntKind.u64.wrap (x*z))]) H ⟨_,_,rfl,(r7 _).1,(r7 _).2,(r7 _).1,(r7 _).2⟩
theorem Bt (u:Int) {H:U} (y:aa E G H) (h0:0≤u) (h1:u<18446744073709551616):aI E G 180 [ax u] H [] (fun v H'=>∃ m:Int,v=.int .u64 m∧0≤m∧4*m≤u):=by
 refine br Tryz.f180 y ?_
 have w1:((ax (IntKind.u64.wrap (u+0))):Value)=(ax (u+0)):=(by rw [nE D D])
 have w2:((ax (Int.fdiv (u+0) (2 ^ 2))):Value)=(ax ((u+0) / 4)):=(by rw [jt (m:=4) 2 (by decide) D])
 exact aK [aB 1]<|aj [.as (ax (u+0))] w1<|aj [.as (ax ((u+0) / 4))] w2<|al 1 (ax ((u+0) / 4)) H ⟨_,rfl,D,D⟩
theorem Bg (u:Int) {H:U} (y:aa E G H) (h0:0≤u) (h1:u<18446744073709551600):aI E G 179 [ax u] H [] (fun v H'=>∃ m:Int,v=.int .u64 m∧0≤m∧4*m≤u+3):=by
 refine br Tryz.f179 y ?_
 have w1:((ax (IntKind.u64.wrap (u+3))):Value)=(ax (u+3)):=(by rw [nE D D])
 have w2:((ax (Int.fdiv (u+3) (2 ^ 2))):Value)=(ax ((u+3) / 4)):=(by rw [jt (m:=4) 2 (by decide) D])
 exact aK [aB 1]<|aj [.as (ax (u+3))] w1<|aj [.as (ax ((u+3) / 4))] w2<|al 1 (ax ((u+3) / 4)) H ⟨_,rfl,D,D⟩
theorem De (u:Int) {H:U} (y:aa E G H) (h0:0≤u) (h1:u<18446744073709551600):aI E G 181 [ax u] H [] (fun v H'=>∃ m:Int,v=.int .u64 m∧0≤m∧4*m≤u+2):=by
 refine br Tryz.f181 y ?_
 have w1:((ax (IntKind.u64.wrap (u+1))):Value)=(ax (u+1)):=(by rw [nE D D])
 have w2:((ax (Int.fdiv u (2 ^ 2))):Value)=(ax (u / 4)):=(by rw [jt (m:=4) 2 (by decide) D])
 obtain ⟨uu,Zu,adL,adM⟩:=UJ (u / 4)
 have w3:((ax (IntKind.u64.wrap ((BitVec.ofInt 64 (u / 4) &&& BitVec.ofInt 64 1).toNat:Int))):Value)=(ax uu):=(by rw [Zu])
 have eo:((ax (IntKind.u64.wrap ((u+1)+uu))):Value)=(ax ((u+1)+uu)):=(by rw [nE D D])
 have iE:((ax (Int.fdiv ((u+1)+uu) (2 ^ 2))):Value)=(ax (((u+1)+uu) / 4)):=(by rw [jt (m:=4) 2 (by decide) D])
 exact aK [aB 1]<|aj [.as (ax (u+1))] w1<|aK [aB 0]<|aj [.as (ax (u / 4))] w2<|aj [.as (ax uu)] w3<|aj [.as (ax ((u+1)+uu))] eo<|aj [.as (ax (((u+1)+uu) / 4))] iE<|al 1 (ax (((u+1)+uu) / 4)) H ⟨_,rfl,D,D⟩
theorem CW (u:Int) (d:Int) {H:U} (y:aa E G H) (h0:0≤u) (h1:u<18446744073709551600) (h2:0≤d) (h3:d≤1):aI E G 178 [ax u,J d] H [] (fun v H'=>v=.int .u64 (u+d)):=by
 refine br Tryz.f178 y ?_
 have w1:((ax (IntKind.u64.wrap d)):Value)=(ax d):=(by rw [nE D D])
 have w2:((ax (IntKind.u64.wrap (u+d))):Value)=(ax (u+d)):=(by rw [nE D D])
 exact aK [aB 2]<|aj [.as (ax d)] w1<|aj [.as (ax (u+d))] w2<|al 1 (ax (u+d)) H rfl
theorem CX (u:Int) (d:Int) {H:U} (y:aa E G H):aI E G 178 [ax u,J d] H [] (fun v H'=>∃ w:Int,v=.int .u64 w∧0≤w∧w<18446744073709551616):=by
 refine br Tryz.f178 y ?_
 exact al 6 (ax (IntKind.u64.wrap (u+(IntKind.u64.wrap d)))) H ⟨_,rfl,(r7 _).1,(r7 _).2⟩
abbrev fY:ByteArray:=⟨#[0,1,2,2,3,3,3,3,4,4,4,4,4,4,4,4,5,5,5,5,5,5,5,5,5,5,5,5,5,5,5,5,6,6,6,6,6,6,6,6,6,6,6,6,6,6,6,6,6,6,6,6,6,6,6,6,6,6,6,6,6,6,6,6,7,7,7,7,7,7,7,7,7,7,7,7,7,7,7,7,7,7,7,7,7,7,7,7,7,7,7,7,7,7,7,7,7,7,7,7,7,7,7,7,7,7,7,7,7,7,7,7,7,7,7,7,7,7,7,7,7,7,7,7,7,7,7,7,8,8,8,8,8,8,8,8,8,8,8,8,8,8,8,8,8,8,8,8,8,8,8,8,8,8,8,8,8,8,8,8,8,8,8,8,8,8,8,8,8,8,8,8,8,8,8,8,8,8,8,8,8,8,8,8,8,8,8,8,8,8,8,8,8,8,8,8,8,8,8,8,8,8,8,8,8,8,8,8,8,8,8,8,8,8,8,8,8,8,8,8,8,8,8,8,8,8,8,8,8,8,8,8,8,8,8,8,8,8,8,8,8,8,8,8,8,8,8,8,8,8,8,8,8,8,8,8]⟩
theorem vP:fY.size=256:=av
theorem vO:fY.data.toList.all (fun b=>Nat.ble b.toNat 8)=true:=av
theorem acb {i:Int} (h0:0≤i) (h1:i<16):ac fY i≤4:=by
 have h:((List.range 16).all fun i=>Nat.ble (ac fY (i:Int)).toNat 4)=true:=by kernel_rfl
 have:=List.all_eq_true.1 h i.toNat (by simp;omega)
 rw [show (i.toNat:Int)=i by omega] at this
 have:=ec this
 omega
theorem KD (x:Int) {H:U} (y:aa E G H) (h0:0≤x) (h1:x<18446744073709551616):aI E G 130 [ax x] H [] (fun v H'=>∃ n:Int,v=.int .i64 n∧0≤n∧n≤64∧(x<1152921504606846976→n≤60)):=by
 refine br Tryz.f130 y ?_
 refine aO 2 (x≥4294967296) ?_ ?_ <;> intro h1 q1
 ·have w1:((ax (Int.fdiv x (2 ^ 32))):Value)=(ax (x / 4294967296)):=(by rw [jt (m:=4294967296) 32 (by decide) D])
  refine aK [aB 0]<|aj [.as (ax (x / 4294967296))] w1<|aO 3 ((x / 4294967296)≥65536) ?_ ?_ <;> intro h2 cw
  ·have w2:((ax (Int.fdiv (x / 4294967296) (2 ^ 16))):Value)=(ax ((x / 4294967296) / 65536)):=(by rw [jt (m:=65536) 16 (by decide) D])
   refine aK [aB 0]<|aj [.as (ax ((x / 4294967296) / 65536))] w2<|aO 5 (((x / 4294967296) / 65536)≥256) ?_ ?_ <;> intro h3 dv
   ·have w3:((ax (Int.fdiv ((x / 4294967296) / 65536) (2 ^ 8))):Value)=(ax (((x / 4294967296) / 65536) / 256)):=(by rw [jt (m:=256) 8 (by decide) D])
    have eo:((ab (IntKind.u8.wrap (((x / 4294967296) / 65536) / 256))):Value)=(ab (((x / 4294967296) / 65536) / 256)):=(by rw [jl D D])
    have oX:=oe vO (((x / 4294967296) / 65536) / 256)
    have oY:=gG fY (((x / 4294967296) / 65536) / 256)
    have wF:=fun h=>acb (i:=(((x / 4294967296) / 65536) / 256)) D h
    exact aK [aB 0]<|aj [.as (ax (((x / 4294967296) / 65536) / 256))] w3<|aK [aB 5]<|aj [.as (ab (((x / 4294967296) / 65536) / 256))] eo<|eM [.ak] (show (0:Int)≤(((x / 4294967296) / 65536) / 256) from by omega) (show (((x / 4294967296) / 65536) / 256)<(fY.size:Int) from by rw [vP];omega)<|ap 0 (ac fY (((x / 4294967296) / 65536) / 256))<|ap 0 (56+(ac fY (((x / 4294967296) / 65536) / 256)))<|al 1 (J (56+(ac fY (((x / 4294967296) / 65536) / 256)))) H ⟨_,rfl,D,D,by intro hx;first |omega |(have:=wF D;omega)⟩
   have w3:((ab (IntKind.u8.wrap ((x / 4294967296) / 65536))):Value)=(ab ((x / 4294967296) / 65536)):=(by rw [jl D D])
   have oX:=oe vO ((x / 4294967296) / 65536)
   have oY:=gG fY ((x / 4294967296) / 65536)
   exact aK [aB 1]<|aj [.as (ab ((x / 4294967296) / 65536))] w3<|eM [.ak] (show (0:Int)≤((x / 4294967296) / 65536) from by omega) (show ((x / 4294967296) / 65536)<(fY.size:Int) from by rw [vP];omega)<|ap 0 (ac fY ((x / 4294967296) / 65536))<|ap 0 (48+(ac fY ((x / 4294967296) / 65536)))<|al 1 (J (48+(ac fY ((x / 4294967296) / 65536)))) H ⟨_,rfl,D,D,by intro hx;first |omega |(have:=wF D;omega)⟩
  refine aO 1 ((x / 4294967296)≥256) ?_ ?_ <;> intro h3 dv
  ·have w2:((ax (Int.fdiv (x / 4294967296) (2 ^ 8))):Value)=(ax ((x / 4294967296) / 256)):=(by rw [jt (m:=256) 8 (by decide) D])
   have w3:((ab (IntKind.u8.wrap ((x / 4294967296) / 256))):Value)=(ab ((x / 4294967296) / 256)):=(by rw [jl D D])
   have oX:=oe vO ((x / 4294967296) / 256)
   have oY:=gG fY ((x / 4294967296) / 256)
   exact aK [aB 0]<|aj [.as (ax ((x / 4294967296) / 256))] w2<|aK [aB 5]<|aj [.as (ab ((x / 4294967296) / 256))] w3<|eM [.ak] (show (0:Int)≤((x / 4294967296) / 256) from by omega) (show ((x / 4294967296) / 256)<(fY.size:Int) from by rw [vP];omega)<|ap 0 (ac fY ((x / 4294967296) / 256))<|ap 0 (40+(ac fY ((x / 4294967296) / 256)))<|al 1 (J (40+(ac fY ((x / 4294967296) / 256)))) H ⟨_,rfl,D,D,by intro hx;first |omega |(have:=wF D;omega)⟩
  have w2:((ab (IntKind.u8.wrap (x / 4294967296))):Value)=(ab (x / 4294967296)):=(by rw [jl D D])
  have oX:=oe vO (x / 4294967296)
  have oY:=gG fY (x / 4294967296)
  exact aK [aB 1]<|aj [.as (ab (x / 4294967296))] w2<|eM [.ak] (show (0:Int)≤(x / 4294967296) from by omega) (show (x / 4294967296)<(fY.size:Int) from by rw [vP];omega)<|ap 0 (ac fY (x / 4294967296))<|ap 0 (32+(ac fY (x / 4294967296)))<|al 1 (J (32+(ac fY (x / 4294967296)))) H ⟨_,rfl,D,D,by intro hx;first |omega |(have:=wF D;omega)⟩
 refine aO 1 (x≥65536) ?_ ?_ <;> intro h2 cw
 ·have w1:((ax (Int.fdiv x (2 ^ 16))):Value)=(ax (x / 65536)):=(by rw [jt (m:=65536) 16 (by decide) D])
  refine aK [aB 0]<|aj [.as (ax (x / 65536))] w1<|aO 5 ((x / 65536)≥256) ?_ ?_ <;> intro h3 dv
  ·have w2:((ax (Int.fdiv (x / 65536) (2 ^ 8))):Value)=(ax ((x / 65536) / 256)):=(by rw [jt (m:=256) 8 (by decide) D])
   have w3:((ab (IntKind.u8.wrap ((x / 65536) / 256))):Value)=(ab ((x / 65536) / 256)):=(by rw [jl D D])
   have oX:=oe vO ((x / 65536) / 256)
   have oY:=gG fY ((x / 65536) / 256)
   exact aK [aB 0]<|aj [.as (ax ((x / 65536) / 256))] w2<|aK [aB 5]<|aj [.as (ab ((x / 65536) / 256))] w3<|eM [.ak] (show (0:Int)≤((x / 65536) / 256) from by omega) (show ((x / 65536) / 256)<(fY.size:Int) from by rw [vP];omega)<|ap 0 (ac fY ((x / 65536) / 256))<|ap 0 (24+(ac fY ((x / 65536) / 256)))<|al 1 (J (24+(ac fY ((x / 65536) / 256)))) H ⟨_,rfl,D,D,by intro hx;first |omega |(have:=wF D;omega)⟩
  have w2:((ab (IntKind.u8.wrap (x / 65536))):Value)=(ab (x / 65536)):=(by rw [jl D D])
  have oX:=oe vO (x / 65536)
  have oY:=gG fY (x / 65536)
  exact aK [aB 1]<|aj [.as (ab (x / 65536))] w2<|eM [.ak] (show (0:Int)≤(x / 65536) from by omega) (show (x / 65536)<(fY.size:Int) from by rw [vP];omega)<|ap 0 (ac fY (x / 65536))<|ap 0 (16+(ac fY (x / 65536)))<|al 1 (J (16+(ac fY (x / 65536)))) H ⟨_,rfl,D,D,by intro hx;first |omega |(have:=wF D;omega)⟩
 refine aO 1 (x≥256) ?_ ?_ <;> intro h3 dv
 ·have w1:((ax (Int.fdiv x (2 ^ 8))):Value)=(ax (x / 256)):=(by rw [jt (m:=256) 8 (by decide) D])
  have w2:((ab (IntKind.u8.wrap (x / 256))):Value)=(ab (x / 256)):=(by rw [jl D D])
  have oX:=oe vO (x / 256)
  have oY:=gG fY (x / 256)
  exact aK [aB 0]<|aj [.as (ax (x / 256))] w1<|aK [aB 5]<|aj [.as (ab (x / 256))] w2<|eM [.ak] (show (0:Int)≤(x / 256) from by omega) (show (x / 256)<(fY.size:Int) from by rw [vP];omega)<|ap 0 (ac fY (x / 256))<|ap 0 (8+(ac fY (x / 256)))<|al 1 (J (8+(ac fY (x / 256)))) H ⟨_,rfl,D,D,by intro hx;first |omega |(have:=wF D;omega)⟩
 have w1:((ab (IntKind.u8.wrap x)):Value)=(ab x):=(by rw [jl D D])
 have oX:=oe vO x
 have oY:=gG fY x
 exact aK [aB 1]<|aj [.as (ab x)] w1<|eM [.ak] (show (0:Int)≤x from by omega) (show x<(fY.size:Int) from by rw [vP];omega)<|ap 0 (ac fY x)<|ap 0 (0+(ac fY x))<|al 1 (J (0+(ac fY x))) H ⟨_,rfl,D,D,by intro hx;first |omega |(have:=wF D;omega)⟩
theorem N4 (b:Bool) {H:U} (y:aa E G H):aI E G 146 [.bool b] H [] (fun v H'=>v=J (bif b then 1 else 0)):=by
 refine br Tryz.f146 y ?_
 cases b with
 |true=>
  exact al 3 (J 1) H rfl
 |false=>
  exact al 3 (J 0) H rfl
theorem Rr (x:Int) {H:U} (y:aa E G H) (x0:0≤x) (x1:x<1000000000000000000):aI E G 113 [ax x] H [] (fun v H'=>∃ m:Int,v=J m∧0≤m∧m≤18):=by
 refine br Tryz.f113 y ?_
 obtain ⟨_,H1,c1,af,y1,n1,rfl,CD,cW,adr⟩:=KD x y x0 D
 have hY:=adr D
 obtain ⟨_,H2,c2,ar,ah,rfl⟩:=Cs n1 y1 D D
 have l4:=y.kept af ai (Nt y)
 have J9:=y1.kept ar ai l4
 refine ad 2 c1<|ad 0 c2<|bR 4 (n1*78913 / 262144) (20:Int)<|Z 0 (d7 jH J9 (RJ D D):ay E 22 6 (0+(n1*78913 / 262144).toNat*1) H2=some (ax ((10:Int) ^ (n1*78913 / 262144).toNat)))<|aO 0 (x≥((10:Int) ^ (n1*78913 / 262144).toNat)) ?_ ?_ <;> intro h1 q1
 ·have akL:=aeB q1 x1 D
  obtain ⟨_,H3,c3,aW,az,rfl⟩:=N4 true ah
  exact ad 0 c3<|ap 0 ((n1*78913 / 262144)+1)<|al 1 (J ((n1*78913 / 262144)+1)) H3 ⟨_,rfl,D,D⟩
 obtain ⟨_,H3,c3,aW,az,rfl⟩:=N4 false ah
 exact ad 0 c3<|ap 0 ((n1*78913 / 262144)+0)<|al 1 (J ((n1*78913 / 262144)+0)) H3 ⟨_,rfl,D,D⟩
theorem RL {α:Type} (f g:α→Value):∀(l:List α) (k:Nat),(l.flatMap fun x=>[f x,g x])[2*k]?=l[k]?.map f∧(l.flatMap fun x=>[f x,g x])[2*k+1]?=l[k]?.map g
 |[],k=>by simp
 |x::l,0=>by simp
 |x::l,k+1=>by
  have:=RL f g l k
  simp only [List.flatMap_cons,List.cons_append,List.nil_append,List.getElem?_cons_succ]
  rw [show 2*(k+1)=2*k+1+1 by omega]
  simpa using this
theorem R1 {i:Int} (h0:0≤i) (h1:i<696):∃ a b:Int,(Go.Pinned.pow10Rows.flatMap fun x=>[.int .u64 x.1,.int .u64 x.2])[0+i.toNat*2]?=some (Value.int .u64 a)∧(Go.Pinned.pow10Rows.flatMap fun x=>[.int .u64 x.1,.int .u64 x.2])[0+i.toNat*2+1]?=some (Value.int .u64 b):=by
 have h:=RL (fun x:Nat×Nat=>Value.int .u64 x.1) (fun x=>.int .u64 x.2) Go.Pinned.pow10Rows i.toNat
 have hlen:Go.Pinned.pow10Rows.length=696:=by kernel_rfl
 have hlt:i.toNat<Go.Pinned.pow10Rows.length:=D
 rw [gI hlt] at h
 refine ⟨((Go.Pinned.pow10Rows[i.toNat]).1:Nat),((Go.Pinned.pow10Rows[i.toNat]).2:Nat),?_,?_⟩
 ·rw [show 0+i.toNat*2=2*i.toNat by omega];exact h.1
 ·rw [show 0+i.toNat*2+1=2*i.toNat+1 by omega];exact h.2
theorem C7 (b:Nat) (b0 b1 b2 e p ug:Int) {H:U} (y:aa E G H) (kb:H.get b=some (O [.int .u64 b0,.int .u64 b1,.int .i64 b2] 268)) (cr:G.n≤b) (dE:-348≤p) (p1:p<348) (e0:-100000≤e) (e1:e≤100000) (l0:-100000≤ug) (l1:ug≤100000):aI E G 175 [pt b 0,J e,J p,J ug] H [b] (fun v H'=>∃ c0 c1:Int,v=cZ∧H'.get b=some (O [.int .u64 c0,.int .u64 c1,.int .i64 (0-(e+ug+3))] 268)):=by
 refine br Tryz.f175 y ?_
 have gn:=lq
 have zO:=y.wf.lt kb
 obtain ⟨C5,akN,ZA,ajJ⟩:=R1 (i:=(p-(-348))) D D
 obtain ⟨aS,e1⟩:∃ ao,ao=H.set b (O [ax C5,ax b1,J b2] 268):=⟨_,rfl⟩
 have y1:aa E G aS:=e1▸y.set _ D D
 have cI:aS.n=H.n+0:=by rw [e1,U.cB] <;> rfl
 have fP:=bC e1
 obtain ⟨akM,GA,ajI,ZD⟩:=R1 (i:=(p-(-348))) D D
 have abd:=bu e1 D (Nu y)
 obtain ⟨aF,e2⟩:∃ ao,ao=aS.set b (O [ax C5,ax GA,J b2] 268):=⟨_,rfl⟩
 have ah:aa E G aF:=e2▸y1.set _ D D
 have cl:aF.n=aS.n+0:=by rw [e2,U.cB] <;> rfl
 have j7:=bC e2
 obtain ⟨bk,aM⟩:∃ ao,ao=aF.set b (O [ax C5,ax GA,J (0-((e+ug)+3))] 268):=⟨_,rfl⟩
 have az:aa E G bk:=aM▸ah.set _ D D
 have t4:=bC aM
 exact ap 2 (p-(-348))<|bR 0 (p-(-348)) (696:Int)<|Z 1 (d7 jH (Nu y) ZA:ay E 22 8 (0+(p-(-348)).toNat*2) H=some (ax C5))<|aC 2 (stx 0 (ax C5) Dt kb e1)<|ap 2 (p-(-348))<|bR 0 (p-(-348)) (696:Int)<|Z 1 (d7 jH abd ZD:ay E 22 8 ((0+(p-(-348)).toNat*2)+1) aS=some (ax GA))<|aC 2 (stx 1 (ax GA) Dt fP e2)<|ap 3 (e+ug)<|ap 0 ((e+ug)+3)<|ap 0 (0-((e+ug)+3))<|aC 2 (stx 2 (J (0-((e+ug)+3))) dL j7 aM)<|aV 0 (.tuple #[]) bk [b,b,b] bD bi ⟨_,_,rfl,t4⟩
theorem oZ (b:Nat) (b0 b1 s x:Int) {H:U} (y:aa E G H) (kb:H.get b=some (O [.int .u64 b0,.int .u64 b1,.int .i64 s] 268)) (SV:5≤s) (s1:s≤63):aI E G 177 [ax x,pt b 0] H [] (fun v H'=>∃ n:Int,v=.int .u64 n∧0≤n∧n<576460752303423488):=by
 refine br Tryz.f177 y ?_
 obtain ⟨_,H1,c1,af,y1,sW,CB,rfl,Cw,Cy,aku,akw⟩:=QV x b0 y
 have fP:=y.kept af ai kb
 have w1:((J (IntKind.i64.wrap ((BitVec.ofInt 64 s &&& BitVec.ofInt 64 63).toNat:Int))):Value)=(J s):=(by rw [acM D D])
 have ahk:=Hb (a:=sW) (s:=s) D D D
 obtain ⟨ak0,ajM,akX,akY⟩:=ahk
 refine Z 5 (ag 0 jH kb)<|ad 0 c1<|Z 8 (ag 2 aJ fP)<|aj [.as (J s)] w1<|aK [aB 2]<|aj [.ak] (by omega:0≤s)<|aK [aB 0]<|aj [.ak] (by omega:0≤s)<|iD 1 (IntKind.u64.wrap ((Int.fdiv sW (2 ^ (min s.toNat IntKind.u64.bits)))*2 ^ (min s.toNat IntKind.u64.bits))) sW ?_ ?_ <;> intro h1 q1
 ·have ahl:=Hb (a:=sW) (s:=s) D D D
  obtain ⟨ak1,ajN,SW,Mh⟩:=ahl
  obtain ⟨Lq,Zy,CY,CZ⟩:=C2 (a:=(Int.fdiv sW (2 ^ (min s.toNat IntKind.u64.bits)))) (b:=1) D D D D
  have w2:((ax (IntKind.u64.wrap ((BitVec.ofInt 64 (Int.fdiv sW (2 ^ (min s.toNat IntKind.u64.bits))) |||BitVec.ofInt 64 1).toNat:Int))):Value)=(ax Lq):=(by rw [Zy])
  exact aK [aB 1]<|aj [.ak] (by omega:0≤s)<|aj [.as (ax Lq)] w2<|al 1 (ax Lq) H1 ⟨_,rfl,D,D⟩
 obtain ⟨_,H2,c2,ar,ah,Cz,aky,rfl,acJ,acZ,akv,akx⟩:=QV x b1 y1
 refine Z 4 (ag 1 jH fP)<|ad 0 c2<|aO 8 (CB<Cz) ?_ ?_ <;> intro h2 cw
 ·obtain ⟨_,H3,c3,aW,az,Be,rfl,U1,U2⟩:=yW true ah
  obtain ⟨fi,lZ,uL,tp⟩:=kH (sW-Be)
  have w2:((ax (IntKind.u64.wrap (sW-Be))):Value)=(ax fi):=(by rw [lZ])
  have MA:=Hb (a:=fi) (s:=s) D D D
  obtain ⟨ahj,ZJ,agq,SX⟩:=MA
  obtain ⟨ij,oE,yo,yq⟩:=kH (CB-Cz)
  have w3:((ax (IntKind.u64.wrap (CB-Cz))):Value)=(ax ij):=(by rw [oE])
  rcases ep (decide (ij>1)) with h3 |h3
  ·obtain ⟨_,H4,cY,c4,bz,om,rfl,Ef,Eh⟩:=yW true az
   obtain ⟨oO,xy,Lh,Li⟩:=C2 (a:=(Int.fdiv fi (2 ^ (min s.toNat IntKind.u64.bits)))) (b:=om) D D D D
   have eo:((ax (IntKind.u64.wrap ((BitVec.ofInt 64 (Int.fdiv fi (2 ^ (min s.toNat IntKind.u64.bits))) |||BitVec.ofInt 64 om).toNat:Int))):Value)=(ax oO):=(by rw [xy])
   exact ad 0 c3<|aj [.as (ax fi)] w2<|aK [aB 0]<|aK [aB 1]<|aj [.ak] (by omega:0≤s)<|aK [aB 1]<|aj [.as (ax ij)] w3<|aH 0 h3<|ad 0 cY<|aj [.as (ax oO)] eo<|al 1 (ax oO) H4 ⟨_,rfl,D,D⟩
  obtain ⟨_,H4,cY,c4,bz,om,rfl,Ef,Eh⟩:=yW false az
  obtain ⟨oO,xy,Lh,Li⟩:=C2 (a:=(Int.fdiv fi (2 ^ (min s.toNat IntKind.u64.bits)))) (b:=om) D D D D
  have eo:((ax (IntKind.u64.wrap ((BitVec.ofInt 64 (Int.fdiv fi (2 ^ (min s.toNat IntKind.u64.bits))) |||BitVec.ofInt 64 om).toNat:Int))):Value)=(ax oO):=(by rw [xy])
  exact ad 0 c3<|aj [.as (ax fi)] w2<|aK [aB 0]<|aK [aB 1]<|aj [.ak] (by omega:0≤s)<|aK [aB 1]<|aj [.as (ax ij)] w3<|aH 0 h3<|ad 0 cY<|aj [.as (ax oO)] eo<|al 1 (ax oO) H4 ⟨_,rfl,D,D⟩
 obtain ⟨_,H3,c3,aW,az,Be,rfl,U1,U2⟩:=yW false ah
 obtain ⟨fi,lZ,uL,tp⟩:=kH (sW-Be)
 have w2:((ax (IntKind.u64.wrap (sW-Be))):Value)=(ax fi):=(by rw [lZ])
 have MA:=Hb (a:=fi) (s:=s) D D D
 obtain ⟨ahj,ZJ,agq,SX⟩:=MA
 obtain ⟨ij,oE,yo,yq⟩:=kH (CB-Cz)
 have w3:((ax (IntKind.u64.wrap (CB-Cz))):Value)=(ax ij):=(by rw [oE])
 rcases ep (decide (ij>1)) with h3 |h3
 ·obtain ⟨_,H4,cY,c4,bz,om,rfl,Ef,Eh⟩:=yW true az
  obtain ⟨oO,xy,Lh,Li⟩:=C2 (a:=(Int.fdiv fi (2 ^ (min s.toNat IntKind.u64.bits)))) (b:=om) D D D D
  have eo:((ax (IntKind.u64.wrap ((BitVec.ofInt 64 (Int.fdiv fi (2 ^ (min s.toNat IntKind.u64.bits))) |||BitVec.ofInt 64 om).toNat:Int))):Value)=(ax oO):=(by rw [xy])
  exact ad 0 c3<|aj [.as (ax fi)] w2<|aK [aB 0]<|aK [aB 1]<|aj [.ak] (by omega:0≤s)<|aK [aB 1]<|aj [.as (ax ij)] w3<|aH 0 h3<|ad 0 cY<|aj [.as (ax oO)] eo<|al 1 (ax oO) H4 ⟨_,rfl,D,D⟩
 obtain ⟨_,H4,cY,c4,bz,om,rfl,Ef,Eh⟩:=yW false az
 obtain ⟨oO,xy,Lh,Li⟩:=C2 (a:=(Int.fdiv fi (2 ^ (min s.toNat IntKind.u64.bits)))) (b:=om) D D D D
 have eo:((ax (IntKind.u64.wrap ((BitVec.ofInt 64 (Int.fdiv fi (2 ^ (min s.toNat IntKind.u64.bits))) |||BitVec.ofInt 64 om).toNat:Int))):Value)=(ax oO):=(by rw [xy])
 exact ad 0 c3<|aj [.as (ax fi)] w2<|aK [aB 0]<|aK [aB 1]<|aj [.ak] (by omega:0≤s)<|aK [aB 1]<|aj [.as (ax ij)] w3<|aH 0 h3<|ad 0 cY<|aj [.as (ax oO)] eo<|al 1 (ax oO) H4 ⟨_,rfl,D,D⟩
noncomputable abbrev ov:=([ax 0,ax 0,J 0]:List Value)
theorem S6 (m e:Int) {H:U} (y:aa E G H) (aki:0≤m) (m1:m<18446744073709551616) (e0:-1140≤e) (e1:e≤975):aI E G 138 [ax m,J e] H [] (fun v H'=>∃ d p:Int,v=.tuple #[.int .u64 d,.int .i64 p]∧0≤d∧d<1000000000000000000∧-400≤p∧p≤400):=by
 refine br Tryz.f138 y ?_
 refine cS 18 m 9223372036854775808 ?_ ?_ <;> intro h1 q1
 ·refine aO 3 (e>(-1085)) ?_ ?_ <;> intro h2 cw
  ·obtain ⟨_,H1,c1,af,y1,rfl⟩:=agO (e+11) y D D
   have cI:H.n+0≤H1.n:=af.n
   have g1:=y1.n
   obtain ⟨bc,oD,q7,uN⟩:=kH (m-512)
   have w1:((ax (IntKind.u64.wrap (m-512))):Value)=(ax bc):=(by rw [oD])
   obtain ⟨fi,lZ,uL,tp⟩:=kH (m+1024)
   have w2:((ax (IntKind.u64.wrap (m+1024))):Value)=(ax fi):=(by rw [lZ])
   have w3:((ax (Int.fdiv m (2 ^ 11))):Value)=(ax (m / 2048)):=(by rw [jt (m:=2048) 11 (by decide) D])
   obtain ⟨ia,tU,CY,CZ⟩:=Ba (m / 2048)
   have eo:((J (IntKind.i64.wrap ((BitVec.ofInt 64 (m / 2048) &&& BitVec.ofInt 64 1).toNat:Int))):Value)=(J ia):=(by rw [tU])
   obtain ⟨_,H2,c2,ar,ah,rfl⟩:=Ct (0-(((e+11)*631305-261663) / 2097152)) (y1.news (oM ov)) D D
   have cl:=dA ar
   have iW:=(y1.news (oM ov)).kept ar ai (aL (oM ov) H1 0 _ rfl)
   obtain ⟨_,H3,c3,aW,az,lM,lN,rfl,e6⟩:=C7 (H1.n+0) 0 0 0 e (0-(((e+11)*631305-261663) / 2097152)) ((0-(((e+11)*631305-261663) / 2097152))*108853 / 32768) ah iW D D D D D D D
   have dD:H2.n+0≤H3.n:=aW.n
   obtain ⟨_,H4,cY,c4,bz,pR,rfl,HA,HD⟩:=oZ (H1.n+0) lM lN (0-(e+((0-(((e+11)*631305-261663) / 2097152))*108853 / 32768)+3)) bc az e6 D D
   have fB:H3.n+0≤H4.n:=c4.n
   obtain ⟨_,H5,dz,cV,cG,rfl⟩:=CW pR ia bz D D D D
   have gk:H4.n+0≤H5.n:=cV.n
   obtain ⟨_,fj,gH,fO,ea,mp,rfl,HG,HJ⟩:=Bg (pR+ia) cG D D
   have lC:H5.n+0≤fj.n:=fO.n
   have rJ:=az.kept c4 ai e6
   have t5:=bz.kept cV ai rJ
   have pG:=cG.kept fO ai t5
   obtain ⟨_,iy,kn,iF,gC,uJ,rfl,HB,HE⟩:=oZ (H1.n+0) lM lN (0-(e+((0-(((e+11)*631305-261663) / 2097152))*108853 / 32768)+3)) fi ea pG D D
   have qh:fj.n+0≤iy.n:=iF.n
   obtain ⟨_,jT,m7,kI,kY,ur,rfl,Gm,Gn⟩:=CX uJ (0-ia) gC
   have z4:iy.n+0≤jT.n:=kI.n
   obtain ⟨_,jU,qB,pT,uV,fZ,rfl,HH,HK⟩:=Bt ur kY D D
   have Gh:jT.n+0≤jU.n:=pT.n
   have iE:((ax (IntKind.u64.wrap (Int.tdiv fZ 10))):Value)=(ax (fZ / 10)):=(by rw [kE (x:=fZ) D,nE D D])
   obtain ⟨ij,oE,yo,yq⟩:=kH ((fZ / 10)*10)
   have lH:((ax (IntKind.u64.wrap ((fZ / 10)*10))):Value)=(ax ij):=(by rw [oE])
   refine ap 3 (e+11)<|ad 0 c1<|ap 0 (0-(((e+11)*631305-261663) / 2097152))<|aK [aB 4]<|aj [.as (ax bc)] w1<|aK [aB 4]<|aj [.as (ax fi)] w2<|aK [aB 2]<|aj [.as (ax (m / 2048))] w3<|ap 0 (m / 2048)<|aj [.as (J ia)] eo<|ad 5 c2<|ad 0 c3<|ad 1 cY<|ad 1 dz<|ad 0 gH<|ad 2 kn<|ap 1 (0-ia)<|ad 0 m7<|ad 0 qB<|aK [aB 1]<|aj [.as (ax (fZ / 10))] iE<|aK [aB 1]<|aj [.as (ax ij)] lH<|aO 1 (ij≥mp) ?_ ?_ <;> intro h3 dv
   ·exact ap 2 ((0-(((e+11)*631305-261663) / 2097152))-1)<|ap 0 (0-((0-(((e+11)*631305-261663) / 2097152))-1))<|aV 2 (.tuple #[ax (fZ / 10),J (0-((0-(((e+11)*631305-261663) / 2097152))-1))]) jU [H1.n+0] aQ aZ ⟨_,_,rfl,D,D,D,D⟩
   refine aO 4 (mp<fZ) ?_ ?_ <;> intro h4 dT
   ·have t6:=ea.kept iF ai pG
    have t7:=gC.kept kI ai t6
    have t8:=kY.kept pT ai t7
    obtain ⟨_,o9,tC,uS,uU,uI,rfl,Hz,HC⟩:=oZ (H1.n+0) lM lN (0-(e+((0-(((e+11)*631305-261663) / 2097152))*108853 / 32768)+3)) m uV t8 D D
    have Gf:jU.n+0≤o9.n:=uS.n
    obtain ⟨_,pc,tD,uT,HQ,uG,rfl,HF,HI⟩:=De uI uU D D
    have Gg:o9.n+0≤pc.n:=uT.n
    exact ad 1 tC<|ad 0 tD<|ap 3 (0-(0-(((e+11)*631305-261663) / 2097152)))<|aV 2 (.tuple #[ax uG,J (0-(0-(((e+11)*631305-261663) / 2097152)))]) pc [H1.n+0] aQ aZ ⟨_,_,rfl,D,D,D,D⟩
   exact ap 2 (0-(0-(((e+11)*631305-261663) / 2097152)))<|aV 2 (.tuple #[ax mp,J (0-(0-(((e+11)*631305-261663) / 2097152)))]) jU [H1.n+0] aQ aZ ⟨_,_,rfl,D,D,D,D⟩
  refine aO 3 (e≥(-1085)) ?_ ?_ <;> intro h3 dv
  ·obtain ⟨_,H1,c1,af,y1,rfl⟩:=Cs (e+11) y D D
   have cI:H.n+0≤H1.n:=af.n
   have g1:=y1.n
   obtain ⟨bc,oD,q7,uN⟩:=kH (m-1024)
   have w1:((ax (IntKind.u64.wrap (m-1024))):Value)=(ax bc):=(by rw [oD])
   obtain ⟨fi,lZ,uL,tp⟩:=kH (m+1024)
   have w2:((ax (IntKind.u64.wrap (m+1024))):Value)=(ax fi):=(by rw [lZ])
   have w3:((ax (Int.fdiv m (2 ^ 11))):Value)=(ax (m / 2048)):=(by rw [jt (m:=2048) 11 (by decide) D])
   obtain ⟨ia,tU,CY,CZ⟩:=Ba (m / 2048)
   have eo:((J (IntKind.i64.wrap ((BitVec.ofInt 64 (m / 2048) &&& BitVec.ofInt 64 1).toNat:Int))):Value)=(J ia):=(by rw [tU])
   obtain ⟨_,H2,c2,ar,ah,rfl⟩:=Ct (0-((e+11)*78913 / 262144)) (y1.news (oM ov)) D D
   have cl:=dA ar
   have iW:=(y1.news (oM ov)).kept ar ai (aL (oM ov) H1 0 _ rfl)
   obtain ⟨_,H3,c3,aW,az,lM,lN,rfl,e6⟩:=C7 (H1.n+0) 0 0 0 e (0-((e+11)*78913 / 262144)) ((0-((e+11)*78913 / 262144))*108853 / 32768) ah iW D D D D D D D
   have dD:H2.n+0≤H3.n:=aW.n
   obtain ⟨_,H4,cY,c4,bz,pR,rfl,HA,HD⟩:=oZ (H1.n+0) lM lN (0-(e+((0-((e+11)*78913 / 262144))*108853 / 32768)+3)) bc az e6 D D
   have fB:H3.n+0≤H4.n:=c4.n
   obtain ⟨_,H5,dz,cV,cG,rfl⟩:=CW pR ia bz D D D D
   have gk:H4.n+0≤H5.n:=cV.n
   obtain ⟨_,fj,gH,fO,ea,mp,rfl,HG,HJ⟩:=Bg (pR+ia) cG D D
   have lC:H5.n+0≤fj.n:=fO.n
   have rJ:=az.kept c4 ai e6
   have t5:=bz.kept cV ai rJ
   have pG:=cG.kept fO ai t5
   obtain ⟨_,iy,kn,iF,gC,uJ,rfl,HB,HE⟩:=oZ (H1.n+0) lM lN (0-(e+((0-((e+11)*78913 / 262144))*108853 / 32768)+3)) fi ea pG D D
   have qh:fj.n+0≤iy.n:=iF.n
   obtain ⟨_,jT,m7,kI,kY,ur,rfl,Gm,Gn⟩:=CX uJ (0-ia) gC
   have z4:iy.n+0≤jT.n:=kI.n
   obtain ⟨_,jU,qB,pT,uV,fZ,rfl,HH,HK⟩:=Bt ur kY D D
   have Gh:jT.n+0≤jU.n:=pT.n
   have iE:((ax (IntKind.u64.wrap (Int.tdiv fZ 10))):Value)=(ax (fZ / 10)):=(by rw [kE (x:=fZ) D,nE D D])
   obtain ⟨ij,oE,yo,yq⟩:=kH ((fZ / 10)*10)
   have lH:((ax (IntKind.u64.wrap ((fZ / 10)*10))):Value)=(ax ij):=(by rw [oE])
   refine ap 2 (e+11)<|ad 0 c1<|ap 0 (0-((e+11)*78913 / 262144))<|aK [aB 4]<|aj [.as (ax bc)] w1<|aK [aB 4]<|aj [.as (ax fi)] w2<|aK [aB 2]<|aj [.as (ax (m / 2048))] w3<|ap 0 (m / 2048)<|aj [.as (J ia)] eo<|ad 5 c2<|ad 0 c3<|ad 1 cY<|ad 1 dz<|ad 0 gH<|ad 2 kn<|ap 1 (0-ia)<|ad 0 m7<|ad 0 qB<|aK [aB 1]<|aj [.as (ax (fZ / 10))] iE<|aK [aB 1]<|aj [.as (ax ij)] lH<|aO 1 (ij≥mp) ?_ ?_ <;> intro h4 dT
   ·exact ap 2 ((0-((e+11)*78913 / 262144))-1)<|ap 0 (0-((0-((e+11)*78913 / 262144))-1))<|aV 2 (.tuple #[ax (fZ / 10),J (0-((0-((e+11)*78913 / 262144))-1))]) jU [H1.n+0] aQ aZ ⟨_,_,rfl,D,D,D,D⟩
   refine aO 4 (mp<fZ) ?_ ?_ <;> intro h5 ff
   ·have t6:=ea.kept iF ai pG
    have t7:=gC.kept kI ai t6
    have t8:=kY.kept pT ai t7
    obtain ⟨_,o9,tC,uS,uU,uI,rfl,Hz,HC⟩:=oZ (H1.n+0) lM lN (0-(e+((0-((e+11)*78913 / 262144))*108853 / 32768)+3)) m uV t8 D D
    have Gf:jU.n+0≤o9.n:=uS.n
    obtain ⟨_,pc,tD,uT,HQ,uG,rfl,HF,HI⟩:=De uI uU D D
    have Gg:o9.n+0≤pc.n:=uT.n
    exact ad 1 tC<|ad 0 tD<|ap 3 (0-(0-((e+11)*78913 / 262144)))<|aV 2 (.tuple #[ax uG,J (0-(0-((e+11)*78913 / 262144)))]) pc [H1.n+0] aQ aZ ⟨_,_,rfl,D,D,D,D⟩
   exact ap 2 (0-(0-((e+11)*78913 / 262144)))<|aV 2 (.tuple #[ax mp,J (0-(0-((e+11)*78913 / 262144)))]) jU [H1.n+0] aQ aZ ⟨_,_,rfl,D,D,D,D⟩
  obtain ⟨_,H1,c1,af,y1,rfl⟩:=Cs (e+(11+((-1085)-e))) y D D
  have cI:H.n+0≤H1.n:=af.n
  have g1:=y1.n
  obtain ⟨bc,oD,q7,uN⟩:=kH (m-(IntKind.u64.wrap (1*2 ^ (min ((11+((-1085)-e))-1).toNat IntKind.u64.bits))))
  have w1:((ax (IntKind.u64.wrap (m-(IntKind.u64.wrap (1*2 ^ (min ((11+((-1085)-e))-1).toNat IntKind.u64.bits)))))):Value)=(ax bc):=(by rw [oD])
  obtain ⟨fi,lZ,uL,tp⟩:=kH (m+(IntKind.u64.wrap (1*2 ^ (min ((11+((-1085)-e))-1).toNat IntKind.u64.bits))))
  have w2:((ax (IntKind.u64.wrap (m+(IntKind.u64.wrap (1*2 ^ (min ((11+((-1085)-e))-1).toNat IntKind.u64.bits)))))):Value)=(ax fi):=(by rw [lZ])
  obtain ⟨ia,tU,CY,CZ⟩:=Ba (IntKind.i64.wrap (Int.fdiv m (2 ^ (min (11+((-1085)-e)).toNat IntKind.u64.bits))))
  have w3:((J (IntKind.i64.wrap ((BitVec.ofInt 64 (IntKind.i64.wrap (Int.fdiv m (2 ^ (min (11+((-1085)-e)).toNat IntKind.u64.bits)))) &&& BitVec.ofInt 64 1).toNat:Int))):Value)=(J ia):=(by rw [tU])
  obtain ⟨_,H2,c2,ar,ah,rfl⟩:=Ct (0-((e+(11+((-1085)-e)))*78913 / 262144)) (y1.news (oM ov)) D D
  have cl:=dA ar
  have iW:=(y1.news (oM ov)).kept ar ai (aL (oM ov) H1 0 _ rfl)
  obtain ⟨_,H3,c3,aW,az,lM,lN,rfl,e6⟩:=C7 (H1.n+0) 0 0 0 e (0-((e+(11+((-1085)-e)))*78913 / 262144)) ((0-((e+(11+((-1085)-e)))*78913 / 262144))*108853 / 32768) ah iW D D D D D D D
  have dD:H2.n+0≤H3.n:=aW.n
  obtain ⟨_,H4,cY,c4,bz,pR,rfl,HA,HD⟩:=oZ (H1.n+0) lM lN (0-(e+((0-((e+(11+((-1085)-e)))*78913 / 262144))*108853 / 32768)+3)) bc az e6 D D
  have fB:H3.n+0≤H4.n:=c4.n
  obtain ⟨_,H5,dz,cV,cG,rfl⟩:=CW pR ia bz D D D D
  have gk:H4.n+0≤H5.n:=cV.n
  obtain ⟨_,fj,gH,fO,ea,mp,rfl,HG,HJ⟩:=Bg (pR+ia) cG D D
  have lC:H5.n+0≤fj.n:=fO.n
  have rJ:=az.kept c4 ai e6
  have t5:=bz.kept cV ai rJ
  have pG:=cG.kept fO ai t5
  obtain ⟨_,iy,kn,iF,gC,uJ,rfl,HB,HE⟩:=oZ (H1.n+0) lM lN (0-(e+((0-((e+(11+((-1085)-e)))*78913 / 262144))*108853 / 32768)+3)) fi ea pG D D
  have qh:fj.n+0≤iy.n:=iF.n
  obtain ⟨_,jT,m7,kI,kY,ur,rfl,Gm,Gn⟩:=CX uJ (0-ia) gC
  have z4:iy.n+0≤jT.n:=kI.n
  obtain ⟨_,jU,qB,pT,uV,fZ,rfl,HH,HK⟩:=Bt ur kY D D
  have Gh:jT.n+0≤jU.n:=pT.n
  have eo:((ax (IntKind.u64.wrap (Int.tdiv fZ 10))):Value)=(ax (fZ / 10)):=(by rw [kE (x:=fZ) D,nE D D])
  obtain ⟨ij,oE,yo,yq⟩:=kH ((fZ / 10)*10)
  have iE:((ax (IntKind.u64.wrap ((fZ / 10)*10))):Value)=(ax ij):=(by rw [oE])
  refine ap 3 ((-1085)-e)<|ap 0 (11+((-1085)-e))<|ap 3 (e+(11+((-1085)-e)))<|ad 0 c1<|ap 0 (0-((e+(11+((-1085)-e)))*78913 / 262144))<|ap 3 ((11+((-1085)-e))-1)<|aj [.ak] (by omega:0≤((11+((-1085)-e))-1))<|aj [.as (ax bc)] w1<|ap 3 ((11+((-1085)-e))-1)<|aj [.ak] (by omega:0≤((11+((-1085)-e))-1))<|aj [.as (ax fi)] w2<|aK [aB 2]<|aj [.ak] (by omega:0≤(11+((-1085)-e)))<|aK [aB 0]<|aj [.as (J ia)] w3<|ad 5 c2<|ad 0 c3<|ad 1 cY<|ad 1 dz<|ad 0 gH<|ad 2 kn<|ap 1 (0-ia)<|ad 0 m7<|ad 0 qB<|aK [aB 1]<|aj [.as (ax (fZ / 10))] eo<|aK [aB 1]<|aj [.as (ax ij)] iE<|aO 1 (ij≥mp) ?_ ?_ <;> intro h4 dT
  ·exact ap 2 ((0-((e+(11+((-1085)-e)))*78913 / 262144))-1)<|ap 0 (0-((0-((e+(11+((-1085)-e)))*78913 / 262144))-1))<|aV 2 (.tuple #[ax (fZ / 10),J (0-((0-((e+(11+((-1085)-e)))*78913 / 262144))-1))]) jU [H1.n+0] aQ aZ ⟨_,_,rfl,D,D,D,D⟩
  refine aO 4 (mp<fZ) ?_ ?_ <;> intro h5 ff
  ·have t6:=ea.kept iF ai pG
   have t7:=gC.kept kI ai t6
   have t8:=kY.kept pT ai t7
   obtain ⟨_,o9,tC,uS,uU,uI,rfl,Hz,HC⟩:=oZ (H1.n+0) lM lN (0-(e+((0-((e+(11+((-1085)-e)))*78913 / 262144))*108853 / 32768)+3)) m uV t8 D D
   have Gf:jU.n+0≤o9.n:=uS.n
   obtain ⟨_,pc,tD,uT,HQ,uG,rfl,HF,HI⟩:=De uI uU D D
   have Gg:o9.n+0≤pc.n:=uT.n
   exact ad 1 tC<|ad 0 tD<|ap 3 (0-(0-((e+(11+((-1085)-e)))*78913 / 262144)))<|aV 2 (.tuple #[ax uG,J (0-(0-((e+(11+((-1085)-e)))*78913 / 262144)))]) pc [H1.n+0] aQ aZ ⟨_,_,rfl,D,D,D,D⟩
  exact ap 2 (0-(0-((e+(11+((-1085)-e)))*78913 / 262144)))<|aV 2 (.tuple #[ax mp,J (0-(0-((e+(11+((-1085)-e)))*78913 / 262144)))]) jU [H1.n+0] aQ aZ ⟨_,_,rfl,D,D,D,D⟩
 refine aO 4 (e≥(-1085)) ?_ ?_ <;> intro h2 cw
 ·obtain ⟨_,H1,c1,af,y1,rfl⟩:=Cs (e+11) y D D
  have cI:H.n+0≤H1.n:=af.n
  have g1:=y1.n
  obtain ⟨bc,oD,q7,uN⟩:=kH (m-1024)
  have w1:((ax (IntKind.u64.wrap (m-1024))):Value)=(ax bc):=(by rw [oD])
  obtain ⟨fi,lZ,uL,tp⟩:=kH (m+1024)
  have w2:((ax (IntKind.u64.wrap (m+1024))):Value)=(ax fi):=(by rw [lZ])
  have w3:((ax (Int.fdiv m (2 ^ 11))):Value)=(ax (m / 2048)):=(by rw [jt (m:=2048) 11 (by decide) D])
  obtain ⟨ia,tU,CY,CZ⟩:=Ba (m / 2048)
  have eo:((J (IntKind.i64.wrap ((BitVec.ofInt 64 (m / 2048) &&& BitVec.ofInt 64 1).toNat:Int))):Value)=(J ia):=(by rw [tU])
  obtain ⟨_,H2,c2,ar,ah,rfl⟩:=Ct (0-((e+11)*78913 / 262144)) (y1.news (oM ov)) D D
  have cl:=dA ar
  have iW:=(y1.news (oM ov)).kept ar ai (aL (oM ov) H1 0 _ rfl)
  obtain ⟨_,H3,c3,aW,az,lM,lN,rfl,e6⟩:=C7 (H1.n+0) 0 0 0 e (0-((e+11)*78913 / 262144)) ((0-((e+11)*78913 / 262144))*108853 / 32768) ah iW D D D D D D D
  have dD:H2.n+0≤H3.n:=aW.n
  obtain ⟨_,H4,cY,c4,bz,pR,rfl,HA,HD⟩:=oZ (H1.n+0) lM lN (0-(e+((0-((e+11)*78913 / 262144))*108853 / 32768)+3)) bc az e6 D D
  have fB:H3.n+0≤H4.n:=c4.n
  obtain ⟨_,H5,dz,cV,cG,rfl⟩:=CW pR ia bz D D D D
  have gk:H4.n+0≤H5.n:=cV.n
  obtain ⟨_,fj,gH,fO,ea,mp,rfl,HG,HJ⟩:=Bg (pR+ia) cG D D
  have lC:H5.n+0≤fj.n:=fO.n
  have rJ:=az.kept c4 ai e6
  have t5:=bz.kept cV ai rJ
  have pG:=cG.kept fO ai t5
  obtain ⟨_,iy,kn,iF,gC,uJ,rfl,HB,HE⟩:=oZ (H1.n+0) lM lN (0-(e+((0-((e+11)*78913 / 262144))*108853 / 32768)+3)) fi ea pG D D
  have qh:fj.n+0≤iy.n:=iF.n
  obtain ⟨_,jT,m7,kI,kY,ur,rfl,Gm,Gn⟩:=CX uJ (0-ia) gC
  have z4:iy.n+0≤jT.n:=kI.n
  obtain ⟨_,jU,qB,pT,uV,fZ,rfl,HH,HK⟩:=Bt ur kY D D
  have Gh:jT.n+0≤jU.n:=pT.n
  have iE:((ax (IntKind.u64.wrap (Int.tdiv fZ 10))):Value)=(ax (fZ / 10)):=(by rw [kE (x:=fZ) D,nE D D])
  obtain ⟨ij,oE,yo,yq⟩:=kH ((fZ / 10)*10)
  have lH:((ax (IntKind.u64.wrap ((fZ / 10)*10))):Value)=(ax ij):=(by rw [oE])
  refine ap 2 (e+11)<|ad 0 c1<|ap 0 (0-((e+11)*78913 / 262144))<|aK [aB 4]<|aj [.as (ax bc)] w1<|aK [aB 4]<|aj [.as (ax fi)] w2<|aK [aB 2]<|aj [.as (ax (m / 2048))] w3<|ap 0 (m / 2048)<|aj [.as (J ia)] eo<|ad 5 c2<|ad 0 c3<|ad 1 cY<|ad 1 dz<|ad 0 gH<|ad 2 kn<|ap 1 (0-ia)<|ad 0 m7<|ad 0 qB<|aK [aB 1]<|aj [.as (ax (fZ / 10))] iE<|aK [aB 1]<|aj [.as (ax ij)] lH<|aO 1 (ij≥mp) ?_ ?_ <;> intro h3 dv
  ·exact ap 2 ((0-((e+11)*78913 / 262144))-1)<|ap 0 (0-((0-((e+11)*78913 / 262144))-1))<|aV 2 (.tuple #[ax (fZ / 10),J (0-((0-((e+11)*78913 / 262144))-1))]) jU [H1.n+0] aQ aZ ⟨_,_,rfl,D,D,D,D⟩
  refine aO 4 (mp<fZ) ?_ ?_ <;> intro h4 dT
  ·have t6:=ea.kept iF ai pG
   have t7:=gC.kept kI ai t6
   have t8:=kY.kept pT ai t7
   obtain ⟨_,o9,tC,uS,uU,uI,rfl,Hz,HC⟩:=oZ (H1.n+0) lM lN (0-(e+((0-((e+11)*78913 / 262144))*108853 / 32768)+3)) m uV t8 D D
   have Gf:jU.n+0≤o9.n:=uS.n
   obtain ⟨_,pc,tD,uT,HQ,uG,rfl,HF,HI⟩:=De uI uU D D
   have Gg:o9.n+0≤pc.n:=uT.n
   exact ad 1 tC<|ad 0 tD<|ap 3 (0-(0-((e+11)*78913 / 262144)))<|aV 2 (.tuple #[ax uG,J (0-(0-((e+11)*78913 / 262144)))]) pc [H1.n+0] aQ aZ ⟨_,_,rfl,D,D,D,D⟩
  exact ap 2 (0-(0-((e+11)*78913 / 262144)))<|aV 2 (.tuple #[ax mp,J (0-(0-((e+11)*78913 / 262144)))]) jU [H1.n+0] aQ aZ ⟨_,_,rfl,D,D,D,D⟩
 obtain ⟨_,H1,c1,af,y1,rfl⟩:=Cs (e+(11+((-1085)-e))) y D D
 have cI:H.n+0≤H1.n:=af.n
 have g1:=y1.n
 obtain ⟨bc,oD,q7,uN⟩:=kH (m-(IntKind.u64.wrap (1*2 ^ (min ((11+((-1085)-e))-1).toNat IntKind.u64.bits))))
 have w1:((ax (IntKind.u64.wrap (m-(IntKind.u64.wrap (1*2 ^ (min ((11+((-1085)-e))-1).toNat IntKind.u64.bits)))))):Value)=(ax bc):=(by rw [oD])
 obtain ⟨fi,lZ,uL,tp⟩:=kH (m+(IntKind.u64.wrap (1*2 ^ (min ((11+((-1085)-e))-1).toNat IntKind.u64.bits))))
 have w2:((ax (IntKind.u64.wrap (m+(IntKind.u64.wrap (1*2 ^ (min ((11+((-1085)-e))-1).toNat IntKind.u64.bits)))))):Value)=(ax fi):=(by rw [lZ])
 obtain ⟨ia,tU,CY,CZ⟩:=Ba (IntKind.i64.wrap (Int.fdiv m (2 ^ (min (11+((-1085)-e)).toNat IntKind.u64.bits))))
 have w3:((J (IntKind.i64.wrap ((BitVec.ofInt 64 (IntKind.i64.wrap (Int.fdiv m (2 ^ (min (11+((-1085)-e)).toNat IntKind.u64.bits)))) &&& BitVec.ofInt 64 1).toNat:Int))):Value)=(J ia):=(by rw [tU])
 obtain ⟨_,H2,c2,ar,ah,rfl⟩:=Ct (0-((e+(11+((-1085)-e)))*78913 / 262144)) (y1.news (oM ov)) D D
 have cl:=dA ar
 have iW:=(y1.news (oM ov)).kept ar ai (aL (oM ov) H1 0 _ rfl)
 obtain ⟨_,H3,c3,aW,az,lM,lN,rfl,e6⟩:=C7 (H1.n+0) 0 0 0 e (0-((e+(11+((-1085)-e)))*78913 / 262144)) ((0-((e+(11+((-1085)-e)))*78913 / 262144))*108853 / 32768) ah iW D D D D D D D
 have dD:H2.n+0≤H3.n:=aW.n
 obtain ⟨_,H4,cY,c4,bz,pR,rfl,HA,HD⟩:=oZ (H1.n+0) lM lN (0-(e+((0-((e+(11+((-1085)-e)))*78913 / 262144))*108853 / 32768)+3)) bc az e6 D D
 have fB:H3.n+0≤H4.n:=c4.n
 obtain ⟨_,H5,dz,cV,cG,rfl⟩:=CW pR ia bz D D D D
 have gk:H4.n+0≤H5.n:=cV.n
 obtain ⟨_,fj,gH,fO,ea,mp,rfl,HG,HJ⟩:=Bg (pR+ia) cG D D
 have lC:H5.n+0≤fj.n:=fO.n
 have rJ:=az.kept c4 ai e6
 have t5:=bz.kept cV ai rJ
 have pG:=cG.kept fO ai t5
 obtain ⟨_,iy,kn,iF,gC,uJ,rfl,HB,HE⟩:=oZ (H1.n+0) lM lN (0-(e+((0-((e+(11+((-1085)-e)))*78913 / 262144))*108853 / 32768)+3)) fi ea pG D D
 have qh:fj.n+0≤iy.n:=iF.n
 obtain ⟨_,jT,m7,kI,kY,ur,rfl,Gm,Gn⟩:=CX uJ (0-ia) gC
 have z4:iy.n+0≤jT.n:=kI.n
 obtain ⟨_,jU,qB,pT,uV,fZ,rfl,HH,HK⟩:=Bt ur kY D D
 have Gh:jT.n+0≤jU.n:=pT.n
 have eo:((ax (IntKind.u64.wrap (Int.tdiv fZ 10))):Value)=(ax (fZ / 10)):=(by rw [kE (x:=fZ) D,nE D D])
 obtain ⟨ij,oE,yo,yq⟩:=kH ((fZ / 10)*10)
 have iE:((ax (IntKind.u64.wrap ((fZ / 10)*10))):Value)=(ax ij):=(by rw [oE])
 refine ap 3 ((-1085)-e)<|ap 0 (11+((-1085)-e))<|ap 3 (e+(11+((-1085)-e)))<|ad 0 c1<|ap 0 (0-((e+(11+((-1085)-e)))*78913 / 262144))<|ap 3 ((11+((-1085)-e))-1)<|aj [.ak] (by omega:0≤((11+((-1085)-e))-1))<|aj [.as (ax bc)] w1<|ap 3 ((11+((-1085)-e))-1)<|aj [.ak] (by omega:0≤((11+((-1085)-e))-1))<|aj [.as (ax fi)] w2<|aK [aB 2]<|aj [.ak] (by omega:0≤(11+((-1085)-e)))<|aK [aB 0]<|aj [.as (J ia)] w3<|ad 5 c2<|ad 0 c3<|ad 1 cY<|ad 1 dz<|ad 0 gH<|ad 2 kn<|ap 1 (0-ia)<|ad 0 m7<|ad 0 qB<|aK [aB 1]<|aj [.as (ax (fZ / 10))] eo<|aK [aB 1]<|aj [.as (ax ij)] iE<|aO 1 (ij≥mp) ?_ ?_ <;> intro h3 dv
 ·exact ap 2 ((0-((e+(11+((-1085)-e)))*78913 / 262144))-1)<|ap 0 (0-((0-((e+(11+((-1085)-e)))*78913 / 262144))-1))<|aV 2 (.tuple #[ax (fZ / 10),J (0-((0-((e+(11+((-1085)-e)))*78913 / 262144))-1))]) jU [H1.n+0] aQ aZ ⟨_,_,rfl,D,D,D,D⟩
 refine aO 4 (mp<fZ) ?_ ?_ <;> intro h4 dT
 ·have t6:=ea.kept iF ai pG
  have t7:=gC.kept kI ai t6
  have t8:=kY.kept pT ai t7
  obtain ⟨_,o9,tC,uS,uU,uI,rfl,Hz,HC⟩:=oZ (H1.n+0) lM lN (0-(e+((0-((e+(11+((-1085)-e)))*78913 / 262144))*108853 / 32768)+3)) m uV t8 D D
  have Gf:jU.n+0≤o9.n:=uS.n
  obtain ⟨_,pc,tD,uT,HQ,uG,rfl,HF,HI⟩:=De uI uU D D
  have Gg:o9.n+0≤pc.n:=uT.n
  exact ad 1 tC<|ad 0 tD<|ap 3 (0-(0-((e+(11+((-1085)-e)))*78913 / 262144)))<|aV 2 (.tuple #[ax uG,J (0-(0-((e+(11+((-1085)-e)))*78913 / 262144)))]) pc [H1.n+0] aQ aZ ⟨_,_,rfl,D,D,D,D⟩
 exact ap 2 (0-(0-((e+(11+((-1085)-e)))*78913 / 262144)))<|aV 2 (.tuple #[ax mp,J (0-(0-((e+(11+((-1085)-e)))*78913 / 262144)))]) jU [H1.n+0] aQ aZ ⟨_,_,rfl,D,D,D,D⟩
theorem bq.get {xs:List Value} {n o:Nat} (h:bq xs n) (ho:o<n):∃ k:Int,xs[o]?=some (.int .u8 k):=by
 have hl:=h.len
 obtain ⟨k,hk⟩:=h.u (xs[o]'D) (List.getElem_mem _)
 exact ⟨k,by rw [gI D,hk]⟩
theorem D7:E.agg 5=some false:=av
theorem Tc {q n hi:Nat} {k:Int} (h0:0≤k) (h1:k≤32):ge E 42 (sc q 0 32 65) none (some (J k)) none=some (sc q 0 k.toNat 65):=by
 have hu:E.ul 42=some (.slice 5):=by kernel_rfl
 have hd:(decide (0≤k)&&decide (k≤((32:Nat):Int)))=true:=by rw [decide_eq_true D,decide_eq_true D];rfl
 simp only [ge,sc,hu,wD,show ko 65=.known 32 from rfl,nR,ju,qp,hd,cond_true,Option.isSome_none,Bool.false_and,cond_false]
 rfl
noncomputable def Xh:Code:=cN [1,0,1,0,1,1,0,0] (cH Tryz.f132)
theorem agu (q:Nat) (xs:List Value) (N dp:Int):∀(m:Nat) (aD:Int) (H:U),aa E G H→(aX:H.get q=some (O xs 204))→(hu:bq xs 32)→(x0:0≤aD)→(x1:aD≤N)→(au:N≤18)→(aY:G.n≤q)→aD.toNat=m→
  cy E G 36 Xh [(0,sc q 0 32 65),(3,J aD),(8,J dp)] H [] (fun x T H'=>(x=(.exit 0)∧∃(o7:Int),T=bl [(3,J o7),(8,J dp)]∧(0≤o7∧o7≤N))):=by
 refine d8 fun m ih=>?_
 intro aD H y aX hu x0 x1 au aY hm
 refine c9 y ?_
 refine aO 1 (aD>0) ?_ ?_ <;> intro h1 q1
 ·obtain ⟨j9,xu⟩:=bq.get (o:=(0+(aD-1).toNat*1)) hu D
  refine ap 3 (aD-1)<|bR 0 (aD-1) (32:Int)<|aj [dP (ab j9) H] (d7 D7 aX xu)<|cS 0 j9 48 ?_ ?_ <;> intro h2 cw
  ·exact ap 2 (aD-1)<|dU 1 [(0,sc q 0 32 65),(3,J (aD-1)),(8,J dp)] H (ih _ D (aD-1) _ y aX hu D D D aY rfl)
  exact dF 1 [(3,J aD),(8,J dp)] (.exit 0) H ⟨rfl,aD,rfl,⟨D,D⟩⟩
 exact dF 2 [(3,J aD),(8,J dp)] (.exit 0) H ⟨rfl,aD,rfl,⟨D,D⟩⟩
theorem S3 (q:Nat) (xs:List Value) (d p n:Int) {H:U} (y:aa E G H) (aX:H.get q=some (O xs 204)) (hu:bq xs 32) (aY:G.n≤q) (d0:0≤d) (d1:d<1000000000000000000) (dE:-400≤p) (p1:p≤400) (n0:0≤n) (n1:n≤18):aI E G 132 [sc q 0 32 65,ax d,J p,J n] H [q] (fun v H'=>∃ dp z:Int,v=.tuple #[.int .i64 dp,.int .i64 z]∧-500≤dp∧dp≤500∧0≤z∧z≤18∧∃ zs,H'.get q=some (O zs 204)∧bq zs 32):=by
 refine br Tryz.f132 y ?_
 refine aO 5 (n≤32) ?_ ?_ <;> intro h1 q1
 ·obtain ⟨_,H1,c1,af,y1,rfl,e9,Qf,gf⟩:=Bu q 0 n.toNat 65 32 204 _ d y aX hu D D aY D D
  obtain ⟨_,_,H2,c2,ar,ah,rfl,aiT,rfl,kV,Dh⟩:=(agu q e9 n (n+p) _ n _ y1 Qf gf D D D aY rfl).code
  have dQ:=y1.kept ar ai Qf
  exact et 2 H (Tc (n:=0) (hi:=0) D D:ge E 42 (sc q 0 32 65) none (some (J n)) none=some (sc q 0 n.toNat 65))<|ad 1 c1<|ap 2 (n+p)<|bW 1 c2<|aV 4 (.tuple #[J (n+p),J aiT]) H2 [q] bD bi ⟨_,_,rfl,D,D,D,D,_,dQ,gf⟩
 exact aV 4 (.tuple #[J 0,J n]) H [] aZ bi ⟨_,_,rfl,D,D,D,D,_,aX,hu⟩
theorem yS:nO E #[42,42] 5 1 1=true:=av
def qJ:Value→Bool
 |.int .u8 _=>true
 |_=>false
theorem PU {v:Value} (h:qJ v=true):∃ k:Int,v=.int .u8 k:=by
 cases v with
 |int k n=>cases k <;> first |exact ⟨n,rfl⟩ |cases h
 |_=>cases h
theorem bq.QM {xs:List Value} {n:Nat} (hl:xs.length=n) (h:xs.all qJ=true):bq xs n:=⟨hl,fun v hv=>PU (List.all_eq_true.1 h v hv)⟩
theorem bq.Ii {xs:List Value} {n:Nat} (h:bq xs n):xs.all qJ=true:=by
 rw [List.all_eq_true]
 intro v hv
 obtain ⟨k,rfl⟩:=h.u v hv
 rfl
theorem UI {xs l:List Value} (h:xs.all qJ=true) (s:∀ v∈l,v∈xs):l.all qJ=true:=by
 rw [List.all_eq_true] at h ⊢
 exact fun v hv=>h v (s v hv)
theorem bq.cut {xs:List Value} {n:Nat} (h:bq xs n) (o k:Nat):((xs.drop o).take k).all qJ=true:=UI h.Ii fun v hv=>List.mem_of_mem_drop (List.mem_of_mem_take hv)
theorem bq.Xp {xs:List Value} {n o k:Nat} (h:bq xs n) (hk:o+k≤n):((xs.drop o).take k).length=k:=by
 rw [List.length_take,List.length_drop,h.len];omega
theorem vd {l:List Value} (h:l.all qJ=true):l.all one=true:=by
 rw [List.all_eq_true] at h ⊢
 intro v hv
 obtain ⟨k,rfl⟩:=PU (h v hv)
 rfl
theorem Tp:∀(a:List Value) (k:Nat) (l:List Value),k+l.length≤a.length→(splice a k l).length=a.length:=by
 intro a
 induction a with
 |nil=>intro k l h;cases l <;> cases k <;> simp_all [splice]
 |cons x a ih=>
  intro k l h
  cases k with
  |zero=>
   cases l with
   |nil=>simp [splice]
   |cons y l=>
    simp only [splice,cj] at h ⊢
    rw [ih 0 l D]
  |succ k=>
   simp only [splice,cj] at h ⊢
   rw [ih k l D]
theorem Tn:∀(a:List Value) (k:Nat) (l:List Value),a.all qJ=true→l.all qJ=true→(splice a k l).all qJ=true:=by
 intro a
 induction a with
 |nil=>intro k l h hl;cases l <;> cases k <;> simp_all [splice]
 |cons x a ih=>
  intro k l h hl
  rw [List.all_cons,dI] at h
  cases k with
  |zero=>
   cases l with
   |nil=>simp only [splice,List.all_cons,dI];exact h
   |cons y l=>
    rw [List.all_cons,dI] at hl
    simp only [splice,List.all_cons,dI]
    exact ⟨hl.1,ih 0 l h.2 hl.2⟩
  |succ k=>
   simp only [splice,List.all_cons,dI]
   exact ⟨h.1,ih k l h.2 hl⟩
theorem kK {ts:Array TypeId} (hc:nO E ts 5 1 1=true) {q n m:Nat} {xs new:List Value} {R:List Nat} {x:Value} {H:U} (hu:bq xs 24) (aX:H.get q=some (O xs 5)) (hs:pP x 1=true) (hx:hG H 1 x=some (m,new,R)) (ho:new.all qJ=true) (hl:new.length=m) (hm:n+m≤24) :
  ∃ zs,bq zs 24∧eW E ts (sc q 0 n 49) x H=some (sc q 0 (n+m) 49,H.set q (O zs 5),[q],q::R):=by
 obtain ⟨i,h1,h2,h3⟩:=Bb hc
 have ZZ:=hu.len
 refine ⟨splice xs (0+n*i.size) new,bq.QM ?_ (Tn _ _ _ hu.Ii ho),?_⟩
 ·rw [Tp _ _ _ (by rw [h1];omega),ZZ]
 ·rw [h3 hs hx (vd ho)]
  unfold wY
  have e1:Nat.ble (n+m) 24=true:=Nat.ble_eq_true_of_le hm
  have e2:Nat.ble (0+(n+m)*i.size) xs.length=true:=Nat.ble_eq_true_of_le (by rw [h1];omega)
  simp only [sc,show ko 49=.known 24 from rfl,e1,cond_true,aX,e2]
theorem FG (x y:Int):∃ z:Int,(if y<x then y else x)=z∧(z=x∨z=y)∧z≤x∧z≤y:=by
 by_cases h:y<x
 ·exact ⟨y,if_pos h,.inr rfl,D,D⟩
 ·exact ⟨x,if_neg h,.inl rfl,D,D⟩
theorem Cx (x y:Int):∃ z:Int,(if y>x then y else x)=z∧(z=x∨z=y)∧x≤z∧y≤z:=by
 by_cases h:y>x
 ·exact ⟨y,if_pos h,.inr rfl,D,D⟩
 ·exact ⟨x,if_neg h,.inl rfl,D,D⟩
theorem agS {q:Nat} {k:Int} (h0:1≤k) (h1:k≤32):ge E 42 (sc q 0 32 65) (some (J 1)) (some (J k)) none=some (sc q 1 (k.toNat-1) 63):=by
 have hu:E.ul 42=some (.slice 5):=by kernel_rfl
 have hd:(decide (0≤k)&&decide (k≤((32:Nat):Int)))=true:=by rw [decide_eq_true D,decide_eq_true D];rfl
 have YW:(decide ((0:Int)≤1)&&decide ((1:Int)≤(k.toNat:Int)))=true:=by rw [decide_eq_true D,decide_eq_true D];rfl
 simp only [ge,sc,hu,wD,show ko 65=.known 32 from rfl,nR,ju,qp,hd,YW,cond_true,Option.isSome_none,Bool.false_and,cond_false]
 rfl
noncomputable def VP:Code:=cN [1,1,0,1,0,1,0,1,1,1,1,0,1,0,1,1,1,1,1,0,0] (cH Tryz.f129)
noncomputable abbrev wa H:=news H [O [ab 48] 5]
theorem OU (q b:Nat) (ys:List Value) (fx N c3 cY gH:Int):∀(m:Nat) (tq:Int) (n:Nat) (xs:List Value) (H:U),aa E G H→(aX:H.get q=some (O xs 5))→(kb:H.get b=some (O ys 204))→(hu:bq xs 24)→(hy:bq ys 32)→(x0:0≤tq)→(x1:tq≤fx)→(hN:(n:Int)+(fx-tq)=N)→(ng:N≤24)→(hT:fx≤24)→(aY:G.n≤q)→(gq:q≠b)→(fx-tq).toNat=m→
  cy E G 272 VP [(0,sc q 0 n 49),(3,J c3),(4,J cY),(6,ab gH),(113,J fx),(114,J tq)] H [q] (fun x T H'=>(x=(.exit 1)∧∃(ix:Nat) (zs:List Value),T=bl [(0,sc q 0 ix 49),(3,J c3),(4,J cY),(6,ab gH)]∧(H'.get q=some (O zs 5)∧bq zs 24∧(ix:Int)=N))):=by
 refine d8 fun m ih=>?_
 intro tq n xs H y aX kb hu hy x0 x1 hN ng hT aY gq hm
 refine c9 y ?_
 have iX:=y.wf.lt aX
 refine aO 0 (tq<fx) ?_ ?_ <;> intro h1 q1
 ·obtain ⟨e9,gf,iK⟩:=kK (ts:=#[42,42]) (n:=n) (m:=1) (x:=(sc (H.n+0) 0 1 3)) yS hu (y.old aX [O [ab 48] 5]) rfl (gt (sz:=1) (aL [O [ab 48] 5] H 0 _ rfl) (ec rfl)) rfl rfl D
  obtain ⟨aS,e1⟩:∃ ao,ao=(wa H).set q (O e9 5):=⟨_,rfl⟩
  have y1:aa E G aS:=e1▸(y.news [O [ab 48] 5]).set _ D (by rw [bU];simp only [cj,cF];omega)
  have cE:=bC e1
  have fP:=bu e1 D (y.old kb [O [ab 48] 5])
  exact eL 2 (show eW E #[42,42] (sc q 0 n 49) (sc (H.n+0) 0 1 3) (wa H)=some (sc q 0 (n+1) 49,aS,[q],[q,H.n+0]) from iK.trans (by rw [e1]))<|ap 1 (tq+1)<|dY 1 [(0,sc q 0 (n+1) 49),(3,J c3),(4,J cY),(6,ab gH),(113,J fx),(114,J (tq+1))] aS [q] bD (ih _ D (tq+1) (n+1) e9 _ y1 cE fP gf hy D D D ng hT aY gq rfl)
 exact en 0 [(0,sc q 0 n 49),(3,J c3),(4,J cY),(6,ab gH)] (.exit 1) H [] aZ bi ⟨rfl,n,xs,rfl,⟨aX,hu,D⟩⟩
noncomputable def VQ:Code:=cN [1,1,0,1,0,1,1,1,0,1,0,1,0,1,0,1,0,0] (cH Tryz.f129)
noncomputable abbrev F1 H j9:=news H [O [ab j9] 5]
theorem XI (q b:Nat) (ys:List Value) (fx N c3 cY dz El:Int) (k:Nat):∀(m:Nat) (q8:Int) (n:Nat) (xs:List Value) (H:U),aa E G H→(aX:H.get q=some (O xs 5))→(kb:H.get b=some (O ys 204))→(hu:bq xs 24)→(hy:bq ys 32)→(x0:0≤q8)→(x1:q8≤fx)→(hN:(n:Int)+(fx-q8)=N)→(ng:N≤24)→(hT:fx≤24)→(aY:G.n≤q)→(gq:q≠b)→(sC:(k:Int)=fx)→(Bq:k≤32)→(fx-q8).toNat=m→
  cy E G 272 VQ [(0,sc q 0 n 49),(2,sc b 0 32 65),(3,J c3),(4,J cY),(5,J dz),(23,J El),(189,sc b 0 k 65),(190,J fx),(191,J q8)] H [q] (fun x T H'=>(x=(.exit 4)∧∃(ix:Nat) (zs:List Value),T=bl [(0,sc q 0 ix 49),(2,sc b 0 32 65),(3,J c3),(4,J cY),(5,J dz),(23,J El)]∧(H'.get q=some (O zs 5)∧bq zs 24∧(ix:Int)=N))):=by
 refine d8 fun m ih=>?_
 intro q8 n xs H y aX kb hu hy x0 x1 hN ng hT aY gq sC Bq hm
 refine c9 y ?_
 have iX:=y.wf.lt aX
 refine aO 0 (q8<fx) ?_ ?_ <;> intro h1 q1
 ·obtain ⟨j9,xu⟩:=bq.get (o:=(0+q8.toNat*1)) hy D
  obtain ⟨e9,gf,iK⟩:=kK (ts:=#[42,42]) (n:=n) (m:=1) (x:=(sc (H.n+0) 0 1 3)) yS hu (y.old aX [O [ab j9] 5]) rfl (gt (sz:=1) (aL [O [ab j9] 5] H 0 _ rfl) (ec rfl)) rfl rfl D
  obtain ⟨aS,e1⟩:∃ ao,ao=(F1 H j9).set q (O e9 5):=⟨_,rfl⟩
  have y1:aa E G aS:=e1▸(y.news [O [ab j9] 5]).set _ D (by rw [bU];simp only [cj,cF];omega)
  have cE:=bC e1
  have fP:=bu e1 D (y.old kb [O [ab j9] 5])
  exact bR 0 q8 (k:Int)<|aj [dP (ab j9) H] (d7 D7 kb xu)<|eL 4 (show eW E #[42,42] (sc q 0 n 49) (sc (H.n+0) 0 1 3) (F1 H j9)=some (sc q 0 (n+1) 49,aS,[q],[q,H.n+0]) from iK.trans (by rw [e1]))<|ap 1 (q8+1)<|dY 1 [(0,sc q 0 (n+1) 49),(2,sc b 0 32 65),(3,J c3),(4,J cY),(5,J dz),(23,J El),(189,sc b 0 k 65),(190,J fx),(191,J (q8+1))] aS [q] bD (ih _ D (q8+1) (n+1) e9 _ y1 cE fP gf hy D D D ng hT aY gq sC Bq rfl)
 exact en 0 [(0,sc q 0 n 49),(2,sc b 0 32 65),(3,J c3),(4,J cY),(5,J dz),(23,J El)] (.exit 4) H [] aZ bi ⟨rfl,n,xs,rfl,⟨aX,hu,D⟩⟩
noncomputable def VR:Code:=cN [1,1,0,1,0,1,1,1,0,1,0,1,0,1,1,1,0,0] (cH Tryz.f129)
theorem XJ (q b:Nat) (ys:List Value) (fx N c3 cY dz:Int):∀(m:Nat) (tr:Int) (n:Nat) (xs:List Value) (H:U),aa E G H→(aX:H.get q=some (O xs 5))→(kb:H.get b=some (O ys 204))→(hu:bq xs 24)→(hy:bq ys 32)→(x0:0≤tr)→(x1:tr≤fx)→(hN:(n:Int)+(fx-tr)=N)→(ng:N≤24)→(hT:fx≤24)→(aY:G.n≤q)→(gq:q≠b)→(fx-tr).toNat=m→
  cy E G 272 VR [(0,sc q 0 n 49),(2,sc b 0 32 65),(3,J c3),(4,J cY),(5,J dz),(202,J fx),(203,J tr)] H [q] (fun x T H'=>(x=(.exit 6)∧∃(ix:Nat) (zs:List Value),T=bl [(0,sc q 0 ix 49),(2,sc b 0 32 65),(3,J c3),(4,J cY),(5,J dz)]∧(H'.get q=some (O zs 5)∧bq zs 24∧(ix:Int)=N))):=by
 refine d8 fun m ih=>?_
 intro tr n xs H y aX kb hu hy x0 x1 hN ng hT aY gq hm
 refine c9 y ?_
 have iX:=y.wf.lt aX
 refine aO 0 (tr<fx) ?_ ?_ <;> intro h1 q1
 ·obtain ⟨e9,gf,iK⟩:=kK (ts:=#[42,42]) (n:=n) (m:=1) (x:=(sc (H.n+0) 0 1 3)) yS hu (y.old aX [O [ab 48] 5]) rfl (gt (sz:=1) (aL [O [ab 48] 5] H 0 _ rfl) (ec rfl)) rfl rfl D
  obtain ⟨aS,e1⟩:∃ ao,ao=(wa H).set q (O e9 5):=⟨_,rfl⟩
  have y1:aa E G aS:=e1▸(y.news [O [ab 48] 5]).set _ D (by rw [bU];simp only [cj,cF];omega)
  have cE:=bC e1
  have fP:=bu e1 D (y.old kb [O [ab 48] 5])
  exact eL 2 (show eW E #[42,42] (sc q 0 n 49) (sc (H.n+0) 0 1 3) (wa H)=some (sc q 0 (n+1) 49,aS,[q],[q,H.n+0]) from iK.trans (by rw [e1]))<|ap 1 (tr+1)<|dY 1 [(0,sc q 0 (n+1) 49),(2,sc b 0 32 65),(3,J c3),(4,J cY),(5,J dz),(202,J fx),(203,J (tr+1))] aS [q] bD (ih _ D (tr+1) (n+1) e9 _ y1 cE fP gf hy D D D ng hT aY gq rfl)
 exact en 0 [(0,sc q 0 n 49),(2,sc b 0 32 65),(3,J c3),(4,J cY),(5,J dz)] (.exit 6) H [] aZ bi ⟨rfl,n,xs,rfl,⟨aX,hu,D⟩⟩
noncomputable def VS:Code:=cN [1,1,0,1,0,1,1,1,0,1,1,0,1,0,1,1,1,1,1,0,1,0,0] (cH Tryz.f129)
theorem XK (q b:Nat) (ys:List Value) (fx N oq Em tE:Int):∀(m:Nat) (tu:Int) (n:Nat) (xs:List Value) (H:U),aa E G H→(aX:H.get q=some (O xs 5))→(kb:H.get b=some (O ys 204))→(hu:bq xs 24)→(hy:bq ys 32)→(x0:0≤tu)→(x1:tu≤fx)→(hN:(n:Int)+(fx-tu)=N)→(ng:N≤24)→(hT:fx≤24)→(aY:G.n≤q)→(gq:q≠b)→(fx-tu).toNat=m→
  cy E G 272 VS [(0,sc q 0 n 49),(2,sc b 0 32 65),(27,J oq),(28,J Em),(29,J tE),(239,J fx),(240,J tu)] H [q] (fun x T H'=>(x=(.exit 8)∧∃(ix:Nat) (zs:List Value),T=bl [(0,sc q 0 ix 49),(2,sc b 0 32 65),(27,J oq),(28,J Em),(29,J tE)]∧(H'.get q=some (O zs 5)∧bq zs 24∧(ix:Int)=N))):=by
 refine d8 fun m ih=>?_
 intro tu n xs H y aX kb hu hy x0 x1 hN ng hT aY gq hm
 refine c9 y ?_
 have iX:=y.wf.lt aX
 refine aO 0 (tu<fx) ?_ ?_ <;> intro h1 q1
 ·obtain ⟨e9,gf,iK⟩:=kK (ts:=#[42,42]) (n:=n) (m:=1) (x:=(sc (H.n+0) 0 1 3)) yS hu (y.old aX [O [ab 48] 5]) rfl (gt (sz:=1) (aL [O [ab 48] 5] H 0 _ rfl) (ec rfl)) rfl rfl D
  obtain ⟨aS,e1⟩:∃ ao,ao=(wa H).set q (O e9 5):=⟨_,rfl⟩
  have y1:aa E G aS:=e1▸(y.news [O [ab 48] 5]).set _ D (by rw [bU];simp only [cj,cF];omega)
  have cE:=bC e1
  have fP:=bu e1 D (y.old kb [O [ab 48] 5])
  exact eL 2 (show eW E #[42,42] (sc q 0 n 49) (sc (H.n+0) 0 1 3) (wa H)=some (sc q 0 (n+1) 49,aS,[q],[q,H.n+0]) from iK.trans (by rw [e1]))<|ap 1 (tu+1)<|dY 1 [(0,sc q 0 (n+1) 49),(2,sc b 0 32 65),(27,J oq),(28,J Em),(29,J tE),(239,J fx),(240,J (tu+1))] aS [q] bD (ih _ D (tu+1) (n+1) e9 _ y1 cE fP gf hy D D D ng hT aY gq rfl)
 exact en 0 [(0,sc q 0 n 49),(2,sc b 0 32 65),(27,J oq),(28,J Em),(29,J tE)] (.exit 8) H [] aZ bi ⟨rfl,n,xs,rfl,⟨aX,hu,D⟩⟩
noncomputable def VT:Code:=cN [1,1,0,1,0,1,1,1,0,1,1,0,1,0,1,1,1,1,1,1,0,1,0,0] (cH Tryz.f129)
theorem XL (q b:Nat) (ys:List Value) (fx N oq tE:Int):∀(m:Nat) (qt:Int) (n:Nat) (xs:List Value) (H:U),aa E G H→(aX:H.get q=some (O xs 5))→(kb:H.get b=some (O ys 204))→(hu:bq xs 24)→(hy:bq ys 32)→(x0:0≤qt)→(x1:qt≤fx)→(hN:(n:Int)+(fx-qt)=N)→(ng:N≤24)→(hT:fx≤24)→(aY:G.n≤q)→(gq:q≠b)→(sC:0≤oq)→(Bq:oq+fx≤32)→(fx-qt).toNat=m→
  cy E G 272 VT [(0,sc q 0 n 49),(2,sc b 0 32 65),(27,J oq),(29,J tE),(246,J fx),(247,J qt)] H [q] (fun x T H'=>(x=(.exit 10)∧∃(ix:Nat) (zs:List Value),T=bl [(0,sc q 0 ix 49),(29,J tE)]∧(H'.get q=some (O zs 5)∧bq zs 24∧(ix:Int)=N))):=by
 refine d8 fun m ih=>?_
 intro qt n xs H y aX kb hu hy x0 x1 hN ng hT aY gq sC Bq hm
 refine c9 y ?_
 have iX:=y.wf.lt aX
 refine aO 0 (qt<fx) ?_ ?_ <;> intro h1 q1
 ·obtain ⟨j9,xu⟩:=bq.get (o:=(0+(oq+qt).toNat*1)) hy D
  obtain ⟨e9,gf,iK⟩:=kK (ts:=#[42,42]) (n:=n) (m:=1) (x:=(sc (H.n+0) 0 1 3)) yS hu (y.old aX [O [ab j9] 5]) rfl (gt (sz:=1) (aL [O [ab j9] 5] H 0 _ rfl) (ec rfl)) rfl rfl D
  obtain ⟨aS,e1⟩:∃ ao,ao=(F1 H j9).set q (O e9 5):=⟨_,rfl⟩
  have y1:aa E G aS:=e1▸(y.news [O [ab j9] 5]).set _ D (by rw [bU];simp only [cj,cF];omega)
  have cE:=bC e1
  have fP:=bu e1 D (y.old kb [O [ab j9] 5])
  exact ap 6 (oq+qt)<|bR 0 (oq+qt) (32:Int)<|aj [dP (ab j9) H] (d7 D7 kb xu)<|eL 1 (show eW E #[42,42] (sc q 0 n 49) (sc (H.n+0) 0 1 3) (F1 H j9)=some (sc q 0 (n+1) 49,aS,[q],[q,H.n+0]) from iK.trans (by rw [e1]))<|ap 1 (qt+1)<|dY 1 [(0,sc q 0 (n+1) 49),(2,sc b 0 32 65),(27,J oq),(29,J tE),(246,J fx),(247,J (qt+1))] aS [q] bD (ih _ D (qt+1) (n+1) e9 _ y1 cE fP gf hy D D D ng hT aY gq sC Bq rfl)
 exact en 0 [(0,sc q 0 n 49),(29,J tE)] (.exit 10) H [] aZ bi ⟨rfl,n,xs,rfl,⟨aX,hu,D⟩⟩
noncomputable def VU:Code:=cN [1,1,0,1,0,1,1,1,0,1,1,0,1,0,1,1,1,1,1,1,1,1,0,0] (cH Tryz.f129)
theorem XM (q b:Nat) (ys:List Value) (fx N :Int):∀(m:Nat) (tv:Int) (n:Nat) (xs:List Value) (H:U),aa E G H→(aX:H.get q=some (O xs 5))→(kb:H.get b=some (O ys 204))→(hu:bq xs 24)→(hy:bq ys 32)→(x0:0≤tv)→(x1:tv≤fx)→(hN:(n:Int)+(fx-tv)=N)→(ng:N≤24)→(hT:fx≤24)→(aY:G.n≤q)→(gq:q≠b)→(fx-tv).toNat=m→
  cy E G 272 VU [(0,sc q 0 n 49),(260,J fx),(261,J tv)] H [q] (fun x T H'=>(x=(.exit 12)∧∃(ix:Nat) (zs:List Value),T=bl [(0,sc q 0 ix 49)]∧(H'.get q=some (O zs 5)∧bq zs 24∧(ix:Int)=N))):=by
 refine d8 fun m ih=>?_
 intro tv n xs H y aX kb hu hy x0 x1 hN ng hT aY gq hm
 refine c9 y ?_
 have iX:=y.wf.lt aX
 refine aO 0 (tv<fx) ?_ ?_ <;> intro h1 q1
 ·obtain ⟨e9,gf,iK⟩:=kK (ts:=#[42,42]) (n:=n) (m:=1) (x:=(sc (H.n+0) 0 1 3)) yS hu (y.old aX [O [ab 48] 5]) rfl (gt (sz:=1) (aL [O [ab 48] 5] H 0 _ rfl) (ec rfl)) rfl rfl D
  obtain ⟨aS,e1⟩:∃ ao,ao=(wa H).set q (O e9 5):=⟨_,rfl⟩
  have y1:aa E G aS:=e1▸(y.news [O [ab 48] 5]).set _ D (by rw [bU];simp only [cj,cF];omega)
  have cE:=bC e1
  have fP:=bu e1 D (y.old kb [O [ab 48] 5])
  exact eL 2 (show eW E #[42,42] (sc q 0 n 49) (sc (H.n+0) 0 1 3) (wa H)=some (sc q 0 (n+1) 49,aS,[q],[q,H.n+0]) from iK.trans (by rw [e1]))<|ap 1 (tv+1)<|dY 1 [(0,sc q 0 (n+1) 49),(260,J fx),(261,J (tv+1))] aS [q] bD (ih _ D (tv+1) (n+1) e9 _ y1 cE fP gf hy D D D ng hT aY gq rfl)
 exact en 0 [(0,sc q 0 n 49)] (.exit 12) H [] aZ bi ⟨rfl,n,xs,rfl,⟨aX,hu,D⟩⟩
theorem p0:nO E #[42,42] 5 1 1=true:=av
noncomputable def V0:Code:=cN [1,1,0,1,0,1,0,1,1,1,1,1,1,1,1,1,1] (cH Tryz.f129)
noncomputable abbrev EA dc:=([ab ((dc / 10)+48),ab ((dc%10)+48)]:List Value)
noncomputable abbrev Ri H dc:=news H (wh (EA dc))
noncomputable abbrev EB dc:=([ab ((dc / 100)+48),ab (((dc / 10)%10)+48),ab ((dc%10)+48)]:List Value)
noncomputable abbrev Rj H dc:=news H (wh (EB dc))
theorem I2 (q b:Nat) (ys:List Value) (dc:Int) (n:Nat) (xs:List Value) {H:U} (y:aa E G H) (aX:H.get q=some (O xs 5)) (kb:H.get b=some (O ys 204)) (hu:bq xs 24) (hy:bq ys 32) (aY:G.n≤q) (gq:q≠b) (a0:0≤dc) (a1:dc≤700) (hn:n≤21) :
  jF E G 272 V0 [(0,sc q 0 n 49),(22,J dc)] H [q] (fun x T H'=>(x=.ret∧∃  (ix:Nat) (zs:List Value),T=bl [(16,sc q 0 ix 49)]∧(H'.get q=some (O zs 5)∧bq zs 24∧(ix≤24)))):=by
 refine nA y ?_
 have iX:=y.wf.lt aX
 refine aO 1 (dc<10) ?_ ?_ <;> intro h1 q1
 ·have w1:((ab (IntKind.u8.wrap dc)):Value)=(ab dc):=(by rw [jl D D])
  have w2:((ab (IntKind.u8.wrap (dc+48))):Value)=(ab (dc+48)):=(by rw [jl D D])
  obtain ⟨e9,gf,iK⟩:=kK (ts:=#[42,42]) (n:=n) (m:=2) (x:=(sc (H.n+0) 0 2 5)) p0 hu (y.old aX [O [ab 48,ab (dc+48)] 5]) rfl (gt (sz:=1) (aL [O [ab 48,ab (dc+48)] 5] H 0 _ rfl) (ec rfl)) rfl rfl D
  obtain ⟨aS,e1⟩:∃ ao,ao=(news H [O [ab 48,ab (dc+48)] 5]).set q (O e9 5):=⟨_,rfl⟩
  have y1:aa E G aS:=e1▸(y.news [O [ab 48,ab (dc+48)] 5]).set _ D (by rw [bU];simp only [cj,cF];omega)
  have cE:=bC e1
  exact aK [aB 2]<|aj [.as (ab dc)] w1<|aj [.as (ab (dc+48))] w2<|eL 1 (show eW E #[42,42] (sc q 0 n 49) (sc (H.n+0) 0 2 5) (news H [O [ab 48,ab (dc+48)] 5])=some (sc q 0 (n+2) 49,aS,[q],[q,H.n+0]) from iK.trans (by rw [e1]))<|js 3 [(16,sc q 0 (n+2) 49)] .ret aS [q] bD bi ⟨rfl,n+2,e9,rfl,⟨cE,gf,D⟩⟩
 refine aO 2 (dc<100) ?_ ?_ <;> intro h2 cw
 ·have w1:((J (IntKind.i64.wrap (Int.tdiv dc 10))):Value)=(J (dc / 10)):=(by rw [kE (x:=dc) D,kX D D])
  have w2:((ab (IntKind.u8.wrap (dc / 10))):Value)=(ab (dc / 10)):=(by rw [jl D D])
  have w3:((ab (IntKind.u8.wrap ((dc / 10)+48))):Value)=(ab ((dc / 10)+48)):=(by rw [jl D D])
  have eo:((J (Int.tmod dc 10)):Value)=(J (dc%10)):=(by rw [jR (x:=dc) D])
  have iE:((ab (IntKind.u8.wrap (dc%10))):Value)=(ab (dc%10)):=(by rw [jl D D])
  have lH:((ab (IntKind.u8.wrap ((dc%10)+48))):Value)=(ab ((dc%10)+48)):=(by rw [jl D D])
  obtain ⟨e9,gf,iK⟩:=kK (ts:=#[42,42]) (n:=n) (m:=2) (x:=(sc (H.n+0) 0 2 5)) p0 hu (y.old aX (wh (EA dc))) rfl (gt (sz:=1) (aL (wh (EA dc)) H 0 _ rfl) (ec rfl)) rfl rfl D
  obtain ⟨aS,e1⟩:∃ ao,ao=(Ri H dc).set q (O e9 5):=⟨_,rfl⟩
  have y1:aa E G aS:=e1▸(y.news (wh (EA dc))).set _ D (by rw [bU];simp only [cj,cF];omega)
  have cE:=bC e1
  exact aK [aB 2]<|aj [.as (J (dc / 10))] w1<|aj [.as (ab (dc / 10))] w2<|aj [.as (ab ((dc / 10)+48))] w3<|aK [aB 0]<|aj [.as (J (dc%10))] eo<|aj [.as (ab (dc%10))] iE<|aj [.as (ab ((dc%10)+48))] lH<|eL 1 (show eW E #[42,42] (sc q 0 n 49) (sc (H.n+0) 0 2 5) (Ri H dc)=some (sc q 0 (n+2) 49,aS,[q],[q,H.n+0]) from iK.trans (by rw [e1]))<|js 3 [(16,sc q 0 (n+2) 49)] .ret aS [q] bD bi ⟨rfl,n+2,e9,rfl,⟨cE,gf,D⟩⟩
 have w1:((J (IntKind.i64.wrap (Int.tdiv dc 100))):Value)=(J (dc / 100)):=(by rw [kE (x:=dc) D,kX D D])
 have w2:((ab (IntKind.u8.wrap (dc / 100))):Value)=(ab (dc / 100)):=(by rw [jl D D])
 have w3:((ab (IntKind.u8.wrap ((dc / 100)+48))):Value)=(ab ((dc / 100)+48)):=(by rw [jl D D])
 have eo:((J (IntKind.i64.wrap (Int.tdiv dc 10))):Value)=(J (dc / 10)):=(by rw [kE (x:=dc) D,kX D D])
 have iE:((ab (IntKind.u8.wrap (dc / 10))):Value)=(ab (dc / 10)):=(by rw [jl D D])
 have lH:((ab (Int.tmod (dc / 10) 10)):Value)=(ab ((dc / 10)%10)):=(by rw [jR (x:=(dc / 10)) D])
 have tn:((ab (IntKind.u8.wrap (((dc / 10)%10)+48))):Value)=(ab (((dc / 10)%10)+48)):=(by rw [jl D D])
 have DI:((J (Int.tmod dc 10)):Value)=(J (dc%10)):=(by rw [jR (x:=dc) D])
 have DJ:((ab (IntKind.u8.wrap (dc%10))):Value)=(ab (dc%10)):=(by rw [jl D D])
 have yn:((ab (IntKind.u8.wrap ((dc%10)+48))):Value)=(ab ((dc%10)+48)):=(by rw [jl D D])
 obtain ⟨e9,gf,iK⟩:=kK (ts:=#[42,42]) (n:=n) (m:=3) (x:=(sc (H.n+0) 0 3 7)) p0 hu (y.old aX (wh (EB dc))) rfl (gt (sz:=1) (aL (wh (EB dc)) H 0 _ rfl) (ec rfl)) rfl rfl D
 obtain ⟨aS,e1⟩:∃ ao,ao=(Rj H dc).set q (O e9 5):=⟨_,rfl⟩
 have y1:aa E G aS:=e1▸(y.news (wh (EB dc))).set _ D (by rw [bU];simp only [cj,cF];omega)
 have cE:=bC e1
 exact aK [aB 2]<|aj [.as (J (dc / 100))] w1<|aj [.as (ab (dc / 100))] w2<|aj [.as (ab ((dc / 100)+48))] w3<|aK [aB 0]<|aj [.as (J (dc / 10))] eo<|aj [.as (ab (dc / 10))] iE<|aj [.as (ab ((dc / 10)%10))] lH<|aj [.as (ab (((dc / 10)%10)+48))] tn<|aK [aB 0]<|aj [.as (J (dc%10))] DI<|aj [.as (ab (dc%10))] DJ<|aj [.as (ab ((dc%10)+48))] yn<|eL 1 (show eW E #[42,42] (sc q 0 n 49) (sc (H.n+0) 0 3 7) (Rj H dc)=some (sc q 0 (n+3) 49,aS,[q],[q,H.n+0]) from iK.trans (by rw [e1]))<|js 3 [(16,sc q 0 (n+3) 49)] .ret aS [q] bD bi ⟨rfl,n+3,e9,rfl,⟨cE,gf,D⟩⟩
noncomputable def VY:Code:=cN [1,1,0,1,0,1,0,1,1,1,1,1] (cH Tryz.f129)
noncomputable abbrev F2 aS:=news aS [O [ab 43] 5]
theorem OY (q b:Nat) (ys:List Value) (aD:Int) (aA:Int) (n:Nat) (xs:List Value) {H:U} (y:aa E G H) (aX:H.get q=some (O xs 5)) (kb:H.get b=some (O ys 204)) (hu:bq xs 24) (hy:bq ys 32) (aY:G.n≤q) (gq:q≠b) (a0:-600≤aD) (a1:aD≤600) (hn:n≤19) :
  jF E G 272 VY [(0,sc q 0 n 49),(3,J aD),(4,J aA),(6,ab 101)] H [q] (fun x T H'=>(x=.ret∧∃  (ix:Nat) (zs:List Value),T=bl [(16,sc q 0 ix 49)]∧(H'.get q=some (O zs 5)∧bq zs 24∧(ix≤24)))):=by
 refine nA y ?_
 have iX:=y.wf.lt aX
 obtain ⟨e9,gf,iK⟩:=kK (ts:=#[42,42]) (n:=n) (m:=1) (x:=(sc (H.n+0) 0 1 3)) p0 hu (y.old aX [O [ab 101] 5]) rfl (gt (sz:=1) (aL [O [ab 101] 5] H 0 _ rfl) (ec rfl)) rfl rfl D
 obtain ⟨aS,e1⟩:∃ ao,ao=(news H [O [ab 101] 5]).set q (O e9 5):=⟨_,rfl⟩
 have y1:aa E G aS:=e1▸(y.news [O [ab 101] 5]).set _ D (by rw [bU];simp only [cj,cF];omega)
 have cI:aS.n=H.n+1:=by rw [e1,U.cB,bU] <;> rfl
 have cE:=bC e1
 refine eL 3 (show eW E #[42,42] (sc q 0 n 49) (sc (H.n+0) 0 1 3) (news H [O [ab 101] 5])=some (sc q 0 (n+1) 49,aS,[q],[q,H.n+0]) from iK.trans (by rw [e1]))<|ap 2 (aD-1)<|cS 2 aA 0 ?_ ?_ <;> intro h1 q1
 ·obtain ⟨zs2,ll,rd⟩:=kK (ts:=#[42,42]) (n:=(n+1)) (m:=1) (x:=(sc (aS.n+0) 0 1 3)) p0 gf (y1.old cE [O [ab 43] 5]) rfl (gt (sz:=1) (aL [O [ab 43] 5] aS 0 _ rfl) (ec rfl)) rfl rfl D
  obtain ⟨aF,e2⟩:∃ ao,ao=(F2 aS).set q (O zs2 5):=⟨_,rfl⟩
  have ah:aa E G aF:=e2▸(y1.news [O [ab 43] 5]).set _ D (by rw [bU];simp only [cj,cF];omega)
  have dQ:=bC e2
  have fP:=bu e1 D (y.old kb [O [ab 101] 5])
  have j7:=bu e2 D (y1.old fP [O [ab 43] 5])
  obtain ⟨_,_,H3,c3,aW,az,rfl,mV,qw,rfl,l6,p9,AE⟩:=I2 q b ys 0 ((n+1)+1) zs2 ah dQ j7 ll hy aY gq D D D
  exact eL 7 (show eW E #[42,42] (sc q 0 (n+1) 49) (sc (aS.n+0) 0 1 3) (F2 aS)=some (sc q 0 ((n+1)+1) 49,aF,[q],[q,aS.n+0]) from rd.trans (by rw [e2]))<|gS 1 0 c3<|js 0 [(16,sc q 0 mV 49)] .ret H3 [q,q,q] bD bi ⟨rfl,mV,qw,rfl,⟨l6,p9,D⟩⟩
 refine aO 1 ((aD-1)<0) ?_ ?_ <;> intro h2 cw
 ·obtain ⟨zs2,ll,rd⟩:=kK (ts:=#[42,42]) (n:=(n+1)) (m:=1) (x:=(sc (aS.n+0) 0 1 3)) p0 gf (y1.old cE [O [ab 45] 5]) rfl (gt (sz:=1) (aL [O [ab 45] 5] aS 0 _ rfl) (ec rfl)) rfl rfl D
  obtain ⟨aF,e2⟩:∃ ao,ao=(news aS [O [ab 45] 5]).set q (O zs2 5):=⟨_,rfl⟩
  have ah:aa E G aF:=e2▸(y1.news [O [ab 45] 5]).set _ D (by rw [bU];simp only [cj,cF];omega)
  have dQ:=bC e2
  have fP:=bu e1 D (y.old kb [O [ab 101] 5])
  have j7:=bu e2 D (y1.old fP [O [ab 45] 5])
  obtain ⟨_,_,H3,c3,aW,az,rfl,mV,qw,rfl,l6,p9,AE⟩:=I2 q b ys (0-(aD-1)) ((n+1)+1) zs2 ah dQ j7 ll hy aY gq D D D
  exact ap 2 (0-(aD-1))<|eL 4 (show eW E #[42,42] (sc q 0 (n+1) 49) (sc (aS.n+0) 0 1 3) (news aS [O [ab 45] 5])=some (sc q 0 ((n+1)+1) 49,aF,[q],[q,aS.n+0]) from rd.trans (by rw [e2]))<|gS 1 0 c3<|js 0 [(16,sc q 0 mV 49)] .ret H3 [q,q,q] bD bi ⟨rfl,mV,qw,rfl,⟨l6,p9,D⟩⟩
 obtain ⟨zs2,ll,rd⟩:=kK (ts:=#[42,42]) (n:=(n+1)) (m:=1) (x:=(sc (aS.n+0) 0 1 3)) p0 gf (y1.old cE [O [ab 43] 5]) rfl (gt (sz:=1) (aL [O [ab 43] 5] aS 0 _ rfl) (ec rfl)) rfl rfl D
 obtain ⟨aF,e2⟩:∃ ao,ao=(F2 aS).set q (O zs2 5):=⟨_,rfl⟩
 have ah:aa E G aF:=e2▸(y1.news [O [ab 43] 5]).set _ D (by rw [bU];simp only [cj,cF];omega)
 have dQ:=bC e2
 have fP:=bu e1 D (y.old kb [O [ab 101] 5])
 have j7:=bu e2 D (y1.old fP [O [ab 43] 5])
 obtain ⟨_,_,H3,c3,aW,az,rfl,mV,qw,rfl,l6,p9,AE⟩:=I2 q b ys (aD-1) ((n+1)+1) zs2 ah dQ j7 ll hy aY gq D D D
 exact eL 4 (show eW E #[42,42] (sc q 0 (n+1) 49) (sc (aS.n+0) 0 1 3) (F2 aS)=some (sc q 0 ((n+1)+1) 49,aF,[q],[q,aS.n+0]) from rd.trans (by rw [e2]))<|gS 1 0 c3<|js 0 [(16,sc q 0 mV 49)] .ret H3 [q,q,q] bD bi ⟨rfl,mV,qw,rfl,⟨l6,p9,D⟩⟩
noncomputable def VX:Code:=cN [1,1,0,1,0,1,0,1,1,1,1,0] (cH Tryz.f129)
noncomputable abbrev F3 H:=news H [O [ab 46] 5]
theorem OX (q b:Nat) (ys:List Value) (aD:Int) (aA:Int) (aE:Int) (n:Nat) (xs:List Value) {H:U} (y:aa E G H) (aX:H.get q=some (O xs 5)) (kb:H.get b=some (O ys 204)) (hu:bq xs 24) (hy:bq ys 32) (aY:G.n≤q) (gq:q≠b) (a0:0≤aA) (a1:aA≤18) (a2:aE=aA-1) (hn:n≤1) :
  jF E G 272 VX [(0,sc q 0 n 49),(2,sc b 0 32 65),(3,J aD),(4,J aA),(5,J aE),(6,ab 101)] H [q] (fun x T H'=>(x=.normal∧∃  (ix:Nat) (zs:List Value),T=bl [(0,sc q 0 ix 49),(3,J aD),(4,J aA),(6,ab 101)]∧(H'.get q=some (O zs 5)∧bq zs 24∧(ix≤19)))):=by
 refine nA y ?_
 have iX:=y.wf.lt aX
 refine aO 1 (aE>0) ?_ ?_ <;> intro h1 q1
 ·obtain ⟨e9,gf,iK⟩:=kK (ts:=#[42,42]) (n:=n) (m:=1) (x:=(sc (H.n+0) 0 1 3)) p0 hu (y.old aX [O [ab 46] 5]) rfl (gt (sz:=1) (aL [O [ab 46] 5] H 0 _ rfl) (ec rfl)) rfl rfl D
  obtain ⟨aS,e1⟩:∃ ao,ao=(F3 H).set q (O e9 5):=⟨_,rfl⟩
  have y1:aa E G aS:=e1▸(y.news [O [ab 46] 5]).set _ D (by rw [bU];simp only [cj,cF];omega)
  have cI:aS.n=H.n+1:=by rw [e1,U.cB,bU] <;> rfl
  have cE:=bC e1
  obtain ⟨gj,tR,FJ,Cw,Cy⟩:=FG aA (aE+1)
  have w1:((J (if (aE+1)<aA then (aE+1) else aA)):Value)=(J gj):=(by rw [tR])
  refine eL 2 (show eW E #[42,42] (sc q 0 n 49) (sc (H.n+0) 0 1 3) (F3 H)=some (sc q 0 (n+1) 49,aS,[q],[q,H.n+0]) from iK.trans (by rw [e1]))<|ap 4 (aE+1)<|aj [.as (J gj)] w1<|aO 3 (1<gj) ?_ ?_ <;> intro h2 cw
  ·have fP:=bu e1 D (y.old kb [O [ab 46] 5])
   obtain ⟨zs2,ll,rd⟩:=kK (ts:=#[42,42]) (n:=(n+1)) (m:=(gj.toNat-1)) (x:=(sc b 1 (gj.toNat-1) 63)) p0 gf cE rfl (gt (sz:=1) fP (by have:=bq.len hy;omega)) (bq.cut hy _ _) (by rw [bq.Xp hy D];omega) D
   obtain ⟨aF,e2⟩:∃ ao,ao=aS.set q (O zs2 5):=⟨_,rfl⟩
   have ah:aa E G aF:=e2▸y1.set _ D D
   have dQ:=bC e2
   have j7:=bu e2 D fP
   obtain ⟨_,_,H3,c3,aW,az,rfl,mV,qw,rfl,l6,p9,AE⟩:=(OU q b ys ((aE+1)-gj) (((((n+1)+(gj.toNat-1)):Nat):Int)+((aE+1)-gj)) aD aA 101 _ 0 ((n+1)+(gj.toNat-1)) zs2 _ ah dQ j7 ll hy D D D D D aY gq  rfl).code
   exact et 4 aS (agS D D:ge E 42 (sc b 0 32 65) (some (J 1)) (some (J gj)) none=some (sc b 1 (gj.toNat-1) 63))<|eL 0 (show eW E #[42,42] (sc q 0 (n+1) 49) (sc b 1 (gj.toNat-1) 63) aS=some (sc q 0 ((n+1)+(gj.toNat-1)) 49,aF,[q],[q,b]) from rd.trans (by rw [e2]))<|ap 4 (aE+1)<|ap 1 ((aE+1)-gj)<|bW 1 c3<|js 0 [(0,sc q 0 mV 49),(3,J aD),(4,J aA),(6,ab 101)] .normal H3 [q,q,q] bD bi ⟨rfl,mV,qw,rfl,⟨l6,p9,D⟩⟩
  have fP:=bu e1 D (y.old kb [O [ab 46] 5])
  obtain ⟨_,_,H2,c2,ar,ah,rfl,pV,yI,rfl,rM,tY,He⟩:=(OU q b ys ((aE+1)-1) ((((n+1):Nat):Int)+((aE+1)-1)) aD aA 101 _ 0 (n+1) e9 _ y1 cE fP gf hy D D D D D aY gq  rfl).code
  exact ap 1 (aE+1)<|ap 1 ((aE+1)-1)<|bW 1 c2<|js 0 [(0,sc q 0 pV 49),(3,J aD),(4,J aA),(6,ab 101)] .normal H2 [q,q] bD bi ⟨rfl,pV,yI,rfl,⟨rM,tY,D⟩⟩
 exact js 0 [(0,sc q 0 n 49),(3,J aD),(4,J aA),(6,ab 101)] .normal H [] aZ bi ⟨rfl,n,xs,rfl,⟨aX,hu,D⟩⟩
noncomputable def VV:Code:=cN [1,1,0,1,0,1,0,1,1,0] (cH Tryz.f129)
theorem OV (q b:Nat) (ys:List Value) (c3 dz:Int) (aA:Int) {H:U} (y:aa E G H) (kb:H.get b=some (O ys 204)) (hy:bq ys 32) :
  jF E G 272 VV [(0,sc q 0 0 49),(2,sc b 0 32 65),(3,J c3),(4,J aA),(5,J dz),(6,ab 101),(19,ab 48)] H [] (fun x T H'=>(x=.normal∧∃(aiS:Int),T=bl [(0,sc q 0 0 49),(2,sc b 0 32 65),(3,J c3),(4,J aA),(5,J dz),(6,ab 101),(19,ab aiS)])):=by
 refine nA y ?_
 refine iD 1 aA 0 ?_ ?_ <;> intro h1 q1
 ·obtain ⟨j9,xu⟩:=bq.get (o:=0) hy D
  exact aK [aB 1]<|aj [dP (ab j9) H] (d7 D7 kb xu)<|fu 1 [(0,sc q 0 0 49),(2,sc b 0 32 65),(3,J c3),(4,J aA),(5,J dz),(6,ab 101),(19,ab j9)] .normal H ⟨rfl,j9,rfl⟩
 exact fu 0 [(0,sc q 0 0 49),(2,sc b 0 32 65),(3,J c3),(4,J aA),(5,J dz),(6,ab 101),(19,ab 48)] .normal H ⟨rfl,48,rfl⟩
noncomputable def VZ:Code:=cN [1,1,0,1,0,1,1,1,0,1,0] (cH Tryz.f129)
theorem O0 (q b:Nat) (ys:List Value) (aD:Int) (aA:Int) (aE:Int) (n:Nat) (xs:List Value) {H:U} (y:aa E G H) (aX:H.get q=some (O xs 5)) (kb:H.get b=some (O ys 204)) (hu:bq xs 24) (hy:bq ys 32) (aY:G.n≤q) (gq:q≠b) (a0:aD≤6) (a1:0≤aA) (a2:aA≤18) (hn:n=0) :
  jF E G 272 VZ [(0,sc q 0 n 49),(2,sc b 0 32 65),(3,J aD),(4,J aA),(5,J aE)] H [q] (fun x T H'=>(x=.normal∧∃  (ix:Nat) (zs:List Value),T=bl [(0,sc q 0 ix 49),(2,sc b 0 32 65),(3,J aD),(4,J aA),(5,J aE)]∧(H'.get q=some (O zs 5)∧bq zs 24∧(0<aD→(ix:Int)=aD)∧(aD≤0→ix=1)))):=by
 refine nA y ?_
 have iX:=y.wf.lt aX
 refine aO 1 (aD>0) ?_ ?_ <;> intro h1 q1
 ·obtain ⟨gj,tR,FJ,Cw,Cy⟩:=FG aA aD
  have w1:((J (if aD<aA then aD else aA)):Value)=(J gj):=(by rw [tR])
  obtain ⟨_,_,H1,c1,af,y1,rfl,AZ,mu,rfl,pJ,jf,AD⟩:=(XI q b ys (gj.toNat:Int) ((n:Int)+(gj.toNat:Int)) aD aA aE gj gj.toNat _ 0 n xs _ y aX kb hu hy D D D D D aY gq D D rfl).code
  have fP:=y.kept af bB kb
  obtain ⟨_,_,H2,c2,ar,ah,rfl,pV,yI,rfl,rM,tY,He⟩:=(XJ q b ys (aD-gj) ((AZ:Int)+(aD-gj)) aD aA aE _ 0 AZ mu _ y1 pJ fP jf hy D D D D D aY gq  rfl).code
  exact aK [aB 1]<|aj [.as (J gj)] w1<|et 3 H (Tc (n:=0) (hi:=0) D D:ge E 42 (sc b 0 32 65) none (some (J gj)) none=some (sc b 0 gj.toNat 65))<|bW 2 c1<|ap 2 (aD-gj)<|bW 1 c2<|js 0 [(0,sc q 0 pV 49),(2,sc b 0 32 65),(3,J aD),(4,J aA),(5,J aE)] .normal H2 [q,q] bD bi ⟨rfl,pV,yI,rfl,⟨rM,tY,(by intro _;omega),(by intro _;omega)⟩⟩
 obtain ⟨e9,gf,iK⟩:=kK (ts:=#[42,42]) (n:=n) (m:=1) (x:=(sc (H.n+0) 0 1 3)) p0 hu (y.old aX [O [ab 48] 5]) rfl (gt (sz:=1) (aL [O [ab 48] 5] H 0 _ rfl) (ec rfl)) rfl rfl D
 obtain ⟨aS,e1⟩:∃ ao,ao=(news H [O [ab 48] 5]).set q (O e9 5):=⟨_,rfl⟩
 have y1:aa E G aS:=e1▸(y.news [O [ab 48] 5]).set _ D (by rw [bU];simp only [cj,cF];omega)
 have cE:=bC e1
 exact eL 2 (show eW E #[42,42] (sc q 0 n 49) (sc (H.n+0) 0 1 3) (news H [O [ab 48] 5])=some (sc q 0 (n+1) 49,aS,[q],[q,H.n+0]) from iK.trans (by rw [e1]))<|js 1 [(0,sc q 0 (n+1) 49),(2,sc b 0 32 65),(3,J aD),(4,J aA),(5,J aE)] .normal aS [q] bD bi ⟨rfl,n+1,e9,rfl,⟨cE,gf,(by intro _;omega),(by intro _;omega)⟩⟩
noncomputable def VW:Code:=cN [1,1,0,1,0,1,1,1,0,1,1] (cH Tryz.f129)
theorem OW (q b:Nat) (ys:List Value) (aD:Int) (aA:Int) (aE:Int) (n:Nat) (xs:List Value) {H:U} (y:aa E G H) (aX:H.get q=some (O xs 5)) (kb:H.get b=some (O ys 204)) (hu:bq xs 24) (hy:bq ys 32) (aY:G.n≤q) (gq:q≠b) (a0:-4≤aD) (a1:aD≤6) (a2:0≤aA) (a3:aA≤18) (a4:0≤aE) (a5:aE≤22) (a6:aA-aD≤aE) (hn:(n:Int)+1+aE≤24) :
  jF E G 272 VW [(0,sc q 0 n 49),(2,sc b 0 32 65),(3,J aD),(4,J aA),(5,J aE)] H [q] (fun x T H'=>(x=.ret∧∃  (ix:Nat) (zs:List Value),T=bl [(16,sc q 0 ix 49)]∧(H'.get q=some (O zs 5)∧bq zs 24∧(ix≤24)))):=by
 refine nA y ?_
 have iX:=y.wf.lt aX
 refine aO 1 (aE>0) ?_ ?_ <;> intro h1 q1
 ·obtain ⟨e9,gf,iK⟩:=kK (ts:=#[42,42]) (n:=n) (m:=1) (x:=(sc (H.n+0) 0 1 3)) p0 hu (y.old aX [O [ab 46] 5]) rfl (gt (sz:=1) (aL [O [ab 46] 5] H 0 _ rfl) (ec rfl)) rfl rfl D
  obtain ⟨aS,e1⟩:∃ ao,ao=(F3 H).set q (O e9 5):=⟨_,rfl⟩
  have y1:aa E G aS:=e1▸(y.news [O [ab 46] 5]).set _ D (by rw [bU];simp only [cj,cF];omega)
  have cE:=bC e1
  obtain ⟨gj,tR,FJ,Cw,Cy⟩:=Cx 0 (0-aD)
  have w1:((J (if (0-aD)>0 then (0-aD) else 0)):Value)=(J gj):=(by rw [tR])
  obtain ⟨lB,Zl,akA,acJ,acZ⟩:=FG aE gj
  have w2:((J (if gj<aE then gj else aE)):Value)=(J lB):=(by rw [Zl])
  obtain ⟨CC,Zm,akB,ako,akr⟩:=Cx 0 (aA-(aD+lB))
  have w3:((J (if (aA-(aD+lB))>0 then (aA-(aD+lB)) else 0)):Value)=(J CC):=(by rw [Zm])
  obtain ⟨uj,Zn,akC,akp,aks⟩:=FG (aE-lB) CC
  have eo:((J (if CC<(aE-lB) then CC else (aE-lB))):Value)=(J uj):=(by rw [Zn])
  obtain ⟨zQ,Zo,akD,akq,akt⟩:=Cx 0 ((aE-lB)-uj)
  have iE:((J (if ((aE-lB)-uj)>0 then ((aE-lB)-uj) else 0)):Value)=(J zQ):=(by rw [Zo])
  have fP:=bu e1 D (y.old kb [O [ab 46] 5])
  obtain ⟨_,_,H2,c2,ar,ah,rfl,pV,yI,rfl,rM,tY,He⟩:=(XK q b ys lB ((((n+1):Nat):Int)+lB) (aD+lB) uj zQ _ 0 (n+1) e9 _ y1 cE fP gf hy D D D D D aY gq  rfl).code
  have j7:=y1.kept ar bB fP
  obtain ⟨_,_,H3,c3,aW,az,rfl,mV,qw,rfl,l6,p9,AE⟩:=(XL q b ys uj ((pV:Int)+uj) (aD+lB) zQ _ 0 pV yI _ ah rM j7 tY hy D D D D D aY gq D D rfl).code
  have t4:=ah.kept aW bB j7
  obtain ⟨_,_,H4,cY,c4,bz,rfl,wO,Nn,rfl,ue,B2,Td⟩:=(XM q b ys zQ ((mV:Int)+zQ)  _ 0 mV qw _ az l6 t4 p9 hy D D D D D aY gq  rfl).code
  exact eL 2 (show eW E #[42,42] (sc q 0 n 49) (sc (H.n+0) 0 1 3) (F3 H)=some (sc q 0 (n+1) 49,aS,[q],[q,H.n+0]) from iK.trans (by rw [e1]))<|ap 3 (0-aD)<|aj [.as (J gj)] w1<|aj [.as (J lB)] w2<|ap 3 (aD+lB)<|ap 3 (aE-lB)<|ap 2 (aA-(aD+lB))<|aj [.as (J CC)] w3<|aj [.as (J uj)] eo<|ap 3 (aE-lB)<|ap 1 ((aE-lB)-uj)<|aj [.as (J zQ)] iE<|bW 3 c2<|bW 2 c3<|bW 2 cY<|js 2 [(16,sc q 0 wO 49)] .ret H4 (Sx q) bD bi ⟨rfl,wO,Nn,rfl,⟨ue,B2,D⟩⟩
 exact js 2 [(16,sc q 0 n 49)] .ret H [] aZ bi ⟨rfl,n,xs,rfl,⟨aX,hu,D⟩⟩
noncomputable abbrev F4 H1 o6:=news H1 [O [ab o6] 5]
theorem OZ (q b:Nat) (xs ys:List Value) (dp nd:Int) {H:U} (y:aa E G H) (aX:H.get q=some (O xs 5)) (hu:bq xs 24) (kb:H.get b=some (O ys 204)) (hy:bq ys 32) (aY:G.n≤q) (gq:q≠b) (d0:-600≤dp) (d1:dp≤600) (n0:0≤nd) (n1:nd≤18):aI E G 129 [sc q 0 0 49,Y,sc b 0 32 65,J dp,J nd,J nd,ab 103,aN] H [q] (fun v H'=>∃(n:Nat) (zs:List Value),v=sc q 0 n 49∧H'.get q=some (O zs 5)∧bq zs 24∧n≤24):=by
 refine br Tryz.f129 y ?_
 have iX:=y.wf.lt aX
 refine aH 9 (decide_eq_false D:(decide (nd>nd))=false)<|ap 5 (dp-1)<|aO 2 ((dp-1)<(-4)) ?_ ?_ <;> intro h1 q1
 ·obtain ⟨_,_,H1,c1,af,y1,rfl,o6,rfl⟩:=OV q b ys dp (nd-1) nd y kb hy
  have cI:H.n+0≤H1.n:=af.n
  have cE:=y.kept af ai aX
  obtain ⟨zs2,ll,rd⟩:=kK (ts:=#[42,42]) (n:=0) (m:=1) (x:=(sc (H1.n+0) 0 1 3)) p0 hu (y1.old cE [O [ab o6] 5]) rfl (gt (sz:=1) (aL [O [ab o6] 5] H1 0 _ rfl) (ec rfl)) rfl rfl D
  obtain ⟨aF,e2⟩:∃ ao,ao=(F4 H1 o6).set q (O zs2 5):=⟨_,rfl⟩
  have ah:aa E G aF:=e2▸(y1.news [O [ab o6] 5]).set _ D (by rw [bU];simp only [cj,cF];omega)
  have dQ:=bC e2
  have fP:=y.kept af ai kb
  have j7:=bu e2 D (y1.old fP [O [ab o6] 5])
  obtain ⟨_,_,H3,c3,aW,az,rfl,mV,qw,rfl,l6,p9,AE⟩:=OX q b ys dp nd (nd-1) 1 zs2 ah dQ j7 ll hy aY gq D D D D
  have t4:=ah.kept aW bB j7
  obtain ⟨_,_,H4,cY,c4,bz,rfl,wO,Nn,rfl,ue,B2,Td⟩:=OY q b ys dp nd mV qw az l6 t4 p9 hy aY gq D D D
  exact aH 4 (decide_eq_false D:(decide (nd>nd))=false)<|ap 1 (nd-1)<|gS 10 1 c1<|eL 3 (show eW E #[42,42] (sc q 0 0 49) (sc (H1.n+0) 0 1 3) (F4 H1 o6)=some (sc q 0 1 49,aF,[q],[q,H1.n+0]) from rd.trans (by rw [e2]))<|gS 1 1 c3<|gS 0 0 cY<|aV 0 (sc q 0 wO 49) H4 [q,q,q] bD bi ⟨wO,_,rfl,ue,B2,D⟩
 refine aO 3 ((dp-1)≥6) ?_ ?_ <;> intro h2 cw
 ·obtain ⟨_,_,H1,c1,af,y1,rfl,o6,rfl⟩:=OV q b ys dp (nd-1) nd y kb hy
  have cI:H.n+0≤H1.n:=af.n
  have cE:=y.kept af ai aX
  obtain ⟨zs2,ll,rd⟩:=kK (ts:=#[42,42]) (n:=0) (m:=1) (x:=(sc (H1.n+0) 0 1 3)) p0 hu (y1.old cE [O [ab o6] 5]) rfl (gt (sz:=1) (aL [O [ab o6] 5] H1 0 _ rfl) (ec rfl)) rfl rfl D
  obtain ⟨aF,e2⟩:∃ ao,ao=(F4 H1 o6).set q (O zs2 5):=⟨_,rfl⟩
  have ah:aa E G aF:=e2▸(y1.news [O [ab o6] 5]).set _ D (by rw [bU];simp only [cj,cF];omega)
  have dQ:=bC e2
  have fP:=y.kept af ai kb
  have j7:=bu e2 D (y1.old fP [O [ab o6] 5])
  obtain ⟨_,_,H3,c3,aW,az,rfl,mV,qw,rfl,l6,p9,AE⟩:=OX q b ys dp nd (nd-1) 1 zs2 ah dQ j7 ll hy aY gq D D D D
  have t4:=ah.kept aW bB j7
  obtain ⟨_,_,H4,cY,c4,bz,rfl,wO,Nn,rfl,ue,B2,Td⟩:=OY q b ys dp nd mV qw az l6 t4 p9 hy aY gq D D D
  exact aH 3 (decide_eq_false D:(decide (nd>nd))=false)<|ap 1 (nd-1)<|gS 10 1 c1<|eL 3 (show eW E #[42,42] (sc q 0 0 49) (sc (H1.n+0) 0 1 3) (F4 H1 o6)=some (sc q 0 1 49,aF,[q],[q,H1.n+0]) from rd.trans (by rw [e2]))<|gS 1 1 c3<|gS 0 0 cY<|aV 0 (sc q 0 wO 49) H4 [q,q,q] bD bi ⟨wO,_,rfl,ue,B2,D⟩
 refine aO 3 (nd>dp) ?_ ?_ <;> intro h3 dv
 ·obtain ⟨gj,tR,FJ,Cw,Cy⟩:=Cx (nd-dp) 0
  have w1:((J (if 0>(nd-dp) then 0 else (nd-dp))):Value)=(J gj):=(by rw [tR])
  obtain ⟨_,_,H1,c1,af,y1,rfl,AZ,mu,rfl,pJ,jf,cM,lE⟩:=O0 q b ys dp nd gj 0 xs y aX kb hu hy aY gq D D D D
  have fP:=y.kept af bB kb
  obtain ⟨_,_,H2,c2,ar,ah,rfl,pV,yI,rfl,rM,tY,He⟩:=OW q b ys dp nd gj AZ mu y1 pJ fP jf hy aY gq D D D D D D D D
  exact ap 4 (nd-dp)<|aj [.as (J gj)] w1<|gS 10 3 c1<|gS 0 0 c2<|aV 0 (sc q 0 pV 49) H2 [q,q] bD bi ⟨pV,_,rfl,rM,tY,D⟩
 obtain ⟨gj,tR,FJ,Cw,Cy⟩:=Cx (nd-dp) 0
 have w1:((J (if 0>(nd-dp) then 0 else (nd-dp))):Value)=(J gj):=(by rw [tR])
 obtain ⟨_,_,H1,c1,af,y1,rfl,AZ,mu,rfl,pJ,jf,cM,lE⟩:=O0 q b ys dp nd gj 0 xs y aX kb hu hy aY gq D D D D
 have fP:=y.kept af bB kb
 obtain ⟨_,_,H2,c2,ar,ah,rfl,pV,yI,rfl,rM,tY,He⟩:=OW q b ys dp nd gj AZ mu y1 pJ fP jf hy aY gq D D D D D D D D
 exact ap 2 (nd-dp)<|aj [.as (J gj)] w1<|gS 10 3 c1<|gS 0 0 c2<|aV 0 (sc q 0 pV 49) H2 [q,q] bD bi ⟨pV,_,rfl,rM,tY,D⟩
theorem Uy:nO E #[42,42] 5 1 1=true:=av
theorem Nx:nO E #[42,9] 5 1 1=true:=av
theorem Hv (x:Nat) {H:U}:bE E 126 [.float .f64 x] H (.ret (.int .u64 x)) H []:=bE.extern ok (fn:=Tryz.f126) (e:=Extern.MathFloatBits.float64bits) av av av av av rfl rfl rfl
theorem Hd {b:Nat}:ge E 204 (pt b 0) none none none=some (sc b 0 32 65):=by
 have hu:E.ul 204=some (.array 32 5):=by kernel_rfl
 simp only [ge,pt,hu,wD,nR,ju,Option.isSome_none,Bool.false_and,cond_false]
 rfl
theorem Ym (q w:Nat) (xs:List Value) {H:U} (y:aa E G H) (aX:H.get q=some (O xs 5)) (hu:bq xs 24) (aY:G.n≤q) (w0:0<w) (w1:w<9218868437227405312):aI E G 107 [sc q 0 0 49,.float .f64 w,ab 103,J (-1)] H [q] (fun v H'=>∃(n:Nat) (zs:List Value),v=sc q 0 n 49∧H'.get q=some (O zs 5)∧bq zs 24∧n≤24):=by
 have g0:=y.n
 refine br Tryz.f107 y ?_
 have iX:=y.wf.lt aX
 have w1:((ax (Int.fdiv (w:Int) (2 ^ 63))):Value)=(ax ((w:Int) / 9223372036854775808)):=(by rw [jt (m:=9223372036854775808) 63 (by decide) D])
 have w2:((ax (Int.fdiv (w:Int) (2 ^ 52))):Value)=(ax ((w:Int) / 4503599627370496)):=(by rw [jt (m:=4503599627370496) 52 (by decide) D])
 have w3:((J (IntKind.i64.wrap ((BitVec.ofInt 64 ((w:Int) / 4503599627370496) &&& BitVec.ofInt 64 2047).toNat:Int))):Value)=(J ((w:Int) / 4503599627370496)):=(by rw [acK D D])
 have eo:((ax (IntKind.u64.wrap ((BitVec.ofInt 64 (w:Int) &&& BitVec.ofInt 64 4503599627370495).toNat:Int))):Value)=(ax ((w:Int)%4503599627370496)):=(by rw [acL D D])
 refine ad 10 (Hv w:bE E 126 [.float .f64 w] H (.ret (ax (w:Int))) H [])<|aK [aB 7]<|aj [.as (ax ((w:Int) / 9223372036854775808))] w1<|aH 0 (bne_eq_false_iff_eq.2 D:(((w:Int) / 9223372036854775808) != 0)=false)<|aK [aB 0]<|aK [aB 1]<|aj [.as (ax ((w:Int) / 4503599627370496))] w2<|ap 0 ((w:Int) / 4503599627370496)<|aK [aB 2]<|aj [.as (J ((w:Int) / 4503599627370496))] w3<|aK [aB 4]<|aj [.as (ax ((w:Int)%4503599627370496))] eo<|aH 5 (beq_eq_false_iff_ne.2 D:(((w:Int) / 4503599627370496)==2047)=false)<|cS 1 ((w:Int) / 4503599627370496) 0 ?_ ?_ <;> intro h1 q1
 ·obtain ⟨_,H1,c1,af,y1,qe,rfl,Qg,Ql,vL⟩:=KD ((w:Int)%4503599627370496) (y.news [O (List.replicate 32 (ab 0)) 204]) D D
  have cI:=dA af
  have aP:=(y.news [O (List.replicate 32 (ab 0)) 204]).kept af ai (aL [O (List.replicate 32 (ab 0)) 204] H 0 _ rfl)
  obtain ⟨_,H2,c2,ar,ah,Di,Mq,rfl,SW,Mh,agv,agA⟩:=S6 (IntKind.u64.wrap (((w:Int)%4503599627370496)*2 ^ (min (64-qe).toNat IntKind.u64.bits))) ((((((w:Int) / 4503599627370496)+1)+(-1023))-(64-qe))-52) y1 (r7 _).1 (r7 _).2 D D
  have cl:H1.n+0≤H2.n:=ar.n
  obtain ⟨_,H3,c3,aW,az,IV,rfl,Xv,Xw⟩:=Rr Di ah D D
  have dD:H2.n+0≤H3.n:=aW.n
  have cL:=y1.kept ar ai aP
  have ei:=ah.kept aW ai cL
  obtain ⟨_,H4,cY,c4,bz,IW,IZ,rfl,Xx,Xy,Xz,XB,Iw,Ck,om⟩:=S3 (H.n+0) (List.replicate 32 (ab 0)) Di Mq IV az ei (bq.rep 32) D D D D D D D
  have fB:H3.n+0≤H4.n:=c4.n
  have cE:=(y.news [O (List.replicate 32 (ab 0)) 204]).kept af ai (y.old aX [O (List.replicate 32 (ab 0)) 204])
  have dQ:=y1.kept ar ai cE
  have fr:=ah.kept aW ai dQ
  have kA:=az.kept c4 bB fr
  obtain ⟨_,H5,dz,cV,cG,Bn,X2,rfl,I4,EH,XP⟩:=OZ q (H.n+0) xs Iw IW IZ bz kA hu Ck om aY D D D D D
  have gk:H4.n+0≤H5.n:=cV.n
  exact ap 1 (((w:Int) / 4503599627370496)+1)<|ap 3 ((((w:Int) / 4503599627370496)+1)+(-1023))<|aH 10 (beq_eq_false_iff_ne.2 D:(((w:Int)%4503599627370496)==0)=false)<|ad 4 c1<|ap 0 (64-qe)<|aK [aB 2]<|aj [.ak] (by omega:0≤(64-qe))<|ap 3 (((((w:Int) / 4503599627370496)+1)+(-1023))-(64-qe))<|ap 4 ((((((w:Int) / 4503599627370496)+1)+(-1023))-(64-qe))-52)<|ad 0 c2<|et 5 H2 (show ge E 204 (pt (H.n+0) 0) none none none=some (sc (H.n+0) 0 32 65) from Hd)<|ad 3 c3<|ad 0 cY<|aj [] (cU az ei:bZ H3 H4 [H.n+0]=true)<|et 18 H4 (show ge E 204 (pt (H.n+0) 0) none none none=some (sc (H.n+0) 0 32 65) from Hd)<|ad 4 dz<|aV 1 (sc q 0 Bn 49) H5 [H.n+0,q] aQ bi ⟨Bn,_,rfl,I4,EH,D⟩
 obtain ⟨C3,Zx,adL,adM⟩:=adX (a:=(w:Int)%4503599627370496) D D
 have iE:((ax (IntKind.u64.wrap ((BitVec.ofInt 64 ((w:Int)%4503599627370496) |||BitVec.ofInt 64 4503599627370496).toNat:Int))):Value)=(ax C3):=(by rw [Zx])
 obtain ⟨_,H1,c1,af,y1,qe,rfl,Qg,Ql,vL⟩:=KD C3 (y.news [O (List.replicate 32 (ab 0)) 204]) D D
 have cI:=dA af
 have aP:=(y.news [O (List.replicate 32 (ab 0)) 204]).kept af ai (aL [O (List.replicate 32 (ab 0)) 204] H 0 _ rfl)
 obtain ⟨_,H2,c2,ar,ah,Di,Mq,rfl,SW,Mh,agv,agA⟩:=S6 (IntKind.u64.wrap (C3*2 ^ (min (64-qe).toNat IntKind.u64.bits))) (((((w:Int) / 4503599627370496)+(-1023))-(64-qe))-52) y1 (r7 _).1 (r7 _).2 D D
 have cl:H1.n+0≤H2.n:=ar.n
 obtain ⟨_,H3,c3,aW,az,IV,rfl,Xv,Xw⟩:=Rr Di ah D D
 have dD:H2.n+0≤H3.n:=aW.n
 have cL:=y1.kept ar ai aP
 have ei:=ah.kept aW ai cL
 obtain ⟨_,H4,cY,c4,bz,IW,IZ,rfl,Xx,Xy,Xz,XB,Iw,Ck,om⟩:=S3 (H.n+0) (List.replicate 32 (ab 0)) Di Mq IV az ei (bq.rep 32) D D D D D D D
 have fB:H3.n+0≤H4.n:=c4.n
 have cE:=(y.news [O (List.replicate 32 (ab 0)) 204]).kept af ai (y.old aX [O (List.replicate 32 (ab 0)) 204])
 have dQ:=y1.kept ar ai cE
 have fr:=ah.kept aW ai dQ
 have kA:=az.kept c4 bB fr
 obtain ⟨_,H5,dz,cV,cG,Bn,X2,rfl,I4,EH,XP⟩:=OZ q (H.n+0) xs Iw IW IZ bz kA hu Ck om aY D D D D D
 have gk:H4.n+0≤H5.n:=cV.n
 exact aK [aB 2]<|aj [.as (ax C3)] iE<|ap 3 (((w:Int) / 4503599627370496)+(-1023))<|aH 10 (beq_eq_false_iff_ne.2 D:(C3==0)=false)<|ad 4 c1<|ap 0 (64-qe)<|aK [aB 2]<|aj [.ak] (by omega:0≤(64-qe))<|ap 3 ((((w:Int) / 4503599627370496)+(-1023))-(64-qe))<|ap 4 (((((w:Int) / 4503599627370496)+(-1023))-(64-qe))-52)<|ad 0 c2<|et 5 H2 (show ge E 204 (pt (H.n+0) 0) none none none=some (sc (H.n+0) 0 32 65) from Hd)<|ad 3 c3<|ad 0 cY<|aj [] (cU az ei:bZ H3 H4 [H.n+0]=true)<|et 18 H4 (show ge E 204 (pt (H.n+0) 0) none none none=some (sc (H.n+0) 0 32 65) from Hd)<|ad 4 dz<|aV 1 (sc q 0 Bn 49) H5 [H.n+0,q] aQ bi ⟨Bn,_,rfl,I4,EH,D⟩
theorem XN (q:Nat) (xs:List Value) {H:U} (y:aa E G H) (aX:H.get q=some (O xs 5)) (hu:bq xs 24) (aY:G.n≤q):aI E G 129 [sc q 0 0 49,Y,.slice none 0 0,J 0,J 0,J (-1),ab 103,aN] H [q] (fun v H'=>∃(n:Nat) (zs:List Value),v=sc q 0 n 49∧H'.get q=some (O zs 5)∧bq zs 24∧n≤24):=by
 refine br Tryz.f129 y ?_
 have iX:=y.wf.lt aX
 obtain ⟨e9,gf,iK⟩:=kK (ts:=#[42,42]) (n:=0) (m:=1) (x:=(sc (H.n+0) 0 1 3)) Uy hu (y.old aX [O [ab 48] 5]) rfl (gt (sz:=1) (aL [O [ab 48] 5] H 0 _ rfl) (ec rfl)) rfl rfl D
 obtain ⟨aS,e1⟩:∃ ao,ao=(news H [O [ab 48] 5]).set q (O e9 5):=⟨_,rfl⟩
 have y1:aa E G aS:=e1▸(y.news [O [ab 48] 5]).set _ D (by rw [bU];simp only [cj,cF];omega)
 have cE:=bC e1
 exact eL 45 (show eW E #[42,42] (sc q 0 0 49) (sc (H.n+0) 0 1 3) (news H [O [ab 48] 5])=some (sc q 0 1 49,aS,[q],[q,H.n+0]) from iK.trans (by rw [e1]))<|aV 5 (sc q 0 1 49) aS [q] bD bi ⟨1,_,rfl,cE,gf,D⟩
theorem Yn (q:Nat) (xs:List Value) {H:U} (y:aa E G H) (aX:H.get q=some (O xs 5)) (hu:bq xs 24) (aY:G.n≤q):aI E G 107 [sc q 0 0 49,.float .f64 0,ab 103,J (-1)] H [q] (fun v H'=>∃(n:Nat) (zs:List Value),v=sc q 0 n 49∧H'.get q=some (O zs 5)∧bq zs 24∧n≤24):=by
 refine br Tryz.f107 y ?_
 obtain ⟨_,H1,c1,af,y1,Bm,X1,rfl,I3,EG,XO⟩:=XN q xs y aX hu aY
 exact ad 10 (Hv 0:bE E 126 [.float .f64 0] H (.ret (ax 0)) H [])<|aK [aB 10]<|ad 45 c1<|aV 1 (sc q 0 Bm 49) H1 [q] bD bi ⟨Bm,_,rfl,I3,EG,D⟩
theorem Yk (q:Nat) (xs:List Value) {H:U} (y:aa E G H) (aX:H.get q=some (O xs 5)) (hu:bq xs 24) (aY:G.n≤q):aI E G 107 [sc q 0 0 49,.float .f64 9218868437227405312,ab 103,J (-1)] H [q] (fun v H'=>∃(n:Nat) (zs:List Value),v=sc q 0 n 49∧H'.get q=some (O zs 5)∧bq zs 24∧n≤24):=by
 refine br Tryz.f107 y ?_
 have iX:=y.wf.lt aX
 obtain ⟨e9,gf,iK⟩:=kK (ts:=#[42,9]) (n:=0) (m:=4) (x:=(.string ⟨#[43,73,110,102]⟩)) (new:=[ab 43,ab 73,ab 110,ab 102]) (R:=[]) Nx hu aX rfl av rfl rfl D
 obtain ⟨aS,e1⟩:∃ ao,ao=H.set q (O e9 5):=⟨_,rfl⟩
 have y1:aa E G aS:=e1▸y.set _ D D
 have cE:=bC e1
 exact ad 10 (Hv 9218868437227405312:bE E 126 [.float .f64 9218868437227405312] H (.ret (ax 9218868437227405312)) H [])<|aK [aB 10]<|eL 24 (show eW E #[42,9] (sc q 0 0 49) (.string ⟨#[43,73,110,102]⟩) H=some (sc q 0 4 49,aS,[q],[q]) from iK.trans (by rw [e1]))<|aV 1 (sc q 0 4 49) aS [q] bD bi ⟨4,_,rfl,cE,gf,D⟩
theorem Yl (q:Nat) (xs:List Value) {H:U} (y:aa E G H) (aX:H.get q=some (O xs 5)) (hu:bq xs 24) (aY:G.n≤q):aI E G 107 [sc q 0 0 49,.float .f64 9221120237041090561,ab 103,J (-1)] H [q] (fun v H'=>∃(n:Nat) (zs:List Value),v=sc q 0 n 49∧H'.get q=some (O zs 5)∧bq zs 24∧n≤24):=by
 refine br Tryz.f107 y ?_
 have iX:=y.wf.lt aX
 obtain ⟨e9,gf,iK⟩:=kK (ts:=#[42,9]) (n:=0) (m:=3) (x:=(.string ⟨#[78,97,78]⟩)) (new:=[ab 78,ab 97,ab 78]) (R:=[]) Nx hu aX rfl av rfl rfl D
 obtain ⟨aS,e1⟩:∃ ao,ao=H.set q (O e9 5):=⟨_,rfl⟩
 have y1:aa E G aS:=e1▸y.set _ D D
 have cE:=bC e1
 exact ad 10 (Hv 9221120237041090561:bE E 126 [.float .f64 9221120237041090561] H (.ret (ax 9221120237041090561)) H [])<|aK [aB 10]<|eL 23 (show eW E #[42,9] (sc q 0 0 49) (.string ⟨#[78,97,78]⟩) H=some (sc q 0 3 49,aS,[q],[q]) from iK.trans (by rw [e1]))<|aV 1 (sc q 0 3 49) aS [q] bD bi ⟨3,_,rfl,cE,gf,D⟩
def wS (v:Int):Prop:=0≤v∧(v≤9218868437227405312∨v=9221120237041090561)
theorem Yj (q w:Nat) (xs:List Value) {H:U} (y:aa E G H) (aX:H.get q=some (O xs 5)) (hu:bq xs 24) (aY:G.n≤q) (hw:w≤9218868437227405312∨w=9221120237041090561):aI E G 107 [sc q 0 0 49,.float .f64 w,ab 103,J (-1)] H [q] (fun v H'=>∃(n:Nat) (zs:List Value),v=sc q 0 n 49∧H'.get q=some (O zs 5)∧bq zs 24∧n≤24):=by
 by_cases h0:w=0
 ·subst h0;exact Yn q xs y aX hu aY
 ·by_cases h1:w=9218868437227405312
  ·subst h1;exact Yk q xs y aX hu aY
  ·by_cases h2:w=9221120237041090561
   ·subst h2;exact Yl q xs y aX hu aY
   ·exact Ym q w xs y aX hu aY D D
theorem X8 (w:Nat) {H:U} (y:aa E G H) (hw:w≤9218868437227405312∨w=9221120237041090561):aI E G 85 [.float .f64 w,ab 103,J (-1),J 64] H [] (fun v H'=>∃ t:ByteArray,v=.string t∧t.size≤24):=by
 have g0:=y.n
 refine br Tryz.f85 y ?_
 obtain ⟨_,H1,c1,af,y1,Bm,X1,rfl,I3,EG,XO⟩:=Yj (H.n+0) w (List.replicate 24 (ab 0)) (y.news [O (List.replicate 24 (ab 0)) 5]) (aL [O (List.replicate 24 (ab 0)) 5] H 0 _ rfl) (bq.rep 24) D hw
 have cI:=dA af
 obtain ⟨TO,E1,ajS⟩:=zk (c:=49) (o:=0) (d:=Bm) EG I3 D
 exact ad 12 c1<|eL 0 (show lO E 42 9 (sc (H.n+0) 0 Bm 49) H1=some (.string TO,H1,[],[H.n+0]) from E1)<|aV 1 (.string TO) H1 [H.n+0] aQ aZ ⟨_,rfl,D⟩
theorem X7 (w:Nat) {H:U} (y:aa E G H) (hw:w≤9218868437227405312∨w=9221120237041090561):aI E G 58 [.float .f64 w,ab 103,J (-1),J 64] H [] (fun v H'=>∃ t:ByteArray,v=.string t∧t.size≤24):=by
 refine br Tryz.f58 y ?_
 obtain ⟨_,H1,c1,af,y1,u1,rfl,nj⟩:=X8 w y hw
 exact ad 5 c1<|al 1 (.string u1) H1 ⟨_,rfl,nj⟩
theorem ah7 (x:Int) {H:U} (y:aa E G H) (hx:wS x):aI E G 31 [ax x] H [] (fun v H'=>∃ t:ByteArray,v=.string t∧t.size≤24):=by
 refine br Tryz.f31 y ?_
 obtain ⟨_,H1,c1,af,y1,u1,rfl,nj⟩:=X7 x.toNat y (by have:=hx.1;have:=hx.2;omega)
 exact ad 2 (Pg x:bE E 59 [ax x] H (.ret (.float .f64 x.toNat)) H [])<|ad 0 c1<|al 1 (.string u1) H1 ⟨_,rfl,nj⟩
theorem Lg (x:Int) (hn:wS x):∃ t:ByteArray,t.size≤24∧∀{H:U},aa E G H→bE E 31 [ax x] H (.ret (.string t)) H []:=Bp (ah7 x gE hn) (Bx rfl)
open Classical in
noncomputable def qT (x:Int):ByteArray:=if h:wS x then (Lg x h).choose else ByteArray.empty
theorem adK (x:Int):(qT x).size≤24:=by
 unfold qT
 split
 ·rename_i h;exact (Lg x h).choose_spec.1
 ·exact Nat.zero_le _
theorem adJ (x:Int) (hn:wS x) {H:U} (y:aa E G H):bE E 31 [ax x] H (.ret (.string (qT x))) H []:=by
 have h:wS x:=hn
 unfold qT
 rw [dif_pos h]
 exact (Lg x h).choose_spec.2 y
def pv (b:UInt8):Nat:=if b=10 then 1 else if b=34 then 1 else if b=92 then 1 else 0
def pw (s:ByteArray) (k:Nat):Nat:=((s.data.toList.take k).map pv).sum
def px (s:ByteArray):Nat:=(s.data.toList.map pv).sum
theorem XZ {s:ByteArray} {k:Nat} (h:s.size≤k):pw s k=px s:=by
 unfold pw px
 rw [List.take_of_length_le (by show s.data.toList.length≤k;exact h)]
theorem ahg (l:List Nat) (k:Nat):(l.take k).sum≤l.sum:=by
 induction l generalizing k with
 |nil=>simp
 |cons a l ih=>
  cases k with
  |zero=>simp
  |succ k=>
   rw [List.take_succ_cons,List.sum_cons,List.sum_cons]
   have:=ih k
   omega
theorem XX (s:ByteArray) (k:Nat):pw s k≤px s:=by
 unfold pw px
 rw [List.map_take]
 exact ahg _ _
theorem O8 (s:ByteArray):pw s 0=0:=by simp [pw]
theorem Tz:∀ l:List UInt8,(l.map pv).sum≤l.length
 |[]=>by simp
 |a::l=>by
  rw [List.map_cons,List.sum_cons,cj]
  have h1:=Tz l
  have h2:pv a≤1:=by unfold pv;split;omega;split;omega;split <;> omega
  omega
theorem I8 (s:ByteArray):px s≤s.size:=Tz _
theorem XY {s:ByteArray} {i:Int} (h0:0≤i) (h1:i<(s.size:Int)):pw s (i+1).toNat=pw s i.toNat+pv (UInt8.ofNat (ac s i).toNat):=by
 have hl:i.toNat<s.data.toList.length:=by show i.toNat<s.size;omega
 have e:(i+1).toNat=i.toNat+1:=D
 have hb:UInt8.ofNat (ac s i).toNat=s.data.toList[i.toNat]:=by
  unfold ac
  have:s.data[i.toNat]?=some (s.data.toList[i.toNat]):=by
   rw [← Array.getElem?_toList]
   exact gI hl
  rw [this]
  show UInt8.ofNat (((s.data.toList[i.toNat]).toNat:Int)).toNat=_
  simp
 unfold pw
 rw [e,List.take_succ_eq_append_getElem hl,List.map_append,List.sum_append,hb]
 simp
theorem O7 {c:Int} (h0:0≤c) (h1:c<256):c=10∧pv (UInt8.ofNat c.toNat)=1∨c=34∧pv (UInt8.ofNat c.toNat)=1∨c=92∧pv (UInt8.ofNat c.toNat)=1∨(c≠10∧c≠34∧c≠92)∧pv (UInt8.ofNat c.toNat)=0:=by
 by_cases a:c=10
 ·subst a;exact .inl ⟨rfl,rfl⟩
 ·by_cases b:c=34
  ·subst b;exact .inr (.inl ⟨rfl,rfl⟩)
  ·by_cases d:c=92
   ·subst d;exact .inr (.inr (.inl ⟨rfl,rfl⟩))
   ·refine .inr (.inr (.inr ⟨⟨a,b,d⟩,?_⟩))
    have h:∀ n:Nat,n<256→(UInt8.ofNat c.toNat).toNat≠n∨c.toNat=n:=fun n hn=>by
     rw [UInt8.toNat_ofNat']
     omega
    unfold pv
    have n1:∀ n:Nat,n<256→c.toNat≠n→UInt8.ofNat c.toNat≠UInt8.ofNat n:=fun n hn hc e=>by
     have:=congrArg UInt8.toNat e
     rw [UInt8.toNat_ofNat',UInt8.toNat_ofNat'] at this
     omega
    have xU:UInt8.ofNat c.toNat≠10:=n1 10 D D
    have adg:UInt8.ofNat c.toNat≠34:=n1 34 D D
    have adj:UInt8.ofNat c.toNat≠92:=n1 92 D D
    rw [if_neg xU,if_neg adg,if_neg adj]
def gQ (s:ByteArray) (c:UInt8):Nat:=Go.Lib.countByte s.data.toList c
theorem Ot:∀ l:List UInt8,(l.map pv).sum=Go.Lib.countByte l 10+Go.Lib.countByte l 34+Go.Lib.countByte l 92
 |[]=>rfl
 |a::l=>by
  rw [List.map_cons,List.sum_cons,Ot l]
  unfold Go.Lib.countByte pv
  simp only [List.count_cons]
  by_cases h1:a=10
  ·subst h1;simp;omega
  ·by_cases h2:a=34
   ·subst h2;simp;omega
   ·by_cases h3:a=92
    ·subst h3;simp;omega
    ·simp [h1,h2,h3]
theorem X0 (s:ByteArray):px s=gQ s 10+gQ s 34+gQ s 92:=Ot _
theorem II (s:ByteArray) (c:Nat) (hc:c<256) {H:U}:bE E 372 [.string s,.int .u8 (c:Nat)] H (.ret (J (gQ s (UInt8.ofNat c):Nat))) H []:=by
 have hn:Extern.BytealgCount.count #[.string s,.int .u8 (c:Nat)]=pure (J (gQ s (UInt8.ofNat c):Nat)):=by
  have e:Extern.BytealgCount.count #[.string s,.int .u8 (c:Nat)]=pure (goInt (s.foldl (fun n x=>if x==(c:Int).toNat.toUInt8 then n+1 else n) (0:Nat))):=rfl
  rw [e,Go.Lib.foldl_data,Go.Lib.count_foldl]
  simp [goInt,gQ]
 exact bE.extern ok (fn:=Tryz.f372) (e:=Extern.BytealgCount.count) av av av av av rfl rfl hn
end Go.Proofs.YtbehemdcaiigeaaGreatDoor
set_option maxRecDepth 1000000
namespace Go.Proofs.YtbehemdcaiigeaaGreatDoor
open Go Go.Am
def GX:List Value:=[.string ⟨#[92]⟩,.string ⟨#[92,92]⟩,.string ⟨#[34]⟩,.string ⟨#[92,34]⟩,.string ⟨#[10]⟩,.string ⟨#[92,110]⟩]
def Sz:U:=news G [.cells GX 9 false]
def iC:List Value:=((((List.replicate 256 (Value.slice none 0 0)).set 10 (sc 30 0 2 2)).set 34 (sc 33 0 2 2)).set 92 (sc 36 0 2 2))++[sc 26 0 3 7]
def Ar:List Value:=[.string ⟨#[10]⟩,.string ⟨#[34]⟩,.string ⟨#[92]⟩]
def Df:List Value:=[.int .u32 1,.int .i32 0,.int .u32 0,.iface 229 (pt 27 0),.slice none 0 0]
def wg:Option df→List Value×Nat
 |some (.cells cs e false)=>(cs,e)
 |_=>([],0)
noncomputable def SA:Option (Value×Nat×Bool×Value×Nat×Bool×List (List Value×Nat)):=
 match rg q9 3000 60 [sc 23 0 6 13] Sz with
 |some (.ret v,H1,fa)=>match rg q9 3000 86 [pt 25 0,.func (.func 87) #[pt 25 0] #[]] H1 with
  |some (.ret v2,H2,jW)=>some (v,H1.n,fa.all (fun q=>Nat.ble 24 q&&Nat.blt q H1.n),v2,H2.n,jW.all (fun q=>Nat.beq 25 q||(Nat.ble 26 q&&Nat.blt q H2.n)),[wg (H2.get 25),wg (H2.get 26),wg (H2.get 27),wg (H2.get 30),wg (H2.get 33),wg (H2.get 36)])
  |_=>none
 |_=>none
theorem af7:SA=some (pt 25 0,26,true,cZ,37,true,[(Df,141),(Ar,9),(iC,228),([.int .u8 92,.int .u8 110],5),([.int .u8 92,.int .u8 34],5),([.int .u8 92,.int .u8 92],5)]):=av
theorem z6 {o:Option df} {cs:List Value} {e:Nat} (h:wg o=(cs,e)) (hn:cs≠[]):o=some (.cells cs e false):=by
 unfold wg at h
 split at h
 ·cases h;rfl
 ·cases h;exact absurd rfl hn
theorem af8:∃ H1 H2 fa jW,bE E 60 [sc 23 0 6 13] Sz (.ret (pt 25 0)) H1 fa∧bE E 86 [pt 25 0,.func (.func 87) #[pt 25 0] #[]] H1 (.ret cZ) H2 jW∧H1.n=26∧H2.n=37∧(∀ q∈fa,24≤q∧q<26)∧(∀ q∈jW,q=25∨(26≤q∧q<37))∧
  H2.get 25=some (O Df 141)∧H2.get 26=some (O Ar 9)∧H2.get 27=some (O iC 228)∧H2.get 30=some (O [.int .u8 92,.int .u8 110] 5)∧H2.get 33=some (O [.int .u8 92,.int .u8 34] 5)∧H2.get 36=some (O [.int .u8 92,.int .u8 92] 5):=by
 have h:=af7
 unfold SA at h
 split at h
 ·rename_i v H1 fa e1
  split at h
  ·rename_i v2 H2 jW e2
   simp only [bx,bG,List.cons.injEq,and_true] at h
   obtain ⟨rfl,n1,w1,rfl,n2,w2,k1,k2,jh,vG,zK,vI⟩:=h
   refine ⟨H1,H2,fa,jW,SC e1,SC e2,n1,n2,fun q hq=>?_,fun q hq=>?_,z6 k1 (by simp [Df]),z6 k2 (by simp [Ar]),z6 jh (by simp [iC]),z6 vG bD,z6 zK bD,z6 vI bD⟩
   ·have:=List.all_eq_true.1 w1 q hq
    simp only [dI,Nat.blt_eq,n1] at this
    have h1:=ec this.1
    omega
   ·have:=List.all_eq_true.1 w2 q hq
    simp only [Bool.or_eq_true,dI,Nat.blt_eq,n2] at this
    rcases this with h1 |⟨h1,h2⟩
    ·exact .inl (Nat.eq_of_beq_eq_true h1).symm
    ·exact .inr ⟨ec h1,h2⟩
  ·cases h
 ·cases h
theorem SB {c:Int} (h0:0≤c) (h1:c<256) (hn:c≠10∧c≠34∧c≠92):iC[0+c.toNat*1]?=some (.slice none 0 0):=by
 unfold iC
 rw [List.getElem?_append_left (by simp;omega),List.getElem?_set_ne D,List.getElem?_set_ne D,List.getElem?_set_ne D,List.getElem?_replicate,if_pos D]
theorem yY (s:ByteArray) (c:UInt8):gQ s c≤s.size:=List.count_le_length
theorem Mo {q N:Nat} {k:Int} (h0:0≤k) (h1:k<(N:Int)):ge E 42 (sc q 0 N (2*N+1)) (some (J k)) none none=some (sc q (0+k.toNat*1) (N-k.toNat) (2*(N-k.toNat)+1)):=by
 have hu:E.ul 42=some (.slice 5):=by kernel_rfl
 have hc:ko (2*N+1)=.known N:=by
  unfold ko
  rw [show (2*N+1)%2=1 by omega,show (2*N+1) / 2=N by omega];rfl
 have hd:(decide (0≤k)&&decide (k≤(N:Int)))=true:=by rw [decide_eq_true D,decide_eq_true D];rfl
 have hb:Nat.beq N k.toNat=false:=iz D
 simp only [ge,sc,hu,wD,hc,nR,ju,qp,hd,cond_true,Option.isSome_none,Bool.false_and,cond_false,hb]
theorem IL {q r o m c N te:Nat} {xs ys:List Value} {H:U} (hu:bq xs N) (aX:H.get q=some (.cells xs te false)) (Kx:H.get r=some (O ys 5)) (hy:ys.all qJ=true) (hl:ys.length=2) (hm:2≤m) (ho:o+2≤N):∃ zs,bq zs N∧qC E #[42,42] (sc q o m c) (sc r 0 2 2) H=some (J 2,H.set q (.cells zs te false),[q],[q,r]):=by
 have h1:E.ul 42=some (.slice 5):=by kernel_rfl
 have hx:=hu.len
 have hs:hG H 1 (sc r 0 2 2)=some (2,ys,[r]):=by
  rw [gt (sz:=1) Kx D,List.drop_zero,List.take_of_length_le D]
 have hm2:min 2 m=2:=D
 have hb:(Nat.ble (o+min 2 m*1) xs.length&&ys.all one)=true:=by rw [vd hy,hm2,Nat.ble_eq_true_of_le D];rfl
 have ht:ys.take (min 2 m*1)=ys:=List.take_of_length_le D
 refine ⟨splice xs o ys,bq.QM (by rw [Tp _ _ _ D,hx]) (Tn _ _ _ hu.Ii hy),?_⟩
 have hst:pP (sc r 0 2 2) 1=true:=rfl
 unfold qC
 simp only [show (#[42,42]:Array TypeId)[0]?=some 42 from rfl,h1,wD,hst,cond_true,hs]
 simp only [sc,aX,hb,ht,cond_true]
 rw [hm2]
 rfl
theorem ada {N:Int} {H:U} (h0:0≤N) (h1:N≤100000):∃ xs,bq xs N.toNat∧xP E 42 (J N) (J N) H=some (sc H.n 0 N.toNat (2*N.toNat+1),H.new (O xs 5),[],[]):=by
 have h2:E.ul 42=some (.slice 5):=by kernel_rfl
 have hz:∀ n:Nat,hM [Value.int .u8 0] n=List.replicate n (.int .u8 0):=by
  intro n
  induction n with
  |zero=>rfl
  |succ n ih=>rw [hM,ih,List.replicate_succ];rfl
 obtain ⟨i,hi,JX,hb,hsz⟩:∃ i,E.info 5=some i∧i.zero=some (.int .u8 0)∧i.bytes=1∧i.size=1:=⟨(E.info 5).getD default,by kernel_rfl,by kernel_rfl,by kernel_rfl,by kernel_rfl⟩
 refine ⟨_,bq.rep N.toNat,?_⟩
 unfold xP
 have hc:(decide (0≤N)&&decide (N≤N)&&decide (N*(i.bytes:Nat)≤(most:Int))&&decide (N≤(most:Int))&&Nat.beq (Value.cells (.int .u8 0)).size i.size&&(Value.cells (.int .u8 0)).toList.all one&&ground (.int .u8 0))=true:=by
  rw [hb,hsz,decide_eq_true h0,decide_eq_true (Int.le_refl N),decide_eq_true (show N*((1:Nat):Int)≤(most:Int) by show N*1≤(1099511627776:Int);omega),decide_eq_true (show N≤(most:Int) by show N≤(1099511627776:Int);omega)]
  rfl
 simp only [h2,hi,JX,hc,cond_true]
 rw [show (Value.cells (.int .u8 0)).toList=[Value.int .u8 0] from rfl,hz]
theorem wA {s:ByteArray} {i:Int} {k:Nat} (h0:0≤i) (h1:i<(s.size:Int)) (e:pv (UInt8.ofNat (ac s i).toNat)=k):pw s (i+1).toNat=pw s i.toNat+k∧pw s i.toNat+k≤px s:=by
 have h:=XY h0 h1
 rw [e] at h
 have:=XX s (i+1).toNat
 exact ⟨h,D⟩
noncomputable def VH:Code:=cN [1,1,1,0,1,1,1,0,0] (cH Tryz.f368)
theorem Vj (s:ByteArray):∀(m:Nat) (aE:Int) (dM:Bool) (gu:Int) (H:U),aa E G H→(fJ:H.get 27=some (O iC 228))→(x0:0≤gu)→(x1:gu≤(s.size:Int))→(hN:aE=(s.size:Int)+((pw s gu.toNat:Nat):Int))→(hz:s.size≤1000)→((s.size:Int)-gu).toNat=m→
  cy E G 122 VH [(0,pt 27 0),(1,.string s),(5,J aE),(6,.bool dM),(10,J gu)] H [] (fun x T H'=>(x=(.exit 2)∧∃(gP:Int) (uW:Bool),T=bl [(0,pt 27 0),(1,.string s),(5,J gP),(6,.bool uW)]∧(gP=(s.size:Int)+((px s:Nat):Int)))):=by
 refine d8 fun m ih=>?_
 intro aE dM gu H y fJ x0 x1 hN hz hm
 have b0:=gG s gu
 have b1:=jK s gu
 have Py:=I8 s
 refine c9 y ?_
 refine aO 3 (gu<(s.size:Int)) ?_ ?_ <;> intro h1 q1
 ·refine bR 2 gu (s.size:Int)<|bR 5 (ac s gu) (256:Int)<|?_
  rcases O7 (c:=(ac s gu)) (gG _ _) (jK _ _) with ⟨k0,jz⟩ |⟨k0,jz⟩ |⟨k0,jz⟩ |⟨k0,jz⟩
  ·have oT:=wA (s:=s) D D jz
   exact Z 0 (show ay E 42 27 (0+(ac s gu).toNat*1) H=some (sc 30 0 2 2) from d7 i5 fJ (show iC[0+(ac s gu).toNat*1]?=_ by rw [k0];rfl))<|bR 6 (ac s gu) (256:Int)<|Z 0 (show ay E 42 27 (0+(ac s gu).toNat*1) H=some (sc 30 0 2 2) from d7 i5 fJ (show iC[0+(ac s gu).toNat*1]?=_ by rw [k0];rfl))<|ap 2 (aE+1)<|ap 3 (gu+1)<|dU 1 [(0,pt 27 0),(1,.string s),(5,J (aE+1)),(6,aN),(10,J (gu+1))] H (ih _ D (aE+1) true (gu+1) _ y fJ D D (by rw [oT.1];omega) hz rfl)
  ·have oT:=wA (s:=s) D D jz
   exact Z 0 (show ay E 42 27 (0+(ac s gu).toNat*1) H=some (sc 33 0 2 2) from d7 i5 fJ (show iC[0+(ac s gu).toNat*1]?=_ by rw [k0];rfl))<|bR 6 (ac s gu) (256:Int)<|Z 0 (show ay E 42 27 (0+(ac s gu).toNat*1) H=some (sc 33 0 2 2) from d7 i5 fJ (show iC[0+(ac s gu).toNat*1]?=_ by rw [k0];rfl))<|ap 2 (aE+1)<|ap 3 (gu+1)<|dU 1 [(0,pt 27 0),(1,.string s),(5,J (aE+1)),(6,aN),(10,J (gu+1))] H (ih _ D (aE+1) true (gu+1) _ y fJ D D (by rw [oT.1];omega) hz rfl)
  ·have oT:=wA (s:=s) D D jz
   exact Z 0 (show ay E 42 27 (0+(ac s gu).toNat*1) H=some (sc 36 0 2 2) from d7 i5 fJ (show iC[0+(ac s gu).toNat*1]?=_ by rw [k0];rfl))<|bR 6 (ac s gu) (256:Int)<|Z 0 (show ay E 42 27 (0+(ac s gu).toNat*1) H=some (sc 36 0 2 2) from d7 i5 fJ (show iC[0+(ac s gu).toNat*1]?=_ by rw [k0];rfl))<|ap 2 (aE+1)<|ap 3 (gu+1)<|dU 1 [(0,pt 27 0),(1,.string s),(5,J (aE+1)),(6,aN),(10,J (gu+1))] H (ih _ D (aE+1) true (gu+1) _ y fJ D D (by rw [oT.1];omega) hz rfl)
  have oT:=wA (s:=s) D D jz
  exact Z 0 (d7 i5 fJ (SB (gG _ _) (jK _ _) k0):ay E 42 27 (0+(ac s gu).toNat*1) H=some (.slice none 0 0))<|ap 2 (gu+1)<|dU 1 [(0,pt 27 0),(1,.string s),(5,J aE),(6,.bool dM),(10,J (gu+1))] H (ih _ D aE dM (gu+1) _ y fJ D D (by rw [oT.1];omega) hz rfl)
 exact dF 0 [(0,pt 27 0),(1,.string s),(5,J aE),(6,.bool dM)] (.exit 2) H ⟨rfl,aE,dM,rfl,(by rw [← XZ (s:=s) (k:=gu.toNat) D];exact hN)⟩
theorem Wz (s:ByteArray) {H:U} (y:aa E G H):aI E G 370 [.string s,.string ⟨#[10]⟩] H [] (fun v H'=>v=J ((gQ s 10:Nat):Int)):=by
 refine br Tryz.f370 y ?_
 exact ad 10 (show bE E 372 [.string s,ab 10] H (.ret (J ((gQ s 10:Nat):Int))) H [] from II s 10 (by decide))<|al 1 (J ((gQ s 10:Nat):Int)) H rfl
theorem WA (s:ByteArray) {H:U} (y:aa E G H):aI E G 370 [.string s,.string ⟨#[34]⟩] H [] (fun v H'=>v=J ((gQ s 34:Nat):Int)):=by
 refine br Tryz.f370 y ?_
 exact ad 10 (show bE E 372 [.string s,ab 34] H (.ret (J ((gQ s 34:Nat):Int))) H [] from II s 34 (by decide))<|al 1 (J ((gQ s 34:Nat):Int)) H rfl
theorem WB (s:ByteArray) {H:U} (y:aa E G H):aI E G 370 [.string s,.string ⟨#[92]⟩] H [] (fun v H'=>v=J ((gQ s 92:Nat):Int)):=by
 refine br Tryz.f370 y ?_
 exact ad 10 (show bE E 372 [.string s,ab 92] H (.ret (J ((gQ s 92:Nat):Int))) H [] from II s 92 (by decide))<|al 1 (J ((gQ s 92:Nat):Int)) H rfl
noncomputable def Es:Code:=cN [1,1,1,0,1,0,1,0,0] (cH Tryz.f368)
noncomputable abbrev EC:=([.string ⟨#[10]⟩,.string ⟨#[34]⟩,.string ⟨#[92]⟩]:List Value)
theorem N8 (s:ByteArray) (aE:Int) (dM:Bool) {H:U} (y:aa E G H) (fJ:H.get 27=some (O iC 228)) (nZ:H.get 26=some (O EC 9)) (hN:aE=(s.size:Int)+((gQ s 10:Nat):Int)+((gQ s 34:Nat):Int)+((gQ s 92:Nat):Int)) (hz:s.size≤1000):cy E G 122 Es [(0,pt 27 0),(1,.string s),(5,J aE),(6,.bool dM),(30,sc 26 0 3 7),(31,J 3),(32,J 3)] H [] (fun x T H'=>(x=(.exit 0)∧∃(gP:Int) (uW:Bool),T=bl [(0,pt 27 0),(1,.string s),(5,J gP),(6,.bool uW)]∧(gP=(s.size:Int)+((px s:Nat):Int)))):=by
 refine c9 y ?_
 exact dF 1 [(0,pt 27 0),(1,.string s),(5,J aE),(6,.bool dM)] (.exit 0) H ⟨rfl,aE,dM,rfl,(by rw [X0];omega)⟩
theorem N7 (s:ByteArray) (aE:Int) (dM:Bool) {H:U} (y:aa E G H) (fJ:H.get 27=some (O iC 228)) (nZ:H.get 26=some (O EC 9)) (hN:aE=(s.size:Int)+((gQ s 10:Nat):Int)+((gQ s 34:Nat):Int)) (hz:s.size≤1000):cy E G 122 Es [(0,pt 27 0),(1,.string s),(5,J aE),(6,.bool dM),(30,sc 26 0 3 7),(31,J 3),(32,J 2)] H [] (fun x T H'=>(x=(.exit 0)∧∃(gP:Int) (uW:Bool),T=bl [(0,pt 27 0),(1,.string s),(5,J gP),(6,.bool uW)]∧(gP=(s.size:Int)+((px s:Nat):Int)))):=by
 have d10:=yY s 10
 have d34:=yY s 34
 have d92:=yY s 92
 refine c9 y ?_
 obtain ⟨_,H1,c1,af,y1,rfl⟩:=WB s y
 refine Z 2 (ag 2 ct nZ)<|ad 3 c1<|iD 2 ((gQ s 92:Nat):Int) 0 ?_ ?_ <;> intro h1 q1
 ·have jA:=y.kept af ai fJ
  have rC:=y.kept af ai nZ
  exact Z 8 (d7 i5 jA (show iC[92]?=_ from rfl):ay E 42 27 92 H1=some (sc 36 0 2 2))<|ap 2 (((gQ s 92:Nat):Int)*1)<|ap 0 (aE+(((gQ s 92:Nat):Int)*1))<|dU 4 [(0,pt 27 0),(1,.string s),(5,J (aE+(((gQ s 92:Nat):Int)*1))),(6,aN),(30,sc 26 0 3 7),(31,J 3),(32,J 3)] H1 (N8 s (aE+(((gQ s 92:Nat):Int)*1)) true y1 jA rC D hz)
 have jA:=y.kept af ai fJ
 have rC:=y.kept af ai nZ
 exact dU 2 [(0,pt 27 0),(1,.string s),(5,J aE),(6,.bool dM),(30,sc 26 0 3 7),(31,J 3),(32,J 3)] H1 (N8 s aE dM y1 jA rC D hz)
theorem N6 (s:ByteArray) (aE:Int) (dM:Bool) {H:U} (y:aa E G H) (fJ:H.get 27=some (O iC 228)) (nZ:H.get 26=some (O EC 9)) (hN:aE=(s.size:Int)+((gQ s 10:Nat):Int)) (hz:s.size≤1000):cy E G 122 Es [(0,pt 27 0),(1,.string s),(5,J aE),(6,.bool dM),(30,sc 26 0 3 7),(31,J 3),(32,J 1)] H [] (fun x T H'=>(x=(.exit 0)∧∃(gP:Int) (uW:Bool),T=bl [(0,pt 27 0),(1,.string s),(5,J gP),(6,.bool uW)]∧(gP=(s.size:Int)+((px s:Nat):Int)))):=by
 have d10:=yY s 10
 have d34:=yY s 34
 refine c9 y ?_
 obtain ⟨_,H1,c1,af,y1,rfl⟩:=WA s y
 refine Z 2 (ag 1 ct nZ)<|ad 3 c1<|iD 2 ((gQ s 34:Nat):Int) 0 ?_ ?_ <;> intro h1 q1
 ·have jA:=y.kept af ai fJ
  have rC:=y.kept af ai nZ
  exact Z 8 (d7 i5 jA (show iC[34]?=_ from rfl):ay E 42 27 34 H1=some (sc 33 0 2 2))<|ap 2 (((gQ s 34:Nat):Int)*1)<|ap 0 (aE+(((gQ s 34:Nat):Int)*1))<|dU 4 [(0,pt 27 0),(1,.string s),(5,J (aE+(((gQ s 34:Nat):Int)*1))),(6,aN),(30,sc 26 0 3 7),(31,J 3),(32,J 2)] H1 (N7 s (aE+(((gQ s 34:Nat):Int)*1)) true y1 jA rC D hz)
 have jA:=y.kept af ai fJ
 have rC:=y.kept af ai nZ
 exact dU 2 [(0,pt 27 0),(1,.string s),(5,J aE),(6,.bool dM),(30,sc 26 0 3 7),(31,J 3),(32,J 2)] H1 (N7 s aE dM y1 jA rC D hz)
theorem Vh (s:ByteArray) (aE:Int) (dM:Bool) {H:U} (y:aa E G H) (fJ:H.get 27=some (O iC 228)) (nZ:H.get 26=some (O EC 9)) (hN:aE=(s.size:Int)) (hz:s.size≤1000):cy E G 122 Es [(0,pt 27 0),(1,.string s),(5,J aE),(6,.bool dM),(30,sc 26 0 3 7),(31,J 3),(32,J 0)] H [] (fun x T H'=>(x=(.exit 0)∧∃(gP:Int) (uW:Bool),T=bl [(0,pt 27 0),(1,.string s),(5,J gP),(6,.bool uW)]∧(gP=(s.size:Int)+((px s:Nat):Int)))):=by
 have d10:=yY s 10
 refine c9 y ?_
 obtain ⟨_,H1,c1,af,y1,rfl⟩:=Wz s y
 refine Z 2 (ag 0 ct nZ)<|ad 3 c1<|iD 2 ((gQ s 10:Nat):Int) 0 ?_ ?_ <;> intro h1 q1
 ·have jA:=y.kept af ai fJ
  have rC:=y.kept af ai nZ
  exact Z 8 (d7 i5 jA (show iC[10]?=_ from rfl):ay E 42 27 10 H1=some (sc 30 0 2 2))<|ap 2 (((gQ s 10:Nat):Int)*1)<|ap 0 (aE+(((gQ s 10:Nat):Int)*1))<|dU 4 [(0,pt 27 0),(1,.string s),(5,J (aE+(((gQ s 10:Nat):Int)*1))),(6,aN),(30,sc 26 0 3 7),(31,J 3),(32,J 1)] H1 (N6 s (aE+(((gQ s 10:Nat):Int)*1)) true y1 jA rC D hz)
 have jA:=y.kept af ai fJ
 have rC:=y.kept af ai nZ
 exact dU 2 [(0,pt 27 0),(1,.string s),(5,J aE),(6,.bool dM),(30,sc 26 0 3 7),(31,J 3),(32,J 1)] H1 (N6 s aE dM y1 jA rC D hz)
noncomputable def VG:Code:=cN [1,1,1,1,1,1,1,0,1,0,0] (cH Tryz.f368)
theorem Vi (s:ByteArray) (q N:Nat):∀(m:Nat) (fw:Int) (fV:Int) (xs:List Value) (H:U),aa E G H→(fJ:H.get 27=some (O iC 228))→(qa:H.get 30=some (O [ab 92,ab 110] 5))→(qb:H.get 33=some (O [ab 92,ab 34] 5))→(pF:H.get 36=some (O [ab 92,ab 92] 5))→(aX:H.get q=some (O xs 5))→(hu:bq xs N)→(x0:0≤fV)→(x1:fV≤(s.size:Int))→(hj:fw=fV+((pw s fV.toNat:Nat):Int))→(hN:(N:Int)=(s.size:Int)+((px s:Nat):Int))→(hz:s.size≤1000)→(aY:37≤q)→((s.size:Int)-fV).toNat=m→
  cy E G 122 VG [(0,pt 27 0),(1,.string s),(12,sc q 0 N (2*N+1)),(13,J fw),(14,J fV)] H [q] (fun x T H'=>(x=(.exit 4)∧∃(zs:List Value),T=bl [(12,sc q 0 N (2*N+1))]∧(H'.get q=some (O zs 5)∧bq zs N))):=by
 refine d8 fun m ih=>?_
 intro fw fV xs H y fJ qa qb pF aX hu x0 x1 hj hN hz aY hm
 have b0:=gG s fV
 have b1:=jK s fV
 have Py:=I8 s
 have gn:=lq
 refine c9 y ?_
 have iX:=y.wf.lt aX
 refine aO 3 (fV<(s.size:Int)) ?_ ?_ <;> intro h1 q1
 ·refine bR 2 fV (s.size:Int)<|bR 5 (ac s fV) (256:Int)<|?_
  rcases O7 (c:=(ac s fV)) (gG _ _) (jK _ _) with ⟨k0,jz⟩ |⟨k0,jz⟩ |⟨k0,jz⟩ |⟨k0,jz⟩
  ·have oT:=wA (s:=s) D D jz
   obtain ⟨e9,gf,Bh⟩:=IL (o:=(0+fw.toNat*1)) (m:=(N-fw.toNat)) (c:=(2*(N-fw.toNat)+1)) hu aX qa rfl rfl D D
   obtain ⟨aS,e1⟩:∃ ao,ao=H.set q (O e9 5):=⟨_,rfl⟩
   have y1:aa E G aS:=e1▸y.set _ D D
   have cI:aS.n=H.n+0:=by rw [e1,U.cB] <;> rfl
   have cE:=bC e1
   have jA:=bu e1 D fJ
   have rD:=bu e1 D qa
   have rE:=bu e1 D qb
   have rF:=bu e1 D pF
   exact Z 0 (show ay E 42 27 (0+(ac s fV).toNat*1) H=some (sc 30 0 2 2) from d7 i5 fJ (show iC[0+(ac s fV).toNat*1]?=_ by rw [k0];rfl))<|aK [aB 0]<|aj [] (aT:q<H.n∨H.n≤q)<|et 3 H (Mo D D:ge E 42 (sc q 0 N (2*N+1)) (some (J fw)) none none=some (sc q (0+fw.toNat*1) (N-fw.toNat) (2*(N-fw.toNat)+1)))<|bR 4 (ac s fV) (256:Int)<|Z 0 (show ay E 42 27 (0+(ac s fV).toNat*1) H=some (sc 30 0 2 2) from d7 i5 fJ (show iC[0+(ac s fV).toNat*1]?=_ by rw [k0];rfl))<|eL 0 (show qC E #[42,42] (sc q (0+fw.toNat*1) (N-fw.toNat) (2*(N-fw.toNat)+1)) (sc 30 0 2 2) H=some (J 2,aS,[q],[q,30]) from Bh.trans (by rw [e1]))<|aj [] (cU y aX:bZ H aS [q]=true)<|ap 0 (fw+2)<|ap 2 (fV+1)<|dY 1 [(0,pt 27 0),(1,.string s),(12,sc q 0 N (2*N+1)),(13,J (fw+2)),(14,J (fV+1))] aS [q] bD (ih _ D (fw+2) (fV+1) e9 _ y1 jA rD rE rF cE gf D D (by rw [oT.1];omega) hN hz aY rfl)
  ·have oT:=wA (s:=s) D D jz
   obtain ⟨e9,gf,Bh⟩:=IL (o:=(0+fw.toNat*1)) (m:=(N-fw.toNat)) (c:=(2*(N-fw.toNat)+1)) hu aX qb rfl rfl D D
   obtain ⟨aS,e1⟩:∃ ao,ao=H.set q (O e9 5):=⟨_,rfl⟩
   have y1:aa E G aS:=e1▸y.set _ D D
   have cI:aS.n=H.n+0:=by rw [e1,U.cB] <;> rfl
   have cE:=bC e1
   have jA:=bu e1 D fJ
   have rD:=bu e1 D qa
   have rE:=bu e1 D qb
   have rF:=bu e1 D pF
   exact Z 0 (show ay E 42 27 (0+(ac s fV).toNat*1) H=some (sc 33 0 2 2) from d7 i5 fJ (show iC[0+(ac s fV).toNat*1]?=_ by rw [k0];rfl))<|aK [aB 0]<|aj [] (aT:q<H.n∨H.n≤q)<|et 3 H (Mo D D:ge E 42 (sc q 0 N (2*N+1)) (some (J fw)) none none=some (sc q (0+fw.toNat*1) (N-fw.toNat) (2*(N-fw.toNat)+1)))<|bR 4 (ac s fV) (256:Int)<|Z 0 (show ay E 42 27 (0+(ac s fV).toNat*1) H=some (sc 33 0 2 2) from d7 i5 fJ (show iC[0+(ac s fV).toNat*1]?=_ by rw [k0];rfl))<|eL 0 (show qC E #[42,42] (sc q (0+fw.toNat*1) (N-fw.toNat) (2*(N-fw.toNat)+1)) (sc 33 0 2 2) H=some (J 2,aS,[q],[q,33]) from Bh.trans (by rw [e1]))<|aj [] (cU y aX:bZ H aS [q]=true)<|ap 0 (fw+2)<|ap 2 (fV+1)<|dY 1 [(0,pt 27 0),(1,.string s),(12,sc q 0 N (2*N+1)),(13,J (fw+2)),(14,J (fV+1))] aS [q] bD (ih _ D (fw+2) (fV+1) e9 _ y1 jA rD rE rF cE gf D D (by rw [oT.1];omega) hN hz aY rfl)
  ·have oT:=wA (s:=s) D D jz
   obtain ⟨e9,gf,Bh⟩:=IL (o:=(0+fw.toNat*1)) (m:=(N-fw.toNat)) (c:=(2*(N-fw.toNat)+1)) hu aX pF rfl rfl D D
   obtain ⟨aS,e1⟩:∃ ao,ao=H.set q (O e9 5):=⟨_,rfl⟩
   have y1:aa E G aS:=e1▸y.set _ D D
   have cI:aS.n=H.n+0:=by rw [e1,U.cB] <;> rfl
   have cE:=bC e1
   have jA:=bu e1 D fJ
   have rD:=bu e1 D qa
   have rE:=bu e1 D qb
   have rF:=bu e1 D pF
   exact Z 0 (show ay E 42 27 (0+(ac s fV).toNat*1) H=some (sc 36 0 2 2) from d7 i5 fJ (show iC[0+(ac s fV).toNat*1]?=_ by rw [k0];rfl))<|aK [aB 0]<|aj [] (aT:q<H.n∨H.n≤q)<|et 3 H (Mo D D:ge E 42 (sc q 0 N (2*N+1)) (some (J fw)) none none=some (sc q (0+fw.toNat*1) (N-fw.toNat) (2*(N-fw.toNat)+1)))<|bR 4 (ac s fV) (256:Int)<|Z 0 (show ay E 42 27 (0+(ac s fV).toNat*1) H=some (sc 36 0 2 2) from d7 i5 fJ (show iC[0+(ac s fV).toNat*1]?=_ by rw [k0];rfl))<|eL 0 (show qC E #[42,42] (sc q (0+fw.toNat*1) (N-fw.toNat) (2*(N-fw.toNat)+1)) (sc 36 0 2 2) H=some (J 2,aS,[q],[q,36]) from Bh.trans (by rw [e1]))<|aj [] (cU y aX:bZ H aS [q]=true)<|ap 0 (fw+2)<|ap 2 (fV+1)<|dY 1 [(0,pt 27 0),(1,.string s),(12,sc q 0 N (2*N+1)),(13,J (fw+2)),(14,J (fV+1))] aS [q] bD (ih _ D (fw+2) (fV+1) e9 _ y1 jA rD rE rF cE gf D D (by rw [oT.1];omega) hN hz aY rfl)
  have oT:=wA (s:=s) D D jz
  obtain ⟨aS,e1⟩:∃ ao,ao=H.set q (O (xs.set (0+fw.toNat*1) (.int .u8 (ac s fV))) 5):=⟨_,rfl⟩
  have y1:aa E G aS:=e1▸y.set _ D D
  have cE:=bC e1
  have jA:=bu e1 D fJ
  have rD:=bu e1 D qa
  have rE:=bu e1 D qb
  have rF:=bu e1 D pF
  exact Z 0 (d7 i5 fJ (SB (gG _ _) (jK _ _) k0):ay E 42 27 (0+(ac s fV).toNat*1) H=some (.slice none 0 0))<|bR 4 fw (N:Int)<|aC 0 ((kF hu aX D).trans (congrArg some e1.symm):bp E 5 q (0+fw.toNat*1) (ab (ac s fV)) H=some aS)<|ap 1 (fw+1)<|ap 2 (fV+1)<|dY 1 [(0,pt 27 0),(1,.string s),(12,sc q 0 N (2*N+1)),(13,J (fw+1)),(14,J (fV+1))] aS [q] bD (ih _ D (fw+1) (fV+1) (xs.set (0+fw.toNat*1) (.int .u8 (ac s fV))) _ y1 jA rD rE rF cE (bq.set hu (0+fw.toNat*1) (ac s fV)) D D (by rw [oT.1];omega) hN hz aY rfl)
 exact en 0 [(12,sc q 0 N (2*N+1))] (.exit 4) H [] aZ bi ⟨rfl,xs,rfl,⟨aX,hu⟩⟩
noncomputable def VI:Code:=cN [1,1,1,1] (cH Tryz.f368)
theorem N9 (s:ByteArray) (aE:Int) (dM:Bool) {H:U} (y:aa E G H) (fJ:H.get 27=some (O iC 228)) (qa:H.get 30=some (O [ab 92,ab 110] 5)) (qb:H.get 33=some (O [ab 92,ab 34] 5)) (pF:H.get 36=some (O [ab 92,ab 92] 5)) (hN:aE=(s.size:Int)+((px s:Nat):Int)) (hz:s.size≤1000) :
  jF E G 122 VI [(0,pt 27 0),(1,.string s),(5,J aE),(6,.bool dM)] H [] (fun x T H'=>(x=.ret∧∃(zt:ByteArray),T=bl [(4,.string zt)]∧(zt.size≤2*s.size))):=by
 have Py:=I8 s
 refine nA y ?_
 have akd:=y.wf.lt pF
 cases dM with
 |true=>
  obtain ⟨vT,Zk,ac8⟩:=ada (H:=H) (N:=aE) D D
  obtain ⟨_,_,H1,c1,af,y1,rfl,mu,rfl,pJ,jf⟩:=(Vi s (H.n+0) aE.toNat _ 0 0 vT _ (y.news [O vT 5]) (y.old fJ [O vT 5]) (y.old qa [O vT 5]) (y.old qb [O vT 5]) (y.old pF [O vT 5]) (aL [O vT 5] H 0 _ rfl) Zk D D (by rw [show (0:Int).toNat=0 from rfl,O8];rfl) D hz D rfl).code
  have cI:=dA af
  obtain ⟨uF,vz,sM⟩:=zk (c:=(2*aE.toNat+1)) (o:=0) (d:=aE.toNat) jf pJ D
  exact eL 3 (show xP E 42 (J aE) (J aE) H=some (sc (H.n+0) 0 aE.toNat (2*aE.toNat+1),news H [O vT 5],[],[]) from ac8)<|bW 3 c1<|eL 1 (show lO E 42 9 (sc (H.n+0) 0 aE.toNat (2*aE.toNat+1)) H1=some (.string uF,H1,[],[H.n+0]) from vz)<|js 1 [(4,.string uF)] .ret H1 [H.n+0] aQ aZ ⟨rfl,uF,rfl,D⟩
 |false=>
  exact fu 4 [(4,.string s)] .ret H ⟨rfl,s,rfl,D⟩
theorem Vk (s:ByteArray) {H:U} (y:aa E G H) (fJ:H.get 27=some (O iC 228)) (nZ:H.get 26=some (O Ar 9)) (qa:H.get 30=some (O [ab 92,ab 110] 5)) (qb:H.get 33=some (O [ab 92,ab 34] 5)) (pF:H.get 36=some (O [ab 92,ab 92] 5)) (hz:s.size≤1000):aI E G 368 [pt 27 0,.string s] H [] (fun v H'=>∃ t:ByteArray,v=.string t∧t.size≤2*s.size):=by
 refine br Tryz.f368 y ?_
 refine Z 8 (d7 iI fJ (show iC[256]?=_ from rfl):ay E 24 27 256 H=some (sc 26 0 3 7))<|aO 4 (24≤(s.size:Int)) ?_ ?_ <;> intro h1 q1
 ·obtain ⟨_,_,H1,c1,af,y1,rfl,nH,Nb,rfl,cM⟩:=(Vh s (s.size:Int) false y fJ nZ rfl hz).code
  have jA:=y.kept af ai fJ
  have rD:=y.kept af ai qa
  have rE:=y.kept af ai qb
  have rF:=y.kept af ai pF
  obtain ⟨_,_,H2,c2,ar,ah,rfl,No,rfl,MH⟩:=N9 s nH Nb y1 jA rD rE rF cM hz
  exact Z 3 (d7 iI fJ (show iC[256]?=_ from rfl):ay E 24 27 256 H=some (sc 26 0 3 7))<|bW 2 c1<|gS 0 0 c2<|al 0 (.string No) H2 ⟨_,rfl,MH⟩
 obtain ⟨_,_,H1,c1,af,y1,rfl,nH,Nb,rfl,cM⟩:=(Vj s _ (s.size:Int) false 0 _ y fJ D D (by rw [show (0:Int).toNat=0 from rfl,O8];simp) hz rfl).code
 have jA:=y.kept af ai fJ
 have rD:=y.kept af ai qa
 have rE:=y.kept af ai qb
 have rF:=y.kept af ai pF
 obtain ⟨_,_,H2,c2,ar,ah,rfl,No,rfl,MH⟩:=N9 s nH Nb y1 jA rD rE rF cM hz
 exact bW 1 c1<|gS 0 0 c2<|al 0 (.string No) H2 ⟨_,rfl,MH⟩
def H9 (K:U):Prop:=∃ H2 jW,bE E 86 [pt 25 0,.func (.func 87) #[pt 25 0] #[]] K (.ret cZ) H2 jW∧K.n=26∧H2.n=37∧(∀ q∈jW,q=25∨(26≤q∧q<37))∧
    H2.get 25=some (.cells Df 141 false)∧H2.get 26=some (.cells Ar 9 false)∧H2.get 27=some (.cells iC 228 false)∧H2.get 30=some (.cells [.int .u8 92,.int .u8 110] 5 false)∧H2.get 33=some (.cells [.int .u8 92,.int .u8 34] 5 false)∧H2.get 36=some (.cells [.int .u8 92,.int .u8 92] 5 false)
theorem af3 {H:U} (EX:H=G) (y:aa E G (news H [O GX 9])):aI E G 60 [sc (H.n+0) 0 6 13] (news H [O GX 9]) [] (fun v H'=>v=pt 25 0∧H9 H'):=by
 subst EX
 obtain ⟨H1,H2,fa,jW,c1,c2,n1,n2,w1,w2,k⟩:=af8
 refine aI.mk y c1 (fun q hq=>.inr ?_) aZ ⟨rfl,H2,jW,c2,n1,n2,w2,k⟩
 have h:=w1 q hq
 have e:(news G [O GX 9]).n=24:=by rw [bU,lq];rfl
 rw [e,n1]
 omega
theorem af6 {H:U} (y:aa E G H) (h:H9 H):aI E G 86 [pt 25 0,.func (.func 87) #[pt 25 0] #[]] H [25] (fun v H'=>v=cZ∧H'.get 25=some (O Df 141)∧H'.get 26=some (O Ar 9)∧H'.get 27=some (O iC 228)∧H'.get 30=some (O [.int .u8 92,.int .u8 110] 5)∧H'.get 33=some (O [.int .u8 92,.int .u8 34] 5)∧H'.get 36=some (O [.int .u8 92,.int .u8 92] 5)):=by
 obtain ⟨H2,jW,c2,n1,n2,w2,k⟩:=h
 refine aI.mk y c2 (fun q hq=>?_) (fun q hq=>?_) ⟨rfl,k⟩
 ·rcases w2 q hq with rfl |h
  ·exact .inl (List.mem_singleton.2 rfl)
  ·exact .inr D
 ·rw [List.mem_singleton.1 hq,lq]
  omega
theorem afN (s:ByteArray) {H:U} (y:aa E G H) (hr:H9 H) (hz:s.size≤1000):aI E G 61 [pt 25 0,.string s] H [25] (fun v H'=>∃ t:ByteArray,v=.string t∧t.size≤2*s.size):=by
 refine br Tryz.f61 y ?_
 have gn:=lq
 obtain ⟨_,H1,c1,af,y1,rfl,P1,nZ,fJ,qa,qb,pF⟩:=af6 y hr
 obtain ⟨_,H2,c2,ar,ah,yg,rfl,PG⟩:=Vk s y1 fJ nZ qa qb pF hz
 exact ad 6 c1<|Z 3 (ag 3 UC P1)<|ad 1 c2<|aV 1 (.string yg) H2 [25] bD bi ⟨_,rfl,PG⟩
theorem aeV (s:ByteArray) {H:U} (y:aa E G H) (EX:H=G) (hz:s.size≤400):aI E G 32 [.string s] H [] (fun v H'=>∃ t:ByteArray,v=.string t∧t.size≤802):=by
 refine br Tryz.f32 y ?_
 have gn:=lq
 have hn0:H.n=G.n:=by rw [EX]
 obtain ⟨_,H1,c1,af,y1,rfl,tW⟩:=af3 EX (y.news [O [.string ⟨#[92]⟩,.string ⟨#[92,92]⟩,.string ⟨#[34]⟩,.string ⟨#[92,34]⟩,.string ⟨#[10]⟩,.string ⟨#[92,110]⟩] 9])
 have pE:H1.n=26:=tW.choose_spec.choose_spec.2.1
 obtain ⟨_,H2,c2,ar,ah,yg,rfl,PG⟩:=afN s y1 tW D
 have cl:H1.n+0≤H2.n:=ar.n
 have w1:ByteArray.size ⟨#[34]⟩+ByteArray.size yg≤1000000000:=by (have e1:ByteArray.size ⟨#[34]⟩=1:=rfl;(try simp only [cm]);omega)
 have w2:ByteArray.size (⟨#[34]⟩++yg)+ByteArray.size ⟨#[34]⟩≤1000000000:=by (have e1:ByteArray.size ⟨#[34]⟩=1:=rfl;(try simp only [cm]);omega)
 exact ad 2 c1<|ad 1 c2<|aj [.ak] w1<|aj [.ak] w2<|aV 1 (.string ((⟨#[34]⟩++yg)++⟨#[34]⟩)) H2 [25] aQ aZ ⟨_,rfl,by simp only [cm];have e1:ByteArray.size ⟨#[34]⟩=1:=rfl;omega⟩
theorem LP (s:ByteArray) (hq:s.size≤400):∃ t:ByteArray,t.size≤802∧∀{H:U},aa E G H→bE E 32 [.string s] H (.ret (.string t)) H []:=Bp (aeV s gE rfl hq) (Bx rfl)
open Classical in
noncomputable def kC (s:ByteArray):ByteArray:=if h:s.size≤400 then (LP s h).choose else ByteArray.empty
theorem GC (s:ByteArray):(kC s).size≤802:=by
 unfold kC
 split
 ·rename_i h;exact (LP s h).choose_spec.1
 ·exact Nat.zero_le _
theorem LO (s:ByteArray) (hq:s.size≤400) {H:U} (y:aa E G H):bE E 32 [.string s] H (.ret (.string (kC s))) H []:=by
 have h:s.size≤400:=hq
 unfold kC
 rw [dif_pos h]
 exact (LP s h).choose_spec.2 y
noncomputable def mq (k:Int):ByteArray:=(xR[(k-1).toNat]?).getD ByteArray.empty
noncomputable def q3 (k:Int):ByteArray:=(x4[(k-1).toNat]?).getD ByteArray.empty
theorem T1 {k:Int} (h0:1≤k) (h1:k≤4):(eH xR)[0+(k-1).toNat*1]?=some (.string (mq k)):=by
 rcases show k=1∨k=2∨k=3∨k=4 by omega with rfl |rfl |rfl |rfl <;> rfl
theorem agJ {k:Int} (h0:1≤k) (h1:k≤11):(eH x4)[0+(k-1).toNat*1]?=some (.string (q3 k)):=by
 rcases show k=1∨k=2∨k=3∨k=4∨k=5∨k=6∨k=7∨k=8∨k=9∨k=10∨k=11 by omega with rfl |rfl |rfl |rfl |rfl |rfl |rfl |rfl |rfl |rfl |rfl <;> rfl
noncomputable def no (m:fS):ByteArray:=(m.2.1++mq m.1)++kC m.2.2
noncomputable def wo (x:aw):ByteArray:=
 bX [x.f.s]++(jq (decide (((x.f.nm:Nat):Int)>0)||(x.f.s.toList==(⟨#[]⟩:ByteArray).toList)) (bX [⟨#[123]⟩,fF ⟨#[44,32]⟩ (x.ms.map no),⟨#[125]⟩]) ++
  (jq (decide (x.f.wide>0)) (bX [⟨#[91]⟩,mK x.f.wide,⟨#[93]⟩])++(jq x.f.ha (bX [⟨#[32,64,32]⟩,rz (Int.tdiv x.f.at_ 1000)]) ++
  jq (x.f.off != 0) (bX [⟨#[32,111,102,102,115,101,116,32]⟩,mK x.f.off]))))
noncomputable def j8 (F:aw→ByteArray) (x:aw):ByteArray:=bX [⟨#[40]⟩]++(lA F x.kids 0++bX [⟨#[41]⟩])
noncomputable def ad5 (F:aw→ByteArray) (x:aw):List aw→ByteArray
 |[c,d]=>mH F c (decide (eP c.f<eP x.f+0))++(bX [⟨#[32]⟩,q3 x.f.op,⟨#[32]⟩]++(jq x.f.fk (bX [⟨#[98,111,111,108,32]⟩])++(nq x ⟨#[111,110]⟩ ⟨#[105,103,110,111,114,105,110,103]⟩++mH F d (decide (eP d.f<eP x.f+1)))))
 |_=>ByteArray.empty
noncomputable def acd (F:aw→ByteArray):List aw→ByteArray
 |[c]=>bX [⟨#[45]⟩]++mH F c (c.f.k==6)
 |_=>ByteArray.empty
noncomputable def gR (F:aw→ByteArray) (x:aw):ByteArray:=
 bif x.f.k==1 then bX [wG (qT x.f.v)] else bif x.f.k==2 then bX [kC x.f.s] else bif x.f.k==3 then wo x else
 bif x.f.k==4 then bX [x.f.s]++j8 F x else
 bif x.f.k==5 then bX [x.f.s]++(jq (decide (x.f.how>0)) (bX [⟨#[32]⟩])++(nq x ⟨#[98,121]⟩ ⟨#[119,105,116,104,111,117,116]⟩++j8 F x)) else
 bif x.f.k==6 then ad5 F x x.kids else acd F x.kids
theorem RM {F:aw→ByteArray} {x:aw} (h:x.f.k=1):gR F x=bX [wG (qT x.f.v)]:=by rw [gR,h];rfl
theorem RN {F:aw→ByteArray} {x:aw} (h:x.f.k=2):gR F x=bX [kC x.f.s]:=by rw [gR,h];rfl
theorem RO {F:aw→ByteArray} {x:aw} (h:x.f.k=3):gR F x=wo x:=by rw [gR,h];rfl
theorem Lv {F:aw→ByteArray} {x:aw} (h:x.f.k=4):gR F x=bX [x.f.s]++j8 F x:=by rw [gR,h];rfl
theorem Lw {F:aw→ByteArray} {x:aw} (h:x.f.k=5):gR F x=bX [x.f.s]++(jq (decide (x.f.how>0)) (bX [⟨#[32]⟩])++(nq x ⟨#[98,121]⟩ ⟨#[119,105,116,104,111,117,116]⟩++j8 F x)):=by rw [gR,h];rfl
theorem Lx {F:aw→ByteArray} {x c d:aw} (h:x.f.k=6) (hk:x.kids=[c,d]):gR F x=mH F c (decide (eP c.f<eP x.f+0))++(bX [⟨#[32]⟩,q3 x.f.op,⟨#[32]⟩]++(jq x.f.fk (bX [⟨#[98,111,111,108,32]⟩])++(nq x ⟨#[111,110]⟩ ⟨#[105,103,110,111,114,105,110,103]⟩++mH F d (decide (eP d.f<eP x.f+1))))):=by rw [gR,h,hk];rfl
theorem Ly {F:aw→ByteArray} {x c:aw} (h:x.f.k=7) (hk:x.kids=[c]):gR F x=bX [⟨#[45]⟩]++mH F c (c.f.k==6):=by rw [gR,h,hk];rfl
theorem mD {b q N M:Nat} {W:List Nat} (h:∀ i∈W,i=b∨i=q∨(N≤i∧i<M)):∀ i∈W,i∈[b,q]∨(N≤i∧i<M):=fun i hi=>by
 rcases h i hi with h |h |h
 ·exact .inl (by simp [h])
 ·exact .inl (by simp [h])
 ·exact .inr h
theorem wn {P:Nat→Prop}:∀ i∈([]:List Nat),P i:=fun _ h=>by cases h
theorem wc {P:Nat→Prop} {a:Nat} {W:List Nat} (h:P a) (k:∀ i∈W,P i):∀ i∈a::W,P i:=List.forall_mem_cons.2 ⟨h,k⟩
theorem wi {i b q N M:Nat} (h:i=b∨i=q∨N+1≤i) (l:i<M):i=b∨i=q∨(N≤i∧i<M):=by
 rcases h with h |h |h
 ·exact .inl h
 ·exact .inr (.inl h)
 ·exact .inr (.inr ⟨D,l⟩)
theorem rW {i b q N:Nat} (h:i=b∨i=q∨N+1≤i):i=b∨i=q∨N≤i:=D
theorem kO {H:U} {b T q:Nat} {s t:ByteArray} (e:s=t) (h:cn H b t T q):cn H b s T q:=e▸h
end Go.Proofs.YtbehemdcaiigeaaGreatDoor
