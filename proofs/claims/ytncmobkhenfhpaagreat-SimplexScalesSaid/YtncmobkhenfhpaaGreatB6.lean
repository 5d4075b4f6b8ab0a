/- Contracts and plain facts that the claim is built on, joined out of smaller texts; no condition. -/
import Derived.Test.YtncmobkhenfhpaaGreatB1
set_option linter.unusedVariables false
set_option linter.unusedSimpArgs false
set_option maxRecDepth 100000
set_option maxHeartbeats 40000000
namespace Go.Proofs.YtncmobkhenfhpaaGreat
open Go.RowKit
open Pl
namespace Pl
structure Leh (A B X Y:Nat) (a1 a2 u0 u1 u2 v0 v1 v2:Int) (ev:Bool):Prop where
 a2n:0≤a2
 a21:a2≤a1
 u0n:0≤u0
 u1n:0≤u1
 u2n:0≤u2
 v0n:0≤v0
 v1n:0≤v1
 v2n:1≤v2
 iA:v2 * a1+v1 * a2=A
 iB:u2 * a1+u1 * a2=B
 det:u1 * v2 - u2 * v1=if ev then -1 else 1
 uv2:u2≤v2
 uv12:u1+u2≤v1+v2
 v12:v1≤v2
 u1v2:u1≤v2
 b0:u0≤4294967295
 b1:u1≤4294967295
 b2:v0≤4294967295
 b3:v1≤4294967295
 st0:v1=0→u1=1∧u2=0∧v2=1∧v0=0∧ev=false
 st1:0 < v1→(if ev then Y * v1 - X * u1 else X * u1 - Y * v1:Int)≤Y
 st2:0 < v0→u0 * v1 - u1 * v0=(if ev then 1 else -1)∧0≤(if ev then Y * v1 - X * u1 else X * u1 - Y * v1:Int)∧
  (if ev then Y * v1 - X * u1 else X * u1 - Y * v1:Int) < (if ev then X * u0 - Y * v0 else Y * v0 - X * u0:Int)∧(if ev then X * u0 - Y * v0 else Y * v0 - X * u0:Int)≤Y
theorem Leh.start {A B X Y:Nat} (h:B≤A):Leh A B X Y A B 0 1 0 0 0 1 false:=
 ⟨by omega,by omega,by omega,by omega,by omega,by omega,by omega,by omega,by omega,by omega,by simp,by omega,by omega,by omega,by omega,by omega,by omega,by omega,by omega,fun _=>⟨rfl,rfl,rfl,rfl,rfl⟩,fun h=>by omega,fun h=>by omega⟩
theorem Leh.room {A B X Y:Nat} {a1 a2 u0 u1 u2 v0 v1 v2:Int} {ev:Bool} (h:Leh A B X Y a1 a2 u0 u1 u2 v0 v1 v2 ev) (c1:v2≤a2):
 v1+(a1 / a2) * v2≤A∧u1+(a1 / a2) * u2≤A∧0≤(a1 / a2) * v2∧0≤(a1 / a2) * u2∧1≤a1 / a2:=by
 have h2:=h.v2n
 have hq:1≤a1 / a2:=by
  rw [Int.le_ediv_iff_mul_le (by omega)];have:=h.a21;omega
 have hqa:a1 / a2 * a2≤a1:=by rw [Int.mul_comm];exact Int.mul_ediv_self_le (by omega)
 have k1:(v1+(a1 / a2) * v2) * a2≤A:=by
  rw [← h.iA,Int.add_mul]
  have:a1 / a2 * v2 * a2≤v2 * a1:=by
   rw [Int.mul_right_comm,Int.mul_comm v2]
   exact Int.mul_le_mul_of_nonneg_right hqa (by omega)
  omega
 have n1:0≤(a1 / a2) * v2:=Int.mul_nonneg (by omega) (by omega)
 have n2:0≤(a1 / a2) * u2:=Int.mul_nonneg (by omega) h.u2n
 have k2:(v1+(a1 / a2) * v2) * 1≤(v1+(a1 / a2) * v2) * a2:=Int.mul_le_mul_of_nonneg_left (by omega) (by have:=h.v1n;omega)
 have k3:u1+(a1 / a2) * u2≤v1+(a1 / a2) * v2:=by
  have m:(a1 / a2 - 1) * u2≤(a1 / a2 - 1) * v2:=Int.mul_le_mul_of_nonneg_left h.uv2 (by omega)
  rw [Int.sub_mul,Int.sub_mul] at m
  have:=h.uv12
  omega
 exact ⟨by omega,by omega,n1,n2,hq⟩
theorem leh_lo {D a v u e1 e2:Int} (hD:0 < D) (_he1:0≤e1) (he1':e1 < D) (he2:0≤e2) (hu:0≤u) (hv:0≤v) (h:u≤a):0≤D * a+(e2 * v - e1 * u):=by
 have h1:e1 * u≤D * u:=Int.mul_le_mul_of_nonneg_right (by omega) hu
 have h2:0≤e2 * v:=Int.mul_nonneg he2 hv
 have h3:D * u≤D * a:=Int.mul_le_mul_of_nonneg_left h (by omega)
 omega
theorem leh_hi {D a v u e1 e2:Int} (hD:0 < D) (he1:0≤e1) (_he2:0≤e2) (he2':e2 < D) (hu:0≤u) (hv:1≤v) (h:v≤a):0 < D * a+(e1 * u - e2 * v):=by
 have h1:(e2+1) * v≤D * v:=Int.mul_le_mul_of_nonneg_right (by omega) (by omega)
 have h2:0≤e1 * u:=Int.mul_nonneg he1 hu
 have h3:D * v≤D * a:=Int.mul_le_mul_of_nonneg_left h (by omega)
 rw [Int.add_mul] at h1
 omega
theorem ring_leh1 (D A B e1 e2 u v a:Int) (h:v * B - u * A=a):(B * D+e2) * v - (A * D+e1) * u=D * a+(e2 * v - e1 * u):=by grind
theorem ring_leh2 (D A B e1 e2 u v a:Int) (h:u * A - v * B=a):(A * D+e1) * u - (B * D+e2) * v=D * a+(e1 * u - e2 * v):=by grind
theorem leh_a1 (A B a1 a2 u1 u2 v1 v2 d:Int) (hA:v2 * a1+v1 * a2=A) (hB:u2 * a1+u1 * a2=B) (hd:u1 * v2 - u2 * v1=d):u1 * A - v1 * B=d * a1:=by grind
theorem leh_a2 (A B a1 a2 u1 u2 v1 v2 d:Int) (hA:v2 * a1+v1 * a2=A) (hB:u2 * a1+u1 * a2=B) (hd:u1 * v2 - u2 * v1=d):v2 * B - u2 * A=d * a2:=by grind
theorem Leh.step {A B X Y:Nat} {D e1 e2:Int} {a1 a2 u0 u1 u2 v0 v1 v2:Int} {ev:Bool} (h:Leh A B X Y a1 a2 u0 u1 u2 v0 v1 v2 ev) (hD:0 < D) (hX:(X:Int)=A * D+e1) (hY:(Y:Int)=B * D+e2)
 (he1:0≤e1) (he1':e1 < D) (he2:0≤e2) (he2':e2 < D) (hA:(A:Int)≤18446744073709551615) (c1:v2≤a2) (c2:v1+v2≤a1 - a2):
 Leh A B X Y a2 (a1 % a2) u1 u2 (u1+(a1 / a2) * u2) v1 v2 (v1+(a1 / a2) * v2) (!ev):=by
 obtain ⟨r1,r2,r3,r4,r5⟩:=h.room c1
 have hv2:=h.v2n
 have hu2:=h.u2n
 have hv1:=h.v1n
 have hu1:=h.u1n
 have ha2:1≤a2:=by omega
 have hm:a1 % a2=a1 - (a1 / a2) * a2:=by
  have:=Int.emod_add_mul_ediv a1 a2
  rw [Int.mul_comm] at this
  omega
 have hm0:=Int.emod_nonneg a1 (show a2≠0 by omega)
 have hm1:=Int.emod_lt_of_pos a1 (show 0 < a2 by omega)
 -- v2 < 2^32
 have hb:v2≤4294967295:=by
  rcases Int.lt_or_le v2 4294967296 with g | g
  ·omega
  ·exfalso
   have k1:v2 * v2≤v2 * a1:=Int.mul_le_mul_of_nonneg_left (by omega) (by omega)
   have k2:4294967296 * 4294967296≤v2 * v2:=Int.mul_le_mul g g (by omega) (by omega)
   have k3:0≤v1 * a2:=Int.mul_nonneg hv1 (by omega)
   have:=h.iA
   omega
 have key:0≤(if !ev then Y * v2 - X * u2 else X * u2 - Y * v2:Int)∧(if !ev then Y * v2 - X * u2 else X * u2 - Y * v2:Int) < (if ev then Y * v1 - X * u1 else X * u1 - Y * v1:Int):=by
  have d:=h.det
  have i1:=leh_a1 A B a1 a2 u1 u2 v1 v2 _ h.iA h.iB d
  have i2:=leh_a2 A B a1 a2 u1 u2 v1 v2 _ h.iA h.iB d
  rw [hX,hY]
  cases ev with
  | false=>
   simp only [Bool.not_false,if_true,Bool.false_eq_true,if_false] at *
   have e:(((B:Int) * D+e2) * v2 - ((A:Int) * D+e1) * u2)=D * a2+(e2 * v2 - e1 * u2):=ring_leh1 _ _ _ _ _ _ _ _ (by omega)
   have f:((A:Int) * D+e1) * (u1+u2) - ((B:Int) * D+e2) * (v1+v2)=D * (a1 - a2)+(e1 * (u1+u2) - e2 * (v1+v2)):=ring_leh2 _ _ _ _ _ _ _ _ (by rw [Int.add_mul,Int.add_mul];omega)
   have g1:=leh_lo (a:=a2) hD he1 he1' he2 hu2 (by omega) (v:=v2) (by have:=h.uv2;omega)
   have g2:=leh_hi (u:=u1+u2) hD he1 he2 he2' (by omega) (show 1≤v1+v2 by omega) c2
   rw [Int.mul_add,Int.mul_add] at f
   omega
  | true=>
   simp only [Bool.not_true,if_true,Bool.false_eq_true,if_false] at *
   have e:(((A:Int) * D+e1) * u2 - ((B:Int) * D+e2) * v2)=D * a2+(e1 * u2 - e2 * v2):=ring_leh2 _ _ _ _ _ _ _ _ (by omega)
   have f:((B:Int) * D+e2) * (v1+v2) - ((A:Int) * D+e1) * (u1+u2)=D * (a1 - a2)+(e2 * (v1+v2) - e1 * (u1+u2)):=ring_leh1 _ _ _ _ _ _ _ _ (by rw [Int.add_mul,Int.add_mul];omega)
   have g1:=leh_hi (u:=u2) hD he1 he2 he2' hu2 hv2 c1
   have k1:(e1+1) * (u1+u2)≤D * (u1+u2):=Int.mul_le_mul_of_nonneg_right (by omega) (by omega)
   have k2:0≤e2 * (v1+v2):=Int.mul_nonneg he2 (by omega)
   have k3:D * (u1+u2)≤D * (a1 - a2):=Int.mul_le_mul_of_nonneg_left (by have:=h.uv12;omega) (by omega)
   have k4:1≤u1+u2:=by
    rcases Int.lt_or_le 0 (u1+u2) with g | g
    ·omega
    ·have z1:u1=0:=by omega
     have z2:u2=0:=by omega
     rw [z1,z2] at d
     simp at d
   rw [Int.add_mul] at k1
   rw [Int.mul_add,Int.mul_add] at f
   omega
 obtain ⟨key1,key2⟩:=key
 have hqv:1 * v2≤a1 / a2 * v2:=Int.mul_le_mul_of_nonneg_right r5 (by omega)
 refine ⟨hm0,by omega,hu1,hu2,by omega,hv1,by omega,by omega,?_,?_,?_,?_,?_,?_,?_,h.b1,by have:=h.uv2;omega,h.b3,hb,?_,?_,?_⟩
 ·rw [hm,← h.iA,Int.add_mul,Int.mul_sub]
  have:a1 / a2 * v2 * a2=v2 * (a1 / a2 * a2):=by rw [Int.mul_right_comm,Int.mul_comm]
  omega
 ·rw [hm,← h.iB,Int.add_mul,Int.mul_sub]
  have:a1 / a2 * u2 * a2=u2 * (a1 / a2 * a2):=by rw [Int.mul_right_comm,Int.mul_comm]
  omega
 ·have d:=h.det
  rw [Int.mul_add,Int.add_mul]
  have:u2 * (a1 / a2 * v2)=a1 / a2 * u2 * v2:=by rw [← Int.mul_assoc,Int.mul_comm u2]
  cases ev <;> simp at d ⊢ <;> omega
 ·have m:(a1 / a2 - 1) * u2≤(a1 / a2 - 1) * v2:=Int.mul_le_mul_of_nonneg_left h.uv2 (by omega)
  rw [Int.sub_mul,Int.sub_mul] at m
  have:=h.uv12
  omega
 ·have m:a1 / a2 * u2≤a1 / a2 * v2:=Int.mul_le_mul_of_nonneg_left h.uv2 (by omega)
  have:=h.uv12
  omega
 ·have m:1 * v2≤a1 / a2 * v2:=Int.mul_le_mul_of_nonneg_right r5 (by omega)
  omega
 ·have m:1 * v2≤a1 / a2 * v2:=Int.mul_le_mul_of_nonneg_right r5 (by omega)
  have:=h.uv2
  omega
 ·intro h0;omega
 ·intro _
  rcases Int.lt_or_eq_of_le hv1 with g | g
  ·have:=h.st1 g
   omega
  ·obtain ⟨s1,s2,s3,s4,s5⟩:=h.st0 g.symm
   rw [s2,s3,s5]
   simp
 ·intro g
  have q:=h.st1 g
  refine ⟨?_,key1,?_,?_⟩
  ·have d:=h.det
   cases ev <;> simp at d ⊢ <;> omega
  ·cases ev <;> simpa using key2
  ·cases ev <;> simpa using q
theorem leh_gcd {X Y R0 R1 u0 u1 v0 v1:Nat} (hx:X=v1 * R0+v0 * R1) (hy:Y=u1 * R0+u0 * R1) (h0:R0+v0 * Y=u0 * X∨R0+u0 * X=v0 * Y) (h1:R1+v1 * Y=u1 * X∨R1+u1 * X=v1 * Y):Nat.gcd R0 R1=Nat.gcd X Y:=by
 apply Nat.dvd_antisymm
 ·have d0:=Nat.gcd_dvd_left R0 R1
  have d1:=Nat.gcd_dvd_right R0 R1
  refine Nat.dvd_gcd ?_ ?_
  ·rw [hx];exact Nat.dvd_add (Nat.dvd_mul_left_of_dvd d0 _) (Nat.dvd_mul_left_of_dvd d1 _)
  ·rw [hy];exact Nat.dvd_add (Nat.dvd_mul_left_of_dvd d0 _) (Nat.dvd_mul_left_of_dvd d1 _)
 ·have d0:=Nat.gcd_dvd_left X Y
  have d1:=Nat.gcd_dvd_right X Y
  refine Nat.dvd_gcd ?_ ?_
  ·rcases h0 with h | h
   ·exact (Nat.dvd_add_left (Nat.dvd_mul_left_of_dvd d1 v0)).1 (h▸Nat.dvd_mul_left_of_dvd d0 u0)
   ·exact (Nat.dvd_add_left (Nat.dvd_mul_left_of_dvd d0 u0)).1 (h▸Nat.dvd_mul_left_of_dvd d1 v0)
  ·rcases h1 with h | h
   ·exact (Nat.dvd_add_left (Nat.dvd_mul_left_of_dvd d1 v1)).1 (h▸Nat.dvd_mul_left_of_dvd d0 u1)
   ·exact (Nat.dvd_add_left (Nat.dvd_mul_left_of_dvd d0 u1)).1 (h▸Nat.dvd_mul_left_of_dvd d1 v1)
theorem ring_bez1 (X Y u0 u1 v0 v1 d:Int) (h:u0 * v1 - u1 * v0=d):v1 * (X * u0 - Y * v0)+v0 * (Y * v1 - X * u1)=d * X∧u1 * (X * u0 - Y * v0)+u0 * (Y * v1 - X * u1)=d * Y:=by
 constructor <;> grind
structure Cof (X Y u0 u1 v0 v1:Nat) (ev:Bool) (R0 R1:Nat):Prop where
 lt:R1 < R0
 le:R0≤Y
 e0:if ev then R0+Y * v0=X * u0 else R0+X * u0=Y * v0
 e1:if ev then R1+X * u1=Y * v1 else R1+Y * v1=X * u1
 gcd:Nat.gcd R0 R1=Nat.gcd X Y
theorem Leh.cof {A B X Y:Nat} {a1 a2 u0 u1 u2 v0 v1 v2:Int} {ev:Bool} (h:Leh A B X Y a1 a2 u0 u1 u2 v0 v1 v2 ev) (hv0:v0≠0):∃R0 R1:Nat,Cof X Y u0.toNat u1.toNat v0.toNat v1.toNat ev R0 R1:=by
 obtain ⟨d,k0,k1,k2⟩:=h.st2 (by have:=h.v0n;omega)
 obtain ⟨a,rfl⟩:=Int.eq_ofNat_of_zero_le h.u0n
 obtain ⟨b,rfl⟩:=Int.eq_ofNat_of_zero_le h.u1n
 obtain ⟨c,rfl⟩:=Int.eq_ofNat_of_zero_le h.v0n
 obtain ⟨e,rfl⟩:=Int.eq_ofNat_of_zero_le h.v1n
 simp only [Int.toNat_natCast]
 have m1:((X * a:Nat):Int)=(X:Int) * a:=Int.natCast_mul _ _
 have m2:((Y * c:Nat):Int)=(Y:Int) * c:=Int.natCast_mul _ _
 have m3:((Y * e:Nat):Int)=(Y:Int) * e:=Int.natCast_mul _ _
 have m4:((X * b:Nat):Int)=(X:Int) * b:=Int.natCast_mul _ _
 cases ev with
 | true=>
  simp only [if_true] at *
  obtain ⟨z1,z2⟩:=ring_bez1 X Y a b c e 1 d
  refine ⟨X * a - Y * c,Y * e - X * b,by omega,by omega,?_,?_,?_⟩
  ·simp;omega
  ·simp;omega
  ·have p0:((X * a - Y * c:Nat):Int)=(X:Int) * a - Y * c:=by omega
   have p1:((Y * e - X * b:Nat):Int)=(Y:Int) * e - X * b:=by omega
   rw [← p0,← p1] at z1 z2
   refine leh_gcd (u0:=a) (u1:=b) (v0:=c) (v1:=e) ?_ ?_ (.inl ?_) (.inr ?_)
   ·have:=Int.natCast_mul e (X * a - Y * c);have:=Int.natCast_mul c (Y * e - X * b);omega
   ·have:=Int.natCast_mul b (X * a - Y * c);have:=Int.natCast_mul a (Y * e - X * b);omega
   ·rw [Nat.mul_comm c,Nat.mul_comm a];omega
   ·rw [Nat.mul_comm b,Nat.mul_comm e];omega
 | false=>
  simp only [Bool.false_eq_true,if_false] at *
  obtain ⟨z1,z2⟩:=ring_bez1 X Y a b c e (-1) d
  refine ⟨Y * c - X * a,X * b - Y * e,by omega,by omega,?_,?_,?_⟩
  ·simp;omega
  ·simp;omega
  ·have p0:((Y * c - X * a:Nat):Int)=(Y:Int) * c - X * a:=by omega
   have p1:((X * b - Y * e:Nat):Int)=(X:Int) * b - Y * e:=by omega
   have q0:(X:Int) * a - Y * c= -((Y * c - X * a:Nat):Int):=by omega
   have q1:(Y:Int) * e - X * b= -((X * b - Y * e:Nat):Int):=by omega
   rw [q0,q1,Int.mul_neg,Int.mul_neg] at z1 z2
   refine leh_gcd (u0:=a) (u1:=b) (v0:=c) (v1:=e) ?_ ?_ (.inr ?_) (.inl ?_)
   ·have:=Int.natCast_mul e (Y * c - X * a);have:=Int.natCast_mul c (X * b - Y * e);omega
   ·have:=Int.natCast_mul b (Y * c - X * a);have:=Int.natCast_mul a (X * b - Y * e);omega
   ·rw [Nat.mul_comm a,Nat.mul_comm c];omega
   ·rw [Nat.mul_comm e,Nat.mul_comm b];omega
end Pl
end Go.Proofs.YtncmobkhenfhpaaGreat
