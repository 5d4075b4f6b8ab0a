/- Lemmas of the claim; no condition. -/
import Derived.Test.YtncmobkhenfhpaaGreatE6
set_option linter.all false
set_option maxRecDepth 100000
set_option maxHeartbeats 40000000
namespace Go.Proofs.YtncmobkhenfhpaaGreat
open Go.RowKit
open Pl
attribute [local go_sem ↓] Go.wp_at_zero Go.wp_at_succ
namespace Pl
structure Leh (A B X Y:Nat) (a1 a2 u0 u1 u2 v0 v1 v2:Int) (ev:Bool):Prop where
 a2n:0≤a2
 a21:a2≤a1
 u0n:0≤u0
 u1n:0≤u1
 u2n:0≤u2
 v0n:0≤v0
 v1n:0≤v1
 v2n:1≤v2
 iA:v2 * a1+v1 * a2=A
 iB:u2 * a1+u1 * a2=B
 det:u1 * v2 - u2 * v1=if ev then -1 else 1
 uv2:u2≤v2
 uv12:u1+u2≤v1+v2
 v12:v1≤v2
 u1v2:u1≤v2
 b0:u0≤4294967295
 b1:u1≤4294967295
 b2:v0≤4294967295
 b3:v1≤4294967295
 st0:v1=0→u1=1∧u2=0∧v2=1∧v0=0∧ev=false
 st1:0 < v1→(if ev then Y * v1 - X * u1 else X * u1 - Y * v1:Int)≤Y
 st2:0 < v0→u0 * v1 - u1 * v0=(if ev then 1 else -1)∧0≤(if ev then Y * v1 - X * u1 else X * u1 - Y * v1:Int)∧
  (if ev then Y * v1 - X * u1 else X * u1 - Y * v1:Int) < (if ev then X * u0 - Y * v0 else Y * v0 - X * u0:Int)∧(if ev then X * u0 - Y * v0 else Y * v0 - X * u0:Int)≤Y
theorem Leh.start {A B X Y:Nat} (h:B≤A):Leh A B X Y A B 0 1 0 0 0 1 false:=
 ⟨by omega,by omega,by omega,by omega,by omega,by omega,by omega,by omega,by omega,by omega,by simp,by omega,by omega,by omega,by omega,by omega,by omega,by omega,by omega,fun _=>⟨rfl,rfl,rfl,rfl,rfl⟩,fun h=>by omega,fun h=>by omega⟩
theorem Leh.room {A B X Y:Nat} {a1 a2 u0 u1 u2 v0 v1 v2:Int} {ev:Bool} (h:Leh A B X Y a1 a2 u0 u1 u2 v0 v1 v2 ev) (c1:v2≤a2):
 v1+(a1 / a2) * v2≤A∧u1+(a1 / a2) * u2≤A∧0≤(a1 / a2) * v2∧0≤(a1 / a2) * u2∧1≤a1 / a2:=by
 have h2:=h.v2n;have hq:1≤a1 / a2:=by
  rw [Int.le_ediv_iff_mul_le (by omega)];have:=h.a21;omega
 have a:a1 / a2 * a2≤a1:=by rw [Int.mul_comm];exact Int.mul_ediv_self_le (by omega)
 have k1:(v1+(a1 / a2) * v2) * a2≤A:=by
  rw [← h.iA,Int.add_mul];have:a1 / a2 * v2 * a2≤v2 * a1:=by
   rw [Int.mul_right_comm,Int.mul_comm v2];exact Int.mul_le_mul_of_nonneg_right a (by omega)
  omega
 have n1:0≤(a1 / a2) * v2:=Int.mul_nonneg (by omega) (by omega);have n2:0≤(a1 / a2) * u2:=Int.mul_nonneg (by omega) h.u2n;have k2:(v1+(a1 / a2) * v2) * 1≤(v1+(a1 / a2) * v2) * a2:=Int.mul_le_mul_of_nonneg_left (by omega) (by have:=h.v1n;omega);have k3:u1+(a1 / a2) * u2≤v1+(a1 / a2) * v2:=by
  have m:(a1 / a2 - 1) * u2≤(a1 / a2 - 1) * v2:=Int.mul_le_mul_of_nonneg_left h.uv2 (by omega);rw [Int.sub_mul,Int.sub_mul] at m;have:=h.uv12;omega
 exact ⟨by omega,by omega,n1,n2,hq⟩
theorem Yej {D a v u e1 e2:Int} (hD:0 < D) (_he1:0≤e1) (he1':e1 < D) (he2:0≤e2) (hu:0≤u) (hv:0≤v) (h:u≤a):0≤D * a+(e2 * v - e1 * u):=by
 have h1:e1 * u≤D * u:=Int.mul_le_mul_of_nonneg_right (by omega) hu;have h2:0≤e2 * v:=Int.mul_nonneg he2 hv;have h3:D * u≤D * a:=Int.mul_le_mul_of_nonneg_left h (by omega);omega
theorem Yah {D a v u e1 e2:Int} (hD:0 < D) (he1:0≤e1) (_he2:0≤e2) (he2':e2 < D) (hu:0≤u) (hv:1≤v) (h:v≤a):0 < D * a+(e1 * u - e2 * v):=by
 have h1:(e2+1) * v≤D * v:=Int.mul_le_mul_of_nonneg_right (by omega) (by omega);have h2:0≤e1 * u:=Int.mul_nonneg he1 hu;have h3:D * v≤D * a:=Int.mul_le_mul_of_nonneg_left h (by omega);rw [Int.add_mul] at h1;omega
theorem Zjr (D A B e1 e2 u v a:Int) (h:v * B - u * A=a):(B * D+e2) * v - (A * D+e1) * u=D * a+(e2 * v - e1 * u):=by grind
theorem Zjs (D A B e1 e2 u v a:Int) (h:u * A - v * B=a):(A * D+e1) * u - (B * D+e2) * v=D * a+(e1 * u - e2 * v):=by grind
theorem Yek (A B a1 a2 u1 u2 v1 v2 d:Int) (hA:v2 * a1+v1 * a2=A) (hB:u2 * a1+u1 * a2=B) (hd:u1 * v2 - u2 * v1=d):u1 * A - v1 * B=d * a1:=by grind
theorem Yel (A B a1 a2 u1 u2 v1 v2 d:Int) (hA:v2 * a1+v1 * a2=A) (hB:u2 * a1+u1 * a2=B) (hd:u1 * v2 - u2 * v1=d):v2 * B - u2 * A=d * a2:=by grind
theorem Leh.step {A B X Y:Nat} {D e1 e2:Int} {a1 a2 u0 u1 u2 v0 v1 v2:Int} {ev:Bool} (h:Leh A B X Y a1 a2 u0 u1 u2 v0 v1 v2 ev) (hD:0 < D) (hX:(X:Int)=A * D+e1) (hY:(Y:Int)=B * D+e2)
 (he1:0≤e1) (he1':e1 < D) (he2:0≤e2) (he2':e2 < D) (hA:(A:Int)≤18446744073709551615) (c1:v2≤a2) (c2:v1+v2≤a1 - a2):
 Leh A B X Y a2 (a1 % a2) u1 u2 (u1+(a1 / a2) * u2) v1 v2 (v1+(a1 / a2) * v2) (!ev):=by
 obtain ⟨r1,r2,r3,r4,r5⟩:=h.room c1;have k:=h.v2n;have b:=h.u2n;have c:=h.v1n;have l:=h.u1n;have p:1≤a2:=by omega
 have hm:a1 % a2=a1 - (a1 / a2) * a2:=by
  have:=Int.emod_add_mul_ediv a1 a2;rw [Int.mul_comm] at this;omega
 have n:=Int.emod_nonneg a1 (show a2≠0 by omega);have r:=Int.emod_lt_of_pos a1 (show 0 < a2 by omega)
 -- v2 < 2^32
 have hb:v2≤4294967295:=by
  rcases Int.lt_or_le v2 4294967296 with g | g
  ·omega
  ·exfalso;have k1:v2 * v2≤v2 * a1:=Int.mul_le_mul_of_nonneg_left (by omega) (by omega);have k2:4294967296 * 4294967296≤v2 * v2:=Int.mul_le_mul g g (by omega) (by omega);have k3:0≤v1 * a2:=Int.mul_nonneg c (by omega);have:=h.iA;omega
 have o:0≤(if !ev then Y * v2 - X * u2 else X * u2 - Y * v2:Int)∧(if !ev then Y * v2 - X * u2 else X * u2 - Y * v2:Int) < (if ev then Y * v1 - X * u1 else X * u1 - Y * v1:Int):=by
  have d:=h.det;have i1:=Yek A B a1 a2 u1 u2 v1 v2 _ h.iA h.iB d;have i2:=Yel A B a1 a2 u1 u2 v1 v2 _ h.iA h.iB d;rw [hX,hY]
  cases ev with
  | false=>
   simp only [Bool.not_false,if_true,Bool.false_eq_true,if_false] at *;have e:(((B:Int) * D+e2) * v2 - ((A:Int) * D+e1) * u2)=D * a2+(e2 * v2 - e1 * u2):=Zjr _ _ _ _ _ _ _ _ (by omega);have f:((A:Int) * D+e1) * (u1+u2) - ((B:Int) * D+e2) * (v1+v2)=D * (a1 - a2)+(e1 * (u1+u2) - e2 * (v1+v2)):=Zjs _ _ _ _ _ _ _ _ (by rw [Int.add_mul,Int.add_mul];omega);have g1:=Yej (a:=a2) hD he1 he1' he2 b (by omega) (v:=v2) (by have:=h.uv2;omega);have g2:=Yah (u:=u1+u2) hD he1 he2 he2' (by omega) (show 1≤v1+v2 by omega) c2;rw [Int.mul_add,Int.mul_add] at f;omega
  | true=>
   simp only [Bool.not_true,if_true,Bool.false_eq_true,if_false] at *;have e:(((A:Int) * D+e1) * u2 - ((B:Int) * D+e2) * v2)=D * a2+(e1 * u2 - e2 * v2):=Zjs _ _ _ _ _ _ _ _ (by omega);have f:((B:Int) * D+e2) * (v1+v2) - ((A:Int) * D+e1) * (u1+u2)=D * (a1 - a2)+(e2 * (v1+v2) - e1 * (u1+u2)):=Zjr _ _ _ _ _ _ _ _ (by rw [Int.add_mul,Int.add_mul];omega);have g1:=Yah (u:=u2) hD he1 he2 he2' b k c1;have k1:(e1+1) * (u1+u2)≤D * (u1+u2):=Int.mul_le_mul_of_nonneg_right (by omega) (by omega);have k2:0≤e2 * (v1+v2):=Int.mul_nonneg he2 (by omega);have k3:D * (u1+u2)≤D * (a1 - a2):=Int.mul_le_mul_of_nonneg_left (by have:=h.uv12;omega) (by omega);have k4:1≤u1+u2:=by
    rcases Int.lt_or_le 0 (u1+u2) with g | g
    ·omega
    ·have z1:u1=0:=(by omega);have z2:u2=0:=(by omega);rw [z1,z2] at d;simp at d
   rw [Int.add_mul] at k1;rw [Int.mul_add,Int.mul_add] at f;omega
 obtain ⟨i,j⟩:=o;have s:1 * v2≤a1 / a2 * v2:=Int.mul_le_mul_of_nonneg_right r5 (by omega);refine ⟨n,by omega,l,b,by omega,c,by omega,by omega,?_,?_,?_,?_,?_,?_,?_,h.b1,by have:=h.uv2;omega,h.b3,hb,?_,?_,?_⟩
 ·rw [hm,← h.iA,Int.add_mul,Int.mul_sub];have:a1 / a2 * v2 * a2=v2 * (a1 / a2 * a2):=by rw [Int.mul_right_comm,Int.mul_comm]
  omega
 ·rw [hm,← h.iB,Int.add_mul,Int.mul_sub];have:a1 / a2 * u2 * a2=u2 * (a1 / a2 * a2):=by rw [Int.mul_right_comm,Int.mul_comm]
  omega
 ·have d:=h.det;rw [Int.mul_add,Int.add_mul];have:u2 * (a1 / a2 * v2)=a1 / a2 * u2 * v2:=by rw [← Int.mul_assoc,Int.mul_comm u2]
  cases ev <;> simp at d ⊢ <;> omega
 ·have m:(a1 / a2 - 1) * u2≤(a1 / a2 - 1) * v2:=Int.mul_le_mul_of_nonneg_left h.uv2 (by omega);rw [Int.sub_mul,Int.sub_mul] at m;have:=h.uv12;omega
 ·have m:a1 / a2 * u2≤a1 / a2 * v2:=Int.mul_le_mul_of_nonneg_left h.uv2 (by omega);have:=h.uv12;omega
 ·have m:1 * v2≤a1 / a2 * v2:=Int.mul_le_mul_of_nonneg_right r5 (by omega);omega
 ·have m:1 * v2≤a1 / a2 * v2:=Int.mul_le_mul_of_nonneg_right r5 (by omega);have:=h.uv2;omega
 ·intro h0;omega
 ·intro _;rcases Int.lt_or_eq_of_le c with g | g
  ·have:=h.st1 g;omega
  ·obtain ⟨s1,s2,s3,s4,s5⟩:=h.st0 g.symm;rw [s2,s3,s5];simp
 ·intro g;have q:=h.st1 g;refine ⟨?_,i,?_,?_⟩
  ·have d:=h.det
   cases ev <;> simp at d ⊢ <;> omega
  ·cases ev <;> simpa using j
  ·cases ev <;> simpa using q
theorem Ztu {X Y R0 R1 u0 u1 v0 v1:Nat} (hx:X=v1 * R0+v0 * R1) (hy:Y=u1 * R0+u0 * R1) (h0:R0+v0 * Y=u0 * X∨R0+u0 * X=v0 * Y) (h1:R1+v1 * Y=u1 * X∨R1+u1 * X=v1 * Y):Nat.gcd R0 R1=Nat.gcd X Y:=by
 apply Nat.dvd_antisymm
 ·have d0:=Nat.gcd_dvd_left R0 R1;have d1:=Nat.gcd_dvd_right R0 R1;refine Nat.dvd_gcd ?_ ?_
  ·rw [hx];exact Nat.dvd_add (Nat.dvd_mul_left_of_dvd d0 _) (Nat.dvd_mul_left_of_dvd d1 _)
  ·rw [hy];exact Nat.dvd_add (Nat.dvd_mul_left_of_dvd d0 _) (Nat.dvd_mul_left_of_dvd d1 _)
 ·have d0:=Nat.gcd_dvd_left X Y;have d1:=Nat.gcd_dvd_right X Y;refine Nat.dvd_gcd ?_ ?_
  ·rcases h0 with h | h
   ·exact (Nat.dvd_add_left (Nat.dvd_mul_left_of_dvd d1 v0)).1 (h▸Nat.dvd_mul_left_of_dvd d0 u0)
   ·exact (Nat.dvd_add_left (Nat.dvd_mul_left_of_dvd d0 u0)).1 (h▸Nat.dvd_mul_left_of_dvd d1 v0)
  ·rcases h1 with h | h
   ·exact (Nat.dvd_add_left (Nat.dvd_mul_left_of_dvd d1 v1)).1 (h▸Nat.dvd_mul_left_of_dvd d0 u1)
   ·exact (Nat.dvd_add_left (Nat.dvd_mul_left_of_dvd d0 u1)).1 (h▸Nat.dvd_mul_left_of_dvd d1 v1)
theorem Zjt (X Y u0 u1 v0 v1 d:Int) (h:u0 * v1 - u1 * v0=d):v1 * (X * u0 - Y * v0)+v0 * (Y * v1 - X * u1)=d * X∧u1 * (X * u0 - Y * v0)+u0 * (Y * v1 - X * u1)=d * Y:=by
 constructor <;> grind
structure Cof (X Y u0 u1 v0 v1:Nat) (ev:Bool) (R0 R1:Nat):Prop where
 lt:R1 < R0
 le:R0≤Y
 e0:if ev then R0+Y * v0=X * u0 else R0+X * u0=Y * v0
 e1:if ev then R1+X * u1=Y * v1 else R1+Y * v1=X * u1
 gcd:Nat.gcd R0 R1=Nat.gcd X Y
theorem Leh.cof {A B X Y:Nat} {a1 a2 u0 u1 u2 v0 v1 v2:Int} {ev:Bool} (h:Leh A B X Y a1 a2 u0 u1 u2 v0 v1 v2 ev) (hv0:v0≠0):∃R0 R1:Nat,Cof X Y u0.toNat u1.toNat v0.toNat v1.toNat ev R0 R1:=by
 obtain ⟨d,k0,k1,k2⟩:=h.st2 (by have:=h.v0n;omega);obtain ⟨a,rfl⟩:=JT h.u0n;obtain ⟨b,rfl⟩:=JT h.u1n;obtain ⟨c,rfl⟩:=JT h.v0n;obtain ⟨e,rfl⟩:=JT h.v1n;simp only [JP];have m1:((X * a:Nat):Int)=(X:Int) * a:=Int.natCast_mul _ _;have m2:((Y * c:Nat):Int)=(Y:Int) * c:=Int.natCast_mul _ _;have m3:((Y * e:Nat):Int)=(Y:Int) * e:=Int.natCast_mul _ _;have m4:((X * b:Nat):Int)=(X:Int) * b:=Int.natCast_mul _ _
 cases ev with
 | true=>
  simp only [if_true] at *;obtain ⟨z1,z2⟩:=Zjt X Y a b c e 1 d;refine ⟨X * a - Y * c,Y * e - X * b,by omega,by omega,?_,?_,?_⟩
  ·simp;omega
  ·simp;omega
  ·have p0:((X * a - Y * c:Nat):Int)=(X:Int) * a - Y * c:=(by omega);have p1:((Y * e - X * b:Nat):Int)=(Y:Int) * e - X * b:=(by omega);rw [← p0,← p1] at z1 z2;refine Ztu (u0:=a) (u1:=b) (v0:=c) (v1:=e) ?_ ?_ (.inl ?_) (.inr ?_)
   ·have:=Int.natCast_mul e (X * a - Y * c);have:=Int.natCast_mul c (Y * e - X * b);omega
   ·have:=Int.natCast_mul b (X * a - Y * c);have:=Int.natCast_mul a (Y * e - X * b);omega
   ·rw [Nat.mul_comm c,Nat.mul_comm a];omega
   ·rw [Nat.mul_comm b,Nat.mul_comm e];omega
 | false=>
  simp only [Bool.false_eq_true,if_false] at *;obtain ⟨z1,z2⟩:=Zjt X Y a b c e (-1) d;refine ⟨Y * c - X * a,X * b - Y * e,by omega,by omega,?_,?_,?_⟩
  ·simp;omega
  ·simp;omega
  ·have p0:((Y * c - X * a:Nat):Int)=(Y:Int) * c - X * a:=(by omega);have p1:((X * b - Y * e:Nat):Int)=(X:Int) * b - Y * e:=(by omega);have q0:(X:Int) * a - Y * c= -((Y * c - X * a:Nat):Int):=(by omega);have q1:(Y:Int) * e - X * b= -((X * b - Y * e:Nat):Int):=(by omega);rw [q0,q1,Int.mul_neg,Int.mul_neg] at z1 z2;refine Ztu (u0:=a) (u1:=b) (v0:=c) (v1:=e) ?_ ?_ (.inr ?_) (.inl ?_)
   ·have:=Int.natCast_mul e (Y * c - X * a);have:=Int.natCast_mul c (X * b - Y * e);omega
   ·have:=Int.natCast_mul b (Y * c - X * a);have:=Int.natCast_mul a (X * b - Y * e);omega
   ·rw [Nat.mul_comm a,Nat.mul_comm c];omega
   ·rw [Nat.mul_comm e,Nat.mul_comm b];omega
end Pl
theorem UO [Old] (i:Int) (g:Nat) (A:Option Addr) (n c:Nat) (ds:List Nat) (w:World) (h:ZQ w (.slice A n c) ds) (hg:w.cell? ⟨g,0,none⟩=some (.slice A n c)) (i0:0≤i) (i1:i≤1099511627776) (hOl:Zb w:=by (repeat (first | assumption | exact Zb.up (by assumption) hOl | exact Zb.up (Hid.out (by assumption)) hOl | with_reducible refine Zb.set ?_ _ _ | with_reducible refine Zb.mk_ ?_ _ | with_reducible refine Zb.dr ?_ | with_reducible refine Zb.drN ?_ | refine Zb.up (by assumption) ?_ | refine Zb.up (Hid.out (by assumption)) ?_))):
 Calls Tryz.prog 180 #[.int .i64 i,.pointer (some ⟨g,0,none⟩)] w fun e w'=>e= .returned (.int .u64 (di ds i.toNat))∧w=w':=by
 have d:=hOl.le;obtain ⟨hl,f,j,hc⟩:=h.len;obtain ⟨k,rfl⟩:=JT i0;rw [JP];have x0:=Zr ds k;have x1:=Yk h.ok k;rcases JX k n with hk | hk
 ·obtain ⟨b,l,rfl,hb,a⟩:=h.at_ (by omega);have hx:=a k hk;clear a;go_enter Tryz.func180,Tryz.ntmps180;go_wp2;go_ret;exact ⟨rfl,rfl⟩
 ·have e:di ds k=0:=by rw [Yq,Wv (by omega)];rfl
  rw [e];clear e;go_enter Tryz.func180,Tryz.ntmps180;go_wp2;go_ret;exact ⟨rfl,rfl⟩
theorem Ztw {z x:Int} {s:Nat} (hs:s≤31) (z0:0≤z) (z1:z < 2^s) (x0:0≤x) (q1:x * 2^s≤18446744073709551615):bits .or .u64 (x * 2^s) z=x * 2^s+z:=by
 obtain ⟨a,rfl⟩:=JT z0;obtain ⟨b,rfl⟩:=JT x0;have c:=Wx hs;rw [Yw] at *;rw [← Int.natCast_mul] at *;rw [u64_or_nat _ _ (by omega) (by omega),← Nat.shiftLeft_eq,← Nat.shiftLeft_add_eq_or_of_lt (by omega),Nat.shiftLeft_eq];omega
theorem Zbr {s:Nat} {x:Int} (hs:s≤31) (x0:0≤x) (x1:x≤4294967295):0≤x / 2^(32 - s)∧x / 2^(32 - s) < 2^s:=by
 have hp:(0:Int) < 2^(32 - s):=by have:=XW (32 - s);omega
 refine ⟨Int.ediv_nonneg x0 (by omega),?_⟩;rw [Int.ediv_lt_iff_lt_mul hp,← Int.pow_add,show s+(32 - s)=32 from by omega];omega
theorem Zfz [Old] (v:Value) (ds:List Nat) (m s:Nat) (w:World) (h:ZQ w v ds) (hs:s≤31) (hm:(m:Int)≤549755813888) (ht:(di ds (m+2)+1) * 2^s≤4294967296) (hOl:Zb w:=by (repeat (first | assumption | exact Zb.up (by assumption) hOl | exact Zb.up (Hid.out (by assumption)) hOl | with_reducible refine Zb.set ?_ _ _ | with_reducible refine Zb.mk_ ?_ _ | with_reducible refine Zb.dr ?_ | with_reducible refine Zb.drN ?_ | refine Zb.up (by assumption) ?_ | refine Zb.up (Hid.out (by assumption)) ?_))):
 Calls Tryz.prog 175 #[v,.int .i64 ((m:Int)+3),.int .u64 (s:Int)] w fun e w'=>e= .returned (.int .u64 ((di ds (m+2) * 4294967296+di ds (m+1)) * 2^s+di ds m / 2^(32 - s)))∧Below w.heap.size w w':=by
 have q:=hOl.le;obtain ⟨A,n,c,rfl⟩:=h.shape;have d:=Zr ds (m+2);have l:=Yk h.ok (m+2);have f:=Zr ds (m+1);have g:=Yk h.ok (m+1);have i:=Zr ds m;have j:=Yk h.ok m;have hW:Below w.heap.size w (w.alloc (.cells #[.slice A n c] 44)):=(JR _ _).alloc (JY _) _;have hD:=h.below hW;have a:(w.alloc (.cells #[.slice A n c] 44)).cell? ⟨w.heap.size,0,none⟩=some (.slice A n c):=by simp
 have HD:=JZ hD;have HC:=JZ a;clear hD a;have r:=Wx hs;have t:(1:Int)≤2^s:=XW s;have q0:0≤di ds (m+2) * 2^s:=Int.mul_nonneg d (by omega);have q1:di ds (m+1) * 2^s≤4294967295 * 2^s:=Int.mul_le_mul_of_nonneg_right g (by omega);have q2:0≤di ds (m+1) * 2^s:=Int.mul_nonneg f (by omega);have o:di ds (m+2) * 2^s+2^s≤4294967296:=by rw [Int.add_mul,Int.one_mul] at ht;exact ht
 have hH:(di ds (m+2) * 4294967296+di ds (m+1)) * 2^s=di ds (m+2) * 2^s * 4294967296+di ds (m+1) * 2^s:=by rw [Int.add_mul,Int.mul_right_comm]
 have k:0≤(di ds (m+2) * 4294967296+di ds (m+1)) * 2^s:=by omega
 have b:(di ds (m+2) * 4294967296+di ds (m+1)) * 2^s≤18446744073709551615:=by omega
 have p:=JZ b;have r1:IntKind.u64.wrap ((di ds (m+2) * 4294967296+di ds (m+1)) * 2^s)=(di ds (m+2) * 4294967296+di ds (m+1)) * 2^s:=u64_in _ k b;have r4:=Ui f g d l;have R1:=JZ r1;clear hH k b ht o q0 q1 q2 r1;have t0:(0:Int)≤32 - (s:Int):=by omega
 go_enter Tryz.func175,Tryz.ntmps175;go_wp2_with fail;refine (UO _ _ A n c ds _ HD.out HC.out (by omega) (by omega)).mono ?_;rw [show ((m:Int)+3 - 1).toNat=m+2 from by omega];rintro e w1 ⟨rfl,rfl⟩;go_wp2_with fail;refine (UO _ _ A n c ds _ HD.out HC.out (by omega) (by omega)).mono ?_;rw [show ((m:Int)+3 - 2).toNat=m+1 from by omega];rintro e w1 ⟨rfl,rfl⟩;go_wp2_with fail;refine (UO _ _ A n c ds _ HD.out HC.out (by omega) (by omega)).mono ?_;rw [JP];rintro e w1 ⟨rfl,rfl⟩;have r1:=R1.out;go_wp2_with fail;go_ret;exact ⟨WZ (Ztw hs (Zbr hs i j).1 (Zbr hs i j).2 (by omega) p.out),hW⟩
theorem Zmv {X m s:Nat} (hs:s≤31) (hl:(Zo X).length≤m+3):(di (Zo X) (m+2) * 4294967296+di (Zo X) (m+1)) * 2^s+di (Zo X) m / 2^(32 - s)=((X / (2^(32 - s) * B32^m):Nat):Int):=by
 have hX:X=vt (Zo X) (m+3):=by rw [Xy hl,Zl]
 have e:X / (2^(32 - s) * B32^m)=(dg (Zo X) (m+2) * B32+dg (Zo X) (m+1)) * 2^s+dg (Zo X) m / 2^(32 - s):=by
  have a:=Uz (Yb X) m
  conv=>lhs;rw [hX]
  rw [Zmm,Nat.mul_comm (2^(32 - s)),← Nat.div_div_eq_div_mul,Nat.mul_comm _ (B32^m),Nat.mul_add_div (Nat.pow_pos B32_pos),Nat.div_eq_of_lt a,Nat.add_zero];have hB:B32=2^(32 - s) * 2^s:=by rw [← Nat.pow_add,show 32 - s+s=32 from by omega];rfl
  generalize dg (Zo X) (m+2) * B32+dg (Zo X) (m+1)=T;have hp:=Nat.pow_pos (n:=32 - s) (show 0 < 2 by decide);rw [hB,show T * (2^(32 - s) * 2^s)=2^(32 - s) * (T * 2^s) from by rw [Nat.mul_left_comm],Nat.mul_add_div hp]
 rw [e,Int.natCast_add,Int.natCast_ediv,Int.natCast_mul,Int.natCast_add,Int.natCast_mul,← Yw,← Yw];rfl
theorem Yem {t s:Nat} (hs:s≤31) (h1:t * 2^s≤4294967295):(t+1) * 2^s≤4294967296:=by
 have hB:2^s * 2^(32 - s)=4294967296:=by rw [← Nat.pow_add,show s+(32 - s)=32 from by omega]
 have a:t * 2^s < 2^(32 - s) * 2^s:=by rw [Nat.mul_comm (2^(32 - s)),hB];omega
 have b:=Nat.lt_of_mul_lt_mul_right a;have c:(t+1) * 2^s≤2^(32 - s) * 2^s:=JS _ b
 rwa [Nat.mul_comm (2^(32 - s)),hB] at c
theorem Yai {X m:Nat} (hl:(Zo X).length≤m+3):dg (Zo X) (m+2)=X / B32^(m+2):=by
 have hX:X=vt (Zo X) (m+3):=by rw [Xy hl,Zl]
 have a:=Uz (Yb X) (m+2)
 conv=>rhs;rw [hX]
 rw [YO,Nat.add_comm (vt _ _),Nat.mul_comm (dg _ _),Nat.mul_add_div (Nat.pow_pos B32_pos),Nat.div_eq_of_lt a];rfl
theorem Yen {X m s:Nat} (hs:s≤31) (hl:(Zo X).length≤m+3) (ht:(di (Zo X) (m+2)+1) * 2^s≤4294967296):((X / (2^(32 - s) * B32^m):Nat):Int)≤18446744073709551615:=by
 rw [← Zmv hs hl];have d:=Zr (Zo X) (m+1);have a:=Yk (Yb X) (m+1);have b:=Zr (Zo X) m;have c:=Yk (Yb X) m;have e:(1:Int)≤2^s:=XW s;have f:=Wx hs;have q1:di (Zo X) (m+1) * 2^s≤4294967295 * 2^s:=Int.mul_le_mul_of_nonneg_right a (by omega);obtain ⟨z0,z1⟩:=Zbr hs b c;rw [Int.add_mul,Int.one_mul] at ht;rw [Int.add_mul,Int.mul_right_comm];omega
theorem Zhl [Old] (v1 v2:Value) (X Y m:Nat) (w:World) (h1:ZQ w v1 (Zo X)) (h2:ZQ w v2 (Zo Y)) (hl1:(Zo X).length=m+3) (hYX:Y≤X) (hm:(m:Int)≤549755813888) (hOl:Zb w:=by (repeat (first | assumption | exact Zb.up (by assumption) hOl | exact Zb.up (Hid.out (by assumption)) hOl | with_reducible refine Zb.set ?_ _ _ | with_reducible refine Zb.mk_ ?_ _ | with_reducible refine Zb.dr ?_ | with_reducible refine Zb.drN ?_ | refine Zb.up (by assumption) ?_ | refine Zb.up (Hid.out (by assumption)) ?_))):
 Calls Tryz.prog 168 #[v1,v2] w fun e w'=>∃(u0 u1 v0 v1:Int) (ev:Bool),e= .returned (.agg #[.int .u64 u0,.int .u64 u1,.int .u64 v0,.int .u64 v1,.bool ev])∧
  0≤u0∧u0≤4294967295∧0≤u1∧u1≤4294967295∧0≤v0∧v0≤4294967295∧0≤v1∧v1≤4294967295∧(v0≠0→∃R0 R1:Nat,Cof X Y u0.toNat u1.toNat v0.toNat v1.toNat ev R0 R1)∧Below w.heap.size w w':=by
 have ag:=hOl.le;have x:(Zo Y).length≤m+3:=by have:=Zv hYX;omega
 have y:0 < X:=by
  rcases JV X with e | e
  ·subst e;rw [digs_zero] at hl1;simp at hl1
  ·exact e
 have y0:1≤di (Zo X) (m+2):=by
  have:=VV y;rw [hl1] at this;rw [Yq];simp at this;omega
 have y1:=Yk (Yb X) (m+2);have E:di (Zo Y) (m+2)≤di (Zo X) (m+2):=by
  rw [Yq,Yq,Yai x,Yai (by omega)];have:=Nat.div_le_div_right (c:=B32^(m+2)) hYX;omega
 have a4:=JZ E;have a5:=JZ x;have a6:=JZ hYX;clear E x hYX;obtain ⟨A,n1,c,rfl⟩:=h1.shape;obtain ⟨kl,ad,ai,kc⟩:=h1.len;obtain ⟨b1,af,rfl,aj,i⟩:=h1.at_ (by omega);obtain rfl:n1=m+3:=by omega
 have hx:=i (m+2) (by omega);have F:=JZ hl1;clear i hl1 kl ad;go_enter Tryz.func168,Tryz.ntmps168;go_wp2_with fail;refine (Zjq _ _ y0 y1).mono ?_;rintro e w1 ⟨s,rfl,rfl,a,ae,a3⟩;have G:(di (Zo X) (m+2)+1) * 2^s≤4294967296:=by
  have:=Yem a (Zos a3);rw [Yq,Yw,show ((dg (Zo X) (m+2):Nat):Int)+1=((dg (Zo X) (m+2)+1:Nat):Int) from by omega,← Int.natCast_mul];omega
 have r:(di (Zo Y) (m+2)+1) * 2^s≤4294967296:=by
  have:(di (Zo Y) (m+2)+1) * 2^s≤(di (Zo X) (m+2)+1) * 2^s:=Int.mul_le_mul_of_nonneg_right (by have:=a4.out;omega) (by have:=XW s;omega);omega
 have H:=JZ G;have a7:=JZ r;clear ae a3 G r;have hW:Below w.heap.size w (w.alloc (.cells #[.int .u64 0,.int .u64 0,.int .u64 0,.int .u64 0,.bool false] 180)):=(JR _ _).alloc (JY _) _;have I:=Bk.new w 180 [.int .u64 0,.int .u64 0,.int .u64 0,.int .u64 0,.bool false];have eX:=Zmv a (show (Zo X).length≤m+3 by rw [F.out];exact JY _);have eY:=Zmv a a5.out;have j:=Yen a (show (Zo X).length≤m+3 by rw [F.out];exact JY _) H.out;have q:Y / (2^(32 - s) * B32^m)≤X / (2^(32 - s) * B32^m):=Nat.div_le_div_right a6.out;have d:0 < 2^(32 - s) * B32^m:=Nat.mul_pos (Nat.pow_pos (by decide)) (Nat.pow_pos B32_pos);have J:=Nat.div_add_mod X (2^(32 - s) * B32^m);have K:=Nat.div_add_mod Y (2^(32 - s) * B32^m);have a8:=Nat.mod_lt X d;have a9:=Nat.mod_lt Y d;generalize 2^(32 - s) * B32^m=D at *;obtain ⟨A0,V⟩:∃A0,A0=X / D:=⟨_,rfl⟩;obtain ⟨B0,Z⟩:∃B0,B0=Y / D:=⟨_,rfl⟩;rw [← V] at j q J eX;rw [← Z] at q K eY;have f:=Leh.start (X:=X) (Y:=Y) q;have k:∀(a1 a2 u0 u1 u2 v0 v1 v2:Int) (ev:Bool),Leh A0 B0 X Y a1 a2 u0 u1 u2 v0 v1 v2 ev→v2≤a2→v1+v2≤a1 - a2→Leh A0 B0 X Y a2 (a1 % a2) u1 u2 (u1+(a1 / a2) * u2) v1 v2 (v1+(a1 / a2) * v2) (!ev):=by
  intro a1 a2 u0 u1 u2 v0 v1 v2 ev hh c1 c2;refine hh.step (D:=D) (e1:=(X % D:Nat)) (e2:=(Y % D:Nat)) (by omega) ?_ ?_ (by omega) (by omega) (by omega) (by omega) j c1 c2
  ·have:((D * A0:Nat):Int)=(A0:Int) * D:=by rw [Int.natCast_mul,Int.mul_comm]
   omega
  ·have:((D * B0:Nat):Int)=(B0:Int) * D:=by rw [Int.natCast_mul,Int.mul_comm]
   omega
 have aa:=JZ k;have ab:(B0:Int)≤18446744073709551615:=by omega
 have L:(0:Int)≤A0:=by omega
 have M:(0:Int)≤B0:=by omega
 have t:(B0:Int)≤A0:=by omega
 clear k J K a8 a9 q V Z d;obtain ⟨AI,B⟩:∃AI:Int,AI=(A0:Int):=⟨_,rfl⟩;obtain ⟨BI,a0⟩:∃BI:Int,BI=(B0:Int):=⟨_,rfl⟩;rw [← B] at j L eX t f;rw [← a0] at ab M eY t f;have EX:=JZ eX;have EY:=JZ eY;have N:=JZ f;have O:=JZ B;clear B a0 eX eY f;go_wp2_with fail;refine (Zfz _ (Zo X) m s _ (h1.below hW) a hm H.out).mono ?_;rw [EX.out];rintro e w2 ⟨rfl,o⟩;have P:=I.later o;have g:Below w.heap.size w w2:=hW.trans (o.mono (by simp));clear I o hW;go_wp2_with fail;refine (Zfz _ (Zo Y) m s _ (h2.below g) a hm a7.out).mono ?_;rw [EY.out];rintro e w3 ⟨rfl,p⟩;have z:=P.later p;have u:Below w.heap.size w w3:=g.trans (p.mono g.size);clear P p g;go_wp2_with fail
 go_loopw [7,8,10,11] (fun t1 t2 t3 t4 wr=>∃(a1 a2 u0 u1 u2 v0 v1 v2:Int) (ev:Bool),t1= .int .u64 a1∧t2= .int .u64 a2∧t3= .int .u64 u2∧t4= .int .u64 v2∧
  Bk wr w3.heap.size 180 [.int .u64 u0,.int .u64 u1,.int .u64 v0,.int .u64 v1,.bool ev]∧Bk wr w.heap.size 180 [.int .u64 0,.int .u64 0,.int .u64 0,.int .u64 0,.bool false]∧Below w.heap.size w wr∧a1≤AI∧Leh A0 B0 X Y a1 a2 u0 u1 u2 v0 v1 v2 ev) (fun _ t2 _ _ _=>(intOf t2).toNat)
 case atStart=>exact ⟨AI,BI,0,1,0,0,0,1,false,rfl,rfl,rfl,rfl,Bk.new w3 _ _,z.alloc _,u.alloc u.size _,Int.le_refl _,N.out⟩
 case round=>
  obtain ⟨a1,a2,u0,u1,u2,v0,v1,v2,ev,rfl,rfl,rfl,rfl,hC,hR,C,ak,hL⟩:=hrel;have n1:=hL.a2n;have n2:=hL.a21;have n3:=hL.v2n;have n4:=hL.v1n;have n5:=hL.u1n;have n6:=hL.u2n;have n7:=hL.u0n;have n8:=hL.v0n;have n9:=hL.b1;have R:=hL.b3;have S:=hL.b0;have T:=hL.b2;have e0:=hC.cellAt 0 rfl;have e1:=hC.cellAt 1 rfl;have e2:=hC.cellAt 2 rfl;have e3:=hC.cellAt 3 rfl;have e4:=hC.cellAt 4 rfl;have f0:=hC.frozen 0;have f1:=hC.frozen 1;have f2:=hC.frozen 2;have f3:=hC.frozen 3;have f4:=hC.frozen 4;have HL:=JZ hL;clear hL;have U:(decide (v2≤a2)=false∧decide (v2≤a2)=false)∨(v2≤a2∧a1 - a2 < v1+v2)∨(v2≤a2∧v1+v2≤a1 - a2):=by
   rcases Int.lt_or_le a2 v2 with c1 | c1
   ·left;simp;omega
   ·right;rcases Int.lt_or_le (a1 - a2) (v1+v2) with c2 | c2
    ·left;exact ⟨c1,c2⟩
    ·right;exact ⟨c1,c2⟩
  have v:v2≤a2→v1+v2≤18446744073709551615:=fun c1=>by
   obtain ⟨r1,r2,r3,r4,r5⟩:=HL.out.room c1;have:1 * v2≤a1 / a2 * v2:=Int.mul_le_mul_of_nonneg_right r5 (by omega);have:=O.out;omega
  have l:w.heap.size≠w3.heap.size:=by have:=z.lt;omega
  have b:=z.lt;rcases U with ⟨c1,_⟩ | ⟨c1,c2⟩ | ⟨c1,c2⟩
  ·have g0:=hR.cellAt 0 rfl;have g1:=hR.cellAt 1 rfl;have g2:=hR.cellAt 2 rfl;have g3:=hR.cellAt 3 rfl;have g4:=hR.cellAt 4 rfl;have k0:=hR.frozen 0;have k1:=hR.frozen 1;have k2:=hR.frozen 2;have k3:=hR.frozen 3;have k4:=hR.frozen 4;go_wp2;refine Zq Tryz.results168 Tryz.underlying180 (by kernel_rfl) rfl (((((hR.set_ 0 _).set_ 1 _).set_ 2 _).set_ 3 _).set_ 4 _) rfl ?_;exact ⟨u0,u1,v0,v1,ev,rfl,n7,S,n5,n9,n8,T,n4,R,fun h=>HL.out.cof h,((((C.setCell (JY _) _).setCell (JY _) _).setCell (JY _) _).setCell (JY _) _).setCell (JY _) _⟩
  ·have ac:=v c1;have ah:decide (v1+v2≤a1 - a2)=false:=(by simp;omega);have g0:=hR.cellAt 0 rfl;have g1:=hR.cellAt 1 rfl;have g2:=hR.cellAt 2 rfl;have g3:=hR.cellAt 3 rfl;have g4:=hR.cellAt 4 rfl;have k0:=hR.frozen 0;have k1:=hR.frozen 1;have k2:=hR.frozen 2;have k3:=hR.frozen 3;have k4:=hR.frozen 4;go_wp2;refine Zq Tryz.results168 Tryz.underlying180 (by kernel_rfl) rfl (((((hR.set_ 0 _).set_ 1 _).set_ 2 _).set_ 3 _).set_ 4 _) rfl ?_;exact ⟨u0,u1,v0,v1,ev,rfl,n7,S,n5,n9,n8,T,n4,R,fun h=>HL.out.cof h,((((C.setCell (JY _) _).setCell (JY _) _).setCell (JY _) _).setCell (JY _) _).setCell (JY _) _⟩
  ·have ac:=v c1;obtain ⟨r1,r2,r3,r4,r5⟩:=HL.out.room c1;have n:=aa.out _ _ _ _ _ _ _ _ _ HL.out c1 c2;have HN:=JZ n;have m0:=n.a2n;have m1:a1 % a2 < a2:=Int.emod_lt_of_pos _ (by omega);have hA:=O.out;have d1:a1 / a2≤a1:=Int.ediv_le_self _ (by omega);have q0:¬a2=0:=(by omega);have q2:a1.tmod a2=a1 % a2:=Int.tmod_eq_emod_of_nonneg (by omega);have q3:IntKind.u64.wrap (a1 % a2)=a1 % a2:=u64_in _ m0 (by omega);rw [← hA] at r1 r2;clear n hA;go_wp2
   go_quiet (fail)
   clear q0 q2 q3;go_wp2;go_roundw
   case rel=>
    refine ⟨a2,a1 % a2,u1,u2,_,v1,v2,_,!ev,rfl,rfl,rfl,rfl,?_,?_,?_,by omega,HN.out⟩
    ·exact ((((((hC.drewN nq).set_ 0 _).set_ 1 _).set_ 2 _).set_ 3 _).set_ 4 _)
    ·exact ((((((hR.drewN nq).far l _).far l _).far l _).far l _).far l _)
    ·have hb:=below_drewN C nq;exact ((((hb.setCell (Nat.le_of_lt b) _).setCell (Nat.le_of_lt b) _).setCell (Nat.le_of_lt b) _).setCell (Nat.le_of_lt b) _).setCell (Nat.le_of_lt b) _
   case measure=>simp [intOf];omega
theorem Zyb {X Y u0 u1 v0 v1 R0 R1:Nat} (h:Cof X Y u0 u1 v0 v1 true R0 R1):(u0:Int) * X - (v0:Int) * Y=R0∧(v1:Int) * Y - (u1:Int) * X=R1:=by
 have a:=h.e0;have b:=h.e1;simp only [if_true] at a b;rw [Int.mul_comm (u0:Int),Int.mul_comm (v0:Int),Int.mul_comm (v1:Int),Int.mul_comm (u1:Int),← Int.natCast_mul,← Int.natCast_mul,← Int.natCast_mul,← Int.natCast_mul];omega
theorem Ybu {X Y u0 u1 v0 v1 R0 R1:Nat} (h:Cof X Y u0 u1 v0 v1 false R0 R1):(v0:Int) * Y - (u0:Int) * X=R0∧(u1:Int) * X - (v1:Int) * Y=R1:=by
 have a:=h.e0;have b:=h.e1;simp only [Bool.false_eq_true,if_false] at a b;rw [Int.mul_comm (u0:Int),Int.mul_comm (v0:Int),Int.mul_comm (v1:Int),Int.mul_comm (u1:Int),← Int.natCast_mul,← Int.natCast_mul,← Int.natCast_mul,← Int.natCast_mul];omega
theorem Vo [Old] (v1 v2:Value) (X Y:Nat) (u v:Int) (R:Nat) (w:World) (h1:ZQ w v1 (Zo X)) (h2:ZQ w v2 (Zo Y)) (u0:0≤u) (u1:u≤4294967295) (w0:0≤v) (w1:v≤4294967295) (hs:(Zo X).length≤549755813888) (hs2:(Zo Y).length≤549755813888)
 (hR:u * X - v * Y=(R:Int)) (hlt:R≤X∨R≤Y) (hOl:Zb w:=by (repeat (first | assumption | exact Zb.up (by assumption) hOl | exact Zb.up (Hid.out (by assumption)) hOl | with_reducible refine Zb.set ?_ _ _ | with_reducible refine Zb.mk_ ?_ _ | with_reducible refine Zb.dr ?_ | with_reducible refine Zb.drN ?_ | refine Zb.up (by assumption) ?_ | refine Zb.up (Hid.out (by assumption)) ?_))):
 Calls Tryz.prog 169 #[v1,.int .u64 u,v2,.int .u64 v] w fun e w'=>∃v',e= .returned v'∧ZQ w' v' (Zo R)∧Below w.heap.size w w':=by
 have a:=hOl.le;have hX:=Yn X;have hY:=Yn Y;rcases JX (Zo X).length (Zo Y).length with h | h
 ·have:=Nat.pow_le_pow_right B32_pos (Nat.le_of_lt h);exact Zrd v1 v2 (Zo X) (Zo Y) u v R w h1 h2 h u0 u1 w0 w1 hs2 (by rw [Zl,Zl];exact hR) (by omega)
 ·have:=Nat.pow_le_pow_right B32_pos h;exact Zre v1 v2 (Zo X) (Zo Y) u v R w h1 h2 h u0 u1 w0 w1 hs (by rw [Zl,Zl];exact hR) (by omega)
def Yeo [Old] (G:Nat) (w:World) (Y:Nat) (v1 v2:Value) (wr:World):Prop:=
 ∃X:Nat,ZQ wr v1 (Zo X)∧ZQ wr v2 (Zo Y)∧Y≤X∧Nat.gcd X Y=G∧(Zo X).length≤549755813888∧Below w.heap.size w wr
theorem Zrf [Old] (v1 v2:Value) (X Y:Nat) (w:World) (h1:ZQ w v1 (Zo X)) (h2:ZQ w v2 (Zo Y)) (hs:(Zo X).length≤549755813888) (hs2:(Zo Y).length≤549755813888) (hOl:Zb w:=by (repeat (first | assumption | exact Zb.up (by assumption) hOl | exact Zb.up (Hid.out (by assumption)) hOl | with_reducible refine Zb.set ?_ _ _ | with_reducible refine Zb.mk_ ?_ _ | with_reducible refine Zb.dr ?_ | with_reducible refine Zb.drN ?_ | refine Zb.up (by assumption) ?_ | refine Zb.up (Hid.out (by assumption)) ?_))):
 Calls Tryz.prog 164 #[v1,v2] w fun e w'=>∃v',e= .returned v'∧ZQ w' v' (Zo (Nat.gcd X Y))∧Below w.heap.size w w':=by
 have ah:=hOl.le;generalize hG:Nat.gcd X Y=G;have HG:=JZ hG;clear hG;go_enter Tryz.func164,Tryz.ntmps164;go_wp2_with fail;refine (Yh _ _ X Y _ h1 h2).mono ?_;rintro e w1 ⟨rfl,q⟩;have g1:=h1.below q;have g2:=h2.below q;have start:(Y≤X∧0≤cmpN X Y)∨(X≤Y∧cmpN X Y < 0):=by
  rcases Nat.lt_trichotomy X Y with h | h | h
  ·right;exact ⟨by omega,by rw [VW h];decide⟩
  ·left;exact ⟨by omega,by rw [Zmj h];decide⟩
  ·left;exact ⟨by omega,by rw [Zdl h];decide⟩
 generalize cmpN X Y=cc at *
 go_upto_if 15 with (fail)
 go_cut [0,1] (fun s0 s1 wx=>∃n,Yeo G w n s0 s1 wx)
 case first=>
  rcases start with ⟨z,hc⟩ | ⟨z,hc⟩
  ·go_wp2_with fail
   go_meet
   exact ⟨Y,X,g1,g2,z,HG.out,hs,q⟩
  ·go_wp2_with fail
   go_meet
   exact ⟨X,Y,g2,g1,z,by rw [Nat.gcd_comm];exact HG.out,hs2,q⟩
 case rest=>
  obtain ⟨n0,ab⟩:=hcut;have ad:=JZ ab;clear ab h1 h2 g1 g2 start HG hs hs2 q;go_wp2_with fail
  go_loopg [0,1] n0 (fun k s0 s1 wr=>Yeo G w k s0 s1 wr)
  case atStart=>exact ad.out
  case round=>
   obtain ⟨X',hx,hy,z,N,o,j⟩:=hrel;have p:=JZ N;clear N;obtain ⟨A,l,c,rfl⟩:=hx.shape;obtain ⟨hl,ak,al,hc⟩:=hx.len;obtain ⟨A2,l2,c2,rfl⟩:=hy.shape;obtain ⟨kl,am,an,kc⟩:=hy.len;have ai:=Zv z;rcases JX 2 l2 with h2 | h2
   ·go_wp2_with fail;refine (Zhl _ _ X' gk (l - 3) _ hx hy (by omega) z (by omega)).mono ?_;rintro e w2 ⟨u0,u1,v0,v1,ev,rfl,a0,a1,b0,b1,c0,c1,d0,d1,O,i⟩;have B:=JZ O;clear O;have C:=hx.below i;have y:=hy.below i;have d:(Zo gk).length≤549755813888:=(by omega);have I:True:=trivial;by_cases a7:v0=0
    ·subst a7;have f:0 < gk:=by
      rcases JV gk with e | e
      ·subst e;rw [digs_zero] at kl;simp at kl;omega
      ·exact e
     go_wp2_with fail;refine (Zbq _ _ X' gk _ (C.below ((JR _ _).alloc (JY _) _)) (y.below ((JR _ _).alloc (JY _) _)) f o d).mono ?_;rintro e w3 ⟨qv,rv,rfl,hq,hr,g⟩;have a8:Below w2.heap.size w2 w3:=((JR _ _).alloc (JY _) _).trans (g.mono (by simp));have a9:=j.trans (i.mono j.size);have ae:=a9.trans (a8.mono a9.size);have af:=y.below a8;clear g;go_wp2_with fail
     go_roundg (X' % gk)
     case measure=>exact Nat.mod_lt _ f
     case rel=>exact ⟨gk,af,hr,Nat.le_of_lt (Nat.mod_lt _ f),by rw [← p.out,Nat.gcd_comm X' gk,Nat.gcd_rec gk X',Nat.gcd_comm],d,ae⟩
    ·have aj:(v0==0)=false:=(by simpa using a7);obtain ⟨R0,R1,hC⟩:=B.out a7
     cases ev with
     | true=>
      have HC:=JZ hC;obtain ⟨s,t⟩:=Zyb hC;simp only [Int.toNat_of_nonneg a0,Int.toNat_of_nonneg b0,Int.toNat_of_nonneg c0,Int.toNat_of_nonneg d0] at s t;have P:=JZ s;have R:=JZ t;clear hC s t B;go_wp2_with fail;have m:=Bk.new w2 180 [.int .u64 u0,.int .u64 u1,.int .u64 v0,.int .u64 v1,.bool true];have hW:Below w2.heap.size w2 (w2.alloc (.cells #[.int .u64 u0,.int .u64 u1,.int .u64 v0,.int .u64 v1,.bool true] 180)):=(JR _ _).alloc (JY _) _;have D:=C.below hW;have r:=y.below hW;have g:=(j.trans (i.mono j.size)).trans (hW.mono (JW j.size i.size));have q0:=m.cellAt 0 rfl;have q1:=m.cellAt 1 rfl;have q2:=m.cellAt 2 rfl;have q3:=m.cellAt 3 rfl;generalize w2.heap.size=B2 at *;simp only [List.toArray] at m;generalize w2.alloc (.cells #[.int .u64 u0,.int .u64 u1,.int .u64 v0,.int .u64 v1,.bool true] 180)=W at *;clear hW m C y i
      go_region_held3 (fun w'=>w'.cell? ⟨B2,0,none⟩=some (.int .u64 u0)∧w'.cell? ⟨B2,1,none⟩=some (.int .u64 u1)∧w'.cell? ⟨B2,2,none⟩=some (.int .u64 v0)∧w'.cell? ⟨B2,3,none⟩=some (.int .u64 v1))
       (first | exact ⟨q0,q1,q2,q3⟩ | exact ⟨cell_later a q0,cell_later a q1,cell_later a q2,cell_later a q3⟩ | exact ⟨cell_later b (cell_later a q0),cell_later b (cell_later a q1),cell_later b (cell_later a q2),cell_later b (cell_later a q3)⟩)
       (first | (go_at_call 169;have _t:=I;refine (Vo _ _ X' gk u0 v0 R0 _ (D.keep (ZG.drew _)) (r.keep (ZG.drew _)) a0 a1 c0 c1 o d P.out (.inr HC.out.le)).mono ?_;clear I _t;rintro e w4 ⟨v4,rfl,a4,a⟩) | (go_at_call 169;refine (Vo _ _ gk X' v1 u1 R1 _ (r.keep ((ZG.drew _).trans (ZG.of_below a))) (D.keep ((ZG.drew _).trans (ZG.of_below a))) d0 d1 b0 b1 d o R.out (.inl (by have:=HC.out.le;have:=HC.out.lt;omega))).mono ?_;rintro e w5 ⟨v5,rfl,a5,b⟩))
      go_wp2_with fail
      go_roundg R1
      case measure=>have:=HC.out.le;have:=HC.out.lt;omega
      case rel=>exact ⟨R0,a4.below b,a5,Nat.le_of_lt HC.out.lt,by rw [HC.out.gcd];exact p.out,JW (Zv HC.out.le) d,g.trans (((Ve a).trans (b.mono a.size)).mono g.size)⟩
     | false=>
      have HC:=JZ hC;obtain ⟨s,t⟩:=Ybu hC;simp only [Int.toNat_of_nonneg a0,Int.toNat_of_nonneg b0,Int.toNat_of_nonneg c0,Int.toNat_of_nonneg d0] at s t;have P:=JZ s;have R:=JZ t;clear hC s t B;go_wp2_with fail;have m:=Bk.new w2 180 [.int .u64 u0,.int .u64 u1,.int .u64 v0,.int .u64 v1,.bool false];have hW:Below w2.heap.size w2 (w2.alloc (.cells #[.int .u64 u0,.int .u64 u1,.int .u64 v0,.int .u64 v1,.bool false] 180)):=(JR _ _).alloc (JY _) _;have D:=C.below hW;have r:=y.below hW;have g:=(j.trans (i.mono j.size)).trans (hW.mono (JW j.size i.size));have q0:=m.cellAt 0 rfl;have q1:=m.cellAt 1 rfl;have q2:=m.cellAt 2 rfl;have q3:=m.cellAt 3 rfl;generalize w2.heap.size=B2 at *;simp only [List.toArray] at m;generalize w2.alloc (.cells #[.int .u64 u0,.int .u64 u1,.int .u64 v0,.int .u64 v1,.bool false] 180)=W at *;clear hW m C y i
      go_region_held3 (fun w'=>w'.cell? ⟨B2,0,none⟩=some (.int .u64 u0)∧w'.cell? ⟨B2,1,none⟩=some (.int .u64 u1)∧w'.cell? ⟨B2,2,none⟩=some (.int .u64 v0)∧w'.cell? ⟨B2,3,none⟩=some (.int .u64 v1))
       (first | exact ⟨q0,q1,q2,q3⟩ | exact ⟨cell_later a q0,cell_later a q1,cell_later a q2,cell_later a q3⟩ | exact ⟨cell_later b (cell_later a q0),cell_later b (cell_later a q1),cell_later b (cell_later a q2),cell_later b (cell_later a q3)⟩)
       (first | (go_at_call 169;have _t:=I;refine (Vo _ _ gk X' v0 u0 R0 _ (r.keep (ZG.drew _)) (D.keep (ZG.drew _)) c0 c1 a0 a1 d o P.out (.inl HC.out.le)).mono ?_;clear I _t;rintro e w4 ⟨v4,rfl,a4,a⟩) | (go_at_call 169;refine (Vo _ _ X' gk u1 v1 R1 _ (D.keep ((ZG.drew _).trans (ZG.of_below a))) (r.keep ((ZG.drew _).trans (ZG.of_below a))) b0 b1 d0 d1 o d R.out (.inr (by have:=HC.out.le;have:=HC.out.lt;omega))).mono ?_;rintro e w5 ⟨v5,rfl,a5,b⟩))
      go_wp2_with fail
      go_roundg R1
      case measure=>have:=HC.out.le;have:=HC.out.lt;omega
      case rel=>exact ⟨R0,a4.below b,a5,Nat.le_of_lt HC.out.lt,by rw [HC.out.gcd];exact p.out,JW (Zv HC.out.le) d,g.trans (((Ve a).trans (b.mono a.size)).mono g.size)⟩
   ·rcases JV l2 with h0 | h0
    ·obtain rfl:l2=0:=h0;have ag:gk=0:=Zmi.1 (List.length_eq_zero_iff.1 (by omega));go_wp2_with fail;refine (Zaa _ (Zo X') _ hx (by omega)).mono ?_;rintro e w2 ⟨v',rfl,ac,i⟩;go_wp2;go_ret;refine ⟨_,rfl,?_,j.trans (i.mono j.size)⟩;rw [← p.out,ag,Nat.gcd_zero_right];exact Va ac (Yb X')
    ·have t1:((l2:Int)==0)=false:=(by simp;omega);have f:0 < gk:=by
      rcases JV gk with e | e
      ·subst e;rw [digs_zero] at kl;simp at kl;omega
      ·exact e
     have J:gk < B32 * B32:=Zac (by omega);rcases JX 2 l with hl2 | hl2
     ·go_wp2_with fail;refine (Zbq _ _ X' gk _ hx hy f o (by omega)).mono ?_;rintro e w3 ⟨qv,rv,rfl,hq,hr,g⟩;have r:=hy.below g;have aa:X' % gk < B32 * B32:=(by have:=Nat.mod_lt X' f;omega);go_wp2_with fail;refine (Wo _ gk _ r J).mono ?_;rintro e w4 ⟨rfl,a⟩;obtain ⟨za,u⟩:∃za:Int,za=(gk:Int):=⟨_,rfl⟩;have S:0≤za:=(by omega);have T:za≤18446744073709551615:=(by unfold B32 at J;omega);rw [← u];have K:=JZ u;clear u;go_wp2_with fail;refine (Wo _ (X' % gk) _ (hr.below a) aa).mono ?_;rintro e w5 ⟨rfl,b⟩;obtain ⟨zb,v⟩:∃zb:Int,zb=((X' % gk:Nat):Int):=⟨_,rfl⟩;have U:0≤zb:=(by omega);have V:zb≤18446744073709551615:=(by unfold B32 at aa;omega);rw [← v];have L:=JZ v;clear v;go_wp2_with fail;refine (Zdp za zb _ S T U V).mono ?_;rintro e w6 ⟨rfl,F⟩;obtain ⟨zg,x⟩:∃zg:Int,zg=((Nat.gcd za.toNat zb.toNat:Nat):Int):=⟨_,rfl⟩;have E:zg=(G:Int):=(by rw [x,K.out,L.out,JP,JP,← p.out,Nat.gcd_comm X' gk,Nat.gcd_rec gk X',Nat.gcd_comm]);have Z:0≤zg:=(by omega);have a2:zg≤18446744073709551615:=by
       have:Nat.gcd X' gk≤gk:=Nat.gcd_le_right _ f;have:=p.out;have:=K.out;omega
      rw [← x];have a3:=JZ E;clear x E;go_wp2_with fail;refine (YL zg _ Z a2).mono ?_;rintro e w7 ⟨v7,rfl,a6,H⟩;go_wp2;go_ret;refine ⟨_,rfl,by rwa [a3.out,JP] at a6,?_⟩;have b3:=j.trans (g.mono j.size);have b4:=b3.trans (a.mono b3.size);have b5:=b4.trans (b.mono b4.size);have b6:=b5.trans (F.mono b5.size);exact b6.trans (H.mono b6.size)
     ·have M:X' < B32 * B32:=Zac (by omega);go_wp2_with fail;refine (Wo _ X' _ hx M).mono ?_;rintro e w4 ⟨rfl,a⟩;obtain ⟨za,u⟩:∃za:Int,za=(X':Int):=⟨_,rfl⟩;have S:0≤za:=(by omega);have T:za≤18446744073709551615:=(by unfold B32 at M;omega);rw [← u];have K:=JZ u;clear u;go_wp2_with fail;refine (Wo _ gk _ (hy.below a) J).mono ?_;rintro e w5 ⟨rfl,b⟩;obtain ⟨zb,v⟩:∃zb:Int,zb=(gk:Int):=⟨_,rfl⟩;have U:0≤zb:=(by omega);have V:zb≤18446744073709551615:=(by unfold B32 at J;omega);rw [← v];have L:=JZ v;clear v;go_wp2_with fail;refine (Zdp za zb _ S T U V).mono ?_;rintro e w6 ⟨rfl,F⟩;obtain ⟨zg,x⟩:∃zg:Int,zg=((Nat.gcd za.toNat zb.toNat:Nat):Int):=⟨_,rfl⟩;have E:zg=(G:Int):=(by rw [x,K.out,L.out,JP,JP,← p.out]);have Z:0≤zg:=(by omega);have a2:zg≤18446744073709551615:=by
       have:Nat.gcd X' gk≤gk:=Nat.gcd_le_right _ f;have:=p.out;have:=L.out;omega
      rw [← x];have a3:=JZ E;clear x E;go_wp2_with fail;refine (YL zg _ Z a2).mono ?_;rintro e w7 ⟨v7,rfl,a6,H⟩;go_wp2;go_ret;refine ⟨_,rfl,by rwa [a3.out,JP] at a6,?_⟩;have b4:=j.trans (a.mono j.size);have b5:=b4.trans (b.mono b4.size);have b6:=b5.trans (F.mono b5.size);exact b6.trans (H.mono b6.size)
theorem X5 {P:Program} {fn:Func} {R:Ending→World→Prop} {a:Act} {w:World} {p q u:Tmp} {ty ty':TypeId} {g g':Nat} {t t':TypeId} {cs cs':List Value} {fs fs':Array Field} (hres:fn.results=#[.cell p ty,.cell q ty',.tmp u]) (hu:P.underlying ty=some (.struct fs)) (hu':P.underlying ty'=some (.struct fs')) (hi:(P.info? ty).map (·.size)=some cs.length) (hi':(P.info? ty').map (·.size)=some cs'.length)
 (hp:a.tmps.getD p undef= .pointer (some ⟨g,0,none⟩)) (hq:a.tmps.getD q undef= .pointer (some ⟨g',0,none⟩)) (hB:Bk w g t cs) (hB':Bk w g' t' cs') (hd:a.defers=[]) (hR:R (.returned (.tuple #[.agg cs.toArray,.agg cs'.toArray,a.tmps.getD u undef])) w):bodyPost P fn R .ret a w:=by
 refine bodyPost_ret (v:= .tuple #[.agg cs.toArray,.agg cs'.toArray,a.tmps.getD u undef]) ?_ hd hR;have b:a.tmps[p]?.getD undef= .pointer (some ⟨g,0,none⟩):=by simpa using hp
 have c:a.tmps[q]?.getD undef= .pointer (some ⟨g',0,none⟩):=by simpa using hq
 simp [results,hres,b,c,asAddr,Sem.run_bind,Result.andThen,run_loadVar_row w g t ty cs.toArray (0,0) _ hB hu rfl (by simpa using hi),run_loadVar_row w g' t' ty' cs'.toArray (0,0) _ hB' hu' rfl (by simpa using hi')]
theorem Ztx {P:Program} {fn:Func} {R:Ending→World→Prop} {a:Act} {w:World} {p q:Tmp} {ty ty':TypeId} {g g':Nat} {t t':TypeId} {cs cs':List Value} {fs fs':Array Field} (hres:fn.results=#[.cell p ty,.cell q ty']) (hu:P.underlying ty=some (.struct fs)) (hu':P.underlying ty'=some (.struct fs')) (hi:(P.info? ty).map (·.size)=some cs.length) (hi':(P.info? ty').map (·.size)=some cs'.length)
 (hp:a.tmps.getD p undef= .pointer (some ⟨g,0,none⟩)) (hq:a.tmps.getD q undef= .pointer (some ⟨g',0,none⟩)) (hB:Bk w g t cs) (hB':Bk w g' t' cs') (hd:a.defers=[]) (hR:R (.returned (.tuple #[.agg cs.toArray,.agg cs'.toArray])) w):bodyPost P fn R .ret a w:=by
 refine bodyPost_ret (v:= .tuple #[.agg cs.toArray,.agg cs'.toArray]) ?_ hd hR;have b:a.tmps[p]?.getD undef= .pointer (some ⟨g,0,none⟩):=by simpa using hp
 have c:a.tmps[q]?.getD undef= .pointer (some ⟨g',0,none⟩):=by simpa using hq
 simp [results,hres,b,c,asAddr,Sem.run_bind,Result.andThen,run_loadVar_row w g t ty cs.toArray (0,0) _ hB hu rfl (by simpa using hi),run_loadVar_row w g' t' ty' cs'.toArray (0,0) _ hB' hu' rfl (by simpa using hi')]
theorem YR {P:Program} {fn:Func} {R:Ending→World→Prop} {a:Act} {w:World} {p u:Tmp} {ty:TypeId} {g:Nat} {t:TypeId} {cs:List Value} {fs:Array Field} (hres:fn.results=#[.cell p ty,.tmp u]) (hu:P.underlying ty=some (.struct fs)) (hi:(P.info? ty).map (·.size)=some cs.length)
 (hp:a.tmps.getD p undef= .pointer (some ⟨g,0,none⟩)) (hB:Bk w g t cs) (hd:a.defers=[]) (hR:R (.returned (.tuple #[.agg cs.toArray,a.tmps.getD u undef])) w):bodyPost P fn R .ret a w:=by
 refine bodyPost_ret (v:= .tuple #[.agg cs.toArray,a.tmps.getD u undef]) ?_ hd hR;have b:a.tmps[p]?.getD undef= .pointer (some ⟨g,0,none⟩):=by simpa using hp
 simp [results,hres,b,asAddr,Sem.run_bind,Result.andThen,run_loadVar_row w g t ty cs.toArray (0,0) _ hB hu rfl (by simpa using hi)]
namespace Pl
theorem Yal (a b:Bool) (X Y:Nat):sm (a !=b) (X * Y)=sm a X * sm b Y:=by cases a <;> cases b <;> simp [sm,Int.neg_mul,Int.mul_neg]
end Pl
theorem Xn [Old] (v1 v2:Value) (a b:RI) (w:World) (h1:Ym w v1 a) (h2:Ym w v2 b) (hs:(Zo (val a.ds)).length+(Zo (val b.ds)).length≤1099511627776) (hOl:Zb w:=by (repeat (first | assumption | exact Zb.up (by assumption) hOl | exact Zb.up (Hid.out (by assumption)) hOl | with_reducible refine Zb.set ?_ _ _ | with_reducible refine Zb.mk_ ?_ _ | with_reducible refine Zb.dr ?_ | with_reducible refine Zb.drN ?_ | refine Zb.up (by assumption) ?_ | refine Zb.up (Hid.out (by assumption)) ?_))):
 Calls Tryz.prog 128 #[v1,v2] w fun e w'=>∃v',e= .returned v'∧Ym w' v' (canI (a.z * b.z))∧Below w.heap.size w w':=by
 have q:=hOl.le;obtain ⟨A,n,c,rfl,hd⟩:=h1.shape;obtain ⟨A',n',c',rfl,m⟩:=h2.shape;obtain ⟨j,ds⟩:=a;obtain ⟨g,o⟩:=b;simp only at hd hs m ⊢;obtain ⟨W,hW,hX,i,hR,h⟩:=Yaj w (.bool j) (.slice A n c) (.bool g) (.slice A' n' c');have p:=hd.below h;have k:=m.below h;have l:True:=trivial;go_enter Tryz.func128,Tryz.ntmps128;go_wp2_with fail;clear hW
 go_region_held3 (fun w'=>(w'.cell? ⟨w.heap.size,0,none⟩=some (.bool j)∧w'.cell? ⟨w.heap.size,1,none⟩=some (.slice A n c))∧(w'.cell? ⟨w.heap.size+1,0,none⟩=some (.bool g)∧w'.cell? ⟨w.heap.size+1,1,none⟩=some (.slice A' n' c')))
  (first | exact ⟨hX.pair,i.pair⟩ | exact ⟨(hX.drew.later d).pair,(i.drew.later d).pair⟩ | exact ⟨((hX.drew.later d).later f).pair,((i.drew.later d).later f).pair⟩ | exact ⟨((hX.drew.later d).later f).two_far (by omega) _ _,((i.drew.later d).later f).two_far (by omega) _ _⟩)
  (first
   | (go_at_call 143;have _t:=l;refine (Ya _ ds _ (p.keep (ZG.drew _))).mono ?_;clear l _t;rintro e w1 ⟨v1,rfl,e1,rfl⟩)
   | (go_at_call 143;refine (Ya _ o _ (k.keep (ZG.drew _))).mono ?_;rintro e w1 ⟨v2,rfl,e2,rfl⟩)
   | (go_at_call 150;refine (Zqy _ _ (Zo (val ds)) (Zo (val o)) _ e1 e2 hs).mono ?_;rw [Zl,Zl];rintro e w2 ⟨v3,rfl,h3,d⟩)
   | (go_at_call 149;refine (Yc (j !=g) _ _ _ h3).mono ?_;rintro e w3 ⟨v4,rfl,h4,f⟩;obtain ⟨A3,n3,k3,rfl,_⟩:=h4.shape;obtain ⟨c0,c1,f0,f1⟩:=((hR.drew.later d).later f).two))
 go_wp2;refine Zq Tryz.results128 Tryz.underlying46 (by kernel_rfl) rfl (((hR.drew.later d).later f).set2 _ _) rfl ?_;rw [RI.z_eq,RI.z_eq,← Yal];exact YH ((hR.drew.later d).later f) h4 (Za (Za h.drew d h.size) f (JW h.size d.size)) (by omega)
theorem Zyc [Old] (v1 v2:Value) (a b:RI) (w:World) (h1:Ym w v1 a) (h2:Ym w v2 b) (hs:(Zo (val a.ds)).length≤549755813888) (hs2:(Zo (val b.ds)).length≤549755813888) (hOl:Zb w:=by (repeat (first | assumption | exact Zb.up (by assumption) hOl | exact Zb.up (Hid.out (by assumption)) hOl | with_reducible refine Zb.set ?_ _ _ | with_reducible refine Zb.mk_ ?_ _ | with_reducible refine Zb.dr ?_ | with_reducible refine Zb.drN ?_ | refine Zb.up (by assumption) ?_ | refine Zb.up (Hid.out (by assumption)) ?_))):
 Calls Tryz.prog 147 #[v1,v2] w fun e w'=>∃v',e= .returned v'∧Ym w' v' (canI (Int.gcd a.z b.z:Nat))∧Below w.heap.size w w':=by
 have q:=hOl.le;obtain ⟨A,n,c,rfl,hd⟩:=h1.shape;obtain ⟨A',n',c',rfl,l⟩:=h2.shape;obtain ⟨m,ds⟩:=a;obtain ⟨i,o⟩:=b;simp only at hd hs l hs2 ⊢;obtain ⟨W,hW,hX,h,hR,g⟩:=Yaj w (.bool m) (.slice A n c) (.bool i) (.slice A' n' c');have p:=hd.below g;have j:=l.below g;have k:True:=trivial;go_enter Tryz.func147,Tryz.ntmps147;go_wp2_with fail;clear hW
 go_region_held3 (fun w'=>(w'.cell? ⟨w.heap.size,0,none⟩=some (.bool m)∧w'.cell? ⟨w.heap.size,1,none⟩=some (.slice A n c))∧(w'.cell? ⟨w.heap.size+1,0,none⟩=some (.bool i)∧w'.cell? ⟨w.heap.size+1,1,none⟩=some (.slice A' n' c')))
  (first | exact ⟨hX.pair,h.pair⟩ | exact ⟨(hX.drew.later d).pair,(h.drew.later d).pair⟩ | exact ⟨((hX.drew.later d).later f).pair,((h.drew.later d).later f).pair⟩ | exact ⟨((hX.drew.later d).later f).two_far (by omega) _ _,((h.drew.later d).later f).two_far (by omega) _ _⟩)
  (first
   | (go_at_call 143;have _t:=k;refine (Ya _ ds _ (p.keep (ZG.drew _))).mono ?_;clear k _t;rintro e w1 ⟨v1,rfl,e1,rfl⟩)
   | (go_at_call 143;refine (Ya _ o _ (j.keep (ZG.drew _))).mono ?_;rintro e w1 ⟨v2,rfl,e2,rfl⟩)
   | (go_at_call 164;refine (Zrf _ _ (val ds) (val o) _ e1 e2 hs hs2).mono ?_;rintro e w2 ⟨v3,rfl,h3,d⟩)
   | (go_at_call 149;refine (Yc false _ _ _ h3).mono ?_;rintro e w3 ⟨v4,rfl,h4,f⟩;obtain ⟨A3,n3,k3,rfl,_⟩:=h4.shape;obtain ⟨c0,c1,f0,f1⟩:=((hR.drew.later d).later f).two))
 go_wp2;refine Zq Tryz.results147 Tryz.underlying46 (by kernel_rfl) rfl (((hR.drew.later d).later f).set2 _ _) rfl ?_;rw [Int.gcd,Z5,Z5];exact YH ((hR.drew.later d).later f) h4 (Za (Za g.drew d g.size) f (JW g.size d.size)) (by omega)
theorem Yam (w:World) (x y x' y':Value):∃W,(((w.alloc (.cells #[x,y] 46)).alloc (.cells #[x',y'] 46)).alloc (.cells #[.bool false,.slice none 0 0] 46)).alloc (.cells #[.bool false,.slice none 0 0] 46)=W∧
 Bk W w.heap.size 46 [x,y]∧Bk W (w.heap.size+1) 46 [x',y']∧Bk W (w.heap.size+1+1) 46 [.bool false,.slice none 0 0]∧Bk W (w.heap.size+1+1+1) 46 [.bool false,.slice none 0 0]∧Below w.heap.size w W:=by
 obtain ⟨W,hW,h1,h2,h3,h4⟩:=Yaj w x y x' y';refine ⟨_,by rw [hW],h1.alloc _,h2.alloc _,h3.alloc _,?_,h4.alloc h4.size _⟩;have:=Bk.new W 46 [.bool false,.slice none 0 0]
 rwa [← hW,size_alloc,size_alloc,size_alloc,hW] at this
namespace Pl
theorem Zdr {a b q r:Int} (h:a=b * q+r) (hr:(0≤r∧r < b)∨(b < r∧r≤0)):a.fdiv b=q∧a.fmod b=r:=by
 have c:a.fdiv b=q:=by
  rcases hr with ⟨r0,r1⟩ | ⟨r0,r1⟩
  ·rw [Int.fdiv_eq_ediv_of_nonneg _ (by omega)];exact ((Int.ediv_emod_unique (by omega)).2 ⟨by omega,r0,r1⟩).1
  ·rw [← Int.neg_fdiv_neg,Int.fdiv_eq_ediv_of_nonneg _ (by omega)];refine ((Int.ediv_emod_unique (a:= -a) (b:= -b) (r:= -r) (q:=q) (by omega)).2 ⟨?_,by omega,by omega⟩).1;rw [h,Int.neg_mul];omega
 refine ⟨c,?_⟩;rw [Int.fmod_def,c];omega
theorem Yp {a b:Bool} {X Y:Nat} (hY:0 < Y) (h:X % Y=0∨a=b):(sm a X).fdiv (sm b Y)=sm (a !=b) (X / Y)∧(sm a X).fmod (sm b Y)=sm b (X % Y):=by
 have e:=Nat.div_add_mod X Y;have l:=Nat.mod_lt X hY;generalize X / Y=q at *;generalize X % Y=r at *;have e':(Y:Int) * q+r=X:=by rw [← e];simp
 apply Zdr
 ·rw [sm,sm,sm,sm,← e'];rcases h with h | h
  ·subst h;cases a <;> cases b <;> simp [Int.neg_mul,Int.mul_neg]
  ·subst h;cases a <;> simp [Int.neg_mul];omega
 ·cases b <;> simp [sm] <;> omega
theorem Vq {a b:Bool} {X Y:Nat} (hY:0 < Y) (h:X % Y≠0) (hab:a≠b):(sm a X).fdiv (sm b Y)=sm (a !=b) (X / Y+1)∧(sm a X).fmod (sm b Y)=sm b (Y - X % Y):=by
 have e:=Nat.div_add_mod X Y;have l:=Nat.mod_lt X hY;generalize X / Y=q at *;generalize X % Y=r at *;have e':(Y:Int) * q+r=X:=by rw [← e];simp
 have e2:((Y - r:Nat):Int)=Y - r:=by omega
 apply Zdr
 ·rw [sm,sm,sm,sm,← e',e2]
  cases a <;> cases b <;> simp [Int.neg_mul,Int.mul_neg,Int.mul_add] at hab ⊢ <;> omega
 ·cases b <;> simp [sm] <;> omega
end Pl
theorem Bk.far2 {w:World} {g g':Nat} {t:TypeId} {cs:List Value} (h:Bk w g t cs) (hne:g≠g') (c d:Value):Bk ((w.setCell ⟨g',0,none⟩ c).setCell ⟨g',1,none⟩ d) g t cs:=
 (h.far (p:=⟨g',0,none⟩) hne c).far (p:=⟨g',1,none⟩) hne d
theorem Y5 [Old] {w w4:World} {g g':Nat} {x y x' y' b s b' s':Value} {q r:RI} (hR:Bk w4 g 46 [x,y]) (hR':Bk w4 g' 46 [x',y']) (hne:g≠g') (dq:Ym w4 (.agg #[b,s]) q) (dr:Ym w4 (.agg #[b',s']) r) {m:Nat} (hbe:Below m w w4) (hg:m≤g) (hg':m≤g') (hO:Old.n≤m:=by first | assumption | exact Nat.zero_le _ | omega | ((first | with_reducible refine Zb.le ?_ | with_reducible refine Zb.le1 ?_ | with_reducible refine Zb.le2 ?_ | with_reducible refine Zb.le3 ?_);repeat (first | assumption | exact Zb.up (by assumption) hOl | exact Zb.up (Hid.out (by assumption)) hOl | with_reducible refine Zb.set ?_ _ _ | with_reducible refine Zb.mk_ ?_ _ | with_reducible refine Zb.dr ?_ | with_reducible refine Zb.drN ?_ | refine Zb.up (by assumption) ?_ | refine Zb.up (Hid.out (by assumption)) ?_))):
 Bk ((((w4.setCell ⟨g,0,none⟩ b).setCell ⟨g,1,none⟩ s).setCell ⟨g',0,none⟩ b').setCell ⟨g',1,none⟩ s') g 46 [b,s]∧Bk ((((w4.setCell ⟨g,0,none⟩ b).setCell ⟨g,1,none⟩ s).setCell ⟨g',0,none⟩ b').setCell ⟨g',1,none⟩ s') g' 46 [b',s']∧
 Ym ((((w4.setCell ⟨g,0,none⟩ b).setCell ⟨g,1,none⟩ s).setCell ⟨g',0,none⟩ b').setCell ⟨g',1,none⟩ s') (.agg #[b,s]) q∧Ym ((((w4.setCell ⟨g,0,none⟩ b).setCell ⟨g,1,none⟩ s).setCell ⟨g',0,none⟩ b').setCell ⟨g',1,none⟩ s') (.agg #[b',s']) r∧Below m w ((((w4.setCell ⟨g,0,none⟩ b).setCell ⟨g,1,none⟩ s).setCell ⟨g',0,none⟩ b').setCell ⟨g',1,none⟩ s'):=by
 have h1:=hR.set2 b s;have h2:Bk ((w4.setCell ⟨g,0,none⟩ b).setCell ⟨g,1,none⟩ s) g' 46 [x',y']:=(hR'.far (p:=⟨g,0,none⟩) (Ne.symm hne) b).far (p:=⟨g,1,none⟩) (Ne.symm hne) s;have k1:=hR.keep2 (by decide) b s;have k2:=h2.keep2 (by decide) b' s';exact ⟨(h1.far (p:=⟨g',0,none⟩) hne b').far (p:=⟨g',1,none⟩) hne s',h2.set2 b' s',dq.keep (k1.trans k2),dr.keep (k1.trans k2),Ye (Ye hbe hg _ _) hg' _ _⟩
def Ybw [Old] (a b:RI) (w:World) (e:Ending) (w':World):Prop:=
 ∃q r,e= .returned (.tuple #[q,r,.int .i64 (if b.z=0 then 11 else 0)])∧Ym w' q (canI (if b.z=0 then 0 else a.z.fdiv b.z))∧Ym w' r (canI (if b.z=0 then 0 else a.z.fmod b.z))∧Below w.heap.size w w'
theorem Zds [Old] (v1 v2:Value) (a b:RI) (w:World) (h1:Ym w v1 a) (h2:Ym w v2 b) (hs:(Zo (val a.ds)).length≤549755813888) (hs2:(Zo (val b.ds)).length≤549755813888) (hOl:Zb w:=by (repeat (first | assumption | exact Zb.up (by assumption) hOl | exact Zb.up (Hid.out (by assumption)) hOl | with_reducible refine Zb.set ?_ _ _ | with_reducible refine Zb.mk_ ?_ _ | with_reducible refine Zb.dr ?_ | with_reducible refine Zb.drN ?_ | refine Zb.up (by assumption) ?_ | refine Zb.up (Hid.out (by assumption)) ?_))):
 Calls Tryz.prog 148 #[v1,v2] w (Ybw a b w):=by
 have ah:=hOl.le;obtain ⟨A,n,c,rfl,hd⟩:=h1.shape;obtain ⟨A',n',c',rfl,ab⟩:=h2.shape;obtain ⟨T,ds⟩:=a;obtain ⟨t,r⟩:=b;simp only at hd ab hs hs2 ⊢;obtain ⟨W,hW,hX,a7,hR,ac,U⟩:=Yam w (.bool T) (.slice A n c) (.bool t) (.slice A' n' c');have a8:=hd.below U;have V:=ab.below U;have j:True:=trivial;go_enter Tryz.func148,Tryz.ntmps148;go_wp2_with fail;clear hW
 go_region_held3 (fun w'=>(w'.cell? ⟨w.heap.size,0,none⟩=some (.bool T)∧w'.cell? ⟨w.heap.size,1,none⟩=some (.slice A n c))∧(w'.cell? ⟨w.heap.size+1,0,none⟩=some (.bool t)∧w'.cell? ⟨w.heap.size+1,1,none⟩=some (.slice A' n' c')))
  (exact ⟨hX.pair,a7.pair⟩)
  (first
   | (go_at_call 143;have _t:=j;refine (Ya _ ds _ (a8.keep (ZG.drew _))).mono ?_;clear j _t;rintro e w1 ⟨v1,rfl,e1,rfl⟩)
   | (go_at_call 143;refine (Ya _ r _ (V.keep (ZG.drew _))).mono ?_;rintro e w1 ⟨v2,rfl,e2,rfl⟩))
 have a9:=hX.drew;have X:=a7.drew;have S:=hR.drew;have K:=ac.drew;have L:=U.drew;clear hX a7 U a8 V hR ac;generalize W.drew=W2 at *;obtain ⟨A1,n1,c1,rfl⟩:=e1.shape;obtain ⟨kl,P,ag,kc⟩:=e1.len;obtain ⟨A2,n2,c2,rfl⟩:=e2.shape;obtain ⟨jl,ad,ai,jc⟩:=e2.len;rcases JV n2 with h0 | h0
 ·have hy:val r=0:=Wh (by omega);have hz:RI.z ⟨t,r⟩=0:=by rw [RI.z_eq,hy,Zbs]
  have HZ:=JZ hz;clear hy hz kl P jl ad;subst h0;obtain ⟨c0,c1,f0,f1⟩:=S.two;obtain ⟨F,G,H,I⟩:=K.two;go_wp2;obtain ⟨a1,a2,a3,a4,a5⟩:=Y5 S K (by omega) (Ym.zero W2) (Ym.zero W2) L (by omega) (by omega);refine X5 Tryz.results148 Tryz.underlying46 Tryz.underlying46 (by kernel_rfl) (by kernel_rfl) rfl rfl a1 a2 rfl ?_;exact ⟨_,_,by rw [if_pos HZ.out];rfl,by rw [if_pos HZ.out];exact a3,by rw [if_pos HZ.out];exact a4,a5⟩
 ·have hy:val r≠0:=VY (by omega);have hz:RI.z ⟨t,r⟩≠0:=by rw [RI.z_eq];cases t <;> simp [sm] <;> omega
  have HZ:=JZ hz;have HY:=JZ (Nat.pos_of_ne_zero hy);clear hy hz kl P jl ad;go_wp2_with fail;refine (Zbq _ _ (val ds) (val r) _ e1 e2 HY.out hs hs2).mono ?_;rintro e w3 ⟨qv,rv,rfl,dq,dr,J⟩;have h:=a9.later J;have g:=X.later J;have o:=S.later J;have l:=K.later J;have i:=Za L J L.size;have aa:=e2.below J;clear a9 X S K L J;obtain ⟨x0,x1,_,_⟩:=h.two;obtain ⟨ae,af,_,_⟩:=g.two;obtain ⟨A3,n3,c3,rfl⟩:=dr.shape;obtain ⟨kl,P,ag,kc⟩:=dr.len;have hq:(Zo (val ds / val r)).length≤549755813888:=JW (Zv (Nat.div_le_self _ _)) hs;have HQ:=JZ hq;have p:w.heap.size≠w.heap.size+1+1:=by omega
  have q:w.heap.size+1≠w.heap.size+1+1:=by omega
  have y:w.heap.size≠w.heap.size+1+1+1:=by omega
  have B:w.heap.size+1≠w.heap.size+1+1+1:=by omega
  clear hq;rcases JV n3 with h3 | h3
  ·have Z:=JZ (Wh (n:=val ds % val r) (by omega));subst h3;clear kl P h0
   cases T
   ·cases t
    ·go_wp2_with fail;have j:True:=trivial
     go_region_held3 (fun w'=>w'.cell? ⟨w.heap.size,0,none⟩=some (.bool false)∧w'.cell? ⟨w.heap.size+1,0,none⟩=some (.bool false))
      (first | with_reducible exact ⟨h.pair.1,g.pair.1⟩ | with_reducible exact ⟨h.drew.pair.1,g.drew.pair.1⟩ | with_reducible exact ⟨(h.drew.later d).pair.1,(g.drew.later d).pair.1⟩ | with_reducible exact ⟨((h.drew.later d).later f).pair.1,((g.drew.later d).later f).pair.1⟩ | with_reducible exact ⟨(((h.drew.later d).later f).two_far p _ _).1,(((g.drew.later d).later f).two_far q _ _).1⟩ | with_reducible exact ⟨((((h.drew.later d).later f).far2 p _ _).two_far y _ _).1,((((g.drew.later d).later f).far2 q _ _).two_far B _ _).1⟩)
      (first
       | (go_at_call 149;have _t:=j;refine (Yc _ _ _ _ (dq.keep (ZG.drew _))).mono ?_;clear j _t;rintro e w6 ⟨v6,rfl,e6,d⟩;obtain ⟨A6,n6,k6,rfl,_⟩:=e6.shape)
       | (go_at_call 149;refine (Yc _ _ _ _ ((dr.keep (ZG.drew _)).below d)).mono ?_;rintro e w7 ⟨v7,rfl,e7,f⟩;obtain ⟨A7,n7,k7,rfl,_⟩:=e7.shape;obtain ⟨c0,c1,f0,f1⟩:=((o.drew.later d).later f).two;obtain ⟨F,G,H,I⟩:=((l.drew.later d).later f).two))
     go_wp2;obtain ⟨a1,a2,a3,a4,a5⟩:=Y5 ((o.drew.later d).later f) ((l.drew.later d).later f) (by omega) (e6.below f) e7 (Za (Za i.drew d i.size) f (JW i.size d.size)) (by omega) (by omega);refine X5 Tryz.results148 Tryz.underlying46 Tryz.underlying46 (by kernel_rfl) (by kernel_rfl) rfl rfl a1 a2 rfl ?_;exact ⟨_,_,by rw [if_neg HZ.out];rfl,by rw [if_neg HZ.out,RI.z_eq,RI.z_eq,(Yp HY.out (.inl Z.out)).1];exact a3,by rw [if_neg HZ.out,RI.z_eq,RI.z_eq,(Yp HY.out (.inl Z.out)).2];exact a4,a5⟩
    ·go_wp2_with fail;have j:True:=trivial
     go_region_held3 (fun w'=>w'.cell? ⟨w.heap.size,0,none⟩=some (.bool false)∧w'.cell? ⟨w.heap.size+1,0,none⟩=some (.bool true))
      (first | with_reducible exact ⟨h.pair.1,g.pair.1⟩ | with_reducible exact ⟨h.drew.pair.1,g.drew.pair.1⟩ | with_reducible exact ⟨(h.drew.later d).pair.1,(g.drew.later d).pair.1⟩ | with_reducible exact ⟨((h.drew.later d).later f).pair.1,((g.drew.later d).later f).pair.1⟩ | with_reducible exact ⟨(((h.drew.later d).later f).two_far p _ _).1,(((g.drew.later d).later f).two_far q _ _).1⟩ | with_reducible exact ⟨((((h.drew.later d).later f).far2 p _ _).two_far y _ _).1,((((g.drew.later d).later f).far2 q _ _).two_far B _ _).1⟩)
      (first
       | (go_at_call 149;have _t:=j;refine (Yc _ _ _ _ (dq.keep (ZG.drew _))).mono ?_;clear j _t;rintro e w6 ⟨v6,rfl,e6,d⟩;obtain ⟨A6,n6,k6,rfl,_⟩:=e6.shape)
       | (go_at_call 149;refine (Yc _ _ _ _ ((dr.keep (ZG.drew _)).below d)).mono ?_;rintro e w7 ⟨v7,rfl,e7,f⟩;obtain ⟨A7,n7,k7,rfl,_⟩:=e7.shape;obtain ⟨c0,c1,f0,f1⟩:=((o.drew.later d).later f).two;obtain ⟨F,G,H,I⟩:=((l.drew.later d).later f).two))
     go_wp2;obtain ⟨a1,a2,a3,a4,a5⟩:=Y5 ((o.drew.later d).later f) ((l.drew.later d).later f) (by omega) (e6.below f) e7 (Za (Za i.drew d i.size) f (JW i.size d.size)) (by omega) (by omega);refine X5 Tryz.results148 Tryz.underlying46 Tryz.underlying46 (by kernel_rfl) (by kernel_rfl) rfl rfl a1 a2 rfl ?_;exact ⟨_,_,by rw [if_neg HZ.out];rfl,by rw [if_neg HZ.out,RI.z_eq,RI.z_eq,(Yp HY.out (.inl Z.out)).1];exact a3,by rw [if_neg HZ.out,RI.z_eq,RI.z_eq,(Yp HY.out (.inl Z.out)).2];exact a4,a5⟩
   ·cases t
    ·go_wp2_with fail;have j:True:=trivial
     go_region_held3 (fun w'=>w'.cell? ⟨w.heap.size,0,none⟩=some (.bool true)∧w'.cell? ⟨w.heap.size+1,0,none⟩=some (.bool false))
      (first | with_reducible exact ⟨h.pair.1,g.pair.1⟩ | with_reducible exact ⟨h.drew.pair.1,g.drew.pair.1⟩ | with_reducible exact ⟨(h.drew.later d).pair.1,(g.drew.later d).pair.1⟩ | with_reducible exact ⟨((h.drew.later d).later f).pair.1,((g.drew.later d).later f).pair.1⟩ | with_reducible exact ⟨(((h.drew.later d).later f).two_far p _ _).1,(((g.drew.later d).later f).two_far q _ _).1⟩ | with_reducible exact ⟨((((h.drew.later d).later f).far2 p _ _).two_far y _ _).1,((((g.drew.later d).later f).far2 q _ _).two_far B _ _).1⟩)
      (first
       | (go_at_call 149;have _t:=j;refine (Yc _ _ _ _ (dq.keep (ZG.drew _))).mono ?_;clear j _t;rintro e w6 ⟨v6,rfl,e6,d⟩;obtain ⟨A6,n6,k6,rfl,_⟩:=e6.shape)
       | (go_at_call 149;refine (Yc _ _ _ _ ((dr.keep (ZG.drew _)).below d)).mono ?_;rintro e w7 ⟨v7,rfl,e7,f⟩;obtain ⟨A7,n7,k7,rfl,_⟩:=e7.shape;obtain ⟨c0,c1,f0,f1⟩:=((o.drew.later d).later f).two;obtain ⟨F,G,H,I⟩:=((l.drew.later d).later f).two))
     go_wp2;obtain ⟨a1,a2,a3,a4,a5⟩:=Y5 ((o.drew.later d).later f) ((l.drew.later d).later f) (by omega) (e6.below f) e7 (Za (Za i.drew d i.size) f (JW i.size d.size)) (by omega) (by omega);refine X5 Tryz.results148 Tryz.underlying46 Tryz.underlying46 (by kernel_rfl) (by kernel_rfl) rfl rfl a1 a2 rfl ?_;exact ⟨_,_,by rw [if_neg HZ.out];rfl,by rw [if_neg HZ.out,RI.z_eq,RI.z_eq,(Yp HY.out (.inl Z.out)).1];exact a3,by rw [if_neg HZ.out,RI.z_eq,RI.z_eq,(Yp HY.out (.inl Z.out)).2];exact a4,a5⟩
    ·go_wp2_with fail;have j:True:=trivial
     go_region_held3 (fun w'=>w'.cell? ⟨w.heap.size,0,none⟩=some (.bool true)∧w'.cell? ⟨w.heap.size+1,0,none⟩=some (.bool true))
      (first | with_reducible exact ⟨h.pair.1,g.pair.1⟩ | with_reducible exact ⟨h.drew.pair.1,g.drew.pair.1⟩ | with_reducible exact ⟨(h.drew.later d).pair.1,(g.drew.later d).pair.1⟩ | with_reducible exact ⟨((h.drew.later d).later f).pair.1,((g.drew.later d).later f).pair.1⟩ | with_reducible exact ⟨(((h.drew.later d).later f).two_far p _ _).1,(((g.drew.later d).later f).two_far q _ _).1⟩ | with_reducible exact ⟨((((h.drew.later d).later f).far2 p _ _).two_far y _ _).1,((((g.drew.later d).later f).far2 q _ _).two_far B _ _).1⟩)
      (first
       | (go_at_call 149;have _t:=j;refine (Yc _ _ _ _ (dq.keep (ZG.drew _))).mono ?_;clear j _t;rintro e w6 ⟨v6,rfl,e6,d⟩;obtain ⟨A6,n6,k6,rfl,_⟩:=e6.shape)
       | (go_at_call 149;refine (Yc _ _ _ _ ((dr.keep (ZG.drew _)).below d)).mono ?_;rintro e w7 ⟨v7,rfl,e7,f⟩;obtain ⟨A7,n7,k7,rfl,_⟩:=e7.shape;obtain ⟨c0,c1,f0,f1⟩:=((o.drew.later d).later f).two;obtain ⟨F,G,H,I⟩:=((l.drew.later d).later f).two))
     go_wp2;obtain ⟨a1,a2,a3,a4,a5⟩:=Y5 ((o.drew.later d).later f) ((l.drew.later d).later f) (by omega) (e6.below f) e7 (Za (Za i.drew d i.size) f (JW i.size d.size)) (by omega) (by omega);refine X5 Tryz.results148 Tryz.underlying46 Tryz.underlying46 (by kernel_rfl) (by kernel_rfl) rfl rfl a1 a2 rfl ?_;exact ⟨_,_,by rw [if_neg HZ.out];rfl,by rw [if_neg HZ.out,RI.z_eq,RI.z_eq,(Yp HY.out (.inl Z.out)).1];exact a3,by rw [if_neg HZ.out,RI.z_eq,RI.z_eq,(Yp HY.out (.inl Z.out)).2];exact a4,a5⟩
  ·have Z:=JZ (VY (n:=val ds % val r) (by omega));clear kl P h0
   cases T
   ·cases t
    ·go_wp2_with fail;have j:True:=trivial
     go_region_held3 (fun w'=>w'.cell? ⟨w.heap.size,0,none⟩=some (.bool false)∧w'.cell? ⟨w.heap.size+1,0,none⟩=some (.bool false))
      (first | with_reducible exact ⟨h.pair.1,g.pair.1⟩ | with_reducible exact ⟨h.drew.pair.1,g.drew.pair.1⟩ | with_reducible exact ⟨(h.drew.later d).pair.1,(g.drew.later d).pair.1⟩ | with_reducible exact ⟨((h.drew.later d).later f).pair.1,((g.drew.later d).later f).pair.1⟩ | with_reducible exact ⟨(((h.drew.later d).later f).two_far p _ _).1,(((g.drew.later d).later f).two_far q _ _).1⟩ | with_reducible exact ⟨((((h.drew.later d).later f).far2 p _ _).two_far y _ _).1,((((g.drew.later d).later f).far2 q _ _).two_far B _ _).1⟩)
      (first
       | (go_at_call 149;have _t:=j;refine (Yc _ _ _ _ (dq.keep (ZG.drew _))).mono ?_;clear j _t;rintro e w6 ⟨v6,rfl,e6,d⟩;obtain ⟨A6,n6,k6,rfl,_⟩:=e6.shape)
       | (go_at_call 149;refine (Yc _ _ _ _ ((dr.keep (ZG.drew _)).below d)).mono ?_;rintro e w7 ⟨v7,rfl,e7,f⟩;obtain ⟨A7,n7,k7,rfl,_⟩:=e7.shape;obtain ⟨c0,c1,f0,f1⟩:=((o.drew.later d).later f).two;obtain ⟨F,G,H,I⟩:=((l.drew.later d).later f).two))
     go_wp2;obtain ⟨a1,a2,a3,a4,a5⟩:=Y5 ((o.drew.later d).later f) ((l.drew.later d).later f) (by omega) (e6.below f) e7 (Za (Za i.drew d i.size) f (JW i.size d.size)) (by omega) (by omega);refine X5 Tryz.results148 Tryz.underlying46 Tryz.underlying46 (by kernel_rfl) (by kernel_rfl) rfl rfl a1 a2 rfl ?_;exact ⟨_,_,by rw [if_neg HZ.out];rfl,by rw [if_neg HZ.out,RI.z_eq,RI.z_eq,(Yp HY.out (.inr rfl)).1];exact a3,by rw [if_neg HZ.out,RI.z_eq,RI.z_eq,(Yp HY.out (.inr rfl)).2];exact a4,a5⟩
    ·go_wp2_with fail;refine (Zbo _ _ (Zo (val ds / val r)) [1] _ (dq.below (Zc _ _)) (YD.dig (YD.new w3 [1]) (by simp [okD,B32]) (c:=1) (by simp) (by simp [maxLen])) HQ.out (by simp)).mono ?_;rw [Zl,show val [1]=1 from by simp [val]];rintro e w4 ⟨v4,rfl,e4,R⟩;have k:=Za (Zc w3 _) R (by simp);have M:=h.later k;have C:=g.later k;have N:=o.later k;have D:=l.later k;have v:=Za i k i.size;have Y:=dr.below k;have a0:=aa.below k;clear h g o l i k R x0 x1 ae af;go_wp2_with fail;refine (Uj _ _ (Zo (val r)) (Zo (val ds % val r)) _ a0 Y (by rw [Zl,Zl];exact Nat.le_of_lt (Nat.mod_lt _ HY.out)) (Zv (Nat.le_of_lt (Nat.mod_lt _ HY.out))) hs2).mono ?_;rw [Zl,Zl];rintro e w5 ⟨v5,rfl,e5,s⟩;have u:=M.later s;have m:=C.later s;have O:=N.later s;have E:=D.later s;have x:=Za v s v.size;have a6:=e4.below s;clear M C N D v s;go_wp2_with fail;have j:True:=trivial
     go_region_held3 (fun w'=>w'.cell? ⟨w.heap.size,0,none⟩=some (.bool false)∧w'.cell? ⟨w.heap.size+1,0,none⟩=some (.bool true))
      (first | with_reducible exact ⟨u.pair.1,m.pair.1⟩ | with_reducible exact ⟨u.drew.pair.1,m.drew.pair.1⟩ | with_reducible exact ⟨(u.drew.later d).pair.1,(m.drew.later d).pair.1⟩ | with_reducible exact ⟨((u.drew.later d).later f).pair.1,((m.drew.later d).later f).pair.1⟩ | with_reducible exact ⟨(((u.drew.later d).later f).two_far p _ _).1,(((m.drew.later d).later f).two_far q _ _).1⟩ | with_reducible exact ⟨((((u.drew.later d).later f).far2 p _ _).two_far y _ _).1,((((m.drew.later d).later f).far2 q _ _).two_far B _ _).1⟩)
      (first
       | (go_at_call 149;have _t:=j;refine (Yc _ _ _ _ (a6.keep (ZG.drew _))).mono ?_;clear j _t;rintro e w6 ⟨v6,rfl,e6,d⟩;obtain ⟨A6,n6,k6,rfl,_⟩:=e6.shape)
       | (go_at_call 149;refine (Yc _ _ _ _ ((e5.keep (ZG.drew _)).below d)).mono ?_;rintro e w7 ⟨v7,rfl,e7,f⟩;obtain ⟨A7,n7,k7,rfl,_⟩:=e7.shape;obtain ⟨c0,c1,f0,f1⟩:=((O.drew.later d).later f).two;obtain ⟨F,G,H,I⟩:=((E.drew.later d).later f).two))
     go_wp2;obtain ⟨a1,a2,a3,a4,a5⟩:=Y5 ((O.drew.later d).later f) ((E.drew.later d).later f) (by omega) (e6.below f) e7 (Za (Za x.drew d x.size) f (JW x.size d.size)) (by omega) (by omega);refine X5 Tryz.results148 Tryz.underlying46 Tryz.underlying46 (by kernel_rfl) (by kernel_rfl) rfl rfl a1 a2 rfl ?_;exact ⟨_,_,by rw [if_neg HZ.out];rfl,by rw [if_neg HZ.out,RI.z_eq,RI.z_eq,(Vq HY.out Z.out (by simp)).1];exact a3,by rw [if_neg HZ.out,RI.z_eq,RI.z_eq,(Vq HY.out Z.out (by simp)).2];exact a4,a5⟩
   ·cases t
    ·go_wp2_with fail;refine (Zbo _ _ (Zo (val ds / val r)) [1] _ (dq.below (Zc _ _)) (YD.dig (YD.new w3 [1]) (by simp [okD,B32]) (c:=1) (by simp) (by simp [maxLen])) HQ.out (by simp)).mono ?_;rw [Zl,show val [1]=1 from by simp [val]];rintro e w4 ⟨v4,rfl,e4,R⟩;have k:=Za (Zc w3 _) R (by simp);have M:=h.later k;have C:=g.later k;have N:=o.later k;have D:=l.later k;have v:=Za i k i.size;have Y:=dr.below k;have a0:=aa.below k;clear h g o l i k R x0 x1 ae af;go_wp2_with fail;refine (Uj _ _ (Zo (val r)) (Zo (val ds % val r)) _ a0 Y (by rw [Zl,Zl];exact Nat.le_of_lt (Nat.mod_lt _ HY.out)) (Zv (Nat.le_of_lt (Nat.mod_lt _ HY.out))) hs2).mono ?_;rw [Zl,Zl];rintro e w5 ⟨v5,rfl,e5,s⟩;have u:=M.later s;have m:=C.later s;have O:=N.later s;have E:=D.later s;have x:=Za v s v.size;have a6:=e4.below s;clear M C N D v s;go_wp2_with fail;have j:True:=trivial
     go_region_held3 (fun w'=>w'.cell? ⟨w.heap.size,0,none⟩=some (.bool true)∧w'.cell? ⟨w.heap.size+1,0,none⟩=some (.bool false))
      (first | with_reducible exact ⟨u.pair.1,m.pair.1⟩ | with_reducible exact ⟨u.drew.pair.1,m.drew.pair.1⟩ | with_reducible exact ⟨(u.drew.later d).pair.1,(m.drew.later d).pair.1⟩ | with_reducible exact ⟨((u.drew.later d).later f).pair.1,((m.drew.later d).later f).pair.1⟩ | with_reducible exact ⟨(((u.drew.later d).later f).two_far p _ _).1,(((m.drew.later d).later f).two_far q _ _).1⟩ | with_reducible exact ⟨((((u.drew.later d).later f).far2 p _ _).two_far y _ _).1,((((m.drew.later d).later f).far2 q _ _).two_far B _ _).1⟩)
      (first
       | (go_at_call 149;have _t:=j;refine (Yc _ _ _ _ (a6.keep (ZG.drew _))).mono ?_;clear j _t;rintro e w6 ⟨v6,rfl,e6,d⟩;obtain ⟨A6,n6,k6,rfl,_⟩:=e6.shape)
       | (go_at_call 149;refine (Yc _ _ _ _ ((e5.keep (ZG.drew _)).below d)).mono ?_;rintro e w7 ⟨v7,rfl,e7,f⟩;obtain ⟨A7,n7,k7,rfl,_⟩:=e7.shape;obtain ⟨c0,c1,f0,f1⟩:=((O.drew.later d).later f).two;obtain ⟨F,G,H,I⟩:=((E.drew.later d).later f).two))
     go_wp2;obtain ⟨a1,a2,a3,a4,a5⟩:=Y5 ((O.drew.later d).later f) ((E.drew.later d).later f) (by omega) (e6.below f) e7 (Za (Za x.drew d x.size) f (JW x.size d.size)) (by omega) (by omega);refine X5 Tryz.results148 Tryz.underlying46 Tryz.underlying46 (by kernel_rfl) (by kernel_rfl) rfl rfl a1 a2 rfl ?_;exact ⟨_,_,by rw [if_neg HZ.out];rfl,by rw [if_neg HZ.out,RI.z_eq,RI.z_eq,(Vq HY.out Z.out (by simp)).1];exact a3,by rw [if_neg HZ.out,RI.z_eq,RI.z_eq,(Vq HY.out Z.out (by simp)).2];exact a4,a5⟩
    ·go_wp2_with fail;have j:True:=trivial
     go_region_held3 (fun w'=>w'.cell? ⟨w.heap.size,0,none⟩=some (.bool true)∧w'.cell? ⟨w.heap.size+1,0,none⟩=some (.bool true))
      (first | with_reducible exact ⟨h.pair.1,g.pair.1⟩ | with_reducible exact ⟨h.drew.pair.1,g.drew.pair.1⟩ | with_reducible exact ⟨(h.drew.later d).pair.1,(g.drew.later d).pair.1⟩ | with_reducible exact ⟨((h.drew.later d).later f).pair.1,((g.drew.later d).later f).pair.1⟩ | with_reducible exact ⟨(((h.drew.later d).later f).two_far p _ _).1,(((g.drew.later d).later f).two_far q _ _).1⟩ | with_reducible exact ⟨((((h.drew.later d).later f).far2 p _ _).two_far y _ _).1,((((g.drew.later d).later f).far2 q _ _).two_far B _ _).1⟩)
      (first
       | (go_at_call 149;have _t:=j;refine (Yc _ _ _ _ (dq.keep (ZG.drew _))).mono ?_;clear j _t;rintro e w6 ⟨v6,rfl,e6,d⟩;obtain ⟨A6,n6,k6,rfl,_⟩:=e6.shape)
       | (go_at_call 149;refine (Yc _ _ _ _ ((dr.keep (ZG.drew _)).below d)).mono ?_;rintro e w7 ⟨v7,rfl,e7,f⟩;obtain ⟨A7,n7,k7,rfl,_⟩:=e7.shape;obtain ⟨c0,c1,f0,f1⟩:=((o.drew.later d).later f).two;obtain ⟨F,G,H,I⟩:=((l.drew.later d).later f).two))
     go_wp2;obtain ⟨a1,a2,a3,a4,a5⟩:=Y5 ((o.drew.later d).later f) ((l.drew.later d).later f) (by omega) (e6.below f) e7 (Za (Za i.drew d i.size) f (JW i.size d.size)) (by omega) (by omega);refine X5 Tryz.results148 Tryz.underlying46 Tryz.underlying46 (by kernel_rfl) (by kernel_rfl) rfl rfl a1 a2 rfl ?_;exact ⟨_,_,by rw [if_neg HZ.out];rfl,by rw [if_neg HZ.out,RI.z_eq,RI.z_eq,(Yp HY.out (.inr rfl)).1];exact a3,by rw [if_neg HZ.out,RI.z_eq,RI.z_eq,(Yp HY.out (.inr rfl)).2];exact a4,a5⟩
end Go.Proofs.YtncmobkhenfhpaaGreat
