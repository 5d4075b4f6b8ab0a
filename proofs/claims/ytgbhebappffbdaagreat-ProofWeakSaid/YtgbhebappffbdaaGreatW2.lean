/- Lemmas of the claim; no condition. -/
import Derived.Test.YtgbhebappffbdaaGreatW1
set_option linter.all false
set_option maxRecDepth 100000
set_option maxHeartbeats 40000000
namespace Go.Proofs.YtgbhebappffbdaaGreat
open Go.RowKit
open Pl
attribute [local go_sem ↓] Go.wp_at_zero Go.wp_at_succ
namespace Pl
structure Leh (A B X Y:Nat) (a1 a2 u0 u1 u2 v0 v1 v2:Int) (ev:Bool):Prop where
 a2n:0≤a2
 a21:a2≤a1
 u0n:0≤u0
 u1n:0≤u1
 u2n:0≤u2
 v0n:0≤v0
 v1n:0≤v1
 v2n:1≤v2
 iA:v2 * a1+v1 * a2=A
 iB:u2 * a1+u1 * a2=B
 det:u1 * v2 - u2 * v1=if ev then -1 else 1
 uv2:u2≤v2
 uv12:u1+u2≤v1+v2
 v12:v1≤v2
 u1v2:u1≤v2
 b0:u0≤4294967295
 b1:u1≤4294967295
 b2:v0≤4294967295
 b3:v1≤4294967295
 st0:v1=0→u1=1∧u2=0∧v2=1∧v0=0∧ev=false
 st1:0 < v1→(if ev then Y * v1 - X * u1 else X * u1 - Y * v1:Int)≤Y
 st2:0 < v0→u0 * v1 - u1 * v0=(if ev then 1 else -1)∧0≤(if ev then Y * v1 - X * u1 else X * u1 - Y * v1:Int)∧
  (if ev then Y * v1 - X * u1 else X * u1 - Y * v1:Int) < (if ev then X * u0 - Y * v0 else Y * v0 - X * u0:Int)∧(if ev then X * u0 - Y * v0 else Y * v0 - X * u0:Int)≤Y
theorem Leh.start {A B X Y:Nat} (h:B≤A):Leh A B X Y A B 0 1 0 0 0 1 false:=
 ⟨by omega,by omega,by omega,by omega,by omega,by omega,by omega,by omega,by omega,by omega,by simp,by omega,by omega,by omega,by omega,by omega,by omega,by omega,by omega,fun _=>⟨rfl,rfl,rfl,rfl,rfl⟩,fun h=>by omega,fun h=>by omega⟩
theorem Leh.room {A B X Y:Nat} {a1 a2 u0 u1 u2 v0 v1 v2:Int} {ev:Bool} (h:Leh A B X Y a1 a2 u0 u1 u2 v0 v1 v2 ev) (c1:v2≤a2):
 v1+(a1 / a2) * v2≤A∧u1+(a1 / a2) * u2≤A∧0≤(a1 / a2) * v2∧0≤(a1 / a2) * u2∧1≤a1 / a2:=by
 have h2:=h.v2n;have hq:1≤a1 / a2:=by
  rw [Int.le_ediv_iff_mul_le (by omega)];have:=h.a21;omega
 have a:a1 / a2 * a2≤a1:=by rw [Int.mul_comm];exact Int.mul_ediv_self_le (by omega)
 have k1:(v1+(a1 / a2) * v2) * a2≤A:=by
  rw [← h.iA,Int.add_mul];have:a1 / a2 * v2 * a2≤v2 * a1:=by
   rw [Int.mul_right_comm,Int.mul_comm v2];exact Int.mul_le_mul_of_nonneg_right a (by omega)
  omega
 have n1:0≤(a1 / a2) * v2:=Int.mul_nonneg (by omega) (by omega);have n2:0≤(a1 / a2) * u2:=Int.mul_nonneg (by omega) h.u2n;have k2:(v1+(a1 / a2) * v2) * 1≤(v1+(a1 / a2) * v2) * a2:=Int.mul_le_mul_of_nonneg_left (by omega) (by have:=h.v1n;omega);have k3:u1+(a1 / a2) * u2≤v1+(a1 / a2) * v2:=by
  have m:(a1 / a2 - 1) * u2≤(a1 / a2 - 1) * v2:=Int.mul_le_mul_of_nonneg_left h.uv2 (by omega);rw [Int.sub_mul,Int.sub_mul] at m;have:=h.uv12;omega
 exact ⟨by omega,by omega,n1,n2,hq⟩
theorem Ylm {D a v u e1 e2:Int} (hD:0 < D) (_he1:0≤e1) (he1':e1 < D) (he2:0≤e2) (hu:0≤u) (hv:0≤v) (h:u≤a):0≤D * a+(e2 * v - e1 * u):=by
 have h1:e1 * u≤D * u:=Int.mul_le_mul_of_nonneg_right (by omega) hu;have h2:0≤e2 * v:=Int.mul_nonneg he2 hv;have h3:D * u≤D * a:=Int.mul_le_mul_of_nonneg_left h (by omega);omega
theorem Ygx {D a v u e1 e2:Int} (hD:0 < D) (he1:0≤e1) (_he2:0≤e2) (he2':e2 < D) (hu:0≤u) (hv:1≤v) (h:v≤a):0 < D * a+(e1 * u - e2 * v):=by
 have h1:(e2+1) * v≤D * v:=Int.mul_le_mul_of_nonneg_right (by omega) (by omega);have h2:0≤e1 * u:=Int.mul_nonneg he1 hu;have h3:D * v≤D * a:=Int.mul_le_mul_of_nonneg_left h (by omega);rw [Int.add_mul] at h1;omega
theorem Znv (D A B e1 e2 u v a:Int) (h:v * B - u * A=a):(B * D+e2) * v - (A * D+e1) * u=D * a+(e2 * v - e1 * u):=by grind
theorem Znw (D A B e1 e2 u v a:Int) (h:u * A - v * B=a):(A * D+e1) * u - (B * D+e2) * v=D * a+(e1 * u - e2 * v):=by grind
theorem Yln (A B a1 a2 u1 u2 v1 v2 d:Int) (hA:v2 * a1+v1 * a2=A) (hB:u2 * a1+u1 * a2=B) (hd:u1 * v2 - u2 * v1=d):u1 * A - v1 * B=d * a1:=by grind
theorem Ylo (A B a1 a2 u1 u2 v1 v2 d:Int) (hA:v2 * a1+v1 * a2=A) (hB:u2 * a1+u1 * a2=B) (hd:u1 * v2 - u2 * v1=d):v2 * B - u2 * A=d * a2:=by grind
theorem Leh.step {A B X Y:Nat} {D e1 e2:Int} {a1 a2 u0 u1 u2 v0 v1 v2:Int} {ev:Bool} (h:Leh A B X Y a1 a2 u0 u1 u2 v0 v1 v2 ev) (hD:0 < D) (hX:(X:Int)=A * D+e1) (hY:(Y:Int)=B * D+e2)
 (he1:0≤e1) (he1':e1 < D) (he2:0≤e2) (he2':e2 < D) (hA:(A:Int)≤18446744073709551615) (c1:v2≤a2) (c2:v1+v2≤a1 - a2):
 Leh A B X Y a2 (a1 % a2) u1 u2 (u1+(a1 / a2) * u2) v1 v2 (v1+(a1 / a2) * v2) (!ev):=by
 obtain ⟨r1,r2,r3,r4,r5⟩:=h.room c1;have k:=h.v2n;have b:=h.u2n;have c:=h.v1n;have l:=h.u1n;have p:1≤a2:=by omega
 have hm:a1 % a2=a1 - (a1 / a2) * a2:=by
  have:=Int.emod_add_mul_ediv a1 a2;rw [Int.mul_comm] at this;omega
 have n:=Int.emod_nonneg a1 (show a2≠0 by omega);have r:=Int.emod_lt_of_pos a1 (show 0 < a2 by omega)
 -- v2 < 2^32
 have hb:v2≤4294967295:=by
  rcases Int.lt_or_le v2 4294967296 with g | g
  ·omega
  ·exfalso;have k1:v2 * v2≤v2 * a1:=Int.mul_le_mul_of_nonneg_left (by omega) (by omega);have k2:4294967296 * 4294967296≤v2 * v2:=Int.mul_le_mul g g (by omega) (by omega);have k3:0≤v1 * a2:=Int.mul_nonneg c (by omega);have:=h.iA;omega
 have o:0≤(if !ev then Y * v2 - X * u2 else X * u2 - Y * v2:Int)∧(if !ev then Y * v2 - X * u2 else X * u2 - Y * v2:Int) < (if ev then Y * v1 - X * u1 else X * u1 - Y * v1:Int):=by
  have d:=h.det;have i1:=Yln A B a1 a2 u1 u2 v1 v2 _ h.iA h.iB d;have i2:=Ylo A B a1 a2 u1 u2 v1 v2 _ h.iA h.iB d;rw [hX,hY]
  cases ev with
  | false=>
   simp only [Bool.not_false,if_true,Bool.false_eq_true,if_false] at *;have e:(((B:Int) * D+e2) * v2 - ((A:Int) * D+e1) * u2)=D * a2+(e2 * v2 - e1 * u2):=Znv _ _ _ _ _ _ _ _ (by omega);have f:((A:Int) * D+e1) * (u1+u2) - ((B:Int) * D+e2) * (v1+v2)=D * (a1 - a2)+(e1 * (u1+u2) - e2 * (v1+v2)):=Znw _ _ _ _ _ _ _ _ (by rw [Int.add_mul,Int.add_mul];omega);have g1:=Ylm (a:=a2) hD he1 he1' he2 b (by omega) (v:=v2) (by have:=h.uv2;omega);have g2:=Ygx (u:=u1+u2) hD he1 he2 he2' (by omega) (show 1≤v1+v2 by omega) c2;rw [Int.mul_add,Int.mul_add] at f;omega
  | true=>
   simp only [Bool.not_true,if_true,Bool.false_eq_true,if_false] at *;have e:(((A:Int) * D+e1) * u2 - ((B:Int) * D+e2) * v2)=D * a2+(e1 * u2 - e2 * v2):=Znw _ _ _ _ _ _ _ _ (by omega);have f:((B:Int) * D+e2) * (v1+v2) - ((A:Int) * D+e1) * (u1+u2)=D * (a1 - a2)+(e2 * (v1+v2) - e1 * (u1+u2)):=Znv _ _ _ _ _ _ _ _ (by rw [Int.add_mul,Int.add_mul];omega);have g1:=Ygx (u:=u2) hD he1 he2 he2' b k c1;have k1:(e1+1) * (u1+u2)≤D * (u1+u2):=Int.mul_le_mul_of_nonneg_right (by omega) (by omega);have k2:0≤e2 * (v1+v2):=Int.mul_nonneg he2 (by omega);have k3:D * (u1+u2)≤D * (a1 - a2):=Int.mul_le_mul_of_nonneg_left (by have:=h.uv12;omega) (by omega);have k4:1≤u1+u2:=by
    rcases Int.lt_or_le 0 (u1+u2) with g | g
    ·omega
    ·have z1:u1=0:=(by omega);have z2:u2=0:=(by omega);rw [z1,z2] at d;simp at d
   rw [Int.add_mul] at k1;rw [Int.mul_add,Int.mul_add] at f;omega
 obtain ⟨i,j⟩:=o;have s:1 * v2≤a1 / a2 * v2:=Int.mul_le_mul_of_nonneg_right r5 (by omega);refine ⟨n,by omega,l,b,by omega,c,by omega,by omega,?_,?_,?_,?_,?_,?_,?_,h.b1,by have:=h.uv2;omega,h.b3,hb,?_,?_,?_⟩
 ·rw [hm,← h.iA,Int.add_mul,Int.mul_sub];have:a1 / a2 * v2 * a2=v2 * (a1 / a2 * a2):=by rw [Int.mul_right_comm,Int.mul_comm]
  omega
 ·rw [hm,← h.iB,Int.add_mul,Int.mul_sub];have:a1 / a2 * u2 * a2=u2 * (a1 / a2 * a2):=by rw [Int.mul_right_comm,Int.mul_comm]
  omega
 ·have d:=h.det;rw [Int.mul_add,Int.add_mul];have:u2 * (a1 / a2 * v2)=a1 / a2 * u2 * v2:=by rw [← Int.mul_assoc,Int.mul_comm u2]
  cases ev <;> simp at d ⊢ <;> omega
 ·have m:(a1 / a2 - 1) * u2≤(a1 / a2 - 1) * v2:=Int.mul_le_mul_of_nonneg_left h.uv2 (by omega);rw [Int.sub_mul,Int.sub_mul] at m;have:=h.uv12;omega
 ·have m:a1 / a2 * u2≤a1 / a2 * v2:=Int.mul_le_mul_of_nonneg_left h.uv2 (by omega);have:=h.uv12;omega
 ·have m:1 * v2≤a1 / a2 * v2:=Int.mul_le_mul_of_nonneg_right r5 (by omega);omega
 ·have m:1 * v2≤a1 / a2 * v2:=Int.mul_le_mul_of_nonneg_right r5 (by omega);have:=h.uv2;omega
 ·intro h0;omega
 ·intro _;rcases Int.lt_or_eq_of_le c with g | g
  ·have:=h.st1 g;omega
  ·obtain ⟨s1,s2,s3,s4,s5⟩:=h.st0 g.symm;rw [s2,s3,s5];simp
 ·intro g;have q:=h.st1 g;refine ⟨?_,i,?_,?_⟩
  ·have d:=h.det
   cases ev <;> simp at d ⊢ <;> omega
  ·cases ev <;> simpa using j
  ·cases ev <;> simpa using q
theorem Zzk {X Y R0 R1 u0 u1 v0 v1:Nat} (hx:X=v1 * R0+v0 * R1) (hy:Y=u1 * R0+u0 * R1) (h0:R0+v0 * Y=u0 * X∨R0+u0 * X=v0 * Y) (h1:R1+v1 * Y=u1 * X∨R1+u1 * X=v1 * Y):Nat.gcd R0 R1=Nat.gcd X Y:=by
 apply Nat.dvd_antisymm
 ·have d0:=Nat.gcd_dvd_left R0 R1;have d1:=Nat.gcd_dvd_right R0 R1;refine Nat.dvd_gcd ?_ ?_
  ·rw [hx];exact Nat.dvd_add (Nat.dvd_mul_left_of_dvd d0 _) (Nat.dvd_mul_left_of_dvd d1 _)
  ·rw [hy];exact Nat.dvd_add (Nat.dvd_mul_left_of_dvd d0 _) (Nat.dvd_mul_left_of_dvd d1 _)
 ·have d0:=Nat.gcd_dvd_left X Y;have d1:=Nat.gcd_dvd_right X Y;refine Nat.dvd_gcd ?_ ?_
  ·rcases h0 with h | h
   ·exact (Nat.dvd_add_left (Nat.dvd_mul_left_of_dvd d1 v0)).1 (h▸Nat.dvd_mul_left_of_dvd d0 u0)
   ·exact (Nat.dvd_add_left (Nat.dvd_mul_left_of_dvd d0 u0)).1 (h▸Nat.dvd_mul_left_of_dvd d1 v0)
  ·rcases h1 with h | h
   ·exact (Nat.dvd_add_left (Nat.dvd_mul_left_of_dvd d1 v1)).1 (h▸Nat.dvd_mul_left_of_dvd d0 u1)
   ·exact (Nat.dvd_add_left (Nat.dvd_mul_left_of_dvd d0 u1)).1 (h▸Nat.dvd_mul_left_of_dvd d1 v1)
theorem Znx (X Y u0 u1 v0 v1 d:Int) (h:u0 * v1 - u1 * v0=d):v1 * (X * u0 - Y * v0)+v0 * (Y * v1 - X * u1)=d * X∧u1 * (X * u0 - Y * v0)+u0 * (Y * v1 - X * u1)=d * Y:=by
 constructor <;> grind
structure Cof (X Y u0 u1 v0 v1:Nat) (ev:Bool) (R0 R1:Nat):Prop where
 lt:R1 < R0
 le:R0≤Y
 e0:if ev then R0+Y * v0=X * u0 else R0+X * u0=Y * v0
 e1:if ev then R1+X * u1=Y * v1 else R1+Y * v1=X * u1
 gcd:Nat.gcd R0 R1=Nat.gcd X Y
theorem Leh.cof {A B X Y:Nat} {a1 a2 u0 u1 u2 v0 v1 v2:Int} {ev:Bool} (h:Leh A B X Y a1 a2 u0 u1 u2 v0 v1 v2 ev) (hv0:v0≠0):∃R0 R1:Nat,Cof X Y u0.toNat u1.toNat v0.toNat v1.toNat ev R0 R1:=by
 obtain ⟨d,k0,k1,k2⟩:=h.st2 (by have:=h.v0n;omega);obtain ⟨a,rfl⟩:=JT h.u0n;obtain ⟨b,rfl⟩:=JT h.u1n;obtain ⟨c,rfl⟩:=JT h.v0n;obtain ⟨e,rfl⟩:=JT h.v1n;simp only [JP];have m1:((X * a:Nat):Int)=(X:Int) * a:=Int.natCast_mul _ _;have m2:((Y * c:Nat):Int)=(Y:Int) * c:=Int.natCast_mul _ _;have m3:((Y * e:Nat):Int)=(Y:Int) * e:=Int.natCast_mul _ _;have m4:((X * b:Nat):Int)=(X:Int) * b:=Int.natCast_mul _ _
 cases ev with
 | true=>
  simp only [if_true] at *;obtain ⟨z1,z2⟩:=Znx X Y a b c e 1 d;refine ⟨X * a - Y * c,Y * e - X * b,by omega,by omega,?_,?_,?_⟩
  ·simp;omega
  ·simp;omega
  ·have p0:((X * a - Y * c:Nat):Int)=(X:Int) * a - Y * c:=(by omega);have p1:((Y * e - X * b:Nat):Int)=(Y:Int) * e - X * b:=(by omega);rw [← p0,← p1] at z1 z2;refine Zzk (u0:=a) (u1:=b) (v0:=c) (v1:=e) ?_ ?_ (.inl ?_) (.inr ?_)
   ·have:=Int.natCast_mul e (X * a - Y * c);have:=Int.natCast_mul c (Y * e - X * b);omega
   ·have:=Int.natCast_mul b (X * a - Y * c);have:=Int.natCast_mul a (Y * e - X * b);omega
   ·rw [Nat.mul_comm c,Nat.mul_comm a];omega
   ·rw [Nat.mul_comm b,Nat.mul_comm e];omega
 | false=>
  simp only [Bool.false_eq_true,if_false] at *;obtain ⟨z1,z2⟩:=Znx X Y a b c e (-1) d;refine ⟨Y * c - X * a,X * b - Y * e,by omega,by omega,?_,?_,?_⟩
  ·simp;omega
  ·simp;omega
  ·have p0:((Y * c - X * a:Nat):Int)=(Y:Int) * c - X * a:=(by omega);have p1:((X * b - Y * e:Nat):Int)=(X:Int) * b - Y * e:=(by omega);have q0:(X:Int) * a - Y * c= -((Y * c - X * a:Nat):Int):=(by omega);have q1:(Y:Int) * e - X * b= -((X * b - Y * e:Nat):Int):=(by omega);rw [q0,q1,Int.mul_neg,Int.mul_neg] at z1 z2;refine Zzk (u0:=a) (u1:=b) (v0:=c) (v1:=e) ?_ ?_ (.inr ?_) (.inl ?_)
   ·have:=Int.natCast_mul e (Y * c - X * a);have:=Int.natCast_mul c (X * b - Y * e);omega
   ·have:=Int.natCast_mul b (Y * c - X * a);have:=Int.natCast_mul a (X * b - Y * e);omega
   ·rw [Nat.mul_comm a,Nat.mul_comm c];omega
   ·rw [Nat.mul_comm e,Nat.mul_comm b];omega
end Pl
theorem Zbr (i:Int) (g:Nat) (A:Option Addr) (n c:Nat) (ds:List Nat) (w:World) (h:Z6 w (.slice A n c) ds) (hg:w.cell? ⟨g,0,none⟩=some (.slice A n c)) (i0:0≤i) (i1:i≤1099511627776):
 Calls Tryz.prog 177 #[.int .i64 i,.pointer (some ⟨g,0,none⟩)] w fun e w'=>e= .returned (.int .u64 (di ds i.toNat))∧w=w':=by
 obtain ⟨hl,d,f,hc⟩:=h.len;obtain ⟨k,rfl⟩:=JT i0;rw [JP];have x0:=Zu ds k;have x1:=Yu h.ok k;rcases JX k n with hk | hk
 ·obtain ⟨b,j,rfl,hb,a⟩:=h.at_ (by omega);have hx:=a k hk;clear a;go_enter Tryz.func177,Tryz.ntmps177;go_wp2;go_ret;exact ⟨rfl,rfl⟩
 ·have e:di ds k=0:=by rw [YE,Vo (by omega)];rfl
  rw [e];clear e;go_enter Tryz.func177,Tryz.ntmps177;go_wp2;go_ret;exact ⟨rfl,rfl⟩
theorem Zzm {z x:Int} {s:Nat} (hs:s≤31) (z0:0≤z) (z1:z < 2^s) (x0:0≤x) (q1:x * 2^s≤18446744073709551615):bits .or .u64 (x * 2^s) z=x * 2^s+z:=by
 obtain ⟨a,rfl⟩:=JT z0;obtain ⟨b,rfl⟩:=JT x0;have c:=Vr hs;rw [YO] at *;rw [← Int.natCast_mul] at *;rw [u64_or_nat _ _ (by omega) (by omega),← Nat.shiftLeft_eq,← Nat.shiftLeft_add_eq_or_of_lt (by omega),Nat.shiftLeft_eq];omega
theorem Zer {s:Nat} {x:Int} (hs:s≤31) (x0:0≤x) (x1:x≤4294967295):0≤x / 2^(32 - s)∧x / 2^(32 - s) < 2^s:=by
 have hp:(0:Int) < 2^(32 - s):=by have:=WM (32 - s);omega
 refine ⟨Int.ediv_nonneg x0 (by omega),?_⟩;rw [Int.ediv_lt_iff_lt_mul hp,← Int.pow_add,show s+(32 - s)=32 from by omega];omega
theorem Zke (v:Value) (ds:List Nat) (m s:Nat) (w:World) (h:Z6 w v ds) (hs:s≤31) (hm:(m:Int)≤549755813888) (ht:(di ds (m+2)+1) * 2^s≤4294967296):
 Calls Tryz.prog 172 #[v,.int .i64 ((m:Int)+3),.int .u64 (s:Int)] w fun e w'=>e= .returned (.int .u64 ((di ds (m+2) * 4294967296+di ds (m+1)) * 2^s+di ds m / 2^(32 - s)))∧Below w.heap.size w w':=by
 obtain ⟨A,n,c,rfl⟩:=h.shape;have d:=Zu ds (m+2);have l:=Yu h.ok (m+2);have f:=Zu ds (m+1);have g:=Yu h.ok (m+1);have i:=Zu ds m;have j:=Yu h.ok m;have hW:Below w.heap.size w (w.alloc (.cells #[.slice A n c] 42)):=(JR _ _).alloc (JY _) _;have hD:=h.below hW;have a:(w.alloc (.cells #[.slice A n c] 42)).cell? ⟨w.heap.size,0,none⟩=some (.slice A n c):=by simp
 have HD:=JZ hD;have HC:=JZ a;clear hD a;have q:=Vr hs;have r:(1:Int)≤2^s:=WM s;have q0:0≤di ds (m+2) * 2^s:=Int.mul_nonneg d (by omega);have q1:di ds (m+1) * 2^s≤4294967295 * 2^s:=Int.mul_le_mul_of_nonneg_right g (by omega);have q2:0≤di ds (m+1) * 2^s:=Int.mul_nonneg f (by omega);have o:di ds (m+2) * 2^s+2^s≤4294967296:=by rw [Int.add_mul,Int.one_mul] at ht;exact ht
 have hH:(di ds (m+2) * 4294967296+di ds (m+1)) * 2^s=di ds (m+2) * 2^s * 4294967296+di ds (m+1) * 2^s:=by rw [Int.add_mul,Int.mul_right_comm]
 have k:0≤(di ds (m+2) * 4294967296+di ds (m+1)) * 2^s:=by omega
 have b:(di ds (m+2) * 4294967296+di ds (m+1)) * 2^s≤18446744073709551615:=by omega
 have p:=JZ b;have r1:IntKind.u64.wrap ((di ds (m+2) * 4294967296+di ds (m+1)) * 2^s)=(di ds (m+2) * 4294967296+di ds (m+1)) * 2^s:=u64_in _ k b;have r4:=Zan f g d l;have R1:=JZ r1;clear hH k b ht o q0 q1 q2 r1;have t0:(0:Int)≤32 - (s:Int):=by omega
 go_enter Tryz.func172,Tryz.ntmps172;go_wp2_with fail;refine (Zbr _ _ A n c ds _ HD.out HC.out (by omega) (by omega)).mono ?_;rw [show ((m:Int)+3 - 1).toNat=m+2 from by omega];rintro e w1 ⟨rfl,rfl⟩;go_wp2_with fail;refine (Zbr _ _ A n c ds _ HD.out HC.out (by omega) (by omega)).mono ?_;rw [show ((m:Int)+3 - 2).toNat=m+1 from by omega];rintro e w1 ⟨rfl,rfl⟩;go_wp2_with fail;refine (Zbr _ _ A n c ds _ HD.out HC.out (by omega) (by omega)).mono ?_;rw [JP];rintro e w1 ⟨rfl,rfl⟩;have r1:=R1.out;go_wp2_with fail;go_ret;exact ⟨VT (Zzm hs (Zer hs i j).1 (Zer hs i j).2 (by omega) p.out),hW⟩
theorem Zrm {X m s:Nat} (hs:s≤31) (hl:(Zq X).length≤m+3):(di (Zq X) (m+2) * 4294967296+di (Zq X) (m+1)) * 2^s+di (Zq X) m / 2^(32 - s)=((X / (2^(32 - s) * B32^m):Nat):Int):=by
 have hX:X=vt (Zq X) (m+3):=by rw [X8 hl,Zm]
 have e:X / (2^(32 - s) * B32^m)=(dg (Zq X) (m+2) * B32+dg (Zq X) (m+1)) * 2^s+dg (Zq X) m / 2^(32 - s):=by
  have a:=Zbe (Yj X) m
  conv=>lhs;rw [hX]
  rw [Zrd,Nat.mul_comm (2^(32 - s)),← Nat.div_div_eq_div_mul,Nat.mul_comm _ (B32^m),Nat.mul_add_div (Nat.pow_pos B32_pos),Nat.div_eq_of_lt a,Nat.add_zero];have hB:B32=2^(32 - s) * 2^s:=by rw [← Nat.pow_add,show 32 - s+s=32 from by omega];rfl
  generalize dg (Zq X) (m+2) * B32+dg (Zq X) (m+1)=T;have hp:=Nat.pow_pos (n:=32 - s) (show 0 < 2 by decide);rw [hB,show T * (2^(32 - s) * 2^s)=2^(32 - s) * (T * 2^s) from by rw [Nat.mul_left_comm],Nat.mul_add_div hp]
 rw [e,Int.natCast_add,Int.natCast_ediv,Int.natCast_mul,Int.natCast_add,Int.natCast_mul,← YO,← YO];rfl
theorem Ylp {t s:Nat} (hs:s≤31) (h1:t * 2^s≤4294967295):(t+1) * 2^s≤4294967296:=by
 have hB:2^s * 2^(32 - s)=4294967296:=by rw [← Nat.pow_add,show s+(32 - s)=32 from by omega]
 have a:t * 2^s < 2^(32 - s) * 2^s:=by rw [Nat.mul_comm (2^(32 - s)),hB];omega
 have b:=Nat.lt_of_mul_lt_mul_right a;have c:(t+1) * 2^s≤2^(32 - s) * 2^s:=JS _ b
 rwa [Nat.mul_comm (2^(32 - s)),hB] at c
theorem Ygy {X m:Nat} (hl:(Zq X).length≤m+3):dg (Zq X) (m+2)=X / B32^(m+2):=by
 have hX:X=vt (Zq X) (m+3):=by rw [X8 hl,Zm]
 have a:=Zbe (Yj X) (m+2)
 conv=>rhs;rw [hX]
 rw [Xh,Nat.add_comm (vt _ _),Nat.mul_comm (dg _ _),Nat.mul_add_div (Nat.pow_pos B32_pos),Nat.div_eq_of_lt a];rfl
theorem Ylq {X m s:Nat} (hs:s≤31) (hl:(Zq X).length≤m+3) (ht:(di (Zq X) (m+2)+1) * 2^s≤4294967296):((X / (2^(32 - s) * B32^m):Nat):Int)≤18446744073709551615:=by
 rw [← Zrm hs hl];have d:=Zu (Zq X) (m+1);have a:=Yu (Yj X) (m+1);have b:=Zu (Zq X) m;have c:=Yu (Yj X) m;have e:(1:Int)≤2^s:=WM s;have f:=Vr hs;have q1:di (Zq X) (m+1) * 2^s≤4294967295 * 2^s:=Int.mul_le_mul_of_nonneg_right a (by omega);obtain ⟨z0,z1⟩:=Zer hs b c;rw [Int.add_mul,Int.one_mul] at ht;rw [Int.add_mul,Int.mul_right_comm];omega
theorem Zls (v1 v2:Value) (X Y m:Nat) (w:World) (h1:Z6 w v1 (Zq X)) (h2:Z6 w v2 (Zq Y)) (hl1:(Zq X).length=m+3) (hYX:Y≤X) (hm:(m:Int)≤549755813888):
 Calls Tryz.prog 163 #[v1,v2] w fun e w'=>∃(u0 u1 v0 v1:Int) (ev:Bool),e= .returned (.agg #[.int .u64 u0,.int .u64 u1,.int .u64 v0,.int .u64 v1,.bool ev])∧
  0≤u0∧u0≤4294967295∧0≤u1∧u1≤4294967295∧0≤v0∧v0≤4294967295∧0≤v1∧v1≤4294967295∧(v0≠0→∃R0 R1:Nat,Cof X Y u0.toNat u1.toNat v0.toNat v1.toNat ev R0 R1)∧Below w.heap.size w w':=by
 have x:(Zq Y).length≤m+3:=by have:=Zy hYX;omega
 have y:0 < X:=by
  rcases JV X with e | e
  ·subst e;rw [digs_zero] at hl1;simp at hl1
  ·exact e
 have y0:1≤di (Zq X) (m+2):=by
  have:=UO y;rw [hl1] at this;rw [YE];simp at this;omega
 have y1:=Yu (Yj X) (m+2);have E:di (Zq Y) (m+2)≤di (Zq X) (m+2):=by
  rw [YE,YE,Ygy x,Ygy (by omega)];have:=Nat.div_le_div_right (c:=B32^(m+2)) hYX;omega
 have a4:=JZ E;have a5:=JZ x;have a6:=JZ hYX;clear E x hYX;obtain ⟨A,n1,c,rfl⟩:=h1.shape;obtain ⟨kl,ad,ah,kc⟩:=h1.len;obtain ⟨b1,af,rfl,ai,i⟩:=h1.at_ (by omega);obtain rfl:n1=m+3:=by omega
 have hx:=i (m+2) (by omega);have F:=JZ hl1;clear i hl1 kl ad;go_enter Tryz.func163,Tryz.ntmps163;go_wp2_with fail;refine (Znu _ _ y0 y1).mono ?_;rintro e w1 ⟨s,rfl,rfl,a,ae,a3⟩;have G:(di (Zq X) (m+2)+1) * 2^s≤4294967296:=by
  have:=Ylp a (Ztq a3);rw [YE,YO,show ((dg (Zq X) (m+2):Nat):Int)+1=((dg (Zq X) (m+2)+1:Nat):Int) from by omega,← Int.natCast_mul];omega
 have r:(di (Zq Y) (m+2)+1) * 2^s≤4294967296:=by
  have:(di (Zq Y) (m+2)+1) * 2^s≤(di (Zq X) (m+2)+1) * 2^s:=Int.mul_le_mul_of_nonneg_right (by have:=a4.out;omega) (by have:=WM s;omega);omega
 have H:=JZ G;have a7:=JZ r;clear ae a3 G r;have hW:Below w.heap.size w (w.alloc (.cells #[.int .u64 0,.int .u64 0,.int .u64 0,.int .u64 0,.bool false] 184)):=(JR _ _).alloc (JY _) _;have I:=Bk.new w 184 [.int .u64 0,.int .u64 0,.int .u64 0,.int .u64 0,.bool false];have eX:=Zrm a (show (Zq X).length≤m+3 by rw [F.out];exact JY _);have eY:=Zrm a a5.out;have j:=Ylq a (show (Zq X).length≤m+3 by rw [F.out];exact JY _) H.out;have q:Y / (2^(32 - s) * B32^m)≤X / (2^(32 - s) * B32^m):=Nat.div_le_div_right a6.out;have d:0 < 2^(32 - s) * B32^m:=Nat.mul_pos (Nat.pow_pos (by decide)) (Nat.pow_pos B32_pos);have J:=Nat.div_add_mod X (2^(32 - s) * B32^m);have K:=Nat.div_add_mod Y (2^(32 - s) * B32^m);have a8:=Nat.mod_lt X d;have a9:=Nat.mod_lt Y d;generalize 2^(32 - s) * B32^m=D at *;obtain ⟨A0,V⟩:∃A0,A0=X / D:=⟨_,rfl⟩;obtain ⟨B0,Z⟩:∃B0,B0=Y / D:=⟨_,rfl⟩;rw [← V] at j q J eX;rw [← Z] at q K eY;have f:=Leh.start (X:=X) (Y:=Y) q;have k:∀(a1 a2 u0 u1 u2 v0 v1 v2:Int) (ev:Bool),Leh A0 B0 X Y a1 a2 u0 u1 u2 v0 v1 v2 ev→v2≤a2→v1+v2≤a1 - a2→Leh A0 B0 X Y a2 (a1 % a2) u1 u2 (u1+(a1 / a2) * u2) v1 v2 (v1+(a1 / a2) * v2) (!ev):=by
  intro a1 a2 u0 u1 u2 v0 v1 v2 ev hh c1 c2;refine hh.step (D:=D) (e1:=(X % D:Nat)) (e2:=(Y % D:Nat)) (by omega) ?_ ?_ (by omega) (by omega) (by omega) (by omega) j c1 c2
  ·have:((D * A0:Nat):Int)=(A0:Int) * D:=by rw [Int.natCast_mul,Int.mul_comm]
   omega
  ·have:((D * B0:Nat):Int)=(B0:Int) * D:=by rw [Int.natCast_mul,Int.mul_comm]
   omega
 have aa:=JZ k;have ab:(B0:Int)≤18446744073709551615:=by omega
 have L:(0:Int)≤A0:=by omega
 have M:(0:Int)≤B0:=by omega
 have t:(B0:Int)≤A0:=by omega
 clear k J K a8 a9 q V Z d;obtain ⟨AI,B⟩:∃AI:Int,AI=(A0:Int):=⟨_,rfl⟩;obtain ⟨BI,a0⟩:∃BI:Int,BI=(B0:Int):=⟨_,rfl⟩;rw [← B] at j L eX t f;rw [← a0] at ab M eY t f;have EX:=JZ eX;have EY:=JZ eY;have N:=JZ f;have O:=JZ B;clear B a0 eX eY f;go_wp2_with fail;refine (Zke _ (Zq X) m s _ (h1.below hW) a hm H.out).mono ?_;rw [EX.out];rintro e w2 ⟨rfl,o⟩;have P:=I.later o;have g:Below w.heap.size w w2:=hW.trans (o.mono (by simp));clear I o hW;go_wp2_with fail;refine (Zke _ (Zq Y) m s _ (h2.below g) a hm a7.out).mono ?_;rw [EY.out];rintro e w3 ⟨rfl,p⟩;have z:=P.later p;have u:Below w.heap.size w w3:=g.trans (p.mono g.size);clear P p g;go_wp2_with fail
 go_loopw [7,8,10,11] (fun t1 t2 t3 t4 wr=>∃(a1 a2 u0 u1 u2 v0 v1 v2:Int) (ev:Bool),t1= .int .u64 a1∧t2= .int .u64 a2∧t3= .int .u64 u2∧t4= .int .u64 v2∧
  Bk wr w3.heap.size 184 [.int .u64 u0,.int .u64 u1,.int .u64 v0,.int .u64 v1,.bool ev]∧Bk wr w.heap.size 184 [.int .u64 0,.int .u64 0,.int .u64 0,.int .u64 0,.bool false]∧Below w.heap.size w wr∧a1≤AI∧Leh A0 B0 X Y a1 a2 u0 u1 u2 v0 v1 v2 ev) (fun _ t2 _ _ _=>(intOf t2).toNat)
 case atStart=>exact ⟨AI,BI,0,1,0,0,0,1,false,rfl,rfl,rfl,rfl,Bk.new w3 _ _,z.alloc _,u.alloc u.size _,Int.le_refl _,N.out⟩
 case round=>
  obtain ⟨a1,a2,u0,u1,u2,v0,v1,v2,ev,rfl,rfl,rfl,rfl,hC,hR,C,aj,hL⟩:=hrel;have n1:=hL.a2n;have n2:=hL.a21;have n3:=hL.v2n;have n4:=hL.v1n;have n5:=hL.u1n;have n6:=hL.u2n;have n7:=hL.u0n;have n8:=hL.v0n;have n9:=hL.b1;have R:=hL.b3;have S:=hL.b0;have T:=hL.b2;have e0:=hC.cellAt 0 rfl;have e1:=hC.cellAt 1 rfl;have e2:=hC.cellAt 2 rfl;have e3:=hC.cellAt 3 rfl;have e4:=hC.cellAt 4 rfl;have f0:=hC.frozen 0;have f1:=hC.frozen 1;have f2:=hC.frozen 2;have f3:=hC.frozen 3;have f4:=hC.frozen 4;have HL:=JZ hL;clear hL;have U:(decide (v2≤a2)=false∧decide (v2≤a2)=false)∨(v2≤a2∧a1 - a2 < v1+v2)∨(v2≤a2∧v1+v2≤a1 - a2):=by
   rcases Int.lt_or_le a2 v2 with c1 | c1
   ·left;simp;omega
   ·right;rcases Int.lt_or_le (a1 - a2) (v1+v2) with c2 | c2
    ·left;exact ⟨c1,c2⟩
    ·right;exact ⟨c1,c2⟩
  have v:v2≤a2→v1+v2≤18446744073709551615:=fun c1=>by
   obtain ⟨r1,r2,r3,r4,r5⟩:=HL.out.room c1;have:1 * v2≤a1 / a2 * v2:=Int.mul_le_mul_of_nonneg_right r5 (by omega);have:=O.out;omega
  have l:w.heap.size≠w3.heap.size:=by have:=z.lt;omega
  have b:=z.lt;rcases U with ⟨c1,_⟩ | ⟨c1,c2⟩ | ⟨c1,c2⟩
  ·have g0:=hR.cellAt 0 rfl;have g1:=hR.cellAt 1 rfl;have g2:=hR.cellAt 2 rfl;have g3:=hR.cellAt 3 rfl;have g4:=hR.cellAt 4 rfl;have k0:=hR.frozen 0;have k1:=hR.frozen 1;have k2:=hR.frozen 2;have k3:=hR.frozen 3;have k4:=hR.frozen 4;go_wp2;refine Zp Tryz.results163 Tryz.underlying184 (by kernel_rfl) rfl (((((hR.set_ 0 _).set_ 1 _).set_ 2 _).set_ 3 _).set_ 4 _) rfl ?_;exact ⟨u0,u1,v0,v1,ev,rfl,n7,S,n5,n9,n8,T,n4,R,fun h=>HL.out.cof h,((((C.setCell (JY _) _).setCell (JY _) _).setCell (JY _) _).setCell (JY _) _).setCell (JY _) _⟩
  ·have ac:=v c1;have ag:decide (v1+v2≤a1 - a2)=false:=(by simp;omega);have g0:=hR.cellAt 0 rfl;have g1:=hR.cellAt 1 rfl;have g2:=hR.cellAt 2 rfl;have g3:=hR.cellAt 3 rfl;have g4:=hR.cellAt 4 rfl;have k0:=hR.frozen 0;have k1:=hR.frozen 1;have k2:=hR.frozen 2;have k3:=hR.frozen 3;have k4:=hR.frozen 4;go_wp2;refine Zp Tryz.results163 Tryz.underlying184 (by kernel_rfl) rfl (((((hR.set_ 0 _).set_ 1 _).set_ 2 _).set_ 3 _).set_ 4 _) rfl ?_;exact ⟨u0,u1,v0,v1,ev,rfl,n7,S,n5,n9,n8,T,n4,R,fun h=>HL.out.cof h,((((C.setCell (JY _) _).setCell (JY _) _).setCell (JY _) _).setCell (JY _) _).setCell (JY _) _⟩
  ·have ac:=v c1;obtain ⟨r1,r2,r3,r4,r5⟩:=HL.out.room c1;have n:=aa.out _ _ _ _ _ _ _ _ _ HL.out c1 c2;have HN:=JZ n;have m0:=n.a2n;have m1:a1 % a2 < a2:=Int.emod_lt_of_pos _ (by omega);have hA:=O.out;have d1:a1 / a2≤a1:=Int.ediv_le_self _ (by omega);have q0:¬a2=0:=(by omega);have q2:a1.tmod a2=a1 % a2:=Int.tmod_eq_emod_of_nonneg (by omega);have q3:IntKind.u64.wrap (a1 % a2)=a1 % a2:=u64_in _ m0 (by omega);rw [← hA] at r1 r2;clear n hA;go_wp2
   go_quiet (fail)
   clear q0 q2 q3;go_wp2;go_roundw
   case rel=>
    refine ⟨a2,a1 % a2,u1,u2,_,v1,v2,_,!ev,rfl,rfl,rfl,rfl,?_,?_,?_,by omega,HN.out⟩
    ·exact ((((((hC.drewN nq).set_ 0 _).set_ 1 _).set_ 2 _).set_ 3 _).set_ 4 _)
    ·exact ((((((hR.drewN nq).far l _).far l _).far l _).far l _).far l _)
    ·have hb:=below_drewN C nq;exact ((((hb.setCell (Nat.le_of_lt b) _).setCell (Nat.le_of_lt b) _).setCell (Nat.le_of_lt b) _).setCell (Nat.le_of_lt b) _).setCell (Nat.le_of_lt b) _
   case measure=>simp [intOf];omega
theorem Yec {X Y u0 u1 v0 v1 R0 R1:Nat} (h:Cof X Y u0 u1 v0 v1 true R0 R1):(u0:Int) * X - (v0:Int) * Y=R0∧(v1:Int) * Y - (u1:Int) * X=R1:=by
 have a:=h.e0;have b:=h.e1;simp only [if_true] at a b;rw [Int.mul_comm (u0:Int),Int.mul_comm (v0:Int),Int.mul_comm (v1:Int),Int.mul_comm (u1:Int),← Int.natCast_mul,← Int.natCast_mul,← Int.natCast_mul,← Int.natCast_mul];omega
theorem Yis {X Y u0 u1 v0 v1 R0 R1:Nat} (h:Cof X Y u0 u1 v0 v1 false R0 R1):(v0:Int) * Y - (u0:Int) * X=R0∧(u1:Int) * X - (v1:Int) * Y=R1:=by
 have a:=h.e0;have b:=h.e1;simp only [Bool.false_eq_true,if_false] at a b;rw [Int.mul_comm (u0:Int),Int.mul_comm (v0:Int),Int.mul_comm (v1:Int),Int.mul_comm (u1:Int),← Int.natCast_mul,← Int.natCast_mul,← Int.natCast_mul,← Int.natCast_mul];omega
theorem Uh (v1 v2:Value) (X Y:Nat) (u v:Int) (R:Nat) (w:World) (h1:Z6 w v1 (Zq X)) (h2:Z6 w v2 (Zq Y)) (u0:0≤u) (u1:u≤4294967295) (w0:0≤v) (w1:v≤4294967295) (hs:(Zq X).length≤549755813888) (hs2:(Zq Y).length≤549755813888)
 (hR:u * X - v * Y=(R:Int)) (hlt:R≤X∨R≤Y):
 Calls Tryz.prog 164 #[v1,.int .u64 u,v2,.int .u64 v] w fun e w'=>∃v',e= .returned v'∧Z6 w' v' (Zq R)∧Below w.heap.size w w':=by
 have hX:=Yz X;have hY:=Yz Y;rcases JX (Zq X).length (Zq Y).length with h | h
 ·have:=Nat.pow_le_pow_right B32_pos (Nat.le_of_lt h);exact Zwf v1 v2 (Zq X) (Zq Y) u v R w h1 h2 h u0 u1 w0 w1 hs2 (by rw [Zm,Zm];exact hR) (by omega)
 ·have:=Nat.pow_le_pow_right B32_pos h;exact Zwg v1 v2 (Zq X) (Zq Y) u v R w h1 h2 h u0 u1 w0 w1 hs (by rw [Zm,Zm];exact hR) (by omega)
def Ylr (G:Nat) (w:World) (Y:Nat) (v1 v2:Value) (wr:World):Prop:=
 ∃X:Nat,Z6 wr v1 (Zq X)∧Z6 wr v2 (Zq Y)∧Y≤X∧Nat.gcd X Y=G∧(Zq X).length≤549755813888∧Below w.heap.size w wr
theorem Zwh (v1 v2:Value) (X Y:Nat) (w:World) (h1:Z6 w v1 (Zq X)) (h2:Z6 w v2 (Zq Y)) (hs:(Zq X).length≤549755813888) (hs2:(Zq Y).length≤549755813888):
 Calls Tryz.prog 149 #[v1,v2] w fun e w'=>∃v',e= .returned v'∧Z6 w' v' (Zq (Nat.gcd X Y))∧Below w.heap.size w w':=by
 generalize hG:Nat.gcd X Y=G;have HG:=JZ hG;clear hG;go_enter Tryz.func149,Tryz.ntmps149;go_wp2_with fail;refine (Yq _ _ X Y _ h1 h2).mono ?_;rintro e w1 ⟨rfl,q⟩;have g1:=h1.below q;have g2:=h2.below q;have start:(Y≤X∧0≤cmpN X Y)∨(X≤Y∧cmpN X Y < 0):=by
  rcases Nat.lt_trichotomy X Y with h | h | h
  ·right;exact ⟨by omega,by rw [UQ h];decide⟩
  ·left;exact ⟨by omega,by rw [Zra h];decide⟩
  ·left;exact ⟨by omega,by rw [Zhd h];decide⟩
 generalize cmpN X Y=cc at *
 go_upto_if 15 with (fail)
 go_cut [0,1] (fun s0 s1 wx=>∃n,Ylr G w n s0 s1 wx)
 case first=>
  rcases start with ⟨z,hc⟩ | ⟨z,hc⟩
  ·go_wp2_with fail
   go_meet
   exact ⟨Y,X,g1,g2,z,HG.out,hs,q⟩
  ·go_wp2_with fail
   go_meet
   exact ⟨X,Y,g2,g1,z,by rw [Nat.gcd_comm];exact HG.out,hs2,q⟩
 case rest=>
  obtain ⟨n0,ab⟩:=hcut;have ad:=JZ ab;clear ab h1 h2 g1 g2 start HG hs hs2 q;go_wp2_with fail
  go_loopg [0,1] n0 (fun k s0 s1 wr=>Ylr G w k s0 s1 wr)
  case atStart=>exact ad.out
  case round=>
   obtain ⟨X',hx,hy,z,N,o,j⟩:=hrel;have p:=JZ N;clear N;obtain ⟨A,l,c,rfl⟩:=hx.shape;obtain ⟨hl,aj,ak,hc⟩:=hx.len;obtain ⟨A2,l2,c2,rfl⟩:=hy.shape;obtain ⟨kl,al,am,kc⟩:=hy.len;have ah:=Zy z;rcases JX 2 l2 with h2 | h2
   ·go_wp2_with fail;refine (Zls _ _ X' gk (l - 3) _ hx hy (by omega) z (by omega)).mono ?_;rintro e w2 ⟨u0,u1,v0,v1,ev,rfl,a0,a1,b0,b1,c0,c1,d0,d1,O,i⟩;have B:=JZ O;clear O;have C:=hx.below i;have y:=hy.below i;have d:(Zq gk).length≤549755813888:=(by omega);have I:True:=trivial;by_cases a7:v0=0
    ·subst a7;have f:0 < gk:=by
      rcases JV gk with e | e
      ·subst e;rw [digs_zero] at kl;simp at kl;omega
      ·exact e
     go_wp2_with fail;refine (Zeq _ _ X' gk _ (C.below ((JR _ _).alloc (JY _) _)) (y.below ((JR _ _).alloc (JY _) _)) f o d).mono ?_;rintro e w3 ⟨qv,rv,rfl,hq,hr,g⟩;have a8:Below w2.heap.size w2 w3:=((JR _ _).alloc (JY _) _).trans (g.mono (by simp));have a9:=j.trans (i.mono j.size);have ae:=a9.trans (a8.mono a9.size);have af:=y.below a8;clear g;go_wp2_with fail
     go_roundg (X' % gk)
     case measure=>exact Nat.mod_lt _ f
     case rel=>exact ⟨gk,af,hr,Nat.le_of_lt (Nat.mod_lt _ f),by rw [← p.out,Nat.gcd_comm X' gk,Nat.gcd_rec gk X',Nat.gcd_comm],d,ae⟩
    ·have ai:(v0==0)=false:=(by simpa using a7);obtain ⟨R0,R1,hC⟩:=B.out a7
     cases ev with
     | true=>
      have HC:=JZ hC;obtain ⟨s,t⟩:=Yec hC;simp only [Int.toNat_of_nonneg a0,Int.toNat_of_nonneg b0,Int.toNat_of_nonneg c0,Int.toNat_of_nonneg d0] at s t;have P:=JZ s;have R:=JZ t;clear hC s t B;go_wp2_with fail;have m:=Bk.new w2 184 [.int .u64 u0,.int .u64 u1,.int .u64 v0,.int .u64 v1,.bool true];have hW:Below w2.heap.size w2 (w2.alloc (.cells #[.int .u64 u0,.int .u64 u1,.int .u64 v0,.int .u64 v1,.bool true] 184)):=(JR _ _).alloc (JY _) _;have D:=C.below hW;have r:=y.below hW;have g:=(j.trans (i.mono j.size)).trans (hW.mono (JW j.size i.size));have q0:=m.cellAt 0 rfl;have q1:=m.cellAt 1 rfl;have q2:=m.cellAt 2 rfl;have q3:=m.cellAt 3 rfl;generalize w2.heap.size=B2 at *;simp only [List.toArray] at m;generalize w2.alloc (.cells #[.int .u64 u0,.int .u64 u1,.int .u64 v0,.int .u64 v1,.bool true] 184)=W at *;clear hW m C y i
      go_region_held3 (fun w'=>w'.cell? ⟨B2,0,none⟩=some (.int .u64 u0)∧w'.cell? ⟨B2,1,none⟩=some (.int .u64 u1)∧w'.cell? ⟨B2,2,none⟩=some (.int .u64 v0)∧w'.cell? ⟨B2,3,none⟩=some (.int .u64 v1))
       (first | exact ⟨q0,q1,q2,q3⟩ | exact ⟨cell_later a q0,cell_later a q1,cell_later a q2,cell_later a q3⟩ | exact ⟨cell_later b (cell_later a q0),cell_later b (cell_later a q1),cell_later b (cell_later a q2),cell_later b (cell_later a q3)⟩)
       (first | (go_at_call 164;have _t:=I;refine (Uh _ _ X' gk u0 v0 R0 _ (D.keep (ZG.drew _)) (r.keep (ZG.drew _)) a0 a1 c0 c1 o d P.out (.inr HC.out.le)).mono ?_;clear I _t;rintro e w4 ⟨v4,rfl,a4,a⟩) | (go_at_call 164;refine (Uh _ _ gk X' v1 u1 R1 _ (r.keep ((ZG.drew _).trans (ZG.of_below a))) (D.keep ((ZG.drew _).trans (ZG.of_below a))) d0 d1 b0 b1 d o R.out (.inl (by have:=HC.out.le;have:=HC.out.lt;omega))).mono ?_;rintro e w5 ⟨v5,rfl,a5,b⟩))
      go_wp2_with fail
      go_roundg R1
      case measure=>have:=HC.out.le;have:=HC.out.lt;omega
      case rel=>exact ⟨R0,a4.below b,a5,Nat.le_of_lt HC.out.lt,by rw [HC.out.gcd];exact p.out,JW (Zy HC.out.le) d,g.trans (((VZ a).trans (b.mono a.size)).mono g.size)⟩
     | false=>
      have HC:=JZ hC;obtain ⟨s,t⟩:=Yis hC;simp only [Int.toNat_of_nonneg a0,Int.toNat_of_nonneg b0,Int.toNat_of_nonneg c0,Int.toNat_of_nonneg d0] at s t;have P:=JZ s;have R:=JZ t;clear hC s t B;go_wp2_with fail;have m:=Bk.new w2 184 [.int .u64 u0,.int .u64 u1,.int .u64 v0,.int .u64 v1,.bool false];have hW:Below w2.heap.size w2 (w2.alloc (.cells #[.int .u64 u0,.int .u64 u1,.int .u64 v0,.int .u64 v1,.bool false] 184)):=(JR _ _).alloc (JY _) _;have D:=C.below hW;have r:=y.below hW;have g:=(j.trans (i.mono j.size)).trans (hW.mono (JW j.size i.size));have q0:=m.cellAt 0 rfl;have q1:=m.cellAt 1 rfl;have q2:=m.cellAt 2 rfl;have q3:=m.cellAt 3 rfl;generalize w2.heap.size=B2 at *;simp only [List.toArray] at m;generalize w2.alloc (.cells #[.int .u64 u0,.int .u64 u1,.int .u64 v0,.int .u64 v1,.bool false] 184)=W at *;clear hW m C y i
      go_region_held3 (fun w'=>w'.cell? ⟨B2,0,none⟩=some (.int .u64 u0)∧w'.cell? ⟨B2,1,none⟩=some (.int .u64 u1)∧w'.cell? ⟨B2,2,none⟩=some (.int .u64 v0)∧w'.cell? ⟨B2,3,none⟩=some (.int .u64 v1))
       (first | exact ⟨q0,q1,q2,q3⟩ | exact ⟨cell_later a q0,cell_later a q1,cell_later a q2,cell_later a q3⟩ | exact ⟨cell_later b (cell_later a q0),cell_later b (cell_later a q1),cell_later b (cell_later a q2),cell_later b (cell_later a q3)⟩)
       (first | (go_at_call 164;have _t:=I;refine (Uh _ _ gk X' v0 u0 R0 _ (r.keep (ZG.drew _)) (D.keep (ZG.drew _)) c0 c1 a0 a1 d o P.out (.inl HC.out.le)).mono ?_;clear I _t;rintro e w4 ⟨v4,rfl,a4,a⟩) | (go_at_call 164;refine (Uh _ _ X' gk u1 v1 R1 _ (D.keep ((ZG.drew _).trans (ZG.of_below a))) (r.keep ((ZG.drew _).trans (ZG.of_below a))) b0 b1 d0 d1 o d R.out (.inr (by have:=HC.out.le;have:=HC.out.lt;omega))).mono ?_;rintro e w5 ⟨v5,rfl,a5,b⟩))
      go_wp2_with fail
      go_roundg R1
      case measure=>have:=HC.out.le;have:=HC.out.lt;omega
      case rel=>exact ⟨R0,a4.below b,a5,Nat.le_of_lt HC.out.lt,by rw [HC.out.gcd];exact p.out,JW (Zy HC.out.le) d,g.trans (((VZ a).trans (b.mono a.size)).mono g.size)⟩
   ·rcases JV l2 with h0 | h0
    ·obtain rfl:l2=0:=h0;have ag:gk=0:=Zqz.1 (List.length_eq_zero_iff.1 (by omega));go_wp2_with fail;refine (Zcu _ (Zq X') _ hx (by omega)).mono ?_;rintro e w2 ⟨v',rfl,ac,i⟩;go_wp2;go_ret;refine ⟨_,rfl,?_,j.trans (i.mono j.size)⟩;rw [← p.out,ag,Nat.gcd_zero_right];exact VU ac (Yj X')
    ·have t1:((l2:Int)==0)=false:=(by simp;omega);have f:0 < gk:=by
      rcases JV gk with e | e
      ·subst e;rw [digs_zero] at kl;simp at kl;omega
      ·exact e
     have J:gk < B32 * B32:=Zcw (by omega);rcases JX 2 l with hl2 | hl2
     ·go_wp2_with fail;refine (Zeq _ _ X' gk _ hx hy f o (by omega)).mono ?_;rintro e w3 ⟨qv,rv,rfl,hq,hr,g⟩;have r:=hy.below g;have aa:X' % gk < B32 * B32:=(by have:=Nat.mod_lt X' f;omega);go_wp2_with fail;refine (Vi _ gk _ r J).mono ?_;rintro e w4 ⟨rfl,a⟩;obtain ⟨za,u⟩:∃za:Int,za=(gk:Int):=⟨_,rfl⟩;have S:0≤za:=(by omega);have T:za≤18446744073709551615:=(by unfold B32 at J;omega);rw [← u];have K:=JZ u;clear u;go_wp2_with fail;refine (Vi _ (X' % gk) _ (hr.below a) aa).mono ?_;rintro e w5 ⟨rfl,b⟩;obtain ⟨zb,v⟩:∃zb:Int,zb=((X' % gk:Nat):Int):=⟨_,rfl⟩;have U:0≤zb:=(by omega);have V:zb≤18446744073709551615:=(by unfold B32 at aa;omega);rw [← v];have L:=JZ v;clear v;go_wp2_with fail;refine (Zhh za zb _ S T U V).mono ?_;rintro e w6 ⟨rfl,F⟩;obtain ⟨zg,x⟩:∃zg:Int,zg=((Nat.gcd za.toNat zb.toNat:Nat):Int):=⟨_,rfl⟩;have E:zg=(G:Int):=(by rw [x,K.out,L.out,JP,JP,← p.out,Nat.gcd_comm X' gk,Nat.gcd_rec gk X',Nat.gcd_comm]);have Z:0≤zg:=(by omega);have a2:zg≤18446744073709551615:=by
       have:Nat.gcd X' gk≤gk:=Nat.gcd_le_right _ f;have:=p.out;have:=K.out;omega
      rw [← x];have a3:=JZ E;clear x E;go_wp2_with fail;refine (Xd zg _ Z a2).mono ?_;rintro e w7 ⟨v7,rfl,a6,H⟩;go_wp2;go_ret;refine ⟨_,rfl,by rwa [a3.out,JP] at a6,?_⟩;have b3:=j.trans (g.mono j.size);have b4:=b3.trans (a.mono b3.size);have b5:=b4.trans (b.mono b4.size);have b6:=b5.trans (F.mono b5.size);exact b6.trans (H.mono b6.size)
     ·have M:X' < B32 * B32:=Zcw (by omega);go_wp2_with fail;refine (Vi _ X' _ hx M).mono ?_;rintro e w4 ⟨rfl,a⟩;obtain ⟨za,u⟩:∃za:Int,za=(X':Int):=⟨_,rfl⟩;have S:0≤za:=(by omega);have T:za≤18446744073709551615:=(by unfold B32 at M;omega);rw [← u];have K:=JZ u;clear u;go_wp2_with fail;refine (Vi _ gk _ (hy.below a) J).mono ?_;rintro e w5 ⟨rfl,b⟩;obtain ⟨zb,v⟩:∃zb:Int,zb=(gk:Int):=⟨_,rfl⟩;have U:0≤zb:=(by omega);have V:zb≤18446744073709551615:=(by unfold B32 at J;omega);rw [← v];have L:=JZ v;clear v;go_wp2_with fail;refine (Zhh za zb _ S T U V).mono ?_;rintro e w6 ⟨rfl,F⟩;obtain ⟨zg,x⟩:∃zg:Int,zg=((Nat.gcd za.toNat zb.toNat:Nat):Int):=⟨_,rfl⟩;have E:zg=(G:Int):=(by rw [x,K.out,L.out,JP,JP,← p.out]);have Z:0≤zg:=(by omega);have a2:zg≤18446744073709551615:=by
       have:Nat.gcd X' gk≤gk:=Nat.gcd_le_right _ f;have:=p.out;have:=L.out;omega
      rw [← x];have a3:=JZ E;clear x E;go_wp2_with fail;refine (Xd zg _ Z a2).mono ?_;rintro e w7 ⟨v7,rfl,a6,H⟩;go_wp2;go_ret;refine ⟨_,rfl,by rwa [a3.out,JP] at a6,?_⟩;have b4:=j.trans (a.mono j.size);have b5:=b4.trans (b.mono b4.size);have b6:=b5.trans (F.mono b5.size);exact b6.trans (H.mono b6.size)
theorem WT {P:Program} {fn:Func} {R:Ending→World→Prop} {a:Act} {w:World} {p q u:Tmp} {ty ty':TypeId} {g g':Nat} {t t':TypeId} {cs cs':List Value} {fs fs':Array Field} (hres:fn.results=#[.cell p ty,.cell q ty',.tmp u]) (hu:P.underlying ty=some (.struct fs)) (hu':P.underlying ty'=some (.struct fs')) (hi:(P.info? ty).map (·.size)=some cs.length) (hi':(P.info? ty').map (·.size)=some cs'.length)
 (hp:a.tmps.getD p undef= .pointer (some ⟨g,0,none⟩)) (hq:a.tmps.getD q undef= .pointer (some ⟨g',0,none⟩)) (hB:Bk w g t cs) (hB':Bk w g' t' cs') (hd:a.defers=[]) (hR:R (.returned (.tuple #[.agg cs.toArray,.agg cs'.toArray,a.tmps.getD u undef])) w):bodyPost P fn R .ret a w:=by
 refine bodyPost_ret (v:= .tuple #[.agg cs.toArray,.agg cs'.toArray,a.tmps.getD u undef]) ?_ hd hR;have b:a.tmps[p]?.getD undef= .pointer (some ⟨g,0,none⟩):=by simpa using hp
 have c:a.tmps[q]?.getD undef= .pointer (some ⟨g',0,none⟩):=by simpa using hq
 simp [results,hres,b,c,asAddr,Sem.run_bind,Result.andThen,run_loadVar_row w g t ty cs.toArray (0,0) _ hB hu rfl (by simpa using hi),run_loadVar_row w g' t' ty' cs'.toArray (0,0) _ hB' hu' rfl (by simpa using hi')]
theorem Zzn {P:Program} {fn:Func} {R:Ending→World→Prop} {a:Act} {w:World} {p q:Tmp} {ty ty':TypeId} {g g':Nat} {t t':TypeId} {cs cs':List Value} {fs fs':Array Field} (hres:fn.results=#[.cell p ty,.cell q ty']) (hu:P.underlying ty=some (.struct fs)) (hu':P.underlying ty'=some (.struct fs')) (hi:(P.info? ty).map (·.size)=some cs.length) (hi':(P.info? ty').map (·.size)=some cs'.length)
 (hp:a.tmps.getD p undef= .pointer (some ⟨g,0,none⟩)) (hq:a.tmps.getD q undef= .pointer (some ⟨g',0,none⟩)) (hB:Bk w g t cs) (hB':Bk w g' t' cs') (hd:a.defers=[]) (hR:R (.returned (.tuple #[.agg cs.toArray,.agg cs'.toArray])) w):bodyPost P fn R .ret a w:=by
 refine bodyPost_ret (v:= .tuple #[.agg cs.toArray,.agg cs'.toArray]) ?_ hd hR;have b:a.tmps[p]?.getD undef= .pointer (some ⟨g,0,none⟩):=by simpa using hp
 have c:a.tmps[q]?.getD undef= .pointer (some ⟨g',0,none⟩):=by simpa using hq
 simp [results,hres,b,c,asAddr,Sem.run_bind,Result.andThen,run_loadVar_row w g t ty cs.toArray (0,0) _ hB hu rfl (by simpa using hi),run_loadVar_row w g' t' ty' cs'.toArray (0,0) _ hB' hu' rfl (by simpa using hi')]
theorem YX {P:Program} {fn:Func} {R:Ending→World→Prop} {a:Act} {w:World} {p u:Tmp} {ty:TypeId} {g:Nat} {t:TypeId} {cs:List Value} {fs:Array Field} (hres:fn.results=#[.cell p ty,.tmp u]) (hu:P.underlying ty=some (.struct fs)) (hi:(P.info? ty).map (·.size)=some cs.length)
 (hp:a.tmps.getD p undef= .pointer (some ⟨g,0,none⟩)) (hB:Bk w g t cs) (hd:a.defers=[]) (hR:R (.returned (.tuple #[.agg cs.toArray,a.tmps.getD u undef])) w):bodyPost P fn R .ret a w:=by
 refine bodyPost_ret (v:= .tuple #[.agg cs.toArray,a.tmps.getD u undef]) ?_ hd hR;have b:a.tmps[p]?.getD undef= .pointer (some ⟨g,0,none⟩):=by simpa using hp
 simp [results,hres,b,asAddr,Sem.run_bind,Result.andThen,run_loadVar_row w g t ty cs.toArray (0,0) _ hB hu rfl (by simpa using hi)]
namespace Pl
theorem Yhb (a b:Bool) (X Y:Nat):sm (a !=b) (X * Y)=sm a X * sm b Y:=by cases a <;> cases b <;> simp [sm,Int.neg_mul,Int.mul_neg]
end Pl
theorem XR (v1 v2:Value) (a b:RI) (w:World) (h1:Yv w v1 a) (h2:Yv w v2 b) (hs:(Zq (val a.ds)).length+(Zq (val b.ds)).length≤1099511627776):
 Calls Tryz.prog 93 #[v1,v2] w fun e w'=>∃v',e= .returned v'∧Yv w' v' (canI (a.z * b.z))∧Below w.heap.size w w':=by
 obtain ⟨A,n,c,rfl,hd⟩:=h1.shape;obtain ⟨A',n',c',rfl,m⟩:=h2.shape;obtain ⟨j,ds⟩:=a;obtain ⟨g,o⟩:=b;simp only at hd hs m ⊢;obtain ⟨W,hW,hX,i,hR,h⟩:=Ygz w (.bool j) (.slice A n c) (.bool g) (.slice A' n' c');have p:=hd.below h;have k:=m.below h;have l:True:=trivial;go_enter Tryz.func93,Tryz.ntmps93;go_wp2_with fail;clear hW
 go_region_held3 (fun w'=>(w'.cell? ⟨w.heap.size,0,none⟩=some (.bool j)∧w'.cell? ⟨w.heap.size,1,none⟩=some (.slice A n c))∧(w'.cell? ⟨w.heap.size+1,0,none⟩=some (.bool g)∧w'.cell? ⟨w.heap.size+1,1,none⟩=some (.slice A' n' c')))
  (first | exact ⟨hX.pair,i.pair⟩ | exact ⟨(hX.drew.later d).pair,(i.drew.later d).pair⟩ | exact ⟨((hX.drew.later d).later f).pair,((i.drew.later d).later f).pair⟩ | exact ⟨((hX.drew.later d).later f).two_far (by omega) _ _,((i.drew.later d).later f).two_far (by omega) _ _⟩)
  (first
   | (go_at_call 131;have _t:=l;refine (Yg _ ds _ (p.keep (ZG.drew _))).mono ?_;clear l _t;rintro e w1 ⟨v1,rfl,e1,rfl⟩)
   | (go_at_call 131;refine (Yg _ o _ (k.keep (ZG.drew _))).mono ?_;rintro e w1 ⟨v2,rfl,e2,rfl⟩)
   | (go_at_call 136;refine (Zwa _ _ (Zq (val ds)) (Zq (val o)) _ e1 e2 hs).mono ?_;rw [Zm,Zm];rintro e w2 ⟨v3,rfl,h3,d⟩)
   | (go_at_call 125;refine (Yo (j !=g) _ _ _ h3).mono ?_;rintro e w3 ⟨v4,rfl,h4,f⟩;obtain ⟨A3,n3,k3,rfl,_⟩:=h4.shape;obtain ⟨c0,c1,f0,f1⟩:=((hR.drew.later d).later f).two))
 go_wp2;refine Zp Tryz.results93 Tryz.underlying44 (by kernel_rfl) rfl (((hR.drew.later d).later f).set2 _ _) rfl ?_;rw [RI.z_eq,RI.z_eq,← Yhb];exact Y9 ((hR.drew.later d).later f) h4 (Za (Za h.drew d h.size) f (JW h.size d.size)) (by omega)
theorem Yed (v1 v2:Value) (a b:RI) (w:World) (h1:Yv w v1 a) (h2:Yv w v2 b) (hs:(Zq (val a.ds)).length≤549755813888) (hs2:(Zq (val b.ds)).length≤549755813888):
 Calls Tryz.prog 128 #[v1,v2] w fun e w'=>∃v',e= .returned v'∧Yv w' v' (canI (Int.gcd a.z b.z:Nat))∧Below w.heap.size w w':=by
 obtain ⟨A,n,c,rfl,hd⟩:=h1.shape;obtain ⟨A',n',c',rfl,l⟩:=h2.shape;obtain ⟨m,ds⟩:=a;obtain ⟨i,o⟩:=b;simp only at hd hs l hs2 ⊢;obtain ⟨W,hW,hX,h,hR,g⟩:=Ygz w (.bool m) (.slice A n c) (.bool i) (.slice A' n' c');have p:=hd.below g;have j:=l.below g;have k:True:=trivial;go_enter Tryz.func128,Tryz.ntmps128;go_wp2_with fail;clear hW
 go_region_held3 (fun w'=>(w'.cell? ⟨w.heap.size,0,none⟩=some (.bool m)∧w'.cell? ⟨w.heap.size,1,none⟩=some (.slice A n c))∧(w'.cell? ⟨w.heap.size+1,0,none⟩=some (.bool i)∧w'.cell? ⟨w.heap.size+1,1,none⟩=some (.slice A' n' c')))
  (first | exact ⟨hX.pair,h.pair⟩ | exact ⟨(hX.drew.later d).pair,(h.drew.later d).pair⟩ | exact ⟨((hX.drew.later d).later f).pair,((h.drew.later d).later f).pair⟩ | exact ⟨((hX.drew.later d).later f).two_far (by omega) _ _,((h.drew.later d).later f).two_far (by omega) _ _⟩)
  (first
   | (go_at_call 131;have _t:=k;refine (Yg _ ds _ (p.keep (ZG.drew _))).mono ?_;clear k _t;rintro e w1 ⟨v1,rfl,e1,rfl⟩)
   | (go_at_call 131;refine (Yg _ o _ (j.keep (ZG.drew _))).mono ?_;rintro e w1 ⟨v2,rfl,e2,rfl⟩)
   | (go_at_call 149;refine (Zwh _ _ (val ds) (val o) _ e1 e2 hs hs2).mono ?_;rintro e w2 ⟨v3,rfl,h3,d⟩)
   | (go_at_call 125;refine (Yo false _ _ _ h3).mono ?_;rintro e w3 ⟨v4,rfl,h4,f⟩;obtain ⟨A3,n3,k3,rfl,_⟩:=h4.shape;obtain ⟨c0,c1,f0,f1⟩:=((hR.drew.later d).later f).two))
 go_wp2;refine Zp Tryz.results128 Tryz.underlying44 (by kernel_rfl) rfl (((hR.drew.later d).later f).set2 _ _) rfl ?_;rw [Int.gcd,Z8,Z8];exact Y9 ((hR.drew.later d).later f) h4 (Za (Za g.drew d g.size) f (JW g.size d.size)) (by omega)
theorem Yhc (w:World) (x y x' y':Value):∃W,(((w.alloc (.cells #[x,y] 44)).alloc (.cells #[x',y'] 44)).alloc (.cells #[.bool false,.slice none 0 0] 44)).alloc (.cells #[.bool false,.slice none 0 0] 44)=W∧
 Bk W w.heap.size 44 [x,y]∧Bk W (w.heap.size+1) 44 [x',y']∧Bk W (w.heap.size+1+1) 44 [.bool false,.slice none 0 0]∧Bk W (w.heap.size+1+1+1) 44 [.bool false,.slice none 0 0]∧Below w.heap.size w W:=by
 obtain ⟨W,hW,h1,h2,h3,h4⟩:=Ygz w x y x' y';refine ⟨_,by rw [hW],h1.alloc _,h2.alloc _,h3.alloc _,?_,h4.alloc h4.size _⟩;have:=Bk.new W 44 [.bool false,.slice none 0 0]
 rwa [← hW,size_alloc,size_alloc,size_alloc,hW] at this
namespace Pl
theorem Zhj {a b q r:Int} (h:a=b * q+r) (hr:(0≤r∧r < b)∨(b < r∧r≤0)):a.fdiv b=q∧a.fmod b=r:=by
 have c:a.fdiv b=q:=by
  rcases hr with ⟨r0,r1⟩ | ⟨r0,r1⟩
  ·rw [Int.fdiv_eq_ediv_of_nonneg _ (by omega)];exact ((Int.ediv_emod_unique (by omega)).2 ⟨by omega,r0,r1⟩).1
  ·rw [← Int.neg_fdiv_neg,Int.fdiv_eq_ediv_of_nonneg _ (by omega)];refine ((Int.ediv_emod_unique (a:= -a) (b:= -b) (r:= -r) (q:=q) (by omega)).2 ⟨?_,by omega,by omega⟩).1;rw [h,Int.neg_mul];omega
 refine ⟨c,?_⟩;rw [Int.fmod_def,c];omega
theorem YB {a b:Bool} {X Y:Nat} (hY:0 < Y) (h:X % Y=0∨a=b):(sm a X).fdiv (sm b Y)=sm (a !=b) (X / Y)∧(sm a X).fmod (sm b Y)=sm b (X % Y):=by
 have e:=Nat.div_add_mod X Y;have l:=Nat.mod_lt X hY;generalize X / Y=q at *;generalize X % Y=r at *;have e':(Y:Int) * q+r=X:=by rw [← e];simp
 apply Zhj
 ·rw [sm,sm,sm,sm,← e'];rcases h with h | h
  ·subst h;cases a <;> cases b <;> simp [Int.neg_mul,Int.mul_neg]
  ·subst h;cases a <;> simp [Int.neg_mul];omega
 ·cases b <;> simp [sm] <;> omega
theorem Uj {a b:Bool} {X Y:Nat} (hY:0 < Y) (h:X % Y≠0) (hab:a≠b):(sm a X).fdiv (sm b Y)=sm (a !=b) (X / Y+1)∧(sm a X).fmod (sm b Y)=sm b (Y - X % Y):=by
 have e:=Nat.div_add_mod X Y;have l:=Nat.mod_lt X hY;generalize X / Y=q at *;generalize X % Y=r at *;have e':(Y:Int) * q+r=X:=by rw [← e];simp
 have e2:((Y - r:Nat):Int)=Y - r:=by omega
 apply Zhj
 ·rw [sm,sm,sm,sm,← e',e2]
  cases a <;> cases b <;> simp [Int.neg_mul,Int.mul_neg,Int.mul_add] at hab ⊢ <;> omega
 ·cases b <;> simp [sm] <;> omega
end Pl
theorem Bk.far2 {w:World} {g g':Nat} {t:TypeId} {cs:List Value} (h:Bk w g t cs) (hne:g≠g') (c d:Value):Bk ((w.setCell ⟨g',0,none⟩ c).setCell ⟨g',1,none⟩ d) g t cs:=
 (h.far (p:=⟨g',0,none⟩) hne c).far (p:=⟨g',1,none⟩) hne d
theorem Xz {w w4:World} {g g':Nat} {x y x' y' b s b' s':Value} {q r:RI} (hR:Bk w4 g 44 [x,y]) (hR':Bk w4 g' 44 [x',y']) (hne:g≠g') (dq:Yv w4 (.agg #[b,s]) q) (dr:Yv w4 (.agg #[b',s']) r) {m:Nat} (hbe:Below m w w4) (hg:m≤g) (hg':m≤g'):
 Bk ((((w4.setCell ⟨g,0,none⟩ b).setCell ⟨g,1,none⟩ s).setCell ⟨g',0,none⟩ b').setCell ⟨g',1,none⟩ s') g 44 [b,s]∧Bk ((((w4.setCell ⟨g,0,none⟩ b).setCell ⟨g,1,none⟩ s).setCell ⟨g',0,none⟩ b').setCell ⟨g',1,none⟩ s') g' 44 [b',s']∧
 Yv ((((w4.setCell ⟨g,0,none⟩ b).setCell ⟨g,1,none⟩ s).setCell ⟨g',0,none⟩ b').setCell ⟨g',1,none⟩ s') (.agg #[b,s]) q∧Yv ((((w4.setCell ⟨g,0,none⟩ b).setCell ⟨g,1,none⟩ s).setCell ⟨g',0,none⟩ b').setCell ⟨g',1,none⟩ s') (.agg #[b',s']) r∧Below m w ((((w4.setCell ⟨g,0,none⟩ b).setCell ⟨g,1,none⟩ s).setCell ⟨g',0,none⟩ b').setCell ⟨g',1,none⟩ s'):=by
 have h1:=hR.set2 b s;have h2:Bk ((w4.setCell ⟨g,0,none⟩ b).setCell ⟨g,1,none⟩ s) g' 44 [x',y']:=(hR'.far (p:=⟨g,0,none⟩) (Ne.symm hne) b).far (p:=⟨g,1,none⟩) (Ne.symm hne) s;have k1:=hR.keep2 (by decide) b s;have k2:=h2.keep2 (by decide) b' s';exact ⟨(h1.far (p:=⟨g',0,none⟩) hne b').far (p:=⟨g',1,none⟩) hne s',h2.set2 b' s',dq.keep (k1.trans k2),dr.keep (k1.trans k2),Yp (Yp hbe hg _ _) hg' _ _⟩
def Yiu (a b:RI) (w:World) (e:Ending) (w':World):Prop:=
 ∃q r,e= .returned (.tuple #[q,r,.int .i64 (if b.z=0 then 11 else 0)])∧Yv w' q (canI (if b.z=0 then 0 else a.z.fdiv b.z))∧Yv w' r (canI (if b.z=0 then 0 else a.z.fmod b.z))∧Below w.heap.size w w'
theorem Zhk (v1 v2:Value) (a b:RI) (w:World) (h1:Yv w v1 a) (h2:Yv w v2 b) (hs:(Zq (val a.ds)).length≤549755813888) (hs2:(Zq (val b.ds)).length≤549755813888):
 Calls Tryz.prog 129 #[v1,v2] w (Yiu a b w):=by
 obtain ⟨A,n,c,rfl,hd⟩:=h1.shape;obtain ⟨A',n',c',rfl,ab⟩:=h2.shape;obtain ⟨T,ds⟩:=a;obtain ⟨t,r⟩:=b;simp only at hd ab hs hs2 ⊢;obtain ⟨W,hW,hX,a7,hR,ac,U⟩:=Yhc w (.bool T) (.slice A n c) (.bool t) (.slice A' n' c');have a8:=hd.below U;have V:=ab.below U;have j:True:=trivial;go_enter Tryz.func129,Tryz.ntmps129;go_wp2_with fail;clear hW
 go_region_held3 (fun w'=>(w'.cell? ⟨w.heap.size,0,none⟩=some (.bool T)∧w'.cell? ⟨w.heap.size,1,none⟩=some (.slice A n c))∧(w'.cell? ⟨w.heap.size+1,0,none⟩=some (.bool t)∧w'.cell? ⟨w.heap.size+1,1,none⟩=some (.slice A' n' c')))
  (exact ⟨hX.pair,a7.pair⟩)
  (first
   | (go_at_call 131;have _t:=j;refine (Yg _ ds _ (a8.keep (ZG.drew _))).mono ?_;clear j _t;rintro e w1 ⟨v1,rfl,e1,rfl⟩)
   | (go_at_call 131;refine (Yg _ r _ (V.keep (ZG.drew _))).mono ?_;rintro e w1 ⟨v2,rfl,e2,rfl⟩))
 have a9:=hX.drew;have X:=a7.drew;have S:=hR.drew;have K:=ac.drew;have L:=U.drew;clear hX a7 U a8 V hR ac;generalize W.drew=W2 at *;obtain ⟨A1,n1,c1,rfl⟩:=e1.shape;obtain ⟨kl,P,ag,kc⟩:=e1.len;obtain ⟨A2,n2,c2,rfl⟩:=e2.shape;obtain ⟨jl,ad,ah,jc⟩:=e2.len;rcases JV n2 with h0 | h0
 ·have hy:val r=0:=Vb (by omega);have hz:RI.z ⟨t,r⟩=0:=by rw [RI.z_eq,hy,Zes]
  have HZ:=JZ hz;clear hy hz kl P jl ad;subst h0;obtain ⟨c0,c1,f0,f1⟩:=S.two;obtain ⟨F,G,H,I⟩:=K.two;go_wp2;obtain ⟨a1,a2,a3,a4,a5⟩:=Xz S K (by omega) (Yv.zero W2) (Yv.zero W2) L (by omega) (by omega);refine WT Tryz.results129 Tryz.underlying44 Tryz.underlying44 (by kernel_rfl) (by kernel_rfl) rfl rfl a1 a2 rfl ?_;exact ⟨_,_,by rw [if_pos HZ.out];rfl,by rw [if_pos HZ.out];exact a3,by rw [if_pos HZ.out];exact a4,a5⟩
 ·have hy:val r≠0:=UT (by omega);have hz:RI.z ⟨t,r⟩≠0:=by rw [RI.z_eq];cases t <;> simp [sm] <;> omega
  have HZ:=JZ hz;have HY:=JZ (Nat.pos_of_ne_zero hy);clear hy hz kl P jl ad;go_wp2_with fail;refine (Zeq _ _ (val ds) (val r) _ e1 e2 HY.out hs hs2).mono ?_;rintro e w3 ⟨qv,rv,rfl,dq,dr,J⟩;have h:=a9.later J;have g:=X.later J;have o:=S.later J;have l:=K.later J;have i:=Za L J L.size;have aa:=e2.below J;clear a9 X S K L J;obtain ⟨x0,x1,_,_⟩:=h.two;obtain ⟨ae,af,_,_⟩:=g.two;obtain ⟨A3,n3,c3,rfl⟩:=dr.shape;obtain ⟨kl,P,ag,kc⟩:=dr.len;have hq:(Zq (val ds / val r)).length≤549755813888:=JW (Zy (Nat.div_le_self _ _)) hs;have HQ:=JZ hq;have p:w.heap.size≠w.heap.size+1+1:=by omega
  have q:w.heap.size+1≠w.heap.size+1+1:=by omega
  have y:w.heap.size≠w.heap.size+1+1+1:=by omega
  have B:w.heap.size+1≠w.heap.size+1+1+1:=by omega
  clear hq;rcases JV n3 with h3 | h3
  ·have Z:=JZ (Vb (n:=val ds % val r) (by omega));subst h3;clear kl P h0
   cases T
   ·cases t
    ·go_wp2_with fail;have j:True:=trivial
     go_region_held3 (fun w'=>w'.cell? ⟨w.heap.size,0,none⟩=some (.bool false)∧w'.cell? ⟨w.heap.size+1,0,none⟩=some (.bool false))
      (first | with_reducible exact ⟨h.pair.1,g.pair.1⟩ | with_reducible exact ⟨h.drew.pair.1,g.drew.pair.1⟩ | with_reducible exact ⟨(h.drew.later d).pair.1,(g.drew.later d).pair.1⟩ | with_reducible exact ⟨((h.drew.later d).later f).pair.1,((g.drew.later d).later f).pair.1⟩ | with_reducible exact ⟨(((h.drew.later d).later f).two_far p _ _).1,(((g.drew.later d).later f).two_far q _ _).1⟩ | with_reducible exact ⟨((((h.drew.later d).later f).far2 p _ _).two_far y _ _).1,((((g.drew.later d).later f).far2 q _ _).two_far B _ _).1⟩)
      (first
       | (go_at_call 125;have _t:=j;refine (Yo _ _ _ _ (dq.keep (ZG.drew _))).mono ?_;clear j _t;rintro e w6 ⟨v6,rfl,e6,d⟩;obtain ⟨A6,n6,k6,rfl,_⟩:=e6.shape)
       | (go_at_call 125;refine (Yo _ _ _ _ ((dr.keep (ZG.drew _)).below d)).mono ?_;rintro e w7 ⟨v7,rfl,e7,f⟩;obtain ⟨A7,n7,k7,rfl,_⟩:=e7.shape;obtain ⟨c0,c1,f0,f1⟩:=((o.drew.later d).later f).two;obtain ⟨F,G,H,I⟩:=((l.drew.later d).later f).two))
     go_wp2;obtain ⟨a1,a2,a3,a4,a5⟩:=Xz ((o.drew.later d).later f) ((l.drew.later d).later f) (by omega) (e6.below f) e7 (Za (Za i.drew d i.size) f (JW i.size d.size)) (by omega) (by omega);refine WT Tryz.results129 Tryz.underlying44 Tryz.underlying44 (by kernel_rfl) (by kernel_rfl) rfl rfl a1 a2 rfl ?_;exact ⟨_,_,by rw [if_neg HZ.out];rfl,by rw [if_neg HZ.out,RI.z_eq,RI.z_eq,(YB HY.out (.inl Z.out)).1];exact a3,by rw [if_neg HZ.out,RI.z_eq,RI.z_eq,(YB HY.out (.inl Z.out)).2];exact a4,a5⟩
    ·go_wp2_with fail;have j:True:=trivial
     go_region_held3 (fun w'=>w'.cell? ⟨w.heap.size,0,none⟩=some (.bool false)∧w'.cell? ⟨w.heap.size+1,0,none⟩=some (.bool true))
      (first | with_reducible exact ⟨h.pair.1,g.pair.1⟩ | with_reducible exact ⟨h.drew.pair.1,g.drew.pair.1⟩ | with_reducible exact ⟨(h.drew.later d).pair.1,(g.drew.later d).pair.1⟩ | with_reducible exact ⟨((h.drew.later d).later f).pair.1,((g.drew.later d).later f).pair.1⟩ | with_reducible exact ⟨(((h.drew.later d).later f).two_far p _ _).1,(((g.drew.later d).later f).two_far q _ _).1⟩ | with_reducible exact ⟨((((h.drew.later d).later f).far2 p _ _).two_far y _ _).1,((((g.drew.later d).later f).far2 q _ _).two_far B _ _).1⟩)
      (first
       | (go_at_call 125;have _t:=j;refine (Yo _ _ _ _ (dq.keep (ZG.drew _))).mono ?_;clear j _t;rintro e w6 ⟨v6,rfl,e6,d⟩;obtain ⟨A6,n6,k6,rfl,_⟩:=e6.shape)
       | (go_at_call 125;refine (Yo _ _ _ _ ((dr.keep (ZG.drew _)).below d)).mono ?_;rintro e w7 ⟨v7,rfl,e7,f⟩;obtain ⟨A7,n7,k7,rfl,_⟩:=e7.shape;obtain ⟨c0,c1,f0,f1⟩:=((o.drew.later d).later f).two;obtain ⟨F,G,H,I⟩:=((l.drew.later d).later f).two))
     go_wp2;obtain ⟨a1,a2,a3,a4,a5⟩:=Xz ((o.drew.later d).later f) ((l.drew.later d).later f) (by omega) (e6.below f) e7 (Za (Za i.drew d i.size) f (JW i.size d.size)) (by omega) (by omega);refine WT Tryz.results129 Tryz.underlying44 Tryz.underlying44 (by kernel_rfl) (by kernel_rfl) rfl rfl a1 a2 rfl ?_;exact ⟨_,_,by rw [if_neg HZ.out];rfl,by rw [if_neg HZ.out,RI.z_eq,RI.z_eq,(YB HY.out (.inl Z.out)).1];exact a3,by rw [if_neg HZ.out,RI.z_eq,RI.z_eq,(YB HY.out (.inl Z.out)).2];exact a4,a5⟩
   ·cases t
    ·go_wp2_with fail;have j:True:=trivial
     go_region_held3 (fun w'=>w'.cell? ⟨w.heap.size,0,none⟩=some (.bool true)∧w'.cell? ⟨w.heap.size+1,0,none⟩=some (.bool false))
      (first | with_reducible exact ⟨h.pair.1,g.pair.1⟩ | with_reducible exact ⟨h.drew.pair.1,g.drew.pair.1⟩ | with_reducible exact ⟨(h.drew.later d).pair.1,(g.drew.later d).pair.1⟩ | with_reducible exact ⟨((h.drew.later d).later f).pair.1,((g.drew.later d).later f).pair.1⟩ | with_reducible exact ⟨(((h.drew.later d).later f).two_far p _ _).1,(((g.drew.later d).later f).two_far q _ _).1⟩ | with_reducible exact ⟨((((h.drew.later d).later f).far2 p _ _).two_far y _ _).1,((((g.drew.later d).later f).far2 q _ _).two_far B _ _).1⟩)
      (first
       | (go_at_call 125;have _t:=j;refine (Yo _ _ _ _ (dq.keep (ZG.drew _))).mono ?_;clear j _t;rintro e w6 ⟨v6,rfl,e6,d⟩;obtain ⟨A6,n6,k6,rfl,_⟩:=e6.shape)
       | (go_at_call 125;refine (Yo _ _ _ _ ((dr.keep (ZG.drew _)).below d)).mono ?_;rintro e w7 ⟨v7,rfl,e7,f⟩;obtain ⟨A7,n7,k7,rfl,_⟩:=e7.shape;obtain ⟨c0,c1,f0,f1⟩:=((o.drew.later d).later f).two;obtain ⟨F,G,H,I⟩:=((l.drew.later d).later f).two))
     go_wp2;obtain ⟨a1,a2,a3,a4,a5⟩:=Xz ((o.drew.later d).later f) ((l.drew.later d).later f) (by omega) (e6.below f) e7 (Za (Za i.drew d i.size) f (JW i.size d.size)) (by omega) (by omega);refine WT Tryz.results129 Tryz.underlying44 Tryz.underlying44 (by kernel_rfl) (by kernel_rfl) rfl rfl a1 a2 rfl ?_;exact ⟨_,_,by rw [if_neg HZ.out];rfl,by rw [if_neg HZ.out,RI.z_eq,RI.z_eq,(YB HY.out (.inl Z.out)).1];exact a3,by rw [if_neg HZ.out,RI.z_eq,RI.z_eq,(YB HY.out (.inl Z.out)).2];exact a4,a5⟩
    ·go_wp2_with fail;have j:True:=trivial
     go_region_held3 (fun w'=>w'.cell? ⟨w.heap.size,0,none⟩=some (.bool true)∧w'.cell? ⟨w.heap.size+1,0,none⟩=some (.bool true))
      (first | with_reducible exact ⟨h.pair.1,g.pair.1⟩ | with_reducible exact ⟨h.drew.pair.1,g.drew.pair.1⟩ | with_reducible exact ⟨(h.drew.later d).pair.1,(g.drew.later d).pair.1⟩ | with_reducible exact ⟨((h.drew.later d).later f).pair.1,((g.drew.later d).later f).pair.1⟩ | with_reducible exact ⟨(((h.drew.later d).later f).two_far p _ _).1,(((g.drew.later d).later f).two_far q _ _).1⟩ | with_reducible exact ⟨((((h.drew.later d).later f).far2 p _ _).two_far y _ _).1,((((g.drew.later d).later f).far2 q _ _).two_far B _ _).1⟩)
      (first
       | (go_at_call 125;have _t:=j;refine (Yo _ _ _ _ (dq.keep (ZG.drew _))).mono ?_;clear j _t;rintro e w6 ⟨v6,rfl,e6,d⟩;obtain ⟨A6,n6,k6,rfl,_⟩:=e6.shape)
       | (go_at_call 125;refine (Yo _ _ _ _ ((dr.keep (ZG.drew _)).below d)).mono ?_;rintro e w7 ⟨v7,rfl,e7,f⟩;obtain ⟨A7,n7,k7,rfl,_⟩:=e7.shape;obtain ⟨c0,c1,f0,f1⟩:=((o.drew.later d).later f).two;obtain ⟨F,G,H,I⟩:=((l.drew.later d).later f).two))
     go_wp2;obtain ⟨a1,a2,a3,a4,a5⟩:=Xz ((o.drew.later d).later f) ((l.drew.later d).later f) (by omega) (e6.below f) e7 (Za (Za i.drew d i.size) f (JW i.size d.size)) (by omega) (by omega);refine WT Tryz.results129 Tryz.underlying44 Tryz.underlying44 (by kernel_rfl) (by kernel_rfl) rfl rfl a1 a2 rfl ?_;exact ⟨_,_,by rw [if_neg HZ.out];rfl,by rw [if_neg HZ.out,RI.z_eq,RI.z_eq,(YB HY.out (.inl Z.out)).1];exact a3,by rw [if_neg HZ.out,RI.z_eq,RI.z_eq,(YB HY.out (.inl Z.out)).2];exact a4,a5⟩
  ·have Z:=JZ (UT (n:=val ds % val r) (by omega));clear kl P h0
   cases T
   ·cases t
    ·go_wp2_with fail;have j:True:=trivial
     go_region_held3 (fun w'=>w'.cell? ⟨w.heap.size,0,none⟩=some (.bool false)∧w'.cell? ⟨w.heap.size+1,0,none⟩=some (.bool false))
      (first | with_reducible exact ⟨h.pair.1,g.pair.1⟩ | with_reducible exact ⟨h.drew.pair.1,g.drew.pair.1⟩ | with_reducible exact ⟨(h.drew.later d).pair.1,(g.drew.later d).pair.1⟩ | with_reducible exact ⟨((h.drew.later d).later f).pair.1,((g.drew.later d).later f).pair.1⟩ | with_reducible exact ⟨(((h.drew.later d).later f).two_far p _ _).1,(((g.drew.later d).later f).two_far q _ _).1⟩ | with_reducible exact ⟨((((h.drew.later d).later f).far2 p _ _).two_far y _ _).1,((((g.drew.later d).later f).far2 q _ _).two_far B _ _).1⟩)
      (first
       | (go_at_call 125;have _t:=j;refine (Yo _ _ _ _ (dq.keep (ZG.drew _))).mono ?_;clear j _t;rintro e w6 ⟨v6,rfl,e6,d⟩;obtain ⟨A6,n6,k6,rfl,_⟩:=e6.shape)
       | (go_at_call 125;refine (Yo _ _ _ _ ((dr.keep (ZG.drew _)).below d)).mono ?_;rintro e w7 ⟨v7,rfl,e7,f⟩;obtain ⟨A7,n7,k7,rfl,_⟩:=e7.shape;obtain ⟨c0,c1,f0,f1⟩:=((o.drew.later d).later f).two;obtain ⟨F,G,H,I⟩:=((l.drew.later d).later f).two))
     go_wp2;obtain ⟨a1,a2,a3,a4,a5⟩:=Xz ((o.drew.later d).later f) ((l.drew.later d).later f) (by omega) (e6.below f) e7 (Za (Za i.drew d i.size) f (JW i.size d.size)) (by omega) (by omega);refine WT Tryz.results129 Tryz.underlying44 Tryz.underlying44 (by kernel_rfl) (by kernel_rfl) rfl rfl a1 a2 rfl ?_;exact ⟨_,_,by rw [if_neg HZ.out];rfl,by rw [if_neg HZ.out,RI.z_eq,RI.z_eq,(YB HY.out (.inr rfl)).1];exact a3,by rw [if_neg HZ.out,RI.z_eq,RI.z_eq,(YB HY.out (.inr rfl)).2];exact a4,a5⟩
    ·go_wp2_with fail;refine (Zeo _ _ (Zq (val ds / val r)) [1] _ (dq.below (Zi _ _)) (Y6.dig (Y6.new w3 [1]) (by simp [okD,B32]) (c:=1) (by simp) (by simp [maxLen])) HQ.out (by simp)).mono ?_;rw [Zm,show val [1]=1 from by simp [val]];rintro e w4 ⟨v4,rfl,e4,R⟩;have k:=Za (Zi w3 _) R (by simp);have M:=h.later k;have C:=g.later k;have N:=o.later k;have D:=l.later k;have v:=Za i k i.size;have Y:=dr.below k;have a0:=aa.below k;clear h g o l i k R x0 x1 ae af;go_wp2_with fail;refine (Zao _ _ (Zq (val r)) (Zq (val ds % val r)) _ a0 Y (by rw [Zm,Zm];exact Nat.le_of_lt (Nat.mod_lt _ HY.out)) (Zy (Nat.le_of_lt (Nat.mod_lt _ HY.out))) hs2).mono ?_;rw [Zm,Zm];rintro e w5 ⟨v5,rfl,e5,s⟩;have u:=M.later s;have m:=C.later s;have O:=N.later s;have E:=D.later s;have x:=Za v s v.size;have a6:=e4.below s;clear M C N D v s;go_wp2_with fail;have j:True:=trivial
     go_region_held3 (fun w'=>w'.cell? ⟨w.heap.size,0,none⟩=some (.bool false)∧w'.cell? ⟨w.heap.size+1,0,none⟩=some (.bool true))
      (first | with_reducible exact ⟨u.pair.1,m.pair.1⟩ | with_reducible exact ⟨u.drew.pair.1,m.drew.pair.1⟩ | with_reducible exact ⟨(u.drew.later d).pair.1,(m.drew.later d).pair.1⟩ | with_reducible exact ⟨((u.drew.later d).later f).pair.1,((m.drew.later d).later f).pair.1⟩ | with_reducible exact ⟨(((u.drew.later d).later f).two_far p _ _).1,(((m.drew.later d).later f).two_far q _ _).1⟩ | with_reducible exact ⟨((((u.drew.later d).later f).far2 p _ _).two_far y _ _).1,((((m.drew.later d).later f).far2 q _ _).two_far B _ _).1⟩)
      (first
       | (go_at_call 125;have _t:=j;refine (Yo _ _ _ _ (a6.keep (ZG.drew _))).mono ?_;clear j _t;rintro e w6 ⟨v6,rfl,e6,d⟩;obtain ⟨A6,n6,k6,rfl,_⟩:=e6.shape)
       | (go_at_call 125;refine (Yo _ _ _ _ ((e5.keep (ZG.drew _)).below d)).mono ?_;rintro e w7 ⟨v7,rfl,e7,f⟩;obtain ⟨A7,n7,k7,rfl,_⟩:=e7.shape;obtain ⟨c0,c1,f0,f1⟩:=((O.drew.later d).later f).two;obtain ⟨F,G,H,I⟩:=((E.drew.later d).later f).two))
     go_wp2;obtain ⟨a1,a2,a3,a4,a5⟩:=Xz ((O.drew.later d).later f) ((E.drew.later d).later f) (by omega) (e6.below f) e7 (Za (Za x.drew d x.size) f (JW x.size d.size)) (by omega) (by omega);refine WT Tryz.results129 Tryz.underlying44 Tryz.underlying44 (by kernel_rfl) (by kernel_rfl) rfl rfl a1 a2 rfl ?_;exact ⟨_,_,by rw [if_neg HZ.out];rfl,by rw [if_neg HZ.out,RI.z_eq,RI.z_eq,(Uj HY.out Z.out (by simp)).1];exact a3,by rw [if_neg HZ.out,RI.z_eq,RI.z_eq,(Uj HY.out Z.out (by simp)).2];exact a4,a5⟩
   ·cases t
    ·go_wp2_with fail;refine (Zeo _ _ (Zq (val ds / val r)) [1] _ (dq.below (Zi _ _)) (Y6.dig (Y6.new w3 [1]) (by simp [okD,B32]) (c:=1) (by simp) (by simp [maxLen])) HQ.out (by simp)).mono ?_;rw [Zm,show val [1]=1 from by simp [val]];rintro e w4 ⟨v4,rfl,e4,R⟩;have k:=Za (Zi w3 _) R (by simp);have M:=h.later k;have C:=g.later k;have N:=o.later k;have D:=l.later k;have v:=Za i k i.size;have Y:=dr.below k;have a0:=aa.below k;clear h g o l i k R x0 x1 ae af;go_wp2_with fail;refine (Zao _ _ (Zq (val r)) (Zq (val ds % val r)) _ a0 Y (by rw [Zm,Zm];exact Nat.le_of_lt (Nat.mod_lt _ HY.out)) (Zy (Nat.le_of_lt (Nat.mod_lt _ HY.out))) hs2).mono ?_;rw [Zm,Zm];rintro e w5 ⟨v5,rfl,e5,s⟩;have u:=M.later s;have m:=C.later s;have O:=N.later s;have E:=D.later s;have x:=Za v s v.size;have a6:=e4.below s;clear M C N D v s;go_wp2_with fail;have j:True:=trivial
     go_region_held3 (fun w'=>w'.cell? ⟨w.heap.size,0,none⟩=some (.bool true)∧w'.cell? ⟨w.heap.size+1,0,none⟩=some (.bool false))
      (first | with_reducible exact ⟨u.pair.1,m.pair.1⟩ | with_reducible exact ⟨u.drew.pair.1,m.drew.pair.1⟩ | with_reducible exact ⟨(u.drew.later d).pair.1,(m.drew.later d).pair.1⟩ | with_reducible exact ⟨((u.drew.later d).later f).pair.1,((m.drew.later d).later f).pair.1⟩ | with_reducible exact ⟨(((u.drew.later d).later f).two_far p _ _).1,(((m.drew.later d).later f).two_far q _ _).1⟩ | with_reducible exact ⟨((((u.drew.later d).later f).far2 p _ _).two_far y _ _).1,((((m.drew.later d).later f).far2 q _ _).two_far B _ _).1⟩)
      (first
       | (go_at_call 125;have _t:=j;refine (Yo _ _ _ _ (a6.keep (ZG.drew _))).mono ?_;clear j _t;rintro e w6 ⟨v6,rfl,e6,d⟩;obtain ⟨A6,n6,k6,rfl,_⟩:=e6.shape)
       | (go_at_call 125;refine (Yo _ _ _ _ ((e5.keep (ZG.drew _)).below d)).mono ?_;rintro e w7 ⟨v7,rfl,e7,f⟩;obtain ⟨A7,n7,k7,rfl,_⟩:=e7.shape;obtain ⟨c0,c1,f0,f1⟩:=((O.drew.later d).later f).two;obtain ⟨F,G,H,I⟩:=((E.drew.later d).later f).two))
     go_wp2;obtain ⟨a1,a2,a3,a4,a5⟩:=Xz ((O.drew.later d).later f) ((E.drew.later d).later f) (by omega) (e6.below f) e7 (Za (Za x.drew d x.size) f (JW x.size d.size)) (by omega) (by omega);refine WT Tryz.results129 Tryz.underlying44 Tryz.underlying44 (by kernel_rfl) (by kernel_rfl) rfl rfl a1 a2 rfl ?_;exact ⟨_,_,by rw [if_neg HZ.out];rfl,by rw [if_neg HZ.out,RI.z_eq,RI.z_eq,(Uj HY.out Z.out (by simp)).1];exact a3,by rw [if_neg HZ.out,RI.z_eq,RI.z_eq,(Uj HY.out Z.out (by simp)).2];exact a4,a5⟩
    ·go_wp2_with fail;have j:True:=trivial
     go_region_held3 (fun w'=>w'.cell? ⟨w.heap.size,0,none⟩=some (.bool true)∧w'.cell? ⟨w.heap.size+1,0,none⟩=some (.bool true))
      (first | with_reducible exact ⟨h.pair.1,g.pair.1⟩ | with_reducible exact ⟨h.drew.pair.1,g.drew.pair.1⟩ | with_reducible exact ⟨(h.drew.later d).pair.1,(g.drew.later d).pair.1⟩ | with_reducible exact ⟨((h.drew.later d).later f).pair.1,((g.drew.later d).later f).pair.1⟩ | with_reducible exact ⟨(((h.drew.later d).later f).two_far p _ _).1,(((g.drew.later d).later f).two_far q _ _).1⟩ | with_reducible exact ⟨((((h.drew.later d).later f).far2 p _ _).two_far y _ _).1,((((g.drew.later d).later f).far2 q _ _).two_far B _ _).1⟩)
      (first
       | (go_at_call 125;have _t:=j;refine (Yo _ _ _ _ (dq.keep (ZG.drew _))).mono ?_;clear j _t;rintro e w6 ⟨v6,rfl,e6,d⟩;obtain ⟨A6,n6,k6,rfl,_⟩:=e6.shape)
       | (go_at_call 125;refine (Yo _ _ _ _ ((dr.keep (ZG.drew _)).below d)).mono ?_;rintro e w7 ⟨v7,rfl,e7,f⟩;obtain ⟨A7,n7,k7,rfl,_⟩:=e7.shape;obtain ⟨c0,c1,f0,f1⟩:=((o.drew.later d).later f).two;obtain ⟨F,G,H,I⟩:=((l.drew.later d).later f).two))
     go_wp2;obtain ⟨a1,a2,a3,a4,a5⟩:=Xz ((o.drew.later d).later f) ((l.drew.later d).later f) (by omega) (e6.below f) e7 (Za (Za i.drew d i.size) f (JW i.size d.size)) (by omega) (by omega);refine WT Tryz.results129 Tryz.underlying44 Tryz.underlying44 (by kernel_rfl) (by kernel_rfl) rfl rfl a1 a2 rfl ?_;exact ⟨_,_,by rw [if_neg HZ.out];rfl,by rw [if_neg HZ.out,RI.z_eq,RI.z_eq,(YB HY.out (.inr rfl)).1];exact a3,by rw [if_neg HZ.out,RI.z_eq,RI.z_eq,(YB HY.out (.inr rfl)).2];exact a4,a5⟩
end Go.Proofs.YtgbhebappffbdaaGreat
namespace Go.Proofs.YtgbhebappffbdaaGreat
open Go.RowKit
open Pl
attribute [local go_sem ↓] Go.wp_at_zero Go.wp_at_succ
section
namespace Pl
structure RF where
 num:RI
 den:RI
def RF.q (f:RF):Rat:=Rat.divInt f.num.z f.den.z
def canF (q:Rat):RF:=⟨canI q.num,canI (q.den:Int)⟩
theorem Zr (q:Rat):(canF q).q=q:=by
 simp only [RF.q,canF,ZL];exact Rat.num_divInt_den q
def RI.Sm (a:RI):Prop:=(Zq (val a.ds)).length≤68719476736
def RF.Sm (f:RF):Prop:=f.num.Sm∧f.den.Sm
end Pl
def Zw (w:World) (v:Value) (f:RF):Prop:=
 ∃A n c A' n' c',v= .agg #[.bool f.num.neg,.slice A n c,.bool f.den.neg,.slice A' n' c']∧Z6 w (.slice A n c) f.num.ds∧Z6 w (.slice A' n' c') f.den.ds
theorem Zw.keep {w w':World} {v:Value} {a:RF} (h:Zw w v a) (hk:ZG w w'):Zw w' v a:=by
 obtain ⟨A,n,c,A',n',c',h1,h2,h3⟩:=h;exact ⟨A,n,c,A',n',c',h1,h2.keep hk,h3.keep hk⟩
theorem Zw.below {w w':World} {v:Value} {a:RF} (h:Zw w v a) (hb:Below w.heap.size w w'):Zw w' v a:=h.keep (ZG.of_below hb)
theorem Zw.mk {w:World} {A A':Option Addr} {n n' c c':Nat} {x y:RI} (h1:Yv w (.agg #[.bool x.neg,.slice A n c]) x) (h2:Yv w (.agg #[.bool y.neg,.slice A' n' c']) y):
 Zw w (.agg #[.bool x.neg,.slice A n c,.bool y.neg,.slice A' n' c']) ⟨x,y⟩:=by
 obtain ⟨s,e,d⟩:=h1;obtain ⟨s',e',d'⟩:=h2;simp at e e';subst e e';exact ⟨_,_,_,_,_,_,rfl,d,d'⟩
section
variable {w:World} {g:Nat} {t:TypeId} {a b c d:Value}
theorem Bk.four (h:Bk w g t [a,b,c,d]):(w.cell? ⟨g,0,none⟩=some a∧w.cell? ⟨g,1,none⟩=some b∧w.cell? ⟨g,2,none⟩=some c∧w.cell? ⟨g,3,none⟩=some d):=⟨h.cellAt 0 rfl,h.cellAt 1 rfl,h.cellAt 2 rfl,h.cellAt 3 rfl⟩
theorem Bk.fourF (h:Bk w g t [a,b,c,d]):(w.frozen? ⟨g,0,none⟩=false∧w.frozen? ⟨g,1,none⟩=false∧w.frozen? ⟨g,2,none⟩=false∧w.frozen? ⟨g,3,none⟩=false):=⟨h.frozen 0,h.frozen 1,h.frozen 2,h.frozen 3⟩
end
namespace Pl
def okw (z:Int):Prop:= -2147483648 < z∧z < 2147483648
end Pl
def Zlv (a:RI) (w:World) (e:Ending) (w':World):Prop:=∃(z:Int) (ok:Bool),e= .returned (.tuple #[.int .i64 z,.bool ok])∧(ok=true→z=a.z∧okw z)∧Below w.heap.size w w'
theorem Zcy (v:Value) (a:RI) (w:World) (h:Yv w v a):
 Calls Tryz.prog 153 #[v] w (Zlv a w):=by
 obtain ⟨A,n,c,rfl,hd⟩:=h.shape;obtain ⟨f,ds⟩:=a;simp only at hd ⊢;have hX:=Bk.new w 44 [.bool f,.slice A n c];have e:=Zi w (.cells [.bool f,.slice A n c].toArray 44);have j:=hd.below e;obtain ⟨hl,i,l,hc⟩:=hd.len;rcases JX 1 n with h1 | h1
 ·clear hl i;go_enter Tryz.func153,Tryz.ntmps153;go_wp2;go_ret2;exact ⟨_,_,rfl,by simp,e⟩
 ·rcases JV n with h0 | h0
  ·subst h0;have hz:RI.z ⟨f,ds⟩=0:=by
    obtain rfl:ds=[]:=List.length_eq_zero_iff.1 (by omega);rw [RI.z_eq];simp [val,sm]
   have HZ:=JZ hz;clear hl i hz;go_enter Tryz.func153,Tryz.ntmps153;go_wp2;go_ret2;exact ⟨_,_,rfl,fun _=>⟨HZ.out.symm,by simp [okw]⟩,e⟩
  ·obtain rfl:n=1:=by omega
   obtain ⟨b,m,rfl,_,g⟩:=j.at_ (by omega);have k:=g 0 (by omega);rw [Nat.add_zero] at k;have y0:=Zu ds 0;have y1:=Yu hd.ok 0;have hv:(val ds:Int)=di ds 0:=by
    obtain ⟨d,rfl⟩:∃d,ds=[d]:=List.length_eq_one_iff.1 (by omega);simp [val,di,dg]
   have hz:RI.z ⟨f,ds⟩=if f then - di ds 0 else di ds 0:=by rw [← hv];rfl
   have HZ:=JZ hz;clear hl i hz g hv;generalize di ds 0=z0 at *;rcases Int.lt_or_le z0 2147483648 with h2 | h2
   ·cases f
    ·go_enter Tryz.func153,Tryz.ntmps153;go_wp2;go_ret2;exact ⟨z0,_,rfl,fun _=>⟨by rw [HZ.out];rfl,by simp [okw];omega⟩,e⟩
    ·go_enter Tryz.func153,Tryz.ntmps153;go_wp2;go_ret2;exact ⟨-z0,_,rfl,fun _=>⟨by rw [HZ.out];rfl,by simp [okw];omega⟩,e⟩
   ·go_enter Tryz.func153,Tryz.ntmps153;go_wp2;go_ret2;exact ⟨_,_,rfl,by simp,e⟩
namespace Pl
def okq (n d:Int) (q:Rat):Prop:=okw n∧0 < d∧d < 2147483648∧Rat.divInt n d=q
end Pl
def Zbh (a:RF) (w:World) (e:Ending) (w':World):Prop:=∃(n d:Int) (ok:Bool),e= .returned (.tuple #[.agg #[.int .i64 n,.int .i64 d],.bool ok])∧(ok=true→okq n d a.q)∧Below w.heap.size w w'
theorem Zzr (w:World) (x1 x2 x3 x4:Value):∃W,(w.alloc (.cells #[x1,x2,x3,x4] 46)).alloc (.cells #[.int .i64 0,.int .i64 0] 121)=W∧Bk W w.heap.size 46 [x1,x2,x3,x4]∧Bk W (w.heap.size+1) 121 [.int .i64 0,.int .i64 0]∧Below w.heap.size w W:=by
 refine ⟨_,rfl,(Bk.new w _ [x1,x2,x3,x4]).alloc _,?_,(Zi w _).alloc (by simp) _⟩;have:=Bk.new (w.alloc (.cells #[x1,x2,x3,x4] 46)) 121 [.int .i64 0,.int .i64 0]
 rwa [size_alloc] at this
theorem UW {w W:World} {g:Nat} {x y:Value} {n d:Int} {ok:Bool} {a:RF} (hR:Bk W g 121 [x,y]) (hbe:Below w.heap.size w W) (hg:w.heap.size≤g) (h:ok=true→okq n d a.q):
 Zbh a w (.returned (.tuple #[.agg [.int .i64 n,.int .i64 d].toArray,.bool ok])) ((W.setCell ⟨g,0,none⟩ (.int .i64 n)).setCell ⟨g,1,none⟩ (.int .i64 d)):=
 ⟨n,d,ok,rfl,h,Yp hbe hg _ _⟩
theorem Zbi (v:Value) (a:RF) (w:World) (h:Zw w v a):
 Calls Tryz.prog 134 #[v] w (Zbh a w):=by
 obtain ⟨A,n,c,A',n',c',rfl,hd,s⟩:=h;obtain ⟨⟨l,ds⟩,⟨g,t⟩⟩:=a;simp only at hd s ⊢;obtain ⟨W,hW,hX,hR,j⟩:=Zzr w (.bool l) (.slice A n c) (.bool g) (.slice A' n' c');have e1:Yv W (.agg #[.bool l,.slice A n c]) ⟨l,ds⟩:=⟨_,rfl,hd.below j⟩;have e2:Yv W (.agg #[.bool g,.slice A' n' c']) ⟨g,t⟩:=⟨_,rfl,s.below j⟩;obtain ⟨p1,p2,p3,p4⟩:=hX.four;go_enter Tryz.func134,Tryz.ntmps134;go_wp2_with fail;clear hW;refine (Zcy _ ⟨g,t⟩ _ e2).mono ?_;rintro e w1 ⟨z,ok,rfl,hz,k⟩;have HZ:=JZ hz;have p:=hX.later k;have i:=hR.later k;have d:=Za j k j.size;have q:=e1.below k;clear hz hX hR j e1 e2 k p1 p2 p3 p4
 cases ok
 ·obtain ⟨c0,c1,f0,f1⟩:=i.two;go_wp2;refine YX Tryz.results134 Tryz.underlying121 (by kernel_rfl) rfl (i.set2 _ _) rfl ?_;exact UW i d (by omega) (by simp)
 ·obtain ⟨u,B⟩:=HZ.out rfl;unfold okw at B;have m:=JZ u;obtain ⟨p1,p2,p3,p4⟩:=p.four;clear HZ u;go_wp2_with fail;refine (Zcy _ ⟨l,ds⟩ _ q).mono ?_;rintro e w2 ⟨y,ok,rfl,hy,o⟩;have HY:=JZ hy;have b:=i.later o;have f:=Za d o d.size;clear hy p i d q o p1 p2 p3 p4;obtain ⟨c0,c1,f0,f1⟩:=b.two
  cases ok
  ·go_wp2;refine YX Tryz.results134 Tryz.underlying121 (by kernel_rfl) rfl (b.set2 _ _) rfl ?_;exact UW b f (by omega) (by simp)
  ·obtain ⟨x,C⟩:=HY.out rfl;have r:=JZ x;unfold okw at C;clear HY x;rcases Int.lt_trichotomy z 0 with hz | hz | hz
   ·go_wp2;refine YX Tryz.results134 Tryz.underlying121 (by kernel_rfl) rfl (b.set2 _ _) rfl ?_;refine UW b f (by omega) fun _=>⟨⟨by omega,by omega⟩,by omega,by omega,?_⟩
    show _=Rat.divInt (RI.z _) (RI.z _);rw [← r.out,← m.out,Rat.neg_divInt_neg]
   ·subst hz;go_wp2;refine YX Tryz.results134 Tryz.underlying121 (by kernel_rfl) rfl (b.set2 _ _) rfl ?_;refine UW b f (by omega) fun _=>⟨⟨by omega,by omega⟩,by omega,by omega,?_⟩
    show _=Rat.divInt (RI.z _) (RI.z _);rw [← m.out,Rat.divInt_zero,Rat.zero_divInt]
   ·go_wp2;refine YX Tryz.results134 Tryz.underlying121 (by kernel_rfl) rfl (b.set2 _ _) rfl ?_;refine UW b f (by omega) fun _=>⟨⟨by omega,by omega⟩,by omega,by omega,?_⟩
    show _=Rat.divInt (RI.z _) (RI.z _);rw [← r.out,← m.out]
end
theorem Bk.next {w W:World} {n:Nat} (h:W.heap.size=n) (t:TypeId) (cs:List Value) (_hb:Below w.heap.size w W):Bk (W.alloc (.cells cs.toArray t)) n t cs:=by
 have:=Bk.new W t cs
 rwa [h] at this
theorem Zjr (w:World) (x1 x2 x3 x4 y1 y2 y3 y4:Value):∃W,(w.alloc (.cells #[x1,x2,x3,x4] 46)).alloc (.cells #[y1,y2,y3,y4] 46)=W∧W.heap.size=w.heap.size+1+1∧Bk W w.heap.size 46 [x1,x2,x3,x4]∧Bk W (w.heap.size+1) 46 [y1,y2,y3,y4]∧Below w.heap.size w W:=by
 refine ⟨_,rfl,by simp,(Bk.new w _ [x1,x2,x3,x4]).alloc _,?_,(Zi w _).alloc (by simp) _⟩;have:=Bk.new (w.alloc (.cells #[x1,x2,x3,x4] 46)) 46 [y1,y2,y3,y4]
 rwa [size_alloc] at this
theorem Yls (w:World) (x1 x2 x3 x4 y1 y2 y3 y4:Value):∃W,(((w.alloc (.cells #[x1,x2,x3,x4] 46)).alloc (.cells #[y1,y2,y3,y4] 46)).alloc (.cells #[.int .i64 0,.int .i64 0] 121)).alloc (.cells #[.int .i64 0,.int .i64 0] 121)=W∧Bk W w.heap.size 46 [x1,x2,x3,x4]∧Bk W (w.heap.size+1) 46 [y1,y2,y3,y4]∧
 Bk W (w.heap.size+1+1) 121 [.int .i64 0,.int .i64 0]∧Bk W (w.heap.size+1+1+1) 121 [.int .i64 0,.int .i64 0]∧Below w.heap.size w W:=by
 obtain ⟨W,hW,hs,h1,h2,hb⟩:=Zjr w x1 x2 x3 x4 y1 y2 y3 y4;refine ⟨_,by rw [hW],(h1.alloc _).alloc _,(h2.alloc _).alloc _,(Bk.next hs _ _ hb).alloc _,?_,(hb.alloc hb.size _).alloc (hb.alloc hb.size _).size _⟩;have:=Bk.new (W.alloc (.cells #[.int .i64 0,.int .i64 0] 121)) 121 [.int .i64 0,.int .i64 0]
 rwa [size_alloc,hs] at this
def Zzs (a b:RF) (w:World) (e:Ending) (w':World):Prop:=∃(n d m k:Int) (ok:Bool),e= .returned (.tuple #[.agg #[.int .i64 n,.int .i64 d],.agg #[.int .i64 m,.int .i64 k],.bool ok])∧(ok=true→okq n d a.q∧okq m k b.q)∧Below w.heap.size w w'
theorem UX (v1 v2:Value) (a b:RF) (w:World) (h1:Zw w v1 a) (h2:Zw w v2 b):
 Calls Tryz.prog 91 #[v1,v2] w (Zzs a b w):=by
 obtain ⟨A,n,c,A',n',c',rfl,hd,O⟩:=h1;obtain ⟨B,m,d,B',m',d',rfl,ke,P⟩:=h2;obtain ⟨⟨D,ds⟩,⟨k,R⟩⟩:=a;obtain ⟨⟨E,es⟩,⟨l,S⟩⟩:=b;simp only at hd O ke P ⊢;obtain ⟨W,hW,hX,hY,hR,T,j⟩:=Yls w (.bool D) (.slice A n c) (.bool k) (.slice A' n' c') (.bool E) (.slice B m d) (.bool l) (.slice B' m' d');have e1:Zw W (.agg #[.bool D,.slice A n c,.bool k,.slice A' n' c']) ⟨⟨D,ds⟩,⟨k,R⟩⟩:=⟨_,_,_,_,_,_,rfl,hd.below j,O.below j⟩;have e2:Zw W (.agg #[.bool E,.slice B m d,.bool l,.slice B' m' d']) ⟨⟨E,es⟩,⟨l,S⟩⟩:=⟨_,_,_,_,_,_,rfl,ke.below j,P.below j⟩;obtain ⟨p1,p2,p3,p4⟩:=hX.four;go_enter Tryz.func91,Tryz.ntmps91;go_wp2_with fail;clear hW;refine (Zbi _ ⟨⟨D,ds⟩,⟨k,R⟩⟩ _ e1).mono ?_;rintro e w1 ⟨x,y,ok,rfl,hq,t⟩;have HQ:=JZ hq;have J:=hY.later t;have C:=hR.later t;have v:=T.later t;have G:=Za j t j.size;have K:=e2.below t;clear hq hX hY hR T j e1 e2 t p1 p2 p3 p4;have i:w.heap.size+1+1≠w.heap.size+1+1+1:=by omega
 have U:w.heap.size+1≠w.heap.size+1+1:=by omega
 obtain ⟨c0,c1,f0,f1⟩:=C.two;obtain ⟨p,q,r,s⟩:=v.two;have g:=C.set2 (.int .i64 x) (.int .i64 y);have f:=v.far2 i.symm (.int .i64 x) (.int .i64 y);have I:=J.far2 U (.int .i64 x) (.int .i64 y);have o:=Yp G (show w.heap.size≤w.heap.size+1+1 by omega) (.int .i64 x) (.int .i64 y);have L:=K.keep (C.keep2 (by decide) (.int .i64 x) (.int .i64 y));clear J C v G K
 cases ok
 ·go_wp2_with fail;clear c0 c1 f0 f1 p q r s;generalize (w1.setCell _ _).setCell _ _=W3 at *;obtain ⟨c0,c1,f0,f1⟩:=g.two;obtain ⟨p,q,r,s⟩:=f.two
  go_region_held3 (fun w'=>(w'.cell? ⟨w.heap.size+1+1,0,none⟩=some (.int .i64 x)∧w'.cell? ⟨w.heap.size+1+1,1,none⟩=some (.int .i64 y))∧(w'.cell? ⟨w.heap.size+1+1+1,0,none⟩=some (.int .i64 0)∧w'.cell? ⟨w.heap.size+1+1+1,1,none⟩=some (.int .i64 0)))
   (first | with_reducible exact ⟨g.pair,f.pair⟩ | with_reducible exact ⟨g.drew.pair,f.drew.pair⟩ | with_reducible exact ⟨(g.set2 _ _).drew.pair,(f.far2 i.symm _ _).drew.pair⟩ | with_reducible exact ⟨((g.set2 _ _).far2 i _ _).drew.pair,((f.far2 i.symm _ _).set2 _ _).drew.pair⟩)
   (fail)
  go_wp2;refine WT Tryz.results91 Tryz.underlying121 Tryz.underlying121 (by kernel_rfl) (by kernel_rfl) rfl rfl ((g.set2 _ _).far2 i _ _).drew ((f.far2 i.symm _ _).set2 _ _).drew rfl ?_;exact ⟨_,_,_,_,_,rfl,by simp,(Yp (Yp o (by omega) _ _) (by omega) _ _).drew⟩
 ·have V:=I.four;go_wp2_with fail;clear c0 c1 f0 f1 p q r s V;generalize (w1.setCell _ _).setCell _ _=W3 at *;obtain ⟨p1,p2,p3,p4⟩:=I.four;refine (Zbi _ ⟨⟨E,es⟩,⟨l,S⟩⟩ _ L).mono ?_;rintro e w4 ⟨z,u,ok,rfl,hq,F⟩;have X:=JZ hq;have M:=g.later F;have H:=f.later F;have N:=Za o F o.size;clear hq I g f o L F p1 p2 p3 p4;obtain ⟨c0,c1,f0,f1⟩:=M.two;obtain ⟨p,q,r,s⟩:=H.two;have g:=M.far2 i (.int .i64 z) (.int .i64 u);have f:=H.set2 (.int .i64 z) (.int .i64 u);have o:=Yp N (show w.heap.size≤w.heap.size+1+1+1 by omega) (.int .i64 z) (.int .i64 u);go_wp2_with fail;clear c0 c1 f0 f1 p q r s;generalize (w4.setCell _ _).setCell _ _=W5 at *;obtain ⟨c0,c1,f0,f1⟩:=g.two;obtain ⟨p,q,r,s⟩:=f.two
  go_region_held3 (fun w'=>(w'.cell? ⟨w.heap.size+1+1,0,none⟩=some (.int .i64 x)∧w'.cell? ⟨w.heap.size+1+1,1,none⟩=some (.int .i64 y))∧(w'.cell? ⟨w.heap.size+1+1+1,0,none⟩=some (.int .i64 z)∧w'.cell? ⟨w.heap.size+1+1+1,1,none⟩=some (.int .i64 u)))
   (first | with_reducible exact ⟨g.pair,f.pair⟩ | with_reducible exact ⟨g.drew.pair,f.drew.pair⟩ | with_reducible exact ⟨(g.set2 _ _).drew.pair,(f.far2 i.symm _ _).drew.pair⟩ | with_reducible exact ⟨((g.set2 _ _).far2 i _ _).drew.pair,((f.far2 i.symm _ _).set2 _ _).drew.pair⟩)
   (fail)
  go_wp2;refine WT Tryz.results91 Tryz.underlying121 Tryz.underlying121 (by kernel_rfl) (by kernel_rfl) rfl rfl ((g.set2 _ _).far2 i _ _).drew ((f.far2 i.symm _ _).set2 _ _).drew rfl ?_;exact ⟨_,_,_,_,ok,rfl,fun h=>⟨by simpa using HQ.out,X.out h⟩,(Yp (Yp o (by omega) _ _) (by omega) _ _).drew⟩
namespace Pl
theorem RI.Sm.canI_neg {a:RI} (h:a.Sm):(canI (-a.z)).Sm:=by
 unfold RI.Sm at h ⊢;simp only [canI,Zm,Int.natAbs_neg,Z8];exact h
theorem Vd {z:Int} (h0: -9223372036854775808≤z) (h1:z≤9223372036854775807):(canI z).Sm:=by
 unfold RI.Sm;simp only [canI,Zm];have:=Xw (n:=z.natAbs) (k:=2) (by unfold B32;omega);omega
end Pl
theorem Yor (w:World) (x1 x2 x3 x4:Value):∃W,((w.alloc (.cells #[x1,x2,x3,x4] 46)).alloc (.cells #[.bool false,.slice none 0 0] 44)).alloc (.cells #[.bool false,.slice none 0 0] 44)=W∧Bk W w.heap.size 46 [x1,x2,x3,x4]∧
 Bk W (w.heap.size+1) 44 [.bool false,.slice none 0 0]∧Bk W (w.heap.size+1+1) 44 [.bool false,.slice none 0 0]∧Below w.heap.size w W:=by
 refine ⟨_,rfl,((Bk.new w _ [x1,x2,x3,x4]).alloc _).alloc _,?_,?_,((Zi w _).alloc (by simp) _).alloc (by simp;omega) _⟩
 ·have:=Bk.new (w.alloc (.cells #[x1,x2,x3,x4] 46)) 44 [.bool false,.slice none 0 0];rw [size_alloc] at this;exact this.alloc _
 ·have:=Bk.new ((w.alloc (.cells #[x1,x2,x3,x4] 46)).alloc (.cells #[.bool false,.slice none 0 0] 44)) 44 [.bool false,.slice none 0 0]
  rwa [size_alloc,size_alloc] at this
def Zzt (a:RF) (w:World) (e:Ending) (w':World):Prop:=
 ∃v1 v2 x y,e= .returned (.tuple #[v1,v2])∧Yv w' v1 x∧Yv w' v2 y∧0 < y.z∧Rat.divInt x.z y.z=a.q∧x.Sm∧y.Sm∧Below w.heap.size w w'
theorem XA (v:Value) (a:RF) (w:World) (h:Zw w v a) (hs:a.Sm):
 Calls Tryz.prog 76 #[v] w (Zzt a w):=by
 obtain ⟨A,n,c,A',n',c',rfl,hd,G⟩:=h;obtain ⟨⟨l,ds⟩,⟨b,q⟩⟩:=a;obtain ⟨t,u⟩:=hs;simp only at hd G ⊢;obtain ⟨W,hW,hX,hR,H,o⟩:=Yor w (.bool l) (.slice A n c) (.bool b) (.slice A' n' c');have e1:Yv W (.agg #[.bool l,.slice A n c]) ⟨l,ds⟩:=⟨_,rfl,hd.below o⟩;have e2:Yv W (.agg #[.bool b,.slice A' n' c']) ⟨b,q⟩:=⟨_,rfl,G.below o⟩;obtain ⟨p1,p2,p3,p4⟩:=hX.four;go_enter Tryz.func76,Tryz.ntmps76;go_wp2_with fail;clear hW;refine (Zaq _ ⟨b,q⟩ _ e2).mono ?_;rintro e w1 ⟨rfl,k⟩;have d:=hX.later k;have m:=hR.later k;have j:=H.later k;have g:=Za o k o.size;have y:=e1.below k;have B:=e2.below k;clear hX hR H o e1 e2 k p1 p2 p3 p4;have s:w.heap.size+1≠w.heap.size+1+1:=by omega
 have p:w.heap.size≠w.heap.size+1:=by omega
 have C:w.heap.size≠w.heap.size+1+1:=by omega
 obtain ⟨p1,p2,p3,p4⟩:=d.four;rcases Int.lt_trichotomy (RI.z ⟨b,q⟩) 0 with hz | hz | hz
 ·have HZ:=JZ hz;rw [UR hz];clear hz;go_wp2_with fail;have D:True:=trivial
  go_region_held3 (fun w'=>w'.cell? ⟨w.heap.size,0,none⟩=some (.bool l)∧w'.cell? ⟨w.heap.size,1,none⟩=some (.slice A n c)∧w'.cell? ⟨w.heap.size,2,none⟩=some (.bool b)∧w'.cell? ⟨w.heap.size,3,none⟩=some (.slice A' n' c'))
   (first | with_reducible exact d.four | with_reducible exact d.drew.four | with_reducible exact (d.drew.later f).four | with_reducible exact ((d.drew.later f).later i).four | with_reducible exact (((d.drew.later f).later i).far2 p _ _).four | with_reducible exact ((((d.drew.later f).later i).far2 p _ _).far2 C _ _).four)
   (first
    | (go_at_call 78;have _t:=D;refine (V3 _ ⟨l,ds⟩ _ (y.keep (ZG.drew _)) (JW t (by decide))).mono ?_;clear D _t;rintro e w6 ⟨v6,rfl,e6,f⟩;obtain ⟨A6,n6,k6,rfl,_⟩:=e6.shape)
    | (go_at_call 78;refine (V3 _ ⟨b,q⟩ _ ((B.keep (ZG.drew _)).below f) (JW u (by decide))).mono ?_;rintro e w7 ⟨v7,rfl,e7,i⟩;obtain ⟨A7,n7,k7,rfl,_⟩:=e7.shape;obtain ⟨c0,c1,f0,f1⟩:=((m.drew.later f).later i).two;obtain ⟨I,J,K,L⟩:=((j.drew.later f).later i).two))
  go_wp2;obtain ⟨a1,a2,a3,a4,a5⟩:=Xz ((m.drew.later f).later i) ((j.drew.later f).later i) s (e6.below i) e7 (Za (Za g.drew f g.size) i (JW g.size f.size)) (by omega) (by omega);refine Zzn Tryz.results76 Tryz.underlying44 Tryz.underlying44 (by kernel_rfl) (by kernel_rfl) rfl rfl a1 a2 rfl ?_;refine ⟨_,_,_,_,rfl,a3,a4,?_,?_,RI.Sm.canI_neg t,RI.Sm.canI_neg u,a5⟩
  ·rw [ZL];have:=HZ.out;omega
  ·rw [ZL,ZL,Rat.neg_divInt_neg];rfl
 ·have HZ:=JZ hz;rw [hz,sgn_zero];clear hz;go_wp2_with fail;refine (Xi 1 _ (by omega) (by omega)).mono ?_;rintro e w2 ⟨v2,rfl,e6,x⟩;obtain ⟨A2,n2,k2,rfl,_⟩:=e6.shape;have E:=m.later x;have r:=j.later x;have F:=Za g x g.size;obtain ⟨c0,c1,f0,f1⟩:=E.two;obtain ⟨I,J,K,L⟩:=r.two;go_wp2;obtain ⟨a1,a2,a3,a4,a5⟩:=Xz E r s (Yv.zero w2) e6 F (by omega) (by omega);refine Zzn Tryz.results76 Tryz.underlying44 Tryz.underlying44 (by kernel_rfl) (by kernel_rfl) rfl rfl a1 a2 rfl ?_;refine ⟨_,_,_,_,rfl,a3,a4,?_,?_,Vd (by omega) (by omega),Vd (by omega) (by omega),a5⟩
  ·rw [ZL];omega
  ·rw [ZL,ZL,Rat.zero_divInt];show _=Rat.divInt (RI.z _) (RI.z _);rw [HZ.out,Rat.divInt_zero]
 ·have HZ:=JZ hz;rw [Ui hz];clear hz;obtain ⟨c0,c1,f0,f1⟩:=m.two;obtain ⟨I,J,K,L⟩:=j.two;go_wp2_with fail
  go_region_held3 (fun w'=>w'.cell? ⟨w.heap.size,0,none⟩=some (.bool l)∧w'.cell? ⟨w.heap.size,1,none⟩=some (.slice A n c)∧w'.cell? ⟨w.heap.size,2,none⟩=some (.bool b)∧w'.cell? ⟨w.heap.size,3,none⟩=some (.slice A' n' c'))
   (first | with_reducible exact d.four | with_reducible exact d.drew.four | with_reducible exact (d.far2 p _ _).drew.four | with_reducible exact ((d.far2 p _ _).far2 C _ _).drew.four)
   (fail)
  go_wp2;obtain ⟨a1,a2,a3,a4,a5⟩:=Xz m j s y B g (by omega) (by omega);refine Zzn Tryz.results76 Tryz.underlying44 Tryz.underlying44 (by kernel_rfl) (by kernel_rfl) rfl rfl a1.drew a2.drew rfl ?_;exact ⟨_,_,_,_,rfl,a3.keep (ZG.drew _),a4.keep (ZG.drew _),HZ.out,rfl,t,u,a5.drew⟩
end Go.Proofs.YtgbhebappffbdaaGreat
namespace Go.Proofs.YtgbhebappffbdaaGreat
open Go.RowKit
open Pl
attribute [local go_sem ↓] Go.wp_at_zero Go.wp_at_succ
section
section
variable {w w':World} {g:Nat} {t:TypeId} {a b c d:Value}
theorem Bk.set4 (h:Bk w g t [a,b,c,d]) (x y z u:Value):Bk ((((w.setCell ⟨g,0,none⟩ x).setCell ⟨g,1,none⟩ y).setCell ⟨g,2,none⟩ z).setCell ⟨g,3,none⟩ u) g t [x,y,z,u]:=(((h.set_ 0 x).set_ 1 y).set_ 2 z).set_ 3 u
theorem Bk.keep4 (h:Bk w g t [a,b,c,d]) (ht:t≠148) (x y z u:Value):ZG w ((((w.setCell ⟨g,0,none⟩ x).setCell ⟨g,1,none⟩ y).setCell ⟨g,2,none⟩ z).setCell ⟨g,3,none⟩ u):=
 (((h.keepD ht _ _).trans ((h.set_ 0 x).keepD ht _ _)).trans (((h.set_ 0 x).set_ 1 y).keepD ht _ _)).trans ((((h.set_ 0 x).set_ 1 y).set_ 2 z).keepD ht _ _)
theorem Bk.far4 {g':Nat} {cs:List Value} (h:Bk w g t cs) (hne:g≠g') (x y z u:Value):Bk ((((w.setCell ⟨g',0,none⟩ x).setCell ⟨g',1,none⟩ y).setCell ⟨g',2,none⟩ z).setCell ⟨g',3,none⟩ u) g t cs:=
 (((h.far (p:=⟨g',0,none⟩) hne x).far (p:=⟨g',1,none⟩) hne y).far (p:=⟨g',2,none⟩) hne z).far (p:=⟨g',3,none⟩) hne u
theorem ZI {n:Nat} (h:Below n w w') (hg:n≤g) (x y z u:Value):Below n w ((((w'.setCell ⟨g,0,none⟩ x).setCell ⟨g,1,none⟩ y).setCell ⟨g,2,none⟩ z).setCell ⟨g,3,none⟩ u):=(((h.setCell hg _).setCell hg _).setCell hg _).setCell hg _
end
theorem Yk {w w2:World} {m g:Nat} {x y z u b s b' s':Value} {a:RF} (hR:Bk w2 g 46 [x,y,z,u]) (d:Zw w2 (.agg #[b,s,b',s']) a) (hbe:Below m w w2) (hg:m≤g):
 ∃v',Ending.returned (.agg [b,s,b',s'].toArray)= .returned v'∧Zw ((((w2.setCell ⟨g,0,none⟩ b).setCell ⟨g,1,none⟩ s).setCell ⟨g,2,none⟩ b').setCell ⟨g,3,none⟩ s') v' a∧Below m w ((((w2.setCell ⟨g,0,none⟩ b).setCell ⟨g,1,none⟩ s).setCell ⟨g,2,none⟩ b').setCell ⟨g,3,none⟩ s'):=
 ⟨_,rfl,d.keep (hR.keep4 (by decide) _ _ _ _),ZI hbe hg _ _ _ _⟩
namespace Pl
theorem Zar {n d:Int} (h:0 < d):canF (Rat.divInt n d)=⟨canI (n / (Int.gcd d n:Nat)),canI (d / (Int.gcd d n:Nat))⟩:=by
 unfold canF;rw [Rat.num_divInt,Rat.den_divInt,if_neg (by omega),Int.sign_eq_one_of_pos h,Int.one_mul,Int.natCast_ediv,Int.natAbs_of_nonneg (by omega)]
theorem Zny {a b:Int} (ha:0≤a) (hb:0≤b):(b % a).gcd a=a.gcd b:=by
 unfold Int.gcd;rw [Int.natAbs_emod_of_nonneg hb,← Nat.gcd_rec]
theorem VI {b k:Int} (hb:0 < b) (h0: -9223372036854775807≤b * k) (h1:b * k≤9223372036854775807): -9223372036854775807≤k∧k≤9223372036854775807:=by
 constructor
 ·rcases Int.lt_or_le k 0 with h | h
  ·have:b * k≤1 * k:=Int.mul_le_mul_of_nonpos_right (by omega) (by omega);omega
  ·omega
 ·rcases Int.lt_or_le k 0 with h | h
  ·omega
  ·have:1 * k≤b * k:=Int.mul_le_mul_of_nonneg_right (by omega) h;omega
end Pl
theorem XL (n d:Int) (w:World) (h0: -9223372036854775807≤n) (h1:n≤9223372036854775807) (h2:0 < d) (h3:d≤9223372036854775807):
 Calls Tryz.prog 127 #[.int .i64 n,.int .i64 d] w fun e w'=>∃v',e= .returned v'∧Zw w' v' (canF (Rat.divInt n d))∧Below w.heap.size w w':=by
 have hR:=Bk.new w 46 [.bool false,.slice none 0 0,.bool false,.slice none 0 0];have m:=Zi w (.cells [.bool false,.slice none 0 0,.bool false,.slice none 0 0].toArray 46);rcases Int.lt_or_le n 0 with hn | hn
 ·go_enter Tryz.func127,Tryz.ntmps127;go_wp2_with fail;generalize w.alloc _=W at *
  go_loop [5,6] (fun x y=>∃a b:Int,x= .int .i64 a∧y= .int .i64 b∧0≤a∧a≤9223372036854775807∧0 < b∧b≤9223372036854775807∧Hid (Int.gcd a b=Int.gcd d n)) (fun x _=>(intOf x).toNat)
  case atStart=>exact ⟨-n,d,by go_num,rfl,by omega,by omega,h2,h3,JZ (by first | exact Int.gcd_comm _ _ | (rw [Int.gcd_comm];simp))⟩
  case round=>
   obtain ⟨a,b,rfl,rfl,a0,a1,b0,b1,hg⟩:=hrel;rcases Int.lt_or_eq_of_le a0 with ha | ha
   ·have q0:¬a=0:=(by omega);have q2:b.tmod a=b % a:=Int.tmod_eq_emod_of_nonneg (by omega);have m0:0≤b % a:=Int.emod_nonneg _ (by omega);have m1:b % a < a:=Int.emod_lt_of_pos _ ha;have q3:IntKind.i64.wrap (b % a)=b % a:=(by simp only [IntKind.wrap,IntKind.bits,IntKind.signed];simp;omega);go_wp2
    go_round
    case rel=>exact ⟨b % a,a,rfl,rfl,m0,by omega,ha,a1,JZ (by rw [← hg.out];exact Zny (by omega) (by omega))⟩
    case measure=>simp [intOf];omega
   ·subst ha;have hG:b=(Int.gcd d n:Nat):=(by rw [← hg.out,Int.gcd_zero_left];omega);obtain ⟨n1,h⟩:∃n1,n1=n / b:=⟨_,rfl⟩;obtain ⟨d1,i⟩:∃d1,d1=d / b:=⟨_,rfl⟩;have j:b∣n:=(by rw [hG];exact Int.gcd_dvd_right ..);have l:b∣d:=(by rw [hG];exact Int.gcd_dvd_left ..);have q0:¬b=0:=(by omega);have q1:n.tdiv b=n1:=(by rw [h,Int.tdiv_eq_ediv_of_dvd j]);have q2:d.tdiv b=d1:=(by rw [i,Int.tdiv_eq_ediv_of_dvd l]);have bn: -9223372036854775807≤n1∧n1≤9223372036854775807:=by
     obtain ⟨k,hk⟩:=j;rw [h,hk,Int.mul_ediv_cancel_left _ (by omega)];exact VI b0 (by omega) (by omega)
    have bd: -9223372036854775807≤d1∧d1≤9223372036854775807:=by
     obtain ⟨k,hk⟩:=l;rw [i,hk,Int.mul_ediv_cancel_left _ (by omega)];exact VI b0 (by omega) (by omega)
    have g:=Zar h2 (n:=n);rw [← hG,← h,← i] at g;have HC:=JZ g;obtain ⟨p,q⟩:=bn;obtain ⟨r,s⟩:=bd;have q3:IntKind.i64.wrap n1=n1:=(by simp only [IntKind.wrap,IntKind.bits,IntKind.signed];simp;omega);have q4:IntKind.i64.wrap d1=d1:=(by simp only [IntKind.wrap,IntKind.bits,IntKind.signed];simp;omega);have o:True:=trivial;clear hG h i j l g;go_wp2_with fail
    go_region_held3 (fun _=>True) (exact trivial)
     (first
      | (go_at_call 74;have _t:=o;refine (Xi n1 _ (by omega) (by omega)).mono ?_;clear o _t;rintro e w1 ⟨v1,rfl,e1,c⟩;obtain ⟨A1,m1,k1,rfl,_⟩:=e1.shape)
      | (go_at_call 74;refine (Xi d1 _ (by omega) (by omega)).mono ?_;rintro e w2 ⟨v2,rfl,e2,f⟩;obtain ⟨A2,m2,k2,rfl,_⟩:=e2.shape;obtain ⟨c0,c1,c2,c3⟩:=((hR.drew.later c).later f).four;obtain ⟨f0,f1,f2,f3⟩:=((hR.drew.later c).later f).fourF))
    go_wp2;refine Zp Tryz.results127 Tryz.underlying46 (by kernel_rfl) rfl (((hR.drew.later c).later f).set4 _ _ _ _) rfl ?_;rw [HC.out];exact Yk ((hR.drew.later c).later f) (Zw.mk (e1.below f) e2) (Za (Za m.drew c m.size) f (JW m.size c.size)) (JY _)
 ·go_enter Tryz.func127,Tryz.ntmps127;go_wp2_with fail;generalize w.alloc _=W at *
  go_loop [5,6] (fun x y=>∃a b:Int,x= .int .i64 a∧y= .int .i64 b∧0≤a∧a≤9223372036854775807∧0 < b∧b≤9223372036854775807∧Hid (Int.gcd a b=Int.gcd d n)) (fun x _=>(intOf x).toNat)
  case atStart=>exact ⟨n,d,by go_num,rfl,by omega,by omega,h2,h3,JZ (by first | exact Int.gcd_comm _ _ | (rw [Int.gcd_comm];simp))⟩
  case round=>
   obtain ⟨a,b,rfl,rfl,a0,a1,b0,b1,hg⟩:=hrel;rcases Int.lt_or_eq_of_le a0 with ha | ha
   ·have q0:¬a=0:=(by omega);have q2:b.tmod a=b % a:=Int.tmod_eq_emod_of_nonneg (by omega);have m0:0≤b % a:=Int.emod_nonneg _ (by omega);have m1:b % a < a:=Int.emod_lt_of_pos _ ha;have q3:IntKind.i64.wrap (b % a)=b % a:=(by simp only [IntKind.wrap,IntKind.bits,IntKind.signed];simp;omega);go_wp2
    go_round
    case rel=>exact ⟨b % a,a,rfl,rfl,m0,by omega,ha,a1,JZ (by rw [← hg.out];exact Zny (by omega) (by omega))⟩
    case measure=>simp [intOf];omega
   ·subst ha;have hG:b=(Int.gcd d n:Nat):=(by rw [← hg.out,Int.gcd_zero_left];omega);obtain ⟨n1,h⟩:∃n1,n1=n / b:=⟨_,rfl⟩;obtain ⟨d1,i⟩:∃d1,d1=d / b:=⟨_,rfl⟩;have j:b∣n:=(by rw [hG];exact Int.gcd_dvd_right ..);have l:b∣d:=(by rw [hG];exact Int.gcd_dvd_left ..);have q0:¬b=0:=(by omega);have q1:n.tdiv b=n1:=(by rw [h,Int.tdiv_eq_ediv_of_dvd j]);have q2:d.tdiv b=d1:=(by rw [i,Int.tdiv_eq_ediv_of_dvd l]);have bn: -9223372036854775807≤n1∧n1≤9223372036854775807:=by
     obtain ⟨k,hk⟩:=j;rw [h,hk,Int.mul_ediv_cancel_left _ (by omega)];exact VI b0 (by omega) (by omega)
    have bd: -9223372036854775807≤d1∧d1≤9223372036854775807:=by
     obtain ⟨k,hk⟩:=l;rw [i,hk,Int.mul_ediv_cancel_left _ (by omega)];exact VI b0 (by omega) (by omega)
    have g:=Zar h2 (n:=n);rw [← hG,← h,← i] at g;have HC:=JZ g;obtain ⟨p,q⟩:=bn;obtain ⟨r,s⟩:=bd;have q3:IntKind.i64.wrap n1=n1:=(by simp only [IntKind.wrap,IntKind.bits,IntKind.signed];simp;omega);have q4:IntKind.i64.wrap d1=d1:=(by simp only [IntKind.wrap,IntKind.bits,IntKind.signed];simp;omega);have o:True:=trivial;clear hG h i j l g;go_wp2_with fail
    go_region_held3 (fun _=>True) (exact trivial)
     (first
      | (go_at_call 74;have _t:=o;refine (Xi n1 _ (by omega) (by omega)).mono ?_;clear o _t;rintro e w1 ⟨v1,rfl,e1,c⟩;obtain ⟨A1,m1,k1,rfl,_⟩:=e1.shape)
      | (go_at_call 74;refine (Xi d1 _ (by omega) (by omega)).mono ?_;rintro e w2 ⟨v2,rfl,e2,f⟩;obtain ⟨A2,m2,k2,rfl,_⟩:=e2.shape;obtain ⟨c0,c1,c2,c3⟩:=((hR.drew.later c).later f).four;obtain ⟨f0,f1,f2,f3⟩:=((hR.drew.later c).later f).fourF))
    go_wp2;refine Zp Tryz.results127 Tryz.underlying46 (by kernel_rfl) rfl (((hR.drew.later c).later f).set4 _ _ _ _) rfl ?_;rw [HC.out];exact Yk ((hR.drew.later c).later f) (Zw.mk (e1.below f) e2) (Za (Za m.drew c m.size) f (JW m.size c.size)) (JY _)
end
theorem Ynu (w:World) (x y x' y':Value):∃W,((w.alloc (.cells #[x,y] 44)).alloc (.cells #[x',y'] 44)).alloc (.cells #[.bool false,.slice none 0 0,.bool false,.slice none 0 0] 46)=W∧Bk W w.heap.size 44 [x,y]∧Bk W (w.heap.size+1) 44 [x',y']∧Bk W (w.heap.size+1+1) 46 [.bool false,.slice none 0 0,.bool false,.slice none 0 0]∧Below w.heap.size w W:=by
 refine ⟨_,rfl,((Bk.new w _ [x,y]).alloc _).alloc _,?_,?_,((Zi w _).alloc (by simp) _).alloc (by simp;omega) _⟩
 ·have:=Bk.new (w.alloc (.cells #[x,y] 44)) 44 [x',y'];rw [size_alloc] at this;exact this.alloc _
 ·have:=Bk.new ((w.alloc (.cells #[x,y] 44)).alloc (.cells #[x',y'] 44)) 46 [.bool false,.slice none 0 0,.bool false,.slice none 0 0]
  rwa [size_alloc,size_alloc] at this
def Ynv (a b:RI) (w:World) (x y:RI) (wx:World) (B B':Option Addr) (m d m' d':Nat):Prop:=
 Bk wx w.heap.size 44 [.bool x.neg,.slice B m d]∧Bk wx (w.heap.size+1) 44 [.bool y.neg,.slice B' m' d']∧Bk wx (w.heap.size+1+1) 46 [.bool false,.slice none 0 0,.bool false,.slice none 0 0]∧Below w.heap.size w wx∧
 Yv wx (.agg #[.bool x.neg,.slice B m d]) x∧Yv wx (.agg #[.bool y.neg,.slice B' m' d']) y∧0 < y.z∧Rat.divInt x.z y.z=Rat.divInt a.z b.z∧(Zq (val x.ds)).length≤549755813888∧(Zq (val y.ds)).length≤549755813888
theorem X5 (v1 v2:Value) (a b:RI) (w:World) (h1:Yv w v1 a) (h2:Yv w v2 b) (hs:(Zq (val a.ds)).length≤549755813888) (hs2:(Zq (val b.ds)).length≤549755813888) (hb:b.z≠0):
 Calls Tryz.prog 77 #[v1,v2] w fun e w'=>∃v',e= .returned v'∧Zw w' v' (canF (Rat.divInt a.z b.z))∧Below w.heap.size w w':=by
 obtain ⟨A,n,c,rfl,hd⟩:=h1.shape;obtain ⟨A',n',c',rfl,au⟩:=h2.shape;obtain ⟨W,hW,hX,a9,hR,C⟩:=Ynu w (.bool a.neg) (.slice A n c) (.bool b.neg) (.slice A' n' c');have e1:=h1.below C;have e2:=h2.below C;have HB:=JZ hb;clear hb hd au h1 h2;obtain ⟨x0,x1,_,_⟩:=hX.two;go_enter Tryz.func77,Tryz.ntmps77;go_wp2_with fail;clear hW;refine (Zaq _ a _ e1).mono ?_;rintro e w1 ⟨rfl,p⟩;have a0:=hX.later p;have t:=a9.later p;have I:=hR.later p;have i:=Za C p C.size;have a6:=e1.below p;have J:=e2.below p;clear hX a9 hR C e1 e2 p x0 x1;by_cases ha:a.z=0
 ·rw [ha,sgn_zero];have HA:=JZ ha;clear ha;go_wp2_with fail;refine (XL 0 1 _ (by omega) (by omega) (by omega) (by omega)).mono ?_;rw [show Rat.divInt 0 1=Rat.divInt a.z b.z from by rw [HA.out,Rat.zero_divInt,Rat.zero_divInt]];rintro e w2 ⟨v2,rfl,e3,g⟩;have j:=I.later g;obtain ⟨B,m,d,B',m',d',rfl,_,_⟩:=id e3;obtain ⟨c0,c1,c2,c3⟩:=j.four;obtain ⟨f0,f1,f2,f3⟩:=j.fourF;go_wp2;refine Zp Tryz.results77 Tryz.underlying46 (by kernel_rfl) rfl (j.set4 _ _ _ _) rfl ?_;exact Yk j e3 (Za i g i.size) (by omega)
 ·have F:(sgn a.z==0)=false:=by unfold sgn;split;rfl;rfl
  have HA:=JZ ha;clear ha;obtain ⟨y0,y1,_,_⟩:=t.two;go_wp2_with fail;refine (Zaq _ b _ J).mono ?_;rintro e w2 ⟨rfl,g⟩;have u:=a0.later g;have h:=t.later g;have j:=I.later g;have k:=Za i g i.size;have K:=a6.below g;have L:=J.below g;clear a0 t I i a6 J g y0 y1 F;have M:True:=trivial
  go_upto_if 18 with (fail)
  go_cut [2,3] (fun s2 s3 wx=>s2= .pointer (some ⟨w.heap.size,0,none⟩)∧s3= .pointer (some ⟨w.heap.size+1,0,none⟩)∧∃(x y:RI) (B B':Option Addr) (m d m' d':Nat),Ynv a b w x y wx B B' m d m' d')
  case first=>
   rcases Int.lt_or_le b.z 0 with hz | hz
   ·have HN:=JZ hz;have F:sgn b.z= -1:=UR hz;have al:w.heap.size≠w.heap.size+1:=(by omega);have am:w.heap.size+1+1≠w.heap.size:=(by omega);have an:w.heap.size+1+1≠w.heap.size+1:=(by omega);clear hz;obtain ⟨x0,x1,f0,f1⟩:=u.two;obtain ⟨y0,y1,k0,k1⟩:=h.two;go_wp2_with fail;clear F
    go_region_with (first
     | (go_at_call 78;have _t:=M;refine (V3 _ a _ (K.keep (ZG.drew _)) hs).mono ?_;clear M _t;rintro e w6 ⟨v6,rfl,e6,f⟩;obtain ⟨A6,n6,k6,rfl,_⟩:=e6.shape;obtain ⟨aw,ax,_,_⟩:=(h.drew.later f).two)
     | (go_at_call 78;refine (V3 _ b _ ((L.keep (ZG.drew _)).below f) hs2).mono ?_;rintro e w7 ⟨v7,rfl,e7,s⟩;obtain ⟨A7,n7,k7,rfl,_⟩:=e7.shape;obtain ⟨c0,c1,r0,r1⟩:=((u.drew.later f).later s).two;obtain ⟨ay,az,b0,b1⟩:=((h.drew.later f).later s).two))
    all_goals
     go_wp2_with fail
     go_meet
     obtain ⟨a1,a2,a3,a4,a5⟩:=Xz ((u.drew.later f).later s) ((h.drew.later f).later s) al (e6.below s) e7 (Za (Za k.drew f k.size) s (JW k.size f.size)) (by omega) (by omega);refine ⟨rfl,rfl,_,_,A6,A7,n6,k6,n7,k7,a1,a2,((((j.drew.later f).later s).far2 am _ _).far2 an _ _),a5,a3,a4,?_,?_,?_,?_⟩
     ·rw [ZL];have:=HN.out;omega
     ·rw [ZL,ZL,Rat.neg_divInt_neg]
     ·simp only [canI,Zm,Int.natAbs_neg,Z8];exact hs
     ·simp only [canI,Zm,Int.natAbs_neg,Z8];exact hs2
   ·have N:0 < b.z:=(by have:=HB.out;omega);have F:sgn b.z=1:=Ui N;have HZ:=JZ N;clear hz N;go_wp2_with fail
    go_meet
    exact ⟨rfl,rfl,a,b,A,A',n,c,n',c',u,h,j,k,K,L,HZ.out,rfl,hs,hs2⟩
  case rest=>
   obtain ⟨rfl,rfl,x,y,B,B',m,d,m',d',U,D,aa,E,V,X,hy,ab,ac,Y⟩:=hcut;have HZ:=JZ hy;have ao:=JZ ab;clear hy ab u h j k K L hs hs2 M;obtain ⟨x0,x1,_,_⟩:=U.two;obtain ⟨y0,y1,_,_⟩:=D.two;go_wp2_with fail;refine (Yed _ _ x y _ V X ac Y).mono ?_;rintro e w6 ⟨v6,rfl,e6,f⟩;obtain ⟨A6,n6,k6,rfl,_⟩:=e6.shape;have bX:=U.later f;have bY:=D.later f;have bR:=aa.later f;have O:=Za E f E.size;have i1:=V.below f;have i2:=X.below f;clear U D aa E V X f x0 x1 y0 y1;have gz:(canI (Int.gcd (RI.z x) (RI.z y):Nat)).z=(Int.gcd (RI.z x) (RI.z y):Nat):=ZL _;have gs:(Zq (val (canI (Int.gcd (RI.z x) (RI.z y):Nat)).ds)).length≤549755813888:=by
    rw [show val (canI (Int.gcd (RI.z x) (RI.z y):Nat)).ds=Int.gcd (RI.z x) (RI.z y) from by simp [canI,Zm]];refine JW (Zy (Nat.le_of_dvd ?_ (show Int.gcd (RI.z x) (RI.z y)∣val (RI.ds y) from by rw [← Z8];exact Int.gcd_dvd_natAbs_right ..))) Y;have:=HZ.out;have:=Z8 y;omega
   generalize canI (Int.gcd (RI.z x) (RI.z y):Nat)=G at *;have GZ:=JZ gz;clear gz;have bG:=Bk.new w6 44 [.bool G.neg,.slice A6 n6 k6];have bn:=Zi w6 (.cells [.bool G.neg,.slice A6 n6 k6].toArray 44);have cX:=bX.later bn;have cY:=bY.later bn;have cR:=bR.later bn;have P:=Za O bn O.size;have j1:=i1.below bn;have j2:=i2.below bn;have j3:=e6.below bn;obtain ⟨x0,x1,_,_⟩:=cX.two;obtain ⟨y0,y1,_,_⟩:=cY.two;obtain ⟨g0,g1,_,_⟩:=bG.two;clear bX bY bR O i1 i2 e6 bn;go_wp2_with fail;generalize w6.alloc _=W7 at *;refine (Zhk _ _ x G _ j1 j3 ac gs).mono ?_;have R:G.z≠0:=by
    rw [GZ.out];have:=Int.gcd_pos_of_ne_zero_right (RI.z x) (show RI.z y≠0 by have:=HZ.out;omega);omega
   rintro e w8 ⟨q,r,rfl,dq,dr,l⟩;rw [if_neg R] at dq dr ⊢;obtain ⟨A8,n8,k8,rfl,_⟩:=dq.shape;obtain ⟨A9,n9,k9,rfl,_⟩:=dr.shape;have bX:=cX.later l;have bY:=cY.later l;have bR:=cR.later l;have a7:=bG.later l;have S:=Za P l P.size;have i2:=j2.below l;have i3:=j3.below l;clear cX cY cR P j1 j2 j3 bG l x0 x1 y0 y1 g0 g1;have ap:=JZ R;clear R;have hq:canI ((RI.z x).fdiv G.z)=canI ((RI.z x) / G.z):=(by rw [Int.fdiv_eq_ediv_of_nonneg _ (by rw [GZ.out];omega)]);rw [hq] at dq ⊢;clear hq;generalize canI ((RI.z x).fmod G.z)=R1 at *;generalize aj:canI ((RI.z x) / G.z)=Q1 at *;have aq:=JZ aj;clear aj;have bQ:=(Bk.new w8 44 [.bool Q1.neg,.slice A8 n8 k8]).alloc (.cells #[.bool R1.neg,.slice A9 n9 k9] 44);have bn:=(Zi w8 (.cells [.bool Q1.neg,.slice A8 n8 k8].toArray 44)).alloc (by simp) (.cells #[.bool R1.neg,.slice A9 n9 k9] 44);have cX:=bX.later bn;have cY:=bY.later bn;have cR:=bR.later bn;have cG:=a7.later bn;have T:=Za S bn S.size;have j2:=i2.below bn;have j3:=i3.below bn;have j4:=dq.below bn;obtain ⟨y0,y1,_,_⟩:=cY.two;obtain ⟨g0,g1,_,_⟩:=cG.two;obtain ⟨q0,q1,_,_⟩:=bQ.two;clear bX bY bR a7 S i2 i3 dq dr bn;go_wp2_with fail;generalize (w8.alloc _).alloc _=W9 at *;refine (Zhk _ _ y G _ j2 j3 Y gs).mono ?_;rintro e Z ⟨q',r',rfl,dq,dr,o⟩;rw [if_neg ap.out] at dq dr ⊢;obtain ⟨ad,ae,af,rfl,_⟩:=dq.shape;obtain ⟨ag,ah,ai,rfl,_⟩:=dr.shape;have bR:=cR.later o;have H:=bQ.later o;have v:=Za T o T.size;have i4:=j4.below o;clear cX cY cR cG T j2 j3 j4 bQ o y0 y1 g0 g1 q0 q1;have hq:canI ((RI.z y).fdiv G.z)=canI ((RI.z y) / G.z):=(by rw [Int.fdiv_eq_ediv_of_nonneg _ (by rw [GZ.out];omega)]);rw [hq] at dq ⊢;clear hq;generalize canI ((RI.z y).fmod G.z)=R2 at *;generalize ak:canI ((RI.z y) / G.z)=Q2 at *;have ar:=JZ ak;clear ak;have bD:=(Bk.new Z 44 [.bool Q2.neg,.slice ad ae af]).alloc (.cells #[.bool R2.neg,.slice ag ah ai] 44);have bn:=(Zi Z (.cells [.bool Q2.neg,.slice ad ae af].toArray 44)).alloc (by simp) (.cells #[.bool R2.neg,.slice ag ah ai] 44);have cR:=bR.later bn;have cQ:=H.later bn;have a8:=Za v bn v.size;have j4:=i4.below bn;have j5:=dq.below bn;obtain ⟨q0,q1,_,_⟩:=cQ.two;obtain ⟨d0,d1,_,_⟩:=bD.two;obtain ⟨c0,c1,c2,c3⟩:=cR.four;obtain ⟨f0,f1,f2,f3⟩:=cR.fourF;clear bR H v i4 dq dr bn;generalize av:(Z.alloc _).alloc _=b2 at *;go_wp2;refine Zp Tryz.results77 Tryz.underlying46 (by kernel_rfl) rfl (cR.set4 _ _ _ _) rfl ?_;rw [← ao.out,Zar HZ.out,Int.gcd_comm,← GZ.out,aq.out,ar.out];exact Yk cR (Zw.mk j4 j5) a8 (by omega)
namespace Pl
def qs (q:Rat):Int:=sgn q.num
theorem Zzu {x g:Int} (hg:0 < g) (h:g∣x):sgn (x / g)=sgn x:=by
 obtain ⟨k,rfl⟩:=h;rw [Int.mul_ediv_cancel_left _ (by omega)];unfold sgn;rcases Int.lt_trichotomy k 0 with h | h | h
 ·rw [if_pos h,if_pos (Int.mul_neg_of_pos_of_neg hg h)]
 ·subst h;simp
 ·have:=Int.mul_pos hg h;rw [if_neg (by omega),if_neg (by omega),if_neg (by omega),if_neg (by omega)]
theorem Znz (n d:Int):qs (Rat.divInt n d)=sgn n * sgn d:=by
 unfold qs;rw [Rat.num_divInt];rcases Int.lt_trichotomy d 0 with h | h | h
 ·have hg:0 < ((Int.gcd d n:Nat):Int):=by have:=Int.gcd_pos_of_ne_zero_left n (show d≠0 by omega);omega
  rw [Int.sign_eq_neg_one_of_neg h,Zzu hg (Int.dvd_mul_of_dvd_right (Int.gcd_dvd_right ..)),UR h];unfold sgn;rcases Int.lt_trichotomy n 0 with k | k | k
  ·rw [if_neg (by omega),if_neg (by omega),if_pos k];rfl
  ·subst k;simp
  ·rw [if_pos (by omega),if_neg (by omega),if_neg (by omega)];rfl
 ·subst h;simp [sgn_zero]
 ·have hg:0 < ((Int.gcd d n:Nat):Int):=by have:=Int.gcd_pos_of_ne_zero_left n (show d≠0 by omega);omega
  rw [Int.sign_eq_one_of_pos h,Zzu hg (Int.dvd_mul_of_dvd_right (Int.gcd_dvd_right ..)),Ui h,Int.one_mul,Int.mul_one]
theorem Zoa (z:Int): -1≤sgn z∧sgn z≤1:=by unfold sgn;split;omega;split <;> omega
theorem UY (q:Rat): -1≤qs q∧qs q≤1:=Zoa _
def zeroF:RF:=⟨canI 0,canI 0⟩
end Pl
theorem Zw.zero (w:World):Zw w (.agg #[.bool false,.slice none 0 0,.bool false,.slice none 0 0]) zeroF:=by
 have h:=Yv.zero w;have:=Zw.mk (x:=canI 0) (y:=canI 0) (by rw [canI_zero] at h ⊢;exact h) (by rw [canI_zero] at h ⊢;exact h);rw [canI_zero] at this;unfold zeroF;rw [canI_zero];exact this
def Zzv (n d:Int) (w:World) (e:Ending) (w':World):Prop:=
 ∃v',e= .returned (.tuple #[v',.int .i64 (if d=0 then 11 else 0)])∧Zw w' v' (if d=0 then zeroF else canF (Rat.divInt n d))∧Below w.heap.size w w'
theorem Yiv (v1 v2:Value) (a b:RI) (w:World) (h1:Yv w v1 a) (h2:Yv w v2 b) (hs:(Zq (val a.ds)).length≤549755813888) (hs2:(Zq (val b.ds)).length≤549755813888):
 Calls Tryz.prog 73 #[v1,v2] w (Zzv a.z b.z w):=by
 obtain ⟨A,n,c,rfl,hd⟩:=h1.shape;obtain ⟨A',n',c',rfl,s⟩:=h2.shape;obtain ⟨W,hW,hX,k,hR,i⟩:=Ynu w (.bool a.neg) (.slice A n c) (.bool b.neg) (.slice A' n' c');have e1:=h1.below i;have e2:=h2.below i;clear hd s h1 h2;obtain ⟨x0,x1,_,_⟩:=k.two;go_enter Tryz.func73,Tryz.ntmps73;go_wp2_with fail;clear hW;refine (Zaq _ b _ e2).mono ?_;rintro e w1 ⟨rfl,f⟩;have p:=hX.later f;have l:=k.later f;have g:=hR.later f;have h:=Za i f i.size;have q:=e1.below f;have r:=e2.below f;clear hX k hR i e1 e2 f x0 x1;by_cases ha:b.z=0
 ·rw [ha,sgn_zero];have HA:=JZ ha;clear ha;obtain ⟨c0,c1,c2,c3⟩:=g.four;obtain ⟨f0,f1,f2,f3⟩:=g.fourF;go_wp2;refine YX Tryz.results73 Tryz.underlying46 (by kernel_rfl) rfl (g.set4 _ _ _ _) rfl ?_;obtain ⟨v',q1,q2,q3⟩:=Yk g (Zw.zero w1) h (show w.heap.size≤w.heap.size+1+1 by omega);injection q1 with q1;subst q1;exact ⟨_,by rw [if_pos HA.out];rfl,by rw [if_pos HA.out];exact q2,q3⟩
 ·have t:(sgn b.z==0)=false:=by unfold sgn;split;rfl;rfl
  have HA:=JZ ha;clear ha;obtain ⟨x0,x1,_,_⟩:=p.two;obtain ⟨y0,y1,_,_⟩:=l.two;go_wp2_with fail;refine (X5 _ _ a b _ q r hs hs2 HA.out).mono ?_;rintro e w2 ⟨v2,rfl,e3,o⟩;have j:=g.later o;obtain ⟨B,m,d,B',m',d',rfl,_,_⟩:=id e3;obtain ⟨c0,c1,c2,c3⟩:=j.four;obtain ⟨f0,f1,f2,f3⟩:=j.fourF;go_wp2;refine YX Tryz.results73 Tryz.underlying46 (by kernel_rfl) rfl (j.set4 _ _ _ _) rfl ?_;obtain ⟨v',q1,q2,q3⟩:=Yk j e3 (Za h o h.size) (show w.heap.size≤w.heap.size+1+1 by omega);injection q1 with q1;subst q1;exact ⟨_,by rw [if_neg HA.out];rfl,by rw [if_neg HA.out];exact q2,q3⟩
theorem VJ (n d:Int) (w:World) (h0: -9223372036854775808≤n) (h1:n≤9223372036854775807) (h2: -9223372036854775808≤d) (h3:d≤9223372036854775807):
 Calls Tryz.prog 35 #[.int .i64 n,.int .i64 d] w (Zzv n d w):=by
 have hR:=Bk.new w 46 [.bool false,.slice none 0 0,.bool false,.slice none 0 0];have c:=Zi w (.cells [.bool false,.slice none 0 0,.bool false,.slice none 0 0].toArray 46);go_enter Tryz.func35,Tryz.ntmps35;go_wp2_with fail;generalize w.alloc _=W at *;refine (Xi n _ h0 h1).mono ?_;rintro e w1 ⟨v1,rfl,e1,f⟩;go_wp2_with fail;refine (Xi d _ h2 h3).mono ?_;rintro e w2 ⟨v2,rfl,e2,b⟩;go_wp2_with fail;refine (Yiv _ _ (canI n) (canI d) _ (e1.below b) e2 (JW (Vd h0 h1) (by decide)) (JW (Vd h2 h3) (by decide))).mono ?_;rw [ZL,ZL];rintro e w3 ⟨v3,rfl,e3,g⟩;generalize hE:(if d=0 then (11:Int) else 0)=ee at *;generalize hF:(if d=0 then zeroF else canF (Rat.divInt n d))=ff at *;have HE:=JZ hE;have HF:=JZ hF;clear hE hF;have a:=((hR.later f).later b).later g;have b1:=Za c f c.size;have b2:=Za b1 b b1.size;have b3:=Za b2 g b2.size;obtain ⟨B,m,d',B',m',h,rfl,_,_⟩:=id e3;obtain ⟨c0,c1,c2,c3⟩:=a.four;obtain ⟨f0,f1,f2,f3⟩:=a.fourF;go_wp2;refine YX Tryz.results35 Tryz.underlying46 (by kernel_rfl) rfl (a.set4 _ _ _ _) rfl ?_;obtain ⟨v',q1,q2,q3⟩:=Yk a e3 b3 (JY _);injection q1 with q1;subst q1;exact ⟨_,by rw [HE.out];rfl,by rw [HF.out];exact q2,q3⟩
theorem ZA (v:Value) (a:RF) (w:World) (h:Zw w v a):
 Calls Tryz.prog 100 #[v] w fun e w'=>e= .returned (.int .i64 (qs a.q))∧Below w.heap.size w w':=by
 obtain ⟨A,n,c,A',n',c',rfl,hd,i⟩:=h;have hX:=Bk.new w 46 [.bool a.num.neg,.slice A n c,.bool a.den.neg,.slice A' n' c'];have b:=Zi w (.cells [.bool a.num.neg,.slice A n c,.bool a.den.neg,.slice A' n' c'].toArray 46);have e1:Yv w (.agg #[.bool a.num.neg,.slice A n c]) a.num:=⟨_,rfl,hd⟩;have e2:Yv w (.agg #[.bool a.den.neg,.slice A' n' c']) a.den:=⟨_,rfl,i⟩;have e1:=e1.below b;have e2:=e2.below b;have HS:=JZ (Znz a.num.z a.den.z);have hw:IntKind.i64.wrap (sgn a.num.z * sgn a.den.z)=sgn a.num.z * sgn a.den.z:=by
  have:=Zoa a.num.z;have:=Zoa a.den.z;rw [← HS.out];have:=UY (Rat.divInt a.num.z a.den.z);simp only [IntKind.wrap,IntKind.bits,IntKind.signed];simp;omega
 have f:True:=trivial;go_enter Tryz.func100,Tryz.ntmps100;go_wp2_with fail;generalize w.alloc _=W at *
 go_region_held3 (fun w'=>w'.cell? ⟨w.heap.size,0,none⟩=some (.bool a.num.neg)∧w'.cell? ⟨w.heap.size,1,none⟩=some (.slice A n c)∧w'.cell? ⟨w.heap.size,2,none⟩=some (.bool a.den.neg)∧w'.cell? ⟨w.heap.size,3,none⟩=some (.slice A' n' c'))
  (first | with_reducible exact hX.four | with_reducible exact hX.drew.four | with_reducible exact (hX.drew.later d).four | with_reducible exact ((hX.drew.later d).later g).four)
  (first
   | (go_at_call 124;have _t:=f;refine (Zaq _ a.num _ (e1.keep (ZG.drew _))).mono ?_;clear f _t;rintro e w6 ⟨rfl,d⟩)
   | (go_at_call 124;refine (Zaq _ a.den _ ((e2.keep (ZG.drew _)).below d)).mono ?_;rintro e w7 ⟨rfl,g⟩))
 go_wp2;go_ret;refine ⟨?_,Za (Za b.drew d b.size) g (JW b.size d.size)⟩;rw [show qs a.q=sgn a.num.z * sgn a.den.z from HS.out];rfl
end Go.Proofs.YtgbhebappffbdaaGreat
namespace Go.Proofs.YtgbhebappffbdaaGreat
open Go.RowKit
open Pl
attribute [local go_sem ↓] Go.wp_at_zero Go.wp_at_succ
namespace Pl
theorem XB (m n:Nat):(Zq (m * n)).length≤(Zq m).length+(Zq n).length:=by
 apply Xw;rw [Nat.pow_add];have h1:=Yz m;have h2:=Yz n;exact Nat.mul_lt_mul'' h1 h2
theorem Zzw (m n k:Nat) (h1:(Zq m).length≤k) (h2:(Zq n).length≤k):(Zq (m+n)).length≤k+1:=by
 apply Xw;have a1:=Nat.lt_of_lt_of_le (Yz m) (Nat.pow_le_pow_right B32_pos h1);have a2:=Nat.lt_of_lt_of_le (Yz n) (Nat.pow_le_pow_right B32_pos h2);rw [Nat.pow_succ];generalize B32^k=p at *;unfold B32;omega
theorem YP (z:Int):val (canI z).ds=z.natAbs:=Zm _
theorem RI.Sm.mul {a b:RI} (h1:a.Sm) (h2:b.Sm):(Zq (val (canI (a.z * b.z)).ds)).length≤137438953472:=by
 unfold RI.Sm at h1 h2;rw [YP,Int.natAbs_mul,Z8,Z8];exact JW (XB _ _) (by omega)
theorem RI.Sm.two {a b:RI} (h1:a.Sm) (h2:b.Sm):(Zq (val a.ds)).length+(Zq (val b.ds)).length≤1099511627776:=by
 unfold RI.Sm at h1 h2;omega
theorem Zro {n d m k:Int} {p q:Rat} (h:okq n d p) (g:okq m k q):(-9223372036854775807≤n * m∧n * m≤9223372036854775807)∧(0 < d * k∧d * k≤9223372036854775807)∧Rat.divInt (n * m) (d * k)=p * q:=by
 obtain ⟨⟨a1,a2⟩,a3,a4,rfl⟩:=h;obtain ⟨⟨b1,b2⟩,b3,b4,rfl⟩:=g;refine ⟨?_,⟨Int.mul_pos a3 b3,?_⟩,(Rat.divInt_mul_divInt _ _).symm⟩
 ·exact prod_bd (by omega) (by omega) (by omega) (by omega)
 ·exact (prod_bd (by omega) (by omega) (by omega) (by omega)).2
 where
  prod_bd {x y:Int} (h1: -2147483648≤x) (h2:x≤2147483648) (h3: -2147483648≤y) (h4:y≤2147483648): -9223372036854775807≤x * y∧x * y≤9223372036854775807:=by
   have e:(x * y).natAbs≤2147483648 * 2147483648:=(by rw [Int.natAbs_mul];exact Nat.mul_le_mul (by omega) (by omega));omega
end Pl
theorem Zob (w:World) (x1 x2 x3 x4 y1 y2 y3 y4:Value):∃W,((w.alloc (.cells #[x1,x2,x3,x4] 46)).alloc (.cells #[y1,y2,y3,y4] 46)).alloc (.cells #[.bool false,.slice none 0 0,.bool false,.slice none 0 0] 46)=W∧Bk W w.heap.size 46 [x1,x2,x3,x4]∧Bk W (w.heap.size+1) 46 [y1,y2,y3,y4]∧
 Bk W (w.heap.size+1+1) 46 [.bool false,.slice none 0 0,.bool false,.slice none 0 0]∧Below w.heap.size w W:=by
 obtain ⟨W,hW,hs,h1,h2,hb⟩:=Zjr w x1 x2 x3 x4 y1 y2 y3 y4;exact ⟨_,by rw [hW],h1.alloc _,h2.alloc _,Bk.next hs _ _ hb,hb.alloc hb.size _⟩
theorem Zoc (w:World) (x y z u:Int):∃W,(w.alloc (.cells #[.int .i64 x,.int .i64 y] 121)).alloc (.cells #[.int .i64 z,.int .i64 u] 121)=W∧Bk W w.heap.size 121 [.int .i64 x,.int .i64 y]∧Bk W (w.heap.size+1) 121 [.int .i64 z,.int .i64 u]∧Below w.heap.size w W:=by
 refine ⟨_,rfl,(Bk.new w _ [.int .i64 x,.int .i64 y]).alloc _,?_,(Zi w _).alloc (by simp) _⟩;have:=Bk.new (w.alloc (.cells #[.int .i64 x,.int .i64 y] 121)) 121 [.int .i64 z,.int .i64 u]
 rwa [size_alloc] at this
theorem Pl.pos_ne {x y:Int} (h:0 < x) (k:0 < y):(canI (x * y)).z≠0:=by
 rw [ZL];have:=Int.mul_pos h k;omega
theorem WL (v1 v2:Value) (a b:RF) (w:World) (h1:Zw w v1 a) (h2:Zw w v2 b) (hs:a.Sm) (hs2:b.Sm):
 Calls Tryz.prog 95 #[v1,v2] w fun e w'=>∃v',e= .returned v'∧Zw w' v' (canF (a.q * b.q))∧Below w.heap.size w w':=by
 obtain ⟨A,n,c,A',n',c',rfl,hd,ap⟩:=id h1;obtain ⟨B,m,d,B',m',d',rfl,ke,aq⟩:=id h2;obtain ⟨W,hW,hX,hY,hR,J⟩:=Zob w (.bool a.num.neg) (.slice A n c) (.bool a.den.neg) (.slice A' n' c') (.bool b.num.neg) (.slice B m d) (.bool b.den.neg) (.slice B' m' d');have e1:=h1.below J;have e2:=h2.below J;obtain ⟨p1,p2,p3,p4⟩:=hX.four;obtain ⟨r1,r2,r3,r4⟩:=hY.four;clear h1 h2 hd ap ke aq;go_enter Tryz.func95,Tryz.ntmps95;go_wp2_with fail;clear hW;refine (UX _ _ a b _ e1 e2).mono ?_;rintro e w1 ⟨x,y,z,u,ok,rfl,hq,F⟩;have HQ:=JZ hq;have P:=hX.later F;have R:=hY.later F;have S:=hR.later F;have H:=Za J F J.size;have T:=e1.below F;have U:=e2.below F;clear hq hX hY hR J e1 e2 F p1 p2 p3 p4 r1 r2 r3 r4;obtain ⟨W2,a7,bW,bV,bn⟩:=Zoc w1 x y z u;have V:=P.later bn;have X:=R.later bn;have M:=S.later bn;have k:=Za H bn H.size;have Y:=T.below bn;have Z:=U.below bn;clear P R S H T U bn
 cases ok
 ·obtain ⟨p1,p2,p3,p4⟩:=V.four;clear HQ;go_wp2_with fail;clear a7;refine (XA _ a _ Y hs).mono ?_;rintro e w3 ⟨v1,v2,N,D,rfl,iN,iD,hD,a8,sN,sD,G⟩;have HD:=JZ hD;have ad:=JZ a8;obtain ⟨A3,n3,k3,rfl,_⟩:=iN.shape;obtain ⟨A4,n4,k4,rfl,_⟩:=iD.shape;obtain ⟨W3,ar,bN,bD,bn⟩:=boxes w3 (.bool N.neg) (.slice A3 n3 k3) (.bool D.neg) (.slice A4 n4 k4);have o:=Za G bn G.size;have a0:=X.later o;have E:=M.later o;have I:=Za k o k.size;have a1:=Z.below o;have a2:=iN.below bn;have a3:=iD.below bn;clear hD a8 V X M k Y Z G o bn iN iD p1 p2 p3 p4 bW bV hs;obtain ⟨r1,r2,r3,r4⟩:=a0.four;go_wp2_with fail;clear ar;refine (XA _ b _ a1 hs2).mono ?_;rintro e w5 ⟨v1,v2,N',D',rfl,jN,jD,a9,aa,ab,ac,O⟩;have ae:=JZ a9;have af:=JZ aa;obtain ⟨A5,n5,k5,rfl,_⟩:=jN.shape;obtain ⟨A6,n6,k6,rfl,_⟩:=jD.shape;obtain ⟨W5,au,t,v,bn⟩:=boxes w5 (.bool N'.neg) (.slice A5 n5 k5) (.bool D'.neg) (.slice A6 n6 k6);have j:=Za O bn O.size;have p:=bN.later j;have r:=bD.later j;have s:=E.later j;have K:=Za I j I.size;have ag:=a2.below j;have ah:=a3.below j;have ai:=jN.below bn;have aj:=jD.below bn;clear a9 aa a0 E I a1 O j bn jN jD r1 r2 r3 r4 bN bD a2 a3 hs2;obtain ⟨x0,x1,_,_⟩:=p.two;obtain ⟨y0,y1,_,_⟩:=r.two;obtain ⟨av,aw,_,_⟩:=t.two;obtain ⟨ax,ay,_,_⟩:=v.two;have ak:w3.heap.size≠w.heap.size+1+1:=(p.ne_of s (by decide));have al:w3.heap.size+1≠w.heap.size+1+1:=(r.ne_of s (by decide));have am:w5.heap.size≠w.heap.size+1+1:=(t.ne_of s (by decide));have an:w5.heap.size+1≠w.heap.size+1+1:=(v.ne_of s (by decide));have a4:True:=trivial;go_wp2_with fail;clear au
  go_region_held3 (fun w'=>(w'.cell? ⟨w3.heap.size,0,none⟩=some (.bool N.neg)∧w'.cell? ⟨w3.heap.size,1,none⟩=some (.slice A3 n3 k3))∧(w'.cell? ⟨w3.heap.size+1,0,none⟩=some (.bool D.neg)∧w'.cell? ⟨w3.heap.size+1,1,none⟩=some (.slice A4 n4 k4))∧(w'.cell? ⟨w5.heap.size,0,none⟩=some (.bool N'.neg)∧w'.cell? ⟨w5.heap.size,1,none⟩=some (.slice A5 n5 k5))∧(w'.cell? ⟨w5.heap.size+1,0,none⟩=some (.bool D'.neg)∧w'.cell? ⟨w5.heap.size+1,1,none⟩=some (.slice A6 n6 k6)))
   (first | with_reducible exact ⟨p.pair,r.pair,t.pair,v.pair⟩ | with_reducible exact ⟨p.drew.pair,r.drew.pair,t.drew.pair,v.drew.pair⟩ | with_reducible exact ⟨(p.drew.later g).pair,(r.drew.later g).pair,(t.drew.later g).pair,(v.drew.later g).pair⟩ | with_reducible exact ⟨((p.drew.later g).later h).pair,((r.drew.later g).later h).pair,((t.drew.later g).later h).pair,((v.drew.later g).later h).pair⟩ | with_reducible exact ⟨(((p.drew.later g).later h).later i).pair,(((r.drew.later g).later h).later i).pair,(((t.drew.later g).later h).later i).pair,(((v.drew.later g).later h).later i).pair⟩ | with_reducible exact ⟨((((p.drew.later g).later h).later i).far4 ak _ _ _ _).pair,((((r.drew.later g).later h).later i).far4 al _ _ _ _).pair,((((t.drew.later g).later h).later i).far4 am _ _ _ _).pair,((((v.drew.later g).later h).later i).far4 an _ _ _ _).pair⟩)
   (first
    | (go_at_call 93;have _t:=a4;refine (XR _ _ N N' _ (ag.keep (ZG.drew _)) (ai.keep (ZG.drew _)) (RI.Sm.two sN ab)).mono ?_;clear a4 _t;rintro e w6 ⟨v6,rfl,e6,g⟩)
    | (go_at_call 93;refine (XR _ _ D D' _ ((ah.keep (ZG.drew _)).below g) ((aj.keep (ZG.drew _)).below g) (RI.Sm.two sD ac)).mono ?_;rintro e w7 ⟨v7,rfl,e7,h⟩)
    | (go_at_call 77;refine (X5 _ _ (canI (N.z * N'.z)) (canI (D.z * D'.z)) _ (e6.below h) e7 (JW (RI.Sm.mul sN ab) (by decide)) (JW (RI.Sm.mul sD ac) (by decide)) (pos_ne HD.out ae.out)).mono ?_;rw [ZL,ZL,← Rat.divInt_mul_divInt,ad.out,af.out];rintro e w8 ⟨v8,rfl,e8,i⟩;obtain ⟨C,l,f,C',l',f',rfl,_,_⟩:=id e8;obtain ⟨c0,c1,c2,c3⟩:=(((s.drew.later g).later h).later i).four;obtain ⟨f0,f1,f2,f3⟩:=(((s.drew.later g).later h).later i).fourF))
  go_wp2;refine Zp Tryz.results95 Tryz.underlying46 (by kernel_rfl) rfl ((((s.drew.later g).later h).later i).set4 _ _ _ _) rfl ?_;have a5:=Za K.drew g K.size;have a6:=Za a5 h a5.size;have ao:=Za a6 i a6.size;exact Yk (((s.drew.later g).later h).later i) e8 ao (by omega)
 ·obtain ⟨⟨b1,b2⟩,⟨b3,b4⟩,L⟩:=Zro (HQ.out rfl).1 (HQ.out rfl).2;have HV:=JZ L;obtain ⟨q0,q1,_,_⟩:=bW.two;obtain ⟨s0,s1,_,_⟩:=bV.two;clear L HQ;have t1:IntKind.i64.wrap (x * z)=x * z:=by simp only [IntKind.wrap,IntKind.bits,IntKind.signed];simp;omega
  have t2:IntKind.i64.wrap (y * u)=y * u:=by simp only [IntKind.wrap,IntKind.bits,IntKind.signed];simp;omega
  go_wp2_with fail;clear a7;refine (XL (x * z) (y * u) _ b1 b2 b3 b4).mono ?_;rw [HV.out];rintro e w3 ⟨v3,rfl,e3,G⟩;have E:=M.later G;obtain ⟨C,l,f,C',l',f',rfl,_,_⟩:=id e3;obtain ⟨c0,c1,c2,c3⟩:=E.four;obtain ⟨f0,f1,f2,f3⟩:=E.fourF;go_wp2;refine Zp Tryz.results95 Tryz.underlying46 (by kernel_rfl) rfl (E.set4 _ _ _ _) rfl ?_;exact Yk E e3 (Za k G k.size) (by omega)
namespace Pl
theorem Zzx {n d m k:Int} {p q:Rat} (h:okq n d p) (g:okq m k q):(-9223372036854775807≤n * k+m * d∧n * k+m * d≤9223372036854775807)∧(0 < d * k∧d * k≤9223372036854775807)∧((-4611686018427387904≤n * k∧n * k≤4611686018427387904)∧(-4611686018427387904≤m * d∧m * d≤4611686018427387904))∧Rat.divInt (n * k+m * d) (d * k)=p+q:=by
 obtain ⟨⟨a1,a2⟩,a3,a4,rfl⟩:=h;obtain ⟨⟨b1,b2⟩,b3,b4,rfl⟩:=g;have e1:=prod_bd1 (x:=n) (y:=k) (by omega) (by omega) (by omega) (by omega);have e2:=prod_bd1 (x:=m) (y:=d) (by omega) (by omega) (by omega) (by omega);have e3:=prod_bd1 (x:=d) (y:=k) (by omega) (by omega) (by omega) (by omega);refine ⟨⟨by omega,by omega⟩,⟨Int.mul_pos a3 b3,by omega⟩,⟨⟨by omega,by omega⟩,⟨by omega,by omega⟩⟩,?_⟩;rw [Rat.divInt_add_divInt _ _ (by omega) (by omega)]
 where
  prod_bd1 {x y:Int} (h1: -2147483647≤x) (h2:x≤2147483647) (h3: -2147483647≤y) (h4:y≤2147483647): -4611686014132420609≤x * y∧x * y≤4611686014132420609:=by
   have e:(x * y).natAbs≤2147483647 * 2147483647:=(by rw [Int.natAbs_mul];exact Nat.mul_le_mul (by omega) (by omega));omega
theorem Zcz {x y:Int} {k:Nat} (h1:(Zq x.natAbs).length≤k) (h2:(Zq y.natAbs).length≤k):(Zq (x+y).natAbs).length≤k+1:=
 JW (Zy (Int.natAbs_add_le x y)) (Zzw _ _ _ h1 h2)
theorem RI.Sm.add {a b:RI} (h1:a.Sm) (h2:b.Sm):(Zq (val (canI (a.z+b.z)).ds)).length≤549755813888:=by
 unfold RI.Sm at h1 h2;rw [YP];rw [← Z8] at h1 h2;exact JW (Zcz h1 h2) (by omega)
theorem RI.Sm.adds {a b c d:RI} (h1:a.Sm) (h2:b.Sm) (h3:c.Sm) (h4:d.Sm):(Zq (val (canI ((canI (a.z * b.z)).z+(canI (c.z * d.z)).z)).ds)).length≤549755813888:=by
 have e1:=RI.Sm.mul h1 h2;have e2:=RI.Sm.mul h3 h4;rw [YP] at e1 e2 ⊢;rw [ZL,ZL];exact JW (Zcz e1 e2) (by omega)
theorem Uk {z:Int}:sgn z=0↔z=0:=by
 unfold sgn;split;omega;split <;> omega
theorem Ztv {n m d:Int} (h:d≠0):Rat.divInt n d+Rat.divInt m d=Rat.divInt (n+m) d:=by
 rw [Rat.divInt_add_divInt _ _ h h,← Int.add_mul,Rat.divInt_mul_right h]
end Pl
theorem Zas (v1 v2:Value) (a b:RF) (w:World) (h1:Zw w v1 a) (h2:Zw w v2 b) (hs:a.Sm) (hs2:b.Sm):
 Calls Tryz.prog 94 #[v1,v2] w fun e w'=>∃v',e= .returned v'∧Zw w' v' (canF (a.q+b.q))∧Below w.heap.size w w':=by
 obtain ⟨A,n,c,A',n',c',rfl,hd,bp⟩:=id h1;obtain ⟨B,m,d,B',m',d',rfl,ke,bq⟩:=id h2;obtain ⟨W,hW,hX,hY,hR,U⟩:=Zob w (.bool a.num.neg) (.slice A n c) (.bool a.den.neg) (.slice A' n' c') (.bool b.num.neg) (.slice B m d) (.bool b.den.neg) (.slice B' m' d');have e1:=h1.below U;have e2:=h2.below U;obtain ⟨p1,p2,p3,p4⟩:=hX.four;obtain ⟨r1,r2,r3,r4⟩:=hY.four;clear h1 h2 hd bp ke bq;go_enter Tryz.func94,Tryz.ntmps94;go_wp2_with fail;clear hW;refine (UX _ _ a b _ e1 e2).mono ?_;rintro e w1 ⟨x,y,z,u,ok,rfl,hq,J⟩;have HQ:=JZ hq;have ad:=hX.later J;have ae:=hY.later J;have af:=hR.later J;have O:=Za U J U.size;have P:=e1.below J;have ag:=e2.below J;clear hq hX hY hR U e1 e2 J p1 p2 p3 p4 r1 r2 r3 r4;obtain ⟨W2,bd,bW,bV,bn⟩:=Zoc w1 x y z u;have ah:=ad.later bn;have ai:=ae.later bn;have a8:=af.later bn;have F:=Za O bn O.size;have aj:=P.below bn;have ak:=ag.below bn;clear ad ae af O P ag bn
 cases ok
 ·obtain ⟨p1,p2,p3,p4⟩:=ah.four;clear HQ;go_wp2_with fail;clear bd;refine (XA _ a _ aj hs).mono ?_;rintro e w3 ⟨v1,v2,N,D,rfl,iN,iD,hD,bi,sN,sD,M⟩;have HD:=JZ hD;have al:=JZ bi;obtain ⟨A3,n3,k3,rfl,_⟩:=iN.shape;obtain ⟨A4,n4,k4,rfl,_⟩:=iD.shape;obtain ⟨W3,br,bN,bD,bn⟩:=boxes w3 (.bool N.neg) (.slice A3 n3 k3) (.bool D.neg) (.slice A4 n4 k4);have G:=Za M bn M.size;have am:=ai.later G;have I:=a8.later G;have R:=Za F G F.size;have an:=ak.below G;have ao:=iN.below bn;have ap:=iD.below bn;clear hD bi ah ai a8 F aj ak M G bn iN iD p1 p2 p3 p4 bW bV hs;obtain ⟨r1,r2,r3,r4⟩:=am.four;go_wp2_with fail;clear br;refine (XA _ b _ an hs2).mono ?_;rintro e w5 ⟨v1,v2,N',D',rfl,jN,jD,bj,bk,V,X,ac⟩;have aq:=JZ bj;have ar:=JZ bk;obtain ⟨A5,n5,k5,rfl,_⟩:=jN.shape;obtain ⟨A6,n6,k6,rfl,_⟩:=jD.shape;obtain ⟨W5,bs,a3,a4,bn⟩:=boxes w5 (.bool N'.neg) (.slice A5 n5 k5) (.bool D'.neg) (.slice A6 n6 k6);have v:=Za ac bn ac.size;have Z:=bN.later v;have a0:=bD.later v;have L:=I.later v;have S:=Za R v R.size;have au:=ao.below v;have a9:=ap.below v;have av:=jN.below bn;have aa:=jD.below bn;clear bj bk am I R an ac v bn jN jD r1 r2 r3 r4 bN bD ao ap hs2;obtain ⟨x0,x1,_,_⟩:=Z.two;obtain ⟨y0,y1,_,_⟩:=a0.two;obtain ⟨be,bf,_,_⟩:=a3.two;obtain ⟨bg,bh,_,_⟩:=a4.two;have aw:w3.heap.size≠w.heap.size+1+1:=(Z.ne_of L (by decide));have ax:w3.heap.size+1≠w.heap.size+1+1:=(a0.ne_of L (by decide));have ay:w5.heap.size≠w.heap.size+1+1:=(a3.ne_of L (by decide));have az:w5.heap.size+1≠w.heap.size+1+1:=(a4.ne_of L (by decide));go_wp2_with fail;clear bs;refine (UV _ _ D D' _ a9 aa).mono ?_;rintro e w6 ⟨rfl,E⟩;have s:=Z.later E;have t:=a0.later E;have o:=a3.later E;have p:=a4.later E;have H:=L.later E;have K:=Za S E S.size;have b0:=au.below E;have ab:=a9.below E;have b9:=av.below E;have ba:=aa.below E;clear Z a0 a3 a4 L S au a9 av aa E x0 x1 y0 y1 be bf bg bh;have a5:True:=trivial;have a6:True:=trivial;obtain ⟨x0,x1,_,_⟩:=s.two;obtain ⟨y0,y1,_,_⟩:=t.two;obtain ⟨be,bf,_,_⟩:=o.two;obtain ⟨bg,bh,_,_⟩:=p.two;by_cases Y:D.z=D'.z
  ·have a1:sgn (D.z - D'.z)=0:=(by rw [Y];simp [sgn]);rw [a1];have bl:=JZ Y;clear a1 Y;go_wp2_with fail
   go_region_held3 (fun w'=>(w'.cell? ⟨w3.heap.size,0,none⟩=some (.bool N.neg)∧w'.cell? ⟨w3.heap.size,1,none⟩=some (.slice A3 n3 k3))∧(w'.cell? ⟨w3.heap.size+1,0,none⟩=some (.bool D.neg)∧w'.cell? ⟨w3.heap.size+1,1,none⟩=some (.slice A4 n4 k4))∧(w'.cell? ⟨w5.heap.size,0,none⟩=some (.bool N'.neg)∧w'.cell? ⟨w5.heap.size,1,none⟩=some (.slice A5 n5 k5))∧(w'.cell? ⟨w5.heap.size+1,0,none⟩=some (.bool D'.neg)∧w'.cell? ⟨w5.heap.size+1,1,none⟩=some (.slice A6 n6 k6)))
    (first | with_reducible exact ⟨s.pair,t.pair,o.pair,p.pair⟩ | with_reducible exact ⟨s.drew.pair,t.drew.pair,o.drew.pair,p.drew.pair⟩ | with_reducible exact ⟨(s.drew.later g).pair,(t.drew.later g).pair,(o.drew.later g).pair,(p.drew.later g).pair⟩ | with_reducible exact ⟨((s.drew.later g).later i).pair,((t.drew.later g).later i).pair,((o.drew.later g).later i).pair,((p.drew.later g).later i).pair⟩ | with_reducible exact ⟨(((s.drew.later g).later i).far4 aw _ _ _ _).pair,(((t.drew.later g).later i).far4 ax _ _ _ _).pair,(((o.drew.later g).later i).far4 ay _ _ _ _).pair,(((p.drew.later g).later i).far4 az _ _ _ _).pair⟩)
    (first
     | (go_at_call 137;refine (Ztu _ _ N N' _ (b0.keep (ZG.drew _)) (b9.keep (ZG.drew _)) (JW sN (by decide)) (JW V (by decide))).mono ?_;rintro e w7 ⟨v7,rfl,e7,g⟩)
     | (go_at_call 77;refine (X5 _ _ (canI (N.z+N'.z)) D _ e7 ((ab.keep (ZG.drew _)).below g) (RI.Sm.add sN V) (JW sD (by decide)) (Int.ne_of_gt HD.out)).mono ?_;rw [ZL,← Ztv (Int.ne_of_gt HD.out),al.out,bl.out,ar.out];rintro e w8 ⟨v8,rfl,e8,i⟩;obtain ⟨C,l,f,C',l',f',rfl,_,_⟩:=id e8;obtain ⟨c0,c1,c2,c3⟩:=((H.drew.later g).later i).four;obtain ⟨f0,f1,f2,f3⟩:=((H.drew.later g).later i).fourF))
   go_wp2;refine Zp Tryz.results94 Tryz.underlying46 (by kernel_rfl) rfl (((H.drew.later g).later i).set4 _ _ _ _) rfl ?_;have T:=Za K.drew g K.size;have a2:=Za T i T.size;exact Yk ((H.drew.later g).later i) e8 a2 (by omega)
  ·have a1:(sgn (D.z - D'.z)==0)=false:=by
    have:sgn (D.z - D'.z)≠0:=fun h=>Y (by have:=Uk.1 h;omega)
    simpa using this
   have bm:=Zoa (D.z - D'.z);generalize sgn (D.z - D'.z)=sg at *;clear Y;go_wp2_with fail;clear a1 bm
   go_region_held3 (fun w'=>(w'.cell? ⟨w3.heap.size,0,none⟩=some (.bool N.neg)∧w'.cell? ⟨w3.heap.size,1,none⟩=some (.slice A3 n3 k3))∧(w'.cell? ⟨w3.heap.size+1,0,none⟩=some (.bool D.neg)∧w'.cell? ⟨w3.heap.size+1,1,none⟩=some (.slice A4 n4 k4))∧(w'.cell? ⟨w5.heap.size,0,none⟩=some (.bool N'.neg)∧w'.cell? ⟨w5.heap.size,1,none⟩=some (.slice A5 n5 k5))∧(w'.cell? ⟨w5.heap.size+1,0,none⟩=some (.bool D'.neg)∧w'.cell? ⟨w5.heap.size+1,1,none⟩=some (.slice A6 n6 k6)))
    (first | with_reducible exact ⟨s.pair,t.pair,o.pair,p.pair⟩ | with_reducible exact ⟨s.drew.pair,t.drew.pair,o.drew.pair,p.drew.pair⟩ | with_reducible exact ⟨(s.drew.later g).pair,(t.drew.later g).pair,(o.drew.later g).pair,(p.drew.later g).pair⟩ | with_reducible exact ⟨((s.drew.later g).later i).pair,((t.drew.later g).later i).pair,((o.drew.later g).later i).pair,((p.drew.later g).later i).pair⟩ | with_reducible exact ⟨(((s.drew.later g).later i).later k).pair,(((t.drew.later g).later i).later k).pair,(((o.drew.later g).later i).later k).pair,(((p.drew.later g).later i).later k).pair⟩ | with_reducible exact ⟨((((s.drew.later g).later i).later k).later j).pair,((((t.drew.later g).later i).later k).later j).pair,((((o.drew.later g).later i).later k).later j).pair,((((p.drew.later g).later i).later k).later j).pair⟩ | with_reducible exact ⟨(((((s.drew.later g).later i).later k).later j).later r).pair,(((((t.drew.later g).later i).later k).later j).later r).pair,(((((o.drew.later g).later i).later k).later j).later r).pair,(((((p.drew.later g).later i).later k).later j).later r).pair⟩ | with_reducible exact ⟨((((((s.drew.later g).later i).later k).later j).later r).far4 aw _ _ _ _).pair,((((((t.drew.later g).later i).later k).later j).later r).far4 ax _ _ _ _).pair,((((((o.drew.later g).later i).later k).later j).later r).far4 ay _ _ _ _).pair,((((((p.drew.later g).later i).later k).later j).later r).far4 az _ _ _ _).pair⟩)
    (first
     | (go_at_call 93;have _t:=a5;refine (XR _ _ N D' _ (b0.keep (ZG.drew _)) (ba.keep (ZG.drew _)) (RI.Sm.two sN X)).mono ?_;clear a5 _t;rintro e w7 ⟨v7,rfl,e7,g⟩)
     | (go_at_call 93;have _t:=a6;refine (XR _ _ N' D _ ((b9.keep (ZG.drew _)).below g) ((ab.keep (ZG.drew _)).below g) (RI.Sm.two V sD)).mono ?_;clear a6 _t;rintro e w8 ⟨v8,rfl,e8,i⟩)
     | (go_at_call 137;refine (Ztu _ _ (canI (N.z * D'.z)) (canI (N'.z * D.z)) _ (e7.below i) e8 (JW (RI.Sm.mul sN X) (by decide)) (JW (RI.Sm.mul V sD) (by decide))).mono ?_;rintro e w9 ⟨v9,rfl,e9,k⟩)
     | (go_at_call 93;refine (XR _ _ D D' _ ((((ab.keep (ZG.drew _)).below g).below i).below k) ((((ba.keep (ZG.drew _)).below g).below i).below k) (RI.Sm.two sD X)).mono ?_;rintro e bu ⟨bv,rfl,bt,j⟩)
     | (go_at_call 77;refine (X5 _ _ (canI ((canI (N.z * D'.z)).z+(canI (N'.z * D.z)).z)) (canI (D.z * D'.z)) _ (e9.below j) bt (RI.Sm.adds sN X V sD) (JW (RI.Sm.mul sD X) (by decide)) (pos_ne HD.out aq.out)).mono ?_;rw [ZL,ZL,ZL,ZL,← Rat.divInt_add_divInt _ _ (Int.ne_of_gt HD.out) (Int.ne_of_gt aq.out),al.out,ar.out];rintro e bw ⟨bx,rfl,P,r⟩;obtain ⟨C,l,f,C',l',f',rfl,_,_⟩:=id P;obtain ⟨c0,c1,c2,c3⟩:=(((((H.drew.later g).later i).later k).later j).later r).four;obtain ⟨f0,f1,f2,f3⟩:=(((((H.drew.later g).later i).later k).later j).later r).fourF))
   go_wp2;refine Zp Tryz.results94 Tryz.underlying46 (by kernel_rfl) rfl ((((((H.drew.later g).later i).later k).later j).later r).set4 _ _ _ _) rfl ?_;have T:=Za K.drew g K.size;have a2:=Za T i T.size;have bb:=Za a2 k a2.size;have bc:=Za bb j bb.size;have bo:=Za bc r bc.size;exact Yk (((((H.drew.later g).later i).later k).later j).later r) P bo (by omega)
 ·obtain ⟨⟨b1,b2⟩,⟨b3,b4⟩,⟨⟨b5,b6⟩,⟨b7,b8⟩⟩,a7⟩:=Zzx (HQ.out rfl).1 (HQ.out rfl).2;have HV:=JZ a7;obtain ⟨q0,q1,_,_⟩:=bW.two;obtain ⟨s0,s1,_,_⟩:=bV.two;clear a7 HQ;have t1:IntKind.i64.wrap (x * u+z * y)=x * u+z * y:=by simp only [IntKind.wrap,IntKind.bits,IntKind.signed];simp;omega
  have t2:IntKind.i64.wrap (y * u)=y * u:=by simp only [IntKind.wrap,IntKind.bits,IntKind.signed];simp;omega
  have t3:IntKind.i64.wrap (x * u)=x * u:=by simp only [IntKind.wrap,IntKind.bits,IntKind.signed];simp;omega
  have t4:IntKind.i64.wrap (z * y)=z * y:=by simp only [IntKind.wrap,IntKind.bits,IntKind.signed];simp;omega
  go_wp2_with fail;clear bd;refine (XL (x * u+z * y) (y * u) _ b1 b2 b3 b4).mono ?_;rw [HV.out];rintro e w3 ⟨v3,rfl,e3,M⟩;have I:=a8.later M;obtain ⟨C,l,f,C',l',f',rfl,_,_⟩:=id e3;obtain ⟨c0,c1,c2,c3⟩:=I.four;obtain ⟨f0,f1,f2,f3⟩:=I.fourF;go_wp2;refine Zp Tryz.results94 Tryz.underlying46 (by kernel_rfl) rfl (I.set4 _ _ _ _) rfl ?_;exact Yk I e3 (Za F M F.size) (by omega)
namespace Pl
theorem Yhd {n d m k:Int} (hd:0 < d) (hk:0 < k):qs (Rat.divInt n d - Rat.divInt m k)=sgn (n * k - m * d):=by
 rw [Rat.divInt_sub_divInt _ _ (by omega) (by omega),Znz,Ui (Int.mul_pos hd hk),Int.mul_one]
theorem Yiw {n d m k:Int} {p q:Rat} (h:okq n d p) (g:okq m k q):((-9223372036854775807≤n * k∧n * k≤9223372036854775807)∧(-9223372036854775807≤m * d∧m * d≤9223372036854775807))∧qs (p - q)=sgn (n * k - m * d):=by
 obtain ⟨⟨a1,a2⟩,a3,a4,rfl⟩:=h;obtain ⟨⟨b1,b2⟩,b3,b4,rfl⟩:=g;exact ⟨⟨Zro.prod_bd (by omega) (by omega) (by omega) (by omega),Zro.prod_bd (by omega) (by omega) (by omega) (by omega)⟩,Yhd a3 b3⟩
end Pl
theorem UZ (v1 v2:Value) (a b:RF) (w:World) (h1:Zw w v1 a) (h2:Zw w v2 b) (hs:a.Sm) (hs2:b.Sm):
 Calls Tryz.prog 50 #[v1,v2] w fun e w'=>e= .returned (.int .i64 (qs (a.q - b.q)))∧Below w.heap.size w w':=by
 obtain ⟨A,n,c,A',n',c',rfl,hd,ac⟩:=id h1;obtain ⟨B,m,d,B',m',d',rfl,ke,ad⟩:=id h2;obtain ⟨W,hW,ai,hX,hY,v⟩:=Zjr w (.bool a.num.neg) (.slice A n c) (.bool a.den.neg) (.slice A' n' c') (.bool b.num.neg) (.slice B m d) (.bool b.den.neg) (.slice B' m' d');have e1:=h1.below v;have e2:=h2.below v;obtain ⟨p1,p2,p3,p4⟩:=hX.four;obtain ⟨r1,r2,r3,r4⟩:=hY.four;clear h1 h2 hd ac ke ad;go_enter Tryz.func50,Tryz.ntmps50;go_wp2_with fail;clear hW;refine (UX _ _ a b _ e1 e2).mono ?_;rintro e w1 ⟨x,y,z,u,ok,rfl,hq,r⟩;have HQ:=JZ hq;have J:=hX.later r;have K:=hY.later r;have s:=Za v r v.size;have L:=e1.below r;have M:=e2.below r;clear hq hX hY v e1 e2 r p1 p2 p3 p4 r1 r2 r3 r4;obtain ⟨W2,E,bW,bV,bn⟩:=Zoc w1 x y z u;have O:=J.later bn;have P:=K.later bn;have g:=Za s bn s.size;have R:=L.below bn;have S:=M.below bn;clear J K s L M bn
 cases ok
 ·obtain ⟨p1,p2,p3,p4⟩:=O.four;clear HQ;go_wp2_with fail;clear E;refine (XA _ a _ R hs).mono ?_;rintro e w3 ⟨v1,v2,N,D,rfl,iN,iD,hD,a1,sN,sD,H⟩;have HD:=JZ hD;have a4:=JZ a1;obtain ⟨A3,n3,k3,rfl,_⟩:=iN.shape;obtain ⟨A4,n4,k4,rfl,_⟩:=iD.shape;obtain ⟨W3,ae,bN,bD,bn⟩:=boxes w3 (.bool N.neg) (.slice A3 n3 k3) (.bool D.neg) (.slice A4 n4 k4);have j:=Za H bn H.size;have T:=P.later j;have t:=Za g j g.size;have U:=S.below j;have V:=iN.below bn;have X:=iD.below bn;clear hD a1 O P g R S H j bn iN iD p1 p2 p3 p4 bW bV hs;obtain ⟨r1,r2,r3,r4⟩:=T.four;go_wp2_with fail;clear ae;refine (XA _ b _ U hs2).mono ?_;rintro e w5 ⟨v1,v2,N',D',rfl,jN,jD,a2,a3,ag,ah,I⟩;have a5:=JZ a2;have a6:=JZ a3;obtain ⟨A5,n5,k5,rfl,_⟩:=jN.shape;obtain ⟨A6,n6,k6,rfl,_⟩:=jD.shape;obtain ⟨W5,af,o,p,bn⟩:=boxes w5 (.bool N'.neg) (.slice A5 n5 k5) (.bool D'.neg) (.slice A6 n6 k6);have i:=Za I bn I.size;have k:=bN.later i;have l:=bD.later i;have F:=Za t i t.size;have a7:=V.below i;have a8:=X.below i;have a9:=jN.below bn;have aa:=jD.below bn;clear a2 a3 T t U I i bn jN jD r1 r2 r3 r4 bN bD V X hs2;obtain ⟨x0,x1,_,_⟩:=k.two;obtain ⟨y0,y1,_,_⟩:=l.two;obtain ⟨aj,ak,_,_⟩:=o.two;obtain ⟨al,am,_,_⟩:=p.two;have Y:True:=trivial;go_wp2_with fail;clear af
  go_region_held3 (fun w'=>(w'.cell? ⟨w3.heap.size,0,none⟩=some (.bool N.neg)∧w'.cell? ⟨w3.heap.size,1,none⟩=some (.slice A3 n3 k3))∧(w'.cell? ⟨w3.heap.size+1,0,none⟩=some (.bool D.neg)∧w'.cell? ⟨w3.heap.size+1,1,none⟩=some (.slice A4 n4 k4))∧(w'.cell? ⟨w5.heap.size,0,none⟩=some (.bool N'.neg)∧w'.cell? ⟨w5.heap.size,1,none⟩=some (.slice A5 n5 k5))∧(w'.cell? ⟨w5.heap.size+1,0,none⟩=some (.bool D'.neg)∧w'.cell? ⟨w5.heap.size+1,1,none⟩=some (.slice A6 n6 k6)))
   (first | with_reducible exact ⟨k.pair,l.pair,o.pair,p.pair⟩ | with_reducible exact ⟨k.drew.pair,l.drew.pair,o.drew.pair,p.drew.pair⟩ | with_reducible exact ⟨(k.drew.later f).pair,(l.drew.later f).pair,(o.drew.later f).pair,(p.drew.later f).pair⟩ | with_reducible exact ⟨((k.drew.later f).later h).pair,((l.drew.later f).later h).pair,((o.drew.later f).later h).pair,((p.drew.later f).later h).pair⟩ | with_reducible exact ⟨(((k.drew.later f).later h).later C).pair,(((l.drew.later f).later h).later C).pair,(((o.drew.later f).later h).later C).pair,(((p.drew.later f).later h).later C).pair⟩)
   (first
    | (go_at_call 93;have _t:=Y;refine (XR _ _ N D' _ (a7.keep (ZG.drew _)) (aa.keep (ZG.drew _)) (RI.Sm.two sN ah)).mono ?_;clear Y _t;rintro e w6 ⟨v6,rfl,e6,f⟩)
    | (go_at_call 93;refine (XR _ _ N' D _ ((a9.keep (ZG.drew _)).below f) ((a8.keep (ZG.drew _)).below f) (RI.Sm.two ag sD)).mono ?_;rintro e w7 ⟨v7,rfl,e7,h⟩)
    | (go_at_call 92;refine (UV _ _ (canI (N.z * D'.z)) (canI (N'.z * D.z)) _ (e6.below h) e7).mono ?_;rintro e w8 ⟨rfl,C⟩))
  go_wp2;go_ret;have Z:=Za F.drew f F.size;have a0:=Za Z h Z.size;refine ⟨?_,Za a0 C a0.size⟩;rw [← a4.out,← a6.out,Yhd HD.out a5.out,ZL,ZL];rfl
 ·obtain ⟨⟨⟨b1,b2⟩,⟨b3,b4⟩⟩,G⟩:=Yiw (HQ.out rfl).1 (HQ.out rfl).2;have HV:=JZ G;obtain ⟨q0,q1,_,_⟩:=bW.two;obtain ⟨s0,s1,_,_⟩:=bV.two;clear G HQ;have t1:IntKind.i64.wrap (x * u)=x * u:=by simp only [IntKind.wrap,IntKind.bits,IntKind.signed];simp;omega
  have t2:IntKind.i64.wrap (z * y)=z * y:=by simp only [IntKind.wrap,IntKind.bits,IntKind.signed];simp;omega
  rcases Int.lt_trichotomy (x * u) (z * y) with hlt | heq | hgt
  ·go_wp2;clear E
   go_quiet (fail)
   go_wp2;go_ret;exact ⟨by rw [HV.out,UR (by omega)];rfl,Za g (below_drewN' _ _) g.size⟩
  ·have t3:decide (x * u < z * y)=false:=(by simp;omega);have t4:decide (z * y < x * u)=false:=(by simp;omega);have ab:=JZ heq;clear heq;go_wp2;clear E
   go_quiet (fail)
   go_wp2;go_ret;exact ⟨by rw [HV.out,ab.out,Int.sub_self,sgn_zero];rfl,Za g (below_drewN' _ _) g.size⟩
  ·have t3:decide (x * u < z * y)=false:=(by simp;omega);go_wp2;clear E
   go_quiet (fail)
   go_wp2;go_ret;exact ⟨by rw [HV.out,Ui (by omega)];rfl,Za g (below_drewN' _ _) g.size⟩
namespace Pl
theorem RI.z_flip (n:Bool) (ds:List Nat):(RI.mk (!n) ds).z= -(RI.mk n ds).z:=by cases n <;> simp [RI.z,sm]
theorem Yjp {n d m k:Int} {p q:Rat} (h:okq n d p) (g:okq m k q):(-9223372036854775807≤n * k - m * d∧n * k - m * d≤9223372036854775807)∧(0 < d * k∧d * k≤9223372036854775807)∧((-4611686018427387904≤n * k∧n * k≤4611686018427387904)∧(-4611686018427387904≤m * d∧m * d≤4611686018427387904))∧Rat.divInt (n * k - m * d) (d * k)=p - q:=by
 have g':okq (-m) k (-q):=by
  obtain ⟨⟨b1,b2⟩,b3,b4,rfl⟩:=g;exact ⟨⟨by omega,by omega⟩,b3,b4,by rw [Rat.neg_divInt]⟩
 obtain ⟨⟨a1,a2⟩,a3,⟨a4,a5,a6⟩,a7⟩:=Zzx h g';rw [Int.neg_mul] at a1 a2 a5 a6 a7;refine ⟨⟨by omega,by omega⟩,a3,⟨a4,by omega,by omega⟩,?_⟩;rw [Int.sub_eq_add_neg,a7];grind
theorem Zuo {x y:Int} {k:Nat} (h1:(Zq x.natAbs).length≤k) (h2:(Zq y.natAbs).length≤k):(Zq (x - y).natAbs).length≤k+1:=by
 rw [Int.sub_eq_add_neg];exact Zcz h1 (by rw [Int.natAbs_neg];exact h2)
theorem RI.Sm.sub {a b:RI} (h1:a.Sm) (h2:b.Sm):(Zq (val (canI (a.z - b.z)).ds)).length≤549755813888:=by
 unfold RI.Sm at h1 h2;rw [YP];rw [← Z8] at h1 h2;exact JW (Zuo h1 h2) (by omega)
theorem RI.Sm.subs {a b c d:RI} (h1:a.Sm) (h2:b.Sm) (h3:c.Sm) (h4:d.Sm):(Zq (val (canI ((canI (a.z * b.z)).z - (canI (c.z * d.z)).z)).ds)).length≤549755813888:=by
 have e1:=RI.Sm.mul h1 h2;have e2:=RI.Sm.mul h3 h4;rw [YP] at e1 e2 ⊢;rw [ZL,ZL];exact JW (Zuo e1 e2) (by omega)
theorem Yey {n m d:Int} (h:d≠0):Rat.divInt n d - Rat.divInt m d=Rat.divInt (n - m) d:=by
 rw [Rat.sub_eq_add_neg,Rat.neg_divInt,Ztv h,Int.sub_eq_add_neg]
theorem Yjq {n d m k:Int} (hd:d≠0) (hk:k≠0):Rat.divInt n d - Rat.divInt m k=Rat.divInt (n * k - m * d) (d * k):=by
 rw [Rat.sub_eq_add_neg,Rat.neg_divInt,Rat.divInt_add_divInt _ _ hd hk,Int.neg_mul,Int.sub_eq_add_neg]
end Pl
theorem Zup (v1 v2:Value) (a b:RI) (w:World) (h1:Yv w v1 a) (h2:Yv w v2 b) (hs:(Zq (val a.ds)).length≤549755813888) (hs2:(Zq (val b.ds)).length≤549755813888):
 Calls Tryz.prog 144 #[v1,v2] w fun e w'=>∃v',e= .returned v'∧Yv w' v' (canI (a.z - b.z))∧Below w.heap.size w w':=by
 obtain ⟨A,n,c,rfl,hd⟩:=h1.shape;obtain ⟨A',n',c',rfl,m⟩:=h2.shape;obtain ⟨g,ds⟩:=a;obtain ⟨d,i⟩:=b;simp only at hd hs m hs2 ⊢;obtain ⟨W,hW,hX,j,hR,h⟩:=Ygz w (.bool g) (.slice A n c) (.bool d) (.slice A' n' c');have o:=hd.below h;have k:=m.below h;have l:True:=trivial;go_enter Tryz.func144,Tryz.ntmps144;go_wp2_with fail;clear hW
 go_region_held3 (fun w'=>(w'.cell? ⟨w.heap.size,0,none⟩=some (.bool g)∧w'.cell? ⟨w.heap.size,1,none⟩=some (.slice A n c))∧(w'.cell? ⟨w.heap.size+1,0,none⟩=some (.bool d)∧w'.cell? ⟨w.heap.size+1,1,none⟩=some (.slice A' n' c')))
  (first | exact ⟨hX.pair,j.pair⟩ | exact ⟨(hX.drew.later f).pair,(j.drew.later f).pair⟩ | exact ⟨(hX.drew.later f).two_far (by omega) _ _,(j.drew.later f).two_far (by omega) _ _⟩)
  (first
   | (go_at_call 131;have _t:=l;refine (Yg _ ds _ (o.keep (ZG.drew _))).mono ?_;clear l _t;rintro e w1 ⟨v1,rfl,e1,rfl⟩)
   | (go_at_call 131;refine (Yg _ i _ (k.keep (ZG.drew _))).mono ?_;rintro e w1 ⟨v2,rfl,e2,rfl⟩)
   | (go_at_call 154;refine (Zcx g (!d) _ _ _ _ _ e1 e2 hs hs2).mono ?_;rintro e w3 ⟨v3,rfl,h3,f⟩;obtain ⟨A3,n3,k3,rfl,_⟩:=h3.shape;obtain ⟨c0,c1,f0,f1⟩:=(hR.drew.later f).two))
 go_wp2;refine Zp Tryz.results144 Tryz.underlying44 (by kernel_rfl) rfl ((hR.drew.later f).set2 _ _) rfl ?_;rw [show canI (RI.z ⟨g,ds⟩ - RI.z ⟨d,i⟩)=canI (RI.z ⟨g,ds⟩+RI.z ⟨!d,i⟩) by rw [RI.z_flip];rfl];exact Y9 (hR.drew.later f) h3 (Za h.drew f h.size) (by omega)
theorem Uv (v1 v2:Value) (a b:RF) (w:World) (h1:Zw w v1 a) (h2:Zw w v2 b) (hs:a.Sm) (hs2:b.Sm):
 Calls Tryz.prog 106 #[v1,v2] w fun e w'=>∃v',e= .returned v'∧Zw w' v' (canF (a.q - b.q))∧Below w.heap.size w w':=by
 obtain ⟨A,n,c,A',n',c',rfl,hd,bp⟩:=id h1;obtain ⟨B,m,d,B',m',d',rfl,ke,bq⟩:=id h2;obtain ⟨W,hW,hX,hY,hR,U⟩:=Zob w (.bool a.num.neg) (.slice A n c) (.bool a.den.neg) (.slice A' n' c') (.bool b.num.neg) (.slice B m d) (.bool b.den.neg) (.slice B' m' d');have e1:=h1.below U;have e2:=h2.below U;obtain ⟨p1,p2,p3,p4⟩:=hX.four;obtain ⟨r1,r2,r3,r4⟩:=hY.four;clear h1 h2 hd bp ke bq;go_enter Tryz.func106,Tryz.ntmps106;go_wp2_with fail;clear hW;refine (UX _ _ a b _ e1 e2).mono ?_;rintro e w1 ⟨x,y,z,u,ok,rfl,hq,J⟩;have HQ:=JZ hq;have ad:=hX.later J;have ae:=hY.later J;have af:=hR.later J;have O:=Za U J U.size;have P:=e1.below J;have ag:=e2.below J;clear hq hX hY hR U e1 e2 J p1 p2 p3 p4 r1 r2 r3 r4;obtain ⟨W2,bd,bW,bV,bn⟩:=Zoc w1 x y z u;have ah:=ad.later bn;have ai:=ae.later bn;have a8:=af.later bn;have F:=Za O bn O.size;have aj:=P.below bn;have ak:=ag.below bn;clear ad ae af O P ag bn
 cases ok
 ·obtain ⟨p1,p2,p3,p4⟩:=ah.four;clear HQ;go_wp2_with fail;clear bd;refine (XA _ a _ aj hs).mono ?_;rintro e w3 ⟨v1,v2,N,D,rfl,iN,iD,hD,bi,sN,sD,M⟩;have HD:=JZ hD;have al:=JZ bi;obtain ⟨A3,n3,k3,rfl,_⟩:=iN.shape;obtain ⟨A4,n4,k4,rfl,_⟩:=iD.shape;obtain ⟨W3,br,bN,bD,bn⟩:=boxes w3 (.bool N.neg) (.slice A3 n3 k3) (.bool D.neg) (.slice A4 n4 k4);have G:=Za M bn M.size;have am:=ai.later G;have I:=a8.later G;have R:=Za F G F.size;have an:=ak.below G;have ao:=iN.below bn;have ap:=iD.below bn;clear hD bi ah ai a8 F aj ak M G bn iN iD p1 p2 p3 p4 bW bV hs;obtain ⟨r1,r2,r3,r4⟩:=am.four;go_wp2_with fail;clear br;refine (XA _ b _ an hs2).mono ?_;rintro e w5 ⟨v1,v2,N',D',rfl,jN,jD,bj,bk,V,X,ac⟩;have aq:=JZ bj;have ar:=JZ bk;obtain ⟨A5,n5,k5,rfl,_⟩:=jN.shape;obtain ⟨A6,n6,k6,rfl,_⟩:=jD.shape;obtain ⟨W5,bs,a3,a4,bn⟩:=boxes w5 (.bool N'.neg) (.slice A5 n5 k5) (.bool D'.neg) (.slice A6 n6 k6);have v:=Za ac bn ac.size;have Z:=bN.later v;have a0:=bD.later v;have L:=I.later v;have S:=Za R v R.size;have au:=ao.below v;have a9:=ap.below v;have av:=jN.below bn;have aa:=jD.below bn;clear bj bk am I R an ac v bn jN jD r1 r2 r3 r4 bN bD ao ap hs2;obtain ⟨x0,x1,_,_⟩:=Z.two;obtain ⟨y0,y1,_,_⟩:=a0.two;obtain ⟨be,bf,_,_⟩:=a3.two;obtain ⟨bg,bh,_,_⟩:=a4.two;have aw:w3.heap.size≠w.heap.size+1+1:=(Z.ne_of L (by decide));have ax:w3.heap.size+1≠w.heap.size+1+1:=(a0.ne_of L (by decide));have ay:w5.heap.size≠w.heap.size+1+1:=(a3.ne_of L (by decide));have az:w5.heap.size+1≠w.heap.size+1+1:=(a4.ne_of L (by decide));go_wp2_with fail;clear bs;refine (UV _ _ D D' _ a9 aa).mono ?_;rintro e w6 ⟨rfl,E⟩;have s:=Z.later E;have t:=a0.later E;have o:=a3.later E;have p:=a4.later E;have H:=L.later E;have K:=Za S E S.size;have b0:=au.below E;have ab:=a9.below E;have b9:=av.below E;have ba:=aa.below E;clear Z a0 a3 a4 L S au a9 av aa E x0 x1 y0 y1 be bf bg bh;have a5:True:=trivial;have a6:True:=trivial;obtain ⟨x0,x1,_,_⟩:=s.two;obtain ⟨y0,y1,_,_⟩:=t.two;obtain ⟨be,bf,_,_⟩:=o.two;obtain ⟨bg,bh,_,_⟩:=p.two;by_cases Y:D.z=D'.z
  ·have a1:sgn (D.z - D'.z)=0:=(by rw [Y];simp [sgn]);rw [a1];have bl:=JZ Y;clear a1 Y;go_wp2_with fail
   go_region_held3 (fun w'=>(w'.cell? ⟨w3.heap.size,0,none⟩=some (.bool N.neg)∧w'.cell? ⟨w3.heap.size,1,none⟩=some (.slice A3 n3 k3))∧(w'.cell? ⟨w3.heap.size+1,0,none⟩=some (.bool D.neg)∧w'.cell? ⟨w3.heap.size+1,1,none⟩=some (.slice A4 n4 k4))∧(w'.cell? ⟨w5.heap.size,0,none⟩=some (.bool N'.neg)∧w'.cell? ⟨w5.heap.size,1,none⟩=some (.slice A5 n5 k5))∧(w'.cell? ⟨w5.heap.size+1,0,none⟩=some (.bool D'.neg)∧w'.cell? ⟨w5.heap.size+1,1,none⟩=some (.slice A6 n6 k6)))
    (first | with_reducible exact ⟨s.pair,t.pair,o.pair,p.pair⟩ | with_reducible exact ⟨s.drew.pair,t.drew.pair,o.drew.pair,p.drew.pair⟩ | with_reducible exact ⟨(s.drew.later g).pair,(t.drew.later g).pair,(o.drew.later g).pair,(p.drew.later g).pair⟩ | with_reducible exact ⟨((s.drew.later g).later i).pair,((t.drew.later g).later i).pair,((o.drew.later g).later i).pair,((p.drew.later g).later i).pair⟩ | with_reducible exact ⟨(((s.drew.later g).later i).far4 aw _ _ _ _).pair,(((t.drew.later g).later i).far4 ax _ _ _ _).pair,(((o.drew.later g).later i).far4 ay _ _ _ _).pair,(((p.drew.later g).later i).far4 az _ _ _ _).pair⟩)
    (first
     | (go_at_call 144;refine (Zup _ _ N N' _ (b0.keep (ZG.drew _)) (b9.keep (ZG.drew _)) (JW sN (by decide)) (JW V (by decide))).mono ?_;rintro e w7 ⟨v7,rfl,e7,g⟩)
     | (go_at_call 77;refine (X5 _ _ (canI (N.z - N'.z)) D _ e7 ((ab.keep (ZG.drew _)).below g) (RI.Sm.sub sN V) (JW sD (by decide)) (Int.ne_of_gt HD.out)).mono ?_;rw [ZL,← Yey (Int.ne_of_gt HD.out),al.out,bl.out,ar.out];rintro e w8 ⟨v8,rfl,e8,i⟩;obtain ⟨C,l,f,C',l',f',rfl,_,_⟩:=id e8;obtain ⟨c0,c1,c2,c3⟩:=((H.drew.later g).later i).four;obtain ⟨f0,f1,f2,f3⟩:=((H.drew.later g).later i).fourF))
   go_wp2;refine Zp Tryz.results106 Tryz.underlying46 (by kernel_rfl) rfl (((H.drew.later g).later i).set4 _ _ _ _) rfl ?_;have T:=Za K.drew g K.size;have a2:=Za T i T.size;exact Yk ((H.drew.later g).later i) e8 a2 (by omega)
  ·have a1:(sgn (D.z - D'.z)==0)=false:=by
    have:sgn (D.z - D'.z)≠0:=fun h=>Y (by have:=Uk.1 h;omega)
    simpa using this
   have bm:=Zoa (D.z - D'.z);generalize sgn (D.z - D'.z)=sg at *;clear Y;go_wp2_with fail;clear a1 bm
   go_region_held3 (fun w'=>(w'.cell? ⟨w3.heap.size,0,none⟩=some (.bool N.neg)∧w'.cell? ⟨w3.heap.size,1,none⟩=some (.slice A3 n3 k3))∧(w'.cell? ⟨w3.heap.size+1,0,none⟩=some (.bool D.neg)∧w'.cell? ⟨w3.heap.size+1,1,none⟩=some (.slice A4 n4 k4))∧(w'.cell? ⟨w5.heap.size,0,none⟩=some (.bool N'.neg)∧w'.cell? ⟨w5.heap.size,1,none⟩=some (.slice A5 n5 k5))∧(w'.cell? ⟨w5.heap.size+1,0,none⟩=some (.bool D'.neg)∧w'.cell? ⟨w5.heap.size+1,1,none⟩=some (.slice A6 n6 k6)))
    (first | with_reducible exact ⟨s.pair,t.pair,o.pair,p.pair⟩ | with_reducible exact ⟨s.drew.pair,t.drew.pair,o.drew.pair,p.drew.pair⟩ | with_reducible exact ⟨(s.drew.later g).pair,(t.drew.later g).pair,(o.drew.later g).pair,(p.drew.later g).pair⟩ | with_reducible exact ⟨((s.drew.later g).later i).pair,((t.drew.later g).later i).pair,((o.drew.later g).later i).pair,((p.drew.later g).later i).pair⟩ | with_reducible exact ⟨(((s.drew.later g).later i).later k).pair,(((t.drew.later g).later i).later k).pair,(((o.drew.later g).later i).later k).pair,(((p.drew.later g).later i).later k).pair⟩ | with_reducible exact ⟨((((s.drew.later g).later i).later k).later j).pair,((((t.drew.later g).later i).later k).later j).pair,((((o.drew.later g).later i).later k).later j).pair,((((p.drew.later g).later i).later k).later j).pair⟩ | with_reducible exact ⟨(((((s.drew.later g).later i).later k).later j).later r).pair,(((((t.drew.later g).later i).later k).later j).later r).pair,(((((o.drew.later g).later i).later k).later j).later r).pair,(((((p.drew.later g).later i).later k).later j).later r).pair⟩ | with_reducible exact ⟨((((((s.drew.later g).later i).later k).later j).later r).far4 aw _ _ _ _).pair,((((((t.drew.later g).later i).later k).later j).later r).far4 ax _ _ _ _).pair,((((((o.drew.later g).later i).later k).later j).later r).far4 ay _ _ _ _).pair,((((((p.drew.later g).later i).later k).later j).later r).far4 az _ _ _ _).pair⟩)
    (first
     | (go_at_call 93;have _t:=a5;refine (XR _ _ N D' _ (b0.keep (ZG.drew _)) (ba.keep (ZG.drew _)) (RI.Sm.two sN X)).mono ?_;clear a5 _t;rintro e w7 ⟨v7,rfl,e7,g⟩)
     | (go_at_call 93;have _t:=a6;refine (XR _ _ N' D _ ((b9.keep (ZG.drew _)).below g) ((ab.keep (ZG.drew _)).below g) (RI.Sm.two V sD)).mono ?_;clear a6 _t;rintro e w8 ⟨v8,rfl,e8,i⟩)
     | (go_at_call 144;refine (Zup _ _ (canI (N.z * D'.z)) (canI (N'.z * D.z)) _ (e7.below i) e8 (JW (RI.Sm.mul sN X) (by decide)) (JW (RI.Sm.mul V sD) (by decide))).mono ?_;rintro e w9 ⟨v9,rfl,e9,k⟩)
     | (go_at_call 93;refine (XR _ _ D D' _ ((((ab.keep (ZG.drew _)).below g).below i).below k) ((((ba.keep (ZG.drew _)).below g).below i).below k) (RI.Sm.two sD X)).mono ?_;rintro e bu ⟨bv,rfl,bt,j⟩)
     | (go_at_call 77;refine (X5 _ _ (canI ((canI (N.z * D'.z)).z - (canI (N'.z * D.z)).z)) (canI (D.z * D'.z)) _ (e9.below j) bt (RI.Sm.subs sN X V sD) (JW (RI.Sm.mul sD X) (by decide)) (pos_ne HD.out aq.out)).mono ?_;rw [ZL,ZL,ZL,ZL,← Yjq (Int.ne_of_gt HD.out) (Int.ne_of_gt aq.out),al.out,ar.out];rintro e bw ⟨bx,rfl,P,r⟩;obtain ⟨C,l,f,C',l',f',rfl,_,_⟩:=id P;obtain ⟨c0,c1,c2,c3⟩:=(((((H.drew.later g).later i).later k).later j).later r).four;obtain ⟨f0,f1,f2,f3⟩:=(((((H.drew.later g).later i).later k).later j).later r).fourF))
   go_wp2;refine Zp Tryz.results106 Tryz.underlying46 (by kernel_rfl) rfl ((((((H.drew.later g).later i).later k).later j).later r).set4 _ _ _ _) rfl ?_;have T:=Za K.drew g K.size;have a2:=Za T i T.size;have bb:=Za a2 k a2.size;have bc:=Za bb j bb.size;have bo:=Za bc r bc.size;exact Yk (((((H.drew.later g).later i).later k).later j).later r) P bo (by omega)
 ·obtain ⟨⟨b1,b2⟩,⟨b3,b4⟩,⟨⟨b5,b6⟩,⟨b7,b8⟩⟩,a7⟩:=Yjp (HQ.out rfl).1 (HQ.out rfl).2;have HV:=JZ a7;obtain ⟨q0,q1,_,_⟩:=bW.two;obtain ⟨s0,s1,_,_⟩:=bV.two;clear a7 HQ;have t1:IntKind.i64.wrap (x * u - z * y)=x * u - z * y:=by simp only [IntKind.wrap,IntKind.bits,IntKind.signed];simp;omega
  have t2:IntKind.i64.wrap (y * u)=y * u:=by simp only [IntKind.wrap,IntKind.bits,IntKind.signed];simp;omega
  have t3:IntKind.i64.wrap (x * u)=x * u:=by simp only [IntKind.wrap,IntKind.bits,IntKind.signed];simp;omega
  have t4:IntKind.i64.wrap (z * y)=z * y:=by simp only [IntKind.wrap,IntKind.bits,IntKind.signed];simp;omega
  go_wp2_with fail;clear bd;refine (XL (x * u - z * y) (y * u) _ b1 b2 b3 b4).mono ?_;rw [HV.out];rintro e w3 ⟨v3,rfl,e3,M⟩;have I:=a8.later M;obtain ⟨C,l,f,C',l',f',rfl,_,_⟩:=id e3;obtain ⟨c0,c1,c2,c3⟩:=I.four;obtain ⟨f0,f1,f2,f3⟩:=I.fourF;go_wp2;refine Zp Tryz.results106 Tryz.underlying46 (by kernel_rfl) rfl (I.set4 _ _ _ _) rfl ?_;exact Yk I e3 (Za F M F.size) (by omega)
end Go.Proofs.YtgbhebappffbdaaGreat
namespace Go.Proofs.YtgbhebappffbdaaGreat
open Go.RowKit
open Pl
attribute [local go_sem ↓] Go.wp_at_zero Go.wp_at_succ
theorem Zod {w:World} {A:Option Addr} {n c k:Nat} {ds:List Nat} (h:Z6 w (.slice A n c) ds) (hk:k≤n) (hz:∀i,k≤i→dg ds i=0) (hl:k=0∨dg ds (k - 1)≠0):
 Z6 w (.slice A k c) (Zq (val ds)):=by
 obtain ⟨h1,h2,h3,h4⟩:=h.len;rw [Znq h.ok (by omega) hz hl];exact h.take hk (by omega) (by unfold maxLen;omega)
theorem Zgp (A:Option Addr) (n c:Nat) (ds:List Nat) (w:World) (h:Z6 w (.slice A n c) ds):
 Calls Tryz.prog 117 #[.slice A n c] w fun e w'=>∃k,e= .returned (.slice A k c)∧Z6 w (.slice A k c) (Zq (val ds))∧w=w':=by
 obtain ⟨hl,f,g,hc⟩:=h.len;go_enter Tryz.func117,Tryz.ntmps117;go_wp2
 go_loop [3] (fun x=>∃k:Nat,k≤n∧x= .int .i64 k∧∀i,k≤i→dg ds i=0) (fun x=>(intOf x).toNat)
 case atStart=>exact ⟨n,JY _,rfl,fun i hi=>Vo (by omega)⟩
 case round=>
  obtain ⟨k,hk,rfl,hz⟩:=hrel;have HZ:=JZ hz;clear hz;rcases JV k with h0 | h0
  ·subst h0;go_wp2;go_ret;exact ⟨_,rfl,Zod h hk HZ.out (.inl rfl),rfl⟩
  ·obtain ⟨j,rfl⟩:∃j,k=j+1:=⟨k - 1,by omega⟩;obtain ⟨b,l,rfl,_,a⟩:=h.at_ (by omega);have d:=a j (by omega);clear a;by_cases hd:dg ds j=0
   ·have hb:=Zbp hd;have HD:=JZ hd;clear hd;go_wp2
    go_round
    case rel=>exact ⟨j,by omega,by go_num,fun i hi=>by
     rcases Nat.eq_or_lt_of_le hi with e | e
     ·exact e▸HD.out
     ·exact HZ.out i e⟩
    case measure=>simp [intOf]
   ·have hb:=UN hd;have HD:=JZ hd;clear hd;go_wp2;go_ret;exact ⟨_,rfl,Zod h hk HZ.out (.inr (by simpa using HD.out)),rfl⟩
theorem YY (v:Value) (ds:List Nat) (w:World) (h:Z6 w v ds):
 Calls Tryz.prog 117 #[v] w fun e w'=>∃v',e= .returned v'∧Z6 w v' (Zq (val ds))∧w=w':=by
 obtain ⟨A,n,c,rfl⟩:=h.shape;exact (Zgp A n c ds w h).mono fun _ _ ⟨_,h1,h2,h3⟩=>⟨_,h1,h2,h3⟩
theorem Zda (neg:Bool) (v:Value) (ds:List Nat) (w:World) (h:Z6 w v ds) (hs:(Zq (val ds)).length≤549755813888):
 Calls Tryz.prog 113 #[.bool neg,v] w fun e w'=>∃v',e= .returned v'∧Yv w' v' (canI (sm neg (val ds)))∧Below w.heap.size w w':=by
 have hR:=Bk.new w 44 [.bool false,.slice none 0 0];have d:=Zi w (.cells [.bool false,.slice none 0 0].toArray 44);have h':=h.below d;obtain ⟨i0,hi,p,q,r⟩:=info_parts info_u32;have HI:=JZ hi;have t:=JZ p;have u:=JZ q;have x:=JZ r;clear hi p q r;go_enter Tryz.func113,Tryz.ntmps113;go_wp2_with fail;generalize w.alloc _=W at *;refine (YY _ ds _ h').mono ?_;rintro e w1 ⟨v1,rfl,h1,rfl⟩;obtain ⟨A,n,c,rfl⟩:=h1.shape;obtain ⟨kl,s,y,kc⟩:=h1.len;obtain ⟨c0,c1,f0,f1⟩:=hR.two;rcases JV n with h0 | h0
 ·have hv:val ds=0:=Vb (by omega);subst h0;have HV:=JZ hv;clear hv kl s hs;go_wp2;refine Zp Tryz.results113 Tryz.underlying44 (by kernel_rfl) rfl (hR.set2 _ _) rfl ?_;exact ⟨_,rfl,by rw [HV.out,Zes];exact Yv.zero _,Yp d (JY _) _ _⟩
 ·have hv:val ds≠0:=UT (by omega);have HV:=JZ hv;have HS:=JZ hs;obtain ⟨b,z,rfl,B,f⟩:=h1.at_ h0;clear hv f hs c0 c1 f0 f1;have l:(Zq (val ds)).length=n:=by omega
  have i:=JZ l;clear l kl s kc y;go_wp2_with (at_builtin;refine wpList_append_own_at _ rfl (.const (.slice none 0 0)) (.tmp 12) _ rfl w.heap.size 148 i0 _ 1 4 Tryz.underlying42 HI.out t.out u.out x.out rfl (by decide) (.slice none 0 0) 0 [] rfl ?c0 ⟨b,z,none⟩ n c ((Zq (val ds)).map uc) rfl ?c1 ?c2 (Zap _) ?c3 ?c4 ?c5 ?_)
  case c0=>exact World.ownsRow_nil _ _ _ _
  case c1=>simp;exact i.out
  case c2=>exact h1.news
  case c3=>have:=HS.out;have:=i.out;unfold maxLen;omega
  case c4=>have:=HS.out;have:=i.out;omega
  case c5=>exact d.size
  ·intro v' w1 g a _ _;have m:=VU (by simpa using g) (Yj (val ds));have j:=hR.grown a (by simp [Value.ownBlock]);have o:Below w.heap.size w w1:=d.grown a d.size (fun k hk=>by simp [Value.ownBlock] at hk);obtain ⟨A1,n1,k1,rfl⟩:=m.shape;obtain ⟨c0,c1,f0,f1⟩:=j.two;clear g a;go_wp2;refine Zp Tryz.results113 Tryz.underlying44 (by kernel_rfl) rfl (j.set2 _ _) rfl ?_;rw [Zrn _ _ HV.out];exact Y9 j ⟨_,rfl,m⟩ o (JY _)
theorem Ul (neg:Bool) (v:Value) (n:Nat) (w:World) (h:Z6 w v (Zq n)) (hs:(Zq n).length≤549755813888):
 Calls Tryz.prog 113 #[.bool neg,v] w fun e w'=>∃v',e= .returned v'∧Yv w' v' (canI (sm neg n))∧Below w.heap.size w w':=by
 have:=Zda neg v (Zq n) w h (by rwa [Zm])
 rwa [Zm] at this
theorem Zat (v:Value) (a:RI) (w:World) (h:Yv w v a) (hs:(Zq (val a.ds)).length≤549755813888):
 Calls Tryz.prog 112 #[v] w fun e w'=>∃v',e= .returned v'∧Yv w' v' (canI a.z)∧Below w.heap.size w w':=by
 obtain ⟨A,n,c,rfl,hd⟩:=h.shape;obtain ⟨W,hW,hX,hR,d⟩:=Ynp w (.bool a.neg) (.slice A n c);have g:=hd.below d;obtain ⟨x0,x1,y0,y1⟩:=hX.two;go_enter Tryz.func112,Tryz.ntmps112;go_wp2_with fail;clear hW;refine (Zda _ _ a.ds _ g hs).mono ?_;rw [← RI.z_eq];rintro e w1 ⟨v1,rfl,e1,f⟩;obtain ⟨A1,n1,k1,rfl,_⟩:=e1.shape;have b:=hR.later f;obtain ⟨c0,c1,f0,f1⟩:=b.two;go_wp2;refine Zp Tryz.results112 Tryz.underlying44 (by kernel_rfl) rfl (b.set2 _ _) rfl ?_;exact Y9 b e1 (Za d f d.size) (by omega)
theorem Zbs (v:Value) (a:RI) (w:World) (h:Yv w v a) (hs:(Zq (val a.ds)).length≤549755813888):
 Calls Tryz.prog 87 #[v] w fun e w'=>∃v',e= .returned v'∧Yv w' v' (canI (- a.z))∧Below w.heap.size w w':=by
 obtain ⟨A,n,c,rfl,hd⟩:=h.shape;obtain ⟨W,hW,hX,hR,d⟩:=Ynp w (.bool a.neg) (.slice A n c);have g:=hd.below d;obtain ⟨x0,x1,y0,y1⟩:=hX.two;go_enter Tryz.func87,Tryz.ntmps87;go_wp2_with fail;clear hW;refine (Zda _ _ a.ds _ g hs).mono ?_;rw [Yha,← RI.z_eq];rintro e w1 ⟨v1,rfl,e1,f⟩;obtain ⟨A1,n1,k1,rfl,_⟩:=e1.shape;have b:=hR.later f;obtain ⟨c0,c1,f0,f1⟩:=b.two;go_wp2;refine Zp Tryz.results87 Tryz.underlying44 (by kernel_rfl) rfl (b.set2 _ _) rfl ?_;exact Y9 b e1 (Za d f d.size) (by omega)
theorem WI (v:Value) (ds:List Nat) (k:Nat) (w:World) (h:Z6 w v ds) (hk:(k:Int)≤9223372036854775807):
 Calls Tryz.prog 147 #[v,.int .i64 k] w fun e w'=>e= .returned (.int .u64 (di ds k))∧w=w':=by
 obtain ⟨A,n,c,rfl⟩:=h.shape;obtain ⟨hl,d,f,hc⟩:=h.len;rcases JX k n with hlt | hge
 ·obtain ⟨b,g,rfl,i,a⟩:=h.at_ (by omega);have hx:=a k hlt;have x0:=Zu ds k;have x1:=Yu h.ok k;clear a;go_enter Tryz.func147,Tryz.ntmps147;go_wp2;go_ret;exact ⟨rfl,rfl⟩
 ·have hz:di ds k=0:=by rw [YE,Vo (by omega)];rfl
  have HZ:=JZ hz;clear hz hl d;go_enter Tryz.func147,Tryz.ntmps147;go_wp2;go_ret;exact ⟨by rw [HZ.out];rfl,rfl⟩
theorem Ztw (w:World) (z:Int) (h:0≤z) (h2:z≤18446744073709551615):
 ∃ds,Z6 (w.alloc (.cells #[.int .u32 (z % 4294967296),.int .u32 (z / 4294967296)] 148)) (.slice (some ⟨w.heap.size,0,none⟩) 2 2) ds∧val ds=z.toNat:=by
 obtain ⟨n,rfl⟩:=JT h;refine ⟨[n % B32,n / B32],?_,?_⟩
 ·have:=Y6.dig (Y6.new w [n % B32,n / B32]) (by simp [okD,B32];omega) (c:=2) (by simp) (by simp [maxLen]);simpa [uc,B32] using this
 ·simp only [val,B32,JP];omega
theorem VV (z:Int) (w:World) (h0: -9223372036854775808≤z) (h1:z≤9223372036854775807):
 Calls Tryz.prog 65 #[.int .i64 z] w fun e w'=>∃v',e= .returned v'∧Yv w' v' (canI z)∧Below w.heap.size w w':=by
 have hR:=Bk.new w 44 [.bool false,.slice none 0 0];have f:=Zi w (.cells [.bool false,.slice none 0 0].toArray 44);rcases Int.lt_or_le z 0 with hn | hn
 ·have e1:IntKind.u64.wrap z=z+18446744073709551616:=by simp [IntKind.wrap,IntKind.bits,IntKind.signed];omega
  have e2:IntKind.u64.wrap (-(z+18446744073709551616))= -z:=by simp [IntKind.wrap,IntKind.bits,IntKind.signed];omega
  obtain ⟨y,hy⟩:∃y,y= -z:=⟨_,rfl⟩;have y0:0≤y:=by omega
  have y1:y≤18446744073709551615:=by omega
  rw [← hy] at e2;have HY:=JZ hy;clear hy;go_enter Tryz.func65,Tryz.ntmps65;obtain ⟨ds,g,hv⟩:=Ztw (w.alloc (.cells #[.bool false,.slice none 0 0] 44)) y (by omega) (by omega);rw [size_alloc] at g;have HV:=JZ hv;have b:=Zi (w.alloc (.cells #[.bool false,.slice none 0 0] 44)) (.cells #[.int .u32 (y % 4294967296),.int .u32 (y / 4294967296)] 148);have i:=hR.later b;have a:=Za f b f.size;clear hv b f hR;go_wp2_with fail;generalize (w.alloc _).alloc _=W at *;refine (Zda _ _ ds _ g (by rw [HV.out];exact JW (Xw (k:=2) (by unfold B32;omega)) (by decide))).mono ?_;rw [HV.out,show sm true (y).toNat=z from by have:=HY.out;simp [sm];omega];rintro e w2 ⟨v2,rfl,d2,h⟩;obtain ⟨A,n,c,rfl,_⟩:=d2.shape;have d:=i.later h;obtain ⟨c0,c1,f0,f1⟩:=d.two;go_wp2;refine Zp Tryz.results65 Tryz.underlying44 (by kernel_rfl) rfl (d.set2 _ _) rfl ?_;exact Y9 d d2 (Za a h a.size) (JY _)
 ·have e1:IntKind.u64.wrap z=z:=u64_in _ hn (by omega);go_enter Tryz.func65,Tryz.ntmps65;obtain ⟨ds,g,hv⟩:=Ztw (w.alloc (.cells #[.bool false,.slice none 0 0] 44)) z (by omega) (by omega);rw [size_alloc] at g;have HV:=JZ hv;have b:=Zi (w.alloc (.cells #[.bool false,.slice none 0 0] 44)) (.cells #[.int .u32 (z % 4294967296),.int .u32 (z / 4294967296)] 148);have i:=hR.later b;have a:=Za f b f.size;clear hv b f hR;go_wp2_with fail;generalize (w.alloc _).alloc _=W at *;refine (Zda _ _ ds _ g (by rw [HV.out];exact JW (Xw (k:=2) (by unfold B32;omega)) (by decide))).mono ?_;rw [HV.out,show sm (decide (z < 0)) (z).toNat=z from by rw [decide_eq_false (by omega)];simp [sm];omega];rintro e w2 ⟨v2,rfl,d2,h⟩;obtain ⟨A,n,c,rfl,_⟩:=d2.shape;have d:=i.later h;obtain ⟨c0,c1,f0,f1⟩:=d.two;go_wp2;refine Zp Tryz.results65 Tryz.underlying44 (by kernel_rfl) rfl (d.set2 _ _) rfl ?_;exact Y9 d d2 (Za a h a.size) (JY _)
theorem YZ (v1 v2:Value) (xs ys:List Nat) (w:World) (h1:Z6 w v1 xs) (h2:Z6 w v2 ys):
 Calls Tryz.prog 115 #[v1,v2] w fun e w'=>e= .returned (.int .i64 (cmpN (val xs) (val ys)))∧Below w.heap.size w w':=by
 go_enter Tryz.func115,Tryz.ntmps115;go_wp2_with fail;refine (YY _ xs _ h1).mono ?_;rintro e w1 ⟨u1,rfl,g1,rfl⟩;go_wp2_with fail;refine (YY _ ys _ h2).mono ?_;rintro e w1 ⟨u2,rfl,g2,rfl⟩;clear h1 h2;obtain ⟨a,ha⟩:∃a,a=val xs:=⟨_,rfl⟩;obtain ⟨b,hb⟩:∃b,b=val ys:=⟨_,rfl⟩;rw [← ha] at g1;rw [← hb] at g2;have HA:=JZ ha;have HB:=JZ hb;clear ha hb;obtain ⟨A,l,c,rfl⟩:=g1.shape;obtain ⟨hl,p,r,hc⟩:=g1.len;obtain ⟨A2,l2,c2,rfl⟩:=g2.shape;obtain ⟨kl,s,t,kc⟩:=g2.len;rcases Nat.lt_trichotomy l l2 with hlt | heq | hgt
 ·have e:cmpN a b= -1:=UQ (Zcq (by omega));have HE:=JZ e;clear e;go_wp2;go_ret;exact ⟨by rw [← HA.out,← HB.out,HE.out];rfl,JR _ _⟩
 ·subst heq;go_wp2
  go_loopw [5] (fun x wr=>∃(z:Int) (q:Nat),-1≤z∧z < l∧x= .int .i64 z∧wr=w.drewN q∧∀i:Nat,z < i→dg (Zq a) i=dg (Zq b) i) (fun x _=>(intOf x+1).toNat)
  case atStart=>exact ⟨(l:Int) - 1,0,by omega,by omega,rfl,rfl,fun i hi=>by rw [Vo (by omega),Vo (by omega)]⟩
  case round=>
   obtain ⟨z,q,h,hk,rfl,rfl,hz⟩:=hrel;have HZ:=JZ hz;clear hz;rcases Int.lt_or_le z 0 with h0 | h0
   ·go_wp2;go_ret;exact ⟨by rw [← HA.out,← HB.out,← Zyu (l:=l) (by omega) (by omega) h h0 HZ.out];rfl,below_drewN' _ _⟩
   ·obtain ⟨j,rfl⟩:=JT h0;obtain ⟨b1,k,rfl,_,d⟩:=g1.at_ (by omega);obtain ⟨b2,m,rfl,_,f⟩:=g2.at_ (by omega);have n:=d j (by omega);have o:=f j (by omega);clear d f;rcases Nat.lt_trichotomy (dg (Zq a) j) (dg (Zq b) j) with g | g | g
    ·have t2:decide (di (Zq a) j < di (Zq b) j)=true:=(by simp [di];omega);have HG:=JZ g;clear g;go_wp2
     go_quiet (fail)
     go_wp2;go_ret;exact ⟨by rw [← HA.out,← HB.out,Ztl (l:=l) (by omega) (by omega) HZ.out HG.out];rfl,by simp only [World.drewN_drewN];exact below_drewN' _ _⟩
    ·have t1:decide (di (Zq a) j < di (Zq b) j)=false:=(by simp [di];omega);have t2:decide (di (Zq b) j < di (Zq a) j)=false:=(by simp [di];omega);have HG:=JZ g;clear g;go_wp2
     go_quiet (fail)
     go_wp2
     go_quiet (fail)
     go_wp2;go_roundw
     case rel=>exact ⟨(j:Int) - 1,_,by omega,by omega,rfl,rfl,fun i hi=>by
      rcases Nat.eq_or_lt_of_le (show j≤i by omega) with e | e
      ·exact e▸HG.out
      ·exact HZ.out i (by omega)⟩
     case measure=>simp [intOf]
    ·have t1:decide (di (Zq a) j < di (Zq b) j)=false:=(by simp [di];omega);have t2:decide (di (Zq b) j < di (Zq a) j)=true:=(by simp [di];omega);have HG:=JZ g;clear g;go_wp2
     go_quiet (fail)
     go_wp2
     go_quiet (fail)
     go_wp2;go_ret;exact ⟨by rw [← HA.out,← HB.out,Ztm (l:=l) (by omega) (by omega) HZ.out HG.out];rfl,by simp only [World.drewN_drewN];exact below_drewN' _ _⟩
 ·have e:cmpN a b=1:=Zhd (Zcq (by omega));have HE:=JZ e;clear e;go_wp2;go_ret;exact ⟨by rw [← HA.out,← HB.out,HE.out];rfl,JR _ _⟩
theorem canI_neg (z:Int):(canI z).neg=decide (z < 0):=rfl
namespace Pl
theorem Ylt {x y:Int} (hx:x < 0) (hy:y < 0):cmpN y.natAbs x.natAbs=sgn (x - y):=by unfold cmpN sgn;split <;> split <;> (try split) <;> (try split) <;> omega
theorem Ylu {x y:Int} (hx:¬x < 0) (hy:¬y < 0):cmpN x.natAbs y.natAbs=sgn (x - y):=by unfold cmpN sgn;split <;> split <;> (try split) <;> (try split) <;> omega
end Pl
def Ylv (x y:Int) (w:World) (wx:World) (A A':Option Addr) (n c n' c':Nat):Prop:=
 Bk wx w.heap.size 44 [.bool (decide (x < 0)),.slice A n c]∧Bk wx (w.heap.size+1) 44 [.bool (decide (y < 0)),.slice A' n' c']∧Z6 wx (.slice A n c) (Zq x.natAbs)∧Z6 wx (.slice A' n' c') (Zq y.natAbs)∧Below w.heap.size w wx
theorem Yv.dig {w:World} {b:Bool} {A:Option Addr} {n c:Nat} {a:RI} (h:Yv w (.agg #[.bool b,.slice A n c]) a):Z6 w (.slice A n c) a.ds∧b=a.neg:=by
 obtain ⟨s,e,d⟩:=h;simp at e;obtain ⟨rfl,rfl⟩:=e;exact ⟨d,rfl⟩
theorem Yaa (w:World) (x y x' y':Value):∃W,(w.alloc (.cells #[x,y] 44)).alloc (.cells #[x',y'] 44)=W∧Bk W w.heap.size 44 [x,y]∧Bk W (w.heap.size+1) 44 [x',y']∧Below w.heap.size w W:=boxes w x y x' y'
theorem Zog (v1 v2:Value) (a b:RI) (w:World) (h1:Yv w v1 a) (h2:Yv w v2 b) (hs:(Zq (val a.ds)).length≤549755813888) (hs2:(Zq (val b.ds)).length≤549755813888):
 Calls Tryz.prog 133 #[v1,v2] w fun e w'=>e= .returned (.int .i64 (sgn (a.z - b.z)))∧Below w.heap.size w w':=by
 obtain ⟨A,n,c,rfl,hd⟩:=h1.shape;obtain ⟨A',n',c',rfl,l⟩:=h2.shape;obtain ⟨W,hW,hX,hY,g⟩:=Yaa w (.bool a.neg) (.slice A n c) (.bool b.neg) (.slice A' n' c');have i1:=h1.below g;have i2:=h2.below g;have k:w.heap.size≠w.heap.size+1:=by omega
 have j:True:=trivial;obtain ⟨x0,x1,f0,f1⟩:=hX.two;obtain ⟨y0,y1,k0,k1⟩:=hY.two;go_enter Tryz.func133,Tryz.ntmps133;go_wp2_with fail;clear hW
 go_upto_region 1 with (fail)
 go_cut [] (fun wx=>∃(A A':Option Addr) (n c n' c':Nat),Ylv a.z b.z w wx A A' n c n' c')
 case first=>
  go_region_with (first
   | (go_at_call 112;have _t:=j;refine (Zat _ a _ (i1.keep (ZG.drew _)) hs).mono ?_;clear j _t;rintro e w6 ⟨v6,rfl,e6,f⟩;obtain ⟨A6,n6,k6,rfl,_⟩:=e6.shape;obtain ⟨o,p,_,_⟩:=(hY.drew.later f).two)
   | (go_at_call 112;refine (Zat _ b _ ((i2.keep (ZG.drew _)).below f) hs2).mono ?_;rintro e w7 ⟨v7,rfl,e7,h⟩;obtain ⟨A7,n7,k7,rfl,_⟩:=e7.shape;obtain ⟨c0,c1,r0,r1⟩:=((hX.drew.later f).later h).two;obtain ⟨q,r,s,t⟩:=((hY.drew.later f).later h).two))
  all_goals
   go_wp2_with fail
   go_meet
   obtain ⟨a1,a2,a3,a4,a5⟩:=Xz ((hX.drew.later f).later h) ((hY.drew.later f).later h) k (e6.below h) e7 (Za (Za g.drew f g.size) h (JW g.size f.size)) (by omega) (by omega);exact ⟨A6,A7,n6,k6,n7,k7,a1,a2,a3.dig.1,a4.dig.1,a5⟩
 case rest=>
  obtain ⟨B,B',m,d,m',d',bX,bY,dX,dY,be⟩:=hcut;clear x0 x1 f0 f1 y0 y1 k0 k1 hX hY g i1 i2 h1 h2 hd l;obtain ⟨x0,x1,_,_⟩:=bX.two;obtain ⟨y0,y1,_,_⟩:=bY.two;by_cases hx:a.z < 0
  ·by_cases hy:b.z < 0
   ·have HC:=JZ (Ylt hx hy);rw [decide_eq_true hx] at x0;rw [decide_eq_true hy] at y0;clear hx hy;go_wp2_with fail;refine (YZ _ _ _ _ _ dY dX).mono ?_;rw [Zm,Zm,HC.out];rintro e w3 ⟨rfl,i⟩;go_wp2;go_ret;exact ⟨rfl,Za be i be.size⟩
   ·have HC:Hid (sgn (a.z - b.z)= -1):=JZ (UR (by omega));rw [decide_eq_true hx] at x0;rw [decide_eq_false hy] at y0;clear hx hy;go_wp2;go_ret;exact ⟨by rw [HC.out];rfl,be⟩
  ·by_cases hy:b.z < 0
   ·have HC:Hid (sgn (a.z - b.z)=1):=JZ (Ui (by omega));rw [decide_eq_false hx] at x0;rw [decide_eq_true hy] at y0;clear hx hy;go_wp2;go_ret;exact ⟨by rw [HC.out];rfl,be⟩
   ·have HC:=JZ (Ylu hx hy);rw [decide_eq_false hx] at x0;rw [decide_eq_false hy] at y0;clear hx hy;go_wp2_with fail;refine (YZ _ _ _ _ _ dX dY).mono ?_;rw [Zm,Zm,HC.out];rintro e w3 ⟨rfl,i⟩;go_wp2;go_ret;exact ⟨rfl,Za be i be.size⟩
theorem Zdc (v:Value) (a:RI) (w:World) (h:Yv w v a) (hs:(Zq (val a.ds)).length≤549755813888):
 Calls Tryz.prog 89 #[v] w fun e w'=>e= .returned (.int .i64 (sgn a.z))∧Below w.heap.size w w':=by
 obtain ⟨A,n,c,rfl,hd⟩:=h.shape;have hX:=Bk.new w 44 [.bool a.neg,.slice A n c];have b:=Zi w (.cells [.bool a.neg,.slice A n c].toArray 44);have h':=h.below b;obtain ⟨x0,x1,_,_⟩:=hX.two;go_enter Tryz.func89,Tryz.ntmps89;go_wp2_with fail;generalize w.alloc _=W at *;refine (Zog _ _ a (canI 0) _ h' (Yv.zero _) hs (by rw [YP,Int.natAbs_zero,digs_zero];decide)).mono ?_;rw [ZL,Int.sub_zero];rintro e w1 ⟨rfl,d⟩;go_wp2;go_ret;exact ⟨rfl,Za b d b.size⟩
theorem Zua {w w':World} {base:Nat} {v:Value} {n:Nat} {xs:List Value} (h:w.ownsRow base 148 1 v n xs) (hk:ZG w w'):w'.ownsRow base 148 1 v n xs:=by
 refine ⟨h.1,?_⟩;rcases h.2 with hn | ⟨g,cap,cur,rfl,hb,hgg,rest⟩
 ·exact .inl hn
 ·exact .inr ⟨g,cap,cur,rfl,hb,hk g _ _ hgg,rest⟩
theorem Zub {w:World} {base base':Nat} {v:Value} {n:Nat} {xs:List Value} (h:w.ownsRow base 148 1 v n xs) (hb:base'≤base):w.ownsRow base' 148 1 v n xs:=by
 refine ⟨h.1,?_⟩;rcases h.2 with hn | ⟨g,cap,cur,rfl,hb',rest⟩
 ·exact .inl hn
 ·exact .inr ⟨g,cap,cur,rfl,JW hb hb',rest⟩
def Zjn (base:Nat) (w:World) (v:Value) (a:RI):Prop:=∃s,v= .agg #[.bool a.neg,s]∧w.ownsRow base 148 1 s a.ds.length (a.ds.map uc)∧okD a.ds
theorem Zjn.int {base:Nat} {w:World} {v:Value} {a:RI} (h:Zjn base w v a):Yv w v a:=by
 obtain ⟨s,h1,h2,h3⟩:=h;exact ⟨s,h1,VU h2 h3⟩
theorem Zjn.keep {base:Nat} {w w':World} {v:Value} {a:RI} (h:Zjn base w v a) (hk:ZG w w'):Zjn base w' v a:=by
 obtain ⟨s,h1,h2,h3⟩:=h;exact ⟨s,h1,Zua h2 hk,h3⟩
theorem Zjn.below {base:Nat} {w w':World} {v:Value} {a:RI} (h:Zjn base w v a) (hb:Below w.heap.size w w'):Zjn base w' v a:=h.keep (ZG.of_below hb)
theorem Zjn.mono {base base':Nat} {w:World} {v:Value} {a:RI} (h:Zjn base w v a) (hb:base'≤base):Zjn base' w v a:=by
 obtain ⟨s,h1,h2,h3⟩:=h;exact ⟨s,h1,Zub h2 hb,h3⟩
theorem Zjn.zero (base:Nat) (w:World):Zjn base w (.agg #[.bool false,.slice none 0 0]) (canI 0):=by
 rw [canI_zero];exact ⟨_,rfl,World.ownsRow_nil _ _ _ _,okD_nil⟩
theorem Zjn.shape {base:Nat} {w:World} {v:Value} {a:RI} (h:Zjn base w v a):∃A n c,v= .agg #[.bool a.neg,.slice A n c]:=by
 obtain ⟨A,n,c,hv,_⟩:=h.int.shape;exact ⟨A,n,c,hv⟩
theorem Zuc {w w2:World} {base m g:Nat} {x y b s:Value} {a:RI} (hR:Bk w2 g 44 [x,y]) (d:Zjn base w2 (.agg #[b,s]) a) (hbe:Below m w w2) (hg:m≤g):
 ∃v',Ending.returned (.agg [b,s].toArray)= .returned v'∧Zjn base ((w2.setCell ⟨g,0,none⟩ b).setCell ⟨g,1,none⟩ s) v' a∧Below m w ((w2.setCell ⟨g,0,none⟩ b).setCell ⟨g,1,none⟩ s):=
 ⟨_,rfl,d.keep (hR.keep2 (by decide) _ _),Yp hbe hg _ _⟩
theorem Yep (neg:Bool) (v:Value) (ds:List Nat) (w:World) (h:Z6 w v ds) (hs:(Zq (val ds)).length≤549755813888):
 Calls Tryz.prog 113 #[.bool neg,v] w fun e w'=>∃v',e= .returned v'∧Zjn w.heap.size w' v' (canI (sm neg (val ds)))∧Below w.heap.size w w':=by
 have hR:=Bk.new w 44 [.bool false,.slice none 0 0];have d:=Zi w (.cells [.bool false,.slice none 0 0].toArray 44);have h':=h.below d;obtain ⟨i0,hi,p,q,r⟩:=info_parts info_u32;have HI:=JZ hi;have t:=JZ p;have u:=JZ q;have x:=JZ r;clear hi p q r;go_enter Tryz.func113,Tryz.ntmps113;go_wp2_with fail;generalize w.alloc _=W at *;refine (YY _ ds _ h').mono ?_;rintro e w1 ⟨v1,rfl,h1,rfl⟩;obtain ⟨A,n,c,rfl⟩:=h1.shape;obtain ⟨kl,s,z,kc⟩:=h1.len;obtain ⟨c0,c1,f0,f1⟩:=hR.two;rcases JV n with h0 | h0
 ·have hv:val ds=0:=Vb (by omega);subst h0;have HV:=JZ hv;clear hv kl s hs;go_wp2;refine Zp Tryz.results113 Tryz.underlying44 (by kernel_rfl) rfl (hR.set2 _ _) rfl ?_;exact ⟨_,rfl,by rw [HV.out,Zes];exact Zjn.zero _ _,Yp d (JY _) _ _⟩
 ·have hv:val ds≠0:=UT (by omega);have HV:=JZ hv;have HS:=JZ hs;obtain ⟨b,B,rfl,C,i⟩:=h1.at_ h0;clear hv i hs c0 c1 f0 f1;have m:(Zq (val ds)).length=n:=by omega
  have g:=JZ m;clear m kl s kc z;go_wp2_with (at_builtin;refine wpList_append_own_at _ rfl (.const (.slice none 0 0)) (.tmp 12) _ rfl w.heap.size 148 i0 _ 1 4 Tryz.underlying42 HI.out t.out u.out x.out rfl (by decide) (.slice none 0 0) 0 [] rfl ?c0 ⟨b,B,none⟩ n c ((Zq (val ds)).map uc) rfl ?c1 ?c2 (Zap _) ?c3 ?c4 ?c5 ?_)
  case c0=>exact World.ownsRow_nil _ _ _ _
  case c1=>simp;exact g.out
  case c2=>exact h1.news
  case c3=>have:=HS.out;have:=g.out;unfold maxLen;omega
  case c4=>have:=HS.out;have:=g.out;omega
  case c5=>exact d.size
  ·intro v' w1 j a _ _;have f:w1.ownsRow w.heap.size 148 1 v' (Zq (val ds)).length ((Zq (val ds)).map uc):=(by have:=g.out;simpa [this] using j);have y:=VU f (Yj (val ds));have l:=hR.grown a (by simp [Value.ownBlock]);have o:Below w.heap.size w w1:=d.grown a d.size (fun k hk=>by simp [Value.ownBlock] at hk);obtain ⟨A1,n1,k1,rfl⟩:=y.shape;obtain ⟨c0,c1,f0,f1⟩:=l.two;clear j a;go_wp2;refine Zp Tryz.results113 Tryz.underlying44 (by kernel_rfl) rfl (l.set2 _ _) rfl ?_;rw [Zrn _ _ HV.out];exact Zuc l ⟨_,rfl,f,Yj _⟩ o (JY _)
theorem Zkg (v:Value) (a:RI) (w:World) (h:Yv w v a) (hs:(Zq (val a.ds)).length≤549755813888):
 Calls Tryz.prog 112 #[v] w fun e w'=>∃v',e= .returned v'∧Zjn w.heap.size w' v' (canI a.z)∧Below w.heap.size w w':=by
 obtain ⟨A,n,c,rfl,hd⟩:=h.shape;obtain ⟨W,hW,hX,hR,b⟩:=Ynp w (.bool a.neg) (.slice A n c);have g:=hd.below b;obtain ⟨x0,x1,y0,y1⟩:=hX.two;go_enter Tryz.func112,Tryz.ntmps112;go_wp2_with fail;clear hW;refine (Yep _ _ a.ds _ g hs).mono ?_;rw [← RI.z_eq];rintro e w1 ⟨v1,rfl,e1,f⟩;obtain ⟨A1,n1,k1,rfl⟩:=e1.shape;have d:=hR.later f;obtain ⟨c0,c1,f0,f1⟩:=d.two;go_wp2;refine Zp Tryz.results112 Tryz.underlying44 (by kernel_rfl) rfl (d.set2 _ _) rfl ?_;exact Zuc d (e1.mono b.size) (Za b f b.size) (by omega)
end Go.Proofs.YtgbhebappffbdaaGreat
namespace Go.Proofs.YtgbhebappffbdaaGreat
open Go.RowKit
open Pl
attribute [local go_sem ↓] Go.wp_at_zero Go.wp_at_succ
namespace Pl
def bl (n:Nat):Nat:=if n=0 then 0 else n.log2+1
theorem bl_zero:bl 0=0:=rfl
theorem Yee (n:Nat):n < 2^bl n:=by
 unfold bl;split
 ·subst_vars;decide
 ·rename_i h;exact (Nat.log2_lt h).1 (Nat.lt_succ_self _)
theorem Zwi {n:Nat} (h:n≠0):0 < bl n∧2^(bl n - 1)≤n:=by
 unfold bl;rw [if_neg h];exact ⟨by omega,by simpa using (Nat.le_log2 h).1 (JY _)⟩
theorem Zhl {n k:Nat} (h:n < 2^k) (h2:k=0∨2^(k - 1)≤n):bl n=k:=by
 rcases JV n with h0 | h0
 ·subst h0;rcases h2 with rfl | h2
  ·rfl
  ·have:=Nat.pow_pos (n:=k - 1) (show 0 < 2 by decide);omega
 ·have h1:n≠0:=by omega
  have hk:k≠0:=by rintro rfl;simp at h;omega
  rcases h2 with h2 | h2
  ·exact absurd h2 hk
  ·have a:=(Nat.log2_lt h1).2 h;have b:=(Nat.le_log2 h1).2 h2;unfold bl;rw [if_neg h1];omega
theorem Yix {n:Nat} (h:n≠0):bl n=bl (n / 2)+1:=by
 have h1:=Yee (n / 2);have e:2^(bl (n / 2)+1)=2 * 2^bl (n / 2):=by rw [Nat.pow_succ,Nat.mul_comm]
 apply Zhl
 ·omega
 ·right;rw [Nat.add_sub_cancel];rcases JV (n / 2) with h0 | h0
  ·rw [h0,bl_zero];omega
  ·obtain ⟨p,q⟩:=Zwi (n:=n / 2) (by omega);have e2:2^bl (n / 2)=2 * 2^(bl (n / 2) - 1):=by
    rw [show bl (n / 2)=(bl (n / 2) - 1)+1 by omega,Nat.pow_succ,Nat.mul_comm,Nat.add_sub_cancel]
   omega
theorem Zet (k:Nat):B32^k=2^(32 * k):=by rw [Nat.pow_mul];rfl
theorem Yiy {a r k:Nat} (ha:a≠0) (hr:r < 2^k):bl (r+a * 2^k)=k+bl a:=by
 apply Zhl
 ·rw [Nat.pow_add];have h:(a+1) * 2^k≤2^bl a * 2^k:=JS _ (Yee a);rw [Nat.add_mul,Nat.one_mul] at h;rw [Nat.mul_comm (2^k)];omega
 ·right;obtain ⟨p,q⟩:=Zwi ha;rw [show k+bl a - 1=(bl a - 1)+k by omega,Nat.pow_add];have:=JS (2^k) q;omega
theorem Yiz {n l:Nat} (hl:(Zq n).length=l+1):bl n=32 * l+bl (dg (Zq n) l):=by
 have hv:n=vt (Zq n) (l+1):=by rw [X8 (by omega),Zm]
 have h0:dg (Zq n) l≠0:=by
  have hp:0 < n:=by
   rcases JV n with h | h
   ·subst h;rw [digs_zero] at hl;simp at hl
   ·exact h
  have:=UO hp
  rwa [hl,Nat.add_sub_cancel] at this
 have hr:=Zbe (Yj n) l;rw [Xh] at hv;rw [Zet] at hv hr;have:=Yiy h0 hr;rw [← hv] at this;exact this
theorem Zzy {a b:Nat} (h:a≤b):bl a≤bl b:=by
 rcases JX (bl b) (bl a) with hlt | hge
 ·exfalso;have ha:a≠0:=by rintro rfl;simp [bl] at hlt
  obtain ⟨p,q⟩:=Zwi ha;have h1:=Yee b;have h2:2^bl b≤2^(bl a - 1):=Nat.pow_le_pow_right (by decide) (by omega);omega
 ·exact hge
theorem Yhe {n:Nat}:bl n≤32 * (Zq n).length:=by
 rcases JX (32 * (Zq n).length) (bl n) with h | h
 ·exfalso;have hn:n≠0:=by rintro rfl;simp [bl] at h
  obtain ⟨p,q⟩:=Zwi hn;have h1:=Yz n;rw [Zet] at h1;have h2:2^(32 * (Zq n).length)≤2^(bl n - 1):=Nat.pow_le_pow_right (by decide) (by omega);omega
 ·exact h
theorem Zoe {a b:Nat} (h:bl a < bl b):a < b:=by
 rcases JX a b with g | g
 ·exact g
 ·have:=Zzy g;omega
theorem Yef {a b:Nat} (h:bl b≤bl a) (hb:b≠0):a < b * 2^(bl a - bl b+1):=by
 obtain ⟨p,q⟩:=Zwi hb;have h1:=Yee a;have h2:=JS (2^(bl a - bl b+1)) q;rw [← Nat.pow_add,show bl b - 1+(bl a - bl b+1)=bl a by omega] at h2;omega
theorem or_bit {a s:Nat} (h:2^(s+1)∣a):a ||| 2^s=a+2^s:=by
 obtain ⟨m,rfl⟩:=h;have:=Nat.shiftLeft_add_eq_or_of_lt (i:=s+1) (b:=2^s) (by rw [Nat.pow_succ];have:=Nat.pow_pos (n:=s) (show 0 < 2 by decide);omega) m;rw [Nat.shiftLeft_eq,Nat.mul_comm m] at this;exact this.symm
theorem Yja {Q:List Nat} {i:Nat} (ok:okD Q) (h:2^(i+1)∣val Q):2^(i % 32+1)∣dg Q (i / 32):=by
 have hs:=Zcr Q (i / 32);have hl:=Zbe ok (i / 32);have hd:=Zyr ok (i / 32);rw [Zet] at hs hl;have hi:i+1=32 * (i / 32)+(i % 32+1):=by omega
 rw [hi,Nat.pow_add] at h;have hB:2^(i % 32+1)∣B32:=⟨2^(32 - (i % 32+1)),by rw [← Nat.pow_add,show i % 32+1+(32 - (i % 32+1))=32 by omega];rfl⟩;generalize val (Q.drop (i / 32+1))=H at *;have h0:vt Q (i / 32)=0:=by
  have a:2^(32 * (i / 32))∣val Q:=Nat.dvd_trans (Nat.dvd_mul_right _ _) h;have b:2^(32 * (i / 32))∣vt Q (i / 32):=by
   rw [hs] at a;exact (Nat.dvd_add_left (Nat.dvd_mul_right _ _)).1 a
  exact Nat.eq_zero_of_dvd_of_lt b hl
 rw [h0,Nat.zero_add] at hs;rw [hs] at h;have h3:=Nat.dvd_of_mul_dvd_mul_left (Nat.pow_pos (by decide)) h;exact (Nat.dvd_add_left (Nat.dvd_trans hB (Nat.dvd_mul_right _ _))).1 h3
theorem Yjb {Q:List Nat} {i:Nat} (hi:i / 32 < Q.length):val (Q.set (i / 32) (dg Q (i / 32)+2^(i % 32)))=val Q+2^i:=by
 have h:=Zhe (ds:=Q) (i:=i / 32) (z:=((dg Q (i / 32)+2^(i % 32):Nat):Int)) hi (Int.natCast_nonneg _);rw [JP] at h;have e:2^i=2^(i % 32) * B32^(i / 32):=by
  rw [Zet,← Nat.pow_add,show i % 32+32 * (i / 32)=i by omega]
 rw [e];have e2:((dg Q (i / 32)+2^(i % 32):Nat):Int) - di Q (i / 32)=((2^(i % 32):Nat):Int):=by unfold di;omega
 rw [e2,← Int.natCast_mul] at h;omega
theorem Yeg {d s:Nat} (hs:s < 32) (hd:d < B32) (h:2^(s+1)∣d):d+2^s < B32:=by
 obtain ⟨m,rfl⟩:=h;have hB:B32=2^(s+1) * 2^(32 - (s+1)):=by rw [← Nat.pow_add,show s+1+(32 - (s+1))=32 by omega];rfl
 rw [hB] at hd ⊢;have hm:=Nat.lt_of_mul_lt_mul_left hd;have h2:2^(s+1) * (m+1)≤2^(s+1) * 2^(32 - (s+1)):=Nat.mul_le_mul_left _ hm;have h3:2^s < 2^(s+1):=Nat.pow_lt_pow_right (by decide) (by omega);rw [Nat.mul_add] at h2;omega
theorem Yeh {X b Q R j:Nat} (hX:X=Q * b+R) (hR:R < b * 2^(j+1)) (hle:b * 2^j≤R) (hd:2^(j+1)∣Q):X=(Q+2^j) * b+(R - b * 2^j)∧R - b * 2^j < b * 2^j∧2^j∣Q+2^j:=by
 rw [Nat.pow_succ,← Nat.mul_assoc] at hR;refine ⟨?_,by omega,Nat.dvd_add (Nat.dvd_trans ⟨2,by rw [Nat.pow_succ]⟩ hd) (Nat.dvd_refl _)⟩;rw [Nat.add_mul,Nat.mul_comm (2^j) b];omega
theorem Yei {Q j:Nat} (hd:2^(j+1)∣Q):2^j∣Q:=Nat.dvd_trans ⟨2,by rw [Nat.pow_succ]⟩ hd
theorem Zty (b j:Nat):b * 2^(j+1) / 2=b * 2^j:=by rw [Nat.pow_succ,← Nat.mul_assoc,Nat.mul_div_cancel _ (by decide)]
theorem Yjc {X b Q R:Nat} (hX:X=Q * b+R) (hR:R < b):Q=X / b∧R=X % b:=by
 have h:X / b=Q∧X % b=R:=by
  rw [hX,Nat.mul_comm,Nat.mul_add_div (by omega),Nat.div_eq_of_lt hR,Nat.mul_add_mod,Nat.mod_eq_of_lt hR];exact ⟨rfl,rfl⟩
 exact ⟨h.1.symm,h.2.symm⟩
theorem Zzz {S xs:List Nat} {k q s:Nat} {hi lo:Int} (hk:k+q+1 < S.length) (h0:dg S (k+q+1)=0) (hlo:0≤lo) (hhi:0≤hi) (e:di xs k * 2^s=lo+4294967296 * hi)
 (h:(val S:Int)=vt xs k * 2^(32 * q+s)):
 ((val ((S.set (k+q) (di S (k+q)+lo).toNat).set (k+q+1) hi.toNat):Nat):Int)=vt xs (k+1) * 2^(32 * q+s):=by
 have hd:=Zu S (k+q);rw [Zhe (by simpa using hk) hhi,Zhe (by omega) (by omega),YE (S.set _ _),Yt (by omega),h0,Yd,YW,h];have e1:((B32^(k+q):Nat):Int)=((B32^k:Nat):Int) * 2^(32 * q):=by
  rw [Nat.pow_add,Zet q,Int.natCast_mul,Int.natCast_pow 2];rfl
 rw [e1,Int.pow_add];generalize ((B32^k:Nat):Int)=P at *;generalize (2:Int)^(32 * q)=T at *;generalize (2:Int)^s=U at *;generalize (vt xs k:Int)=V at *;generalize di S (k+q)=D at *;generalize di xs k=x at *;simp only [Int.natCast_zero,Int.sub_zero];grind
theorem Yej {O xs:List Nat} {k:Nat} (hx:xs.length≤k) (hO:O.length≤k) (h:2 * (vt O k:Int)+di xs 0 % 2=(vt xs k:Int)+(di xs k % 2) * ((B32^k:Nat):Int)):val O=val xs / 2:=by
 rw [X8 hx,X8 hO,YE xs k,Vo hx] at h;have e2:di xs 0 % 2=((dg xs 0 % 2:Nat):Int):=by rw [Int.natCast_emod];rfl
 rw [e2] at h;have:((0:Nat):Int) % 2 * ((B32^k:Nat):Int)=0:=by simp
 omega
end Pl
theorem Zhm (v:Value) (ds:List Nat) (w:World) (h:Z6 w v ds) (hs:(Zq (val ds)).length≤549755813888):
 Calls Tryz.prog 158 #[v] w fun e w'=>e= .returned (.int .i64 (bl (val ds):Int))∧w=w':=by
 generalize hX:val ds=X at *;have HX:=JZ hX;clear hX;go_enter Tryz.func158,Tryz.ntmps158;go_wp2_with fail;refine (YY _ ds _ h).mono ?_;rw [HX.out];rintro e w1 ⟨u1,rfl,g1,rfl⟩;clear h;obtain ⟨A,l,c,rfl⟩:=g1.shape;obtain ⟨hl,f,q,hc⟩:=g1.len;rcases JV l with h0 | h0
 ·have hv:X=0:=Vb (by omega);subst h0;have HV:=JZ hv;clear hv hl f hs;go_wp2;go_ret;exact ⟨by rw [HV.out,bl_zero];rfl,rfl⟩
 ·obtain ⟨j,rfl⟩:∃j,l=j+1:=⟨l - 1,by omega⟩;have d:bl X=32 * j+bl (dg (Zq X) j):=Yiz (by omega);obtain ⟨b,r,rfl,_,a⟩:=g1.at_ (by omega);have o:=a j (by omega);have x0:=Zu (Zq X) j;have x1:=Yu (Yj X) j;have HB:=JZ d;have p:(j:Int)≤549755813888:=by omega
  clear a d hl f hs;go_wp2
  go_loop [3,4] (fun n x=>∃(m:Nat) (y:Nat),n= .int .i64 (m:Int)∧x= .int .u32 (y:Int)∧y < 4294967296∧m+bl y=32 * j+bl (dg (Zq X) j)∧m≤32 * j+32) (fun _ x=>(intOf x).toNat)
  case atStart=>exact ⟨32 * j,dg (Zq X) j,by go_num,rfl,by unfold di at x1;omega,rfl,by omega⟩
  case round=>
   obtain ⟨m,y,rfl,rfl,hy,hm,s⟩:=hrel;have HM:=JZ hm;clear hm;rcases JV y with hy0 | hy0
   ·subst hy0;go_wp2;go_ret;exact ⟨VT (by have:=HB.out;have:=HM.out;rw [bl_zero] at this;omega),rfl⟩
   ·have hh:=Yix (n:=y) (by omega);have g:=Zwi (n:=dg (Zq X) j);have i:bl (dg (Zq X) j)≤32:=by
     have h1:bl (dg (Zq X) j)≤bl 4294967295:=Zzy (by unfold di at x1;omega);have h2:bl 4294967295=32:=Zhl (by decide) (.inr (by decide));omega
    have k:m+1≤32 * j+32:=(by have:=HM.out;omega);have HH:=JZ hh;clear hh g i;go_wp2
    go_round
    case rel=>exact ⟨m+1,y / 2,by go_num,by go_num,by omega,by have:=HM.out;have:=HH.out;omega,k⟩
    case measure=>simp [intOf];omega
theorem Yek {z y:Int} {s:Nat} (hs:s≤31) (z0:0≤z) (z1:z < 2^s) (y0:0≤y) (y1:y≤4294967295):bits .or .u32 z (y * 2^s % 4294967296)=z+y * 2^s % 4294967296∧z+y * 2^s % 4294967296≤4294967295:=by
 obtain ⟨a,rfl⟩:=JT z0;obtain ⟨b,rfl⟩:=JT y0;have hB:2^s * 2^(32 - s)=4294967296:=by rw [← Nat.pow_add,show s+(32 - s)=32 from by omega]
 have d:=Nat.pow_pos (n:=s) (show 0 < 2 by decide);have f:2^s≤2^31:=Nat.pow_le_pow_right (by decide) hs;rw [YO] at *;have e:((b:Int) * ((2^s:Nat):Int)) % 4294967296=(((b % 2^(32 - s)) * 2^s:Nat):Int):=by
  have:(b * 2^s) % 4294967296=(b % 2^(32 - s)) * 2^s:=by rw [← hB,Nat.mul_comm (2^s),Nat.mul_mod_mul_right]
  rw [← this];omega
 rw [e];have c:=Nat.mod_lt b (Nat.pow_pos (n:=32 - s) (show 0 < 2 by decide));generalize b % 2^(32 - s)=m at *;have hm:(m+1) * 2^s≤4294967296:=by
  rw [← hB,Nat.mul_comm (2^s)];exact JS _ c
 rw [Nat.add_mul,Nat.one_mul] at hm;refine ⟨?_,by omega⟩;rw [u32_or_nat _ _ (by omega) (by omega),Nat.or_comm,← Nat.shiftLeft_eq,← Nat.shiftLeft_add_eq_or_of_lt (by omega),Nat.shiftLeft_eq];omega
theorem Zwj (v:Value) (ds:List Nat) (q s:Nat) (w:World) (h:Z6 w v ds) (hs:s≤31) (hl0:ds.length+q≤549755813888):
 Calls Tryz.prog 159 #[v,.int .i64 ((32 * q+s:Nat):Int)] w fun e w'=>∃k l,e= .returned (.slice (some ⟨w.heap.size,0,none⟩) k l)∧Z6 w' (.slice (some ⟨w.heap.size,0,none⟩) k l) (Zq (val ds * 2^(32 * q+s)))∧Below w.heap.size w w':=by
 obtain ⟨A,l,c,rfl⟩:=h.shape;obtain ⟨hl,C,Y,hc⟩:=h.len;have r:=Vr hs;have G:(1:Int)≤2^s:=WM s;have f:=Y8 (l+q+1) (by omega)
 push_cast at f
 have HX:Hid (ds.length≤l):=JZ (by omega);have H:(q:Int)≤549755813888:=by omega
 have I:(l:Int)+q≤549755813888:=by omega
 have t:=h.ok;generalize hN:((32 * q+s:Nat):Int)=N;have J:0≤N:=by omega
 have K:N≤17592186044447:=by omega
 have L:N / 32=(q:Int):=by omega
 have M:N % 32=(s:Int):=by omega
 clear hl C hl0 hN;go_enter Tryz.func159,Tryz.ntmps159;go_wp2;clear f
 go_loopw [6] (fun i wr=>∃(k:Nat) (O:List Nat),k≤l∧i= .int .i64 k∧l+q+1≤O.length∧O.length≤l+q+1∧Y6 wr w.heap.size O∧okD O∧Below w.heap.size w wr∧
  (val O:Int)=vt ds k * 2^(32 * q+s)∧di O (k+q) < 2^s∧∀j,k+q < j→dg O j=0) (fun i _=>l - (intOf i).toNat)
 case atStart=>exact ⟨0,List.replicate (l+q+1) 0,by omega,rfl,by simp,by simp,Y6.zeros w _,ZR _,(JR _ _).alloc (JY _) _,by simp [Xg,Wd],by rw [YE,VH];simp;omega,fun j _=>VH _ _⟩
 case round=>
  obtain ⟨k,O,hk,rfl,hO,m,hB,ok,d,n,o,hz⟩:=hrel;have HE:=JZ n;have HZ:=JZ hz;clear n hz;rcases JX k l with hkl | hkl
  ·obtain ⟨b1,F,rfl,D,b⟩:=h.at_ (by omega);have hx:=We d D b hkl;have x0:=Zu ds k;have x1:=Yu t k;have z0:=Zu O (k+q);obtain ⟨p,E⟩:=Yek hs z0 o x0 x1;have ho:=hB.cell (k:=k+q) (by omega);have hf:=hB.frozen (k+q);have m0:0≤di ds k * 2^s % 4294967296:=Int.emod_nonneg _ (by decide);have a:=hB.setI (k+q) (z:=di O (k+q)+di ds k * 2^s % 4294967296) (by omega);have u:=a.cell (k:=k+q+1) (by simp;omega);have x:=a.frozen (k+q+1);have P:(k:Int)+q < (l:Int)+q+1:=(by omega);have R:(k:Int)+q+1 < (l:Int)+q+1:=(by omega);have S:((k:Int)+q).toNat=k+q:=(by omega);have U:((k:Int)+q+1).toNat=k+q+1:=(by omega);have p0:0≤di ds k * 2^s:=Int.mul_nonneg x0 (by omega);have p1:di ds k * 2^s≤4294967295 * 2147483648:=Int.mul_le_mul x1 r (by omega) (by omega);have y:di ds k * 2^s / 4294967296 < 2^s:=by
    have:di ds k * 2^s < 4294967296 * 2^s:=Int.mul_lt_mul_of_pos_right (by omega) (by omega);exact Int.ediv_lt_of_lt_mul (by decide) (by rw [Int.mul_comm (2^s)];exact this)
   have g:∀T:Int,T=di ds k * 2^s→((val ((O.set (k+q) (di O (k+q)+T % 4294967296).toNat).set (k+q+1) (T / 4294967296).toNat):Nat):Int)=vt ds (k+1) * 2^(32 * q+s):=by
    rintro T rfl;exact Zzz (by omega) (HZ.out _ (by omega)) m0 (by omega) (by omega) HE.out
   obtain ⟨T,hT⟩:∃T,T=di ds k * 2^s:=⟨_,rfl⟩;have B:=JZ (g T hT);rw [← hT] at p E m0 a u x p0 p1 y;have V:=hT.symm;clear hT g;have X:bits .or .u32 (di O (k+q)) (T % 4294967296)=di O (k+q)+T % 4294967296:=p;go_wp2;go_roundw
   case rel=>exact ⟨k+1,(O.set (k+q) (di O (k+q)+T % 4294967296).toNat).set (k+q+1) (T / 4294967296).toNat,by omega,by go_num,by simpa using hO,by simpa using m,a.setI _ (by omega),ZT (ZT ok _ (by unfold B32;omega)) _ (by unfold B32;omega),(d.setCell (JY _) _).setCell (JY _) _,B.out,by rw [show k+1+q=k+q+1 by omega,YE,UM (by simp;omega)];omega,fun j hj=>by rw [Yt (by omega),Yt (by omega)];exact HZ.out j (by omega)⟩
   case measure=>simp [intOf];omega
  ·obtain rfl:k=l:=by omega
   go_wp2_with fail;refine (Zgp _ _ _ O _ ?_).mono ?_
   ·have:=hB.dig ok (c:=k+q+1) m (by unfold maxLen;omega)
    rwa [show O.length=k+q+1 from by omega] at this
   rintro e w1 ⟨k',rfl,hv,rfl⟩;go_wp2_with fail;go_ret;refine ⟨_,_,rfl,?_,d⟩;have:=HE.out;rw [X8 HX.out,YO,← Int.natCast_mul] at this
   rwa [Int.natCast_inj.1 this] at hv
theorem cell_far {w:World} {b o g:Nat} {v:Value} (hne:b≠g) (h:w.cell? ⟨b,o,none⟩=some v) (k:Nat) (u:Value):(w.setCell ⟨g,k,none⟩ u).drew.cell? ⟨b,o,none⟩=some v:=
 (World.cell?_setCell_other w ⟨g,k,none⟩ ⟨b,o,none⟩ u (fun e=>hne (by injection e with e1;exact e1.symm))).trans h
theorem Yjd {x y:Int} (x0:0≤x) (x1:x≤4294967295) (y0:0≤y) (y1:y≤4294967295):bits .or .u32 (x / 2) (y * 2147483648 % 4294967296)=x / 2+2147483648 * (y % 2):=by
 have e:y * 2147483648 % 4294967296=((2147483648 * (y.toNat % 2):Nat):Int):=by omega
 have e1:x / 2=((x.toNat / 2:Nat):Int):=by omega
 rw [e,e1,u32_or_nat _ _ (by omega) (by omega)];have h:2147483648 * (y.toNat % 2) ||| (x.toNat / 2)=2147483648 * (y.toNat % 2)+x.toNat / 2:=by
  have:=Nat.shiftLeft_add_eq_or_of_lt (i:=31) (b:=x.toNat / 2) (by omega) (y.toNat % 2);rw [Nat.shiftLeft_eq,show (2:Nat)^31=2147483648 from rfl,Nat.mul_comm] at this;exact this.symm
 rw [Nat.or_comm,h];omega
theorem Zof (v:Value) (ds:List Nat) (w:World) (h:Z6 w v ds) (hl0:ds.length≤549755813888):
 Calls Tryz.prog 160 #[v] w fun e w'=>∃k l,e= .returned (.slice (some ⟨w.heap.size,0,none⟩) k l)∧Z6 w' (.slice (some ⟨w.heap.size,0,none⟩) k l) (Zq (val ds / 2))∧Below w.heap.size w w':=by
 obtain ⟨A,l,c,rfl⟩:=h.shape;obtain ⟨hl,p,t,hc⟩:=h.len;have m:=Y8 l (by omega);have HX:Hid (ds.length≤l):=JZ (by omega);have r:(l:Int)≤549755813888:=by omega
 have g:=h.ok;clear hl p hl0;go_enter Tryz.func160,Tryz.ntmps160;go_wp2;clear m
 go_loopw [4] (fun i wr=>∃(k:Nat) (O:List Nat),k≤l∧i= .int .i64 k∧l≤O.length∧O.length≤l∧Y6 wr w.heap.size O∧okD O∧Below w.heap.size w wr∧
  2 * (vt O k:Int)+di ds 0 % 2=(vt ds k:Int)+(di ds k % 2) * ((B32^k:Nat):Int)) (fun i _=>l - (intOf i).toNat)
 case atStart=>exact ⟨0,List.replicate l 0,by omega,rfl,by simp,by simp,Y6.zeros w _,ZR _,(JR _ _).alloc (JY _) _,by simp [Xg]⟩
 case round=>
  obtain ⟨k,O,hk,rfl,hO,f,hB,ok,b,j⟩:=hrel;have HE:=JZ j;clear j;rcases JX k l with hkl | hkl
  ·obtain ⟨b1,d,rfl,q,a⟩:=h.at_ (by omega);have hx:=We b q a hkl;have x0:=Zu ds k;have x1:=Yu g k;have y0:=Zu ds (k+1);have y1:=Yu g (k+1);have ho:=hB.cell (k:=k) (by omega);have hf:=hB.frozen k;clear a;have s:=Yjd x0 x1 y0 y1;have g1:IntKind.i64.wrap ((k:Int)+1)=((k+1:Nat):Int):=(by simp only [IntKind.wrap,IntKind.bits,IntKind.signed];simp;omega);have g2:IntKind.u64.wrap (di ds (k+1) * 2147483648)=di ds (k+1) * 2147483648:=u64_in _ (by omega) (by omega);have g3:IntKind.u32.wrap (di ds (k+1) * 2147483648)=di ds (k+1) * 2147483648 % 4294967296:=(by simp only [IntKind.wrap,IntKind.bits,IntKind.signed];simp);have hd:=WI (.slice (some ⟨b1,d,none⟩) l c) ds (k+1) wr.drew ((h.below b).keep (ZG.drew _)) (by omega);have n:Hid (2 * (vt (O.set k (di ds k / 2+2147483648 * (di ds (k+1) % 2)).toNat) (k+1):Int)+di ds 0 % 2=(vt ds (k+1):Int)+(di ds (k+1) % 2) * ((B32^(k+1):Nat):Int)):=JZ (Zlq (by omega) (by omega) (by omega) HE.out);go_wp2;have o:b1≠w.heap.size:=by omega
   go_region_held3 (fun w'=>w'.cell? ⟨b1,d+k,none⟩=some (.int .u32 (di ds k)))
    (first | exact hx | exact cell_far o hx _ _)
    ((go_at_call 147;refine hd.mono ?_;rintro e w1 ⟨rfl,rfl⟩))
   go_wp2;go_roundw
   case rel=>exact ⟨k+1,O.set k (di ds k / 2+2147483648 * (di ds (k+1) % 2)).toNat,by omega,by go_num,by simpa using hO,by simpa using f,hB.setI k (by omega),ZT ok _ (by unfold B32;omega),(b.setCell (JY _) _).drew,n.out⟩
   case measure=>simp [intOf];omega
  ·obtain rfl:k=l:=by omega
   go_wp2_with fail;refine (Zgp _ _ _ O _ ?_).mono ?_
   ·have:=hB.dig ok (c:=k) f (by unfold maxLen;omega)
    rwa [show O.length=k from by omega] at this
   rintro e w1 ⟨k',rfl,hv,rfl⟩;go_wp2_with fail;go_ret;refine ⟨_,_,rfl,?_,b⟩
   rwa [Yej HX.out f HE.out] at hv
end Go.Proofs.YtgbhebappffbdaaGreat
