/- Lemmas of the claim; no condition. -/
import Derived.Deep.RegionHeld3
import Derived.Deep.DrawnRows
import Derived.Test.YtncmobkhenfhpaaGreatE1
set_option linter.all false
set_option maxRecDepth 100000
set_option maxHeartbeats 40000000
namespace Go.Proofs.YtncmobkhenfhpaaGreat
open Go.RowKit
open Pl
attribute [local go_sem ↓] Go.wp_at_zero Go.wp_at_succ
namespace Pl
theorem Zxl {V1 V2 o p b x d:Nat} (h:V1+o * p=V2+d * p):x+b * V1+o * (p * b)=x+b * V2+d * (p * b):=by
 have h1:b * (V1+o * p)=b * (V2+d * p):=by rw [h]
 rw [Nat.mul_add,Nat.mul_add] at h1;have e1:o * (p * b)=b * (o * p):=by rw [← Nat.mul_assoc,Nat.mul_comm]
 have e2:d * (p * b)=b * (d * p):=by rw [← Nat.mul_assoc,Nat.mul_comm]
 omega
theorem Zdm {ds:List Nat} {i:Nat} {z:Int} (h:i < ds.length) (hz:0≤z):((val (ds.set i z.toNat):Nat):Int)=val ds+(z - di ds i) * ((B32^i:Nat):Int):=by
 have e:∀(l:List Nat) (i d:Nat),i < l.length→val (l.set i d)+dg l i * B32^i=val l+d * B32^i:=by
  intro l
  induction l with
  | nil=>intro i d h;simp at h
  | cons x l ih=>
   intro i d h
   cases i with
   | zero=>simp [val,dg];omega
   | succ i=>
    have:=ih i d (by simpa using h);have e1:dg (x::l) (i+1)=dg l i:=(by simp [dg]);rw [List.set_cons_succ,e1];simp only [val,Nat.pow_succ];generalize B32^i=p at *;generalize B32=b at *;generalize val (l.set i d)=V1 at *;generalize val l=V2 at *;generalize dg l i=o at *;exact Zxl this
 have h1:=e ds i z.toNat h;have h2:((val (ds.set i z.toNat):Nat):Int)+di ds i * ((B32^i:Nat):Int)=val ds+z * ((B32^i:Nat):Int):=by
  have:=congrArg (fun n:Nat=>(n:Int)) h1;simp only [Int.natCast_add,Int.natCast_mul,Int.toNat_of_nonneg hz] at this;exact this
 rw [Int.sub_mul];omega
theorem Zxm (V V0 o r z q d f p pk pj yj:Int) (h:V+z * p=V0+d * pk * yj) (e:z+(d * f+o)=r+4294967296 * q) (hp:p=pk * pj):V+(r - o) * p+q * (p * 4294967296)=V0+d * pk * (yj+f * pj):=by
 subst hp;grind
theorem Zop {O ys:List Nat} {k j:Nat} {z d r q V0:Int} (hk:k+j < O.length) (hr:0≤r) (e:z+(d * di ys j+di O (k+j))=r+4294967296 * q)
 (h:(val O:Int)+z * ((B32^(k+j):Nat):Int)=V0+d * ((B32^k:Nat):Int) * vt ys j):
 (val (O.set (k+j) r.toNat):Int)+q * ((B32^(k+(j+1)):Nat):Int)=V0+d * ((B32^k:Nat):Int) * vt ys (j+1):=by
 rw [Zdm hk hr,← Nat.add_assoc,Yz,Z4];exact Zxm _ _ _ _ _ _ _ _ _ _ _ _ h e (by rw [Nat.pow_add,Int.natCast_mul])
theorem Zti {O ys:List Nat} {k:Nat} {z d V0:Int} (hk:k+ys.length < O.length) (hz:0≤z) (h0:dg O (k+ys.length)=0)
 (h:(val O:Int)+z * ((B32^(k+ys.length):Nat):Int)=V0+d * ((B32^k:Nat):Int) * vt ys ys.length):
 (val (O.set (k+ys.length) z.toNat):Int)=V0+d * ((B32^k:Nat):Int) * val ys:=by
 rw [Zdm hk hz,Yq,h0,← Yac ys,← h];simp
theorem Zdn {xs ys:List Nat} {k:Nat} {V V':Int} (h:V=(vt xs k:Int) * val ys) (h':V'=V+di xs k * ((B32^k:Nat):Int) * val ys):V'=(vt xs (k+1):Int) * val ys:=by
 rw [h',h,Z4,Int.add_mul]
theorem Zhi (ds:List Nat) (j:Nat):val (ds.drop j)=dg ds j+B32 * val (ds.drop (j+1)):=by
 rcases JX j ds.length with h | h
 ·rw [List.drop_eq_getElem_cons h];have:ds[j]=dg ds j:=by simp [dg,h]
  rw [this];rfl
 ·rw [List.drop_eq_nil_of_le h,List.drop_eq_nil_of_le (by omega),Wv h];simp [val]
theorem Ztj (x V Q r d b q m:Nat) (h:V=d * Q+r) (e:r * b+x=d * q+m):x+b * V=d * (q+b * Q)+m:=by
 subst h;have e1:b * (d * Q+r)=d * (b * Q)+r * b:=by
  rw [Nat.mul_add,Nat.mul_left_comm,Nat.mul_comm b r]
 rw [e1,Nat.mul_add];omega
theorem Ztk {ds Q:List Nat} {j r d:Nat} (hj:j < Q.length) (h:val (ds.drop (j+1))=d * val (Q.drop (j+1))+r):
 val (ds.drop j)=d * val ((Q.set j ((r * B32+dg ds j) / d)).drop j)+(r * B32+dg ds j) % d:=by
 rw [Zhi,Zhi (Q.set j _) j,VT hj,List.drop_set_of_lt (by omega)];exact Ztj _ _ _ _ _ _ _ _ h (Nat.div_add_mod _ _).symm
end Pl
theorem Ve {w w1:World} (h:Below w.drew.heap.size w.drew w1):Below w.heap.size w w1:=((JR _ w).drew).trans h
theorem Zqv [Old] (v1 v2:Value) (xs ys:List Nat) (w:World) (h1:ZQ w v1 xs) (h2:ZQ w v2 ys) (h0:xs.length=0∨ys.length=0) (hOl:Zb w:=by (repeat (first | assumption | exact Zb.up (by assumption) hOl | exact Zb.up (Hid.out (by assumption)) hOl | with_reducible refine Zb.set ?_ _ _ | with_reducible refine Zb.mk_ ?_ _ | with_reducible refine Zb.dr ?_ | with_reducible refine Zb.drN ?_ | refine Zb.up (by assumption) ?_ | refine Zb.up (Hid.out (by assumption)) ?_))):
 Calls Tryz.prog 150 #[v1,v2] w fun e w'=>∃v',e= .returned v'∧ZQ w' v' (Zo (val xs * val ys))∧Below w.heap.size w w':=by
 have a:=hOl.le;have e0:val xs * val ys=0:=by
  rcases h0 with h | h
  ·rw [List.length_eq_zero_iff.1 h];simp [val]
  ·rw [List.length_eq_zero_iff.1 h];simp [val]
 rw [e0,digs_zero];clear e0;obtain ⟨A,l,c,rfl⟩:=h1.shape;obtain ⟨hl,b,d,hc⟩:=h1.len;obtain ⟨A2,l2,c2,rfl⟩:=h2.shape;obtain ⟨kl,f,i,kc⟩:=h2.len;rcases JV l with g | g
 ·obtain rfl:l=0:=g;go_enter Tryz.func150,Tryz.ntmps150;go_wp2;go_ret;exact ⟨_,rfl,ZQ.nil _ _ _ (by simp),JR _ _⟩
 ·obtain rfl:l2=0:=by omega
  have hb:((l:Int)==0)=false:=by simp;omega
  go_enter Tryz.func150,Tryz.ntmps150;go_wp2;go_ret;exact ⟨_,rfl,ZQ.nil _ _ _ (by simp),JR _ _⟩
theorem Zqw [Old] (v1 v2:Value) (xs ys:List Nat) (w:World) (h1:ZQ w v1 xs) (h2:ZQ w v2 ys) (g1:xs.length=1) (g2:ys.length=1) (hOl:Zb w:=by (repeat (first | assumption | exact Zb.up (by assumption) hOl | exact Zb.up (Hid.out (by assumption)) hOl | with_reducible refine Zb.set ?_ _ _ | with_reducible refine Zb.mk_ ?_ _ | with_reducible refine Zb.dr ?_ | with_reducible refine Zb.drN ?_ | refine Zb.up (by assumption) ?_ | refine Zb.up (Hid.out (by assumption)) ?_))):
 Calls Tryz.prog 150 #[v1,v2] w fun e w'=>∃v',e= .returned v'∧ZQ w' v' (Zo (val xs * val ys))∧Below w.heap.size w w':=by
 have k:=hOl.le;obtain ⟨x,rfl⟩:=List.length_eq_one_iff.1 g1;obtain ⟨y,rfl⟩:=List.length_eq_one_iff.1 g2;obtain ⟨A,l,c,rfl⟩:=h1.shape;obtain ⟨hl,f,m,hc⟩:=h1.len;obtain ⟨A2,l2,c2,rfl⟩:=h2.shape;obtain ⟨kl,g,n,kc⟩:=h2.len;obtain rfl:l=1:=by simp at hl f;omega
 obtain rfl:l2=1:=by simp at kl g;omega
 obtain ⟨b1,h,rfl,o,a⟩:=h1.at_ (by omega);obtain ⟨b2,i,rfl,r,b⟩:=h2.at_ (by omega);have hx:=a 0 (by omega);have hy:=b 0 (by omega);rw [Nat.add_zero] at hx hy;have x0:=Zr [x] 0;have x1:=Yk h1.ok 0;have y0:=Zr [y] 0;have y1:=Yk h2.ok 0;have hv:val [x] * val [y]=(di [x] 0 * di [y] 0).toNat:=by
  have:di [x] 0 * di [y] 0=((x * y:Nat):Int):=by simp [di,dg]
  rw [this,JP];simp [val]
 rw [hv];clear a b hl f kl g h1 h2 hv;generalize di [x] 0=p at *;generalize di [y] 0=q at *;have p0:0≤p * q:=Int.mul_nonneg x0 y0;have p1:p * q≤4294967295 * 4294967295:=Int.mul_le_mul x1 y1 y0 (by omega);have r1:IntKind.u64.wrap p=p:=u64_in p x0 (by omega);have r2:IntKind.u64.wrap q=q:=u64_in q y0 (by omega);have r3:IntKind.u64.wrap (p * q)=p * q:=u64_in _ p0 (by omega);go_enter Tryz.func150,Tryz.ntmps150;go_wp2
 go_region_held3 (fun w'=>w'.cell? ⟨b1,h,none⟩=some (.int .u32 p)∧w'.cell? ⟨b2,i,none⟩=some (.int .u32 q)) (first | exact ⟨hx,hy⟩ | exact ⟨cell_later d hx,cell_later d hy⟩)
  (first | (go_at_call 159;refine (YL (p * q) _ p0 (by omega)).mono ?_;rintro e w1 ⟨v',rfl,j,d⟩))
 go_wp2;go_ret;exact ⟨_,rfl,j,Ve d⟩
theorem Ztl {O xs ys:List Nat} {k:Nat} (hk:xs.length≤k) (h:(val O:Int)=(vt xs k:Int) * val ys):val O=val xs * val ys:=by
 rw [Xy hk,← Int.natCast_mul] at h;omega
theorem Zfy {O ys:List Nat} {k j:Nat} {z d V0:Int} (hj:ys.length=j) (hk:k+j < O.length) (hz:0≤z) (h0:dg O (k+j)=0)
 (h:(val O:Int)+z * ((B32^(k+j):Nat):Int)=V0+d * ((B32^k:Nat):Int) * vt ys j):(val (O.set (k+j) z.toNat):Int)=V0+d * ((B32^k:Nat):Int) * val ys:=by
 subst hj;exact Zti hk hz h0 h
theorem Zqx [Old] (v1 v2:Value) (xs ys:List Nat) (w:World) (h1:ZQ w v1 xs) (h2:ZQ w v2 ys) (g1:0 < xs.length) (g2:0 < ys.length) (g:2 < xs.length+ys.length) (hs:xs.length+ys.length≤1099511627776) (hOl:Zb w:=by (repeat (first | assumption | exact Zb.up (by assumption) hOl | exact Zb.up (Hid.out (by assumption)) hOl | with_reducible refine Zb.set ?_ _ _ | with_reducible refine Zb.mk_ ?_ _ | with_reducible refine Zb.dr ?_ | with_reducible refine Zb.drN ?_ | refine Zb.up (by assumption) ?_ | refine Zb.up (Hid.out (by assumption)) ?_))):
 Calls Tryz.prog 150 #[v1,v2] w fun e w'=>∃v',e= .returned v'∧ZQ w' v' (Zo (val xs * val ys))∧Below w.heap.size w w':=by
 have K:=hOl.le;obtain ⟨A,l,c,rfl⟩:=h1.shape;obtain ⟨hl,L,M,hc⟩:=h1.len;obtain ⟨A2,l2,c2,rfl⟩:=h2.shape;obtain ⟨kl,N,P,kc⟩:=h2.len;obtain ⟨b1,I,rfl,F,a⟩:=h1.at_ (by omega);obtain ⟨b2,J,rfl,G,b⟩:=h2.at_ (by omega);have B:=h1.ok;have C:=h2.ok;have D:=JZ a;have E:=JZ b;clear a b h1 h2;have s:=YE (l+l2) (by omega)
 push_cast at s
 have t1:((l:Int)==0)=false:=by simp;omega
 have t2:((l2:Int)==0)=false:=by simp;omega
 have t:((l:Int)==1)=true∧((l2:Int)==1)=false∨((l:Int)==1)=false:=by
  by_cases h:l=1
  ·left;subst h;simp;omega
  ·right;simp;omega
 rcases t with ⟨t3,t4⟩ | t3;all_goals
  go_enter Tryz.func150,Tryz.ntmps150;go_wp2;clear s
  go_loopw [46] (fun i wr=>∃(k:Nat) (O:List Nat),k≤l∧i= .int .i64 k∧l+l2≤O.length∧O.length≤l+l2∧YD wr w.heap.size O∧okD O∧Below w.heap.size w wr∧
   (val O:Int)=(vt xs k:Int) * val ys∧(∀j,k+l2≤j→dg O j=0)) (fun i _=>l - (intOf i).toNat)
  case atStart=>exact ⟨0,List.replicate (l+l2) 0,by omega,rfl,by simp,by simp,YD.zeros w _,ZM _,(JR _ _).alloc (JY _) _,by simp [YN,XB],fun j _=>WO _ _⟩
  case round=>
   obtain ⟨k,O,hk,rfl,hO,q,hB,ok,f,v,x⟩:=hrel;have HE:=JZ v;have HZ:=JZ x;clear v x;rcases JX k l with hkl | hkl
   ·have hx:=XC f F D.out hkl;have x0:=Zr xs k;have x1:=Yk B k;by_cases hd:dg xs k=0
    ·have t5:=UM hd;have HD:=JZ hd;clear hd;go_wp2;go_roundw
     case rel=>exact ⟨k+1,O,by omega,by go_num,hO,q,hB,ok,f,Zdn HE.out (by rw [Yq,HD.out];simp),fun j hj=>HZ.out j (by omega)⟩
     case measure=>simp [intOf];omega
    ·have t5:=VU hd;clear hd;obtain ⟨wo,H⟩:∃wo:World,wo=wr:=⟨_,rfl⟩;subst H;go_wp2
     go_loopw [8,68] (fun cy i wr=>∃(j:Nat) (O':List Nat) (z:Int),j≤l2∧i= .int .i64 j∧cy= .int .u64 z∧0≤z∧z≤4294967295∧l+l2≤O'.length∧O'.length≤l+l2∧YD wr w.heap.size O'∧okD O'∧Below w.heap.size w wr∧
      (val O':Int)+z * ((B32^(k+j):Nat):Int)=(val O:Int)+di xs k * ((B32^k:Nat):Int) * vt ys j∧(∀i,k+l2≤i→dg O' i=0)) (fun _ i _=>l2 - (intOf i).toNat)
     case atStart=>exact ⟨0,O,0,by omega,rfl,rfl,by omega,by omega,hO,q,hB,ok,f,by simp [YN],HZ.out⟩
     case round=>
      clear hx f hB;obtain ⟨j,O',z,hj,rfl,rfl,z0,z1,hP,y,d,r,m,n,o⟩:=hrel;have u:=JZ n;have p:=JZ o;clear n o;rcases JX j l2 with hjl | hjl
      ·have hy:=XC m G E.out hjl;have y0:=Zr ys j;have y1:=Yk C j;have p0:0≤di xs k * di ys j:=Int.mul_nonneg x0 y0;have p1:di xs k * di ys j≤4294967295 * 4294967295:=Int.mul_le_mul x1 y1 y0 (by omega);have ho:=d.cell (k:=k+j) (by omega);have hf:=d.frozen (k+j);have o0:=Zr O' (k+j);have o1:=Yk r (k+j);go_wp2;go_roundw
       case rel=>exact ⟨j+1,O'.set (k+j) ((z+(di xs k * di ys j+di O' (k+j))) % 4294967296).toNat,_,by omega,by go_num,rfl,by omega,by omega,by simpa using hP,by simpa using y,d.setI _ (by omega),ZN r _ (by unfold B32;omega),m.setCell (JY _) _,Zop (by omega) (by omega) (by omega) u.out,fun i hi=>by rw [Yj (by omega)];exact p.out i hi⟩
       case measure=>simp [intOf];omega
      ·obtain rfl:j=l2:=by omega
       have ho:=d.cell (k:=k+j) (by omega);have hf:=d.frozen (k+j);go_wp2;go_roundw
       case rel=>exact ⟨k+1,O'.set (k+j) z.toNat,by omega,by go_num,by simpa using hP,by simpa using y,d.setI _ (by omega),ZN r _ (by unfold B32;omega),m.setCell (JY _) _,Zdn HE.out (Zfy (by omega) (by omega) z0 (p.out _ (JY _)) u.out),fun i hi=>by rw [Yj (by omega)];exact p.out i (by omega)⟩
       case measure=>simp [intOf];omega
   ·obtain rfl:k=l:=by omega
    go_wp2_with fail;refine (Ya _ O _ ?_).mono ?_
    ·have:=hB.dig ok (c:=k+l2) q (by unfold maxLen;omega)
     rwa [show O.length=k+l2 from by omega] at this
    rintro e w1 ⟨v',rfl,hv,rfl⟩;go_wp2_with fail;go_ret;refine ⟨_,rfl,?_,f⟩
    rwa [Ztl (by omega) HE.out] at hv
theorem Zqy [Old] (v1 v2:Value) (xs ys:List Nat) (w:World) (h1:ZQ w v1 xs) (h2:ZQ w v2 ys) (hs:xs.length+ys.length≤1099511627776) (hOl:Zb w:=by (repeat (first | assumption | exact Zb.up (by assumption) hOl | exact Zb.up (Hid.out (by assumption)) hOl | with_reducible refine Zb.set ?_ _ _ | with_reducible refine Zb.mk_ ?_ _ | with_reducible refine Zb.dr ?_ | with_reducible refine Zb.drN ?_ | refine Zb.up (by assumption) ?_ | refine Zb.up (Hid.out (by assumption)) ?_))):
 Calls Tryz.prog 150 #[v1,v2] w fun e w'=>∃v',e= .returned v'∧ZQ w' v' (Zo (val xs * val ys))∧Below w.heap.size w w':=by
 have a:=hOl.le;by_cases h:xs.length=0∨ys.length=0
 ·exact Zqv v1 v2 xs ys w h1 h2 h
 ·by_cases g:xs.length=1∧ys.length=1
  ·exact Zqw v1 v2 xs ys w h1 h2 g.1 g.2
  ·exact Zqx v1 v2 xs ys w h1 h2 (by omega) (by omega) (by omega) hs
section
namespace Pl
theorem Zxq {U V V' U' q v1 top P:Nat} (hV:V=v1 * P+V') (hU:U=top * P+U') (hU':U' < P) (hq:q * V≤U) (h1:0 < v1):q≤top / v1:=by
 rw [Nat.le_div_iff_mul_le h1];have a1:q * (v1 * P)≤q * V:=Nat.mul_le_mul_left _ (by omega);have a2:q * v1 * P < (top+1) * P:=by
  rw [Nat.mul_assoc,Nat.add_mul,Nat.one_mul];omega
 have:=Nat.lt_of_mul_lt_mul_right a2;omega
theorem Yeg {U V V' U' q G v12 top3 P:Nat} (hV:V=v12 * P+V') (hU:U=top3 * P+U') (hU':U' < P) (hq:q * V≤U) (h:top3 < G * v12):q < G:=by
 rcases JX q G with h1 | h1
 ·exact h1
 ·exfalso;have a1:G * (v12 * P)≤q * V:=Nat.mul_le_mul h1 (by omega);have a2:(top3+1) * P≤G * v12 * P:=JS _ h;rw [Nat.add_mul,Nat.one_mul] at a2;rw [← Nat.mul_assoc] at a1;omega
theorem Ybk {U V V' U' G v12 top3 P b:Nat} (hV:V=v12 * P+V') (hU:U=top3 * P+U') (hV':V' < P) (h:G * v12≤top3) (hG:G≤b) (hb:b * P≤V):G * V≤U+V:=by
 have a1:G * V=G * v12 * P+G * V':=by rw [hV,Nat.mul_add,Nat.mul_assoc]
 have a2:G * v12 * P≤top3 * P:=JS _ h;have a3:G * V'≤b * P:=Nat.mul_le_mul hG (by omega);omega
theorem Ztm (O g f v p r q a b c bo y x:Int) (h:O - (c+bo) * p=a - g * b) (e1:c+g * f=y+4294967296 * v) (e2:x - bo - y=r - 4294967296 * q):O+r * p - (v+q) * (p * 4294967296)=a+x * p - g * (b+f * p):=by grind
theorem Ztn (X:List Nat) (m:Nat):vt X (m+3)=(dg X (m+2) * B32+dg X (m+1)) * B32^(m+1)+vt X (m+1):=by
 rw [YO,YO,Nat.pow_succ B32 (m+1),Nat.add_mul];generalize B32^(m+1)=p;generalize B32=b;have:dg X (m+2) * (p * b)=dg X (m+2) * b * p:=by rw [Nat.mul_assoc,Nat.mul_comm p b]
 omega
theorem Zmm (X:List Nat) (m:Nat):vt X (m+3)=((dg X (m+2) * B32+dg X (m+1)) * B32+dg X m) * B32^m+vt X m:=by
 rw [Ztn,YO X m,Nat.pow_succ,Nat.add_mul _ (dg X m)];generalize dg X (m+2) * B32+dg X (m+1)=t;generalize B32^m=p;generalize B32=b;have:t * (p * b)=t * b * p:=by rw [Nat.mul_assoc,Nat.mul_comm p b]
 omega
theorem Zmn (X:List Nat) (m:Nat):vt X (m+2)=dg X (m+1) * B32^(m+1)+vt X (m+1):=by rw [YO,Nat.add_comm]
theorem Ybl (X:List Nat) (m:Nat):vt X (m+2)=(dg X (m+1) * B32+dg X m) * B32^m+vt X m:=by
 rw [Zmn,YO X m,Nat.pow_succ,Nat.add_mul];generalize B32^m=p;generalize B32=b;have:dg X (m+1) * (p * b)=dg X (m+1) * b * p:=by rw [Nat.mul_assoc,Nat.mul_comm p b]
 omega
section
variable {U vs:List Nat} {m q:Nat} {G R:Int}
theorem Ybm (okU:okD U) (hq:q * vt vs (m+2)≤vt U (m+3)) (h1:1≤di vs (m+1)):(q:Int)≤(di U (m+2) * 4294967296+di U (m+1)) / di vs (m+1):=by
 have h:=Zxq (Zmn vs m) (Ztn U m) (Uz okU _) hq (by rw [Yq] at h1;omega);have e:(di U (m+2) * 4294967296+di U (m+1)) / di vs (m+1)=(((dg U (m+2) * B32+dg U (m+1)) / dg vs (m+1):Nat):Int):=by
  rw [Int.natCast_ediv,Int.natCast_add,Int.natCast_mul];rfl
 rw [e];omega
theorem Zto (okU:okD U) (hq:q * vt vs (m+2)≤vt U (m+3)) (hG:0≤G) (hR:0≤R) (e:G * di vs (m+1)+R=di U (m+2) * 4294967296+di U (m+1)) (t:R * 4294967296+di U m < G * di vs m):(q:Int)≤G - 1:=by
 obtain ⟨g,rfl⟩:=JT hG;obtain ⟨r,rfl⟩:=JT hR;have e':g * dg vs (m+1)+r=dg U (m+2) * B32+dg U (m+1):=by
  rw [Yq,Yq,Yq] at e;rw [B32_eq];omega
 have t':r * B32+dg U m < g * dg vs m:=by
  rw [Yq,Yq] at t;rw [B32_eq];have:((g * dg vs m:Nat):Int)=(g:Int) * (dg vs m:Nat):=Int.natCast_mul _ _;omega
 have h:=Yeg (G:=g) (Ybl vs m) (Zmm U m) (Uz okU _) hq (by
  rw [← e',Nat.add_mul,Nat.mul_add];have:g * (dg vs (m+1) * B32)=g * dg vs (m+1) * B32:=(Nat.mul_assoc _ _ _).symm;omega)
 omega
theorem Zmo (okV:okD vs) (hG:0≤G) (hG1:G≤4294967295) (hR:0≤R) (h1:1≤di vs (m+1)) (e:G * di vs (m+1)+R=di U (m+2) * 4294967296+di U (m+1)) (t:G * di vs m≤R * 4294967296+di U m):
 G.toNat * vt vs (m+2)≤vt U (m+3)+vt vs (m+2):=by
 obtain ⟨g,rfl⟩:=JT hG;obtain ⟨r,rfl⟩:=JT hR;have e':g * dg vs (m+1)+r=dg U (m+2) * B32+dg U (m+1):=by
  rw [Yq,Yq,Yq] at e;rw [B32_eq];omega
 have t':g * dg vs m≤r * B32+dg U m:=by
  rw [Yq,Yq] at t;rw [B32_eq];have:((g * dg vs m:Nat):Int)=(g:Int) * (dg vs m:Nat):=Int.natCast_mul _ _;omega
 rw [JP];refine Ybk (b:=B32) (Ybl vs m) (Zmm U m) (Uz okV _) ?_ (by rw [B32_eq];omega) ?_
 ·rw [← e',Nat.add_mul,Nat.mul_add];have:g * (dg vs (m+1) * B32)=g * dg vs (m+1) * B32:=(Nat.mul_assoc _ _ _).symm;omega
 ·rw [Ybl,Nat.mul_comm B32];have h2:B32^m * B32≤(dg vs (m+1) * B32+dg vs m) * B32^m:=by
   rw [Nat.mul_comm];refine JS _ ?_;have:1 * B32≤dg vs (m+1) * B32:=JS _ (by rw [Yq] at h1;omega);omega
  omega
theorem Yeh (okV:okD vs) (h:vt U (m+3) < B32 * vt vs (m+2)):di U (m+2)≤di vs (m+1):=by
 rcases JX (dg vs (m+1)) (dg U (m+2)) with h1 | h1
 ·exfalso;rw [YO U (m+2),Zmn vs m] at h;have a1:=Uz okV (m+1);have a2:(dg vs (m+1)+1) * B32^(m+2)≤dg U (m+2) * B32^(m+2):=JS _ h1;rw [Nat.pow_succ B32 (m+1)] at a2 h;generalize B32^(m+1)=p at *;generalize vt vs (m+1)=y at *;generalize dg vs (m+1)=d at *;have a3:(d+1) * (p * B32)=B32 * (d * p+p):=by rw [Nat.mul_comm p,← Nat.mul_assoc,Nat.mul_comm (d+1),Nat.mul_assoc,Nat.add_mul,Nat.one_mul]
  have a4:B32 * (d * p+y)≤B32 * (d * p+p):=Nat.mul_le_mul_left _ (by omega);omega
 ·rw [Yq,Yq];omega
end
theorem Zjn {X U vs:List Nat} {k:Nat} {g c bo r q v y:Int} (hk:k < X.length) (hr:0≤r) (e1:c+g * di vs k=y+4294967296 * v) (e2:di U k - bo - y=r - 4294967296 * q)
 (h:(vt X k:Int) - (c+bo) * ((B32^k:Nat):Int)=vt U k - g * vt vs k):
 (vt (X.set k r.toNat) (k+1):Int) - (v+q) * ((B32^(k+1):Nat):Int)=vt U (k+1) - g * vt vs (k+1):=by
 rw [Y4 hk hr,Z4,Z4,Yz];exact Ztm _ _ _ _ _ _ _ _ _ _ _ _ _ h e1 e2
theorem Zxr {U vs X:List Nat} {n q:Nat} {g c bo:Int} (okX:okD X) (okV:okD vs) (hV:0 < vt vs n) (hq:q=vt U (n+1) / vt vs n) (hg0:(q:Int)≤g) (hg1:g.toNat * vt vs n≤vt U (n+1)+vt vs n)
 (h:(vt X n:Int) - (c+bo) * ((B32^n:Nat):Int)=vt U n - g * vt vs n):
 (0≤di U n - bo - c→di U n - bo - c=0∧g=q∧vt X n=vt U (n+1) % vt vs n)∧
 (di U n - bo - c < 0→di U n - bo - c= -1∧g - 1=q∧vt X n+vt vs n=vt U (n+1) % vt vs n+B32^n):=by
 obtain ⟨G,rfl⟩:=JT (show 0≤g by omega);rw [JP] at hg1;have hX:=Uz okX n;have f:=Uz okV n;have hU:=Z4 U n;have b:=Nat.div_add_mod (vt U (n+1)) (vt vs n);have i:=Nat.mod_lt (vt U (n+1)) hV;rw [← hq] at b;generalize vt U (n+1) % vt vs n=R at *;generalize vt U (n+1)=UU at *;generalize vt vs n=V at *;generalize vt X n=XX at *;generalize B32^n=P at *;generalize vt U n=U0 at *;have d:G=q∨G=q+1:=by
  have:G < q+2:=by
   have a:G * V < (q+2) * V:=by
    rw [Nat.add_mul];have:V * q=q * V:=Nat.mul_comm _ _;omega
   exact Nat.lt_of_mul_lt_mul_right a
  omega
 have j:(XX:Int)+(di U n - bo - c) * (P:Int)=UU - G * V:=by
  have:(di U n - bo - c) * (P:Int)=di U n * (P:Int) - (c+bo) * (P:Int):=by rw [Int.sub_sub,Int.sub_mul];rw [Int.add_comm bo c]
  omega
 generalize di U n - bo - c=t at *;have k:((q * V:Nat):Int)=(q:Int) * V:=Int.natCast_mul _ _;have e:V * q=q * V:=Nat.mul_comm _ _;rcases d with rfl | rfl
 ·have hR:(XX:Int)+t * P=R:=by omega
  refine ⟨fun h0=>?_,fun h0=>?_⟩
  ·have ht:t=0:=by
    rcases Int.lt_or_eq_of_le h0 with h1 | h1
    ·exfalso;have:1 * (P:Int)≤t * P:=Int.mul_le_mul_of_nonneg_right (by omega) (by omega);omega
    ·exact h1.symm
   subst ht;exact ⟨rfl,rfl,by omega⟩
  ·exfalso;have:t * (P:Int)≤(-1) * P:=Int.mul_le_mul_of_nonneg_right (by omega) (by omega);omega
 ·have hR:(XX:Int)+t * P=R - V:=by
   have:(((q+1:Nat):Int)) * V=(q:Int) * V+V:=by rw [Int.natCast_add,Int.add_mul];simp
   omega
  refine ⟨fun h0=>?_,fun h0=>?_⟩
  ·exfalso;have:0 * (P:Int)≤t * P:=Int.mul_le_mul_of_nonneg_right h0 (by omega);omega
  ·have ht:t= -1:=by
    rcases Int.lt_or_eq_of_le (show t≤ -1 by omega) with h1 | h1
    ·exfalso;have:t * (P:Int)≤(-2) * P:=Int.mul_le_mul_of_nonneg_right (by omega) (by omega);omega
    ·exact h1
   subst ht;exact ⟨rfl,by omega,by omega⟩
end Pl
end
namespace Pl
theorem Zhk {X:List Nat} {n:Nat} (h:val X < B32^n) {i:Nat} (hi:n≤i):dg X i=0:=by
 rcases JV (dg X i) with h0 | h0
 ·exact h0
 ·exfalso;have h1:=U7 X i;have h2:B32^i * 1≤B32^i * (dg X i+B32 * val (X.drop (i+1))):=Nat.mul_le_mul_left _ (by omega);have h3:B32^n≤B32^i:=Nat.pow_le_pow_right B32_pos hi;omega
theorem Zbp {X:List Nat} {n:Nat} (h:∀i,n≤i→dg X i=0):vt X n=val X:=by
 have:∀k,vt X (n+k)=vt X n:=by
  intro k
  induction k with
  | zero=>rfl
  | succ k ih=>rw [← Nat.add_assoc,YO,h (n+k) (by omega),ih];simp
 have h2:=this X.length;rw [Xy (by omega)] at h2;exact h2.symm
theorem Zmt {X:List Nat} {j n:Nat} (h:∀i,j+n≤i→dg X i=0):val X=vt X j+B32^j * vt (X.drop j) n:=by
 have e:vt (X.drop j) n=val (X.drop j):=Zbp (fun i hi=>by rw [WY];exact h _ (by omega));rw [e];rcases JX j X.length with hj | hj
 ·have hl:(X.take j).length=j:=by rw [List.length_take];omega
  have:=val_append (X.take j) (X.drop j);rw [List.take_append_drop,hl] at this;exact this
 ·rw [List.drop_eq_nil_of_le hj,Xy hj];simp [val]
theorem Yei (ds:List Nat) (n:Nat):vt ds (n+1)=dg ds 0+B32 * vt (ds.drop 1) n:=by
 cases ds with
 | nil=>simp [vt,val,dg]
 | cons d ds=>
  simp [vt,val,dg]
theorem Zxy {Y:Nat} {ys OV:List Nat} {m s:Nat} (hy:ys=Zo Y) (hl:ys.length=m+2) (hs:s≤31) (h0:2147483648≤dg ys (m+1) * 2^s) (h1:dg ys (m+1) * 2^s≤4294967295) (okV:okD OV) (hV:val OV=Y * 2^s):
 vt OV (m+2)=Y * 2^s∧2147483648≤dg OV (m+1):=by
 have j:okD ys:=hy▸Yb Y;have hY:Y=vt ys (m+2):=by rw [Xy (by omega),hy,Zl]
 rw [Zmn] at hY;have o:=Uz j (m+1);have hB:2^s * 2^(32 - s)=B32:=by rw [← Nat.pow_add,show s+(32 - s)=32 from by omega];rfl
 generalize ht:dg ys (m+1)=t at *;generalize hP:B32^(m+1)=P at *
 -- (t+1) 2^s≤B
 have k:(t+1) * 2^s≤B32:=by
  have a:t * 2^s < 2^(32 - s) * 2^s:=by rw [Nat.mul_comm (2^(32 - s)),hB];unfold B32;omega
  have b:=Nat.lt_of_mul_lt_mul_right a;have c:(t+1) * 2^s≤2^(32 - s) * 2^s:=JS _ b
  rwa [Nat.mul_comm (2^(32 - s)),hB] at c
 have l:val OV < B32^(m+2):=by
  rw [hV,Nat.pow_succ,hP];have a:(Y+1) * 2^s≤((t+1) * P) * 2^s:=JS _ (by rw [Nat.add_mul,Nat.one_mul];omega);have b:((t+1) * 2^s) * P≤B32 * P:=JS _ k;rw [Nat.add_mul,Nat.one_mul] at a;have c:(t+1) * P * 2^s=(t+1) * 2^s * P:=Nat.mul_right_comm _ _ _;have d:=Nat.pow_pos (n:=s) (show 0 < 2 by decide);rw [Nat.mul_comm P];omega
 have hz:∀i,m+2≤i→dg OV i=0:=fun i hi=>Zhk l hi
 have e:=Zbp hz;refine ⟨by rw [e,hV],?_⟩;rcases JX (dg OV (m+1)) 2147483648 with h | h
 ·exfalso;have a:=Zmn OV m;rw [e,hV,hP] at a;have b:=Uz okV (m+1);rw [hP] at b;have c:(dg OV (m+1)+1) * P≤2147483648 * P:=JS _ h;rw [Nat.add_mul,Nat.one_mul] at c;have d:2147483648 * P≤(t * 2^s) * P:=JS _ h0;have f:(t * P) * 2^s≤Y * 2^s:=JS _ (by omega);have g:t * 2^s * P=t * P * 2^s:=Nat.mul_right_comm _ _ _;omega
 ·exact h
theorem Zrc {X s l m:Nat} {OU OV:List Nat} (hX:X < B32^l) (hs:s≤31) (hm:m+2≤l) (hU:val OU=X * 2^s) (hlen:OU.length≤l+1) (ht:2147483648≤dg OV (m+1)):
 vt (OU.drop (l - (m+2)+1)) (m+2) < vt OV (m+2):=by
 have hz:∀i,l - (m+2)+1+(m+2)≤i→dg OU i=0:=fun i hi=>Wv (by omega)
 have hc:=Zmt hz;have f:2^s≤2147483648:=Nat.pow_le_pow_right (show 0 < 2 by decide) hs;rcases JX (vt (OU.drop (l - (m+2)+1)) (m+2)) (vt OV (m+2)) with h | h
 ·exact h
 ·exfalso;have a:2147483648 * B32^(m+1)≤vt OV (m+2):=by
   rw [Zmn];have:=JS (B32^(m+1)) ht;omega
  have b:B32^(l - (m+2)+1) * (2147483648 * B32^(m+1))≤B32^(l - (m+2)+1) * vt (OU.drop (l - (m+2)+1)) (m+2):=Nat.mul_le_mul_left _ (JW a h);have c:B32^(l - (m+2)+1) * (2147483648 * B32^(m+1))=2147483648 * B32^l:=by
   rw [Nat.mul_left_comm,← Nat.pow_add,show l - (m+2)+1+(m+1)=l from by omega]
  have d:(X+1) * 2^s≤B32^l * 2147483648:=Nat.mul_le_mul hX f;rw [Nat.add_mul,Nat.one_mul] at d;have e:=Nat.pow_pos (n:=s) (show 0 < 2 by decide);rw [Nat.mul_comm (B32^l)] at d;omega
theorem Zts {U V j m:Nat} {O O' Q:List Nat} (hj:j < Q.length) (hVpos:0 < V) (hVlt:V≤B32^(m+2)) (hz:∀i,j+1+(m+2)≤i→dg O i=0)
 (hsame:∀i,i < j∨j+m+3≤i→dg O' i=dg O i) (hrem:vt (O'.drop j) (m+3)=vt (O.drop j) (m+3) % V) (hU:U=V * val (Q.drop (j+1)) * B32^(j+1)+val O):
 (∀i,j+(m+2)≤i→dg O' i=0)∧vt (O'.drop j) (m+2) < V∧U=V * val ((Q.set j (vt (O.drop j) (m+3) / V)).drop j) * B32^j+val O':=by
 have f:=Nat.mod_lt (vt (O.drop j) (m+3)) hVpos;have d:∀i,j+(m+3)≤i→dg O' i=0:=fun i hi=>by rw [hsame i (.inr (by omega))];exact hz i (by omega)
 have c:dg O' (j+(m+2))=0:=by
  have a:=YO (O'.drop j) (m+2);rw [hrem] at a;rcases JV (dg (O'.drop j) (m+2)) with h | h
  ·rwa [WY] at h
  ·exfalso;have:1 * B32^(m+2)≤dg (O'.drop j) (m+2) * B32^(m+2):=JS _ h;omega
 have g:∀i,j+(m+2)≤i→dg O' i=0:=fun i hi=>by
  rcases Nat.eq_or_lt_of_le hi with e | e
  ·rw [← e];exact c
  ·exact d i (by omega)
 have hv:vt (O'.drop j) (m+3)=vt (O'.drop j) (m+2):=by rw [YO,WY,c];simp
 refine ⟨g,by rw [← hv,hrem];exact f,?_⟩;have e1:=Zmt (X:=O) (j:=j) (n:=m+3) (fun i hi=>hz i (by omega));have e2:=Zmt (X:=O') (j:=j) (n:=m+3) d;have e3:vt O' j=vt O j:=Zxg (fun i hi=>hsame i (.inl hi));rw [hrem,e3] at e2;rw [hU,e1,e2,Zhi (Q.set j _) j,VT hj,List.drop_set_of_lt (by omega),Nat.pow_succ];have e4:=Nat.div_add_mod (vt (O.drop j) (m+3)) V;generalize vt (O.drop j) (m+3) / V=q at *;generalize vt (O.drop j) (m+3) % V=R at *;generalize vt (O.drop j) (m+3)=W at *;generalize val (Q.drop (j+1))=A at *;generalize B32^j=P at *;generalize B32=b at *;rw [← e4];have f1:V * (q+b * A) * P=V * q * P+V * A * (P * b):=by
  rw [Nat.mul_add,Nat.add_mul]
  congr 1
  rw [Nat.mul_left_comm,Nat.mul_comm P b,Nat.mul_comm b,Nat.mul_assoc,Nat.mul_assoc]
 rw [f1,Nat.mul_add,Nat.mul_comm P (V * q)];omega
theorem Zxz {X Y s m:Nat} {O Q OV:List Nat} (hU:X * 2^s=vt OV (m+2) * val Q+val O) (hV:vt OV (m+2)=Y * 2^s) (hz:∀i,m+2≤i→dg O i=0) (hr:vt O (m+2) < vt OV (m+2)):val Q=X / Y∧vt O (m+2) / 2^s=X % Y:=by
 rw [Zbp hz] at hr ⊢;rw [hV] at hU hr;have hp:=Nat.pow_pos (n:=s) (show 0 < 2 by decide);generalize 2^s=p at *;have hY:0 < Y:=Nat.pos_of_ne_zero (fun e=>by subst e;simp at hr)
 -- val O is a multiple of p
 have e1:Y * p * val Q=p * (Y * val Q):=by rw [Nat.mul_comm Y p,Nat.mul_assoc]
 have e2:val O=p * (X - Y * val Q):=by rw [Nat.mul_sub,← e1,Nat.mul_comm p X];omega
 have e3:Y * val Q≤X:=by
  have:p * (Y * val Q)≤p * X:=by rw [← e1,Nat.mul_comm p X];omega
  exact Nat.le_of_mul_le_mul_left this hp
 have e4:X - Y * val Q < Y:=by
  rw [e2,Nat.mul_comm Y p] at hr;exact Nat.lt_of_mul_lt_mul_left hr
 rw [e2,Nat.mul_div_cancel_left _ hp];have e5:X=Y * val Q+(X - Y * val Q):=by omega
 generalize X - Y * val Q=r at *;subst e5;rw [Nat.mul_add_div hY,Nat.div_eq_of_lt e4,Nat.mul_add_mod,Nat.mod_eq_of_lt e4];exact ⟨by omega,rfl⟩
end Pl
end Go.Proofs.YtncmobkhenfhpaaGreat
