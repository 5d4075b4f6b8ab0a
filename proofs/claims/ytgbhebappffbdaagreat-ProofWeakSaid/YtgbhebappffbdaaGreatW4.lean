/- Lemmas of the claim; no condition. -/
import Derived.Test.YtgbhebappffbdaaGreatW3
set_option linter.all false
set_option maxRecDepth 100000
set_option maxHeartbeats 40000000
namespace Go.Proofs.YtgbhebappffbdaaGreat
open Go.RowKit
open Pl
attribute [local go_sem ↓] Go.wp_at_zero Go.wp_at_succ
theorem Ztx {O xs ys:List Nat} {k:Nat} {z:Int} (hO:O.length=k) (hz:0≤z) (hx:xs.length+1≤k) (hy:ys.length+1≤k) (okx:okD xs) (oky:okD ys)
 (h:(vt O k:Int)+z * ((B32^k:Nat):Int)=vt xs k+vt ys k):val O=val xs+val ys:=by
 rw [X8 (by omega),X8 (show xs.length≤k by omega),X8 (show ys.length≤k by omega)] at h;obtain ⟨j,rfl⟩:∃j,k=j+1:=⟨k - 1,by omega⟩;have a1:=Nat.lt_of_lt_of_le (Zhc okx) (Nat.pow_le_pow_right B32_pos (show xs.length≤j by omega));have a2:=Nat.lt_of_lt_of_le (Zhc oky) (Nat.pow_le_pow_right B32_pos (show ys.length≤j by omega));rw [Nat.pow_succ] at h;generalize B32^j=p at *;rcases Int.lt_or_eq_of_le hz with h1 | h1
 ·have:1 * ((p * B32:Nat):Int)≤z * ((p * B32:Nat):Int):=Int.mul_le_mul_of_nonneg_right (by omega) (by omega);unfold B32 at *;omega
 ·subst h1;omega
theorem Zjs (v1 v2:Value) (xs ys:List Nat) (w:World) (h1:Z6 w v1 xs) (h2:Z6 w v2 ys) (hx:xs.length≤549755813888) (hy:ys.length≤549755813888):
 Calls Tryz.prog 114 #[v1,v2] w fun e w'=>∃v',e= .returned v'∧Z6 w' v' (Zq (val xs+val ys))∧Below w.heap.size w w':=by
 obtain ⟨A,l,c,rfl⟩:=h1.shape;obtain ⟨hl,j,p,hc⟩:=h1.len;obtain ⟨A2,l2,c2,rfl⟩:=h2.shape;obtain ⟨kl,m,q,kc⟩:=h2.len;rcases JX l l2 with hll | hll
 ·have b:=Y8 (l2+1) (by omega)
  push_cast at b
  have HX:Hid (xs.length≤l2):=JZ (by omega);have HY:Hid (ys.length≤l2):=JZ (by omega);have n:(l2:Int)≤549755813888:=by omega
  have d:=h1.ok;have f:=h2.ok;clear hl j kl m hx hy;go_enter Tryz.func114,Tryz.ntmps114;go_wp2;clear b
  go_loopw [7,8] (fun cy i wr=>∃(k:Nat) (O:List Nat) (z:Int),k≤l2+1∧i= .int .i64 k∧cy= .int .u64 z∧0≤z∧z≤1∧l2+1≤O.length∧O.length≤l2+1∧Y6 wr w.heap.size O∧okD O∧Below w.heap.size w wr∧
   (vt O k:Int)+z * ((B32^k:Nat):Int)=vt xs k+vt ys k) (fun _ i _=>l2+1 - (intOf i).toNat)
  case atStart=>exact ⟨0,List.replicate (l2+1) 0,0,by omega,rfl,rfl,by omega,by omega,by simp,by simp,Y6.zeros w _,ZR _,(JR _ _).alloc (JY _) _,by simp [Xg]⟩
  case round=>
   obtain ⟨k,O,z,hk,rfl,rfl,z0,z1,hO,g,hB,ok,a,h⟩:=hrel;have HE:=JZ h;clear h;rcases JX k (l2+1) with hkl | hkl
   ·have x0:=Zu xs k;have x1:=Yu d k;have y0:=Zu ys k;have y1:=Yu f k;go_wp2_with fail;refine (WI _ xs k _ (h1.below a) (by omega)).mono ?_;rintro e w1 ⟨rfl,rfl⟩;go_wp2_with fail;refine (WI _ ys k _ (h2.below a) (by omega)).mono ?_;rintro e w1 ⟨rfl,rfl⟩;have ho:=hB.cell (k:=k) (by omega);have hf:=hB.frozen k;go_wp2;go_roundw
    case rel=>exact ⟨k+1,O.set k ((z+di xs k+di ys k) % 4294967296).toNat,_,by omega,by go_num,rfl,by omega,by omega,by simpa using hO,by simpa using g,hB.setI k (by omega),ZT ok k (by unfold B32;omega),a.setCell (JY _) _,Ug (by omega) z0 rfl HE.out⟩
    case measure=>simp [intOf];omega
   ·obtain rfl:k=l2+1:=by omega
    have o:decide (((l2:Int)+1) < (l2:Int)+1)=false:=(by simp);go_wp2_with fail;refine (YY _ O _ ?_).mono ?_
    ·have:=hB.dig ok (c:=l2+1) g (by unfold maxLen;omega)
     rwa [show O.length=l2+1 from by omega] at this
    rintro e w1 ⟨v',rfl,hv,rfl⟩;go_wp2_with fail;go_ret;refine ⟨_,rfl,?_,a⟩
    rwa [Ztx (show O.length=l2+1 by omega) z0 (by have:=HX.out;omega) (by have:=HY.out;omega) d f HE.out] at hv
 ·have b:=Y8 (l+1) (by omega)
  push_cast at b
  have HX:Hid (xs.length≤l):=JZ (by omega);have HY:Hid (ys.length≤l):=JZ (by omega);have n:(l:Int)≤549755813888:=by omega
  have d:=h1.ok;have f:=h2.ok;clear hl j kl m hx hy;go_enter Tryz.func114,Tryz.ntmps114;go_wp2;clear b
  go_loopw [7,8] (fun cy i wr=>∃(k:Nat) (O:List Nat) (z:Int),k≤l+1∧i= .int .i64 k∧cy= .int .u64 z∧0≤z∧z≤1∧l+1≤O.length∧O.length≤l+1∧Y6 wr w.heap.size O∧okD O∧Below w.heap.size w wr∧
   (vt O k:Int)+z * ((B32^k:Nat):Int)=vt xs k+vt ys k) (fun _ i _=>l+1 - (intOf i).toNat)
  case atStart=>exact ⟨0,List.replicate (l+1) 0,0,by omega,rfl,rfl,by omega,by omega,by simp,by simp,Y6.zeros w _,ZR _,(JR _ _).alloc (JY _) _,by simp [Xg]⟩
  case round=>
   obtain ⟨k,O,z,hk,rfl,rfl,z0,z1,hO,g,hB,ok,a,h⟩:=hrel;have HE:=JZ h;clear h;rcases JX k (l+1) with hkl | hkl
   ·have x0:=Zu xs k;have x1:=Yu d k;have y0:=Zu ys k;have y1:=Yu f k;go_wp2_with fail;refine (WI _ xs k _ (h1.below a) (by omega)).mono ?_;rintro e w1 ⟨rfl,rfl⟩;go_wp2_with fail;refine (WI _ ys k _ (h2.below a) (by omega)).mono ?_;rintro e w1 ⟨rfl,rfl⟩;have ho:=hB.cell (k:=k) (by omega);have hf:=hB.frozen k;go_wp2;go_roundw
    case rel=>exact ⟨k+1,O.set k ((z+di xs k+di ys k) % 4294967296).toNat,_,by omega,by go_num,rfl,by omega,by omega,by simpa using hO,by simpa using g,hB.setI k (by omega),ZT ok k (by unfold B32;omega),a.setCell (JY _) _,Ug (by omega) z0 rfl HE.out⟩
    case measure=>simp [intOf];omega
   ·obtain rfl:k=l+1:=by omega
    have o:decide (((l:Int)+1) < (l:Int)+1)=false:=(by simp);go_wp2_with fail;refine (YY _ O _ ?_).mono ?_
    ·have:=hB.dig ok (c:=l+1) g (by unfold maxLen;omega)
     rwa [show O.length=l+1 from by omega] at this
    rintro e w1 ⟨v',rfl,hv,rfl⟩;go_wp2_with fail;go_ret;refine ⟨_,rfl,?_,a⟩
    rwa [Ztx (show O.length=l+1 by omega) z0 (by have:=HX.out;omega) (by have:=HY.out;omega) d f HE.out] at hv
theorem Un (v1 v2:Value) (a b:RI) (w:World) (h1:Yv w v1 a) (h2:Yv w v2 b) (hs:a.ds.length+b.ds.length≤549755813888):
 Calls Tryz.prog 64 #[v1,v2] w fun e w'=>∃v',e= .returned v'∧Yv w' v' (canI (a.z * b.z))∧Below w.heap.size w w':=by
 obtain ⟨A,n,c,rfl,hd⟩:=h1.shape;obtain ⟨A',n',c',rfl,i⟩:=h2.shape;obtain ⟨W,hW,hX,hY,hR,g⟩:=Ygz w (.bool a.neg) (.slice A n c) (.bool b.neg) (.slice A' n' c');have d1:=hd.below g;have d2:=i.below g;have h:(Zq (val a.ds * val b.ds)).length≤549755813888:=by
  have q1:=Vp hd.ok;have q2:=Vp i.ok;exact JW (XB _ _) (by omega)
 go_enter Tryz.func64,Tryz.ntmps64;go_wp2_with fail;clear hW;have j:w.heap.size≠w.heap.size+1+1:=by omega
 have k:w.heap.size+1≠w.heap.size+1+1:=by omega
 go_region_held3 (fun w'=>(w'.cell? ⟨w.heap.size,0,none⟩=some (.bool a.neg)∧w'.cell? ⟨w.heap.size,1,none⟩=some (.slice A n c))∧(w'.cell? ⟨w.heap.size+1,0,none⟩=some (.bool b.neg)∧w'.cell? ⟨w.heap.size+1,1,none⟩=some (.slice A' n' c')))
  (first | with_reducible exact ⟨hX.drew.pair,hY.drew.pair⟩ | with_reducible exact ⟨(hX.drew.later d).pair,(hY.drew.later d).pair⟩ | with_reducible exact ⟨((hX.drew.later d).later f).pair,((hY.drew.later d).later f).pair⟩ | with_reducible exact ⟨((hX.drew.later d).later f).two_far j _ _,((hY.drew.later d).later f).two_far k _ _⟩)
  (first
   | (go_at_call 118;refine (Zjt _ _ a.ds b.ds _ (d1.keep (ZG.drew _)) (d2.keep (ZG.drew _)) (by omega)).mono ?_;rintro e w1 ⟨v1,rfl,e1,d⟩)
   | (go_at_call 113;refine (Ul (a.neg !=b.neg) _ _ _ e1 h).mono ?_;rintro e w2 ⟨v2,rfl,e2,f⟩;obtain ⟨A3,n3,k3,rfl,_⟩:=e2.shape;obtain ⟨c0,c1,f0,f1⟩:=((hR.drew.later d).later f).two))
 go_wp2;refine Zp Tryz.results64 Tryz.underlying44 (by kernel_rfl) rfl (((hR.drew.later d).later f).set2 _ _) rfl ?_;rw [RI.z_eq,RI.z_eq,← Yhb];exact Y9 ((hR.drew.later d).later f) e2 (Za (Za g.drew d g.size) f (JW g.size d.size)) (by omega)
theorem Yem (v1 v2:Value) (a b:RI) (w:World) (h1:Yv w v1 a) (h2:Yv w v2 b) (hs:a.ds.length≤274877906944) (hs2:b.ds.length≤274877906944):
 Calls Tryz.prog 63 #[v1,v2] w fun e w'=>∃v',e= .returned v'∧Yv w' v' (canI (a.z+b.z))∧Below w.heap.size w w':=by
 obtain ⟨A,n,c,rfl,hd⟩:=h1.shape;obtain ⟨A',n',c',rfl,B⟩:=h2.shape;obtain ⟨W,hW,hX,hY,hR,j⟩:=Ygz w (.bool a.neg) (.slice A n c) (.bool b.neg) (.slice A' n' c');have d1:=hd.below j;have d2:=B.below j;have q1:=Vp hd.ok;have q2:=Vp B.ok;have r:w.heap.size≠w.heap.size+1+1:=by omega
 have s:w.heap.size+1≠w.heap.size+1+1:=by omega
 obtain ⟨x0,x1,_,_⟩:=hX.two;obtain ⟨y0,y1,_,_⟩:=hY.two;by_cases q:(a.neg==b.neg)=true
 ·have h:b.neg=a.neg:=(beq_iff_eq.1 q).symm;have m:(Zq (val a.ds+val b.ds)).length≤549755813888:=JW (Zzw _ _ 274877906944 (by omega) (by omega)) (by decide);have p:=JZ h;clear h;go_enter Tryz.func63,Tryz.ntmps63;go_wp2_with fail;clear hW q
  go_region_held3 (fun w'=>(w'.cell? ⟨w.heap.size,0,none⟩=some (.bool a.neg)∧w'.cell? ⟨w.heap.size,1,none⟩=some (.slice A n c))∧(w'.cell? ⟨w.heap.size+1,0,none⟩=some (.bool b.neg)∧w'.cell? ⟨w.heap.size+1,1,none⟩=some (.slice A' n' c')))
   (first | with_reducible exact ⟨hX.drew.pair,hY.drew.pair⟩ | with_reducible exact ⟨(hX.drew.later d).pair,(hY.drew.later d).pair⟩ | with_reducible exact ⟨((hX.drew.later d).later f).pair,((hY.drew.later d).later f).pair⟩ | with_reducible exact ⟨((hX.drew.later d).later f).two_far r _ _,((hY.drew.later d).later f).two_far s _ _⟩)
   (first
    | (go_at_call 114;refine (Zjs _ _ a.ds b.ds _ (d1.keep (ZG.drew _)) (d2.keep (ZG.drew _)) (by omega) (by omega)).mono ?_;rintro e w1 ⟨v1,rfl,e1,d⟩)
    | (go_at_call 113;refine (Ul a.neg _ _ _ e1 m).mono ?_;rintro e w2 ⟨v2,rfl,e2,f⟩;obtain ⟨A3,n3,k3,rfl,_⟩:=e2.shape;obtain ⟨c0,c1,f0,f1⟩:=((hR.drew.later d).later f).two))
  go_wp2;refine Zp Tryz.results63 Tryz.underlying44 (by kernel_rfl) rfl (((hR.drew.later d).later f).set2 _ _) rfl ?_;rw [RI.z_eq,RI.z_eq,p.out,Zhi];exact Y9 ((hR.drew.later d).later f) e2 (Za (Za j.drew d j.size) f (JW j.size d.size)) (by omega)
 ·have h:(a.neg==b.neg)=false:=by simpa using q
  clear q;have C:=Zrb (val a.ds) (val b.ds);rcases JX (val a.ds) (val b.ds) with hlt | hge
  ·have hc:cmpN (val a.ds) (val b.ds)= -1:=UQ hlt;have m:(Zq (val b.ds - val a.ds)).length≤549755813888:=JW (Zy (Nat.sub_le _ _)) (by omega);have t:(Zq (val a.ds)).length≤b.ds.length:=JW (Zy (Nat.le_of_lt hlt)) q2;have x:=JZ hlt;clear hlt C;go_enter Tryz.func63,Tryz.ntmps63;go_wp2_with fail;clear hW;refine (YZ _ _ a.ds b.ds _ d1 d2).mono ?_;rw [hc];rintro e w0 ⟨rfl,g⟩;have k:=hX.later g;have l:=hY.later g;have o:=hR.later g;have u:=d1.below g;have v:=d2.below g;have i:=Za j g j.size;clear hX hY hR d1 d2 j hc x0 x1 y0 y1;have p:=JZ h;clear h;go_wp2_with fail
   go_region_held3 (fun w'=>(w'.cell? ⟨w.heap.size,0,none⟩=some (.bool a.neg)∧w'.cell? ⟨w.heap.size,1,none⟩=some (.slice A n c))∧(w'.cell? ⟨w.heap.size+1,0,none⟩=some (.bool b.neg)∧w'.cell? ⟨w.heap.size+1,1,none⟩=some (.slice A' n' c')))
    (first | with_reducible exact ⟨k.drew.pair,l.drew.pair⟩ | with_reducible exact ⟨(k.drew.later d).pair,(l.drew.later d).pair⟩ | with_reducible exact ⟨((k.drew.later d).later f).pair,((l.drew.later d).later f).pair⟩ | with_reducible exact ⟨((k.drew.later d).later f).two_far r _ _,((l.drew.later d).later f).two_far s _ _⟩)
    (first
     | (go_at_call 117;refine (YY _ a.ds _ (u.keep (ZG.drew _))).mono ?_;rintro e w3 ⟨v3,rfl,e3,rfl⟩)
     | (go_at_call 116;refine (Zbk _ _ b.ds (Zq (val a.ds)) _ (v.keep (ZG.drew _)) e3 (by rw [Zm];exact Nat.le_of_lt x.out) t (by omega)).mono ?_;rw [Zm];rintro e w1 ⟨v1,rfl,e1,d⟩)
     | (go_at_call 113;refine (Ul b.neg _ _ _ e1 m).mono ?_;rintro e w2 ⟨v2,rfl,e2,f⟩;obtain ⟨A3,n3,k3,rfl,_⟩:=e2.shape;obtain ⟨c0,c1,f0,f1⟩:=((o.drew.later d).later f).two))
   go_wp2;refine Zp Tryz.results63 Tryz.underlying44 (by kernel_rfl) rfl (((o.drew.later d).later f).set2 _ _) rfl ?_;rw [RI.z_eq,RI.z_eq,Ztt p.out (Nat.le_of_lt x.out)];exact Y9 ((o.drew.later d).later f) e2 (Za (Za i.drew d i.size) f (JW i.size d.size)) (by omega)
  ·have hc:0≤cmpN (val a.ds) (val b.ds):=(by unfold cmpN;split;omega;split <;> omega);have m:(Zq (val a.ds - val b.ds)).length≤549755813888:=JW (Zy (Nat.sub_le _ _)) (by omega);have t:(Zq (val b.ds)).length≤a.ds.length:=JW (Zy hge) q1;have y:=JZ hge;clear hge;go_enter Tryz.func63,Tryz.ntmps63;go_wp2_with fail;clear hW;refine (YZ _ _ a.ds b.ds _ d1 d2).mono ?_;rintro e w0 ⟨rfl,g⟩;generalize cmpN (val a.ds) (val b.ds)=cc at *;have k:=hX.later g;have l:=hY.later g;have o:=hR.later g;have u:=d1.below g;have v:=d2.below g;have i:=Za j g j.size;clear hX hY hR d1 d2 j x0 x1 y0 y1;have p:=JZ h;clear h;go_wp2_with fail
   go_region_held3 (fun w'=>(w'.cell? ⟨w.heap.size,0,none⟩=some (.bool a.neg)∧w'.cell? ⟨w.heap.size,1,none⟩=some (.slice A n c))∧(w'.cell? ⟨w.heap.size+1,0,none⟩=some (.bool b.neg)∧w'.cell? ⟨w.heap.size+1,1,none⟩=some (.slice A' n' c')))
    (first | with_reducible exact ⟨k.drew.pair,l.drew.pair⟩ | with_reducible exact ⟨(k.drew.later d).pair,(l.drew.later d).pair⟩ | with_reducible exact ⟨((k.drew.later d).later f).pair,((l.drew.later d).later f).pair⟩ | with_reducible exact ⟨((k.drew.later d).later f).two_far r _ _,((l.drew.later d).later f).two_far s _ _⟩)
    (first
     | (go_at_call 117;refine (YY _ b.ds _ (v.keep (ZG.drew _))).mono ?_;rintro e w3 ⟨v3,rfl,e3,rfl⟩)
     | (go_at_call 116;refine (Zbk _ _ a.ds (Zq (val b.ds)) _ (u.keep (ZG.drew _)) e3 (by rw [Zm];exact y.out) t (by omega)).mono ?_;rw [Zm];rintro e w1 ⟨v1,rfl,e1,d⟩)
     | (go_at_call 113;refine (Ul a.neg _ _ _ e1 m).mono ?_;rintro e w2 ⟨v2,rfl,e2,f⟩;obtain ⟨A3,n3,k3,rfl,_⟩:=e2.shape;obtain ⟨c0,c1,f0,f1⟩:=((o.drew.later d).later f).two))
   go_wp2;refine Zp Tryz.results63 Tryz.underlying44 (by kernel_rfl) rfl (((o.drew.later d).later f).set2 _ _) rfl ?_;rw [RI.z_eq,RI.z_eq,Zts p.out y.out];exact Y9 ((o.drew.later d).later f) e2 (Za (Za i.drew d i.size) f (JW i.size d.size)) (by omega)
theorem Ztz (z:Int):(canI z).ds.length=(Zq z.natAbs).length:=rfl
theorem Zhs (v1 v2:Value) (a b:RF) (w:World) (h1:Zw w v1 a) (h2:Zw w v2 b) (hs:a.Sh) (hs2:b.Sh):
 Calls Tryz.prog 25 #[v1,v2] w fun e w'=>∃v',e= .returned v'∧Wz w.heap.size w' v' (canF (a.q * b.q))∧Below w.heap.size w w':=by
 obtain ⟨A,n,c,A',n',c',rfl,_,_⟩:=id h1;obtain ⟨B,m,d,B',m',d',rfl,_,_⟩:=id h2;obtain ⟨W,hW,hX,hY,hR,p⟩:=Zob w (.bool a.num.neg) (.slice A n c) (.bool a.den.neg) (.slice A' n' c') (.bool b.num.neg) (.slice B m d) (.bool b.den.neg) (.slice B' m' d');have i1:=h1.below p;have i2:=h2.below p;have J:w.heap.size≠w.heap.size+1:=by omega
 have y:w.heap.size+1+1≠w.heap.size:=by omega
 have D:w.heap.size+1+1≠w.heap.size+1:=by omega
 have o:True:=trivial;obtain ⟨p1,p2,p3,p4⟩:=hX.four;obtain ⟨q1,q2,q3,q4⟩:=hY.four;go_enter Tryz.func25,Tryz.ntmps25;go_wp2_with fail;clear hW
 go_upto_region 1 with (fail)
 go_cut [] (fun wx=>∃(A A' B B':Option Addr) (n c n' c' m d m' d':Nat),Yjg a.q b.q w wx A A' B B' n c n' c' m d m' d')
 case first=>
  go_region_with (first
   | (go_at_call 61;have _t:=o;refine (Xn _ a _ (i1.keep (ZG.drew _)) hs).mono ?_;clear o _t;rintro e w6 ⟨v6,rfl,e6,j⟩;obtain ⟨A6,n6,k6,M,N,O,rfl,_,_⟩:=id e6.1;obtain ⟨V,X,Y,Z⟩:=(hY.drew.later j).four)
   | (go_at_call 61;refine (Xn _ b _ ((i2.keep (ZG.drew _)).below j) hs2).mono ?_;rintro e w7 ⟨v7,rfl,e7,k⟩;obtain ⟨A7,n7,k7,R,S,T,rfl,_,_⟩:=id e7.1;obtain ⟨c0,c1,c2,c3⟩:=((hX.drew.later j).later k).four;obtain ⟨r0,r1,r2,r3⟩:=((hX.drew.later j).later k).fourF;obtain ⟨a0,a7,a8,a9⟩:=((hY.drew.later j).later k).four;obtain ⟨aa,ab,ac,ad⟩:=((hY.drew.later j).later k).fourF))
  all_goals
   go_wp2_with fail
   go_meet
   have b1:=Za p.drew j p.size;obtain ⟨a1,a2,a3,a4,a5,a6⟩:=Zrq ((hX.drew.later j).later k) ((hY.drew.later j).later k) ((hR.drew.later j).later k) J y D (e6.below k).1 e7.1 (Za b1 k b1.size) (by omega) (by omega) _ rfl;exact ⟨A6,M,A7,R,n6,k6,N,O,n7,k7,S,T,a1,a2,a3,a4,a5,a6⟩
 case rest=>
  obtain ⟨A,A',B,B',n,c,n',c',m,d,m',d',bX,bY,bR,fX,fY,be⟩:=hcut;clear p1 p2 p3 p4 q1 q2 q3 q4 hX hY hR p i1 i2 h1 h2 o;have r:=hs.sz;have s:=hs2.sz;obtain ⟨l1,l2⟩:=szI r;obtain ⟨l3,l4⟩:=szI s;have E:=zN a.q;have F:=zD a.q;have G:=zN b.q;have H:=zD b.q;generalize canF a.q=P at *;generalize canF b.q=Q at *;have t:=JZ E;have u:=JZ F;have v:=JZ G;have x:=JZ H;clear E F G H;obtain ⟨iN,iD⟩:=fX.num;obtain ⟨jN,jD⟩:=fY.num;have o:True:=trivial;have U:True:=trivial;have K:(Zq (val (canI (P.num.z * Q.num.z)).ds)).length≤137438953472:=(szV (by rw [t.out,v.out,Int.natAbs_mul];exact JW (XB _ _) (JW (Nat.add_le_add r.1 s.1) (by decide))));have L:(Zq (val (canI (P.den.z * Q.den.z)).ds)).length≤137438953472:=(szV (by rw [u.out,x.out,Int.natAbs_mul];exact JW (XB _ _) (JW (Nat.add_le_add r.2 s.2) (by decide))));have HV:Hid (Rat.divInt (P.num.z * Q.num.z) (P.den.z * Q.den.z)=a.q * b.q):=JZ (by rw [t.out,u.out,v.out,x.out];exact Yhg _ _);clear r s hs hs2 t u v x;go_wp2_with fail
  go_region_held3 (fun w'=>(w'.cell? ⟨w.heap.size,0,none⟩=some (.bool P.num.neg)∧w'.cell? ⟨w.heap.size,1,none⟩=some (.slice A n c)∧w'.cell? ⟨w.heap.size,2,none⟩=some (.bool P.den.neg)∧w'.cell? ⟨w.heap.size,3,none⟩=some (.slice A' n' c'))∧(w'.cell? ⟨w.heap.size+1,0,none⟩=some (.bool Q.num.neg)∧w'.cell? ⟨w.heap.size+1,1,none⟩=some (.slice B m d)∧w'.cell? ⟨w.heap.size+1,2,none⟩=some (.bool Q.den.neg)∧w'.cell? ⟨w.heap.size+1,3,none⟩=some (.slice B' m' d')))
   (first | with_reducible exact ⟨bX.drew.four,bY.drew.four⟩ | with_reducible exact ⟨(bX.drew.later g).four,(bY.drew.later g).four⟩ | with_reducible exact ⟨((bX.drew.later g).later i).four,((bY.drew.later g).later i).four⟩ | with_reducible exact ⟨(((bX.drew.later g).later i).later h).four,(((bY.drew.later g).later i).later h).four⟩ | with_reducible exact ⟨((((bX.drew.later g).later i).later h).far4 (Ne.symm y) _ _ _ _).four,((((bY.drew.later g).later i).later h).far4 (Ne.symm D) _ _ _ _).four⟩)
   (first
    | (go_at_call 64;have _t:=o;refine (Un _ _ P.num Q.num _ (iN.keep (ZG.drew _)) (jN.keep (ZG.drew _)) (by omega)).mono ?_;clear o _t;rintro e w8 ⟨v8,rfl,e8,g⟩)
    | (go_at_call 64;refine (Un _ _ P.den Q.den _ ((iD.keep (ZG.drew _)).below g) ((jD.keep (ZG.drew _)).below g) (by omega)).mono ?_;rintro e w9 ⟨v9,rfl,e9,i⟩)
    | (go_at_call 62;refine (Zau _ _ (canI (P.num.z * Q.num.z)) (canI (P.den.z * Q.den.z)) _ (e8.below i) e9 K L).mono ?_;rw [ZL,ZL,HV.out];rintro e ae ⟨af,rfl,I,h⟩;obtain ⟨C,l,f,C',l',f',rfl,_,_⟩:=id I.1;obtain ⟨c0,c1,c2,c3⟩:=(((bR.drew.later g).later i).later h).four;obtain ⟨f0,f1,f2,f3⟩:=(((bR.drew.later g).later i).later h).fourF))
  go_wp2;refine Zp Tryz.results25 Tryz.underlying46 (by kernel_rfl) rfl ((((bR.drew.later g).later i).later h).set4 _ _ _ _) rfl ?_;have b0:=be.drew;have b1:=Za b0 g b0.size;have b2:=Za b1 i b1.size;have b3:=Za b2 h b2.size;exact YL (((bR.drew.later g).later i).later h) (I.mono b2.size) b3 (by omega)
theorem V5 (v1 v2:Value) (a b:RF) (w:World) (h1:Zw w v1 a) (h2:Zw w v2 b) (hs:a.Sh) (hs2:b.Sh):
 Calls Tryz.prog 67 #[v1,v2] w fun e w'=>∃v',e= .returned v'∧Wz w.heap.size w' v' (canF (a.q / b.q))∧Below w.heap.size w w':=by
 obtain ⟨A,n,c,A',n',c',rfl,_,_⟩:=id h1;obtain ⟨B,m,d,B',m',d',rfl,_,_⟩:=id h2;obtain ⟨W,hW,hX,hY,hR,p⟩:=Zob w (.bool a.num.neg) (.slice A n c) (.bool a.den.neg) (.slice A' n' c') (.bool b.num.neg) (.slice B m d) (.bool b.den.neg) (.slice B' m' d');have i1:=h1.below p;have i2:=h2.below p;have J:w.heap.size≠w.heap.size+1:=by omega
 have y:w.heap.size+1+1≠w.heap.size:=by omega
 have D:w.heap.size+1+1≠w.heap.size+1:=by omega
 have o:True:=trivial;obtain ⟨p1,p2,p3,p4⟩:=hX.four;obtain ⟨q1,q2,q3,q4⟩:=hY.four;go_enter Tryz.func67,Tryz.ntmps67;go_wp2_with fail;clear hW
 go_upto_region 1 with (fail)
 go_cut [] (fun wx=>∃(A A' B B':Option Addr) (n c n' c' m d m' d':Nat),Yjg a.q b.q w wx A A' B B' n c n' c' m d m' d')
 case first=>
  go_region_with (first
   | (go_at_call 61;have _t:=o;refine (Xn _ a _ (i1.keep (ZG.drew _)) hs).mono ?_;clear o _t;rintro e w6 ⟨v6,rfl,e6,j⟩;obtain ⟨A6,n6,k6,M,N,O,rfl,_,_⟩:=id e6.1;obtain ⟨V,X,Y,Z⟩:=(hY.drew.later j).four)
   | (go_at_call 61;refine (Xn _ b _ ((i2.keep (ZG.drew _)).below j) hs2).mono ?_;rintro e w7 ⟨v7,rfl,e7,k⟩;obtain ⟨A7,n7,k7,R,S,T,rfl,_,_⟩:=id e7.1;obtain ⟨c0,c1,c2,c3⟩:=((hX.drew.later j).later k).four;obtain ⟨r0,r1,r2,r3⟩:=((hX.drew.later j).later k).fourF;obtain ⟨a0,a7,a8,a9⟩:=((hY.drew.later j).later k).four;obtain ⟨aa,ab,ac,ad⟩:=((hY.drew.later j).later k).fourF))
  all_goals
   go_wp2_with fail
   go_meet
   have b1:=Za p.drew j p.size;obtain ⟨a1,a2,a3,a4,a5,a6⟩:=Zrq ((hX.drew.later j).later k) ((hY.drew.later j).later k) ((hR.drew.later j).later k) J y D (e6.below k).1 e7.1 (Za b1 k b1.size) (by omega) (by omega) _ rfl;exact ⟨A6,M,A7,R,n6,k6,N,O,n7,k7,S,T,a1,a2,a3,a4,a5,a6⟩
 case rest=>
  obtain ⟨A,A',B,B',n,c,n',c',m,d,m',d',bX,bY,bR,fX,fY,be⟩:=hcut;clear p1 p2 p3 p4 q1 q2 q3 q4 hX hY hR p i1 i2 h1 h2 o;have r:=hs.sz;have s:=hs2.sz;obtain ⟨l1,l2⟩:=szI r;obtain ⟨l3,l4⟩:=szI s;have E:=zN a.q;have F:=zD a.q;have G:=zN b.q;have H:=zD b.q;generalize canF a.q=P at *;generalize canF b.q=Q at *;have t:=JZ E;have u:=JZ F;have v:=JZ G;have x:=JZ H;clear E F G H;obtain ⟨iN,iD⟩:=fX.num;obtain ⟨jN,jD⟩:=fY.num;have o:True:=trivial;have U:True:=trivial;have K:(Zq (val (canI (P.num.z * Q.den.z)).ds)).length≤137438953472:=(szV (by rw [t.out,x.out,Int.natAbs_mul];exact JW (XB _ _) (JW (Nat.add_le_add r.1 s.2) (by decide))));have L:(Zq (val (canI (P.den.z * Q.num.z)).ds)).length≤137438953472:=(szV (by rw [u.out,v.out,Int.natAbs_mul];exact JW (XB _ _) (JW (Nat.add_le_add r.2 s.1) (by decide))));have HV:Hid (Rat.divInt (P.num.z * Q.den.z) (P.den.z * Q.num.z)=a.q / b.q):=JZ (by rw [t.out,u.out,v.out,x.out];exact Yhf _ _);clear r s hs hs2 t u v x;go_wp2_with fail
  go_region_held3 (fun w'=>(w'.cell? ⟨w.heap.size,0,none⟩=some (.bool P.num.neg)∧w'.cell? ⟨w.heap.size,1,none⟩=some (.slice A n c)∧w'.cell? ⟨w.heap.size,2,none⟩=some (.bool P.den.neg)∧w'.cell? ⟨w.heap.size,3,none⟩=some (.slice A' n' c'))∧(w'.cell? ⟨w.heap.size+1,0,none⟩=some (.bool Q.num.neg)∧w'.cell? ⟨w.heap.size+1,1,none⟩=some (.slice B m d)∧w'.cell? ⟨w.heap.size+1,2,none⟩=some (.bool Q.den.neg)∧w'.cell? ⟨w.heap.size+1,3,none⟩=some (.slice B' m' d')))
   (first | with_reducible exact ⟨bX.drew.four,bY.drew.four⟩ | with_reducible exact ⟨(bX.drew.later g).four,(bY.drew.later g).four⟩ | with_reducible exact ⟨((bX.drew.later g).later i).four,((bY.drew.later g).later i).four⟩ | with_reducible exact ⟨(((bX.drew.later g).later i).later h).four,(((bY.drew.later g).later i).later h).four⟩ | with_reducible exact ⟨((((bX.drew.later g).later i).later h).far4 (Ne.symm y) _ _ _ _).four,((((bY.drew.later g).later i).later h).far4 (Ne.symm D) _ _ _ _).four⟩)
   (first
    | (go_at_call 64;have _t:=o;refine (Un _ _ P.num Q.den _ (iN.keep (ZG.drew _)) (jD.keep (ZG.drew _)) (by omega)).mono ?_;clear o _t;rintro e w8 ⟨v8,rfl,e8,g⟩)
    | (go_at_call 64;refine (Un _ _ P.den Q.num _ ((iD.keep (ZG.drew _)).below g) ((jN.keep (ZG.drew _)).below g) (by omega)).mono ?_;rintro e w9 ⟨v9,rfl,e9,i⟩)
    | (go_at_call 62;refine (Zau _ _ (canI (P.num.z * Q.den.z)) (canI (P.den.z * Q.num.z)) _ (e8.below i) e9 K L).mono ?_;rw [ZL,ZL,HV.out];rintro e ae ⟨af,rfl,I,h⟩;obtain ⟨C,l,f,C',l',f',rfl,_,_⟩:=id I.1;obtain ⟨c0,c1,c2,c3⟩:=(((bR.drew.later g).later i).later h).four;obtain ⟨f0,f1,f2,f3⟩:=(((bR.drew.later g).later i).later h).fourF))
  go_wp2;refine Zp Tryz.results67 Tryz.underlying46 (by kernel_rfl) rfl ((((bR.drew.later g).later i).later h).set4 _ _ _ _) rfl ?_;have b0:=be.drew;have b1:=Za b0 g b0.size;have b2:=Za b1 i b1.size;have b3:=Za b2 h b2.size;exact YL (((bR.drew.later g).later i).later h) (I.mono b2.size) b3 (by omega)
theorem Zht (v1 v2:Value) (a b:RF) (w:World) (h1:Zw w v1 a) (h2:Zw w v2 b) (hs:a.Sh) (hs2:b.Sh):
 Calls Tryz.prog 24 #[v1,v2] w fun e w'=>∃v',e= .returned v'∧Wz w.heap.size w' v' (canF (a.q+b.q))∧Below w.heap.size w w':=by
 obtain ⟨A,n,c,A',n',c',rfl,_,_⟩:=id h1;obtain ⟨B,m,d,B',m',d',rfl,_,_⟩:=id h2;obtain ⟨W,hW,hX,hY,hR,u⟩:=Zob w (.bool a.num.neg) (.slice A n c) (.bool a.den.neg) (.slice A' n' c') (.bool b.num.neg) (.slice B m d) (.bool b.den.neg) (.slice B' m' d');have i1:=h1.below u;have i2:=h2.below u;have M:w.heap.size≠w.heap.size+1:=by omega
 have F:w.heap.size+1+1≠w.heap.size:=by omega
 have G:w.heap.size+1+1≠w.heap.size+1:=by omega
 have r:True:=trivial;obtain ⟨p1,p2,p3,p4⟩:=hX.four;obtain ⟨q1,q2,q3,q4⟩:=hY.four;go_enter Tryz.func24,Tryz.ntmps24;go_wp2_with fail;clear hW
 go_upto_region 1 with (fail)
 go_cut [] (fun wx=>∃(A A' B B':Option Addr) (n c n' c' m d m' d':Nat),Yjg a.q b.q w wx A A' B B' n c n' c' m d m' d')
 case first=>
  go_region_with (first
   | (go_at_call 61;have _t:=r;refine (Xn _ a _ (i1.keep (ZG.drew _)) hs).mono ?_;clear r _t;rintro e w6 ⟨v6,rfl,e6,o⟩;obtain ⟨A6,n6,k6,T,U,V,rfl,_,_⟩:=id e6.1;obtain ⟨a8,a9,aa,ab⟩:=(hY.drew.later o).four)
   | (go_at_call 61;refine (Xn _ b _ ((i2.keep (ZG.drew _)).below o) hs2).mono ?_;rintro e w7 ⟨v7,rfl,e7,p⟩;obtain ⟨A7,n7,k7,X,Y,Z,rfl,_,_⟩:=id e7.1;obtain ⟨c0,c1,c2,c3⟩:=((hX.drew.later o).later p).four;obtain ⟨r0,r1,r2,r3⟩:=((hX.drew.later o).later p).fourF;obtain ⟨ac,ad,ae,af⟩:=((hY.drew.later o).later p).four;obtain ⟨ag,ah,ai,aj⟩:=((hY.drew.later o).later p).fourF))
  all_goals
   go_wp2_with fail
   go_meet
   have b1:=Za u.drew o u.size;obtain ⟨a1,a2,a3,a4,a5,a6⟩:=Zrq ((hX.drew.later o).later p) ((hY.drew.later o).later p) ((hR.drew.later o).later p) M F G (e6.below p).1 e7.1 (Za b1 p b1.size) (by omega) (by omega) _ rfl;exact ⟨A6,T,A7,X,n6,k6,U,V,n7,k7,Y,Z,a1,a2,a3,a4,a5,a6⟩
 case rest=>
  obtain ⟨A,A',B,B',n,c,n',c',m,d,m',d',bX,bY,bR,fX,fY,be⟩:=hcut;clear p1 p2 p3 p4 q1 q2 q3 q4 hX hY hR u i1 i2 h1 h2 r;have s:=hs.sz;have t:=hs2.sz;obtain ⟨l1,l2⟩:=szI s;obtain ⟨l3,l4⟩:=szI t;have H:=zN a.q;have I:=zD a.q;have J:=zN b.q;have K:=zD b.q;generalize canF a.q=P at *;generalize canF b.q=Q at *;have D:=JZ H;have v:=JZ I;have E:=JZ J;have x:=JZ K;clear H I J K;obtain ⟨iN,iD⟩:=fX.num;obtain ⟨jN,jD⟩:=fY.num;have r:True:=trivial;have y:True:=trivial;have N:(Zq (P.num.z * Q.den.z).natAbs).length≤68719476736:=by rw [D.out,x.out,Int.natAbs_mul];exact JW (XB _ _) (Nat.add_le_add s.1 t.2)
  have O:(Zq (Q.num.z * P.den.z).natAbs).length≤68719476736:=by rw [E.out,v.out,Int.natAbs_mul];exact JW (XB _ _) (Nat.add_le_add t.1 s.2)
  have R:(Zq (val (canI (P.num.z * Q.den.z+Q.num.z * P.den.z)).ds)).length≤137438953472:=szV (JW (Zcz N O) (by decide));have S:(Zq (val (canI (P.den.z * Q.den.z)).ds)).length≤137438953472:=szV (by rw [v.out,x.out,Int.natAbs_mul];exact JW (XB _ _) (JW (Nat.add_le_add s.2 t.2) (by decide)));have HV:Hid (Rat.divInt (P.num.z * Q.den.z+Q.num.z * P.den.z) (P.den.z * Q.den.z)=a.q+b.q):=JZ (by rw [D.out,v.out,E.out,x.out];exact Yhh _ _);clear s t hs hs2 D v E x;go_wp2_with fail
  go_region_held3 (fun w'=>(w'.cell? ⟨w.heap.size,0,none⟩=some (.bool P.num.neg)∧w'.cell? ⟨w.heap.size,1,none⟩=some (.slice A n c)∧w'.cell? ⟨w.heap.size,2,none⟩=some (.bool P.den.neg)∧w'.cell? ⟨w.heap.size,3,none⟩=some (.slice A' n' c'))∧(w'.cell? ⟨w.heap.size+1,0,none⟩=some (.bool Q.num.neg)∧w'.cell? ⟨w.heap.size+1,1,none⟩=some (.slice B m d)∧w'.cell? ⟨w.heap.size+1,2,none⟩=some (.bool Q.den.neg)∧w'.cell? ⟨w.heap.size+1,3,none⟩=some (.slice B' m' d')))
   (first | with_reducible exact ⟨bX.drew.four,bY.drew.four⟩ | with_reducible exact ⟨(bX.drew.later h).four,(bY.drew.later h).four⟩ | with_reducible exact ⟨((bX.drew.later h).later j).four,((bY.drew.later h).later j).four⟩ | with_reducible exact ⟨(((bX.drew.later h).later j).later g).four,(((bY.drew.later h).later j).later g).four⟩ | with_reducible exact ⟨((((bX.drew.later h).later j).later g).later i).four,((((bY.drew.later h).later j).later g).later i).four⟩ | with_reducible exact ⟨(((((bX.drew.later h).later j).later g).later i).later k).four,(((((bY.drew.later h).later j).later g).later i).later k).four⟩ | with_reducible exact ⟨((((((bX.drew.later h).later j).later g).later i).later k).far4 (Ne.symm F) _ _ _ _).four,((((((bY.drew.later h).later j).later g).later i).later k).far4 (Ne.symm G) _ _ _ _).four⟩)
   (first
    | (go_at_call 64;have _t:=r;refine (Un _ _ P.num Q.den _ (iN.keep (ZG.drew _)) (jD.keep (ZG.drew _)) (by omega)).mono ?_;clear r _t;rintro e w8 ⟨v8,rfl,e8,h⟩)
    | (go_at_call 64;have _t:=y;refine (Un _ _ Q.num P.den _ ((jN.keep (ZG.drew _)).below h) ((iD.keep (ZG.drew _)).below h) (by omega)).mono ?_;clear y _t;rintro e w9 ⟨v9,rfl,e9,j⟩)
    | (go_at_call 63;refine (Yem _ _ (canI (P.num.z * Q.den.z)) (canI (Q.num.z * P.den.z)) _ (e8.below j) e9 (by rw [Ztz];omega) (by rw [Ztz];omega)).mono ?_;rw [ZL,ZL];rintro e ak ⟨al,rfl,a0,g⟩)
    | (go_at_call 64;refine (Un _ _ P.den Q.den _ ((((iD.keep (ZG.drew _)).below h).below j).below g) ((((jD.keep (ZG.drew _)).below h).below j).below g) (by omega)).mono ?_;rintro e am ⟨an,rfl,a7,i⟩)
    | (go_at_call 62;refine (Zau _ _ (canI (P.num.z * Q.den.z+Q.num.z * P.den.z)) (canI (P.den.z * Q.den.z)) _ (a0.below i) a7 R S).mono ?_;rw [ZL,ZL,HV.out];rintro e ao ⟨ap,rfl,L,k⟩;obtain ⟨C,l,f,C',l',f',rfl,_,_⟩:=id L.1;obtain ⟨c0,c1,c2,c3⟩:=(((((bR.drew.later h).later j).later g).later i).later k).four;obtain ⟨f0,f1,f2,f3⟩:=(((((bR.drew.later h).later j).later g).later i).later k).fourF))
  go_wp2;refine Zp Tryz.results24 Tryz.underlying46 (by kernel_rfl) rfl ((((((bR.drew.later h).later j).later g).later i).later k).set4 _ _ _ _) rfl ?_;have b0:=be.drew;have b1:=Za b0 h b0.size;have b2:=Za b1 j b1.size;have b3:=Za b2 g b2.size;have b4:=Za b3 i b3.size;have b5:=Za b4 k b4.size;exact YL (((((bR.drew.later h).later j).later g).later i).later k) (L.mono b4.size) b5 (by omega)
theorem Wz.frac {base:Nat} {w:World} {v:Value} {f:RF} (h:Wz base w v f):Zw w v f:=h.1
theorem Zhu (v1 v2:Value) (a b:RF) (w:World) (h1:Zw w v1 a) (h2:Zw w v2 b) (hs:a.Sh) (hs2:b.Sh):
 Calls Tryz.prog 53 #[v1,v2] w fun e w'=>∃v',e= .returned v'∧Wz w.heap.size w' v' (canF (a.q - b.q))∧Below w.heap.size w w':=by
 obtain ⟨A,n,c,A',n',c',rfl,_,_⟩:=id h1;obtain ⟨B,m,d,B',m',d',rfl,_,_⟩:=id h2;obtain ⟨W,hW,hX,hY,hR,i⟩:=Zob w (.bool a.num.neg) (.slice A n c) (.bool a.den.neg) (.slice A' n' c') (.bool b.num.neg) (.slice B m d) (.bool b.den.neg) (.slice B' m' d');have i1:=h1.below i;have i2:=h2.below i;have j:w.heap.size≠w.heap.size+1+1:=by omega
 have k:w.heap.size+1≠w.heap.size+1+1:=by omega
 have o:(canF (-b.q)).Sh:=(Zki hs2.sz).sh (JY _);have HV:Hid (a.q+(canF (-b.q)).q=a.q - b.q):=JZ (by rw [Zr,Rat.sub_eq_add_neg]);go_enter Tryz.func53,Tryz.ntmps53;go_wp2_with fail;clear hW
 go_region_held3 (fun w'=>(w'.cell? ⟨w.heap.size,0,none⟩=some (.bool a.num.neg)∧w'.cell? ⟨w.heap.size,1,none⟩=some (.slice A n c)∧w'.cell? ⟨w.heap.size,2,none⟩=some (.bool a.den.neg)∧w'.cell? ⟨w.heap.size,3,none⟩=some (.slice A' n' c'))∧(w'.cell? ⟨w.heap.size+1,0,none⟩=some (.bool b.num.neg)∧w'.cell? ⟨w.heap.size+1,1,none⟩=some (.slice B m d)∧w'.cell? ⟨w.heap.size+1,2,none⟩=some (.bool b.den.neg)∧w'.cell? ⟨w.heap.size+1,3,none⟩=some (.slice B' m' d')))
  (first | with_reducible exact ⟨hX.drew.four,hY.drew.four⟩ | with_reducible exact ⟨(hX.drew.later g).four,(hY.drew.later g).four⟩ | with_reducible exact ⟨((hX.drew.later g).later h).four,((hY.drew.later g).later h).four⟩ | with_reducible exact ⟨(((hX.drew.later g).later h).far4 j _ _ _ _).four,(((hY.drew.later g).later h).far4 k _ _ _ _).four⟩)
  (first
   | (go_at_call 45;(with_reducible refine (Zfv _ b _ (i2.keep (ZG.drew _)) hs2).mono ?_);rintro e w8 ⟨v8,rfl,e8,g⟩)
   | (go_at_call 24;(with_reducible refine (Zht _ _ a (canF (-b.q)) _ ((i1.keep (ZG.drew _)).below g) e8.frac hs o).mono ?_);rw [HV.out];rintro e w9 ⟨v9,rfl,e9,h⟩;obtain ⟨C,l,f,C',l',f',rfl,_,_⟩:=id e9.1;obtain ⟨c0,c1,c2,c3⟩:=((hR.drew.later g).later h).four;obtain ⟨f0,f1,f2,f3⟩:=((hR.drew.later g).later h).fourF))
 go_wp2;refine Zp Tryz.results53 Tryz.underlying46 (by kernel_rfl) rfl (((hR.drew.later g).later h).set4 _ _ _ _) rfl ?_;have b1:=Za i.drew g i.size;exact YL ((hR.drew.later g).later h) (e9.mono b1.size) (Za b1 h b1.size) (by omega)
def ShH (f:RF):Prop:=(Zq (val f.num.ds)).length≤8589934592∧(Zq (val f.den.ds)).length≤8589934592
theorem ShH.sh {f:RF} (h:ShH f):f.Sh:=by unfold ShH at h;unfold RF.Sh;omega
theorem ShH.sz {f:RF} (h:ShH f):Sz 8589934592 f.q:=V4 (by rw [Z8];exact h.1) (by rw [Z8];exact h.2) (by decide)
theorem Sz.shH {k:Nat} {q:Rat} (h:Sz k q) (hk:k≤8589934592):ShH (canF q):=by
 unfold ShH canF;simp only [YP];exact ⟨JW h.1 hk,JW h.2 hk⟩
theorem Yjh (q:Rat):qs (canF q).q=qs q:=by rw [Zr]
theorem Ur (v1 v2:Value) (a b:RF) (w:World) (h1:Zw w v1 a) (h2:Zw w v2 b) (hs:ShH a) (hs2:ShH b):
 Calls Tryz.prog 17 #[v1,v2] w fun e w'=>e= .returned (.int .i64 (qs (a.q - b.q)))∧Below w.heap.size w w':=by
 obtain ⟨A,n,c,A',n',c',rfl,_,_⟩:=id h1;obtain ⟨B,m,d,B',m',d',rfl,_,_⟩:=id h2;obtain ⟨W,hW,h,hX,hY,f⟩:=Zjr w (.bool a.num.neg) (.slice A n c) (.bool a.den.neg) (.slice A' n' c') (.bool b.num.neg) (.slice B m d) (.bool b.den.neg) (.slice B' m' d');have i1:=h1.below f;have i2:=h2.below f;obtain ⟨p1,p2,p3,p4⟩:=hX.four;obtain ⟨q1,q2,q3,q4⟩:=hY.four;have g:(canF (a.q - b.q)).Sh:=(Zdg hs.sz hs2.sz).sh (by decide);have HQ:=JZ (Yjh (a.q - b.q));clear h;go_enter Tryz.func17,Tryz.ntmps17;go_wp2_with fail;clear hW;refine (Zhu _ _ a b _ i1 i2 hs.sh hs2.sh).mono ?_;rintro e w1 ⟨v1,rfl,e1,i⟩;generalize canF (a.q - b.q)=DF at *;go_wp2_with fail;refine (Z4 _ DF _ e1.1 g).mono ?_;rw [HQ.out];rintro e w2 ⟨rfl,j⟩;go_wp2;go_ret;have b1:=Za f i f.size;exact ⟨rfl,Za b1 j b1.size⟩
def Zrs (a b:RF):Bool:=Zdd a.num b.num && Zdd a.den b.den
theorem Yji {a b:RF} (h:Zdd a.num b.num=true):Zrs a b=Zdd a.den b.den:=by simp [Zrs,h]
theorem Yjj {a b:RF} (h:Zdd a.num b.num=false):Zrs a b=false:=by simp [Zrs,h]
theorem Zwp (a:RF):Zrs a a=true:=by simp [Zrs,Zdd]
theorem Yac (v1 v2:Value) (a b:RF) (w:World) (h1:Zw w v1 a) (h2:Zw w v2 b):
 Calls Tryz.prog 47 #[v1,v2] w fun e w'=>e= .returned (.bool (Zrs a b))∧Below w.heap.size w w':=by
 obtain ⟨A,n,c,A',n',c',rfl,_,_⟩:=id h1;obtain ⟨B,m,d,B',m',d',rfl,_,_⟩:=id h2;obtain ⟨W,hW,h,hX,hY,g⟩:=Zjr w (.bool a.num.neg) (.slice A n c) (.bool a.den.neg) (.slice A' n' c') (.bool b.num.neg) (.slice B m d) (.bool b.den.neg) (.slice B' m' d');obtain ⟨i1,i2⟩:=(h1.below g).num;obtain ⟨j1,j2⟩:=(h2.below g).num;obtain ⟨p1,p2,p3,p4⟩:=hX.four;obtain ⟨q1,q2,q3,q4⟩:=hY.four;clear h;go_enter Tryz.func47,Tryz.ntmps47;go_wp2_with fail;clear hW;refine (Zhn _ _ a.num b.num _ i1 j1).mono ?_;rintro e w1 ⟨rfl,f⟩;have b1:=Za g f g.size
 cases hc:Zdd a.num b.num
 ·have HC:=JZ hc;clear hc;go_wp2;go_ret;exact ⟨ZM (Yjj HC.out),b1⟩
 ·have HC:=JZ hc;clear hc;obtain ⟨j,k,l,o⟩:=(hX.later f).four;obtain ⟨p,q,r,s⟩:=(hY.later f).four;go_wp2_with fail;refine (Zhn _ _ a.den b.den _ (i2.below f) (j2.below f)).mono ?_;rintro e w2 ⟨rfl,i⟩;go_wp2;go_ret;exact ⟨ZM (Yji HC.out),Za b1 i b1.size⟩
def Zg (e:TypeId) (w w':World):Prop:=∀(b:Nat) (cs:Array Value) (t:TypeId) (fz:Nat × Nat),t≠e→w.heap[b]? =some (.cells cs t fz)→w'.heap[b]? =some (.cells cs t fz)
theorem Zg.keep {e:TypeId} {w w':World} (h:Zg e w w') (he:148≠e):ZG w w':=fun b cs fz hb=>h b cs _ fz he hb
theorem Zg.bk {e:TypeId} {w w':World} {g:Nat} {t:TypeId} {cs:List Value} (h:Zg e w w') (hb:Bk w g t cs) (ht:t≠e):Bk w' g t cs:=h g _ t _ ht hb
theorem Zg.own {e:TypeId} {w w':World} {base:Nat} {t:TypeId} {s n:Nat} {v:Value} {xs:List Value} (h:Zg e w w') (ho:w.ownsRow base t s v n xs) (ht:t≠e):w'.ownsRow base t s v n xs:=by
 refine ⟨ho.1,?_⟩;rcases ho.2 with hn | ⟨g,cap,cur,rfl,hb',hgg,rest⟩
 ·exact .inl hn
 ·exact .inr ⟨g,cap,cur,rfl,hb',h g _ t _ ht hgg,rest⟩
theorem Zg.row {e:TypeId} {w w':World} {t:TypeId} {s n:Nat} {v:Value} {xs:List Value} (h:Zg e w w') (hr:UD w t s v n xs) (ht:t≠e):UD w' t s v n xs:=by
 obtain ⟨A,c,h1,h2,h3,h4,h5⟩:=hr;refine ⟨A,c,h1,h2,h3,h4,fun hp=>?_⟩;obtain ⟨b,a,cs,fz,hA,hc,hx⟩:=h5 hp;exact ⟨b,a,cs,fz,hA,h b cs t fz ht hc,hx⟩
theorem Zg.trans {e:TypeId} {a b c:World} (h:Zg e a b) (k:Zg e b c):Zg e a c:=fun x cs t fz ht hx=>k x cs t fz ht (h x cs t fz ht hx)
theorem Zg.setCell {w:World} {g:Nat} {cs:Array Value} {e:TypeId} {fz:Nat × Nat} (h:w.heap[g]? =some (.cells cs e fz)) (i:Nat) (u:Value):Zg e w (w.setCell ⟨g,i,none⟩ u):=by
 intro b c t d ht hb;have a:b≠g:=by
  rintro rfl;rw [h] at hb;injection hb with hb;injection hb with _ h2 _;exact ht h2.symm
 rw [heap_setCell_other w _ _ _ a];exact hb
theorem Zbn (ty t e:TypeId) (i:TypeInfo) (z:Value) (size bytes:Nat) (ht:Tryz.prog.underlying t=some (.slice e)) (hi:Tryz.prog.info? e=some i) (hz:i.zero=some z)
 (hsize:i.size=size) (hby:i.bytes=bytes) (hzs:z.cells.size=size) (hsz:0 < size) (W:World) (base:Nat) (v:Value) (n:Nat) (xs news:List Value) (hown:W.ownsRow base e size v n xs)
 (hl:news.length=size) (h1:∀u∈news,u.oneCell'=true) (hn:n+1≤maxLen) (hb:(n+1) * bytes≤140737488355328) (hbase:base≤W.heap.size):
 ∃v' w',(Builtin.append_ #[t,t] ty #[v,.slice (some ⟨W.heap.size,0,none⟩) 1 1]).run Tryz.prog (W.alloc (.cells news.toArray e))= .ok v' w'∧w'.ownsRow base e size v' (n+1) (xs++news)∧Zg e W w'∧Below base W w':=by
 have a:Bk (W.alloc (.cells news.toArray e)) W.heap.size e news:=Bk.new W e news;obtain ⟨v',w',c,h2,h3,_,_⟩:=run_append_own_at (P:=Tryz.prog) (W.alloc (.cells news.toArray e)) base t ty e i z size bytes ht hi hz hsize hby hzs hsz v n xs (hown.alloc _) ⟨W.heap.size,0,none⟩ 1 1 news (by omega) (fun j u hj=>by rw [addr_add,Nat.zero_add,a.cell];exact hj) h1 hn hb (by simp;omega);refine ⟨v',w',c,h2,?_,?_⟩
 ·intro b cs t' fz f hc;have d:=YA hc;refine (h3.block b (by simp;omega) ?_).trans ((Below.heap_alloc W _ b d).trans hc);intro e1;rcases hown.2 with ⟨rfl,_⟩ | ⟨g,cap,cur,rfl,_,hg,_⟩
  ·simp [Value.ownBlock] at e1
  ·simp [Value.ownBlock] at e1;subst e1;rw [hg] at hc;injection hc with hc;injection hc with _ h2 _;exact f h2.symm
 ·refine ((JR _ _).alloc hbase _).grown h3 (by simp;omega) (fun k hk=>?_);exact (hown.lt k hk).1
 where
  addr_add (g j:Nat):(⟨g,0,none⟩:Addr).add j=⟨g,0+j,none⟩:=by
   unfold Addr.add;split
   ·rename_i h;subst h;rfl
   ·rfl
theorem XM {ops:Array Oper} {rest:List Oper} {o:Oper} {a:Act} {Q:Exit→Act→World→Prop} (hgd:o.guard=none) (s x:Operand) (t:TypeId)
 (ho:o.op= .call { callee:= .builtin .append,args:=#[s,x],argTypes:=#[t,t] })
 (e:TypeId) (i:TypeInfo) (z:Value) (size bytes:Nat) (ht:Tryz.prog.underlying t=some (.slice e)) (hi:Tryz.prog.info? e=some i) (hz:i.zero=some z)
 (hsize:i.size=size) (hby:i.bytes=bytes) (hzs:z.cells.size=size) (hsz:0 < size) (W:World) (base:Nat) (v:Value) (n:Nat) (xs news:List Value) (hs:a.eval s=v) (hown:W.ownsRow base e size v n xs)
 (hx:a.eval x= .slice (some ⟨W.heap.size,0,none⟩) 1 1) (hl:news.length=size) (h1:∀u∈news,u.oneCell'=true) (hn:n+1≤maxLen) (hb:(n+1) * bytes≤140737488355328) (hbase:base≤W.heap.size)
 (h:∀v' w',w'.ownsRow base e size v' (n+1) (xs++news)→Zg e W w'→Below base W w'→wpList Tryz.prog ops Q rest (a.put o.dst v') w'):
 wpList Tryz.prog ops Q (o::rest) a (W.alloc (.cells news.toArray e)):=by
 refine wpList_plain hgd fun K hK=>?_
 obtain ⟨v',w',hr,h2,h3,h4⟩:=Zbn o.type t e i z size bytes ht hi hz hsize hby hzs hsz W base v n xs news hown hl h1 hn hb hbase;unfold Oper.wp execOp;simp only [ho,resolve,invoke,builtin,Sem.run_bind,Sem.run_pure,Result.andThen_ok,List.map_toArray,List.map_cons,List.map_nil,hs,hx,hr];exact hK _ _ (h v' w' h2 h3 h4)
theorem Zac {x y:Bool} {A A':Option Addr} {n c n' c':Nat}:∀u∈[Value.bool x,.slice A n c,.bool y,.slice A' n' c'],u.oneCell'=true:=by
 intro u hu;simp at hu;rcases hu with rfl | rfl | rfl | rfl <;> rfl
theorem Yw {ops:Array Oper} {rest:List Oper} {o:Oper} {a:Act} {Q:Exit→Act→World→Prop} (hgd:o.guard=none) (s x:Operand)
 (ho:o.op= .call { callee:= .builtin .append,args:=#[s,x],argTypes:=#[23,23] })
 (W:World) (base:Nat) (v:Value) (fs:List RF) (hs:a.eval s=v) (hown:ZU base W v fs) (b b':Bool) (A A':Option Addr) (n c n' c':Nat) (f:RF) (hf:Zw W (.agg #[.bool b,.slice A n c,.bool b',.slice A' n' c']) f)
 (hx:a.eval x= .slice (some ⟨W.heap.size,0,none⟩) 1 1) (hn:fs.length+1≤1099511627776) (hbase:base≤W.heap.size)
 (h:∀v' w',ZU base w' v' (fs++[f])→Zg 46 W w'→Below base W w'→wpList Tryz.prog ops Q rest (a.put o.dst v') w'):
 wpList Tryz.prog ops Q (o::rest) a (W.alloc (.cells #[.bool b,.slice A n c,.bool b',.slice A' n' c'] 46)):=by
 obtain ⟨cs,h1,h2⟩:=hown;obtain ⟨i0,hi,d,e,g⟩:=info_parts info_frac;refine XM hgd s x 23 ho 46 i0 _ 4 64 Tryz.underlying23 hi d e g rfl (by decide) W base v fs.length cs [.bool b,.slice A n c,.bool b',.slice A' n' c'] hs h1 hx rfl Zac (by unfold maxLen;omega) (by omega) hbase ?_;intro v' w' g1 g2 g3;refine h v' w' ⟨_,by simpa using g1,?_⟩ g2 g3;have hk:=g2.keep (by decide);exact (h2.keep hk).snoc (hf.keep hk)
theorem XC {w:World} {base:Nat} {e:TypeId} {size n c g:Nat} {xs:List Value} (h:w.ownsRow base e size (.slice (some ⟨g,0,none⟩) n c) n xs) (j:Nat) (u:Value) (hj:j < xs.length):
 (w.setCell ⟨g,j,none⟩ u).ownsRow base e size (.slice (some ⟨g,0,none⟩) n c) n (xs.set j u):=by
 refine ⟨by rw [List.length_set];exact h.1,?_⟩;rcases h.2 with ⟨h0,_⟩ | ⟨g',cap,cur,hv,hb,hg,hnc,hcm,hcs,htake⟩
 ·injection h0 with h0;cases h0
 ·injection hv with e1 e2 e3;injection e1 with e1;injection e1 with e1;subst e1 e3;refine .inr ⟨g,c,cur.setIfInBounds j u,rfl,hb,?_,hnc,hcm,by simpa using hcs,?_⟩
  ·rw [heap_setCell_same w g j _ e u hg]
  ·rw [Array.toList_setIfInBounds,List.take_set,htake]
theorem ZV {w:World} {base:Nat} {e:TypeId} {size n c g:Nat} {xs:List Value} (h:w.ownsRow base e size (.slice (some ⟨g,0,none⟩) n c) n xs) {j:Nat} {u:Value} (hj:xs[j]? =some u):w.cell? ⟨g,j,none⟩=some u∧w.frozen? ⟨g,j,none⟩=false:=by
 rcases h.2 with ⟨h0,_⟩ | ⟨g',cap,cur,hv,hb,hg,hnc,hcm,hcs,htake⟩
 ·injection h0 with h0;cases h0
 ·injection hv with e1 e2 e3;injection e1 with e1;injection e1 with e1;subst e1 e3;refine ⟨?_,frozen_of_row w g j _ _ hg⟩;rw [cell_of_row w g j _ _ _ hg];rw [← htake,List.getElem?_take] at hj;split at hj
  ·simpa using hj
  ·cases hj
theorem Ye {w:World} {base:Nat} {e:TypeId} {size n c g:Nat} {xs:List Value} (h:w.ownsRow base e size (.slice (some ⟨g,0,none⟩) n c) n xs):∃cur,w.heap[g]? =some (.cells cur e (0,0))∧base≤g:=by
 rcases h.2 with ⟨h0,_⟩ | ⟨g',cap,cur,hv,hb,hg,hnc,hcm,hcs,htake⟩
 ·injection h0 with h0;cases h0
 ·injection hv with e1 e2 e3;injection e1 with e1;injection e1 with e1;subst e1;exact ⟨cur,hg,hb⟩
theorem ZU.shape {base:Nat} {w:World} {v:Value} {fs:List RF} (h:ZU base w v fs) (hp:0 < fs.length):∃g c,v= .slice (some ⟨g,0,none⟩) fs.length c∧base≤g∧g < w.heap.size∧fs.length≤c∧c≤9223372036854775807:=by
 obtain ⟨cs,h1,h2⟩:=h;rcases h1.2 with ⟨rfl,h0⟩ | ⟨g,cap,cur,rfl,hb,hg,hnc,hcm,hcs,htake⟩
 ·have:=h2.1;rw [h0] at this;simp at this;omega
 ·unfold maxLen at hcm;exact ⟨g,cap,rfl,hb,YA hg,hnc,by omega⟩
theorem ZU.at_ {base:Nat} {w:World} {g n c:Nat} {fs:List RF} (h:ZU base w (.slice (some ⟨g,0,none⟩) n c) fs) {k:Nat} {f:RF} (hf:fs[k]? =some f):
 ∃x y z u,(w.cell? ⟨g,k * 4,none⟩=some x∧w.cell? ⟨g,k * 4+1,none⟩=some y∧w.cell? ⟨g,k * 4+2,none⟩=some z∧w.cell? ⟨g,k * 4+3,none⟩=some u)∧(w.frozen? ⟨g,k * 4,none⟩=false∧w.frozen? ⟨g,k * 4+1,none⟩=false∧w.frozen? ⟨g,k * 4+2,none⟩=false∧w.frozen? ⟨g,k * 4+3,none⟩=false)∧Zw w (.agg #[x,y,z,u]) f:=by
 obtain ⟨cs,h1,h2⟩:=h;have hn:n=fs.length:=(UD.of_own h1).len;subst hn;obtain ⟨x,y,z,u,c1,c2,c3,c4,hm⟩:=h2.2 k f hf;exact ⟨x,y,z,u,⟨(ZV h1 c1).1,(ZV h1 c2).1,(ZV h1 c3).1,(ZV h1 c4).1⟩,⟨(ZV h1 c1).2,(ZV h1 c2).2,(ZV h1 c3).2,(ZV h1 c4).2⟩,hm⟩
theorem ZU.set_ {base:Nat} {w:World} {g n c:Nat} {fs:List RF} (h:ZU base w (.slice (some ⟨g,0,none⟩) n c) fs) {k:Nat} (hk:k < fs.length) {x y z u:Value} {f:RF} (hf:Zw w (.agg #[x,y,z,u]) f):
 ZU base ((((w.setCell ⟨g,k * 4,none⟩ x).setCell ⟨g,k * 4+1,none⟩ y).setCell ⟨g,k * 4+2,none⟩ z).setCell ⟨g,k * 4+3,none⟩ u) (.slice (some ⟨g,0,none⟩) n c) (fs.set k f)∧
 Zg 46 w ((((w.setCell ⟨g,k * 4,none⟩ x).setCell ⟨g,k * 4+1,none⟩ y).setCell ⟨g,k * 4+2,none⟩ z).setCell ⟨g,k * 4+3,none⟩ u):=by
 obtain ⟨cs,h1,h2⟩:=h;have hn:n=fs.length:=(UD.of_own h1).len;subst hn;have hl:=h2.1;have o1:=XC h1 (k * 4) x (by omega);have o2:=XC o1 (k * 4+1) y (by simp;omega);have o3:=XC o2 (k * 4+2) z (by simp;omega);have o4:=XC o3 (k * 4+3) u (by simp;omega);obtain ⟨_,b0,_⟩:=Ye h1;obtain ⟨_,b1,_⟩:=Ye o1;obtain ⟨_,b2,_⟩:=Ye o2;obtain ⟨_,b3,_⟩:=Ye o3;have kp:=(((Zg.setCell b0 (k * 4) x).trans (Zg.setCell b1 (k * 4+1) y)).trans (Zg.setCell b2 (k * 4+2) z)).trans (Zg.setCell b3 (k * 4+3) u);have kd:=kp.keep (by decide);refine ⟨⟨Zwq cs (k * 4) x y z u,by rw [List.length_set];exact o4,?_⟩,kp⟩;exact (h2.keep kd).set_ hk (hf.keep kd)
theorem Zhv (n:Nat) (w:World) (hn:n≤1099511627776):
 Calls Tryz.prog 44 #[.int .i64 (n:Int)] w fun e w'=>∃v',e= .returned v'∧ZU w.heap.size w' v' (List.replicate n (canF 0))∧Below w.heap.size w w':=by
 go_enter Tryz.func44,Tryz.ntmps44;go_wp2
 go_loopw [3,4] (fun s i wr=>∃k:Nat,k≤n∧i= .int .i64 k∧ZU w.heap.size wr s (List.replicate k (canF 0))∧Below w.heap.size w wr) (fun _ i _=>n - (intOf i).toNat)
 case atStart=>exact ⟨0,by omega,rfl,ZU.nil _ _,JR _ _⟩
 case round=>
  obtain ⟨k,hk,rfl,b,d⟩:=hrel;rcases JX k n with hkl | hkl
  ·go_wp2_with fail;refine (Yl 0 _ (by omega) (by omega)).mono ?_;rintro e w1 ⟨v1,rfl,e1,g⟩;rw [show ((0:Int):Rat)=0 from rfl] at e1;have a:=b.below g;have f:=Za d g d.size;obtain ⟨A,m,c,A',m',c',rfl,_,_⟩:=id e1.frac;have HF:=JZ e1.frac;have HO:=JZ a;have j:(List.replicate k (canF 0)).length+1≤1099511627776:=(by simp;omega);have l:=f.size;clear b a d g e1;go_wp2_with (at_builtin;refine Yw rfl (.tmp 10) (.tmp 12) rfl w1 w.heap.size u3 (List.replicate k (canF 0)) rfl HO.out _ _ A A' m c m' c' (canF 0) HF.out rfl j l ?_);intro v' w2 h p o;go_wp2;go_roundw
   case rel=>exact ⟨k+1,by omega,by go_num,by rw [List.replicate_succ'];exact h,f.trans o⟩
   case measure=>simp [intOf];omega
  ·obtain rfl:k=n:=by omega
   go_wp2;go_ret;exact ⟨_,rfl,b,d⟩
namespace Pl
def RF.Rs (k:Nat) (f:RF):Prop:=(Zq (val f.num.ds)).length≤k∧(Zq (val f.den.ds)).length≤k
theorem RF.Rs.mono {j k:Nat} {f:RF} (h:f.Rs j) (hk:j≤k):f.Rs k:=⟨JW h.1 hk,JW h.2 hk⟩
theorem RF.Rs.sh {k:Nat} {f:RF} (h:f.Rs k) (hk:k≤34359738368):f.Sh:=h.mono hk
theorem RF.Rs.sm {k:Nat} {f:RF} (h:f.Rs k) (hk:k≤34359738368):f.Sm:=(h.sh hk).sm
theorem Sz.rs {k:Nat} {q:Rat} (h:Sz k q):(canF q).Rs k:=by
 unfold RF.Rs canF;simp only [YP];exact h
theorem RF.Rs.sz {k:Nat} {f:RF} (h:f.Rs k) (hk:1≤k):Sz k f.q:=V4 (by rw [Z8];exact h.1) (by rw [Z8];exact h.2) hk
def qAt (fs:List RF) (i:Nat):Rat:=match fs[i]? with | some f=>f.q | none=>0
theorem ZF {fs:List RF} {i:Nat} {f:RF} (h:fs[i]? =some f):qAt fs i=f.q:=by simp [qAt,h]
theorem Zuf {fs:List RF} {i:Nat} (h:fs.length≤i):qAt fs i=0:=by simp [qAt,JU h]
def ZN (f:Nat→Rat):Nat→Rat
 | 0=>0
 | n+1=>ZN f n+f n
theorem Y2 (f:Nat→Rat):ZN f 0=0:=rfl
theorem ZC (f:Nat→Rat) (n:Nat):ZN f (n+1)=ZN f n+f n:=rfl
theorem Zh {f g:Nat→Rat} {n:Nat} (h:∀i,i < n→f i=g i):ZN f n=ZN g n:=by
 induction n with
 | zero=>rfl
 | succ n ih=>rw [ZC,ZC,ih (fun i hi=>h i (by omega)),h n (by omega)]
theorem Zkk {f:Nat→Rat} {K n:Nat} (h:∀i,i < n→Sz K (f i)):Sz (1+n * (K+1)) (ZN f n):=by
 induction n with
 | zero=>exact Sz_zero.mono (by omega)
 | succ n ih=>
  rw [ZC];exact (Zud (ih fun i hi=>h i (by omega)) (h n (by omega))).mono (by rw [Nat.add_mul n 1];omega)
def Xv (xs ys:List RF) (n:Nat):Rat:=ZN (fun i=>qAt xs i * qAt ys i) n
theorem Zon (xs ys:List RF) (n:Nat):Xv xs ys (n+1)=Xv xs ys n+qAt xs n * qAt ys n:=rfl
def RsL (k:Nat) (fs:List RF):Prop:=∀(i:Nat) (f:RF),fs[i]? =some f→f.Rs k
theorem RsL.qAt {k:Nat} {fs:List RF} (h:RsL k fs) (hk:1≤k) (i:Nat):Sz k (qAt fs i):=by
 unfold Pl.qAt;split
 ·rename_i f hf;exact (h i f hf).sz hk
 ·exact Sz_zero.mono hk
theorem Zfx {xs ys:List RF} {K n:Nat} (ha:RsL K xs) (hb:RsL K ys) (hK:1≤K):Sz (1+n * (2 * K+1)) (Xv xs ys n):=
 Zkk fun i _=>(XO (ha.qAt hK i) (hb.qAt hK i)).mono (by omega)
theorem Z5 {q:Rat}:qs q=0↔q=0:=by
 unfold qs;rw [Uk];exact Rat.num_eq_zero
theorem ZH {fs:List RF} {i:Nat} (h:i < fs.length):∃f,fs[i]? =some f:=⟨fs[i],JQ h⟩
end Pl
theorem ZB {w w':World} {b o:Nat} {x y z u:Value} (hb:Below w.heap.size w w') (h:w.cell? ⟨b,o,none⟩=some x∧w.cell? ⟨b,o+1,none⟩=some y∧w.cell? ⟨b,o+2,none⟩=some z∧w.cell? ⟨b,o+3,none⟩=some u):
 w'.cell? ⟨b,o,none⟩=some x∧w'.cell? ⟨b,o+1,none⟩=some y∧w'.cell? ⟨b,o+2,none⟩=some z∧w'.cell? ⟨b,o+3,none⟩=some u:=
 ⟨Zk hb h.1,Zk hb h.2.1,Zk hb h.2.2.1,Zk hb h.2.2.2⟩
theorem Y1.elem {w wr:World} {A:Option Addr} {n c:Nat} {fs:List RF} (h:Y1 w (.slice A n c) fs) (hb:Below w.heap.size w wr) {k:Nat} {f:RF} (hf:fs[k]? =some f):
 ∃b off A1 n1 c1 A2 n2 c2,A=some ⟨b,off,none⟩∧b < w.heap.size∧(wr.cell? ⟨b,off+k * 4,none⟩=some (.bool f.num.neg)∧wr.cell? ⟨b,off+k * 4+1,none⟩=some (.slice A1 n1 c1)∧wr.cell? ⟨b,off+k * 4+2,none⟩=some (.bool f.den.neg)∧wr.cell? ⟨b,off+k * 4+3,none⟩=some (.slice A2 n2 c2))∧
  Zw wr (.agg #[.bool f.num.neg,.slice A1 n1 c1,.bool f.den.neg,.slice A2 n2 c2]) f:=by
 obtain ⟨b,off,x,y,z,u,hA,a,c1,c2,c3,c4,hm⟩:=h.at_ hf;obtain ⟨A1,n1,k1,A2,n2,k2,hv,d1,d2⟩:=id hm;simp at hv;obtain ⟨rfl,rfl,rfl,rfl⟩:=hv;exact ⟨b,off,A1,n1,k1,A2,n2,k2,hA,a,ZB hb ⟨c1,c2,c3,c4⟩,hm.below hb⟩
def Ylz (xs ys:List RF) (w:World) (g:Nat) (k:Nat) (wr:World):Prop:=
 ∃(A A':Option Addr) (n c n' c':Nat),Bk wr g 46 [.bool (canF (Xv xs ys k)).num.neg,.slice A n c,.bool (canF (Xv xs ys k)).den.neg,.slice A' n' c']∧Zw wr (.agg #[.bool (canF (Xv xs ys k)).num.neg,.slice A n c,.bool (canF (Xv xs ys k)).den.neg,.slice A' n' c']) (canF (Xv xs ys k))∧
  Bk wr w.heap.size 46 [.bool false,.slice none 0 0,.bool false,.slice none 0 0]∧Below w.heap.size w wr∧w.heap.size < g
theorem Zug (v1 v2:Value) (xs ys:List RF) (K:Nat) (w:World) (h1:Y1 w v1 xs) (h2:Y1 w v2 ys) (hK:1≤K) (ha:RsL K xs) (hb:RsL K ys) (hs:1+min xs.length ys.length * (2 * K+1)≤34359738368) (hs2:2 * K≤34359738368):
 Calls Tryz.prog 18 #[v1,v2] w fun e w'=>∃v',e= .returned v'∧Zw w' v' (canF (Xv xs ys (min xs.length ys.length)))∧Below w.heap.size w w':=by
 obtain ⟨A,c,rfl,ap,aq⟩:=h1.shape;obtain ⟨A',c',rfl,ar,au⟩:=h2.shape;have HS:=JZ hs;obtain ⟨W,hW,hR,j⟩:=YR w (.bool false) (.slice none 0 0) (.bool false) (.slice none 0 0);generalize hn:xs.length=n at *;generalize hm:ys.length=m at *;have HN:=JZ hn;have HM:=JZ hm;have HA:=JZ ha;have HB:=JZ hb;clear hs hn hm ha hb;go_enter Tryz.func18,Tryz.ntmps18;go_wp2_with fail;clear hW;refine (Yl 0 _ (by omega) (by omega)).mono ?_;rw [show ((0:Int):Rat)=Xv xs ys 0 from rfl];rintro e w1 ⟨v1,rfl,e1,O⟩;obtain ⟨B,l,d,B',l',d',rfl,_,_⟩:=id e1.frac;have hX:=Bk.new w1 46 [.bool (canF (Xv xs ys 0)).num.neg,.slice B l d,.bool (canF (Xv xs ys 0)).den.neg,.slice B' l' d'];have bn:=Zi w1 (.cells [.bool (canF (Xv xs ys 0)).num.neg,.slice B l d,.bool (canF (Xv xs ys 0)).den.neg,.slice B' l' d'].toArray 46);have b1:=Za j O j.size;have start:Ylz xs ys w w1.heap.size 0 (w1.alloc (.cells #[.bool (canF (Xv xs ys 0)).num.neg,.slice B l d,.bool (canF (Xv xs ys 0)).den.neg,.slice B' l' d'] 46)):=
  ⟨B,B',l,d,l',d',hX,e1.frac.below bn,(hR.later O).later bn,Za b1 bn b1.size,(hR.later O).lt⟩
 have ST:=JZ start;clear start hX bn b1 hR j O e1;generalize canF (Xv xs ys 0)=D0 at *;go_wp2
 go_loopw [6] (fun i wr=>∃k:Nat,k≤min n m∧i= .int .i64 k∧Ylz xs ys w w1.heap.size k wr) (fun i _=>n - (intOf i).toNat)
 case atStart=>exact ⟨0,by omega,rfl,ST.out⟩
 case round=>
  obtain ⟨k,hk,rfl,C,C',p,q,p',q',hX,hF,hR,j,hg⟩:=hrel;rcases JX k (min n m) with hkl | hkl
  ·obtain ⟨f,hf⟩:=ZH (fs:=xs) (i:=k) (by rw [HN.out];omega);obtain ⟨f',M⟩:=ZH (fs:=ys) (i:=k) (by rw [HM.out];omega);obtain ⟨b,N,A1,n1,k1,A2,n2,k2,rfl,av,J,hm⟩:=h1.elem j hf;obtain ⟨b',x,A3,n3,k3,A4,n4,k4,rfl,am,y,a9⟩:=h2.elem j M;have an:(k:Int) < n:=(by omega);have ao:(k:Int) < m:=(by omega);have R:=HA.out k f hf;have z:=HB.out k f' M;have HD:Hid (Xv xs ys (k+1)=Xv xs ys k+f.q * f'.q):=JZ (by rw [Zon,ZF hf,ZF M]);have ab:Sz 34359738368 (Xv xs ys k):=by
    refine (Zfx HA.out HB.out hK).mono ?_;have:=JS (2 * K+1) hk;have:=HS.out;omega
   clear hf M;have Y:=J;have Z:=y;obtain ⟨x1,x2,x3,x4⟩:=J;go_wp2_with fail;refine (Z4 _ f _ hm (R.sh (by omega))).mono ?_;rintro e w2 ⟨rfl,o⟩;have T:=hX.later o;have U:=hR.later o;have V:=hF.below o;have u:=Za j o j.size;have a0:=hm.below o;have D:=a9.below o;have P:=ZB o Y;have a1:=ZB o Z;clear hX hR hF j hm a9 Y Z y x1 x2 x3 x4 o;by_cases hz:f.q=0
   ·have L:qs f.q=0:=Z5.2 hz;have F:Hid (Xv xs ys (k+1)=Xv xs ys k):=JZ (by rw [HD.out,hz];simp [Rat.zero_mul,Rat.add_zero]);clear hz HD;go_wp2;go_roundw
    case rel=>exact ⟨k+1,by omega,by go_num,C,C',p,q,p',q',by rw [F.out];exact T,by rw [F.out];exact V,U,u,hg⟩
    case measure=>simp [intOf];omega
   ·have L:(qs f.q !=0)=true:=(by simpa using fun h=>hz (Z5.1 h));clear hz;obtain ⟨y1,y2,y3,y4⟩:=a1;go_wp2_with fail;refine (Z4 _ f' _ D (z.sh (by omega))).mono ?_;rintro e w3 ⟨rfl,r⟩;have t:=T.later r;have a2:=U.later r;have a3:=V.below r;have G:=Za u r u.size;have ac:=a0.below r;have a4:=D.below r;have H:=ZB r P;have I:=ZB r ⟨y1,y2,y3,y4⟩;clear T U V u a0 D P y1 y2 y3 y4 r L;by_cases hz:f'.q=0
    ·have L:qs f'.q=0:=Z5.2 hz;have F:Hid (Xv xs ys (k+1)=Xv xs ys k):=JZ (by rw [HD.out,hz];simp [Rat.mul_zero,Rat.add_zero]);clear hz HD;go_wp2;go_roundw
     case rel=>exact ⟨k+1,by omega,by go_num,C,C',p,q,p',q',by rw [F.out];exact t,by rw [F.out];exact a3,a2,G,hg⟩
     case measure=>simp [intOf];omega
    ·have L:(qs f'.q !=0)=true:=(by simpa using fun h=>hz (Z5.1 h));clear hz;have ad:(canF (f.q * f'.q)).Sh:=((XO (R.sz hK) (z.sz hK))).sh (by omega);have a5:(canF (Xv xs ys k)).Sh:=ab.sh (JY _);have HV:Hid ((canF (Xv xs ys k)).q+(canF (f.q * f'.q)).q=Xv xs ys (k+1)):=JZ (by rw [Zr,Zr,HD.out]);have ak:b≠w1.heap.size:=(by omega);have al:b'≠w1.heap.size:=(by omega);generalize canF (Xv xs ys k)=DK at *;go_wp2_with fail;refine wp_region_noPanic ?_;refine Us (S:=fun w'=>(w'.cell? ⟨b,N+k * 4,none⟩=some (.bool f.num.neg)∧w'.cell? ⟨b,N+k * 4+1,none⟩=some (.slice A1 n1 k1)∧w'.cell? ⟨b,N+k * 4+2,none⟩=some (.bool f.den.neg)∧w'.cell? ⟨b,N+k * 4+3,none⟩=some (.slice A2 n2 k2))∧(w'.cell? ⟨b',x+k * 4,none⟩=some (.bool f'.num.neg)∧w'.cell? ⟨b',x+k * 4+1,none⟩=some (.slice A3 n3 k3)∧w'.cell? ⟨b',x+k * 4+2,none⟩=some (.bool f'.den.neg)∧w'.cell? ⟨b',x+k * 4+3,none⟩=some (.slice A4 n4 k4))∧(w'.cell? ⟨w1.heap.size,0,none⟩=some (.bool DK.num.neg)∧w'.cell? ⟨w1.heap.size,1,none⟩=some (.slice C p q)∧w'.cell? ⟨w1.heap.size,2,none⟩=some (.bool DK.den.neg)∧w'.cell? ⟨w1.heap.size,3,none⟩=some (.slice C' p' q'))) (n:=11) (by kernel_rfl) ?_ (fun hHeld=>?_)
     ·exact ⟨H,I,t.drew.four⟩
     refine Zo (i:=0) (v:=?_) rfl (by kernel_rfl) (by kernel_rfl) (by kernel_rfl) (by kernel_rfl) (fun _ _ _ h=>h) (Or.inl ⟨by rfl,?y1⟩) (by assumption) ?_
     case y1=>(intro _ a;(try dsimp only at a);go_simp;(try with_reducible rfl))
     (try simp only [Act.put,List.setIfInBounds_toArray,List.set_cons_zero,List.set_cons_succ]);refine Zo (i:=1) (v:=?_) rfl (by kernel_rfl) (by kernel_rfl) (by kernel_rfl) (by kernel_rfl) (fun _ _ _ h=>h) (Or.inl ⟨by rfl,?y2⟩) (by assumption) ?_
     case y2=>(intro _ a;(try dsimp only at a);go_simp;(try with_reducible rfl))
     (try simp only [Act.put,List.setIfInBounds_toArray,List.set_cons_zero,List.set_cons_succ]);refine Zo (i:=2) (v:=?_) rfl (by kernel_rfl) (by kernel_rfl) (by kernel_rfl) (by kernel_rfl) (fun _ _ _ h=>h) (Or.inl ⟨by rfl,?y3⟩) (by assumption) ?_
     case y3=>(intro _ a;(try dsimp only at a);go_simp;(try with_reducible rfl))
     (try simp only [Act.put,List.setIfInBounds_toArray,List.set_cons_zero,List.set_cons_succ]);refine Zo (i:=3) (v:=?_) rfl (by kernel_rfl) (by kernel_rfl) (by kernel_rfl) (by kernel_rfl) (fun _ _ _ h=>h) (Or.inl ⟨by rfl,?y4⟩) (by assumption) ?_
     case y4=>(intro _ a;(try dsimp only at a);go_simp;(try with_reducible rfl))
     (try simp only [Act.put,List.setIfInBounds_toArray,List.set_cons_zero,List.set_cons_succ]);refine Zo (i:=4) (v:=?_) rfl (by kernel_rfl) (by kernel_rfl) (by kernel_rfl) (by kernel_rfl) (fun _ _ _ h=>h) (Or.inl ⟨by rfl,?y5⟩) (by assumption) ?_
     case y5=>(intro _ a;(try dsimp only at a);go_simp;(try with_reducible rfl))
     (try simp only [Act.put,List.setIfInBounds_toArray,List.set_cons_zero,List.set_cons_succ]);refine Zo (i:=5) (v:=?_) rfl (by kernel_rfl) (by kernel_rfl) (by kernel_rfl) (by kernel_rfl) (fun _ _ _ h=>h) (Or.inl ⟨by rfl,?y6⟩) (by assumption) ?_
     case y6=>(intro _ a;(try dsimp only at a);go_simp;(try with_reducible rfl))
     (try simp only [Act.put,List.setIfInBounds_toArray,List.set_cons_zero,List.set_cons_succ]);refine Zo (i:=6) (v:=?_) rfl (by kernel_rfl) (by kernel_rfl) (by kernel_rfl) (by kernel_rfl) (fun _ _ _ h=>h) (Or.inl ⟨by rfl,?y7⟩) (by assumption) ?_
     case y7=>(intro _ a;(try dsimp only at a);go_simp;(try with_reducible rfl))
     (try simp only [Act.put,List.setIfInBounds_toArray,List.set_cons_zero,List.set_cons_succ]);refine Zo (i:=7) (v:=?_) rfl (by kernel_rfl) (by kernel_rfl) (by kernel_rfl) (by kernel_rfl) (fun _ _ _ h=>h) (Or.inl ⟨by rfl,?y8⟩) (by assumption) ?_
     case y8=>(intro _ a;(try dsimp only at a);go_simp;(try with_reducible rfl))
     (try simp only [Act.put,List.setIfInBounds_toArray,List.set_cons_zero,List.set_cons_succ]);refine Zo (i:=8) (v:=?_) rfl (by kernel_rfl) (by kernel_rfl) (by kernel_rfl) (by kernel_rfl) (fun _ _ _ h=>h) (Or.inl ⟨by rfl,?y9⟩) (by assumption) ?_
     case y9=>(intro _ a;(try dsimp only at a);go_simp;(try with_reducible rfl))
     (try simp only [Act.put,List.setIfInBounds_toArray,List.set_cons_zero,List.set_cons_succ]);refine XD (i:=9) (by kernel_rfl) rfl (fun _ kq=>?_);go_simp;(with_reducible refine (Zhs _ _ f f' _ (ac.keep (ZG.drew _)) (a4.keep (ZG.drew _)) (R.sh (by omega)) (z.sh (by omega))).mono ?_);rintro e w8 ⟨v8,rfl,e8,g⟩;refine kq.out _ _ ?_ (fun hHeld=>?_)
     ·exact ⟨ZB g H,ZB g I,(t.drew.later g).four⟩
     clear kq;(try simp only [Act.put,List.setIfInBounds_toArray,List.set_cons_zero,List.set_cons_succ]);refine XD (i:=10) (by kernel_rfl) rfl (fun _ kq=>?_);go_simp;(with_reducible refine (Zht _ _ DK (canF (f.q * f'.q)) _ ((a3.keep (ZG.drew _)).below g) e8.frac a5 ad).mono ?_);rw [HV.out];rintro e w9 ⟨v9,rfl,e9,s⟩;obtain ⟨E,l9,k9,E',ai,aj,rfl,_,_⟩:=id e9.frac;obtain ⟨c0,c1,c2,c3⟩:=((t.drew.later g).later s).four;obtain ⟨f0,f1,f2,f3⟩:=((t.drew.later g).later s).fourF;refine kq.out _ _ ?_ (fun hHeld=>?_)
     ·exact ⟨ZB s (ZB g H),ZB s (ZB g I),((t.drew.later g).later s).four⟩
     clear kq;(try simp only [Act.put,List.setIfInBounds_toArray,List.set_cons_zero,List.set_cons_succ]);refine V6 (i:=11) (by kernel_rfl) rfl (by decide) (fun _ kq=>?_);go_simp;refine kq.out _ _ ?_;clear kq;(try simp only [Act.put,List.setIfInBounds_toArray,List.set_cons_zero,List.set_cons_succ]);refine Vu (by kernel_rfl) (NoPanic.normal ?_) _;have a6:=(t.drew.later g).later s;have a7:=Za G.drew g G.size;have ae:=Za a7 s a7.size;have af:=((a2.drew.later g).later s).far4 (show w.heap.size≠w1.heap.size by omega);go_wp2;go_roundw
     case rel=>exact ⟨k+1,by omega,by go_num,E,E',l9,k9,ai,aj,a6.set4 _ _ _ _,e9.frac.keep (a6.keep4 (by decide) _ _ _ _),af _ _ _ _,ZI ae (by omega) _ _ _ _,hg⟩
     case measure=>simp [intOf];omega
  ·have a8:k=min n m:=(by omega);have X:decide (k < n)=false∨(decide (k < n)=true∧decide (k < m)=false):=by
    rcases JX k n with h | h
    ·right;simp;omega
    ·left;simp;omega
   have ag:=JZ a8;clear a8 hkl hk;obtain ⟨x1,x2,x3,x4⟩:=hX.four;obtain ⟨c0,c1,c2,c3⟩:=hR.four;obtain ⟨f0,f1,f2,f3⟩:=hR.fourF;generalize aa:canF (Xv xs ys k)=DK at *;have ah:=JZ aa;clear aa;rcases X with X | ⟨X,hex2⟩;all_goals
    go_wp2;refine Zp Tryz.results18 Tryz.underlying46 (by kernel_rfl) rfl (hR.set4 _ _ _ _) rfl ?_;rw [← ag.out,ah.out];exact Yk hR hF j (JY _)
section
namespace Pl
structure En where
 idx:Int
 f:RF
structure LPd where
 cost:List RF
 cols:List (List En)
 right:List RF
def leP (p:Option Int) (i:Int):Bool:=match p with | some j=>decide (i≤j) | none=>false
def Zaw (n:Int):List En→Option Int→Int
 | [],_=>0
 | e::es,p=>if e.idx < 0∨n≤e.idx then 5 else if leP p e.idx=true then 8 else if e.f.q=0 then 11 else Zaw n es (some e.idx)
def vecErr (es:List En) (n:Int):Int:=if n < 0∨4096 < n then 5 else Zaw n es none
def WA (es:List En) (k:Nat):Option Int:=match k with | 0=>none | k+1=>(es[k]?).map (·.idx)
theorem Zdl {n:Int} {es:List En} {k:Nat} {e:En} (h:es[k]? =some e):
 Zaw n (es.drop k) (WA es k)=if e.idx < 0∨n≤e.idx then 5 else if leP (WA es k) e.idx=true then 8 else if e.f.q=0 then 11 else Zaw n (es.drop (k+1)) (WA es (k+1)):=by
 have hk:k < es.length:=(List.getElem?_eq_some_iff.1 h).1;have he:es[k]=e:=(List.getElem?_eq_some_iff.1 h).2;rw [List.drop_eq_getElem_cons hk,he,Zaw];rw [show WA es (k+1)=some e.idx from by simp [WA,h]]
theorem Zuh {n:Int} {es:List En} {k:Nat} (h:es.length≤k):Zaw n (es.drop k) (WA es k)=0:=by
 rw [List.drop_eq_nil_of_le h,Zaw]
def XE (n:Int):List (List En)→Int
 | []=>0
 | c::cs=>if vecErr c n=0 then XE n cs else vecErr c n
theorem Zfy {n:Int} {cs:List (List En)} {k:Nat} {c:List En} (h:cs[k]? =some c):XE n (cs.drop k)=if vecErr c n=0 then XE n (cs.drop (k+1)) else vecErr c n:=by
 have hk:k < cs.length:=(List.getElem?_eq_some_iff.1 h).1;have he:cs[k]=c:=(List.getElem?_eq_some_iff.1 h).2;rw [List.drop_eq_getElem_cons hk,he,XE]
theorem Zhw {n:Int} {cs:List (List En)} {k:Nat} (h:cs.length≤k):XE n (cs.drop k)=0:=by
 rw [List.drop_eq_nil_of_le h,XE]
def lpErr (p:LPd):Int:=if 64 < p.right.length∨1200 < p.cols.length then 10 else if p.cost.length≠p.cols.length then 12 else XE (p.right.length:Int) p.cols
theorem Zws (n:Int) (p:Option Int) (es:List En):Zaw n es p=0∨Zaw n es p=5∨Zaw n es p=8∨Zaw n es p=11:=by
 induction es generalizing p with
 | nil=>left;rfl
 | cons e es ih=>
  rw [Zaw];split
  ·simp
  ·split
   ·simp
   ·split
    ·simp
    ·exact ih _
theorem Zoo (es:List En) (n:Int):0≤vecErr es n∧vecErr es n≤11:=by
 unfold vecErr;split
 ·omega
 ·rcases Zws n none es with h | h | h | h <;> omega
end Pl
def EnC (w:World) (cs:List Value) (es:List En):Prop:=
 cs.length=es.length * 5∧∀k e,es[k]? =some e→∃x y z u,cs[k * 5]? =some (.int .i64 e.idx)∧cs[k * 5+1]? =some x∧cs[k * 5+2]? =some y∧cs[k * 5+3]? =some z∧cs[k * 5+4]? =some u∧Zw w (.agg #[x,y,z,u]) e.f
theorem EnC.keep {w w':World} {cs:List Value} {es:List En} (h:EnC w cs es) (hk:ZG w w'):EnC w' cs es:=
 ⟨h.1,fun k f hf=>by
  obtain ⟨x,y,z,u,h0,h1,h2,h3,h4,h5⟩:=h.2 k f hf
  exact ⟨x,y,z,u,h0,h1,h2,h3,h4,h5.keep hk⟩⟩
theorem EnC.nil (w:World):EnC w [] []:=⟨rfl,fun k f h=>by simp at h⟩
theorem EnC.snoc {w:World} {cs:List Value} {es:List En} (h:EnC w cs es) {x y z u:Value} {e:En} (hf:Zw w (.agg #[x,y,z,u]) e.f):EnC w (cs++[.int .i64 e.idx,x,y,z,u]) (es++[e]):=by
 refine ⟨by simp [h.1];omega,fun k g hg=>?_⟩;have hl:=h.1;rcases JX k es.length with hk | hk
 ·rw [List.getElem?_append_left hk] at hg;obtain ⟨x',y',z',u',h0,h1,h2,h3,h4,h5⟩:=h.2 k g hg;refine ⟨x',y',z',u',?_,?_,?_,?_,?_,h5⟩
  ·rw [List.getElem?_append_left (by omega)];exact h0
  ·rw [List.getElem?_append_left (by omega)];exact h1
  ·rw [List.getElem?_append_left (by omega)];exact h2
  ·rw [List.getElem?_append_left (by omega)];exact h3
  ·rw [List.getElem?_append_left (by omega)];exact h4
 ·rw [List.getElem?_append_right hk] at hg;have a:k - es.length=0:=by
   rcases JV (k - es.length) with e | e
   ·exact e
   ·rw [JU (by simp;omega)] at hg;cases hg
  rw [a] at hg;simp at hg;subst hg;obtain rfl:k=es.length:=by omega
  refine ⟨x,y,z,u,?_,?_,?_,?_,?_,hf⟩
  ·rw [List.getElem?_append_right (by omega),show es.length * 5 - cs.length=0 by omega];rfl
  ·rw [List.getElem?_append_right (by omega),show es.length * 5+1 - cs.length=1 by omega];rfl
  ·rw [List.getElem?_append_right (by omega),show es.length * 5+2 - cs.length=2 by omega];rfl
  ·rw [List.getElem?_append_right (by omega),show es.length * 5+3 - cs.length=3 by omega];rfl
  ·rw [List.getElem?_append_right (by omega),show es.length * 5+4 - cs.length=4 by omega];rfl
def V7 (w:World) (v:Value) (es:List En):Prop:=∃cs,UD w 83 5 v es.length cs∧EnC w cs es
theorem V7.below {w w':World} {v:Value} {es:List En} (h:V7 w v es) (hb:Below w.heap.size w w'):V7 w' v es:=by
 obtain ⟨cs,h1,h2⟩:=h;exact ⟨cs,h1.below hb,h2.keep (ZG.of_below hb)⟩
theorem V7.but {w w':World} {e:TypeId} {v:Value} {es:List En} (h:V7 w v es) (hk:Zg e w w') (h1:83≠e) (h2:148≠e):V7 w' v es:=by
 obtain ⟨cs,g1,g2⟩:=h;exact ⟨cs,hk.row g1 h1,g2.keep (hk.keep h2)⟩
theorem Y1.but {w w':World} {e:TypeId} {v:Value} {fs:List RF} (h:Y1 w v fs) (hk:Zg e w w') (h1:46≠e) (h2:148≠e):Y1 w' v fs:=by
 obtain ⟨cs,g1,g2⟩:=h;exact ⟨cs,hk.row g1 h1,g2.keep (hk.keep h2)⟩
theorem ZU.but {base:Nat} {w w':World} {e:TypeId} {v:Value} {fs:List RF} (h:ZU base w v fs) (hk:Zg e w w') (h1:46≠e) (h2:148≠e):ZU base w' v fs:=by
 obtain ⟨cs,g1,g2⟩:=h;exact ⟨cs,hk.own g1 h1,g2.keep (hk.keep h2)⟩
theorem V7.shape {w:World} {v:Value} {es:List En} (h:V7 w v es):∃A c,v= .slice A es.length c∧es.length≤c∧c≤9223372036854775807:=by
 obtain ⟨cs,h1,h2⟩:=h;exact h1.shape
theorem V7.elem {w wr:World} {A:Option Addr} {n c:Nat} {es:List En} (h:V7 w (.slice A n c) es) (hb:Below w.heap.size w wr) {k:Nat} {e:En} (he:es[k]? =some e):
 ∃b off A1 n1 c1 A2 n2 c2,A=some ⟨b,off,none⟩∧b < w.heap.size∧(wr.cell? ⟨b,off+k * 5,none⟩=some (.int .i64 e.idx)∧wr.cell? ⟨b,off+k * 5+1,none⟩=some (.bool e.f.num.neg)∧wr.cell? ⟨b,off+k * 5+2,none⟩=some (.slice A1 n1 c1)∧wr.cell? ⟨b,off+k * 5+3,none⟩=some (.bool e.f.den.neg)∧wr.cell? ⟨b,off+k * 5+4,none⟩=some (.slice A2 n2 c2))∧
  Zw wr (.agg #[.bool e.f.num.neg,.slice A1 n1 c1,.bool e.f.den.neg,.slice A2 n2 c2]) e.f:=by
 obtain ⟨cs,h1,h2⟩:=h;obtain ⟨x,y,z,u,c0,c1,c2,c3,c4,hm⟩:=h2.2 k e he;have hk:k < es.length:=(List.getElem?_eq_some_iff.1 he).1;have hn:=h1.len;subst hn;obtain ⟨b,off,hA,a,hc⟩:=h1.at_ (by omega);obtain ⟨A1,n1,k1,A2,n2,k2,hv,d1,d2⟩:=id hm;simp at hv;obtain ⟨rfl,rfl,rfl,rfl⟩:=hv;exact ⟨b,off,A1,n1,k1,A2,n2,k2,hA,a,⟨Zk hb (hc _ _ c0),Zk hb (hc _ _ c1),Zk hb (hc _ _ c2),Zk hb (hc _ _ c3),Zk hb (hc _ _ c4)⟩,hm.below hb⟩
def XW (w:World) (v:Value) (cols:List (List En)):Prop:=∃cs,UD w 66 1 v cols.length cs∧∀(k:Nat) (c:List En),cols[k]? =some c→∃u,cs[k]? =some u∧V7 w u c
theorem XW.below {w w':World} {v:Value} {cols:List (List En)} (h:XW w v cols) (hb:Below w.heap.size w w'):XW w' v cols:=by
 obtain ⟨cs,h1,h2⟩:=h;exact ⟨cs,h1.below hb,fun k c hc=>by obtain ⟨u,g1,g2⟩:=h2 k c hc;exact ⟨u,g1,g2.below hb⟩⟩
theorem XW.shape {w:World} {v:Value} {cols:List (List En)} (h:XW w v cols):∃A c,v= .slice A cols.length c∧cols.length≤c∧c≤9223372036854775807:=by
 obtain ⟨cs,h1,h2⟩:=h;exact h1.shape
theorem XW.elem {w wr:World} {A:Option Addr} {n c:Nat} {cols:List (List En)} (h:XW w (.slice A n c) cols) (hb:Below w.heap.size w wr) {k:Nat} {es:List En} (he:cols[k]? =some es):
 ∃b off A1 c1,A=some ⟨b,off,none⟩∧b < w.heap.size∧wr.cell? ⟨b,off+k,none⟩=some (.slice A1 es.length c1)∧V7 wr (.slice A1 es.length c1) es:=by
 obtain ⟨cs,h1,h2⟩:=h;obtain ⟨u,hu,hv⟩:=h2 k es he;have hk:k < cols.length:=(List.getElem?_eq_some_iff.1 he).1;have hn:=h1.len;subst hn;obtain ⟨b,off,hA,a,hc⟩:=h1.at_ (by omega);obtain ⟨A1,c1,rfl,_,_⟩:=hv.shape;exact ⟨b,off,A1,c1,hA,a,Zk hb (hc _ _ hu),hv.below hb⟩
def LpM (w:World) (v:Value) (p:LPd):Prop:=
 ∃A n c A' n' c' A'' n'' c'',v= .agg #[.slice A n c,.slice A' n' c',.slice A'' n'' c'']∧Y1 w (.slice A n c) p.cost∧XW w (.slice A' n' c') p.cols∧Y1 w (.slice A'' n'' c'') p.right
theorem LpM.below {w w':World} {v:Value} {p:LPd} (h:LpM w v p) (hb:Below w.heap.size w w'):LpM w' v p:=by
 obtain ⟨A,n,c,A',n',c',a,b,d,h1,h2,h3,h4⟩:=h;exact ⟨A,n,c,A',n',c',a,b,d,h1,h2.below hb,h3.below hb,h4.below hb⟩
theorem Y1.len {w:World} {A:Option Addr} {n c:Nat} {fs:List RF} (h:Y1 w (.slice A n c) fs):n=fs.length∧n≤c∧c≤9223372036854775807:=by
 obtain ⟨A',c',e,h1,h2⟩:=h.shape;injection e with _ e2 e3;subst e2 e3;exact ⟨rfl,h1,h2⟩
theorem V7.len {w:World} {A:Option Addr} {n c:Nat} {fs:List En} (h:V7 w (.slice A n c) fs):n=fs.length∧n≤c∧c≤9223372036854775807:=by
 obtain ⟨A',c',e,h1,h2⟩:=h.shape;injection e with _ e2 e3;subst e2 e3;exact ⟨rfl,h1,h2⟩
theorem XW.len {w:World} {A:Option Addr} {n c:Nat} {fs:List (List En)} (h:XW w (.slice A n c) fs):n=fs.length∧n≤c∧c≤9223372036854775807:=by
 obtain ⟨A',c',e,h1,h2⟩:=h.shape;injection e with _ e2 e3;subst e2 e3;exact ⟨rfl,h1,h2⟩
section
variable {w:World} {g:Nat} {t:TypeId} {a b c:Value}
theorem Bk.three (h:Bk w g t [a,b,c]):w.cell? ⟨g,0,none⟩=some a∧w.cell? ⟨g,1,none⟩=some b∧w.cell? ⟨g,2,none⟩=some c:=⟨h.cellAt 0 rfl,h.cellAt 1 rfl,h.cellAt 2 rfl⟩
theorem Bk.five {d e:Value} (h:Bk w g t [a,b,c,d,e]):w.cell? ⟨g,0,none⟩=some a∧w.cell? ⟨g,1,none⟩=some b∧w.cell? ⟨g,2,none⟩=some c∧w.cell? ⟨g,3,none⟩=some d∧w.cell? ⟨g,4,none⟩=some e:=⟨h.cellAt 0 rfl,h.cellAt 1 rfl,h.cellAt 2 rfl,h.cellAt 3 rfl,h.cellAt 4 rfl⟩
end
end
namespace Pl
theorem Zax {n:Int} {es:List En} {k:Nat} {e:En} (h:es[k]? =some e) (h2:e.idx < 0∨n≤e.idx):Zaw n (es.drop k) (WA es k)=5:=by rw [Zdl h,if_pos h2]
theorem Zkl {n:Int} {es:List En} {k:Nat} {e p:En} (h:es[k+1]? =some e) (hp:es[k]? =some p) (h2:¬(e.idx < 0∨n≤e.idx)) (h3:e.idx≤p.idx):Zaw n (es.drop (k+1)) (WA es (k+1))=8:=by
 rw [Zdl h,if_neg h2,if_pos (by simp [WA,hp,leP,h3])]
theorem Zdm {n:Int} {es:List En} {k:Nat} {e:En} (h:es[k]? =some e) (h2:¬(e.idx < 0∨n≤e.idx)) (h3:leP (WA es k) e.idx=false) (h4:e.f.q=0):Zaw n (es.drop k) (WA es k)=11:=by
 rw [Zdl h,if_neg h2,if_neg (by simp [h3]),if_pos h4]
theorem Zdn {n:Int} {es:List En} {k:Nat} {e:En} (h:es[k]? =some e) (h2:¬(e.idx < 0∨n≤e.idx)) (h3:leP (WA es k) e.idx=false) (h4:e.f.q≠0):Zaw n (es.drop k) (WA es k)=Zaw n (es.drop (k+1)) (WA es (k+1)):=by
 rw [Zdl h,if_neg h2,if_neg (by simp [h3]),if_neg h4]
theorem Zui {es:List En} {k:Nat} {p:En} (hp:es[k]? =some p) {i:Int} (h:¬i≤p.idx):leP (WA es (k+1)) i=false:=by simp [WA,hp,leP];omega
theorem Y3 {es:List En} {i:Nat} (h:i < es.length):∃f,es[i]? =some f:=⟨es[i],JQ h⟩
def EnI (es:List En):Prop:=∀(k:Nat) (e:En),es[k]? =some e→ -9223372036854775808≤e.idx∧e.idx≤9223372036854775807
end Pl
theorem Zwt (v:Value) (es:List En) (n:Int) (w:World) (h:V7 w v es) (hs:∀(k:Nat) (e:En),es[k]? =some e→e.f.Sh) (hi:EnI es) (h0: -9223372036854775808≤n) (h1:n≤9223372036854775807):
 Calls Tryz.prog 119 #[v,.int .i64 n] w fun e w'=>e= .returned (.int .i64 (vecErr es n))∧Below w.heap.size w w':=by
 obtain ⟨A,c,rfl,L,M⟩:=h.shape;generalize hl:es.length=l at *;have HL:=JZ hl;have HS:=JZ hs;have HI:=JZ hi;clear hl hs hi;by_cases r:n < 0
 ·have HV:Hid (vecErr es n=5):=JZ (by unfold vecErr;rw [if_pos (.inl r)]);go_enter Tryz.func119,Tryz.ntmps119;go_wp2;go_ret;exact ⟨by rw [HV.out];rfl,JR _ _⟩
 ·by_cases s:4096 < n
  ·have HV:Hid (vecErr es n=5):=JZ (by unfold vecErr;rw [if_pos (.inr s)]);go_enter Tryz.func119,Tryz.ntmps119;go_wp2;go_ret;exact ⟨by rw [HV.out];rfl,JR _ _⟩
  ·have hv:vecErr es n=Zaw n (es.drop 0) (WA es 0):=by
    unfold vecErr;rw [if_neg (by omega)];rfl
   generalize vecErr es n=d at *;have HV:=JZ hv;clear hv;have C:decide (n < 0)=false:=(by simpa using r);have D:decide (4096 < n)=false:=(by simpa using s);clear r s;go_enter Tryz.func119,Tryz.ntmps119;go_wp2;clear C D
   go_loopw [5] (fun i wr=>∃k:Nat,k≤l∧i= .int .i64 k∧Below w.heap.size w wr∧d=Zaw n (es.drop k) (WA es k)) (fun i _=>l - (intOf i).toNat)
   case atStart=>exact ⟨0,by omega,rfl,JR _ _,HV.out⟩
   case round=>
    obtain ⟨k,hk,rfl,a,F⟩:=hrel;have HE:=JZ F;clear F HV;rcases JX k l with hkl | hkl
    ·obtain ⟨e,he⟩:=Y3 (es:=es) (i:=k) (by rw [HL.out];exact hkl);obtain ⟨b,N,A1,n1,c1,A2,n2,c2,rfl,O,g,hm⟩:=h.elem a he;obtain ⟨x0,x1,x2,x3,x4⟩:=g;obtain ⟨i0,i1⟩:=HI.out k e he;have u:=HS.out k e he;by_cases t:e.idx < 0
     ·have HR:Hid (d=5):=JZ (HE.out.trans (Zax he (.inl t)));clear he;go_wp2;go_ret;exact ⟨by rw [HR.out];rfl,a⟩
     ·by_cases B:n≤e.idx
      ·have HR:Hid (d=5):=JZ (HE.out.trans (Zax he (.inr B)));clear he;go_wp2;go_ret;exact ⟨by rw [HR.out];rfl,a⟩
      ·have E:¬(e.idx < 0∨n≤e.idx):=(by omega);have o:=JZ E;have C:decide (e.idx < 0)=false:=(by simpa using t);have D:decide (n≤e.idx)=false:=(by simpa using B);clear E t B;by_cases x:k=0
       ·have HP:Hid (leP (WA es k) e.idx=false):=JZ (by rw [x];rfl);have hg:decide ((0:Int) < (k:Int))=false:=(by simp;omega);have G:decide (0 < k)=false:=(by simp;omega);clear x;by_cases hz:e.f.q=0
        ·have z:qs e.f.q=0:=Z5.2 hz;have HR:Hid (d=11):=JZ (HE.out.trans (Zdm he o.out HP.out hz));clear he hz;go_wp2
         go_quiet (fail)
         go_wp2_with fail;refine (Z4 _ e.f _ (hm.keep (ZG.drewN _ _)) u).mono ?_;rintro _ w2 ⟨rfl,m⟩;go_wp2;go_ret;exact ⟨by rw [HR.out];rfl,Za (below_drewN a _) m a.size⟩
        ·have z:(qs e.f.q==0)=false:=(by simpa using fun h=>hz (Z5.1 h));have HR:Hid (d=Zaw n (es.drop (k+1)) (WA es (k+1))):=JZ (HE.out.trans (Zdn he o.out HP.out hz));clear he hz;go_wp2
         go_quiet (fail)
         go_wp2_with fail;refine (Z4 _ e.f _ (hm.keep (ZG.drewN _ _)) u).mono ?_;rintro _ w2 ⟨rfl,m⟩;go_wp2;go_roundw
         case rel=>exact ⟨k+1,by omega,by go_num,Za (below_drewN a _) m a.size,HR.out⟩
         case measure=>simp [intOf];omega
       ·obtain ⟨j,hj⟩:∃j,k=j+1:=⟨k - 1,by omega⟩;have J:(k:Int) - 1=(j:Int):=(by omega);have hg:(0:Int) < (k:Int):=(by omega);have G:0 < k:=(by omega);have HJ:=JZ hj;obtain ⟨p,hp⟩:=Y3 (es:=es) (i:=j) (by rw [HL.out];omega);obtain ⟨b2,I,B1,m1,d1,B2,m2,d2,hA,_,g,_⟩:=h.elem a hp;injection hA with hA;injection hA with hA1 hA2;subst hA1 hA2;obtain ⟨y0,_,_,_,_⟩:=g;obtain ⟨j0,j1⟩:=HI.out j p hp;have K:(j:Int) < l:=(by omega);by_cases y:e.idx≤p.idx
        ·have HR:Hid (d=8):=JZ (HE.out.trans (by rw [HJ.out] at he ⊢;exact Zkl he hp o.out y));clear he hp x hj;go_wp2
         go_quiet (fail)
         go_wp2;go_ret;exact ⟨by rw [HR.out];rfl,below_drewN a _⟩
        ·have HP:Hid (leP (WA es k) e.idx=false):=JZ (by rw [HJ.out];exact Zui hp y);have H:decide (e.idx≤p.idx)=false:=(by simpa using y);clear hp x hj y;by_cases hz:e.f.q=0
         ·have z:qs e.f.q=0:=Z5.2 hz;have HR:Hid (d=11):=JZ (HE.out.trans (Zdm he o.out HP.out hz));clear he hz;go_wp2
          go_quiet (fail)
          go_wp2_with fail;refine (Z4 _ e.f _ (hm.keep (ZG.drewN _ _)) u).mono ?_;rintro _ w2 ⟨rfl,m⟩;go_wp2;go_ret;exact ⟨by rw [HR.out];rfl,Za (below_drewN a _) m a.size⟩
         ·have z:(qs e.f.q==0)=false:=(by simpa using fun h=>hz (Z5.1 h));have HR:Hid (d=Zaw n (es.drop (k+1)) (WA es (k+1))):=JZ (HE.out.trans (Zdn he o.out HP.out hz));clear he hz;go_wp2
          go_quiet (fail)
          go_wp2_with fail;refine (Z4 _ e.f _ (hm.keep (ZG.drewN _ _)) u).mono ?_;rintro _ w2 ⟨rfl,m⟩;go_wp2;go_roundw
          case rel=>exact ⟨k+1,by omega,by go_num,Za (below_drewN a _) m a.size,HR.out⟩
          case measure=>simp [intOf];omega
    ·have HR:Hid (d=0):=JZ (HE.out.trans (Zuh (by rw [HL.out];omega)));go_wp2;go_ret;exact ⟨by rw [HR.out];rfl,a⟩
theorem Zdo (w:World) (x0 x1 x2 x3 x4:Value):∃W,w.alloc (.cells #[x0,x1,x2,x3,x4] 83)=W∧Bk W w.heap.size 83 [x0,x1,x2,x3,x4]∧Below w.heap.size w W:=
 ⟨_,rfl,Bk.new w _ [x0,x1,x2,x3,x4],Zi w _⟩
theorem Wh (v:Value) (es:List En) (n:Int) (w:World) (h:V7 w v es) (hi:EnI es) (h0: -9223372036854775808≤n) (h1:n≤9223372036854775807):
 Calls Tryz.prog 90 #[v,.int .i64 n] w fun e w'=>e= .returned (.int .i64 (vecErr es n))∧Below w.heap.size w w':=by
 obtain ⟨A,c,rfl,N,O⟩:=h.shape;generalize hl:es.length=l at *;have HL:=JZ hl;have HI:=JZ hi;clear hl hi;by_cases r:n < 0
 ·have HV:Hid (vecErr es n=5):=JZ (by unfold vecErr;rw [if_pos (.inl r)]);go_enter Tryz.func90,Tryz.ntmps90;go_wp2;go_ret;exact ⟨by rw [HV.out];rfl,JR _ _⟩
 ·by_cases s:4096 < n
  ·have HV:Hid (vecErr es n=5):=JZ (by unfold vecErr;rw [if_pos (.inr s)]);go_enter Tryz.func90,Tryz.ntmps90;go_wp2;go_ret;exact ⟨by rw [HV.out];rfl,JR _ _⟩
  ·have hv:vecErr es n=Zaw n (es.drop 0) (WA es 0):=by
    unfold vecErr;rw [if_neg (by omega)];rfl
   generalize vecErr es n=d at *;have HV:=JZ hv;clear hv;have D:decide (n < 0)=false:=(by simpa using r);have E:decide (4096 < n)=false:=(by simpa using s);clear r s;go_enter Tryz.func90,Tryz.ntmps90;go_wp2;clear D E
   go_loopw [15] (fun i wr=>∃k:Nat,k≤l∧i= .int .i64 k∧Below w.heap.size w wr∧d=Zaw n (es.drop k) (WA es k)) (fun i _=>l - (intOf i).toNat)
   case atStart=>exact ⟨0,by omega,rfl,JR _ _,HV.out⟩
   case round=>
    obtain ⟨k,hk,rfl,x,G⟩:=hrel;have HE:=JZ G;clear G HV;rcases JX k l with hkl | hkl
    ·obtain ⟨e,he⟩:=Y3 (es:=es) (i:=k) (by rw [HL.out];exact hkl);obtain ⟨b,P,A1,n1,c1,A2,n2,c2,rfl,R,g,hm⟩:=h.elem x he;obtain ⟨x0,x1,x2,x3,x4⟩:=g;obtain ⟨i0,i1⟩:=HI.out k e he;obtain ⟨W,hW,hX,H⟩:=Zdo wr (.int .i64 e.idx) (.bool e.f.num.neg) (.slice A1 n1 c1) (.bool e.f.den.neg) (.slice A2 n2 c2);obtain ⟨z0,z1,z2,z3,z4⟩:=hX.five;have a:=Za x H x.size;have u:=hm.below H;by_cases t:e.idx < 0
     ·have HR:Hid (d=5):=JZ (HE.out.trans (Zax he (.inl t)));clear he;go_wp2;go_ret;exact ⟨by rw [HR.out];rfl,a⟩
     ·by_cases C:n≤e.idx
      ·have HR:Hid (d=5):=JZ (HE.out.trans (Zax he (.inr C)));clear he;go_wp2;go_ret;exact ⟨by rw [HR.out];rfl,a⟩
      ·have F:¬(e.idx < 0∨n≤e.idx):=(by omega);have o:=JZ F;have D:decide (e.idx < 0)=false:=(by simpa using t);have E:decide (n≤e.idx)=false:=(by simpa using C);clear F t C;by_cases y:k=0
       ·have HP:Hid (leP (WA es k) e.idx=false):=JZ (by rw [y];rfl);have hg:decide ((0:Int) < (k:Int))=false:=(by simp;omega);have I:decide (0 < k)=false:=(by simp;omega);clear y;by_cases hz:e.f.q=0
        ·have B:qs e.f.q=0:=Z5.2 hz;have HR:Hid (d=11):=JZ (HE.out.trans (Zdm he o.out HP.out hz));clear he hz;go_wp2
         go_quiet (fail)
         go_wp2_with fail;refine (ZA _ e.f _ (u.keep (ZG.drewN _ _))).mono ?_;rintro _ w2 ⟨rfl,m⟩;go_wp2;go_ret;exact ⟨by rw [HR.out];rfl,Za (below_drewN a _) m a.size⟩
        ·have B:(qs e.f.q==0)=false:=(by simpa using fun h=>hz (Z5.1 h));have HR:Hid (d=Zaw n (es.drop (k+1)) (WA es (k+1))):=JZ (HE.out.trans (Zdn he o.out HP.out hz));clear he hz;go_wp2
         go_quiet (fail)
         go_wp2_with fail;refine (ZA _ e.f _ (u.keep (ZG.drewN _ _))).mono ?_;rintro _ w2 ⟨rfl,m⟩;go_wp2;go_roundw
         case rel=>exact ⟨k+1,by omega,by go_num,Za (below_drewN a _) m a.size,HR.out⟩
         case measure=>simp [intOf];omega
       ·obtain ⟨j,hj⟩:∃j,k=j+1:=⟨k - 1,by omega⟩;have L:(k:Int) - 1=(j:Int):=(by omega);have hg:(0:Int) < (k:Int):=(by omega);have I:0 < k:=(by omega);have HJ:=JZ hj;obtain ⟨p,hp⟩:=Y3 (es:=es) (i:=j) (by rw [HL.out];omega);obtain ⟨b2,K,B1,m1,d1,B2,m2,d2,hA,_,g,_⟩:=h.elem a hp;injection hA with hA;injection hA with hA1 hA2;subst hA1 hA2;obtain ⟨y0,_,_,_,_⟩:=g;obtain ⟨j0,j1⟩:=HI.out j p hp;have M:(j:Int) < l:=(by omega);by_cases z:e.idx≤p.idx
        ·have HR:Hid (d=8):=JZ (HE.out.trans (by rw [HJ.out] at he ⊢;exact Zkl he hp o.out z));clear he hp y hj;go_wp2
         go_quiet (fail)
         go_wp2;go_ret;exact ⟨by rw [HR.out];rfl,below_drewN a _⟩
        ·have HP:Hid (leP (WA es k) e.idx=false):=JZ (by rw [HJ.out];exact Zui hp z);have J:decide (e.idx≤p.idx)=false:=(by simpa using z);clear hp y hj z;by_cases hz:e.f.q=0
         ·have B:qs e.f.q=0:=Z5.2 hz;have HR:Hid (d=11):=JZ (HE.out.trans (Zdm he o.out HP.out hz));clear he hz;go_wp2
          go_quiet (fail)
          go_wp2_with fail;refine (ZA _ e.f _ (u.keep (ZG.drewN _ _))).mono ?_;rintro _ w2 ⟨rfl,m⟩;go_wp2;go_ret;exact ⟨by rw [HR.out];rfl,Za (below_drewN a _) m a.size⟩
         ·have B:(qs e.f.q==0)=false:=(by simpa using fun h=>hz (Z5.1 h));have HR:Hid (d=Zaw n (es.drop (k+1)) (WA es (k+1))):=JZ (HE.out.trans (Zdn he o.out HP.out hz));clear he hz;go_wp2
          go_quiet (fail)
          go_wp2_with fail;refine (ZA _ e.f _ (u.keep (ZG.drewN _ _))).mono ?_;rintro _ w2 ⟨rfl,m⟩;go_wp2;go_roundw
          case rel=>exact ⟨k+1,by omega,by go_num,Za (below_drewN a _) m a.size,HR.out⟩
          case measure=>simp [intOf];omega
    ·have HR:Hid (d=0):=JZ (HE.out.trans (Zuh (by rw [HL.out];omega)));go_wp2;go_ret;exact ⟨by rw [HR.out];rfl,x⟩
namespace Pl
def LPd.Ok (K:Nat) (p:LPd):Prop:=RsL K p.cost∧RsL K p.right∧∀(j:Nat) (c:List En),p.cols[j]? =some c→EnI c∧∀(k:Nat) (e:En),c[k]? =some e→e.f.Rs K
theorem Ut {p:LPd} (h:64 < p.right.length∨1200 < p.cols.length):lpErr p=10:=by unfold lpErr;rw [if_pos h]
theorem Zhx {p:LPd} (h:¬(64 < p.right.length∨1200 < p.cols.length)) (h2:p.cost.length≠p.cols.length):lpErr p=12:=by unfold lpErr;rw [if_neg h,if_pos h2]
theorem Zkm {p:LPd} (h:¬(64 < p.right.length∨1200 < p.cols.length)) (h2:p.cost.length=p.cols.length):lpErr p=XE (p.right.length:Int) (p.cols.drop 0):=by unfold lpErr;rw [if_neg h,if_neg (by omega)];rfl
theorem Xm {cs:List (List En)} {i:Nat} (h:i < cs.length):∃f,cs[i]? =some f:=⟨cs[i],JQ h⟩
end Pl
theorem Zj (w:World):Below w.heap.size w w.drew:=(JR _ _).drew
theorem Yc (w:World) (x y z:Value):∃W,w.alloc (.cells #[x,y,z] 26)=W∧Bk W w.heap.size 26 [x,y,z]∧Below w.heap.size w W:=⟨_,rfl,Bk.new w _ [x,y,z],Zi w _⟩
theorem Zdp (v:Value) (p:LPd) (K:Nat) (w:World) (h:LpM w v p) (ok:p.Ok K) (hK:K≤34359738368):
 Calls Tryz.prog 68 #[v] w fun e w'=>e= .returned (.int .i64 (lpErr p))∧Below w.heap.size w w':=by
 obtain ⟨A,n,c,A',n',c',u,a,x,rfl,hc,hv,hr⟩:=h;obtain ⟨W,hW,hX,f⟩:=Yc w (.slice A n c) (.slice A' n' c') (.slice u a x);obtain ⟨x0,x1,x2⟩:=hX.three;obtain ⟨l1,l2,l3⟩:=hc.len;obtain ⟨m1,m2,m3⟩:=hv.len;obtain ⟨r1,r2,r3⟩:=hr.len;have z:=JZ l1;have l:=JZ m1;have s:=JZ r1;clear l1 m1 r1;by_cases E:64 < a
 ·have HV:Hid (lpErr p=10):=JZ (Ut (.inl (by rw [← s.out];exact E)));have g:(64:Int) < a:=by omega
  go_enter Tryz.func68,Tryz.ntmps68;go_wp2;go_ret;exact ⟨by rw [HV.out];rfl,f⟩
 ·by_cases y:1200 < n'
  ·have HV:Hid (lpErr p=10):=JZ (Ut (.inr (by rw [← l.out];exact y)));have g:decide ((64:Int) < a)=false:=(by simp;omega);have j:(1200:Int) < n':=(by omega);go_enter Tryz.func68,Tryz.ntmps68;go_wp2;go_ret;exact ⟨by rw [HV.out];rfl,f⟩
  ·have HB:Hid (¬(64 < p.right.length∨1200 < p.cols.length)):=JZ (by rw [← s.out,← l.out];omega);have g:decide ((64:Int) < a)=false:=(by simp;omega);have j:decide ((1200:Int) < n')=false:=(by simp;omega);by_cases q:n=n'
   ·have t:=Zkm HB.out (by rw [← z.out,← l.out];exact q);rw [← s.out] at t;subst q;generalize lpErr p=r at *;have HV:=JZ t;clear t;go_enter Tryz.func68,Tryz.ntmps68;go_wp2;clear hW g j
    go_loopw [3] (fun i wr=>∃k:Nat,k≤n∧i= .int .i64 k∧Below w.heap.size w wr∧Bk wr w.heap.size 26 [.slice A n c,.slice A' n c',.slice u a x]∧r=XE (a:Int) (p.cols.drop k)) (fun i _=>n - (intOf i).toNat)
    case atStart=>exact ⟨0,by omega,rfl,f,hX,HV.out⟩
    case round=>
     obtain ⟨k,hk,rfl,f,hX,C⟩:=hrel;have HE:=JZ C;clear C HV x0 x1 x2;obtain ⟨x0,x1,x2⟩:=hX.three;rcases JX k n with hkl | hkl
     ·obtain ⟨es,he⟩:=Xm (cs:=p.cols) (i:=k) (by rw [← l.out];exact hkl);obtain ⟨b,D,A1,c1,rfl,J,o,hm⟩:=hv.elem f he;have HO:=JZ (ok.2.2 k es he);have G:(k:Int) < n:=(by omega);have B:=JZ (Zfy (n:=(a:Int)) he);have H:=Zoo es (a:Int);clear he;go_wp2_with fail;refine wp_region_noPanic ?_;refine Us (S:=fun w'=>w'.cell? ⟨w.heap.size,1,none⟩=some (.slice (some ⟨b,D,none⟩) n c')∧w'.cell? ⟨w.heap.size,2,none⟩=some (.slice u a x)∧w'.cell? ⟨b,D+k,none⟩=some (.slice A1 es.length c1)) (n:=9) (by kernel_rfl) ?_ (fun hHeld=>?_)
      ·exact ⟨x1,x2,o⟩
      refine Zo (i:=0) (v:=?_) rfl (by kernel_rfl) (by kernel_rfl) (by kernel_rfl) (by kernel_rfl) (fun _ _ _ h=>h) (Or.inl ⟨by rfl,?y1⟩) (by assumption) ?_
      case y1=>(intro _ d;(try dsimp only at d);go_simp;(try with_reducible rfl))
      (try simp only [Act.put,List.setIfInBounds_toArray,List.set_cons_zero,List.set_cons_succ]);refine Zo (i:=1) (v:=?_) rfl (by kernel_rfl) (by kernel_rfl) (by kernel_rfl) (by kernel_rfl) (fun _ _ _ h=>h) (Or.inl ⟨by rfl,?y2⟩) (by assumption) ?_
      case y2=>(intro _ d;(try dsimp only at d);go_simp;(try with_reducible rfl))
      (try simp only [Act.put,List.setIfInBounds_toArray,List.set_cons_zero,List.set_cons_succ]);refine Zo (i:=2) (v:=?_) rfl (by kernel_rfl) (by kernel_rfl) (by kernel_rfl) (by kernel_rfl) (fun _ _ _ h=>h) (Or.inl ⟨by rfl,?y3⟩) (by assumption) ?_
      case y3=>(intro _ d;(try dsimp only at d);go_simp;(try with_reducible rfl))
      (try simp only [Act.put,List.setIfInBounds_toArray,List.set_cons_zero,List.set_cons_succ]);refine Zo (i:=3) (v:=?_) rfl (by kernel_rfl) (by kernel_rfl) (by kernel_rfl) (by kernel_rfl) (fun _ _ _ h=>h) (Or.inl ⟨by rfl,?y4⟩) (by assumption) ?_
      case y4=>(intro _ d;(try dsimp only at d);go_simp;(try with_reducible rfl))
      (try simp only [Act.put,List.setIfInBounds_toArray,List.set_cons_zero,List.set_cons_succ]);refine Zo (i:=4) (v:=?_) rfl (by kernel_rfl) (by kernel_rfl) (by kernel_rfl) (by kernel_rfl) (fun _ _ _ h=>h) (Or.inl ⟨by rfl,?y5⟩) (by assumption) ?_
      case y5=>(intro _ d;(try dsimp only at d);go_simp;(try with_reducible rfl))
      (try simp only [Act.put,List.setIfInBounds_toArray,List.set_cons_zero,List.set_cons_succ]);refine Zo (i:=5) (v:=?_) rfl (by kernel_rfl) (by kernel_rfl) (by kernel_rfl) (by kernel_rfl) (fun _ _ _ h=>h) (Or.inl ⟨by rfl,?y6⟩) (by assumption) ?_
      case y6=>(intro _ d;(try dsimp only at d);go_simp;(try with_reducible rfl))
      (try simp only [Act.put,List.setIfInBounds_toArray,List.set_cons_zero,List.set_cons_succ]);refine Zo (i:=6) (v:=?_) rfl (by kernel_rfl) (by kernel_rfl) (by kernel_rfl) (by kernel_rfl) (fun _ _ _ h=>h) (Or.inl ⟨by rfl,?y7⟩) (by assumption) ?_
      case y7=>(intro _ d;(try dsimp only at d);go_simp;(try with_reducible rfl))
      (try simp only [Act.put,List.setIfInBounds_toArray,List.set_cons_zero,List.set_cons_succ]);refine Zo (i:=7) (v:=?_) rfl (by kernel_rfl) (by kernel_rfl) (by kernel_rfl) (by kernel_rfl) (fun _ _ _ h=>h) (Or.inl ⟨by rfl,?y8⟩) (by assumption) ?_
      case y8=>(intro _ d;(try dsimp only at d);go_simp;(try with_reducible rfl))
      (try simp only [Act.put,List.setIfInBounds_toArray,List.set_cons_zero,List.set_cons_succ]);refine XD (i:=8) (by kernel_rfl) rfl (fun _ kq=>?_);go_simp;(with_reducible refine (Zwt _ es (a:Int) _ (hm.below (Zj _)) (fun k e he=>(HO.out.2 k e he).sh hK) HO.out.1 (by omega) (by omega)).mono ?_);rintro _ w2 ⟨rfl,m⟩;refine kq.out _ _ ?_ (fun hHeld=>?_)
      ·exact ⟨Zk m x1,Zk m x2,Zk m o⟩
      clear kq;(try simp only [Act.put,List.setIfInBounds_toArray,List.set_cons_zero,List.set_cons_succ]);refine V6 (i:=9) (by kernel_rfl) rfl (by decide) (fun _ kq=>?_);go_simp;refine kq.out _ _ ?_;clear kq;(try simp only [Act.put,List.setIfInBounds_toArray,List.set_cons_zero,List.set_cons_succ]);refine Vu (by kernel_rfl) (NoPanic.normal ?_) _;by_cases hz:vecErr es (a:Int)=0
      ·have HR:Hid (r=XE (a:Int) (p.cols.drop (k+1))):=JZ (by rw [HE.out,B.out,if_pos hz]);go_wp2;go_roundw
       case rel=>exact ⟨k+1,by omega,by go_num,Za f.drew m f.size,hX.drew.later m,HR.out⟩
       case measure=>simp [intOf];omega
      ·have HR:Hid (r=vecErr es (a:Int)):=JZ (by rw [HE.out,B.out,if_neg hz]);have I:(vecErr es (a:Int) !=0)=true:=(by simpa using hz);generalize vecErr es (a:Int)=ER at *;clear hz;go_wp2;go_ret;exact ⟨by rw [HR.out];rfl,Za f.drew m f.size⟩
     ·have HR:Hid (r=0):=JZ (HE.out.trans (Zhw (by rw [← l.out];omega)));go_wp2;go_ret;exact ⟨by rw [HR.out];rfl,f⟩
   ·have HV:Hid (lpErr p=12):=JZ (Zhx HB.out (by rw [← z.out,← l.out];exact q));have F:((n:Int) !=(n':Int))=true:=(by simp;omega);clear q;go_enter Tryz.func68,Tryz.ntmps68;go_wp2;go_ret;exact ⟨by rw [HV.out];rfl,f⟩
theorem VK (v:Value) (p:LPd) (K:Nat) (w:World) (h:LpM w v p) (ok:p.Ok K):
 Calls Tryz.prog 49 #[v] w fun e w'=>e= .returned (.int .i64 (lpErr p))∧Below w.heap.size w w':=by
 obtain ⟨A,n,c,A',n',c',x,a,y,rfl,hc,hv,hr⟩:=h;obtain ⟨W,hW,hX,d⟩:=Yc w (.slice A n c) (.slice A' n' c') (.slice x a y);obtain ⟨x0,x1,x2⟩:=hX.three;obtain ⟨l1,l2,l3⟩:=hc.len;obtain ⟨m1,m2,m3⟩:=hv.len;obtain ⟨r1,r2,r3⟩:=hr.len;have t:=JZ l1;have j:=JZ m1;have o:=JZ r1;clear l1 m1 r1;by_cases B:64 < a
 ·have HV:Hid (lpErr p=10):=JZ (Ut (.inl (by rw [← o.out];exact B)));have f:(64:Int) < a:=by omega
  go_enter Tryz.func49,Tryz.ntmps49;go_wp2;go_ret;exact ⟨by rw [HV.out];rfl,d⟩
 ·by_cases s:1200 < n'
  ·have HV:Hid (lpErr p=10):=JZ (Ut (.inr (by rw [← j.out];exact s)));have f:decide ((64:Int) < a)=false:=(by simp;omega);have g:(1200:Int) < n':=(by omega);go_enter Tryz.func49,Tryz.ntmps49;go_wp2;go_ret;exact ⟨by rw [HV.out];rfl,d⟩
  ·have HB:Hid (¬(64 < p.right.length∨1200 < p.cols.length)):=JZ (by rw [← o.out,← j.out];omega);have f:decide ((64:Int) < a)=false:=(by simp;omega);have g:decide ((1200:Int) < n')=false:=(by simp;omega);by_cases l:n=n'
   ·have q:=Zkm HB.out (by rw [← t.out,← j.out];exact l);rw [← o.out] at q;subst l;generalize lpErr p=m at *;have HV:=JZ q;clear q;go_enter Tryz.func49,Tryz.ntmps49;go_wp2;clear hW f g
    go_loopw [26] (fun i wr=>∃k:Nat,k≤n∧i= .int .i64 k∧Below w.heap.size w wr∧Bk wr w.heap.size 26 [.slice A n c,.slice A' n c',.slice x a y]∧m=XE (a:Int) (p.cols.drop k)) (fun i _=>n - (intOf i).toNat)
    case atStart=>exact ⟨0,by omega,rfl,d,hX,HV.out⟩
    case round=>
     obtain ⟨k,hk,rfl,d,hX,z⟩:=hrel;have HE:=JZ z;clear z HV x0 x1 x2;obtain ⟨x0,x1,x2⟩:=hX.three;rcases JX k n with hkl | hkl
     ·obtain ⟨es,he⟩:=Xm (cs:=p.cols) (i:=k) (by rw [← j.out];exact hkl);obtain ⟨b,H,A1,c1,rfl,I,C,hm⟩:=hv.elem d he;have HO:=JZ (ok.2.2 k es he);have E:(k:Int) < n:=(by omega);have u:=JZ (Zfy (n:=(a:Int)) he);have F:=Zoo es (a:Int);clear he;go_wp2_with fail;refine (Wh _ es (a:Int) _ hm HO.out.1 (by omega) (by omega)).mono ?_;rintro _ w2 ⟨rfl,r⟩;by_cases hz:vecErr es (a:Int)=0
      ·have HR:Hid (m=XE (a:Int) (p.cols.drop (k+1))):=JZ (by rw [HE.out,u.out,if_pos hz]);go_wp2;go_roundw
       case rel=>exact ⟨k+1,by omega,by go_num,Za d r d.size,hX.later r,HR.out⟩
       case measure=>simp [intOf];omega
      ·have HR:Hid (m=vecErr es (a:Int)):=JZ (by rw [HE.out,u.out,if_neg hz]);have G:(vecErr es (a:Int) !=0)=true:=(by simpa using hz);generalize vecErr es (a:Int)=ER at *;clear hz;go_wp2;go_ret;exact ⟨by rw [HR.out];rfl,Za d r d.size⟩
     ·have HR:Hid (m=0):=JZ (HE.out.trans (Zhw (by rw [← j.out];omega)));go_wp2;go_ret;exact ⟨by rw [HR.out];rfl,d⟩
   ·have HV:Hid (lpErr p=12):=JZ (Zhx HB.out (by rw [← t.out,← j.out];exact l));have D:((n:Int) !=(n':Int))=true:=(by simp;omega);clear l;go_enter Tryz.func49,Tryz.ntmps49;go_wp2;go_ret;exact ⟨by rw [HV.out];rfl,d⟩
namespace Pl
def ZQ (m:Nat) (f:Nat→Rat):List RF:=(List.range m).map fun i=>canF (f i)
theorem Zc (m:Nat) (f:Nat→Rat):(ZQ m f).length=m:=by simp [ZQ]
theorem ZE {m i:Nat} {f:Nat→Rat} (h:i < m):(ZQ m f)[i]? =some (canF (f i)):=by simp [ZQ,h]
theorem Yr {m i:Nat} {f:Nat→Rat} (h:i < m):qAt (ZQ m f) i=f i:=by rw [ZF (ZE h),Zr]
theorem ZO {m:Nat} {f g:Nat→Rat} (h:∀i,i < m→f i=g i):ZQ m f=ZQ m g:=by
 unfold ZQ;apply List.map_congr_left;intro i hi;rw [h i (List.mem_range.1 hi)]
theorem Zhy (m:Nat):List.replicate m (canF 0)=ZQ m fun _=>0:=by
 apply List.ext_getElem?;intro i;rcases JX i m with h | h
 ·rw [ZE h,List.getElem?_replicate,if_pos h]
 ·rw [JU (by simpa using h),JU (by rw [Zc];exact h)]
theorem XT {m k:Nat} {f:Nat→Rat} {q:Rat} (h:k < m):(ZQ m f).set k (canF q)=ZQ m fun i=>if i=k then q else f i:=by
 apply List.ext_getElem?;intro i;rcases JX i m with hi | hi
 ·rw [ZE hi];by_cases a:i=k
  ·subst a;rw [List.getElem?_set_self (by rw [Zc];exact h),if_pos rfl]
  ·rw [List.getElem?_set_ne (by omega),ZE hi,if_neg a]
 ·rw [JU (by simp [Zc];exact hi),JU (by rw [Zc];exact hi)]
theorem Vv {m K:Nat} {f:Nat→Rat} (h:∀i,i < m→Sz K (f i)):RsL K (ZQ m f):=by
 intro i g hg;have hi:i < m:=by have:=(List.getElem?_eq_some_iff.1 hg).1;rw [Zc] at this;exact this
 rw [ZE hi] at hg;injection hg with hg;subst hg;exact (h i hi).rs
theorem V8 (m:Nat) (f:Nat→Rat):ZQ m f++[canF (f m)]=ZQ (m+1) f:=by simp [ZQ,List.range_succ]
def nnB (fs:List RF):Bool:=decide (∀i,i < fs.length→0≤qs (qAt fs i))
theorem Zmc {fs:List RF} (h:∀i,i < fs.length→0≤qs (qAt fs i)):nnB fs=true:=by simpa [nnB] using h
theorem Yad {fs:List RF} {i:Nat} (hi:i < fs.length) (h:qs (qAt fs i) < 0):nnB fs=false:=by
 unfold nnB;rw [decide_eq_false];exact fun g=>by have:=g i hi;omega
def eqB (xs ys:List RF):Bool:=decide (xs.length=ys.length∧∀i,i < xs.length→qAt xs i=qAt ys i)
theorem Yes {xs ys:List RF} (h1:xs.length=ys.length) (h:∀i,i < xs.length→qAt xs i=qAt ys i):eqB xs ys=true:=by
 unfold eqB;rw [decide_eq_true];exact ⟨h1,h⟩
theorem Zhz {p q:Rat}:qs (p - q)=0↔p=q:=by
 rw [Z5];constructor
 ·intro h;rw [← Rat.sub_add_cancel (a:=p) (b:=q),h,Rat.zero_add]
 ·intro h;rw [h,Rat.sub_self]
def dQ:List En→(Nat→Rat)→Nat→Rat
 | [],f=>f
 | e::es,f=>dQ es fun i=>if e.idx=(i:Int) then e.f.q else f i
theorem Zmd (es:List En) (e:En) (f:Nat→Rat):dQ (es++[e]) f=fun (i:Nat)=>if e.idx=(i:Int) then e.f.q else dQ es f i:=by
 induction es generalizing f with
 | nil=>rfl
 | cons d es ih=>rw [List.cons_append,dQ,ih];rfl
theorem Zrt {es:List En} {k:Nat} {e:En} (h:es[k]? =some e) (f:Nat→Rat):dQ (es.take (k+1)) f=fun (i:Nat)=>if e.idx=(i:Int) then e.f.q else dQ (es.take k) f i:=by
 rw [List.take_add_one,h,Option.toList_some,Zmd]
def inR (n:Nat) (es:List En):Prop:=∀(k:Nat) (e:En),es[k]? =some e→0≤e.idx∧e.idx < n
def Vj (es:List En):Nat→Rat:=dQ es fun _=>0
theorem Yma {es:List En} {f:Nat→Rat} {K:Nat} (h:∀(k:Nat) (e:En),es[k]? =some e→e.f.Rs K) (hK:1≤K) (hf:∀i,Sz K (f i)) (i:Nat):Sz K (dQ es f i):=by
 induction es generalizing f with
 | nil=>exact hf i
 | cons e es ih=>
  rw [dQ];refine ih (fun k d hd=>h (k+1) d (by simpa using hd)) (fun i=>?_);split
  ·exact (h 0 e rfl).sz hK
  ·exact hf i
theorem Sz_col {es:List En} {K:Nat} (h:∀(k:Nat) (e:En),es[k]? =some e→e.f.Rs K) (hK:1≤K) (i:Nat):Sz K (Vj es i):=Yma h hK (fun _=>Sz_zero.mono hK) i
end Pl
theorem Zx {n g:Nat} {w w':World} (h:Below n w w') (hg:n≤g) (i j k l:Nat) (x y z u:Value):Below n w ((((w'.setCell ⟨g,i,none⟩ x).setCell ⟨g,j,none⟩ y).setCell ⟨g,k,none⟩ z).setCell ⟨g,l,none⟩ u):=(((h.setCell hg _).setCell hg _).setCell hg _).setCell hg _
theorem Zru {w w':World} {b o:Nat} {x y z u t:Value} (hb:Below w.heap.size w w') (h:w.cell? ⟨b,o,none⟩=some x∧w.cell? ⟨b,o+1,none⟩=some y∧w.cell? ⟨b,o+2,none⟩=some z∧w.cell? ⟨b,o+3,none⟩=some u∧w.cell? ⟨b,o+4,none⟩=some t):
 w'.cell? ⟨b,o,none⟩=some x∧w'.cell? ⟨b,o+1,none⟩=some y∧w'.cell? ⟨b,o+2,none⟩=some z∧w'.cell? ⟨b,o+3,none⟩=some u∧w'.cell? ⟨b,o+4,none⟩=some t:=
 ⟨Zk hb h.1,Zk hb h.2.1,Zk hb h.2.2.1,Zk hb h.2.2.2.1,Zk hb h.2.2.2.2⟩
theorem Zwu (v:Value) (es:List En) (m:Nat) (w:World) (h:V7 w v es) (hs:∀(k:Nat) (e:En),es[k]? =some e→e.f.Sh) (hin:inR m es) (hm0:m≤1099511627776):
 Calls Tryz.prog 109 #[v,.int .i64 (m:Int)] w fun e w'=>∃v',e= .returned v'∧ZU w.heap.size w' v' (ZQ m (Vj es))∧Below w.heap.size w w':=by
 obtain ⟨A,c,rfl,I,J⟩:=h.shape;generalize hl:es.length=l at *;have HL:=JZ hl;have HS:=JZ hs;have HI:=JZ hin;clear hl hs hin;go_enter Tryz.func109,Tryz.ntmps109;go_wp2_with fail;refine (Zhv m _ hm0).mono ?_;rw [Zhy];rintro _ w1 ⟨v1,rfl,hO,d⟩;have ST:Hid (ZU w.heap.size w1 v1 (ZQ m (dQ (es.take 0) fun _=>0))):=JZ hO;clear hO;go_wp2
 go_loopw [6] (fun i wr=>∃k:Nat,k≤l∧i= .int .i64 k∧Below w.heap.size w wr∧ZU w.heap.size wr v1 (ZQ m (dQ (es.take k) fun _=>0))) (fun i _=>l - (intOf i).toNat)
 case atStart=>exact ⟨0,by omega,rfl,d,ST.out⟩
 case round=>
  clear ST d;obtain ⟨k,hk,rfl,d,hO⟩:=hrel;rcases JX k l with hkl | hkl
  ·obtain ⟨e,he⟩:=Y3 (es:=es) (i:=k) (by rw [HL.out];exact hkl);obtain ⟨b,p,A1,n1,c1,A2,n2,c2,rfl,K,o,hm⟩:=h.elem d he;obtain ⟨i0,i1⟩:=HI.out k e he;have z:=HS.out k e he;have HT:=JZ (Zrt he fun _=>0);obtain ⟨g,cg,rfl,C,L,D,M⟩:=hO.shape (by rw [Zc];omega);rw [Zc] at hO D ⊢;obtain ⟨j,hj⟩:=JT i0;have r:j < m:=(by omega);have t:=ZE (f:=dQ (es.take k) fun _=>0) r;have F:(k:Int) < l:=(by omega);have G:b≠g:=(by omega);have H:(j:Int) < m:=(by omega);rw [hj] at o;clear he;go_wp2_with fail;refine wp_region_noPanic ?_;refine Us (S:=fun w'=>w'.cell? ⟨b,p+k * 5,none⟩=some (.int .i64 (j:Int))∧w'.cell? ⟨b,p+k * 5+1,none⟩=some (.bool e.f.num.neg)∧w'.cell? ⟨b,p+k * 5+2,none⟩=some (.slice A1 n1 c1)∧w'.cell? ⟨b,p+k * 5+3,none⟩=some (.bool e.f.den.neg)∧w'.cell? ⟨b,p+k * 5+4,none⟩=some (.slice A2 n2 c2)) (n:=13) (by kernel_rfl) ?_ (fun hHeld=>?_)
   ·exact o
   refine Zo (i:=0) (v:=?_) rfl (by kernel_rfl) (by kernel_rfl) (by kernel_rfl) (by kernel_rfl) (fun _ _ _ h=>h) (Or.inl ⟨by rfl,?y10⟩) (by assumption) ?_
   case y10=>(intro _ a;(try dsimp only at a);go_simp;(try with_reducible rfl))
   (try simp only [Act.put,List.setIfInBounds_toArray,List.set_cons_zero,List.set_cons_succ]);refine Zo (i:=1) (v:=?_) rfl (by kernel_rfl) (by kernel_rfl) (by kernel_rfl) (by kernel_rfl) (fun _ _ _ h=>h) (Or.inl ⟨by rfl,?y11⟩) (by assumption) ?_
   case y11=>(intro _ a;(try dsimp only at a);go_simp;(try with_reducible rfl))
   (try simp only [Act.put,List.setIfInBounds_toArray,List.set_cons_zero,List.set_cons_succ]);refine Zo (i:=2) (v:=?_) rfl (by kernel_rfl) (by kernel_rfl) (by kernel_rfl) (by kernel_rfl) (fun _ _ _ h=>h) (Or.inl ⟨by rfl,?y12⟩) (by assumption) ?_
   case y12=>(intro _ a;(try dsimp only at a);go_simp;(try with_reducible rfl))
   (try simp only [Act.put,List.setIfInBounds_toArray,List.set_cons_zero,List.set_cons_succ]);refine Zo (i:=3) (v:=?_) rfl (by kernel_rfl) (by kernel_rfl) (by kernel_rfl) (by kernel_rfl) (fun _ _ _ h=>h) (Or.inl ⟨by rfl,?y13⟩) (by assumption) ?_
   case y13=>(intro _ a;(try dsimp only at a);go_simp;(try with_reducible rfl))
   (try simp only [Act.put,List.setIfInBounds_toArray,List.set_cons_zero,List.set_cons_succ]);refine Zo (i:=4) (v:=?_) rfl (by kernel_rfl) (by kernel_rfl) (by kernel_rfl) (by kernel_rfl) (fun _ _ _ h=>h) (Or.inl ⟨by rfl,?y14⟩) (by assumption) ?_
   case y14=>(intro _ a;(try dsimp only at a);go_simp;(try with_reducible rfl))
   (try simp only [Act.put,List.setIfInBounds_toArray,List.set_cons_zero,List.set_cons_succ]);refine Zo (i:=5) (v:=?_) rfl (by kernel_rfl) (by kernel_rfl) (by kernel_rfl) (by kernel_rfl) (fun _ _ _ h=>h) (Or.inl ⟨by rfl,?y15⟩) (by assumption) ?_
   case y15=>(intro _ a;(try dsimp only at a);go_simp;(try with_reducible rfl))
   (try simp only [Act.put,List.setIfInBounds_toArray,List.set_cons_zero,List.set_cons_succ]);refine Zo (i:=6) (v:=?_) rfl (by kernel_rfl) (by kernel_rfl) (by kernel_rfl) (by kernel_rfl) (fun _ _ _ h=>h) (Or.inl ⟨by rfl,?y16⟩) (by assumption) ?_
   case y16=>(intro _ a;(try dsimp only at a);go_simp;(try with_reducible rfl))
   (try simp only [Act.put,List.setIfInBounds_toArray,List.set_cons_zero,List.set_cons_succ]);refine Zo (i:=7) (v:=?_) rfl (by kernel_rfl) (by kernel_rfl) (by kernel_rfl) (by kernel_rfl) (fun _ _ _ h=>h) (Or.inl ⟨by rfl,?y17⟩) (by assumption) ?_
   case y17=>(intro _ a;(try dsimp only at a);go_simp;(try with_reducible rfl))
   (try simp only [Act.put,List.setIfInBounds_toArray,List.set_cons_zero,List.set_cons_succ]);refine Zo (i:=8) (v:=?_) rfl (by kernel_rfl) (by kernel_rfl) (by kernel_rfl) (by kernel_rfl) (fun _ _ _ h=>h) (Or.inl ⟨by rfl,?y18⟩) (by assumption) ?_
   case y18=>(intro _ a;(try dsimp only at a);go_simp;(try with_reducible rfl))
   (try simp only [Act.put,List.setIfInBounds_toArray,List.set_cons_zero,List.set_cons_succ]);refine Zo (i:=9) (v:=?_) rfl (by kernel_rfl) (by kernel_rfl) (by kernel_rfl) (by kernel_rfl) (fun _ _ _ h=>h) (Or.inl ⟨by rfl,?y19⟩) (by assumption) ?_
   case y19=>(intro _ a;(try dsimp only at a);go_simp;(try with_reducible rfl))
   (try simp only [Act.put,List.setIfInBounds_toArray,List.set_cons_zero,List.set_cons_succ]);refine Zo (i:=10) (v:=?_) rfl (by kernel_rfl) (by kernel_rfl) (by kernel_rfl) (by kernel_rfl) (fun _ _ _ h=>h) (Or.inl ⟨by rfl,?y20⟩) (by assumption) ?_
   case y20=>(intro _ a;(try dsimp only at a);go_simp;(try with_reducible rfl))
   (try simp only [Act.put,List.setIfInBounds_toArray,List.set_cons_zero,List.set_cons_succ]);refine XD (i:=11) (by kernel_rfl) rfl (fun _ kq=>?_);go_simp;(with_reducible refine (Xn _ e.f _ (hm.keep (ZG.drew _)) z).mono ?_);rintro _ w2 ⟨v2,rfl,e2,s⟩;obtain ⟨E,l9,k9,E',N,O,rfl,_,_⟩:=id e2.frac;have u:=(hO.below (Zj _)).below s;obtain ⟨_,_,_,_,⟨c0,c1,c2,c3⟩,⟨f0,f1,f2,f3⟩,_⟩:=u.at_ t;refine kq.out _ _ ?_ (fun hHeld=>?_)
   ·exact Zru s o
   clear kq;(try simp only [Act.put,List.setIfInBounds_toArray,List.set_cons_zero,List.set_cons_succ]);refine Zo (i:=12) (v:=?_) rfl (by kernel_rfl) (by kernel_rfl) (by kernel_rfl) (by kernel_rfl) (fun _ _ _ h=>h) (Or.inl ⟨by rfl,?y21⟩) (by assumption) ?_
   case y21=>(intro _ a;(try dsimp only at a);go_simp;(try with_reducible rfl))
   (try simp only [Act.put,List.setIfInBounds_toArray,List.set_cons_zero,List.set_cons_succ]);refine V6 (i:=13) (by kernel_rfl) rfl (by decide) (fun _ kq=>?_);go_simp;refine kq.out _ _ ?_;clear kq;(try simp only [Act.put,List.setIfInBounds_toArray,List.set_cons_zero,List.set_cons_succ]);refine Vu (by kernel_rfl) (NoPanic.normal ?_) _;obtain ⟨x,P⟩:=u.set_ (k:=j) (by rw [Zc];exact r) e2.frac;rw [XT r] at x;have B:=Zx (Za d.drew s d.size) C (j * 4) (j * 4+1) (j * 4+2) (j * 4+3);go_wp2;go_roundw
   case rel=>exact ⟨k+1,by omega,by go_num,B _ _ _ _,by
    rw [HT.out];have:ZQ m (fun i=>if i=j then e.f.q else dQ (es.take k) (fun _=>0) i)=ZQ m (fun (i:Nat)=>if e.idx=(i:Int) then e.f.q else dQ (es.take k) (fun _=>0) i):=ZO fun i _=>by
     by_cases y:i=j
     ·rw [if_pos y,if_pos (by omega)]
     ·rw [if_neg y,if_neg (by omega)]
    rw [← this];exact x⟩
   case measure=>simp [intOf];omega
  ·go_wp2;go_ret;refine ⟨_,rfl,?_,d⟩;rw [List.take_of_length_le (by rw [HL.out];omega)] at hO;exact hO
theorem Y4 {w:World} {base base':Nat} {t:TypeId} {s n:Nat} {v:Value} {xs:List Value} (h:w.ownsRow base t s v n xs) (hb:base'≤base):w.ownsRow base' t s v n xs:=by
 refine ⟨h.1,?_⟩;rcases h.2 with hn | ⟨g,cap,cur,rfl,hb',rest⟩
 ·exact .inl hn
 ·exact .inr ⟨g,cap,cur,rfl,JW hb hb',rest⟩
namespace Pl
def LPd.col (p:LPd) (j:Int):Nat→Rat:=if 0≤j then (match p.cols[j.toNat]? with | some c=>Vj c | none=>fun _=>0) else fun i=>if (i:Int)= -1 - j then (if qs (qAt p.right i) < 0 then -1 else 1) else 0
theorem LPd.col_pos {p:LPd} {j:Nat} {c:List En} (h:p.cols[j]? =some c):p.col (j:Int)=Vj c:=by
 unfold LPd.col;rw [if_pos (by omega),JP,h]
theorem LPd.col_neg {p:LPd} {r:Nat}:p.col (-1 - (r:Int))=fun i=>if i=r then (if qs (qAt p.right i) < 0 then -1 else 1) else 0:=by
 unfold LPd.col;rw [if_neg (by omega)]
 funext i
 by_cases h:i=r
 ·rw [if_pos h,if_pos (by omega)]
 ·rw [if_neg h,if_neg (by omega)]
def LPd.In (p:LPd):Prop:=∀(j:Nat) (c:List En),p.cols[j]? =some c→inR p.right.length c
theorem Sz_one:Sz 1 1:=by
 unfold Sz;exact ⟨Xw (by rw [show Int.natAbs (Rat.num 1)=1 from rfl];decide),Xw (by rw [show Rat.den 1=1 from rfl];decide)⟩
theorem LPd.Sz_col {p:LPd} {K:Nat} (ok:p.Ok K) (hK:1≤K) (j:Int) (i:Nat):Sz K (p.col j i):=by
 rcases Int.lt_or_le j 0 with h | h
 ·obtain ⟨r,rfl⟩:∃r:Nat,j= -1 - (r:Int):=⟨(-1 - j).toNat,by omega⟩;rw [LPd.col_neg];show Sz K (if i=r then (if qs (qAt p.right i) < 0 then -1 else 1) else 0);split
  ·split
   ·exact (Zki Sz_one).mono hK
   ·exact Sz_one.mono hK
  ·exact Sz_zero.mono hK
 ·obtain ⟨r,rfl⟩:=JT h
  cases hc:p.cols[r]? with
  | some c=>rw [LPd.col_pos hc];exact Pl.Sz_col (ok.2.2 _ c hc).2 hK i
  | none=>
   have:p.col (r:Int) i=0:=by unfold LPd.col;rw [if_pos (by omega),JP,hc]
   rw [this];exact Sz_zero.mono hK
end Pl
theorem Zia (v:Value) (p:LPd) (K j:Nat) (w:World) (h:LpM w v p) (ok:p.Ok K) (hK:K≤34359738368) (hin:p.In) (hj:j < p.cols.length) (hm:p.right.length≤64):
 Calls Tryz.prog 60 #[v,.int .i64 (j:Int)] w fun e w'=>∃v',e= .returned v'∧ZU w.heap.size w' v' (ZQ p.right.length (p.col j))∧Below w.heap.size w w':=by
 obtain ⟨A,n,c,A',n',c',g,d,i,rfl,hc,hv,hr⟩:=h;obtain ⟨W,hW,hX,a⟩:=Yc w (.slice A n c) (.slice A' n' c') (.slice g d i);obtain ⟨x0,x1,x2⟩:=hX.three;obtain ⟨m1,m2,m3⟩:=hv.len;obtain ⟨r1,r2,r3⟩:=hr.len;obtain ⟨es,he⟩:=Xm hj;obtain ⟨b,r,A1,c1,rfl,s,l,m⟩:=hv.elem a he;have hO:=ok.2.2 j es he;have hI:=hin j es he;rw [← r1] at hm hI ⊢;rw [← m1] at hj;rw [LPd.col_pos he];have q:(j:Int) < n':=by omega
 have HS:Hid (∀(k:Nat) (e:En),es[k]? =some e→e.f.Sh):=JZ fun k e hk=>(hO.2 k e hk).sh hK
 have HI:=JZ hI;clear he hO hI r1 m1;go_enter Tryz.func60,Tryz.ntmps60;go_wp2_with fail;clear hW;refine (Zwu _ es d _ m HS.out HI.out (by omega)).mono ?_;rintro _ w1 ⟨v1,rfl,e1,o⟩;obtain ⟨cs,ho,hf⟩:=e1;go_wp2;go_ret;exact ⟨_,rfl,⟨cs,Y4 ho a.size,hf⟩,Za a o a.size⟩
theorem ZU.far4 {base:Nat} {w:World} {v:Value} {fs:List RF} {g i j k l:Nat} {x y z u:Value} (h:ZU base w v fs) (hg:g < base):
 ∀W,W=((((w.setCell ⟨g,i,none⟩ x).setCell ⟨g,j,none⟩ y).setCell ⟨g,k,none⟩ z).setCell ⟨g,l,none⟩ u)→Zg 46 w W→ZU base W v fs:=by
 rintro W rfl hk;obtain ⟨cs,h1,h2⟩:=h;refine ⟨cs,⟨h1.1,?_⟩,h2.keep (hk.keep (by decide))⟩;rcases h1.2 with hn | ⟨g',cap,cur,rfl,hb',hgg,rest⟩
 ·exact .inl hn
 ·refine .inr ⟨g',cap,cur,rfl,hb',?_,rest⟩;have a:g'≠g:=by omega
  rw [heap_setCell_other _ _ _ _ a,heap_setCell_other _ _ _ _ a,heap_setCell_other _ _ _ _ a,heap_setCell_other _ _ _ _ a];exact hgg
namespace Pl
def Ym (p:LPd) (xs:List RF) (k r:Nat):Rat:=ZN (fun j=>qAt xs j * p.col (j:Int) r) k
theorem Zib (p:LPd) (xs:List RF) (k r:Nat):Ym p xs (k+1) r=Ym p xs k r+qAt xs k * p.col (k:Int) r:=rfl
theorem Yet {p:LPd} {xs:List RF} {K:Nat} (ok:p.Ok K) (hx:RsL K xs) (hK:1≤K) (k r:Nat):Sz (1+k * (2 * K+1)) (Ym p xs k r):=
 Zkk fun j _=>(XO (hx.qAt hK j) (LPd.Sz_col ok hK j r)).mono (by omega)
end Pl
namespace Pl
theorem Yjk {n:Int} {es:List En} {p:Option Int} (h:Zaw n es p=0):∀(k:Nat) (e:En),es[k]? =some e→0≤e.idx∧e.idx < n∧e.f.q≠0:=by
 induction es generalizing p with
 | nil=>intro k e h;simp at h
 | cons d es ih=>
  rw [Zaw] at h;split at h
  ·omega
  ·rename_i h1
   split at h
   ·omega
   ·split at h
    ·omega
    ·rename_i h3
     intro k e hk
     cases k with
     | zero=>simp at hk;subst hk;exact ⟨by omega,by omega,h3⟩
     | succ k=>exact ih h k e (by simpa using hk)
def Inc:Option Int→List En→Prop
 | _,[]=>True
 | p,e::es=>leP p e.idx=false∧Inc (some e.idx) es
theorem Yeu {n:Int} {es:List En} {p:Option Int} (h:Zaw n es p=0):Inc p es:=by
 induction es generalizing p with
 | nil=>trivial
 | cons d es ih=>
  rw [Zaw] at h;split at h
  ·omega
  ·split at h
   ·omega
   ·rename_i h2
    split at h
    ·omega
    ·exact ⟨by simpa using h2,ih h⟩
theorem Zic {es:List En} {n:Nat} (h:vecErr es n=0):inR n es∧(∀(k:Nat) (e:En),es[k]? =some e→e.f.q≠0)∧Inc none es:=by
 unfold vecErr at h;split at h
 ·omega
 ·have:=Yjk h;exact ⟨fun k e hk=>⟨(this k e hk).1,(this k e hk).2.1⟩,fun k e hk=>(this k e hk).2.2,Yeu h⟩
theorem Zfz {n:Int} {cs:List (List En)} (h:XE n cs=0):∀(k:Nat) (c:List En),cs[k]? =some c→vecErr c n=0:=by
 induction cs with
 | nil=>intro k c h;simp at h
 | cons d cs ih=>
  rw [XE] at h;split at h
  ·rename_i h1
   intro k c hk
   cases k with
   | zero=>simp at hk;subst hk;exact h1
   | succ k=>exact ih h k c (by simpa using hk)
  ·rename_i h1;exact absurd h h1
theorem YU {p:LPd} (h:lpErr p=0):p.right.length≤64∧p.cols.length≤1200∧p.cost.length=p.cols.length∧p.In∧∀(j:Nat) (c:List En),p.cols[j]? =some c→(∀(k:Nat) (e:En),c[k]? =some e→e.f.q≠0)∧Inc none c:=by
 unfold lpErr at h;split at h
 ·omega
 ·split at h
  ·omega
  ·refine ⟨by omega,by omega,by omega,fun j c hc=>(Zic (Zfz h j c hc)).1,fun j c hc=>(Zic (Zfz h j c hc)).2⟩
def VW (p:LPd) (xs:List RF):Bool:=decide (lpErr p=0) && (decide (xs.length=p.cols.length) && (nnB xs && eqB (ZQ p.right.length (Ym p xs p.cols.length)) p.right))
theorem Yjl {p:LPd} {xs:List RF} (h:lpErr p≠0):VW p xs=false:=by simp [VW,h]
theorem Yjm {p:LPd} {xs:List RF} (h1:lpErr p=0) (h2:xs.length=p.cols.length) (h3:nnB xs=true):VW p xs=eqB (ZQ p.right.length (Ym p xs p.cols.length)) p.right:=by simp [VW,h1,h2,h3]
end Pl
def zfc (n:Nat):Array Value:=madeCells (Value.cells (.agg #[.bool false,.slice none 0 0,.bool false,.slice none 0 0])) (n * 4)
theorem Zuj {n k j:Nat} (hk:k < n) (hj:j < 4):(zfc n)[k * 4+j]? =([.bool false,.slice none 0 0,.bool false,.slice none 0 0]:List Value)[j]? :=by
 have a:k * 4+j < n * 4:=by omega
 have hm:(k * 4+j) % 4=j:=by omega
 unfold zfc madeCells;simp [a,Value.cells,hm]
 match j,hj with
 | 0,_=>rfl
 | 1,_=>rfl
 | 2,_=>rfl
 | 3,_=>rfl
theorem ZU.zeros (w:World) (n:Nat) (hn:n≤maxLen):ZU w.heap.size (w.alloc (.cells (zfc n) 46)) (.slice (some ⟨w.heap.size,0,none⟩) n n) (List.replicate n zeroF):=by
 have a:(zfc n).size=n * 4:=size_madeCells _ _;refine ⟨(zfc n).toList,⟨by simp [a],.inr ⟨w.heap.size,n,zfc n,by simp,JY _,heap_alloc_new w _,by simp,hn,a,?_⟩⟩,by simp [a],fun k f hf=>?_⟩
 ·rw [List.take_of_length_le (by simp [a])]
 ·rw [List.getElem?_replicate] at hf;split at hf
  ·rename_i hk
   injection hf with hf;subst hf;refine ⟨_,_,_,_,?_,?_,?_,?_,Zw.zero _⟩
   ·have:=Zuj (j:=0) hk (by decide);simpa using this
   ·have:=Zuj (j:=1) hk (by decide);simpa using this
   ·have:=Zuj (j:=2) hk (by decide);simpa using this
   ·have:=Zuj (j:=3) hk (by decide);simpa using this
  ·cases hf
theorem XF (n:Nat) (hn:n≤1099511627776) (w:World):
 (Instr.makeSlice 23 (.int .i64 (n:Int)) (.int .i64 (n:Int))).run Tryz.prog w= .ok (.slice (some ⟨w.heap.size,0,none⟩) n n) (w.alloc (.cells (zfc n) 46)):=by
 obtain ⟨i0,hi,a,b,c⟩:=info_parts info_frac;have hb:(i0.bytes:Int) * (n:Int)≤281474976710656:=by rw [c];omega
 have hr:=run_make (P:=Tryz.prog) w 23 46 i0 _ Tryz.underlying23 hi a .i64 .i64 n n (by omega) (by omega) hb (by omega);simp only [JP,b] at hr;exact hr
namespace Pl
theorem zeroF_q:zeroF.q=0:=by unfold RF.q zeroF;rw [ZL,Rat.divInt_zero]
theorem VL (K:Nat):zeroF.Rs K:=by unfold RF.Rs zeroF;simp [YP,digs_zero]
theorem Zoq (n i:Nat):qAt (List.replicate n zeroF) i=0:=by
 unfold qAt;rw [List.getElem?_replicate];split
 ·rename_i f hf
  split at hf
  ·injection hf with hf;rw [← hf,zeroF_q]
  ·cases hf
 ·rfl
theorem Zid (K n:Nat):RsL K (List.replicate n zeroF):=fun i f hf=>by
 rw [List.getElem?_replicate] at hf
 split at hf
 ·injection hf with hf;rw [← hf];exact VL K
 ·cases hf
theorem Ymb {es:List En} {p:Option Int} (h:Inc p es):∀(k:Nat) (e:En),es[k]? =some e→∀i,p=some i→i < e.idx:=by
 induction es generalizing p with
 | nil=>intro k e hk;simp at hk
 | cons d es ih=>
  intro k e hk i hp;have h1:i < d.idx:=by
   have:=h.1;subst hp;simp [leP] at this;exact this
  cases k with
  | zero=>simp at hk;subst hk;exact h1
  | succ k=>
   have:=ih h.2 k e (by simpa using hk) d.idx rfl;omega
theorem Zuk {es:List En} {p:Option Int} (h:Inc p es):∀(i j:Nat) (d e:En),i < j→es[i]? =some d→es[j]? =some e→d.idx < e.idx:=by
 induction es generalizing p with
 | nil=>intro i j d e _ hi;simp at hi
 | cons c es ih=>
  intro i j d e a hi hj
  cases i with
  | zero=>
   simp at hi;subst hi
   cases j with
   | zero=>omega
   | succ j=>exact Ymb h.2 j e (by simpa using hj) c.idx rfl
  | succ i=>
   cases j with
   | zero=>omega
   | succ j=>exact ih h.2 i j d e (by omega) (by simpa using hi) (by simpa using hj)
theorem Ymc {es:List En} {f:Nat→Rat} {i:Nat} (h:∀(k:Nat) (e:En),es[k]? =some e→e.idx≠(i:Int)):dQ es f i=f i:=by
 induction es generalizing f with
 | nil=>rfl
 | cons e es ih=>
  rw [dQ,ih fun k d hd=>h (k+1) d (by simpa using hd),if_neg (h 0 e rfl)]
theorem Zul {es:List En} {k:Nat} {e:En} (hinc:Inc none es) (he:es[k]? =some e) {f:Nat→Rat} {i:Nat} (hi:e.idx=(i:Int)):dQ (es.take k) f i=f i:=by
 apply Ymc;intro j d hd;rw [List.getElem?_take] at hd;split at hd
 ·rename_i hj
  have:=Zuk hinc j k d e hj hd he;omega
 ·cases hd
end Pl
theorem Zkn (v:Value) (fs:List RF) (n:Nat) (w:World) (h:Y1 w v fs) (hn:n≤9223372036854775807):
 Calls Tryz.prog 107 #[v,.int .i64 (n:Int)] w fun e w'=>e= .returned (.bool (decide (fs.length=n) && nnB fs))∧Below w.heap.size w w':=by
 obtain ⟨A,c,rfl,x,y⟩:=h.shape;generalize hl:fs.length=l at *;have HL:=JZ hl;clear hl;by_cases j:l=n
 ·have m:((l:Int) !=(n:Int))=false:=by simp;omega
  rw [decide_eq_true j,Bool.true_and];clear j;go_enter Tryz.func107,Tryz.ntmps107;go_wp2;clear m
  go_loopw [13] (fun i wr=>∃k:Nat,k≤l∧i= .int .i64 k∧Below w.heap.size w wr∧∀i,i < k→0≤qs (qAt fs i)) (fun i _=>l - (intOf i).toNat)
  case atStart=>exact ⟨0,by omega,rfl,JR _ _,fun i hi=>by omega⟩
  case round=>
   obtain ⟨k,hk,rfl,g,hz⟩:=hrel;have HZ:=JZ hz;clear hz;rcases JX k l with hkl | hkl
   ·obtain ⟨f,hf⟩:=ZH (fs:=fs) (i:=k) (by rw [HL.out];exact hkl);obtain ⟨b,z,A1,n1,k1,A2,n2,k2,rfl,B,o,hm⟩:=h.elem g hf;obtain ⟨x1,x2,x3,x4⟩:=o;obtain ⟨W1,t,hV,p⟩:=YR wr (.bool f.num.neg) (.slice A1 n1 k1) (.bool f.den.neg) (.slice A2 n2 k2);obtain ⟨z1,z2,z3,z4⟩:=hV.four;have a:=Za g p g.size;have u:(k:Int) < l:=(by omega);have HQ:=JZ (ZF hf);clear hf;go_wp2_with fail;clear t;refine (ZA _ f _ (hm.below p)).mono ?_;rintro _ w2 ⟨rfl,r⟩;by_cases d:qs f.q < 0
    ·have HR:Hid (nnB fs=false):=JZ (Yad (i:=k) (by rw [HL.out];exact hkl) (by rw [HQ.out];exact d));go_wp2;go_ret;exact ⟨ZM HR.out,Za a r a.size⟩
    ·have HN:=JZ d;have s:decide (qs f.q < 0)=false:=(by simpa using d);clear d;go_wp2;go_roundw
     case rel=>exact ⟨k+1,by omega,by go_num,Za a r a.size,fun i hi=>by
      rcases Nat.eq_or_lt_of_le (Nat.le_of_lt_succ hi) with e | e
      ·subst e;rw [HQ.out];have:=HN.out;omega
      ·exact HZ.out i e⟩
     case measure=>simp [intOf];omega
   ·go_wp2;go_ret;exact ⟨ZM (Zmc fun i hi=>HZ.out i (by rw [HL.out] at hi;omega)),g⟩
 ·have m:((l:Int) !=(n:Int))=true:=by simp;omega
  rw [decide_eq_false j,Bool.false_and];clear j;go_enter Tryz.func107,Tryz.ntmps107;go_wp2;go_ret;exact ⟨rfl,JR _ _⟩
namespace Pl
def Zdr (m:Nat) (f:Nat→Rat) (rs:List RF):Bool:=decide (∀i,i < m→f i=qAt rs i)
theorem Zko {m:Nat} {f:Nat→Rat} {rs:List RF} (h:∀i,i < m→f i=qAt rs i):Zdr m f rs=true:=by
 unfold Zdr;rw [decide_eq_true];exact h
theorem Zie {m i:Nat} {f:Nat→Rat} {rs:List RF} (hi:i < m) (h:f i≠qAt rs i):Zdr m f rs=false:=by
 unfold Zdr;rw [decide_eq_false];exact fun g=>h (g i hi)
def Zbv (p:LPd) (xs:List RF) (j:Nat) (es:List En) (k i:Nat):Rat:=Ym p xs j i+qAt xs j * dQ (es.take k) (fun _=>0) i
theorem Zwv (p:LPd) (xs:List RF) (j:Nat) (es:List En) (i:Nat):Zbv p xs j es 0 i=Ym p xs j i:=by
 unfold Zbv;simp [dQ,Rat.mul_zero,Rat.add_zero]
theorem Zww {p:LPd} {xs:List RF} {j:Nat} {es:List En} {k:Nat} {e:En} (he:es[k]? =some e) (hinc:Inc none es) (i:Nat):
 Zbv p xs j es (k+1) i=if e.idx=(i:Int) then Zbv p xs j es k i+qAt xs j * e.f.q else Zbv p xs j es k i:=by
 unfold Zbv;rw [Zrt he];simp only;by_cases h:e.idx=(i:Int)
 ·rw [if_pos h,if_pos h,Zul hinc he h,Rat.mul_zero,Rat.add_zero]
 ·rw [if_neg h,if_neg h]
theorem Yae {p:LPd} {xs:List RF} {j:Nat} {es:List En} (hc:p.cols[j]? =some es) {k:Nat} (hk:es.length≤k) (i:Nat):Zbv p xs j es k i=Ym p xs (j+1) i:=by
 unfold Zbv;rw [List.take_of_length_le hk,Zib,LPd.col_pos hc];rfl
theorem Yjn {p:LPd} {xs:List RF} {K:Nat} (ok:p.Ok K) (hx:RsL K xs) (hK:1≤K) {j:Nat} {es:List En} (hc:p.cols[j]? =some es) (k i:Nat):Sz (1+(j+1) * (2 * K+1)) (Zbv p xs j es k i):=by
 unfold Zbv;have h1:=Yet ok hx hK j i;have h2:Sz K (dQ (es.take k) (fun _=>0) i):=Yma (fun a e he=>(ok.2.2 j es hc).2 a e (by rw [List.getElem?_take] at he;split at he;exact he;cases he)) hK (fun _=>Sz_zero.mono hK) i;exact (Zud h1 (XO (hx.qAt hK j) h2)).mono (by rw [Nat.add_mul j 1];omega)
theorem Zrv {p:LPd} {xs:List RF} {j:Nat} (h:qAt xs j=0) (i:Nat):Ym p xs (j+1) i=Ym p xs j i:=by
 rw [Zib,h,Rat.zero_mul,Rat.add_zero]
end Pl
def WE (base:Nat) (m K:Nat) (f:Nat→Rat) (wr:World) (v:Value):Prop:=
 ∃fs,ZU base wr v fs∧fs.length=m∧(∀i,i < m→qAt fs i=f i)∧RsL K fs
theorem WE.below {base m K:Nat} {f:Nat→Rat} {w w':World} {v:Value} (h:WE base m K f w v) (hb:Below w.heap.size w w'):WE base m K f w' v:=by
 obtain ⟨fs,h1,h2,h3,h4⟩:=h;exact ⟨fs,h1.below hb,h2,h3,h4⟩
theorem WE.to {base m K K':Nat} {f g:Nat→Rat} {w:World} {v:Value} (h:WE base m K f w v) (hK:K≤K') (hfg:∀i,i < m→f i=g i):WE base m K' g w v:=by
 obtain ⟨fs,h1,h2,h3,h4⟩:=h;exact ⟨fs,h1,h2,fun i hi=>(h3 i hi).trans (hfg i hi),fun i e he=>(h4 i e he).mono hK⟩
theorem WE.at_ {base m K:Nat} {f:Nat→Rat} {w:World} {g n c:Nat} (h:WE base m K f w (.slice (some ⟨g,0,none⟩) n c)) {k:Nat} (hk:k < m):
 ∃a A n c A' n' c',(w.cell? ⟨g,k * 4,none⟩=some (.bool (RF.num a).neg)∧w.cell? ⟨g,k * 4+1,none⟩=some (.slice A n c)∧w.cell? ⟨g,k * 4+2,none⟩=some (.bool (RF.den a).neg)∧w.cell? ⟨g,k * 4+3,none⟩=some (.slice A' n' c'))∧(w.frozen? ⟨g,k * 4,none⟩=false∧w.frozen? ⟨g,k * 4+1,none⟩=false∧w.frozen? ⟨g,k * 4+2,none⟩=false∧w.frozen? ⟨g,k * 4+3,none⟩=false)∧Zw w (.agg #[.bool a.num.neg,.slice A n c,.bool a.den.neg,.slice A' n' c']) a∧a.q=f k∧a.Rs K:=by
 obtain ⟨fs,h1,h2,h3,h4⟩:=h;obtain ⟨a,ha⟩:=ZH (fs:=fs) (i:=k) (by omega);obtain ⟨x,y,z,u,hc,hf,hm⟩:=h1.at_ ha;obtain ⟨A1,n1,k1,A2,n2,k2,hv,d1,d2⟩:=id hm;simp at hv;obtain ⟨rfl,rfl,rfl,rfl⟩:=hv;exact ⟨a,A1,n1,k1,A2,n2,k2,hc,hf,hm,by rw [← h3 k hk,ZF ha],h4 k a ha⟩
theorem WE.set_ {base m K:Nat} {f f':Nat→Rat} {w:World} {g n c:Nat} (h:WE base m K f w (.slice (some ⟨g,0,none⟩) n c)) {k:Nat} (hk:k < m) {x y z u:Value} {q:Rat} (hm:Zw w (.agg #[x,y,z,u]) (canF q)) (hq:Sz K q) (h1:f' k=q) (h2:∀i,i < m→i≠k→f' i=f i):
 ∀W,W=((((w.setCell ⟨g,k * 4,none⟩ x).setCell ⟨g,k * 4+1,none⟩ y).setCell ⟨g,k * 4+2,none⟩ z).setCell ⟨g,k * 4+3,none⟩ u)→WE base m K f' W (.slice (some ⟨g,0,none⟩) n c)∧Zg 46 w W:=by
 rintro W rfl;obtain ⟨fs,g1,g2,g3,g4⟩:=h;obtain ⟨hO,b⟩:=g1.set_ (k:=k) (by omega) hm;refine ⟨⟨_,hO,by simpa using g2,fun i hi=>?_,fun i e he=>?_⟩,b⟩
 ·by_cases a:i=k
  ·subst a;rw [ZF (List.getElem?_set_self (by omega)),Zr,h1]
  ·rw [h2 i hi a,← g3 i hi];unfold qAt;rw [List.getElem?_set_ne (by omega)]
 ·by_cases a:i=k
  ·subst a;rw [List.getElem?_set_self (by omega)] at he;injection he with he;rw [← he];exact hq.rs
  ·rw [List.getElem?_set_ne (by omega)] at he;exact g4 i e he
theorem Zgb (v1 v2 v3:Value) (p:LPd) (xs rs:List RF) (K:Nat) (w:World) (h:LpM w v1 p) (h2:Y1 w v2 xs) (h3:Y1 w v3 rs) (ok:p.Ok K) (hx:RsL K xs) (hrs:RsL K rs) (hK:1≤K) (hz:lpErr p=0) (hl:xs.length=p.cols.length) (hrl:p.right.length≤rs.length) (hs:1+(p.cols.length+1) * (2 * K+1)≤34359738368) (hs2:2 * K≤34359738368):
 Calls Tryz.prog 108 #[v1,v2,v3] w fun e w'=>e= .returned (.bool (Zdr p.right.length (Ym p xs p.cols.length) rs))∧Below w.heap.size w w':=by
 obtain ⟨z1,z2,z3,z4,z5⟩:=YU hz;obtain ⟨A,n,c,A',N,c',a6,m,a7,rfl,hc,hv,hr⟩:=id h;obtain ⟨W,hW,hX,l⟩:=Yc w (.slice A n c) (.slice A' N c') (.slice a6 m a7);obtain ⟨x0,x1,x2⟩:=hX.three;obtain ⟨m1,m2,m3⟩:=hv.len;obtain ⟨r1,r2,r3⟩:=hr.len;obtain ⟨Ax,cx,rfl,bb,bt⟩:=h2.shape;obtain ⟨Ar,cr,rfl,bu,bv⟩:=h3.shape;rw [← r1] at z1 hrl ⊢;rw [← m1] at hl hs ⊢;have aq:=XF m (by omega);have ar:=JZ z4;have au:=JZ z5;have aa:=JZ ok;have HX:=JZ hx;have av:=JZ hrs;have aw:=JZ hl;have ax:=JZ m1;have ay:=JZ r1;have ab:=JZ hs;rw [hl] at bb;generalize ao:rs.length=RL at *;have az:=JZ ao;rw [hl];have bp:N≤1200:=by rw [m1];exact z2
 have b0:W.heap.size=w.heap.size+1:=by rw [← hW];simp
 have Y:=Zi W (.cells (zfc m) 46);have Z:=ZU.zeros W m (by unfold maxLen;omega);rw [b0] at Z;have ac:WE w.heap.size m (1+(N+1) * (2 * K+1)) (Ym p xs 0) (W.alloc (.cells (zfc m) 46)) (.slice (some ⟨w.heap.size+1,0,none⟩) m m):=by
  obtain ⟨cs,o1,o2⟩:=Z;exact ⟨_,⟨cs,Y4 o1 (by omega),o2⟩,by simp,fun i _=>by rw [Zoq];rfl,Zid _ _⟩
 have ad:=JZ ac;have z:=hX.later Y;have s:=Za l Y l.size;clear hz z2 z3 z4 z5 ok hx hrs m1 r1 ao hc hr hs Z ac Y l hX hl;go_enter Tryz.func108,Tryz.ntmps108;go_wp2;clear hW aq x0 x1 x2;generalize W.alloc (.cells (zfc m) 46)=W2 at *
 go_loopw [21] (fun i wr=>∃j:Nat,j≤N∧i= .int .i64 j∧Below w.heap.size w wr∧Bk wr w.heap.size 26 [.slice A n c,.slice A' N c',.slice a6 m a7]∧WE w.heap.size m (1+(N+1) * (2 * K+1)) (Ym p xs j) wr (.slice (some ⟨w.heap.size+1,0,none⟩) m m)) (fun i _=>N - (intOf i).toNat)
 case atStart=>exact ⟨0,by omega,rfl,s,z,ad.out⟩
 case round=>
  clear s z ad;obtain ⟨j,hj,rfl,l,hX,hS⟩:=hrel;rcases JX j N with hjl | hjl
  ·obtain ⟨es,a8⟩:=Xm (cs:=p.cols) (i:=j) (by rw [← ax.out];exact hjl);obtain ⟨bc,al,Ac,cc,rfl,bl,y,X⟩:=hv.elem (JR _ _) a8;have J:=Zk l y;obtain ⟨f,hf⟩:=ZH (fs:=xs) (i:=j) (by rw [aw.out];exact hjl);obtain ⟨b,u,A1,n1,k1,A2,n2,k2,rfl,bd,bf,am⟩:=h2.elem l hf;have HQ:=JZ (ZF hf);have R:=HX.out j f hf;have D:=JZ a8;have bq:(j:Int) < N:=(by omega);obtain ⟨x1,x2,x3,x4⟩:=bf;clear a8;go_wp2_with fail;refine (ZA _ f _ am).mono ?_;rintro _ w2 ⟨rfl,P⟩;have z:=hX.later P;have s:=Za l P l.size;have a0:=hS.below P;clear hX l hS am y x1 x2 x3 x4 J P;by_cases hq:f.q=0
   ·have a1:qs f.q=0:=Z5.2 hq;have b1:Hid (∀i,i < m→Ym p xs j i=Ym p xs (j+1) i):=JZ fun i _=>(Zrv (by rw [HQ.out];exact hq) i).symm
    clear hq;go_wp2;go_roundw
    case rel=>exact ⟨j+1,by omega,by go_num,s,z,a0.to (JY _) b1.out⟩
    case measure=>simp [intOf];omega
   ·have a1:(qs f.q==0)=false:=(by simpa using fun h=>hq (Z5.1 h));have T:WE w.heap.size m (1+(N+1) * (2 * K+1)) (Zbv p xs j es 0) w2 (.slice (some ⟨w.heap.size+1,0,none⟩) m m):=a0.to (JY _) fun i _=>(Zwv p xs j es i).symm
    obtain ⟨v1,v2,v3⟩:=X.len;clear hq a0;generalize ap:es.length=L at *;have ae:=JZ ap;clear ap v1;go_wp2
    go_loopw [34] (fun i wr=>∃k:Nat,k≤L∧i= .int .i64 k∧Below w.heap.size w wr∧Bk wr w.heap.size 26 [.slice A n c,.slice (some ⟨bc,al,none⟩) N c',.slice a6 m a7]∧WE w.heap.size m (1+(N+1) * (2 * K+1)) (Zbv p xs j es k) wr (.slice (some ⟨w.heap.size+1,0,none⟩) m m)) (fun i _=>L - (intOf i).toNat)
    case atStart=>exact ⟨0,by omega,rfl,s,z,T⟩
    case round=>
     clear s z T;obtain ⟨k,hk,rfl,l,hX,hS⟩:=hrel;rcases JX k L with hkl | hkl
     ·obtain ⟨e,he⟩:=Y3 (es:=es) (i:=k) (by rw [ae.out];exact hkl);obtain ⟨be,bm,A3,n3,k3,A4,n4,k4,rfl,bn,bg,an⟩:=X.elem l he;obtain ⟨i0,i1⟩:=ar.out j es D.out k e he;obtain ⟨d,hd⟩:=JT i0;have af:=JZ (Zww (p:=p) (xs:=xs) (j:=j) he (au.out j es D.out).2);have U:=(aa.out.2.2 j es D.out).2 k e he;have b3:=JZ fun i=>Yjn aa.out HX.out hK D.out (k+1) i
      obtain ⟨ei,ef⟩:=e;simp only at *;subst hd;have a2:d < m:=(by rw [ay.out];omega);obtain ⟨y0,y1,y2,y3,y4⟩:=bg;obtain ⟨W1,a9,hV,x⟩:=Zdo wr (.int .i64 (d:Int)) (.bool ef.num.neg) (.slice A3 n3 k3) (.bool ef.den.neg) (.slice A4 n4 k4);have r:=Za l x l.size;have M:=hS.below x;have b4:=hX.later x;obtain ⟨b2,bo,A1,n1,k1,A2,n2,k2,hA,_,t,F⟩:=h2.elem r hf;injection hA with hA;injection hA with hA1 hA2;subst hA1 hA2;obtain ⟨a,B1,m1,d1,B2,m2,d2,G,bh,O,H,I⟩:=M.at_ a2;have ag:=an.below x;have a3:=ab.out;have a4:=R.sm (by omega);have b5:=U.sm (by omega);have a5:=I.sm (by omega);have b6:(canF (f.q * ef.q)).Sm:=((XO (R.sz hK) (U.sz hK)).sh (by omega)).sm;have HV:Hid (a.q+(canF (f.q * ef.q)).q=Zbv p xs j es (k+1) d):=JZ (by rw [Zr,H,af.out d,if_pos rfl,HQ.out]);have br:(d:Int) < m:=(by omega);have b7:(k:Int) < L:=(by omega);clear hX l hS an H he a3;go_wp2_with fail;clear a9;refine wp_region_noPanic ?_;refine Us (S:=fun w'=>(w'.cell? ⟨w.heap.size+1,d * 4,none⟩=some (.bool a.num.neg)∧w'.cell? ⟨w.heap.size+1,d * 4+1,none⟩=some (.slice B1 m1 d1)∧w'.cell? ⟨w.heap.size+1,d * 4+2,none⟩=some (.bool a.den.neg)∧w'.cell? ⟨w.heap.size+1,d * 4+3,none⟩=some (.slice B2 m2 d2))∧(w'.cell? ⟨wr.heap.size,0,none⟩=some (.int .i64 (d:Int))∧w'.cell? ⟨wr.heap.size,1,none⟩=some (.bool ef.num.neg)∧w'.cell? ⟨wr.heap.size,2,none⟩=some (.slice A3 n3 k3)∧w'.cell? ⟨wr.heap.size,3,none⟩=some (.bool ef.den.neg)∧w'.cell? ⟨wr.heap.size,4,none⟩=some (.slice A4 n4 k4))∧(w'.cell? ⟨b,u+j * 4,none⟩=some (.bool f.num.neg)∧w'.cell? ⟨b,u+j * 4+1,none⟩=some (.slice A1 n1 k1)∧w'.cell? ⟨b,u+j * 4+2,none⟩=some (.bool f.den.neg)∧w'.cell? ⟨b,u+j * 4+3,none⟩=some (.slice A2 n2 k2))) (n:=17) (by kernel_rfl) ?_ (fun hHeld=>?_)
      ·exact ⟨G,hV.drew.five,t⟩
      refine Zo (i:=0) (v:=?_) rfl (by kernel_rfl) (by kernel_rfl) (by kernel_rfl) (by kernel_rfl) (fun _ _ _ h=>h) (Or.inl ⟨by rfl,?y1⟩) (by assumption) ?_
      case y1=>(intro _ g;(try dsimp only at g);go_simp;(try with_reducible rfl))
      (try simp only [pu]);refine Zo (i:=1) (v:=?_) rfl (by kernel_rfl) (by kernel_rfl) (by kernel_rfl) (by kernel_rfl) (fun _ _ _ h=>h) (Or.inl ⟨by rfl,?y2⟩) (by assumption) ?_
      case y2=>(intro _ g;(try dsimp only at g);go_simp;(try with_reducible rfl))
      (try simp only [pu]);refine Zo (i:=2) (v:=?_) rfl (by kernel_rfl) (by kernel_rfl) (by kernel_rfl) (by kernel_rfl) (fun _ _ _ h=>h) (Or.inl ⟨by rfl,?y3⟩) (by assumption) ?_
      case y3=>(intro _ g;(try dsimp only at g);go_simp;(try with_reducible rfl))
      (try simp only [pu]);refine Zo (i:=3) (v:=?_) rfl (by kernel_rfl) (by kernel_rfl) (by kernel_rfl) (by kernel_rfl) (fun _ _ _ h=>h) (Or.inl ⟨by rfl,?y4⟩) (by assumption) ?_
      case y4=>(intro _ g;(try dsimp only at g);go_simp;(try with_reducible rfl))
      (try simp only [pu]);refine Zo (i:=4) (v:=?_) rfl (by kernel_rfl) (by kernel_rfl) (by kernel_rfl) (by kernel_rfl) (fun _ _ _ h=>h) (Or.inl ⟨by rfl,?y5⟩) (by assumption) ?_
      case y5=>(intro _ g;(try dsimp only at g);go_simp;(try with_reducible rfl))
      (try simp only [pu]);refine Zo (i:=5) (v:=?_) rfl (by kernel_rfl) (by kernel_rfl) (by kernel_rfl) (by kernel_rfl) (fun _ _ _ h=>h) (Or.inl ⟨by rfl,?y6⟩) (by assumption) ?_
      case y6=>(intro _ g;(try dsimp only at g);go_simp;(try with_reducible rfl))
      (try simp only [pu]);refine Zo (i:=6) (v:=?_) rfl (by kernel_rfl) (by kernel_rfl) (by kernel_rfl) (by kernel_rfl) (fun _ _ _ h=>h) (Or.inl ⟨by rfl,?y7⟩) (by assumption) ?_
      case y7=>(intro _ g;(try dsimp only at g);go_simp;(try with_reducible rfl))
      (try simp only [pu]);refine Zo (i:=7) (v:=?_) rfl (by kernel_rfl) (by kernel_rfl) (by kernel_rfl) (by kernel_rfl) (fun _ _ _ h=>h) (Or.inl ⟨by rfl,?y8⟩) (by assumption) ?_
      case y8=>(intro _ g;(try dsimp only at g);go_simp;(try with_reducible rfl))
      (try simp only [pu]);refine Zo (i:=8) (v:=?_) rfl (by kernel_rfl) (by kernel_rfl) (by kernel_rfl) (by kernel_rfl) (fun _ _ _ h=>h) (Or.inl ⟨by rfl,?y9⟩) (by assumption) ?_
      case y9=>(intro _ g;(try dsimp only at g);go_simp;(try with_reducible rfl))
      (try simp only [pu]);refine Zo (i:=9) (v:=?_) rfl (by kernel_rfl) (by kernel_rfl) (by kernel_rfl) (by kernel_rfl) (fun _ _ _ h=>h) (Or.inl ⟨by rfl,?y10⟩) (by assumption) ?_
      case y10=>(intro _ g;(try dsimp only at g);go_simp;(try with_reducible rfl))
      (try simp only [pu]);refine Zo (i:=10) (v:=?_) rfl (by kernel_rfl) (by kernel_rfl) (by kernel_rfl) (by kernel_rfl) (fun _ _ _ h=>h) (Or.inl ⟨by rfl,?y11⟩) (by assumption) ?_
      case y11=>(intro _ g;(try dsimp only at g);go_simp;(try with_reducible rfl))
      (try simp only [pu]);refine Zo (i:=11) (v:=?_) rfl (by kernel_rfl) (by kernel_rfl) (by kernel_rfl) (by kernel_rfl) (fun _ _ _ h=>h) (Or.inl ⟨by rfl,?y12⟩) (by assumption) ?_
      case y12=>(intro _ g;(try dsimp only at g);go_simp;(try with_reducible rfl))
      (try simp only [pu]);refine Zo (i:=12) (v:=?_) rfl (by kernel_rfl) (by kernel_rfl) (by kernel_rfl) (by kernel_rfl) (fun _ _ _ h=>h) (Or.inl ⟨by rfl,?y13⟩) (by assumption) ?_
      case y13=>(intro _ g;(try dsimp only at g);go_simp;(try with_reducible rfl))
      (try simp only [pu]);refine Zo (i:=13) (v:=?_) rfl (by kernel_rfl) (by kernel_rfl) (by kernel_rfl) (by kernel_rfl) (fun _ _ _ h=>h) (Or.inl ⟨by rfl,?y14⟩) (by assumption) ?_
      case y14=>(intro _ g;(try dsimp only at g);go_simp;(try with_reducible rfl))
      (try simp only [pu]);refine XD (i:=14) (by kernel_rfl) rfl (fun _ kq=>?_);go_simp;(with_reducible refine (WL _ _ f ef _ (F.keep (ZG.drew _)) (ag.keep (ZG.drew _)) a4 b5).mono ?_);rintro _ w8 ⟨v8,rfl,e8,o⟩;refine kq.out _ _ ?_ (fun hHeld=>?_)
      ·exact ⟨ZB o G,(hV.drew.later o).five,ZB o t⟩
      clear kq;(try simp only [pu]);refine XD (i:=15) (by kernel_rfl) rfl (fun _ kq=>?_);go_simp;(with_reducible refine (Zas _ _ a (canF (f.q * ef.q)) _ ((O.keep (ZG.drew _)).below o) e8 a5 b6).mono ?_);rw [HV.out];rintro _ w9 ⟨v9,rfl,e9,B⟩;obtain ⟨E,l9,k9,E',bw,bx,rfl,_,_⟩:=id e9;have ah:=((M.below (Zj _)).below o).below B;obtain ⟨_,_,_,_,_,_,_,⟨c0,c1,c2,c3⟩,⟨f0,f1,f2,f3⟩,_⟩:=ah.at_ a2;refine kq.out _ _ ?_ (fun hHeld=>?_)
      ·exact ⟨ZB B (ZB o G),((hV.drew.later o).later B).five,ZB B (ZB o t)⟩
      clear kq;(try simp only [pu]);refine Zo (i:=16) (v:=?_) rfl (by kernel_rfl) (by kernel_rfl) (by kernel_rfl) (by kernel_rfl) (fun _ _ _ h=>h) (Or.inl ⟨by rfl,?y15⟩) (by assumption) ?_
      case y15=>(intro _ g;(try dsimp only at g);go_simp;(try with_reducible rfl))
      (try simp only [pu]);refine V6 (i:=17) (by kernel_rfl) rfl (by decide) (fun _ kq=>?_);go_simp;refine kq.out _ _ ?_;clear kq;(try simp only [pu]);refine Vu (by kernel_rfl) (NoPanic.normal ?_) _;obtain ⟨bi,bj⟩:=ah.set_ (f':=Zbv p xs j es (k+1)) a2 e9 ((b3.out d).mono (by have:=JS (2 * K+1) (show j+1≤N+1 by omega);omega)) rfl (fun i _ hi=>by rw [af.out i,if_neg (by omega)]) _ rfl;have ai:=Za r.drew o r.size;have b8:=Zx (Za ai B ai.size) (show w.heap.size≤w.heap.size+1 by omega) (d * 4) (d * 4+1) (d * 4+2) (d * 4+3);have b9:=bj.bk (((b4.drew).later o).later B) (by decide);go_wp2;go_roundw
      case rel=>exact ⟨k+1,by omega,by go_num,b8 _ _ _ _,b9,bi⟩
      case measure=>simp [intOf];omega
     ·have ba:Hid (∀i,i < m→Zbv p xs j es k i=Ym p xs (j+1) i):=JZ fun i _=>Yae D.out (by rw [ae.out];exact hkl) i
      go_wp2;go_roundw
      case rel=>exact ⟨j+1,by omega,by go_num,l,hX,hS.to (JY _) ba.out⟩
      case measure=>simp [intOf];omega
  ·obtain rfl:j=N:=by omega
   clear hj hjl;go_wp2
   go_loopw [59] (fun i wr=>∃k:Nat,k≤m∧i= .int .i64 k∧Below w.heap.size w wr∧WE w.heap.size m (1+(j+1) * (2 * K+1)) (Ym p xs j) wr (.slice (some ⟨w.heap.size+1,0,none⟩) m m)∧∀i,i < k→Ym p xs j i=qAt rs i) (fun i _=>m - (intOf i).toNat)
   case atStart=>exact ⟨0,by omega,rfl,l,hS,fun i hi=>by omega⟩
   case round=>
    clear l hX hS;obtain ⟨k,hk,rfl,l,hS,hz⟩:=hrel;have HZ:=JZ hz;clear hz;rcases JX k m with hkl | hkl
    ·obtain ⟨f,hf⟩:=ZH (fs:=rs) (i:=k) (by rw [az.out];omega);obtain ⟨a,B1,m1,d1,B2,m2,d2,G,bh,O,H,I⟩:=hS.at_ hkl;obtain ⟨o1,o2,o3,o4⟩:=G;obtain ⟨W1,a9,hV,x⟩:=YR wr (.bool a.num.neg) (.slice B1 m1 d1) (.bool a.den.neg) (.slice B2 m2 d2);have r:=Za l x l.size;have M:=hS.below x;have aj:=O.below x;obtain ⟨b,u,A1,n1,k1,A2,n2,k2,rfl,bd,t,F⟩:=h3.elem r hf;have a3:=ab.out;have a5:=I.sm (by omega);have a4:=(av.out k f hf).sm (by omega);have HQ:=JZ (ZF hf);have ak:=JZ H;have b7:(k:Int) < m:=(by omega);have bs:(k:Int) < RL:=(by omega);clear hf H hS l O a3;go_wp2_with fail;clear a9;refine wp_region_noPanic ?_;refine Us (S:=fun w'=>(w'.cell? ⟨wr.heap.size,0,none⟩=some (.bool a.num.neg)∧w'.cell? ⟨wr.heap.size,1,none⟩=some (.slice B1 m1 d1)∧w'.cell? ⟨wr.heap.size,2,none⟩=some (.bool a.den.neg)∧w'.cell? ⟨wr.heap.size,3,none⟩=some (.slice B2 m2 d2))∧(w'.cell? ⟨b,u+k * 4,none⟩=some (.bool f.num.neg)∧w'.cell? ⟨b,u+k * 4+1,none⟩=some (.slice A1 n1 k1)∧w'.cell? ⟨b,u+k * 4+2,none⟩=some (.bool f.den.neg)∧w'.cell? ⟨b,u+k * 4+3,none⟩=some (.slice A2 n2 k2))) (n:=7) (by kernel_rfl) ?_ (fun hHeld=>?_)
     ·exact ⟨hV.drew.four,t⟩
     refine Zo (i:=0) (v:=?_) rfl (by kernel_rfl) (by kernel_rfl) (by kernel_rfl) (by kernel_rfl) (fun _ _ _ h=>h) (Or.inl ⟨by rfl,?y16⟩) (by assumption) ?_
     case y16=>(intro _ g;(try dsimp only at g);go_simp;(try with_reducible rfl))
     (try simp only [pu]);refine Zo (i:=1) (v:=?_) rfl (by kernel_rfl) (by kernel_rfl) (by kernel_rfl) (by kernel_rfl) (fun _ _ _ h=>h) (Or.inl ⟨by rfl,?y17⟩) (by assumption) ?_
     case y17=>(intro _ g;(try dsimp only at g);go_simp;(try with_reducible rfl))
     (try simp only [pu]);refine Zo (i:=2) (v:=?_) rfl (by kernel_rfl) (by kernel_rfl) (by kernel_rfl) (by kernel_rfl) (fun _ _ _ h=>h) (Or.inl ⟨by rfl,?y18⟩) (by assumption) ?_
     case y18=>(intro _ g;(try dsimp only at g);go_simp;(try with_reducible rfl))
     (try simp only [pu]);refine Zo (i:=3) (v:=?_) rfl (by kernel_rfl) (by kernel_rfl) (by kernel_rfl) (by kernel_rfl) (fun _ _ _ h=>h) (Or.inl ⟨by rfl,?y19⟩) (by assumption) ?_
     case y19=>(intro _ g;(try dsimp only at g);go_simp;(try with_reducible rfl))
     (try simp only [pu]);refine Zo (i:=4) (v:=?_) rfl (by kernel_rfl) (by kernel_rfl) (by kernel_rfl) (by kernel_rfl) (fun _ _ _ h=>h) (Or.inl ⟨by rfl,?y20⟩) (by assumption) ?_
     case y20=>(intro _ g;(try dsimp only at g);go_simp;(try with_reducible rfl))
     (try simp only [pu]);refine XD (i:=5) (by kernel_rfl) rfl (fun _ kq=>?_);go_simp;(with_reducible refine (UZ _ _ a f _ (aj.keep (ZG.drew _)) (F.keep (ZG.drew _)) a5 a4).mono ?_);rintro _ w8 ⟨rfl,o⟩;refine kq.out _ _ ?_ (fun hHeld=>?_)
     ·exact ⟨(hV.drew.later o).four,ZB o t⟩
     clear kq;(try simp only [pu]);refine Zo (i:=6) (v:=?_) rfl (by kernel_rfl) (by kernel_rfl) (by kernel_rfl) (by kernel_rfl) (fun _ _ _ h=>h) (Or.inl ⟨by rfl,?y21⟩) (by assumption) ?_
     case y21=>(intro _ g;(try dsimp only at g);go_simp;(try with_reducible rfl))
     (try simp only [pu]);refine Vu (by kernel_rfl) (NoPanic.normal ?_) _;have V:=Za r.drew o r.size;by_cases C:a.q=f.q
     ·have a1:qs (a.q - f.q)=0:=Zhz.2 C;have HE:Hid (Ym p xs j k=qAt rs k):=JZ (by rw [← ak.out,HQ.out,C]);clear C;go_wp2;go_roundw
      case rel=>exact ⟨k+1,by omega,by go_num,V,(M.below (Zj _)).below o,fun i hi=>by
       rcases Nat.eq_or_lt_of_le (Nat.le_of_lt_succ hi) with e | e
       ·subst e;exact HE.out
       ·exact HZ.out i e⟩
      case measure=>simp [intOf];omega
     ·have a1:(qs (a.q - f.q) !=0)=true:=(by simpa using fun h=>C (Zhz.1 h));have HE:Hid (Zdr m (Ym p xs j) rs=false):=JZ (Zie hkl (by rw [← ak.out,HQ.out];exact C));clear C;go_wp2;go_ret;exact ⟨ZM HE.out,V⟩
    ·go_wp2;go_ret;exact ⟨ZM (Zko fun i hi=>HZ.out i (by omega)),l⟩
end Go.Proofs.YtgbhebappffbdaaGreat
