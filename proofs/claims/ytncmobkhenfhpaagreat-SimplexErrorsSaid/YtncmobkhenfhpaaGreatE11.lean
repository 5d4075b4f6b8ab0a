/- Lemmas of the claim; no condition. -/
import Derived.ChangeArms
import Derived.WideShapes
import Derived.Test.YtncmobkhenfhpaaGreatE14
set_option linter.all false
set_option maxRecDepth 100000
set_option maxHeartbeats 40000000
namespace Go.Proofs.YtncmobkhenfhpaaGreat
open Go.RowKit
open Pl
attribute [local go_sem ↓] Go.wp_at_zero Go.wp_at_succ
theorem Zoz {O xs ys:List Nat} {k:Nat} {z:Int} (hO:O.length=k) (hz:0≤z) (hx:xs.length+1≤k) (hy:ys.length+1≤k) (okx:okD xs) (oky:okD ys)
 (h:(vt O k:Int)+z * ((B32^k:Nat):Int)=vt xs k+vt ys k):val O=val xs+val ys:=by
 rw [Xy (by omega),Xy (show xs.length≤k by omega),Xy (show ys.length≤k by omega)] at h;obtain ⟨j,rfl⟩:∃j,k=j+1:=⟨k - 1,by omega⟩;have a1:=Nat.lt_of_lt_of_le (Zdk okx) (Nat.pow_le_pow_right B32_pos (show xs.length≤j by omega));have a2:=Nat.lt_of_lt_of_le (Zdk oky) (Nat.pow_le_pow_right B32_pos (show ys.length≤j by omega));rw [Nat.pow_succ] at h;generalize B32^j=p at *;rcases Int.lt_or_eq_of_le hz with h1 | h1
 ·have:1 * ((p * B32:Nat):Int)≤z * ((p * B32:Nat):Int):=Int.mul_le_mul_of_nonneg_right (by omega) (by omega);unfold B32 at *;omega
 ·subst h1;omega
theorem Zfs [Old] (v1 v2:Value) (xs ys:List Nat) (w:World) (h1:ZQ w v1 xs) (h2:ZQ w v2 ys) (hx:xs.length≤549755813888) (hy:ys.length≤549755813888) (hOl:Zb w:=by (repeat (first | assumption | exact Zb.up (by assumption) hOl | exact Zb.up (Hid.out (by assumption)) hOl | with_reducible refine Zb.set ?_ _ _ | with_reducible refine Zb.mk_ ?_ _ | with_reducible refine Zb.dr ?_ | with_reducible refine Zb.drN ?_ | refine Zb.up (by assumption) ?_ | refine Zb.up (Hid.out (by assumption)) ?_))):
 Calls Tryz.prog 132 #[v1,v2] w fun e w'=>∃v',e= .returned v'∧ZQ w' v' (Zo (val xs+val ys))∧Below w.heap.size w w':=by
 have p:=hOl.le;obtain ⟨A,l,c,rfl⟩:=h1.shape;obtain ⟨hl,j,q,hc⟩:=h1.len;obtain ⟨A2,l2,c2,rfl⟩:=h2.shape;obtain ⟨kl,m,r,kc⟩:=h2.len;rcases JX l l2 with hll | hll
 ·have b:=YE (l2+1) (by omega)
  push_cast at b
  have HX:Hid (xs.length≤l2):=JZ (by omega);have HY:Hid (ys.length≤l2):=JZ (by omega);have n:(l2:Int)≤549755813888:=by omega
  have d:=h1.ok;have f:=h2.ok;clear hl j kl m hx hy;go_enter Tryz.func132,Tryz.ntmps132;go_wp2;clear b
  go_loopw [7,8] (fun cy i wr=>∃(k:Nat) (O:List Nat) (z:Int),k≤l2+1∧i= .int .i64 k∧cy= .int .u64 z∧0≤z∧z≤1∧l2+1≤O.length∧O.length≤l2+1∧YD wr w.heap.size O∧okD O∧Below w.heap.size w wr∧
   (vt O k:Int)+z * ((B32^k:Nat):Int)=vt xs k+vt ys k) (fun _ i _=>l2+1 - (intOf i).toNat)
  case atStart=>exact ⟨0,List.replicate (l2+1) 0,0,by omega,rfl,rfl,by omega,by omega,by simp,by simp,YD.zeros w _,ZM _,(JR _ _).alloc (JY _) _,by simp [YN]⟩
  case round=>
   obtain ⟨k,O,z,hk,rfl,rfl,z0,z1,hO,g,hB,ok,a,h⟩:=hrel;have HE:=JZ h;clear h;rcases JX k (l2+1) with hkl | hkl
   ·have x0:=Zr xs k;have x1:=Yk d k;have y0:=Zr ys k;have y1:=Yk f k;go_wp2_with fail;refine (XQ _ xs k _ (h1.below a) (by omega)).mono ?_;rintro e w1 ⟨rfl,rfl⟩;go_wp2_with fail;refine (XQ _ ys k _ (h2.below a) (by omega)).mono ?_;rintro e w1 ⟨rfl,rfl⟩;have ho:=hB.cell (k:=k) (by omega);have hf:=hB.frozen k;go_wp2;go_roundw
    case rel=>exact ⟨k+1,O.set k ((z+di xs k+di ys k) % 4294967296).toNat,_,by omega,by go_num,rfl,by omega,by omega,by simpa using hO,by simpa using g,hB.setI k (by omega),ZN ok k (by unfold B32;omega),a.setCell (JY _) _,Vn (by omega) z0 rfl HE.out⟩
    case measure=>simp [intOf];omega
   ·obtain rfl:k=l2+1:=by omega
    have o:decide (((l2:Int)+1) < (l2:Int)+1)=false:=(by simp);go_wp2_with fail;refine (YA _ O _ ?_).mono ?_
    ·have:=hB.dig ok (c:=l2+1) g (by unfold maxLen;omega)
     rwa [show O.length=l2+1 from by omega] at this
    rintro e w1 ⟨v',rfl,hv,rfl⟩;go_wp2_with fail;go_ret;refine ⟨_,rfl,?_,a⟩
    rwa [Zoz (show O.length=l2+1 by omega) z0 (by have:=HX.out;omega) (by have:=HY.out;omega) d f HE.out] at hv
 ·have b:=YE (l+1) (by omega)
  push_cast at b
  have HX:Hid (xs.length≤l):=JZ (by omega);have HY:Hid (ys.length≤l):=JZ (by omega);have n:(l:Int)≤549755813888:=by omega
  have d:=h1.ok;have f:=h2.ok;clear hl j kl m hx hy;go_enter Tryz.func132,Tryz.ntmps132;go_wp2;clear b
  go_loopw [7,8] (fun cy i wr=>∃(k:Nat) (O:List Nat) (z:Int),k≤l+1∧i= .int .i64 k∧cy= .int .u64 z∧0≤z∧z≤1∧l+1≤O.length∧O.length≤l+1∧YD wr w.heap.size O∧okD O∧Below w.heap.size w wr∧
   (vt O k:Int)+z * ((B32^k:Nat):Int)=vt xs k+vt ys k) (fun _ i _=>l+1 - (intOf i).toNat)
  case atStart=>exact ⟨0,List.replicate (l+1) 0,0,by omega,rfl,rfl,by omega,by omega,by simp,by simp,YD.zeros w _,ZM _,(JR _ _).alloc (JY _) _,by simp [YN]⟩
  case round=>
   obtain ⟨k,O,z,hk,rfl,rfl,z0,z1,hO,g,hB,ok,a,h⟩:=hrel;have HE:=JZ h;clear h;rcases JX k (l+1) with hkl | hkl
   ·have x0:=Zr xs k;have x1:=Yk d k;have y0:=Zr ys k;have y1:=Yk f k;go_wp2_with fail;refine (XQ _ xs k _ (h1.below a) (by omega)).mono ?_;rintro e w1 ⟨rfl,rfl⟩;go_wp2_with fail;refine (XQ _ ys k _ (h2.below a) (by omega)).mono ?_;rintro e w1 ⟨rfl,rfl⟩;have ho:=hB.cell (k:=k) (by omega);have hf:=hB.frozen k;go_wp2;go_roundw
    case rel=>exact ⟨k+1,O.set k ((z+di xs k+di ys k) % 4294967296).toNat,_,by omega,by go_num,rfl,by omega,by omega,by simpa using hO,by simpa using g,hB.setI k (by omega),ZN ok k (by unfold B32;omega),a.setCell (JY _) _,Vn (by omega) z0 rfl HE.out⟩
    case measure=>simp [intOf];omega
   ·obtain rfl:k=l+1:=by omega
    have o:decide (((l:Int)+1) < (l:Int)+1)=false:=(by simp);go_wp2_with fail;refine (YA _ O _ ?_).mono ?_
    ·have:=hB.dig ok (c:=l+1) g (by unfold maxLen;omega)
     rwa [show O.length=l+1 from by omega] at this
    rintro e w1 ⟨v',rfl,hv,rfl⟩;go_wp2_with fail;go_ret;refine ⟨_,rfl,?_,a⟩
    rwa [Zoz (show O.length=l+1 by omega) z0 (by have:=HX.out;omega) (by have:=HY.out;omega) d f HE.out] at hv
theorem Vt [Old] (v1 v2:Value) (a b:RI) (w:World) (h1:Ym w v1 a) (h2:Ym w v2 b) (hs:a.ds.length+b.ds.length≤549755813888) (hOl:Zb w:=by (repeat (first | assumption | exact Zb.up (by assumption) hOl | exact Zb.up (Hid.out (by assumption)) hOl | with_reducible refine Zb.set ?_ _ _ | with_reducible refine Zb.mk_ ?_ _ | with_reducible refine Zb.dr ?_ | with_reducible refine Zb.drN ?_ | refine Zb.up (by assumption) ?_ | refine Zb.up (Hid.out (by assumption)) ?_))):
 Calls Tryz.prog 70 #[v1,v2] w fun e w'=>∃v',e= .returned v'∧Ym w' v' (canI (a.z * b.z))∧Below w.heap.size w w':=by
 have l:=hOl.le;obtain ⟨A,n,c,rfl,hd⟩:=h1.shape;obtain ⟨A',n',c',rfl,i⟩:=h2.shape;obtain ⟨W,hW,hX,hY,hR,g⟩:=Yaj w (.bool a.neg) (.slice A n c) (.bool b.neg) (.slice A' n' c');have d1:=hd.below g;have d2:=i.below g;have h:(Zo (val a.ds * val b.ds)).length≤549755813888:=by
  have q1:=Xr hd.ok;have q2:=Xr i.ok;exact JW (Y6 _ _) (by omega)
 go_enter Tryz.func70,Tryz.ntmps70;go_wp2_with fail;clear hW;have j:w.heap.size≠w.heap.size+1+1:=by omega
 have k:w.heap.size+1≠w.heap.size+1+1:=by omega
 go_region_held3 (fun w'=>(w'.cell? ⟨w.heap.size,0,none⟩=some (.bool a.neg)∧w'.cell? ⟨w.heap.size,1,none⟩=some (.slice A n c))∧(w'.cell? ⟨w.heap.size+1,0,none⟩=some (.bool b.neg)∧w'.cell? ⟨w.heap.size+1,1,none⟩=some (.slice A' n' c')))
  (first | with_reducible exact ⟨hX.drew.pair,hY.drew.pair⟩ | with_reducible exact ⟨(hX.drew.later d).pair,(hY.drew.later d).pair⟩ | with_reducible exact ⟨((hX.drew.later d).later f).pair,((hY.drew.later d).later f).pair⟩ | with_reducible exact ⟨((hX.drew.later d).later f).two_far j _ _,((hY.drew.later d).later f).two_far k _ _⟩)
  (first
   | (go_at_call 107;refine (Zft _ _ a.ds b.ds _ (d1.keep (ZG.drew _)) (d2.keep (ZG.drew _)) (by omega)).mono ?_;rintro e w1 ⟨v1,rfl,e1,d⟩)
   | (go_at_call 106;refine (Vs (a.neg !=b.neg) _ _ _ e1 h).mono ?_;rintro e w2 ⟨v2,rfl,e2,f⟩;obtain ⟨A3,n3,k3,rfl,_⟩:=e2.shape;obtain ⟨c0,c1,f0,f1⟩:=((hR.drew.later d).later f).two))
 go_wp2;refine Zq Tryz.results70 Tryz.underlying46 (by kernel_rfl) rfl (((hR.drew.later d).later f).set2 _ _) rfl ?_;rw [RI.z_eq,RI.z_eq,← Yal];exact YH ((hR.drew.later d).later f) e2 (Za (Za g.drew d g.size) f (JW g.size d.size)) (by omega)
theorem Zyl [Old] (v1 v2:Value) (a b:RI) (w:World) (h1:Ym w v1 a) (h2:Ym w v2 b) (hs:a.ds.length≤274877906944) (hs2:b.ds.length≤274877906944) (hOl:Zb w:=by (repeat (first | assumption | exact Zb.up (by assumption) hOl | exact Zb.up (Hid.out (by assumption)) hOl | with_reducible refine Zb.set ?_ _ _ | with_reducible refine Zb.mk_ ?_ _ | with_reducible refine Zb.dr ?_ | with_reducible refine Zb.drN ?_ | refine Zb.up (by assumption) ?_ | refine Zb.up (Hid.out (by assumption)) ?_))):
 Calls Tryz.prog 102 #[v1,v2] w fun e w'=>∃v',e= .returned v'∧Ym w' v' (canI (a.z+b.z))∧Below w.heap.size w w':=by
 have D:=hOl.le;obtain ⟨A,n,c,rfl,hd⟩:=h1.shape;obtain ⟨A',n',c',rfl,B⟩:=h2.shape;obtain ⟨W,hW,hX,hY,hR,j⟩:=Yaj w (.bool a.neg) (.slice A n c) (.bool b.neg) (.slice A' n' c');have d1:=hd.below j;have d2:=B.below j;have q1:=Xr hd.ok;have q2:=Xr B.ok;have r:w.heap.size≠w.heap.size+1+1:=by omega
 have s:w.heap.size+1≠w.heap.size+1+1:=by omega
 obtain ⟨x0,x1,_,_⟩:=hX.two;obtain ⟨y0,y1,_,_⟩:=hY.two;by_cases q:(a.neg==b.neg)=true
 ·have h:b.neg=a.neg:=(beq_iff_eq.1 q).symm;have m:(Zo (val a.ds+val b.ds)).length≤549755813888:=JW (Zug _ _ 274877906944 (by omega) (by omega)) (by decide);have p:=JZ h;clear h;go_enter Tryz.func102,Tryz.ntmps102;go_wp2_with fail;clear hW q
  go_region_held3 (fun w'=>(w'.cell? ⟨w.heap.size,0,none⟩=some (.bool a.neg)∧w'.cell? ⟨w.heap.size,1,none⟩=some (.slice A n c))∧(w'.cell? ⟨w.heap.size+1,0,none⟩=some (.bool b.neg)∧w'.cell? ⟨w.heap.size+1,1,none⟩=some (.slice A' n' c')))
   (first | with_reducible exact ⟨hX.drew.pair,hY.drew.pair⟩ | with_reducible exact ⟨(hX.drew.later d).pair,(hY.drew.later d).pair⟩ | with_reducible exact ⟨((hX.drew.later d).later f).pair,((hY.drew.later d).later f).pair⟩ | with_reducible exact ⟨((hX.drew.later d).later f).two_far r _ _,((hY.drew.later d).later f).two_far s _ _⟩)
   (first
    | (go_at_call 132;refine (Zfs _ _ a.ds b.ds _ (d1.keep (ZG.drew _)) (d2.keep (ZG.drew _)) (by omega) (by omega)).mono ?_;rintro e w1 ⟨v1,rfl,e1,d⟩)
    | (go_at_call 106;refine (Vs a.neg _ _ _ e1 m).mono ?_;rintro e w2 ⟨v2,rfl,e2,f⟩;obtain ⟨A3,n3,k3,rfl,_⟩:=e2.shape;obtain ⟨c0,c1,f0,f1⟩:=((hR.drew.later d).later f).two))
  go_wp2;refine Zq Tryz.results102 Tryz.underlying46 (by kernel_rfl) rfl (((hR.drew.later d).later f).set2 _ _) rfl ?_;rw [RI.z_eq,RI.z_eq,p.out,Zdq];exact YH ((hR.drew.later d).later f) e2 (Za (Za j.drew d j.size) f (JW j.size d.size)) (by omega)
 ·have h:(a.neg==b.neg)=false:=by simpa using q
  clear q;have C:=Zmk (val a.ds) (val b.ds);rcases JX (val a.ds) (val b.ds) with hlt | hge
  ·have hc:cmpN (val a.ds) (val b.ds)= -1:=VW hlt;have m:(Zo (val b.ds - val a.ds)).length≤549755813888:=JW (Zv (Nat.sub_le _ _)) (by omega);have t:(Zo (val a.ds)).length≤b.ds.length:=JW (Zv (Nat.le_of_lt hlt)) q2;have x:=JZ hlt;clear hlt C;go_enter Tryz.func102,Tryz.ntmps102;go_wp2_with fail;clear hW;refine (YB _ _ a.ds b.ds _ d1 d2).mono ?_;rw [hc];rintro e w0 ⟨rfl,g⟩;have k:=hX.later g;have l:=hY.later g;have o:=hR.later g;have u:=d1.below g;have v:=d2.below g;have i:=Za j g j.size;clear hX hY hR d1 d2 j hc x0 x1 y0 y1;have p:=JZ h;clear h;go_wp2_with fail
   go_region_held3 (fun w'=>(w'.cell? ⟨w.heap.size,0,none⟩=some (.bool a.neg)∧w'.cell? ⟨w.heap.size,1,none⟩=some (.slice A n c))∧(w'.cell? ⟨w.heap.size+1,0,none⟩=some (.bool b.neg)∧w'.cell? ⟨w.heap.size+1,1,none⟩=some (.slice A' n' c')))
    (first | with_reducible exact ⟨k.drew.pair,l.drew.pair⟩ | with_reducible exact ⟨(k.drew.later d).pair,(l.drew.later d).pair⟩ | with_reducible exact ⟨((k.drew.later d).later f).pair,((l.drew.later d).later f).pair⟩ | with_reducible exact ⟨((k.drew.later d).later f).two_far r _ _,((l.drew.later d).later f).two_far s _ _⟩)
    (first
     | (go_at_call 135;refine (YA _ a.ds _ (u.keep (ZG.drew _))).mono ?_;rintro e w3 ⟨v3,rfl,e3,rfl⟩)
     | (go_at_call 134;refine (UF _ _ b.ds (Zo (val a.ds)) _ (v.keep (ZG.drew _)) e3 (by rw [Zl];exact Nat.le_of_lt x.out) t (by omega)).mono ?_;rw [Zl];rintro e w1 ⟨v1,rfl,e1,d⟩)
     | (go_at_call 106;refine (Vs b.neg _ _ _ e1 m).mono ?_;rintro e w2 ⟨v2,rfl,e2,f⟩;obtain ⟨A3,n3,k3,rfl,_⟩:=e2.shape;obtain ⟨c0,c1,f0,f1⟩:=((o.drew.later d).later f).two))
   go_wp2;refine Zq Tryz.results102 Tryz.underlying46 (by kernel_rfl) rfl (((o.drew.later d).later f).set2 _ _) rfl ?_;rw [RI.z_eq,RI.z_eq,Zov p.out (Nat.le_of_lt x.out)];exact YH ((o.drew.later d).later f) e2 (Za (Za i.drew d i.size) f (JW i.size d.size)) (by omega)
  ·have hc:0≤cmpN (val a.ds) (val b.ds):=(by unfold cmpN;split;omega;split <;> omega);have m:(Zo (val a.ds - val b.ds)).length≤549755813888:=JW (Zv (Nat.sub_le _ _)) (by omega);have t:(Zo (val b.ds)).length≤a.ds.length:=JW (Zv hge) q1;have y:=JZ hge;clear hge;go_enter Tryz.func102,Tryz.ntmps102;go_wp2_with fail;clear hW;refine (YB _ _ a.ds b.ds _ d1 d2).mono ?_;rintro e w0 ⟨rfl,g⟩;generalize cmpN (val a.ds) (val b.ds)=cc at *;have k:=hX.later g;have l:=hY.later g;have o:=hR.later g;have u:=d1.below g;have v:=d2.below g;have i:=Za j g j.size;clear hX hY hR d1 d2 j x0 x1 y0 y1;have p:=JZ h;clear h;go_wp2_with fail
   go_region_held3 (fun w'=>(w'.cell? ⟨w.heap.size,0,none⟩=some (.bool a.neg)∧w'.cell? ⟨w.heap.size,1,none⟩=some (.slice A n c))∧(w'.cell? ⟨w.heap.size+1,0,none⟩=some (.bool b.neg)∧w'.cell? ⟨w.heap.size+1,1,none⟩=some (.slice A' n' c')))
    (first | with_reducible exact ⟨k.drew.pair,l.drew.pair⟩ | with_reducible exact ⟨(k.drew.later d).pair,(l.drew.later d).pair⟩ | with_reducible exact ⟨((k.drew.later d).later f).pair,((l.drew.later d).later f).pair⟩ | with_reducible exact ⟨((k.drew.later d).later f).two_far r _ _,((l.drew.later d).later f).two_far s _ _⟩)
    (first
     | (go_at_call 135;refine (YA _ b.ds _ (v.keep (ZG.drew _))).mono ?_;rintro e w3 ⟨v3,rfl,e3,rfl⟩)
     | (go_at_call 134;refine (UF _ _ a.ds (Zo (val b.ds)) _ (u.keep (ZG.drew _)) e3 (by rw [Zl];exact y.out) t (by omega)).mono ?_;rw [Zl];rintro e w1 ⟨v1,rfl,e1,d⟩)
     | (go_at_call 106;refine (Vs a.neg _ _ _ e1 m).mono ?_;rintro e w2 ⟨v2,rfl,e2,f⟩;obtain ⟨A3,n3,k3,rfl,_⟩:=e2.shape;obtain ⟨c0,c1,f0,f1⟩:=((o.drew.later d).later f).two))
   go_wp2;refine Zq Tryz.results102 Tryz.underlying46 (by kernel_rfl) rfl (((o.drew.later d).later f).set2 _ _) rfl ?_;rw [RI.z_eq,RI.z_eq,Zou p.out y.out];exact YH ((o.drew.later d).later f) e2 (Za (Za i.drew d i.size) f (JW i.size d.size)) (by omega)
theorem Zpb (z:Int):(canI z).ds.length=(Zo z.natAbs).length:=rfl
theorem Zum [Old] (v1 v2:Value) (a b:RF) (w:World) (h1:Zt w v1 a) (h2:Zt w v2 b) (hs:a.Sh) (hs2:b.Sh) (hOl:Zb w:=by (repeat (first | assumption | exact Zb.up (by assumption) hOl | exact Zb.up (Hid.out (by assumption)) hOl | with_reducible refine Zb.set ?_ _ _ | with_reducible refine Zb.mk_ ?_ _ | with_reducible refine Zb.dr ?_ | with_reducible refine Zb.drN ?_ | refine Zb.up (by assumption) ?_ | refine Zb.up (Hid.out (by assumption)) ?_))):
 Calls Tryz.prog 32 #[v1,v2] w fun e w'=>∃v',e= .returned v'∧XZ w.heap.size w' v' (canF (a.q * b.q))∧Below w.heap.size w w':=by
 have V:=hOl.le;obtain ⟨A,n,c,A',n',c',rfl,_,_⟩:=id h1;obtain ⟨B,m,d,B',m',d',rfl,_,_⟩:=id h2;obtain ⟨W,hW,hX,hY,hR,p⟩:=Zjy w (.bool a.num.neg) (.slice A n c) (.bool a.den.neg) (.slice A' n' c') (.bool b.num.neg) (.slice B m d) (.bool b.den.neg) (.slice B' m' d');have i1:=h1.below p;have i2:=h2.below p;have J:w.heap.size≠w.heap.size+1:=by omega
 have y:w.heap.size+1+1≠w.heap.size:=by omega
 have D:w.heap.size+1+1≠w.heap.size+1:=by omega
 have o:True:=trivial;obtain ⟨p1,p2,p3,p4⟩:=hX.four;obtain ⟨q1,q2,q3,q4⟩:=hY.four;go_enter Tryz.func32,Tryz.ntmps32;go_wp2_with fail;clear hW
 go_upto_region 1 with (fail)
 go_cut [] (fun wx=>∃(A A' B B':Option Addr) (n c n' c' m d m' d':Nat),Yci a.q b.q w wx A A' B B' n c n' c' m d m' d')
 case first=>
  go_region_with (first
   | (go_at_call 69;have _t:=o;refine (Xd _ a _ (i1.keep (ZG.drew _)) hs).mono ?_;clear o _t;rintro e w6 ⟨v6,rfl,e6,j⟩;obtain ⟨A6,n6,k6,M,N,O,rfl,_,_⟩:=id e6.1;obtain ⟨X,Y,Z,a0⟩:=(hY.drew.later j).four)
   | (go_at_call 69;refine (Xd _ b _ ((i2.keep (ZG.drew _)).below j) hs2).mono ?_;rintro e w7 ⟨v7,rfl,e7,k⟩;obtain ⟨A7,n7,k7,R,S,T,rfl,_,_⟩:=id e7.1;obtain ⟨c0,c1,c2,c3⟩:=((hX.drew.later j).later k).four;obtain ⟨r0,r1,r2,r3⟩:=((hX.drew.later j).later k).fourF;obtain ⟨a7,a8,a9,aa⟩:=((hY.drew.later j).later k).four;obtain ⟨ab,ac,ad,ae⟩:=((hY.drew.later j).later k).fourF))
  all_goals
   go_wp2_with fail
   go_meet
   have b1:=Za p.drew j p.size;obtain ⟨a1,a2,a3,a4,a5,a6⟩:=Zmz ((hX.drew.later j).later k) ((hY.drew.later j).later k) ((hR.drew.later j).later k) J y D (e6.below k).1 e7.1 (Za b1 k b1.size) (by omega) (by omega) _ rfl;exact ⟨A6,M,A7,R,n6,k6,N,O,n7,k7,S,T,a1,a2,a3,a4,a5,a6⟩
 case rest=>
  obtain ⟨A,A',B,B',n,c,n',c',m,d,m',d',bX,bY,bR,fX,fY,be⟩:=hcut;clear p1 p2 p3 p4 q1 q2 q3 q4 hX hY hR p i1 i2 h1 h2 o;have r:=hs.sz;have s:=hs2.sz;obtain ⟨l1,l2⟩:=szI r;obtain ⟨l3,l4⟩:=szI s;have E:=zN a.q;have F:=zD a.q;have G:=zN b.q;have H:=zD b.q;generalize canF a.q=P at *;generalize canF b.q=Q at *;have t:=JZ E;have u:=JZ F;have v:=JZ G;have x:=JZ H;clear E F G H;obtain ⟨iN,iD⟩:=fX.num;obtain ⟨jN,jD⟩:=fY.num;have o:True:=trivial;have U:True:=trivial;have K:(Zo (val (canI (P.num.z * Q.num.z)).ds)).length≤137438953472:=(szV (by rw [t.out,v.out,Int.natAbs_mul];exact JW (Y6 _ _) (JW (Nat.add_le_add r.1 s.1) (by decide))));have L:(Zo (val (canI (P.den.z * Q.den.z)).ds)).length≤137438953472:=(szV (by rw [u.out,x.out,Int.natAbs_mul];exact JW (Y6 _ _) (JW (Nat.add_le_add r.2 s.2) (by decide))));have HV:Hid (Rat.divInt (P.num.z * Q.num.z) (P.den.z * Q.den.z)=a.q * b.q):=JZ (by rw [t.out,u.out,v.out,x.out];exact Yaq _ _);clear r s hs hs2 t u v x;go_wp2_with fail
  go_region_held3 (fun w'=>(w'.cell? ⟨w.heap.size,0,none⟩=some (.bool P.num.neg)∧w'.cell? ⟨w.heap.size,1,none⟩=some (.slice A n c)∧w'.cell? ⟨w.heap.size,2,none⟩=some (.bool P.den.neg)∧w'.cell? ⟨w.heap.size,3,none⟩=some (.slice A' n' c'))∧(w'.cell? ⟨w.heap.size+1,0,none⟩=some (.bool Q.num.neg)∧w'.cell? ⟨w.heap.size+1,1,none⟩=some (.slice B m d)∧w'.cell? ⟨w.heap.size+1,2,none⟩=some (.bool Q.den.neg)∧w'.cell? ⟨w.heap.size+1,3,none⟩=some (.slice B' m' d')))
   (first | with_reducible exact ⟨bX.drew.four,bY.drew.four⟩ | with_reducible exact ⟨(bX.drew.later g).four,(bY.drew.later g).four⟩ | with_reducible exact ⟨((bX.drew.later g).later i).four,((bY.drew.later g).later i).four⟩ | with_reducible exact ⟨(((bX.drew.later g).later i).later h).four,(((bY.drew.later g).later i).later h).four⟩ | with_reducible exact ⟨((((bX.drew.later g).later i).later h).far4 (Ne.symm y) _ _ _ _).four,((((bY.drew.later g).later i).later h).far4 (Ne.symm D) _ _ _ _).four⟩)
   (first
    | (go_at_call 70;have _t:=o;refine (Vt _ _ P.num Q.num _ (iN.keep (ZG.drew _)) (jN.keep (ZG.drew _)) (by omega)).mono ?_;clear o _t;rintro e w8 ⟨v8,rfl,e8,g⟩)
    | (go_at_call 70;refine (Vt _ _ P.den Q.den _ ((iD.keep (ZG.drew _)).below g) ((jD.keep (ZG.drew _)).below g) (by omega)).mono ?_;rintro e w9 ⟨v9,rfl,e9,i⟩)
    | (go_at_call 67;refine (Us _ _ (canI (P.num.z * Q.num.z)) (canI (P.den.z * Q.den.z)) _ (e8.below i) e9 K L).mono ?_;rw [ZL,ZL,HV.out];rintro e af ⟨ag,rfl,I,h⟩;obtain ⟨C,l,f,C',l',f',rfl,_,_⟩:=id I.1;obtain ⟨c0,c1,c2,c3⟩:=(((bR.drew.later g).later i).later h).four;obtain ⟨f0,f1,f2,f3⟩:=(((bR.drew.later g).later i).later h).fourF))
  go_wp2;refine Zq Tryz.results32 Tryz.underlying48 (by kernel_rfl) rfl ((((bR.drew.later g).later i).later h).set4 _ _ _ _) rfl ?_;have b0:=be.drew;have b1:=Za b0 g b0.size;have b2:=Za b1 i b1.size;have b3:=Za b2 h b2.size;exact XD (((bR.drew.later g).later i).later h) (I.mono b2.size) b3 (by omega)
theorem Zun [Old] (v1 v2:Value) (a b:RF) (w:World) (h1:Zt w v1 a) (h2:Zt w v2 b) (hs:a.Sh) (hs2:b.Sh) (hOl:Zb w:=by (repeat (first | assumption | exact Zb.up (by assumption) hOl | exact Zb.up (Hid.out (by assumption)) hOl | with_reducible refine Zb.set ?_ _ _ | with_reducible refine Zb.mk_ ?_ _ | with_reducible refine Zb.dr ?_ | with_reducible refine Zb.drN ?_ | refine Zb.up (by assumption) ?_ | refine Zb.up (Hid.out (by assumption)) ?_))):
 Calls Tryz.prog 82 #[v1,v2] w fun e w'=>∃v',e= .returned v'∧XZ w.heap.size w' v' (canF (a.q / b.q))∧Below w.heap.size w w':=by
 have V:=hOl.le;obtain ⟨A,n,c,A',n',c',rfl,_,_⟩:=id h1;obtain ⟨B,m,d,B',m',d',rfl,_,_⟩:=id h2;obtain ⟨W,hW,hX,hY,hR,p⟩:=Zjy w (.bool a.num.neg) (.slice A n c) (.bool a.den.neg) (.slice A' n' c') (.bool b.num.neg) (.slice B m d) (.bool b.den.neg) (.slice B' m' d');have i1:=h1.below p;have i2:=h2.below p;have J:w.heap.size≠w.heap.size+1:=by omega
 have y:w.heap.size+1+1≠w.heap.size:=by omega
 have D:w.heap.size+1+1≠w.heap.size+1:=by omega
 have o:True:=trivial;obtain ⟨p1,p2,p3,p4⟩:=hX.four;obtain ⟨q1,q2,q3,q4⟩:=hY.four;go_enter Tryz.func82,Tryz.ntmps82;go_wp2_with fail;clear hW
 go_upto_region 1 with (fail)
 go_cut [] (fun wx=>∃(A A' B B':Option Addr) (n c n' c' m d m' d':Nat),Yci a.q b.q w wx A A' B B' n c n' c' m d m' d')
 case first=>
  go_region_with (first
   | (go_at_call 69;have _t:=o;refine (Xd _ a _ (i1.keep (ZG.drew _)) hs).mono ?_;clear o _t;rintro e w6 ⟨v6,rfl,e6,j⟩;obtain ⟨A6,n6,k6,M,N,O,rfl,_,_⟩:=id e6.1;obtain ⟨X,Y,Z,a0⟩:=(hY.drew.later j).four)
   | (go_at_call 69;refine (Xd _ b _ ((i2.keep (ZG.drew _)).below j) hs2).mono ?_;rintro e w7 ⟨v7,rfl,e7,k⟩;obtain ⟨A7,n7,k7,R,S,T,rfl,_,_⟩:=id e7.1;obtain ⟨c0,c1,c2,c3⟩:=((hX.drew.later j).later k).four;obtain ⟨r0,r1,r2,r3⟩:=((hX.drew.later j).later k).fourF;obtain ⟨a7,a8,a9,aa⟩:=((hY.drew.later j).later k).four;obtain ⟨ab,ac,ad,ae⟩:=((hY.drew.later j).later k).fourF))
  all_goals
   go_wp2_with fail
   go_meet
   have b1:=Za p.drew j p.size;obtain ⟨a1,a2,a3,a4,a5,a6⟩:=Zmz ((hX.drew.later j).later k) ((hY.drew.later j).later k) ((hR.drew.later j).later k) J y D (e6.below k).1 e7.1 (Za b1 k b1.size) (by omega) (by omega) _ rfl;exact ⟨A6,M,A7,R,n6,k6,N,O,n7,k7,S,T,a1,a2,a3,a4,a5,a6⟩
 case rest=>
  obtain ⟨A,A',B,B',n,c,n',c',m,d,m',d',bX,bY,bR,fX,fY,be⟩:=hcut;clear p1 p2 p3 p4 q1 q2 q3 q4 hX hY hR p i1 i2 h1 h2 o;have r:=hs.sz;have s:=hs2.sz;obtain ⟨l1,l2⟩:=szI r;obtain ⟨l3,l4⟩:=szI s;have E:=zN a.q;have F:=zD a.q;have G:=zN b.q;have H:=zD b.q;generalize canF a.q=P at *;generalize canF b.q=Q at *;have t:=JZ E;have u:=JZ F;have v:=JZ G;have x:=JZ H;clear E F G H;obtain ⟨iN,iD⟩:=fX.num;obtain ⟨jN,jD⟩:=fY.num;have o:True:=trivial;have U:True:=trivial;have K:(Zo (val (canI (P.num.z * Q.den.z)).ds)).length≤137438953472:=(szV (by rw [t.out,x.out,Int.natAbs_mul];exact JW (Y6 _ _) (JW (Nat.add_le_add r.1 s.2) (by decide))));have L:(Zo (val (canI (P.den.z * Q.num.z)).ds)).length≤137438953472:=(szV (by rw [u.out,v.out,Int.natAbs_mul];exact JW (Y6 _ _) (JW (Nat.add_le_add r.2 s.1) (by decide))));have HV:Hid (Rat.divInt (P.num.z * Q.den.z) (P.den.z * Q.num.z)=a.q / b.q):=JZ (by rw [t.out,u.out,v.out,x.out];exact Yap _ _);clear r s hs hs2 t u v x;go_wp2_with fail
  go_region_held3 (fun w'=>(w'.cell? ⟨w.heap.size,0,none⟩=some (.bool P.num.neg)∧w'.cell? ⟨w.heap.size,1,none⟩=some (.slice A n c)∧w'.cell? ⟨w.heap.size,2,none⟩=some (.bool P.den.neg)∧w'.cell? ⟨w.heap.size,3,none⟩=some (.slice A' n' c'))∧(w'.cell? ⟨w.heap.size+1,0,none⟩=some (.bool Q.num.neg)∧w'.cell? ⟨w.heap.size+1,1,none⟩=some (.slice B m d)∧w'.cell? ⟨w.heap.size+1,2,none⟩=some (.bool Q.den.neg)∧w'.cell? ⟨w.heap.size+1,3,none⟩=some (.slice B' m' d')))
   (first | with_reducible exact ⟨bX.drew.four,bY.drew.four⟩ | with_reducible exact ⟨(bX.drew.later g).four,(bY.drew.later g).four⟩ | with_reducible exact ⟨((bX.drew.later g).later i).four,((bY.drew.later g).later i).four⟩ | with_reducible exact ⟨(((bX.drew.later g).later i).later h).four,(((bY.drew.later g).later i).later h).four⟩ | with_reducible exact ⟨((((bX.drew.later g).later i).later h).far4 (Ne.symm y) _ _ _ _).four,((((bY.drew.later g).later i).later h).far4 (Ne.symm D) _ _ _ _).four⟩)
   (first
    | (go_at_call 70;have _t:=o;refine (Vt _ _ P.num Q.den _ (iN.keep (ZG.drew _)) (jD.keep (ZG.drew _)) (by omega)).mono ?_;clear o _t;rintro e w8 ⟨v8,rfl,e8,g⟩)
    | (go_at_call 70;refine (Vt _ _ P.den Q.num _ ((iD.keep (ZG.drew _)).below g) ((jN.keep (ZG.drew _)).below g) (by omega)).mono ?_;rintro e w9 ⟨v9,rfl,e9,i⟩)
    | (go_at_call 67;refine (Us _ _ (canI (P.num.z * Q.den.z)) (canI (P.den.z * Q.num.z)) _ (e8.below i) e9 K L).mono ?_;rw [ZL,ZL,HV.out];rintro e af ⟨ag,rfl,I,h⟩;obtain ⟨C,l,f,C',l',f',rfl,_,_⟩:=id I.1;obtain ⟨c0,c1,c2,c3⟩:=(((bR.drew.later g).later i).later h).four;obtain ⟨f0,f1,f2,f3⟩:=(((bR.drew.later g).later i).later h).fourF))
  go_wp2;refine Zq Tryz.results82 Tryz.underlying48 (by kernel_rfl) rfl ((((bR.drew.later g).later i).later h).set4 _ _ _ _) rfl ?_;have b0:=be.drew;have b1:=Za b0 g b0.size;have b2:=Za b1 i b1.size;have b3:=Za b2 h b2.size;exact XD (((bR.drew.later g).later i).later h) (I.mono b2.size) b3 (by omega)
theorem Zuo [Old] (v1 v2:Value) (a b:RF) (w:World) (h1:Zt w v1 a) (h2:Zt w v2 b) (hs:a.Sh) (hs2:b.Sh) (hOl:Zb w:=by (repeat (first | assumption | exact Zb.up (by assumption) hOl | exact Zb.up (Hid.out (by assumption)) hOl | with_reducible refine Zb.set ?_ _ _ | with_reducible refine Zb.mk_ ?_ _ | with_reducible refine Zb.dr ?_ | with_reducible refine Zb.drN ?_ | refine Zb.up (by assumption) ?_ | refine Zb.up (Hid.out (by assumption)) ?_))):
 Calls Tryz.prog 66 #[v1,v2] w fun e w'=>∃v',e= .returned v'∧XZ w.heap.size w' v' (canF (a.q+b.q))∧Below w.heap.size w w':=by
 have a8:=hOl.le;obtain ⟨A,n,c,A',n',c',rfl,_,_⟩:=id h1;obtain ⟨B,m,d,B',m',d',rfl,_,_⟩:=id h2;obtain ⟨W,hW,hX,hY,hR,u⟩:=Zjy w (.bool a.num.neg) (.slice A n c) (.bool a.den.neg) (.slice A' n' c') (.bool b.num.neg) (.slice B m d) (.bool b.den.neg) (.slice B' m' d');have i1:=h1.below u;have i2:=h2.below u;have M:w.heap.size≠w.heap.size+1:=by omega
 have F:w.heap.size+1+1≠w.heap.size:=by omega
 have G:w.heap.size+1+1≠w.heap.size+1:=by omega
 have r:True:=trivial;obtain ⟨p1,p2,p3,p4⟩:=hX.four;obtain ⟨q1,q2,q3,q4⟩:=hY.four;go_enter Tryz.func66,Tryz.ntmps66;go_wp2_with fail;clear hW
 go_upto_region 1 with (fail)
 go_cut [] (fun wx=>∃(A A' B B':Option Addr) (n c n' c' m d m' d':Nat),Yci a.q b.q w wx A A' B B' n c n' c' m d m' d')
 case first=>
  go_region_with (first
   | (go_at_call 69;have _t:=r;refine (Xd _ a _ (i1.keep (ZG.drew _)) hs).mono ?_;clear r _t;rintro e w6 ⟨v6,rfl,e6,o⟩;obtain ⟨A6,n6,k6,T,U,V,rfl,_,_⟩:=id e6.1;obtain ⟨a9,aa,ab,ac⟩:=(hY.drew.later o).four)
   | (go_at_call 69;refine (Xd _ b _ ((i2.keep (ZG.drew _)).below o) hs2).mono ?_;rintro e w7 ⟨v7,rfl,e7,p⟩;obtain ⟨A7,n7,k7,X,Y,Z,rfl,_,_⟩:=id e7.1;obtain ⟨c0,c1,c2,c3⟩:=((hX.drew.later o).later p).four;obtain ⟨r0,r1,r2,r3⟩:=((hX.drew.later o).later p).fourF;obtain ⟨ad,ae,af,ag⟩:=((hY.drew.later o).later p).four;obtain ⟨ah,ai,aj,ak⟩:=((hY.drew.later o).later p).fourF))
  all_goals
   go_wp2_with fail
   go_meet
   have b1:=Za u.drew o u.size;obtain ⟨a1,a2,a3,a4,a5,a6⟩:=Zmz ((hX.drew.later o).later p) ((hY.drew.later o).later p) ((hR.drew.later o).later p) M F G (e6.below p).1 e7.1 (Za b1 p b1.size) (by omega) (by omega) _ rfl;exact ⟨A6,T,A7,X,n6,k6,U,V,n7,k7,Y,Z,a1,a2,a3,a4,a5,a6⟩
 case rest=>
  obtain ⟨A,A',B,B',n,c,n',c',m,d,m',d',bX,bY,bR,fX,fY,be⟩:=hcut;clear p1 p2 p3 p4 q1 q2 q3 q4 hX hY hR u i1 i2 h1 h2 r;have s:=hs.sz;have t:=hs2.sz;obtain ⟨l1,l2⟩:=szI s;obtain ⟨l3,l4⟩:=szI t;have H:=zN a.q;have I:=zD a.q;have J:=zN b.q;have K:=zD b.q;generalize canF a.q=P at *;generalize canF b.q=Q at *;have D:=JZ H;have v:=JZ I;have E:=JZ J;have x:=JZ K;clear H I J K;obtain ⟨iN,iD⟩:=fX.num;obtain ⟨jN,jD⟩:=fY.num;have r:True:=trivial;have y:True:=trivial;have N:(Zo (P.num.z * Q.den.z).natAbs).length≤68719476736:=by rw [D.out,x.out,Int.natAbs_mul];exact JW (Y6 _ _) (Nat.add_le_add s.1 t.2)
  have O:(Zo (Q.num.z * P.den.z).natAbs).length≤68719476736:=by rw [E.out,v.out,Int.natAbs_mul];exact JW (Y6 _ _) (Nat.add_le_add t.1 s.2)
  have R:(Zo (val (canI (P.num.z * Q.den.z+Q.num.z * P.den.z)).ds)).length≤137438953472:=szV (JW (Zaf N O) (by decide));have S:(Zo (val (canI (P.den.z * Q.den.z)).ds)).length≤137438953472:=szV (by rw [v.out,x.out,Int.natAbs_mul];exact JW (Y6 _ _) (JW (Nat.add_le_add s.2 t.2) (by decide)));have HV:Hid (Rat.divInt (P.num.z * Q.den.z+Q.num.z * P.den.z) (P.den.z * Q.den.z)=a.q+b.q):=JZ (by rw [D.out,v.out,E.out,x.out];exact Yar _ _);clear s t hs hs2 D v E x;go_wp2_with fail
  go_region_held3 (fun w'=>(w'.cell? ⟨w.heap.size,0,none⟩=some (.bool P.num.neg)∧w'.cell? ⟨w.heap.size,1,none⟩=some (.slice A n c)∧w'.cell? ⟨w.heap.size,2,none⟩=some (.bool P.den.neg)∧w'.cell? ⟨w.heap.size,3,none⟩=some (.slice A' n' c'))∧(w'.cell? ⟨w.heap.size+1,0,none⟩=some (.bool Q.num.neg)∧w'.cell? ⟨w.heap.size+1,1,none⟩=some (.slice B m d)∧w'.cell? ⟨w.heap.size+1,2,none⟩=some (.bool Q.den.neg)∧w'.cell? ⟨w.heap.size+1,3,none⟩=some (.slice B' m' d')))
   (first | with_reducible exact ⟨bX.drew.four,bY.drew.four⟩ | with_reducible exact ⟨(bX.drew.later h).four,(bY.drew.later h).four⟩ | with_reducible exact ⟨((bX.drew.later h).later j).four,((bY.drew.later h).later j).four⟩ | with_reducible exact ⟨(((bX.drew.later h).later j).later g).four,(((bY.drew.later h).later j).later g).four⟩ | with_reducible exact ⟨((((bX.drew.later h).later j).later g).later i).four,((((bY.drew.later h).later j).later g).later i).four⟩ | with_reducible exact ⟨(((((bX.drew.later h).later j).later g).later i).later k).four,(((((bY.drew.later h).later j).later g).later i).later k).four⟩ | with_reducible exact ⟨((((((bX.drew.later h).later j).later g).later i).later k).far4 (Ne.symm F) _ _ _ _).four,((((((bY.drew.later h).later j).later g).later i).later k).far4 (Ne.symm G) _ _ _ _).four⟩)
   (first
    | (go_at_call 70;have _t:=r;refine (Vt _ _ P.num Q.den _ (iN.keep (ZG.drew _)) (jD.keep (ZG.drew _)) (by omega)).mono ?_;clear r _t;rintro e w8 ⟨v8,rfl,e8,h⟩)
    | (go_at_call 70;have _t:=y;refine (Vt _ _ Q.num P.den _ ((jN.keep (ZG.drew _)).below h) ((iD.keep (ZG.drew _)).below h) (by omega)).mono ?_;clear y _t;rintro e w9 ⟨v9,rfl,e9,j⟩)
    | (go_at_call 102;refine (Zyl _ _ (canI (P.num.z * Q.den.z)) (canI (Q.num.z * P.den.z)) _ (e8.below j) e9 (by rw [Zpb];omega) (by rw [Zpb];omega)).mono ?_;rw [ZL,ZL];rintro e al ⟨am,rfl,a0,g⟩)
    | (go_at_call 70;refine (Vt _ _ P.den Q.den _ ((((iD.keep (ZG.drew _)).below h).below j).below g) ((((jD.keep (ZG.drew _)).below h).below j).below g) (by omega)).mono ?_;rintro e an ⟨ao,rfl,a7,i⟩)
    | (go_at_call 67;refine (Us _ _ (canI (P.num.z * Q.den.z+Q.num.z * P.den.z)) (canI (P.den.z * Q.den.z)) _ (a0.below i) a7 R S).mono ?_;rw [ZL,ZL,HV.out];rintro e ap ⟨aq,rfl,L,k⟩;obtain ⟨C,l,f,C',l',f',rfl,_,_⟩:=id L.1;obtain ⟨c0,c1,c2,c3⟩:=(((((bR.drew.later h).later j).later g).later i).later k).four;obtain ⟨f0,f1,f2,f3⟩:=(((((bR.drew.later h).later j).later g).later i).later k).fourF))
  go_wp2;refine Zq Tryz.results66 Tryz.underlying48 (by kernel_rfl) rfl ((((((bR.drew.later h).later j).later g).later i).later k).set4 _ _ _ _) rfl ?_;have b0:=be.drew;have b1:=Za b0 h b0.size;have b2:=Za b1 j b1.size;have b3:=Za b2 g b2.size;have b4:=Za b3 i b3.size;have b5:=Za b4 k b4.size;exact XD (((((bR.drew.later h).later j).later g).later i).later k) (L.mono b4.size) b5 (by omega)
theorem XZ.frac [Old] {base:Nat} {w:World} {v:Value} {f:RF} (h:XZ base w v f):Zt w v f:=h.1
theorem Zup [Old] (v1 v2:Value) (a b:RF) (w:World) (h1:Zt w v1 a) (h2:Zt w v2 b) (hs:a.Sh) (hs2:b.Sh) (hOl:Zb w:=by (repeat (first | assumption | exact Zb.up (by assumption) hOl | exact Zb.up (Hid.out (by assumption)) hOl | with_reducible refine Zb.set ?_ _ _ | with_reducible refine Zb.mk_ ?_ _ | with_reducible refine Zb.dr ?_ | with_reducible refine Zb.drN ?_ | refine Zb.up (by assumption) ?_ | refine Zb.up (Hid.out (by assumption)) ?_))):
 Calls Tryz.prog 43 #[v1,v2] w fun e w'=>∃v',e= .returned v'∧XZ w.heap.size w' v' (canF (a.q - b.q))∧Below w.heap.size w w':=by
 have p:=hOl.le;obtain ⟨A,n,c,A',n',c',rfl,_,_⟩:=id h1;obtain ⟨B,m,d,B',m',d',rfl,_,_⟩:=id h2;obtain ⟨W,hW,hX,hY,hR,i⟩:=Zjy w (.bool a.num.neg) (.slice A n c) (.bool a.den.neg) (.slice A' n' c') (.bool b.num.neg) (.slice B m d) (.bool b.den.neg) (.slice B' m' d');have i1:=h1.below i;have i2:=h2.below i;have j:w.heap.size≠w.heap.size+1+1:=by omega
 have k:w.heap.size+1≠w.heap.size+1+1:=by omega
 have o:(canF (-b.q)).Sh:=(Zpf hs2.sz).sh (JY _);have HV:Hid (a.q+(canF (-b.q)).q=a.q - b.q):=JZ (by rw [Zu,Rat.sub_eq_add_neg]);go_enter Tryz.func43,Tryz.ntmps43;go_wp2_with fail;clear hW
 go_region_held3 (fun w'=>(w'.cell? ⟨w.heap.size,0,none⟩=some (.bool a.num.neg)∧w'.cell? ⟨w.heap.size,1,none⟩=some (.slice A n c)∧w'.cell? ⟨w.heap.size,2,none⟩=some (.bool a.den.neg)∧w'.cell? ⟨w.heap.size,3,none⟩=some (.slice A' n' c'))∧(w'.cell? ⟨w.heap.size+1,0,none⟩=some (.bool b.num.neg)∧w'.cell? ⟨w.heap.size+1,1,none⟩=some (.slice B m d)∧w'.cell? ⟨w.heap.size+1,2,none⟩=some (.bool b.den.neg)∧w'.cell? ⟨w.heap.size+1,3,none⟩=some (.slice B' m' d')))
  (first | with_reducible exact ⟨hX.drew.four,hY.drew.four⟩ | with_reducible exact ⟨(hX.drew.later g).four,(hY.drew.later g).four⟩ | with_reducible exact ⟨((hX.drew.later g).later h).four,((hY.drew.later g).later h).four⟩ | with_reducible exact ⟨(((hX.drew.later g).later h).far4 j _ _ _ _).four,(((hY.drew.later g).later h).far4 k _ _ _ _).four⟩)
  (first
   | (go_at_call 62;(with_reducible refine (Zkh _ b _ (i2.keep (ZG.drew _)) hs2).mono ?_);rintro e w8 ⟨v8,rfl,e8,g⟩)
   | (go_at_call 66;(with_reducible refine (Zuo _ _ a (canF (-b.q)) _ ((i1.keep (ZG.drew _)).below g) e8.frac hs o).mono ?_);rw [HV.out];rintro e w9 ⟨v9,rfl,e9,h⟩;obtain ⟨C,l,f,C',l',f',rfl,_,_⟩:=id e9.1;obtain ⟨c0,c1,c2,c3⟩:=((hR.drew.later g).later h).four;obtain ⟨f0,f1,f2,f3⟩:=((hR.drew.later g).later h).fourF))
 go_wp2;refine Zq Tryz.results43 Tryz.underlying48 (by kernel_rfl) rfl (((hR.drew.later g).later h).set4 _ _ _ _) rfl ?_;have b1:=Za i.drew g i.size;exact XD ((hR.drew.later g).later h) (e9.mono b1.size) (Za b1 h b1.size) (by omega)
def Zna (a b:RF):Bool:=Zaj a.num b.num && Zaj a.den b.den
theorem Ycj {a b:RF} (h:Zaj a.num b.num=true):Zna a b=Zaj a.den b.den:=by simp [Zna,h]
theorem Yck {a b:RF} (h:Zaj a.num b.num=false):Zna a b=false:=by simp [Zna,h]
theorem Zrk (a:RF):Zna a a=true:=by simp [Zna,Zaj]
theorem Zuq [Old] (v1 v2:Value) (a b:RF) (w:World) (h1:Zt w v1 a) (h2:Zt w v2 b) (hOl:Zb w:=by (repeat (first | assumption | exact Zb.up (by assumption) hOl | exact Zb.up (Hid.out (by assumption)) hOl | with_reducible refine Zb.set ?_ _ _ | with_reducible refine Zb.mk_ ?_ _ | with_reducible refine Zb.dr ?_ | with_reducible refine Zb.drN ?_ | refine Zb.up (by assumption) ?_ | refine Zb.up (Hid.out (by assumption)) ?_))):
 Calls Tryz.prog 28 #[v1,v2] w fun e w'=>e= .returned (.bool (Zna a b))∧Below w.heap.size w w':=by
 have j:=hOl.le;obtain ⟨A,n,c,A',n',c',rfl,_,_⟩:=id h1;obtain ⟨B,m,d,B',m',d',rfl,_,_⟩:=id h2;obtain ⟨W,hW,h,hX,hY,g⟩:=Zju w (.bool a.num.neg) (.slice A n c) (.bool a.den.neg) (.slice A' n' c') (.bool b.num.neg) (.slice B m d) (.bool b.den.neg) (.slice B' m' d');obtain ⟨i1,i2⟩:=(h1.below g).num;obtain ⟨j1,j2⟩:=(h2.below g).num;obtain ⟨p1,p2,p3,p4⟩:=hX.four;obtain ⟨q1,q2,q3,q4⟩:=hY.four;clear h;go_enter Tryz.func28,Tryz.ntmps28;go_wp2_with fail;clear hW;refine (Zdv _ _ a.num b.num _ i1 j1).mono ?_;rintro e w1 ⟨rfl,f⟩;have b1:=Za g f g.size
 cases hc:Zaj a.num b.num
 ·have HC:=JZ hc;clear hc;go_wp2;go_ret;exact ⟨Ur (Yck HC.out),b1⟩
 ·have HC:=JZ hc;clear hc;obtain ⟨k,l,o,p⟩:=(hX.later f).four;obtain ⟨q,r,s,t⟩:=(hY.later f).four;go_wp2_with fail;refine (Zdv _ _ a.den b.den _ (i2.below f) (j2.below f)).mono ?_;rintro e w2 ⟨rfl,i⟩;go_wp2;go_ret;exact ⟨Ur (Ycj HC.out),Za b1 i b1.size⟩
def Ze [Old] (e:TypeId) (w w':World):Prop:=∀(b:Nat) (cs:Array Value) (t:TypeId) (fz:Nat × Nat),(t≠e∨b < Old.n)→w.heap[b]? =some (.cells cs t fz)→w'.heap[b]? =some (.cells cs t fz)
theorem Ze.keep [Old] {e:TypeId} {w w':World} (h:Ze e w w') (he:123≠e):ZG w w':=fun b cs t fz ht hb=>h b cs t fz (ht.elim (fun e1=>Or.inl (e1▸he)) Or.inr) hb
theorem Ze.bk [Old] {e:TypeId} {w w':World} {g:Nat} {t:TypeId} {cs:List Value} (h:Ze e w w') (hb:Bk w g t cs) (ht:t≠e):Bk w' g t cs:=h g _ t _ (Or.inl ht) hb
theorem Ze.own [Old] {e:TypeId} {w w':World} {base:Nat} {t:TypeId} {s n:Nat} {v:Value} {xs:List Value} (h:Ze e w w') (ho:w.ownsRow base t s v n xs) (ht:t≠e):w'.ownsRow base t s v n xs:=by
 refine ⟨ho.1,?_⟩;rcases ho.2 with hn | ⟨g,cap,cur,rfl,hb',hgg,rest⟩
 ·exact .inl hn
 ·exact .inr ⟨g,cap,cur,rfl,hb',h g _ t _ (Or.inl ht) hgg,rest⟩
theorem Ze.row [Old] {e:TypeId} {w w':World} {t:TypeId} {s n:Nat} {v:Value} {xs:List Value} (h:Ze e w w') (hr:Vv w t s v n xs) (ht:t≠e):Vv w' t s v n xs:=by
 obtain ⟨A,c,h1,h2,h3,h4,h5⟩:=hr;refine ⟨A,c,h1,h2,h3,h4,fun hp=>?_⟩;obtain ⟨b,d,cs,t',fz,hA,a,hc,hx⟩:=h5 hp;exact ⟨b,d,cs,t',fz,hA,a,h b cs t' fz (a.elim (fun e1=>Or.inl (e1▸ht)) Or.inr) hc,hx⟩
theorem Ze.trans [Old] {e:TypeId} {a b c:World} (h:Ze e a b) (k:Ze e b c):Ze e a c:=fun x cs t fz ht hx=>k x cs t fz ht (h x cs t fz ht hx)
theorem Ze.setCell [Old] {w:World} {g:Nat} {cs:Array Value} {e:TypeId} {fz:Nat × Nat} (h:w.heap[g]? =some (.cells cs e fz)) (i:Nat) (u:Value) (hg:Old.n≤g:=by first | assumption | exact Nat.zero_le _ | omega | ((first | with_reducible refine Zb.le ?_ | with_reducible refine Zb.le1 ?_ | with_reducible refine Zb.le2 ?_ | with_reducible refine Zb.le3 ?_);repeat (first | assumption | exact Zb.up (by assumption) hOl | exact Zb.up (Hid.out (by assumption)) hOl | with_reducible refine Zb.set ?_ _ _ | with_reducible refine Zb.mk_ ?_ _ | with_reducible refine Zb.dr ?_ | with_reducible refine Zb.drN ?_ | refine Zb.up (by assumption) ?_ | refine Zb.up (Hid.out (by assumption)) ?_))):Ze e w (w.setCell ⟨g,i,none⟩ u):=by
 intro b c t d ht hb;have a:b≠g:=by
  rintro rfl;rw [h] at hb;injection hb with hb;injection hb with _ h2 _;rcases ht with e1 | e1
  ·exact e1 h2.symm
  ·omega
 rw [heap_setCell_other w _ _ _ a];exact hb
theorem UH [Old] (ty t e:TypeId) (i:TypeInfo) (z:Value) (size bytes:Nat) (ht:Tryz.prog.underlying t=some (.slice e)) (hi:Tryz.prog.info? e=some i) (hz:i.zero=some z)
 (hsize:i.size=size) (hby:i.bytes=bytes) (hzs:z.cells.size=size) (hsz:0 < size) (W:World) (base:Nat) (v:Value) (n:Nat) (xs news:List Value) (hown:W.ownsRow base e size v n xs)
 (hl:news.length=size) (h1:∀u∈news,u.oneCell'=true) (hn:n+1≤maxLen) (hb:(n+1) * bytes≤140737488355328) (hbase:base≤W.heap.size) (hO:Old.n≤base:=by first | assumption | exact Nat.zero_le _ | omega | ((first | with_reducible refine Zb.le ?_ | with_reducible refine Zb.le1 ?_ | with_reducible refine Zb.le2 ?_ | with_reducible refine Zb.le3 ?_);repeat (first | assumption | exact Zb.up (by assumption) hOl | exact Zb.up (Hid.out (by assumption)) hOl | with_reducible refine Zb.set ?_ _ _ | with_reducible refine Zb.mk_ ?_ _ | with_reducible refine Zb.dr ?_ | with_reducible refine Zb.drN ?_ | refine Zb.up (by assumption) ?_ | refine Zb.up (Hid.out (by assumption)) ?_))):
 ∃v' w',(Builtin.append_ #[t,t] ty #[v,.slice (some ⟨W.heap.size,0,none⟩) 1 1]).run Tryz.prog (W.alloc (.cells news.toArray e))= .ok v' w'∧w'.ownsRow base e size v' (n+1) (xs++news)∧Ze e W w'∧Below base W w':=by
 have a:Bk (W.alloc (.cells news.toArray e)) W.heap.size e news:=Bk.new W e news;obtain ⟨v',w',c,h2,h3,_,_⟩:=run_append_own_at (P:=Tryz.prog) (W.alloc (.cells news.toArray e)) base t ty e i z size bytes ht hi hz hsize hby hzs hsz v n xs (hown.alloc _) ⟨W.heap.size,0,none⟩ 1 1 news (by omega) (fun j u hj=>by rw [addr_add,Nat.zero_add,a.cell];exact hj) h1 hn hb (by simp;omega);refine ⟨v',w',c,h2,?_,?_⟩
 ·intro b cs t' fz f hc;have d:=Yo hc;refine (h3.block b (by simp;omega) ?_).trans ((Below.heap_alloc W _ b d).trans hc);intro e1;rcases hown.2 with ⟨rfl,_⟩ | ⟨g,cap,cur,rfl,hbg,hg,_⟩
  ·simp [Value.ownBlock] at e1
  ·simp [Value.ownBlock] at e1;subst e1;rw [hg] at hc;injection hc with hc;injection hc with _ h2 _;rcases f with e2 | e2
   ·exact e2 h2.symm
   ·omega
 ·refine ((JR _ _).alloc hbase _).grown h3 (by simp;omega) (fun k hk=>?_);exact (hown.lt k hk).1
 where
  addr_add (g j:Nat):(⟨g,0,none⟩:Addr).add j=⟨g,0+j,none⟩:=by
   unfold Addr.add;split
   ·rename_i h;subst h;rfl
   ·rfl
theorem YI [Old] {ops:Array Oper} {rest:List Oper} {o:Oper} {a:Act} {Q:Exit→Act→World→Prop} (hgd:o.guard=none) (s x:Operand) (t:TypeId)
 (ho:o.op= .call { callee:= .builtin .append,args:=#[s,x],argTypes:=#[t,t] })
 (e:TypeId) (i:TypeInfo) (z:Value) (size bytes:Nat) (ht:Tryz.prog.underlying t=some (.slice e)) (hi:Tryz.prog.info? e=some i) (hz:i.zero=some z)
 (hsize:i.size=size) (hby:i.bytes=bytes) (hzs:z.cells.size=size) (hsz:0 < size) (W:World) (base:Nat) (v:Value) (n:Nat) (xs news:List Value) (hs:a.eval s=v) (hown:W.ownsRow base e size v n xs)
 (hx:a.eval x= .slice (some ⟨W.heap.size,0,none⟩) 1 1) (hl:news.length=size) (h1:∀u∈news,u.oneCell'=true) (hn:n+1≤maxLen) (hb:(n+1) * bytes≤140737488355328) (hbase:base≤W.heap.size)
 (h:∀v' w',w'.ownsRow base e size v' (n+1) (xs++news)→Ze e W w'→Below base W w'→wpList Tryz.prog ops Q rest (a.put o.dst v') w') (hO:Old.n≤base:=by first | assumption | exact Nat.zero_le _ | omega | ((first | with_reducible refine Zb.le ?_ | with_reducible refine Zb.le1 ?_ | with_reducible refine Zb.le2 ?_ | with_reducible refine Zb.le3 ?_);repeat (first | assumption | exact Zb.up (by assumption) hOl | exact Zb.up (Hid.out (by assumption)) hOl | with_reducible refine Zb.set ?_ _ _ | with_reducible refine Zb.mk_ ?_ _ | with_reducible refine Zb.dr ?_ | with_reducible refine Zb.drN ?_ | refine Zb.up (by assumption) ?_ | refine Zb.up (Hid.out (by assumption)) ?_))):
 wpList Tryz.prog ops Q (o::rest) a (W.alloc (.cells news.toArray e)):=by
 refine wpList_plain hgd fun K hK=>?_
 obtain ⟨v',w',hr,h2,h3,h4⟩:=UH o.type t e i z size bytes ht hi hz hsize hby hzs hsz W base v n xs news hown hl h1 hn hb hbase;unfold Oper.wp execOp;simp only [ho,resolve,invoke,builtin,Sem.run_bind,Sem.run_pure,Result.andThen_ok,List.map_toArray,List.map_cons,List.map_nil,hs,hx,hr];exact hK _ _ (h v' w' h2 h3 h4)
theorem Zki {x y:Bool} {A A':Option Addr} {n c n' c':Nat}:∀u∈[Value.bool x,.slice A n c,.bool y,.slice A' n' c'],u.oneCell'=true:=by
 intro u hu;simp at hu;rcases hu with rfl | rfl | rfl | rfl <;> rfl
theorem YV [Old] {ops:Array Oper} {rest:List Oper} {o:Oper} {a:Act} {Q:Exit→Act→World→Prop} (hgd:o.guard=none) (s x:Operand)
 (ho:o.op= .call { callee:= .builtin .append,args:=#[s,x],argTypes:=#[23,23] })
 (W:World) (base:Nat) (v:Value) (fs:List RF) (hs:a.eval s=v) (hown:Yd base W v fs) (b b':Bool) (A A':Option Addr) (n c n' c':Nat) (f:RF) (hf:Zt W (.agg #[.bool b,.slice A n c,.bool b',.slice A' n' c']) f)
 (hx:a.eval x= .slice (some ⟨W.heap.size,0,none⟩) 1 1) (hn:fs.length+1≤1099511627776) (hbase:base≤W.heap.size)
 (h:∀v' w',Yd base w' v' (fs++[f])→Ze 48 W w'→Below base W w'→wpList Tryz.prog ops Q rest (a.put o.dst v') w') (hO:Old.n≤base:=by first | assumption | exact Nat.zero_le _ | omega | ((first | with_reducible refine Zb.le ?_ | with_reducible refine Zb.le1 ?_ | with_reducible refine Zb.le2 ?_ | with_reducible refine Zb.le3 ?_);repeat (first | assumption | exact Zb.up (by assumption) hOl | exact Zb.up (Hid.out (by assumption)) hOl | with_reducible refine Zb.set ?_ _ _ | with_reducible refine Zb.mk_ ?_ _ | with_reducible refine Zb.dr ?_ | with_reducible refine Zb.drN ?_ | refine Zb.up (by assumption) ?_ | refine Zb.up (Hid.out (by assumption)) ?_))):
 wpList Tryz.prog ops Q (o::rest) a (W.alloc (.cells #[.bool b,.slice A n c,.bool b',.slice A' n' c'] 48)):=by
 obtain ⟨cs,h1,h2⟩:=hown;obtain ⟨i0,hi,d,e,g⟩:=info_parts info_frac;refine YI hgd s x 23 ho 48 i0 _ 4 64 Tryz.underlying23 hi d e g rfl (by decide) W base v fs.length cs [.bool b,.slice A n c,.bool b',.slice A' n' c'] hs h1 hx rfl Zki (by unfold maxLen;omega) (by omega) hbase ?_;intro v' w' g1 g2 g3;refine h v' w' ⟨_,by simpa using g1,?_⟩ g2 g3;have hk:=g2.keep (by decide);exact (h2.keep hk).snoc (hf.keep hk)
theorem Xi {w:World} {base:Nat} {e:TypeId} {size n c g:Nat} {xs:List Value} (h:w.ownsRow base e size (.slice (some ⟨g,0,none⟩) n c) n xs) (j:Nat) (u:Value) (hj:j < xs.length):
 (w.setCell ⟨g,j,none⟩ u).ownsRow base e size (.slice (some ⟨g,0,none⟩) n c) n (xs.set j u):=by
 refine ⟨by rw [List.length_set];exact h.1,?_⟩;rcases h.2 with ⟨h0,_⟩ | ⟨g',cap,cur,hv,hb,hg,hnc,hcm,hcs,htake⟩
 ·injection h0 with h0;cases h0
 ·injection hv with e1 e2 e3;injection e1 with e1;injection e1 with e1;subst e1 e3;refine .inr ⟨g,c,cur.setIfInBounds j u,rfl,hb,?_,hnc,hcm,by simpa using hcs,?_⟩
  ·rw [heap_setCell_same w g j _ e u hg]
  ·rw [Array.toList_setIfInBounds,List.take_set,htake]
theorem ZP {w:World} {base:Nat} {e:TypeId} {size n c g:Nat} {xs:List Value} (h:w.ownsRow base e size (.slice (some ⟨g,0,none⟩) n c) n xs) {j:Nat} {u:Value} (hj:xs[j]? =some u):w.cell? ⟨g,j,none⟩=some u∧w.frozen? ⟨g,j,none⟩=false:=by
 rcases h.2 with ⟨h0,_⟩ | ⟨g',cap,cur,hv,hb,hg,hnc,hcm,hcs,htake⟩
 ·injection h0 with h0;cases h0
 ·injection hv with e1 e2 e3;injection e1 with e1;injection e1 with e1;subst e1 e3;refine ⟨?_,frozen_of_row w g j _ _ hg⟩;rw [cell_of_row w g j _ _ _ hg];rw [← htake,List.getElem?_take] at hj;split at hj
  ·simpa using hj
  ·cases hj
theorem Z8 {w:World} {base:Nat} {e:TypeId} {size n c g:Nat} {xs:List Value} (h:w.ownsRow base e size (.slice (some ⟨g,0,none⟩) n c) n xs):∃cur,w.heap[g]? =some (.cells cur e (0,0))∧base≤g:=by
 rcases h.2 with ⟨h0,_⟩ | ⟨g',cap,cur,hv,hb,hg,hnc,hcm,hcs,htake⟩
 ·injection h0 with h0;cases h0
 ·injection hv with e1 e2 e3;injection e1 with e1;injection e1 with e1;subst e1;exact ⟨cur,hg,hb⟩
theorem Yd.shape [Old] {base:Nat} {w:World} {v:Value} {fs:List RF} (h:Yd base w v fs) (hp:0 < fs.length):∃g c,v= .slice (some ⟨g,0,none⟩) fs.length c∧base≤g∧g < w.heap.size∧fs.length≤c∧c≤9223372036854775807:=by
 obtain ⟨cs,h1,h2⟩:=h;rcases h1.2 with ⟨rfl,h0⟩ | ⟨g,cap,cur,rfl,hb,hg,hnc,hcm,hcs,htake⟩
 ·have:=h2.1;rw [h0] at this;simp at this;omega
 ·unfold maxLen at hcm;exact ⟨g,cap,rfl,hb,Yo hg,hnc,by omega⟩
theorem Yd.at_ [Old] {base:Nat} {w:World} {g n c:Nat} {fs:List RF} (h:Yd base w (.slice (some ⟨g,0,none⟩) n c) fs) {k:Nat} {f:RF} (hf:fs[k]? =some f):
 ∃x y z u,(w.cell? ⟨g,k * 4,none⟩=some x∧w.cell? ⟨g,k * 4+1,none⟩=some y∧w.cell? ⟨g,k * 4+2,none⟩=some z∧w.cell? ⟨g,k * 4+3,none⟩=some u)∧(w.frozen? ⟨g,k * 4,none⟩=false∧w.frozen? ⟨g,k * 4+1,none⟩=false∧w.frozen? ⟨g,k * 4+2,none⟩=false∧w.frozen? ⟨g,k * 4+3,none⟩=false)∧Zt w (.agg #[x,y,z,u]) f:=by
 obtain ⟨cs,h1,h2⟩:=h;have hn:n=fs.length:=(Vv.of_own h1).len;subst hn;obtain ⟨x,y,z,u,c1,c2,c3,c4,hm⟩:=h2.2 k f hf;exact ⟨x,y,z,u,⟨(ZP h1 c1).1,(ZP h1 c2).1,(ZP h1 c3).1,(ZP h1 c4).1⟩,⟨(ZP h1 c1).2,(ZP h1 c2).2,(ZP h1 c3).2,(ZP h1 c4).2⟩,hm⟩
theorem Yd.set_ [Old] {base:Nat} {w:World} {g n c:Nat} {fs:List RF} (h:Yd base w (.slice (some ⟨g,0,none⟩) n c) fs) {k:Nat} (hk:k < fs.length) {x y z u:Value} {f:RF} (hf:Zt w (.agg #[x,y,z,u]) f) (hO:Old.n≤base:=by first | assumption | exact Nat.zero_le _ | omega | ((first | with_reducible refine Zb.le ?_ | with_reducible refine Zb.le1 ?_ | with_reducible refine Zb.le2 ?_ | with_reducible refine Zb.le3 ?_);repeat (first | assumption | exact Zb.up (by assumption) hOl | exact Zb.up (Hid.out (by assumption)) hOl | with_reducible refine Zb.set ?_ _ _ | with_reducible refine Zb.mk_ ?_ _ | with_reducible refine Zb.dr ?_ | with_reducible refine Zb.drN ?_ | refine Zb.up (by assumption) ?_ | refine Zb.up (Hid.out (by assumption)) ?_))):
 Yd base ((((w.setCell ⟨g,k * 4,none⟩ x).setCell ⟨g,k * 4+1,none⟩ y).setCell ⟨g,k * 4+2,none⟩ z).setCell ⟨g,k * 4+3,none⟩ u) (.slice (some ⟨g,0,none⟩) n c) (fs.set k f)∧
 Ze 48 w ((((w.setCell ⟨g,k * 4,none⟩ x).setCell ⟨g,k * 4+1,none⟩ y).setCell ⟨g,k * 4+2,none⟩ z).setCell ⟨g,k * 4+3,none⟩ u):=by
 obtain ⟨cs,h1,h2⟩:=h;have hn:n=fs.length:=(Vv.of_own h1).len;subst hn;have hl:=h2.1;have o1:=Xi h1 (k * 4) x (by omega);have o2:=Xi o1 (k * 4+1) y (by simp;omega);have o3:=Xi o2 (k * 4+2) z (by simp;omega);have o4:=Xi o3 (k * 4+3) u (by simp;omega);obtain ⟨_,b0,a⟩:=Z8 h1;have b:Old.n≤g:=JW hO a;obtain ⟨_,b1,_⟩:=Z8 o1;obtain ⟨_,b2,_⟩:=Z8 o2;obtain ⟨_,b3,_⟩:=Z8 o3;have kp:=(((Ze.setCell b0 (k * 4) x).trans (Ze.setCell b1 (k * 4+1) y)).trans (Ze.setCell b2 (k * 4+2) z)).trans (Ze.setCell b3 (k * 4+3) u);have kd:=kp.keep (by decide);refine ⟨⟨Zrl cs (k * 4) x y z u,by rw [List.length_set];exact o4,?_⟩,kp⟩;exact (h2.keep kd).set_ hk (hf.keep kd)
theorem Zkj [Old] (n:Nat) (w:World) (hn:n≤1099511627776) (hOl:Zb w:=by (repeat (first | assumption | exact Zb.up (by assumption) hOl | exact Zb.up (Hid.out (by assumption)) hOl | with_reducible refine Zb.set ?_ _ _ | with_reducible refine Zb.mk_ ?_ _ | with_reducible refine Zb.dr ?_ | with_reducible refine Zb.drN ?_ | refine Zb.up (by assumption) ?_ | refine Zb.up (Hid.out (by assumption)) ?_))):
 Calls Tryz.prog 71 #[.int .i64 (n:Int)] w fun e w'=>∃v',e= .returned v'∧Yd w.heap.size w' v' (List.replicate n (canF 0))∧Below w.heap.size w w':=by
 have p:=hOl.le;go_enter Tryz.func71,Tryz.ntmps71;go_wp2
 go_loopw [3,4] (fun s i wr=>∃k:Nat,k≤n∧i= .int .i64 k∧Yd w.heap.size wr s (List.replicate k (canF 0))∧Below w.heap.size w wr) (fun _ i _=>n - (intOf i).toNat)
 case atStart=>exact ⟨0,by omega,rfl,Yd.nil _ _,JR _ _⟩
 case round=>
  obtain ⟨k,hk,rfl,b,d⟩:=hrel;rcases JX k n with hkl | hkl
  ·go_wp2_with fail;refine (WQ 0 _ (by omega) (by omega)).mono ?_;rintro e w1 ⟨v1,rfl,e1,g⟩;rw [show ((0:Int):Rat)=0 from rfl] at e1;have a:=b.below g;have f:=Za d g d.size;obtain ⟨A,m,c,A',m',c',rfl,_,_⟩:=id e1.frac;have HF:=JZ e1.frac;have HO:=JZ a;have j:(List.replicate k (canF 0)).length+1≤1099511627776:=(by simp;omega);have l:=f.size;clear b a d g e1;go_wp2_with (at_builtin;refine YV rfl (.tmp 10) (.tmp 12) rfl w1 w.heap.size u3 (List.replicate k (canF 0)) rfl HO.out _ _ A A' m c m' c' (canF 0) HF.out rfl j l ?_);intro v' w2 h q o;go_wp2;go_roundw
   case rel=>exact ⟨k+1,by omega,by go_num,by rw [List.replicate_succ'];exact h,f.trans o⟩
   case measure=>simp [intOf];omega
  ·obtain rfl:k=n:=by omega
   go_wp2;go_ret;exact ⟨_,rfl,b,d⟩
namespace Pl
def RF.Rs (k:Nat) (f:RF):Prop:=(Zo (val f.num.ds)).length≤k∧(Zo (val f.den.ds)).length≤k
theorem RF.Rs.mono {j k:Nat} {f:RF} (h:f.Rs j) (hk:j≤k):f.Rs k:=⟨JW h.1 hk,JW h.2 hk⟩
theorem RF.Rs.sh {k:Nat} {f:RF} (h:f.Rs k) (hk:k≤34359738368):f.Sh:=h.mono hk
theorem RF.Rs.sm {k:Nat} {f:RF} (h:f.Rs k) (hk:k≤34359738368):f.Sm:=(h.sh hk).sm
theorem Sz.rs {k:Nat} {q:Rat} (h:Sz k q):(canF q).Rs k:=by
 unfold RF.Rs canF;simp only [YF];exact h
theorem RF.Rs.sz {k:Nat} {f:RF} (h:f.Rs k) (hk:1≤k):Sz k f.q:=V7 (by rw [Z5];exact h.1) (by rw [Z5];exact h.2) hk
def qAt (fs:List RF) (i:Nat):Rat:=match fs[i]? with | some f=>f.q | none=>0
theorem Yt {fs:List RF} {i:Nat} {f:RF} (h:fs[i]? =some f):qAt fs i=f.q:=by simp [qAt,h]
def ZZ (f:Nat→Rat):Nat→Rat
 | 0=>0
 | n+1=>ZZ f n+f n
theorem YS (f:Nat→Rat):ZZ f 0=0:=rfl
theorem ZH (f:Nat→Rat) (n:Nat):ZZ f (n+1)=ZZ f n+f n:=rfl
theorem Zn {f g:Nat→Rat} {n:Nat} (h:∀i,i < n→f i=g i):ZZ f n=ZZ g n:=by
 induction n with
 | zero=>rfl
 | succ n ih=>rw [ZH,ZH,ih (fun i hi=>h i (by omega)),h n (by omega)]
theorem Zph {f:Nat→Rat} {K n:Nat} (h:∀i,i < n→Sz K (f i)):Sz (1+n * (K+1)) (ZZ f n):=by
 induction n with
 | zero=>exact Sz_zero.mono (by omega)
 | succ n ih=>
  rw [ZH];exact (Yas (ih fun i hi=>h i (by omega)) (h n (by omega))).mono (by rw [Nat.add_mul n 1];omega)
def Ygu (xs ys:List RF) (n:Nat):Rat:=ZZ (fun i=>qAt xs i * qAt ys i) n
def RsL (k:Nat) (fs:List RF):Prop:=∀(i:Nat) (f:RF),fs[i]? =some f→f.Rs k
theorem RsL.qAt {k:Nat} {fs:List RF} (h:RsL k fs) (hk:1≤k) (i:Nat):Sz k (qAt fs i):=by
 unfold Pl.qAt;split
 ·rename_i f hf;exact (h i f hf).sz hk
 ·exact Sz_zero.mono hk
theorem ZW {q:Rat}:qs q=0↔q=0:=by
 unfold qs;rw [Vr];exact Rat.num_eq_zero
theorem Yi {fs:List RF} {i:Nat} (h:i < fs.length):∃f,fs[i]? =some f:=⟨fs[i],JQ h⟩
end Pl
theorem UR {w w':World} {b o:Nat} {x y z u:Value} (hb:Below w.heap.size w w') (h:w.cell? ⟨b,o,none⟩=some x∧w.cell? ⟨b,o+1,none⟩=some y∧w.cell? ⟨b,o+2,none⟩=some z∧w.cell? ⟨b,o+3,none⟩=some u):
 w'.cell? ⟨b,o,none⟩=some x∧w'.cell? ⟨b,o+1,none⟩=some y∧w'.cell? ⟨b,o+2,none⟩=some z∧w'.cell? ⟨b,o+3,none⟩=some u:=
 ⟨Zg hb h.1,Zg hb h.2.1,Zg hb h.2.2.1,Zg hb h.2.2.2⟩
theorem WA.elem [Old] {w wr:World} {A:Option Addr} {n c:Nat} {fs:List RF} (h:WA w (.slice A n c) fs) (hb:Below w.heap.size w wr) {k:Nat} {f:RF} (hf:fs[k]? =some f):
 ∃b off A1 n1 c1 A2 n2 c2,A=some ⟨b,off,none⟩∧b < w.heap.size∧(wr.cell? ⟨b,off+k * 4,none⟩=some (.bool f.num.neg)∧wr.cell? ⟨b,off+k * 4+1,none⟩=some (.slice A1 n1 c1)∧wr.cell? ⟨b,off+k * 4+2,none⟩=some (.bool f.den.neg)∧wr.cell? ⟨b,off+k * 4+3,none⟩=some (.slice A2 n2 c2))∧
  Zt wr (.agg #[.bool f.num.neg,.slice A1 n1 c1,.bool f.den.neg,.slice A2 n2 c2]) f:=by
 obtain ⟨b,off,x,y,z,u,hA,a,c1,c2,c3,c4,hm⟩:=h.at_ hf;obtain ⟨A1,n1,k1,A2,n2,k2,hv,d1,d2⟩:=id hm;simp at hv;obtain ⟨rfl,rfl,rfl,rfl⟩:=hv;exact ⟨b,off,A1,n1,k1,A2,n2,k2,hA,a,UR hb ⟨c1,c2,c3,c4⟩,hm.below hb⟩
section
namespace Pl
structure En where
 idx:Int
 f:RF
structure LPd where
 cost:List RF
 cols:List (List En)
 right:List RF
def leP (p:Option Int) (i:Int):Bool:=match p with | some j=>decide (i≤j) | none=>false
def UA (n:Int):List En→Option Int→Int
 | [],_=>0
 | e::es,p=>if e.idx < 0∨n≤e.idx then 5 else if leP p e.idx=true then 8 else if e.f.q=0 then 11 else UA n es (some e.idx)
def vecErr (es:List En) (n:Int):Int:=if n < 0∨4096 < n then 5 else UA n es none
def XM (es:List En) (k:Nat):Option Int:=match k with | 0=>none | k+1=>(es[k]?).map (·.idx)
theorem Zam {n:Int} {es:List En} {k:Nat} {e:En} (h:es[k]? =some e):
 UA n (es.drop k) (XM es k)=if e.idx < 0∨n≤e.idx then 5 else if leP (XM es k) e.idx=true then 8 else if e.f.q=0 then 11 else UA n (es.drop (k+1)) (XM es (k+1)):=by
 have hk:k < es.length:=(List.getElem?_eq_some_iff.1 h).1;have he:es[k]=e:=(List.getElem?_eq_some_iff.1 h).2;rw [List.drop_eq_getElem_cons hk,he,UA];rw [show XM es (k+1)=some e.idx from by simp [XM,h]]
theorem Zpi {n:Int} {es:List En} {k:Nat} (h:es.length≤k):UA n (es.drop k) (XM es k)=0:=by
 rw [List.drop_eq_nil_of_le h,UA]
def Xj (n:Int):List (List En)→Int
 | []=>0
 | c::cs=>if vecErr c n=0 then Xj n cs else vecErr c n
theorem Zcn {n:Int} {cs:List (List En)} {k:Nat} {c:List En} (h:cs[k]? =some c):Xj n (cs.drop k)=if vecErr c n=0 then Xj n (cs.drop (k+1)) else vecErr c n:=by
 have hk:k < cs.length:=(List.getElem?_eq_some_iff.1 h).1;have he:cs[k]=c:=(List.getElem?_eq_some_iff.1 h).2;rw [List.drop_eq_getElem_cons hk,he,Xj]
theorem Zdy {n:Int} {cs:List (List En)} {k:Nat} (h:cs.length≤k):Xj n (cs.drop k)=0:=by
 rw [List.drop_eq_nil_of_le h,Xj]
def lpErr (p:LPd):Int:=if 64 < p.right.length∨1200 < p.cols.length then 10 else if p.cost.length≠p.cols.length then 12 else Xj (p.right.length:Int) p.cols
theorem Zrn (n:Int) (p:Option Int) (es:List En):UA n es p=0∨UA n es p=5∨UA n es p=8∨UA n es p=11:=by
 induction es generalizing p with
 | nil=>left;rfl
 | cons e es ih=>
  rw [UA];split
  ·simp
  ·split
   ·simp
   ·split
    ·simp
    ·exact ih _
theorem Zkn (es:List En) (n:Int):0≤vecErr es n∧vecErr es n≤11:=by
 unfold vecErr;split
 ·omega
 ·rcases Zrn n none es with h | h | h | h <;> omega
end Pl
def EnC [Old] (w:World) (cs:List Value) (es:List En):Prop:=
 cs.length=es.length * 5∧∀k e,es[k]? =some e→∃x y z u,cs[k * 5]? =some (.int .i64 e.idx)∧cs[k * 5+1]? =some x∧cs[k * 5+2]? =some y∧cs[k * 5+3]? =some z∧cs[k * 5+4]? =some u∧Zt w (.agg #[x,y,z,u]) e.f
theorem EnC.keep [Old] {w w':World} {cs:List Value} {es:List En} (h:EnC w cs es) (hk:ZG w w'):EnC w' cs es:=
 ⟨h.1,fun k f hf=>by
  obtain ⟨x,y,z,u,h0,h1,h2,h3,h4,h5⟩:=h.2 k f hf
  exact ⟨x,y,z,u,h0,h1,h2,h3,h4,h5.keep hk⟩⟩
theorem EnC.nil [Old] (w:World):EnC w [] []:=⟨rfl,fun k f h=>by simp at h⟩
theorem EnC.snoc [Old] {w:World} {cs:List Value} {es:List En} (h:EnC w cs es) {x y z u:Value} {e:En} (hf:Zt w (.agg #[x,y,z,u]) e.f):EnC w (cs++[.int .i64 e.idx,x,y,z,u]) (es++[e]):=by
 refine ⟨by simp [h.1];omega,fun k g hg=>?_⟩;have hl:=h.1;rcases JX k es.length with hk | hk
 ·rw [List.getElem?_append_left hk] at hg;obtain ⟨x',y',z',u',h0,h1,h2,h3,h4,h5⟩:=h.2 k g hg;refine ⟨x',y',z',u',?_,?_,?_,?_,?_,h5⟩
  ·rw [List.getElem?_append_left (by omega)];exact h0
  ·rw [List.getElem?_append_left (by omega)];exact h1
  ·rw [List.getElem?_append_left (by omega)];exact h2
  ·rw [List.getElem?_append_left (by omega)];exact h3
  ·rw [List.getElem?_append_left (by omega)];exact h4
 ·rw [List.getElem?_append_right hk] at hg;have a:k - es.length=0:=by
   rcases JV (k - es.length) with e | e
   ·exact e
   ·rw [JU (by simp;omega)] at hg;cases hg
  rw [a] at hg;simp at hg;subst hg;obtain rfl:k=es.length:=by omega
  refine ⟨x,y,z,u,?_,?_,?_,?_,?_,hf⟩
  ·rw [List.getElem?_append_right (by omega),show es.length * 5 - cs.length=0 by omega];rfl
  ·rw [List.getElem?_append_right (by omega),show es.length * 5+1 - cs.length=1 by omega];rfl
  ·rw [List.getElem?_append_right (by omega),show es.length * 5+2 - cs.length=2 by omega];rfl
  ·rw [List.getElem?_append_right (by omega),show es.length * 5+3 - cs.length=3 by omega];rfl
  ·rw [List.getElem?_append_right (by omega),show es.length * 5+4 - cs.length=4 by omega];rfl
def Wp [Old] (w:World) (v:Value) (es:List En):Prop:=∃cs,Vv w 87 5 v es.length cs∧EnC w cs es
theorem Wp.below [Old] {w w':World} {v:Value} {es:List En} (h:Wp w v es) (hb:Below w.heap.size w w'):Wp w' v es:=by
 obtain ⟨cs,h1,h2⟩:=h;exact ⟨cs,h1.below hb,h2.keep (ZG.of_below hb)⟩
theorem Wp.but [Old] {w w':World} {e:TypeId} {v:Value} {es:List En} (h:Wp w v es) (hk:Ze e w w') (h1:87≠e) (h2:123≠e):Wp w' v es:=by
 obtain ⟨cs,g1,g2⟩:=h;exact ⟨cs,hk.row g1 h1,g2.keep (hk.keep h2)⟩
theorem WA.but [Old] {w w':World} {e:TypeId} {v:Value} {fs:List RF} (h:WA w v fs) (hk:Ze e w w') (h1:48≠e) (h2:123≠e):WA w' v fs:=by
 obtain ⟨cs,g1,g2⟩:=h;exact ⟨cs,hk.row g1 h1,g2.keep (hk.keep h2)⟩
theorem Yd.but [Old] {base:Nat} {w w':World} {e:TypeId} {v:Value} {fs:List RF} (h:Yd base w v fs) (hk:Ze e w w') (h1:48≠e) (h2:123≠e):Yd base w' v fs:=by
 obtain ⟨cs,g1,g2⟩:=h;exact ⟨cs,hk.own g1 h1,g2.keep (hk.keep h2)⟩
theorem Wp.shape [Old] {w:World} {v:Value} {es:List En} (h:Wp w v es):∃A c,v= .slice A es.length c∧es.length≤c∧c≤9223372036854775807:=by
 obtain ⟨cs,h1,h2⟩:=h;exact h1.shape
theorem Wp.elem [Old] {w wr:World} {A:Option Addr} {n c:Nat} {es:List En} (h:Wp w (.slice A n c) es) (hb:Below w.heap.size w wr) {k:Nat} {e:En} (he:es[k]? =some e):
 ∃b off A1 n1 c1 A2 n2 c2,A=some ⟨b,off,none⟩∧b < w.heap.size∧(wr.cell? ⟨b,off+k * 5,none⟩=some (.int .i64 e.idx)∧wr.cell? ⟨b,off+k * 5+1,none⟩=some (.bool e.f.num.neg)∧wr.cell? ⟨b,off+k * 5+2,none⟩=some (.slice A1 n1 c1)∧wr.cell? ⟨b,off+k * 5+3,none⟩=some (.bool e.f.den.neg)∧wr.cell? ⟨b,off+k * 5+4,none⟩=some (.slice A2 n2 c2))∧
  Zt wr (.agg #[.bool e.f.num.neg,.slice A1 n1 c1,.bool e.f.den.neg,.slice A2 n2 c2]) e.f:=by
 obtain ⟨cs,h1,h2⟩:=h;obtain ⟨x,y,z,u,c0,c1,c2,c3,c4,hm⟩:=h2.2 k e he;have hk:k < es.length:=(List.getElem?_eq_some_iff.1 he).1;have hn:=h1.len;subst hn;obtain ⟨b,off,hA,a,hc⟩:=h1.at_ (by omega);obtain ⟨A1,n1,k1,A2,n2,k2,hv,d1,d2⟩:=id hm;simp at hv;obtain ⟨rfl,rfl,rfl,rfl⟩:=hv;exact ⟨b,off,A1,n1,k1,A2,n2,k2,hA,a,⟨Zg hb (hc _ _ c0),Zg hb (hc _ _ c1),Zg hb (hc _ _ c2),Zg hb (hc _ _ c3),Zg hb (hc _ _ c4)⟩,hm.below hb⟩
def Xz [Old] (w:World) (v:Value) (cols:List (List En)):Prop:=∃cs,Vv w 72 1 v cols.length cs∧∀(k:Nat) (c:List En),cols[k]? =some c→∃u,cs[k]? =some u∧Wp w u c
theorem Xz.below [Old] {w w':World} {v:Value} {cols:List (List En)} (h:Xz w v cols) (hb:Below w.heap.size w w'):Xz w' v cols:=by
 obtain ⟨cs,h1,h2⟩:=h;exact ⟨cs,h1.below hb,fun k c hc=>by obtain ⟨u,g1,g2⟩:=h2 k c hc;exact ⟨u,g1,g2.below hb⟩⟩
theorem Xz.shape [Old] {w:World} {v:Value} {cols:List (List En)} (h:Xz w v cols):∃A c,v= .slice A cols.length c∧cols.length≤c∧c≤9223372036854775807:=by
 obtain ⟨cs,h1,h2⟩:=h;exact h1.shape
theorem Xz.elem [Old] {w wr:World} {A:Option Addr} {n c:Nat} {cols:List (List En)} (h:Xz w (.slice A n c) cols) (hb:Below w.heap.size w wr) {k:Nat} {es:List En} (he:cols[k]? =some es):
 ∃b off A1 c1,A=some ⟨b,off,none⟩∧b < w.heap.size∧wr.cell? ⟨b,off+k,none⟩=some (.slice A1 es.length c1)∧Wp wr (.slice A1 es.length c1) es:=by
 obtain ⟨cs,h1,h2⟩:=h;obtain ⟨u,hu,hv⟩:=h2 k es he;have hk:k < cols.length:=(List.getElem?_eq_some_iff.1 he).1;have hn:=h1.len;subst hn;obtain ⟨b,off,hA,a,hc⟩:=h1.at_ (by omega);obtain ⟨A1,c1,rfl,_,_⟩:=hv.shape;exact ⟨b,off,A1,c1,hA,a,Zg hb (hc _ _ hu),hv.below hb⟩
def LpM [Old] (w:World) (v:Value) (p:LPd):Prop:=
 ∃A n c A' n' c' A'' n'' c'',v= .agg #[.slice A n c,.slice A' n' c',.slice A'' n'' c'']∧WA w (.slice A n c) p.cost∧Xz w (.slice A' n' c') p.cols∧WA w (.slice A'' n'' c'') p.right
theorem LpM.below [Old] {w w':World} {v:Value} {p:LPd} (h:LpM w v p) (hb:Below w.heap.size w w'):LpM w' v p:=by
 obtain ⟨A,n,c,A',n',c',a,b,d,h1,h2,h3,h4⟩:=h;exact ⟨A,n,c,A',n',c',a,b,d,h1,h2.below hb,h3.below hb,h4.below hb⟩
theorem WA.len [Old] {w:World} {A:Option Addr} {n c:Nat} {fs:List RF} (h:WA w (.slice A n c) fs):n=fs.length∧n≤c∧c≤9223372036854775807:=by
 obtain ⟨A',c',e,h1,h2⟩:=h.shape;injection e with _ e2 e3;subst e2 e3;exact ⟨rfl,h1,h2⟩
theorem Wp.len [Old] {w:World} {A:Option Addr} {n c:Nat} {fs:List En} (h:Wp w (.slice A n c) fs):n=fs.length∧n≤c∧c≤9223372036854775807:=by
 obtain ⟨A',c',e,h1,h2⟩:=h.shape;injection e with _ e2 e3;subst e2 e3;exact ⟨rfl,h1,h2⟩
theorem Xz.len [Old] {w:World} {A:Option Addr} {n c:Nat} {fs:List (List En)} (h:Xz w (.slice A n c) fs):n=fs.length∧n≤c∧c≤9223372036854775807:=by
 obtain ⟨A',c',e,h1,h2⟩:=h.shape;injection e with _ e2 e3;subst e2 e3;exact ⟨rfl,h1,h2⟩
section
variable {w:World} {g:Nat} {t:TypeId} {a b c:Value}
theorem Bk.three (h:Bk w g t [a,b,c]):w.cell? ⟨g,0,none⟩=some a∧w.cell? ⟨g,1,none⟩=some b∧w.cell? ⟨g,2,none⟩=some c:=⟨h.cellAt 0 rfl,h.cellAt 1 rfl,h.cellAt 2 rfl⟩
theorem Bk.five {d e:Value} (h:Bk w g t [a,b,c,d,e]):w.cell? ⟨g,0,none⟩=some a∧w.cell? ⟨g,1,none⟩=some b∧w.cell? ⟨g,2,none⟩=some c∧w.cell? ⟨g,3,none⟩=some d∧w.cell? ⟨g,4,none⟩=some e:=⟨h.cellAt 0 rfl,h.cellAt 1 rfl,h.cellAt 2 rfl,h.cellAt 3 rfl,h.cellAt 4 rfl⟩
end
end
namespace Pl
theorem Ut {n:Int} {es:List En} {k:Nat} {e:En} (h:es[k]? =some e) (h2:e.idx < 0∨n≤e.idx):UA n (es.drop k) (XM es k)=5:=by rw [Zam h,if_pos h2]
theorem Zgd {n:Int} {es:List En} {k:Nat} {e p:En} (h:es[k+1]? =some e) (hp:es[k]? =some p) (h2:¬(e.idx < 0∨n≤e.idx)) (h3:e.idx≤p.idx):UA n (es.drop (k+1)) (XM es (k+1))=8:=by
 rw [Zam h,if_neg h2,if_pos (by simp [XM,hp,leP,h3])]
theorem Zan {n:Int} {es:List En} {k:Nat} {e:En} (h:es[k]? =some e) (h2:¬(e.idx < 0∨n≤e.idx)) (h3:leP (XM es k) e.idx=false) (h4:e.f.q=0):UA n (es.drop k) (XM es k)=11:=by
 rw [Zam h,if_neg h2,if_neg (by simp [h3]),if_pos h4]
theorem Zao {n:Int} {es:List En} {k:Nat} {e:En} (h:es[k]? =some e) (h2:¬(e.idx < 0∨n≤e.idx)) (h3:leP (XM es k) e.idx=false) (h4:e.f.q≠0):UA n (es.drop k) (XM es k)=UA n (es.drop (k+1)) (XM es (k+1)):=by
 rw [Zam h,if_neg h2,if_neg (by simp [h3]),if_neg h4]
theorem Zpj {es:List En} {k:Nat} {p:En} (hp:es[k]? =some p) {i:Int} (h:¬i≤p.idx):leP (XM es (k+1)) i=false:=by simp [XM,hp,leP];omega
theorem YJ {es:List En} {i:Nat} (h:i < es.length):∃f,es[i]? =some f:=⟨es[i],JQ h⟩
def EnI (es:List En):Prop:=∀(k:Nat) (e:En),es[k]? =some e→ -9223372036854775808≤e.idx∧e.idx≤9223372036854775807
end Pl
theorem Zro [Old] (v:Value) (es:List En) (n:Int) (w:World) (h:Wp w v es) (hs:∀(k:Nat) (e:En),es[k]? =some e→e.f.Sh) (hi:EnI es) (h0: -9223372036854775808≤n) (h1:n≤9223372036854775807) (hOl:Zb w:=by (repeat (first | assumption | exact Zb.up (by assumption) hOl | exact Zb.up (Hid.out (by assumption)) hOl | with_reducible refine Zb.set ?_ _ _ | with_reducible refine Zb.mk_ ?_ _ | with_reducible refine Zb.dr ?_ | with_reducible refine Zb.drN ?_ | refine Zb.up (by assumption) ?_ | refine Zb.up (Hid.out (by assumption)) ?_))):
 Calls Tryz.prog 73 #[v,.int .i64 n] w fun e w'=>e= .returned (.int .i64 (vecErr es n))∧Below w.heap.size w w':=by
 have J:=hOl.le;obtain ⟨A,c,rfl,M,N⟩:=h.shape;generalize hl:es.length=l at *;have HL:=JZ hl;have HS:=JZ hs;have HI:=JZ hi;clear hl hs hi;by_cases r:n < 0
 ·have HV:Hid (vecErr es n=5):=JZ (by unfold vecErr;rw [if_pos (.inl r)]);go_enter Tryz.func73,Tryz.ntmps73;go_wp2;go_ret;exact ⟨by rw [HV.out];rfl,JR _ _⟩
 ·by_cases s:4096 < n
  ·have HV:Hid (vecErr es n=5):=JZ (by unfold vecErr;rw [if_pos (.inr s)]);go_enter Tryz.func73,Tryz.ntmps73;go_wp2;go_ret;exact ⟨by rw [HV.out];rfl,JR _ _⟩
  ·have hv:vecErr es n=UA n (es.drop 0) (XM es 0):=by
    unfold vecErr;rw [if_neg (by omega)];rfl
   generalize vecErr es n=d at *;have HV:=JZ hv;clear hv;have C:decide (n < 0)=false:=(by simpa using r);have D:decide (4096 < n)=false:=(by simpa using s);clear r s;go_enter Tryz.func73,Tryz.ntmps73;go_wp2;clear C D
   go_loopw [5] (fun i wr=>∃k:Nat,k≤l∧i= .int .i64 k∧Below w.heap.size w wr∧d=UA n (es.drop k) (XM es k)) (fun i _=>l - (intOf i).toNat)
   case atStart=>exact ⟨0,by omega,rfl,JR _ _,HV.out⟩
   case round=>
    obtain ⟨k,hk,rfl,a,F⟩:=hrel;have HE:=JZ F;clear F HV;rcases JX k l with hkl | hkl
    ·obtain ⟨e,he⟩:=YJ (es:=es) (i:=k) (by rw [HL.out];exact hkl);obtain ⟨b,O,A1,n1,c1,A2,n2,c2,rfl,P,g,hm⟩:=h.elem a he;obtain ⟨x0,x1,x2,x3,x4⟩:=g;obtain ⟨i0,i1⟩:=HI.out k e he;have u:=HS.out k e he;by_cases t:e.idx < 0
     ·have HR:Hid (d=5):=JZ (HE.out.trans (Ut he (.inl t)));clear he;go_wp2;go_ret;exact ⟨by rw [HR.out];rfl,a⟩
     ·by_cases B:n≤e.idx
      ·have HR:Hid (d=5):=JZ (HE.out.trans (Ut he (.inr B)));clear he;go_wp2;go_ret;exact ⟨by rw [HR.out];rfl,a⟩
      ·have E:¬(e.idx < 0∨n≤e.idx):=(by omega);have o:=JZ E;have C:decide (e.idx < 0)=false:=(by simpa using t);have D:decide (n≤e.idx)=false:=(by simpa using B);clear E t B;by_cases x:k=0
       ·have HP:Hid (leP (XM es k) e.idx=false):=JZ (by rw [x];rfl);have hg:decide ((0:Int) < (k:Int))=false:=(by simp;omega);have G:decide (0 < k)=false:=(by simp;omega);clear x;by_cases hz:e.f.q=0
        ·have z:qs e.f.q=0:=ZW.2 hz;have HR:Hid (d=11):=JZ (HE.out.trans (Zan he o.out HP.out hz));clear he hz;go_wp2
         go_quiet (fail)
         go_wp2_with fail;refine (Xv _ e.f _ (hm.keep (ZG.drewN _ _)) u).mono ?_;rintro _ w2 ⟨rfl,m⟩;go_wp2;go_ret;exact ⟨by rw [HR.out];rfl,Za (below_drewN a _) m a.size⟩
        ·have z:(qs e.f.q==0)=false:=(by simpa using fun h=>hz (ZW.1 h));have HR:Hid (d=UA n (es.drop (k+1)) (XM es (k+1))):=JZ (HE.out.trans (Zao he o.out HP.out hz));clear he hz;go_wp2
         go_quiet (fail)
         go_wp2_with fail;refine (Xv _ e.f _ (hm.keep (ZG.drewN _ _)) u).mono ?_;rintro _ w2 ⟨rfl,m⟩;go_wp2;go_roundw
         case rel=>exact ⟨k+1,by omega,by go_num,Za (below_drewN a _) m a.size,HR.out⟩
         case measure=>simp [intOf];omega
       ·obtain ⟨j,hj⟩:∃j,k=j+1:=⟨k - 1,by omega⟩;have K:(k:Int) - 1=(j:Int):=(by omega);have hg:(0:Int) < (k:Int):=(by omega);have G:0 < k:=(by omega);have HJ:=JZ hj;obtain ⟨p,hp⟩:=YJ (es:=es) (i:=j) (by rw [HL.out];omega);obtain ⟨b2,I,B1,m1,d1,B2,m2,d2,hA,_,g,_⟩:=h.elem a hp;injection hA with hA;injection hA with hA1 hA2;subst hA1 hA2;obtain ⟨y0,_,_,_,_⟩:=g;obtain ⟨j0,j1⟩:=HI.out j p hp;have L:(j:Int) < l:=(by omega);by_cases y:e.idx≤p.idx
        ·have HR:Hid (d=8):=JZ (HE.out.trans (by rw [HJ.out] at he ⊢;exact Zgd he hp o.out y));clear he hp x hj;go_wp2
         go_quiet (fail)
         go_wp2;go_ret;exact ⟨by rw [HR.out];rfl,below_drewN a _⟩
        ·have HP:Hid (leP (XM es k) e.idx=false):=JZ (by rw [HJ.out];exact Zpj hp y);have H:decide (e.idx≤p.idx)=false:=(by simpa using y);clear hp x hj y;by_cases hz:e.f.q=0
         ·have z:qs e.f.q=0:=ZW.2 hz;have HR:Hid (d=11):=JZ (HE.out.trans (Zan he o.out HP.out hz));clear he hz;go_wp2
          go_quiet (fail)
          go_wp2_with fail;refine (Xv _ e.f _ (hm.keep (ZG.drewN _ _)) u).mono ?_;rintro _ w2 ⟨rfl,m⟩;go_wp2;go_ret;exact ⟨by rw [HR.out];rfl,Za (below_drewN a _) m a.size⟩
         ·have z:(qs e.f.q==0)=false:=(by simpa using fun h=>hz (ZW.1 h));have HR:Hid (d=UA n (es.drop (k+1)) (XM es (k+1))):=JZ (HE.out.trans (Zao he o.out HP.out hz));clear he hz;go_wp2
          go_quiet (fail)
          go_wp2_with fail;refine (Xv _ e.f _ (hm.keep (ZG.drewN _ _)) u).mono ?_;rintro _ w2 ⟨rfl,m⟩;go_wp2;go_roundw
          case rel=>exact ⟨k+1,by omega,by go_num,Za (below_drewN a _) m a.size,HR.out⟩
          case measure=>simp [intOf];omega
    ·have HR:Hid (d=0):=JZ (HE.out.trans (Zpi (by rw [HL.out];omega)));go_wp2;go_ret;exact ⟨by rw [HR.out];rfl,a⟩
section
section
variable {H:Type} {enc:TypeId × Value→H} {W:World} {sp:Nat→Bool} {held:Bool}
theorem V8 {α:Type} {Q:Nat→α→Prop}:∀(n:Nat),(∀k,k < n→∃a,Q k a)→∃l:List α,l.length=n∧∀k a,l[k]? =some a→Q k a
 | 0,_=>⟨[],rfl,fun k a h=>by simp at h⟩
 | n+1,h=>by
  obtain ⟨l,hl,hq⟩:=V8 n (fun k hk=>h k (by omega))
  obtain ⟨a,ha⟩:=h n (by omega)
  refine ⟨l++[a],by simp [hl],fun k b hb=>?_⟩
  rcases JX k n with hk | hk
  ·rw [List.getElem?_append_left (by omega)] at hb;exact hq k b hb
  ·rw [List.getElem?_append_right (by omega)] at hb
   have hk0:k - l.length=0:=by
    rcases JV (k - l.length) with e | e
    ·exact e
    ·rw [JU (by simp;omega)] at hb;cases hb
   rw [hk0] at hb;simp at hb;subst hb;obtain rfl:k=n:=by omega
   exact ha
theorem Ygh {l:List Value} (h:l.length=2):∃a b,l=[a,b]:=by
 match l,h with
 | [a,b],_=>exact ⟨a,b,rfl⟩
theorem Ygi {l:List Value} (h:l.length=3):∃a b c,l=[a,b,c]:=by
 match l,h with
 | [a,b,c],_=>exact ⟨a,b,c,rfl⟩
theorem Ygj {l:List Value} (h:l.length=4):∃a b c d,l=[a,b,c,d]:=by
 match l,h with
 | [a,b,c,d],_=>exact ⟨a,b,c,d,rfl⟩
theorem Ygk {l:List Value} (h:l.length=5):∃a b c d e,l=[a,b,c,d,e]:=by
 match l,h with
 | [a,b,c,d,e],_=>exact ⟨a,b,c,d,e,rfl⟩
theorem open_row [Old] {t e:TypeId} (ty:TypeId) {s fuel:Nat} {cs:List Value} {x:DataW H × List MemPlace} (ht:Tryz.prog.underlying t=some (.slice e)) (hc:Tryz.prog.cellsOf e=s) (hs:0 < s) (hO:W.heap.size≤Old.n)
 (h:DataW.trod enc Tryz.prog W 0 sp held fuel t cs=some x):
 ∃A n c xs,cs=[.slice A n c]∧Vv W ty s (.slice A n c) n xs∧∀k,k < n→∃m y,DataW.trod enc Tryz.prog W 0 sp held m e ((xs.drop (k * s)).take s)=some y:=by
 rcases DataW.trod_slice ht h with ⟨h0,_⟩ | ⟨a,len,cap,elems,rest,m,_,rfl,_,_,hl,hm,hlen,hel,_,_⟩
 ·exact ⟨none,0,0,[],h0,Vv.nil _ _ _ _ _ (Nat.zero_le _),fun k hk=>by omega⟩
 ·rw [hc] at hel;rcases JV len with hz | hp
  ·subst hz;exact ⟨some a,0,cap,[],rfl,Vv.nil _ _ _ _ _ hm,fun k hk=>by omega⟩
  have g:∀k,k < len→∃ks,ks.length=s∧(∀i,i < s→W.cell? ((a.add (k * s)).add i)=ks[i]?)∧∃y,DataW.trod enc Tryz.prog W 0 sp held m e ks=some y:=by
   intro k hk;have h1:elems[k]? =some (elems[k]'(by omega)):=JQ _;have h2:=hel k hk;rw [h1,Option.bind_eq_some_iff] at h2;obtain ⟨ks,h3,h4⟩:=h2;obtain ⟨_,h5,h6⟩:=World.cells?_some h3;exact ⟨ks,h5,h6,_,h4⟩
  obtain ⟨b,d,v⟩:=a;have o:v=none:=by
   obtain ⟨ks,h1,h2,_⟩:=g 0 hp;have h3:=h2 0 hs;rw [Nat.zero_mul,show (ks[0]? :Option Value)=some (ks[0]'(by omega)) from JQ _] at h3;have:=World.cell?_spot h3;simpa [Addr.add] using this
  subst o;have cell:∀k i,k < len→i < s→∃u,W.cell? ⟨b,d+(k * s+i),none⟩=some u:=by
   intro k i hk hi;obtain ⟨ks,h1,h2,_⟩:=g k hk;have h3:=h2 i hi;rw [Go.WideShapes.add_plain,Go.WideShapes.add_plain,show (ks[i]? :Option Value)=some (ks[i]'(by omega)) from JQ _] at h3;exact ⟨_,by rw [← Nat.add_assoc];exact h3⟩
  obtain ⟨f,tt,fz,hb⟩:∃f tt fz,W.heap[b]? =some (.cells f tt fz):=by
   obtain ⟨u,hu⟩:=cell 0 0 hp hs;unfold World.cell? at hu;split at hu
   ·rename_i c t' f' hh
    exact ⟨_,_,_,hh⟩
   ·cases hu
  have l:∀j,W.cell? ⟨b,d+j,none⟩=f[d+j]? :=fun j=>cell_of_row W b (d+j) f tt fz hb
  have z:d+len * s≤f.size:=by
   obtain ⟨u,hu⟩:=cell (len - 1) (s - 1) (by omega) (by omega);rw [l] at hu;have h1:=(Array.getElem?_eq_some_iff.1 hu).1;have h2:(len - 1) * s+s=len * s:=by
    obtain ⟨q,rfl⟩:∃q,len=q+1:=⟨len - 1,by omega⟩;simp [Nat.add_mul]
   omega
  have p:((f.toList.drop d).take (len * s)).length=len * s:=by
   rw [List.length_take,List.length_drop,Array.length_toList];omega
  have r:∀j,j < len * s→((f.toList.drop d).take (len * s))[j]? =f[d+j]? :=by
   intro j hj;rw [List.getElem?_take,if_pos hj,List.getElem?_drop,Array.getElem?_toList]
  refine ⟨some ⟨b,d,none⟩,len,cap,(f.toList.drop d).take (len * s),rfl,⟨_,cap,rfl,p,hl,hm,fun _=>⟨b,d,f,tt,fz,rfl,.inr (Nat.lt_of_lt_of_le (Yo hb) hO),hb,fun j u hj=>?_⟩⟩,fun k hk=>?_⟩
  ·have h1:=(List.getElem?_eq_some_iff.1 hj).1;rw [p] at h1;rw [← r j h1];exact hj
  ·obtain ⟨ks,h1,h2,y,h3⟩:=g k hk;refine ⟨m,y,?_⟩;have B:k * s+s≤len * s:=by
    have h4:(k+1) * s≤len * s:=JS s (by omega);rw [Nat.add_mul,Nat.one_mul] at h4;exact h4
   have e:(((f.toList.drop d).take (len * s)).drop (k * s)).take s=ks:=by
    apply List.ext_getElem?;intro i;rcases JX i s with hi | hi
    ·rw [List.getElem?_take,if_pos hi,List.getElem?_drop,r _ (by omega),← l,← h2 i hi,Go.WideShapes.add_plain,Go.WideShapes.add_plain,Nat.add_assoc]
    ·rw [JU (by rw [List.length_take];omega),JU (by omega)]
   rw [e];exact h3
theorem Zur [Old] {fuel:Nat} {cs:List Value} {x:DataW H × List MemPlace} (hO:W.heap.size≤Old.n)
 (h:DataW.trod enc Tryz.prog W 0 sp held fuel 44 cs=some x):∃A n c ds,cs=[.slice A n c]∧ZQ W (.slice A n c) ds:=by
 obtain ⟨A,n,c,xs,g,hr,i⟩:=open_row 123 Tryz.underlying44 (s:=1) (by kernel_rfl) (by omega) hO h;obtain ⟨A',c',hv,q,hn,hm,e⟩:=hr;have a:∀k,k < n→∃d:Nat,d < 4294967296∧xs[k]? =some (uc d):=by
  intro k hk;obtain ⟨m,y,hy⟩:=i k hk;obtain ⟨z,hz,_,hw⟩:=DataW.trod_int Tryz.underlying123 hy;have f:xs[k]? =some (.int .u32 z):=by
   have h0:((xs.drop (k * 1)).take 1)[0]? =some (.int .u32 z):=(by rw [hz];rfl);rw [List.getElem?_take,if_pos (by omega),List.getElem?_drop] at h0;simpa using h0
  have hb:0≤z∧z≤4294967295:=by
   simp [Lit.wf,IntKind.min,IntKind.max,IntKind.signed,IntKind.bits] at hw;omega
  exact ⟨z.toNat,by omega,by rw [f];unfold uc;rw [Int.toNat_of_nonneg hb.1]⟩
 obtain ⟨ds,j,hd⟩:=V8 n a;subst j;injection hv with e1 _ e3;subst e1 e3;refine ⟨A,ds.length,c,ds,g,A,c,rfl,hn,hm,fun d hdm=>?_,fun hp=>?_⟩
 ·obtain ⟨k,hk⟩:=List.getElem?_of_mem hdm;exact (hd k d hk).1
 ·obtain ⟨b,l,o,t',fz,hA,p,hb,hx⟩:=e hp;exact ⟨b,l,o,t',fz,hA,p,hb,fun k d hk=>hx k _ (hd k d hk).2⟩
theorem Zko [Old] {fuel:Nat} {cs:List Value} {x:DataW H × List MemPlace} (hO:W.heap.size≤Old.n)
 (h:DataW.trod enc Tryz.prog W 0 sp held fuel 46 cs=some x):∃b A n c ds,cs=[.bool b,.slice A n c]∧ZQ W (.slice A n c) ds:=by
 obtain ⟨xs,n,_,_,a,d,hf⟩:=DataW.trod_struct Tryz.underlying46 h;rw [show Tryz.prog.cellsOf 46=2 by kernel_rfl] at a;have e:xs.length=2:=d;obtain ⟨u,v,rfl⟩:=Ygh a;have f0:=hf 0 _ rfl;have f1:=hf 1 _ rfl;rw [show (xs[0]? :Option _)=some (xs[0]'(by omega)) from JQ _] at f0;rw [show (xs[1]? :Option _)=some (xs[1]'(by omega)) from JQ _] at f1;obtain ⟨b,hb,_⟩:=DataW.trod_bool Tryz.underlying4 f0;obtain ⟨A,m,c,ds,hs,hd⟩:=Zur hO f1;have e0:[u]=[Value.bool b]:=hb;have e1:[v]=[Value.slice A m c]:=hs;injection e0 with e0 _;injection e1 with e1 _;subst e0 e1;exact ⟨b,A,m,c,ds,rfl,hd⟩
theorem Zkp [Old] {fuel:Nat} {cs:List Value} {x:DataW H × List MemPlace} (hO:W.heap.size≤Old.n)
 (h:DataW.trod enc Tryz.prog W 0 sp held fuel 48 cs=some x):∃f A n c A' n' c',cs=[.bool f.num.neg,.slice A n c,.bool f.den.neg,.slice A' n' c']∧Zt W (.agg #[.bool f.num.neg,.slice A n c,.bool f.den.neg,.slice A' n' c']) f:=by
 obtain ⟨xs,n,_,_,a,d,hf⟩:=DataW.trod_struct Tryz.underlying48 h;rw [show Tryz.prog.cellsOf 48=4 by kernel_rfl] at a;have j:xs.length=2:=d;obtain ⟨u,v,u',v',rfl⟩:=Ygj a;have f0:=hf 0 _ rfl;have f1:=hf 1 _ rfl;rw [show (xs[0]? :Option _)=some (xs[0]'(by omega)) from JQ _] at f0;rw [show (xs[1]? :Option _)=some (xs[1]'(by omega)) from JQ _] at f1;obtain ⟨b,A,m,c,ds,hs,hd⟩:=Zko hO f0;obtain ⟨b',A',m',c',e,g,i⟩:=Zko hO f1;have e0:[u,v]=[Value.bool b,Value.slice A m c]:=hs;have e1:[u',v']=[Value.bool b',Value.slice A' m' c']:=g;injection e0 with e0 e2;injection e2 with e2 _;injection e1 with e1 e3;injection e3 with e3 _;subst e0 e1 e2 e3;exact ⟨⟨⟨b,ds⟩,⟨b',e⟩⟩,A,m,c,A',m',c',rfl,A,m,c,A',m',c',rfl,hd,i⟩
theorem Yev {l:List Value} {j:Nat} {x y z u:Value} (h:(l.drop j).take 4=[x,y,z,u]):l[j]? =some x∧l[j+1]? =some y∧l[j+2]? =some z∧l[j+3]? =some u:=by
 have g:∀i,i < 4→l[j+i]? =[x,y,z,u][i]? :=fun i hi=>by rw [← h,List.getElem?_take,if_pos hi,List.getElem?_drop]
 exact ⟨g 0 (by omega),g 1 (by omega),g 2 (by omega),g 3 (by omega)⟩
theorem cells5 {l:List Value} {j:Nat} {v x y z u:Value} (h:(l.drop j).take 5=[v,x,y,z,u]):l[j]? =some v∧l[j+1]? =some x∧l[j+2]? =some y∧l[j+3]? =some z∧l[j+4]? =some u:=by
 have g:∀i,i < 5→l[j+i]? =[v,x,y,z,u][i]? :=fun i hi=>by rw [← h,List.getElem?_take,if_pos hi,List.getElem?_drop]
 exact ⟨g 0 (by omega),g 1 (by omega),g 2 (by omega),g 3 (by omega),g 4 (by omega)⟩
theorem Zpk [Old] {fuel:Nat} {cs:List Value} {x:DataW H × List MemPlace} (hO:W.heap.size≤Old.n)
 (h:DataW.trod enc Tryz.prog W 0 sp held fuel 23 cs=some x):∃A n c fs,cs=[.slice A n c]∧WA W (.slice A n c) fs:=by
 obtain ⟨A,n,c,xs,e,hr,g⟩:=open_row 48 Tryz.underlying23 (s:=4) (by kernel_rfl) (by omega) hO h;have a:∀k,k < n→∃f:RF,∃x y z u,xs[k * 4]? =some x∧xs[k * 4+1]? =some y∧xs[k * 4+2]? =some z∧xs[k * 4+3]? =some u∧Zt W (.agg #[x,y,z,u]) f:=by
  intro k hk;obtain ⟨m,y,hy⟩:=g k hk;obtain ⟨f,B,q,d,B',q',d',b,hf⟩:=Zkp hO hy;obtain ⟨c0,c1,c2,c3⟩:=Yev b;exact ⟨f,_,_,_,_,c0,c1,c2,c3,hf⟩
 obtain ⟨fs,i,hf⟩:=V8 n a;subst i;have hl:xs.length=fs.length * 4:=by obtain ⟨_,_,_,hl,_⟩:=hr;exact hl
 exact ⟨A,fs.length,c,fs,e,xs,hr,hl,hf⟩
theorem Zrp [Old] {fuel:Nat} {cs:List Value} {x:DataW H × List MemPlace} (hO:W.heap.size≤Old.n)
 (h:DataW.trod enc Tryz.prog W 0 sp held fuel 87 cs=some x):∃e:En,∃x y z u,cs=[.int .i64 e.idx,x,y,z,u]∧Zt W (.agg #[x,y,z,u]) e.f∧ -9223372036854775808≤e.idx∧e.idx≤9223372036854775807:=by
 obtain ⟨xs,n,_,_,a,b,hf⟩:=DataW.trod_struct Tryz.underlying87 h;rw [show Tryz.prog.cellsOf 87=5 by kernel_rfl] at a;have g:xs.length=2:=b;obtain ⟨u,v,u',v',d,rfl⟩:=Ygk a;have f0:=hf 0 _ rfl;have f1:=hf 1 _ rfl;rw [show (xs[0]? :Option _)=some (xs[0]'(by omega)) from JQ _] at f0;rw [show (xs[1]? :Option _)=some (xs[1]'(by omega)) from JQ _] at f1;obtain ⟨i,hi,_,hw⟩:=DataW.trod_int Tryz.underlying3 f0;obtain ⟨f,A,m,c,A',m',c',hs,hd⟩:=Zkp hO f1;have e0:[u]=[Value.int .i64 i]:=hi;have e1:[v,u',v',d]=[Value.bool f.num.neg,Value.slice A m c,Value.bool f.den.neg,Value.slice A' m' c']:=hs;injection e0 with e0 _;subst e0;have hb:=bounds_i64 hw;simp only [List.cons.injEq,and_true] at e1;obtain ⟨rfl,rfl,rfl,rfl⟩:=e1;exact ⟨⟨i,f⟩,_,_,_,_,rfl,hd,hb.1,hb.2⟩
theorem Zyp [Old] {fuel:Nat} {t:TypeId} {cs:List Value} {x:DataW H × List MemPlace} (ht:Tryz.prog.underlying t=some (.slice 87)) (hO:W.heap.size≤Old.n)
 (h:DataW.trod enc Tryz.prog W 0 sp held fuel t cs=some x):∃A n c es,cs=[.slice A n c]∧Wp W (.slice A n c) es∧EnI es:=by
 obtain ⟨A,n,c,xs,g,hr,i⟩:=open_row 87 ht (s:=5) (by kernel_rfl) (by omega) hO h;have a:∀k,k < n→∃e:En,(∃x y z u,xs[k * 5]? =some (.int .i64 e.idx)∧xs[k * 5+1]? =some x∧xs[k * 5+2]? =some y∧xs[k * 5+3]? =some z∧xs[k * 5+4]? =some u∧Zt W (.agg #[x,y,z,u]) e.f)∧ -9223372036854775808≤e.idx∧e.idx≤9223372036854775807:=by
  intro k hk;obtain ⟨m,y,hy⟩:=i k hk;obtain ⟨e,x1,x2,x3,x4,b,hf,hb⟩:=Zrp hO hy;obtain ⟨c0,c1,c2,c3,c4⟩:=cells5 b;exact ⟨e,⟨_,_,_,_,c0,c1,c2,c3,c4,hf⟩,hb⟩
 obtain ⟨es,d,he⟩:=V8 n a;subst d;have hl:xs.length=es.length * 5:=by obtain ⟨_,_,_,hl,_⟩:=hr;exact hl
 exact ⟨A,es.length,c,es,g,⟨xs,hr,hl,fun k e hk=>(he k e hk).1⟩,fun k e hk=>(he k e hk).2⟩
theorem Zus [Old] {fuel:Nat} {cs:List Value} {x:DataW H × List MemPlace} (hO:W.heap.size≤Old.n)
 (h:DataW.trod enc Tryz.prog W 0 sp held fuel 24 cs=some x):∃A n c cols,cs=[.slice A n c]∧Xz W (.slice A n c) cols∧∀(j:Nat) (es:List En),cols[j]? =some es→EnI es:=by
 obtain ⟨A,n,c,xs,g,hr,i⟩:=open_row 72 Tryz.underlying24 (s:=1) (by kernel_rfl) (by omega) hO h;have a:∀k,k < n→∃es:List En,(∃u,xs[k]? =some u∧Wp W u es)∧EnI es:=by
  intro k hk;obtain ⟨m,y,hy⟩:=i k hk;obtain ⟨B,q,d,es,b,hf,hb⟩:=Zyp Tryz.underlying72 hO hy;refine ⟨es,⟨_,?_,hf⟩,hb⟩;have h0:((xs.drop (k * 1)).take 1)[0]? =some (.slice B q d):=by rw [b];rfl
  rw [List.getElem?_take,if_pos (by omega),List.getElem?_drop] at h0;simpa using h0
 obtain ⟨cols,l,f⟩:=V8 n a;subst l;exact ⟨A,cols.length,c,cols,g,⟨xs,hr,fun k e hk=>(f k e hk).1⟩,fun k e hk=>(f k e hk).2⟩
theorem Ycl [Old] {fuel:Nat} {cs:List Value} {x:DataW H × List MemPlace} (hO:W.heap.size≤Old.n)
 (h:DataW.trod enc Tryz.prog W 0 sp held fuel 26 cs=some x):∃u v y p,cs=[u,v,y]∧LpM W (.agg #[u,v,y]) p∧∀(j:Nat) (es:List En),p.cols[j]? =some es→EnI es:=by
 obtain ⟨xs,n,_,_,a,i,hf⟩:=DataW.trod_struct Tryz.underlying26 h;rw [show Tryz.prog.cellsOf 26=3 by kernel_rfl] at a;have o:xs.length=3:=i;obtain ⟨u,v,y,rfl⟩:=Ygi a;have f0:=hf 0 _ rfl;have f1:=hf 1 _ rfl;have f2:=hf 2 _ rfl;rw [show (xs[0]? :Option _)=some (xs[0]'(by omega)) from JQ _] at f0;rw [show (xs[1]? :Option _)=some (xs[1]'(by omega)) from JQ _] at f1;rw [show (xs[2]? :Option _)=some (xs[2]'(by omega)) from JQ _] at f2;obtain ⟨A,m,c,fs,hs,hd⟩:=Zpk hO f0;obtain ⟨A',m',c',cols,k,l,hi⟩:=Zus hO f1;obtain ⟨b,d,e,gs,f,g⟩:=Zpk hO f2;have e0:[u]=[Value.slice A m c]:=hs;have e1:[v]=[Value.slice A' m' c']:=k;have e2:[y]=[Value.slice b d e]:=f;injection e0 with e0 _;injection e1 with e1 _;injection e2 with e2 _;subst e0 e1 e2;exact ⟨_,_,_,⟨fs,cols,gs⟩,rfl,⟨A,m,c,A',m',c',b,d,e,rfl,hd,l,g⟩,hi⟩
end
end
end Go.Proofs.YtncmobkhenfhpaaGreat
