/- Lemmas of the claim; no condition. -/
import Derived.Test.YtidgdpkcloaheaaGreatQ12
set_option linter.all false
set_option maxRecDepth 100000
set_option maxHeartbeats 40000000
namespace Go.Proofs.YtidgdpkcloaheaaGreat
open Go.RowKit
open Pl
attribute [local go_sem ↓] Go.wp_at_zero Go.wp_at_succ
theorem Zhw {O xs ys:List Nat} {k:Nat} {z:Int} (hO:O.length=k) (hz:0≤z) (hx:xs.length+1≤k) (hy:ys.length+1≤k) (okx:okD xs) (oky:okD ys)
 (h:(vt O k:Int)+z * ((B32^k:Nat):Int)=vt xs k+vt ys k):val O=val xs+val ys:=by
 rw [YZ (by omega),YZ (show xs.length≤k by omega),YZ (show ys.length≤k by omega)] at h;obtain ⟨j,rfl⟩:∃j,k=j+1:=⟨k - 1,by omega⟩;have a1:=Nat.lt_of_lt_of_le (U4 okx) (Nat.pow_le_pow_right B32_pos (show xs.length≤j by omega));have a2:=Nat.lt_of_lt_of_le (U4 oky) (Nat.pow_le_pow_right B32_pos (show ys.length≤j by omega));rw [Nat.pow_succ] at h;generalize B32^j=p at *;rcases Int.lt_or_eq_of_le hz with h1 | h1
 ·have:1 * ((p * B32:Nat):Int)≤z * ((p * B32:Nat):Int):=Int.mul_le_mul_of_nonneg_right (by omega) (by omega);unfold B32 at *;omega
 ·subst h1;omega
theorem Zbk [Old] (v1 v2:Value) (xs ys:List Nat) (w:World) (h1:ZC w v1 xs) (h2:ZC w v2 ys) (hx:xs.length≤549755813888) (hy:ys.length≤549755813888) (hOl:Zb w:=by (repeat (first | assumption | exact Zb.up (by assumption) hOl | exact Zb.up (Hid.out (by assumption)) hOl | with_reducible refine Zb.set ?_ _ _ | with_reducible refine Zb.mk_ ?_ _ | with_reducible refine Zb.dr ?_ | with_reducible refine Zb.drN ?_ | refine Zb.up (by assumption) ?_ | refine Zb.up (Hid.out (by assumption)) ?_))):
 Calls Tryz.prog 112 #[v1,v2] w fun e w'=>∃v',e= .returned v'∧ZC w' v' (Zi (val xs+val ys))∧Below w.heap.size w w':=by
 have p:=hOl.le;obtain ⟨A,l,c,rfl⟩:=h1.shape;obtain ⟨hl,j,q,hc⟩:=h1.len;obtain ⟨A2,l2,c2,rfl⟩:=h2.shape;obtain ⟨kl,m,r,kc⟩:=h2.len;rcases JX l l2 with hll | hll
 ·have b:=Yw (l2+1) (by omega)
  push_cast at b
  have HX:Hid (xs.length≤l2):=JZ (by omega);have HY:Hid (ys.length≤l2):=JZ (by omega);have n:(l2:Int)≤549755813888:=by omega
  have d:=h1.ok;have f:=h2.ok;clear hl j kl m hx hy;go_enter Tryz.func112,Tryz.ntmps112;go_wp2;clear b
  go_loopw [7,8] (fun cy i wr=>∃(k:Nat) (O:List Nat) (z:Int),k≤l2+1∧i= .int .i64 k∧cy= .int .u64 z∧0≤z∧z≤1∧l2+1≤O.length∧O.length≤l2+1∧Yv wr w.heap.size O∧okD O∧Below w.heap.size w wr∧
   (vt O k:Int)+z * ((B32^k:Nat):Int)=vt xs k+vt ys k) (fun _ i _=>l2+1 - (intOf i).toNat)
  case atStart=>exact ⟨0,List.replicate (l2+1) 0,0,by omega,rfl,rfl,by omega,by omega,by simp,by simp,Yv.zeros w _,Zy _,(JR _ _).alloc (JY _) _,by simp [YE]⟩
  case round=>
   obtain ⟨k,O,z,hk,rfl,rfl,z0,z1,hO,g,hB,ok,a,h⟩:=hrel;have HE:=JZ h;clear h;rcases JX k (l2+1) with hkl | hkl
   ·have x0:=Zl xs k;have x1:=Z4 d k;have y0:=Zl ys k;have y1:=Z4 f k;go_wp2_with fail;refine (Xe _ xs k _ (h1.below a) (by omega)).mono ?_;rintro e w1 ⟨rfl,rfl⟩;go_wp2_with fail;refine (Xe _ ys k _ (h2.below a) (by omega)).mono ?_;rintro e w1 ⟨rfl,rfl⟩;have ho:=hB.cell (k:=k) (by omega);have hf:=hB.frozen k;go_wp2;go_roundw
    case rel=>exact ⟨k+1,O.set k ((z+di xs k+di ys k) % 4294967296).toNat,_,by omega,by go_num,rfl,by omega,by omega,by simpa using hO,by simpa using g,hB.setI k (by omega),ZA ok k (by unfold B32;omega),a.setCell (JY _) _,Wd (by omega) z0 rfl HE.out⟩
    case measure=>simp [intOf];omega
   ·obtain rfl:k=l2+1:=by omega
    have o:decide (((l2:Int)+1) < (l2:Int)+1)=false:=(by simp);go_wp2_with fail;refine (Yy _ O _ ?_).mono ?_
    ·have:=hB.dig ok (c:=l2+1) g (by unfold maxLen;omega)
     rwa [show O.length=l2+1 from by omega] at this
    rintro e w1 ⟨v',rfl,hv,rfl⟩;go_wp2_with fail;go_ret;refine ⟨_,rfl,?_,a⟩
    rwa [Zhw (show O.length=l2+1 by omega) z0 (by have:=HX.out;omega) (by have:=HY.out;omega) d f HE.out] at hv
 ·have b:=Yw (l+1) (by omega)
  push_cast at b
  have HX:Hid (xs.length≤l):=JZ (by omega);have HY:Hid (ys.length≤l):=JZ (by omega);have n:(l:Int)≤549755813888:=by omega
  have d:=h1.ok;have f:=h2.ok;clear hl j kl m hx hy;go_enter Tryz.func112,Tryz.ntmps112;go_wp2;clear b
  go_loopw [7,8] (fun cy i wr=>∃(k:Nat) (O:List Nat) (z:Int),k≤l+1∧i= .int .i64 k∧cy= .int .u64 z∧0≤z∧z≤1∧l+1≤O.length∧O.length≤l+1∧Yv wr w.heap.size O∧okD O∧Below w.heap.size w wr∧
   (vt O k:Int)+z * ((B32^k:Nat):Int)=vt xs k+vt ys k) (fun _ i _=>l+1 - (intOf i).toNat)
  case atStart=>exact ⟨0,List.replicate (l+1) 0,0,by omega,rfl,rfl,by omega,by omega,by simp,by simp,Yv.zeros w _,Zy _,(JR _ _).alloc (JY _) _,by simp [YE]⟩
  case round=>
   obtain ⟨k,O,z,hk,rfl,rfl,z0,z1,hO,g,hB,ok,a,h⟩:=hrel;have HE:=JZ h;clear h;rcases JX k (l+1) with hkl | hkl
   ·have x0:=Zl xs k;have x1:=Z4 d k;have y0:=Zl ys k;have y1:=Z4 f k;go_wp2_with fail;refine (Xe _ xs k _ (h1.below a) (by omega)).mono ?_;rintro e w1 ⟨rfl,rfl⟩;go_wp2_with fail;refine (Xe _ ys k _ (h2.below a) (by omega)).mono ?_;rintro e w1 ⟨rfl,rfl⟩;have ho:=hB.cell (k:=k) (by omega);have hf:=hB.frozen k;go_wp2;go_roundw
    case rel=>exact ⟨k+1,O.set k ((z+di xs k+di ys k) % 4294967296).toNat,_,by omega,by go_num,rfl,by omega,by omega,by simpa using hO,by simpa using g,hB.setI k (by omega),ZA ok k (by unfold B32;omega),a.setCell (JY _) _,Wd (by omega) z0 rfl HE.out⟩
    case measure=>simp [intOf];omega
   ·obtain rfl:k=l+1:=by omega
    have o:decide (((l:Int)+1) < (l:Int)+1)=false:=(by simp);go_wp2_with fail;refine (Yy _ O _ ?_).mono ?_
    ·have:=hB.dig ok (c:=l+1) g (by unfold maxLen;omega)
     rwa [show O.length=l+1 from by omega] at this
    rintro e w1 ⟨v',rfl,hv,rfl⟩;go_wp2_with fail;go_ret;refine ⟨_,rfl,?_,a⟩
    rwa [Zhw (show O.length=l+1 by omega) z0 (by have:=HX.out;omega) (by have:=HY.out;omega) d f HE.out] at hv
theorem Wm [Old] (v1 v2:Value) (a b:RI) (w:World) (h1:ZT w v1 a) (h2:ZT w v2 b) (hs:a.ds.length+b.ds.length≤549755813888) (hOl:Zb w:=by (repeat (first | assumption | exact Zb.up (by assumption) hOl | exact Zb.up (Hid.out (by assumption)) hOl | with_reducible refine Zb.set ?_ _ _ | with_reducible refine Zb.mk_ ?_ _ | with_reducible refine Zb.dr ?_ | with_reducible refine Zb.drN ?_ | refine Zb.up (by assumption) ?_ | refine Zb.up (Hid.out (by assumption)) ?_))):
 Calls Tryz.prog 85 #[v1,v2] w fun e w'=>∃v',e= .returned v'∧ZT w' v' (canI (a.z * b.z))∧Below w.heap.size w w':=by
 have l:=hOl.le;obtain ⟨A,n,c,rfl,hd⟩:=h1.shape;obtain ⟨A',n',c',rfl,i⟩:=h2.shape;obtain ⟨W,hW,hX,hY,hR,g⟩:=Zrp w (.bool a.neg) (.slice A n c) (.bool b.neg) (.slice A' n' c');have d1:=hd.below g;have d2:=i.below g;have h:(Zi (val a.ds * val b.ds)).length≤549755813888:=by
  have q1:=YW hd.ok;have q2:=YW i.ok;exact JW (YO _ _) (by omega)
 go_enter Tryz.func85,Tryz.ntmps85;go_wp2_with fail;clear hW;have j:w.heap.size≠w.heap.size+1+1:=by omega
 have k:w.heap.size+1≠w.heap.size+1+1:=by omega
 go_region_held3 (fun w'=>(w'.cell? ⟨w.heap.size,0,none⟩=some (.bool a.neg)∧w'.cell? ⟨w.heap.size,1,none⟩=some (.slice A n c))∧(w'.cell? ⟨w.heap.size+1,0,none⟩=some (.bool b.neg)∧w'.cell? ⟨w.heap.size+1,1,none⟩=some (.slice A' n' c')))
  (first | with_reducible exact ⟨hX.drew.pair,hY.drew.pair⟩ | with_reducible exact ⟨(hX.drew.later d).pair,(hY.drew.later d).pair⟩ | with_reducible exact ⟨((hX.drew.later d).later f).pair,((hY.drew.later d).later f).pair⟩ | with_reducible exact ⟨((hX.drew.later d).later f).two_far j _ _,((hY.drew.later d).later f).two_far k _ _⟩)
  (first
   | (go_at_call 109;refine (Zbl _ _ a.ds b.ds _ (d1.keep (ZE.drew _)) (d2.keep (ZE.drew _)) (by omega)).mono ?_;rintro e w1 ⟨v1,rfl,e1,d⟩)
   | (go_at_call 71;refine (Wl (a.neg !=b.neg) _ _ _ e1 h).mono ?_;rintro e w2 ⟨v2,rfl,e2,f⟩;obtain ⟨A3,n3,k3,rfl,_⟩:=e2.shape;obtain ⟨c0,c1,f0,f1⟩:=((hR.drew.later d).later f).two))
 go_wp2;refine Zn Tryz.results85 Tryz.underlying34 (by kernel_rfl) rfl (((hR.drew.later d).later f).set2 _ _) rfl ?_;rw [RI.z_eq,RI.z_eq,← Zrr];exact Yx ((hR.drew.later d).later f) e2 (Za (Za g.drew d g.size) f (JW g.size d.size)) (by omega)
theorem Zpr [Old] (v1 v2:Value) (a b:RI) (w:World) (h1:ZT w v1 a) (h2:ZT w v2 b) (hs:a.ds.length≤274877906944) (hs2:b.ds.length≤274877906944) (hOl:Zb w:=by (repeat (first | assumption | exact Zb.up (by assumption) hOl | exact Zb.up (Hid.out (by assumption)) hOl | with_reducible refine Zb.set ?_ _ _ | with_reducible refine Zb.mk_ ?_ _ | with_reducible refine Zb.dr ?_ | with_reducible refine Zb.drN ?_ | refine Zb.up (by assumption) ?_ | refine Zb.up (Hid.out (by assumption)) ?_))):
 Calls Tryz.prog 92 #[v1,v2] w fun e w'=>∃v',e= .returned v'∧ZT w' v' (canI (a.z+b.z))∧Below w.heap.size w w':=by
 have D:=hOl.le;obtain ⟨A,n,c,rfl,hd⟩:=h1.shape;obtain ⟨A',n',c',rfl,B⟩:=h2.shape;obtain ⟨W,hW,hX,hY,hR,j⟩:=Zrp w (.bool a.neg) (.slice A n c) (.bool b.neg) (.slice A' n' c');have d1:=hd.below j;have d2:=B.below j;have q1:=YW hd.ok;have q2:=YW B.ok;have r:w.heap.size≠w.heap.size+1+1:=by omega
 have s:w.heap.size+1≠w.heap.size+1+1:=by omega
 obtain ⟨x0,x1,_,_⟩:=hX.two;obtain ⟨y0,y1,_,_⟩:=hY.two;by_cases q:(a.neg==b.neg)=true
 ·have h:b.neg=a.neg:=(beq_iff_eq.1 q).symm;have m:(Zi (val a.ds+val b.ds)).length≤549755813888:=JW (Zmk _ _ 274877906944 (by omega) (by omega)) (by decide);have p:=JZ h;clear h;go_enter Tryz.func92,Tryz.ntmps92;go_wp2_with fail;clear hW q
  go_region_held3 (fun w'=>(w'.cell? ⟨w.heap.size,0,none⟩=some (.bool a.neg)∧w'.cell? ⟨w.heap.size,1,none⟩=some (.slice A n c))∧(w'.cell? ⟨w.heap.size+1,0,none⟩=some (.bool b.neg)∧w'.cell? ⟨w.heap.size+1,1,none⟩=some (.slice A' n' c')))
   (first | with_reducible exact ⟨hX.drew.pair,hY.drew.pair⟩ | with_reducible exact ⟨(hX.drew.later d).pair,(hY.drew.later d).pair⟩ | with_reducible exact ⟨((hX.drew.later d).later f).pair,((hY.drew.later d).later f).pair⟩ | with_reducible exact ⟨((hX.drew.later d).later f).two_far r _ _,((hY.drew.later d).later f).two_far s _ _⟩)
   (first
    | (go_at_call 112;refine (Zbk _ _ a.ds b.ds _ (d1.keep (ZE.drew _)) (d2.keep (ZE.drew _)) (by omega) (by omega)).mono ?_;rintro e w1 ⟨v1,rfl,e1,d⟩)
    | (go_at_call 71;refine (Wl a.neg _ _ _ e1 m).mono ?_;rintro e w2 ⟨v2,rfl,e2,f⟩;obtain ⟨A3,n3,k3,rfl,_⟩:=e2.shape;obtain ⟨c0,c1,f0,f1⟩:=((hR.drew.later d).later f).two))
  go_wp2;refine Zn Tryz.results92 Tryz.underlying34 (by kernel_rfl) rfl (((hR.drew.later d).later f).set2 _ _) rfl ?_;rw [RI.z_eq,RI.z_eq,p.out,Zab];exact Yx ((hR.drew.later d).later f) e2 (Za (Za j.drew d j.size) f (JW j.size d.size)) (by omega)
 ·have h:(a.neg==b.neg)=false:=by simpa using q
  clear q;have C:=Zfx (val a.ds) (val b.ds);rcases JX (val a.ds) (val b.ds) with hlt | hge
  ·have hc:cmpN (val a.ds) (val b.ds)= -1:=WE hlt;have m:(Zi (val b.ds - val a.ds)).length≤549755813888:=JW (Zo (Nat.sub_le _ _)) (by omega);have t:(Zi (val a.ds)).length≤b.ds.length:=JW (Zo (Nat.le_of_lt hlt)) q2;have x:=JZ hlt;clear hlt C;go_enter Tryz.func92,Tryz.ntmps92;go_wp2_with fail;clear hW;refine (Yo _ _ a.ds b.ds _ d1 d2).mono ?_;rw [hc];rintro e w0 ⟨rfl,g⟩;have k:=hX.later g;have l:=hY.later g;have o:=hR.later g;have u:=d1.below g;have v:=d2.below g;have i:=Za j g j.size;clear hX hY hR d1 d2 j hc x0 x1 y0 y1;have p:=JZ h;clear h;go_wp2_with fail
   go_region_held3 (fun w'=>(w'.cell? ⟨w.heap.size,0,none⟩=some (.bool a.neg)∧w'.cell? ⟨w.heap.size,1,none⟩=some (.slice A n c))∧(w'.cell? ⟨w.heap.size+1,0,none⟩=some (.bool b.neg)∧w'.cell? ⟨w.heap.size+1,1,none⟩=some (.slice A' n' c')))
    (first | with_reducible exact ⟨k.drew.pair,l.drew.pair⟩ | with_reducible exact ⟨(k.drew.later d).pair,(l.drew.later d).pair⟩ | with_reducible exact ⟨((k.drew.later d).later f).pair,((l.drew.later d).later f).pair⟩ | with_reducible exact ⟨((k.drew.later d).later f).two_far r _ _,((l.drew.later d).later f).two_far s _ _⟩)
    (first
     | (go_at_call 98;refine (Yy _ a.ds _ (u.keep (ZE.drew _))).mono ?_;rintro e w3 ⟨v3,rfl,e3,rfl⟩)
     | (go_at_call 114;refine (Vo _ _ b.ds (Zi (val a.ds)) _ (v.keep (ZE.drew _)) e3 (by rw [Zh];exact Nat.le_of_lt x.out) t (by omega)).mono ?_;rw [Zh];rintro e w1 ⟨v1,rfl,e1,d⟩)
     | (go_at_call 71;refine (Wl b.neg _ _ _ e1 m).mono ?_;rintro e w2 ⟨v2,rfl,e2,f⟩;obtain ⟨A3,n3,k3,rfl,_⟩:=e2.shape;obtain ⟨c0,c1,f0,f1⟩:=((o.drew.later d).later f).two))
   go_wp2;refine Zn Tryz.results92 Tryz.underlying34 (by kernel_rfl) rfl (((o.drew.later d).later f).set2 _ _) rfl ?_;rw [RI.z_eq,RI.z_eq,Zhq p.out (Nat.le_of_lt x.out)];exact Yx ((o.drew.later d).later f) e2 (Za (Za i.drew d i.size) f (JW i.size d.size)) (by omega)
  ·have hc:0≤cmpN (val a.ds) (val b.ds):=(by unfold cmpN;split;omega;split <;> omega);have m:(Zi (val a.ds - val b.ds)).length≤549755813888:=JW (Zo (Nat.sub_le _ _)) (by omega);have t:(Zi (val b.ds)).length≤a.ds.length:=JW (Zo hge) q1;have y:=JZ hge;clear hge;go_enter Tryz.func92,Tryz.ntmps92;go_wp2_with fail;clear hW;refine (Yo _ _ a.ds b.ds _ d1 d2).mono ?_;rintro e w0 ⟨rfl,g⟩;generalize cmpN (val a.ds) (val b.ds)=cc at *;have k:=hX.later g;have l:=hY.later g;have o:=hR.later g;have u:=d1.below g;have v:=d2.below g;have i:=Za j g j.size;clear hX hY hR d1 d2 j x0 x1 y0 y1;have p:=JZ h;clear h;go_wp2_with fail
   go_region_held3 (fun w'=>(w'.cell? ⟨w.heap.size,0,none⟩=some (.bool a.neg)∧w'.cell? ⟨w.heap.size,1,none⟩=some (.slice A n c))∧(w'.cell? ⟨w.heap.size+1,0,none⟩=some (.bool b.neg)∧w'.cell? ⟨w.heap.size+1,1,none⟩=some (.slice A' n' c')))
    (first | with_reducible exact ⟨k.drew.pair,l.drew.pair⟩ | with_reducible exact ⟨(k.drew.later d).pair,(l.drew.later d).pair⟩ | with_reducible exact ⟨((k.drew.later d).later f).pair,((l.drew.later d).later f).pair⟩ | with_reducible exact ⟨((k.drew.later d).later f).two_far r _ _,((l.drew.later d).later f).two_far s _ _⟩)
    (first
     | (go_at_call 98;refine (Yy _ b.ds _ (v.keep (ZE.drew _))).mono ?_;rintro e w3 ⟨v3,rfl,e3,rfl⟩)
     | (go_at_call 114;refine (Vo _ _ a.ds (Zi (val b.ds)) _ (u.keep (ZE.drew _)) e3 (by rw [Zh];exact y.out) t (by omega)).mono ?_;rw [Zh];rintro e w1 ⟨v1,rfl,e1,d⟩)
     | (go_at_call 71;refine (Wl a.neg _ _ _ e1 m).mono ?_;rintro e w2 ⟨v2,rfl,e2,f⟩;obtain ⟨A3,n3,k3,rfl,_⟩:=e2.shape;obtain ⟨c0,c1,f0,f1⟩:=((o.drew.later d).later f).two))
   go_wp2;refine Zn Tryz.results92 Tryz.underlying34 (by kernel_rfl) rfl (((o.drew.later d).later f).set2 _ _) rfl ?_;rw [RI.z_eq,RI.z_eq,Zhp p.out y.out];exact Yx ((o.drew.later d).later f) e2 (Za (Za i.drew d i.size) f (JW i.size d.size)) (by omega)
theorem Zhy (z:Int):(canI z).ds.length=(Zi z.natAbs).length:=rfl
end Go.Proofs.YtidgdpkcloaheaaGreat
