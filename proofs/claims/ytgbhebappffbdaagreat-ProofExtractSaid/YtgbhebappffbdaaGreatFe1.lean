/- Lemmas of the claim; no condition. -/
import Derived.Test.YtgbhebappffbdaaGreatP30
import Derived.Test.YtgbhebappffbdaaGreatLxZJ
set_option linter.all false
set_option maxRecDepth 100000
set_option maxHeartbeats 40000000
namespace Go.Proofs.YtgbhebappffbdaaGreat
open Go.RowKit
namespace Pl
end Pl
open Pl
attribute [local go_sem ↓] Go.wp_at_zero Go.wp_at_succ
theorem radd_fin {O xs ys:List Nat} {k:Nat} {z:Int} (hO:O.length=k) (hz:0≤z) (hx:xs.length+1≤k) (hy:ys.length+1≤k) (okx:okD xs) (oky:okD ys)
 (h:(vt O k:Int)+z * ((B32^k:Nat):Int)=vt xs k+vt ys k):val O=val xs+val ys:=by
 rw [XB (by omega),XB (show xs.length≤k by omega),XB (show ys.length≤k by omega)] at h;obtain ⟨j,rfl⟩:∃j,k=j+1:=⟨k - 1,by omega⟩;have a1:=Nat.lt_of_lt_of_le (Zih okx) (Nat.pow_le_pow_right B32_pos (show xs.length≤j by omega));have a2:=Nat.lt_of_lt_of_le (Zih oky) (Nat.pow_le_pow_right B32_pos (show ys.length≤j by omega));rw [Nat.pow_succ] at h;generalize B32^j=p at *;rcases Int.lt_or_eq_of_le hz with h1 | h1
 ·have:1 * ((p * B32:Nat):Int)≤z * ((p * B32:Nat):Int):=Int.mul_le_mul_of_nonneg_right (by omega) (by omega);unfold B32 at *;omega
 ·subst h1;omega
theorem raddDigits_any (v1 v2:Value) (xs ys:List Nat) (w:World) (h1:ZL w v1 xs) (h2:ZL w v2 ys) (hx:xs.length≤549755813888) (hy:ys.length≤549755813888):
 Calls Tryz.prog 114 #[v1,v2] w fun e w'=>∃v',e= .returned v'∧ZL w' v' (Zl (val xs+val ys))∧Below w.heap.size w w':=by
 obtain ⟨A,l,c,rfl⟩:=h1.shape;obtain ⟨hl,j,p,hc⟩:=h1.len;obtain ⟨A2,l2,c2,rfl⟩:=h2.shape;obtain ⟨kl,m,q,kc⟩:=h2.len;rcases JX l l2 with hll | hll
 ·have b:=YP (l2+1) (by omega)
  push_cast at b
  have HX:Hid (xs.length≤l2):=JZ (by omega);have HY:Hid (ys.length≤l2):=JZ (by omega);have n:(l2:Int)≤549755813888:=by omega
  have d:=h1.ok;have f:=h2.ok;clear hl j kl m hx hy;go_enter Tryz.func114,Tryz.ntmps114;go_wp2;clear b
  go_loopw [7,8] (fun cy i wr=>∃(k:Nat) (O:List Nat) (z:Int),k≤l2+1∧i= .int .i64 k∧cy= .int .u64 z∧0≤z∧z≤1∧l2+1≤O.length∧O.length≤l2+1∧YB wr w.heap.size O∧okD O∧Below w.heap.size w wr∧
   (vt O k:Int)+z * ((B32^k:Nat):Int)=vt xs k+vt ys k) (fun _ i _=>l2+1 - (intOf i).toNat)
  case atStart=>exact ⟨0,List.replicate (l2+1) 0,0,by omega,rfl,rfl,by omega,by omega,by simp,by simp,YB.zeros w _,ZJ _,(JR _ _).alloc (JY _) _,by simp [YS]⟩
  case round=>
   obtain ⟨k,O,z,hk,rfl,rfl,z0,z1,hO,g,hB,ok,a,h⟩:=hrel;have HE:=JZ h;clear h;rcases JX k (l2+1) with hkl | hkl
   ·have x0:=Zo xs k;have x1:=Yn d k;have y0:=Zo ys k;have y1:=Yn f k;go_wp2_with fail;refine (Zax _ xs k _ (h1.below a) (by omega)).mono ?_;rintro e w1 ⟨rfl,rfl⟩;go_wp2_with fail;refine (Zax _ ys k _ (h2.below a) (by omega)).mono ?_;rintro e w1 ⟨rfl,rfl⟩;have ho:=hB.cell (k:=k) (by omega);have hf:=hB.frozen k;go_wp2;go_roundw
    case rel=>exact ⟨k+1,O.set k ((z+di xs k+di ys k) % 4294967296).toNat,_,by omega,by go_num,rfl,by omega,by omega,by simpa using hO,by simpa using g,hB.setI k (by omega),ZH ok k (by unfold B32;omega),a.setCell (JY _) _,UF (by omega) z0 rfl HE.out⟩
    case measure=>simp [intOf];omega
   ·obtain rfl:k=l2+1:=by omega
    have o:decide (((l2:Int)+1) < (l2:Int)+1)=false:=(by simp);go_wp2_with fail;refine (Y9 _ O _ ?_).mono ?_
    ·have:=hB.dig ok (c:=l2+1) g (by unfold maxLen;omega)
     rwa [show O.length=l2+1 from by omega] at this
    rintro e w1 ⟨v',rfl,hv,rfl⟩;go_wp2_with fail;go_ret;refine ⟨_,rfl,?_,a⟩
    rwa [radd_fin (show O.length=l2+1 by omega) z0 (by have:=HX.out;omega) (by have:=HY.out;omega) d f HE.out] at hv
 ·have b:=YP (l+1) (by omega)
  push_cast at b
  have HX:Hid (xs.length≤l):=JZ (by omega);have HY:Hid (ys.length≤l):=JZ (by omega);have n:(l:Int)≤549755813888:=by omega
  have d:=h1.ok;have f:=h2.ok;clear hl j kl m hx hy;go_enter Tryz.func114,Tryz.ntmps114;go_wp2;clear b
  go_loopw [7,8] (fun cy i wr=>∃(k:Nat) (O:List Nat) (z:Int),k≤l+1∧i= .int .i64 k∧cy= .int .u64 z∧0≤z∧z≤1∧l+1≤O.length∧O.length≤l+1∧YB wr w.heap.size O∧okD O∧Below w.heap.size w wr∧
   (vt O k:Int)+z * ((B32^k:Nat):Int)=vt xs k+vt ys k) (fun _ i _=>l+1 - (intOf i).toNat)
  case atStart=>exact ⟨0,List.replicate (l+1) 0,0,by omega,rfl,rfl,by omega,by omega,by simp,by simp,YB.zeros w _,ZJ _,(JR _ _).alloc (JY _) _,by simp [YS]⟩
  case round=>
   obtain ⟨k,O,z,hk,rfl,rfl,z0,z1,hO,g,hB,ok,a,h⟩:=hrel;have HE:=JZ h;clear h;rcases JX k (l+1) with hkl | hkl
   ·have x0:=Zo xs k;have x1:=Yn d k;have y0:=Zo ys k;have y1:=Yn f k;go_wp2_with fail;refine (Zax _ xs k _ (h1.below a) (by omega)).mono ?_;rintro e w1 ⟨rfl,rfl⟩;go_wp2_with fail;refine (Zax _ ys k _ (h2.below a) (by omega)).mono ?_;rintro e w1 ⟨rfl,rfl⟩;have ho:=hB.cell (k:=k) (by omega);have hf:=hB.frozen k;go_wp2;go_roundw
    case rel=>exact ⟨k+1,O.set k ((z+di xs k+di ys k) % 4294967296).toNat,_,by omega,by go_num,rfl,by omega,by omega,by simpa using hO,by simpa using g,hB.setI k (by omega),ZH ok k (by unfold B32;omega),a.setCell (JY _) _,UF (by omega) z0 rfl HE.out⟩
    case measure=>simp [intOf];omega
   ·obtain rfl:k=l+1:=by omega
    have o:decide (((l:Int)+1) < (l:Int)+1)=false:=(by simp);go_wp2_with fail;refine (Y9 _ O _ ?_).mono ?_
    ·have:=hB.dig ok (c:=l+1) g (by unfold maxLen;omega)
     rwa [show O.length=l+1 from by omega] at this
    rintro e w1 ⟨v',rfl,hv,rfl⟩;go_wp2_with fail;go_ret;refine ⟨_,rfl,?_,a⟩
    rwa [radd_fin (show O.length=l+1 by omega) z0 (by have:=HX.out;omega) (by have:=HY.out;omega) d f HE.out] at hv
theorem rsubDigits_any (v1 v2:Value) (xs ys:List Nat) (w:World) (h1:ZL w v1 xs) (h2:ZL w v2 ys) (hle:val ys≤val xs) (hlen:ys.length≤xs.length) (hs:xs.length≤549755813888):
 Calls Tryz.prog 116 #[v1,v2] w fun e w'=>∃v',e= .returned v'∧ZL w' v' (Zl (val xs - val ys))∧Below w.heap.size w w':=
 (Zew v1 v2 xs ys w h1 h2 hle hlen hs).mono fun _ _ ⟨_,_,h1,h2,h3⟩=>⟨_,h1,h2,h3⟩
theorem radd_any (v1 v2:Value) (a b:RI) (w:World) (h1:Yg w v1 a) (h2:Yg w v2 b) (hs:a.ds.length≤274877906944) (hs2:b.ds.length≤274877906944):
 Calls Tryz.prog 63 #[v1,v2] w fun e w'=>∃v',e= .returned v'∧Yg w' v' (canI (a.z+b.z))∧Below w.heap.size w w':=by
 obtain ⟨A,n,c,rfl,hd⟩:=h1.shape;obtain ⟨A',n',c',rfl,B⟩:=h2.shape;obtain ⟨W,hW,hX,hY,hR,j⟩:=Ybi w (.bool a.neg) (.slice A n c) (.bool b.neg) (.slice A' n' c');have d1:=hd.below j;have d2:=B.below j;have q1:=Ui hd.ok;have q2:=Ui B.ok;have r:w.heap.size≠w.heap.size+1+1:=by omega
 have s:w.heap.size+1≠w.heap.size+1+1:=by omega
 obtain ⟨x0,x1,_,_⟩:=hX.two;obtain ⟨y0,y1,_,_⟩:=hY.two;by_cases q:(a.neg==b.neg)=true
 ·have h:b.neg=a.neg:=(beq_iff_eq.1 q).symm;have m:(Zl (val a.ds+val b.ds)).length≤549755813888:=JW (Ybm _ _ 274877906944 (by omega) (by omega)) (by decide);have p:=JZ h;clear h;go_enter Tryz.func63,Tryz.ntmps63;go_wp2_with fail;clear hW q
  go_region_held3 (fun w'=>(w'.cell? ⟨w.heap.size,0,none⟩=some (.bool a.neg)∧w'.cell? ⟨w.heap.size,1,none⟩=some (.slice A n c))∧(w'.cell? ⟨w.heap.size+1,0,none⟩=some (.bool b.neg)∧w'.cell? ⟨w.heap.size+1,1,none⟩=some (.slice A' n' c')))
   (first | with_reducible exact ⟨hX.drew.pair,hY.drew.pair⟩ | with_reducible exact ⟨(hX.drew.later d).pair,(hY.drew.later d).pair⟩ | with_reducible exact ⟨((hX.drew.later d).later f).pair,((hY.drew.later d).later f).pair⟩ | with_reducible exact ⟨((hX.drew.later d).later f).two_far r _ _,((hY.drew.later d).later f).two_far s _ _⟩)
   (first
    | (go_at_call 114;refine (raddDigits_any _ _ a.ds b.ds _ (d1.keep (ZF.drew _)) (d2.keep (ZF.drew _)) (by omega) (by omega)).mono ?_;rintro e w1 ⟨v1,rfl,e1,d⟩)
    | (go_at_call 113;refine (Zce a.neg _ _ _ e1 m).mono ?_;rintro e w2 ⟨v2,rfl,e2,f⟩;obtain ⟨A3,n3,k3,rfl,_⟩:=e2.shape;obtain ⟨c0,c1,f0,f1⟩:=((hR.drew.later d).later f).two))
  go_wp2;refine Zn Tryz.results63 Tryz.underlying44 (by kernel_rfl) rfl (((hR.drew.later d).later f).set2 _ _) rfl ?_;rw [RI.z_eq,RI.z_eq,p.out,Zlw];exact YW ((hR.drew.later d).later f) e2 (Za (Za j.drew d j.size) f (JW j.size d.size)) (by omega)
 ·have h:(a.neg==b.neg)=false:=by simpa using q
  clear q;have C:=Zsc (val a.ds) (val b.ds);rcases JX (val a.ds) (val b.ds) with hlt | hge
  ·have hc:cmpN (val a.ds) (val b.ds)= -1:=Uj hlt;have m:(Zl (val b.ds - val a.ds)).length≤549755813888:=JW (Zv (Nat.sub_le _ _)) (by omega);have t:(Zl (val a.ds)).length≤b.ds.length:=JW (Zv (Nat.le_of_lt hlt)) q2;have x:=JZ hlt;clear hlt C;go_enter Tryz.func63,Tryz.ntmps63;go_wp2_with fail;clear hW;refine (Xp _ _ a.ds b.ds _ d1 d2).mono ?_;rw [hc];rintro e w0 ⟨rfl,g⟩;have k:=hX.later g;have l:=hY.later g;have o:=hR.later g;have u:=d1.below g;have v:=d2.below g;have i:=Za j g j.size;clear hX hY hR d1 d2 j hc x0 x1 y0 y1;have p:=JZ h;clear h;go_wp2_with fail
   go_region_held3 (fun w'=>(w'.cell? ⟨w.heap.size,0,none⟩=some (.bool a.neg)∧w'.cell? ⟨w.heap.size,1,none⟩=some (.slice A n c))∧(w'.cell? ⟨w.heap.size+1,0,none⟩=some (.bool b.neg)∧w'.cell? ⟨w.heap.size+1,1,none⟩=some (.slice A' n' c')))
    (first | with_reducible exact ⟨k.drew.pair,l.drew.pair⟩ | with_reducible exact ⟨(k.drew.later d).pair,(l.drew.later d).pair⟩ | with_reducible exact ⟨((k.drew.later d).later f).pair,((l.drew.later d).later f).pair⟩ | with_reducible exact ⟨((k.drew.later d).later f).two_far r _ _,((l.drew.later d).later f).two_far s _ _⟩)
    (first
     | (go_at_call 117;refine (Y9 _ a.ds _ (u.keep (ZF.drew _))).mono ?_;rintro e w3 ⟨v3,rfl,e3,rfl⟩)
     | (go_at_call 116;refine (rsubDigits_any _ _ b.ds (Zl (val a.ds)) _ (v.keep (ZF.drew _)) e3 (by rw [Zi];exact Nat.le_of_lt x.out) t (by omega)).mono ?_;rw [Zi];rintro e w1 ⟨v1,rfl,e1,d⟩)
     | (go_at_call 113;refine (Zce b.neg _ _ _ e1 m).mono ?_;rintro e w2 ⟨v2,rfl,e2,f⟩;obtain ⟨A3,n3,k3,rfl,_⟩:=e2.shape;obtain ⟨c0,c1,f0,f1⟩:=((o.drew.later d).later f).two))
   go_wp2;refine Zn Tryz.results63 Tryz.underlying44 (by kernel_rfl) rfl (((o.drew.later d).later f).set2 _ _) rfl ?_;rw [RI.z_eq,RI.z_eq,Zxf p.out (Nat.le_of_lt x.out)];exact YW ((o.drew.later d).later f) e2 (Za (Za i.drew d i.size) f (JW i.size d.size)) (by omega)
  ·have hc:0≤cmpN (val a.ds) (val b.ds):=(by unfold cmpN;split;omega;split <;> omega);have m:(Zl (val a.ds - val b.ds)).length≤549755813888:=JW (Zv (Nat.sub_le _ _)) (by omega);have t:(Zl (val b.ds)).length≤a.ds.length:=JW (Zv hge) q1;have y:=JZ hge;clear hge;go_enter Tryz.func63,Tryz.ntmps63;go_wp2_with fail;clear hW;refine (Xp _ _ a.ds b.ds _ d1 d2).mono ?_;rintro e w0 ⟨rfl,g⟩;generalize cmpN (val a.ds) (val b.ds)=cc at *;have k:=hX.later g;have l:=hY.later g;have o:=hR.later g;have u:=d1.below g;have v:=d2.below g;have i:=Za j g j.size;clear hX hY hR d1 d2 j x0 x1 y0 y1;have p:=JZ h;clear h;go_wp2_with fail
   go_region_held3 (fun w'=>(w'.cell? ⟨w.heap.size,0,none⟩=some (.bool a.neg)∧w'.cell? ⟨w.heap.size,1,none⟩=some (.slice A n c))∧(w'.cell? ⟨w.heap.size+1,0,none⟩=some (.bool b.neg)∧w'.cell? ⟨w.heap.size+1,1,none⟩=some (.slice A' n' c')))
    (first | with_reducible exact ⟨k.drew.pair,l.drew.pair⟩ | with_reducible exact ⟨(k.drew.later d).pair,(l.drew.later d).pair⟩ | with_reducible exact ⟨((k.drew.later d).later f).pair,((l.drew.later d).later f).pair⟩ | with_reducible exact ⟨((k.drew.later d).later f).two_far r _ _,((l.drew.later d).later f).two_far s _ _⟩)
    (first
     | (go_at_call 117;refine (Y9 _ b.ds _ (v.keep (ZF.drew _))).mono ?_;rintro e w3 ⟨v3,rfl,e3,rfl⟩)
     | (go_at_call 116;refine (rsubDigits_any _ _ a.ds (Zl (val b.ds)) _ (u.keep (ZF.drew _)) e3 (by rw [Zi];exact y.out) t (by omega)).mono ?_;rw [Zi];rintro e w1 ⟨v1,rfl,e1,d⟩)
     | (go_at_call 113;refine (Zce a.neg _ _ _ e1 m).mono ?_;rintro e w2 ⟨v2,rfl,e2,f⟩;obtain ⟨A3,n3,k3,rfl,_⟩:=e2.shape;obtain ⟨c0,c1,f0,f1⟩:=((o.drew.later d).later f).two))
   go_wp2;refine Zn Tryz.results63 Tryz.underlying44 (by kernel_rfl) rfl (((o.drew.later d).later f).set2 _ _) rfl ?_;rw [RI.z_eq,RI.z_eq,Zxe p.out y.out];exact YW ((o.drew.later d).later f) e2 (Za (Za i.drew d i.size) f (JW i.size d.size)) (by omega)
theorem len_canI (z:Int):(canI z).ds.length=(Zl z.natAbs).length:=rfl
namespace Pl
theorem neg_raw (f:RF):Rat.divInt (-f.num.z) f.den.z= -f.q:=(Rat.neg_divInt _ _).symm
end Pl
theorem run_num (x y z u:Value) (w:World):(Instr.field 46 (.agg #[x,y,z,u]) 0).run Tryz.prog w= .ok (.agg #[x,y]) w:=by kernel_rfl
theorem rsignF_any (v:Value) (a:RF) (w:World) (h:Zt w v a) (hs:a.Sh):
 Calls Tryz.prog 48 #[v] w fun e w'=>e= .returned (.int .i64 (qs a.q))∧Below w.heap.size w w':=by
 obtain ⟨A,n,c,A',n',c',rfl,_,_⟩:=id h;obtain ⟨W,hW,hX,b⟩:=YN w (.bool a.num.neg) (.slice A n c) (.bool a.den.neg) (.slice A' n' c');have h':=h.below b;obtain ⟨p1,p2,p3,p4⟩:=hX.four;have hz:=hs.sz.1;go_enter Tryz.func48,Tryz.ntmps48;go_wp2_with fail;clear hW;refine (Zfo _ a _ h' hs).mono ?_;rintro e w1 ⟨v1,rfl,e1,j⟩;obtain ⟨B,m,d,B',m',d',rfl,_,_⟩:=id e1.1;have f:sgn (canF a.q).num.z=qs a.q:=by rw [show (canF a.q).num=canI a.q.num from rfl,ZI];rfl
 have g:(Zl (val (canF a.q).num.ds)).length≤549755813888:=by rw [show (canF a.q).num=canI a.q.num from rfl,YG];omega
 have i:=JZ f;clear f;generalize canF a.q=P at *;obtain ⟨i1,i2⟩:=e1.1.num;have l:=fun (w:World)=>run_num (.bool P.num.neg) (.slice B m d) (.bool P.den.neg) (.slice B' m' d') w
 go_wp2_with fail;refine (Zcw _ P.num _ i1 g).mono ?_;rw [i.out];rintro e w2 ⟨rfl,k⟩;go_wp2;go_ret;have b1:=Za b j b.size;exact ⟨rfl,Za b1 k b1.size⟩
theorem rnegateF_own (v:Value) (a:RF) (w:World) (h:Zt w v a) (hs:a.Sh):
 Calls Tryz.prog 45 #[v] w fun e w'=>∃v',e= .returned v'∧Wi w.heap.size w' v' (canF (-a.q))∧Below w.heap.size w w':=by
 obtain ⟨A,n,c,A',n',c',rfl,_,_⟩:=id h;obtain ⟨W,hW,j,hX,hR,g⟩:=Zis w (.bool a.num.neg) (.slice A n c) (.bool a.den.neg) (.slice A' n' c') (.bool false) (.slice none 0 0) (.bool false) (.slice none 0 0);obtain ⟨i1,i2⟩:=(h.below g).num;obtain ⟨k,l⟩:=hs;have i:w.heap.size≠w.heap.size+1:=by omega
 go_enter Tryz.func45,Tryz.ntmps45;go_wp2_with fail;clear hW
 go_region_held3 (fun w'=>w'.cell? ⟨w.heap.size,0,none⟩=some (.bool a.num.neg)∧w'.cell? ⟨w.heap.size,1,none⟩=some (.slice A n c)∧w'.cell? ⟨w.heap.size,2,none⟩=some (.bool a.den.neg)∧w'.cell? ⟨w.heap.size,3,none⟩=some (.slice A' n' c'))
  (first | with_reducible exact hX.drew.four | with_reducible exact (hX.drew.later b).four | with_reducible exact ((hX.drew.later b).later f).four | with_reducible exact (((hX.drew.later b).later f).far4 i _ _ _ _).four)
  (first
   | (go_at_call 87;refine (Zct _ a.num _ (i1.keep (ZF.drew _)) (by omega)).mono ?_;rintro e w6 ⟨v6,rfl,e6,b⟩)
   | (go_at_call 62;refine (Zgs _ _ (canI (-a.num.z)) a.den _ e6 ((i2.keep (ZF.drew _)).below b) (by rw [YG,Int.natAbs_neg,ZR];omega) (by omega)).mono ?_;rw [ZI,neg_raw];rintro e w7 ⟨v7,rfl,e7,f⟩;obtain ⟨B,m,d,B',m',d',rfl,_,_⟩:=id e7.1;obtain ⟨c0,c1,c2,c3⟩:=((hR.drew.later b).later f).four;obtain ⟨f0,f1,f2,f3⟩:=((hR.drew.later b).later f).fourF))
 go_wp2;refine Zn Tryz.results45 Tryz.underlying46 (by kernel_rfl) rfl (((hR.drew.later b).later f).set4 _ _ _ _) rfl ?_;have b1:=Za g.drew b g.size;exact WO ((hR.drew.later b).later f) (e7.mono b1.size) (Za b1 f b1.size) (by omega)
theorem rmulF_own (v1 v2:Value) (a b:RF) (w:World) (h1:Zt w v1 a) (h2:Zt w v2 b) (hs:a.Sh) (hs2:b.Sh):
 Calls Tryz.prog 25 #[v1,v2] w fun e w'=>∃v',e= .returned v'∧Wi w.heap.size w' v' (canF (a.q * b.q))∧Below w.heap.size w w':=by
 obtain ⟨A,n,c,A',n',c',rfl,_,_⟩:=id h1;obtain ⟨B,m,d,B',m',d',rfl,_,_⟩:=id h2;obtain ⟨W,hW,hX,hY,hR,p⟩:=Ztf w (.bool a.num.neg) (.slice A n c) (.bool a.den.neg) (.slice A' n' c') (.bool b.num.neg) (.slice B m d) (.bool b.den.neg) (.slice B' m' d');have i1:=h1.below p;have i2:=h2.below p;have J:w.heap.size≠w.heap.size+1:=by omega
 have y:w.heap.size+1+1≠w.heap.size:=by omega
 have D:w.heap.size+1+1≠w.heap.size+1:=by omega
 have o:True:=trivial;obtain ⟨p1,p2,p3,p4⟩:=hX.four;obtain ⟨q1,q2,q3,q4⟩:=hY.four;go_enter Tryz.func25,Tryz.ntmps25;go_wp2_with fail;clear hW
 go_upto_region 1 with (fail)
 go_cut [] (fun wx=>∃(A A' B B':Option Addr) (n c n' c' m d m' d':Nat),Ygf a.q b.q w wx A A' B B' n c n' c' m d m' d')
 case first=>
  go_region_with (first
   | (go_at_call 61;have _t:=o;refine (Zfo _ a _ (i1.keep (ZF.drew _)) hs).mono ?_;clear o _t;rintro e w6 ⟨v6,rfl,e6,j⟩;obtain ⟨A6,n6,k6,M,N,O,rfl,_,_⟩:=id e6.1;obtain ⟨V,X,Y,Z⟩:=(hY.drew.later j).four)
   | (go_at_call 61;refine (Zfo _ b _ ((i2.keep (ZF.drew _)).below j) hs2).mono ?_;rintro e w7 ⟨v7,rfl,e7,k⟩;obtain ⟨A7,n7,k7,R,S,T,rfl,_,_⟩:=id e7.1;obtain ⟨c0,c1,c2,c3⟩:=((hX.drew.later j).later k).four;obtain ⟨r0,r1,r2,r3⟩:=((hX.drew.later j).later k).fourF;obtain ⟨a0,a7,a8,a9⟩:=((hY.drew.later j).later k).four;obtain ⟨aa,ab,ac,ad⟩:=((hY.drew.later j).later k).fourF))
  all_goals
   go_wp2_with fail
   go_meet
   have b1:=Za p.drew j p.size;obtain ⟨a1,a2,a3,a4,a5,a6⟩:=Ybv ((hX.drew.later j).later k) ((hY.drew.later j).later k) ((hR.drew.later j).later k) J y D (e6.below k).1 e7.1 (Za b1 k b1.size) (by omega) (by omega) _ rfl;exact ⟨A6,M,A7,R,n6,k6,N,O,n7,k7,S,T,a1,a2,a3,a4,a5,a6⟩
 case rest=>
  obtain ⟨A,A',B,B',n,c,n',c',m,d,m',d',bX,bY,bR,fX,fY,be⟩:=hcut;clear p1 p2 p3 p4 q1 q2 q3 q4 hX hY hR p i1 i2 h1 h2 o;have r:=hs.sz;have s:=hs2.sz;obtain ⟨l1,l2⟩:=szI r;obtain ⟨l3,l4⟩:=szI s;have E:=zN a.q;have F:=zD a.q;have G:=zN b.q;have H:=zD b.q;generalize canF a.q=P at *;generalize canF b.q=Q at *;have t:=JZ E;have u:=JZ F;have v:=JZ G;have x:=JZ H;clear E F G H;obtain ⟨iN,iD⟩:=fX.num;obtain ⟨jN,jD⟩:=fY.num;have o:True:=trivial;have U:True:=trivial;have K:(Zl (val (canI (P.num.z * Q.num.z)).ds)).length≤137438953472:=(szV (by rw [t.out,v.out,Int.natAbs_mul];exact JW (XT _ _) (JW (Nat.add_le_add r.1 s.1) (by decide))));have L:(Zl (val (canI (P.den.z * Q.den.z)).ds)).length≤137438953472:=(szV (by rw [u.out,x.out,Int.natAbs_mul];exact JW (XT _ _) (JW (Nat.add_le_add r.2 s.2) (by decide))));have HV:Hid (Rat.divInt (P.num.z * Q.num.z) (P.den.z * Q.den.z)=a.q * b.q):=JZ (by rw [t.out,u.out,v.out,x.out];exact Yef _ _);clear r s hs hs2 t u v x;go_wp2_with fail
  go_region_held3 (fun w'=>(w'.cell? ⟨w.heap.size,0,none⟩=some (.bool P.num.neg)∧w'.cell? ⟨w.heap.size,1,none⟩=some (.slice A n c)∧w'.cell? ⟨w.heap.size,2,none⟩=some (.bool P.den.neg)∧w'.cell? ⟨w.heap.size,3,none⟩=some (.slice A' n' c'))∧(w'.cell? ⟨w.heap.size+1,0,none⟩=some (.bool Q.num.neg)∧w'.cell? ⟨w.heap.size+1,1,none⟩=some (.slice B m d)∧w'.cell? ⟨w.heap.size+1,2,none⟩=some (.bool Q.den.neg)∧w'.cell? ⟨w.heap.size+1,3,none⟩=some (.slice B' m' d')))
   (first | with_reducible exact ⟨bX.drew.four,bY.drew.four⟩ | with_reducible exact ⟨(bX.drew.later g).four,(bY.drew.later g).four⟩ | with_reducible exact ⟨((bX.drew.later g).later i).four,((bY.drew.later g).later i).four⟩ | with_reducible exact ⟨(((bX.drew.later g).later i).later h).four,(((bY.drew.later g).later i).later h).four⟩ | with_reducible exact ⟨((((bX.drew.later g).later i).later h).far4 (Ne.symm y) _ _ _ _).four,((((bY.drew.later g).later i).later h).far4 (Ne.symm D) _ _ _ _).four⟩)
   (first
    | (go_at_call 64;have _t:=o;refine (Znw _ _ P.num Q.num _ (iN.keep (ZF.drew _)) (jN.keep (ZF.drew _)) (by omega)).mono ?_;clear o _t;rintro e w8 ⟨v8,rfl,e8,g⟩)
    | (go_at_call 64;refine (Znw _ _ P.den Q.den _ ((iD.keep (ZF.drew _)).below g) ((jD.keep (ZF.drew _)).below g) (by omega)).mono ?_;rintro e w9 ⟨v9,rfl,e9,i⟩)
    | (go_at_call 62;refine (Zgs _ _ (canI (P.num.z * Q.num.z)) (canI (P.den.z * Q.den.z)) _ (e8.below i) e9 K L).mono ?_;rw [ZI,ZI,HV.out];rintro e ae ⟨af,rfl,I,h⟩;obtain ⟨C,l,f,C',l',f',rfl,_,_⟩:=id I.1;obtain ⟨c0,c1,c2,c3⟩:=(((bR.drew.later g).later i).later h).four;obtain ⟨f0,f1,f2,f3⟩:=(((bR.drew.later g).later i).later h).fourF))
  go_wp2;refine Zn Tryz.results25 Tryz.underlying46 (by kernel_rfl) rfl ((((bR.drew.later g).later i).later h).set4 _ _ _ _) rfl ?_;have b0:=be.drew;have b1:=Za b0 g b0.size;have b2:=Za b1 i b1.size;have b3:=Za b2 h b2.size;exact WO (((bR.drew.later g).later i).later h) (I.mono b2.size) b3 (by omega)
theorem raddF_own (v1 v2:Value) (a b:RF) (w:World) (h1:Zt w v1 a) (h2:Zt w v2 b) (hs:a.Sh) (hs2:b.Sh):
 Calls Tryz.prog 24 #[v1,v2] w fun e w'=>∃v',e= .returned v'∧Wi w.heap.size w' v' (canF (a.q+b.q))∧Below w.heap.size w w':=by
 obtain ⟨A,n,c,A',n',c',rfl,_,_⟩:=id h1;obtain ⟨B,m,d,B',m',d',rfl,_,_⟩:=id h2;obtain ⟨W,hW,hX,hY,hR,u⟩:=Ztf w (.bool a.num.neg) (.slice A n c) (.bool a.den.neg) (.slice A' n' c') (.bool b.num.neg) (.slice B m d) (.bool b.den.neg) (.slice B' m' d');have i1:=h1.below u;have i2:=h2.below u;have M:w.heap.size≠w.heap.size+1:=by omega
 have F:w.heap.size+1+1≠w.heap.size:=by omega
 have G:w.heap.size+1+1≠w.heap.size+1:=by omega
 have r:True:=trivial;obtain ⟨p1,p2,p3,p4⟩:=hX.four;obtain ⟨q1,q2,q3,q4⟩:=hY.four;go_enter Tryz.func24,Tryz.ntmps24;go_wp2_with fail;clear hW
 go_upto_region 1 with (fail)
 go_cut [] (fun wx=>∃(A A' B B':Option Addr) (n c n' c' m d m' d':Nat),Ygf a.q b.q w wx A A' B B' n c n' c' m d m' d')
 case first=>
  go_region_with (first
   | (go_at_call 61;have _t:=r;refine (Zfo _ a _ (i1.keep (ZF.drew _)) hs).mono ?_;clear r _t;rintro e w6 ⟨v6,rfl,e6,o⟩;obtain ⟨A6,n6,k6,T,U,V,rfl,_,_⟩:=id e6.1;obtain ⟨a8,a9,aa,ab⟩:=(hY.drew.later o).four)
   | (go_at_call 61;refine (Zfo _ b _ ((i2.keep (ZF.drew _)).below o) hs2).mono ?_;rintro e w7 ⟨v7,rfl,e7,p⟩;obtain ⟨A7,n7,k7,X,Y,Z,rfl,_,_⟩:=id e7.1;obtain ⟨c0,c1,c2,c3⟩:=((hX.drew.later o).later p).four;obtain ⟨r0,r1,r2,r3⟩:=((hX.drew.later o).later p).fourF;obtain ⟨ac,ad,ae,af⟩:=((hY.drew.later o).later p).four;obtain ⟨ag,ah,ai,aj⟩:=((hY.drew.later o).later p).fourF))
  all_goals
   go_wp2_with fail
   go_meet
   have b1:=Za u.drew o u.size;obtain ⟨a1,a2,a3,a4,a5,a6⟩:=Ybv ((hX.drew.later o).later p) ((hY.drew.later o).later p) ((hR.drew.later o).later p) M F G (e6.below p).1 e7.1 (Za b1 p b1.size) (by omega) (by omega) _ rfl;exact ⟨A6,T,A7,X,n6,k6,U,V,n7,k7,Y,Z,a1,a2,a3,a4,a5,a6⟩
 case rest=>
  obtain ⟨A,A',B,B',n,c,n',c',m,d,m',d',bX,bY,bR,fX,fY,be⟩:=hcut;clear p1 p2 p3 p4 q1 q2 q3 q4 hX hY hR u i1 i2 h1 h2 r;have s:=hs.sz;have t:=hs2.sz;obtain ⟨l1,l2⟩:=szI s;obtain ⟨l3,l4⟩:=szI t;have H:=zN a.q;have I:=zD a.q;have J:=zN b.q;have K:=zD b.q;generalize canF a.q=P at *;generalize canF b.q=Q at *;have D:=JZ H;have v:=JZ I;have E:=JZ J;have x:=JZ K;clear H I J K;obtain ⟨iN,iD⟩:=fX.num;obtain ⟨jN,jD⟩:=fY.num;have r:True:=trivial;have y:True:=trivial;have N:(Zl (P.num.z * Q.den.z).natAbs).length≤68719476736:=by rw [D.out,x.out,Int.natAbs_mul];exact JW (XT _ _) (Nat.add_le_add s.1 t.2)
  have O:(Zl (Q.num.z * P.den.z).natAbs).length≤68719476736:=by rw [E.out,v.out,Int.natAbs_mul];exact JW (XT _ _) (Nat.add_le_add t.1 s.2)
  have R:(Zl (val (canI (P.num.z * Q.den.z+Q.num.z * P.den.z)).ds)).length≤137438953472:=szV (JW (Zcc N O) (by decide));have S:(Zl (val (canI (P.den.z * Q.den.z)).ds)).length≤137438953472:=szV (by rw [v.out,x.out,Int.natAbs_mul];exact JW (XT _ _) (JW (Nat.add_le_add s.2 t.2) (by decide)));have HV:Hid (Rat.divInt (P.num.z * Q.den.z+Q.num.z * P.den.z) (P.den.z * Q.den.z)=a.q+b.q):=JZ (by rw [D.out,v.out,E.out,x.out];exact Yeg _ _);clear s t hs hs2 D v E x;go_wp2_with fail
  go_region_held3 (fun w'=>(w'.cell? ⟨w.heap.size,0,none⟩=some (.bool P.num.neg)∧w'.cell? ⟨w.heap.size,1,none⟩=some (.slice A n c)∧w'.cell? ⟨w.heap.size,2,none⟩=some (.bool P.den.neg)∧w'.cell? ⟨w.heap.size,3,none⟩=some (.slice A' n' c'))∧(w'.cell? ⟨w.heap.size+1,0,none⟩=some (.bool Q.num.neg)∧w'.cell? ⟨w.heap.size+1,1,none⟩=some (.slice B m d)∧w'.cell? ⟨w.heap.size+1,2,none⟩=some (.bool Q.den.neg)∧w'.cell? ⟨w.heap.size+1,3,none⟩=some (.slice B' m' d')))
   (first | with_reducible exact ⟨bX.drew.four,bY.drew.four⟩ | with_reducible exact ⟨(bX.drew.later h).four,(bY.drew.later h).four⟩ | with_reducible exact ⟨((bX.drew.later h).later j).four,((bY.drew.later h).later j).four⟩ | with_reducible exact ⟨(((bX.drew.later h).later j).later g).four,(((bY.drew.later h).later j).later g).four⟩ | with_reducible exact ⟨((((bX.drew.later h).later j).later g).later i).four,((((bY.drew.later h).later j).later g).later i).four⟩ | with_reducible exact ⟨(((((bX.drew.later h).later j).later g).later i).later k).four,(((((bY.drew.later h).later j).later g).later i).later k).four⟩ | with_reducible exact ⟨((((((bX.drew.later h).later j).later g).later i).later k).far4 (Ne.symm F) _ _ _ _).four,((((((bY.drew.later h).later j).later g).later i).later k).far4 (Ne.symm G) _ _ _ _).four⟩)
   (first
    | (go_at_call 64;have _t:=r;refine (Znw _ _ P.num Q.den _ (iN.keep (ZF.drew _)) (jD.keep (ZF.drew _)) (by omega)).mono ?_;clear r _t;rintro e w8 ⟨v8,rfl,e8,h⟩)
    | (go_at_call 64;have _t:=y;refine (Znw _ _ Q.num P.den _ ((jN.keep (ZF.drew _)).below h) ((iD.keep (ZF.drew _)).below h) (by omega)).mono ?_;clear y _t;rintro e w9 ⟨v9,rfl,e9,j⟩)
    | (go_at_call 63;refine (radd_any _ _ (canI (P.num.z * Q.den.z)) (canI (Q.num.z * P.den.z)) _ (e8.below j) e9 (by rw [len_canI];omega) (by rw [len_canI];omega)).mono ?_;rw [ZI,ZI];rintro e ak ⟨al,rfl,a0,g⟩)
    | (go_at_call 64;refine (Znw _ _ P.den Q.den _ ((((iD.keep (ZF.drew _)).below h).below j).below g) ((((jD.keep (ZF.drew _)).below h).below j).below g) (by omega)).mono ?_;rintro e am ⟨an,rfl,a7,i⟩)
    | (go_at_call 62;refine (Zgs _ _ (canI (P.num.z * Q.den.z+Q.num.z * P.den.z)) (canI (P.den.z * Q.den.z)) _ (a0.below i) a7 R S).mono ?_;rw [ZI,ZI,HV.out];rintro e ao ⟨ap,rfl,L,k⟩;obtain ⟨C,l,f,C',l',f',rfl,_,_⟩:=id L.1;obtain ⟨c0,c1,c2,c3⟩:=(((((bR.drew.later h).later j).later g).later i).later k).four;obtain ⟨f0,f1,f2,f3⟩:=(((((bR.drew.later h).later j).later g).later i).later k).fourF))
  go_wp2;refine Zn Tryz.results24 Tryz.underlying46 (by kernel_rfl) rfl ((((((bR.drew.later h).later j).later g).later i).later k).set4 _ _ _ _) rfl ?_;have b0:=be.drew;have b1:=Za b0 h b0.size;have b2:=Za b1 j b1.size;have b3:=Za b2 g b2.size;have b4:=Za b3 i b3.size;have b5:=Za b4 k b4.size;exact WO (((((bR.drew.later h).later j).later g).later i).later k) (L.mono b4.size) b5 (by omega)
theorem rsubF_own (v1 v2:Value) (a b:RF) (w:World) (h1:Zt w v1 a) (h2:Zt w v2 b) (hs:a.Sh) (hs2:b.Sh):
 Calls Tryz.prog 53 #[v1,v2] w fun e w'=>∃v',e= .returned v'∧Wi w.heap.size w' v' (canF (a.q - b.q))∧Below w.heap.size w w':=by
 obtain ⟨A,n,c,A',n',c',rfl,_,_⟩:=id h1;obtain ⟨B,m,d,B',m',d',rfl,_,_⟩:=id h2;obtain ⟨W,hW,hX,hY,hR,i⟩:=Ztf w (.bool a.num.neg) (.slice A n c) (.bool a.den.neg) (.slice A' n' c') (.bool b.num.neg) (.slice B m d) (.bool b.den.neg) (.slice B' m' d');have i1:=h1.below i;have i2:=h2.below i;have j:w.heap.size≠w.heap.size+1+1:=by omega
 have k:w.heap.size+1≠w.heap.size+1+1:=by omega
 have o:(canF (-b.q)).Sh:=(Zoa hs2.sz).sh (JY _);have HV:Hid (a.q+(canF (-b.q)).q=a.q - b.q):=JZ (by rw [Zu,Rat.sub_eq_add_neg]);go_enter Tryz.func53,Tryz.ntmps53;go_wp2_with fail;clear hW
 go_region_held3 (fun w'=>(w'.cell? ⟨w.heap.size,0,none⟩=some (.bool a.num.neg)∧w'.cell? ⟨w.heap.size,1,none⟩=some (.slice A n c)∧w'.cell? ⟨w.heap.size,2,none⟩=some (.bool a.den.neg)∧w'.cell? ⟨w.heap.size,3,none⟩=some (.slice A' n' c'))∧(w'.cell? ⟨w.heap.size+1,0,none⟩=some (.bool b.num.neg)∧w'.cell? ⟨w.heap.size+1,1,none⟩=some (.slice B m d)∧w'.cell? ⟨w.heap.size+1,2,none⟩=some (.bool b.den.neg)∧w'.cell? ⟨w.heap.size+1,3,none⟩=some (.slice B' m' d')))
  (first | with_reducible exact ⟨hX.drew.four,hY.drew.four⟩ | with_reducible exact ⟨(hX.drew.later g).four,(hY.drew.later g).four⟩ | with_reducible exact ⟨((hX.drew.later g).later h).four,((hY.drew.later g).later h).four⟩ | with_reducible exact ⟨(((hX.drew.later g).later h).far4 j _ _ _ _).four,(((hY.drew.later g).later h).far4 k _ _ _ _).four⟩)
  (first
   | (go_at_call 45;(with_reducible refine (rnegateF_own _ b _ (i2.keep (ZF.drew _)) hs2).mono ?_);rintro e w8 ⟨v8,rfl,e8,g⟩)
   | (go_at_call 24;(with_reducible refine (raddF_own _ _ a (canF (-b.q)) _ ((i1.keep (ZF.drew _)).below g) e8.frac hs o).mono ?_);rw [HV.out];rintro e w9 ⟨v9,rfl,e9,h⟩;obtain ⟨C,l,f,C',l',f',rfl,_,_⟩:=id e9.1;obtain ⟨c0,c1,c2,c3⟩:=((hR.drew.later g).later h).four;obtain ⟨f0,f1,f2,f3⟩:=((hR.drew.later g).later h).fourF))
 go_wp2;refine Zn Tryz.results53 Tryz.underlying46 (by kernel_rfl) rfl (((hR.drew.later g).later h).set4 _ _ _ _) rfl ?_;have b1:=Za i.drew g i.size;exact WO ((hR.drew.later g).later h) (e9.mono b1.size) (Za b1 h b1.size) (by omega)
def ShH (f:RF):Prop:=(Zl (val f.num.ds)).length≤8589934592∧(Zl (val f.den.ds)).length≤8589934592
theorem ShH.sh {f:RF} (h:ShH f):f.Sh:=by unfold ShH at h;unfold RF.Sh;omega
theorem ShH.sz {f:RF} (h:ShH f):Sz 8589934592 f.q:=VD (by rw [ZR];exact h.1) (by rw [ZR];exact h.2) (by decide)
theorem Sz.shH {k:Nat} {q:Rat} (h:Sz k q) (hk:k≤8589934592):ShH (canF q):=by
 unfold ShH canF;simp only [YG];exact ⟨JW h.1 hk,JW h.2 hk⟩
theorem canF_qs (q:Rat):qs (canF q).q=qs q:=by rw [Zu]
theorem rcompareF_any (v1 v2:Value) (a b:RF) (w:World) (h1:Zt w v1 a) (h2:Zt w v2 b) (hs:ShH a) (hs2:ShH b):
 Calls Tryz.prog 17 #[v1,v2] w fun e w'=>e= .returned (.int .i64 (qs (a.q - b.q)))∧Below w.heap.size w w':=by
 obtain ⟨A,n,c,A',n',c',rfl,_,_⟩:=id h1;obtain ⟨B,m,d,B',m',d',rfl,_,_⟩:=id h2;obtain ⟨W,hW,h,hX,hY,f⟩:=Zis w (.bool a.num.neg) (.slice A n c) (.bool a.den.neg) (.slice A' n' c') (.bool b.num.neg) (.slice B m d) (.bool b.den.neg) (.slice B' m' d');have i1:=h1.below f;have i2:=h2.below f;obtain ⟨p1,p2,p3,p4⟩:=hX.four;obtain ⟨q1,q2,q3,q4⟩:=hY.four;have g:(canF (a.q - b.q)).Sh:=(Zcy hs.sz hs2.sz).sh (by decide);have HQ:=JZ (canF_qs (a.q - b.q));clear h;go_enter Tryz.func17,Tryz.ntmps17;go_wp2_with fail;clear hW;refine (rsubF_own _ _ a b _ i1 i2 hs.sh hs2.sh).mono ?_;rintro e w1 ⟨v1,rfl,e1,i⟩;generalize canF (a.q - b.q)=DF at *;go_wp2_with fail;refine (rsignF_any _ DF _ e1.1 g).mono ?_;rw [HQ.out];rintro e w2 ⟨rfl,j⟩;go_wp2;go_ret;have b1:=Za f i f.size;exact ⟨rfl,Za b1 j b1.size⟩
def DotAt (xs ys:List RF) (w:World) (g:Nat) (k:Nat) (wr:World):Prop:=
 ∃(A A':Option Addr) (n c n' c':Nat),Bk wr g 46 [.bool (canF (Zbb xs ys k)).num.neg,.slice A n c,.bool (canF (Zbb xs ys k)).den.neg,.slice A' n' c']∧Zt wr (.agg #[.bool (canF (Zbb xs ys k)).num.neg,.slice A n c,.bool (canF (Zbb xs ys k)).den.neg,.slice A' n' c']) (canF (Zbb xs ys k))∧
  Bk wr w.heap.size 46 [.bool false,.slice none 0 0,.bool false,.slice none 0 0]∧Below w.heap.size w wr∧w.heap.size < g
theorem rdot_own (v1 v2:Value) (xs ys:List RF) (K:Nat) (w:World) (h1:Xh w v1 xs) (h2:Xh w v2 ys) (hK:1≤K) (ha:RsL K xs) (hb:RsL K ys) (hs:1+min xs.length ys.length * (2 * K+1)≤34359738368) (hs2:2 * K≤34359738368):
 Calls Tryz.prog 18 #[v1,v2] w fun e w'=>∃v',e= .returned v'∧Zt w' v' (canF (Zbb xs ys (min xs.length ys.length)))∧Below w.heap.size w w':=by
 obtain ⟨A,c,rfl,ap,aq⟩:=h1.shape;obtain ⟨A',c',rfl,ar,au⟩:=h2.shape;have HS:=JZ hs;obtain ⟨W,hW,hR,j⟩:=YN w (.bool false) (.slice none 0 0) (.bool false) (.slice none 0 0);generalize hn:xs.length=n at *;generalize hm:ys.length=m at *;have HN:=JZ hn;have HM:=JZ hm;have HA:=JZ ha;have HB:=JZ hb;clear hs hn hm ha hb;go_enter Tryz.func18,Tryz.ntmps18;go_wp2_with fail;clear hW;refine (Y4 0 _ (by omega) (by omega)).mono ?_;rw [show ((0:Int):Rat)=Zbb xs ys 0 from rfl];rintro e w1 ⟨v1,rfl,e1,O⟩;obtain ⟨B,l,d,B',l',d',rfl,_,_⟩:=id e1.frac;have hX:=Bk.new w1 46 [.bool (canF (Zbb xs ys 0)).num.neg,.slice B l d,.bool (canF (Zbb xs ys 0)).den.neg,.slice B' l' d'];have bn:=Zb w1 (.cells [.bool (canF (Zbb xs ys 0)).num.neg,.slice B l d,.bool (canF (Zbb xs ys 0)).den.neg,.slice B' l' d'].toArray 46);have b1:=Za j O j.size;have start:DotAt xs ys w w1.heap.size 0 (w1.alloc (.cells #[.bool (canF (Zbb xs ys 0)).num.neg,.slice B l d,.bool (canF (Zbb xs ys 0)).den.neg,.slice B' l' d'] 46)):=
  ⟨B,B',l,d,l',d',hX,e1.frac.below bn,(hR.later O).later bn,Za b1 bn b1.size,(hR.later O).lt⟩
 have ST:=JZ start;clear start hX bn b1 hR j O e1;generalize canF (Zbb xs ys 0)=D0 at *;go_wp2
 go_loopw [6] (fun i wr=>∃k:Nat,k≤min n m∧i= .int .i64 k∧DotAt xs ys w w1.heap.size k wr) (fun i _=>n - (intOf i).toNat)
 case atStart=>exact ⟨0,by omega,rfl,ST.out⟩
 case round=>
  obtain ⟨k,hk,rfl,C,C',p,q,p',q',hX,hF,hR,j,hg⟩:=hrel;rcases JX k (min n m) with hkl | hkl
  ·obtain ⟨f,hf⟩:=Yb (fs:=xs) (i:=k) (by rw [HN.out];omega);obtain ⟨f',M⟩:=Yb (fs:=ys) (i:=k) (by rw [HM.out];omega);obtain ⟨b,N,A1,n1,k1,A2,n2,k2,rfl,av,J,hm⟩:=h1.elem j hf;obtain ⟨b',x,A3,n3,k3,A4,n4,k4,rfl,am,y,a9⟩:=h2.elem j M;have an:(k:Int) < n:=(by omega);have ao:(k:Int) < m:=(by omega);have R:=HA.out k f hf;have z:=HB.out k f' M;have HD:Hid (Zbb xs ys (k+1)=Zbb xs ys k+f.q * f'.q):=JZ (by rw [Ztp,Yo hf,Yo M]);have ab:Sz 34359738368 (Zbb xs ys k):=by
    refine (Ztq HA.out HB.out hK).mono ?_;have:=JS (2 * K+1) hk;have:=HS.out;omega
   clear hf M;have Y:=J;have Z:=y;obtain ⟨x1,x2,x3,x4⟩:=J;go_wp2_with fail;refine (rsignF_any _ f _ hm (R.sh (by omega))).mono ?_;rintro e w2 ⟨rfl,o⟩;have T:=hX.later o;have U:=hR.later o;have V:=hF.below o;have u:=Za j o j.size;have a0:=hm.below o;have D:=a9.below o;have P:=ZP o Y;have a1:=ZP o Z;clear hX hR hF j hm a9 Y Z y x1 x2 x3 x4 o;by_cases hz:f.q=0
   ·have L:qs f.q=0:=Yp.2 hz;have F:Hid (Zbb xs ys (k+1)=Zbb xs ys k):=JZ (by rw [HD.out,hz];simp [Rat.zero_mul,Rat.add_zero]);clear hz HD;go_wp2;go_roundw
    case rel=>exact ⟨k+1,by omega,by go_num,C,C',p,q,p',q',by rw [F.out];exact T,by rw [F.out];exact V,U,u,hg⟩
    case measure=>simp [intOf];omega
   ·have L:(qs f.q !=0)=true:=(by simpa using fun h=>hz (Yp.1 h));clear hz;obtain ⟨y1,y2,y3,y4⟩:=a1;go_wp2_with fail;refine (rsignF_any _ f' _ D (z.sh (by omega))).mono ?_;rintro e w3 ⟨rfl,r⟩;have t:=T.later r;have a2:=U.later r;have a3:=V.below r;have G:=Za u r u.size;have ac:=a0.below r;have a4:=D.below r;have H:=ZP r P;have I:=ZP r ⟨y1,y2,y3,y4⟩;clear T U V u a0 D P y1 y2 y3 y4 r L;by_cases hz:f'.q=0
    ·have L:qs f'.q=0:=Yp.2 hz;have F:Hid (Zbb xs ys (k+1)=Zbb xs ys k):=JZ (by rw [HD.out,hz];simp [Rat.mul_zero,Rat.add_zero]);clear hz HD;go_wp2;go_roundw
     case rel=>exact ⟨k+1,by omega,by go_num,C,C',p,q,p',q',by rw [F.out];exact t,by rw [F.out];exact a3,a2,G,hg⟩
     case measure=>simp [intOf];omega
    ·have L:(qs f'.q !=0)=true:=(by simpa using fun h=>hz (Yp.1 h));clear hz;have ad:(canF (f.q * f'.q)).Sh:=((XN (R.sz hK) (z.sz hK))).sh (by omega);have a5:(canF (Zbb xs ys k)).Sh:=ab.sh (JY _);have HV:Hid ((canF (Zbb xs ys k)).q+(canF (f.q * f'.q)).q=Zbb xs ys (k+1)):=JZ (by rw [Zu,Zu,HD.out]);have ak:b≠w1.heap.size:=(by omega);have al:b'≠w1.heap.size:=(by omega);generalize canF (Zbb xs ys k)=DK at *;go_wp2_with fail;refine wp_region_noPanic ?_;refine Zcf (S:=fun w'=>(w'.cell? ⟨b,N+k * 4,none⟩=some (.bool f.num.neg)∧w'.cell? ⟨b,N+k * 4+1,none⟩=some (.slice A1 n1 k1)∧w'.cell? ⟨b,N+k * 4+2,none⟩=some (.bool f.den.neg)∧w'.cell? ⟨b,N+k * 4+3,none⟩=some (.slice A2 n2 k2))∧(w'.cell? ⟨b',x+k * 4,none⟩=some (.bool f'.num.neg)∧w'.cell? ⟨b',x+k * 4+1,none⟩=some (.slice A3 n3 k3)∧w'.cell? ⟨b',x+k * 4+2,none⟩=some (.bool f'.den.neg)∧w'.cell? ⟨b',x+k * 4+3,none⟩=some (.slice A4 n4 k4))∧(w'.cell? ⟨w1.heap.size,0,none⟩=some (.bool DK.num.neg)∧w'.cell? ⟨w1.heap.size,1,none⟩=some (.slice C p q)∧w'.cell? ⟨w1.heap.size,2,none⟩=some (.bool DK.den.neg)∧w'.cell? ⟨w1.heap.size,3,none⟩=some (.slice C' p' q'))) (n:=11) (by kernel_rfl) ?_ (fun hHeld=>?_)
     ·exact ⟨H,I,t.drew.four⟩
     refine Zy (i:=0) (v:=?_) rfl (by kernel_rfl) (by kernel_rfl) (by kernel_rfl) (by kernel_rfl) (fun _ _ _ h=>h) (Or.inl ⟨by rfl,?y1⟩) (by assumption) ?_
     case y1=>(intro _ a;(try dsimp only at a);go_simp;(try with_reducible rfl))
     (try simp only [Act.put,List.setIfInBounds_toArray,List.set_cons_zero,List.set_cons_succ]);refine Zy (i:=1) (v:=?_) rfl (by kernel_rfl) (by kernel_rfl) (by kernel_rfl) (by kernel_rfl) (fun _ _ _ h=>h) (Or.inl ⟨by rfl,?y2⟩) (by assumption) ?_
     case y2=>(intro _ a;(try dsimp only at a);go_simp;(try with_reducible rfl))
     (try simp only [Act.put,List.setIfInBounds_toArray,List.set_cons_zero,List.set_cons_succ]);refine Zy (i:=2) (v:=?_) rfl (by kernel_rfl) (by kernel_rfl) (by kernel_rfl) (by kernel_rfl) (fun _ _ _ h=>h) (Or.inl ⟨by rfl,?y3⟩) (by assumption) ?_
     case y3=>(intro _ a;(try dsimp only at a);go_simp;(try with_reducible rfl))
     (try simp only [Act.put,List.setIfInBounds_toArray,List.set_cons_zero,List.set_cons_succ]);refine Zy (i:=3) (v:=?_) rfl (by kernel_rfl) (by kernel_rfl) (by kernel_rfl) (by kernel_rfl) (fun _ _ _ h=>h) (Or.inl ⟨by rfl,?y4⟩) (by assumption) ?_
     case y4=>(intro _ a;(try dsimp only at a);go_simp;(try with_reducible rfl))
     (try simp only [Act.put,List.setIfInBounds_toArray,List.set_cons_zero,List.set_cons_succ]);refine Zy (i:=4) (v:=?_) rfl (by kernel_rfl) (by kernel_rfl) (by kernel_rfl) (by kernel_rfl) (fun _ _ _ h=>h) (Or.inl ⟨by rfl,?y5⟩) (by assumption) ?_
     case y5=>(intro _ a;(try dsimp only at a);go_simp;(try with_reducible rfl))
     (try simp only [Act.put,List.setIfInBounds_toArray,List.set_cons_zero,List.set_cons_succ]);refine Zy (i:=5) (v:=?_) rfl (by kernel_rfl) (by kernel_rfl) (by kernel_rfl) (by kernel_rfl) (fun _ _ _ h=>h) (Or.inl ⟨by rfl,?y6⟩) (by assumption) ?_
     case y6=>(intro _ a;(try dsimp only at a);go_simp;(try with_reducible rfl))
     (try simp only [Act.put,List.setIfInBounds_toArray,List.set_cons_zero,List.set_cons_succ]);refine Zy (i:=6) (v:=?_) rfl (by kernel_rfl) (by kernel_rfl) (by kernel_rfl) (by kernel_rfl) (fun _ _ _ h=>h) (Or.inl ⟨by rfl,?y7⟩) (by assumption) ?_
     case y7=>(intro _ a;(try dsimp only at a);go_simp;(try with_reducible rfl))
     (try simp only [Act.put,List.setIfInBounds_toArray,List.set_cons_zero,List.set_cons_succ]);refine Zy (i:=7) (v:=?_) rfl (by kernel_rfl) (by kernel_rfl) (by kernel_rfl) (by kernel_rfl) (fun _ _ _ h=>h) (Or.inl ⟨by rfl,?y8⟩) (by assumption) ?_
     case y8=>(intro _ a;(try dsimp only at a);go_simp;(try with_reducible rfl))
     (try simp only [Act.put,List.setIfInBounds_toArray,List.set_cons_zero,List.set_cons_succ]);refine Zy (i:=8) (v:=?_) rfl (by kernel_rfl) (by kernel_rfl) (by kernel_rfl) (by kernel_rfl) (fun _ _ _ h=>h) (Or.inl ⟨by rfl,?y9⟩) (by assumption) ?_
     case y9=>(intro _ a;(try dsimp only at a);go_simp;(try with_reducible rfl))
     (try simp only [Act.put,List.setIfInBounds_toArray,List.set_cons_zero,List.set_cons_succ]);refine Wj (i:=9) (by kernel_rfl) rfl (fun KR hKR=>?_);go_simp;(with_reducible refine (rmulF_own _ _ f f' _ (ac.keep (ZF.drew _)) (a4.keep (ZF.drew _)) (R.sh (by omega)) (z.sh (by omega))).mono ?_);rintro e w8 ⟨v8,rfl,e8,g⟩;refine hKR.out _ _ ?_ (fun hHeld=>?_)
     ·exact ⟨ZP g H,ZP g I,(t.drew.later g).four⟩
     clear hKR KR;(try simp only [Act.put,List.setIfInBounds_toArray,List.set_cons_zero,List.set_cons_succ]);refine Wj (i:=10) (by kernel_rfl) rfl (fun KR hKR=>?_);go_simp;(with_reducible refine (raddF_own _ _ DK (canF (f.q * f'.q)) _ ((a3.keep (ZF.drew _)).below g) e8.frac a5 ad).mono ?_);rw [HV.out];rintro e w9 ⟨v9,rfl,e9,s⟩;obtain ⟨E,l9,k9,E',ai,aj,rfl,_,_⟩:=id e9.frac;obtain ⟨c0,c1,c2,c3⟩:=((t.drew.later g).later s).four;obtain ⟨f0,f1,f2,f3⟩:=((t.drew.later g).later s).fourF;refine hKR.out _ _ ?_ (fun hHeld=>?_)
     ·exact ⟨ZP s (ZP g H),ZP s (ZP g I),((t.drew.later g).later s).four⟩
     clear hKR KR;(try simp only [Act.put,List.setIfInBounds_toArray,List.set_cons_zero,List.set_cons_succ]);refine Zdd (i:=11) (by kernel_rfl) rfl (by decide) (fun KR hKR=>?_);go_simp;refine hKR.out _ _ ?_;clear hKR KR;(try simp only [Act.put,List.setIfInBounds_toArray,List.set_cons_zero,List.set_cons_succ]);refine UY (by kernel_rfl) (NoPanic.normal ?_) _;have a6:=(t.drew.later g).later s;have a7:=Za G.drew g G.size;have ae:=Za a7 s a7.size;have af:=((a2.drew.later g).later s).far4 (show w.heap.size≠w1.heap.size by omega);go_wp2;go_roundw
     case rel=>exact ⟨k+1,by omega,by go_num,E,E',l9,k9,ai,aj,a6.set4 _ _ _ _,e9.frac.keep (a6.keep4 (by decide) _ _ _ _),af _ _ _ _,ZG ae (by omega) _ _ _ _,hg⟩
     case measure=>simp [intOf];omega
  ·have a8:k=min n m:=(by omega);have X:decide (k < n)=false∨(decide (k < n)=true∧decide (k < m)=false):=by
    rcases JX k n with h | h
    ·right;simp;omega
    ·left;simp;omega
   have ag:=JZ a8;clear a8 hkl hk;obtain ⟨x1,x2,x3,x4⟩:=hX.four;obtain ⟨c0,c1,c2,c3⟩:=hR.four;obtain ⟨f0,f1,f2,f3⟩:=hR.fourF;generalize aa:canF (Zbb xs ys k)=DK at *;have ah:=JZ aa;clear aa;rcases X with X | ⟨X,hex2⟩;all_goals
    go_wp2;refine Zn Tryz.results18 Tryz.underlying46 (by kernel_rfl) rfl (hR.set4 _ _ _ _) rfl ?_;rw [← ag.out,ah.out];exact Z0 hR hF j (JY _)
theorem vector_any (v:Value) (es:List En) (n:Int) (w:World) (h:Vf w v es) (hs:∀(k:Nat) (e:En),es[k]? =some e→e.f.Sh) (hi:EnI es) (h0: -9223372036854775808≤n) (h1:n≤9223372036854775807):
 Calls Tryz.prog 119 #[v,.int .i64 n] w fun e w'=>e= .returned (.int .i64 (vecErr es n))∧Below w.heap.size w w':=by
 obtain ⟨A,c,rfl,L,M⟩:=h.shape;generalize hl:es.length=l at *;have HL:=JZ hl;have HS:=JZ hs;have HI:=JZ hi;clear hl hs hi;by_cases r:n < 0
 ·have HV:Hid (vecErr es n=5):=JZ (by unfold vecErr;rw [if_pos (.inl r)]);go_enter Tryz.func119,Tryz.ntmps119;go_wp2;go_ret;exact ⟨by rw [HV.out];rfl,JR _ _⟩
 ·by_cases s:4096 < n
  ·have HV:Hid (vecErr es n=5):=JZ (by unfold vecErr;rw [if_pos (.inr s)]);go_enter Tryz.func119,Tryz.ntmps119;go_wp2;go_ret;exact ⟨by rw [HV.out];rfl,JR _ _⟩
  ·have hv:vecErr es n=UD n (es.drop 0) (Wt es 0):=by
    unfold vecErr;rw [if_neg (by omega)];rfl
   generalize vecErr es n=d at *;have HV:=JZ hv;clear hv;have C:decide (n < 0)=false:=(by simpa using r);have D:decide (4096 < n)=false:=(by simpa using s);clear r s;go_enter Tryz.func119,Tryz.ntmps119;go_wp2;clear C D
   go_loopw [5] (fun i wr=>∃k:Nat,k≤l∧i= .int .i64 k∧Below w.heap.size w wr∧d=UD n (es.drop k) (Wt es k)) (fun i _=>l - (intOf i).toNat)
   case atStart=>exact ⟨0,by omega,rfl,JR _ _,HV.out⟩
   case round=>
    obtain ⟨k,hk,rfl,a,F⟩:=hrel;have HE:=JZ F;clear F HV;rcases JX k l with hkl | hkl
    ·obtain ⟨e,he⟩:=YZ (es:=es) (i:=k) (by rw [HL.out];exact hkl);obtain ⟨b,N,A1,n1,c1,A2,n2,c2,rfl,O,g,hm⟩:=h.elem a he;obtain ⟨x0,x1,x2,x3,x4⟩:=g;obtain ⟨i0,i1⟩:=HI.out k e he;have u:=HS.out k e he;by_cases t:e.idx < 0
     ·have HR:Hid (d=5):=JZ (HE.out.trans (Zfp he (.inl t)));clear he;go_wp2;go_ret;exact ⟨by rw [HR.out];rfl,a⟩
     ·by_cases B:n≤e.idx
      ·have HR:Hid (d=5):=JZ (HE.out.trans (Zfp he (.inr B)));clear he;go_wp2;go_ret;exact ⟨by rw [HR.out];rfl,a⟩
      ·have E:¬(e.idx < 0∨n≤e.idx):=(by omega);have o:=JZ E;have C:decide (e.idx < 0)=false:=(by simpa using t);have D:decide (n≤e.idx)=false:=(by simpa using B);clear E t B;by_cases x:k=0
       ·have HP:Hid (leP (Wt es k) e.idx=false):=JZ (by rw [x];rfl);have hg:decide ((0:Int) < (k:Int))=false:=(by simp;omega);have G:decide (0 < k)=false:=(by simp;omega);clear x;by_cases hz:e.f.q=0
        ·have z:qs e.f.q=0:=Yp.2 hz;have HR:Hid (d=11):=JZ (HE.out.trans (Zji he o.out HP.out hz));clear he hz;go_wp2
         go_quiet (fail)
         go_wp2_with fail;refine (rsignF_any _ e.f _ (hm.keep (ZF.drewN _ _)) u).mono ?_;rintro _ w2 ⟨rfl,m⟩;go_wp2;go_ret;exact ⟨by rw [HR.out];rfl,Za (below_drewN a _) m a.size⟩
        ·have z:(qs e.f.q==0)=false:=(by simpa using fun h=>hz (Yp.1 h));have HR:Hid (d=UD n (es.drop (k+1)) (Wt es (k+1))):=JZ (HE.out.trans (Zjj he o.out HP.out hz));clear he hz;go_wp2
         go_quiet (fail)
         go_wp2_with fail;refine (rsignF_any _ e.f _ (hm.keep (ZF.drewN _ _)) u).mono ?_;rintro _ w2 ⟨rfl,m⟩;go_wp2;go_roundw
         case rel=>exact ⟨k+1,by omega,by go_num,Za (below_drewN a _) m a.size,HR.out⟩
         case measure=>simp [intOf];omega
       ·obtain ⟨j,hj⟩:∃j,k=j+1:=⟨k - 1,by omega⟩;have J:(k:Int) - 1=(j:Int):=(by omega);have hg:(0:Int) < (k:Int):=(by omega);have G:0 < k:=(by omega);have HJ:=JZ hj;obtain ⟨p,hp⟩:=YZ (es:=es) (i:=j) (by rw [HL.out];omega);obtain ⟨b2,I,B1,m1,d1,B2,m2,d2,hA,_,g,_⟩:=h.elem a hp;injection hA with hA;injection hA with hA1 hA2;subst hA1 hA2;obtain ⟨y0,_,_,_,_⟩:=g;obtain ⟨j0,j1⟩:=HI.out j p hp;have K:(j:Int) < l:=(by omega);by_cases y:e.idx≤p.idx
        ·have HR:Hid (d=8):=JZ (HE.out.trans (by rw [HJ.out] at he ⊢;exact Zqe he hp o.out y));clear he hp x hj;go_wp2
         go_quiet (fail)
         go_wp2;go_ret;exact ⟨by rw [HR.out];rfl,below_drewN a _⟩
        ·have HP:Hid (leP (Wt es k) e.idx=false):=JZ (by rw [HJ.out];exact Zxu hp y);have H:decide (e.idx≤p.idx)=false:=(by simpa using y);clear hp x hj y;by_cases hz:e.f.q=0
         ·have z:qs e.f.q=0:=Yp.2 hz;have HR:Hid (d=11):=JZ (HE.out.trans (Zji he o.out HP.out hz));clear he hz;go_wp2
          go_quiet (fail)
          go_wp2_with fail;refine (rsignF_any _ e.f _ (hm.keep (ZF.drewN _ _)) u).mono ?_;rintro _ w2 ⟨rfl,m⟩;go_wp2;go_ret;exact ⟨by rw [HR.out];rfl,Za (below_drewN a _) m a.size⟩
         ·have z:(qs e.f.q==0)=false:=(by simpa using fun h=>hz (Yp.1 h));have HR:Hid (d=UD n (es.drop (k+1)) (Wt es (k+1))):=JZ (HE.out.trans (Zjj he o.out HP.out hz));clear he hz;go_wp2
          go_quiet (fail)
          go_wp2_with fail;refine (rsignF_any _ e.f _ (hm.keep (ZF.drewN _ _)) u).mono ?_;rintro _ w2 ⟨rfl,m⟩;go_wp2;go_roundw
          case rel=>exact ⟨k+1,by omega,by go_num,Za (below_drewN a _) m a.size,HR.out⟩
          case measure=>simp [intOf];omega
    ·have HR:Hid (d=0):=JZ (HE.out.trans (Zxt (by rw [HL.out];omega)));go_wp2;go_ret;exact ⟨by rw [HR.out];rfl,a⟩
end Go.Proofs.YtgbhebappffbdaaGreat
