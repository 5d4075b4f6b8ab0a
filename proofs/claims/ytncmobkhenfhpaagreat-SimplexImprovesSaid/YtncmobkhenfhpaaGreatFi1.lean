/- Contracts that the claim is built on; no condition. -/
import Derived.Test.YtncmobkhenfhpaaGreatFi2
set_option linter.unusedVariables false
set_option linter.unusedSimpArgs false
set_option maxRecDepth 100000
set_option maxHeartbeats 40000000
namespace Go.Proofs.YtncmobkhenfhpaaGreat
open Go.RowKit
namespace Pl
end Pl
open Pl
attribute [local go_sem ↓] Go.wp_at_zero Go.wp_at_succ
theorem radd_fin {O xs ys:List Nat} {k:Nat} {z:Int} (hO:O.length=k) (hz:0≤z) (hx:xs.length+1≤k) (hy:ys.length+1≤k) (okx:okD xs) (oky:okD ys)
 (h:(vt O k:Int)+z * ((B32^k:Nat):Int)=vt xs k+vt ys k):val O=val xs+val ys:=by
 rw [Xv (by omega),Xv (show xs.length≤k by omega),Xv (show ys.length≤k by omega)] at h;obtain ⟨j,rfl⟩:∃j,k=j+1:=⟨k - 1,by omega⟩;have a1:=Nat.lt_of_lt_of_le (Zia okx) (Nat.pow_le_pow_right B32_pos (show xs.length≤j by omega));have a2:=Nat.lt_of_lt_of_le (Zia oky) (Nat.pow_le_pow_right B32_pos (show ys.length≤j by omega));rw [Nat.pow_succ] at h;generalize B32^j=p at *;rcases Int.lt_or_eq_of_le hz with h1 | h1
 ·have:1 * ((p * B32:Nat):Int)≤z * ((p * B32:Nat):Int):=Int.mul_le_mul_of_nonneg_right (by omega) (by omega);unfold B32 at *;omega
 ·subst h1;omega
theorem raddDigits_any (v1 v2:Value) (xs ys:List Nat) (w:World) (h1:ZO w v1 xs) (h2:ZO w v2 ys) (hx:xs.length≤549755813888) (hy:ys.length≤549755813888):
 Calls Tryz.prog 132 #[v1,v2] w fun e w'=>∃v',e= .returned v'∧ZO w' v' (Zl (val xs+val ys))∧Below w.heap.size w w':=by
 obtain ⟨A,l,c,rfl⟩:=h1.shape;obtain ⟨hl,j,p,hc⟩:=h1.len;obtain ⟨A2,l2,c2,rfl⟩:=h2.shape;obtain ⟨kl,m,q,kc⟩:=h2.len;rcases Nat.lt_or_ge l l2 with hll | hll
 ·have b:=YJ (l2+1) (by omega)
  push_cast at b
  have HX:Hid (xs.length≤l2):=Lib.hid (by omega);have HY:Hid (ys.length≤l2):=Lib.hid (by omega);have n:(l2:Int)≤549755813888:=by omega
  have d:=h1.ok;have f:=h2.ok;clear hl j kl m hx hy;go_enter Tryz.func132,Tryz.ntmps132;go_wp2;clear b
  go_loopw [7,8] (fun cy i wr=>∃(k:Nat) (O:List Nat) (z:Int),k≤l2+1∧i= .int .i64 k∧cy= .int .u64 z∧0≤z∧z≤1∧l2+1≤O.length∧O.length≤l2+1∧Yy wr w.heap.size O∧okD O∧Below w.heap.size w wr∧
   (vt O k:Int)+z * ((B32^k:Nat):Int)=vt xs k+vt ys k) (fun _ i _=>l2+1 - (intOf i).toNat)
  case atStart=>exact ⟨0,List.replicate (l2+1) 0,0,by omega,rfl,rfl,by omega,by omega,by simp,by simp,Yy.zeros w _,ZM _,(Below.refl _ _).alloc (Nat.le_refl _) _,by simp [YM]⟩
  case round=>
   obtain ⟨k,O,z,hk,rfl,rfl,z0,z1,hO,g,hB,ok,a,h⟩:=hrel;have HE:=Lib.hid h;clear h;rcases Nat.lt_or_ge k (l2+1) with hkl | hkl
   ·have x0:=Zp xs k;have x1:=Yj d k;have y0:=Zp ys k;have y1:=Yj f k;go_wp2_with fail;refine (Zam _ xs k _ (h1.below a) (by omega)).mono ?_;rintro e w1 ⟨rfl,rfl⟩;go_wp2_with fail;refine (Zam _ ys k _ (h2.below a) (by omega)).mono ?_;rintro e w1 ⟨rfl,rfl⟩;have ho:=hB.cell (k:=k) (by omega);have hf:=hB.frozen k;go_wp2;go_roundw
    case rel=>exact ⟨k+1,O.set k ((z+di xs k+di ys k) % 4294967296).toNat,_,by omega,by go_num,rfl,by omega,by omega,by simpa using hO,by simpa using g,hB.setI k (by omega),ZH ok k (by unfold B32;omega),a.setCell (Nat.le_refl _) _,UA (by omega) z0 rfl HE.out⟩
    case measure=>simp [intOf];omega
   ·obtain rfl:k=l2+1:=by omega
    have o:decide (((l2:Int)+1) < (l2:Int)+1)=false:=(by simp);go_wp2_with fail;refine (Y3 _ O _ ?_).mono ?_
    ·have:=hB.dig ok (c:=l2+1) g (by unfold maxLen;omega)
     rwa [show O.length=l2+1 from by omega] at this
    rintro e w1 ⟨v',rfl,hv,rfl⟩;go_wp2_with fail;go_ret;refine ⟨_,rfl,?_,a⟩
    rwa [radd_fin (show O.length=l2+1 by omega) z0 (by have:=HX.out;omega) (by have:=HY.out;omega) d f HE.out] at hv
 ·have b:=YJ (l+1) (by omega)
  push_cast at b
  have HX:Hid (xs.length≤l):=Lib.hid (by omega);have HY:Hid (ys.length≤l):=Lib.hid (by omega);have n:(l:Int)≤549755813888:=by omega
  have d:=h1.ok;have f:=h2.ok;clear hl j kl m hx hy;go_enter Tryz.func132,Tryz.ntmps132;go_wp2;clear b
  go_loopw [7,8] (fun cy i wr=>∃(k:Nat) (O:List Nat) (z:Int),k≤l+1∧i= .int .i64 k∧cy= .int .u64 z∧0≤z∧z≤1∧l+1≤O.length∧O.length≤l+1∧Yy wr w.heap.size O∧okD O∧Below w.heap.size w wr∧
   (vt O k:Int)+z * ((B32^k:Nat):Int)=vt xs k+vt ys k) (fun _ i _=>l+1 - (intOf i).toNat)
  case atStart=>exact ⟨0,List.replicate (l+1) 0,0,by omega,rfl,rfl,by omega,by omega,by simp,by simp,Yy.zeros w _,ZM _,(Below.refl _ _).alloc (Nat.le_refl _) _,by simp [YM]⟩
  case round=>
   obtain ⟨k,O,z,hk,rfl,rfl,z0,z1,hO,g,hB,ok,a,h⟩:=hrel;have HE:=Lib.hid h;clear h;rcases Nat.lt_or_ge k (l+1) with hkl | hkl
   ·have x0:=Zp xs k;have x1:=Yj d k;have y0:=Zp ys k;have y1:=Yj f k;go_wp2_with fail;refine (Zam _ xs k _ (h1.below a) (by omega)).mono ?_;rintro e w1 ⟨rfl,rfl⟩;go_wp2_with fail;refine (Zam _ ys k _ (h2.below a) (by omega)).mono ?_;rintro e w1 ⟨rfl,rfl⟩;have ho:=hB.cell (k:=k) (by omega);have hf:=hB.frozen k;go_wp2;go_roundw
    case rel=>exact ⟨k+1,O.set k ((z+di xs k+di ys k) % 4294967296).toNat,_,by omega,by go_num,rfl,by omega,by omega,by simpa using hO,by simpa using g,hB.setI k (by omega),ZH ok k (by unfold B32;omega),a.setCell (Nat.le_refl _) _,UA (by omega) z0 rfl HE.out⟩
    case measure=>simp [intOf];omega
   ·obtain rfl:k=l+1:=by omega
    have o:decide (((l:Int)+1) < (l:Int)+1)=false:=(by simp);go_wp2_with fail;refine (Y3 _ O _ ?_).mono ?_
    ·have:=hB.dig ok (c:=l+1) g (by unfold maxLen;omega)
     rwa [show O.length=l+1 from by omega] at this
    rintro e w1 ⟨v',rfl,hv,rfl⟩;go_wp2_with fail;go_ret;refine ⟨_,rfl,?_,a⟩
    rwa [radd_fin (show O.length=l+1 by omega) z0 (by have:=HX.out;omega) (by have:=HY.out;omega) d f HE.out] at hv
theorem rsubDigits_any (v1 v2:Value) (xs ys:List Nat) (w:World) (h1:ZO w v1 xs) (h2:ZO w v2 ys) (hle:val ys≤val xs) (hlen:ys.length≤xs.length) (hs:xs.length≤549755813888):
 Calls Tryz.prog 134 #[v1,v2] w fun e w'=>∃v',e= .returned v'∧ZO w' v' (Zl (val xs - val ys))∧Below w.heap.size w w':=
 (Zel v1 v2 xs ys w h1 h2 hle hlen hs).mono fun _ _ ⟨_,_,h1,h2,h3⟩=>⟨_,h1,h2,h3⟩
theorem radd_any (v1 v2:Value) (a b:RI) (w:World) (h1:Ye w v1 a) (h2:Ye w v2 b) (hs:a.ds.length≤274877906944) (hs2:b.ds.length≤274877906944):
 Calls Tryz.prog 102 #[v1,v2] w fun e w'=>∃v',e= .returned v'∧Ye w' v' (canI (a.z+b.z))∧Below w.heap.size w w':=by
 obtain ⟨A,n,c,rfl,hd⟩:=h1.shape;obtain ⟨A',n',c',rfl,B⟩:=h2.shape;obtain ⟨W,hW,hX,hY,hR,j⟩:=Zze w (.bool a.neg) (.slice A n c) (.bool b.neg) (.slice A' n' c');have d1:=hd.below j;have d2:=B.below j;have q1:=Ul hd.ok;have q2:=Ul B.ok;have r:w.heap.size≠w.heap.size+1+1:=by omega
 have s:w.heap.size+1≠w.heap.size+1+1:=by omega
 obtain ⟨x0,x1,_,_⟩:=hX.two;obtain ⟨y0,y1,_,_⟩:=hY.two;by_cases q:(a.neg==b.neg)=true
 ·have h:b.neg=a.neg:=(beq_iff_eq.1 q).symm;have m:(Zl (val a.ds+val b.ds)).length≤549755813888:=Nat.le_trans (Zzi _ _ 274877906944 (by omega) (by omega)) (by decide);have p:=Lib.hid h;clear h;go_enter Tryz.func102,Tryz.ntmps102;go_wp2_with fail;clear hW q
  go_region_held3 (fun w'=>(w'.cell? ⟨w.heap.size,0,none⟩=some (.bool a.neg)∧w'.cell? ⟨w.heap.size,1,none⟩=some (.slice A n c))∧(w'.cell? ⟨w.heap.size+1,0,none⟩=some (.bool b.neg)∧w'.cell? ⟨w.heap.size+1,1,none⟩=some (.slice A' n' c')))
   (first | with_reducible exact ⟨hX.drew.pair,hY.drew.pair⟩ | with_reducible exact ⟨(hX.drew.later d).pair,(hY.drew.later d).pair⟩ | with_reducible exact ⟨((hX.drew.later d).later f).pair,((hY.drew.later d).later f).pair⟩ | with_reducible exact ⟨((hX.drew.later d).later f).two_far r _ _,((hY.drew.later d).later f).two_far s _ _⟩)
   (first
    | (go_at_call 132;refine (raddDigits_any _ _ a.ds b.ds _ (d1.keep (ZJ.drew _)) (d2.keep (ZJ.drew _)) (by omega) (by omega)).mono ?_;rintro e w1 ⟨v1,rfl,e1,d⟩)
    | (go_at_call 106;refine (Zbs a.neg _ _ _ e1 m).mono ?_;rintro e w2 ⟨v2,rfl,e2,f⟩;obtain ⟨A3,n3,k3,rfl,_⟩:=e2.shape;obtain ⟨c0,c1,f0,f1⟩:=((hR.drew.later d).later f).two))
  go_wp2;refine Zq Tryz.results102 Tryz.underlying46 (by kernel_rfl) rfl (((hR.drew.later d).later f).set2 _ _) rfl ?_;rw [RI.z_eq,RI.z_eq,p.out,Zkz];exact YQ ((hR.drew.later d).later f) e2 (Za (Za j.drew d j.size) f (Nat.le_trans j.size d.size)) (by omega)
 ·have h:(a.neg==b.neg)=false:=by simpa using q
  clear q;have C:=Zqi (val a.ds) (val b.ds);rcases Nat.lt_or_ge (val a.ds) (val b.ds) with hlt | hge
  ·have hc:cmpN (val a.ds) (val b.ds)= -1:=Un hlt;have m:(Zl (val b.ds - val a.ds)).length≤549755813888:=Nat.le_trans (Zw (Nat.sub_le _ _)) (by omega);have t:(Zl (val a.ds)).length≤b.ds.length:=Nat.le_trans (Zw (Nat.le_of_lt hlt)) q2;have x:=Lib.hid hlt;clear hlt C;go_enter Tryz.func102,Tryz.ntmps102;go_wp2_with fail;clear hW;refine (Xi _ _ a.ds b.ds _ d1 d2).mono ?_;rw [hc];rintro e w0 ⟨rfl,g⟩;have k:=hX.later g;have l:=hY.later g;have o:=hR.later g;have u:=d1.below g;have v:=d2.below g;have i:=Za j g j.size;clear hX hY hR d1 d2 j hc x0 x1 y0 y1;have p:=Lib.hid h;clear h;go_wp2_with fail
   go_region_held3 (fun w'=>(w'.cell? ⟨w.heap.size,0,none⟩=some (.bool a.neg)∧w'.cell? ⟨w.heap.size,1,none⟩=some (.slice A n c))∧(w'.cell? ⟨w.heap.size+1,0,none⟩=some (.bool b.neg)∧w'.cell? ⟨w.heap.size+1,1,none⟩=some (.slice A' n' c')))
    (first | with_reducible exact ⟨k.drew.pair,l.drew.pair⟩ | with_reducible exact ⟨(k.drew.later d).pair,(l.drew.later d).pair⟩ | with_reducible exact ⟨((k.drew.later d).later f).pair,((l.drew.later d).later f).pair⟩ | with_reducible exact ⟨((k.drew.later d).later f).two_far r _ _,((l.drew.later d).later f).two_far s _ _⟩)
    (first
     | (go_at_call 135;refine (Y3 _ a.ds _ (u.keep (ZJ.drew _))).mono ?_;rintro e w3 ⟨v3,rfl,e3,rfl⟩)
     | (go_at_call 134;refine (rsubDigits_any _ _ b.ds (Zl (val a.ds)) _ (v.keep (ZJ.drew _)) e3 (by rw [Zk];exact Nat.le_of_lt x.out) t (by omega)).mono ?_;rw [Zk];rintro e w1 ⟨v1,rfl,e1,d⟩)
     | (go_at_call 106;refine (Zbs b.neg _ _ _ e1 m).mono ?_;rintro e w2 ⟨v2,rfl,e2,f⟩;obtain ⟨A3,n3,k3,rfl,_⟩:=e2.shape;obtain ⟨c0,c1,f0,f1⟩:=((o.drew.later d).later f).two))
   go_wp2;refine Zq Tryz.results102 Tryz.underlying46 (by kernel_rfl) rfl (((o.drew.later d).later f).set2 _ _) rfl ?_;rw [RI.z_eq,RI.z_eq,Zvi p.out (Nat.le_of_lt x.out)];exact YQ ((o.drew.later d).later f) e2 (Za (Za i.drew d i.size) f (Nat.le_trans i.size d.size)) (by omega)
  ·have hc:0≤cmpN (val a.ds) (val b.ds):=(by unfold cmpN;split;omega;split <;> omega);have m:(Zl (val a.ds - val b.ds)).length≤549755813888:=Nat.le_trans (Zw (Nat.sub_le _ _)) (by omega);have t:(Zl (val b.ds)).length≤a.ds.length:=Nat.le_trans (Zw hge) q1;have y:=Lib.hid hge;clear hge;go_enter Tryz.func102,Tryz.ntmps102;go_wp2_with fail;clear hW;refine (Xi _ _ a.ds b.ds _ d1 d2).mono ?_;rintro e w0 ⟨rfl,g⟩;generalize cmpN (val a.ds) (val b.ds)=cc at *;have k:=hX.later g;have l:=hY.later g;have o:=hR.later g;have u:=d1.below g;have v:=d2.below g;have i:=Za j g j.size;clear hX hY hR d1 d2 j x0 x1 y0 y1;have p:=Lib.hid h;clear h;go_wp2_with fail
   go_region_held3 (fun w'=>(w'.cell? ⟨w.heap.size,0,none⟩=some (.bool a.neg)∧w'.cell? ⟨w.heap.size,1,none⟩=some (.slice A n c))∧(w'.cell? ⟨w.heap.size+1,0,none⟩=some (.bool b.neg)∧w'.cell? ⟨w.heap.size+1,1,none⟩=some (.slice A' n' c')))
    (first | with_reducible exact ⟨k.drew.pair,l.drew.pair⟩ | with_reducible exact ⟨(k.drew.later d).pair,(l.drew.later d).pair⟩ | with_reducible exact ⟨((k.drew.later d).later f).pair,((l.drew.later d).later f).pair⟩ | with_reducible exact ⟨((k.drew.later d).later f).two_far r _ _,((l.drew.later d).later f).two_far s _ _⟩)
    (first
     | (go_at_call 135;refine (Y3 _ b.ds _ (v.keep (ZJ.drew _))).mono ?_;rintro e w3 ⟨v3,rfl,e3,rfl⟩)
     | (go_at_call 134;refine (rsubDigits_any _ _ a.ds (Zl (val b.ds)) _ (u.keep (ZJ.drew _)) e3 (by rw [Zk];exact y.out) t (by omega)).mono ?_;rw [Zk];rintro e w1 ⟨v1,rfl,e1,d⟩)
     | (go_at_call 106;refine (Zbs a.neg _ _ _ e1 m).mono ?_;rintro e w2 ⟨v2,rfl,e2,f⟩;obtain ⟨A3,n3,k3,rfl,_⟩:=e2.shape;obtain ⟨c0,c1,f0,f1⟩:=((o.drew.later d).later f).two))
   go_wp2;refine Zq Tryz.results102 Tryz.underlying46 (by kernel_rfl) rfl (((o.drew.later d).later f).set2 _ _) rfl ?_;rw [RI.z_eq,RI.z_eq,Zvh p.out y.out];exact YQ ((o.drew.later d).later f) e2 (Za (Za i.drew d i.size) f (Nat.le_trans i.size d.size)) (by omega)
theorem len_canI (z:Int):(canI z).ds.length=(Zl z.natAbs).length:=rfl
namespace Pl
theorem neg_raw (f:RF):Rat.divInt (-f.num.z) f.den.z= -f.q:=(Rat.neg_divInt _ _).symm
end Pl
theorem run_num (x y z u:Value) (w:World):(Instr.field 48 (.agg #[x,y,z,u]) 0).run Tryz.prog w= .ok (.agg #[x,y]) w:=by kernel_rfl
theorem rsignF_any (v:Value) (a:RF) (w:World) (h:Zv w v a) (hs:a.Sh):
 Calls Tryz.prog 42 #[v] w fun e w'=>e= .returned (.int .i64 (qs a.q))∧Below w.heap.size w w':=by
 obtain ⟨A,n,c,A',n',c',rfl,_,_⟩:=id h;obtain ⟨W,hW,hX,b⟩:=YZ w (.bool a.num.neg) (.slice A n c) (.bool a.den.neg) (.slice A' n' c');have h':=h.below b;obtain ⟨p1,p2,p3,p4⟩:=hX.four;have hz:=hs.sz.1;go_enter Tryz.func42,Tryz.ntmps42;go_wp2_with fail;clear hW;refine (Zey _ a _ h' hs).mono ?_;rintro e w1 ⟨v1,rfl,e1,j⟩;obtain ⟨B,m,d,B',m',d',rfl,_,_⟩:=id e1.1;have f:sgn (canF a.q).num.z=qs a.q:=by rw [show (canF a.q).num=canI a.q.num from rfl,ZN];rfl
 have g:(Zl (val (canF a.q).num.ds)).length≤549755813888:=by rw [show (canF a.q).num=canI a.q.num from rfl,YC];omega
 have i:=Lib.hid f;clear f;generalize canF a.q=P at *;obtain ⟨i1,i2⟩:=e1.1.num;have l:=fun (w:World)=>run_num (.bool P.num.neg) (.slice B m d) (.bool P.den.neg) (.slice B' m' d') w
 go_wp2_with fail;refine (Zco _ P.num _ i1 g).mono ?_;rw [i.out];rintro e w2 ⟨rfl,k⟩;go_wp2;go_ret;have b1:=Za b j b.size;exact ⟨rfl,Za b1 k b1.size⟩
theorem rnegateF_own (v:Value) (a:RF) (w:World) (h:Zv w v a) (hs:a.Sh):
 Calls Tryz.prog 62 #[v] w fun e w'=>∃v',e= .returned v'∧Wd w.heap.size w' v' (canF (-a.q))∧Below w.heap.size w w':=by
 obtain ⟨A,n,c,A',n',c',rfl,_,_⟩:=id h;obtain ⟨W,hW,j,hX,hR,g⟩:=Zla w (.bool a.num.neg) (.slice A n c) (.bool a.den.neg) (.slice A' n' c') (.bool false) (.slice none 0 0) (.bool false) (.slice none 0 0);obtain ⟨i1,i2⟩:=(h.below g).num;obtain ⟨k,l⟩:=hs;have i:w.heap.size≠w.heap.size+1:=by omega
 go_enter Tryz.func62,Tryz.ntmps62;go_wp2_with fail;clear hW
 go_region_held3 (fun w'=>w'.cell? ⟨w.heap.size,0,none⟩=some (.bool a.num.neg)∧w'.cell? ⟨w.heap.size,1,none⟩=some (.slice A n c)∧w'.cell? ⟨w.heap.size,2,none⟩=some (.bool a.den.neg)∧w'.cell? ⟨w.heap.size,3,none⟩=some (.slice A' n' c'))
  (first | with_reducible exact hX.drew.four | with_reducible exact (hX.drew.later b).four | with_reducible exact ((hX.drew.later b).later f).four | with_reducible exact (((hX.drew.later b).later f).far4 i _ _ _ _).four)
  (first
   | (go_at_call 99;refine (Zcl _ a.num _ (i1.keep (ZJ.drew _)) (by omega)).mono ?_;rintro e w6 ⟨v6,rfl,e6,b⟩)
   | (go_at_call 67;refine (Zgk _ _ (canI (-a.num.z)) a.den _ e6 ((i2.keep (ZJ.drew _)).below b) (by rw [YC,Int.natAbs_neg,ZW];omega) (by omega)).mono ?_;rw [ZN,neg_raw];rintro e w7 ⟨v7,rfl,e7,f⟩;obtain ⟨B,m,d,B',m',d',rfl,_,_⟩:=id e7.1;obtain ⟨c0,c1,c2,c3⟩:=((hR.drew.later b).later f).four;obtain ⟨f0,f1,f2,f3⟩:=((hR.drew.later b).later f).fourF))
 go_wp2;refine Zq Tryz.results62 Tryz.underlying48 (by kernel_rfl) rfl (((hR.drew.later b).later f).set4 _ _ _ _) rfl ?_;have b1:=Za g.drew b g.size;exact WK ((hR.drew.later b).later f) (e7.mono b1.size) (Za b1 f b1.size) (by omega)
theorem rmulF_own (v1 v2:Value) (a b:RF) (w:World) (h1:Zv w v1 a) (h2:Zv w v2 b) (hs:a.Sh) (hs2:b.Sh):
 Calls Tryz.prog 32 #[v1,v2] w fun e w'=>∃v',e= .returned v'∧Wd w.heap.size w' v' (canF (a.q * b.q))∧Below w.heap.size w w':=by
 obtain ⟨A,n,c,A',n',c',rfl,_,_⟩:=id h1;obtain ⟨B,m,d,B',m',d',rfl,_,_⟩:=id h2;obtain ⟨W,hW,hX,hY,hR,p⟩:=Zrl w (.bool a.num.neg) (.slice A n c) (.bool a.den.neg) (.slice A' n' c') (.bool b.num.neg) (.slice B m d) (.bool b.den.neg) (.slice B' m' d');have i1:=h1.below p;have i2:=h2.below p;have J:w.heap.size≠w.heap.size+1:=by omega
 have y:w.heap.size+1+1≠w.heap.size:=by omega
 have D:w.heap.size+1+1≠w.heap.size+1:=by omega
 have o:True:=trivial;obtain ⟨p1,p2,p3,p4⟩:=hX.four;obtain ⟨q1,q2,q3,q4⟩:=hY.four;go_enter Tryz.func32,Tryz.ntmps32;go_wp2_with fail;clear hW
 go_upto_region 1 with (fail)
 go_cut [] (fun wx=>∃(A A' B B':Option Addr) (n c n' c' m d m' d':Nat),Ydq a.q b.q w wx A A' B B' n c n' c' m d m' d')
 case first=>
  go_region_with (first
   | (go_at_call 69;have _t:=o;refine (Zey _ a _ (i1.keep (ZJ.drew _)) hs).mono ?_;clear o _t;rintro e w6 ⟨v6,rfl,e6,j⟩;obtain ⟨A6,n6,k6,M,N,O,rfl,_,_⟩:=id e6.1;obtain ⟨V,X,Y,Z⟩:=(hY.drew.later j).four)
   | (go_at_call 69;refine (Zey _ b _ ((i2.keep (ZJ.drew _)).below j) hs2).mono ?_;rintro e w7 ⟨v7,rfl,e7,k⟩;obtain ⟨A7,n7,k7,R,S,T,rfl,_,_⟩:=id e7.1;obtain ⟨c0,c1,c2,c3⟩:=((hX.drew.later j).later k).four;obtain ⟨r0,r1,r2,r3⟩:=((hX.drew.later j).later k).fourF;obtain ⟨a0,a7,a8,a9⟩:=((hY.drew.later j).later k).four;obtain ⟨aa,ab,ac,ad⟩:=((hY.drew.later j).later k).fourF))
  all_goals
   go_wp2_with fail
   go_meet
   have b1:=Za p.drew j p.size;obtain ⟨a1,a2,a3,a4,a5,a6⟩:=Zzr ((hX.drew.later j).later k) ((hY.drew.later j).later k) ((hR.drew.later j).later k) J y D (e6.below k).1 e7.1 (Za b1 k b1.size) (by omega) (by omega) _ rfl;exact ⟨A6,M,A7,R,n6,k6,N,O,n7,k7,S,T,a1,a2,a3,a4,a5,a6⟩
 case rest=>
  obtain ⟨A,A',B,B',n,c,n',c',m,d,m',d',bX,bY,bR,fX,fY,be⟩:=hcut;clear p1 p2 p3 p4 q1 q2 q3 q4 hX hY hR p i1 i2 h1 h2 o;have r:=hs.sz;have s:=hs2.sz;obtain ⟨l1,l2⟩:=szI r;obtain ⟨l3,l4⟩:=szI s;have E:=zN a.q;have F:=zD a.q;have G:=zN b.q;have H:=zD b.q;generalize canF a.q=P at *;generalize canF b.q=Q at *;have t:=Lib.hid E;have u:=Lib.hid F;have v:=Lib.hid G;have x:=Lib.hid H;clear E F G H;obtain ⟨iN,iD⟩:=fX.num;obtain ⟨jN,jD⟩:=fY.num;have o:True:=trivial;have U:True:=trivial;have K:(Zl (val (canI (P.num.z * Q.num.z)).ds)).length≤137438953472:=(szV (by rw [t.out,v.out,Int.natAbs_mul];exact Nat.le_trans (XL _ _) (Nat.le_trans (Nat.add_le_add r.1 s.1) (by decide))));have L:(Zl (val (canI (P.den.z * Q.den.z)).ds)).length≤137438953472:=(szV (by rw [u.out,x.out,Int.natAbs_mul];exact Nat.le_trans (XL _ _) (Nat.le_trans (Nat.add_le_add r.2 s.2) (by decide))));have HV:Hid (Rat.divInt (P.num.z * Q.num.z) (P.den.z * Q.den.z)=a.q * b.q):=Lib.hid (by rw [t.out,u.out,v.out,x.out];exact Ycd _ _);clear r s hs hs2 t u v x;go_wp2_with fail
  go_region_held3 (fun w'=>(w'.cell? ⟨w.heap.size,0,none⟩=some (.bool P.num.neg)∧w'.cell? ⟨w.heap.size,1,none⟩=some (.slice A n c)∧w'.cell? ⟨w.heap.size,2,none⟩=some (.bool P.den.neg)∧w'.cell? ⟨w.heap.size,3,none⟩=some (.slice A' n' c'))∧(w'.cell? ⟨w.heap.size+1,0,none⟩=some (.bool Q.num.neg)∧w'.cell? ⟨w.heap.size+1,1,none⟩=some (.slice B m d)∧w'.cell? ⟨w.heap.size+1,2,none⟩=some (.bool Q.den.neg)∧w'.cell? ⟨w.heap.size+1,3,none⟩=some (.slice B' m' d')))
   (first | with_reducible exact ⟨bX.drew.four,bY.drew.four⟩ | with_reducible exact ⟨(bX.drew.later g).four,(bY.drew.later g).four⟩ | with_reducible exact ⟨((bX.drew.later g).later i).four,((bY.drew.later g).later i).four⟩ | with_reducible exact ⟨(((bX.drew.later g).later i).later h).four,(((bY.drew.later g).later i).later h).four⟩ | with_reducible exact ⟨((((bX.drew.later g).later i).later h).far4 (Ne.symm y) _ _ _ _).four,((((bY.drew.later g).later i).later h).far4 (Ne.symm D) _ _ _ _).four⟩)
   (first
    | (go_at_call 70;have _t:=o;refine (Zms _ _ P.num Q.num _ (iN.keep (ZJ.drew _)) (jN.keep (ZJ.drew _)) (by omega)).mono ?_;clear o _t;rintro e w8 ⟨v8,rfl,e8,g⟩)
    | (go_at_call 70;refine (Zms _ _ P.den Q.den _ ((iD.keep (ZJ.drew _)).below g) ((jD.keep (ZJ.drew _)).below g) (by omega)).mono ?_;rintro e w9 ⟨v9,rfl,e9,i⟩)
    | (go_at_call 67;refine (Zgk _ _ (canI (P.num.z * Q.num.z)) (canI (P.den.z * Q.den.z)) _ (e8.below i) e9 K L).mono ?_;rw [ZN,ZN,HV.out];rintro e ae ⟨af,rfl,I,h⟩;obtain ⟨C,l,f,C',l',f',rfl,_,_⟩:=id I.1;obtain ⟨c0,c1,c2,c3⟩:=(((bR.drew.later g).later i).later h).four;obtain ⟨f0,f1,f2,f3⟩:=(((bR.drew.later g).later i).later h).fourF))
  go_wp2;refine Zq Tryz.results32 Tryz.underlying48 (by kernel_rfl) rfl ((((bR.drew.later g).later i).later h).set4 _ _ _ _) rfl ?_;have b0:=be.drew;have b1:=Za b0 g b0.size;have b2:=Za b1 i b1.size;have b3:=Za b2 h b2.size;exact WK (((bR.drew.later g).later i).later h) (I.mono b2.size) b3 (by omega)
theorem raddF_own (v1 v2:Value) (a b:RF) (w:World) (h1:Zv w v1 a) (h2:Zv w v2 b) (hs:a.Sh) (hs2:b.Sh):
 Calls Tryz.prog 66 #[v1,v2] w fun e w'=>∃v',e= .returned v'∧Wd w.heap.size w' v' (canF (a.q+b.q))∧Below w.heap.size w w':=by
 obtain ⟨A,n,c,A',n',c',rfl,_,_⟩:=id h1;obtain ⟨B,m,d,B',m',d',rfl,_,_⟩:=id h2;obtain ⟨W,hW,hX,hY,hR,u⟩:=Zrl w (.bool a.num.neg) (.slice A n c) (.bool a.den.neg) (.slice A' n' c') (.bool b.num.neg) (.slice B m d) (.bool b.den.neg) (.slice B' m' d');have i1:=h1.below u;have i2:=h2.below u;have M:w.heap.size≠w.heap.size+1:=by omega
 have F:w.heap.size+1+1≠w.heap.size:=by omega
 have G:w.heap.size+1+1≠w.heap.size+1:=by omega
 have r:True:=trivial;obtain ⟨p1,p2,p3,p4⟩:=hX.four;obtain ⟨q1,q2,q3,q4⟩:=hY.four;go_enter Tryz.func66,Tryz.ntmps66;go_wp2_with fail;clear hW
 go_upto_region 1 with (fail)
 go_cut [] (fun wx=>∃(A A' B B':Option Addr) (n c n' c' m d m' d':Nat),Ydq a.q b.q w wx A A' B B' n c n' c' m d m' d')
 case first=>
  go_region_with (first
   | (go_at_call 69;have _t:=r;refine (Zey _ a _ (i1.keep (ZJ.drew _)) hs).mono ?_;clear r _t;rintro e w6 ⟨v6,rfl,e6,o⟩;obtain ⟨A6,n6,k6,T,U,V,rfl,_,_⟩:=id e6.1;obtain ⟨a8,a9,aa,ab⟩:=(hY.drew.later o).four)
   | (go_at_call 69;refine (Zey _ b _ ((i2.keep (ZJ.drew _)).below o) hs2).mono ?_;rintro e w7 ⟨v7,rfl,e7,p⟩;obtain ⟨A7,n7,k7,X,Y,Z,rfl,_,_⟩:=id e7.1;obtain ⟨c0,c1,c2,c3⟩:=((hX.drew.later o).later p).four;obtain ⟨r0,r1,r2,r3⟩:=((hX.drew.later o).later p).fourF;obtain ⟨ac,ad,ae,af⟩:=((hY.drew.later o).later p).four;obtain ⟨ag,ah,ai,aj⟩:=((hY.drew.later o).later p).fourF))
  all_goals
   go_wp2_with fail
   go_meet
   have b1:=Za u.drew o u.size;obtain ⟨a1,a2,a3,a4,a5,a6⟩:=Zzr ((hX.drew.later o).later p) ((hY.drew.later o).later p) ((hR.drew.later o).later p) M F G (e6.below p).1 e7.1 (Za b1 p b1.size) (by omega) (by omega) _ rfl;exact ⟨A6,T,A7,X,n6,k6,U,V,n7,k7,Y,Z,a1,a2,a3,a4,a5,a6⟩
 case rest=>
  obtain ⟨A,A',B,B',n,c,n',c',m,d,m',d',bX,bY,bR,fX,fY,be⟩:=hcut;clear p1 p2 p3 p4 q1 q2 q3 q4 hX hY hR u i1 i2 h1 h2 r;have s:=hs.sz;have t:=hs2.sz;obtain ⟨l1,l2⟩:=szI s;obtain ⟨l3,l4⟩:=szI t;have H:=zN a.q;have I:=zD a.q;have J:=zN b.q;have K:=zD b.q;generalize canF a.q=P at *;generalize canF b.q=Q at *;have D:=Lib.hid H;have v:=Lib.hid I;have E:=Lib.hid J;have x:=Lib.hid K;clear H I J K;obtain ⟨iN,iD⟩:=fX.num;obtain ⟨jN,jD⟩:=fY.num;have r:True:=trivial;have y:True:=trivial;have N:(Zl (P.num.z * Q.den.z).natAbs).length≤68719476736:=by rw [D.out,x.out,Int.natAbs_mul];exact Nat.le_trans (XL _ _) (Nat.add_le_add s.1 t.2)
  have O:(Zl (Q.num.z * P.den.z).natAbs).length≤68719476736:=by rw [E.out,v.out,Int.natAbs_mul];exact Nat.le_trans (XL _ _) (Nat.add_le_add t.1 s.2)
  have R:(Zl (val (canI (P.num.z * Q.den.z+Q.num.z * P.den.z)).ds)).length≤137438953472:=szV (Nat.le_trans (Zbp N O) (by decide));have S:(Zl (val (canI (P.den.z * Q.den.z)).ds)).length≤137438953472:=szV (by rw [v.out,x.out,Int.natAbs_mul];exact Nat.le_trans (XL _ _) (Nat.le_trans (Nat.add_le_add s.2 t.2) (by decide)));have HV:Hid (Rat.divInt (P.num.z * Q.den.z+Q.num.z * P.den.z) (P.den.z * Q.den.z)=a.q+b.q):=Lib.hid (by rw [D.out,v.out,E.out,x.out];exact Yce _ _);clear s t hs hs2 D v E x;go_wp2_with fail
  go_region_held3 (fun w'=>(w'.cell? ⟨w.heap.size,0,none⟩=some (.bool P.num.neg)∧w'.cell? ⟨w.heap.size,1,none⟩=some (.slice A n c)∧w'.cell? ⟨w.heap.size,2,none⟩=some (.bool P.den.neg)∧w'.cell? ⟨w.heap.size,3,none⟩=some (.slice A' n' c'))∧(w'.cell? ⟨w.heap.size+1,0,none⟩=some (.bool Q.num.neg)∧w'.cell? ⟨w.heap.size+1,1,none⟩=some (.slice B m d)∧w'.cell? ⟨w.heap.size+1,2,none⟩=some (.bool Q.den.neg)∧w'.cell? ⟨w.heap.size+1,3,none⟩=some (.slice B' m' d')))
   (first | with_reducible exact ⟨bX.drew.four,bY.drew.four⟩ | with_reducible exact ⟨(bX.drew.later h).four,(bY.drew.later h).four⟩ | with_reducible exact ⟨((bX.drew.later h).later j).four,((bY.drew.later h).later j).four⟩ | with_reducible exact ⟨(((bX.drew.later h).later j).later g).four,(((bY.drew.later h).later j).later g).four⟩ | with_reducible exact ⟨((((bX.drew.later h).later j).later g).later i).four,((((bY.drew.later h).later j).later g).later i).four⟩ | with_reducible exact ⟨(((((bX.drew.later h).later j).later g).later i).later k).four,(((((bY.drew.later h).later j).later g).later i).later k).four⟩ | with_reducible exact ⟨((((((bX.drew.later h).later j).later g).later i).later k).far4 (Ne.symm F) _ _ _ _).four,((((((bY.drew.later h).later j).later g).later i).later k).far4 (Ne.symm G) _ _ _ _).four⟩)
   (first
    | (go_at_call 70;have _t:=r;refine (Zms _ _ P.num Q.den _ (iN.keep (ZJ.drew _)) (jD.keep (ZJ.drew _)) (by omega)).mono ?_;clear r _t;rintro e w8 ⟨v8,rfl,e8,h⟩)
    | (go_at_call 70;have _t:=y;refine (Zms _ _ Q.num P.den _ ((jN.keep (ZJ.drew _)).below h) ((iD.keep (ZJ.drew _)).below h) (by omega)).mono ?_;clear y _t;rintro e w9 ⟨v9,rfl,e9,j⟩)
    | (go_at_call 102;refine (radd_any _ _ (canI (P.num.z * Q.den.z)) (canI (Q.num.z * P.den.z)) _ (e8.below j) e9 (by rw [len_canI];omega) (by rw [len_canI];omega)).mono ?_;rw [ZN,ZN];rintro e ak ⟨al,rfl,a0,g⟩)
    | (go_at_call 70;refine (Zms _ _ P.den Q.den _ ((((iD.keep (ZJ.drew _)).below h).below j).below g) ((((jD.keep (ZJ.drew _)).below h).below j).below g) (by omega)).mono ?_;rintro e am ⟨an,rfl,a7,i⟩)
    | (go_at_call 67;refine (Zgk _ _ (canI (P.num.z * Q.den.z+Q.num.z * P.den.z)) (canI (P.den.z * Q.den.z)) _ (a0.below i) a7 R S).mono ?_;rw [ZN,ZN,HV.out];rintro e ao ⟨ap,rfl,L,k⟩;obtain ⟨C,l,f,C',l',f',rfl,_,_⟩:=id L.1;obtain ⟨c0,c1,c2,c3⟩:=(((((bR.drew.later h).later j).later g).later i).later k).four;obtain ⟨f0,f1,f2,f3⟩:=(((((bR.drew.later h).later j).later g).later i).later k).fourF))
  go_wp2;refine Zq Tryz.results66 Tryz.underlying48 (by kernel_rfl) rfl ((((((bR.drew.later h).later j).later g).later i).later k).set4 _ _ _ _) rfl ?_;have b0:=be.drew;have b1:=Za b0 h b0.size;have b2:=Za b1 j b1.size;have b3:=Za b2 g b2.size;have b4:=Za b3 i b3.size;have b5:=Za b4 k b4.size;exact WK (((((bR.drew.later h).later j).later g).later i).later k) (L.mono b4.size) b5 (by omega)
theorem rsubF_own (v1 v2:Value) (a b:RF) (w:World) (h1:Zv w v1 a) (h2:Zv w v2 b) (hs:a.Sh) (hs2:b.Sh):
 Calls Tryz.prog 43 #[v1,v2] w fun e w'=>∃v',e= .returned v'∧Wd w.heap.size w' v' (canF (a.q - b.q))∧Below w.heap.size w w':=by
 obtain ⟨A,n,c,A',n',c',rfl,_,_⟩:=id h1;obtain ⟨B,m,d,B',m',d',rfl,_,_⟩:=id h2;obtain ⟨W,hW,hX,hY,hR,i⟩:=Zrl w (.bool a.num.neg) (.slice A n c) (.bool a.den.neg) (.slice A' n' c') (.bool b.num.neg) (.slice B m d) (.bool b.den.neg) (.slice B' m' d');have i1:=h1.below i;have i2:=h2.below i;have j:w.heap.size≠w.heap.size+1+1:=by omega
 have k:w.heap.size+1≠w.heap.size+1+1:=by omega
 have o:(canF (-b.q)).Sh:=(Zrr hs2.sz).sh (Nat.le_refl _);have HV:Hid (a.q+(canF (-b.q)).q=a.q - b.q):=Lib.hid (by rw [Zt,Rat.sub_eq_add_neg]);go_enter Tryz.func43,Tryz.ntmps43;go_wp2_with fail;clear hW
 go_region_held3 (fun w'=>(w'.cell? ⟨w.heap.size,0,none⟩=some (.bool a.num.neg)∧w'.cell? ⟨w.heap.size,1,none⟩=some (.slice A n c)∧w'.cell? ⟨w.heap.size,2,none⟩=some (.bool a.den.neg)∧w'.cell? ⟨w.heap.size,3,none⟩=some (.slice A' n' c'))∧(w'.cell? ⟨w.heap.size+1,0,none⟩=some (.bool b.num.neg)∧w'.cell? ⟨w.heap.size+1,1,none⟩=some (.slice B m d)∧w'.cell? ⟨w.heap.size+1,2,none⟩=some (.bool b.den.neg)∧w'.cell? ⟨w.heap.size+1,3,none⟩=some (.slice B' m' d')))
  (first | with_reducible exact ⟨hX.drew.four,hY.drew.four⟩ | with_reducible exact ⟨(hX.drew.later g).four,(hY.drew.later g).four⟩ | with_reducible exact ⟨((hX.drew.later g).later h).four,((hY.drew.later g).later h).four⟩ | with_reducible exact ⟨(((hX.drew.later g).later h).far4 j _ _ _ _).four,(((hY.drew.later g).later h).far4 k _ _ _ _).four⟩)
  (first
   | (go_at_call 62;(with_reducible refine (rnegateF_own _ b _ (i2.keep (ZJ.drew _)) hs2).mono ?_);rintro e w8 ⟨v8,rfl,e8,g⟩)
   | (go_at_call 66;(with_reducible refine (raddF_own _ _ a (canF (-b.q)) _ ((i1.keep (ZJ.drew _)).below g) e8.frac hs o).mono ?_);rw [HV.out];rintro e w9 ⟨v9,rfl,e9,h⟩;obtain ⟨C,l,f,C',l',f',rfl,_,_⟩:=id e9.1;obtain ⟨c0,c1,c2,c3⟩:=((hR.drew.later g).later h).four;obtain ⟨f0,f1,f2,f3⟩:=((hR.drew.later g).later h).fourF))
 go_wp2;refine Zq Tryz.results43 Tryz.underlying48 (by kernel_rfl) rfl (((hR.drew.later g).later h).set4 _ _ _ _) rfl ?_;have b1:=Za i.drew g i.size;exact WK ((hR.drew.later g).later h) (e9.mono b1.size) (Za b1 h b1.size) (by omega)
theorem ShH.sh {f:RF} (h:ShH f):f.Sh:=by unfold ShH at h;unfold RF.Sh;omega
theorem ShH.sz {f:RF} (h:ShH f):Sz 8589934592 f.q:=VJ (by rw [ZW];exact h.1) (by rw [ZW];exact h.2) (by decide)
theorem canF_qs (q:Rat):qs (canF q).q=qs q:=by rw [Zt]
theorem rcompareF_any (v1 v2:Value) (a b:RF) (w:World) (h1:Zv w v1 a) (h2:Zv w v2 b) (hs:ShH a) (hs2:ShH b):
 Calls Tryz.prog 29 #[v1,v2] w fun e w'=>e= .returned (.int .i64 (qs (a.q - b.q)))∧Below w.heap.size w w':=by
 obtain ⟨A,n,c,A',n',c',rfl,_,_⟩:=id h1;obtain ⟨B,m,d,B',m',d',rfl,_,_⟩:=id h2;obtain ⟨W,hW,h,hX,hY,f⟩:=Zla w (.bool a.num.neg) (.slice A n c) (.bool a.den.neg) (.slice A' n' c') (.bool b.num.neg) (.slice B m d) (.bool b.den.neg) (.slice B' m' d');have i1:=h1.below f;have i2:=h2.below f;obtain ⟨p1,p2,p3,p4⟩:=hX.four;obtain ⟨q1,q2,q3,q4⟩:=hY.four;have g:(canF (a.q - b.q)).Sh:=(Zcq hs.sz hs2.sz).sh (by decide);have HQ:=Lib.hid (canF_qs (a.q - b.q));clear h;go_enter Tryz.func29,Tryz.ntmps29;go_wp2_with fail;clear hW;refine (rsubF_own _ _ a b _ i1 i2 hs.sh hs2.sh).mono ?_;rintro e w1 ⟨v1,rfl,e1,i⟩;generalize canF (a.q - b.q)=DF at *;go_wp2_with fail;refine (rsignF_any _ DF _ e1.1 g).mono ?_;rw [HQ.out];rintro e w2 ⟨rfl,j⟩;go_wp2;go_ret;have b1:=Za f i f.size;exact ⟨rfl,Za b1 j b1.size⟩
theorem rcolumn_pos (v:Value) (p:LPd) (K j:Nat) (w:World) (h:LpM w v p) (ok:p.Ok K) (hK:K≤34359738368) (hin:p.In) (hj:j < p.cols.length) (hm:p.right.length≤64):
 Calls Tryz.prog 44 #[v,.int .i64 (j:Int)] w fun e w'=>∃v',e= .returned v'∧Yi w.heap.size w' v' (Yl p.right.length (p.col j))∧Below w.heap.size w w':=by
 obtain ⟨A,n,c,A',n',c',g,d,i,rfl,hc,hv,hr⟩:=h;obtain ⟨W,hW,hX,a⟩:=UV w (.slice A n c) (.slice A' n' c') (.slice g d i);obtain ⟨x0,x1,x2⟩:=hX.three;obtain ⟨m1,m2,m3⟩:=hv.len;obtain ⟨r1,r2,r3⟩:=hr.len;obtain ⟨es,he⟩:=XH hj;obtain ⟨b,r,A1,c1,rfl,s,l,m⟩:=hv.elem a he;have hO:=ok.2.2 j es he;have hI:=hin j es he;rw [← r1] at hm hI ⊢;rw [← m1] at hj;rw [LPd.col_pos he];have q:(j:Int) < n':=by omega
 have HS:Hid (∀(k:Nat) (e:En),es[k]? =some e→e.f.Sh):=Lib.hid fun k e hk=>(hO.2 k e hk).sh hK
 have HI:=Lib.hid hI;clear he hO hI r1 m1;go_enter Tryz.func44,Tryz.ntmps44;go_wp2_with fail;clear hW;refine (rdense_own _ es d _ m HS.out HI.out (by omega)).mono ?_;rintro _ w1 ⟨v1,rfl,e1,o⟩;obtain ⟨cs,ho,hf⟩:=e1;go_wp2;go_ret;exact ⟨_,rfl,⟨cs,Vi ho a.size,hf⟩,Za a o a.size⟩
theorem Yi.far4 {base:Nat} {w:World} {v:Value} {fs:List RF} {g i j k l:Nat} {x y z u:Value} (h:Yi base w v fs) (hg:g < base):
 ∀W,W=((((w.setCell ⟨g,i,none⟩ x).setCell ⟨g,j,none⟩ y).setCell ⟨g,k,none⟩ z).setCell ⟨g,l,none⟩ u)→Zd 48 w W→Yi base W v fs:=by
 rintro W rfl hk;obtain ⟨cs,h1,h2⟩:=h;refine ⟨cs,⟨h1.1,?_⟩,h2.keep (hk.keep (by decide))⟩;rcases h1.2 with hn | ⟨g',cap,cur,rfl,hb',hgg,rest⟩
 ·exact .inl hn
 ·refine .inr ⟨g',cap,cur,rfl,hb',?_,rest⟩;have a:g'≠g:=by omega
  rw [heap_setCell_other _ _ _ _ a,heap_setCell_other _ _ _ _ a,heap_setCell_other _ _ _ _ a,heap_setCell_other _ _ _ _ a];exact hgg
namespace Pl
def timesQ (p:LPd) (xs:List RF) (k r:Nat):Rat:=ZQ (fun j=>qAt xs j * p.col (j:Int) r) k
end Pl
namespace Pl
theorem qs_le {q:Rat}:qs q≤0↔q≤0:=by
 have:=@UW q;rw [← Rat.not_lt,← this];omega
end Pl
theorem LpO.lp {base:Nat} {w:World} {v:Value} {p:LPd} (h:LpO base w v p):LpM w v p:=by
 obtain ⟨s0,s1,s2,b1,rfl,h0,h1,h2,_,_⟩:=h;obtain ⟨A,c,rfl⟩:=h0.slice;obtain ⟨A',c',rfl,_,_⟩:=h1.shape;obtain ⟨a,b,rfl⟩:=h2.slice;exact ⟨_,_,_,_,_,_,_,_,_,rfl,h0.frs,h1,h2.frs⟩
theorem run_append_oneG (ty t e:TypeId) (i:TypeInfo) (z:Value) (size bytes:Nat) (ht:Tryz.prog.underlying t=some (.slice e)) (hi:Tryz.prog.info? e=some i) (hz:i.zero=some z)
 (hsize:i.size=size) (hby:i.bytes=bytes) (hzs:z.cells.size=size) (hsz:0 < size) (W:World) (base:Nat) (v:Value) (n:Nat) (xs news:List Value) (hown:W.ownsRow base e size v n xs)
 (hl:news.length=size) (h1:∀u∈news,u.oneCell'=true) (hn:n+1≤maxLen) (hb:(n+1) * bytes≤140737488355328) (hbase:base≤W.heap.size):
 ∃v' w',(Builtin.append_ #[t,t] ty #[v,.slice (some ⟨W.heap.size,0,none⟩) 1 1]).run Tryz.prog (W.alloc (.cells news.toArray e))= .ok v' w'∧w'.ownsRow base e size v' (n+1) (xs++news)∧Zd e W w'∧Below base W w'∧ZT v.ownBlock W w'∧(v'.ownBlock=v.ownBlock∨∀g,v'.ownBlock=some g→W.heap.size≤g):=by
 have c:Bk (W.alloc (.cells news.toArray e)) W.heap.size e news:=Bk.new W e news;obtain ⟨v',w',d,h2,h3,_,h5⟩:=run_append_own_at (P:=Tryz.prog) (W.alloc (.cells news.toArray e)) base t ty e i z size bytes ht hi hz hsize hby hzs hsz v n xs (hown.alloc _) ⟨W.heap.size,0,none⟩ 1 1 news (by omega) (fun j u hj=>by rw [addr_add,Nat.zero_add,c.cell];exact hj) h1 hn hb (by simp;omega);refine ⟨v',w',d,h2,?_,?_,⟨?_,?_⟩,?_⟩
 ·intro b cs t' fz a hc;have f:=Yo hc;refine (h3.block b (by simp;omega) ?_).trans ((Below.heap_alloc W _ b f).trans hc);intro e1;rcases hown.2 with ⟨rfl,_⟩ | ⟨g,cap,cur,rfl,_,hg,_⟩
  ·simp [Value.ownBlock] at e1
  ·simp [Value.ownBlock] at e1;subst e1;rw [hg] at hc;injection hc with hc;injection hc with _ h2 _;exact a h2.symm
 ·refine ((Below.refl _ _).alloc hbase _).grown h3 (by simp;omega) (fun k hk=>?_);exact (hown.lt k hk).1
 ·have:=h3.size;simp at this;omega
 ·intro b hb a;exact (h3.block b (by simp;omega) a).trans (Below.heap_alloc W _ b hb)
 ·rcases h5 with h5 | h5
  ·exact .inl h5
  ·right;intro g hg;rw [h5] at hg;injection hg with hg;simp at hg;omega
 where
  addr_add (g j:Nat):(⟨g,0,none⟩:Addr).add j=⟨g,0+j,none⟩:=by
   unfold Addr.add;split
   ·rename_i h;subst h;rfl
   ·rfl
theorem wpList_append_fracG {ops:Array Oper} {rest:List Oper} {o:Oper} {a:Act} {Q:Exit→Act→World→Prop} (hgd:o.guard=none) (s x:Operand)
 (ho:o.op= .call { callee:= .builtin .append,args:=#[s,x],argTypes:=#[23,23] })
 (W:World) (base:Nat) (v:Value) (fs:List RF) (hs:a.eval s=v) (hown:Yi base W v fs) (b b':Bool) (A A':Option Addr) (n c n' c':Nat) (f:RF) (hf:Zv W (.agg #[.bool b,.slice A n c,.bool b',.slice A' n' c']) f)
 (hx:a.eval x= .slice (some ⟨W.heap.size,0,none⟩) 1 1) (hn:fs.length+1≤1099511627776) (hbase:base≤W.heap.size)
 (h:∀v' w',Yi base w' v' (fs++[f])→Zd 48 W w'→Below base W w'→ZT v.ownBlock W w'→(v'.ownBlock=v.ownBlock∨∀g,v'.ownBlock=some g→W.heap.size≤g)→wpList Tryz.prog ops Q rest (a.put o.dst v') w'):
 wpList Tryz.prog ops Q (o::rest) a (W.alloc (.cells #[.bool b,.slice A n c,.bool b',.slice A' n' c'] 48)):=by
 obtain ⟨cs,h1,h2⟩:=hown;obtain ⟨i0,hi,d,e,i⟩:=info_parts info_frac;refine wpList_plain hgd fun K hK=>?_
 obtain ⟨v',w',hr,g1,g2,g3,g4,g5⟩:=run_append_oneG o.type 23 48 i0 _ 4 64 Tryz.underlying23 hi d e i rfl (by decide) W base v fs.length cs [.bool b,.slice A n c,.bool b',.slice A' n' c'] h1 rfl Ziw (by unfold maxLen;omega) (by omega) hbase;unfold Oper.wp execOp;simp only [ho,resolve,invoke,builtin,Sem.run_bind,Sem.run_pure,Result.andThen_ok,List.map_toArray,List.map_cons,List.map_nil,hs,hx];rw [show (Obj.cells #[.bool b,.slice A n c,.bool b',.slice A' n' c'] 48)=(Obj.cells [.bool b,.slice A n c,.bool b',.slice A' n' c'].toArray 48) from rfl];simp only [hr,Result.andThen_ok];have hk:=g2.keep (by decide);exact hK _ _ (h v' w' ⟨_,by simpa using g1,(h2.keep hk).snoc (hf.keep hk)⟩ g2 g3 g4 g5)
namespace Pl
def colC (cols:List (List En)) (j:Nat):Nat→Rat:=match cols[j]? with | some c=>Xt c | none=>fun _=>0
theorem col_colC (p:LPd) (j:Nat):p.col (j:Int)=colC p.cols j:=by
 unfold LPd.col colC;rw [if_pos (by omega),Int.toNat_natCast]
 cases p.cols[j]? <;> rfl
def timesC (cols:List (List En)) (xs:List RF) (k i:Nat):Rat:=ZQ (fun j=>qAt xs j * colC cols j i) k
theorem timesQ_C (p:LPd) (xs:List RF) (k i:Nat):timesQ p xs k i=timesC p.cols xs k i:=Zj fun j _=>by rw [col_colC]
theorem qAt_left {xs:List RF} {f:RF} {j:Nat} (h:j < xs.length):qAt (xs++[f]) j=qAt xs j:=by unfold qAt;rw [List.getElem?_append_left h]
theorem qAt_end {xs:List RF} {f:RF}:qAt (xs++[f]) xs.length=f.q:=by unfold qAt;rw [List.getElem?_append_right (Nat.le_refl _),Nat.sub_self];rfl
theorem timesC_snoc (cols:List (List En)) {xs:List RF} (f:RF) {k:Nat} (hk:xs.length=k) (i:Nat):timesC cols (xs++[f]) (k+1) i=timesC cols xs k i+f.q * colC cols k i:=by
 subst hk;unfold timesC;rw [ZF,qAt_end,Zj fun j hj=>by rw [qAt_left hj]]
def NN (xs:List RF):Prop:=∀(j:Nat) (f:RF),xs[j]? =some f→0≤f.q
theorem NN.nil:NN []:=fun j f h=>by simp at h
theorem NN.snoc {xs:List RF} (h:NN xs) {f:RF} (hf:0≤f.q):NN (xs++[f]):=fun i g hg=>by
 rcases Nat.lt_or_ge i xs.length with hi | hi
 ·rw [List.getElem?_append_left hi] at hg;exact h i g hg
 ·rw [List.getElem?_append_right hi] at hg
  have:i - xs.length=0:=by
   rcases Nat.eq_zero_or_pos (i - xs.length) with e | e
   ·exact e
   ·rw [List.getElem?_eq_none (by simp;omega)] at hg;cases hg
  rw [this] at hg;simp at hg;subst hg;exact hf
def mixR (T:Nat→Rat) (q:Rat) (C:Nat→Rat) (r i:Nat):Rat:=if i < r then T i+q * C i else T i
theorem mixR_zero (T:Nat→Rat) (q:Rat) (C:Nat→Rat):mixR T q C 0=T:=by funext i;simp [mixR]
theorem mixR_at (T:Nat→Rat) (q:Rat) (C:Nat→Rat) (r:Nat):mixR T q C r r+q * C r=mixR T q C (r+1) r:=by simp [mixR]
theorem mixR_next (T:Nat→Rat) (q:Rat) (C:Nat→Rat) (r:Nat):(fun i=>if i=r then mixR T q C (r+1) r else mixR T q C r i)=mixR T q C (r+1):=by
 funext i
 by_cases h:i=r
 ·subst h;rw [if_pos rfl]
 ·rw [if_neg h];unfold mixR;by_cases h2:i < r
  ·rw [if_pos h2,if_pos (by omega)]
  ·rw [if_neg h2,if_neg (by omega)]
theorem Sz_colC {m:Nat} {cols:List (List En)} (h:∀(j:Nat) (c:List En),cols[j]? =some c→WQ m c) (j i:Nat):Sz 1 (colC cols j i):=by
 unfold colC
 cases hc:cols[j]? with
 | some c=>exact Sz_col (fun k e he=>((h j c hc).2.2 k e he).2.2.2) (Nat.le_refl _) i
 | none=>exact Sz_zero
theorem Sz_timesC {m:Nat} {cols:List (List En)} (h:∀(j:Nat) (c:List En),cols[j]? =some c→WQ m c) {xs:List RF} (hx:RsL 2 xs) {k:Nat} (hk:k≤5) (i:Nat):Sz 21 (timesC cols xs k i):=
 (Zix (K:=3) fun j _=>(We (hx.qAt (by decide) j) (Sz_colC h j i)).mono (by omega)).mono (by omega)
theorem Sz_mixR {T C:Nat→Rat} {q:Rat} {r i:Nat} (h1:Sz 21 (T i)) (h2:Sz 2 q) (h3:Sz 1 (C i)):Sz 32 (mixR T q C r i):=by
 unfold mixR;split
 ·exact (Zxy h1 (We h2 h3)).mono (by omega)
 ·exact h1.mono (by omega)
end Pl
theorem Bk.far4' {w:World} {g g':Nat} {t:TypeId} {cs:List Value} (h:Bk w g t cs) (hne:g≠g') (i j k l:Nat) (x y z u:Value):Bk ((((w.setCell ⟨g',i,none⟩ x).setCell ⟨g',j,none⟩ y).setCell ⟨g',k,none⟩ z).setCell ⟨g',l,none⟩ u) g t cs:=
 (((h.far (p:=⟨g',i,none⟩) hne x).far (p:=⟨g',j,none⟩) hne y).far (p:=⟨g',k,none⟩) hne z).far (p:=⟨g',l,none⟩) hne u
def FeasPost (w:World) (e:Ending) (w':World):Prop:=
 ∃v1 v2 p xs,e= .returned (.tuple #[v1,v2])∧LpO w.heap.size w' v1 p∧Yi w.heap.size w' v2 xs∧Zya p∧RsL 32 p.right∧RsL 2 xs∧xs.length=p.cols.length∧NN xs∧(∀i,i < p.right.length→qAt p.right i=timesQ p xs p.cols.length i)∧Below w.heap.size w w'
def FeasPost2 (w:World) (e:Ending) (w':World):Prop:=
 ∃v1 v2 p xs b2,e= .returned (.tuple #[v1,v2])∧LpO w.heap.size w' v1 p∧Yi b2 w' v2 xs∧w.heap.size≤b2∧(∀s0 s1 s2 g,v1= .agg #[s0,s1,s2]→s0.ownBlock=some g→g < b2)∧Zya p∧RsL 32 p.right∧RsL 2 xs∧xs.length=p.cols.length∧NN xs∧(∀i,i < p.right.length→qAt p.right i=timesQ p xs p.cols.length i)∧Below w.heap.size w w'
theorem feasibleData_own2 (v:Value) (zs:List Int) (w:World) (h:Xu w v zs):
 Calls Tryz.prog 33 #[v] w (FeasPost2 w):=by
 obtain ⟨a,cap,rfl,bi,ed⟩:=h.shape;generalize hn:zs.length=n at *;clear hn;obtain ⟨W,hW,hR,O⟩:=UV w (.slice none 0 0) (.slice none 0 0) (.slice none 0 0);have bw:=O.size;go_enter Tryz.func33,Tryz.ntmps33;go_wp2_with fail;clear hW;refine (Yed _ zs _ (h.below O)).mono ?_;rintro _ w1 ⟨v1,p,rfl,hp,af,dy,br⟩;obtain ⟨s0,s1,s2,b1,rfl,bn,an,bo,am,b3⟩:=hp;have ah:=Lib.hid af;have dd:=hR.later br;have I:=Za O br O.size;have bz:=h.below I;obtain ⟨A0,n0,c0,rfl⟩:=bn.sliceN;obtain ⟨A1,n1,c1,rfl⟩:∃A n c,s1= .slice A n c:=by obtain ⟨A,c,e,_⟩:=an.shape;exact ⟨A,_,c,e⟩
 obtain ⟨A2,m,c2,rfl⟩:=bo.sliceN;obtain ⟨N1,N2,N3⟩:=an.len;obtain ⟨M1,M2,M3⟩:=bo.frs.len;have m1:1≤m:=by rw [M1];exact af.1
 have m2:m≤3:=by rw [M1];exact af.2.1
 have nN:n1≤5:=by rw [N1];exact af.2.2.1
 have b8:=Lib.hid N1;have c3:=Lib.hid M1;have ai:=Lib.hid bn;have c4:=Lib.hid an;have eb:=Lib.hid b3;clear af dy bo am br hR O N1 M1 bn an b3 h;obtain ⟨W2,cy,hX,S⟩:=UV w1 (.slice A0 n0 c0) (.slice A1 n1 c1) (.slice A2 m c2);have aq:W2.heap.size=w1.heap.size+1:=by rw [← cy];simp
 obtain ⟨x0,x1,x2⟩:=hX.three;go_wp2_with fail;clear cy x0 x1 x2;refine (zeros_own m _ (by omega)).mono ?_;rintro _ w3 ⟨z2,rfl,hZ,a5⟩;rw [aq] at hZ;obtain ⟨gz,cz,rfl,e7,b4,b5,e8⟩:=hZ.shape (by simp;omega);simp only [List.length_replicate] at hZ b5 ⊢;rw [canL_zero] at hZ;have a6:=hX.later a5;have a7:=Za S a5 S.size;obtain ⟨x0,x1,x2⟩:=a6.three;obtain ⟨f0,f1,f2⟩:=a6.threeF;clear hX S a5 aq;go_wp2;clear x0 x1 x2 f0 f1 f2;have b9:=a6.set_ 2 (.slice (some ⟨gz,0,none⟩) m cz);have c5:=hZ.but (Zd.setCell a6 2 (.slice (some ⟨gz,0,none⟩) m cz)) (by decide) (by decide);have ar:=a7.setCell (p:=⟨w1.heap.size,2,none⟩) (Nat.le_refl _) (.slice (some ⟨gz,0,none⟩) m cz);have de:gz < (w3.setCell ⟨w1.heap.size,2,none⟩ (.slice (some ⟨gz,0,none⟩) m cz)).heap.size:=by simp;exact b4
 have c6:w1.heap.size≤(w3.setCell ⟨w1.heap.size,2,none⟩ (.slice (some ⟨gz,0,none⟩) m cz)).heap.size:=by have:=a7.size;simp;exact this
 generalize w3.setCell ⟨w1.heap.size,2,none⟩ (.slice (some ⟨gz,0,none⟩) m cz)=w4 at *;simp only [List.set_cons_zero,List.set_cons_succ] at b9;clear a6 hZ a7 b4;generalize d9:w4.heap.size=bx at *;have c7:bx≤w4.heap.size:=by omega
 clear d9
 go_loopw [5,6] (fun s i wr=>∃(k:Nat) (xs:List RF),k≤n1∧i= .int .i64 k∧Below w1.heap.size w1 wr∧Bk wr w1.heap.size 26 [.slice A0 n0 c0,.slice A1 n1 c1,.slice (some ⟨gz,0,none⟩) m cz]∧Yi (w1.heap.size+1) wr (.slice (some ⟨gz,0,none⟩) m cz) (Yl m (timesC p.cols xs k))∧Yi bx wr s xs∧xs.length=k∧RsL 2 xs∧NN xs∧bx≤wr.heap.size) (fun _ i _=>n1 - (intOf i).toNat)
 case atStart=>exact ⟨0,[],by omega,rfl,ar,b9,c5,Yi.nil _ _,rfl,RsL.nil _,NN.nil,c7⟩
 case round=>
  clear ar b9 c5 c7 w4;obtain ⟨k,xs,hk,rfl,t,hX,hZ,hO,hl,d0,d1,d2⟩:=hrel;have HL:=Lib.hid hl;have aj:=Lib.hid d0;have c8:=Lib.hid d1;have c9:xs.length+1≤1099511627776:=by omega
  clear hl d0 d1;obtain ⟨x0,x1,x2⟩:=hX.three;rcases Nat.lt_or_ge k n1 with hkl | hkl
  ·go_wp2_with fail;clear x0 x1 x2;refine (Zyb _ zs (40+(k:Int)) _ (bz.below t) (by omega) (by omega)).mono ?_;rintro _ w2 ⟨z,rfl,z0,z1,bs⟩;go_wp2_with fail;refine (Zwh z _).mono ?_;rintro _ w3 ⟨v3,q,rfl,e3,sq,a5⟩;have V:=Za bs a5 bs.size;obtain ⟨Bg,lg,dg,u,x,y,rfl,_,_⟩:=id e3.frac;obtain ⟨Wv,du,T,S⟩:=YZ w3 (.bool (canF q).num.neg) (.slice Bg lg dg) (.bool (canF q).den.neg) (.slice u x y);have ba:=Za V S V.size;have ca:=V.size;have bb:=e3.frac.below S;obtain ⟨y0,y1,y2,y3⟩:=T.four;have SQ:=Lib.hid sq;clear bs a5 e3 S sq V;go_wp2_with fail;clear du y0 y1 y2 y3;refine (rsignF_any _ (canF q) _ bb (SQ.out.sh (by decide))).mono ?_;rw [Zt];rintro _ w4 ⟨rfl,ao⟩;have B:=Za ba ao ba.size;have J:=T.later ao;have C:=bb.below ao;clear ba T bb ao;generalize da:w3.heap.size=gv at *;clear da;obtain ⟨f5,ae⟩:∃f5,canF q=f5:=⟨_,rfl⟩;have bd:=Lib.hid ae;have ak:Hid (0≤qs q→0≤f5.q):=Lib.hid (fun g=>by
    rw [← ae,Zt];have:=@Zda q;rcases Rat.le_total (a:=0) (b:=q) with e | e
    ·exact e
    ·rw [← Rat.not_lt];exact fun g2=>by have:=Zda.2 g2;omega)
   have al:Hid (f5.Rs 2):=Lib.hid (by rw [← ae];exact SQ.out.rs);rw [ae] at J C ⊢;clear ae;rcases Int.lt_or_le (qs q) 0 with hq | hq
   case' inr=>
    go_wp2_with fail;refine (Zyb _ zs (40+(k:Int)) _ ((bz.below t).below B) (by omega) (by omega)).mono ?_;rintro _ W6 ⟨z',rfl,dz,e0,Y⟩;have D:=Za B Y B.size;have G:=J.later Y;have C:=C.below Y;clear B J Y;by_cases hz:z' % 3=0
    case' pos=>
     have cb:(z' % 3==0)=true:=(by simpa using hz);clear hz;go_wp2_with fail;refine (XT 0 _ (by omega) (by omega)).mono ?_;rw [show ((0:Int):Rat)=0 from rfl];rintro _ w5 ⟨v5,rfl,e5,U⟩;have L:=Za D U D.size;have d:=G.later U;have R:=Lib.hid e5.frac;have be:Hid (0≤(canF 0).q):=Lib.hid (by rw [Zt];exact Rat.le_refl);have Z:Hid ((canF 0).Rs 2):=Lib.hid (Sz_zero.mono (by decide)).rs;generalize canF 0=f5 at *;obtain ⟨Bg,lg,dg,u,x,y,rfl,_,_⟩:=id R.out;obtain ⟨y0,y1,y2,y3⟩:=d.four;obtain ⟨g0,g1,g2,g3⟩:=d.fourF;clear e5 U D G C ak al bd
     go_upto_region 10 with (fail)
     have a3:=d.set4 (.bool f5.num.neg) (.slice Bg lg dg) (.bool f5.den.neg) (.slice u x y);have a8:=Lib.hid (R.out.keep (d.keep4 (by decide) (.bool f5.num.neg) (.slice Bg lg dg) (.bool f5.den.neg) (.slice u x y)));have M:=ZB L ca (.bool f5.num.neg) (.slice Bg lg dg) (.bool f5.den.neg) (.slice u x y);clear y0 y1 y2 y3 g0 g1 g2 g3 d R L;generalize (((w5.setCell ⟨gv,0,none⟩ (.bool f5.num.neg)).setCell ⟨gv,1,none⟩ (.slice Bg lg dg)).setCell ⟨gv,2,none⟩ (.bool f5.den.neg)).setCell ⟨gv,3,none⟩ (.slice u x y)=W6 at *
    case' neg=>
     have cb:(z' % 3==0)=false:=(by simpa using hz);have be:=Lib.hid (ak.out hq);clear hz
     go_upto_region 10 with (fail)
     have a3:=G;have a8:=Lib.hid C;have M:=D;have Z:=al;clear G C D al bd ak cb dz e0 hq
   case' inl=>
    go_wp2_with fail;refine (XT 0 _ (by omega) (by omega)).mono ?_;rw [show ((0:Int):Rat)=0 from rfl];rintro _ w5 ⟨v5,rfl,e5,U⟩;have L:=Za B U B.size;have d:=J.later U;have R:=Lib.hid e5.frac;have be:Hid (0≤(canF 0).q):=Lib.hid (by rw [Zt];exact Rat.le_refl);have Z:Hid ((canF 0).Rs 2):=Lib.hid (Sz_zero.mono (by decide)).rs;generalize canF 0=f5 at *;obtain ⟨Bg,lg,dg,u,x,y,rfl,_,_⟩:=id R.out;obtain ⟨y0,y1,y2,y3⟩:=d.four;obtain ⟨g0,g1,g2,g3⟩:=d.fourF;clear e5 U B J C ak al bd
    go_upto_region 10 with (fail)
    have a3:=d.set4 (.bool f5.num.neg) (.slice Bg lg dg) (.bool f5.den.neg) (.slice u x y);have a8:=Lib.hid (R.out.keep (d.keep4 (by decide) (.bool f5.num.neg) (.slice Bg lg dg) (.bool f5.den.neg) (.slice u x y)));have M:=ZB L ca (.bool f5.num.neg) (.slice Bg lg dg) (.bool f5.den.neg) (.slice u x y);clear y0 y1 y2 y3 g0 g1 g2 g3 d R L;generalize (((w5.setCell ⟨gv,0,none⟩ (.bool f5.num.neg)).setCell ⟨gv,1,none⟩ (.slice Bg lg dg)).setCell ⟨gv,2,none⟩ (.bool f5.den.neg)).setCell ⟨gv,3,none⟩ (.slice u x y)=W6 at *
   all_goals
    have df:gv < W6.heap.size:=a3.lt;have au:=Za t M t.size;have HO:=Lib.hid (hO.below M);have cd:bx≤W6.heap.size:=(by have:=M.size;omega);have ce:=hX.later M;have cf:=hZ.below M;have av:=hO.own_lt;have a9:=hO.own_ge;have aw:Hid (some gv≠u5.ownBlock):=Lib.hid fun e=>by have:=av gv e.symm;omega
    have ax:Hid (some gz≠u5.ownBlock):=Lib.hid fun e=>by have:=a9 gz e.symm;omega
    obtain ⟨y0,y1,y2,y3⟩:=a3.four;clear hX hZ hO t av a9 M;go_wp2_with (at_builtin;refine wpList_append_fracG rfl (.tmp 41) (.tmp 43) rfl W6 bx u5 xs rfl HO.out _ _ Bg u lg dg x y f5 a8.out rfl c9 cd ?_);intro v' w7 bu ap d8 H bv;have N:=au.trans (d8.mono c6);have bf:=ap.bk ce (by decide);have cg:=H.bk a3 aw.out;have ch:=a8.out.keep (ap.keep (by decide));have bg:=cf.others H (ap.keep (by decide)) (fun b hb=>by simp [Value.ownBlock] at hb;subst hb;exact ax.out);have e6:bx≤w7.heap.size:=(by have:=H.1;omega);clear au HO ce cf aw ax y0 y1 y2 y3 a3 a8 ap d8 H bv df cd;obtain ⟨Av,nv,cv,rfl⟩:=bu.sliceN;obtain ⟨x0,x1,x2⟩:=bf.three;generalize e4:Value.slice Av nv cv=v' at *;clear e4;have aa:Zya ⟨p.cost,p.cols,Yl m (timesC p.cols xs k)⟩:=by
     have o:=ah.out;refine ⟨?_,?_,o.2.2.1,o.2.2.2.1,o.2.2.2.2.1,fun j c hc=>?_⟩
     ·simp only [Zn];exact m1
     ·simp only [Zn];exact m2
     ·have:=o.2.2.2.2.2 j c hc;simp only [Zn];rw [c3.out];exact this
    have F:=ah.out.2.2.2.2.2;have bh:∀i,Sz 21 (timesC p.cols xs k i):=fun i=>Sz_timesC F aj.out (by omega) i
    have ci:RsL 32 (Yl m (timesC p.cols xs k)):=Zgn fun i _=>(bh i).mono (by decide)
    have ay:=Lib.hid (aa.ok (K:=32) (by decide) ci);have cj:Hid (LPd.In ⟨p.cost,p.cols,Yl m (timesC p.cols xs k)⟩):=Lib.hid (WN aa.err).2.2.2.1;have ck:LpM w7 (.agg #[.slice A0 n0 c0,.slice A1 n1 c1,(.slice (some ⟨gz,0,none⟩) m cz)]) ⟨p.cost,p.cols,Yl m (timesC p.cols xs k)⟩:=⟨_,_,_,_,_,_,_,_,_,rfl,(ai.out.below N).frs,c4.out.below N,bg.frs⟩;have bi:∀i,Sz 1 (colC p.cols k i):=fun i=>Sz_colC F k i
    have bj:=Lib.hid bi;have dh:=Lib.hid bh;clear aa F bh ci bi;go_wp2_with fail;clear x0 x1 x2;refine (rcolumn_pos _ ⟨p.cost,p.cols,Yl m (timesC p.cols xs k)⟩ 32 k _ ck ay.out (by decide) cj.out (by rw [← b8.out];exact hkl) (by simp only [Zn];omega)).mono ?_;rw [show Yl (LPd.mk p.cost p.cols (Yl m (timesC p.cols xs k))).right.length ((LPd.mk p.cost p.cols (Yl m (timesC p.cols xs k))).col (k:Int))=Yl m (colC p.cols k) from by rw [col_colC];simp only [Zn]];rintro _ w8 ⟨vc,rfl,hC,P⟩;obtain ⟨Ac,cc,rfl,d3,ea⟩:=hC.frs.shape;simp only [Zn] at hC d3 ⊢;have az:=Za N P N.size;have cl:=bf.later P;have cm:=cg.later P;have cn:=ch.below P;have bl:=bg.below P;have co:=bu.below P;have b0:bx≤w8.heap.size:=(by have:=P.size;omega);have di:gz < w7.heap.size:=(by omega);clear N bf cg ch bg bu ck ay cj P;rw [← mixR_zero (timesC p.cols xs k) f5.q (colC p.cols k)] at bl;generalize db:timesC p.cols xs k=TT at *;generalize dc:colC p.cols k=CC at *;have dj:=Lib.hid db;have dk:=Lib.hid dc;clear db dc;go_wp2
    go_loopw [9] (fun i wx=>∃r:Nat,r≤m∧i= .int .i64 r∧Below w1.heap.size w1 wx∧Bk wx w1.heap.size 26 [.slice A0 n0 c0,.slice A1 n1 c1,.slice (some ⟨gz,0,none⟩) m cz]∧Bk wx gv 48 [.bool f5.num.neg,.slice Bg lg dg,.bool f5.den.neg,.slice u x y]∧Zv wx (.agg #[.bool f5.num.neg,.slice Bg lg dg,.bool f5.den.neg,.slice u x y]) f5∧Yi (w1.heap.size+1) wx (.slice (some ⟨gz,0,none⟩) m cz) (Yl m (mixR TT f5.q CC r))∧Yi bx wx v' (xs++[f5])∧Yi w7.heap.size wx (.slice Ac m cc) (Yl m CC)∧bx≤wx.heap.size) (fun i _=>m - (intOf i).toNat)
    case atStart=>exact ⟨0,by omega,rfl,az,cl,cm,cn,bl,co,hC,b0⟩
    case round=>
     clear az cl cm cn bl co hC b0;obtain ⟨r,hr,rfl,t,hX,T,bp,hZ,hO,hC,d2⟩:=hrel;rcases Nat.lt_or_ge r m with hrm | hrm
     ·obtain ⟨x0,x1,x2⟩:=hX.three;obtain ⟨y0,y1,y2,y3⟩:=T.four;obtain ⟨_,_,A3,n3,k3,A4,n4,k4,bq,_,⟨t0,t1,t2,t3⟩,dv⟩:=hZ.frs.elem (Below.refl _ _) (ZC hrm);injection bq with bq;injection bq with e1 e2;subst e1 e2;obtain ⟨bc,oc,A5,n5,k5,A6,n6,k6,rfl,_,⟨q0,q1,q2,q3⟩,dw⟩:=hC.frs.elem (Below.refl _ _) (ZC hrm);simp only [Nat.zero_add] at t0 t1 t2 t3;have dl:f5.Sh:=Z.out.sh (by decide);have dm:(canF (CC r)).Sh:=(bj.out r).sh (by decide);have dn:(canF (mixR TT f5.q CC r r)).Sh:=(Sz_mixR (dh.out r) (Z.out.sz (by decide)) (bj.out r)).sh (by decide);have dp:(canF (f5.q * CC r)).Sh:=(We (Z.out.sz (by decide)) (bj.out r)).sh (by decide);have dq:=Lib.hid (mixR_at TT f5.q CC r);have ec:(r:Int) < m:=(by omega);go_wp2_with fail;have C1:=Zm x2;have C2:=Zm y0;have C3:=Zm y1;have C4:=Zm y2;have C5:=Zm y3;have C6:=Zm t0;have C7:=Zm t1;have C8:=Zm t2;have C9:=Zm t3;have D6:=Zm q0;have D7:=Zm q1;have D8:=Zm q2;have D9:=Zm q3;have ab:=Ze wr;clear x0 x1 x2 y0 y1 y2 y3 t0 t1 t2 t3 q0 q1 q2 q3;refine Zo 16 [0,1,2,3,4,5,6,7,8,9,10,11,12,13,14,15,16] (by kernel_rfl) (by kernel_rfl) ?_;repeat ((first | (refine Zc (v:=?_) rfl rfl rfl ?_ ?_;rotate_left;(· (intro _ ag;go_simp;(try go_bits);(try with_reducible rfl)))) | (refine Zg (v:=?_) rfl rfl rfl ?_ ?_;rotate_left;(· (intro _ ag;go_simp;(try go_bits);(try with_reducible rfl)))) | refine Zh rfl rfl rfl ?_);(try simp only [Act.put,pu1,pu2,pu3,pu4,pu5,pu6]))
      refine Zf rfl rfl (fun KR hKR=>?_);go_simp;(with_reducible refine (rmulF_own _ _ f5 (canF (CC r)) _ (bp.below ab) (dw.below ab) dl dm).mono ?_);rw [Zt];rintro _ w9 ⟨v9,rfl,e9,d7⟩;have ac:=Za ab d7 ab.size;refine hKR.out _ _ (Or.inr ac) ?_;clear hKR KR;(try simp only [Act.put,pu1,pu2,pu3,pu4,pu5,pu6]);repeat ((first | (refine Zc (v:=?_) rfl rfl rfl ?_ ?_;rotate_left;(· (intro _ ag;go_simp;(try go_bits);(try with_reducible rfl)))) | (refine Zg (v:=?_) rfl rfl rfl ?_ ?_;rotate_left;(· (intro _ ag;go_simp;(try go_bits);(try with_reducible rfl)))) | refine Zh rfl rfl rfl ?_);(try simp only [Act.put,pu1,pu2,pu3,pu4,pu5,pu6]))
      refine Zf rfl rfl (fun KR hKR=>?_);go_simp;(with_reducible refine (raddF_own _ _ _ _ _ (dv.below ac) e9.frac dn dp).mono ?_);rw [Zt,Zt,dq.out];rintro _ eg ⟨eh,rfl,bt,b7⟩;have f:=Za ac b7 ac.size;obtain ⟨E,l9,k9,E',ee,ef,rfl,_,_⟩:=id bt.frac;have ad:=hZ.below f;obtain ⟨_,_,_,_,⟨d4,d5,d6,dx⟩,⟨f0,f1,f2,f3⟩,_⟩:=ad.at_ (ZC hrm);refine hKR.out _ _ (Or.inr f) ?_;clear hKR KR;(try simp only [Act.put,pu1,pu2,pu3,pu4,pu5,pu6]);repeat ((first | (refine Zc (v:=?_) rfl rfl rfl ?_ ?_;rotate_left;(· (intro _ ag;go_simp;(try go_bits);(try with_reducible rfl)))) | (refine Zg (v:=?_) rfl rfl rfl ?_ ?_;rotate_left;(· (intro _ ag;go_simp;(try go_bits);(try with_reducible rfl)))) | refine Zh rfl rfl rfl ?_);(try simp only [Act.put,pu1,pu2,pu3,pu4,pu5,pu6]))
      refine Zf rfl rfl (fun KR hKR=>?_);go_simp;refine hKR.out _ _ (Or.inl (by decide)) ?_;clear hKR KR;(try simp only [Act.put,pu1,pu2,pu3,pu4,pu5,pu6]);refine Zy ?_;obtain ⟨b6,X⟩:=ad.set_ (by rw [Zn];exact hrm) bt.frac;rw [Vh hrm,mixR_next] at b6;have cp:=X.bk (hX.later f) (by decide);have b2:=(T.later f);have am:=Za t f t.size;have bm:=ZA am (show w1.heap.size≤gz by omega) (r * 4) (r * 4+1) (r * 4+2) (r * 4+3);have cq:=(hO.below f).far4 (i:=r * 4) (j:=r * 4+1) (k:=r * 4+2) (l:=r * 4+3) de _ rfl X;have cr:=(hC.below f).far4 (i:=r * 4) (j:=r * 4+1) (k:=r * 4+2) (l:=r * 4+3) di _ rfl X;have cs:=b2.far4' (show gv≠gz by omega) (r * 4) (r * 4+1) (r * 4+2) (r * 4+3);have ct:=(bp.below f).keep (X.keep (by decide));have dr:=f.size;clear C1 C2 C3 C4 C5 C6 C7 C8 C9 D6 D7 D8 D9 hX T bp hZ hO hC t ad ab ac f d7 b7 e9 bt b2 am d4 d5 d6 dx f0 f1 f2 f3;go_wp2;go_roundw
      case rel=>exact ⟨r+1,by omega,by go_num,bm _ _ _ _,cp,cs _ _ _ _,ct,b6,cq,cr,by simp;omega⟩
      case measure=>simp [intOf];omega
     ·obtain rfl:r=m:=by omega
      have ds:Hid (∀i,i < r→mixR TT f5.q CC r i=timesC p.cols (xs++[f5]) (k+1) i):=Lib.hid fun i hi=>by
       rw [timesC_snoc p.cols f5 HL.out,dj.out,dk.out];unfold mixR;rw [if_pos hi]
      have cu:=hZ;rw [Z4 ds.out] at cu;clear hZ;go_wp2;go_roundw
      case rel=>exact ⟨k+1,xs++[f5],by omega,by go_num,t,hX,cu,hO,by rw [List.length_append,HL.out];rfl,aj.out.snoc Z.out,c8.out.snoc be.out,d2⟩
      case measure=>simp [intOf];omega
  ·obtain rfl:k=n1:=by omega
   have a4:=dd.later t;have cw:=Za I t I.size;obtain ⟨Ax,nx,cx,rfl⟩:=hO.sliceN;obtain ⟨d4,d5,d6⟩:=a4.three;obtain ⟨f0,f1,f2⟩:=a4.threeF;clear b5;go_wp2;have dt:=((a4.set_ 0 (.slice A0 n0 c0)).set_ 1 (.slice A1 k c1)).set_ 2 (.slice (some ⟨gz,0,none⟩) m cz);refine YR Tryz.results33 Tryz.underlying26 (by kernel_rfl) rfl dt rfl ?_;have k1:=Zd.setCell a4 0 (.slice A0 n0 c0);have k2:=Zd.setCell (a4.set_ 0 (.slice A0 n0 c0)) 1 (.slice A1 k c1);have k3:=Zd.setCell ((a4.set_ 0 (.slice A0 n0 c0)).set_ 1 (.slice A1 k c1)) 2 (.slice (some ⟨gz,0,none⟩) m cz);have k4:=(k1.trans k2).trans k3;have F:=ah.out.2.2.2.2.2;refine ⟨_,_,⟨p.cost,p.cols,Yl m (timesC p.cols xs k)⟩,xs,bx,rfl,⟨_,_,_,w1.heap.size+1,rfl,?_,(c4.out.below t).but k4 (by decide) (by decide) (by decide),hZ.but k4 (by decide) (by decide),?_,?_⟩,?_,?_,?_,?_,?_,aj.out,?_,c8.out,?_,?_⟩
   ·exact ((ai.out.below t).but k4 (by decide) (by decide)).monoB bw
   ·have:=I.size;omega
   ·intro g hg;have:=ai.out.own_lt g hg;omega
   ·exact hO.but k4 (by decide) (by decide)
   ·have:=I.size;omega
   ·intro a0 a1 a2 g he hg;injection he with he;simp at he;obtain ⟨rfl,_,_⟩:=he;have:=ai.out.own_lt g hg;omega
   ·have o:=ah.out;refine ⟨?_,?_,o.2.2.1,o.2.2.2.1,o.2.2.2.2.1,fun j c hc=>?_⟩
    ·simp only [Zn];exact m1
    ·simp only [Zn];exact m2
    ·have:=o.2.2.2.2.2 j c hc;simp only [Zn];rw [c3.out];exact this
   ·exact Zgn fun i _=>(Sz_timesC F aj.out (by omega) i).mono (by decide)
   ·rw [HL.out,b8.out]
   ·intro i hi;simp only [Zn] at hi;simp only;rw [YL hi,timesQ_C,← b8.out]
   ·exact ((cw.setCell (p:=⟨w.heap.size,0,none⟩) (Nat.le_refl _) _).setCell (p:=⟨w.heap.size,1,none⟩) (Nat.le_refl _) _).setCell (p:=⟨w.heap.size,2,none⟩) (Nat.le_refl _) _
theorem feasibleData_own (v:Value) (zs:List Int) (w:World) (h:Xu w v zs):
 Calls Tryz.prog 33 #[v] w (FeasPost w):=
 (feasibleData_own2 v zs w h).mono fun _ _ ⟨v1,v2,p,xs,b2,h1,h2,h3,h4,_,h5⟩=>⟨v1,v2,p,xs,h1,h2,h3.monoB h4,h5⟩
section
attribute [local irreducible] YE
end
section
open Go.Maps (int_keyed keyOf_int_mk)
end
section
attribute [local irreducible] YE
end
theorem simplexImproves_any (v0:Value) (a1:Int) (zl0:List Int) (w:World) (h0:Xu w v0 zl0) (_g1: -9223372036854775808≤a1) (_k1:a1≤9223372036854775807):
 Calls Tryz.prog 9 #[v0,.int .i64 a1] w fun e w'=>e= .returned (.bool true)∧Below w.heap.size w w':=by
 obtain ⟨b0,d0,rfl,_,_⟩:=h0.shape;generalize ca:zl0.length=m0 at *;clear ca;go_enter Tryz.func9,Tryz.ntmps9;go_wp2_with fail;refine (feasibleData_own _ zl0 _ h0).mono ?_;rintro _ w1 ⟨vp,vx,p,xs,rfl,hp,hx,ad,bp,bq,br,bs,bt,hb⟩;have ci:=Lib.hid ad;have HF:=Lib.hid (ad.ft bp);have HZ:=Lib.hid ad.err;have cj:=Lib.hid (⟨bq,br,bs,bt⟩:RsL 2 xs∧xs.length=p.cols.length∧NN xs∧∀i,i < p.right.length→qAt p.right i=timesQ p xs p.cols.length i);have b6:=hp.lp;obtain ⟨A0,n0,c0,A1,n1,c1,A2,m,c2,rfl,_,_,_⟩:=id b6;obtain ⟨Ax,nx,cx,rfl⟩:=hx.sliceN;clear ad bp hp bq br bs bt;obtain ⟨W1,bx,hB,hn⟩:=UV w1 (.slice A0 n0 c0) (.slice A1 n1 c1) (.slice A2 m c2);have hc:=Za hb hn hb.size;have I:=Lib.hid ((b6).below hn);have ae:=Lib.hid ((hx.frs).below hn);have b7:=Lib.hid hB;have J:=hc;clear hc hb hn hB;clear b6 hx h0;obtain ⟨g,h,j⟩:=b7.out.three;go_wp2_with fail;clear bx;refine (Zfy _ p 32 _ I.out HF.out.1.ok (fun _=>HF.out)).mono ?_;rw [Zef HZ.out,HZ.out];have B:=Lib.hid (Gd.start p);obtain ⟨s,hs⟩:∃s,s=Zr p (Yq p):=⟨_,rfl⟩;have ck:=Lib.hid hs;rw [← hs] at B ⊢;clear hs;have bc:=Lib.hid (B.out.rg HF.out);rintro _ w2 ⟨v2,rfl,⟨A2,n2,c2,rfl,hI⟩,hb⟩;obtain ⟨W2,bz,hB,hn⟩:=Vu w2 (.int .i64 s.phase) (.slice A2 n2 c2) (.int .i64 s.pivots);have hc:=Za hb hn hb.size;have K:=Lib.hid (I.out.below hc);have af:=Lib.hid (ae.out.below hc);have b8:=Lib.hid (b7.out.later hc);have L:=Lib.hid (StM.below ((⟨A2,n2,c2,rfl,hI.ints⟩:StM w2 (.agg #[.int .i64 s.phase,.slice A2 n2 c2,.int .i64 s.pivots]) s)) hn);have M:=Lib.hid hB;have O:=Za J hc J.size;clear g h j;clear I ae b7 J hc hb hn hB;clear hI;obtain ⟨g,h,j⟩:=b8.out.three;obtain ⟨C,D,E⟩:=M.out.three;go_wp2_with fail;clear bz;rw [Zsf];obtain ⟨N,hN⟩:∃N:Nat,a1 % 16=N:=⟨(a1 % 16).toNat,by omega⟩;have bN:N < 16:=by omega
 rw [hN];clear hN;refine (Zny _ _ p s 32 _ K.out L.out HF.out.1.ok (fun _=>HF.out) bc.out.1 bc.out.2 N (by omega) (fun _=>B.out.pv (by omega))).mono ?_;rw [B.out.ru HZ.out,B.out.err HZ.out];have a:=Lib.hid (B.out.run N);obtain ⟨t,ht⟩:∃t,t=Zag p N s:=⟨_,rfl⟩;have bu:=Lib.hid ht;rw [← ht] at a ⊢;clear ht;have ab:=Lib.hid (a.out.rg HF.out);rintro _ w3 ⟨v3,rfl,⟨A3,n3,c3,rfl,hI⟩,hb⟩;obtain ⟨W3,c7,hB,hn⟩:=Vu w3 (.int .i64 t.phase) (.slice A3 n3 c3) (.int .i64 t.pivots);have hc:=Za hb hn hb.size;have P:=Lib.hid (K.out.below hc);have ag:=Lib.hid (af.out.below hc);have b9:=Lib.hid (b8.out.later hc);have ah:=Lib.hid (L.out.below hc);have ai:=Lib.hid (M.out.later hc);have R:=Lib.hid (StM.below ((⟨A3,n3,c3,rfl,hI.ints⟩:StM w3 (.agg #[.int .i64 t.phase,.slice A3 n3 c3,.int .i64 t.pivots]) t)) hn);have S:=Lib.hid hB;have T:=Za O hc O.size;clear g h j C D E;clear K af b8 L M O hc hb hn hB;clear hI;obtain ⟨g,h,j⟩:=b9.out.three;obtain ⟨c,d,f⟩:=S.out.three;go_wp2_with fail;clear c7;refine (Zny _ _ p t 32 _ P.out R.out HF.out.1.ok (fun _=>HF.out) ab.out.1 ab.out.2 1 (by omega) (fun _=>a.out.pv (by omega))).mono ?_;rw [a.out.ru HZ.out,a.out.err HZ.out];have ac:=Lib.hid (a.out.run 1);obtain ⟨u,hu⟩:∃u,u=Zag p 1 t:=⟨_,rfl⟩;have bd:=Lib.hid hu;rw [← hu] at ac ⊢;clear hu;have be:=Lib.hid (ac.out.rg HF.out);rintro _ w4 ⟨v4,rfl,⟨A4,n4,c4,rfl,hI⟩,hb⟩;obtain ⟨W4,c8,hB,hn⟩:=Vu w4 (.int .i64 u.phase) (.slice A4 n4 c4) (.int .i64 u.pivots);have hc:=Za hb hn hb.size;have U:=Lib.hid (P.out.below hc);have aj:=Lib.hid (ag.out.below hc);have ba:=Lib.hid (b9.out.later hc);have ak:=Lib.hid (ah.out.below hc);have al:=Lib.hid (ai.out.later hc);have V:=Lib.hid (R.out.below hc);have X:=Lib.hid (S.out.later hc);have am:=Lib.hid (StM.below ((⟨A4,n4,c4,rfl,hI.ints⟩:StM w4 (.agg #[.int .i64 u.phase,.slice A4 n4 c4,.int .i64 u.pivots]) u)) hn);have an:=Lib.hid hB;have Y:=Za T hc T.size;clear g h j c d f;clear P ag b9 ah ai R S T hc hb hn hB;clear hI;obtain ⟨g,h,j⟩:=ba.out.three;obtain ⟨c,d,f⟩:=X.out.three;go_wp2_with fail;clear c8;refine (Zpz _ _ p t 32 _ U.out V.out HF.out.1.ok (fun _=>HF.out) ab.out.1 ab.out.2).mono ?_;rw [a.out.va HZ.out,a.out.err HZ.out];obtain ⟨v,hv⟩:∃v:RF,v=canF (Zhp p 2 t):=⟨_,rfl⟩;have bf:=Lib.hid hv;rw [← hv];clear hv;rintro _ w5 ⟨v5,rfl,he,hb⟩;obtain ⟨A5,n5,c5,E5,j5,d5,rfl,_,_⟩:=id he;obtain ⟨W5,c9,hB,hn⟩:=YZ w5 (.bool v.num.neg) (.slice A5 n5 c5) (.bool v.den.neg) (.slice E5 j5 d5);have hc:=Za hb hn hb.size;have Z:=Lib.hid (U.out.below hc);have ao:=Lib.hid (aj.out.below hc);have bb:=Lib.hid (ba.out.later hc);have ap:=Lib.hid (ak.out.below hc);have aq:=Lib.hid (al.out.later hc);have ar:=Lib.hid (V.out.below hc);have au:=Lib.hid (X.out.later hc);have a0:=Lib.hid (am.out.below hc);have a2:=Lib.hid (an.out.later hc);have av:=Lib.hid ((he).below hn);have aw:=Lib.hid hB;have a3:=Za Y hc Y.size;clear g h j c d f;clear U aj ba ak al V X am an Y hc hb hn hB;clear he;obtain ⟨g,h,j⟩:=bb.out.three;obtain ⟨F,G,H⟩:=a2.out.three;go_wp2_with fail;clear c9;refine (Zpz _ _ p u 32 _ Z.out a0.out HF.out.1.ok (fun _=>HF.out) be.out.1 be.out.2).mono ?_;rw [ac.out.va HZ.out,ac.out.err HZ.out];obtain ⟨z,hz⟩:∃z:RF,z=canF (Zhp p 2 u):=⟨_,rfl⟩;have bg:=Lib.hid hz;rw [← hz];clear hz;rintro _ w6 ⟨v6,rfl,he,hb⟩;obtain ⟨A6,n6,c6,E6,j6,d6,rfl,_,_⟩:=id he;obtain ⟨W6,bo,hB,hn⟩:=YZ w6 (.bool z.num.neg) (.slice A6 n6 c6) (.bool z.den.neg) (.slice E6 j6 d6);have hc:=Za hb hn hb.size;have bh:=Lib.hid (Z.out.below hc);have bi:=Lib.hid (ao.out.below hc);have bv:=Lib.hid (bb.out.later hc);have bj:=Lib.hid (ap.out.below hc);have k:=Lib.hid (aq.out.later hc);have bk:=Lib.hid (ar.out.below hc);have l:=Lib.hid (au.out.later hc);have bl:=Lib.hid (a0.out.below hc);have n:=Lib.hid (a2.out.later hc);have o:=Lib.hid (av.out.below hc);have r:=Lib.hid (aw.out.later hc);have x:=Lib.hid ((he).below hn);have y:=Lib.hid hB;have b:=Za a3 hc a3.size;clear g h j F G H;clear Z ao bb ap aq ar au a0 a2 av aw a3 hc hb hn hB;clear he;clear bv;clear bh;clear bj;clear bk;clear bl;clear bi;obtain ⟨C,D,E⟩:=k.out.three;obtain ⟨c,d,f⟩:=l.out.three;obtain ⟨F,G,H⟩:=n.out.three;obtain ⟨ax,ay,az,b1⟩:=r.out.four;obtain ⟨b2,b3,b4,b5⟩:=y.out.four;have p1:s.phase≤t.phase:=by rw [bu.out];exact B.out.phase N
 have p2:t.phase≤u.phase:=by rw [bd.out];exact a.out.phase 1
 by_cases e2:t.phase=2
 ·have bw:(t.phase !=2)=false:=by simp [e2]
  have HS:=Lib.hid (show qs (z.q - v.q)≤0 by rw [bg.out,bf.out,Zt,Zt,qs_le,bd.out];have:=a.out.step e2;grind);have bm:Hid (ShH v∧ShH z):=Lib.hid (by rw [bg.out,bf.out];exact ⟨obj_shH HF.out _ _,obj_shH HF.out _ _⟩);go_wp2_with fail;clear bo;refine (rcompareF_any _ _ z v _ x.out o.out bm.out.2 bm.out.1).mono ?_;rintro _ w7 ⟨rfl,hb⟩;have hs:=HS.out;generalize qs (z.q - v.q)=sg at hs ⊢;have hc:=hb;have a4:=Lib.hid (k.out.later hc);have a5:=Lib.hid (l.out.later hc);have a6:=Lib.hid (n.out.later hc);have a7:=Lib.hid (o.out.below hc);have a8:=Lib.hid (r.out.later hc);have a9:=Lib.hid (x.out.below hc);have aa:=Lib.hid (y.out.later hc);have A:=Za b hc b.size;clear C D E c d f F G H ax ay az b1 b2 b3 b4 b5;clear k l n o r x y b hc hb;go_wp2_with fail;refine (Ydg _).mono ?_;rintro _ w8 ⟨rfl,hb⟩;have hc:=hb;have cb:=Lib.hid (a4.out.later hc);have cc:=Lib.hid (a5.out.later hc);have cd:=Lib.hid (a6.out.later hc);have ce:=Lib.hid (a7.out.below hc);have cf:=Lib.hid (a8.out.later hc);have cg:=Lib.hid (a9.out.below hc);have ch:=Lib.hid (aa.out.later hc);have bn:=Za A hc A.size;clear a4 a5 a6 a7 a8 a9 aa A hc hb;go_wp2;go_ret;exact ⟨rfl,bn⟩
 ·have bw:(t.phase !=2)=true:=by simpa using e2
  go_wp2_with fail;clear bo;refine (Ydg _).mono ?_;rintro _ w7 ⟨rfl,hb⟩;have hc:=hb;have a4:=Lib.hid (k.out.later hc);have a5:=Lib.hid (l.out.later hc);have a6:=Lib.hid (n.out.later hc);have a7:=Lib.hid (o.out.below hc);have a8:=Lib.hid (r.out.later hc);have a9:=Lib.hid (x.out.below hc);have aa:=Lib.hid (y.out.later hc);have A:=Za b hc b.size;clear C D E c d f F G H ax ay az b1 b2 b3 b4 b5;clear k l n o r x y b hc hb;go_wp2;go_ret;exact ⟨rfl,A⟩
end Go.Proofs.YtncmobkhenfhpaaGreat
