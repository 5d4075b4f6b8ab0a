/- Lemmas of the claim; no condition. -/
import Derived.Test.YtncmobkhenfhpaaGreatE7
set_option linter.all false
set_option maxRecDepth 100000
set_option maxHeartbeats 40000000
namespace Go.Proofs.YtncmobkhenfhpaaGreat
open Go.RowKit
open Pl
attribute [local go_sem ↓] Go.wp_at_zero Go.wp_at_succ
section
section
variable {w w':World} {g:Nat} {t:TypeId} {a b c d:Value}
theorem Bk.set4 (h:Bk w g t [a,b,c,d]) (x y z u:Value):Bk ((((w.setCell ⟨g,0,none⟩ x).setCell ⟨g,1,none⟩ y).setCell ⟨g,2,none⟩ z).setCell ⟨g,3,none⟩ u) g t [x,y,z,u]:=(((h.set_ 0 x).set_ 1 y).set_ 2 z).set_ 3 u
theorem Bk.keep4 [Old] (h:Bk w g t [a,b,c,d]) (ht:t≠123) (x y z u:Value) (hg:Old.n≤g:=by first | assumption | exact Nat.zero_le _ | omega | ((first | with_reducible refine Zb.le ?_ | with_reducible refine Zb.le1 ?_ | with_reducible refine Zb.le2 ?_ | with_reducible refine Zb.le3 ?_);repeat (first | assumption | exact Zb.up (by assumption) hOl | exact Zb.up (Hid.out (by assumption)) hOl | with_reducible refine Zb.set ?_ _ _ | with_reducible refine Zb.mk_ ?_ _ | with_reducible refine Zb.dr ?_ | with_reducible refine Zb.drN ?_ | refine Zb.up (by assumption) ?_ | refine Zb.up (Hid.out (by assumption)) ?_))):ZG w ((((w.setCell ⟨g,0,none⟩ x).setCell ⟨g,1,none⟩ y).setCell ⟨g,2,none⟩ z).setCell ⟨g,3,none⟩ u):=
 (((h.keepD ht _ _ hg).trans ((h.set_ 0 x).keepD ht _ _ hg)).trans (((h.set_ 0 x).set_ 1 y).keepD ht _ _ hg)).trans ((((h.set_ 0 x).set_ 1 y).set_ 2 z).keepD ht _ _ hg)
theorem Bk.far4 {g':Nat} {cs:List Value} (h:Bk w g t cs) (hne:g≠g') (x y z u:Value):Bk ((((w.setCell ⟨g',0,none⟩ x).setCell ⟨g',1,none⟩ y).setCell ⟨g',2,none⟩ z).setCell ⟨g',3,none⟩ u) g t cs:=
 (((h.far (p:=⟨g',0,none⟩) hne x).far (p:=⟨g',1,none⟩) hne y).far (p:=⟨g',2,none⟩) hne z).far (p:=⟨g',3,none⟩) hne u
theorem ZE {n:Nat} (h:Below n w w') (hg:n≤g) (x y z u:Value):Below n w ((((w'.setCell ⟨g,0,none⟩ x).setCell ⟨g,1,none⟩ y).setCell ⟨g,2,none⟩ z).setCell ⟨g,3,none⟩ u):=(((h.setCell hg _).setCell hg _).setCell hg _).setCell hg _
end
theorem Yr [Old] {w w2:World} {m g:Nat} {x y z u b s b' s':Value} {a:RF} (hR:Bk w2 g 48 [x,y,z,u]) (d:Zt w2 (.agg #[b,s,b',s']) a) (hbe:Below m w w2) (hg:m≤g) (hO:Old.n≤m:=by first | assumption | exact Nat.zero_le _ | omega | ((first | with_reducible refine Zb.le ?_ | with_reducible refine Zb.le1 ?_ | with_reducible refine Zb.le2 ?_ | with_reducible refine Zb.le3 ?_);repeat (first | assumption | exact Zb.up (by assumption) hOl | exact Zb.up (Hid.out (by assumption)) hOl | with_reducible refine Zb.set ?_ _ _ | with_reducible refine Zb.mk_ ?_ _ | with_reducible refine Zb.dr ?_ | with_reducible refine Zb.drN ?_ | refine Zb.up (by assumption) ?_ | refine Zb.up (Hid.out (by assumption)) ?_))):
 ∃v',Ending.returned (.agg [b,s,b',s'].toArray)= .returned v'∧Zt ((((w2.setCell ⟨g,0,none⟩ b).setCell ⟨g,1,none⟩ s).setCell ⟨g,2,none⟩ b').setCell ⟨g,3,none⟩ s') v' a∧Below m w ((((w2.setCell ⟨g,0,none⟩ b).setCell ⟨g,1,none⟩ s).setCell ⟨g,2,none⟩ b').setCell ⟨g,3,none⟩ s'):=
 ⟨_,rfl,d.keep (hR.keep4 (by decide) _ _ _ _),ZE hbe hg _ _ _ _⟩
namespace Pl
theorem Uo {n d:Int} (h:0 < d):canF (Rat.divInt n d)=⟨canI (n / (Int.gcd d n:Nat)),canI (d / (Int.gcd d n:Nat))⟩:=by
 unfold canF;rw [Rat.num_divInt,Rat.den_divInt,if_neg (by omega),Int.sign_eq_one_of_pos h,Int.one_mul,Int.natCast_ediv,Int.natAbs_of_nonneg (by omega)]
theorem Zjv {a b:Int} (ha:0≤a) (hb:0≤b):(b % a).gcd a=a.gcd b:=by
 unfold Int.gcd;rw [Int.natAbs_emod_of_nonneg hb,← Nat.gcd_rec]
theorem WP {b k:Int} (hb:0 < b) (h0: -9223372036854775807≤b * k) (h1:b * k≤9223372036854775807): -9223372036854775807≤k∧k≤9223372036854775807:=by
 constructor
 ·rcases Int.lt_or_le k 0 with h | h
  ·have:b * k≤1 * k:=Int.mul_le_mul_of_nonpos_right (by omega) (by omega);omega
  ·omega
 ·rcases Int.lt_or_le k 0 with h | h
  ·omega
  ·have:1 * k≤b * k:=Int.mul_le_mul_of_nonneg_right (by omega) h;omega
end Pl
theorem Xc [Old] (n d:Int) (w:World) (h0: -9223372036854775807≤n) (h1:n≤9223372036854775807) (h2:0 < d) (h3:d≤9223372036854775807) (hOl:Zb w:=by (repeat (first | assumption | exact Zb.up (by assumption) hOl | exact Zb.up (Hid.out (by assumption)) hOl | with_reducible refine Zb.set ?_ _ _ | with_reducible refine Zb.mk_ ?_ _ | with_reducible refine Zb.dr ?_ | with_reducible refine Zb.drN ?_ | refine Zb.up (by assumption) ?_ | refine Zb.up (Hid.out (by assumption)) ?_))):
 Calls Tryz.prog 125 #[.int .i64 n,.int .i64 d] w fun e w'=>∃v',e= .returned v'∧Zt w' v' (canF (Rat.divInt n d))∧Below w.heap.size w w':=by
 have t:=hOl.le;have hR:=Bk.new w 48 [.bool false,.slice none 0 0,.bool false,.slice none 0 0];have m:=Zc w (.cells [.bool false,.slice none 0 0,.bool false,.slice none 0 0].toArray 48);rcases Int.lt_or_le n 0 with hn | hn
 ·go_enter Tryz.func125,Tryz.ntmps125;go_wp2_with fail;generalize w.alloc _=W at *
  go_loop [5,6] (fun x y=>∃a b:Int,x= .int .i64 a∧y= .int .i64 b∧0≤a∧a≤9223372036854775807∧0 < b∧b≤9223372036854775807∧Hid (Int.gcd a b=Int.gcd d n)) (fun x _=>(intOf x).toNat)
  case atStart=>exact ⟨-n,d,by go_num,rfl,by omega,by omega,h2,h3,JZ (by first | exact Int.gcd_comm _ _ | (rw [Int.gcd_comm];simp))⟩
  case round=>
   obtain ⟨a,b,rfl,rfl,a0,a1,b0,b1,hg⟩:=hrel;rcases Int.lt_or_eq_of_le a0 with ha | ha
   ·have q0:¬a=0:=(by omega);have q2:b.tmod a=b % a:=Int.tmod_eq_emod_of_nonneg (by omega);have m0:0≤b % a:=Int.emod_nonneg _ (by omega);have m1:b % a < a:=Int.emod_lt_of_pos _ ha;have q3:IntKind.i64.wrap (b % a)=b % a:=(by simp only [IntKind.wrap,IntKind.bits,IntKind.signed];simp;omega);go_wp2
    go_round
    case rel=>exact ⟨b % a,a,rfl,rfl,m0,by omega,ha,a1,JZ (by rw [← hg.out];exact Zjv (by omega) (by omega))⟩
    case measure=>simp [intOf];omega
   ·subst ha;have hG:b=(Int.gcd d n:Nat):=(by rw [← hg.out,Int.gcd_zero_left];omega);obtain ⟨n1,h⟩:∃n1,n1=n / b:=⟨_,rfl⟩;obtain ⟨d1,i⟩:∃d1,d1=d / b:=⟨_,rfl⟩;have j:b∣n:=(by rw [hG];exact Int.gcd_dvd_right ..);have l:b∣d:=(by rw [hG];exact Int.gcd_dvd_left ..);have q0:¬b=0:=(by omega);have q1:n.tdiv b=n1:=(by rw [h,Int.tdiv_eq_ediv_of_dvd j]);have q2:d.tdiv b=d1:=(by rw [i,Int.tdiv_eq_ediv_of_dvd l]);have bn: -9223372036854775807≤n1∧n1≤9223372036854775807:=by
     obtain ⟨k,hk⟩:=j;rw [h,hk,Int.mul_ediv_cancel_left _ (by omega)];exact WP b0 (by omega) (by omega)
    have bd: -9223372036854775807≤d1∧d1≤9223372036854775807:=by
     obtain ⟨k,hk⟩:=l;rw [i,hk,Int.mul_ediv_cancel_left _ (by omega)];exact WP b0 (by omega) (by omega)
    have g:=Uo h2 (n:=n);rw [← hG,← h,← i] at g;have HC:=JZ g;obtain ⟨p,q⟩:=bn;obtain ⟨r,s⟩:=bd;have q3:IntKind.i64.wrap n1=n1:=(by simp only [IntKind.wrap,IntKind.bits,IntKind.signed];simp;omega);have q4:IntKind.i64.wrap d1=d1:=(by simp only [IntKind.wrap,IntKind.bits,IntKind.signed];simp;omega);have o:True:=trivial;clear hG h i j l g;go_wp2_with fail
    go_region_held3 (fun _=>True) (exact trivial)
     (first
      | (go_at_call 140;have _t:=o;refine (YP n1 _ (by omega) (by omega)).mono ?_;clear o _t;rintro e w1 ⟨v1,rfl,e1,c⟩;obtain ⟨A1,m1,k1,rfl,_⟩:=e1.shape)
      | (go_at_call 140;refine (YP d1 _ (by omega) (by omega)).mono ?_;rintro e w2 ⟨v2,rfl,e2,f⟩;obtain ⟨A2,m2,k2,rfl,_⟩:=e2.shape;obtain ⟨c0,c1,c2,c3⟩:=((hR.drew.later c).later f).four;obtain ⟨f0,f1,f2,f3⟩:=((hR.drew.later c).later f).fourF))
    go_wp2;refine Zq Tryz.results125 Tryz.underlying48 (by kernel_rfl) rfl (((hR.drew.later c).later f).set4 _ _ _ _) rfl ?_;rw [HC.out];exact Yr ((hR.drew.later c).later f) (Zt.mk (e1.below f) e2) (Za (Za m.drew c m.size) f (JW m.size c.size)) (JY _)
 ·go_enter Tryz.func125,Tryz.ntmps125;go_wp2_with fail;generalize w.alloc _=W at *
  go_loop [5,6] (fun x y=>∃a b:Int,x= .int .i64 a∧y= .int .i64 b∧0≤a∧a≤9223372036854775807∧0 < b∧b≤9223372036854775807∧Hid (Int.gcd a b=Int.gcd d n)) (fun x _=>(intOf x).toNat)
  case atStart=>exact ⟨n,d,by go_num,rfl,by omega,by omega,h2,h3,JZ (by first | exact Int.gcd_comm _ _ | (rw [Int.gcd_comm];simp))⟩
  case round=>
   obtain ⟨a,b,rfl,rfl,a0,a1,b0,b1,hg⟩:=hrel;rcases Int.lt_or_eq_of_le a0 with ha | ha
   ·have q0:¬a=0:=(by omega);have q2:b.tmod a=b % a:=Int.tmod_eq_emod_of_nonneg (by omega);have m0:0≤b % a:=Int.emod_nonneg _ (by omega);have m1:b % a < a:=Int.emod_lt_of_pos _ ha;have q3:IntKind.i64.wrap (b % a)=b % a:=(by simp only [IntKind.wrap,IntKind.bits,IntKind.signed];simp;omega);go_wp2
    go_round
    case rel=>exact ⟨b % a,a,rfl,rfl,m0,by omega,ha,a1,JZ (by rw [← hg.out];exact Zjv (by omega) (by omega))⟩
    case measure=>simp [intOf];omega
   ·subst ha;have hG:b=(Int.gcd d n:Nat):=(by rw [← hg.out,Int.gcd_zero_left];omega);obtain ⟨n1,h⟩:∃n1,n1=n / b:=⟨_,rfl⟩;obtain ⟨d1,i⟩:∃d1,d1=d / b:=⟨_,rfl⟩;have j:b∣n:=(by rw [hG];exact Int.gcd_dvd_right ..);have l:b∣d:=(by rw [hG];exact Int.gcd_dvd_left ..);have q0:¬b=0:=(by omega);have q1:n.tdiv b=n1:=(by rw [h,Int.tdiv_eq_ediv_of_dvd j]);have q2:d.tdiv b=d1:=(by rw [i,Int.tdiv_eq_ediv_of_dvd l]);have bn: -9223372036854775807≤n1∧n1≤9223372036854775807:=by
     obtain ⟨k,hk⟩:=j;rw [h,hk,Int.mul_ediv_cancel_left _ (by omega)];exact WP b0 (by omega) (by omega)
    have bd: -9223372036854775807≤d1∧d1≤9223372036854775807:=by
     obtain ⟨k,hk⟩:=l;rw [i,hk,Int.mul_ediv_cancel_left _ (by omega)];exact WP b0 (by omega) (by omega)
    have g:=Uo h2 (n:=n);rw [← hG,← h,← i] at g;have HC:=JZ g;obtain ⟨p,q⟩:=bn;obtain ⟨r,s⟩:=bd;have q3:IntKind.i64.wrap n1=n1:=(by simp only [IntKind.wrap,IntKind.bits,IntKind.signed];simp;omega);have q4:IntKind.i64.wrap d1=d1:=(by simp only [IntKind.wrap,IntKind.bits,IntKind.signed];simp;omega);have o:True:=trivial;clear hG h i j l g;go_wp2_with fail
    go_region_held3 (fun _=>True) (exact trivial)
     (first
      | (go_at_call 140;have _t:=o;refine (YP n1 _ (by omega) (by omega)).mono ?_;clear o _t;rintro e w1 ⟨v1,rfl,e1,c⟩;obtain ⟨A1,m1,k1,rfl,_⟩:=e1.shape)
      | (go_at_call 140;refine (YP d1 _ (by omega) (by omega)).mono ?_;rintro e w2 ⟨v2,rfl,e2,f⟩;obtain ⟨A2,m2,k2,rfl,_⟩:=e2.shape;obtain ⟨c0,c1,c2,c3⟩:=((hR.drew.later c).later f).four;obtain ⟨f0,f1,f2,f3⟩:=((hR.drew.later c).later f).fourF))
    go_wp2;refine Zq Tryz.results125 Tryz.underlying48 (by kernel_rfl) rfl (((hR.drew.later c).later f).set4 _ _ _ _) rfl ?_;rw [HC.out];exact Yr ((hR.drew.later c).later f) (Zt.mk (e1.below f) e2) (Za (Za m.drew c m.size) f (JW m.size c.size)) (JY _)
end
theorem Ygb (w:World) (x y x' y':Value):∃W,((w.alloc (.cells #[x,y] 46)).alloc (.cells #[x',y'] 46)).alloc (.cells #[.bool false,.slice none 0 0,.bool false,.slice none 0 0] 48)=W∧Bk W w.heap.size 46 [x,y]∧Bk W (w.heap.size+1) 46 [x',y']∧Bk W (w.heap.size+1+1) 48 [.bool false,.slice none 0 0,.bool false,.slice none 0 0]∧Below w.heap.size w W:=by
 refine ⟨_,rfl,((Bk.new w _ [x,y]).alloc _).alloc _,?_,?_,((Zc w _).alloc (by simp) _).alloc (by simp;omega) _⟩
 ·have:=Bk.new (w.alloc (.cells #[x,y] 46)) 46 [x',y'];rw [size_alloc] at this;exact this.alloc _
 ·have:=Bk.new ((w.alloc (.cells #[x,y] 46)).alloc (.cells #[x',y'] 46)) 48 [.bool false,.slice none 0 0,.bool false,.slice none 0 0]
  rwa [size_alloc,size_alloc] at this
def Ygc [Old] (a b:RI) (w:World) (x y:RI) (wx:World) (B B':Option Addr) (m d m' d':Nat):Prop:=
 Bk wx w.heap.size 46 [.bool x.neg,.slice B m d]∧Bk wx (w.heap.size+1) 46 [.bool y.neg,.slice B' m' d']∧Bk wx (w.heap.size+1+1) 48 [.bool false,.slice none 0 0,.bool false,.slice none 0 0]∧Below w.heap.size w wx∧
 Ym wx (.agg #[.bool x.neg,.slice B m d]) x∧Ym wx (.agg #[.bool y.neg,.slice B' m' d']) y∧0 < y.z∧Rat.divInt x.z y.z=Rat.divInt a.z b.z∧(Zo (val x.ds)).length≤549755813888∧(Zo (val y.ds)).length≤549755813888
theorem XP [Old] (v1 v2:Value) (a b:RI) (w:World) (h1:Ym w v1 a) (h2:Ym w v2 b) (hs:(Zo (val a.ds)).length≤549755813888) (hs2:(Zo (val b.ds)).length≤549755813888) (hb:b.z≠0) (hOl:Zb w:=by (repeat (first | assumption | exact Zb.up (by assumption) hOl | exact Zb.up (Hid.out (by assumption)) hOl | with_reducible refine Zb.set ?_ _ _ | with_reducible refine Zb.mk_ ?_ _ | with_reducible refine Zb.dr ?_ | with_reducible refine Zb.drN ?_ | refine Zb.up (by assumption) ?_ | refine Zb.up (Hid.out (by assumption)) ?_))):
 Calls Tryz.prog 127 #[v1,v2] w fun e w'=>∃v',e= .returned v'∧Zt w' v' (canF (Rat.divInt a.z b.z))∧Below w.heap.size w w':=by
 have aw:=hOl.le;obtain ⟨A,n,c,rfl,hd⟩:=h1.shape;obtain ⟨A',n',c',rfl,au⟩:=h2.shape;obtain ⟨W,hW,hX,a9,hR,C⟩:=Ygb w (.bool a.neg) (.slice A n c) (.bool b.neg) (.slice A' n' c');have e1:=h1.below C;have e2:=h2.below C;have HB:=JZ hb;clear hb hd au h1 h2;obtain ⟨x0,x1,_,_⟩:=hX.two;go_enter Tryz.func127,Tryz.ntmps127;go_wp2_with fail;clear hW;refine (Ul _ a _ e1).mono ?_;rintro e w1 ⟨rfl,p⟩;have a0:=hX.later p;have t:=a9.later p;have I:=hR.later p;have i:=Za C p C.size;have a6:=e1.below p;have J:=e2.below p;clear hX a9 hR C e1 e2 p x0 x1;by_cases ha:a.z=0
 ·rw [ha,sgn_zero];have HA:=JZ ha;clear ha;go_wp2_with fail;refine (Xc 0 1 _ (by omega) (by omega) (by omega) (by omega)).mono ?_;rw [show Rat.divInt 0 1=Rat.divInt a.z b.z from by rw [HA.out,Rat.zero_divInt,Rat.zero_divInt]];rintro e w2 ⟨v2,rfl,e3,g⟩;have j:=I.later g;obtain ⟨B,m,d,B',m',d',rfl,_,_⟩:=id e3;obtain ⟨c0,c1,c2,c3⟩:=j.four;obtain ⟨f0,f1,f2,f3⟩:=j.fourF;go_wp2;refine Zq Tryz.results127 Tryz.underlying48 (by kernel_rfl) rfl (j.set4 _ _ _ _) rfl ?_;exact Yr j e3 (Za i g i.size) (by omega)
 ·have F:(sgn a.z==0)=false:=by unfold sgn;split;rfl;rfl
  have HA:=JZ ha;clear ha;obtain ⟨y0,y1,_,_⟩:=t.two;go_wp2_with fail;refine (Ul _ b _ J).mono ?_;rintro e w2 ⟨rfl,g⟩;have u:=a0.later g;have h:=t.later g;have j:=I.later g;have k:=Za i g i.size;have K:=a6.below g;have L:=J.below g;clear a0 t I i a6 J g y0 y1 F;have M:True:=trivial
  go_upto_if 18 with (fail)
  go_cut [2,3] (fun s2 s3 wx=>s2= .pointer (some ⟨w.heap.size,0,none⟩)∧s3= .pointer (some ⟨w.heap.size+1,0,none⟩)∧∃(x y:RI) (B B':Option Addr) (m d m' d':Nat),Ygc a b w x y wx B B' m d m' d')
  case first=>
   rcases Int.lt_or_le b.z 0 with hz | hz
   ·have HN:=JZ hz;have F:sgn b.z= -1:=VX hz;have al:w.heap.size≠w.heap.size+1:=(by omega);have am:w.heap.size+1+1≠w.heap.size:=(by omega);have an:w.heap.size+1+1≠w.heap.size+1:=(by omega);clear hz;obtain ⟨x0,x1,f0,f1⟩:=u.two;obtain ⟨y0,y1,k0,k1⟩:=h.two;go_wp2_with fail;clear F
    go_region_with (first
     | (go_at_call 146;have _t:=M;refine (Un _ a _ (K.keep (ZG.drew _)) hs).mono ?_;clear M _t;rintro e w6 ⟨v6,rfl,e6,f⟩;obtain ⟨A6,n6,k6,rfl,_⟩:=e6.shape;obtain ⟨ax,ay,_,_⟩:=(h.drew.later f).two)
     | (go_at_call 146;refine (Un _ b _ ((L.keep (ZG.drew _)).below f) hs2).mono ?_;rintro e w7 ⟨v7,rfl,e7,s⟩;obtain ⟨A7,n7,k7,rfl,_⟩:=e7.shape;obtain ⟨c0,c1,r0,r1⟩:=((u.drew.later f).later s).two;obtain ⟨az,b0,b1,b2⟩:=((h.drew.later f).later s).two))
    all_goals
     go_wp2_with fail
     go_meet
     obtain ⟨a1,a2,a3,a4,a5⟩:=Y5 ((u.drew.later f).later s) ((h.drew.later f).later s) al (e6.below s) e7 (Za (Za k.drew f k.size) s (JW k.size f.size)) (by omega) (by omega);refine ⟨rfl,rfl,_,_,A6,A7,n6,k6,n7,k7,a1,a2,((((j.drew.later f).later s).far2 am _ _).far2 an _ _),a5,a3,a4,?_,?_,?_,?_⟩
     ·rw [ZL];have:=HN.out;omega
     ·rw [ZL,ZL,Rat.neg_divInt_neg]
     ·simp only [canI,Zl,Int.natAbs_neg,Z5];exact hs
     ·simp only [canI,Zl,Int.natAbs_neg,Z5];exact hs2
   ·have N:0 < b.z:=(by have:=HB.out;omega);have F:sgn b.z=1:=Vp N;have HZ:=JZ N;clear hz N;go_wp2_with fail
    go_meet
    exact ⟨rfl,rfl,a,b,A,A',n,c,n',c',u,h,j,k,K,L,HZ.out,rfl,hs,hs2⟩
  case rest=>
   obtain ⟨rfl,rfl,x,y,B,B',m,d,m',d',U,D,aa,E,V,X,hy,ab,ac,Y⟩:=hcut;have HZ:=JZ hy;have ao:=JZ ab;clear hy ab u h j k K L hs hs2 M;obtain ⟨x0,x1,_,_⟩:=U.two;obtain ⟨y0,y1,_,_⟩:=D.two;go_wp2_with fail;refine (Zyc _ _ x y _ V X ac Y).mono ?_;rintro e w6 ⟨v6,rfl,e6,f⟩;obtain ⟨A6,n6,k6,rfl,_⟩:=e6.shape;have bX:=U.later f;have bY:=D.later f;have bR:=aa.later f;have O:=Za E f E.size;have i1:=V.below f;have i2:=X.below f;clear U D aa E V X f x0 x1 y0 y1;have gz:(canI (Int.gcd (RI.z x) (RI.z y):Nat)).z=(Int.gcd (RI.z x) (RI.z y):Nat):=ZL _;have gs:(Zo (val (canI (Int.gcd (RI.z x) (RI.z y):Nat)).ds)).length≤549755813888:=by
    rw [show val (canI (Int.gcd (RI.z x) (RI.z y):Nat)).ds=Int.gcd (RI.z x) (RI.z y) from by simp [canI,Zl]];refine JW (Zv (Nat.le_of_dvd ?_ (show Int.gcd (RI.z x) (RI.z y)∣val (RI.ds y) from by rw [← Z5];exact Int.gcd_dvd_natAbs_right ..))) Y;have:=HZ.out;have:=Z5 y;omega
   generalize canI (Int.gcd (RI.z x) (RI.z y):Nat)=G at *;have GZ:=JZ gz;clear gz;have bG:=Bk.new w6 46 [.bool G.neg,.slice A6 n6 k6];have bn:=Zc w6 (.cells [.bool G.neg,.slice A6 n6 k6].toArray 46);have cX:=bX.later bn;have cY:=bY.later bn;have cR:=bR.later bn;have P:=Za O bn O.size;have j1:=i1.below bn;have j2:=i2.below bn;have j3:=e6.below bn;obtain ⟨x0,x1,_,_⟩:=cX.two;obtain ⟨y0,y1,_,_⟩:=cY.two;obtain ⟨g0,g1,_,_⟩:=bG.two;clear bX bY bR O i1 i2 e6 bn;go_wp2_with fail;generalize w6.alloc _=W7 at *;refine (Zds _ _ x G _ j1 j3 ac gs).mono ?_;have R:G.z≠0:=by
    rw [GZ.out];have:=Int.gcd_pos_of_ne_zero_right (RI.z x) (show RI.z y≠0 by have:=HZ.out;omega);omega
   rintro e w8 ⟨q,r,rfl,dq,dr,l⟩;rw [if_neg R] at dq dr ⊢;obtain ⟨A8,n8,k8,rfl,_⟩:=dq.shape;obtain ⟨A9,n9,k9,rfl,_⟩:=dr.shape;have bX:=cX.later l;have bY:=cY.later l;have bR:=cR.later l;have a7:=bG.later l;have S:=Za P l P.size;have i2:=j2.below l;have i3:=j3.below l;clear cX cY cR P j1 j2 j3 bG l x0 x1 y0 y1 g0 g1;have ap:=JZ R;clear R;have hq:canI ((RI.z x).fdiv G.z)=canI ((RI.z x) / G.z):=(by rw [Int.fdiv_eq_ediv_of_nonneg _ (by rw [GZ.out];omega)]);rw [hq] at dq ⊢;clear hq;generalize canI ((RI.z x).fmod G.z)=R1 at *;generalize aj:canI ((RI.z x) / G.z)=Q1 at *;have aq:=JZ aj;clear aj;have bQ:=(Bk.new w8 46 [.bool Q1.neg,.slice A8 n8 k8]).alloc (.cells #[.bool R1.neg,.slice A9 n9 k9] 46);have bn:=(Zc w8 (.cells [.bool Q1.neg,.slice A8 n8 k8].toArray 46)).alloc (by simp) (.cells #[.bool R1.neg,.slice A9 n9 k9] 46);have cX:=bX.later bn;have cY:=bY.later bn;have cR:=bR.later bn;have cG:=a7.later bn;have T:=Za S bn S.size;have j2:=i2.below bn;have j3:=i3.below bn;have j4:=dq.below bn;obtain ⟨y0,y1,_,_⟩:=cY.two;obtain ⟨g0,g1,_,_⟩:=cG.two;obtain ⟨q0,q1,_,_⟩:=bQ.two;clear bX bY bR a7 S i2 i3 dq dr bn;go_wp2_with fail;generalize (w8.alloc _).alloc _=W9 at *;refine (Zds _ _ y G _ j2 j3 Y gs).mono ?_;rintro e Z ⟨q',r',rfl,dq,dr,o⟩;rw [if_neg ap.out] at dq dr ⊢;obtain ⟨ad,ae,af,rfl,_⟩:=dq.shape;obtain ⟨ag,ah,ai,rfl,_⟩:=dr.shape;have bR:=cR.later o;have H:=bQ.later o;have v:=Za T o T.size;have i4:=j4.below o;clear cX cY cR cG T j2 j3 j4 bQ o y0 y1 g0 g1 q0 q1;have hq:canI ((RI.z y).fdiv G.z)=canI ((RI.z y) / G.z):=(by rw [Int.fdiv_eq_ediv_of_nonneg _ (by rw [GZ.out];omega)]);rw [hq] at dq ⊢;clear hq;generalize canI ((RI.z y).fmod G.z)=R2 at *;generalize ak:canI ((RI.z y) / G.z)=Q2 at *;have ar:=JZ ak;clear ak;have bD:=(Bk.new Z 46 [.bool Q2.neg,.slice ad ae af]).alloc (.cells #[.bool R2.neg,.slice ag ah ai] 46);have bn:=(Zc Z (.cells [.bool Q2.neg,.slice ad ae af].toArray 46)).alloc (by simp) (.cells #[.bool R2.neg,.slice ag ah ai] 46);have cR:=bR.later bn;have cQ:=H.later bn;have a8:=Za v bn v.size;have j4:=i4.below bn;have j5:=dq.below bn;obtain ⟨q0,q1,_,_⟩:=cQ.two;obtain ⟨d0,d1,_,_⟩:=bD.two;obtain ⟨c0,c1,c2,c3⟩:=cR.four;obtain ⟨f0,f1,f2,f3⟩:=cR.fourF;clear bR H v i4 dq dr bn;generalize av:(Z.alloc _).alloc _=b3 at *;go_wp2;refine Zq Tryz.results127 Tryz.underlying48 (by kernel_rfl) rfl (cR.set4 _ _ _ _) rfl ?_;rw [← ao.out,Uo HZ.out,Int.gcd_comm,← GZ.out,aq.out,ar.out];exact Yr cR (Zt.mk j4 j5) a8 (by omega)
namespace Pl
def qs (q:Rat):Int:=sgn q.num
theorem Zue {x g:Int} (hg:0 < g) (h:g∣x):sgn (x / g)=sgn x:=by
 obtain ⟨k,rfl⟩:=h;rw [Int.mul_ediv_cancel_left _ (by omega)];unfold sgn;rcases Int.lt_trichotomy k 0 with h | h | h
 ·rw [if_pos h,if_pos (Int.mul_neg_of_pos_of_neg hg h)]
 ·subst h;simp
 ·have:=Int.mul_pos hg h;rw [if_neg (by omega),if_neg (by omega),if_neg (by omega),if_neg (by omega)]
theorem Zjw (n d:Int):qs (Rat.divInt n d)=sgn n * sgn d:=by
 unfold qs;rw [Rat.num_divInt];rcases Int.lt_trichotomy d 0 with h | h | h
 ·have hg:0 < ((Int.gcd d n:Nat):Int):=by have:=Int.gcd_pos_of_ne_zero_left n (show d≠0 by omega);omega
  rw [Int.sign_eq_neg_one_of_neg h,Zue hg (Int.dvd_mul_of_dvd_right (Int.gcd_dvd_right ..)),VX h];unfold sgn;rcases Int.lt_trichotomy n 0 with k | k | k
  ·rw [if_neg (by omega),if_neg (by omega),if_pos k];rfl
  ·subst k;simp
  ·rw [if_pos (by omega),if_neg (by omega),if_neg (by omega)];rfl
 ·subst h;simp [sgn_zero]
 ·have hg:0 < ((Int.gcd d n:Nat):Int):=by have:=Int.gcd_pos_of_ne_zero_left n (show d≠0 by omega);omega
  rw [Int.sign_eq_one_of_pos h,Zue hg (Int.dvd_mul_of_dvd_right (Int.gcd_dvd_right ..)),Vp h,Int.one_mul,Int.mul_one]
theorem Zjx (z:Int): -1≤sgn z∧sgn z≤1:=by unfold sgn;split;omega;split <;> omega
theorem Vb (q:Rat): -1≤qs q∧qs q≤1:=Zjx _
def zeroF:RF:=⟨canI 0,canI 0⟩
end Pl
theorem Zt.zero [Old] (w:World):Zt w (.agg #[.bool false,.slice none 0 0,.bool false,.slice none 0 0]) zeroF:=by
 have h:=Ym.zero w;have:=Zt.mk (x:=canI 0) (y:=canI 0) (by rw [canI_zero] at h ⊢;exact h) (by rw [canI_zero] at h ⊢;exact h);rw [canI_zero] at this;unfold zeroF;rw [canI_zero];exact this
def Zuf [Old] (n d:Int) (w:World) (e:Ending) (w':World):Prop:=
 ∃v',e= .returned (.tuple #[v',.int .i64 (if d=0 then 11 else 0)])∧Zt w' v' (if d=0 then zeroF else canF (Rat.divInt n d))∧Below w.heap.size w w'
theorem Ybx [Old] (v1 v2:Value) (a b:RI) (w:World) (h1:Ym w v1 a) (h2:Ym w v2 b) (hs:(Zo (val a.ds)).length≤549755813888) (hs2:(Zo (val b.ds)).length≤549755813888) (hOl:Zb w:=by (repeat (first | assumption | exact Zb.up (by assumption) hOl | exact Zb.up (Hid.out (by assumption)) hOl | with_reducible refine Zb.set ?_ _ _ | with_reducible refine Zb.mk_ ?_ _ | with_reducible refine Zb.dr ?_ | with_reducible refine Zb.drN ?_ | refine Zb.up (by assumption) ?_ | refine Zb.up (Hid.out (by assumption)) ?_))):
 Calls Tryz.prog 139 #[v1,v2] w (Zuf a.z b.z w):=by
 have t:=hOl.le;obtain ⟨A,n,c,rfl,hd⟩:=h1.shape;obtain ⟨A',n',c',rfl,s⟩:=h2.shape;obtain ⟨W,hW,hX,k,hR,i⟩:=Ygb w (.bool a.neg) (.slice A n c) (.bool b.neg) (.slice A' n' c');have e1:=h1.below i;have e2:=h2.below i;clear hd s h1 h2;obtain ⟨x0,x1,_,_⟩:=k.two;go_enter Tryz.func139,Tryz.ntmps139;go_wp2_with fail;clear hW;refine (Ul _ b _ e2).mono ?_;rintro e w1 ⟨rfl,f⟩;have p:=hX.later f;have l:=k.later f;have g:=hR.later f;have h:=Za i f i.size;have q:=e1.below f;have r:=e2.below f;clear hX k hR i e1 e2 f x0 x1;by_cases ha:b.z=0
 ·rw [ha,sgn_zero];have HA:=JZ ha;clear ha;obtain ⟨c0,c1,c2,c3⟩:=g.four;obtain ⟨f0,f1,f2,f3⟩:=g.fourF;go_wp2;refine YR Tryz.results139 Tryz.underlying48 (by kernel_rfl) rfl (g.set4 _ _ _ _) rfl ?_;obtain ⟨v',q1,q2,q3⟩:=Yr g (Zt.zero w1) h (show w.heap.size≤w.heap.size+1+1 by omega);injection q1 with q1;subst q1;exact ⟨_,by rw [if_pos HA.out];rfl,by rw [if_pos HA.out];exact q2,q3⟩
 ·have u:(sgn b.z==0)=false:=by unfold sgn;split;rfl;rfl
  have HA:=JZ ha;clear ha;obtain ⟨x0,x1,_,_⟩:=p.two;obtain ⟨y0,y1,_,_⟩:=l.two;go_wp2_with fail;refine (XP _ _ a b _ q r hs hs2 HA.out).mono ?_;rintro e w2 ⟨v2,rfl,e3,o⟩;have j:=g.later o;obtain ⟨B,m,d,B',m',d',rfl,_,_⟩:=id e3;obtain ⟨c0,c1,c2,c3⟩:=j.four;obtain ⟨f0,f1,f2,f3⟩:=j.fourF;go_wp2;refine YR Tryz.results139 Tryz.underlying48 (by kernel_rfl) rfl (j.set4 _ _ _ _) rfl ?_;obtain ⟨v',q1,q2,q3⟩:=Yr j e3 (Za h o h.size) (show w.heap.size≤w.heap.size+1+1 by omega);injection q1 with q1;subst q1;exact ⟨_,by rw [if_neg HA.out];rfl,by rw [if_neg HA.out];exact q2,q3⟩
theorem V5 [Old] (n d:Int) (w:World) (h0: -9223372036854775808≤n) (h1:n≤9223372036854775807) (h2: -9223372036854775808≤d) (h3:d≤9223372036854775807) (hOl:Zb w:=by (repeat (first | assumption | exact Zb.up (by assumption) hOl | exact Zb.up (Hid.out (by assumption)) hOl | with_reducible refine Zb.set ?_ _ _ | with_reducible refine Zb.mk_ ?_ _ | with_reducible refine Zb.dr ?_ | with_reducible refine Zb.drN ?_ | refine Zb.up (by assumption) ?_ | refine Zb.up (Hid.out (by assumption)) ?_))):
 Calls Tryz.prog 114 #[.int .i64 n,.int .i64 d] w (Zuf n d w):=by
 have h:=hOl.le;have hR:=Bk.new w 48 [.bool false,.slice none 0 0,.bool false,.slice none 0 0];have c:=Zc w (.cells [.bool false,.slice none 0 0,.bool false,.slice none 0 0].toArray 48);go_enter Tryz.func114,Tryz.ntmps114;go_wp2_with fail;generalize w.alloc _=W at *;refine (YP n _ h0 h1).mono ?_;rintro e w1 ⟨v1,rfl,e1,f⟩;go_wp2_with fail;refine (YP d _ h2 h3).mono ?_;rintro e w2 ⟨v2,rfl,e2,b⟩;go_wp2_with fail;refine (Ybx _ _ (canI n) (canI d) _ (e1.below b) e2 (JW (Wi h0 h1) (by decide)) (JW (Wi h2 h3) (by decide))).mono ?_;rw [ZL,ZL];rintro e w3 ⟨v3,rfl,e3,g⟩;generalize hE:(if d=0 then (11:Int) else 0)=ee at *;generalize hF:(if d=0 then zeroF else canF (Rat.divInt n d))=ff at *;have HE:=JZ hE;have HF:=JZ hF;clear hE hF;have a:=((hR.later f).later b).later g;have b1:=Za c f c.size;have b2:=Za b1 b b1.size;have b3:=Za b2 g b2.size;obtain ⟨B,m,d',B',m',i,rfl,_,_⟩:=id e3;obtain ⟨c0,c1,c2,c3⟩:=a.four;obtain ⟨f0,f1,f2,f3⟩:=a.fourF;go_wp2;refine YR Tryz.results114 Tryz.underlying48 (by kernel_rfl) rfl (a.set4 _ _ _ _) rfl ?_;obtain ⟨v',q1,q2,q3⟩:=Yr a e3 b3 (JY _);injection q1 with q1;subst q1;exact ⟨_,by rw [HE.out];rfl,by rw [HF.out];exact q2,q3⟩
theorem Zz [Old] (v:Value) (a:RF) (w:World) (h:Zt w v a) (hOl:Zb w:=by (repeat (first | assumption | exact Zb.up (by assumption) hOl | exact Zb.up (Hid.out (by assumption)) hOl | with_reducible refine Zb.set ?_ _ _ | with_reducible refine Zb.mk_ ?_ _ | with_reducible refine Zb.dr ?_ | with_reducible refine Zb.drN ?_ | refine Zb.up (by assumption) ?_ | refine Zb.up (Hid.out (by assumption)) ?_))):
 Calls Tryz.prog 88 #[v] w fun e w'=>e= .returned (.int .i64 (qs a.q))∧Below w.heap.size w w':=by
 have j:=hOl.le;obtain ⟨A,n,c,A',n',c',rfl,hd,i⟩:=h;have hX:=Bk.new w 48 [.bool a.num.neg,.slice A n c,.bool a.den.neg,.slice A' n' c'];have b:=Zc w (.cells [.bool a.num.neg,.slice A n c,.bool a.den.neg,.slice A' n' c'].toArray 48);have e1:Ym w (.agg #[.bool a.num.neg,.slice A n c]) a.num:=⟨_,rfl,hd⟩;have e2:Ym w (.agg #[.bool a.den.neg,.slice A' n' c']) a.den:=⟨_,rfl,i⟩;have e1:=e1.below b;have e2:=e2.below b;have HS:=JZ (Zjw a.num.z a.den.z);have hw:IntKind.i64.wrap (sgn a.num.z * sgn a.den.z)=sgn a.num.z * sgn a.den.z:=by
  have:=Zjx a.num.z;have:=Zjx a.den.z;rw [← HS.out];have:=Vb (Rat.divInt a.num.z a.den.z);simp only [IntKind.wrap,IntKind.bits,IntKind.signed];simp;omega
 have f:True:=trivial;go_enter Tryz.func88,Tryz.ntmps88;go_wp2_with fail;generalize w.alloc _=W at *
 go_region_held3 (fun w'=>w'.cell? ⟨w.heap.size,0,none⟩=some (.bool a.num.neg)∧w'.cell? ⟨w.heap.size,1,none⟩=some (.slice A n c)∧w'.cell? ⟨w.heap.size,2,none⟩=some (.bool a.den.neg)∧w'.cell? ⟨w.heap.size,3,none⟩=some (.slice A' n' c'))
  (first | with_reducible exact hX.four | with_reducible exact hX.drew.four | with_reducible exact (hX.drew.later d).four | with_reducible exact ((hX.drew.later d).later g).four)
  (first
   | (go_at_call 119;have _t:=f;refine (Ul _ a.num _ (e1.keep (ZG.drew _))).mono ?_;clear f _t;rintro e w6 ⟨rfl,d⟩)
   | (go_at_call 119;refine (Ul _ a.den _ ((e2.keep (ZG.drew _)).below d)).mono ?_;rintro e w7 ⟨rfl,g⟩))
 go_wp2;go_ret;refine ⟨?_,Za (Za b.drew d b.size) g (JW b.size d.size)⟩;rw [show qs a.q=sgn a.num.z * sgn a.den.z from HS.out];rfl
end Go.Proofs.YtncmobkhenfhpaaGreat
