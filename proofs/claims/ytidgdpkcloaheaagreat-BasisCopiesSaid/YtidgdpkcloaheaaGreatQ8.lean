/- Lemmas of the claim; no condition. -/
import Derived.Test.YtidgdpkcloaheaaGreatQ7
set_option linter.all false
set_option maxRecDepth 100000
set_option maxHeartbeats 40000000
namespace Go.Proofs.YtidgdpkcloaheaaGreat
open Go.RowKit
open Pl
attribute [local go_sem ↓] Go.wp_at_zero Go.wp_at_succ
section
section
variable {w w':World} {g:Nat} {t:TypeId} {a b c d:Value}
theorem Bk.set4 (h:Bk w g t [a,b,c,d]) (x y z u:Value):Bk ((((w.setCell ⟨g,0,none⟩ x).setCell ⟨g,1,none⟩ y).setCell ⟨g,2,none⟩ z).setCell ⟨g,3,none⟩ u) g t [x,y,z,u]:=(((h.set_ 0 x).set_ 1 y).set_ 2 z).set_ 3 u
theorem Bk.keep4 [Old] (h:Bk w g t [a,b,c,d]) (ht:t≠106) (x y z u:Value) (hg:Old.n≤g:=by first | assumption | exact Nat.zero_le _ | omega | ((first | with_reducible refine Zb.le ?_ | with_reducible refine Zb.le1 ?_ | with_reducible refine Zb.le2 ?_ | with_reducible refine Zb.le3 ?_);repeat (first | assumption | exact Zb.up (by assumption) hOl | exact Zb.up (Hid.out (by assumption)) hOl | with_reducible refine Zb.set ?_ _ _ | with_reducible refine Zb.mk_ ?_ _ | with_reducible refine Zb.dr ?_ | with_reducible refine Zb.drN ?_ | refine Zb.up (by assumption) ?_ | refine Zb.up (Hid.out (by assumption)) ?_))):ZE w ((((w.setCell ⟨g,0,none⟩ x).setCell ⟨g,1,none⟩ y).setCell ⟨g,2,none⟩ z).setCell ⟨g,3,none⟩ u):=
 (((h.keepD ht _ _ hg).trans ((h.set_ 0 x).keepD ht _ _ hg)).trans (((h.set_ 0 x).set_ 1 y).keepD ht _ _ hg)).trans ((((h.set_ 0 x).set_ 1 y).set_ 2 z).keepD ht _ _ hg)
theorem Bk.far4 {g':Nat} {cs:List Value} (h:Bk w g t cs) (hne:g≠g') (x y z u:Value):Bk ((((w.setCell ⟨g',0,none⟩ x).setCell ⟨g',1,none⟩ y).setCell ⟨g',2,none⟩ z).setCell ⟨g',3,none⟩ u) g t cs:=
 (((h.far (p:=⟨g',0,none⟩) hne x).far (p:=⟨g',1,none⟩) hne y).far (p:=⟨g',2,none⟩) hne z).far (p:=⟨g',3,none⟩) hne u
theorem Z5 {n:Nat} (h:Below n w w') (hg:n≤g) (x y z u:Value):Below n w ((((w'.setCell ⟨g,0,none⟩ x).setCell ⟨g,1,none⟩ y).setCell ⟨g,2,none⟩ z).setCell ⟨g,3,none⟩ u):=(((h.setCell hg _).setCell hg _).setCell hg _).setCell hg _
end
theorem Yn [Old] {w w2:World} {m g:Nat} {x y z u b s b' s':Value} {a:RF} (hR:Bk w2 g 36 [x,y,z,u]) (d:Zm w2 (.agg #[b,s,b',s']) a) (hbe:Below m w w2) (hg:m≤g) (hO:Old.n≤m:=by first | assumption | exact Nat.zero_le _ | omega | ((first | with_reducible refine Zb.le ?_ | with_reducible refine Zb.le1 ?_ | with_reducible refine Zb.le2 ?_ | with_reducible refine Zb.le3 ?_);repeat (first | assumption | exact Zb.up (by assumption) hOl | exact Zb.up (Hid.out (by assumption)) hOl | with_reducible refine Zb.set ?_ _ _ | with_reducible refine Zb.mk_ ?_ _ | with_reducible refine Zb.dr ?_ | with_reducible refine Zb.drN ?_ | refine Zb.up (by assumption) ?_ | refine Zb.up (Hid.out (by assumption)) ?_))):
 ∃v',Ending.returned (.agg [b,s,b',s'].toArray)= .returned v'∧Zm ((((w2.setCell ⟨g,0,none⟩ b).setCell ⟨g,1,none⟩ s).setCell ⟨g,2,none⟩ b').setCell ⟨g,3,none⟩ s') v' a∧Below m w ((((w2.setCell ⟨g,0,none⟩ b).setCell ⟨g,1,none⟩ s).setCell ⟨g,2,none⟩ b').setCell ⟨g,3,none⟩ s'):=
 ⟨_,rfl,d.keep (hR.keep4 (by decide) _ _ _ _),Z5 hbe hg _ _ _ _⟩
namespace Pl
theorem WU {n d:Int} (h:0 < d):canF (Rat.divInt n d)=⟨canI (n / (Int.gcd d n:Nat)),canI (d / (Int.gcd d n:Nat))⟩:=by
 unfold canF;rw [Rat.num_divInt,Rat.den_divInt,if_neg (by omega),Int.sign_eq_one_of_pos h,Int.one_mul,Int.natCast_ediv,Int.natAbs_of_nonneg (by omega)]
theorem Zeb {a b:Int} (ha:0≤a) (hb:0≤b):(b % a).gcd a=a.gcd b:=by
 unfold Int.gcd;rw [Int.natAbs_emod_of_nonneg hb,← Nat.gcd_rec]
theorem XO {b k:Int} (hb:0 < b) (h0: -9223372036854775807≤b * k) (h1:b * k≤9223372036854775807): -9223372036854775807≤k∧k≤9223372036854775807:=by
 constructor
 ·rcases Int.lt_or_le k 0 with h | h
  ·have:b * k≤1 * k:=Int.mul_le_mul_of_nonpos_right (by omega) (by omega);omega
  ·omega
 ·rcases Int.lt_or_le k 0 with h | h
  ·omega
  ·have:1 * k≤b * k:=Int.mul_le_mul_of_nonneg_right (by omega) h;omega
end Pl
theorem YQ [Old] (n d:Int) (w:World) (h0: -9223372036854775807≤n) (h1:n≤9223372036854775807) (h2:0 < d) (h3:d≤9223372036854775807) (hOl:Zb w:=by (repeat (first | assumption | exact Zb.up (by assumption) hOl | exact Zb.up (Hid.out (by assumption)) hOl | with_reducible refine Zb.set ?_ _ _ | with_reducible refine Zb.mk_ ?_ _ | with_reducible refine Zb.dr ?_ | with_reducible refine Zb.drN ?_ | refine Zb.up (by assumption) ?_ | refine Zb.up (Hid.out (by assumption)) ?_))):
 Calls Tryz.prog 81 #[.int .i64 n,.int .i64 d] w fun e w'=>∃v',e= .returned v'∧Zm w' v' (canF (Rat.divInt n d))∧Below w.heap.size w w':=by
 have t:=hOl.le;have hR:=Bk.new w 36 [.bool false,.slice none 0 0,.bool false,.slice none 0 0];have m:=Zd w (.cells [.bool false,.slice none 0 0,.bool false,.slice none 0 0].toArray 36);rcases Int.lt_or_le n 0 with hn | hn
 ·go_enter Tryz.func81,Tryz.ntmps81;go_wp2_with fail;generalize w.alloc _=W at *
  go_loop [5,6] (fun x y=>∃a b:Int,x= .int .i64 a∧y= .int .i64 b∧0≤a∧a≤9223372036854775807∧0 < b∧b≤9223372036854775807∧Hid (Int.gcd a b=Int.gcd d n)) (fun x _=>(intOf x).toNat)
  case atStart=>exact ⟨-n,d,by go_num,rfl,by omega,by omega,h2,h3,JZ (by first | exact Int.gcd_comm _ _ | (rw [Int.gcd_comm];simp))⟩
  case round=>
   obtain ⟨a,b,rfl,rfl,a0,a1,b0,b1,hg⟩:=hrel;rcases Int.lt_or_eq_of_le a0 with ha | ha
   ·have q0:¬a=0:=(by omega);have q2:b.tmod a=b % a:=Int.tmod_eq_emod_of_nonneg (by omega);have m0:0≤b % a:=Int.emod_nonneg _ (by omega);have m1:b % a < a:=Int.emod_lt_of_pos _ ha;have q3:IntKind.i64.wrap (b % a)=b % a:=(by simp only [IntKind.wrap,IntKind.bits,IntKind.signed];simp;omega);go_wp2
    go_round
    case rel=>exact ⟨b % a,a,rfl,rfl,m0,by omega,ha,a1,JZ (by rw [← hg.out];exact Zeb (by omega) (by omega))⟩
    case measure=>simp [intOf];omega
   ·subst ha;have hG:b=(Int.gcd d n:Nat):=(by rw [← hg.out,Int.gcd_zero_left];omega);obtain ⟨n1,h⟩:∃n1,n1=n / b:=⟨_,rfl⟩;obtain ⟨d1,i⟩:∃d1,d1=d / b:=⟨_,rfl⟩;have j:b∣n:=(by rw [hG];exact Int.gcd_dvd_right ..);have l:b∣d:=(by rw [hG];exact Int.gcd_dvd_left ..);have q0:¬b=0:=(by omega);have q1:n.tdiv b=n1:=(by rw [h,Int.tdiv_eq_ediv_of_dvd j]);have q2:d.tdiv b=d1:=(by rw [i,Int.tdiv_eq_ediv_of_dvd l]);have bn: -9223372036854775807≤n1∧n1≤9223372036854775807:=by
     obtain ⟨k,hk⟩:=j;rw [h,hk,Int.mul_ediv_cancel_left _ (by omega)];exact XO b0 (by omega) (by omega)
    have bd: -9223372036854775807≤d1∧d1≤9223372036854775807:=by
     obtain ⟨k,hk⟩:=l;rw [i,hk,Int.mul_ediv_cancel_left _ (by omega)];exact XO b0 (by omega) (by omega)
    have g:=WU h2 (n:=n);rw [← hG,← h,← i] at g;have HC:=JZ g;obtain ⟨p,q⟩:=bn;obtain ⟨r,s⟩:=bd;have q3:IntKind.i64.wrap n1=n1:=(by simp only [IntKind.wrap,IntKind.bits,IntKind.signed];simp;omega);have q4:IntKind.i64.wrap d1=d1:=(by simp only [IntKind.wrap,IntKind.bits,IntKind.signed];simp;omega);have o:True:=trivial;clear hG h i j l g;go_wp2_with fail
    go_region_held3 (fun _=>True) (exact trivial)
     (first
      | (go_at_call 97;have _t:=o;refine (YG n1 _ (by omega) (by omega)).mono ?_;clear o _t;rintro e w1 ⟨v1,rfl,e1,c⟩;obtain ⟨A1,m1,k1,rfl,_⟩:=e1.shape)
      | (go_at_call 97;refine (YG d1 _ (by omega) (by omega)).mono ?_;rintro e w2 ⟨v2,rfl,e2,f⟩;obtain ⟨A2,m2,k2,rfl,_⟩:=e2.shape;obtain ⟨c0,c1,c2,c3⟩:=((hR.drew.later c).later f).four;obtain ⟨f0,f1,f2,f3⟩:=((hR.drew.later c).later f).fourF))
    go_wp2;refine Zn Tryz.results81 Tryz.underlying36 (by kernel_rfl) rfl (((hR.drew.later c).later f).set4 _ _ _ _) rfl ?_;rw [HC.out];exact Yn ((hR.drew.later c).later f) (Zm.mk (e1.below f) e2) (Za (Za m.drew c m.size) f (JW m.size c.size)) (JY _)
 ·go_enter Tryz.func81,Tryz.ntmps81;go_wp2_with fail;generalize w.alloc _=W at *
  go_loop [5,6] (fun x y=>∃a b:Int,x= .int .i64 a∧y= .int .i64 b∧0≤a∧a≤9223372036854775807∧0 < b∧b≤9223372036854775807∧Hid (Int.gcd a b=Int.gcd d n)) (fun x _=>(intOf x).toNat)
  case atStart=>exact ⟨n,d,by go_num,rfl,by omega,by omega,h2,h3,JZ (by first | exact Int.gcd_comm _ _ | (rw [Int.gcd_comm];simp))⟩
  case round=>
   obtain ⟨a,b,rfl,rfl,a0,a1,b0,b1,hg⟩:=hrel;rcases Int.lt_or_eq_of_le a0 with ha | ha
   ·have q0:¬a=0:=(by omega);have q2:b.tmod a=b % a:=Int.tmod_eq_emod_of_nonneg (by omega);have m0:0≤b % a:=Int.emod_nonneg _ (by omega);have m1:b % a < a:=Int.emod_lt_of_pos _ ha;have q3:IntKind.i64.wrap (b % a)=b % a:=(by simp only [IntKind.wrap,IntKind.bits,IntKind.signed];simp;omega);go_wp2
    go_round
    case rel=>exact ⟨b % a,a,rfl,rfl,m0,by omega,ha,a1,JZ (by rw [← hg.out];exact Zeb (by omega) (by omega))⟩
    case measure=>simp [intOf];omega
   ·subst ha;have hG:b=(Int.gcd d n:Nat):=(by rw [← hg.out,Int.gcd_zero_left];omega);obtain ⟨n1,h⟩:∃n1,n1=n / b:=⟨_,rfl⟩;obtain ⟨d1,i⟩:∃d1,d1=d / b:=⟨_,rfl⟩;have j:b∣n:=(by rw [hG];exact Int.gcd_dvd_right ..);have l:b∣d:=(by rw [hG];exact Int.gcd_dvd_left ..);have q0:¬b=0:=(by omega);have q1:n.tdiv b=n1:=(by rw [h,Int.tdiv_eq_ediv_of_dvd j]);have q2:d.tdiv b=d1:=(by rw [i,Int.tdiv_eq_ediv_of_dvd l]);have bn: -9223372036854775807≤n1∧n1≤9223372036854775807:=by
     obtain ⟨k,hk⟩:=j;rw [h,hk,Int.mul_ediv_cancel_left _ (by omega)];exact XO b0 (by omega) (by omega)
    have bd: -9223372036854775807≤d1∧d1≤9223372036854775807:=by
     obtain ⟨k,hk⟩:=l;rw [i,hk,Int.mul_ediv_cancel_left _ (by omega)];exact XO b0 (by omega) (by omega)
    have g:=WU h2 (n:=n);rw [← hG,← h,← i] at g;have HC:=JZ g;obtain ⟨p,q⟩:=bn;obtain ⟨r,s⟩:=bd;have q3:IntKind.i64.wrap n1=n1:=(by simp only [IntKind.wrap,IntKind.bits,IntKind.signed];simp;omega);have q4:IntKind.i64.wrap d1=d1:=(by simp only [IntKind.wrap,IntKind.bits,IntKind.signed];simp;omega);have o:True:=trivial;clear hG h i j l g;go_wp2_with fail
    go_region_held3 (fun _=>True) (exact trivial)
     (first
      | (go_at_call 97;have _t:=o;refine (YG n1 _ (by omega) (by omega)).mono ?_;clear o _t;rintro e w1 ⟨v1,rfl,e1,c⟩;obtain ⟨A1,m1,k1,rfl,_⟩:=e1.shape)
      | (go_at_call 97;refine (YG d1 _ (by omega) (by omega)).mono ?_;rintro e w2 ⟨v2,rfl,e2,f⟩;obtain ⟨A2,m2,k2,rfl,_⟩:=e2.shape;obtain ⟨c0,c1,c2,c3⟩:=((hR.drew.later c).later f).four;obtain ⟨f0,f1,f2,f3⟩:=((hR.drew.later c).later f).fourF))
    go_wp2;refine Zn Tryz.results81 Tryz.underlying36 (by kernel_rfl) rfl (((hR.drew.later c).later f).set4 _ _ _ _) rfl ?_;rw [HC.out];exact Yn ((hR.drew.later c).later f) (Zm.mk (e1.below f) e2) (Za (Za m.drew c m.size) f (JW m.size c.size)) (JY _)
end
theorem Zwv (w:World) (x y x' y':Value):∃W,((w.alloc (.cells #[x,y] 34)).alloc (.cells #[x',y'] 34)).alloc (.cells #[.bool false,.slice none 0 0,.bool false,.slice none 0 0] 36)=W∧Bk W w.heap.size 34 [x,y]∧Bk W (w.heap.size+1) 34 [x',y']∧Bk W (w.heap.size+1+1) 36 [.bool false,.slice none 0 0,.bool false,.slice none 0 0]∧Below w.heap.size w W:=by
 refine ⟨_,rfl,((Bk.new w _ [x,y]).alloc _).alloc _,?_,?_,((Zd w _).alloc (by simp) _).alloc (by simp;omega) _⟩
 ·have:=Bk.new (w.alloc (.cells #[x,y] 34)) 34 [x',y'];rw [size_alloc] at this;exact this.alloc _
 ·have:=Bk.new ((w.alloc (.cells #[x,y] 34)).alloc (.cells #[x',y'] 34)) 36 [.bool false,.slice none 0 0,.bool false,.slice none 0 0]
  rwa [size_alloc,size_alloc] at this
def Zwb [Old] (a b:RI) (w:World) (x y:RI) (wx:World) (B B':Option Addr) (m d m' d':Nat):Prop:=
 Bk wx w.heap.size 34 [.bool x.neg,.slice B m d]∧Bk wx (w.heap.size+1) 34 [.bool y.neg,.slice B' m' d']∧Bk wx (w.heap.size+1+1) 36 [.bool false,.slice none 0 0,.bool false,.slice none 0 0]∧Below w.heap.size w wx∧
 ZT wx (.agg #[.bool x.neg,.slice B m d]) x∧ZT wx (.agg #[.bool y.neg,.slice B' m' d']) y∧0 < y.z∧Rat.divInt x.z y.z=Rat.divInt a.z b.z∧(Zi (val x.ds)).length≤549755813888∧(Zi (val y.ds)).length≤549755813888
theorem Xd [Old] (v1 v2:Value) (a b:RI) (w:World) (h1:ZT w v1 a) (h2:ZT w v2 b) (hs:(Zi (val a.ds)).length≤549755813888) (hs2:(Zi (val b.ds)).length≤549755813888) (hb:b.z≠0) (hOl:Zb w:=by (repeat (first | assumption | exact Zb.up (by assumption) hOl | exact Zb.up (Hid.out (by assumption)) hOl | with_reducible refine Zb.set ?_ _ _ | with_reducible refine Zb.mk_ ?_ _ | with_reducible refine Zb.dr ?_ | with_reducible refine Zb.drN ?_ | refine Zb.up (by assumption) ?_ | refine Zb.up (Hid.out (by assumption)) ?_))):
 Calls Tryz.prog 83 #[v1,v2] w fun e w'=>∃v',e= .returned v'∧Zm w' v' (canF (Rat.divInt a.z b.z))∧Below w.heap.size w w':=by
 have aw:=hOl.le;obtain ⟨A,n,c,rfl,hd⟩:=h1.shape;obtain ⟨A',n',c',rfl,au⟩:=h2.shape;obtain ⟨W,hW,hX,a9,hR,C⟩:=Zwv w (.bool a.neg) (.slice A n c) (.bool b.neg) (.slice A' n' c');have e1:=h1.below C;have e2:=h2.below C;have HB:=JZ hb;clear hb hd au h1 h2;obtain ⟨x0,x1,_,_⟩:=hX.two;go_enter Tryz.func83,Tryz.ntmps83;go_wp2_with fail;clear hW;refine (WS _ a _ e1).mono ?_;rintro e w1 ⟨rfl,p⟩;have a0:=hX.later p;have t:=a9.later p;have I:=hR.later p;have i:=Za C p C.size;have a6:=e1.below p;have J:=e2.below p;clear hX a9 hR C e1 e2 p x0 x1;by_cases ha:a.z=0
 ·rw [ha,sgn_zero];have HA:=JZ ha;clear ha;go_wp2_with fail;refine (YQ 0 1 _ (by omega) (by omega) (by omega) (by omega)).mono ?_;rw [show Rat.divInt 0 1=Rat.divInt a.z b.z from by rw [HA.out,Rat.zero_divInt,Rat.zero_divInt]];rintro e w2 ⟨v2,rfl,e3,g⟩;have j:=I.later g;obtain ⟨B,m,d,B',m',d',rfl,_,_⟩:=id e3;obtain ⟨c0,c1,c2,c3⟩:=j.four;obtain ⟨f0,f1,f2,f3⟩:=j.fourF;go_wp2;refine Zn Tryz.results83 Tryz.underlying36 (by kernel_rfl) rfl (j.set4 _ _ _ _) rfl ?_;exact Yn j e3 (Za i g i.size) (by omega)
 ·have F:(sgn a.z==0)=false:=by unfold sgn;split;rfl;rfl
  have HA:=JZ ha;clear ha;obtain ⟨y0,y1,_,_⟩:=t.two;go_wp2_with fail;refine (WS _ b _ J).mono ?_;rintro e w2 ⟨rfl,g⟩;have u:=a0.later g;have h:=t.later g;have j:=I.later g;have k:=Za i g i.size;have K:=a6.below g;have L:=J.below g;clear a0 t I i a6 J g y0 y1 F;have M:True:=trivial
  go_upto_if 18 with (fail)
  go_cut [2,3] (fun s2 s3 wx=>s2= .pointer (some ⟨w.heap.size,0,none⟩)∧s3= .pointer (some ⟨w.heap.size+1,0,none⟩)∧∃(x y:RI) (B B':Option Addr) (m d m' d':Nat),Zwb a b w x y wx B B' m d m' d')
  case first=>
   rcases Int.lt_or_le b.z 0 with hz | hz
   ·have HN:=JZ hz;have F:sgn b.z= -1:=Uy hz;have al:w.heap.size≠w.heap.size+1:=(by omega);have am:w.heap.size+1+1≠w.heap.size:=(by omega);have an:w.heap.size+1+1≠w.heap.size+1:=(by omega);clear hz;obtain ⟨x0,x1,f0,f1⟩:=u.two;obtain ⟨y0,y1,k0,k1⟩:=h.two;go_wp2_with fail;clear F
    go_region_with (first
     | (go_at_call 103;have _t:=M;refine (WT _ a _ (K.keep (ZE.drew _)) hs).mono ?_;clear M _t;rintro e w6 ⟨v6,rfl,e6,f⟩;obtain ⟨A6,n6,k6,rfl,_⟩:=e6.shape;obtain ⟨ax,ay,_,_⟩:=(h.drew.later f).two)
     | (go_at_call 103;refine (WT _ b _ ((L.keep (ZE.drew _)).below f) hs2).mono ?_;rintro e w7 ⟨v7,rfl,e7,s⟩;obtain ⟨A7,n7,k7,rfl,_⟩:=e7.shape;obtain ⟨c0,c1,r0,r1⟩:=((u.drew.later f).later s).two;obtain ⟨az,b0,b1,b2⟩:=((h.drew.later f).later s).two))
    all_goals
     go_wp2_with fail
     go_meet
     obtain ⟨a1,a2,a3,a4,a5⟩:=YI ((u.drew.later f).later s) ((h.drew.later f).later s) al (e6.below s) e7 (Za (Za k.drew f k.size) s (JW k.size f.size)) (by omega) (by omega);refine ⟨rfl,rfl,_,_,A6,A7,n6,k6,n7,k7,a1,a2,((((j.drew.later f).later s).far2 am _ _).far2 an _ _),a5,a3,a4,?_,?_,?_,?_⟩
     ·rw [Zx];have:=HN.out;omega
     ·rw [Zx,Zx,Rat.neg_divInt_neg]
     ·simp only [canI,Zh,Int.natAbs_neg,Zz];exact hs
     ·simp only [canI,Zh,Int.natAbs_neg,Zz];exact hs2
   ·have N:0 < b.z:=(by have:=HB.out;omega);have F:sgn b.z=1:=Uz N;have HZ:=JZ N;clear hz N;go_wp2_with fail
    go_meet
    exact ⟨rfl,rfl,a,b,A,A',n,c,n',c',u,h,j,k,K,L,HZ.out,rfl,hs,hs2⟩
  case rest=>
   obtain ⟨rfl,rfl,x,y,B,B',m,d,m',d',U,D,aa,E,V,X,hy,ab,ac,Y⟩:=hcut;have HZ:=JZ hy;have ao:=JZ ab;clear hy ab u h j k K L hs hs2 M;obtain ⟨x0,x1,_,_⟩:=U.two;obtain ⟨y0,y1,_,_⟩:=D.two;go_wp2_with fail;refine (Zpi _ _ x y _ V X ac Y).mono ?_;rintro e w6 ⟨v6,rfl,e6,f⟩;obtain ⟨A6,n6,k6,rfl,_⟩:=e6.shape;have bX:=U.later f;have bY:=D.later f;have bR:=aa.later f;have O:=Za E f E.size;have i1:=V.below f;have i2:=X.below f;clear U D aa E V X f x0 x1 y0 y1;have gz:(canI (Int.gcd (RI.z x) (RI.z y):Nat)).z=(Int.gcd (RI.z x) (RI.z y):Nat):=Zx _;have gs:(Zi (val (canI (Int.gcd (RI.z x) (RI.z y):Nat)).ds)).length≤549755813888:=by
    rw [show val (canI (Int.gcd (RI.z x) (RI.z y):Nat)).ds=Int.gcd (RI.z x) (RI.z y) from by simp [canI,Zh]];refine JW (Zo (Nat.le_of_dvd ?_ (show Int.gcd (RI.z x) (RI.z y)∣val (RI.ds y) from by rw [← Zz];exact Int.gcd_dvd_natAbs_right ..))) Y;have:=HZ.out;have:=Zz y;omega
   generalize canI (Int.gcd (RI.z x) (RI.z y):Nat)=G at *;have GZ:=JZ gz;clear gz;have bG:=Bk.new w6 34 [.bool G.neg,.slice A6 n6 k6];have bn:=Zd w6 (.cells [.bool G.neg,.slice A6 n6 k6].toArray 34);have cX:=bX.later bn;have cY:=bY.later bn;have cR:=bR.later bn;have P:=Za O bn O.size;have j1:=i1.below bn;have j2:=i2.below bn;have j3:=e6.below bn;obtain ⟨x0,x1,_,_⟩:=cX.two;obtain ⟨y0,y1,_,_⟩:=cY.two;obtain ⟨g0,g1,_,_⟩:=bG.two;clear bX bY bR O i1 i2 e6 bn;go_wp2_with fail;generalize w6.alloc _=W7 at *;refine (Zad _ _ x G _ j1 j3 ac gs).mono ?_;have R:G.z≠0:=by
    rw [GZ.out];have:=Int.gcd_pos_of_ne_zero_right (RI.z x) (show RI.z y≠0 by have:=HZ.out;omega);omega
   rintro e w8 ⟨q,r,rfl,dq,dr,l⟩;rw [if_neg R] at dq dr ⊢;obtain ⟨A8,n8,k8,rfl,_⟩:=dq.shape;obtain ⟨A9,n9,k9,rfl,_⟩:=dr.shape;have bX:=cX.later l;have bY:=cY.later l;have bR:=cR.later l;have a7:=bG.later l;have S:=Za P l P.size;have i2:=j2.below l;have i3:=j3.below l;clear cX cY cR P j1 j2 j3 bG l x0 x1 y0 y1 g0 g1;have ap:=JZ R;clear R;have hq:canI ((RI.z x).fdiv G.z)=canI ((RI.z x) / G.z):=(by rw [Int.fdiv_eq_ediv_of_nonneg _ (by rw [GZ.out];omega)]);rw [hq] at dq ⊢;clear hq;generalize canI ((RI.z x).fmod G.z)=R1 at *;generalize aj:canI ((RI.z x) / G.z)=Q1 at *;have aq:=JZ aj;clear aj;have bQ:=(Bk.new w8 34 [.bool Q1.neg,.slice A8 n8 k8]).alloc (.cells #[.bool R1.neg,.slice A9 n9 k9] 34);have bn:=(Zd w8 (.cells [.bool Q1.neg,.slice A8 n8 k8].toArray 34)).alloc (by simp) (.cells #[.bool R1.neg,.slice A9 n9 k9] 34);have cX:=bX.later bn;have cY:=bY.later bn;have cR:=bR.later bn;have cG:=a7.later bn;have T:=Za S bn S.size;have j2:=i2.below bn;have j3:=i3.below bn;have j4:=dq.below bn;obtain ⟨y0,y1,_,_⟩:=cY.two;obtain ⟨g0,g1,_,_⟩:=cG.two;obtain ⟨q0,q1,_,_⟩:=bQ.two;clear bX bY bR a7 S i2 i3 dq dr bn;go_wp2_with fail;generalize (w8.alloc _).alloc _=W9 at *;refine (Zad _ _ y G _ j2 j3 Y gs).mono ?_;rintro e Z ⟨q',r',rfl,dq,dr,o⟩;rw [if_neg ap.out] at dq dr ⊢;obtain ⟨ad,ae,af,rfl,_⟩:=dq.shape;obtain ⟨ag,ah,ai,rfl,_⟩:=dr.shape;have bR:=cR.later o;have H:=bQ.later o;have v:=Za T o T.size;have i4:=j4.below o;clear cX cY cR cG T j2 j3 j4 bQ o y0 y1 g0 g1 q0 q1;have hq:canI ((RI.z y).fdiv G.z)=canI ((RI.z y) / G.z):=(by rw [Int.fdiv_eq_ediv_of_nonneg _ (by rw [GZ.out];omega)]);rw [hq] at dq ⊢;clear hq;generalize canI ((RI.z y).fmod G.z)=R2 at *;generalize ak:canI ((RI.z y) / G.z)=Q2 at *;have ar:=JZ ak;clear ak;have bD:=(Bk.new Z 34 [.bool Q2.neg,.slice ad ae af]).alloc (.cells #[.bool R2.neg,.slice ag ah ai] 34);have bn:=(Zd Z (.cells [.bool Q2.neg,.slice ad ae af].toArray 34)).alloc (by simp) (.cells #[.bool R2.neg,.slice ag ah ai] 34);have cR:=bR.later bn;have cQ:=H.later bn;have a8:=Za v bn v.size;have j4:=i4.below bn;have j5:=dq.below bn;obtain ⟨q0,q1,_,_⟩:=cQ.two;obtain ⟨d0,d1,_,_⟩:=bD.two;obtain ⟨c0,c1,c2,c3⟩:=cR.four;obtain ⟨f0,f1,f2,f3⟩:=cR.fourF;clear bR H v i4 dq dr bn;generalize av:(Z.alloc _).alloc _=b3 at *;go_wp2;refine Zn Tryz.results83 Tryz.underlying36 (by kernel_rfl) rfl (cR.set4 _ _ _ _) rfl ?_;rw [← ao.out,WU HZ.out,Int.gcd_comm,← GZ.out,aq.out,ar.out];exact Yn cR (Zm.mk j4 j5) a8 (by omega)
namespace Pl
def qs (q:Rat):Int:=sgn q.num
theorem Zmh {x g:Int} (hg:0 < g) (h:g∣x):sgn (x / g)=sgn x:=by
 obtain ⟨k,rfl⟩:=h;rw [Int.mul_ediv_cancel_left _ (by omega)];unfold sgn;rcases Int.lt_trichotomy k 0 with h | h | h
 ·rw [if_pos h,if_pos (Int.mul_neg_of_pos_of_neg hg h)]
 ·subst h;simp
 ·have:=Int.mul_pos hg h;rw [if_neg (by omega),if_neg (by omega),if_neg (by omega),if_neg (by omega)]
theorem Zmi (n d:Int):qs (Rat.divInt n d)=sgn n * sgn d:=by
 unfold qs;rw [Rat.num_divInt];rcases Int.lt_trichotomy d 0 with h | h | h
 ·have hg:0 < ((Int.gcd d n:Nat):Int):=by have:=Int.gcd_pos_of_ne_zero_left n (show d≠0 by omega);omega
  rw [Int.sign_eq_neg_one_of_neg h,Zmh hg (Int.dvd_mul_of_dvd_right (Int.gcd_dvd_right ..)),Uy h];unfold sgn;rcases Int.lt_trichotomy n 0 with k | k | k
  ·rw [if_neg (by omega),if_neg (by omega),if_pos k];rfl
  ·subst k;simp
  ·rw [if_pos (by omega),if_neg (by omega),if_neg (by omega)];rfl
 ·subst h;simp [sgn_zero]
 ·have hg:0 < ((Int.gcd d n:Nat):Int):=by have:=Int.gcd_pos_of_ne_zero_left n (show d≠0 by omega);omega
  rw [Int.sign_eq_one_of_pos h,Zmh hg (Int.dvd_mul_of_dvd_right (Int.gcd_dvd_right ..)),Uz h,Int.one_mul,Int.mul_one]
theorem Zec (z:Int): -1≤sgn z∧sgn z≤1:=by unfold sgn;split;omega;split <;> omega
theorem Zjl (q:Rat): -1≤qs q∧qs q≤1:=Zec _
def zeroF:RF:=⟨canI 0,canI 0⟩
end Pl
theorem Zm.zero [Old] (w:World):Zm w (.agg #[.bool false,.slice none 0 0,.bool false,.slice none 0 0]) zeroF:=by
 have h:=ZT.zero w;have:=Zm.mk (x:=canI 0) (y:=canI 0) (by rw [canI_zero] at h ⊢;exact h) (by rw [canI_zero] at h ⊢;exact h);rw [canI_zero] at this;unfold zeroF;rw [canI_zero];exact this
def Zmj [Old] (n d:Int) (w:World) (e:Ending) (w':World):Prop:=
 ∃v',e= .returned (.tuple #[v',.int .i64 (if d=0 then 11 else 0)])∧Zm w' v' (if d=0 then zeroF else canF (Rat.divInt n d))∧Below w.heap.size w w'
theorem Zsx [Old] (v1 v2:Value) (a b:RI) (w:World) (h1:ZT w v1 a) (h2:ZT w v2 b) (hs:(Zi (val a.ds)).length≤549755813888) (hs2:(Zi (val b.ds)).length≤549755813888) (hOl:Zb w:=by (repeat (first | assumption | exact Zb.up (by assumption) hOl | exact Zb.up (Hid.out (by assumption)) hOl | with_reducible refine Zb.set ?_ _ _ | with_reducible refine Zb.mk_ ?_ _ | with_reducible refine Zb.dr ?_ | with_reducible refine Zb.drN ?_ | refine Zb.up (by assumption) ?_ | refine Zb.up (Hid.out (by assumption)) ?_))):
 Calls Tryz.prog 96 #[v1,v2] w (Zmj a.z b.z w):=by
 have t:=hOl.le;obtain ⟨A,n,c,rfl,hd⟩:=h1.shape;obtain ⟨A',n',c',rfl,s⟩:=h2.shape;obtain ⟨W,hW,hX,k,hR,i⟩:=Zwv w (.bool a.neg) (.slice A n c) (.bool b.neg) (.slice A' n' c');have e1:=h1.below i;have e2:=h2.below i;clear hd s h1 h2;obtain ⟨x0,x1,_,_⟩:=k.two;go_enter Tryz.func96,Tryz.ntmps96;go_wp2_with fail;clear hW;refine (WS _ b _ e2).mono ?_;rintro e w1 ⟨rfl,f⟩;have p:=hX.later f;have l:=k.later f;have g:=hR.later f;have h:=Za i f i.size;have q:=e1.below f;have r:=e2.below f;clear hX k hR i e1 e2 f x0 x1;by_cases ha:b.z=0
 ·rw [ha,sgn_zero];have HA:=JZ ha;clear ha;obtain ⟨c0,c1,c2,c3⟩:=g.four;obtain ⟨f0,f1,f2,f3⟩:=g.fourF;go_wp2;refine XN Tryz.results96 Tryz.underlying36 (by kernel_rfl) rfl (g.set4 _ _ _ _) rfl ?_;obtain ⟨v',q1,q2,q3⟩:=Yn g (Zm.zero w1) h (show w.heap.size≤w.heap.size+1+1 by omega);injection q1 with q1;subst q1;exact ⟨_,by rw [if_pos HA.out];rfl,by rw [if_pos HA.out];exact q2,q3⟩
 ·have u:(sgn b.z==0)=false:=by unfold sgn;split;rfl;rfl
  have HA:=JZ ha;clear ha;obtain ⟨x0,x1,_,_⟩:=p.two;obtain ⟨y0,y1,_,_⟩:=l.two;go_wp2_with fail;refine (Xd _ _ a b _ q r hs hs2 HA.out).mono ?_;rintro e w2 ⟨v2,rfl,e3,o⟩;have j:=g.later o;obtain ⟨B,m,d,B',m',d',rfl,_,_⟩:=id e3;obtain ⟨c0,c1,c2,c3⟩:=j.four;obtain ⟨f0,f1,f2,f3⟩:=j.fourF;go_wp2;refine XN Tryz.results96 Tryz.underlying36 (by kernel_rfl) rfl (j.set4 _ _ _ _) rfl ?_;obtain ⟨v',q1,q2,q3⟩:=Yn j e3 (Za h o h.size) (show w.heap.size≤w.heap.size+1+1 by omega);injection q1 with q1;subst q1;exact ⟨_,by rw [if_neg HA.out];rfl,by rw [if_neg HA.out];exact q2,q3⟩
theorem Zed [Old] (n d:Int) (w:World) (h0: -9223372036854775808≤n) (h1:n≤9223372036854775807) (h2: -9223372036854775808≤d) (h3:d≤9223372036854775807) (hOl:Zb w:=by (repeat (first | assumption | exact Zb.up (by assumption) hOl | exact Zb.up (Hid.out (by assumption)) hOl | with_reducible refine Zb.set ?_ _ _ | with_reducible refine Zb.mk_ ?_ _ | with_reducible refine Zb.dr ?_ | with_reducible refine Zb.drN ?_ | refine Zb.up (by assumption) ?_ | refine Zb.up (Hid.out (by assumption)) ?_))):
 Calls Tryz.prog 69 #[.int .i64 n,.int .i64 d] w (Zmj n d w):=by
 have h:=hOl.le;have hR:=Bk.new w 36 [.bool false,.slice none 0 0,.bool false,.slice none 0 0];have c:=Zd w (.cells [.bool false,.slice none 0 0,.bool false,.slice none 0 0].toArray 36);go_enter Tryz.func69,Tryz.ntmps69;go_wp2_with fail;generalize w.alloc _=W at *;refine (YG n _ h0 h1).mono ?_;rintro e w1 ⟨v1,rfl,e1,f⟩;go_wp2_with fail;refine (YG d _ h2 h3).mono ?_;rintro e w2 ⟨v2,rfl,e2,b⟩;go_wp2_with fail;refine (Zsx _ _ (canI n) (canI d) _ (e1.below b) e2 (JW (Xy h0 h1) (by decide)) (JW (Xy h2 h3) (by decide))).mono ?_;rw [Zx,Zx];rintro e w3 ⟨v3,rfl,e3,g⟩;generalize hE:(if d=0 then (11:Int) else 0)=ee at *;generalize hF:(if d=0 then zeroF else canF (Rat.divInt n d))=ff at *;have HE:=JZ hE;have HF:=JZ hF;clear hE hF;have a:=((hR.later f).later b).later g;have b1:=Za c f c.size;have b2:=Za b1 b b1.size;have b3:=Za b2 g b2.size;obtain ⟨B,m,d',B',m',i,rfl,_,_⟩:=id e3;obtain ⟨c0,c1,c2,c3⟩:=a.four;obtain ⟨f0,f1,f2,f3⟩:=a.fourF;go_wp2;refine XN Tryz.results69 Tryz.underlying36 (by kernel_rfl) rfl (a.set4 _ _ _ _) rfl ?_;obtain ⟨v',q1,q2,q3⟩:=Yn a e3 b3 (JY _);injection q1 with q1;subst q1;exact ⟨_,by rw [HE.out];rfl,by rw [HF.out];exact q2,q3⟩
theorem Yd [Old] (v:Value) (a:RF) (w:World) (h:Zm w v a) (hOl:Zb w:=by (repeat (first | assumption | exact Zb.up (by assumption) hOl | exact Zb.up (Hid.out (by assumption)) hOl | with_reducible refine Zb.set ?_ _ _ | with_reducible refine Zb.mk_ ?_ _ | with_reducible refine Zb.dr ?_ | with_reducible refine Zb.drN ?_ | refine Zb.up (by assumption) ?_ | refine Zb.up (Hid.out (by assumption)) ?_))):
 Calls Tryz.prog 57 #[v] w fun e w'=>e= .returned (.int .i64 (qs a.q))∧Below w.heap.size w w':=by
 have j:=hOl.le;obtain ⟨A,n,c,A',n',c',rfl,hd,i⟩:=h;have hX:=Bk.new w 36 [.bool a.num.neg,.slice A n c,.bool a.den.neg,.slice A' n' c'];have b:=Zd w (.cells [.bool a.num.neg,.slice A n c,.bool a.den.neg,.slice A' n' c'].toArray 36);have e1:ZT w (.agg #[.bool a.num.neg,.slice A n c]) a.num:=⟨_,rfl,hd⟩;have e2:ZT w (.agg #[.bool a.den.neg,.slice A' n' c']) a.den:=⟨_,rfl,i⟩;have e1:=e1.below b;have e2:=e2.below b;have HS:=JZ (Zmi a.num.z a.den.z);have hw:IntKind.i64.wrap (sgn a.num.z * sgn a.den.z)=sgn a.num.z * sgn a.den.z:=by
  have:=Zec a.num.z;have:=Zec a.den.z;rw [← HS.out];have:=Zjl (Rat.divInt a.num.z a.den.z);simp only [IntKind.wrap,IntKind.bits,IntKind.signed];simp;omega
 have f:True:=trivial;go_enter Tryz.func57,Tryz.ntmps57;go_wp2_with fail;generalize w.alloc _=W at *
 go_region_held3 (fun w'=>w'.cell? ⟨w.heap.size,0,none⟩=some (.bool a.num.neg)∧w'.cell? ⟨w.heap.size,1,none⟩=some (.slice A n c)∧w'.cell? ⟨w.heap.size,2,none⟩=some (.bool a.den.neg)∧w'.cell? ⟨w.heap.size,3,none⟩=some (.slice A' n' c'))
  (first | with_reducible exact hX.four | with_reducible exact hX.drew.four | with_reducible exact (hX.drew.later d).four | with_reducible exact ((hX.drew.later d).later g).four)
  (first
   | (go_at_call 87;have _t:=f;refine (WS _ a.num _ (e1.keep (ZE.drew _))).mono ?_;clear f _t;rintro e w6 ⟨rfl,d⟩)
   | (go_at_call 87;refine (WS _ a.den _ ((e2.keep (ZE.drew _)).below d)).mono ?_;rintro e w7 ⟨rfl,g⟩))
 go_wp2;go_ret;refine ⟨?_,Za (Za b.drew d b.size) g (JW b.size d.size)⟩;rw [show qs a.q=sgn a.num.z * sgn a.den.z from HS.out];rfl
def FrC [Old] (w:World) (cs:List Value) (fs:List RF):Prop:=
 cs.length=fs.length * 4∧∀k f,fs[k]? =some f→∃x y z u,cs[k * 4]? =some x∧cs[k * 4+1]? =some y∧cs[k * 4+2]? =some z∧cs[k * 4+3]? =some u∧Zm w (.agg #[x,y,z,u]) f
theorem FrC.keep [Old] {w w':World} {cs:List Value} {fs:List RF} (h:FrC w cs fs) (hk:ZE w w'):FrC w' cs fs:=
 ⟨h.1,fun k f hf=>by
  obtain ⟨x,y,z,u,h1,h2,h3,h4,h5⟩:=h.2 k f hf
  exact ⟨x,y,z,u,h1,h2,h3,h4,h5.keep hk⟩⟩
theorem FrC.nil [Old] (w:World):FrC w [] []:=⟨rfl,fun k f h=>by simp at h⟩
def Zjs (cs:List Value) (j:Nat) (x y z u:Value):List Value:=(((cs.set j x).set (j+1) y).set (j+2) z).set (j+3) u
theorem FrC.set_ [Old] {w:World} {cs:List Value} {fs:List RF} (h:FrC w cs fs) {k:Nat} (hk:k < fs.length) {x y z u:Value} {f:RF} (hf:Zm w (.agg #[x,y,z,u]) f):FrC w (Zjs cs (k * 4) x y z u) (fs.set k f):=by
 have hl:=h.1;refine ⟨by simp [Zjs,hl],fun j g hg=>?_⟩;rcases Nat.lt_trichotomy j k with hjk | hjk | hjk
 ·rw [List.getElem?_set_ne (by omega)] at hg;obtain ⟨x',y',z',u',h1,h2,h3,h4,h5⟩:=h.2 j g hg;refine ⟨x',y',z',u',?_,?_,?_,?_,h5⟩ <;> unfold Zjs <;> rw [List.getElem?_set_ne (by omega),List.getElem?_set_ne (by omega),List.getElem?_set_ne (by omega),List.getElem?_set_ne (by omega)] <;> assumption
 ·subst hjk;rw [List.getElem?_set_self hk] at hg;injection hg with hg;subst hg;refine ⟨x,y,z,u,?_,?_,?_,?_,hf⟩ <;> unfold Zjs
  ·rw [List.getElem?_set_ne (by omega),List.getElem?_set_ne (by omega),List.getElem?_set_ne (by omega),List.getElem?_set_self (by omega)]
  ·rw [List.getElem?_set_ne (by omega),List.getElem?_set_ne (by omega),List.getElem?_set_self (by simp;omega)]
  ·rw [List.getElem?_set_ne (by omega),List.getElem?_set_self (by simp;omega)]
  ·rw [List.getElem?_set_self (by simp;omega)]
 ·rw [List.getElem?_set_ne (by omega)] at hg;obtain ⟨x',y',z',u',h1,h2,h3,h4,h5⟩:=h.2 j g hg;refine ⟨x',y',z',u',?_,?_,?_,?_,h5⟩ <;> unfold Zjs <;> rw [List.getElem?_set_ne (by omega),List.getElem?_set_ne (by omega),List.getElem?_set_ne (by omega),List.getElem?_set_ne (by omega)] <;> assumption
def X9 [Old] (w:World) (t:TypeId) (s:Nat) (v:Value) (n:Nat) (xs:List Value):Prop:=
 ∃A c,v= .slice A n c∧xs.length=n * s∧n≤c∧c≤maxLen∧(0 < n→∃b off cs t' fz,A=some ⟨b,off,none⟩∧(t'=t∨b < Old.n)∧w.heap[b]? =some (.cells cs t' fz)∧∀j u,xs[j]? =some u→cs[off+j]? =some u)
theorem X9.below [Old] {w w':World} {t:TypeId} {s n:Nat} {v:Value} {xs:List Value} (h:X9 w t s v n xs) (hb:Below w.heap.size w w'):X9 w' t s v n xs:=by
 obtain ⟨A,c,h1,h2,h3,h4,h5⟩:=h;refine ⟨A,c,h1,h2,h3,h4,fun hp=>?_⟩;obtain ⟨b,a,cs,t',fz,hA,ht,hc,hx⟩:=h5 hp;exact ⟨b,a,cs,t',fz,hA,ht,(hb.block b (Ye hc)).trans hc,hx⟩
theorem X9.shape [Old] {w:World} {t:TypeId} {s n:Nat} {v:Value} {xs:List Value} (h:X9 w t s v n xs):∃A c,v= .slice A n c∧n≤c∧c≤9223372036854775807:=by
 obtain ⟨A,c,h1,h2,h3,h4,h5⟩:=h;unfold maxLen at h4;exact ⟨A,c,h1,h3,by omega⟩
theorem X9.at_ [Old] {w:World} {t:TypeId} {s n c:Nat} {A:Option Addr} {xs:List Value} (h:X9 w t s (.slice A n c) n xs) (hn:0 < n):
 ∃b off,A=some ⟨b,off,none⟩∧b < w.heap.size∧∀j u,xs[j]? =some u→w.cell? ⟨b,off+j,none⟩=some u:=by
 obtain ⟨A',c',hv,h2,h3,h4,h5⟩:=h;injection hv with e1 e2 e3;subst e1;obtain ⟨b,off,cs,t',fz,hA,_,hc,hx⟩:=h5 hn;exact ⟨b,off,hA,Ye hc,fun j u hj=>by rw [cell_of_row w b (off+j) cs _ fz hc,hx j u hj]⟩
theorem X9.len [Old] {w:World} {t:TypeId} {s n m c:Nat} {A:Option Addr} {xs:List Value} (h:X9 w t s (.slice A n c) m xs):n=m:=by
 obtain ⟨A',c',hv,_⟩:=h;injection hv
theorem X9.of_own [Old] {w:World} {base:Nat} {t:TypeId} {s n:Nat} {v:Value} {xs:List Value} (h:w.ownsRow base t s v n xs):X9 w t s v n xs:=by
 rcases h.2 with ⟨rfl,h0⟩ | ⟨g,cap,cur,rfl,hb,hg,hnc,hcm,hcs,htake⟩
 ·have hl:=h.1;have hx:n=0∨s=0:=by
   subst h0;exact Or.inl rfl
  subst h0;exact ⟨none,0,rfl,hl,JY _,by simp,fun hp=>by omega⟩
 ·refine ⟨_,cap,rfl,h.1,hnc,hcm,fun _=>⟨g,0,cur,_,(0,0),rfl,Or.inl rfl,hg,fun j u hj=>?_⟩⟩;rw [← htake,List.getElem?_take] at hj;split at hj
  ·simpa using hj
  ·cases hj
theorem X9.nil [Old] (w:World) (t:TypeId) (s:Nat) (A:Option Addr) (c:Nat) (hm:c≤maxLen):X9 w t s (.slice A 0 c) 0 []:=⟨A,c,rfl,by simp,Nat.zero_le _,hm,fun h=>by omega⟩
def Zbn [Old] (w:World) (v:Value) (fs:List RF):Prop:=∃cs,X9 w 36 4 v fs.length cs∧FrC w cs fs
theorem Zbn.below [Old] {w w':World} {v:Value} {fs:List RF} (h:Zbn w v fs) (hb:Below w.heap.size w w'):Zbn w' v fs:=by
 obtain ⟨cs,h1,h2⟩:=h;exact ⟨cs,h1.below hb,h2.keep (ZE.of_below hb)⟩
theorem Zbn.shape [Old] {w:World} {v:Value} {fs:List RF} (h:Zbn w v fs):∃A c,v= .slice A fs.length c∧fs.length≤c∧c≤9223372036854775807:=by
 obtain ⟨cs,h1,h2⟩:=h;exact h1.shape
theorem Zbn.at_ [Old] {w:World} {A:Option Addr} {n c:Nat} {fs:List RF} (h:Zbn w (.slice A n c) fs) {k:Nat} {f:RF} (hf:fs[k]? =some f):
 ∃b off x y z u,A=some ⟨b,off,none⟩∧b < w.heap.size∧w.cell? ⟨b,off+k * 4,none⟩=some x∧w.cell? ⟨b,off+k * 4+1,none⟩=some y∧w.cell? ⟨b,off+k * 4+2,none⟩=some z∧w.cell? ⟨b,off+k * 4+3,none⟩=some u∧Zm w (.agg #[x,y,z,u]) f:=by
 obtain ⟨cs,h1,h2⟩:=h;obtain ⟨x,y,z,u,c1,c2,c3,c4,hm⟩:=h2.2 k f hf;have hk:k < fs.length:=(List.getElem?_eq_some_iff.1 hf).1;have hn:=h1.len;subst hn;obtain ⟨b,off,hA,hb,hc⟩:=h1.at_ (by omega);exact ⟨b,off,x,y,z,u,hA,hb,hc _ _ c1,hc _ _ c2,hc _ _ c3,hc _ _ c4,hm⟩
def YL [Old] (base:Nat) (w:World) (v:Value) (fs:List RF):Prop:=∃cs,w.ownsRow base 36 4 v fs.length cs∧FrC w cs fs
theorem YL.frs [Old] {base:Nat} {w:World} {v:Value} {fs:List RF} (h:YL base w v fs):Zbn w v fs:=by
 obtain ⟨cs,h1,h2⟩:=h;exact ⟨cs,X9.of_own h1,h2⟩
theorem own_below {w w':World} {base:Nat} {t:TypeId} {s n:Nat} {v:Value} {xs:List Value} (h:w.ownsRow base t s v n xs) (hb:Below w.heap.size w w'):w'.ownsRow base t s v n xs:=by
 refine ⟨h.1,?_⟩;rcases h.2 with hn | ⟨g,cap,cur,rfl,hb',hgg,rest⟩
 ·exact .inl hn
 ·exact .inr ⟨g,cap,cur,rfl,hb',(hb.block g (Ye hgg)).trans hgg,rest⟩
theorem YL.below [Old] {base:Nat} {w w':World} {v:Value} {fs:List RF} (h:YL base w v fs) (hb:Below w.heap.size w w'):YL base w' v fs:=by
 obtain ⟨cs,h1,h2⟩:=h;exact ⟨cs,own_below h1 hb,h2.keep (ZE.of_below hb)⟩
theorem YL.nil [Old] (base:Nat) (w:World):YL base w (.slice none 0 0) []:=⟨[],World.ownsRow_nil _ _ _ _,FrC.nil _⟩
theorem info_frac:(Tryz.prog.info? 36).map (fun i=>(i.zero,i.size,i.bytes))=some (some (.agg #[.bool false,.slice none 0 0,.bool false,.slice none 0 0]),4,64):=by kernel_rfl
end Go.Proofs.YtidgdpkcloaheaaGreat
