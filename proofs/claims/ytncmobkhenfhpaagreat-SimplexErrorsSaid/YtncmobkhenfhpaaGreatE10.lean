/- Lemmas of the claim; no condition. -/
import Derived.Test.YtncmobkhenfhpaaGreatE9
set_option linter.all false
set_option maxRecDepth 100000
set_option maxHeartbeats 40000000
namespace Go.Proofs.YtncmobkhenfhpaaGreat
open Go.RowKit
open Pl
attribute [local go_sem ↓] Go.wp_at_zero Go.wp_at_succ
theorem Zka [Old] {w:World} {A:Option Addr} {n c k:Nat} {ds:List Nat} (h:ZQ w (.slice A n c) ds) (hk:k≤n) (hz:∀i,k≤i→dg ds i=0) (hl:k=0∨dg ds (k - 1)≠0):
 ZQ w (.slice A k c) (Zo (val ds)):=by
 obtain ⟨h1,h2,h3,h4⟩:=h.len;rw [Zjm h.ok (by omega) hz hl];exact h.take hk (by omega) (by unfold maxLen;omega)
theorem Zdc [Old] (A:Option Addr) (n c:Nat) (ds:List Nat) (w:World) (h:ZQ w (.slice A n c) ds) (hOl:Zb w:=by (repeat (first | assumption | exact Zb.up (by assumption) hOl | exact Zb.up (Hid.out (by assumption)) hOl | with_reducible refine Zb.set ?_ _ _ | with_reducible refine Zb.mk_ ?_ _ | with_reducible refine Zb.dr ?_ | with_reducible refine Zb.drN ?_ | refine Zb.up (by assumption) ?_ | refine Zb.up (Hid.out (by assumption)) ?_))):
 Calls Tryz.prog 135 #[.slice A n c] w fun e w'=>∃k,e= .returned (.slice A k c)∧ZQ w (.slice A k c) (Zo (val ds))∧w=w':=by
 have d:=hOl.le;obtain ⟨hl,g,l,hc⟩:=h.len;go_enter Tryz.func135,Tryz.ntmps135;go_wp2
 go_loop [3] (fun x=>∃k:Nat,k≤n∧x= .int .i64 k∧∀i,k≤i→dg ds i=0) (fun x=>(intOf x).toNat)
 case atStart=>exact ⟨n,JY _,rfl,fun i hi=>Wv (by omega)⟩
 case round=>
  obtain ⟨k,hk,rfl,hz⟩:=hrel;have HZ:=JZ hz;clear hz;rcases JV k with h0 | h0
  ·subst h0;go_wp2;go_ret;exact ⟨_,rfl,Zka h hk HZ.out (.inl rfl),rfl⟩
  ·obtain ⟨j,rfl⟩:∃j,k=j+1:=⟨k - 1,by omega⟩;obtain ⟨b,m,rfl,_,a⟩:=h.at_ (by omega);have f:=a j (by omega);clear a;by_cases hd:dg ds j=0
   ·have hb:=UM hd;have HD:=JZ hd;clear hd;go_wp2
    go_round
    case rel=>exact ⟨j,by omega,by go_num,fun i hi=>by
     rcases Nat.eq_or_lt_of_le hi with e | e
     ·exact e▸HD.out
     ·exact HZ.out i e⟩
    case measure=>simp [intOf]
   ·have hb:=VU hd;have HD:=JZ hd;clear hd;go_wp2;go_ret;exact ⟨_,rfl,Zka h hk HZ.out (.inr (by simpa using HD.out)),rfl⟩
theorem YA [Old] (v:Value) (ds:List Nat) (w:World) (h:ZQ w v ds) (hOl:Zb w:=by (repeat (first | assumption | exact Zb.up (by assumption) hOl | exact Zb.up (Hid.out (by assumption)) hOl | with_reducible refine Zb.set ?_ _ _ | with_reducible refine Zb.mk_ ?_ _ | with_reducible refine Zb.dr ?_ | with_reducible refine Zb.drN ?_ | refine Zb.up (by assumption) ?_ | refine Zb.up (Hid.out (by assumption)) ?_))):
 Calls Tryz.prog 135 #[v] w fun e w'=>∃v',e= .returned v'∧ZQ w v' (Zo (val ds))∧w=w':=by
 have a:=hOl.le;obtain ⟨A,n,c,rfl⟩:=h.shape;exact (Zdc A n c ds w h).mono fun _ _ ⟨_,h1,h2,h3⟩=>⟨_,h1,h2,h3⟩
theorem Zag [Old] (neg:Bool) (v:Value) (ds:List Nat) (w:World) (h:ZQ w v ds) (hs:(Zo (val ds)).length≤549755813888) (hOl:Zb w:=by (repeat (first | assumption | exact Zb.up (by assumption) hOl | exact Zb.up (Hid.out (by assumption)) hOl | with_reducible refine Zb.set ?_ _ _ | with_reducible refine Zb.mk_ ?_ _ | with_reducible refine Zb.dr ?_ | with_reducible refine Zb.drN ?_ | refine Zb.up (by assumption) ?_ | refine Zb.up (Hid.out (by assumption)) ?_))):
 Calls Tryz.prog 106 #[.bool neg,v] w fun e w'=>∃v',e= .returned v'∧Ym w' v' (canI (sm neg (val ds)))∧Below w.heap.size w w':=by
 have B:=hOl.le;have hR:=Bk.new w 46 [.bool false,.slice none 0 0];have d:=Zc w (.cells [.bool false,.slice none 0 0].toArray 46);have h':=h.below d;obtain ⟨i0,hi,p,q,r⟩:=info_parts info_u32;have HI:=JZ hi;have t:=JZ p;have u:=JZ q;have x:=JZ r;clear hi p q r;go_enter Tryz.func106,Tryz.ntmps106;go_wp2_with fail;generalize w.alloc _=W at *;refine (YA _ ds _ h').mono ?_;rintro e w1 ⟨v1,rfl,h1,rfl⟩;obtain ⟨A,n,c,rfl⟩:=h1.shape;obtain ⟨kl,s,y,kc⟩:=h1.len;obtain ⟨c0,c1,f0,f1⟩:=hR.two;rcases JV n with h0 | h0
 ·have hv:val ds=0:=Wh (by omega);subst h0;have HV:=JZ hv;clear hv kl s hs;go_wp2;refine Zq Tryz.results106 Tryz.underlying46 (by kernel_rfl) rfl (hR.set2 _ _) rfl ?_;exact ⟨_,rfl,by rw [HV.out,Zbs];exact Ym.zero _,Ye d (JY _) _ _⟩
 ·have hv:val ds≠0:=VY (by omega);have HV:=JZ hv;have HS:=JZ hs;obtain ⟨b,z,rfl,C,f⟩:=h1.at_ h0;clear hv f hs c0 c1 f0 f1;have l:(Zo (val ds)).length=n:=by omega
  have i:=JZ l;clear l kl s kc y;go_wp2_with (at_builtin;refine wpList_append_own_at _ rfl (.const (.slice none 0 0)) (.tmp 12) _ rfl w.heap.size 123 i0 _ 1 4 Tryz.underlying44 HI.out t.out u.out x.out rfl (by decide) (.slice none 0 0) 0 [] rfl ?c0 ⟨b,z,none⟩ n c ((Zo (val ds)).map uc) rfl ?c1 ?c2 (Uk _) ?c3 ?c4 ?c5 ?_)
  case c0=>exact World.ownsRow_nil _ _ _ _
  case c1=>simp;exact i.out
  case c2=>exact h1.news
  case c3=>have:=HS.out;have:=i.out;unfold maxLen;omega
  case c4=>have:=HS.out;have:=i.out;omega
  case c5=>exact d.size
  ·intro v' w1 g a _ _;have m:=Va (by simpa using g) (Yb (val ds));have j:=hR.grown a (by simp [Value.ownBlock]);have o:Below w.heap.size w w1:=d.grown a d.size (fun k hk=>by simp [Value.ownBlock] at hk);obtain ⟨A1,n1,k1,rfl⟩:=m.shape;obtain ⟨c0,c1,f0,f1⟩:=j.two;clear g a;go_wp2;refine Zq Tryz.results106 Tryz.underlying46 (by kernel_rfl) rfl (j.set2 _ _) rfl ?_;rw [Zmw _ _ HV.out];exact YH j ⟨_,rfl,m⟩ o (JY _)
theorem Vs [Old] (neg:Bool) (v:Value) (n:Nat) (w:World) (h:ZQ w v (Zo n)) (hs:(Zo n).length≤549755813888) (hOl:Zb w:=by (repeat (first | assumption | exact Zb.up (by assumption) hOl | exact Zb.up (Hid.out (by assumption)) hOl | with_reducible refine Zb.set ?_ _ _ | with_reducible refine Zb.mk_ ?_ _ | with_reducible refine Zb.dr ?_ | with_reducible refine Zb.drN ?_ | refine Zb.up (by assumption) ?_ | refine Zb.up (Hid.out (by assumption)) ?_))):
 Calls Tryz.prog 106 #[.bool neg,v] w fun e w'=>∃v',e= .returned v'∧Ym w' v' (canI (sm neg n))∧Below w.heap.size w w':=by
 have a:=hOl.le;have:=Zag neg v (Zo n) w h (by rwa [Zl])
 rwa [Zl] at this
theorem Uq [Old] (v:Value) (a:RI) (w:World) (h:Ym w v a) (hs:(Zo (val a.ds)).length≤549755813888) (hOl:Zb w:=by (repeat (first | assumption | exact Zb.up (by assumption) hOl | exact Zb.up (Hid.out (by assumption)) hOl | with_reducible refine Zb.set ?_ _ _ | with_reducible refine Zb.mk_ ?_ _ | with_reducible refine Zb.dr ?_ | with_reducible refine Zb.drN ?_ | refine Zb.up (by assumption) ?_ | refine Zb.up (Hid.out (by assumption)) ?_))):
 Calls Tryz.prog 105 #[v] w fun e w'=>∃v',e= .returned v'∧Ym w' v' (canI a.z)∧Below w.heap.size w w':=by
 have i:=hOl.le;obtain ⟨A,n,c,rfl,hd⟩:=h.shape;obtain ⟨W,hW,hX,hR,d⟩:=Yfy w (.bool a.neg) (.slice A n c);have g:=hd.below d;obtain ⟨x0,x1,y0,y1⟩:=hX.two;go_enter Tryz.func105,Tryz.ntmps105;go_wp2_with fail;clear hW;refine (Zag _ _ a.ds _ g hs).mono ?_;rw [← RI.z_eq];rintro e w1 ⟨v1,rfl,e1,f⟩;obtain ⟨A1,n1,k1,rfl,_⟩:=e1.shape;have b:=hR.later f;obtain ⟨c0,c1,f0,f1⟩:=b.two;go_wp2;refine Zq Tryz.results105 Tryz.underlying46 (by kernel_rfl) rfl (b.set2 _ _) rfl ?_;exact YH b e1 (Za d f d.size) (by omega)
theorem UQ [Old] (v:Value) (a:RI) (w:World) (h:Ym w v a) (hs:(Zo (val a.ds)).length≤549755813888) (hOl:Zb w:=by (repeat (first | assumption | exact Zb.up (by assumption) hOl | exact Zb.up (Hid.out (by assumption)) hOl | with_reducible refine Zb.set ?_ _ _ | with_reducible refine Zb.mk_ ?_ _ | with_reducible refine Zb.dr ?_ | with_reducible refine Zb.drN ?_ | refine Zb.up (by assumption) ?_ | refine Zb.up (Hid.out (by assumption)) ?_))):
 Calls Tryz.prog 99 #[v] w fun e w'=>∃v',e= .returned v'∧Ym w' v' (canI (- a.z))∧Below w.heap.size w w':=by
 have i:=hOl.le;obtain ⟨A,n,c,rfl,hd⟩:=h.shape;obtain ⟨W,hW,hX,hR,d⟩:=Yfy w (.bool a.neg) (.slice A n c);have g:=hd.below d;obtain ⟨x0,x1,y0,y1⟩:=hX.two;go_enter Tryz.func99,Tryz.ntmps99;go_wp2_with fail;clear hW;refine (Zag _ _ a.ds _ g hs).mono ?_;rw [Yak,← RI.z_eq];rintro e w1 ⟨v1,rfl,e1,f⟩;obtain ⟨A1,n1,k1,rfl,_⟩:=e1.shape;have b:=hR.later f;obtain ⟨c0,c1,f0,f1⟩:=b.two;go_wp2;refine Zq Tryz.results99 Tryz.underlying46 (by kernel_rfl) rfl (b.set2 _ _) rfl ?_;exact YH b e1 (Za d f d.size) (by omega)
theorem XQ [Old] (v:Value) (ds:List Nat) (k:Nat) (w:World) (h:ZQ w v ds) (hk:(k:Int)≤9223372036854775807) (hOl:Zb w:=by (repeat (first | assumption | exact Zb.up (by assumption) hOl | exact Zb.up (Hid.out (by assumption)) hOl | with_reducible refine Zb.set ?_ _ _ | with_reducible refine Zb.mk_ ?_ _ | with_reducible refine Zb.dr ?_ | with_reducible refine Zb.drN ?_ | refine Zb.up (by assumption) ?_ | refine Zb.up (Hid.out (by assumption)) ?_))):
 Calls Tryz.prog 153 #[v,.int .i64 k] w fun e w'=>e= .returned (.int .u64 (di ds k))∧w=w':=by
 have f:=hOl.le;obtain ⟨A,n,c,rfl⟩:=h.shape;obtain ⟨hl,d,g,hc⟩:=h.len;rcases JX k n with hlt | hge
 ·obtain ⟨b,i,rfl,j,a⟩:=h.at_ (by omega);have hx:=a k hlt;have x0:=Zr ds k;have x1:=Yk h.ok k;clear a;go_enter Tryz.func153,Tryz.ntmps153;go_wp2;go_ret;exact ⟨rfl,rfl⟩
 ·have hz:di ds k=0:=by rw [Yq,Wv (by omega)];rfl
  have HZ:=JZ hz;clear hz hl d;go_enter Tryz.func153,Tryz.ntmps153;go_wp2;go_ret;exact ⟨by rw [HZ.out];rfl,rfl⟩
theorem Zoy [Old] (w:World) (z:Int) (h:0≤z) (h2:z≤18446744073709551615):
 ∃ds,ZQ (w.alloc (.cells #[.int .u32 (z % 4294967296),.int .u32 (z / 4294967296)] 123)) (.slice (some ⟨w.heap.size,0,none⟩) 2 2) ds∧val ds=z.toNat:=by
 obtain ⟨n,rfl⟩:=JT h;refine ⟨[n % B32,n / B32],?_,?_⟩
 ·have:=YD.dig (YD.new w [n % B32,n / B32]) (by simp [okD,B32];omega) (c:=2) (by simp) (by simp [maxLen]);simpa [uc,B32] using this
 ·simp only [val,B32,JP];omega
theorem Vd [Old] (z:Int) (w:World) (h0: -9223372036854775808≤z) (h1:z≤9223372036854775807) (hOl:Zb w:=by (repeat (first | assumption | exact Zb.up (by assumption) hOl | exact Zb.up (Hid.out (by assumption)) hOl | with_reducible refine Zb.set ?_ _ _ | with_reducible refine Zb.mk_ ?_ _ | with_reducible refine Zb.dr ?_ | with_reducible refine Zb.drN ?_ | refine Zb.up (by assumption) ?_ | refine Zb.up (Hid.out (by assumption)) ?_))):
 Calls Tryz.prog 68 #[.int .i64 z] w fun e w'=>∃v',e= .returned v'∧Ym w' v' (canI z)∧Below w.heap.size w w':=by
 have j:=hOl.le;have hR:=Bk.new w 46 [.bool false,.slice none 0 0];have f:=Zc w (.cells [.bool false,.slice none 0 0].toArray 46);rcases Int.lt_or_le z 0 with hn | hn
 ·have e1:IntKind.u64.wrap z=z+18446744073709551616:=by simp [IntKind.wrap,IntKind.bits,IntKind.signed];omega
  have e2:IntKind.u64.wrap (-(z+18446744073709551616))= -z:=by simp [IntKind.wrap,IntKind.bits,IntKind.signed];omega
  obtain ⟨y,hy⟩:∃y,y= -z:=⟨_,rfl⟩;have y0:0≤y:=by omega
  have y1:y≤18446744073709551615:=by omega
  rw [← hy] at e2;have HY:=JZ hy;clear hy;go_enter Tryz.func68,Tryz.ntmps68;obtain ⟨ds,g,hv⟩:=Zoy (w.alloc (.cells #[.bool false,.slice none 0 0] 46)) y (by omega) (by omega);rw [size_alloc] at g;have HV:=JZ hv;have b:=Zc (w.alloc (.cells #[.bool false,.slice none 0 0] 46)) (.cells #[.int .u32 (y % 4294967296),.int .u32 (y / 4294967296)] 123);have i:=hR.later b;have a:=Za f b f.size;clear hv b f hR;go_wp2_with fail;generalize (w.alloc _).alloc _=W at *;refine (Zag _ _ ds _ g (by rw [HV.out];exact JW (Y2 (k:=2) (by unfold B32;omega)) (by decide))).mono ?_;rw [HV.out,show sm true (y).toNat=z from by have:=HY.out;simp [sm];omega];rintro e w2 ⟨v2,rfl,d2,h⟩;obtain ⟨A,n,c,rfl,_⟩:=d2.shape;have d:=i.later h;obtain ⟨c0,c1,f0,f1⟩:=d.two;go_wp2;refine Zq Tryz.results68 Tryz.underlying46 (by kernel_rfl) rfl (d.set2 _ _) rfl ?_;exact YH d d2 (Za a h a.size) (JY _)
 ·have e1:IntKind.u64.wrap z=z:=u64_in _ hn (by omega);go_enter Tryz.func68,Tryz.ntmps68;obtain ⟨ds,g,hv⟩:=Zoy (w.alloc (.cells #[.bool false,.slice none 0 0] 46)) z (by omega) (by omega);rw [size_alloc] at g;have HV:=JZ hv;have b:=Zc (w.alloc (.cells #[.bool false,.slice none 0 0] 46)) (.cells #[.int .u32 (z % 4294967296),.int .u32 (z / 4294967296)] 123);have i:=hR.later b;have a:=Za f b f.size;clear hv b f hR;go_wp2_with fail;generalize (w.alloc _).alloc _=W at *;refine (Zag _ _ ds _ g (by rw [HV.out];exact JW (Y2 (k:=2) (by unfold B32;omega)) (by decide))).mono ?_;rw [HV.out,show sm (decide (z < 0)) (z).toNat=z from by rw [decide_eq_false (by omega)];simp [sm];omega];rintro e w2 ⟨v2,rfl,d2,h⟩;obtain ⟨A,n,c,rfl,_⟩:=d2.shape;have d:=i.later h;obtain ⟨c0,c1,f0,f1⟩:=d.two;go_wp2;refine Zq Tryz.results68 Tryz.underlying46 (by kernel_rfl) rfl (d.set2 _ _) rfl ?_;exact YH d d2 (Za a h a.size) (JY _)
theorem YB [Old] (v1 v2:Value) (xs ys:List Nat) (w:World) (h1:ZQ w v1 xs) (h2:ZQ w v2 ys) (hOl:Zb w:=by (repeat (first | assumption | exact Zb.up (by assumption) hOl | exact Zb.up (Hid.out (by assumption)) hOl | with_reducible refine Zb.set ?_ _ _ | with_reducible refine Zb.mk_ ?_ _ | with_reducible refine Zb.dr ?_ | with_reducible refine Zb.drN ?_ | refine Zb.up (by assumption) ?_ | refine Zb.up (Hid.out (by assumption)) ?_))):
 Calls Tryz.prog 133 #[v1,v2] w fun e w'=>e= .returned (.int .i64 (cmpN (val xs) (val ys)))∧Below w.heap.size w w':=by
 have n:=hOl.le;go_enter Tryz.func133,Tryz.ntmps133;go_wp2_with fail;refine (YA _ xs _ h1).mono ?_;rintro e w1 ⟨u1,rfl,g1,rfl⟩;go_wp2_with fail;refine (YA _ ys _ h2).mono ?_;rintro e w1 ⟨u2,rfl,g2,rfl⟩;clear h1 h2;obtain ⟨a,ha⟩:∃a,a=val xs:=⟨_,rfl⟩;obtain ⟨b,hb⟩:∃b,b=val ys:=⟨_,rfl⟩;rw [← ha] at g1;rw [← hb] at g2;have HA:=JZ ha;have HB:=JZ hb;clear ha hb;obtain ⟨A,l,c,rfl⟩:=g1.shape;obtain ⟨hl,r,s,hc⟩:=g1.len;obtain ⟨A2,l2,c2,rfl⟩:=g2.shape;obtain ⟨kl,t,u,kc⟩:=g2.len;rcases Nat.lt_trichotomy l l2 with hlt | heq | hgt
 ·have e:cmpN a b= -1:=VW (U6 (by omega));have HE:=JZ e;clear e;go_wp2;go_ret;exact ⟨by rw [← HA.out,← HB.out,HE.out];rfl,JR _ _⟩
 ·subst heq;go_wp2
  go_loopw [5] (fun x wr=>∃(z:Int) (q:Nat),-1≤z∧z < l∧x= .int .i64 z∧wr=w.drewN q∧∀i:Nat,z < i→dg (Zo a) i=dg (Zo b) i) (fun x _=>(intOf x+1).toNat)
  case atStart=>exact ⟨(l:Int) - 1,0,by omega,by omega,rfl,rfl,fun i hi=>by rw [Wv (by omega),Wv (by omega)]⟩
  case round=>
   obtain ⟨z,q,h,hk,rfl,rfl,hz⟩:=hrel;have HZ:=JZ hz;clear hz;rcases Int.lt_or_le z 0 with h0 | h0
   ·go_wp2;go_ret;exact ⟨by rw [← HA.out,← HB.out,← Zte (l:=l) (by omega) (by omega) h h0 HZ.out];rfl,below_drewN' _ _⟩
   ·obtain ⟨j,rfl⟩:=JT h0;obtain ⟨b1,k,rfl,_,d⟩:=g1.at_ (by omega);obtain ⟨b2,m,rfl,_,f⟩:=g2.at_ (by omega);have o:=d j (by omega);have p:=f j (by omega);clear d f;rcases Nat.lt_trichotomy (dg (Zo a) j) (dg (Zo b) j) with g | g | g
    ·have t2:decide (di (Zo a) j < di (Zo b) j)=true:=(by simp [di];omega);have HG:=JZ g;clear g;go_wp2
     go_quiet (fail)
     go_wp2;go_ret;exact ⟨by rw [← HA.out,← HB.out,Zon (l:=l) (by omega) (by omega) HZ.out HG.out];rfl,by simp only [World.drewN_drewN];exact below_drewN' _ _⟩
    ·have t1:decide (di (Zo a) j < di (Zo b) j)=false:=(by simp [di];omega);have t2:decide (di (Zo b) j < di (Zo a) j)=false:=(by simp [di];omega);have HG:=JZ g;clear g;go_wp2
     go_quiet (fail)
     go_wp2
     go_quiet (fail)
     go_wp2;go_roundw
     case rel=>exact ⟨(j:Int) - 1,_,by omega,by omega,rfl,rfl,fun i hi=>by
      rcases Nat.eq_or_lt_of_le (show j≤i by omega) with e | e
      ·exact e▸HG.out
      ·exact HZ.out i (by omega)⟩
     case measure=>simp [intOf]
    ·have t1:decide (di (Zo a) j < di (Zo b) j)=false:=(by simp [di];omega);have t2:decide (di (Zo b) j < di (Zo a) j)=true:=(by simp [di];omega);have HG:=JZ g;clear g;go_wp2
     go_quiet (fail)
     go_wp2
     go_quiet (fail)
     go_wp2;go_ret;exact ⟨by rw [← HA.out,← HB.out,Zoo (l:=l) (by omega) (by omega) HZ.out HG.out];rfl,by simp only [World.drewN_drewN];exact below_drewN' _ _⟩
 ·have e:cmpN a b=1:=Zdl (U6 (by omega));have HE:=JZ e;clear e;go_wp2;go_ret;exact ⟨by rw [← HA.out,← HB.out,HE.out];rfl,JR _ _⟩
theorem canI_neg (z:Int):(canI z).neg=decide (z < 0):=rfl
namespace Pl
theorem Yeq {x y:Int} (hx:x < 0) (hy:y < 0):cmpN y.natAbs x.natAbs=sgn (x - y):=by unfold cmpN sgn;split <;> split <;> (try split) <;> (try split) <;> omega
theorem Yer {x y:Int} (hx:¬x < 0) (hy:¬y < 0):cmpN x.natAbs y.natAbs=sgn (x - y):=by unfold cmpN sgn;split <;> split <;> (try split) <;> (try split) <;> omega
end Pl
def Yes [Old] (x y:Int) (w:World) (wx:World) (A A':Option Addr) (n c n' c':Nat):Prop:=
 Bk wx w.heap.size 46 [.bool (decide (x < 0)),.slice A n c]∧Bk wx (w.heap.size+1) 46 [.bool (decide (y < 0)),.slice A' n' c']∧ZQ wx (.slice A n c) (Zo x.natAbs)∧ZQ wx (.slice A' n' c') (Zo y.natAbs)∧Below w.heap.size w wx
theorem Ym.dig [Old] {w:World} {b:Bool} {A:Option Addr} {n c:Nat} {a:RI} (h:Ym w (.agg #[.bool b,.slice A n c]) a):ZQ w (.slice A n c) a.ds∧b=a.neg:=by
 obtain ⟨s,e,d⟩:=h;simp at e;obtain ⟨rfl,rfl⟩:=e;exact ⟨d,rfl⟩
theorem Zuk (w:World) (x y x' y':Value):∃W,(w.alloc (.cells #[x,y] 46)).alloc (.cells #[x',y'] 46)=W∧Bk W w.heap.size 46 [x,y]∧Bk W (w.heap.size+1) 46 [x',y']∧Below w.heap.size w W:=boxes w x y x' y'
theorem Zkd [Old] (v1 v2:Value) (a b:RI) (w:World) (h1:Ym w v1 a) (h2:Ym w v2 b) (hs:(Zo (val a.ds)).length≤549755813888) (hs2:(Zo (val b.ds)).length≤549755813888) (hOl:Zb w:=by (repeat (first | assumption | exact Zb.up (by assumption) hOl | exact Zb.up (Hid.out (by assumption)) hOl | with_reducible refine Zb.set ?_ _ _ | with_reducible refine Zb.mk_ ?_ _ | with_reducible refine Zb.dr ?_ | with_reducible refine Zb.drN ?_ | refine Zb.up (by assumption) ?_ | refine Zb.up (Hid.out (by assumption)) ?_))):
 Calls Tryz.prog 111 #[v1,v2] w fun e w'=>e= .returned (.int .i64 (sgn (a.z - b.z)))∧Below w.heap.size w w':=by
 have o:=hOl.le;obtain ⟨A,n,c,rfl,hd⟩:=h1.shape;obtain ⟨A',n',c',rfl,l⟩:=h2.shape;obtain ⟨W,hW,hX,hY,g⟩:=Zuk w (.bool a.neg) (.slice A n c) (.bool b.neg) (.slice A' n' c');have i1:=h1.below g;have i2:=h2.below g;have k:w.heap.size≠w.heap.size+1:=by omega
 have j:True:=trivial;obtain ⟨x0,x1,f0,f1⟩:=hX.two;obtain ⟨y0,y1,k0,k1⟩:=hY.two;go_enter Tryz.func111,Tryz.ntmps111;go_wp2_with fail;clear hW
 go_upto_region 1 with (fail)
 go_cut [] (fun wx=>∃(A A':Option Addr) (n c n' c':Nat),Yes a.z b.z w wx A A' n c n' c')
 case first=>
  go_region_with (first
   | (go_at_call 105;have _t:=j;refine (Uq _ a _ (i1.keep (ZG.drew _)) hs).mono ?_;clear j _t;rintro e w6 ⟨v6,rfl,e6,f⟩;obtain ⟨A6,n6,k6,rfl,_⟩:=e6.shape;obtain ⟨p,q,_,_⟩:=(hY.drew.later f).two)
   | (go_at_call 105;refine (Uq _ b _ ((i2.keep (ZG.drew _)).below f) hs2).mono ?_;rintro e w7 ⟨v7,rfl,e7,h⟩;obtain ⟨A7,n7,k7,rfl,_⟩:=e7.shape;obtain ⟨c0,c1,r0,r1⟩:=((hX.drew.later f).later h).two;obtain ⟨r,s,t,u⟩:=((hY.drew.later f).later h).two))
  all_goals
   go_wp2_with fail
   go_meet
   obtain ⟨a1,a2,a3,a4,a5⟩:=Y5 ((hX.drew.later f).later h) ((hY.drew.later f).later h) k (e6.below h) e7 (Za (Za g.drew f g.size) h (JW g.size f.size)) (by omega) (by omega);exact ⟨A6,A7,n6,k6,n7,k7,a1,a2,a3.dig.1,a4.dig.1,a5⟩
 case rest=>
  obtain ⟨B,B',m,d,m',d',bX,bY,dX,dY,be⟩:=hcut;clear x0 x1 f0 f1 y0 y1 k0 k1 hX hY g i1 i2 h1 h2 hd l;obtain ⟨x0,x1,_,_⟩:=bX.two;obtain ⟨y0,y1,_,_⟩:=bY.two;by_cases hx:a.z < 0
  ·by_cases hy:b.z < 0
   ·have HC:=JZ (Yeq hx hy);rw [decide_eq_true hx] at x0;rw [decide_eq_true hy] at y0;clear hx hy;go_wp2_with fail;refine (YB _ _ _ _ _ dY dX).mono ?_;rw [Zl,Zl,HC.out];rintro e w3 ⟨rfl,i⟩;go_wp2;go_ret;exact ⟨rfl,Za be i be.size⟩
   ·have HC:Hid (sgn (a.z - b.z)= -1):=JZ (VX (by omega));rw [decide_eq_true hx] at x0;rw [decide_eq_false hy] at y0;clear hx hy;go_wp2;go_ret;exact ⟨by rw [HC.out];rfl,be⟩
  ·by_cases hy:b.z < 0
   ·have HC:Hid (sgn (a.z - b.z)=1):=JZ (Vp (by omega));rw [decide_eq_false hx] at x0;rw [decide_eq_true hy] at y0;clear hx hy;go_wp2;go_ret;exact ⟨by rw [HC.out];rfl,be⟩
   ·have HC:=JZ (Yer hx hy);rw [decide_eq_false hx] at x0;rw [decide_eq_false hy] at y0;clear hx hy;go_wp2_with fail;refine (YB _ _ _ _ _ dX dY).mono ?_;rw [Zl,Zl,HC.out];rintro e w3 ⟨rfl,i⟩;go_wp2;go_ret;exact ⟨rfl,Za be i be.size⟩
theorem Zai [Old] (v:Value) (a:RI) (w:World) (h:Ym w v a) (hs:(Zo (val a.ds)).length≤549755813888) (hOl:Zb w:=by (repeat (first | assumption | exact Zb.up (by assumption) hOl | exact Zb.up (Hid.out (by assumption)) hOl | with_reducible refine Zb.set ?_ _ _ | with_reducible refine Zb.mk_ ?_ _ | with_reducible refine Zb.dr ?_ | with_reducible refine Zb.drN ?_ | refine Zb.up (by assumption) ?_ | refine Zb.up (Hid.out (by assumption)) ?_))):
 Calls Tryz.prog 77 #[v] w fun e w'=>e= .returned (.int .i64 (sgn a.z))∧Below w.heap.size w w':=by
 have f:=hOl.le;obtain ⟨A,n,c,rfl,hd⟩:=h.shape;have hX:=Bk.new w 46 [.bool a.neg,.slice A n c];have b:=Zc w (.cells [.bool a.neg,.slice A n c].toArray 46);have h':=h.below b;obtain ⟨x0,x1,_,_⟩:=hX.two;go_enter Tryz.func77,Tryz.ntmps77;go_wp2_with fail;generalize w.alloc _=W at *;refine (Zkd _ _ a (canI 0) _ h' (Ym.zero _) hs (by rw [YF,Int.natAbs_zero,digs_zero];decide)).mono ?_;rw [ZL,Int.sub_zero];rintro e w1 ⟨rfl,d⟩;go_wp2;go_ret;exact ⟨rfl,Za b d b.size⟩
theorem Zpc [Old] {w w':World} {base:Nat} {v:Value} {n:Nat} {xs:List Value} (h:w.ownsRow base 123 1 v n xs) (hk:ZG w w'):w'.ownsRow base 123 1 v n xs:=by
 refine ⟨h.1,?_⟩;rcases h.2 with hn | ⟨g,cap,cur,rfl,hb,hgg,rest⟩
 ·exact .inl hn
 ·exact .inr ⟨g,cap,cur,rfl,hb,hk g _ _ _ (Or.inl rfl) hgg,rest⟩
theorem Zpd {w:World} {base base':Nat} {v:Value} {n:Nat} {xs:List Value} (h:w.ownsRow base 123 1 v n xs) (hb:base'≤base):w.ownsRow base' 123 1 v n xs:=by
 refine ⟨h.1,?_⟩;rcases h.2 with hn | ⟨g,cap,cur,rfl,hb',rest⟩
 ·exact .inl hn
 ·exact .inr ⟨g,cap,cur,rfl,JW hb hb',rest⟩
def Zfn (base:Nat) (w:World) (v:Value) (a:RI):Prop:=∃s,v= .agg #[.bool a.neg,s]∧w.ownsRow base 123 1 s a.ds.length (a.ds.map uc)∧okD a.ds
theorem Zfn.int [Old] {base:Nat} {w:World} {v:Value} {a:RI} (h:Zfn base w v a):Ym w v a:=by
 obtain ⟨s,h1,h2,h3⟩:=h;exact ⟨s,h1,Va h2 h3⟩
theorem Zfn.keep [Old] {base:Nat} {w w':World} {v:Value} {a:RI} (h:Zfn base w v a) (hk:ZG w w'):Zfn base w' v a:=by
 obtain ⟨s,h1,h2,h3⟩:=h;exact ⟨s,h1,Zpc h2 hk,h3⟩
theorem Zfn.below {base:Nat} {w w':World} {v:Value} {a:RI} (h:Zfn base w v a) (hb:Below w.heap.size w w'):Zfn base w' v a:=by
 letI:Old:=⟨0⟩
 exact h.keep (ZG.of_below hb)
theorem Zfn.mono {base base':Nat} {w:World} {v:Value} {a:RI} (h:Zfn base w v a) (hb:base'≤base):Zfn base' w v a:=by
 obtain ⟨s,h1,h2,h3⟩:=h;exact ⟨s,h1,Zpd h2 hb,h3⟩
theorem Zfn.zero (base:Nat) (w:World):Zfn base w (.agg #[.bool false,.slice none 0 0]) (canI 0):=by
 rw [canI_zero];exact ⟨_,rfl,World.ownsRow_nil _ _ _ _,okD_nil⟩
theorem Zfn.shape {base:Nat} {w:World} {v:Value} {a:RI} (h:Zfn base w v a):∃A n c,v= .agg #[.bool a.neg,.slice A n c]:=by
 letI:Old:=⟨0⟩
 obtain ⟨A,n,c,hv,_⟩:=h.int.shape;exact ⟨A,n,c,hv⟩
theorem Zpe {w w2:World} {base m g:Nat} {x y b s:Value} {a:RI} (hR:Bk w2 g 46 [x,y]) (d:Zfn base w2 (.agg #[b,s]) a) (hbe:Below m w w2) (hg:m≤g):
 ∃v',Ending.returned (.agg [b,s].toArray)= .returned v'∧Zfn base ((w2.setCell ⟨g,0,none⟩ b).setCell ⟨g,1,none⟩ s) v' a∧Below m w ((w2.setCell ⟨g,0,none⟩ b).setCell ⟨g,1,none⟩ s):=by
 letI:Old:=⟨0⟩
 exact ⟨_,rfl,d.keep (hR.keep2 (by decide) _ _),Ye hbe hg _ _⟩
theorem Zyo [Old] (neg:Bool) (v:Value) (ds:List Nat) (w:World) (h:ZQ w v ds) (hs:(Zo (val ds)).length≤549755813888) (hOl:Zb w:=by (repeat (first | assumption | exact Zb.up (by assumption) hOl | exact Zb.up (Hid.out (by assumption)) hOl | with_reducible refine Zb.set ?_ _ _ | with_reducible refine Zb.mk_ ?_ _ | with_reducible refine Zb.dr ?_ | with_reducible refine Zb.drN ?_ | refine Zb.up (by assumption) ?_ | refine Zb.up (Hid.out (by assumption)) ?_))):
 Calls Tryz.prog 106 #[.bool neg,v] w fun e w'=>∃v',e= .returned v'∧Zfn w.heap.size w' v' (canI (sm neg (val ds)))∧Below w.heap.size w w':=by
 have C:=hOl.le;have hR:=Bk.new w 46 [.bool false,.slice none 0 0];have d:=Zc w (.cells [.bool false,.slice none 0 0].toArray 46);have h':=h.below d;obtain ⟨i0,hi,p,q,r⟩:=info_parts info_u32;have HI:=JZ hi;have t:=JZ p;have u:=JZ q;have x:=JZ r;clear hi p q r;go_enter Tryz.func106,Tryz.ntmps106;go_wp2_with fail;generalize w.alloc _=W at *;refine (YA _ ds _ h').mono ?_;rintro e w1 ⟨v1,rfl,h1,rfl⟩;obtain ⟨A,n,c,rfl⟩:=h1.shape;obtain ⟨kl,s,z,kc⟩:=h1.len;obtain ⟨c0,c1,f0,f1⟩:=hR.two;rcases JV n with h0 | h0
 ·have hv:val ds=0:=Wh (by omega);subst h0;have HV:=JZ hv;clear hv kl s hs;go_wp2;refine Zq Tryz.results106 Tryz.underlying46 (by kernel_rfl) rfl (hR.set2 _ _) rfl ?_;exact ⟨_,rfl,by rw [HV.out,Zbs];exact Zfn.zero _ _,Ye d (JY _) _ _⟩
 ·have hv:val ds≠0:=VY (by omega);have HV:=JZ hv;have HS:=JZ hs;obtain ⟨b,B,rfl,D,i⟩:=h1.at_ h0;clear hv i hs c0 c1 f0 f1;have m:(Zo (val ds)).length=n:=by omega
  have g:=JZ m;clear m kl s kc z;go_wp2_with (at_builtin;refine wpList_append_own_at _ rfl (.const (.slice none 0 0)) (.tmp 12) _ rfl w.heap.size 123 i0 _ 1 4 Tryz.underlying44 HI.out t.out u.out x.out rfl (by decide) (.slice none 0 0) 0 [] rfl ?c0 ⟨b,B,none⟩ n c ((Zo (val ds)).map uc) rfl ?c1 ?c2 (Uk _) ?c3 ?c4 ?c5 ?_)
  case c0=>exact World.ownsRow_nil _ _ _ _
  case c1=>simp;exact g.out
  case c2=>exact h1.news
  case c3=>have:=HS.out;have:=g.out;unfold maxLen;omega
  case c4=>have:=HS.out;have:=g.out;omega
  case c5=>exact d.size
  ·intro v' w1 j a _ _;have f:w1.ownsRow w.heap.size 123 1 v' (Zo (val ds)).length ((Zo (val ds)).map uc):=(by have:=g.out;simpa [this] using j);have y:=Va f (Yb (val ds));have l:=hR.grown a (by simp [Value.ownBlock]);have o:Below w.heap.size w w1:=d.grown a d.size (fun k hk=>by simp [Value.ownBlock] at hk);obtain ⟨A1,n1,k1,rfl⟩:=y.shape;obtain ⟨c0,c1,f0,f1⟩:=l.two;clear j a;go_wp2;refine Zq Tryz.results106 Tryz.underlying46 (by kernel_rfl) rfl (l.set2 _ _) rfl ?_;rw [Zmw _ _ HV.out];exact Zpe l ⟨_,rfl,f,Yb _⟩ o (JY _)
theorem Zgb [Old] (v:Value) (a:RI) (w:World) (h:Ym w v a) (hs:(Zo (val a.ds)).length≤549755813888) (hOl:Zb w:=by (repeat (first | assumption | exact Zb.up (by assumption) hOl | exact Zb.up (Hid.out (by assumption)) hOl | with_reducible refine Zb.set ?_ _ _ | with_reducible refine Zb.mk_ ?_ _ | with_reducible refine Zb.dr ?_ | with_reducible refine Zb.drN ?_ | refine Zb.up (by assumption) ?_ | refine Zb.up (Hid.out (by assumption)) ?_))):
 Calls Tryz.prog 105 #[v] w fun e w'=>∃v',e= .returned v'∧Zfn w.heap.size w' v' (canI a.z)∧Below w.heap.size w w':=by
 have i:=hOl.le;obtain ⟨A,n,c,rfl,hd⟩:=h.shape;obtain ⟨W,hW,hX,hR,b⟩:=Yfy w (.bool a.neg) (.slice A n c);have g:=hd.below b;obtain ⟨x0,x1,y0,y1⟩:=hX.two;go_enter Tryz.func105,Tryz.ntmps105;go_wp2_with fail;clear hW;refine (Zyo _ _ a.ds _ g hs).mono ?_;rw [← RI.z_eq];rintro e w1 ⟨v1,rfl,e1,f⟩;obtain ⟨A1,n1,k1,rfl⟩:=e1.shape;have d:=hR.later f;obtain ⟨c0,c1,f0,f1⟩:=d.two;go_wp2;refine Zq Tryz.results105 Tryz.underlying46 (by kernel_rfl) rfl (d.set2 _ _) rfl ?_;exact Zpe d (e1.mono b.size) (Za b f b.size) (by omega)
end Go.Proofs.YtncmobkhenfhpaaGreat
