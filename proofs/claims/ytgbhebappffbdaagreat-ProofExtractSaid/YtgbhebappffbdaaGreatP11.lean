/- Lemmas of the claim; no condition. -/
import Derived.Test.YtgbhebappffbdaaGreatP9
set_option linter.all false
set_option maxRecDepth 100000
set_option maxHeartbeats 40000000
namespace Go.Proofs.YtgbhebappffbdaaGreat
open Go.RowKit
open Pl
attribute [local go_sem ↓] Go.wp_at_zero Go.wp_at_succ
theorem Zix {w:World} {A:Option Addr} {n c k:Nat} {ds:List Nat} (h:ZL w (.slice A n c) ds) (hk:k≤n) (hz:∀i,k≤i→dg ds i=0) (hl:k=0∨dg ds (k - 1)≠0):
 ZL w (.slice A k c) (Zl (val ds)):=by
 obtain ⟨h1,h2,h3,h4⟩:=h.len;rw [Zik h.ok (by omega) hz hl];exact h.take hk (by omega) (by unfold maxLen;omega)
theorem Zcd (A:Option Addr) (n c:Nat) (ds:List Nat) (w:World) (h:ZL w (.slice A n c) ds):
 Calls Tryz.prog 117 #[.slice A n c] w fun e w'=>∃k,e= .returned (.slice A k c)∧ZL w (.slice A k c) (Zl (val ds))∧w=w':=by
 obtain ⟨hl,f,g,hc⟩:=h.len;go_enter Tryz.func117,Tryz.ntmps117;go_wp2
 go_loop [3] (fun x=>∃k:Nat,k≤n∧x= .int .i64 k∧∀i,k≤i→dg ds i=0) (fun x=>(intOf x).toNat)
 case atStart=>exact ⟨n,JY _,rfl,fun i hi=>X9 (by omega)⟩
 case round=>
  obtain ⟨k,hk,rfl,hz⟩:=hrel;have HZ:=JZ hz;clear hz;rcases JV k with h0 | h0
  ·subst h0;go_wp2;go_ret;exact ⟨_,rfl,Zix h hk HZ.out (.inl rfl),rfl⟩
  ·obtain ⟨j,rfl⟩:∃j,k=j+1:=⟨k - 1,by omega⟩;obtain ⟨b,l,rfl,_,a⟩:=h.at_ (by omega);have d:=a j (by omega);clear a;by_cases hd:dg ds j=0
   ·have hb:=Ug hd;have HD:=JZ hd;clear hd;go_wp2
    go_round
    case rel=>exact ⟨j,by omega,by go_num,fun i hi=>by
     rcases Nat.eq_or_lt_of_le hi with e | e
     ·exact e▸HD.out
     ·exact HZ.out i e⟩
    case measure=>simp [intOf]
   ·have hb:=Vu hd;have HD:=JZ hd;clear hd;go_wp2;go_ret;exact ⟨_,rfl,Zix h hk HZ.out (.inr (by simpa using HD.out)),rfl⟩
theorem Y9 (v:Value) (ds:List Nat) (w:World) (h:ZL w v ds):
 Calls Tryz.prog 117 #[v] w fun e w'=>∃v',e= .returned v'∧ZL w v' (Zl (val ds))∧w=w':=by
 obtain ⟨A,n,c,rfl⟩:=h.shape;exact (Zcd A n c ds w h).mono fun _ _ ⟨_,h1,h2,h3⟩=>⟨_,h1,h2,h3⟩
theorem UR (neg:Bool) (v:Value) (ds:List Nat) (w:World) (h:ZL w v ds) (hs:(Zl (val ds)).length≤549755813888):
 Calls Tryz.prog 113 #[.bool neg,v] w fun e w'=>∃v',e= .returned v'∧Yg w' v' (canI (sm neg (val ds)))∧Below w.heap.size w w':=by
 have hR:=Bk.new w 44 [.bool false,.slice none 0 0];have d:=Zb w (.cells [.bool false,.slice none 0 0].toArray 44);have h':=h.below d;obtain ⟨i0,hi,p,q,r⟩:=info_parts info_u32;have HI:=JZ hi;have t:=JZ p;have u:=JZ q;have x:=JZ r;clear hi p q r;go_enter Tryz.func113,Tryz.ntmps113;go_wp2_with fail;generalize w.alloc _=W at *;refine (Y9 _ ds _ h').mono ?_;rintro e w1 ⟨v1,rfl,h1,rfl⟩;obtain ⟨A,n,c,rfl⟩:=h1.shape;obtain ⟨kl,s,y,kc⟩:=h1.len;obtain ⟨c0,c1,f0,f1⟩:=hR.two;rcases JV n with h0 | h0
 ·have hv:val ds=0:=X0 (by omega);subst h0;have HV:=JZ hv;clear hv kl s hs;go_wp2;refine Zn Tryz.results113 Tryz.underlying44 (by kernel_rfl) rfl (hR.set2 _ _) rfl ?_;exact ⟨_,rfl,by rw [HV.out,Zaw];exact Yg.zero _,Z5 d (JY _) _ _⟩
 ·have hv:val ds≠0:=Vx (by omega);have HV:=JZ hv;have HS:=JZ hs;obtain ⟨b,z,rfl,B,f⟩:=h1.at_ h0;clear hv f hs c0 c1 f0 f1;have l:(Zl (val ds)).length=n:=by omega
  have i:=JZ l;clear l kl s kc y;go_wp2_with (at_builtin;refine wpList_append_own_at _ rfl (.const (.slice none 0 0)) (.tmp 12) _ rfl w.heap.size 148 i0 _ 1 4 Tryz.underlying42 HI.out t.out u.out x.out rfl (by decide) (.slice none 0 0) 0 [] rfl ?c0 ⟨b,z,none⟩ n c ((Zl (val ds)).map uc) rfl ?c1 ?c2 (VT _) ?c3 ?c4 ?c5 ?_)
  case c0=>exact World.ownsRow_nil _ _ _ _
  case c1=>simp;exact i.out
  case c2=>exact h1.news
  case c3=>have:=HS.out;have:=i.out;unfold maxLen;omega
  case c4=>have:=HS.out;have:=i.out;omega
  case c5=>exact d.size
  ·intro v' w1 g a _ _;have m:=WJ (by simpa using g) (ZV (val ds));have j:=hR.grown a (by simp [Value.ownBlock]);have o:Below w.heap.size w w1:=d.grown a d.size (fun k hk=>by simp [Value.ownBlock] at hk);obtain ⟨A1,n1,k1,rfl⟩:=m.shape;obtain ⟨c0,c1,f0,f1⟩:=j.two;clear g a;go_wp2;refine Zn Tryz.results113 Tryz.underlying44 (by kernel_rfl) rfl (j.set2 _ _) rfl ?_;rw [Zlv _ _ HV.out];exact YW j ⟨_,rfl,m⟩ o (JY _)
theorem Zce (neg:Bool) (v:Value) (n:Nat) (w:World) (h:ZL w v (Zl n)) (hs:(Zl n).length≤549755813888):
 Calls Tryz.prog 113 #[.bool neg,v] w fun e w'=>∃v',e= .returned v'∧Yg w' v' (canI (sm neg n))∧Below w.heap.size w w':=by
 have:=UR neg v (Zl n) w h (by rwa [Zi])
 rwa [Zi] at this
theorem VX (v:Value) (a:RI) (w:World) (h:Yg w v a) (hs:(Zl (val a.ds)).length≤549755813888):
 Calls Tryz.prog 112 #[v] w fun e w'=>∃v',e= .returned v'∧Yg w' v' (canI a.z)∧Below w.heap.size w w':=by
 obtain ⟨A,n,c,rfl,hd⟩:=h.shape;obtain ⟨W,hW,hX,hR,d⟩:=Yfv w (.bool a.neg) (.slice A n c);have g:=hd.below d;obtain ⟨x0,x1,y0,y1⟩:=hX.two;go_enter Tryz.func112,Tryz.ntmps112;go_wp2_with fail;clear hW;refine (UR _ _ a.ds _ g hs).mono ?_;rw [← RI.z_eq];rintro e w1 ⟨v1,rfl,e1,f⟩;obtain ⟨A1,n1,k1,rfl,_⟩:=e1.shape;have b:=hR.later f;obtain ⟨c0,c1,f0,f1⟩:=b.two;go_wp2;refine Zn Tryz.results112 Tryz.underlying44 (by kernel_rfl) rfl (b.set2 _ _) rfl ?_;exact YW b e1 (Za d f d.size) (by omega)
theorem Zct (v:Value) (a:RI) (w:World) (h:Yg w v a) (hs:(Zl (val a.ds)).length≤549755813888):
 Calls Tryz.prog 87 #[v] w fun e w'=>∃v',e= .returned v'∧Yg w' v' (canI (- a.z))∧Below w.heap.size w w':=by
 obtain ⟨A,n,c,rfl,hd⟩:=h.shape;obtain ⟨W,hW,hX,hR,d⟩:=Yfv w (.bool a.neg) (.slice A n c);have g:=hd.below d;obtain ⟨x0,x1,y0,y1⟩:=hX.two;go_enter Tryz.func87,Tryz.ntmps87;go_wp2_with fail;clear hW;refine (UR _ _ a.ds _ g hs).mono ?_;rw [Zzs,← RI.z_eq];rintro e w1 ⟨v1,rfl,e1,f⟩;obtain ⟨A1,n1,k1,rfl,_⟩:=e1.shape;have b:=hR.later f;obtain ⟨c0,c1,f0,f1⟩:=b.two;go_wp2;refine Zn Tryz.results87 Tryz.underlying44 (by kernel_rfl) rfl (b.set2 _ _) rfl ?_;exact YW b e1 (Za d f d.size) (by omega)
theorem Zax (v:Value) (ds:List Nat) (k:Nat) (w:World) (h:ZL w v ds) (hk:(k:Int)≤9223372036854775807):
 Calls Tryz.prog 147 #[v,.int .i64 k] w fun e w'=>e= .returned (.int .u64 (di ds k))∧w=w':=by
 obtain ⟨A,n,c,rfl⟩:=h.shape;obtain ⟨hl,d,f,hc⟩:=h.len;rcases JX k n with hlt | hge
 ·obtain ⟨b,g,rfl,i,a⟩:=h.at_ (by omega);have hx:=a k hlt;have x0:=Zo ds k;have x1:=Yn h.ok k;clear a;go_enter Tryz.func147,Tryz.ntmps147;go_wp2;go_ret;exact ⟨rfl,rfl⟩
 ·have hz:di ds k=0:=by rw [Yk,X9 (by omega)];rfl
  have HZ:=JZ hz;clear hz hl d;go_enter Tryz.func147,Tryz.ntmps147;go_wp2;go_ret;exact ⟨by rw [HZ.out];rfl,rfl⟩
theorem Znu (w:World) (z:Int) (h:0≤z) (h2:z≤18446744073709551615):
 ∃ds,ZL (w.alloc (.cells #[.int .u32 (z % 4294967296),.int .u32 (z / 4294967296)] 148)) (.slice (some ⟨w.heap.size,0,none⟩) 2 2) ds∧val ds=z.toNat:=by
 obtain ⟨n,rfl⟩:=JT h;refine ⟨[n % B32,n / B32],?_,?_⟩
 ·have:=YB.dig (YB.new w [n % B32,n / B32]) (by simp [okD,B32];omega) (c:=2) (by simp) (by simp [maxLen]);simpa [uc,B32] using this
 ·simp only [val,B32,JP];omega
theorem WK (z:Int) (w:World) (h0: -9223372036854775808≤z) (h1:z≤9223372036854775807):
 Calls Tryz.prog 65 #[.int .i64 z] w fun e w'=>∃v',e= .returned v'∧Yg w' v' (canI z)∧Below w.heap.size w w':=by
 have hR:=Bk.new w 44 [.bool false,.slice none 0 0];have f:=Zb w (.cells [.bool false,.slice none 0 0].toArray 44);rcases Int.lt_or_le z 0 with hn | hn
 ·have e1:IntKind.u64.wrap z=z+18446744073709551616:=by simp [IntKind.wrap,IntKind.bits,IntKind.signed];omega
  have e2:IntKind.u64.wrap (-(z+18446744073709551616))= -z:=by simp [IntKind.wrap,IntKind.bits,IntKind.signed];omega
  obtain ⟨y,hy⟩:∃y,y= -z:=⟨_,rfl⟩;have y0:0≤y:=by omega
  have y1:y≤18446744073709551615:=by omega
  rw [← hy] at e2;have HY:=JZ hy;clear hy;go_enter Tryz.func65,Tryz.ntmps65;obtain ⟨ds,g,hv⟩:=Znu (w.alloc (.cells #[.bool false,.slice none 0 0] 44)) y (by omega) (by omega);rw [size_alloc] at g;have HV:=JZ hv;have b:=Zb (w.alloc (.cells #[.bool false,.slice none 0 0] 44)) (.cells #[.int .u32 (y % 4294967296),.int .u32 (y / 4294967296)] 148);have i:=hR.later b;have a:=Za f b f.size;clear hv b f hR;go_wp2_with fail;generalize (w.alloc _).alloc _=W at *;refine (UR _ _ ds _ g (by rw [HV.out];exact JW (YT (k:=2) (by unfold B32;omega)) (by decide))).mono ?_;rw [HV.out,show sm true (y).toNat=z from by have:=HY.out;simp [sm];omega];rintro e w2 ⟨v2,rfl,d2,h⟩;obtain ⟨A,n,c,rfl,_⟩:=d2.shape;have d:=i.later h;obtain ⟨c0,c1,f0,f1⟩:=d.two;go_wp2;refine Zn Tryz.results65 Tryz.underlying44 (by kernel_rfl) rfl (d.set2 _ _) rfl ?_;exact YW d d2 (Za a h a.size) (JY _)
 ·have e1:IntKind.u64.wrap z=z:=u64_in _ hn (by omega);go_enter Tryz.func65,Tryz.ntmps65;obtain ⟨ds,g,hv⟩:=Znu (w.alloc (.cells #[.bool false,.slice none 0 0] 44)) z (by omega) (by omega);rw [size_alloc] at g;have HV:=JZ hv;have b:=Zb (w.alloc (.cells #[.bool false,.slice none 0 0] 44)) (.cells #[.int .u32 (z % 4294967296),.int .u32 (z / 4294967296)] 148);have i:=hR.later b;have a:=Za f b f.size;clear hv b f hR;go_wp2_with fail;generalize (w.alloc _).alloc _=W at *;refine (UR _ _ ds _ g (by rw [HV.out];exact JW (YT (k:=2) (by unfold B32;omega)) (by decide))).mono ?_;rw [HV.out,show sm (decide (z < 0)) (z).toNat=z from by rw [decide_eq_false (by omega)];simp [sm];omega];rintro e w2 ⟨v2,rfl,d2,h⟩;obtain ⟨A,n,c,rfl,_⟩:=d2.shape;have d:=i.later h;obtain ⟨c0,c1,f0,f1⟩:=d.two;go_wp2;refine Zn Tryz.results65 Tryz.underlying44 (by kernel_rfl) rfl (d.set2 _ _) rfl ?_;exact YW d d2 (Za a h a.size) (JY _)
theorem Xp (v1 v2:Value) (xs ys:List Nat) (w:World) (h1:ZL w v1 xs) (h2:ZL w v2 ys):
 Calls Tryz.prog 115 #[v1,v2] w fun e w'=>e= .returned (.int .i64 (cmpN (val xs) (val ys)))∧Below w.heap.size w w':=by
 go_enter Tryz.func115,Tryz.ntmps115;go_wp2_with fail;refine (Y9 _ xs _ h1).mono ?_;rintro e w1 ⟨u1,rfl,g1,rfl⟩;go_wp2_with fail;refine (Y9 _ ys _ h2).mono ?_;rintro e w1 ⟨u2,rfl,g2,rfl⟩;clear h1 h2;obtain ⟨a,ha⟩:∃a,a=val xs:=⟨_,rfl⟩;obtain ⟨b,hb⟩:∃b,b=val ys:=⟨_,rfl⟩;rw [← ha] at g1;rw [← hb] at g2;have HA:=JZ ha;have HB:=JZ hb;clear ha hb;obtain ⟨A,l,c,rfl⟩:=g1.shape;obtain ⟨hl,p,r,hc⟩:=g1.len;obtain ⟨A2,l2,c2,rfl⟩:=g2.shape;obtain ⟨kl,s,t,kc⟩:=g2.len;rcases Nat.lt_trichotomy l l2 with hlt | heq | hgt
 ·have e:cmpN a b= -1:=Uj (UH (by omega));have HE:=JZ e;clear e;go_wp2;go_ret;exact ⟨by rw [← HA.out,← HB.out,HE.out];rfl,JR _ _⟩
 ·subst heq;go_wp2
  go_loopw [5] (fun x wr=>∃(z:Int) (q:Nat),-1≤z∧z < l∧x= .int .i64 z∧wr=w.drewN q∧∀i:Nat,z < i→dg (Zl a) i=dg (Zl b) i) (fun x _=>(intOf x+1).toNat)
  case atStart=>exact ⟨(l:Int) - 1,0,by omega,by omega,rfl,rfl,fun i hi=>by rw [X9 (by omega),X9 (by omega)]⟩
  case round=>
   obtain ⟨z,q,h,hk,rfl,rfl,hz⟩:=hrel;have HZ:=JZ hz;clear hz;rcases Int.lt_or_le z 0 with h0 | h0
   ·go_wp2;go_ret;exact ⟨by rw [← HA.out,← HB.out,← Zsd (l:=l) (by omega) (by omega) h h0 HZ.out];rfl,below_drewN' _ _⟩
   ·obtain ⟨j,rfl⟩:=JT h0;obtain ⟨b1,k,rfl,_,d⟩:=g1.at_ (by omega);obtain ⟨b2,m,rfl,_,f⟩:=g2.at_ (by omega);have n:=d j (by omega);have o:=f j (by omega);clear d f;rcases Nat.lt_trichotomy (dg (Zl a) j) (dg (Zl b) j) with g | g | g
    ·have t2:decide (di (Zl a) j < di (Zl b) j)=true:=(by simp [di];omega);have HG:=JZ g;clear g;go_wp2
     go_quiet (fail)
     go_wp2;go_ret;exact ⟨by rw [← HA.out,← HB.out,Znl (l:=l) (by omega) (by omega) HZ.out HG.out];rfl,by simp only [World.drewN_drewN];exact below_drewN' _ _⟩
    ·have t1:decide (di (Zl a) j < di (Zl b) j)=false:=(by simp [di];omega);have t2:decide (di (Zl b) j < di (Zl a) j)=false:=(by simp [di];omega);have HG:=JZ g;clear g;go_wp2
     go_quiet (fail)
     go_wp2
     go_quiet (fail)
     go_wp2;go_roundw
     case rel=>exact ⟨(j:Int) - 1,_,by omega,by omega,rfl,rfl,fun i hi=>by
      rcases Nat.eq_or_lt_of_le (show j≤i by omega) with e | e
      ·exact e▸HG.out
      ·exact HZ.out i (by omega)⟩
     case measure=>simp [intOf]
    ·have t1:decide (di (Zl a) j < di (Zl b) j)=false:=(by simp [di];omega);have t2:decide (di (Zl b) j < di (Zl a) j)=true:=(by simp [di];omega);have HG:=JZ g;clear g;go_wp2
     go_quiet (fail)
     go_wp2
     go_quiet (fail)
     go_wp2;go_ret;exact ⟨by rw [← HA.out,← HB.out,Znm (l:=l) (by omega) (by omega) HZ.out HG.out];rfl,by simp only [World.drewN_drewN];exact below_drewN' _ _⟩
 ·have e:cmpN a b=1:=Zcm (UH (by omega));have HE:=JZ e;clear e;go_wp2;go_ret;exact ⟨by rw [← HA.out,← HB.out,HE.out];rfl,JR _ _⟩
theorem canI_neg (z:Int):(canI z).neg=decide (z < 0):=rfl
namespace Pl
theorem Yea {x y:Int} (hx:x < 0) (hy:y < 0):cmpN y.natAbs x.natAbs=sgn (x - y):=by unfold cmpN sgn;split <;> split <;> (try split) <;> (try split) <;> omega
theorem Yeb {x y:Int} (hx:¬x < 0) (hy:¬y < 0):cmpN x.natAbs y.natAbs=sgn (x - y):=by unfold cmpN sgn;split <;> split <;> (try split) <;> (try split) <;> omega
end Pl
def Yec (x y:Int) (w:World) (wx:World) (A A':Option Addr) (n c n' c':Nat):Prop:=
 Bk wx w.heap.size 44 [.bool (decide (x < 0)),.slice A n c]∧Bk wx (w.heap.size+1) 44 [.bool (decide (y < 0)),.slice A' n' c']∧ZL wx (.slice A n c) (Zl x.natAbs)∧ZL wx (.slice A' n' c') (Zl y.natAbs)∧Below w.heap.size w wx
theorem Yg.dig {w:World} {b:Bool} {A:Option Addr} {n c:Nat} {a:RI} (h:Yg w (.agg #[.bool b,.slice A n c]) a):ZL w (.slice A n c) a.ds∧b=a.neg:=by
 obtain ⟨s,e,d⟩:=h;simp at e;obtain ⟨rfl,rfl⟩:=e;exact ⟨d,rfl⟩
theorem Ztj (w:World) (x y x' y':Value):∃W,(w.alloc (.cells #[x,y] 44)).alloc (.cells #[x',y'] 44)=W∧Bk W w.heap.size 44 [x,y]∧Bk W (w.heap.size+1) 44 [x',y']∧Below w.heap.size w W:=boxes w x y x' y'
theorem Zja (v1 v2:Value) (a b:RI) (w:World) (h1:Yg w v1 a) (h2:Yg w v2 b) (hs:(Zl (val a.ds)).length≤549755813888) (hs2:(Zl (val b.ds)).length≤549755813888):
 Calls Tryz.prog 133 #[v1,v2] w fun e w'=>e= .returned (.int .i64 (sgn (a.z - b.z)))∧Below w.heap.size w w':=by
 obtain ⟨A,n,c,rfl,hd⟩:=h1.shape;obtain ⟨A',n',c',rfl,l⟩:=h2.shape;obtain ⟨W,hW,hX,hY,g⟩:=Ztj w (.bool a.neg) (.slice A n c) (.bool b.neg) (.slice A' n' c');have i1:=h1.below g;have i2:=h2.below g;have k:w.heap.size≠w.heap.size+1:=by omega
 have j:True:=trivial;obtain ⟨x0,x1,f0,f1⟩:=hX.two;obtain ⟨y0,y1,k0,k1⟩:=hY.two;go_enter Tryz.func133,Tryz.ntmps133;go_wp2_with fail;clear hW
 go_upto_region 1 with (fail)
 go_cut [] (fun wx=>∃(A A':Option Addr) (n c n' c':Nat),Yec a.z b.z w wx A A' n c n' c')
 case first=>
  go_region_with (first
   | (go_at_call 112;have _t:=j;refine (VX _ a _ (i1.keep (ZF.drew _)) hs).mono ?_;clear j _t;rintro e w6 ⟨v6,rfl,e6,f⟩;obtain ⟨A6,n6,k6,rfl,_⟩:=e6.shape;obtain ⟨o,p,_,_⟩:=(hY.drew.later f).two)
   | (go_at_call 112;refine (VX _ b _ ((i2.keep (ZF.drew _)).below f) hs2).mono ?_;rintro e w7 ⟨v7,rfl,e7,h⟩;obtain ⟨A7,n7,k7,rfl,_⟩:=e7.shape;obtain ⟨c0,c1,r0,r1⟩:=((hX.drew.later f).later h).two;obtain ⟨q,r,s,t⟩:=((hY.drew.later f).later h).two))
  all_goals
   go_wp2_with fail
   go_meet
   obtain ⟨a1,a2,a3,a4,a5⟩:=YX ((hX.drew.later f).later h) ((hY.drew.later f).later h) k (e6.below h) e7 (Za (Za g.drew f g.size) h (JW g.size f.size)) (by omega) (by omega);exact ⟨A6,A7,n6,k6,n7,k7,a1,a2,a3.dig.1,a4.dig.1,a5⟩
 case rest=>
  obtain ⟨B,B',m,d,m',d',bX,bY,dX,dY,be⟩:=hcut;clear x0 x1 f0 f1 y0 y1 k0 k1 hX hY g i1 i2 h1 h2 hd l;obtain ⟨x0,x1,_,_⟩:=bX.two;obtain ⟨y0,y1,_,_⟩:=bY.two;by_cases hx:a.z < 0
  ·by_cases hy:b.z < 0
   ·have HC:=JZ (Yea hx hy);rw [decide_eq_true hx] at x0;rw [decide_eq_true hy] at y0;clear hx hy;go_wp2_with fail;refine (Xp _ _ _ _ _ dY dX).mono ?_;rw [Zi,Zi,HC.out];rintro e w3 ⟨rfl,i⟩;go_wp2;go_ret;exact ⟨rfl,Za be i be.size⟩
   ·have HC:Hid (sgn (a.z - b.z)= -1):=JZ (Vw (by omega));rw [decide_eq_true hx] at x0;rw [decide_eq_false hy] at y0;clear hx hy;go_wp2;go_ret;exact ⟨by rw [HC.out];rfl,be⟩
  ·by_cases hy:b.z < 0
   ·have HC:Hid (sgn (a.z - b.z)=1):=JZ (Va (by omega));rw [decide_eq_false hx] at x0;rw [decide_eq_true hy] at y0;clear hx hy;go_wp2;go_ret;exact ⟨by rw [HC.out];rfl,be⟩
   ·have HC:=JZ (Yeb hx hy);rw [decide_eq_false hx] at x0;rw [decide_eq_false hy] at y0;clear hx hy;go_wp2_with fail;refine (Xp _ _ _ _ _ dX dY).mono ?_;rw [Zi,Zi,HC.out];rintro e w3 ⟨rfl,i⟩;go_wp2;go_ret;exact ⟨rfl,Za be i be.size⟩
theorem Zcw (v:Value) (a:RI) (w:World) (h:Yg w v a) (hs:(Zl (val a.ds)).length≤549755813888):
 Calls Tryz.prog 89 #[v] w fun e w'=>e= .returned (.int .i64 (sgn a.z))∧Below w.heap.size w w':=by
 obtain ⟨A,n,c,rfl,hd⟩:=h.shape;have hX:=Bk.new w 44 [.bool a.neg,.slice A n c];have b:=Zb w (.cells [.bool a.neg,.slice A n c].toArray 44);have h':=h.below b;obtain ⟨x0,x1,_,_⟩:=hX.two;go_enter Tryz.func89,Tryz.ntmps89;go_wp2_with fail;generalize w.alloc _=W at *;refine (Zja _ _ a (canI 0) _ h' (Yg.zero _) hs (by rw [YG,Int.natAbs_zero,digs_zero];decide)).mono ?_;rw [ZI,Int.sub_zero];rintro e w1 ⟨rfl,d⟩;go_wp2;go_ret;exact ⟨rfl,Za b d b.size⟩
theorem Znx {w w':World} {base:Nat} {v:Value} {n:Nat} {xs:List Value} (h:w.ownsRow base 148 1 v n xs) (hk:ZF w w'):w'.ownsRow base 148 1 v n xs:=by
 refine ⟨h.1,?_⟩;rcases h.2 with hn | ⟨g,cap,cur,rfl,hb,hgg,rest⟩
 ·exact .inl hn
 ·exact .inr ⟨g,cap,cur,rfl,hb,hk g _ _ hgg,rest⟩
theorem Zny {w:World} {base base':Nat} {v:Value} {n:Nat} {xs:List Value} (h:w.ownsRow base 148 1 v n xs) (hb:base'≤base):w.ownsRow base' 148 1 v n xs:=by
 refine ⟨h.1,?_⟩;rcases h.2 with hn | ⟨g,cap,cur,rfl,hb',rest⟩
 ·exact .inl hn
 ·exact .inr ⟨g,cap,cur,rfl,JW hb hb',rest⟩
def Zer (base:Nat) (w:World) (v:Value) (a:RI):Prop:=∃s,v= .agg #[.bool a.neg,s]∧w.ownsRow base 148 1 s a.ds.length (a.ds.map uc)∧okD a.ds
theorem Zer.int {base:Nat} {w:World} {v:Value} {a:RI} (h:Zer base w v a):Yg w v a:=by
 obtain ⟨s,h1,h2,h3⟩:=h;exact ⟨s,h1,WJ h2 h3⟩
theorem Zer.keep {base:Nat} {w w':World} {v:Value} {a:RI} (h:Zer base w v a) (hk:ZF w w'):Zer base w' v a:=by
 obtain ⟨s,h1,h2,h3⟩:=h;exact ⟨s,h1,Znx h2 hk,h3⟩
theorem Zer.below {base:Nat} {w w':World} {v:Value} {a:RI} (h:Zer base w v a) (hb:Below w.heap.size w w'):Zer base w' v a:=h.keep (ZF.of_below hb)
theorem Zer.mono {base base':Nat} {w:World} {v:Value} {a:RI} (h:Zer base w v a) (hb:base'≤base):Zer base' w v a:=by
 obtain ⟨s,h1,h2,h3⟩:=h;exact ⟨s,h1,Zny h2 hb,h3⟩
theorem Zer.zero (base:Nat) (w:World):Zer base w (.agg #[.bool false,.slice none 0 0]) (canI 0):=by
 rw [canI_zero];exact ⟨_,rfl,World.ownsRow_nil _ _ _ _,okD_nil⟩
theorem Zer.shape {base:Nat} {w:World} {v:Value} {a:RI} (h:Zer base w v a):∃A n c,v= .agg #[.bool a.neg,.slice A n c]:=by
 obtain ⟨A,n,c,hv,_⟩:=h.int.shape;exact ⟨A,n,c,hv⟩
theorem Znz {w w2:World} {base m g:Nat} {x y b s:Value} {a:RI} (hR:Bk w2 g 44 [x,y]) (d:Zer base w2 (.agg #[b,s]) a) (hbe:Below m w w2) (hg:m≤g):
 ∃v',Ending.returned (.agg [b,s].toArray)= .returned v'∧Zer base ((w2.setCell ⟨g,0,none⟩ b).setCell ⟨g,1,none⟩ s) v' a∧Below m w ((w2.setCell ⟨g,0,none⟩ b).setCell ⟨g,1,none⟩ s):=
 ⟨_,rfl,d.keep (hR.keep2 (by decide) _ _),Z5 hbe hg _ _⟩
theorem Zxr (neg:Bool) (v:Value) (ds:List Nat) (w:World) (h:ZL w v ds) (hs:(Zl (val ds)).length≤549755813888):
 Calls Tryz.prog 113 #[.bool neg,v] w fun e w'=>∃v',e= .returned v'∧Zer w.heap.size w' v' (canI (sm neg (val ds)))∧Below w.heap.size w w':=by
 have hR:=Bk.new w 44 [.bool false,.slice none 0 0];have d:=Zb w (.cells [.bool false,.slice none 0 0].toArray 44);have h':=h.below d;obtain ⟨i0,hi,p,q,r⟩:=info_parts info_u32;have HI:=JZ hi;have t:=JZ p;have u:=JZ q;have x:=JZ r;clear hi p q r;go_enter Tryz.func113,Tryz.ntmps113;go_wp2_with fail;generalize w.alloc _=W at *;refine (Y9 _ ds _ h').mono ?_;rintro e w1 ⟨v1,rfl,h1,rfl⟩;obtain ⟨A,n,c,rfl⟩:=h1.shape;obtain ⟨kl,s,z,kc⟩:=h1.len;obtain ⟨c0,c1,f0,f1⟩:=hR.two;rcases JV n with h0 | h0
 ·have hv:val ds=0:=X0 (by omega);subst h0;have HV:=JZ hv;clear hv kl s hs;go_wp2;refine Zn Tryz.results113 Tryz.underlying44 (by kernel_rfl) rfl (hR.set2 _ _) rfl ?_;exact ⟨_,rfl,by rw [HV.out,Zaw];exact Zer.zero _ _,Z5 d (JY _) _ _⟩
 ·have hv:val ds≠0:=Vx (by omega);have HV:=JZ hv;have HS:=JZ hs;obtain ⟨b,B,rfl,C,i⟩:=h1.at_ h0;clear hv i hs c0 c1 f0 f1;have m:(Zl (val ds)).length=n:=by omega
  have g:=JZ m;clear m kl s kc z;go_wp2_with (at_builtin;refine wpList_append_own_at _ rfl (.const (.slice none 0 0)) (.tmp 12) _ rfl w.heap.size 148 i0 _ 1 4 Tryz.underlying42 HI.out t.out u.out x.out rfl (by decide) (.slice none 0 0) 0 [] rfl ?c0 ⟨b,B,none⟩ n c ((Zl (val ds)).map uc) rfl ?c1 ?c2 (VT _) ?c3 ?c4 ?c5 ?_)
  case c0=>exact World.ownsRow_nil _ _ _ _
  case c1=>simp;exact g.out
  case c2=>exact h1.news
  case c3=>have:=HS.out;have:=g.out;unfold maxLen;omega
  case c4=>have:=HS.out;have:=g.out;omega
  case c5=>exact d.size
  ·intro v' w1 j a _ _;have f:w1.ownsRow w.heap.size 148 1 v' (Zl (val ds)).length ((Zl (val ds)).map uc):=(by have:=g.out;simpa [this] using j);have y:=WJ f (ZV (val ds));have l:=hR.grown a (by simp [Value.ownBlock]);have o:Below w.heap.size w w1:=d.grown a d.size (fun k hk=>by simp [Value.ownBlock] at hk);obtain ⟨A1,n1,k1,rfl⟩:=y.shape;obtain ⟨c0,c1,f0,f1⟩:=l.two;clear j a;go_wp2;refine Zn Tryz.results113 Tryz.underlying44 (by kernel_rfl) rfl (l.set2 _ _) rfl ?_;rw [Zlv _ _ HV.out];exact Znz l ⟨_,rfl,f,ZV _⟩ o (JY _)
theorem Zfm (v:Value) (a:RI) (w:World) (h:Yg w v a) (hs:(Zl (val a.ds)).length≤549755813888):
 Calls Tryz.prog 112 #[v] w fun e w'=>∃v',e= .returned v'∧Zer w.heap.size w' v' (canI a.z)∧Below w.heap.size w w':=by
 obtain ⟨A,n,c,rfl,hd⟩:=h.shape;obtain ⟨W,hW,hX,hR,b⟩:=Yfv w (.bool a.neg) (.slice A n c);have g:=hd.below b;obtain ⟨x0,x1,y0,y1⟩:=hX.two;go_enter Tryz.func112,Tryz.ntmps112;go_wp2_with fail;clear hW;refine (Zxr _ _ a.ds _ g hs).mono ?_;rw [← RI.z_eq];rintro e w1 ⟨v1,rfl,e1,f⟩;obtain ⟨A1,n1,k1,rfl⟩:=e1.shape;have d:=hR.later f;obtain ⟨c0,c1,f0,f1⟩:=d.two;go_wp2;refine Zn Tryz.results112 Tryz.underlying44 (by kernel_rfl) rfl (d.set2 _ _) rfl ?_;exact Znz d (e1.mono b.size) (Za b f b.size) (by omega)
end Go.Proofs.YtgbhebappffbdaaGreat
