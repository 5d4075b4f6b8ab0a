/- Lemmas of the claim; no condition. -/
import Derived.Test.YtncmobkhenfhpaaGreatE5
set_option linter.all false
set_option maxRecDepth 100000
set_option maxHeartbeats 40000000
namespace Go.Proofs.YtncmobkhenfhpaaGreat
open Go.RowKit
open Pl
attribute [local go_sem ↓] Go.wp_at_zero Go.wp_at_succ
section
namespace Pl
structure RF where
 num:RI
 den:RI
def RF.q (f:RF):Rat:=Rat.divInt f.num.z f.den.z
def canF (q:Rat):RF:=⟨canI q.num,canI (q.den:Int)⟩
theorem Zu (q:Rat):(canF q).q=q:=by
 simp only [RF.q,canF,ZL];exact Rat.num_divInt_den q
def RI.Sm (a:RI):Prop:=(Zo (val a.ds)).length≤68719476736
def RF.Sm (f:RF):Prop:=f.num.Sm∧f.den.Sm
end Pl
def Zt [Old] (w:World) (v:Value) (f:RF):Prop:=
 ∃A n c A' n' c',v= .agg #[.bool f.num.neg,.slice A n c,.bool f.den.neg,.slice A' n' c']∧ZQ w (.slice A n c) f.num.ds∧ZQ w (.slice A' n' c') f.den.ds
theorem Zt.keep [Old] {w w':World} {v:Value} {a:RF} (h:Zt w v a) (hk:ZG w w'):Zt w' v a:=by
 obtain ⟨A,n,c,A',n',c',h1,h2,h3⟩:=h;exact ⟨A,n,c,A',n',c',h1,h2.keep hk,h3.keep hk⟩
theorem Zt.below [Old] {w w':World} {v:Value} {a:RF} (h:Zt w v a) (hb:Below w.heap.size w w'):Zt w' v a:=h.keep (ZG.of_below hb)
theorem Zt.mk [Old] {w:World} {A A':Option Addr} {n n' c c':Nat} {x y:RI} (h1:Ym w (.agg #[.bool x.neg,.slice A n c]) x) (h2:Ym w (.agg #[.bool y.neg,.slice A' n' c']) y):
 Zt w (.agg #[.bool x.neg,.slice A n c,.bool y.neg,.slice A' n' c']) ⟨x,y⟩:=by
 obtain ⟨s,e,d⟩:=h1;obtain ⟨s',e',d'⟩:=h2;simp at e e';subst e e';exact ⟨_,_,_,_,_,_,rfl,d,d'⟩
section
variable {w:World} {g:Nat} {t:TypeId} {a b c d:Value}
theorem Bk.four (h:Bk w g t [a,b,c,d]):(w.cell? ⟨g,0,none⟩=some a∧w.cell? ⟨g,1,none⟩=some b∧w.cell? ⟨g,2,none⟩=some c∧w.cell? ⟨g,3,none⟩=some d):=⟨h.cellAt 0 rfl,h.cellAt 1 rfl,h.cellAt 2 rfl,h.cellAt 3 rfl⟩
theorem Bk.fourF (h:Bk w g t [a,b,c,d]):(w.frozen? ⟨g,0,none⟩=false∧w.frozen? ⟨g,1,none⟩=false∧w.frozen? ⟨g,2,none⟩=false∧w.frozen? ⟨g,3,none⟩=false):=⟨h.frozen 0,h.frozen 1,h.frozen 2,h.frozen 3⟩
end
namespace Pl
def okw (z:Int):Prop:= -2147483648 < z∧z < 2147483648
end Pl
def Zho (a:RI) (w:World) (e:Ending) (w':World):Prop:=∃(z:Int) (ok:Bool),e= .returned (.tuple #[.int .i64 z,.bool ok])∧(ok=true→z=a.z∧okw z)∧Below w.heap.size w w'
theorem Zae [Old] (v:Value) (a:RI) (w:World) (h:Ym w v a) (hOl:Zb w:=by (repeat (first | assumption | exact Zb.up (by assumption) hOl | exact Zb.up (Hid.out (by assumption)) hOl | with_reducible refine Zb.set ?_ _ _ | with_reducible refine Zb.mk_ ?_ _ | with_reducible refine Zb.dr ?_ | with_reducible refine Zb.drN ?_ | refine Zb.up (by assumption) ?_ | refine Zb.up (Hid.out (by assumption)) ?_))):
 Calls Tryz.prog 162 #[v] w (Zho a w):=by
 have l:=hOl.le;obtain ⟨A,n,c,rfl,hd⟩:=h.shape;obtain ⟨f,ds⟩:=a;simp only at hd ⊢;have hX:=Bk.new w 46 [.bool f,.slice A n c];have e:=Zc w (.cells [.bool f,.slice A n c].toArray 46);have j:=hd.below e;obtain ⟨hl,i,m,hc⟩:=hd.len;rcases JX 1 n with h1 | h1
 ·clear hl i;go_enter Tryz.func162,Tryz.ntmps162;go_wp2;go_ret2;exact ⟨_,_,rfl,by simp,e⟩
 ·rcases JV n with h0 | h0
  ·subst h0;have hz:RI.z ⟨f,ds⟩=0:=by
    obtain rfl:ds=[]:=List.length_eq_zero_iff.1 (by omega);rw [RI.z_eq];simp [val,sm]
   have HZ:=JZ hz;clear hl i hz;go_enter Tryz.func162,Tryz.ntmps162;go_wp2;go_ret2;exact ⟨_,_,rfl,fun _=>⟨HZ.out.symm,by simp [okw]⟩,e⟩
  ·obtain rfl:n=1:=by omega
   obtain ⟨b,o,rfl,_,g⟩:=j.at_ (by omega);have k:=g 0 (by omega);rw [Nat.add_zero] at k;have y0:=Zr ds 0;have y1:=Yk hd.ok 0;have hv:(val ds:Int)=di ds 0:=by
    obtain ⟨d,rfl⟩:∃d,ds=[d]:=List.length_eq_one_iff.1 (by omega);simp [val,di,dg]
   have hz:RI.z ⟨f,ds⟩=if f then - di ds 0 else di ds 0:=by rw [← hv];rfl
   have HZ:=JZ hz;clear hl i hz g hv;generalize di ds 0=z0 at *;rcases Int.lt_or_le z0 2147483648 with h2 | h2
   ·cases f
    ·go_enter Tryz.func162,Tryz.ntmps162;go_wp2;go_ret2;exact ⟨z0,_,rfl,fun _=>⟨by rw [HZ.out];rfl,by simp [okw];omega⟩,e⟩
    ·go_enter Tryz.func162,Tryz.ntmps162;go_wp2;go_ret2;exact ⟨-z0,_,rfl,fun _=>⟨by rw [HZ.out];rfl,by simp [okw];omega⟩,e⟩
   ·go_enter Tryz.func162,Tryz.ntmps162;go_wp2;go_ret2;exact ⟨_,_,rfl,by simp,e⟩
namespace Pl
def okq (n d:Int) (q:Rat):Prop:=okw n∧0 < d∧d < 2147483648∧Rat.divInt n d=q
end Pl
def UC (a:RF) (w:World) (e:Ending) (w':World):Prop:=∃(n d:Int) (ok:Bool),e= .returned (.tuple #[.agg #[.int .i64 n,.int .i64 d],.bool ok])∧(ok=true→okq n d a.q)∧Below w.heap.size w w'
theorem Zub (w:World) (x1 x2 x3 x4:Value):∃W,(w.alloc (.cells #[x1,x2,x3,x4] 48)).alloc (.cells #[.int .i64 0,.int .i64 0] 148)=W∧Bk W w.heap.size 48 [x1,x2,x3,x4]∧Bk W (w.heap.size+1) 148 [.int .i64 0,.int .i64 0]∧Below w.heap.size w W:=by
 refine ⟨_,rfl,(Bk.new w _ [x1,x2,x3,x4]).alloc _,?_,(Zc w _).alloc (by simp) _⟩;have:=Bk.new (w.alloc (.cells #[x1,x2,x3,x4] 48)) 148 [.int .i64 0,.int .i64 0]
 rwa [size_alloc] at this
theorem V3 {w W:World} {g:Nat} {x y:Value} {n d:Int} {ok:Bool} {a:RF} (hR:Bk W g 148 [x,y]) (hbe:Below w.heap.size w W) (hg:w.heap.size≤g) (h:ok=true→okq n d a.q):
 UC a w (.returned (.tuple #[.agg [.int .i64 n,.int .i64 d].toArray,.bool ok])) ((W.setCell ⟨g,0,none⟩ (.int .i64 n)).setCell ⟨g,1,none⟩ (.int .i64 d)):=
 ⟨n,d,ok,rfl,h,Ye hbe hg _ _⟩
theorem UD [Old] (v:Value) (a:RF) (w:World) (h:Zt w v a) (hOl:Zb w:=by (repeat (first | assumption | exact Zb.up (by assumption) hOl | exact Zb.up (Hid.out (by assumption)) hOl | with_reducible refine Zb.set ?_ _ _ | with_reducible refine Zb.mk_ ?_ _ | with_reducible refine Zb.dr ?_ | with_reducible refine Zb.drN ?_ | refine Zb.up (by assumption) ?_ | refine Zb.up (Hid.out (by assumption)) ?_))):
 Calls Tryz.prog 145 #[v] w (UC a w):=by
 have D:=hOl.le;obtain ⟨A,n,c,A',n',c',rfl,hd,s⟩:=h;obtain ⟨⟨l,ds⟩,⟨g,t⟩⟩:=a;simp only at hd s ⊢;obtain ⟨W,hW,hX,hR,j⟩:=Zub w (.bool l) (.slice A n c) (.bool g) (.slice A' n' c');have e1:Ym W (.agg #[.bool l,.slice A n c]) ⟨l,ds⟩:=⟨_,rfl,hd.below j⟩;have e2:Ym W (.agg #[.bool g,.slice A' n' c']) ⟨g,t⟩:=⟨_,rfl,s.below j⟩;obtain ⟨p1,p2,p3,p4⟩:=hX.four;go_enter Tryz.func145,Tryz.ntmps145;go_wp2_with fail;clear hW;refine (Zae _ ⟨g,t⟩ _ e2).mono ?_;rintro e w1 ⟨z,ok,rfl,hz,k⟩;have HZ:=JZ hz;have p:=hX.later k;have i:=hR.later k;have d:=Za j k j.size;have q:=e1.below k;clear hz hX hR j e1 e2 k p1 p2 p3 p4
 cases ok
 ·obtain ⟨c0,c1,f0,f1⟩:=i.two;go_wp2;refine YR Tryz.results145 Tryz.underlying148 (by kernel_rfl) rfl (i.set2 _ _) rfl ?_;exact V3 i d (by omega) (by simp)
 ·obtain ⟨u,B⟩:=HZ.out rfl;unfold okw at B;have m:=JZ u;obtain ⟨p1,p2,p3,p4⟩:=p.four;clear HZ u;go_wp2_with fail;refine (Zae _ ⟨l,ds⟩ _ q).mono ?_;rintro e w2 ⟨y,ok,rfl,hy,o⟩;have HY:=JZ hy;have b:=i.later o;have f:=Za d o d.size;clear hy p i d q o p1 p2 p3 p4;obtain ⟨c0,c1,f0,f1⟩:=b.two
  cases ok
  ·go_wp2;refine YR Tryz.results145 Tryz.underlying148 (by kernel_rfl) rfl (b.set2 _ _) rfl ?_;exact V3 b f (by omega) (by simp)
  ·obtain ⟨x,C⟩:=HY.out rfl;have r:=JZ x;unfold okw at C;clear HY x;rcases Int.lt_trichotomy z 0 with hz | hz | hz
   ·go_wp2;refine YR Tryz.results145 Tryz.underlying148 (by kernel_rfl) rfl (b.set2 _ _) rfl ?_;refine V3 b f (by omega) fun _=>⟨⟨by omega,by omega⟩,by omega,by omega,?_⟩
    show _=Rat.divInt (RI.z _) (RI.z _);rw [← r.out,← m.out,Rat.neg_divInt_neg]
   ·subst hz;go_wp2;refine YR Tryz.results145 Tryz.underlying148 (by kernel_rfl) rfl (b.set2 _ _) rfl ?_;refine V3 b f (by omega) fun _=>⟨⟨by omega,by omega⟩,by omega,by omega,?_⟩
    show _=Rat.divInt (RI.z _) (RI.z _);rw [← m.out,Rat.divInt_zero,Rat.zero_divInt]
   ·go_wp2;refine YR Tryz.results145 Tryz.underlying148 (by kernel_rfl) rfl (b.set2 _ _) rfl ?_;refine V3 b f (by omega) fun _=>⟨⟨by omega,by omega⟩,by omega,by omega,?_⟩
    show _=Rat.divInt (RI.z _) (RI.z _);rw [← r.out,← m.out]
end
theorem Bk.next {w W:World} {n:Nat} (h:W.heap.size=n) (t:TypeId) (cs:List Value) (_hb:Below w.heap.size w W):Bk (W.alloc (.cells cs.toArray t)) n t cs:=by
 have:=Bk.new W t cs
 rwa [h] at this
theorem Zju (w:World) (x1 x2 x3 x4 y1 y2 y3 y4:Value):∃W,(w.alloc (.cells #[x1,x2,x3,x4] 48)).alloc (.cells #[y1,y2,y3,y4] 48)=W∧W.heap.size=w.heap.size+1+1∧Bk W w.heap.size 48 [x1,x2,x3,x4]∧Bk W (w.heap.size+1) 48 [y1,y2,y3,y4]∧Below w.heap.size w W:=by
 refine ⟨_,rfl,by simp,(Bk.new w _ [x1,x2,x3,x4]).alloc _,?_,(Zc w _).alloc (by simp) _⟩;have:=Bk.new (w.alloc (.cells #[x1,x2,x3,x4] 48)) 48 [y1,y2,y3,y4]
 rwa [size_alloc] at this
theorem Yep (w:World) (x1 x2 x3 x4 y1 y2 y3 y4:Value):∃W,(((w.alloc (.cells #[x1,x2,x3,x4] 48)).alloc (.cells #[y1,y2,y3,y4] 48)).alloc (.cells #[.int .i64 0,.int .i64 0] 148)).alloc (.cells #[.int .i64 0,.int .i64 0] 148)=W∧Bk W w.heap.size 48 [x1,x2,x3,x4]∧Bk W (w.heap.size+1) 48 [y1,y2,y3,y4]∧
 Bk W (w.heap.size+1+1) 148 [.int .i64 0,.int .i64 0]∧Bk W (w.heap.size+1+1+1) 148 [.int .i64 0,.int .i64 0]∧Below w.heap.size w W:=by
 obtain ⟨W,hW,hs,h1,h2,hb⟩:=Zju w x1 x2 x3 x4 y1 y2 y3 y4;refine ⟨_,by rw [hW],(h1.alloc _).alloc _,(h2.alloc _).alloc _,(Bk.next hs _ _ hb).alloc _,?_,(hb.alloc hb.size _).alloc (hb.alloc hb.size _).size _⟩;have:=Bk.new (W.alloc (.cells #[.int .i64 0,.int .i64 0] 148)) 148 [.int .i64 0,.int .i64 0]
 rwa [size_alloc,hs] at this
def Zuc (a b:RF) (w:World) (e:Ending) (w':World):Prop:=∃(n d m k:Int) (ok:Bool),e= .returned (.tuple #[.agg #[.int .i64 n,.int .i64 d],.agg #[.int .i64 m,.int .i64 k],.bool ok])∧(ok=true→okq n d a.q∧okq m k b.q)∧Below w.heap.size w w'
theorem V4 [Old] (v1 v2:Value) (a b:RF) (w:World) (h1:Zt w v1 a) (h2:Zt w v2 b) (hOl:Zb w:=by (repeat (first | assumption | exact Zb.up (by assumption) hOl | exact Zb.up (Hid.out (by assumption)) hOl | with_reducible refine Zb.set ?_ _ _ | with_reducible refine Zb.mk_ ?_ _ | with_reducible refine Zb.dr ?_ | with_reducible refine Zb.drN ?_ | refine Zb.up (by assumption) ?_ | refine Zb.up (Hid.out (by assumption)) ?_))):
 Calls Tryz.prog 124 #[v1,v2] w (Zuc a b w):=by
 have Y:=hOl.le;obtain ⟨A,n,c,A',n',c',rfl,hd,O⟩:=h1;obtain ⟨B,m,d,B',m',d',rfl,ke,P⟩:=h2;obtain ⟨⟨D,ds⟩,⟨k,R⟩⟩:=a;obtain ⟨⟨E,es⟩,⟨l,S⟩⟩:=b;simp only at hd O ke P ⊢;obtain ⟨W,hW,hX,hY,hR,T,j⟩:=Yep w (.bool D) (.slice A n c) (.bool k) (.slice A' n' c') (.bool E) (.slice B m d) (.bool l) (.slice B' m' d');have e1:Zt W (.agg #[.bool D,.slice A n c,.bool k,.slice A' n' c']) ⟨⟨D,ds⟩,⟨k,R⟩⟩:=⟨_,_,_,_,_,_,rfl,hd.below j,O.below j⟩;have e2:Zt W (.agg #[.bool E,.slice B m d,.bool l,.slice B' m' d']) ⟨⟨E,es⟩,⟨l,S⟩⟩:=⟨_,_,_,_,_,_,rfl,ke.below j,P.below j⟩;obtain ⟨p1,p2,p3,p4⟩:=hX.four;go_enter Tryz.func124,Tryz.ntmps124;go_wp2_with fail;clear hW;refine (UD _ ⟨⟨D,ds⟩,⟨k,R⟩⟩ _ e1).mono ?_;rintro e w1 ⟨x,y,ok,rfl,hq,t⟩;have HQ:=JZ hq;have J:=hY.later t;have C:=hR.later t;have v:=T.later t;have G:=Za j t j.size;have K:=e2.below t;clear hq hX hY hR T j e1 e2 t p1 p2 p3 p4;have i:w.heap.size+1+1≠w.heap.size+1+1+1:=by omega
 have U:w.heap.size+1≠w.heap.size+1+1:=by omega
 obtain ⟨c0,c1,f0,f1⟩:=C.two;obtain ⟨p,q,r,s⟩:=v.two;have g:=C.set2 (.int .i64 x) (.int .i64 y);have f:=v.far2 i.symm (.int .i64 x) (.int .i64 y);have I:=J.far2 U (.int .i64 x) (.int .i64 y);have o:=Ye G (show w.heap.size≤w.heap.size+1+1 by omega) (.int .i64 x) (.int .i64 y);have L:=K.keep (C.keep2 (by decide) (.int .i64 x) (.int .i64 y));clear J C v G K
 cases ok
 ·go_wp2_with fail;clear c0 c1 f0 f1 p q r s;generalize (w1.setCell _ _).setCell _ _=W3 at *;obtain ⟨c0,c1,f0,f1⟩:=g.two;obtain ⟨p,q,r,s⟩:=f.two
  go_region_held3 (fun w'=>(w'.cell? ⟨w.heap.size+1+1,0,none⟩=some (.int .i64 x)∧w'.cell? ⟨w.heap.size+1+1,1,none⟩=some (.int .i64 y))∧(w'.cell? ⟨w.heap.size+1+1+1,0,none⟩=some (.int .i64 0)∧w'.cell? ⟨w.heap.size+1+1+1,1,none⟩=some (.int .i64 0)))
   (first | with_reducible exact ⟨g.pair,f.pair⟩ | with_reducible exact ⟨g.drew.pair,f.drew.pair⟩ | with_reducible exact ⟨(g.set2 _ _).drew.pair,(f.far2 i.symm _ _).drew.pair⟩ | with_reducible exact ⟨((g.set2 _ _).far2 i _ _).drew.pair,((f.far2 i.symm _ _).set2 _ _).drew.pair⟩)
   (fail)
  go_wp2;refine X5 Tryz.results124 Tryz.underlying148 Tryz.underlying148 (by kernel_rfl) (by kernel_rfl) rfl rfl ((g.set2 _ _).far2 i _ _).drew ((f.far2 i.symm _ _).set2 _ _).drew rfl ?_;exact ⟨_,_,_,_,_,rfl,by simp,(Ye (Ye o (by omega) _ _) (by omega) _ _).drew⟩
 ·have V:=I.four;go_wp2_with fail;clear c0 c1 f0 f1 p q r s V;generalize (w1.setCell _ _).setCell _ _=W3 at *;obtain ⟨p1,p2,p3,p4⟩:=I.four;refine (UD _ ⟨⟨E,es⟩,⟨l,S⟩⟩ _ L).mono ?_;rintro e w4 ⟨z,u,ok,rfl,hq,F⟩;have X:=JZ hq;have M:=g.later F;have H:=f.later F;have N:=Za o F o.size;clear hq I g f o L F p1 p2 p3 p4;obtain ⟨c0,c1,f0,f1⟩:=M.two;obtain ⟨p,q,r,s⟩:=H.two;have g:=M.far2 i (.int .i64 z) (.int .i64 u);have f:=H.set2 (.int .i64 z) (.int .i64 u);have o:=Ye N (show w.heap.size≤w.heap.size+1+1+1 by omega) (.int .i64 z) (.int .i64 u);go_wp2_with fail;clear c0 c1 f0 f1 p q r s;generalize (w4.setCell _ _).setCell _ _=W5 at *;obtain ⟨c0,c1,f0,f1⟩:=g.two;obtain ⟨p,q,r,s⟩:=f.two
  go_region_held3 (fun w'=>(w'.cell? ⟨w.heap.size+1+1,0,none⟩=some (.int .i64 x)∧w'.cell? ⟨w.heap.size+1+1,1,none⟩=some (.int .i64 y))∧(w'.cell? ⟨w.heap.size+1+1+1,0,none⟩=some (.int .i64 z)∧w'.cell? ⟨w.heap.size+1+1+1,1,none⟩=some (.int .i64 u)))
   (first | with_reducible exact ⟨g.pair,f.pair⟩ | with_reducible exact ⟨g.drew.pair,f.drew.pair⟩ | with_reducible exact ⟨(g.set2 _ _).drew.pair,(f.far2 i.symm _ _).drew.pair⟩ | with_reducible exact ⟨((g.set2 _ _).far2 i _ _).drew.pair,((f.far2 i.symm _ _).set2 _ _).drew.pair⟩)
   (fail)
  go_wp2;refine X5 Tryz.results124 Tryz.underlying148 Tryz.underlying148 (by kernel_rfl) (by kernel_rfl) rfl rfl ((g.set2 _ _).far2 i _ _).drew ((f.far2 i.symm _ _).set2 _ _).drew rfl ?_;exact ⟨_,_,_,_,ok,rfl,fun h=>⟨by simpa using HQ.out,X.out h⟩,(Ye (Ye o (by omega) _ _) (by omega) _ _).drew⟩
namespace Pl
theorem RI.Sm.canI_neg {a:RI} (h:a.Sm):(canI (-a.z)).Sm:=by
 unfold RI.Sm at h ⊢;simp only [canI,Zl,Int.natAbs_neg,Z5];exact h
theorem Wi {z:Int} (h0: -9223372036854775808≤z) (h1:z≤9223372036854775807):(canI z).Sm:=by
 unfold RI.Sm;simp only [canI,Zl];have:=Y2 (n:=z.natAbs) (k:=2) (by unfold B32;omega);omega
end Pl
theorem Ygv (w:World) (x1 x2 x3 x4:Value):∃W,((w.alloc (.cells #[x1,x2,x3,x4] 48)).alloc (.cells #[.bool false,.slice none 0 0] 46)).alloc (.cells #[.bool false,.slice none 0 0] 46)=W∧Bk W w.heap.size 48 [x1,x2,x3,x4]∧
 Bk W (w.heap.size+1) 46 [.bool false,.slice none 0 0]∧Bk W (w.heap.size+1+1) 46 [.bool false,.slice none 0 0]∧Below w.heap.size w W:=by
 refine ⟨_,rfl,((Bk.new w _ [x1,x2,x3,x4]).alloc _).alloc _,?_,?_,((Zc w _).alloc (by simp) _).alloc (by simp;omega) _⟩
 ·have:=Bk.new (w.alloc (.cells #[x1,x2,x3,x4] 48)) 46 [.bool false,.slice none 0 0];rw [size_alloc] at this;exact this.alloc _
 ·have:=Bk.new ((w.alloc (.cells #[x1,x2,x3,x4] 48)).alloc (.cells #[.bool false,.slice none 0 0] 46)) 46 [.bool false,.slice none 0 0]
  rwa [size_alloc,size_alloc] at this
def Zud [Old] (a:RF) (w:World) (e:Ending) (w':World):Prop:=
 ∃v1 v2 x y,e= .returned (.tuple #[v1,v2])∧Ym w' v1 x∧Ym w' v2 y∧0 < y.z∧Rat.divInt x.z y.z=a.q∧x.Sm∧y.Sm∧Below w.heap.size w w'
theorem Xk [Old] (v:Value) (a:RF) (w:World) (h:Zt w v a) (hs:a.Sm) (hOl:Zb w:=by (repeat (first | assumption | exact Zb.up (by assumption) hOl | exact Zb.up (Hid.out (by assumption)) hOl | with_reducible refine Zb.set ?_ _ _ | with_reducible refine Zb.mk_ ?_ _ | with_reducible refine Zb.dr ?_ | with_reducible refine Zb.drN ?_ | refine Zb.up (by assumption) ?_ | refine Zb.up (Hid.out (by assumption)) ?_))):
 Calls Tryz.prog 126 #[v] w (Zud a w):=by
 have M:=hOl.le;obtain ⟨A,n,c,A',n',c',rfl,hd,G⟩:=h;obtain ⟨⟨l,ds⟩,⟨b,q⟩⟩:=a;obtain ⟨t,u⟩:=hs;simp only at hd G ⊢;obtain ⟨W,hW,hX,hR,H,o⟩:=Ygv w (.bool l) (.slice A n c) (.bool b) (.slice A' n' c');have e1:Ym W (.agg #[.bool l,.slice A n c]) ⟨l,ds⟩:=⟨_,rfl,hd.below o⟩;have e2:Ym W (.agg #[.bool b,.slice A' n' c']) ⟨b,q⟩:=⟨_,rfl,G.below o⟩;obtain ⟨p1,p2,p3,p4⟩:=hX.four;go_enter Tryz.func126,Tryz.ntmps126;go_wp2_with fail;clear hW;refine (Ul _ ⟨b,q⟩ _ e2).mono ?_;rintro e w1 ⟨rfl,k⟩;have d:=hX.later k;have m:=hR.later k;have j:=H.later k;have g:=Za o k o.size;have y:=e1.below k;have B:=e2.below k;clear hX hR H o e1 e2 k p1 p2 p3 p4;have s:w.heap.size+1≠w.heap.size+1+1:=by omega
 have p:w.heap.size≠w.heap.size+1:=by omega
 have C:w.heap.size≠w.heap.size+1+1:=by omega
 obtain ⟨p1,p2,p3,p4⟩:=d.four;rcases Int.lt_trichotomy (RI.z ⟨b,q⟩) 0 with hz | hz | hz
 ·have HZ:=JZ hz;rw [VX hz];clear hz;go_wp2_with fail;have D:True:=trivial
  go_region_held3 (fun w'=>w'.cell? ⟨w.heap.size,0,none⟩=some (.bool l)∧w'.cell? ⟨w.heap.size,1,none⟩=some (.slice A n c)∧w'.cell? ⟨w.heap.size,2,none⟩=some (.bool b)∧w'.cell? ⟨w.heap.size,3,none⟩=some (.slice A' n' c'))
   (first | with_reducible exact d.four | with_reducible exact d.drew.four | with_reducible exact (d.drew.later f).four | with_reducible exact ((d.drew.later f).later i).four | with_reducible exact (((d.drew.later f).later i).far2 p _ _).four | with_reducible exact ((((d.drew.later f).later i).far2 p _ _).far2 C _ _).four)
   (first
    | (go_at_call 146;have _t:=D;refine (Un _ ⟨l,ds⟩ _ (y.keep (ZG.drew _)) (JW t (by decide))).mono ?_;clear D _t;rintro e w6 ⟨v6,rfl,e6,f⟩;obtain ⟨A6,n6,k6,rfl,_⟩:=e6.shape)
    | (go_at_call 146;refine (Un _ ⟨b,q⟩ _ ((B.keep (ZG.drew _)).below f) (JW u (by decide))).mono ?_;rintro e w7 ⟨v7,rfl,e7,i⟩;obtain ⟨A7,n7,k7,rfl,_⟩:=e7.shape;obtain ⟨c0,c1,f0,f1⟩:=((m.drew.later f).later i).two;obtain ⟨I,J,K,L⟩:=((j.drew.later f).later i).two))
  go_wp2;obtain ⟨a1,a2,a3,a4,a5⟩:=Y5 ((m.drew.later f).later i) ((j.drew.later f).later i) s (e6.below i) e7 (Za (Za g.drew f g.size) i (JW g.size f.size)) (by omega) (by omega);refine Ztx Tryz.results126 Tryz.underlying46 Tryz.underlying46 (by kernel_rfl) (by kernel_rfl) rfl rfl a1 a2 rfl ?_;refine ⟨_,_,_,_,rfl,a3,a4,?_,?_,RI.Sm.canI_neg t,RI.Sm.canI_neg u,a5⟩
  ·rw [ZL];have:=HZ.out;omega
  ·rw [ZL,ZL,Rat.neg_divInt_neg];rfl
 ·have HZ:=JZ hz;rw [hz,sgn_zero];clear hz;go_wp2_with fail;refine (YP 1 _ (by omega) (by omega)).mono ?_;rintro e w2 ⟨v2,rfl,e6,x⟩;obtain ⟨A2,n2,k2,rfl,_⟩:=e6.shape;have E:=m.later x;have r:=j.later x;have F:=Za g x g.size;obtain ⟨c0,c1,f0,f1⟩:=E.two;obtain ⟨I,J,K,L⟩:=r.two;go_wp2;obtain ⟨a1,a2,a3,a4,a5⟩:=Y5 E r s (Ym.zero w2) e6 F (by omega) (by omega);refine Ztx Tryz.results126 Tryz.underlying46 Tryz.underlying46 (by kernel_rfl) (by kernel_rfl) rfl rfl a1 a2 rfl ?_;refine ⟨_,_,_,_,rfl,a3,a4,?_,?_,Wi (by omega) (by omega),Wi (by omega) (by omega),a5⟩
  ·rw [ZL];omega
  ·rw [ZL,ZL,Rat.zero_divInt];show _=Rat.divInt (RI.z _) (RI.z _);rw [HZ.out,Rat.divInt_zero]
 ·have HZ:=JZ hz;rw [Vp hz];clear hz;obtain ⟨c0,c1,f0,f1⟩:=m.two;obtain ⟨I,J,K,L⟩:=j.two;go_wp2_with fail
  go_region_held3 (fun w'=>w'.cell? ⟨w.heap.size,0,none⟩=some (.bool l)∧w'.cell? ⟨w.heap.size,1,none⟩=some (.slice A n c)∧w'.cell? ⟨w.heap.size,2,none⟩=some (.bool b)∧w'.cell? ⟨w.heap.size,3,none⟩=some (.slice A' n' c'))
   (first | with_reducible exact d.four | with_reducible exact d.drew.four | with_reducible exact (d.far2 p _ _).drew.four | with_reducible exact ((d.far2 p _ _).far2 C _ _).drew.four)
   (fail)
  go_wp2;obtain ⟨a1,a2,a3,a4,a5⟩:=Y5 m j s y B g (by omega) (by omega);refine Ztx Tryz.results126 Tryz.underlying46 Tryz.underlying46 (by kernel_rfl) (by kernel_rfl) rfl rfl a1.drew a2.drew rfl ?_;exact ⟨_,_,_,_,rfl,a3.keep (ZG.drew _),a4.keep (ZG.drew _),HZ.out,rfl,t,u,a5.drew⟩
end Go.Proofs.YtncmobkhenfhpaaGreat
