/- Lemmas of the claim; no condition. -/
import Derived.Test.YtgbhebappffbdaaGreatW7
import Derived.Test.YtgbhebappffbdaaGreatW8
set_option linter.all false
set_option maxRecDepth 100000
set_option maxHeartbeats 40000000
namespace Go.Proofs.YtgbhebappffbdaaGreat
open Go.RowKit
open Pl
attribute [local go_sem ↓] Go.wp_at_zero Go.wp_at_succ
namespace Pl
structure Prf where
 st:Int
 x:List RF
 y:List RF
 ray:List RF
def shX (p:LPd) (x:Prf):Prop:=x.x.length=if x.st=2 then 0 else p.cols.length
def shY (p:LPd) (x:Prf):Prop:=x.y.length=if x.st=3 then 0 else p.right.length
def shR (p:LPd) (x:Prf):Prop:=x.ray.length=if x.st=3 then p.cols.length else 0
instance (p:LPd) (x:Prf):Decidable (shX p x):=by unfold shX;infer_instance
instance (p:LPd) (x:Prf):Decidable (shY p x):=by unfold shY;infer_instance
instance (p:LPd) (x:Prf):Decidable (shR p x):=by unfold shR;infer_instance
def shB (p:LPd) (x:Prf):Bool:=decide (shX p x) && (decide (shY p x) && decide (shR p x))
theorem Zsl {p:LPd} {x:Prf} (h:¬shX p x):shB p x=false:=by simp [shB,h]
theorem Zsm {p:LPd} {x:Prf} (h:¬shY p x):shB p x=false:=by simp [shB,h]
theorem Zsn {p:LPd} {x:Prf} (h:¬shR p x):shB p x=false:=by simp [shB,h]
theorem Zfg {p:LPd} {x:Prf} (h1:shX p x) (h2:shY p x) (h3:shR p x):shB p x=true:=by simp [shB,h1,h2,h3]
theorem Zuw {p:LPd} {x:Prf} (h:shB p x=true):shX p x∧shY p x∧shR p x:=by simpa [shB] using h
end Pl
def Zja (w:World) (v:Value) (x:Prf):Prop:=
 ∃A n c A' n' c' A'' n'' c'',v= .agg #[.int .i64 x.st,.slice A n c,.slice A' n' c',.slice A'' n'' c'']∧Y1 w (.slice A n c) x.x∧Y1 w (.slice A' n' c') x.y∧Y1 w (.slice A'' n'' c'') x.ray∧ -9223372036854775808≤x.st∧x.st≤9223372036854775807
theorem Zja.below {w w':World} {v:Value} {x:Prf} (h:Zja w v x) (hb:Below w.heap.size w w'):Zja w' v x:=by
 obtain ⟨A,n,c,A',n',c',a,b,d,h1,h2,h3,h4,h5,h6⟩:=h;exact ⟨A,n,c,A',n',c',a,b,d,h1,h2.below hb,h3.below hb,h4.below hb,h5,h6⟩
theorem XZ (w:World) (x y z u:Value):∃W,w.alloc (.cells #[x,y,z,u] 33)=W∧Bk W w.heap.size 33 [x,y,z,u]∧Below w.heap.size w W:=⟨_,rfl,Bk.new w _ [x,y,z,u],Zi w _⟩
theorem Ya {P:Program} {ops:Array Oper} {Q:Exit→Act→World→Prop} {S:World→Prop} {n:Nat} {o:Oper} {i:Nat} {is:List Nat} {a:Act} {w:World} (ho:ops[i]? =some o) (hf:XG ops n i=false) (hw:Region.wanted o (yielded ops a.tmps)=false) (hS:S w) (h:XP P ops Q S n is (a.put o.dst undef) w):XP P ops Q S n (i::is) a w:=by
 refine Zf ho hf fun K hK=>?_
 rw [if_neg (by rw [hw];simp)];exact hK _ _ (.inr hS) h
theorem Yfm (v1 v2:Value) (p:LPd) (x:Prf) (w:World) (h:LpM w v1 p) (h2:Zja w v2 x) (hst:x.st=1):
 Calls Tryz.prog 58 #[v1,v2] w fun e w'=>e= .returned (.bool (shB p x))∧Below w.heap.size w w':=by
 obtain ⟨A,n,c,A',N,c',z,m,C,rfl,hc,hv,hr⟩:=id h;obtain ⟨B,lx,d,B',ly,d',D,lr,E,rfl,q,r,s,s1,s2⟩:=id h2;rw [hst];obtain ⟨W,hW,hX,b⟩:=Yc w (.slice A n c) (.slice A' N c') (.slice z m C);obtain ⟨W1,G,hY,f⟩:=XZ W (.int .i64 1) (.slice B lx d) (.slice B' ly d') (.slice D lr E);have hX:=hX.later f;have g:=Za b f b.size;have y:W.heap.size=w.heap.size+1:=by rw [← hW];simp
 rw [y] at hY;obtain ⟨x0,x1,x2⟩:=hX.three;obtain ⟨y0,y1,y2,y3⟩:=hY.four;obtain ⟨m1,m2,m3⟩:=hv.len;obtain ⟨r1,r2,r3⟩:=hr.len;obtain ⟨k1,k2,k3⟩:=hc.len;obtain ⟨t,H,I⟩:=q.len;obtain ⟨u,J,K⟩:=r.len;obtain ⟨v,L,M⟩:=s.len;have i:=JZ m1;have j:=JZ r1;have F:=JZ k1;have k:=JZ t;have l:=JZ u;have o:=JZ v;clear m1 r1 k1 t u v b f;have a:=JZ hst;clear hst h h2 hc hv hr q r s;by_cases h0:lx=N;rotate_left
 ·have e0:((lx:Int)==(N:Int))=false:=by simp;omega
  have HR:Hid (shB p x=false):=JZ (Zsl (p:=p) (x:=x) (by unfold shX;rw [a.out,← k.out,← i.out];simpa using h0));clear h0;go_enter Tryz.func58,Tryz.ntmps58;go_wp2;go_ret;exact ⟨ZM HR.out,g⟩
 have e0:((lx:Int)==(N:Int))=true:=by simp;omega
 have H0:=JZ h0;clear h0;by_cases h1:ly=m;rotate_left
 ·have e1:((ly:Int)==(m:Int))=false:=by simp;omega
  have HR:Hid (shB p x=false):=JZ (Zsm (p:=p) (x:=x) (by unfold shY;rw [a.out,← l.out,← j.out];simpa using h1));clear h1;go_enter Tryz.func58,Tryz.ntmps58;go_wp2;go_ret;exact ⟨ZM HR.out,g⟩
 have e1:((ly:Int)==(m:Int))=true:=by simp;omega
 have H1:=JZ h1;clear h1;by_cases h2:lr=0;rotate_left
 ·have e2:((lr:Int)==(0:Int))=false:=by simp;omega
  have HR:Hid (shB p x=false):=JZ (Zsn (p:=p) (x:=x) (by unfold shR;rw [a.out,← o.out,← i.out];simpa using h2));clear h2;go_enter Tryz.func58,Tryz.ntmps58;go_wp2;go_ret;exact ⟨ZM HR.out,g⟩
 have e2:((lr:Int)==(0:Int))=true:=by simp;omega
 have H2:=JZ h2;clear h2;have HR:Hid (shB p x=true):=JZ (Zfg (by unfold shX;rw [a.out,← k.out,← i.out];simpa using H0.out) (by unfold shY;rw [a.out,← l.out,← j.out];simpa using H1.out) (by unfold shR;rw [a.out,← o.out,← i.out];simpa using H2.out));clear H0 H1 H2;go_enter Tryz.func58,Tryz.ntmps58;go_wp2;go_ret;exact ⟨ZM HR.out,g⟩
theorem Yfn (v1 v2:Value) (p:LPd) (x:Prf) (w:World) (h:LpM w v1 p) (h2:Zja w v2 x) (hst:x.st=2):
 Calls Tryz.prog 58 #[v1,v2] w fun e w'=>e= .returned (.bool (shB p x))∧Below w.heap.size w w':=by
 obtain ⟨A,n,c,A',N,c',z,m,C,rfl,hc,hv,hr⟩:=id h;obtain ⟨B,lx,d,B',ly,d',D,lr,E,rfl,q,r,s,s1,s2⟩:=id h2;rw [hst];obtain ⟨W,hW,hX,b⟩:=Yc w (.slice A n c) (.slice A' N c') (.slice z m C);obtain ⟨W1,G,hY,f⟩:=XZ W (.int .i64 2) (.slice B lx d) (.slice B' ly d') (.slice D lr E);have hX:=hX.later f;have g:=Za b f b.size;have y:W.heap.size=w.heap.size+1:=by rw [← hW];simp
 rw [y] at hY;obtain ⟨x0,x1,x2⟩:=hX.three;obtain ⟨y0,y1,y2,y3⟩:=hY.four;obtain ⟨m1,m2,m3⟩:=hv.len;obtain ⟨r1,r2,r3⟩:=hr.len;obtain ⟨k1,k2,k3⟩:=hc.len;obtain ⟨t,H,I⟩:=q.len;obtain ⟨u,J,K⟩:=r.len;obtain ⟨v,L,M⟩:=s.len;have i:=JZ m1;have j:=JZ r1;have F:=JZ k1;have k:=JZ t;have l:=JZ u;have o:=JZ v;clear m1 r1 k1 t u v b f;have a:=JZ hst;clear hst h h2 hc hv hr q r s;by_cases h0:lx=0;rotate_left
 ·have e0:((lx:Int)==(0:Int))=false:=by simp;omega
  have HR:Hid (shB p x=false):=JZ (Zsl (p:=p) (x:=x) (by unfold shX;rw [a.out,← k.out,← i.out];simpa using h0));clear h0;go_enter Tryz.func58,Tryz.ntmps58;go_wp2;go_ret;exact ⟨ZM HR.out,g⟩
 have e0:((lx:Int)==(0:Int))=true:=by simp;omega
 have H0:=JZ h0;clear h0;by_cases h1:ly=m;rotate_left
 ·have e1:((ly:Int)==(m:Int))=false:=by simp;omega
  have HR:Hid (shB p x=false):=JZ (Zsm (p:=p) (x:=x) (by unfold shY;rw [a.out,← l.out,← j.out];simpa using h1));clear h1;go_enter Tryz.func58,Tryz.ntmps58;go_wp2;go_ret;exact ⟨ZM HR.out,g⟩
 have e1:((ly:Int)==(m:Int))=true:=by simp;omega
 have H1:=JZ h1;clear h1;by_cases h2:lr=0;rotate_left
 ·have e2:((lr:Int)==(0:Int))=false:=by simp;omega
  have HR:Hid (shB p x=false):=JZ (Zsn (p:=p) (x:=x) (by unfold shR;rw [a.out,← o.out,← i.out];simpa using h2));clear h2;go_enter Tryz.func58,Tryz.ntmps58;go_wp2;go_ret;exact ⟨ZM HR.out,g⟩
 have e2:((lr:Int)==(0:Int))=true:=by simp;omega
 have H2:=JZ h2;clear h2;have HR:Hid (shB p x=true):=JZ (Zfg (by unfold shX;rw [a.out,← k.out,← i.out];simpa using H0.out) (by unfold shY;rw [a.out,← l.out,← j.out];simpa using H1.out) (by unfold shR;rw [a.out,← o.out,← i.out];simpa using H2.out));clear H0 H1 H2;go_enter Tryz.func58,Tryz.ntmps58;go_wp2;go_ret;exact ⟨ZM HR.out,g⟩
theorem Yfo (v1 v2:Value) (p:LPd) (x:Prf) (w:World) (h:LpM w v1 p) (h2:Zja w v2 x) (hst:x.st=3):
 Calls Tryz.prog 58 #[v1,v2] w fun e w'=>e= .returned (.bool (shB p x))∧Below w.heap.size w w':=by
 obtain ⟨A,n,c,A',N,c',z,m,C,rfl,hc,hv,hr⟩:=id h;obtain ⟨B,lx,d,B',ly,d',D,lr,E,rfl,q,r,s,s1,s2⟩:=id h2;rw [hst];obtain ⟨W,hW,hX,b⟩:=Yc w (.slice A n c) (.slice A' N c') (.slice z m C);obtain ⟨W1,G,hY,f⟩:=XZ W (.int .i64 3) (.slice B lx d) (.slice B' ly d') (.slice D lr E);have hX:=hX.later f;have g:=Za b f b.size;have y:W.heap.size=w.heap.size+1:=by rw [← hW];simp
 rw [y] at hY;obtain ⟨x0,x1,x2⟩:=hX.three;obtain ⟨y0,y1,y2,y3⟩:=hY.four;obtain ⟨m1,m2,m3⟩:=hv.len;obtain ⟨r1,r2,r3⟩:=hr.len;obtain ⟨k1,k2,k3⟩:=hc.len;obtain ⟨t,H,I⟩:=q.len;obtain ⟨u,J,K⟩:=r.len;obtain ⟨v,L,M⟩:=s.len;have i:=JZ m1;have j:=JZ r1;have F:=JZ k1;have k:=JZ t;have l:=JZ u;have o:=JZ v;clear m1 r1 k1 t u v b f;have a:=JZ hst;clear hst h h2 hc hv hr q r s;by_cases h0:lx=N;rotate_left
 ·have e0:((lx:Int)==(N:Int))=false:=by simp;omega
  have HR:Hid (shB p x=false):=JZ (Zsl (p:=p) (x:=x) (by unfold shX;rw [a.out,← k.out,← i.out];simpa using h0));clear h0;go_enter Tryz.func58,Tryz.ntmps58;go_wp2;go_ret;exact ⟨ZM HR.out,g⟩
 have e0:((lx:Int)==(N:Int))=true:=by simp;omega
 have H0:=JZ h0;clear h0;by_cases h1:ly=0;rotate_left
 ·have e1:((ly:Int)==(0:Int))=false:=by simp;omega
  have HR:Hid (shB p x=false):=JZ (Zsm (p:=p) (x:=x) (by unfold shY;rw [a.out,← l.out,← j.out];simpa using h1));clear h1;go_enter Tryz.func58,Tryz.ntmps58;go_wp2;go_ret;exact ⟨ZM HR.out,g⟩
 have e1:((ly:Int)==(0:Int))=true:=by simp;omega
 have H1:=JZ h1;clear h1;by_cases h2:lr=N;rotate_left
 ·have e2:((lr:Int)==(N:Int))=false:=by simp;omega
  have HR:Hid (shB p x=false):=JZ (Zsn (p:=p) (x:=x) (by unfold shR;rw [a.out,← o.out,← i.out];simpa using h2));clear h2;go_enter Tryz.func58,Tryz.ntmps58;go_wp2;go_ret;exact ⟨ZM HR.out,g⟩
 have e2:((lr:Int)==(N:Int))=true:=by simp;omega
 have H2:=JZ h2;clear h2;have HR:Hid (shB p x=true):=JZ (Zfg (by unfold shX;rw [a.out,← k.out,← i.out];simpa using H0.out) (by unfold shY;rw [a.out,← l.out,← j.out];simpa using H1.out) (by unfold shR;rw [a.out,← o.out,← i.out];simpa using H2.out));clear H0 H1 H2;go_enter Tryz.func58,Tryz.ntmps58;go_wp2;go_ret;exact ⟨ZM HR.out,g⟩
namespace Pl
def Zmy (p:LPd) (ys:List RF) (k:Nat):Prop:=∀j,j < k→Zgf ys (p.col (j:Int)) p.right.length≤0
instance (p:LPd) (ys:List RF) (k:Nat):Decidable (Zmy p ys k):=by unfold Zmy;infer_instance
theorem Zxk (p:LPd) (ys:List RF):Zmy p ys 0:=fun j h=>by omega
theorem Zxl {p:LPd} {ys:List RF} {k:Nat} (h:Zmy p ys k) (h1:Zgf ys (p.col (k:Int)) p.right.length≤0):Zmy p ys (k+1):=fun j hj=>by
 rcases Nat.eq_or_lt_of_le (Nat.le_of_lt_succ hj) with e | e
 ·subst e;exact h1
 ·exact h j e
def Zgm (p:LPd) (x:Prf):Bool:=Zgh p x.y && (VW p x.x && (qs (Xv x.y p.right p.right.length - Xv p.cost x.x p.cols.length)==0))
def Zjb (p:LPd) (x:Prf):Bool:=decide (Zmy p x.y p.cols.length) && decide (0 < qs (Xv x.y p.right p.right.length))
def Zfh (p:LPd) (x:Prf):Bool:=VW p x.x && (nnB x.ray && (Zdr p.right.length (Ym p x.ray p.cols.length) [] && decide (qs (Xv p.cost x.ray p.cols.length) < 0)))
def holdB (p:LPd) (x:Prf):Bool:=if x.st=1 then Zgm p x else if x.st=2 then Zjb p x else Zfh p x
end Pl
theorem Ykk (v1 v2:Value) (p:LPd) (x:Prf) (K:Nat) (w:World) (h:LpM w v1 p) (h2:Zja w v2 x) (ok:p.Ok K) (hkx:RsL K x.x) (hky:RsL K x.y) (hkr:RsL K x.ray) (hK:1≤K) (hz:lpErr p=0) (hcl:∀(j:Nat) (c:List En),p.cols[j]? =some c→c.length≤64) (hs:1+1201 * (2 * K+1)≤34359738368) (hst:x.st=1) (hl1:x.x.length=p.cols.length) (hl2:x.y.length=p.right.length):
 Calls Tryz.prog 59 #[v1,v2] w fun e w'=>e= .returned (.bool (Zgm p x))∧Below w.heap.size w w':=by
 obtain ⟨A,n,c,A',N,c',a5,m,a6,rfl,hc,hv,hr⟩:=id h;obtain ⟨B,lx,d,B',ly,d',a7,lr,a8,rfl,v,J,a9,s1,s2⟩:=id h2;rw [hst];obtain ⟨W,hW,hX,o⟩:=Yc w (.slice A n c) (.slice A' N c') (.slice a5 m a6);obtain ⟨W1,aa,hY,a⟩:=XZ W (.int .i64 1) (.slice B lx d) (.slice B' ly d') (.slice a7 lr a8);have hX:=hX.later a;have k:=Za o a o.size;have z:W.heap.size=w.heap.size+1:=by rw [← hW];simp
 rw [z] at hY;obtain ⟨x0,x1,x2⟩:=hX.three;obtain ⟨y0,y1,y2,y3⟩:=hY.four;obtain ⟨m1,m2,m3⟩:=hv.len;obtain ⟨r1,r2,r3⟩:=hr.len;obtain ⟨k1,k2,k3⟩:=hc.len;obtain ⟨L,ap,aq⟩:=v.len;obtain ⟨M,ar,au⟩:=J.len;obtain ⟨O,av,aw⟩:=a9.len;have af:=JZ m1;have ag:=JZ r1;have ah:=JZ k1;have ai:=JZ L;have aj:=JZ M;have ak:=JZ O;clear m1 r1 k1 L M O o a;have l:=JZ ok;have HZ:=JZ hz;have T:=JZ hcl;have t:=JZ hkx;have C:=JZ hky;have al:=JZ hkr;have am:2 * K≤34359738368:=by omega
 have D:Hid (1+64 * (2 * K+1)≤34359738368):=JZ (by omega);have HS:=JZ hs;clear hst hcl ok hz hkx hky hkr h2 hs;have U:=JZ hl1;have an:=JZ hl2;clear hl1 hl2;obtain ⟨z1,z2,z3,z4,z5⟩:=YU HZ.out;have u:=JZ z3;clear z3 z4 z5;go_enter Tryz.func59,Tryz.ntmps59;go_wp2_with fail;clear hW aa z x0 x1 x2 y0 y1 y2 y3;refine (YJ _ _ p x.y K _ (h.below k) (J.below k) l.out C.out hK T.out D.out).mono ?_;rintro _ w1 ⟨v1,rfl,e1,s⟩;obtain ⟨Bl,ll,dl,P,R,S,rfl,_,_⟩:=id e1;have E:=hX.later s;have F:=hY.later s;have a:=Za k s k.size;clear hX hY k s
 cases hlb:Zgh p x.y
 ·have HR:Hid (Zgm p x=false):=JZ (by simp [Zgm,hlb]);rw [Zmn hlb] at e1 ⊢;clear hlb e1;go_wp2_with fail;have g:=Zj (w1.alloc (.cells #[.bool zeroF.num.neg,.slice Bl ll dl,.bool zeroF.den.neg,.slice P R S] 46));have f:=Za (Za a (Zi w1 _) a.size) g (by simp;have:=a.size;omega);refine Zn 18 [0,1,2,3,4,5,6,7,8,9,10,11,12,13,14,15,16,17] (by kernel_rfl) (by kernel_rfl) ?_;repeat ((first|(first|refine Zb (v:=?_) rfl rfl rfl ?_ ?_ |refine Zd (v:=?_) rfl rfl rfl ?_ ?_);rotate_left;·(intro _ _;go_simp;(try go_bits);(try with_reducible rfl))|refine Ze rfl rfl rfl ?_ |refine skC rfl rfl rfl ?_);(try simp only [py]))
  refine Zv ?_;go_wp2;go_ret;exact ⟨ZM HR.out,f⟩
 ·have ao:=JZ (Zor hlb);rw [Zdx hlb] at e1 ⊢;have V:=JZ hlb;clear hlb;have G:=JZ e1;clear e1;have X:RsL K p.right:=l.out.2.1;have Y:Hid ((canF (Xv x.y p.right p.right.length)).Sm):=JZ (((Zfx C.out X hK).mono (by have:=D.out;have:=JS (2 * K+1) z1;omega:1+p.right.length * (2 * K+1)≤34359738368)).rs.sm (JY _));have Z:=JZ (Zr (Xv x.y p.right p.right.length));generalize canF (Xv x.y p.right p.right.length)=LF at *;obtain ⟨W2,ab,hL,q⟩:=YR w1 (.bool LF.num.neg) (.slice Bl ll dl) (.bool LF.den.neg) (.slice P R S);have a0:=E.later q;have a1:=F.later q;have b:=Za a q a.size;have a2:=G.out.below q;obtain ⟨x0,x1,x2⟩:=a0.three;obtain ⟨y0,y1,y2,y3⟩:=a1.four;obtain ⟨l0,l1,l2,l3⟩:=hL.four;clear E F a q G;go_wp2_with fail;clear ab;have C0:=Zl x0;have C1:=Zl x1;have C2:=Zl x2;have D0:=Zl y0;have D1:=Zl y1;have D2:=Zl y2;have D3:=Zl y3;have E0:=Zl l0;have E1:=Zl l1;have E2:=Zl l2;have E3:=Zl l3;have g:=Zj W2;clear x0 x1 x2 y0 y1 y2 y3 l0 l1 l2 l3;refine Zn 18 [0,1,2,3,4,5,6,7,8,9,10,11,12,13,14,15,16,17] (by kernel_rfl) (by kernel_rfl) ?_;repeat ((first|(first|refine Zb (v:=?_) rfl rfl rfl ?_ ?_ |refine Zd (v:=?_) rfl rfl rfl ?_ ?_);rotate_left;·(intro _ _;go_simp;(try go_bits);(try with_reducible rfl))|refine Ze rfl rfl rfl ?_ |refine skC rfl rfl rfl ?_);(try simp only [py]))
  refine Zf rfl rfl (fun _ kq=>?_);go_simp;with_reducible refine (Zae _ _ p x.x K _ ((h.below b).below g) ((v.below b).below g) l.out t.out hK HZ.out HS.out).mono ?_
  rintro _ w3 ⟨rfl,ac⟩;have i:=Za g ac g.size;refine kq.out _ _ (.inr i) ?_;clear kq;(try simp only [py])
  cases hfb:VW p x.x
  ·have HR:Hid (Zgm p x=false):=JZ (by simp [Zgm,hfb]);clear hfb;repeat ((first|(first|refine Zb (v:=?_) rfl rfl rfl ?_ ?_ |refine Zd (v:=?_) rfl rfl rfl ?_ ?_);rotate_left;·(intro _ _;go_simp;(try go_bits);(try with_reducible rfl))|refine Ze rfl rfl rfl ?_ |refine skC rfl rfl rfl ?_);(try simp only [py]))
   refine Zv ?_;clear C0 C1 C2 D0 D1 D2 D3 E0 E1 E2 E3;have f:=Za b i b.size;go_wp2;go_ret;exact ⟨ZM HR.out,f⟩
  ·have HR:Hid (Zgm p x=(qs (Xv x.y p.right p.right.length - Xv p.cost x.x p.cols.length)==0)):=JZ (by simp [Zgm,hfb,V.out]);have H:1+p.cost.length * (2 * K+1)≤34359738368:=by
    rw [u.out];have:=HS.out;have:=JS (2 * K+1) z2;omega
   have a3:RsL K p.cost:=l.out.1;have a4:Hid ((canF (Xv p.cost x.x p.cost.length)).Sm):=JZ (((Zfx l.out.1 t.out hK).mono H).rs.sm (JY _));clear hfb;repeat ((first|(first|refine Zb (v:=?_) rfl rfl rfl ?_ ?_ |refine Zd (v:=?_) rfl rfl rfl ?_ ?_);rotate_left;·(intro _ _;go_simp;(try go_bits);(try with_reducible rfl))|refine Ze rfl rfl rfl ?_ |refine skC rfl rfl rfl ?_);(try simp only [py]))
   refine Zf rfl rfl (fun _ kq=>?_);go_simp;(with_reducible refine (Uu _ _ p.cost x.x K _ ((hc.below b).below i) ((v.below b).below i) (by rw [u.out,U.out];exact JY _) hK a3 t.out H (by omega)).mono ?_);rintro _ w4 ⟨v4,rfl,e4,ad⟩;have r:=Za i ad i.size;refine kq.out _ _ (.inr r) ?_;clear kq;(try simp only [py]);repeat ((first|(first|refine Zb (v:=?_) rfl rfl rfl ?_ ?_ |refine Zd (v:=?_) rfl rfl rfl ?_ ?_);rotate_left;·(intro _ _;go_simp;(try go_bits);(try with_reducible rfl))|refine Ze rfl rfl rfl ?_ |refine skC rfl rfl rfl ?_);(try simp only [py]))
   refine Zf rfl rfl (fun _ kq=>?_);go_simp;(with_reducible refine (UZ _ _ LF _ _ (a2.below r) e4 Y.out a4.out).mono ?_);rw [Zr,Z.out,u.out];generalize qs (Xv x.y p.right p.right.length - Xv p.cost x.x p.cols.length)=sD at *;rintro _ w5 ⟨rfl,ae⟩;have I:=Za r ae r.size;refine kq.out _ _ (.inr I) ?_;clear kq;(try simp only [py]);repeat ((first|(first|refine Zb (v:=?_) rfl rfl rfl ?_ ?_ |refine Zd (v:=?_) rfl rfl rfl ?_ ?_);rotate_left;·(intro _ _;go_simp;(try go_bits);(try with_reducible rfl))|refine Ze rfl rfl rfl ?_ |refine skC rfl rfl rfl ?_);(try simp only [py]))
   refine Zv ?_;clear C0 C1 C2 D0 D1 D2 D3 E0 E1 E2 E3;have f:=Za b I b.size;go_wp2;go_ret;exact ⟨ZM HR.out,f⟩
theorem Ykl (v1 v2:Value) (p:LPd) (x:Prf) (K:Nat) (w:World) (h:LpM w v1 p) (h2:Zja w v2 x) (ok:p.Ok K) (hkx:RsL K x.x) (hky:RsL K x.y) (hkr:RsL K x.ray) (hK:1≤K) (hz:lpErr p=0) (hcl:∀(j:Nat) (c:List En),p.cols[j]? =some c→c.length≤64) (hs:1+1201 * (2 * K+1)≤34359738368) (hst:x.st=2) (hl2:x.y.length=p.right.length):
 Calls Tryz.prog 59 #[v1,v2] w fun e w'=>e= .returned (.bool (Zjb p x))∧Below w.heap.size w w':=by
 obtain ⟨A,n,c,A',N,c',R,m,S,rfl,hc,hv,hr⟩:=id h;obtain ⟨B,lx,d,B',ly,d',T,lr,U,rfl,a8,F,a9,s1,s2⟩:=id h2;rw [hst];obtain ⟨W,hW,hX,r⟩:=Yc w (.slice A n c) (.slice A' N c') (.slice R m S);obtain ⟨W1,aa,hY,s⟩:=XZ W (.int .i64 2) (.slice B lx d) (.slice B' ly d') (.slice T lr U);have hX:=hX.later s;have a:=Za r s r.size;have G:W.heap.size=w.heap.size+1:=by rw [← hW];simp
 rw [G] at hY;obtain ⟨x0,x1,x2⟩:=hX.three;obtain ⟨y0,y1,y2,y3⟩:=hY.four;obtain ⟨m1,m2,m3⟩:=hv.len;obtain ⟨r1,r2,r3⟩:=hr.len;obtain ⟨k1,k2,k3⟩:=hc.len;obtain ⟨V,ak,al⟩:=a8.len;obtain ⟨X,am,an⟩:=F.len;obtain ⟨Y,ao,ap⟩:=a9.len;have E:=JZ m1;have ac:=JZ r1;have ad:=JZ k1;have ae:=JZ V;have af:=JZ X;have ag:=JZ Y;clear m1 r1 k1 V X Y r s;have H:=JZ ok;have HZ:=JZ hz;have a1:=JZ hcl;have ah:=JZ hkx;have I:=JZ hky;have ai:=JZ hkr;have a2:2 * K≤34359738368:=by omega
 have J:Hid (1+64 * (2 * K+1)≤34359738368):=JZ (by omega);have HS:=JZ hs;clear hst hcl ok hz hkx hky hkr h2 hs;have u:=JZ hl2;clear hl2;go_enter Tryz.func59,Tryz.ntmps59;go_wp2;clear hW aa G x0 x1 x2 y0 y1 y2 y3
 go_loopw [43] (fun i wr=>∃j:Nat,j≤N∧i= .int .i64 j∧Below w.heap.size w wr∧Bk wr w.heap.size 26 [.slice A n c,.slice A' N c',.slice R m S]∧Bk wr (w.heap.size+1) 33 [.int .i64 2,.slice B lx d,.slice B' ly d',.slice T lr U]∧Zmy p x.y j) (fun i _=>N - (intOf i).toNat)
 case atStart=>exact ⟨0,by omega,rfl,a,hX,hY,Zxk _ _⟩
 case round=>
  clear a hX hY;obtain ⟨j,hj,rfl,a,hX,hY,C⟩:=hrel;have z:=JZ C;clear C;obtain ⟨z1,z2,z3,z4,z5⟩:=YU HZ.out;obtain ⟨x0,x1,x2⟩:=hX.three;obtain ⟨y0,y1,y2,y3⟩:=hY.four;rcases JX j N with hjl | hjl
  ·obtain ⟨es,f⟩:=Xm (cs:=p.cols) (i:=j) (by rw [← E.out];exact hjl);obtain ⟨bc,ab,Ac,cc,rfl,Z,o,a0⟩:=hv.elem (JR _ _) f;have v:=Zk a o;have L:inR x.y.length es:=(by rw [u.out];exact z4 j es f);have M:=(H.out.2.2 j es f).2;have O:1+es.length * (2 * K+1)≤34359738368:=by
    have:=J.out;have:=JS (2 * K+1) (a1.out j es f);omega
   have P:Hid (V9 es x.y es.length=Zgf x.y (p.col (j:Int)) p.right.length):=JZ (by rw [LPd.col_pos f];exact Zkp (z4 j es f) (z5 j es f).2);have aj:(j:Int) < N:=(by omega);clear z1 z2 z3 z4 z5 f Z;go_wp2_with fail;refine (Zop _ _ es x.y K _ (a0.below a) (F.below a) L hK M I.out O (by omega)).mono ?_;rintro _ w2 ⟨v2,rfl,e2,k⟩;go_wp2_with fail;refine (ZA _ _ _ e2).mono ?_;rw [Zr,P.out];generalize hD:Zgf x.y (p.col (j:Int)) p.right.length=D;have HD:=JZ hD;clear hD P;rintro _ w3 ⟨rfl,t⟩;have b:=Za k t k.size;have a3:=hX.later b;have a4:=hY.later b;have l:=Za a b a.size;clear hX hY a k t b x0 x1 x2 y0 y1 y2 y3 o v e2 O M L a2 a0;by_cases q:D≤0
   ·have a5:qs D≤0:=Ymg.2 q;have a6:=JZ (Zxl z.out (by rw [HD.out];exact q));clear q;generalize qs D=sD at *;go_wp2;go_roundw
    case rel=>exact ⟨j+1,by omega,by go_num,l,a3,a4,a6.out⟩
    case measure=>simp [intOf];omega
   ·have a5:0 < qs D:=Int.not_le.1 fun g=>q (Ymg.1 g)
    have HR:Hid (Zjb p x=false):=JZ (by
     have:¬Zmy p x.y p.cols.length:=fun g=>q (by rw [← HD.out];exact g j (by rw [← E.out];exact hjl))
     simp [Zjb,this])
    clear q;generalize qs D=sD at *;go_wp2;go_ret;exact ⟨ZM HR.out,l⟩
  ·obtain rfl:j=N:=by omega
   have HR:Hid (Zjb p x=decide (0 < qs (Xv x.y p.right p.right.length))):=JZ (by
    have:Zmy p x.y p.cols.length:=by rw [← E.out];exact z.out
    simp [Zjb,this])
   have a7:1+x.y.length * (2 * K+1)≤34359738368:=by
    rw [u.out];have:=J.out;have:=JS (2 * K+1) z1;omega
   clear z1 z2 z3 z4 z5;go_wp2_with fail;refine (Uu _ _ x.y p.right K _ (F.below a) (hr.below a) (by rw [u.out];exact JY _) hK I.out H.out.2.1 a7 (by omega)).mono ?_;rw [u.out];rintro _ w2 ⟨v2,rfl,e2,k⟩;go_wp2_with fail;refine (ZA _ _ _ e2).mono ?_;rw [Zr];generalize qs (Xv x.y p.right p.right.length)=sD at *;rintro _ w3 ⟨rfl,t⟩;have b:=Za k t k.size;have l:=Za a b a.size;clear hX hY a k t b x0 x1 x2 y0 y1 y2 y3 e2;go_wp2;go_ret;exact ⟨ZM HR.out,l⟩
theorem Ykm (v1 v2:Value) (p:LPd) (x:Prf) (K:Nat) (w:World) (h:LpM w v1 p) (h2:Zja w v2 x) (ok:p.Ok K) (hkx:RsL K x.x) (hky:RsL K x.y) (hkr:RsL K x.ray) (hK:1≤K) (hz:lpErr p=0) (hcl:∀(j:Nat) (c:List En),p.cols[j]? =some c→c.length≤64) (hs:1+1201 * (2 * K+1)≤34359738368) (hst:x.st=3) (hl1:x.x.length=p.cols.length) (hl3:x.ray.length=p.cols.length):
 Calls Tryz.prog 59 #[v1,v2] w fun e w'=>e= .returned (.bool (Zfh p x))∧Below w.heap.size w w':=by
 obtain ⟨A,n,c,A',N,c',a7,m,a8,rfl,hc,hv,hr⟩:=id h;obtain ⟨B,lx,d,B',ly,d',a9,lr,aa,rfl,U,ab,t,s1,s2⟩:=id h2;rw [hst];obtain ⟨W,hW,hX,o⟩:=Yc w (.slice A n c) (.slice A' N c') (.slice a7 m a8);obtain ⟨W1,ac,hY,b⟩:=XZ W (.int .i64 3) (.slice B lx d) (.slice B' ly d') (.slice a9 lr aa);have hX:=hX.later b;have z:=Za o b o.size;have I:W.heap.size=w.heap.size+1:=by rw [← hW];simp
 rw [I] at hY;obtain ⟨x0,x1,x2⟩:=hX.three;obtain ⟨y0,y1,y2,y3⟩:=hY.four;obtain ⟨m1,m2,m3⟩:=hv.len;obtain ⟨r1,r2,r3⟩:=hr.len;obtain ⟨k1,k2,k3⟩:=hc.len;obtain ⟨V,an,ao⟩:=U.len;obtain ⟨X,ap,aq⟩:=ab.len;obtain ⟨Y,ar,au⟩:=t.len;have a0:=JZ m1;have J:=JZ r1;have ad:=JZ k1;have ae:=JZ V;have af:=JZ X;have ag:=JZ Y;clear m1 r1 k1 V X Y o b;have C:=JZ ok;have HZ:=JZ hz;have ah:=JZ hcl;have a1:=JZ hkx;have ai:=JZ hky;have L:=JZ hkr;have aj:2 * K≤34359738368:=by omega
 have ak:Hid (1+64 * (2 * K+1)≤34359738368):=JZ (by omega);have HS:=JZ hs;clear hst hcl ok hz hkx hky hkr h2 hs;have al:=JZ hl1;have D:=JZ hl3;clear hl1 hl3;obtain ⟨z1,z2,z3,z4,z5⟩:=YU HZ.out;have E:=JZ z3;have a2:1+(p.cols.length+1) * (2 * K+1)≤34359738368:=by
  have:=HS.out;have:=JS (2 * K+1) (show p.cols.length+1≤1201 by omega);omega
 have am:m≤64:=by rw [J.out];exact z1
 have a3:=XF m (by omega);have M:=ZU.zeros W1 m (by unfold maxLen;omega);have s:=Zi W1 (.cells (zfc m) 46);have k:=hX.later s;have l:=hY.later s;have a:=Za z s z.size;obtain ⟨p0,p1,p2⟩:=k.three;obtain ⟨q0,q1,q2,q3⟩:=l.four;clear z1 z3 z4 z5 s;go_enter Tryz.func59,Tryz.ntmps59;go_wp2_with fail;clear hW ac I x0 x1 x2 y0 y1 y2 y3 a3 hX hY p0 p1 p2 q0 q1 q2 q3 z;generalize W1.alloc (.cells (zfc m) 46)=W3 at *;refine (Zae _ _ p x.x K _ (h.below a) (U.below a) C.out a1.out hK HZ.out HS.out).mono ?_;rintro _ w1 ⟨rfl,q⟩;have F:=k.later q;have G:=l.later q;have O:=M.below q;have b:=Za a q a.size;obtain ⟨x0,x1,x2⟩:=F.three;obtain ⟨y0,y1,y2,y3⟩:=G.four;clear k l M q a
 cases hfb:VW p x.x
 ·have HR:Hid (Zfh p x=false):=JZ (by simp [Zfh,hfb]);clear hfb;go_wp2;go_ret;exact ⟨ZM HR.out,b⟩
 have a4:=JZ hfb;clear hfb;go_wp2_with fail;refine (Zkn _ x.ray N _ (t.below b) (by omega)).mono ?_;rw [decide_eq_true (show x.ray.length=N by rw [D.out,a0.out]),Bool.true_and];rintro _ w2 ⟨rfl,r⟩;have k:=F.later r;have l:=G.later r;have P:=O.below r;have a:=Za b r b.size;clear x0 x1 x2 y0 y1 y2 y3 F G O r b;obtain ⟨x0,x1,x2⟩:=k.three;obtain ⟨y0,y1,y2,y3⟩:=l.four
 cases hnn:nnB x.ray
 ·have HR:Hid (Zfh p x=false):=JZ (by simp [Zfh,hnn]);clear hnn;go_wp2;go_ret;exact ⟨ZM HR.out,a⟩
 have a5:=JZ hnn;clear hnn;go_wp2_with fail;refine (Zgb _ _ _ p x.ray (List.replicate m zeroF) K _ (h.below a) (t.below a) P.frs C.out L.out (Zid _ _) hK HZ.out D.out (by rw [List.length_replicate,J.out];exact JY _) a2 (by omega)).mono ?_;rw [show Zdr p.right.length (Ym p x.ray p.cols.length) (List.replicate m zeroF)=Zdr p.right.length (Ym p x.ray p.cols.length) [] from by unfold Zdr;apply decide_eq_decide.2;constructor <;> (intro g i hi;rw [g i hi,Zoq];simp [qAt])];rintro _ w3 ⟨rfl,u⟩;have R:=k.later u;have S:=l.later u;have f:=Za a u a.size;clear x0 x1 x2 y0 y1 y2 y3 k l P u a;obtain ⟨x0,x1,x2⟩:=R.three;obtain ⟨y0,y1,y2,y3⟩:=S.four
 cases hcb:Zdr p.right.length (Ym p x.ray p.cols.length) []
 ·have HR:Hid (Zfh p x=false):=JZ (by simp [Zfh,hcb]);clear hcb;go_wp2;go_ret;exact ⟨ZM HR.out,f⟩
 have HR:Hid (Zfh p x=decide (qs (Xv p.cost x.ray p.cols.length) < 0)):=JZ (by simp [Zfh,hcb,a5.out,a4.out]);have a6:1+p.cost.length * (2 * K+1)≤34359738368:=by
  rw [E.out];have:=HS.out;have:=JS (2 * K+1) z2;omega
 clear hcb;go_wp2_with fail;refine (Uu _ _ p.cost x.ray K _ (hc.below f) (t.below f) (by rw [E.out,D.out];exact JY _) hK C.out.1 L.out a6 (by omega)).mono ?_;rw [E.out];rintro _ w4 ⟨v4,rfl,e4,H⟩;go_wp2_with fail;refine (ZA _ _ _ e4).mono ?_;rw [Zr];generalize qs (Xv p.cost x.ray p.cols.length)=sD at *;rintro _ w5 ⟨rfl,Z⟩;have v:=Za H Z H.size;have T:=Za f v f.size;clear R S f H Z v x0 x1 x2 y0 y1 y2 y3 e4;go_wp2;go_ret;exact ⟨ZM HR.out,T⟩
namespace Pl
def Znm (p:LPd) (x:Prf):Int:=if lpErr p≠0 then lpErr p else if x.st < 1∨3 < x.st then 5 else if shB p x=false then 12 else if holdB p x=false then 24 else 0
theorem Ymn {p:LPd} {x:Prf} (h:lpErr p≠0):Znm p x=lpErr p:=by unfold Znm;rw [if_pos h]
theorem Ymo {p:LPd} {x:Prf} (h:lpErr p=0) (h2:x.st < 1∨3 < x.st):Znm p x=5:=by unfold Znm;rw [if_neg (by simpa using h),if_pos h2]
theorem Ymp {p:LPd} {x:Prf} (h:lpErr p=0) (h2:¬(x.st < 1∨3 < x.st)) (h3:shB p x=false):Znm p x=12:=by unfold Znm;rw [if_neg (by simpa using h),if_neg h2,if_pos h3]
theorem Yhl {p:LPd} {x:Prf} (h:lpErr p=0) (h2:¬(x.st < 1∨3 < x.st)) (h3:shB p x=true) (h4:holdB p x=false):Znm p x=24:=by unfold Znm;rw [if_neg (by simpa using h),if_neg h2,if_neg (by simp [h3]),if_pos h4]
theorem Zpq {p:LPd} {x:Prf} (h:lpErr p=0) (h2:¬(x.st < 1∨3 < x.st)) (h3:shB p x=true) (h4:holdB p x=true):Znm p x=0:=by unfold Znm;rw [if_neg (by simpa using h),if_neg h2,if_neg (by simp [h3]),if_neg (by simp [h4])]
end Pl
theorem Zxm (v1 v2:Value) (p:LPd) (x:Prf) (w:World) (h:LpM w v1 p) (h2:Zja w v2 x) (hst:¬(x.st < 1∨3 < x.st)):
 Calls Tryz.prog 58 #[v1,v2] w fun e w'=>e= .returned (.bool (shB p x))∧Below w.heap.size w w':=by
 have:x.st=1∨x.st=2∨x.st=3:=by omega
 rcases this with e | e | e
 ·exact Yfm v1 v2 p x w h h2 e
 ·exact Yfn v1 v2 p x w h h2 e
 ·exact Yfo v1 v2 p x w h h2 e
theorem Ybk (v1 v2:Value) (p:LPd) (x:Prf) (K:Nat) (w:World) (h:LpM w v1 p) (h2:Zja w v2 x) (ok:p.Ok K) (hkx:RsL K x.x) (hky:RsL K x.y) (hkr:RsL K x.ray) (hK:1≤K) (hz:lpErr p=0) (hcl:∀(j:Nat) (c:List En),p.cols[j]? =some c→c.length≤64) (hs:1+1201 * (2 * K+1)≤34359738368) (hst:¬(x.st < 1∨3 < x.st)) (hsh:shB p x=true):
 Calls Tryz.prog 59 #[v1,v2] w fun e w'=>e= .returned (.bool (holdB p x))∧Below w.heap.size w w':=by
 obtain ⟨s1,s2,s3⟩:=Zuw hsh;unfold shX at s1;unfold shY at s2;unfold shR at s3;have:x.st=1∨x.st=2∨x.st=3:=by omega
 unfold holdB;rcases this with e | e | e
 ·rw [if_pos e];rw [if_neg (by omega)] at s1 s2;exact Ykk v1 v2 p x K w h h2 ok hkx hky hkr hK hz hcl hs e s1 s2
 ·rw [if_neg (by omega),if_pos e];rw [if_neg (by omega)] at s2;exact Ykl v1 v2 p x K w h h2 ok hkx hky hkr hK hz hcl hs e s2
 ·rw [if_neg (by omega),if_neg (by omega)];rw [if_neg (by omega)] at s1;rw [if_pos e] at s3;exact Ykm v1 v2 p x K w h h2 ok hkx hky hkr hK hz hcl hs e s1 s3
theorem Yn {a b:Int} (h:b=a):Ending.returned (.int .i64 a)= .returned (.int .i64 b):=by rw [h]
theorem Zla (v1 v2:Value) (p:LPd) (x:Prf) (K:Nat) (w:World) (h:LpM w v1 p) (h2:Zja w v2 x) (ok:p.Ok K) (hkx:RsL K x.x) (hky:RsL K x.y) (hkr:RsL K x.ray) (hK:1≤K) (hcl:∀(j:Nat) (c:List En),p.cols[j]? =some c→c.length≤64) (hs:1+1201 * (2 * K+1)≤34359738368):
 Calls Tryz.prog 22 #[v1,v2] w fun e w'=>e= .returned (.int .i64 (Znm p x))∧Below w.heap.size w w':=by
 obtain ⟨A,n,c,A',N,c',U,m,V,rfl,hc,hv,hr⟩:=id h;obtain ⟨B,lx,d,B',ly,d',X,lr,Y,rfl,E,F,G,s1,s2⟩:=id h2;obtain ⟨W,hW,hX,g⟩:=Yc w (.slice A n c) (.slice A' N c') (.slice U m V);obtain ⟨W1,Z,hY,a⟩:=XZ W (.int .i64 x.st) (.slice B lx d) (.slice B' ly d') (.slice X lr Y);have hX:=hX.later a;have i:=Za g a g.size;have v:W.heap.size=w.heap.size+1:=by rw [← hW];simp
 rw [v] at hY;obtain ⟨x0,x1,x2⟩:=hX.three;obtain ⟨y0,y1,y2,y3⟩:=hY.four;obtain ⟨m1,m2,m3⟩:=hv.len;obtain ⟨r1,r2,r3⟩:=hr.len;obtain ⟨k1,k2,k3⟩:=hc.len;obtain ⟨H,a0,a1⟩:=E.len;obtain ⟨I,a2,a3⟩:=F.len;obtain ⟨J,a4,a5⟩:=G.len;have a6:=JZ m1;have a7:=JZ r1;have a8:=JZ k1;have a9:=JZ H;have aa:=JZ I;have ab:=JZ J;clear m1 r1 k1 H I J g a;have z:=JZ ok;have M:=JZ hcl;have O:=JZ hkx;have P:=JZ hky;have R:=JZ hkr;clear ok hcl hkx hky hkr hc hv hr E F G a0 a1 a2 a3 a4 a5 m2 m3 r2 r3 k2 k3;go_enter Tryz.func22,Tryz.ntmps22;go_wp2_with fail;clear hW Z v x0 x1 x2 y0 y1 y2 y3;refine (VK _ p K _ (h.below i) z.out).mono ?_;rintro _ w1 ⟨rfl,k⟩;have r:=hX.later k;have t:=hY.later k;have a:=Za i k i.size;clear hX hY i k;by_cases hz:lpErr p=0;rotate_left
 ·have ac:(lpErr p !=0)=true:=by simpa using hz
  have HR:=JZ (Ymn (x:=x) hz);clear hz;generalize lpErr p=le at *;go_wp2;go_ret;exact ⟨Yn HR.out,a⟩
 have HZ:=JZ hz;rw [hz];clear hz;obtain ⟨y0,y1,y2,y3⟩:=t.four;obtain ⟨x0,x1,x2⟩:=r.three;by_cases o:x.st < 1∨3 < x.st
 ·have HR:=JZ (Ymo HZ.out o);have n1:(x.st !=1)=true:=by simp;omega
  have n2:(x.st !=2)=true:=by simp;omega
  have n3:(x.st !=3)=true:=by simp;omega
  clear o;go_wp2;go_ret;exact ⟨Yn HR.out,a⟩
 have f:=JZ o;have S:∀s:Int,x.st=s→(s=1∨s=2∨s=3)→(s !=1)=true∨(s !=1)=false:=fun s _ _=>by cases (s !=1) <;> simp
 clear S;have T:x.st=1∨x.st=2∨x.st=3:=by omega
 clear o;rcases T with e | e | e
 case' inl=>
  have n1:(x.st !=1)=false:=by simp [e]
 case' inr.inl=>
  have n1:(x.st !=1)=true:=by simp [e]
  have n2:(x.st !=2)=false:=by simp [e]
 case' inr.inr=>
  have n1:(x.st !=1)=true:=by simp [e]
  have n2:(x.st !=2)=true:=by simp [e]
  have n3:(x.st !=3)=false:=by simp [e]
 all_goals
  clear e;go_wp2_with fail;clear x0 x1 x2 y0 y1 y2 y3;refine (Zxm _ _ p x _ (h.below a) (h2.below a) f.out).mono ?_;rintro _ w2 ⟨rfl,l⟩;have C:=r.later l;have D:=t.later l;have b:=Za a l a.size;clear r t a l
  cases hsh:shB p x
  ·have HR:=JZ (Ymp HZ.out f.out hsh);clear hsh;go_wp2;go_ret;exact ⟨Yn HR.out,b⟩
  ·have u:=JZ hsh;clear hsh;obtain ⟨y0,y1,y2,y3⟩:=D.four;obtain ⟨x0,x1,x2⟩:=C.three;go_wp2_with fail;clear x0 x1 x2 y0 y1 y2 y3;refine (Ybk _ _ p x K _ (h.below b) (h2.below b) z.out O.out P.out R.out hK HZ.out M.out hs f.out u.out).mono ?_;rintro _ w3 ⟨rfl,L⟩;have q:=Za b L b.size;clear C D b L
   cases hho:holdB p x
   ·have HR:=JZ (Yhl HZ.out f.out u.out hho);clear hho;go_wp2;go_ret;exact ⟨Yn HR.out,q⟩
   ·have HR:=JZ (Zpq HZ.out f.out u.out hho);clear hho;go_wp2;go_ret;exact ⟨Yn HR.out,q⟩
section
namespace Pl
def kI (z:Int):RF:=canF (z:Rat)
theorem Yhm (z:Int):(kI z).q=(z:Rat):=Zr _
theorem Zjz {z:Int} (h: -4294967296 < z) (h2:z < 4294967296):(kI z).Rs 1:=(Zoz h h2).rs
def kp:LPd:=⟨[kI 0],[[⟨0,kI 1⟩]],[kI (-1)]⟩
theorem Zfi (f:RF):qAt [f] 0=f.q:=rfl
theorem kp_err:lpErr kp=0:=by
 have h1:(kI 1).q≠0:=by rw [Yhm];decide
 unfold lpErr kp;simp [XE,vecErr,Zaw,leP,h1]
theorem Zeb {k:Nat} {f:RF} (h:f.Rs k):RsL k [f]:=fun i g hg=>by
 match i,hg with
 | 0,hg=>simp at hg;subst hg;exact h
theorem Zso {K:Nat} (hK:1≤K):kp.Ok K:=by
 refine ⟨Zeb ((Zjz (by decide) (by decide)).mono hK),Zeb ((Zjz (by decide) (by decide)).mono hK),fun j c hc=>?_⟩
 match j,hc with
 | 0,hc=>
  simp [kp] at hc;subst hc;refine ⟨fun k e he=>?_,fun k e he=>?_⟩
  ·match k,he with
   | 0,he=>simp at he;subst he;decide
  ·match k,he with
   | 0,he=>simp at he;subst he;exact (Zjz (by decide) (by decide)).mono hK
theorem kp_len:∀(j:Nat) (c:List En),kp.cols[j]? =some c→c.length≤64:=fun j c hc=>by
 match j,hc with
 | 0,hc=>simp [kp] at hc;subst hc;decide
theorem Yhn (i:Nat):kp.col ((0:Nat):Int) i=if i=0 then 1 else 0:=by
 rw [Zmr];show dQ [⟨0,kI 1⟩] (fun _=>0) i=_;simp only [dQ,Yhm];by_cases h:i=0
 ·subst h;rfl
 ·rw [if_neg (show ¬(0:Int)=(i:Int) by omega),if_neg h]
theorem Ybl (z:Int):Zgf [kI z] (kp.col ((0:Nat):Int)) kp.right.length=(z:Rat):=by
 show 0+qAt [kI z] 0 * kp.col ((0:Nat):Int) 0=_;rw [Yhn,Zfi,Yhm];simp;grind
theorem Zux (z:Int):Xv [kI z] kp.right kp.right.length=((-z:Int):Rat):=by
 show 0+qAt [kI z] 0 * qAt [kI (-1)] 0=_;rw [Zfi,Zfi,Yhm,Yhm,Rat.intCast_neg];grind
theorem kp_ver1:Znm kp ⟨2,[],[kI (-1)],[]⟩=0:=by
 refine Zpq kp_err (by decide) (by decide) ?_;unfold holdB Zjb;simp only [if_neg (show ¬(2:Int)=1 by decide),if_true];rw [Bool.and_eq_true];refine ⟨decide_eq_true fun j hj=>?_,?_⟩
 ·obtain rfl:j=0:=by have:kp.cols.length=1:=rfl;omega
  rw [Ybl];decide
 ·rw [Zux];decide
theorem kp_ver2:Znm kp ⟨2,[],[kI 1],[]⟩=24:=by
 refine Yhl kp_err (by decide) (by decide) ?_;unfold holdB Zjb;simp only [if_neg (show ¬(2:Int)=1 by decide),if_true];rw [Bool.and_eq_false_iff];refine .inl (decide_eq_false fun g=>?_);have:=g 0 (by decide);rw [Ybl] at this;exact absurd this (by decide)
theorem kp_low:Zgh kp [kI (-2)]=true:=by
 refine Yaf kp_err rfl fun j hj=>?_
 obtain rfl:j=0:=by have:kp.cols.length=1:=rfl;omega
 rw [Ybl];show _≤qAt [kI 0] 0;rw [Zfi,Yhm];decide
theorem kp_lowF:Zmm kp [kI (-2)]=kI 2:=by
 rw [Zdx kp_low,Zux];rfl
theorem kp_feas:VW kp [kI 1]=false:=by
 rw [Zuq kp_err,Bool.and_eq_false_iff];refine .inr (Zie (i:=0) (by decide) ?_);show 0+qAt [kI 1] 0 * kp.col ((0:Nat):Int) 0≠qAt [kI (-1)] 0;rw [Yhn,Zfi,Zfi,Yhm,Yhm,if_pos rfl,Rat.mul_one,Rat.zero_add];decide
end Pl
section
variable {w:World} {g:Nat}
theorem Y1.one {b b':Bool} {A A':Option Addr} {n c n' c':Nat} {f:RF} (hB:Bk w g 46 [.bool b,.slice A n c,.bool b',.slice A' n' c']) (h:Zw w (.agg #[.bool b,.slice A n c,.bool b',.slice A' n' c']) f):Y1 w (.slice (some ⟨g,0,none⟩) 1 1) [f]:=by
 refine ⟨[.bool b,.slice A n c,.bool b',.slice A' n' c'],⟨_,1,rfl,rfl,JY _,by unfold maxLen;omega,fun _=>⟨g,0,_,_,rfl,hB,fun j u hj=>by simpa using hj⟩⟩,rfl,fun k f' hf=>?_⟩
 match k,hf with
 | 0,hf=>simp at hf;subst hf;exact ⟨_,_,_,_,rfl,rfl,rfl,rfl,h⟩
theorem V7.one {k:Int} {b b':Bool} {A A':Option Addr} {n c n' c':Nat} {f:RF} (hB:Bk w g 83 [.int .i64 k,.bool b,.slice A n c,.bool b',.slice A' n' c']) (h:Zw w (.agg #[.bool b,.slice A n c,.bool b',.slice A' n' c']) f):V7 w (.slice (some ⟨g,0,none⟩) 1 1) [⟨k,f⟩]:=by
 refine ⟨[.int .i64 k,.bool b,.slice A n c,.bool b',.slice A' n' c'],⟨_,1,rfl,rfl,JY _,by unfold maxLen;omega,fun _=>⟨g,0,_,_,rfl,hB,fun j u hj=>by simpa using hj⟩⟩,rfl,fun j f' hf=>?_⟩
 match j,hf with
 | 0,hf=>simp at hf;subst hf;exact ⟨_,_,_,_,rfl,rfl,rfl,rfl,rfl,h⟩
theorem XW.one {v:Value} {es:List En} (hB:Bk w g 66 [v]) (h:V7 w v es):XW w (.slice (some ⟨g,0,none⟩) 1 1) [es]:=by
 refine ⟨[v],⟨_,1,rfl,rfl,JY _,by unfold maxLen;omega,fun _=>⟨g,0,_,_,rfl,hB,fun j u hj=>by simpa using hj⟩⟩,fun j f' hf=>?_⟩
 match j,hf with
 | 0,hf=>simp at hf;subst hf;exact ⟨_,rfl,h⟩
theorem Y1.nil (w:World):Y1 w (.slice none 0 0) []:=⟨[],UD.nil w _ _ none 0 (by simp),FrC.nil w⟩
end
end
theorem Yod (w:World) (x:Value):∃W,w.alloc (.cells #[x] 66)=W∧Bk W w.heap.size 66 [x]∧Below w.heap.size w W:=⟨_,rfl,Bk.new w _ [x],Zi w _⟩
theorem Bk.drewB {w:World} {g:Nat} {t:TypeId} {cs:List Value} (_h:Bk w g t cs):Below w.heap.size w w.drew:=Zj w
def Zcj (U:World) (s4 s5:Value) (wx:World):Prop:=
 ∃g A n c A' n' c',s4= .pointer (some ⟨g,0,none⟩)∧s5= .bool true∧Bk wx g 46 [.bool (kI 2).num.neg,.slice A n c,.bool (kI 2).den.neg,.slice A' n' c']∧Zw wx (.agg #[.bool (kI 2).num.neg,.slice A n c,.bool (kI 2).den.neg,.slice A' n' c']) (kI 2)∧Below U.heap.size U wx
theorem Zcj.mk {U w:World} {g:Nat} {x y z u:Value} {A A':Option Addr} {n c n' c':Nat} (hB:Bk w g 46 [x,y,z,u]) (hF:Zw w (.agg #[.bool (kI 2).num.neg,.slice A n c,.bool (kI 2).den.neg,.slice A' n' c']) (kI 2)) (hb:Below U.heap.size U w) (hg:U.heap.size≤g):
 Zcj U (.pointer (some ⟨g,0,none⟩)) (.bool true) ((((w.setCell ⟨g,0,none⟩ (.bool (kI 2).num.neg)).setCell ⟨g,1,none⟩ (.slice A n c)).setCell ⟨g,2,none⟩ (.bool (kI 2).den.neg)).setCell ⟨g,3,none⟩ (.slice A' n' c')):=
 ⟨g,A,n,c,A',n',c',rfl,rfl,hB.set4 _ _ _ _,hF.keep (hB.keep4 (by decide) _ _ _ _),ZI hb hg _ _ _ _⟩
theorem Zpr (w:World):Calls Tryz.prog 13 #[] w fun e w'=>e= .returned (.bool true)∧Below w.heap.size w w':=by
 go_enter Tryz.func13,Tryz.ntmps13;go_wp2_with fail;refine (Yl (0) _ (by omega) (by omega)).mono ?_;rw [show canF ((0:Int):Rat)=kI (0) from rfl];rintro _ w1 ⟨v1,rfl,e1,J⟩;have T:=JZ e1.frac;clear e1;generalize b8:kI (0)=k1 at *;have bd:=JZ b8;clear b8;obtain ⟨A1,n1,c1,B1,m1,d1,rfl,_,_⟩:=id T.out;obtain ⟨U1,bs,b0,ag⟩:=YR w1 (.bool k1.num.neg) (.slice A1 n1 c1) (.bool k1.den.neg) (.slice B1 m1 d1);have U:=Za J ag J.size;go_wp2_with fail;clear bs;refine (Yl (1) _ (by omega) (by omega)).mono ?_;rw [show canF ((1:Int):Rat)=kI (1) from rfl];rintro _ w2 ⟨v2,rfl,e2,q⟩;have V:=JZ e2.frac;clear e2;generalize b9:kI (1)=k2 at *;have be:=JZ b9;clear b9;obtain ⟨A2,n2,c2,B2,m2,d2,rfl,_,_⟩:=id V.out;have X:=Za U q U.size;obtain ⟨U2,bt,b1,t⟩:=Zdo w2 (.int .i64 0) (.bool k2.num.neg) (.slice A2 n2 c2) (.bool k2.den.neg) (.slice B2 m2 d2);have Y:=Za X t X.size;obtain ⟨U3,bu,b2,j⟩:=Yod U2 (.slice (some ⟨w2.heap.size,0,none⟩) 1 1);have Z:=Za Y j Y.size;go_wp2_with fail;clear bt bu;refine (Yl (-1) _ (by omega) (by omega)).mono ?_;rw [show canF ((-1:Int):Rat)=kI (-1) from rfl];rintro _ w3 ⟨v3,rfl,e3,h⟩;have a0:=JZ e3.frac;clear e3;generalize ba:kI (-1)=k3 at *;have bf:=JZ ba;clear ba;obtain ⟨A3,n3,c3,B3,m3,d3,rfl,_,_⟩:=id a0.out;have a1:=Za Z h Z.size;obtain ⟨U4,bv,b3,s⟩:=YR w3 (.bool k3.num.neg) (.slice A3 n3 c3) (.bool k3.den.neg) (.slice B3 m3 d3);have a2:=Za a1 s a1.size;obtain ⟨U5,bw,hP,F⟩:=Yc U4 (.slice (some ⟨w1.heap.size,0,none⟩) 1 1) (.slice (some ⟨U2.heap.size,0,none⟩) 1 1) (.slice (some ⟨w3.heap.size,0,none⟩) 1 1);have a3:=Za a2 F a2.size;go_wp2_with fail;clear bv bw;have ah:=Za (Za (Za (Za (Za q t q.size) j (by have:=q.size;have:=t.size;omega)) h (by have:=q.size;have:=t.size;have:=j.size;omega)) s (by have:=q.size;have:=t.size;have:=j.size;have:=h.size;omega)) F (by have:=q.size;have:=t.size;have:=j.size;have:=h.size;have:=s.size;omega);have bg:=Za (Za (Za j h j.size) s (by have:=j.size;have:=h.size;omega)) F (by have:=j.size;have:=h.size;have:=s.size;omega);have ai:=Za (Za h s h.size) F (by have:=h.size;have:=s.size;omega);have hp:LpM U5 (.agg #[.slice (some ⟨w1.heap.size,0,none⟩) 1 1,.slice (some ⟨U2.heap.size,0,none⟩) 1 1,.slice (some ⟨w3.heap.size,0,none⟩) 1 1]) kp:=by
  unfold kp;rw [bd.out,be.out,bf.out];exact ⟨_,_,_,_,_,_,_,_,_,rfl,(Y1.one b0 (T.out.below ag)).below ah,((XW.one b2 ((V7.one b1 (V.out.below t)).below j)).below ai),(Y1.one b3 (a0.out.below s)).below F⟩
 have HP:=JZ hp;clear hp ah bg ai b0 b1 b2 b3 ag t j s F J q h U X Y Z a1 a2 T V a0;generalize cb:U4.heap.size=gp at *;clear cb;refine (Yl (-1) _ (by omega) (by omega)).mono ?_;rw [show canF ((-1:Int):Rat)=kI (-1) from rfl];rintro _ w4 ⟨v4,rfl,e4,G⟩;have a4:=JZ e4.frac;clear e4;generalize bb:kI (-1)=k4 at *;have bh:=JZ bb;clear bb;obtain ⟨A4,n4,c4,B4,m4,d4,rfl,_,_⟩:=id a4.out;obtain ⟨U6,bx,b4,N⟩:=YR w4 (.bool k4.num.neg) (.slice A4 n4 c4) (.bool k4.den.neg) (.slice B4 m4 d4);obtain ⟨Z7,bz,z,b5⟩:=XZ U6 (.int .i64 0) (.slice none 0 0) (.slice none 0 0) (.slice none 0 0);obtain ⟨q0,q1,q2,q3⟩:=z.four;obtain ⟨h0,h1,h2,h3⟩:=z.fourF;have aj:=z.set4 (.int .i64 2) (.slice none 0 0) (.slice (some ⟨w4.heap.size,0,none⟩) 1 1) (.slice none 0 0);have a5:=ZI b5 (JY _) (.int .i64 2) (.slice none 0 0) (.slice (some ⟨w4.heap.size,0,none⟩) 1 1) (.slice none 0 0);have K:=Za (Za G N G.size) a5 (by have:=G.size;have:=N.size;omega);go_wp2_with fail;clear bx bz q0 q1 q2 q3 h0 h1 h2 h3 z b5;generalize (((Z7.setCell ⟨U6.heap.size,0,none⟩ (.int .i64 2)).setCell ⟨U6.heap.size,1,none⟩ (.slice none 0 0)).setCell ⟨U6.heap.size,2,none⟩ (.slice (some ⟨w4.heap.size,0,none⟩) 1 1)).setCell ⟨U6.heap.size,3,none⟩ (.slice none 0 0)=U7 at *;have ak:Zja U7 (.agg #[.int .i64 2,.slice none 0 0,.slice (some ⟨w4.heap.size,0,none⟩) 1 1,.slice none 0 0]) ⟨2,[],[kI (-1)],[]⟩:=by
  rw [bh.out];exact ⟨_,_,_,_,_,_,_,_,_,rfl,Y1.nil _,(Y1.one b4 (a4.out.below N)).below a5,Y1.nil _,by simp,by simp⟩
 have al:=JZ ak;have a6:=Za a3 K a3.size;have am:=hP.later K;have an:=JZ (HP.out.below K);clear ak b4 N a5 G a4 hP HP K a3;generalize cc:U6.heap.size=g1 at *;clear cc;generalize cd:w4.heap.size=cg at *;clear cd;refine (Yl (1) _ (by omega) (by omega)).mono ?_;rw [show canF ((1:Int):Rat)=kI (1) from rfl];rintro _ w5 ⟨v5,rfl,e5,H⟩;have a7:=JZ e5.frac;clear e5;generalize bc:kI (1)=k5 at *;have bi:=JZ bc;clear bc;obtain ⟨A5,n5,c5,B5,m5,d5,rfl,_,_⟩:=id a7.out;obtain ⟨U8,c0,b6,O⟩:=YR w5 (.bool k5.num.neg) (.slice A5 n5 c5) (.bool k5.den.neg) (.slice B5 m5 d5);obtain ⟨Z9,c9,B,b7⟩:=XZ U8 (.int .i64 0) (.slice none 0 0) (.slice none 0 0) (.slice none 0 0);obtain ⟨q0,q1,q2,q3⟩:=B.four;obtain ⟨h0,h1,h2,h3⟩:=B.fourF;have ao:=B.set4 (.int .i64 2) (.slice none 0 0) (.slice (some ⟨w5.heap.size,0,none⟩) 1 1) (.slice none 0 0);have a8:=ZI b7 (JY _) (.int .i64 2) (.slice none 0 0) (.slice (some ⟨w5.heap.size,0,none⟩) 1 1) (.slice none 0 0);have C:=Za (Za H O H.size) a8 (by have:=H.size;have:=O.size;omega)
 go_upto_region 4 with (fail)
 clear c0 c9 q0 q1 q2 q3 h0 h1 h2 h3 B b7;generalize (((Z9.setCell ⟨U8.heap.size,0,none⟩ (.int .i64 2)).setCell ⟨U8.heap.size,1,none⟩ (.slice none 0 0)).setCell ⟨U8.heap.size,2,none⟩ (.slice (some ⟨w5.heap.size,0,none⟩) 1 1)).setCell ⟨U8.heap.size,3,none⟩ (.slice none 0 0)=U9 at *;have ap:Zja U9 (.agg #[.int .i64 2,.slice none 0 0,.slice (some ⟨w5.heap.size,0,none⟩) 1 1,.slice none 0 0]) ⟨2,[],[kI 1],[]⟩:=by
  rw [bi.out];exact ⟨_,_,_,_,_,_,_,_,_,rfl,Y1.nil _,(Y1.one b6 (a7.out.below O)).below a8,Y1.nil _,by simp,by simp⟩
 have aq:=JZ ap;have a9:=Za a6 C a6.size;have aa:=am.later C;have D:=JZ (an.out.below C);have R:=aj.later C;have S:=JZ (al.out.below C);clear ap b6 O a8 H a7 am an aj al C a6;generalize ce:U8.heap.size=g2 at *;clear ce;generalize cf:w5.heap.size=ch at *;clear cf
 go_cut [4,5] (fun s4 s5 wx=>Zcj U9 s4 s5 wx)
 case first=>
  obtain ⟨x0,x1,x2⟩:=aa.three;have C0:=Zl x0;have C1:=Zl x1;have C2:=Zl x2;have k:=Zj U9;clear x0 x1 x2;refine Xl 8 (.go 0 (.fork 1 (.fork 2 (.fork 3 (.go 4 (.go 5 (.go 6 (.go 7 (.go 8 (.go 9 .done)))))) 7 (.go 3 (.go 4 (.go 5 (.go 6 (.go 8 (.go 9 .done))))))) 7 (.go 2 (.go 3 (.go 4 (.go 5 (.go 6 (.go 8 (.go 9 .done)))))))) 7 (.go 1 (.go 2 (.go 3 (.go 4 (.go 5 (.go 6 (.go 8 (.go 9 .done)))))))))) (by kernel_rfl) (by kernel_rfl) ?_;repeat ((first|(first|refine ZJ (v:=?_) rfl rfl rfl ?_ ?_ |refine ZW (v:=?_) rfl rfl rfl ?_ ?_);rotate_left;·(intro _ _;go_simp;(try go_bits);(try with_reducible rfl))|refine ZZ rfl rfl rfl ?_ |refine ZK rfl rfl rfl (by assumption) ?_);(try simp only [py]))
  refine XH rfl rfl (fun _ kq=>?_) (fun _ kq=>?_)
  ·go_simp;(with_reducible refine (Yl (-2) _ (by omega) (by omega)).mono ?_);rw [show canF ((-2:Int):Rat)=kI (-2) from rfl];rintro _ wA ⟨vA,rfl,eA,P⟩;have l:=Za k P k.size;obtain ⟨A6,n6,c6,B6,m6,d6,rfl,_,_⟩:=id eA.frac;have L:=eA.frac;clear eA;refine kq.out _ _ (.inr l) ?_;clear kq;(try simp only [py]);refine XH rfl rfl (fun _ kq=>?_) (fun _ kq=>?_)
   ·obtain ⟨WB,v,m,f⟩:=YR wA (.bool (kI (-2)).num.neg) (.slice A6 n6 c6) (.bool (kI (-2)).den.neg) (.slice B6 m6 d6);go_simp;have a:=Za l f l.size;refine kq.out _ _ (.inr a) ?_;clear kq v;(try simp only [py]);have E:=Y1.one m (L.below f);clear m;refine XH rfl rfl (fun _ kq=>?_) (fun _ kq=>?_)
    ·go_simp;(with_reducible refine (YJ _ _ kp [kI (-2)] 1 _ (D.out.below a) E (Zso (by decide)) (Zeb (Zjz (by decide) (by decide))) (by decide) kp_len (by decide)).mono ?_);rintro _ wC ⟨vC,rfl,eC,r⟩;rw [kp_lowF] at eC;rw [kp_low];have d:=Za a r a.size;obtain ⟨A7,n7,c7,B7,m7,d7,rfl,_,_⟩:=id eC;refine kq.out _ _ (.inr d) ?_;clear kq;(try simp only [py]);repeat ((first|(first|refine ZJ (v:=?_) rfl rfl rfl ?_ ?_ |refine ZW (v:=?_) rfl rfl rfl ?_ ?_);rotate_left;·(intro _ _;go_simp;(try go_bits);(try with_reducible rfl))|refine ZZ rfl rfl rfl ?_ |refine ZK rfl rfl rfl (by assumption) ?_);(try simp only [py]))
     obtain ⟨WG,x,o,p⟩:=YR wC (.bool false) (.slice none 0 0) (.bool false) (.slice none 0 0);refine Zt rfl rfl (fun _ kq=>?_);go_simp;have u:=d.size;have b:=Za d p d.size;refine kq.out _ _ (.inr b) ?_;clear kq x;(try simp only [py]);have bj:=eC.below p;obtain ⟨t0,t1,t2,t3⟩:=o.four;obtain ⟨f0,f1,f2,f3⟩:=o.fourF;refine Zt rfl rfl (fun _ kq=>?_);go_simp;refine kq.out _ _ (.inl (by decide)) ?_;clear kq;(try simp only [py]);refine Zt rfl rfl (fun _ kq=>?_);go_simp;refine kq.out _ _ (.inl (by decide)) ?_;clear kq;(try simp only [py]);refine Yf ?_;go_wp2_with fail
     go_meet
     exact Zcj.mk o bj b u
    ·obtain ⟨WG,x,o,p⟩:=YR WB (.bool false) (.slice none 0 0) (.bool false) (.slice none 0 0);go_simp;have u:=a.size;have b:=Za a p a.size;refine kq.out _ _ (.inr b) ?_;clear kq x;(try simp only [py]);have bk:=E.below p;refine Zt rfl rfl (fun _ kq=>?_);go_simp;(with_reducible refine (YJ _ _ kp [kI (-2)] 1 _ (D.out.below b) bk (Zso (by decide)) (Zeb (Zjz (by decide) (by decide))) (by decide) kp_len (by decide)).mono ?_);rintro _ wC ⟨vC,rfl,eC,r⟩;rw [kp_lowF] at eC;rw [kp_low];have d:=Za b r b.size;obtain ⟨A7,n7,c7,B7,m7,d7,rfl,_,_⟩:=id eC;refine kq.out _ _ (.inr d) ?_;clear kq;(try simp only [py]);have i:=o.later r;repeat ((first|(first|refine ZJ (v:=?_) rfl rfl rfl ?_ ?_ |refine ZW (v:=?_) rfl rfl rfl ?_ ?_);rotate_left;·(intro _ _;go_simp;(try go_bits);(try with_reducible rfl))|refine ZZ rfl rfl rfl ?_ |refine ZK rfl rfl rfl (by assumption) ?_);(try simp only [py]))
     obtain ⟨t0,t1,t2,t3⟩:=i.four;obtain ⟨f0,f1,f2,f3⟩:=i.fourF;refine Zt rfl rfl (fun _ kq=>?_);go_simp;refine kq.out _ _ (.inl (by decide)) ?_;clear kq;(try simp only [py]);refine Zt rfl rfl (fun _ kq=>?_);go_simp;refine kq.out _ _ (.inl (by decide)) ?_;clear kq;(try simp only [py]);refine Yf ?_;go_wp2_with fail
     go_meet
     exact Zcj.mk i eC d u
   ·obtain ⟨WG,x,o,p⟩:=YR wA (.bool false) (.slice none 0 0) (.bool false) (.slice none 0 0);go_simp;have u:=l.size;have b:=Za l p l.size;refine kq.out _ _ (.inr b) ?_;clear kq x;(try simp only [py]);have bl:=L.below p;obtain ⟨WB,v,m,f⟩:=YR WG (.bool (kI (-2)).num.neg) (.slice A6 n6 c6) (.bool (kI (-2)).den.neg) (.slice B6 m6 d6);refine Zt rfl rfl (fun _ kq=>?_);go_simp;have a:=Za b f b.size;refine kq.out _ _ (.inr a) ?_;clear kq v;(try simp only [py]);have E:=Y1.one m (bl.below f);clear m;have ab:=o.later f;refine Zt rfl rfl (fun _ kq=>?_);go_simp;(with_reducible refine (YJ _ _ kp [kI (-2)] 1 _ (D.out.below a) E (Zso (by decide)) (Zeb (Zjz (by decide) (by decide))) (by decide) kp_len (by decide)).mono ?_);rintro _ wC ⟨vC,rfl,eC,r⟩;rw [kp_lowF] at eC;rw [kp_low];have d:=Za a r a.size;obtain ⟨A7,n7,c7,B7,m7,d7,rfl,_,_⟩:=id eC;refine kq.out _ _ (.inr d) ?_;clear kq;(try simp only [py]);have i:=ab.later r;repeat ((first|(first|refine ZJ (v:=?_) rfl rfl rfl ?_ ?_ |refine ZW (v:=?_) rfl rfl rfl ?_ ?_);rotate_left;·(intro _ _;go_simp;(try go_bits);(try with_reducible rfl))|refine ZZ rfl rfl rfl ?_ |refine ZK rfl rfl rfl (by assumption) ?_);(try simp only [py]))
    obtain ⟨t0,t1,t2,t3⟩:=i.four;obtain ⟨f0,f1,f2,f3⟩:=i.fourF;refine Zt rfl rfl (fun _ kq=>?_);go_simp;refine kq.out _ _ (.inl (by decide)) ?_;clear kq;(try simp only [py]);refine Zt rfl rfl (fun _ kq=>?_);go_simp;refine kq.out _ _ (.inl (by decide)) ?_;clear kq;(try simp only [py]);refine Yf ?_;go_wp2_with fail
    go_meet
    exact Zcj.mk i eC d u
  ·obtain ⟨WG,x,o,p⟩:=YR U9.drew (.bool false) (.slice none 0 0) (.bool false) (.slice none 0 0);go_simp;have u:=k.size;have b:=Za k p k.size;refine kq.out _ _ (.inr b) ?_;clear kq x;(try simp only [py])
   change Bk WG U9.heap.size 46 _ at o
   refine Zt rfl rfl (fun _ kq=>?_);go_simp;(with_reducible refine (Yl (-2) _ (by omega) (by omega)).mono ?_);rw [show canF ((-2:Int):Rat)=kI (-2) from rfl];rintro _ wA ⟨vA,rfl,eA,P⟩;have l:=Za b P b.size;obtain ⟨A6,n6,c6,B6,m6,d6,rfl,_,_⟩:=id eA.frac;have L:=eA.frac;clear eA;refine kq.out _ _ (.inr l) ?_;clear kq;(try simp only [py]);have hG:=o.later P;obtain ⟨WB,v,m,f⟩:=YR wA (.bool (kI (-2)).num.neg) (.slice A6 n6 c6) (.bool (kI (-2)).den.neg) (.slice B6 m6 d6);refine Zt rfl rfl (fun _ kq=>?_);go_simp;have a:=Za l f l.size;refine kq.out _ _ (.inr a) ?_;clear kq v;(try simp only [py]);have E:=Y1.one m (L.below f);clear m;have ab:=hG.later f;refine Zt rfl rfl (fun _ kq=>?_);go_simp;(with_reducible refine (YJ _ _ kp [kI (-2)] 1 _ (D.out.below a) E (Zso (by decide)) (Zeb (Zjz (by decide) (by decide))) (by decide) kp_len (by decide)).mono ?_);rintro _ wC ⟨vC,rfl,eC,r⟩;rw [kp_lowF] at eC;rw [kp_low];have d:=Za a r a.size;obtain ⟨A7,n7,c7,B7,m7,d7,rfl,_,_⟩:=id eC;refine kq.out _ _ (.inr d) ?_;clear kq;(try simp only [py]);have i:=ab.later r;repeat ((first|(first|refine ZJ (v:=?_) rfl rfl rfl ?_ ?_ |refine ZW (v:=?_) rfl rfl rfl ?_ ?_);rotate_left;·(intro _ _;go_simp;(try go_bits);(try with_reducible rfl))|refine ZZ rfl rfl rfl ?_ |refine ZK rfl rfl rfl (by assumption) ?_);(try simp only [py]))
   obtain ⟨t0,t1,t2,t3⟩:=i.four;obtain ⟨f0,f1,f2,f3⟩:=i.fourF;refine Zt rfl rfl (fun _ kq=>?_);go_simp;refine kq.out _ _ (.inl (by decide)) ?_;clear kq;(try simp only [py]);refine Zt rfl rfl (fun _ kq=>?_);go_simp;refine kq.out _ _ (.inl (by decide)) ?_;clear kq;(try simp only [py]);refine Yf ?_;go_wp2_with fail
   go_meet
   exact Zcj.mk i eC d u
 case rest=>
  obtain ⟨g,A,n,c,A',n',c',rfl,rfl,hB,hF,y⟩:=hcut;have ar:=Za a9 y a9.size;have bm:=aa.later y;have au:=R.later y;have av:=ao.later y;have ac:=JZ (D.out.below y);have aw:=JZ (S.out.below y);have ax:=JZ (aq.out.below y);obtain ⟨x0,x1,x2⟩:=bm.three;obtain ⟨p0,p1,p2,p3⟩:=au.four;obtain ⟨q0,q1,q2,q3⟩:=av.four;obtain ⟨r0,r1,r2,r3⟩:=hB.four;clear aa R ao D S aq a9;go_wp2_with fail;have C0:=Zl x0;have C1:=Zl x1;have C2:=Zl x2;have C3:=Zl p0;have C4:=Zl p1;have C5:=Zl p2;have C6:=Zl p3;have C7:=Zl q0;have C8:=Zl q1;have C9:=Zl q2;have bn:=Zl q3;have bo:=Zl r0;have bp:=Zl r1;have bq:=Zl r2;have br:=Zl r3;have k:=hB.drewB;clear x0 x1 x2 p0 p1 p2 p3 q0 q1 q2 q3 r0 r1 r2 r3;refine Zn 26 [0,1,2,3,4,5,6,7,8,9,10,11,12,13,14,15,16,17,18,19,20,21,22,23,24,25] (by kernel_rfl) (by kernel_rfl) ?_;repeat ((first|(first|refine Zb (v:=?_) rfl rfl rfl ?_ ?_ |refine Zd (v:=?_) rfl rfl rfl ?_ ?_);rotate_left;·(intro _ _;go_simp;(try go_bits);(try with_reducible rfl))|refine Ze rfl rfl rfl ?_ |refine skC rfl rfl rfl ?_);(try simp only [py]))
  refine Zf rfl rfl (fun _ kq=>?_);go_simp;with_reducible refine (Zla _ _ kp ⟨2,[],[kI (-1)],[]⟩ 1 _ (ac.out.below k) (aw.out.below k) (Zso (by decide)) (RsL.nil 1) (Zeb (Zjz (by decide) (by decide))) (RsL.nil 1) (by decide) kp_len (by decide)).mono ?_
  rw [kp_ver1];rintro _ y1 ⟨rfl,J⟩;have I:=Za k J k.size;refine kq.out _ _ (.inr I) ?_;clear kq;(try simp only [py]);repeat ((first|(first|refine Zb (v:=?_) rfl rfl rfl ?_ ?_ |refine Zd (v:=?_) rfl rfl rfl ?_ ?_);rotate_left;·(intro _ _;go_simp;(try go_bits);(try with_reducible rfl))|refine Ze rfl rfl rfl ?_ |refine skC rfl rfl rfl ?_);(try simp only [py]))
  refine Zf rfl rfl (fun _ kq=>?_);go_simp;with_reducible refine (Zla _ _ kp ⟨2,[],[kI 1],[]⟩ 1 _ (ac.out.below I) (ax.out.below I) (Zso (by decide)) (RsL.nil 1) (Zeb (Zjz (by decide) (by decide))) (RsL.nil 1) (by decide) kp_len (by decide)).mono ?_
  rw [kp_ver2];rintro _ y2 ⟨rfl,q⟩;have ad:=Za I q I.size;refine kq.out _ _ (.inr ad) ?_;clear kq;(try simp only [py]);repeat ((first|(first|refine Zb (v:=?_) rfl rfl rfl ?_ ?_ |refine Zd (v:=?_) rfl rfl rfl ?_ ?_);rotate_left;·(intro _ _;go_simp;(try go_bits);(try with_reducible rfl))|refine Ze rfl rfl rfl ?_ |refine skC rfl rfl rfl ?_);(try simp only [py]))
  refine Zf rfl rfl (fun _ kq=>?_);go_simp;with_reducible refine (Yl 2 _ (by omega) (by omega)).mono ?_
  rw [show canF ((2:Int):Rat)=kI 2 from rfl];rintro _ y3 ⟨v3,rfl,e3,h⟩;have M:=Za ad h ad.size;refine kq.out _ _ (.inr M) ?_;clear kq;(try simp only [py]);repeat ((first|(first|refine Zb (v:=?_) rfl rfl rfl ?_ ?_ |refine Zd (v:=?_) rfl rfl rfl ?_ ?_);rotate_left;·(intro _ _;go_simp;(try go_bits);(try with_reducible rfl))|refine Ze rfl rfl rfl ?_ |refine skC rfl rfl rfl ?_);(try simp only [py]))
  refine Zf rfl rfl (fun _ kq=>?_);go_simp;with_reducible refine (Yac _ _ (kI 2) (kI 2) _ (hF.below M) e3.frac).mono ?_
  rw [Zwp];rintro _ y4 ⟨rfl,G⟩;have ae:=Za M G M.size;refine kq.out _ _ (.inr ae) ?_;clear kq;(try simp only [py]);repeat ((first|(first|refine Zb (v:=?_) rfl rfl rfl ?_ ?_ |refine Zd (v:=?_) rfl rfl rfl ?_ ?_);rotate_left;·(intro _ _;go_simp;(try go_bits);(try with_reducible rfl))|refine Ze rfl rfl rfl ?_ |refine skC rfl rfl rfl ?_);(try simp only [py]))
  refine Zf rfl rfl (fun _ kq=>?_);go_simp;with_reducible refine (Yl 1 _ (by omega) (by omega)).mono ?_
  rw [show canF ((1:Int):Rat)=kI 1 from rfl];rintro _ y5 ⟨v5,rfl,e5,H⟩;have af:=Za ae H ae.size;obtain ⟨A8,n8,c8,B8,m8,d8,rfl,_,_⟩:=id e5.frac;refine kq.out _ _ (.inr af) ?_;clear kq;(try simp only [py]);repeat ((first|(first|refine Zb (v:=?_) rfl rfl rfl ?_ ?_ |refine Zd (v:=?_) rfl rfl rfl ?_ ?_);rotate_left;·(intro _ _;go_simp;(try go_bits);(try with_reducible rfl))|refine Ze rfl rfl rfl ?_ |refine skC rfl rfl rfl ?_);(try simp only [py]))
  obtain ⟨WB,v,m,f⟩:=YR y5 (.bool (kI 1).num.neg) (.slice A8 n8 c8) (.bool (kI 1).den.neg) (.slice B8 m8 d8);refine Zf rfl rfl (fun _ kq=>?_);go_simp;have a:=Za af f af.size;refine kq.out _ _ (.inr a) ?_;clear kq v;repeat ((first|(first|refine Zb (v:=?_) rfl rfl rfl ?_ ?_ |refine Zd (v:=?_) rfl rfl rfl ?_ ?_);rotate_left;·(intro _ _;go_simp;(try go_bits);(try with_reducible rfl))|refine Ze rfl rfl rfl ?_ |refine skC rfl rfl rfl ?_);(try simp only [py]))
  refine Zf rfl rfl (fun _ kq=>?_);go_simp;with_reducible refine (Zjv _ _ kp [kI 1] 1 _ (ac.out.below a) (Y1.one m (e5.frac.below f)) (Zso (by decide)) (Zeb (Zjz (by decide) (by decide))) (by decide) (by decide)).mono ?_
  rw [kp_feas];rintro _ y6 ⟨rfl,ca⟩;have ay:=Za a ca a.size;refine kq.out _ _ (.inr ay) ?_;clear kq;(try simp only [py]);repeat ((first|(first|refine Zb (v:=?_) rfl rfl rfl ?_ ?_ |refine Zd (v:=?_) rfl rfl rfl ?_ ?_);rotate_left;·(intro _ _;go_simp;(try go_bits);(try with_reducible rfl))|refine Ze rfl rfl rfl ?_ |refine skC rfl rfl rfl ?_);(try simp only [py]))
  refine Zv ?_;have az:=Za ar ay ar.size;clear C0 C1 C2 C3 C4 C5 C6 C7 C8 C9 bn bo bp bq br;go_wp2;go_ret;exact ⟨rfl,az⟩
def ZP (base:Nat) (w:World) (v:Value) (zs:List Int):Prop:=w.ownsRow base 3 1 v zs.length (zs.map fun z=>Value.int .i64 z)∧∀z∈zs,-9223372036854775808≤z∧z≤9223372036854775807
theorem ZP.below {base:Nat} {w w':World} {v:Value} {zs:List Int} (h:ZP base w v zs) (hb:Below w.heap.size w w'):ZP base w' v zs:=⟨own_below h.1 hb,h.2⟩
theorem ZP.nil (base:Nat) (w:World):ZP base w (.slice none 0 0) []:=⟨World.ownsRow_nil _ _ _ _,fun z hz=>by simp at hz⟩
theorem ZP.monoB {base base':Nat} {w:World} {v:Value} {zs:List Int} (h:ZP base w v zs) (hb:base'≤base):ZP base' w v zs:=⟨Y4 h.1 hb,h.2⟩
theorem ZP.but {base:Nat} {w w':World} {e:TypeId} {v:Value} {zs:List Int} (h:ZP base w v zs) (hk:Zg e w w') (h1:3≠e):ZP base w' v zs:=⟨hk.own h.1 h1,h.2⟩
theorem ZP.ints {base:Nat} {w:World} {v:Value} {zs:List Int} (h:ZP base w v zs):Xq w v zs:=by
 obtain ⟨A,c,hv,hl,hc,hm,a⟩:=UD.of_own h.1;refine ⟨A,c,hv,hc,hm,fun hp=>?_,h.2⟩;obtain ⟨b,d,cs,fz,hA,hb,hx⟩:=a hp;refine ⟨b,d,hA,fun i hi=>?_⟩;rw [cell_of_row w b (d+i) cs _ fz hb,hx i (.int .i64 (zs.getD i 0)) (by simp [List.getD,JQ hi])]
theorem ZP.sliceN {base:Nat} {w:World} {v:Value} {zs:List Int} (h:ZP base w v zs):∃A n c,v= .slice A n c:=by
 obtain ⟨A,c,hv,_⟩:=UD.of_own h.1;exact ⟨A,_,c,hv⟩
theorem info_intT:(Tryz.prog.info? 3).map (fun i=>(i.zero,i.size,i.bytes))=some (some (.int .i64 0),1,8):=by kernel_rfl
theorem UF (ty:TypeId) (W:World) (v:Value) (zs:List Int) (h:Xq W v zs) (hn:zs.length≤1099511627776):
 ∃v' w',(Builtin.append_ #[22,22] ty #[.slice none 0 0,v]).run Tryz.prog W= .ok v' w'∧ZP W.heap.size w' v' zs∧Below W.heap.size W w':=by
 obtain ⟨A,c,rfl,hc,hm,a,i⟩:=h;obtain ⟨i0,hi,f,l,m⟩:=info_parts info_intT
 cases A with
 | none=>
  have h0:zs.length=0:=by
   rcases JV zs.length with e | e
   ·exact e
   ·obtain ⟨b,n,e1,_⟩:=a e;cases e1
  have g:zs=[]:=List.eq_nil_of_length_eq_zero h0;subst g;refine ⟨_,_,?_,ZP.nil _ _,JR _ _⟩;simp [Builtin.append_,run_underlying Tryz.underlying22,sizeOf,typeInfo,zeroValue,hi,f,Builtin.lenOf,run_firstCells_none]
 | some ad=>
  obtain ⟨v',w',hr,g1,g2,_,_⟩:=run_append_own_at (P:=Tryz.prog) W W.heap.size 22 ty 3 i0 _ 1 8 Tryz.underlying22 hi f l m rfl (by decide) (.slice none 0 0) 0 [] (World.ownsRow_nil _ _ _ _) ad zs.length c (zs.map fun z=>Value.int .i64 z) (by simp) (fun j u hj=>by
   have d:j < zs.length:=(by have h9:=(List.getElem?_eq_some_iff.1 hj).1;simpa using h9);obtain ⟨b,n,e,hx⟩:=a (by omega);have e:=Option.some.inj e;rw [e,Zpp,hx j d];simp [JQ d] at hj;rw [← hj];simp [List.getD,JQ d]) (fun u hu=>by simp at hu;obtain ⟨z,_,rfl⟩:=hu;rfl) (by unfold maxLen;omega) (by omega) (JY _)
  refine ⟨v',w',hr,⟨by simpa using g1,i⟩,?_⟩;exact (JR _ _).grown g2 (JY _) (fun k hk=>by simp [Value.ownBlock] at hk)
theorem Zec {o:Oper} {a:Act} {w w':World} {v x y:Value} {K:Act→World→Prop} {Q:Exit→Act→World→Prop} {ops:Array Oper} {t:TypeId} (s1 s2:Operand) (hgd:o.guard=none) (ho:o.op= .call { callee:= .builtin .append,args:=#[s1,s2],argTypes:=#[t,t] }) (h1:a.eval s1=x) (h2:a.eval s2=y)
 (hrun:(Builtin.append_ #[t,t] o.type #[x,y]).run Tryz.prog w= .ok v w') (h:K (a.put o.dst v) w'):if Region.wanted o (yielded ops a.tmps)=true then Oper.wp Tryz.prog o a w K Q else K (a.put o.dst undef) w:=by
 rw [if_pos (by simp [Region.wanted,hgd])];unfold Oper.wp execOp;simp only [ho,resolve,invoke,builtin,Sem.run_bind,Sem.run_pure,Result.andThen_ok,List.map_toArray,List.map_cons,List.map_nil,h1,h2,hrun];exact h
def StO (base:Nat) (w:World) (v:Value) (s:LSt):Prop:=∃A n c,v= .agg #[.int .i64 s.phase,.slice A n c,.int .i64 s.pivots]∧ZP base w (.slice A n c) s.basis
namespace Pl
def settleQ (p:LPd) (s:LSt):LSt:=⟨if UE s (zL p s) (zL p s).length then s.phase else 2,s.basis,s.pivots⟩
theorem Zck {p:LPd} {s:LSt} (h:s.Fit p):(settleQ p s).Fit p:=h
end Pl
def Ybm (U:World) (s:LSt) (s7:Value) (wx:World):Prop:=
 ∃g A n c,s7= .pointer (some ⟨g,0,none⟩)∧U.heap.size≤g∧Bk wx g 29 [.int .i64 s.phase,.slice A n c,.int .i64 s.pivots]∧ZP U.heap.size wx (.slice A n c) s.basis∧Below U.heap.size U wx
theorem Ybm.mk {U w:World} {g:Nat} {s:LSt} {x y z:Value} {A:Option Addr} {n c:Nat} (hB:Bk w g 29 [x,y,z]) (hI:ZP U.heap.size w (.slice A n c) s.basis) (hb:Below U.heap.size U w) (hg:U.heap.size≤g):
 Ybm U s (.pointer (some ⟨g,0,none⟩)) (((w.setCell ⟨g,0,none⟩ (.int .i64 s.phase)).setCell ⟨g,1,none⟩ (.slice A n c)).setCell ⟨g,2,none⟩ (.int .i64 s.pivots)):=by
 have k1:=Zg.setCell hB 0 (.int .i64 s.phase);have k2:=Zg.setCell (hB.set_ 0 (.int .i64 s.phase)) 1 (.slice A n c);have k3:=Zg.setCell ((hB.set_ 0 (.int .i64 s.phase)).set_ 1 (.slice A n c)) 2 (.int .i64 s.pivots);have k4:=(k1.trans k2).trans k3;exact ⟨g,A,n,c,rfl,hg,((hB.set_ 0 _).set_ 1 _).set_ 2 _,hI.but k4 (by decide),((hb.setCell (p:=⟨g,0,none⟩) hg _).setCell (p:=⟨g,1,none⟩) hg _).setCell (p:=⟨g,2,none⟩) hg _⟩
theorem Zcl (v1 v2:Value) (p:LPd) (s:LSt) (K:Nat) (w:World) (h:LpM w v1 p) (h2:StM w v2 s) (F:p.Fit K) (S:s.Fit p):
 Calls Tryz.prog 40 #[v1,v2] w fun e w'=>∃v',e= .returned v'∧StO w.heap.size w' v' (settleQ p s)∧Below w.heap.size w w':=by
 obtain ⟨A,n,c,A',n',c',aj,ak,al,rfl,hc,hv,hr⟩:=id h;obtain ⟨Ab,nb,cb,rfl,hI⟩:=id h2;obtain ⟨W,hW,a8,x⟩:=Yc w (.slice A n c) (.slice A' n' c') (.slice aj ak al);obtain ⟨W1,a9,a,y⟩:=YT W (.int .i64 s.phase) (.slice Ab nb cb) (.int .i64 s.pivots);have hX:=a8.later y;have H:=Za x y x.size;obtain ⟨b1,b2,b3⟩:=hI.len;have V:W.heap.size=w.heap.size+1:=by rw [← hW];simp
 rw [V] at a;have ab:=JZ h;have X:=JZ h2;have HI:=JZ hI;have I:=JZ F;have Y:=JZ S;have Z:=JZ b1;have ac:Hid (nb=p.right.length):=JZ (by rw [b1];exact S.2);have an:nb≤64:=by rw [ac.out];exact F.2.2.1
 obtain ⟨x0,x1,x2⟩:=hX.three;obtain ⟨y0,y1,y2⟩:=a.three;clear h h2 hc hv hr b1 hI a8 x y F S;obtain ⟨W2,am,hR,l⟩:=YT W1 (.int .i64 0) (.slice none 0 0) (.int .i64 0);have J:=hX.later l;have L:=a.later l;have r:=Za H l H.size;have a0:W1.heap.size=w.heap.size+1+1:=by rw [← a9];simp [V]
 rw [a0] at hR;obtain ⟨x0,x1,x2⟩:=J.three;obtain ⟨y0,y1,y2⟩:=L.three;have ad:Hid (∀(i:Nat) (f:RF),(zL p s)[i]? =some f→f.Sh):=JZ fun i f hf=>(Ynq I.out s i f hf).sh (by have:=I.out.ks;omega)
 have ae:Hid ((zL p s).length≤s.basis.length):=JZ (by rw [Y.out.len];exact Zgt);clear hX a H l;go_enter Tryz.func40,Tryz.ntmps40;go_wp2_with fail;clear hW a9 am;refine (Zff _ _ p s K _ (ab.out.below r) (X.out.below r) I.out Y.out).mono ?_;rintro _ w5 ⟨v5,rfl,e5,B⟩;have a1:=J.later B;have M:=L.later B;have N:=hR.later B;have t:=Za r B r.size;have a2:=e5.frs;obtain ⟨Az,nz,cz,rfl⟩:=e5.sliceN;clear e5 J L hR x0 x1 x2 y0 y1 y2 r B
 go_upto_region 2 with (fail)
 go_cut [7] (fun s7 wx=>Ybm w5 s s7 wx)
 case first=>
  obtain ⟨y0,y1,y2⟩:=M.three;have C0:=Zl y0;have C1:=Zl y1;have C2:=Zl y2;have a:=Zj w5;clear y0 y1 y2;refine Xl 9 (.go 0 (.go 1 (.go 2 (.go 3 (.go 5 (.go 6 (.fork 4 (.go 7 (.go 8 (.go 9 .done))) 8 (.go 4 (.go 7 (.go 9 .done)))))))))) (by kernel_rfl) (by kernel_rfl) ?_;repeat ((first|(first|refine ZJ (v:=?_) rfl rfl rfl ?_ ?_ |refine ZW (v:=?_) rfl rfl rfl ?_ ?_);rotate_left;·(intro _ _;go_simp;(try go_bits);(try with_reducible rfl))|refine ZZ rfl rfl rfl ?_ |refine ZK rfl rfl rfl (by assumption) ?_);(try simp only [py]))
  refine XH rfl rfl (fun _ kq=>?_) (fun _ kq=>?_)
  ·obtain ⟨vc,wc,j,z,E⟩:=UF 22 w5.drew (.slice Ab nb cb) s.basis ((HI.out.below t).below a) (by rw [← Z.out];omega);obtain ⟨Ac,nc,cc,rfl⟩:=z.sliceN;have k:=Za a E a.size;refine Zec _ _ rfl rfl rfl rfl j ?_;refine kq.out _ _ (.inr k) ?_;clear kq j;(try simp only [py]);have O:=z.monoB a.size;repeat ((first|(first|refine ZJ (v:=?_) rfl rfl rfl ?_ ?_ |refine ZW (v:=?_) rfl rfl rfl ?_ ?_);rotate_left;·(intro _ _;go_simp;(try go_bits);(try with_reducible rfl))|refine ZZ rfl rfl rfl ?_ |refine ZK rfl rfl rfl (by assumption) ?_);(try simp only [py]))
   obtain ⟨WG,U,o,G⟩:=YT wc (.int .i64 0) (.slice none 0 0) (.int .i64 0);refine Zt rfl rfl (fun _ kq=>?_);go_simp;have P:=k.size;have b:=Za k G k.size;refine kq.out _ _ (.inr b) ?_;clear kq U;(try simp only [py]);have af:=O.below G;obtain ⟨t0,t1,t2⟩:=o.three;obtain ⟨f0,f1,f2⟩:=o.threeF;refine Zt rfl rfl (fun _ kq=>?_);go_simp;refine kq.out _ _ (.inl (by decide)) ?_;clear kq;(try simp only [py]);refine Yf ?_;go_wp2_with fail
   go_meet
   exact Ybm.mk o af b P
  ·obtain ⟨WG,U,o,G⟩:=YT w5.drew (.int .i64 0) (.slice none 0 0) (.int .i64 0);go_simp;have P:=a.size;have b:=Za a G a.size;refine kq.out _ _ (.inr b) ?_;clear kq U;(try simp only [py])
   change Bk WG w5.heap.size 29 _ at o
   obtain ⟨vc,wc,j,z,E⟩:=UF 22 WG (.slice Ab nb cb) s.basis ((HI.out.below t).below b) (by rw [← Z.out];omega);obtain ⟨Ac,nc,cc,rfl⟩:=z.sliceN;have k:=Za b E b.size;refine Zt rfl rfl (fun _ kq=>?_);refine Zec _ _ rfl rfl rfl rfl j ?_;refine kq.out _ _ (.inr k) ?_;clear kq j;(try simp only [py]);have O:=z.monoB b.size;have R:=o.later E;repeat ((first|(first|refine ZJ (v:=?_) rfl rfl rfl ?_ ?_ |refine ZW (v:=?_) rfl rfl rfl ?_ ?_);rotate_left;·(intro _ _;go_simp;(try go_bits);(try with_reducible rfl))|refine ZZ rfl rfl rfl ?_ |refine ZK rfl rfl rfl (by assumption) ?_);(try simp only [py]))
   obtain ⟨t0,t1,t2⟩:=R.three;obtain ⟨f0,f1,f2⟩:=R.threeF;refine Zt rfl rfl (fun _ kq=>?_);go_simp;refine kq.out _ _ (.inl (by decide)) ?_;clear kq;(try simp only [py]);refine Yf ?_;go_wp2_with fail
   go_meet
   exact Ybm.mk R O k P
 case rest=>
  obtain ⟨g,A1,n1,c1,rfl,hg,hB,aa,q⟩:=hcut;have ag:=a1.later q;have a3:=M.later q;have a4:=N.later q;have D:=Za t q t.size;have a5:=a2.below q;have ao:w.heap.size+1+1 < g:=by have:=N.lt;omega
  have a6:=t.size;obtain ⟨y0,y1,y2⟩:=a3.three;clear a1 M N a2;go_wp2_with fail;refine (Zah _ _ s (zL p s) _ (X.out.below D) a5 ae.out ad.out).mono ?_;rintro _ w7 ⟨rfl,C⟩;have u:=hB.later C;have d:=a4.later C;have T:=aa.below C;have v:=Za D C D.size;clear y0 y1 y2 ag a3 a5 hB a4 aa D C q;obtain ⟨q0,q1,q2⟩:=u.three;obtain ⟨g0,g1,g2⟩:=u.threeF
  cases ha:UE s (zL p s) (zL p s).length with
  | true=>
   have HQ:Hid (settleQ p s=⟨s.phase,s.basis,s.pivots⟩):=JZ (by unfold settleQ;rw [ha];rfl);obtain ⟨r0,r1,r2⟩:=d.three;obtain ⟨f0,f1,f2⟩:=d.threeF;go_wp2;refine Zp Tryz.results40 Tryz.underlying29 (by kernel_rfl) rfl (((d.set_ 0 _).set_ 1 _).set_ 2 _) rfl ?_;rw [HQ.out];have k4:=((Zg.setCell d 0 (.int .i64 s.phase)).trans (Zg.setCell (d.set_ 0 (.int .i64 s.phase)) 1 (.slice A1 n1 c1))).trans (Zg.setCell ((d.set_ 0 (.int .i64 s.phase)).set_ 1 (.slice A1 n1 c1)) 2 (.int .i64 s.pivots));exact ⟨_,rfl,⟨A1,n1,c1,rfl,(T.but k4 (by decide)).monoB a6⟩,((v.setCell (p:=⟨w.heap.size+1+1,0,none⟩) (by simp;omega) _).setCell (p:=⟨w.heap.size+1+1,1,none⟩) (by simp;omega) _).setCell (p:=⟨w.heap.size+1+1,2,none⟩) (by simp;omega) _⟩
  | false=>
   have HQ:Hid (settleQ p s=⟨2,s.basis,s.pivots⟩):=JZ (by unfold settleQ;rw [ha];rfl)
   go_upto_region 5 with (fail)
   have ah:Bk (w7.setCell ⟨g,0,none⟩ (.int .i64 2)) g 29 [.int .i64 2,.slice A1 n1 c1,.int .i64 s.pivots]:=u.set_ 0 (.int .i64 2);have ai:=T.but (Zg.setCell u 0 (.int .i64 2)) (by decide);have m:=d.far (p:=⟨g,0,none⟩) (show w.heap.size+1+1≠g by omega) (.int .i64 2);have a7:=v.setCell (p:=⟨g,0,none⟩) (show w.heap.size≤g by omega) (.int .i64 2);clear q0 q1 q2 g0 g1 g2 u T d v;generalize w7.setCell ⟨g,0,none⟩ (.int .i64 2)=W8 at *;obtain ⟨q0,q1,q2⟩:=ah.three;obtain ⟨r0,r1,r2⟩:=m.three;obtain ⟨f0,f1,f2⟩:=m.threeF;go_wp2;refine Zp Tryz.results40 Tryz.underlying29 (by kernel_rfl) rfl (((m.set_ 0 _).set_ 1 _).set_ 2 _) rfl ?_;rw [HQ.out];have k4:=((Zg.setCell m 0 (.int .i64 2)).trans (Zg.setCell (m.set_ 0 (.int .i64 2)) 1 (.slice A1 n1 c1))).trans (Zg.setCell ((m.set_ 0 (.int .i64 2)).set_ 1 (.slice A1 n1 c1)) 2 (.int .i64 s.pivots));exact ⟨_,rfl,⟨A1,n1,c1,rfl,(ai.but k4 (by decide)).monoB a6⟩,((a7.setCell (p:=⟨w.heap.size+1+1,0,none⟩) (by simp;omega) _).setCell (p:=⟨w.heap.size+1+1,1,none⟩) (by simp;omega) _).setCell (p:=⟨w.heap.size+1+1,2,none⟩) (by simp;omega) _⟩
theorem ZP.shape {base:Nat} {w:World} {v:Value} {zs:List Int} (h:ZP base w v zs) (hp:0 < zs.length):∃g c,v= .slice (some ⟨g,0,none⟩) zs.length c∧base≤g∧g < w.heap.size∧zs.length≤c∧c≤9223372036854775807:=by
 rcases h.1.2 with ⟨rfl,e⟩ | ⟨g,cap,cur,rfl,hb,hg,hnc,hcm,hcs,htake⟩
 ·omega
 ·unfold maxLen at hcm;exact ⟨g,cap,rfl,hb,YA hg,hnc,by omega⟩
theorem ZP.len {base:Nat} {w:World} {A:Option Addr} {n c:Nat} {zs:List Int} (h:ZP base w (.slice A n c) zs):n=zs.length:=(UD.of_own h.1).len
theorem ZP.at_ {base:Nat} {w:World} {g n c:Nat} {zs:List Int} (h:ZP base w (.slice (some ⟨g,0,none⟩) n c) zs) {k:Nat} {z:Int} (hz:zs[k]? =some z):
 w.cell? ⟨g,k,none⟩=some (.int .i64 z)∧w.frozen? ⟨g,k,none⟩=false∧ -9223372036854775808≤z∧z≤9223372036854775807:=by
 have hn:=h.len;obtain ⟨h1,h2⟩:=h;subst hn;obtain ⟨c1,c2⟩:=ZV h1 (j:=k) (u:= .int .i64 z) (by simp [hz]);exact ⟨c1,c2,h2 z (List.mem_of_getElem? hz)⟩
theorem ZP.base {base:Nat} {w:World} {g n c:Nat} {zs:List Int} (h:ZP base w (.slice (some ⟨g,0,none⟩) n c) zs):base≤g:=by
 have hn:=h.len;obtain ⟨h1,h2⟩:=h;subst hn;obtain ⟨_,_,h3⟩:=Ye h1;exact h3
theorem ZP.set_ {base:Nat} {w:World} {g n c:Nat} {zs:List Int} (h:ZP base w (.slice (some ⟨g,0,none⟩) n c) zs) {k:Nat} (hk:k < zs.length) {z:Int} (h0: -9223372036854775808≤z) (h1:z≤9223372036854775807):
 ZP base (w.setCell ⟨g,k,none⟩ (.int .i64 z)) (.slice (some ⟨g,0,none⟩) n c) (zs.set k z)∧Zg 3 w (w.setCell ⟨g,k,none⟩ (.int .i64 z)):=by
 have hn:=h.len;obtain ⟨g1,g2⟩:=h;subst hn;have o1:=XC g1 k (.int .i64 z) (by simpa using hk);obtain ⟨_,b0,_⟩:=Ye g1;refine ⟨⟨by rw [List.length_set,List.map_set];exact o1,fun y hy=>?_⟩,Zg.setCell b0 k _⟩;rcases List.mem_or_eq_of_mem_set hy with hy | rfl
 ·exact g2 y hy
 ·exact ⟨h0,h1⟩
theorem ZP.others {base:Nat} {w w':World} {g:Option Nat} {v:Value} {zs:List Int} (h:ZP base w v zs) (ho:Yi g w w') (hne:∀b,v.ownBlock=some b→some b≠g):ZP base w' v zs:=by
 refine ⟨⟨h.1.1,?_⟩,h.2⟩;rcases h.1.2 with hn | ⟨b,cap,cur,rfl,hb',hgg,rest⟩
 ·exact .inl hn
 ·exact .inr ⟨b,cap,cur,rfl,hb',(ho.2 b (YA hgg) (hne b rfl)).trans hgg,rest⟩
def zic (n:Nat):Array Value:=madeCells (Value.cells (.int .i64 0)) (n * 1)
theorem Ymq {n k:Nat} (hk:k < n):(zic n)[k]? =some (.int .i64 0):=by
 unfold zic madeCells;simp [hk,Value.cells,Nat.mod_one]
theorem ZP.zeros (w:World) (n:Nat) (hn:n≤maxLen):ZP w.heap.size (w.alloc (.cells (zic n) 3)) (.slice (some ⟨w.heap.size,0,none⟩) n n) (List.replicate n 0):=by
 have a:(zic n).size=n * 1:=size_madeCells _ _;refine ⟨⟨by simp,.inr ⟨w.heap.size,n,zic n,by simp,JY _,heap_alloc_new w _,by simp,hn,by simpa using a,?_⟩⟩,fun z hz=>?_⟩
 ·refine List.ext_getElem? fun i=>?_
  rcases JX i n with e | e
  ·have:=Ymq e;simp [List.getElem?_take,e,this]
  ·rw [JU (by simp [a];omega),JU (by simp;omega)]
 ·have:=List.eq_of_mem_replicate hz;omega
theorem Zps (n:Nat) (hn:n≤1099511627776) (w:World):
 (Instr.makeSlice 22 (.int .i64 (n:Int)) (.int .i64 (n:Int))).run Tryz.prog w= .ok (.slice (some ⟨w.heap.size,0,none⟩) n n) (w.alloc (.cells (zic n) 3)):=by
 obtain ⟨i0,hi,a,b,c⟩:=info_parts info_intT;have hb:(i0.bytes:Int) * (n:Int)≤281474976710656:=by rw [c];omega
 have hr:=run_make (P:=Tryz.prog) w 22 3 i0 _ Tryz.underlying22 hi a .i64 .i64 n n (by omega) (by omega) hb (by omega);simp only [JP,b] at hr;exact hr
def ElM (base:Nat) (w:World) (ge n:Nat) (va vr vc:Value) (M:Nat→Nat→RF) (G D:Nat→Nat) (rp cp:List Int):Prop:=
 Bk w ge 174 [.int .i64 (n:Int),va,vr,vc]∧Zgr base w va n n M G D∧ZP base w vr rp∧ZP base w vc cp∧rp.length=n∧cp.length=n
theorem ElM.below {base:Nat} {w w':World} {ge n:Nat} {va vr vc:Value} {M:Nat→Nat→RF} {G D:Nat→Nat} {rp cp:List Int} (h:ElM base w ge n va vr vc M G D rp cp) (hb:Below w.heap.size w w'):ElM base w' ge n va vr vc M G D rp cp:=
 ⟨h.1.later hb,h.2.1.below hb,h.2.2.1.below hb,h.2.2.2.1.below hb,h.2.2.2.2⟩
theorem Zw.numLen {w:World} {b b':Bool} {A A':Option Addr} {n c n' c':Nat} {f:RF} (h:Zw w (.agg #[.bool b,.slice A n c,.bool b',.slice A' n' c']) f):n=f.num.ds.length:=by
 obtain ⟨_,_,_,_,_,_,hv,h1,h2⟩:=h;simp at hv;obtain ⟨_,⟨rfl,rfl,rfl⟩,_,rfl,rfl,rfl⟩:=hv;obtain ⟨e1,e2,_,_⟩:=h1.len;omega
namespace Pl
def Zxn (rp cp:List Int) (M:Nat→Nat→RF) (i j:Nat):Bool:=decide (rp.getD i 0 < 0) && (decide (cp.getD j 0 < 0) && decide (0 < (M i j).num.ds.length))
theorem Zjc {l:List Int} {i:Nat} {z:Int} (h:l[i]? =some z):l.getD i 0=z:=by simp [List.getD,h]
theorem Wt {l:List Int} {i:Nat} (h:i < l.length):∃z,l[i]? =some z:=⟨l[i],JQ h⟩
theorem Ymr {x y:Int} (h1: -100≤x) (h2:x≤100) (h3: -100≤y) (h4:y≤100): -10000≤x * y∧x * y≤10000:=by
 have a:=Int.mul_nonneg (show 0≤100 - x by omega) (show 0≤100 - y by omega);have b:=Int.mul_nonneg (show 0≤100 - x by omega) (show 0≤100+y by omega);have c:=Int.mul_nonneg (show 0≤100+x by omega) (show 0≤100 - y by omega);have d:=Int.mul_nonneg (show 0≤100+x by omega) (show 0≤100+y by omega);constructor <;> grind
end Pl
theorem Zlb (base ge n:Nat) (va vr vc:Value) (M:Nat→Nat→RF) (G D:Nat→Nat) (rp cp:List Int) (i j:Nat) (w:World) (h:ElM base w ge n va vr vc M G D rp cp) (hi:i < n) (hj:j < n):
 Calls Tryz.prog 169 #[.pointer (some ⟨ge,0,none⟩),.int .i64 (i:Int),.int .i64 (j:Int)] w fun o w'=>o= .returned (.bool (Zxn rp cp M i j))∧Below w.heap.size w w':=by
 obtain ⟨hB,hM,hR,hC,f,g⟩:=h;obtain ⟨go,co,rfl,_,_,p,q,a⟩:=hM.outer (by omega);obtain ⟨m1,m2⟩:=a i hi;obtain ⟨A1,n1,c1,A2,n2,c2,⟨x0,x1,x2,x3⟩,hf⟩:=hM.at_ hi hj;obtain ⟨l1,l2,l3,l4⟩:=hM.lt hi (by omega);have e:=hf.numLen;obtain ⟨gr,cr,rfl,_,_,k,x⟩:=hR.shape (by omega);obtain ⟨gc,cc,rfl,_,_,m,y⟩:=hC.shape (by omega);obtain ⟨zi,c⟩:=Wt (l:=rp) (i:=i) (by omega);obtain ⟨zj,d⟩:=Wt (l:=cp) (i:=j) (by omega);obtain ⟨r0,_,_,_⟩:=hR.at_ c;obtain ⟨k0,_,_,_⟩:=hC.at_ d;obtain ⟨b0,b1,b2,b3⟩:=hB.four;have b:Zxn rp cp M i j=(decide (zi < 0) && (decide (zj < 0) && decide (0 < n1))):=by unfold Zxn;rw [Zjc c,Zjc d,e]
 rw [b];unfold X7 at m1;have r:(i:Int) < n:=by omega
 have s:(j:Int) < n:=by omega
 rw [f] at b2 k;rw [g] at b3 m;clear b e c d hf a hM hR hC hB m2 f g;generalize G i=gi at *;generalize D i=di at *;by_cases c1':zi < 0
 ·by_cases c2':zj < 0
  ·by_cases c3':0 < n1
   ·have t:(0:Int) < n1:=(by omega);go_enter Tryz.func169,Tryz.ntmps169;go_wp2;go_ret;exact ⟨by simp [c1',c2',c3'],JR _ _⟩
   ·obtain rfl:n1=0:=by omega
    go_enter Tryz.func169,Tryz.ntmps169;go_wp2;go_ret;exact ⟨by simp,JR _ _⟩
  ·have u:0≤zj:=(by omega);go_enter Tryz.func169,Tryz.ntmps169;go_wp2;go_ret;exact ⟨by simp;intro h;omega,JR _ _⟩
 ·have v:0≤zi:=by omega
  go_enter Tryz.func169,Tryz.ntmps169;go_wp2;go_ret;exact ⟨by simp;intro h;omega,JR _ _⟩
def Yoe (V:World) (n:Nat) (s5 s6:Value) (wx:World):Prop:=
 ∃g5 g6,s5= .slice (some ⟨g5,0,none⟩) n n∧s6= .slice (some ⟨g6,0,none⟩) n n∧g5≠g6∧ZP V.heap.size wx (.slice (some ⟨g5,0,none⟩) n n) (List.replicate n 0)∧ZP V.heap.size wx (.slice (some ⟨g6,0,none⟩) n n) (List.replicate n 0)∧Below V.heap.size V wx
def Zfj (w:World) (n g5 g6:Nat) (N:Int) (wr:World):Prop:=
 ∃zs ys:List Int,zs.length=n∧ys.length=n∧(∀z∈zs,0≤z∧z≤N)∧(∀z∈ys,0≤z∧z≤N)∧ZP w.heap.size wr (.slice (some ⟨g5,0,none⟩) n n) zs∧ZP w.heap.size wr (.slice (some ⟨g6,0,none⟩) n n) ys∧Below w.heap.size w wr
theorem Zfj.mono {w wr:World} {n g5 g6:Nat} {N N':Int} (h:Zfj w n g5 g6 N wr) (hn:N≤N'):Zfj w n g5 g6 N' wr:=by
 obtain ⟨zs,ys,h1,h2,h3,h4,h5⟩:=h;exact ⟨zs,ys,h1,h2,fun z hz=>⟨(h3 z hz).1,by have:=(h3 z hz).2;omega⟩,fun z hz=>⟨(h4 z hz).1,by have:=(h4 z hz).2;omega⟩,h5⟩
theorem Zfj.below {w wr w':World} {n g5 g6:Nat} {N:Int} (h:Zfj w n g5 g6 N wr) (hb:Below wr.heap.size wr w'):Zfj w n g5 g6 N w':=by
 obtain ⟨zs,ys,h1,h2,h3,h4,h5,h6,h7⟩:=h;exact ⟨zs,ys,h1,h2,h3,h4,h5.below hb,h6.below hb,Za h7 hb h7.size⟩
def Xf (n:Nat) (rp cp:List Int) (M:Nat→Nat→RF) (i j:Nat) (s2 s3 s4 s9:Value):Prop:=
 ∃(r c b:Int) (ok:Bool),s2= .int .i64 r∧s3= .int .i64 c∧s4= .bool ok∧s9= .int .i64 b∧(ok=true→∃r' c':Nat,r=r'∧c=c'∧r' < n∧c' < n∧Zxn rp cp M r' c'=true)∧
  (ok=false→∀i' j',j' < n→(i' < i∨(i'=i∧j' < j))→Zxn rp cp M i' j'=false)
theorem Xf.skip {n i j:Nat} {rp cp:List Int} {M:Nat→Nat→RF} {s2 s3 s4 s9:Value} (h:Xf n rp cp M i j s2 s3 s4 s9) (ha:Zxn rp cp M i j=false):Xf n rp cp M i (j+1) s2 s3 s4 s9:=by
 obtain ⟨r,c,b,ok,e2,e3,e4,e9,h1,h2⟩:=h;refine ⟨r,c,b,ok,e2,e3,e4,e9,h1,fun ho i' j' hj hl=>?_⟩;by_cases e:i'=i∧j'=j
 ·rw [e.1,e.2];exact ha
 ·exact h2 ho i' j' hj (by omega)
theorem Xf.skipT {n i j:Nat} {rp cp:List Int} {M:Nat→Nat→RF} {r c b:Int} {ok:Bool} (h:Xf n rp cp M i j (.int .i64 r) (.int .i64 c) (.bool ok) (.int .i64 b)):ok=true→Xf n rp cp M i (j+1) (.int .i64 r) (.int .i64 c) (.bool ok) (.int .i64 b):=by
 intro ht;obtain ⟨r',c',b',a,e2,e3,e4,e9,h1,h2⟩:=h;injection e4 with e4;subst e4;exact ⟨r',c',b',ok,e2,e3,rfl,e9,h1,fun ho=>by rw [ht] at ho;cases ho⟩
theorem Xf.take {n i j:Nat} {rp cp:List Int} {M:Nat→Nat→RF} {m:Int} (hi:i < n) (hj:j < n) (ha:Zxn rp cp M i j=true):Xf n rp cp M i (j+1) (.int .i64 i) (.int .i64 j) (.bool true) (.int .i64 m):=
 ⟨_,_,_,_,rfl,rfl,rfl,rfl,fun _=>⟨i,j,rfl,rfl,hi,hj,ha⟩,fun ho=>by cases ho⟩
theorem Xf.row {n i:Nat} {rp cp:List Int} {M:Nat→Nat→RF} {s2 s3 s4 s9:Value} (h:Xf n rp cp M i n s2 s3 s4 s9):Xf n rp cp M (i+1) 0 s2 s3 s4 s9:=by
 obtain ⟨r,c,b,ok,e2,e3,e4,e9,h1,h2⟩:=h;exact ⟨r,c,b,ok,e2,e3,e4,e9,h1,fun ho i' j' hj hl=>h2 ho i' j' hj (by omega)⟩
def Zxo (n:Nat) (rp cp:List Int) (M:Nat→Nat→RF) (w:World) (o:Ending) (w':World):Prop:=
 ∃(r c:Int) (ok:Bool),o= .returned (.tuple #[.int .i64 r,.int .i64 c,.bool ok])∧(ok=true→∃r' c':Nat,r=r'∧c=c'∧r' < n∧c' < n∧Zxn rp cp M r' c'=true)∧
  (ok=false→∀i' j',i' < n→j' < n→Zxn rp cp M i' j'=false)∧Below w.heap.size w w'
theorem Zxp (base ge n:Nat) (va vr vc:Value) (M:Nat→Nat→RF) (G D:Nat→Nat) (rp cp:List Int) (w:World) (h:ElM base w ge n va vr vc M G D rp cp) (hn:n≤7):
 Calls Tryz.prog 155 #[.pointer (some ⟨ge,0,none⟩)] w (Zxo n rp cp M w):=by
 have HE:=JZ h;have HB:=JZ h.1;have ah:=Zps n (by omega);obtain ⟨b0,b1,b2,b3⟩:=h.1.four;clear h b1 b2 b3;go_enter Tryz.func155,Tryz.ntmps155
 go_upto_region 1 with (fail)
 go_cut [5,6] (fun s5 s6 wx=>Yoe w n s5 s6 wx)
 case first=>
  have C0:=Zl b0;have B:=Zj w;clear b0;refine Xl 12 (.go 0 (.go 1 (.go 2 (.go 3 (.go 5 (.go 6 (.go 7 (.go 8 (.fork 4 (.go 10 (.go 9 (.go 11 .done))) 9 (.go 4 (.go 10 (.go 11 .done)))))))))))) (by kernel_rfl) (by kernel_rfl) ?_;repeat ((first|(first|refine ZJ (v:=?_) rfl rfl rfl ?_ ?_ |refine ZW (v:=?_) rfl rfl rfl ?_ ?_);rotate_left;·(intro _ _;go_simp;(try go_bits);(try with_reducible rfl))|refine ZZ rfl rfl rfl ?_ |refine ZK rfl rfl rfl (by assumption) ?_);(try simp only [py]))
  refine XH rfl rfl (fun _ kq=>?_) (fun _ kq=>?_)
  ·have a:=ZP.zeros w.drew n (by unfold maxLen;omega);have s:=Zi w.drew (.cells (zic n) 3);obtain ⟨W5,F⟩:∃W5,w.drew.alloc (.cells (zic n) 3)=W5:=⟨_,rfl⟩;have U:W5.heap.size=w.drew.heap.size+1:=(by rw [← F];simp);rw [F] at a s;have C:=Za B s B.size;have K:=B.size;go_simp;refine kq.out _ _ (.inr C) ?_;clear kq F;(try simp only [py]);replace a:=a.monoB K;repeat ((first|(first|refine ZJ (v:=?_) rfl rfl rfl ?_ ?_ |refine ZW (v:=?_) rfl rfl rfl ?_ ?_);rotate_left;·(intro _ _;go_simp;(try go_bits);(try with_reducible rfl))|refine ZZ rfl rfl rfl ?_ |refine ZK rfl rfl rfl (by assumption) ?_);(try simp only [py]))
   have d:=ZP.zeros W5 n (by unfold maxLen;omega);have t:=Zi W5 (.cells (zic n) 3);obtain ⟨W6,H⟩:∃W6,W5.alloc (.cells (zic n) 3)=W6:=⟨_,rfl⟩;have V:W6.heap.size=W5.heap.size+1:=(by rw [← H];simp);rw [H] at d t;have E:=Za C t C.size;have L:=C.size;refine Zt rfl rfl (fun _ kq=>?_);go_simp;refine kq.out _ _ (.inr E) ?_;clear kq H;(try simp only [py]);replace a:=a.below t;replace d:=d.monoB L;rw [U] at d;repeat ((first|(first|refine ZJ (v:=?_) rfl rfl rfl ?_ ?_ |refine ZW (v:=?_) rfl rfl rfl ?_ ?_);rotate_left;·(intro _ _;go_simp;(try go_bits);(try with_reducible rfl))|refine ZZ rfl rfl rfl ?_ |refine ZK rfl rfl rfl (by assumption) ?_);(try simp only [py]))
   refine Yf ?_;go_wp2_with fail
   go_meet
   exact ⟨_,_,rfl,rfl,by first | omega | (simp at *;omega),a,d,E⟩
  ·have d:=ZP.zeros w.drew n (by unfold maxLen;omega);have t:=Zi w.drew (.cells (zic n) 3);obtain ⟨W6,H⟩:∃W6,w.drew.alloc (.cells (zic n) 3)=W6:=⟨_,rfl⟩;have V:W6.heap.size=w.drew.heap.size+1:=(by rw [← H];simp);rw [H] at d t;have E:=Za B t B.size;have L:=B.size;go_simp;refine kq.out _ _ (.inr E) ?_;clear kq H;(try simp only [py]);replace d:=d.monoB L;have a:=ZP.zeros W6 n (by unfold maxLen;omega);have s:=Zi W6 (.cells (zic n) 3);obtain ⟨W5,F⟩:∃W5,W6.alloc (.cells (zic n) 3)=W5:=⟨_,rfl⟩;have U:W5.heap.size=W6.heap.size+1:=(by rw [← F];simp);rw [F] at a s;have C:=Za E s E.size;have K:=E.size;refine Zt rfl rfl (fun _ kq=>?_);go_simp;refine kq.out _ _ (.inr C) ?_;clear kq F;(try simp only [py]);replace d:=d.below s;replace a:=a.monoB K;rw [V] at a;repeat ((first|(first|refine ZJ (v:=?_) rfl rfl rfl ?_ ?_ |refine ZW (v:=?_) rfl rfl rfl ?_ ?_);rotate_left;·(intro _ _;go_simp;(try go_bits);(try with_reducible rfl))|refine ZZ rfl rfl rfl ?_ |refine ZK rfl rfl rfl (by assumption) ?_);(try simp only [py]))
   refine Yf ?_;go_wp2_with fail
   go_meet
   exact ⟨_,_,rfl,rfl,by first | omega | (simp at *;omega),a,d,C⟩
 case rest=>
  clear ah b0;obtain ⟨g5,g6,rfl,rfl,ap,a,d,hb⟩:=hcut;have a4:Zfj w n g5 g6 0 wc:=⟨_,_,by simp,by simp,fun z hz=>by have:=List.eq_of_mem_replicate hz;omega,fun z hz=>by have:=List.eq_of_mem_replicate hz;omega,a,d,hb⟩;obtain ⟨b0,_,_,_⟩:=(HB.out.later hb).four;clear a d hb;go_wp2;clear b0
  go_loopw [27] (fun x wr=>∃i:Nat,i≤n∧x= .int .i64 i∧Zfj w n g5 g6 (8 * i) wr) (fun x _=>n - (intOf x).toNat)
  case atStart=>exact ⟨0,by omega,rfl,a4⟩
  case round=>
   clear a4;obtain ⟨i,hi,rfl,hc⟩:=hrel;rcases JX i n with hil | hil
   ·have ai:(i:Int) < n:=(by omega);have f:Below w.heap.size w wr:=(by obtain ⟨_,_,_,_,_,_,_,_,h⟩:=hc;exact h);obtain ⟨b0,_,_,_⟩:=(HB.out.later f).four;clear f;go_wp2;clear b0
    go_loopw [34] (fun x wr=>∃j:Nat,j≤n∧x= .int .i64 j∧Zfj w n g5 g6 (8 * i+j) wr) (fun x _=>n - (intOf x).toNat)
    case atStart=>exact ⟨0,by omega,rfl,by simpa using hc⟩
    case round=>
     clear hc;obtain ⟨j,hj,rfl,hc⟩:=hrel;rcases JX j n with hjl | hjl
     ·have aj:(j:Int) < n:=(by omega);have f:Below w.heap.size w wr:=(by obtain ⟨_,_,_,_,_,_,_,_,h⟩:=hc;exact h);have N:=HE.out.below f;clear f;go_wp2_with fail;refine (Zlb base ge n va vr vc M G D rp cp i j _ N hil hjl).mono ?_;rintro _ w1 ⟨rfl,S⟩;have o:=hc.below S;clear hc S N
      cases hact:Zxn rp cp M i j
      ·clear hact;go_wp2;go_roundw
       case rel=>exact ⟨j+1,by omega,by go_num,o.mono (by omega)⟩
       case measure=>simp [intOf];omega
      ·clear hact;obtain ⟨zs,ys,af,ag,I,J,a,d,f⟩:=o;obtain ⟨z,hz⟩:=Wt (l:=zs) (i:=i) (by omega);obtain ⟨y,hy⟩:=Wt (l:=ys) (i:=j) (by omega);obtain ⟨x0,f0,_,_⟩:=a.at_ hz;have O:=I z (List.mem_of_getElem? hz);have P:=J y (List.mem_of_getElem? hy);obtain ⟨Y,_⟩:=a.set_ (k:=i) (z:=z+1) (by omega) (by omega) (by omega);have R:=d.others (Yi.of_set (g:=g5) (i:=i) (v:= .int .i64 (z+1)) (w:=w1)) (fun b hb e=>by simp [Value.ownBlock] at hb;injection e with e;omega);have ak:=a.base;have al:=d.base;have X:=f.setCell (p:=⟨g5,i,none⟩) ak (.int .i64 (z+1));clear a d f;have a5:=O.1;have a6:=O.2;have a7:=P.1;have a8:=P.2;have a9:∀x∈zs.set i (z+1),0≤x∧x≤8 * (i:Int)+((j+1:Nat):Int):=fun x hx=>by
        rcases List.mem_or_eq_of_mem_set hx with hx | rfl
        ·have:=I x hx;omega
        ·omega
       have aa:∀x∈ys.set j (y+1),0≤x∧x≤8 * (i:Int)+((j+1:Nat):Int):=fun x hx=>by
        rcases List.mem_or_eq_of_mem_set hx with hx | rfl
        ·have:=J x hx;omega
        ·omega
       have am:=JZ a9;have an:=JZ aa;clear I J a9 aa O P
       go_upto_region 10 with (fail)
       clear x0 f0;generalize w1.setCell ⟨g5,i,none⟩ (.int .i64 (z+1))=W9 at *;obtain ⟨x0,f0,_,_⟩:=R.at_ hy;obtain ⟨a3,_⟩:=R.set_ (k:=j) (z:=y+1) (by omega) (by omega) (by omega);have Z:=Y.others (Yi.of_set (g:=g6) (i:=j) (v:= .int .i64 (y+1)) (w:=W9)) (fun b hb e=>by simp [Value.ownBlock] at hb;injection e with e;omega);have a0:=X.setCell (p:=⟨g6,j,none⟩) al (.int .i64 (y+1));clear Y R X;go_wp2;go_roundw
       case rel=>exact ⟨j+1,by omega,by go_num,_,_,by rw [List.length_set];exact af,by rw [List.length_set];exact ag,am.out,an.out,Z,a3,a0⟩
       case measure=>simp [intOf];omega
     ·obtain rfl:n=j:=by omega
      have o:Zfj w n g5 g6 (8 * ((i+1:Nat):Int)) wr:=hc.mono (by omega);clear hc;go_wp2;go_roundw
      case rel=>exact ⟨i+1,by omega,by go_num,o⟩
      case measure=>simp [intOf];omega
   ·obtain rfl:n=i:=by omega
    have o:Zfj w n g5 g6 100 wr:=hc.mono (by omega);have f:Below w.heap.size w wr:=(by obtain ⟨_,_,_,_,_,_,_,_,h⟩:=hc;exact h);obtain ⟨b0,_,_,_⟩:=(HB.out.later f).four;clear f hc;have q:Xf n rp cp M 0 0 (.int .i64 0) (.int .i64 0) (.bool false) (.int .i64 0):=⟨0,0,0,false,rfl,rfl,rfl,rfl,(fun h=>by cases h),fun _ i' j' _ h=>by omega⟩;go_wp2;clear b0
    go_loopw [2,3,4,9,59] (fun s2 s3 s4 s9 x wr=>∃i:Nat,i≤n∧x= .int .i64 i∧Xf n rp cp M i 0 s2 s3 s4 s9∧Zfj w n g5 g6 100 wr) (fun _ _ _ _ x _=>n - (intOf x).toNat)
    case atStart=>exact ⟨0,by omega,rfl,q,o⟩
    case round=>
     clear o q;obtain ⟨i,hi,rfl,q,hc⟩:=hrel;rcases JX i n with hil | hil
     ·have ai:(i:Int) < n:=(by omega);have f:Below w.heap.size w wr:=(by obtain ⟨_,_,_,_,_,_,_,_,h⟩:=hc;exact h);obtain ⟨b0,_,_,_⟩:=(HB.out.later f).four;clear f;go_wp2;clear b0
      go_loopw [2,3,4,9,66] (fun s2 s3 s4 s9 x wr=>∃j:Nat,j≤n∧x= .int .i64 j∧Xf n rp cp M i j s2 s3 s4 s9∧Zfj w n g5 g6 100 wr) (fun _ _ _ _ x _=>n - (intOf x).toNat)
      case atStart=>exact ⟨0,by omega,rfl,q,hc⟩
      case round=>
       clear hc q;obtain ⟨j,hj,rfl,q,hc⟩:=hrel;rcases JX j n with hjl | hjl
       ·have aj:(j:Int) < n:=(by omega);have f:Below w.heap.size w wr:=(by obtain ⟨_,_,_,_,_,_,_,_,h⟩:=hc;exact h);have N:=HE.out.below f;have ab:=JZ q;obtain ⟨r,c,b,ok,rfl,rfl,rfl,rfl,u,A⟩:=q;have ac:=JZ u;have ad:=JZ A;clear f u A;go_wp2_with fail;refine (Zlb base ge n va vr vc M G D rp cp i j _ N hil hjl).mono ?_;rintro _ w1 ⟨rfl,S⟩;have o:=hc.below S;clear hc S N
        cases hact:Zxn rp cp M i j
        ·have T:Xf n rp cp M i (j+1) (.int .i64 r) (.int .i64 c) (.bool ok) (.int .i64 b):=Xf.skip ab.out hact;have a1:=JZ T;clear hact T;go_wp2;go_roundw
         case rel=>exact ⟨j+1,by omega,by go_num,a1.out,o⟩
         case measure=>simp [intOf];omega
        ·have ao:=JZ (Xf.skipT ab.out);have ae:Hid (∀m,Xf n rp cp M i (j+1) (.int .i64 i) (.int .i64 j) (.bool true) (.int .i64 m)):=JZ fun m=>Xf.take hil hjl hact
         clear hact;have a2:=JZ o;obtain ⟨zs,ys,af,ag,I,J,a,d,f⟩:=o;obtain ⟨z,hz⟩:=Wt (l:=zs) (i:=i) (by omega);obtain ⟨y,hy⟩:=Wt (l:=ys) (i:=j) (by omega);obtain ⟨x0,_,_,_⟩:=a.at_ hz;obtain ⟨y0,_,_,_⟩:=d.at_ hy;have O:=I z (List.mem_of_getElem? hz);have P:=J y (List.mem_of_getElem? hy);obtain ⟨a5,a6⟩:=O;obtain ⟨a7,a8⟩:=P;obtain ⟨aq,ar⟩:=Ymr (x:=z - 1) (y:=y - 1) (by omega) (by omega) (by omega) (by omega);clear a d f I J hz hy
         go_upto_region 21 with (fail)
         have C0:=Zl x0;have C1:=Zl y0;have B:=Zj w1;clear x0 y0;refine Zn 12 [0,1,2,3,4,5,6,7,8,9,10,11] (by kernel_rfl) (by kernel_rfl) ?_;repeat ((first|(first|refine Zb (v:=?_) rfl rfl rfl ?_ ?_ |refine Zd (v:=?_) rfl rfl rfl ?_ ?_);rotate_left;·(intro _ _;go_simp;(try go_bits);(try with_reducible rfl))|refine Ze rfl rfl rfl ?_);(try simp only [py]))
         refine Zv ?_;clear C0 C1;generalize (z - 1) * (y - 1)=mm at *
         cases ok
         ·go_wp2;go_roundw
          case rel=>exact ⟨j+1,by omega,by go_num,ae.out _,a2.out.below (Zj _)⟩
          case measure=>simp [intOf];omega
         ·by_cases au:mm < b
          ·go_wp2;go_roundw
           case rel=>exact ⟨j+1,by omega,by go_num,ae.out _,a2.out.below (Zj _)⟩
           case measure=>simp [intOf];omega
          ·go_wp2;go_roundw
           case rel=>exact ⟨j+1,by omega,by go_num,ao.out rfl,a2.out.below (Zj _)⟩
           case measure=>simp [intOf];omega
       ·obtain rfl:n=j:=by omega
        have T:=Xf.row q;clear q;obtain ⟨r,c,b,ok,rfl,rfl,rfl,rfl,u,A⟩:=T;have a1:Hid (Xf n rp cp M (i+1) 0 (.int .i64 r) (.int .i64 c) (.bool ok) (.int .i64 b)):=JZ ⟨r,c,b,ok,rfl,rfl,rfl,rfl,u,A⟩;clear u A;go_wp2;go_roundw
        case rel=>exact ⟨i+1,by omega,by go_num,a1.out,hc⟩
        case measure=>simp [intOf];omega
     ·obtain rfl:n=i:=by omega
      obtain ⟨r,c,b,ok,rfl,rfl,rfl,rfl,u,A⟩:=q;have ac:=JZ u;have ad:=JZ A;have f:Below w.heap.size w wr:=(by obtain ⟨_,_,_,_,_,_,_,_,h⟩:=hc;exact h);clear u A hc;go_wp2;(try simp only [Exit.inBlock,Exit.then]);refine bodyPost_ret (results_tmp3 rfl _ _ _) rfl ?_;exact ⟨r,c,ok,rfl,ac.out,fun h i' j' h1 h2=>ad.out h i' j' h2 (.inl h1),f⟩
theorem Zuy (T:TypeId) (w:World) (n:Nat) (hn:n≤maxLen):(w.alloc (.cells (zvc n) T)).ownsRow w.heap.size T 1 (.slice (some ⟨w.heap.size,0,none⟩) n n) n (List.replicate n (.slice none 0 0)):=by
 have a:(zvc n).size=n * 1:=size_madeCells _ _;refine ⟨by simp,.inr ⟨w.heap.size,n,zvc n,by simp,JY _,heap_alloc_new w _,by simp,hn,by simpa using a,?_⟩⟩;refine List.ext_getElem? fun i=>?_
 rcases JX i n with e | e
 ·have:=Yhj e;simp [List.getElem?_take,e,this]
 ·rw [JU (by simp [a];omega),JU (by simp;omega)]
theorem Ybn (n:Nat) (hn:n≤1099511627776) (w:World):
 (Instr.makeSlice 113 (.int .i64 (n:Int)) (.int .i64 (n:Int))).run Tryz.prog w= .ok (.slice (some ⟨w.heap.size,0,none⟩) n n) (w.alloc (.cells (zvc n) 23)):=by
 obtain ⟨i0,hi,a,b,c⟩:=info_parts info_rowT;have hb:(i0.bytes:Int) * (n:Int)≤281474976710656:=by rw [c];omega
 have hr:=run_make (P:=Tryz.prog) w 113 23 i0 _ Tryz.underlying113 hi a .i64 .i64 n n (by omega) (by omega) hb (by omega);simp only [JP,b] at hr;exact hr
def MkR (U:World) (n:Nat) (D:Nat→Prop) (s29 s31 s33 s34 s5:Value) (w:World):Prop:=
 Below U.heap.size U w∧(D 2→∃g,s29= .slice (some ⟨g,0,none⟩) n n∧w.ownsRow U.heap.size 23 1 (.slice (some ⟨g,0,none⟩) n n) n (List.replicate n (.slice none 0 0)))∧
  (D 4→∃g,s31= .slice (some ⟨g,0,none⟩) n n∧g < w.heap.size∧ZP U.heap.size w (.slice (some ⟨g,0,none⟩) n n) (List.replicate n 0))∧
  (D 6→∃g,s33= .slice (some ⟨g,0,none⟩) n n∧g < w.heap.size∧ZP U.heap.size w (.slice (some ⟨g,0,none⟩) n n) (List.replicate n 0))∧
  (D 7→(D 2∧D 4∧D 6)∧s34= .agg #[.int .i64 (n:Int),s29,s31,s33])∧(D 8→∃g,s5= .pointer (some ⟨g,0,none⟩)∧U.heap.size≤g∧Bk w g 174 [.int .i64 0,.slice none 0 0,.slice none 0 0,.slice none 0 0])∧(D 4→D 6→s31≠s33)
theorem MkR.later {U w w':World} {n:Nat} {D:Nat→Prop} {s1 s2 s3 s4 s5:Value} (h:MkR U n D s1 s2 s3 s4 s5 w) (hb:Below w.heap.size w w'):MkR U n D s1 s2 s3 s4 s5 w':=by
 obtain ⟨h0,h1,h2,h3,h4,h5,h6⟩:=h;have hs:=hb.size;refine ⟨Za h0 hb h0.size,fun d=>?_,fun d=>?_,fun d=>?_,h4,fun d=>?_,h6⟩
 ·obtain ⟨g,e,k⟩:=h1 d;exact ⟨g,e,own_below k hb⟩
 ·obtain ⟨g,e,k,l⟩:=h2 d;exact ⟨g,e,by omega,l.below hb⟩
 ·obtain ⟨g,e,k,l⟩:=h3 d;exact ⟨g,e,by omega,l.below hb⟩
 ·obtain ⟨g,e,k,l⟩:=h5 d;exact ⟨g,e,k,l.later hb⟩
theorem MkR.set2 {U w:World} {n:Nat} {D:Nat→Prop} {s1 s2 s3 s4 s5:Value} (h:MkR U n D s1 s2 s3 s4 s5 w) (hn:n≤maxLen) (hd:¬D 2):MkR U n (fun k=>D k∨k=2) (.slice (some ⟨w.heap.size,0,none⟩) n n) s2 s3 s4 s5 (w.alloc (.cells (zvc n) 23)):=by
 have hz:=Zuy 23 w n hn;obtain ⟨h0,h1,h2,h3,h4,h5,h6⟩:=h.later (Zi w (.cells (zvc n) 23));exact ⟨h0,fun _=>⟨_,rfl,Y4 hz h.1.size⟩,fun d=>h2 (d.resolve_right (by decide)),fun d=>h3 (d.resolve_right (by decide)),fun d=>absurd (d.resolve_right (by decide)) (fun h7=>hd (h4 h7).1.1),fun d=>h5 (d.resolve_right (by decide)),fun d e=>h6 (d.resolve_right (by decide)) (e.resolve_right (by decide))⟩
theorem MkR.set4 {U w:World} {n:Nat} {D:Nat→Prop} {s1 s2 s3 s4 s5:Value} (h:MkR U n D s1 s2 s3 s4 s5 w) (hn:n≤maxLen) (hd:¬D 4):MkR U n (fun k=>D k∨k=4) s1 (.slice (some ⟨w.heap.size,0,none⟩) n n) s3 s4 s5 (w.alloc (.cells (zic n) 3)):=by
 have hz:=ZP.zeros w n hn;obtain ⟨h0,h1,h2,h3,h4,h5,h6⟩:=h.later (Zi w (.cells (zic n) 3));exact ⟨h0,fun d=>h1 (d.resolve_right (by decide)),fun _=>⟨_,rfl,by simp,hz.monoB h.1.size⟩,fun d=>h3 (d.resolve_right (by decide)),fun d=>absurd (d.resolve_right (by decide)) fun h7=>hd (h4 h7).1.2.1,fun d=>h5 (d.resolve_right (by decide)),fun _ e he=>by
  obtain ⟨g,e1,e2,_⟩:=h.2.2.2.1 (e.resolve_right (by decide));rw [e1] at he;injection he with he;injection he with he;injection he with he;omega⟩
theorem MkR.set6 {U w:World} {n:Nat} {D:Nat→Prop} {s1 s2 s3 s4 s5:Value} (h:MkR U n D s1 s2 s3 s4 s5 w) (hn:n≤maxLen) (hd:¬D 6):MkR U n (fun k=>D k∨k=6) s1 s2 (.slice (some ⟨w.heap.size,0,none⟩) n n) s4 s5 (w.alloc (.cells (zic n) 3)):=by
 have hz:=ZP.zeros w n hn;obtain ⟨h0,h1,h2,h3,h4,h5,h6⟩:=h.later (Zi w (.cells (zic n) 3));exact ⟨h0,fun d=>h1 (d.resolve_right (by decide)),fun d=>h2 (d.resolve_right (by decide)),fun _=>⟨_,rfl,by simp,hz.monoB h.1.size⟩,fun d=>absurd (d.resolve_right (by decide)) fun h7=>hd (h4 h7).1.2.2,fun d=>h5 (d.resolve_right (by decide)),fun e _ he=>by
  obtain ⟨g,e1,e2,_⟩:=h.2.2.1 (e.resolve_right (by decide));rw [e1] at he;injection he with he;injection he with he;injection he with he;omega⟩
theorem MkR.set8 {U w:World} {n:Nat} {D:Nat→Prop} {s1 s2 s3 s4 s5:Value} (h:MkR U n D s1 s2 s3 s4 s5 w):MkR U n (fun k=>D k∨k=8) s1 s2 s3 s4 (.pointer (some ⟨w.heap.size,0,none⟩)) (w.alloc (.cells #[.int .i64 0,.slice none 0 0,.slice none 0 0,.slice none 0 0] 174)):=by
 have hz:=Bk.new w 174 [.int .i64 0,.slice none 0 0,.slice none 0 0,.slice none 0 0];obtain ⟨h0,h1,h2,h3,h4,h5,h6⟩:=h.later (Zi w (.cells #[.int .i64 0,.slice none 0 0,.slice none 0 0,.slice none 0 0] 174));exact ⟨h0,fun d=>h1 (d.resolve_right (by decide)),fun d=>h2 (d.resolve_right (by decide)),fun d=>h3 (d.resolve_right (by decide)),fun d=>by
  obtain ⟨⟨a,b,c⟩,e⟩:=h4 (d.resolve_right (by decide));exact ⟨⟨.inl a,.inl b,.inl c⟩,e⟩,fun _=>⟨_,rfl,h.1.size,hz⟩,fun d e=>h6 (d.resolve_right (by decide)) (e.resolve_right (by decide))⟩
theorem MkR.set7 {U w:World} {n:Nat} {D:Nat→Prop} {s1 s2 s3 s4 s5:Value} (h:MkR U n D s1 s2 s3 s4 s5 w) (d2:D 2) (d4:D 4) (d6:D 6):MkR U n (fun k=>D k∨k=7) s1 s2 s3 (.agg #[.int .i64 (n:Int),s1,s2,s3]) s5 w:=by
 obtain ⟨h0,h1,h2,h3,h4,h5,h6⟩:=h;exact ⟨h0,fun d=>h1 (d.resolve_right (by decide)),fun d=>h2 (d.resolve_right (by decide)),fun d=>h3 (d.resolve_right (by decide)),fun _=>⟨⟨.inl d2,.inl d4,.inl d6⟩,rfl⟩,fun d=>h5 (d.resolve_right (by decide)),fun d e=>h6 (d.resolve_right (by decide)) (e.resolve_right (by decide))⟩
theorem Bk.but4 {w:World} {g:Nat} {t:TypeId} {a b c d:Value} (h:Bk w g t [a,b,c,d]) (x y z u:Value):Zg t w ((((w.setCell ⟨g,0,none⟩ x).setCell ⟨g,1,none⟩ y).setCell ⟨g,2,none⟩ z).setCell ⟨g,3,none⟩ u):=
 (((Zg.setCell h 0 x).trans (Zg.setCell (h.set_ 0 x) 1 y)).trans (Zg.setCell ((h.set_ 0 x).set_ 1 y) 2 z)).trans (Zg.setCell (((h.set_ 0 x).set_ 1 y).set_ 2 z) 3 u)
def Yms (U:World) (n:Nat) (s5:Value) (wx:World):Prop:=
 ∃ge ga gr gc,s5= .pointer (some ⟨ge,0,none⟩)∧gr≠gc∧Bk wx ge 174 [.int .i64 (n:Int),.slice (some ⟨ga,0,none⟩) n n,.slice (some ⟨gr,0,none⟩) n n,.slice (some ⟨gc,0,none⟩) n n]∧
  wx.ownsRow U.heap.size 23 1 (.slice (some ⟨ga,0,none⟩) n n) n (List.replicate n (.slice none 0 0))∧ZP U.heap.size wx (.slice (some ⟨gr,0,none⟩) n n) (List.replicate n 0)∧ZP U.heap.size wx (.slice (some ⟨gc,0,none⟩) n n) (List.replicate n 0)∧Below U.heap.size U wx∧U.heap.size≤ge
namespace Pl
def Zqw (n i:Nat) (G D:Nat→Nat):List Value:=(List.range n).map fun r=>if r < i then X7 n G D r else .slice none 0 0
theorem Zpu {n:Nat} {G D:Nat→Nat}:Zqw n 0 G D=List.replicate n (.slice none 0 0):=by
 refine List.ext_getElem? fun r=>?_
 rcases JX r n with e | e
 ·simp [Zqw,e]
 ·rw [JU (by simp [Zqw];exact e),JU (by simp;exact e)]
theorem WJ {n i:Nat} {G D:Nat→Nat}:(Zqw n i G D).length=n:=by simp [Zqw]
theorem Zuz {n:Nat} {G D:Nat→Nat}:Zqw n n G D=Zey n n G D:=by
 refine List.ext_getElem? fun r=>?_
 rcases JX r n with e | e
 ·rw [WQ e];simp [Zqw,e]
 ·rw [JU (by rw [WJ];exact e),JU (by rw [Xe];exact e)]
theorem Zva {n i:Nat} {G D:Nat→Nat} (h:i < n):(Zqw n i G D)[i]? =some (.slice none 0 0):=by simp [Zqw,h]
theorem Zvb {n i g d:Nat} {G D:Nat→Nat} (h:i < n):(Zqw n i G D).set i (.slice (some ⟨g,0,none⟩) n d)=Zqw n (i+1) (Uf G i g) (Uf D i d):=by
 refine List.ext_getElem? fun r=>?_
 rcases JX r n with e | e
 ·rw [List.getElem?_set];by_cases g:i=r
  ·subst g;rw [if_pos rfl,if_pos (by rw [WJ];exact e)];simp [Zqw,e,X7,Uf]
  ·rw [if_neg g];by_cases e2:r < i
   ·simp [Zqw,e,e2,show r < i+1 by omega,X7,Uf,show r≠i by omega]
   ·simp [Zqw,e,e2,show ¬r < i+1 by omega]
 ·rw [JU (by rw [List.length_set,WJ];exact e),JU (by rw [WJ];exact e)]
def Zsp (n i:Nat):List Int:=(List.range n).map fun s=>if s < i then -1 else 0
theorem X3 {n i:Nat}:(Zsp n i).length=n:=by simp [Zsp]
theorem Zmz {n i:Nat} (h:i < n):(Zsp n i)[i]? =some 0:=by simp [Zsp,h]
theorem Zpv {n:Nat}:Zsp n 0=List.replicate n 0:=by
 refine List.ext_getElem? fun r=>?_
 rcases JX r n with e | e
 ·simp [Zsp,e]
 ·rw [JU (by rw [X3];exact e),JU (by simp;exact e)]
theorem Yfp {n i:Nat} (h:i < n):(Zsp n i).set i (-1)=Zsp n (i+1):=by
 refine List.ext_getElem? fun r=>?_
 rcases JX r n with e | e
 ·rw [List.getElem?_set];by_cases g:i=r
  ·subst g;rw [if_pos rfl,if_pos (by rw [X3];exact e)];simp [Zsp,e]
  ·rw [if_neg g];by_cases e2:r < i
   ·simp [Zsp,e,e2,show r < i+1 by omega]
   ·simp [Zsp,e,e2,show ¬r < i+1 by omega]
 ·rw [JU (by rw [List.length_set,X3];exact e),JU (by rw [X3];exact e)]
theorem Yfq {n:Nat}:Zsp n n=List.replicate n (-1):=by
 refine List.ext_getElem? fun r=>?_
 rcases JX r n with e | e
 ·simp [Zsp,e]
 ·rw [JU (by rw [X3];exact e),JU (by simp;exact e)]
theorem Zed {n:Nat}:List.replicate n zeroF=rfL n fun _=>zeroF:=by
 refine List.ext_getElem? fun i=>?_
 rcases JX i n with e | e
 ·rw [YD e];simp [e]
 ·rw [JU (by simp;exact e),JU (by rw [Zz];exact e)]
end Pl
def Ykn (U:World) (ge ga gr gc n i:Nat) (wr:World):Prop:=
 ∃G D:Nat→Nat,Bk wr ge 174 [.int .i64 (n:Int),.slice (some ⟨ga,0,none⟩) n n,.slice (some ⟨gr,0,none⟩) n n,.slice (some ⟨gc,0,none⟩) n n]∧wr.ownsRow U.heap.size 23 1 (.slice (some ⟨ga,0,none⟩) n n) n (Zqw n i G D)∧
  (∀r,r < i→ZU U.heap.size wr (X7 n G D r) (rfL n fun _=>zeroF))∧(∀r s,r < i→s < i→G r=G s→r=s)∧ZP U.heap.size wr (.slice (some ⟨gr,0,none⟩) n n) (Zsp n i)∧ZP U.heap.size wr (.slice (some ⟨gc,0,none⟩) n n) (Zsp n i)∧Below U.heap.size U wr
end Go.Proofs.YtgbhebappffbdaaGreat
