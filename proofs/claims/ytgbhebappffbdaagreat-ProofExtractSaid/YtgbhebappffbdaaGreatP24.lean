/- Lemmas of the claim; no condition. -/
import Derived.Test.YtgbhebappffbdaaGreatP10
import Derived.Test.YtgbhebappffbdaaGreatP19
import Derived.Test.YtgbhebappffbdaaGreatP22
set_option linter.all false
set_option maxRecDepth 100000
set_option maxHeartbeats 40000000
namespace Go.Proofs.YtgbhebappffbdaaGreat
open Go.RowKit
open Pl
attribute [local go_sem ↓] Go.wp_at_zero Go.wp_at_succ
namespace Pl
structure Prf where
 st:Int
 x:List RF
 y:List RF
 ray:List RF
def shX (p:LPd) (x:Prf):Prop:=x.x.length=if x.st=2 then 0 else p.cols.length
def shY (p:LPd) (x:Prf):Prop:=x.y.length=if x.st=3 then 0 else p.right.length
def shR (p:LPd) (x:Prf):Prop:=x.ray.length=if x.st=3 then p.cols.length else 0
instance (p:LPd) (x:Prf):Decidable (shX p x):=by unfold shX;infer_instance
instance (p:LPd) (x:Prf):Decidable (shY p x):=by unfold shY;infer_instance
instance (p:LPd) (x:Prf):Decidable (shR p x):=by unfold shR;infer_instance
def shB (p:LPd) (x:Prf):Bool:=decide (shX p x) && (decide (shY p x) && decide (shR p x))
theorem Zmp {p:LPd} {x:Prf} (h:¬shX p x):shB p x=false:=by simp [shB,h]
theorem Zmq {p:LPd} {x:Prf} (h:¬shY p x):shB p x=false:=by simp [shB,h]
theorem Zmr {p:LPd} {x:Prf} (h:¬shR p x):shB p x=false:=by simp [shB,h]
theorem Zms {p:LPd} {x:Prf} (h1:shX p x) (h2:shY p x) (h3:shR p x):shB p x=true:=by simp [shB,h1,h2,h3]
theorem Zyq {p:LPd} {x:Prf} (h:shB p x=true):shX p x∧shY p x∧shR p x:=by simpa [shB] using h
end Pl
def Zle (w:World) (v:Value) (x:Prf):Prop:=
 ∃A n c A' n' c' A'' n'' c'',v= .agg #[.int .i64 x.st,.slice A n c,.slice A' n' c',.slice A'' n'' c'']∧Xh w (.slice A n c) x.x∧Xh w (.slice A' n' c') x.y∧Xh w (.slice A'' n'' c'') x.ray∧ -9223372036854775808≤x.st∧x.st≤9223372036854775807
theorem Zle.below {w w':World} {v:Value} {x:Prf} (h:Zle w v x) (hb:Below w.heap.size w w'):Zle w' v x:=by
 obtain ⟨A,n,c,A',n',c',a,b,d,h1,h2,h3,h4,h5,h6⟩:=h;exact ⟨A,n,c,A',n',c',a,b,d,h1,h2.below hb,h3.below hb,h4.below hb,h5,h6⟩
theorem XV (w:World) (x y z u:Value):∃W,w.alloc (.cells #[x,y,z,u] 33)=W∧Bk W w.heap.size 33 [x,y,z,u]∧Below w.heap.size w W:=⟨_,rfl,Bk.new w _ [x,y,z,u],Zb w _⟩
theorem Yy {P:Program} {ops:Array Oper} {Q:Exit→Act→World→Prop} {S:World→Prop} {n:Nat} {o:Oper} {i:Nat} {is:List Nat} {a:Act} {w:World} (ho:ops[i]? =some o) (hf:Y7 ops n i=false) (hw:Region.wanted o (yielded ops a.tmps)=false) (hS:S w) (h:Xl P ops Q S n is (a.put o.dst undef) w):Xl P ops Q S n (i::is) a w:=by
 refine Zd ho hf fun K hK=>?_
 rw [if_neg (by rw [hw];simp)];exact hK _ _ (.inr hS) h
theorem Zyr (v1 v2:Value) (p:LPd) (x:Prf) (w:World) (h:LpM w v1 p) (h2:Zle w v2 x) (hst:x.st=1):
 Calls Tryz.prog 58 #[v1,v2] w fun e w'=>e= .returned (.bool (shB p x))∧Below w.heap.size w w':=by
 obtain ⟨A,n,c,A',N,c',z,m,C,rfl,hc,hv,hr⟩:=id h;obtain ⟨B,lx,d,B',ly,d',D,lr,E,rfl,q,r,s,s1,s2⟩:=id h2;rw [hst];obtain ⟨W,hW,hX,b⟩:=Y6 w (.slice A n c) (.slice A' N c') (.slice z m C);obtain ⟨W1,G,hY,f⟩:=XV W (.int .i64 1) (.slice B lx d) (.slice B' ly d') (.slice D lr E);have hX:=hX.later f;have g:=Za b f b.size;have y:W.heap.size=w.heap.size+1:=by rw [← hW];simp
 rw [y] at hY;obtain ⟨x0,x1,x2⟩:=hX.three;obtain ⟨y0,y1,y2,y3⟩:=hY.four;obtain ⟨m1,m2,m3⟩:=hv.len;obtain ⟨r1,r2,r3⟩:=hr.len;obtain ⟨k1,k2,k3⟩:=hc.len;obtain ⟨t,H,I⟩:=q.len;obtain ⟨u,J,K⟩:=r.len;obtain ⟨v,L,M⟩:=s.len;have i:=JZ m1;have j:=JZ r1;have F:=JZ k1;have k:=JZ t;have l:=JZ u;have o:=JZ v;clear m1 r1 k1 t u v b f;have a:=JZ hst;clear hst h h2 hc hv hr q r s;by_cases h0:lx=N;rotate_left
 ·have e0:((lx:Int)==(N:Int))=false:=by simp;omega
  have HR:Hid (shB p x=false):=JZ (Zmp (p:=p) (x:=x) (by unfold shX;rw [a.out,← k.out,← i.out];simpa using h0));clear h0;go_enter Tryz.func58,Tryz.ntmps58;go_wp2;go_ret;exact ⟨ZE HR.out,g⟩
 have e0:((lx:Int)==(N:Int))=true:=by simp;omega
 have H0:=JZ h0;clear h0;by_cases h1:ly=m;rotate_left
 ·have e1:((ly:Int)==(m:Int))=false:=by simp;omega
  have HR:Hid (shB p x=false):=JZ (Zmq (p:=p) (x:=x) (by unfold shY;rw [a.out,← l.out,← j.out];simpa using h1));clear h1;go_enter Tryz.func58,Tryz.ntmps58;go_wp2;go_ret;exact ⟨ZE HR.out,g⟩
 have e1:((ly:Int)==(m:Int))=true:=by simp;omega
 have H1:=JZ h1;clear h1;by_cases h2:lr=0;rotate_left
 ·have e2:((lr:Int)==(0:Int))=false:=by simp;omega
  have HR:Hid (shB p x=false):=JZ (Zmr (p:=p) (x:=x) (by unfold shR;rw [a.out,← o.out,← i.out];simpa using h2));clear h2;go_enter Tryz.func58,Tryz.ntmps58;go_wp2;go_ret;exact ⟨ZE HR.out,g⟩
 have e2:((lr:Int)==(0:Int))=true:=by simp;omega
 have H2:=JZ h2;clear h2;have HR:Hid (shB p x=true):=JZ (Zms (by unfold shX;rw [a.out,← k.out,← i.out];simpa using H0.out) (by unfold shY;rw [a.out,← l.out,← j.out];simpa using H1.out) (by unfold shR;rw [a.out,← o.out,← i.out];simpa using H2.out));clear H0 H1 H2;go_enter Tryz.func58,Tryz.ntmps58;go_wp2;go_ret;exact ⟨ZE HR.out,g⟩
theorem Zys (v1 v2:Value) (p:LPd) (x:Prf) (w:World) (h:LpM w v1 p) (h2:Zle w v2 x) (hst:x.st=2):
 Calls Tryz.prog 58 #[v1,v2] w fun e w'=>e= .returned (.bool (shB p x))∧Below w.heap.size w w':=by
 obtain ⟨A,n,c,A',N,c',z,m,C,rfl,hc,hv,hr⟩:=id h;obtain ⟨B,lx,d,B',ly,d',D,lr,E,rfl,q,r,s,s1,s2⟩:=id h2;rw [hst];obtain ⟨W,hW,hX,b⟩:=Y6 w (.slice A n c) (.slice A' N c') (.slice z m C);obtain ⟨W1,G,hY,f⟩:=XV W (.int .i64 2) (.slice B lx d) (.slice B' ly d') (.slice D lr E);have hX:=hX.later f;have g:=Za b f b.size;have y:W.heap.size=w.heap.size+1:=by rw [← hW];simp
 rw [y] at hY;obtain ⟨x0,x1,x2⟩:=hX.three;obtain ⟨y0,y1,y2,y3⟩:=hY.four;obtain ⟨m1,m2,m3⟩:=hv.len;obtain ⟨r1,r2,r3⟩:=hr.len;obtain ⟨k1,k2,k3⟩:=hc.len;obtain ⟨t,H,I⟩:=q.len;obtain ⟨u,J,K⟩:=r.len;obtain ⟨v,L,M⟩:=s.len;have i:=JZ m1;have j:=JZ r1;have F:=JZ k1;have k:=JZ t;have l:=JZ u;have o:=JZ v;clear m1 r1 k1 t u v b f;have a:=JZ hst;clear hst h h2 hc hv hr q r s;by_cases h0:lx=0;rotate_left
 ·have e0:((lx:Int)==(0:Int))=false:=by simp;omega
  have HR:Hid (shB p x=false):=JZ (Zmp (p:=p) (x:=x) (by unfold shX;rw [a.out,← k.out,← i.out];simpa using h0));clear h0;go_enter Tryz.func58,Tryz.ntmps58;go_wp2;go_ret;exact ⟨ZE HR.out,g⟩
 have e0:((lx:Int)==(0:Int))=true:=by simp;omega
 have H0:=JZ h0;clear h0;by_cases h1:ly=m;rotate_left
 ·have e1:((ly:Int)==(m:Int))=false:=by simp;omega
  have HR:Hid (shB p x=false):=JZ (Zmq (p:=p) (x:=x) (by unfold shY;rw [a.out,← l.out,← j.out];simpa using h1));clear h1;go_enter Tryz.func58,Tryz.ntmps58;go_wp2;go_ret;exact ⟨ZE HR.out,g⟩
 have e1:((ly:Int)==(m:Int))=true:=by simp;omega
 have H1:=JZ h1;clear h1;by_cases h2:lr=0;rotate_left
 ·have e2:((lr:Int)==(0:Int))=false:=by simp;omega
  have HR:Hid (shB p x=false):=JZ (Zmr (p:=p) (x:=x) (by unfold shR;rw [a.out,← o.out,← i.out];simpa using h2));clear h2;go_enter Tryz.func58,Tryz.ntmps58;go_wp2;go_ret;exact ⟨ZE HR.out,g⟩
 have e2:((lr:Int)==(0:Int))=true:=by simp;omega
 have H2:=JZ h2;clear h2;have HR:Hid (shB p x=true):=JZ (Zms (by unfold shX;rw [a.out,← k.out,← i.out];simpa using H0.out) (by unfold shY;rw [a.out,← l.out,← j.out];simpa using H1.out) (by unfold shR;rw [a.out,← o.out,← i.out];simpa using H2.out));clear H0 H1 H2;go_enter Tryz.func58,Tryz.ntmps58;go_wp2;go_ret;exact ⟨ZE HR.out,g⟩
theorem Zyt (v1 v2:Value) (p:LPd) (x:Prf) (w:World) (h:LpM w v1 p) (h2:Zle w v2 x) (hst:x.st=3):
 Calls Tryz.prog 58 #[v1,v2] w fun e w'=>e= .returned (.bool (shB p x))∧Below w.heap.size w w':=by
 obtain ⟨A,n,c,A',N,c',z,m,C,rfl,hc,hv,hr⟩:=id h;obtain ⟨B,lx,d,B',ly,d',D,lr,E,rfl,q,r,s,s1,s2⟩:=id h2;rw [hst];obtain ⟨W,hW,hX,b⟩:=Y6 w (.slice A n c) (.slice A' N c') (.slice z m C);obtain ⟨W1,G,hY,f⟩:=XV W (.int .i64 3) (.slice B lx d) (.slice B' ly d') (.slice D lr E);have hX:=hX.later f;have g:=Za b f b.size;have y:W.heap.size=w.heap.size+1:=by rw [← hW];simp
 rw [y] at hY;obtain ⟨x0,x1,x2⟩:=hX.three;obtain ⟨y0,y1,y2,y3⟩:=hY.four;obtain ⟨m1,m2,m3⟩:=hv.len;obtain ⟨r1,r2,r3⟩:=hr.len;obtain ⟨k1,k2,k3⟩:=hc.len;obtain ⟨t,H,I⟩:=q.len;obtain ⟨u,J,K⟩:=r.len;obtain ⟨v,L,M⟩:=s.len;have i:=JZ m1;have j:=JZ r1;have F:=JZ k1;have k:=JZ t;have l:=JZ u;have o:=JZ v;clear m1 r1 k1 t u v b f;have a:=JZ hst;clear hst h h2 hc hv hr q r s;by_cases h0:lx=N;rotate_left
 ·have e0:((lx:Int)==(N:Int))=false:=by simp;omega
  have HR:Hid (shB p x=false):=JZ (Zmp (p:=p) (x:=x) (by unfold shX;rw [a.out,← k.out,← i.out];simpa using h0));clear h0;go_enter Tryz.func58,Tryz.ntmps58;go_wp2;go_ret;exact ⟨ZE HR.out,g⟩
 have e0:((lx:Int)==(N:Int))=true:=by simp;omega
 have H0:=JZ h0;clear h0;by_cases h1:ly=0;rotate_left
 ·have e1:((ly:Int)==(0:Int))=false:=by simp;omega
  have HR:Hid (shB p x=false):=JZ (Zmq (p:=p) (x:=x) (by unfold shY;rw [a.out,← l.out,← j.out];simpa using h1));clear h1;go_enter Tryz.func58,Tryz.ntmps58;go_wp2;go_ret;exact ⟨ZE HR.out,g⟩
 have e1:((ly:Int)==(0:Int))=true:=by simp;omega
 have H1:=JZ h1;clear h1;by_cases h2:lr=N;rotate_left
 ·have e2:((lr:Int)==(N:Int))=false:=by simp;omega
  have HR:Hid (shB p x=false):=JZ (Zmr (p:=p) (x:=x) (by unfold shR;rw [a.out,← o.out,← i.out];simpa using h2));clear h2;go_enter Tryz.func58,Tryz.ntmps58;go_wp2;go_ret;exact ⟨ZE HR.out,g⟩
 have e2:((lr:Int)==(N:Int))=true:=by simp;omega
 have H2:=JZ h2;clear h2;have HR:Hid (shB p x=true):=JZ (Zms (by unfold shX;rw [a.out,← k.out,← i.out];simpa using H0.out) (by unfold shY;rw [a.out,← l.out,← j.out];simpa using H1.out) (by unfold shR;rw [a.out,← o.out,← i.out];simpa using H2.out));clear H0 H1 H2;go_enter Tryz.func58,Tryz.ntmps58;go_wp2;go_ret;exact ⟨ZE HR.out,g⟩
namespace Pl
def Zhr (p:LPd) (ys:List RF) (k:Nat):Prop:=∀j,j < k→Zgz ys (p.col (j:Int)) p.right.length≤0
instance (p:LPd) (ys:List RF) (k:Nat):Decidable (Zhr p ys k):=by unfold Zhr;infer_instance
theorem Zqz (p:LPd) (ys:List RF):Zhr p ys 0:=fun j h=>by omega
theorem Zra {p:LPd} {ys:List RF} {k:Nat} (h:Zhr p ys k) (h1:Zgz ys (p.col (k:Int)) p.right.length≤0):Zhr p ys (k+1):=fun j hj=>by
 rcases Nat.eq_or_lt_of_le (Nat.le_of_lt_succ hj) with e | e
 ·subst e;exact h1
 ·exact h j e
def Zkj (p:LPd) (x:Prf):Bool:=Zfa p x.y && (Zbd p x.x && (qs (Zbb x.y p.right p.right.length - Zbb p.cost x.x p.cols.length)==0))
def Zkk (p:LPd) (x:Prf):Bool:=decide (Zhr p x.y p.cols.length) && decide (0 < qs (Zbb x.y p.right p.right.length))
def Zfe (p:LPd) (x:Prf):Bool:=Zbd p x.x && (nnB x.ray && (Zac p.right.length (YL p x.ray p.cols.length) [] && decide (qs (Zbb p.cost x.ray p.cols.length) < 0)))
def holdB (p:LPd) (x:Prf):Bool:=if x.st=1 then Zkj p x else if x.st=2 then Zkk p x else Zfe p x
end Pl
theorem Ycu (v1 v2:Value) (p:LPd) (x:Prf) (K:Nat) (w:World) (h:LpM w v1 p) (h2:Zle w v2 x) (ok:p.Ok K) (hkx:RsL K x.x) (hky:RsL K x.y) (hkr:RsL K x.ray) (hK:1≤K) (hz:lpErr p=0) (hcl:∀(j:Nat) (c:List En),p.cols[j]? =some c→c.length≤64) (hs:1+1201 * (2 * K+1)≤34359738368) (hst:x.st=1) (hl1:x.x.length=p.cols.length) (hl2:x.y.length=p.right.length):
 Calls Tryz.prog 59 #[v1,v2] w fun e w'=>e= .returned (.bool (Zkj p x))∧Below w.heap.size w w':=by
 obtain ⟨A,n,c,A',N,c',a7,m,a8,rfl,hc,hv,hr⟩:=id h;obtain ⟨B,lx,d,B',ly,d',a9,lr,aa,rfl,C,M,ab,s1,s2⟩:=id h2;rw [hst];obtain ⟨W,hW,hX,q⟩:=Y6 w (.slice A n c) (.slice A' N c') (.slice a7 m a8);obtain ⟨W1,ac,hY,a⟩:=XV W (.int .i64 1) (.slice B lx d) (.slice B' ly d') (.slice a9 lr aa);have hX:=hX.later a;have l:=Za q a q.size;have D:W.heap.size=w.heap.size+1:=by rw [← hW];simp
 rw [D] at hY;obtain ⟨x0,x1,x2⟩:=hX.three;obtain ⟨y0,y1,y2,y3⟩:=hY.four;obtain ⟨m1,m2,m3⟩:=hv.len;obtain ⟨r1,r2,r3⟩:=hr.len;obtain ⟨k1,k2,k3⟩:=hc.len;obtain ⟨O,ar,au⟩:=C.len;obtain ⟨P,av,aw⟩:=M.len;obtain ⟨R,ax,ay⟩:=ab.len;have ah:=JZ m1;have ai:=JZ r1;have aj:=JZ k1;have ak:=JZ O;have al:=JZ P;have am:=JZ R;clear m1 r1 k1 O P R q a;have o:=JZ ok;have HZ:=JZ hz;have V:=JZ hcl;have u:=JZ hkx;have E:=JZ hky;have an:=JZ hkr;have ao:2 * K≤34359738368:=by omega
 have F:Hid (1+64 * (2 * K+1)≤34359738368):=JZ (by omega);have HS:=JZ hs;clear hst hcl ok hz hkx hky hkr h2 hs;have X:=JZ hl1;have ap:=JZ hl2;clear hl1 hl2;obtain ⟨z1,z2,z3,z4,z5⟩:=YA HZ.out;have z:=JZ z3;clear z3 z4 z5;go_enter Tryz.func59,Tryz.ntmps59;go_wp2_with fail;clear hW ac D x0 x1 x2 y0 y1 y2 y3;refine (Xc _ _ p x.y K _ (h.below l) (M.below l) o.out E.out hK V.out F.out).mono ?_;rintro _ w1 ⟨v1,rfl,e1,t⟩;obtain ⟨Bl,ll,dl,S,T,U,rfl,_,_⟩:=id e1;have G:=hX.later t;have H:=hY.later t;have a:=Za l t l.size;clear hX hY l t
 cases hlb:Zfa p x.y
 ·have HR:Hid (Zkj p x=false):=JZ (by simp [Zkj,hlb]);rw [Zhh hlb] at e1 ⊢;clear hlb e1;go_wp2_with fail;have i:=Zj (w1.alloc (.cells #[.bool zeroF.num.neg,.slice Bl ll dl,.bool zeroF.den.neg,.slice S T U] 46));have g:=Za (Za a (Zb w1 _) a.size) i (by simp;have:=a.size;omega);refine Zq 18 [0,1,2,3,4,5,6,7,8,9,10,11,12,13,14,15,16,17] (by kernel_rfl) (by kernel_rfl) ?_;repeat ((first | (refine Zc (v:=?_) rfl rfl rfl ?_ ?_;rotate_left;(· (intro _ f;go_simp;(try go_bits);(try with_reducible rfl)))) | (refine Zg (v:=?_) rfl rfl rfl ?_ ?_;rotate_left;(· (intro _ f;go_simp;(try go_bits);(try with_reducible rfl)))) | refine Zh rfl rfl rfl ?_ | refine Yy rfl rfl rfl (by assumption) ?_);(try simp only [Act.put,pu1,pu2,pu3,pu4,pu5,pu6]))
  refine Zz ?_;go_wp2;go_ret;exact ⟨ZE HR.out,g⟩
 ·have aq:=JZ (Ztv hlb);rw [Zhi hlb] at e1 ⊢;have Y:=JZ hlb;clear hlb;have I:=JZ e1;clear e1;have Z:RsL K p.right:=o.out.2.1;have a0:Hid ((canF (Zbb x.y p.right p.right.length)).Sm):=JZ (((Ztq E.out Z hK).mono (by have:=F.out;have:=JS (2 * K+1) z1;omega:1+p.right.length * (2 * K+1)≤34359738368)).rs.sm (JY _));have a1:=JZ (Zu (Zbb x.y p.right p.right.length));generalize canF (Zbb x.y p.right p.right.length)=LF at *;obtain ⟨W2,ad,hL,r⟩:=YN w1 (.bool LF.num.neg) (.slice Bl ll dl) (.bool LF.den.neg) (.slice S T U);have a2:=G.later r;have a3:=H.later r;have b:=Za a r a.size;have a4:=I.out.below r;obtain ⟨x0,x1,x2⟩:=a2.three;obtain ⟨y0,y1,y2,y3⟩:=a3.four;obtain ⟨l0,l1,l2,l3⟩:=hL.four;clear G H a r I;go_wp2_with fail;clear ad;have C0:=Zp x0;have C1:=Zp x1;have C2:=Zp x2;have D0:=Zp y0;have D1:=Zp y1;have D2:=Zp y2;have D3:=Zp y3;have E0:=Zp l0;have E1:=Zp l1;have E2:=Zp l2;have E3:=Zp l3;have i:=Zj W2;clear x0 x1 x2 y0 y1 y2 y3 l0 l1 l2 l3;refine Zq 18 [0,1,2,3,4,5,6,7,8,9,10,11,12,13,14,15,16,17] (by kernel_rfl) (by kernel_rfl) ?_;repeat ((first | (refine Zc (v:=?_) rfl rfl rfl ?_ ?_;rotate_left;(· (intro _ f;go_simp;(try go_bits);(try with_reducible rfl)))) | (refine Zg (v:=?_) rfl rfl rfl ?_ ?_;rotate_left;(· (intro _ f;go_simp;(try go_bits);(try with_reducible rfl)))) | refine Zh rfl rfl rfl ?_ | refine Yy rfl rfl rfl (by assumption) ?_);(try simp only [Act.put,pu1,pu2,pu3,pu4,pu5,pu6]))
  refine Zd rfl rfl (fun KR hKR=>?_);go_simp;with_reducible refine (VI _ _ p x.x K _ ((h.below b).below i) ((C.below b).below i) o.out u.out hK HZ.out HS.out).mono ?_
  rintro _ w3 ⟨rfl,ae⟩;have k:=Za i ae i.size;refine hKR.out _ _ (Or.inr k) ?_;clear hKR KR;(try simp only [Act.put,pu1,pu2,pu3,pu4,pu5,pu6])
  cases hfb:Zbd p x.x
  ·have HR:Hid (Zkj p x=false):=JZ (by simp [Zkj,hfb]);clear hfb;repeat ((first | (refine Zc (v:=?_) rfl rfl rfl ?_ ?_;rotate_left;(· (intro _ f;go_simp;(try go_bits);(try with_reducible rfl)))) | (refine Zg (v:=?_) rfl rfl rfl ?_ ?_;rotate_left;(· (intro _ f;go_simp;(try go_bits);(try with_reducible rfl)))) | refine Zh rfl rfl rfl ?_ | refine Yy rfl rfl rfl (by assumption) ?_);(try simp only [Act.put,pu1,pu2,pu3,pu4,pu5,pu6]))
   refine Zz ?_;clear C0 C1 C2 D0 D1 D2 D3 E0 E1 E2 E3;have g:=Za b k b.size;go_wp2;go_ret;exact ⟨ZE HR.out,g⟩
  ·have HR:Hid (Zkj p x=(qs (Zbb x.y p.right p.right.length - Zbb p.cost x.x p.cols.length)==0)):=JZ (by simp [Zkj,hfb,Y.out]);have J:1+p.cost.length * (2 * K+1)≤34359738368:=by
    rw [z.out];have:=HS.out;have:=JS (2 * K+1) z2;omega
   have a5:RsL K p.cost:=o.out.1;have a6:Hid ((canF (Zbb p.cost x.x p.cost.length)).Sm):=JZ (((Ztq o.out.1 u.out hK).mono J).rs.sm (JY _));clear hfb;repeat ((first | (refine Zc (v:=?_) rfl rfl rfl ?_ ?_;rotate_left;(· (intro _ f;go_simp;(try go_bits);(try with_reducible rfl)))) | (refine Zg (v:=?_) rfl rfl rfl ?_ ?_;rotate_left;(· (intro _ f;go_simp;(try go_bits);(try with_reducible rfl)))) | refine Zh rfl rfl rfl ?_ | refine Yy rfl rfl rfl (by assumption) ?_);(try simp only [Act.put,pu1,pu2,pu3,pu4,pu5,pu6]))
   refine Zd rfl rfl (fun KR hKR=>?_);go_simp;(with_reducible refine (Vh _ _ p.cost x.x K _ ((hc.below b).below k) ((C.below b).below k) (by rw [z.out,X.out];exact JY _) hK a5 u.out J (by omega)).mono ?_);rintro _ w4 ⟨v4,rfl,e4,af⟩;have s:=Za k af k.size;refine hKR.out _ _ (Or.inr s) ?_;clear hKR KR;(try simp only [Act.put,pu1,pu2,pu3,pu4,pu5,pu6]);repeat ((first | (refine Zc (v:=?_) rfl rfl rfl ?_ ?_;rotate_left;(· (intro _ f;go_simp;(try go_bits);(try with_reducible rfl)))) | (refine Zg (v:=?_) rfl rfl rfl ?_ ?_;rotate_left;(· (intro _ f;go_simp;(try go_bits);(try with_reducible rfl)))) | refine Zh rfl rfl rfl ?_ | refine Yy rfl rfl rfl (by assumption) ?_);(try simp only [Act.put,pu1,pu2,pu3,pu4,pu5,pu6]))
   refine Zd rfl rfl (fun KR hKR=>?_);go_simp;(with_reducible refine (VB _ _ LF _ _ (a4.below s) e4 a0.out a6.out).mono ?_);rw [Zu,a1.out,z.out];generalize qs (Zbb x.y p.right p.right.length - Zbb p.cost x.x p.cols.length)=sD at *;rintro _ w5 ⟨rfl,ag⟩;have L:=Za s ag s.size;refine hKR.out _ _ (Or.inr L) ?_;clear hKR KR;(try simp only [Act.put,pu1,pu2,pu3,pu4,pu5,pu6]);repeat ((first | (refine Zc (v:=?_) rfl rfl rfl ?_ ?_;rotate_left;(· (intro _ f;go_simp;(try go_bits);(try with_reducible rfl)))) | (refine Zg (v:=?_) rfl rfl rfl ?_ ?_;rotate_left;(· (intro _ f;go_simp;(try go_bits);(try with_reducible rfl)))) | refine Zh rfl rfl rfl ?_ | refine Yy rfl rfl rfl (by assumption) ?_);(try simp only [Act.put,pu1,pu2,pu3,pu4,pu5,pu6]))
   refine Zz ?_;clear C0 C1 C2 D0 D1 D2 D3 E0 E1 E2 E3;have g:=Za b L b.size;go_wp2;go_ret;exact ⟨ZE HR.out,g⟩
theorem Ycv (v1 v2:Value) (p:LPd) (x:Prf) (K:Nat) (w:World) (h:LpM w v1 p) (h2:Zle w v2 x) (ok:p.Ok K) (hkx:RsL K x.x) (hky:RsL K x.y) (hkr:RsL K x.ray) (hK:1≤K) (hz:lpErr p=0) (hcl:∀(j:Nat) (c:List En),p.cols[j]? =some c→c.length≤64) (hs:1+1201 * (2 * K+1)≤34359738368) (hst:x.st=2) (hl2:x.y.length=p.right.length):
 Calls Tryz.prog 59 #[v1,v2] w fun e w'=>e= .returned (.bool (Zkk p x))∧Below w.heap.size w w':=by
 obtain ⟨A,n,c,A',N,c',R,m,S,rfl,hc,hv,hr⟩:=id h;obtain ⟨B,lx,d,B',ly,d',T,lr,U,rfl,a8,F,a9,s1,s2⟩:=id h2;rw [hst];obtain ⟨W,hW,hX,r⟩:=Y6 w (.slice A n c) (.slice A' N c') (.slice R m S);obtain ⟨W1,aa,hY,s⟩:=XV W (.int .i64 2) (.slice B lx d) (.slice B' ly d') (.slice T lr U);have hX:=hX.later s;have a:=Za r s r.size;have G:W.heap.size=w.heap.size+1:=by rw [← hW];simp
 rw [G] at hY;obtain ⟨x0,x1,x2⟩:=hX.three;obtain ⟨y0,y1,y2,y3⟩:=hY.four;obtain ⟨m1,m2,m3⟩:=hv.len;obtain ⟨r1,r2,r3⟩:=hr.len;obtain ⟨k1,k2,k3⟩:=hc.len;obtain ⟨V,ak,al⟩:=a8.len;obtain ⟨X,am,an⟩:=F.len;obtain ⟨Y,ao,ap⟩:=a9.len;have E:=JZ m1;have ac:=JZ r1;have ad:=JZ k1;have ae:=JZ V;have af:=JZ X;have ag:=JZ Y;clear m1 r1 k1 V X Y r s;have H:=JZ ok;have HZ:=JZ hz;have a1:=JZ hcl;have ah:=JZ hkx;have I:=JZ hky;have ai:=JZ hkr;have a2:2 * K≤34359738368:=by omega
 have J:Hid (1+64 * (2 * K+1)≤34359738368):=JZ (by omega);have HS:=JZ hs;clear hst hcl ok hz hkx hky hkr h2 hs;have u:=JZ hl2;clear hl2;go_enter Tryz.func59,Tryz.ntmps59;go_wp2;clear hW aa G x0 x1 x2 y0 y1 y2 y3
 go_loopw [43] (fun i wr=>∃j:Nat,j≤N∧i= .int .i64 j∧Below w.heap.size w wr∧Bk wr w.heap.size 26 [.slice A n c,.slice A' N c',.slice R m S]∧Bk wr (w.heap.size+1) 33 [.int .i64 2,.slice B lx d,.slice B' ly d',.slice T lr U]∧Zhr p x.y j) (fun i _=>N - (intOf i).toNat)
 case atStart=>exact ⟨0,by omega,rfl,a,hX,hY,Zqz _ _⟩
 case round=>
  clear a hX hY;obtain ⟨j,hj,rfl,a,hX,hY,C⟩:=hrel;have z:=JZ C;clear C;obtain ⟨z1,z2,z3,z4,z5⟩:=YA HZ.out;obtain ⟨x0,x1,x2⟩:=hX.three;obtain ⟨y0,y1,y2,y3⟩:=hY.four;rcases JX j N with hjl | hjl
  ·obtain ⟨es,f⟩:=Xb (cs:=p.cols) (i:=j) (by rw [← E.out];exact hjl);obtain ⟨bc,ab,Ac,cc,rfl,Z,o,a0⟩:=hv.elem (JR _ _) f;have v:=Zf a o;have L:inR x.y.length es:=(by rw [u.out];exact z4 j es f);have M:=(H.out.2.2 j es f).2;have O:1+es.length * (2 * K+1)≤34359738368:=by
    have:=J.out;have:=JS (2 * K+1) (a1.out j es f);omega
   have P:Hid (WP es x.y es.length=Zgz x.y (p.col (j:Int)) p.right.length):=JZ (by rw [LPd.col_pos f];exact Zfr (z4 j es f) (z5 j es f).2);have aj:(j:Int) < N:=(by omega);clear z1 z2 z3 z4 z5 f Z;go_wp2_with fail;refine (Zjk _ _ es x.y K _ (a0.below a) (F.below a) L hK M I.out O (by omega)).mono ?_;rintro _ w2 ⟨v2,rfl,e2,k⟩;go_wp2_with fail;refine (Zx _ _ _ e2).mono ?_;rw [Zu,P.out];generalize hD:Zgz x.y (p.col (j:Int)) p.right.length=D;have HD:=JZ hD;clear hD P;rintro _ w3 ⟨rfl,t⟩;have b:=Za k t k.size;have a3:=hX.later b;have a4:=hY.later b;have l:=Za a b a.size;clear hX hY a k t b x0 x1 x2 y0 y1 y2 y3 o v e2 O M L a2 a0;by_cases q:D≤0
   ·have a5:qs D≤0:=Yen.2 q;have a6:=JZ (Zra z.out (by rw [HD.out];exact q));clear q;generalize qs D=sD at *;go_wp2;go_roundw
    case rel=>exact ⟨j+1,by omega,by go_num,l,a3,a4,a6.out⟩
    case measure=>simp [intOf];omega
   ·have a5:0 < qs D:=Int.not_le.1 fun g=>q (Yen.1 g)
    have HR:Hid (Zkk p x=false):=JZ (by
     have:¬Zhr p x.y p.cols.length:=fun g=>q (by rw [← HD.out];exact g j (by rw [← E.out];exact hjl))
     simp [Zkk,this])
    clear q;generalize qs D=sD at *;go_wp2;go_ret;exact ⟨ZE HR.out,l⟩
  ·obtain rfl:j=N:=by omega
   have HR:Hid (Zkk p x=decide (0 < qs (Zbb x.y p.right p.right.length))):=JZ (by
    have:Zhr p x.y p.cols.length:=by rw [← E.out];exact z.out
    simp [Zkk,this])
   have a7:1+x.y.length * (2 * K+1)≤34359738368:=by
    rw [u.out];have:=J.out;have:=JS (2 * K+1) z1;omega
   clear z1 z2 z3 z4 z5;go_wp2_with fail;refine (Vh _ _ x.y p.right K _ (F.below a) (hr.below a) (by rw [u.out];exact JY _) hK I.out H.out.2.1 a7 (by omega)).mono ?_;rw [u.out];rintro _ w2 ⟨v2,rfl,e2,k⟩;go_wp2_with fail;refine (Zx _ _ _ e2).mono ?_;rw [Zu];generalize qs (Zbb x.y p.right p.right.length)=sD at *;rintro _ w3 ⟨rfl,t⟩;have b:=Za k t k.size;have l:=Za a b a.size;clear hX hY a k t b x0 x1 x2 y0 y1 y2 y3 e2;go_wp2;go_ret;exact ⟨ZE HR.out,l⟩
theorem Ycw (v1 v2:Value) (p:LPd) (x:Prf) (K:Nat) (w:World) (h:LpM w v1 p) (h2:Zle w v2 x) (ok:p.Ok K) (hkx:RsL K x.x) (hky:RsL K x.y) (hkr:RsL K x.ray) (hK:1≤K) (hz:lpErr p=0) (hcl:∀(j:Nat) (c:List En),p.cols[j]? =some c→c.length≤64) (hs:1+1201 * (2 * K+1)≤34359738368) (hst:x.st=3) (hl1:x.x.length=p.cols.length) (hl3:x.ray.length=p.cols.length):
 Calls Tryz.prog 59 #[v1,v2] w fun e w'=>e= .returned (.bool (Zfe p x))∧Below w.heap.size w w':=by
 obtain ⟨A,n,c,A',N,c',a7,m,a8,rfl,hc,hv,hr⟩:=id h;obtain ⟨B,lx,d,B',ly,d',a9,lr,aa,rfl,U,ab,t,s1,s2⟩:=id h2;rw [hst];obtain ⟨W,hW,hX,o⟩:=Y6 w (.slice A n c) (.slice A' N c') (.slice a7 m a8);obtain ⟨W1,ac,hY,b⟩:=XV W (.int .i64 3) (.slice B lx d) (.slice B' ly d') (.slice a9 lr aa);have hX:=hX.later b;have z:=Za o b o.size;have I:W.heap.size=w.heap.size+1:=by rw [← hW];simp
 rw [I] at hY;obtain ⟨x0,x1,x2⟩:=hX.three;obtain ⟨y0,y1,y2,y3⟩:=hY.four;obtain ⟨m1,m2,m3⟩:=hv.len;obtain ⟨r1,r2,r3⟩:=hr.len;obtain ⟨k1,k2,k3⟩:=hc.len;obtain ⟨V,an,ao⟩:=U.len;obtain ⟨X,ap,aq⟩:=ab.len;obtain ⟨Y,ar,au⟩:=t.len;have a0:=JZ m1;have J:=JZ r1;have ad:=JZ k1;have ae:=JZ V;have af:=JZ X;have ag:=JZ Y;clear m1 r1 k1 V X Y o b;have C:=JZ ok;have HZ:=JZ hz;have ah:=JZ hcl;have a1:=JZ hkx;have ai:=JZ hky;have L:=JZ hkr;have aj:2 * K≤34359738368:=by omega
 have ak:Hid (1+64 * (2 * K+1)≤34359738368):=JZ (by omega);have HS:=JZ hs;clear hst hcl ok hz hkx hky hkr h2 hs;have al:=JZ hl1;have D:=JZ hl3;clear hl1 hl3;obtain ⟨z1,z2,z3,z4,z5⟩:=YA HZ.out;have E:=JZ z3;have a2:1+(p.cols.length+1) * (2 * K+1)≤34359738368:=by
  have:=HS.out;have:=JS (2 * K+1) (show p.cols.length+1≤1201 by omega);omega
 have am:m≤64:=by rw [J.out];exact z1
 have a3:=Y1 m (by omega);have M:=Z4.zeros W1 m (by unfold maxLen;omega);have s:=Zb W1 (.cells (zfc m) 46);have k:=hX.later s;have l:=hY.later s;have a:=Za z s z.size;obtain ⟨p0,p1,p2⟩:=k.three;obtain ⟨q0,q1,q2,q3⟩:=l.four;clear z1 z3 z4 z5 s;go_enter Tryz.func59,Tryz.ntmps59;go_wp2_with fail;clear hW ac I x0 x1 x2 y0 y1 y2 y3 a3 hX hY p0 p1 p2 q0 q1 q2 q3 z;generalize W1.alloc (.cells (zfc m) 46)=W3 at *;refine (VI _ _ p x.x K _ (h.below a) (U.below a) C.out a1.out hK HZ.out HS.out).mono ?_;rintro _ w1 ⟨rfl,q⟩;have F:=k.later q;have G:=l.later q;have O:=M.below q;have b:=Za a q a.size;obtain ⟨x0,x1,x2⟩:=F.three;obtain ⟨y0,y1,y2,y3⟩:=G.four;clear k l M q a
 cases hfb:Zbd p x.x
 ·have HR:Hid (Zfe p x=false):=JZ (by simp [Zfe,hfb]);clear hfb;go_wp2;go_ret;exact ⟨ZE HR.out,b⟩
 have a4:=JZ hfb;clear hfb;go_wp2_with fail;refine (Zfq _ x.ray N _ (t.below b) (by omega)).mono ?_;rw [decide_eq_true (show x.ray.length=N by rw [D.out,a0.out]),Bool.true_and];rintro _ w2 ⟨rfl,r⟩;have k:=F.later r;have l:=G.later r;have P:=O.below r;have a:=Za b r b.size;clear x0 x1 x2 y0 y1 y2 y3 F G O r b;obtain ⟨x0,x1,x2⟩:=k.three;obtain ⟨y0,y1,y2,y3⟩:=l.four
 cases hnn:nnB x.ray
 ·have HR:Hid (Zfe p x=false):=JZ (by simp [Zfe,hnn]);clear hnn;go_wp2;go_ret;exact ⟨ZE HR.out,a⟩
 have a5:=JZ hnn;clear hnn;go_wp2_with fail;refine (Zbr _ _ _ p x.ray (List.replicate m zeroF) K _ (h.below a) (t.below a) P.frs C.out L.out (Zdi _ _) hK HZ.out D.out (by rw [List.length_replicate,J.out];exact JY _) a2 (by omega)).mono ?_;rw [show Zac p.right.length (YL p x.ray p.cols.length) (List.replicate m zeroF)=Zac p.right.length (YL p x.ray p.cols.length) [] from by unfold Zac;apply decide_eq_decide.2;constructor <;> (intro g i hi;rw [g i hi,Zjl];simp [qAt])];rintro _ w3 ⟨rfl,u⟩;have R:=k.later u;have S:=l.later u;have f:=Za a u a.size;clear x0 x1 x2 y0 y1 y2 y3 k l P u a;obtain ⟨x0,x1,x2⟩:=R.three;obtain ⟨y0,y1,y2,y3⟩:=S.four
 cases hcb:Zac p.right.length (YL p x.ray p.cols.length) []
 ·have HR:Hid (Zfe p x=false):=JZ (by simp [Zfe,hcb]);clear hcb;go_wp2;go_ret;exact ⟨ZE HR.out,f⟩
 have HR:Hid (Zfe p x=decide (qs (Zbb p.cost x.ray p.cols.length) < 0)):=JZ (by simp [Zfe,hcb,a5.out,a4.out]);have a6:1+p.cost.length * (2 * K+1)≤34359738368:=by
  rw [E.out];have:=HS.out;have:=JS (2 * K+1) z2;omega
 clear hcb;go_wp2_with fail;refine (Vh _ _ p.cost x.ray K _ (hc.below f) (t.below f) (by rw [E.out,D.out];exact JY _) hK C.out.1 L.out a6 (by omega)).mono ?_;rw [E.out];rintro _ w4 ⟨v4,rfl,e4,H⟩;go_wp2_with fail;refine (Zx _ _ _ e4).mono ?_;rw [Zu];generalize qs (Zbb p.cost x.ray p.cols.length)=sD at *;rintro _ w5 ⟨rfl,Z⟩;have v:=Za H Z H.size;have T:=Za f v f.size;clear R S f H Z v x0 x1 x2 y0 y1 y2 y3 e4;go_wp2;go_ret;exact ⟨ZE HR.out,T⟩
namespace Pl
def Zrb (p:LPd) (x:Prf):Int:=if lpErr p≠0 then lpErr p else if x.st < 1∨3 < x.st then 5 else if shB p x=false then 12 else if holdB p x=false then 24 else 0
theorem Yet {p:LPd} {x:Prf} (h:lpErr p≠0):Zrb p x=lpErr p:=by unfold Zrb;rw [if_pos h]
theorem Yeu {p:LPd} {x:Prf} (h:lpErr p=0) (h2:x.st < 1∨3 < x.st):Zrb p x=5:=by unfold Zrb;rw [if_neg (by simpa using h),if_pos h2]
theorem Yev {p:LPd} {x:Prf} (h:lpErr p=0) (h2:¬(x.st < 1∨3 < x.st)) (h3:shB p x=false):Zrb p x=12:=by unfold Zrb;rw [if_neg (by simpa using h),if_neg h2,if_pos h3]
theorem Yad {p:LPd} {x:Prf} (h:lpErr p=0) (h2:¬(x.st < 1∨3 < x.st)) (h3:shB p x=true) (h4:holdB p x=false):Zrb p x=24:=by unfold Zrb;rw [if_neg (by simpa using h),if_neg h2,if_neg (by simp [h3]),if_pos h4]
theorem Yae {p:LPd} {x:Prf} (h:lpErr p=0) (h2:¬(x.st < 1∨3 < x.st)) (h3:shB p x=true) (h4:holdB p x=true):Zrb p x=0:=by unfold Zrb;rw [if_neg (by simpa using h),if_neg h2,if_neg (by simp [h3]),if_neg (by simp [h4])]
end Pl
theorem Zrc (v1 v2:Value) (p:LPd) (x:Prf) (w:World) (h:LpM w v1 p) (h2:Zle w v2 x) (hst:¬(x.st < 1∨3 < x.st)):
 Calls Tryz.prog 58 #[v1,v2] w fun e w'=>e= .returned (.bool (shB p x))∧Below w.heap.size w w':=by
 have:x.st=1∨x.st=2∨x.st=3:=by omega
 rcases this with e | e | e
 ·exact Zyr v1 v2 p x w h h2 e
 ·exact Zys v1 v2 p x w h h2 e
 ·exact Zyt v1 v2 p x w h h2 e
theorem Zuv (v1 v2:Value) (p:LPd) (x:Prf) (K:Nat) (w:World) (h:LpM w v1 p) (h2:Zle w v2 x) (ok:p.Ok K) (hkx:RsL K x.x) (hky:RsL K x.y) (hkr:RsL K x.ray) (hK:1≤K) (hz:lpErr p=0) (hcl:∀(j:Nat) (c:List En),p.cols[j]? =some c→c.length≤64) (hs:1+1201 * (2 * K+1)≤34359738368) (hst:¬(x.st < 1∨3 < x.st)) (hsh:shB p x=true):
 Calls Tryz.prog 59 #[v1,v2] w fun e w'=>e= .returned (.bool (holdB p x))∧Below w.heap.size w w':=by
 obtain ⟨s1,s2,s3⟩:=Zyq hsh;unfold shX at s1;unfold shY at s2;unfold shR at s3;have:x.st=1∨x.st=2∨x.st=3:=by omega
 unfold holdB;rcases this with e | e | e
 ·rw [if_pos e];rw [if_neg (by omega)] at s1 s2;exact Ycu v1 v2 p x K w h h2 ok hkx hky hkr hK hz hcl hs e s1 s2
 ·rw [if_neg (by omega),if_pos e];rw [if_neg (by omega)] at s2;exact Ycv v1 v2 p x K w h h2 ok hkx hky hkr hK hz hcl hs e s2
 ·rw [if_neg (by omega),if_neg (by omega)];rw [if_neg (by omega)] at s1;rw [if_pos e] at s3;exact Ycw v1 v2 p x K w h h2 ok hkx hky hkr hK hz hcl hs e s1 s3
theorem Zak {a b:Int} (h:b=a):Ending.returned (.int .i64 a)= .returned (.int .i64 b):=by rw [h]
theorem Zgc (v1 v2:Value) (p:LPd) (x:Prf) (K:Nat) (w:World) (h:LpM w v1 p) (h2:Zle w v2 x) (ok:p.Ok K) (hkx:RsL K x.x) (hky:RsL K x.y) (hkr:RsL K x.ray) (hK:1≤K) (hcl:∀(j:Nat) (c:List En),p.cols[j]? =some c→c.length≤64) (hs:1+1201 * (2 * K+1)≤34359738368):
 Calls Tryz.prog 22 #[v1,v2] w fun e w'=>e= .returned (.int .i64 (Zrb p x))∧Below w.heap.size w w':=by
 obtain ⟨A,n,c,A',N,c',U,m,V,rfl,hc,hv,hr⟩:=id h;obtain ⟨B,lx,d,B',ly,d',X,lr,Y,rfl,E,F,G,s1,s2⟩:=id h2;obtain ⟨W,hW,hX,g⟩:=Y6 w (.slice A n c) (.slice A' N c') (.slice U m V);obtain ⟨W1,Z,hY,a⟩:=XV W (.int .i64 x.st) (.slice B lx d) (.slice B' ly d') (.slice X lr Y);have hX:=hX.later a;have i:=Za g a g.size;have v:W.heap.size=w.heap.size+1:=by rw [← hW];simp
 rw [v] at hY;obtain ⟨x0,x1,x2⟩:=hX.three;obtain ⟨y0,y1,y2,y3⟩:=hY.four;obtain ⟨m1,m2,m3⟩:=hv.len;obtain ⟨r1,r2,r3⟩:=hr.len;obtain ⟨k1,k2,k3⟩:=hc.len;obtain ⟨H,a0,a1⟩:=E.len;obtain ⟨I,a2,a3⟩:=F.len;obtain ⟨J,a4,a5⟩:=G.len;have a6:=JZ m1;have a7:=JZ r1;have a8:=JZ k1;have a9:=JZ H;have aa:=JZ I;have ab:=JZ J;clear m1 r1 k1 H I J g a;have z:=JZ ok;have M:=JZ hcl;have O:=JZ hkx;have P:=JZ hky;have R:=JZ hkr;clear ok hcl hkx hky hkr hc hv hr E F G a0 a1 a2 a3 a4 a5 m2 m3 r2 r3 k2 k3;go_enter Tryz.func22,Tryz.ntmps22;go_wp2_with fail;clear hW Z v x0 x1 x2 y0 y1 y2 y3;refine (Wx _ p K _ (h.below i) z.out).mono ?_;rintro _ w1 ⟨rfl,k⟩;have r:=hX.later k;have t:=hY.later k;have a:=Za i k i.size;clear hX hY i k;by_cases hz:lpErr p=0;rotate_left
 ·have ac:(lpErr p !=0)=true:=by simpa using hz
  have HR:=JZ (Yet (x:=x) hz);clear hz;generalize lpErr p=le at *;go_wp2;go_ret;exact ⟨Zak HR.out,a⟩
 have HZ:=JZ hz;rw [hz];clear hz;obtain ⟨y0,y1,y2,y3⟩:=t.four;obtain ⟨x0,x1,x2⟩:=r.three;by_cases o:x.st < 1∨3 < x.st
 ·have HR:=JZ (Yeu HZ.out o);have n1:(x.st !=1)=true:=by simp;omega
  have n2:(x.st !=2)=true:=by simp;omega
  have n3:(x.st !=3)=true:=by simp;omega
  clear o;go_wp2;go_ret;exact ⟨Zak HR.out,a⟩
 have f:=JZ o;have S:∀s:Int,x.st=s→(s=1∨s=2∨s=3)→(s !=1)=true∨(s !=1)=false:=fun s _ _=>by cases (s !=1) <;> simp
 clear S;have T:x.st=1∨x.st=2∨x.st=3:=by omega
 clear o;rcases T with e | e | e
 case' inl=>
  have n1:(x.st !=1)=false:=by simp [e]
 case' inr.inl=>
  have n1:(x.st !=1)=true:=by simp [e]
  have n2:(x.st !=2)=false:=by simp [e]
 case' inr.inr=>
  have n1:(x.st !=1)=true:=by simp [e]
  have n2:(x.st !=2)=true:=by simp [e]
  have n3:(x.st !=3)=false:=by simp [e]
 all_goals
  clear e;go_wp2_with fail;clear x0 x1 x2 y0 y1 y2 y3;refine (Zrc _ _ p x _ (h.below a) (h2.below a) f.out).mono ?_;rintro _ w2 ⟨rfl,l⟩;have C:=r.later l;have D:=t.later l;have b:=Za a l a.size;clear r t a l
  cases hsh:shB p x
  ·have HR:=JZ (Yev HZ.out f.out hsh);clear hsh;go_wp2;go_ret;exact ⟨Zak HR.out,b⟩
  ·have u:=JZ hsh;clear hsh;obtain ⟨y0,y1,y2,y3⟩:=D.four;obtain ⟨x0,x1,x2⟩:=C.three;go_wp2_with fail;clear x0 x1 x2 y0 y1 y2 y3;refine (Zuv _ _ p x K _ (h.below b) (h2.below b) z.out O.out P.out R.out hK HZ.out M.out hs f.out u.out).mono ?_;rintro _ w3 ⟨rfl,L⟩;have q:=Za b L b.size;clear C D b L
   cases hho:holdB p x
   ·have HR:=JZ (Yad HZ.out f.out u.out hho);clear hho;go_wp2;go_ret;exact ⟨Zak HR.out,q⟩
   ·have HR:=JZ (Yae HZ.out f.out u.out hho);clear hho;go_wp2;go_ret;exact ⟨Zak HR.out,q⟩
section
namespace Pl
def kI (z:Int):RF:=canF (z:Rat)
theorem Yaf (z:Int):(kI z).q=(z:Rat):=Zu _
theorem Zff {z:Int} (h: -4294967296 < z) (h2:z < 4294967296):(kI z).Rs 1:=(Zjx h h2).rs
def kp:LPd:=⟨[kI 0],[[⟨0,kI 1⟩]],[kI (-1)]⟩
theorem Zbi (f:RF):qAt [f] 0=f.q:=rfl
theorem kp_err:lpErr kp=0:=by
 have h1:(kI 1).q≠0:=by rw [Yaf];decide
 unfold lpErr kp;simp [Xi,vecErr,UD,leP,h1]
theorem Zal {k:Nat} {f:RF} (h:f.Rs k):RsL k [f]:=fun i g hg=>by
 match i,hg with
 | 0,hg=>simp at hg;subst hg;exact h
theorem Zmt {K:Nat} (hK:1≤K):kp.Ok K:=by
 refine ⟨Zal ((Zff (by decide) (by decide)).mono hK),Zal ((Zff (by decide) (by decide)).mono hK),fun j c hc=>?_⟩
 match j,hc with
 | 0,hc=>
  simp [kp] at hc;subst hc;refine ⟨fun k e he=>?_,fun k e he=>?_⟩
  ·match k,he with
   | 0,he=>simp at he;subst he;decide
  ·match k,he with
   | 0,he=>simp at he;subst he;exact (Zff (by decide) (by decide)).mono hK
theorem kp_len:∀(j:Nat) (c:List En),kp.cols[j]? =some c→c.length≤64:=fun j c hc=>by
 match j,hc with
 | 0,hc=>simp [kp] at hc;subst hc;decide
theorem Yag (i:Nat):kp.col ((0:Nat):Int) i=if i=0 then 1 else 0:=by
 rw [Zyi];show dQ [⟨0,kI 1⟩] (fun _=>0) i=_;simp only [dQ,Yaf];by_cases h:i=0
 ·subst h;rfl
 ·rw [if_neg (show ¬(0:Int)=(i:Int) by omega),if_neg h]
theorem Zuw (z:Int):Zgz [kI z] (kp.col ((0:Nat):Int)) kp.right.length=(z:Rat):=by
 show 0+qAt [kI z] 0 * kp.col ((0:Nat):Int) 0=_;rw [Yag,Zbi,Yaf];simp;grind
theorem Zop (z:Int):Zbb [kI z] kp.right kp.right.length=((-z:Int):Rat):=by
 show 0+qAt [kI z] 0 * qAt [kI (-1)] 0=_;rw [Zbi,Zbi,Yaf,Yaf,Rat.intCast_neg];grind
theorem kp_ver1:Zrb kp ⟨2,[],[kI (-1)],[]⟩=0:=by
 refine Yae kp_err (by decide) (by decide) ?_;unfold holdB Zkk;simp only [if_neg (show ¬(2:Int)=1 by decide),if_true];rw [Bool.and_eq_true];refine ⟨decide_eq_true fun j hj=>?_,?_⟩
 ·obtain rfl:j=0:=by have:kp.cols.length=1:=rfl;omega
  rw [Zuw];decide
 ·rw [Zop];decide
theorem kp_ver2:Zrb kp ⟨2,[],[kI 1],[]⟩=24:=by
 refine Yad kp_err (by decide) (by decide) ?_;unfold holdB Zkk;simp only [if_neg (show ¬(2:Int)=1 by decide),if_true];rw [Bool.and_eq_false_iff];refine .inl (decide_eq_false fun g=>?_);have:=g 0 (by decide);rw [Zuw] at this;exact absurd this (by decide)
theorem kp_low:Zfa kp [kI (-2)]=true:=by
 refine Zzy kp_err rfl fun j hj=>?_
 obtain rfl:j=0:=by have:kp.cols.length=1:=rfl;omega
 rw [Zuw];show _≤qAt [kI 0] 0;rw [Zbi,Yaf];decide
theorem kp_lowF:Ycf kp [kI (-2)]=kI 2:=by
 rw [Zhi kp_low,Zop];rfl
theorem kp_feas:Zbd kp [kI 1]=false:=by
 rw [Zok kp_err,Bool.and_eq_false_iff];refine .inr (Zdj (i:=0) (by decide) ?_);show 0+qAt [kI 1] 0 * kp.col ((0:Nat):Int) 0≠qAt [kI (-1)] 0;rw [Yag,Zbi,Zbi,Yaf,Yaf,if_pos rfl,Rat.mul_one,Rat.zero_add];decide
end Pl
section
variable {w:World} {g:Nat}
theorem Xh.one {b b':Bool} {A A':Option Addr} {n c n' c':Nat} {f:RF} (hB:Bk w g 46 [.bool b,.slice A n c,.bool b',.slice A' n' c']) (h:Zt w (.agg #[.bool b,.slice A n c,.bool b',.slice A' n' c']) f):Xh w (.slice (some ⟨g,0,none⟩) 1 1) [f]:=by
 refine ⟨[.bool b,.slice A n c,.bool b',.slice A' n' c'],⟨_,1,rfl,rfl,JY _,by unfold maxLen;omega,fun _=>⟨g,0,_,_,rfl,hB,fun j u hj=>by simpa using hj⟩⟩,rfl,fun k f' hf=>?_⟩
 match k,hf with
 | 0,hf=>simp at hf;subst hf;exact ⟨_,_,_,_,rfl,rfl,rfl,rfl,h⟩
theorem Vf.one {k:Int} {b b':Bool} {A A':Option Addr} {n c n' c':Nat} {f:RF} (hB:Bk w g 83 [.int .i64 k,.bool b,.slice A n c,.bool b',.slice A' n' c']) (h:Zt w (.agg #[.bool b,.slice A n c,.bool b',.slice A' n' c']) f):Vf w (.slice (some ⟨g,0,none⟩) 1 1) [⟨k,f⟩]:=by
 refine ⟨[.int .i64 k,.bool b,.slice A n c,.bool b',.slice A' n' c'],⟨_,1,rfl,rfl,JY _,by unfold maxLen;omega,fun _=>⟨g,0,_,_,rfl,hB,fun j u hj=>by simpa using hj⟩⟩,rfl,fun j f' hf=>?_⟩
 match j,hf with
 | 0,hf=>simp at hf;subst hf;exact ⟨_,_,_,_,rfl,rfl,rfl,rfl,rfl,h⟩
theorem XO.one {v:Value} {es:List En} (hB:Bk w g 66 [v]) (h:Vf w v es):XO w (.slice (some ⟨g,0,none⟩) 1 1) [es]:=by
 refine ⟨[v],⟨_,1,rfl,rfl,JY _,by unfold maxLen;omega,fun _=>⟨g,0,_,_,rfl,hB,fun j u hj=>by simpa using hj⟩⟩,fun j f' hf=>?_⟩
 match j,hf with
 | 0,hf=>simp at hf;subst hf;exact ⟨_,rfl,h⟩
theorem Xh.nil (w:World):Xh w (.slice none 0 0) []:=⟨[],V7.nil w _ _ none 0 (by simp),FrC.nil w⟩
end
end
theorem Ygj (w:World) (x:Value):∃W,w.alloc (.cells #[x] 66)=W∧Bk W w.heap.size 66 [x]∧Below w.heap.size w W:=⟨_,rfl,Bk.new w _ [x],Zb w _⟩
theorem Bk.drewB {w:World} {g:Nat} {t:TypeId} {cs:List Value} (_h:Bk w g t cs):Below w.heap.size w w.drew:=Zj w
def Uz (U:World) (s4 s5:Value) (wx:World):Prop:=
 ∃g A n c A' n' c',s4= .pointer (some ⟨g,0,none⟩)∧s5= .bool true∧Bk wx g 46 [.bool (kI 2).num.neg,.slice A n c,.bool (kI 2).den.neg,.slice A' n' c']∧Zt wx (.agg #[.bool (kI 2).num.neg,.slice A n c,.bool (kI 2).den.neg,.slice A' n' c']) (kI 2)∧Below U.heap.size U wx
theorem Uz.mk {U w:World} {g:Nat} {x y z u:Value} {A A':Option Addr} {n c n' c':Nat} (hB:Bk w g 46 [x,y,z,u]) (hF:Zt w (.agg #[.bool (kI 2).num.neg,.slice A n c,.bool (kI 2).den.neg,.slice A' n' c']) (kI 2)) (hb:Below U.heap.size U w) (hg:U.heap.size≤g):
 Uz U (.pointer (some ⟨g,0,none⟩)) (.bool true) ((((w.setCell ⟨g,0,none⟩ (.bool (kI 2).num.neg)).setCell ⟨g,1,none⟩ (.slice A n c)).setCell ⟨g,2,none⟩ (.bool (kI 2).den.neg)).setCell ⟨g,3,none⟩ (.slice A' n' c')):=
 ⟨g,A,n,c,A',n',c',rfl,rfl,hB.set4 _ _ _ _,hF.keep (hB.keep4 (by decide) _ _ _ _),ZG hb hg _ _ _ _⟩
theorem Yew (w:World):Calls Tryz.prog 13 #[] w fun e w'=>e= .returned (.bool true)∧Below w.heap.size w w':=by
 go_enter Tryz.func13,Tryz.ntmps13;go_wp2_with fail;refine (Y4 (0) _ (by omega) (by omega)).mono ?_;rw [show canF ((0:Int):Rat)=kI (0) from rfl];rintro _ w1 ⟨v1,rfl,e1,L⟩;have V:=JZ e1.frac;clear e1;generalize ba:kI (0)=k1 at *;have bf:=JZ ba;clear ba;obtain ⟨A1,n1,c1,B1,m1,d1,rfl,_,_⟩:=id V.out;obtain ⟨U1,bu,b2,ai⟩:=YN w1 (.bool k1.num.neg) (.slice A1 n1 c1) (.bool k1.den.neg) (.slice B1 m1 d1);have X:=Za L ai L.size;go_wp2_with fail;clear bu;refine (Y4 (1) _ (by omega) (by omega)).mono ?_;rw [show canF ((1:Int):Rat)=kI (1) from rfl];rintro _ w2 ⟨v2,rfl,e2,r⟩;have Y:=JZ e2.frac;clear e2;generalize bb:kI (1)=k2 at *;have bg:=JZ bb;clear bb;obtain ⟨A2,n2,c2,B2,m2,d2,rfl,_,_⟩:=id Y.out;have Z:=Za X r X.size;obtain ⟨U2,bv,b3,u⟩:=Zaa w2 (.int .i64 0) (.bool k2.num.neg) (.slice A2 n2 c2) (.bool k2.den.neg) (.slice B2 m2 d2);have a0:=Za Z u Z.size;obtain ⟨U3,bw,b4,k⟩:=Ygj U2 (.slice (some ⟨w2.heap.size,0,none⟩) 1 1);have a1:=Za a0 k a0.size;go_wp2_with fail;clear bv bw;refine (Y4 (-1) _ (by omega) (by omega)).mono ?_;rw [show canF ((-1:Int):Rat)=kI (-1) from rfl];rintro _ w3 ⟨v3,rfl,e3,i⟩;have a2:=JZ e3.frac;clear e3;generalize bc:kI (-1)=k3 at *;have bh:=JZ bc;clear bc;obtain ⟨A3,n3,c3,B3,m3,d3,rfl,_,_⟩:=id a2.out;have a3:=Za a1 i a1.size;obtain ⟨U4,bx,b5,t⟩:=YN w3 (.bool k3.num.neg) (.slice A3 n3 c3) (.bool k3.den.neg) (.slice B3 m3 d3);have a4:=Za a3 t a3.size;obtain ⟨U5,bz,hP,H⟩:=Y6 U4 (.slice (some ⟨w1.heap.size,0,none⟩) 1 1) (.slice (some ⟨U2.heap.size,0,none⟩) 1 1) (.slice (some ⟨w3.heap.size,0,none⟩) 1 1);have a5:=Za a4 H a4.size;go_wp2_with fail;clear bx bz;have aj:=Za (Za (Za (Za (Za r u r.size) k (by have:=r.size;have:=u.size;omega)) i (by have:=r.size;have:=u.size;have:=k.size;omega)) t (by have:=r.size;have:=u.size;have:=k.size;have:=i.size;omega)) H (by have:=r.size;have:=u.size;have:=k.size;have:=i.size;have:=t.size;omega);have bi:=Za (Za (Za k i k.size) t (by have:=k.size;have:=i.size;omega)) H (by have:=k.size;have:=i.size;have:=t.size;omega);have ak:=Za (Za i t i.size) H (by have:=i.size;have:=t.size;omega);have hp:LpM U5 (.agg #[.slice (some ⟨w1.heap.size,0,none⟩) 1 1,.slice (some ⟨U2.heap.size,0,none⟩) 1 1,.slice (some ⟨w3.heap.size,0,none⟩) 1 1]) kp:=by
  unfold kp;rw [bf.out,bg.out,bh.out];exact ⟨_,_,_,_,_,_,_,_,_,rfl,(Xh.one b2 (V.out.below ai)).below aj,((XO.one b4 ((Vf.one b3 (Y.out.below u)).below k)).below ak),(Xh.one b5 (a2.out.below t)).below H⟩
 have HP:=JZ hp;clear hp aj bi ak b2 b3 b4 b5 ai u k t H L r i X Z a0 a1 a3 a4 V Y a2;generalize cd:U4.heap.size=gp at *;clear cd;refine (Y4 (-1) _ (by omega) (by omega)).mono ?_;rw [show canF ((-1:Int):Rat)=kI (-1) from rfl];rintro _ w4 ⟨v4,rfl,e4,I⟩;have a6:=JZ e4.frac;clear e4;generalize bd:kI (-1)=k4 at *;have bj:=JZ bd;clear bd;obtain ⟨A4,n4,c4,B4,m4,d4,rfl,_,_⟩:=id a6.out;obtain ⟨U6,c0,b6,P⟩:=YN w4 (.bool k4.num.neg) (.slice A4 n4 c4) (.bool k4.den.neg) (.slice B4 m4 d4);obtain ⟨Z7,c9,C,b7⟩:=XV U6 (.int .i64 0) (.slice none 0 0) (.slice none 0 0) (.slice none 0 0);obtain ⟨q0,q1,q2,q3⟩:=C.four;obtain ⟨h0,h1,h2,h3⟩:=C.fourF;have al:=C.set4 (.int .i64 2) (.slice none 0 0) (.slice (some ⟨w4.heap.size,0,none⟩) 1 1) (.slice none 0 0);have a7:=ZG b7 (JY _) (.int .i64 2) (.slice none 0 0) (.slice (some ⟨w4.heap.size,0,none⟩) 1 1) (.slice none 0 0);have M:=Za (Za I P I.size) a7 (by have:=I.size;have:=P.size;omega);go_wp2_with fail;clear c0 c9 q0 q1 q2 q3 h0 h1 h2 h3 C b7;generalize (((Z7.setCell ⟨U6.heap.size,0,none⟩ (.int .i64 2)).setCell ⟨U6.heap.size,1,none⟩ (.slice none 0 0)).setCell ⟨U6.heap.size,2,none⟩ (.slice (some ⟨w4.heap.size,0,none⟩) 1 1)).setCell ⟨U6.heap.size,3,none⟩ (.slice none 0 0)=U7 at *;have am:Zle U7 (.agg #[.int .i64 2,.slice none 0 0,.slice (some ⟨w4.heap.size,0,none⟩) 1 1,.slice none 0 0]) ⟨2,[],[kI (-1)],[]⟩:=by
  rw [bj.out];exact ⟨_,_,_,_,_,_,_,_,_,rfl,Xh.nil _,(Xh.one b6 (a6.out.below P)).below a7,Xh.nil _,by simp,by simp⟩
 have an:=JZ am;have a8:=Za a5 M a5.size;have ao:=hP.later M;have ap:=JZ (HP.out.below M);clear am b6 P a7 I a6 hP HP M a5;generalize ce:U6.heap.size=g1 at *;clear ce;generalize cf:w4.heap.size=ci at *;clear cf;refine (Y4 (1) _ (by omega) (by omega)).mono ?_;rw [show canF ((1:Int):Rat)=kI (1) from rfl];rintro _ w5 ⟨v5,rfl,e5,J⟩;have a9:=JZ e5.frac;clear e5;generalize be:kI (1)=k5 at *;have bk:=JZ be;clear be;obtain ⟨A5,n5,c5,B5,m5,d5,rfl,_,_⟩:=id a9.out;obtain ⟨U8,ca,b8,R⟩:=YN w5 (.bool k5.num.neg) (.slice A5 n5 c5) (.bool k5.den.neg) (.slice B5 m5 d5);obtain ⟨Z9,cb,D,b9⟩:=XV U8 (.int .i64 0) (.slice none 0 0) (.slice none 0 0) (.slice none 0 0);obtain ⟨q0,q1,q2,q3⟩:=D.four;obtain ⟨h0,h1,h2,h3⟩:=D.fourF;have aq:=D.set4 (.int .i64 2) (.slice none 0 0) (.slice (some ⟨w5.heap.size,0,none⟩) 1 1) (.slice none 0 0);have aa:=ZG b9 (JY _) (.int .i64 2) (.slice none 0 0) (.slice (some ⟨w5.heap.size,0,none⟩) 1 1) (.slice none 0 0);have E:=Za (Za J R J.size) aa (by have:=J.size;have:=R.size;omega)
 go_upto_region 4 with (fail)
 clear ca cb q0 q1 q2 q3 h0 h1 h2 h3 D b9;generalize (((Z9.setCell ⟨U8.heap.size,0,none⟩ (.int .i64 2)).setCell ⟨U8.heap.size,1,none⟩ (.slice none 0 0)).setCell ⟨U8.heap.size,2,none⟩ (.slice (some ⟨w5.heap.size,0,none⟩) 1 1)).setCell ⟨U8.heap.size,3,none⟩ (.slice none 0 0)=U9 at *;have ar:Zle U9 (.agg #[.int .i64 2,.slice none 0 0,.slice (some ⟨w5.heap.size,0,none⟩) 1 1,.slice none 0 0]) ⟨2,[],[kI 1],[]⟩:=by
  rw [bk.out];exact ⟨_,_,_,_,_,_,_,_,_,rfl,Xh.nil _,(Xh.one b8 (a9.out.below R)).below aa,Xh.nil _,by simp,by simp⟩
 have au:=JZ ar;have ab:=Za a8 E a8.size;have ac:=ao.later E;have F:=JZ (ap.out.below E);have T:=al.later E;have U:=JZ (an.out.below E);clear ar b8 R aa J a9 ao ap al an E a8;generalize cg:U8.heap.size=g2 at *;clear cg;generalize ch:w5.heap.size=cj at *;clear ch
 go_cut [4,5] (fun s4 s5 wx=>Uz U9 s4 s5 wx)
 case first=>
  obtain ⟨x0,x1,x2⟩:=ac.three;have C0:=Zp x0;have C1:=Zp x1;have C2:=Zp x2;have l:=Zj U9;clear x0 x1 x2;refine XF 8 (.go 0 (.fork 1 (.fork 2 (.fork 3 (.go 4 (.go 5 (.go 6 (.go 7 (.go 8 (.go 9 .done)))))) 7 (.go 3 (.go 4 (.go 5 (.go 6 (.go 8 (.go 9 .done))))))) 7 (.go 2 (.go 3 (.go 4 (.go 5 (.go 6 (.go 8 (.go 9 .done)))))))) 7 (.go 1 (.go 2 (.go 3 (.go 4 (.go 5 (.go 6 (.go 8 (.go 9 .done)))))))))) (by kernel_rfl) (by kernel_rfl) ?_;repeat ((first | (refine Z6 (v:=?_) rfl rfl rfl ?_ ?_;rotate_left;(· (intro _ a;go_simp;(try go_bits);(try with_reducible rfl)))) | (refine Yr (v:=?_) rfl rfl rfl ?_ ?_;rotate_left;(· (intro _ a;go_simp;(try go_bits);(try with_reducible rfl)))) | refine Yt rfl rfl rfl ?_ | refine Z8 rfl rfl rfl (by assumption) ?_);(try simp only [Act.put,pu1,pu2,pu3,pu4,pu5,pu6]))
  refine WT rfl rfl (fun KR hKR=>?_) (fun KR hKR=>?_)
  ·go_simp;(with_reducible refine (Y4 (-2) _ (by omega) (by omega)).mono ?_);rw [show canF ((-2:Int):Rat)=kI (-2) from rfl];rintro _ wA ⟨vA,rfl,eA,S⟩;have m:=Za l S l.size;obtain ⟨A6,n6,c6,B6,m6,d6,rfl,_,_⟩:=id eA.frac;have N:=eA.frac;clear eA;refine hKR.out _ _ (Or.inr m) ?_;clear hKR KR;(try simp only [Act.put,pu1,pu2,pu3,pu4,pu5,pu6]);refine WT rfl rfl (fun KR hKR=>?_) (fun KR hKR=>?_)
   ·obtain ⟨WB,y,o,h⟩:=YN wA (.bool (kI (-2)).num.neg) (.slice A6 n6 c6) (.bool (kI (-2)).den.neg) (.slice B6 m6 d6);go_simp;have b:=Za m h m.size;refine hKR.out _ _ (Or.inr b) ?_;clear hKR KR y;(try simp only [Act.put,pu1,pu2,pu3,pu4,pu5,pu6]);have G:=Xh.one o (N.below h);clear o;refine WT rfl rfl (fun KR hKR=>?_) (fun KR hKR=>?_)
    ·go_simp;(with_reducible refine (Xc _ _ kp [kI (-2)] 1 _ (F.out.below b) G (Zmt (by decide)) (Zal (Zff (by decide) (by decide))) (by decide) kp_len (by decide)).mono ?_);rintro _ wC ⟨vC,rfl,eC,s⟩;rw [kp_lowF] at eC;rw [kp_low];have f:=Za b s b.size;obtain ⟨A7,n7,c7,B7,m7,d7,rfl,_,_⟩:=id eC;refine hKR.out _ _ (Or.inr f) ?_;clear hKR KR;(try simp only [Act.put,pu1,pu2,pu3,pu4,pu5,pu6]);repeat ((first | (refine Z6 (v:=?_) rfl rfl rfl ?_ ?_;rotate_left;(· (intro _ a;go_simp;(try go_bits);(try with_reducible rfl)))) | (refine Yr (v:=?_) rfl rfl rfl ?_ ?_;rotate_left;(· (intro _ a;go_simp;(try go_bits);(try with_reducible rfl)))) | refine Yt rfl rfl rfl ?_ | refine Z8 rfl rfl rfl (by assumption) ?_);(try simp only [Act.put,pu1,pu2,pu3,pu4,pu5,pu6]))
     obtain ⟨WG,z,p,q⟩:=YN wC (.bool false) (.slice none 0 0) (.bool false) (.slice none 0 0);refine ZA rfl rfl (fun KR hKR=>?_);go_simp;have x:=f.size;have d:=Za f q f.size;refine hKR.out _ _ (Or.inr d) ?_;clear hKR KR z;(try simp only [Act.put,pu1,pu2,pu3,pu4,pu5,pu6]);have bl:=eC.below q;obtain ⟨t0,t1,t2,t3⟩:=p.four;obtain ⟨f0,f1,f2,f3⟩:=p.fourF;refine ZA rfl rfl (fun KR hKR=>?_);go_simp;refine hKR.out _ _ (Or.inl (by decide)) ?_;clear hKR KR;(try simp only [Act.put,pu1,pu2,pu3,pu4,pu5,pu6]);refine ZA rfl rfl (fun KR hKR=>?_);go_simp;refine hKR.out _ _ (Or.inl (by decide)) ?_;clear hKR KR;(try simp only [Act.put,pu1,pu2,pu3,pu4,pu5,pu6]);refine YM ?_;go_wp2_with fail
     go_meet
     exact Uz.mk p bl d x
    ·obtain ⟨WG,z,p,q⟩:=YN WB (.bool false) (.slice none 0 0) (.bool false) (.slice none 0 0);go_simp;have x:=b.size;have d:=Za b q b.size;refine hKR.out _ _ (Or.inr d) ?_;clear hKR KR z;(try simp only [Act.put,pu1,pu2,pu3,pu4,pu5,pu6]);have bm:=G.below q;refine ZA rfl rfl (fun KR hKR=>?_);go_simp;(with_reducible refine (Xc _ _ kp [kI (-2)] 1 _ (F.out.below d) bm (Zmt (by decide)) (Zal (Zff (by decide) (by decide))) (by decide) kp_len (by decide)).mono ?_);rintro _ wC ⟨vC,rfl,eC,s⟩;rw [kp_lowF] at eC;rw [kp_low];have f:=Za d s d.size;obtain ⟨A7,n7,c7,B7,m7,d7,rfl,_,_⟩:=id eC;refine hKR.out _ _ (Or.inr f) ?_;clear hKR KR;(try simp only [Act.put,pu1,pu2,pu3,pu4,pu5,pu6]);have j:=p.later s;repeat ((first | (refine Z6 (v:=?_) rfl rfl rfl ?_ ?_;rotate_left;(· (intro _ a;go_simp;(try go_bits);(try with_reducible rfl)))) | (refine Yr (v:=?_) rfl rfl rfl ?_ ?_;rotate_left;(· (intro _ a;go_simp;(try go_bits);(try with_reducible rfl)))) | refine Yt rfl rfl rfl ?_ | refine Z8 rfl rfl rfl (by assumption) ?_);(try simp only [Act.put,pu1,pu2,pu3,pu4,pu5,pu6]))
     obtain ⟨t0,t1,t2,t3⟩:=j.four;obtain ⟨f0,f1,f2,f3⟩:=j.fourF;refine ZA rfl rfl (fun KR hKR=>?_);go_simp;refine hKR.out _ _ (Or.inl (by decide)) ?_;clear hKR KR;(try simp only [Act.put,pu1,pu2,pu3,pu4,pu5,pu6]);refine ZA rfl rfl (fun KR hKR=>?_);go_simp;refine hKR.out _ _ (Or.inl (by decide)) ?_;clear hKR KR;(try simp only [Act.put,pu1,pu2,pu3,pu4,pu5,pu6]);refine YM ?_;go_wp2_with fail
     go_meet
     exact Uz.mk j eC f x
   ·obtain ⟨WG,z,p,q⟩:=YN wA (.bool false) (.slice none 0 0) (.bool false) (.slice none 0 0);go_simp;have x:=m.size;have d:=Za m q m.size;refine hKR.out _ _ (Or.inr d) ?_;clear hKR KR z;(try simp only [Act.put,pu1,pu2,pu3,pu4,pu5,pu6]);have bn:=N.below q;obtain ⟨WB,y,o,h⟩:=YN WG (.bool (kI (-2)).num.neg) (.slice A6 n6 c6) (.bool (kI (-2)).den.neg) (.slice B6 m6 d6);refine ZA rfl rfl (fun KR hKR=>?_);go_simp;have b:=Za d h d.size;refine hKR.out _ _ (Or.inr b) ?_;clear hKR KR y;(try simp only [Act.put,pu1,pu2,pu3,pu4,pu5,pu6]);have G:=Xh.one o (bn.below h);clear o;have ad:=p.later h;refine ZA rfl rfl (fun KR hKR=>?_);go_simp;(with_reducible refine (Xc _ _ kp [kI (-2)] 1 _ (F.out.below b) G (Zmt (by decide)) (Zal (Zff (by decide) (by decide))) (by decide) kp_len (by decide)).mono ?_);rintro _ wC ⟨vC,rfl,eC,s⟩;rw [kp_lowF] at eC;rw [kp_low];have f:=Za b s b.size;obtain ⟨A7,n7,c7,B7,m7,d7,rfl,_,_⟩:=id eC;refine hKR.out _ _ (Or.inr f) ?_;clear hKR KR;(try simp only [Act.put,pu1,pu2,pu3,pu4,pu5,pu6]);have j:=ad.later s;repeat ((first | (refine Z6 (v:=?_) rfl rfl rfl ?_ ?_;rotate_left;(· (intro _ a;go_simp;(try go_bits);(try with_reducible rfl)))) | (refine Yr (v:=?_) rfl rfl rfl ?_ ?_;rotate_left;(· (intro _ a;go_simp;(try go_bits);(try with_reducible rfl)))) | refine Yt rfl rfl rfl ?_ | refine Z8 rfl rfl rfl (by assumption) ?_);(try simp only [Act.put,pu1,pu2,pu3,pu4,pu5,pu6]))
    obtain ⟨t0,t1,t2,t3⟩:=j.four;obtain ⟨f0,f1,f2,f3⟩:=j.fourF;refine ZA rfl rfl (fun KR hKR=>?_);go_simp;refine hKR.out _ _ (Or.inl (by decide)) ?_;clear hKR KR;(try simp only [Act.put,pu1,pu2,pu3,pu4,pu5,pu6]);refine ZA rfl rfl (fun KR hKR=>?_);go_simp;refine hKR.out _ _ (Or.inl (by decide)) ?_;clear hKR KR;(try simp only [Act.put,pu1,pu2,pu3,pu4,pu5,pu6]);refine YM ?_;go_wp2_with fail
    go_meet
    exact Uz.mk j eC f x
  ·obtain ⟨WG,z,p,q⟩:=YN U9.drew (.bool false) (.slice none 0 0) (.bool false) (.slice none 0 0);go_simp;have x:=l.size;have d:=Za l q l.size;refine hKR.out _ _ (Or.inr d) ?_;clear hKR KR z;(try simp only [Act.put,pu1,pu2,pu3,pu4,pu5,pu6])
   change Bk WG U9.heap.size 46 _ at p
   refine ZA rfl rfl (fun KR hKR=>?_);go_simp;(with_reducible refine (Y4 (-2) _ (by omega) (by omega)).mono ?_);rw [show canF ((-2:Int):Rat)=kI (-2) from rfl];rintro _ wA ⟨vA,rfl,eA,S⟩;have m:=Za d S d.size;obtain ⟨A6,n6,c6,B6,m6,d6,rfl,_,_⟩:=id eA.frac;have N:=eA.frac;clear eA;refine hKR.out _ _ (Or.inr m) ?_;clear hKR KR;(try simp only [Act.put,pu1,pu2,pu3,pu4,pu5,pu6]);have hG:=p.later S;obtain ⟨WB,y,o,h⟩:=YN wA (.bool (kI (-2)).num.neg) (.slice A6 n6 c6) (.bool (kI (-2)).den.neg) (.slice B6 m6 d6);refine ZA rfl rfl (fun KR hKR=>?_);go_simp;have b:=Za m h m.size;refine hKR.out _ _ (Or.inr b) ?_;clear hKR KR y;(try simp only [Act.put,pu1,pu2,pu3,pu4,pu5,pu6]);have G:=Xh.one o (N.below h);clear o;have ad:=hG.later h;refine ZA rfl rfl (fun KR hKR=>?_);go_simp;(with_reducible refine (Xc _ _ kp [kI (-2)] 1 _ (F.out.below b) G (Zmt (by decide)) (Zal (Zff (by decide) (by decide))) (by decide) kp_len (by decide)).mono ?_);rintro _ wC ⟨vC,rfl,eC,s⟩;rw [kp_lowF] at eC;rw [kp_low];have f:=Za b s b.size;obtain ⟨A7,n7,c7,B7,m7,d7,rfl,_,_⟩:=id eC;refine hKR.out _ _ (Or.inr f) ?_;clear hKR KR;(try simp only [Act.put,pu1,pu2,pu3,pu4,pu5,pu6]);have j:=ad.later s;repeat ((first | (refine Z6 (v:=?_) rfl rfl rfl ?_ ?_;rotate_left;(· (intro _ a;go_simp;(try go_bits);(try with_reducible rfl)))) | (refine Yr (v:=?_) rfl rfl rfl ?_ ?_;rotate_left;(· (intro _ a;go_simp;(try go_bits);(try with_reducible rfl)))) | refine Yt rfl rfl rfl ?_ | refine Z8 rfl rfl rfl (by assumption) ?_);(try simp only [Act.put,pu1,pu2,pu3,pu4,pu5,pu6]))
   obtain ⟨t0,t1,t2,t3⟩:=j.four;obtain ⟨f0,f1,f2,f3⟩:=j.fourF;refine ZA rfl rfl (fun KR hKR=>?_);go_simp;refine hKR.out _ _ (Or.inl (by decide)) ?_;clear hKR KR;(try simp only [Act.put,pu1,pu2,pu3,pu4,pu5,pu6]);refine ZA rfl rfl (fun KR hKR=>?_);go_simp;refine hKR.out _ _ (Or.inl (by decide)) ?_;clear hKR KR;(try simp only [Act.put,pu1,pu2,pu3,pu4,pu5,pu6]);refine YM ?_;go_wp2_with fail
   go_meet
   exact Uz.mk j eC f x
 case rest=>
  obtain ⟨g,A,n,c,A',n',c',rfl,rfl,hB,hF,B⟩:=hcut;have av:=Za ab B ab.size;have bo:=ac.later B;have aw:=T.later B;have ax:=aq.later B;have ae:=JZ (F.out.below B);have ay:=JZ (U.out.below B);have az:=JZ (au.out.below B);obtain ⟨x0,x1,x2⟩:=bo.three;obtain ⟨p0,p1,p2,p3⟩:=aw.four;obtain ⟨q0,q1,q2,q3⟩:=ax.four;obtain ⟨r0,r1,r2,r3⟩:=hB.four;clear ac T aq F U au ab;go_wp2_with fail;have C0:=Zp x0;have C1:=Zp x1;have C2:=Zp x2;have C3:=Zp p0;have C4:=Zp p1;have C5:=Zp p2;have C6:=Zp p3;have C7:=Zp q0;have C8:=Zp q1;have C9:=Zp q2;have bp:=Zp q3;have bq:=Zp r0;have br:=Zp r1;have bs:=Zp r2;have bt:=Zp r3;have l:=hB.drewB;clear x0 x1 x2 p0 p1 p2 p3 q0 q1 q2 q3 r0 r1 r2 r3;refine Zq 26 [0,1,2,3,4,5,6,7,8,9,10,11,12,13,14,15,16,17,18,19,20,21,22,23,24,25] (by kernel_rfl) (by kernel_rfl) ?_;repeat ((first | (refine Zc (v:=?_) rfl rfl rfl ?_ ?_;rotate_left;(· (intro _ a;go_simp;(try go_bits);(try with_reducible rfl)))) | (refine Zg (v:=?_) rfl rfl rfl ?_ ?_;rotate_left;(· (intro _ a;go_simp;(try go_bits);(try with_reducible rfl)))) | refine Zh rfl rfl rfl ?_ | refine Yy rfl rfl rfl (by assumption) ?_);(try simp only [Act.put,pu1,pu2,pu3,pu4,pu5,pu6]))
  refine Zd rfl rfl (fun KR hKR=>?_);go_simp;with_reducible refine (Zgc _ _ kp ⟨2,[],[kI (-1)],[]⟩ 1 _ (ae.out.below l) (ay.out.below l) (Zmt (by decide)) (RsL.nil 1) (Zal (Zff (by decide) (by decide))) (RsL.nil 1) (by decide) kp_len (by decide)).mono ?_
  rw [kp_ver1];rintro _ y1 ⟨rfl,L⟩;have K:=Za l L l.size;refine hKR.out _ _ (Or.inr K) ?_;clear hKR KR;(try simp only [Act.put,pu1,pu2,pu3,pu4,pu5,pu6]);repeat ((first | (refine Zc (v:=?_) rfl rfl rfl ?_ ?_;rotate_left;(· (intro _ a;go_simp;(try go_bits);(try with_reducible rfl)))) | (refine Zg (v:=?_) rfl rfl rfl ?_ ?_;rotate_left;(· (intro _ a;go_simp;(try go_bits);(try with_reducible rfl)))) | refine Zh rfl rfl rfl ?_ | refine Yy rfl rfl rfl (by assumption) ?_);(try simp only [Act.put,pu1,pu2,pu3,pu4,pu5,pu6]))
  refine Zd rfl rfl (fun KR hKR=>?_);go_simp;with_reducible refine (Zgc _ _ kp ⟨2,[],[kI 1],[]⟩ 1 _ (ae.out.below K) (az.out.below K) (Zmt (by decide)) (RsL.nil 1) (Zal (Zff (by decide) (by decide))) (RsL.nil 1) (by decide) kp_len (by decide)).mono ?_
  rw [kp_ver2];rintro _ y2 ⟨rfl,r⟩;have af:=Za K r K.size;refine hKR.out _ _ (Or.inr af) ?_;clear hKR KR;(try simp only [Act.put,pu1,pu2,pu3,pu4,pu5,pu6]);repeat ((first | (refine Zc (v:=?_) rfl rfl rfl ?_ ?_;rotate_left;(· (intro _ a;go_simp;(try go_bits);(try with_reducible rfl)))) | (refine Zg (v:=?_) rfl rfl rfl ?_ ?_;rotate_left;(· (intro _ a;go_simp;(try go_bits);(try with_reducible rfl)))) | refine Zh rfl rfl rfl ?_ | refine Yy rfl rfl rfl (by assumption) ?_);(try simp only [Act.put,pu1,pu2,pu3,pu4,pu5,pu6]))
  refine Zd rfl rfl (fun KR hKR=>?_);go_simp;with_reducible refine (Y4 2 _ (by omega) (by omega)).mono ?_
  rw [show canF ((2:Int):Rat)=kI 2 from rfl];rintro _ y3 ⟨v3,rfl,e3,i⟩;have O:=Za af i af.size;refine hKR.out _ _ (Or.inr O) ?_;clear hKR KR;(try simp only [Act.put,pu1,pu2,pu3,pu4,pu5,pu6]);repeat ((first | (refine Zc (v:=?_) rfl rfl rfl ?_ ?_;rotate_left;(· (intro _ a;go_simp;(try go_bits);(try with_reducible rfl)))) | (refine Zg (v:=?_) rfl rfl rfl ?_ ?_;rotate_left;(· (intro _ a;go_simp;(try go_bits);(try with_reducible rfl)))) | refine Zh rfl rfl rfl ?_ | refine Yy rfl rfl rfl (by assumption) ?_);(try simp only [Act.put,pu1,pu2,pu3,pu4,pu5,pu6]))
  refine Zd rfl rfl (fun KR hKR=>?_);go_simp;with_reducible refine (Zto _ _ (kI 2) (kI 2) _ (hF.below O) e3.frac).mono ?_
  rw [Zqa];rintro _ y4 ⟨rfl,I⟩;have ag:=Za O I O.size;refine hKR.out _ _ (Or.inr ag) ?_;clear hKR KR;(try simp only [Act.put,pu1,pu2,pu3,pu4,pu5,pu6]);repeat ((first | (refine Zc (v:=?_) rfl rfl rfl ?_ ?_;rotate_left;(· (intro _ a;go_simp;(try go_bits);(try with_reducible rfl)))) | (refine Zg (v:=?_) rfl rfl rfl ?_ ?_;rotate_left;(· (intro _ a;go_simp;(try go_bits);(try with_reducible rfl)))) | refine Zh rfl rfl rfl ?_ | refine Yy rfl rfl rfl (by assumption) ?_);(try simp only [Act.put,pu1,pu2,pu3,pu4,pu5,pu6]))
  refine Zd rfl rfl (fun KR hKR=>?_);go_simp;with_reducible refine (Y4 1 _ (by omega) (by omega)).mono ?_
  rw [show canF ((1:Int):Rat)=kI 1 from rfl];rintro _ y5 ⟨v5,rfl,e5,J⟩;have ah:=Za ag J ag.size;obtain ⟨A8,n8,c8,B8,m8,d8,rfl,_,_⟩:=id e5.frac;refine hKR.out _ _ (Or.inr ah) ?_;clear hKR KR;(try simp only [Act.put,pu1,pu2,pu3,pu4,pu5,pu6]);repeat ((first | (refine Zc (v:=?_) rfl rfl rfl ?_ ?_;rotate_left;(· (intro _ a;go_simp;(try go_bits);(try with_reducible rfl)))) | (refine Zg (v:=?_) rfl rfl rfl ?_ ?_;rotate_left;(· (intro _ a;go_simp;(try go_bits);(try with_reducible rfl)))) | refine Zh rfl rfl rfl ?_ | refine Yy rfl rfl rfl (by assumption) ?_);(try simp only [Act.put,pu1,pu2,pu3,pu4,pu5,pu6]))
  obtain ⟨WB,y,o,h⟩:=YN y5 (.bool (kI 1).num.neg) (.slice A8 n8 c8) (.bool (kI 1).den.neg) (.slice B8 m8 d8);refine Zd rfl rfl (fun KR hKR=>?_);go_simp;have b:=Za ah h ah.size;refine hKR.out _ _ (Or.inr b) ?_;clear hKR KR y;(try simp only [Act.put,pu1,pu2,pu3,pu4,pu5,pu6]);repeat ((first | (refine Zc (v:=?_) rfl rfl rfl ?_ ?_;rotate_left;(· (intro _ a;go_simp;(try go_bits);(try with_reducible rfl)))) | (refine Zg (v:=?_) rfl rfl rfl ?_ ?_;rotate_left;(· (intro _ a;go_simp;(try go_bits);(try with_reducible rfl)))) | refine Zh rfl rfl rfl ?_ | refine Yy rfl rfl rfl (by assumption) ?_);(try simp only [Act.put,pu1,pu2,pu3,pu4,pu5,pu6]))
  refine Zd rfl rfl (fun KR hKR=>?_);go_simp;with_reducible refine (Zfb _ _ kp [kI 1] 1 _ (ae.out.below b) (Xh.one o (e5.frac.below h)) (Zmt (by decide)) (Zal (Zff (by decide) (by decide))) (by decide) (by decide)).mono ?_
  rw [kp_feas];rintro _ y6 ⟨rfl,cc⟩;have b0:=Za b cc b.size;refine hKR.out _ _ (Or.inr b0) ?_;clear hKR KR;(try simp only [Act.put,pu1,pu2,pu3,pu4,pu5,pu6]);repeat ((first | (refine Zc (v:=?_) rfl rfl rfl ?_ ?_;rotate_left;(· (intro _ a;go_simp;(try go_bits);(try with_reducible rfl)))) | (refine Zg (v:=?_) rfl rfl rfl ?_ ?_;rotate_left;(· (intro _ a;go_simp;(try go_bits);(try with_reducible rfl)))) | refine Zh rfl rfl rfl ?_ | refine Yy rfl rfl rfl (by assumption) ?_);(try simp only [Act.put,pu1,pu2,pu3,pu4,pu5,pu6]))
  refine Zz ?_;have b1:=Za av b0 av.size;clear C0 C1 C2 C3 C4 C5 C6 C7 C8 C9 bp bq br bs bt;go_wp2;go_ret;exact ⟨rfl,b1⟩
end Go.Proofs.YtgbhebappffbdaaGreat
