/- Lemmas of the claim; no condition. -/
import Derived.Test.YtncmobkhenfhpaaGreatE18
set_option linter.all false
set_option maxRecDepth 100000
set_option maxHeartbeats 40000000
namespace Go.Proofs.YtncmobkhenfhpaaGreat
open Go.RowKit
open Pl
attribute [local go_sem ↓] Go.wp_at_zero Go.wp_at_succ
theorem info_rowT:(Tryz.prog.info? 23).map (fun i=>(i.zero,i.size,i.bytes))=some (some (.slice none 0 0),1,24):=by kernel_rfl
theorem U2 [Old] {ops:Array Oper} {rest:List Oper} {o:Oper} {a:Act} {Q:Exit→Act→World→Prop} (hgd:o.guard=none) (s x:Operand)
 (ho:o.op= .call { callee:= .builtin .append,args:=#[s,x],argTypes:=#[118,118] })
 (W:World) (base:Nat) (v:Value) (m:Nat) (xs:List Value) (hs:a.eval s=v) (hown:W.ownsRow base 23 1 v m xs) (A:Option Addr) (n c:Nat)
 (hx:a.eval x= .slice (some ⟨W.heap.size,0,none⟩) 1 1) (hn:m+1≤1099511627776) (hbase:base≤W.heap.size)
 (h:∀v' w',w'.ownsRow base 23 1 v' (m+1) (xs++[.slice A n c])→Ze 23 W w'→Below base W w'→wpList Tryz.prog ops Q rest (a.put o.dst v') w') (hO:Old.n≤base:=by first | assumption | exact Nat.zero_le _ | omega | ((first | with_reducible refine Zb.le ?_ | with_reducible refine Zb.le1 ?_ | with_reducible refine Zb.le2 ?_ | with_reducible refine Zb.le3 ?_);repeat (first | assumption | exact Zb.up (by assumption) hOl | exact Zb.up (Hid.out (by assumption)) hOl | with_reducible refine Zb.set ?_ _ _ | with_reducible refine Zb.mk_ ?_ _ | with_reducible refine Zb.dr ?_ | with_reducible refine Zb.drN ?_ | refine Zb.up (by assumption) ?_ | refine Zb.up (Hid.out (by assumption)) ?_))):
 wpList Tryz.prog ops Q (o::rest) a (W.alloc (.cells #[.slice A n c] 23)):=by
 obtain ⟨i0,hi,b,d,e⟩:=info_parts info_rowT;exact YI hgd s x 118 ho 23 i0 _ 1 24 Tryz.underlying118 hi b d e rfl (by decide) W base v m xs [.slice A n c] hs hown hx rfl (by intro u hu;simp at hu;subst hu;rfl) (by unfold maxLen;omega) (by omega) hbase h
def Zey [Old] (base:Nat) (w:World) (v:Value) (m n:Nat) (M:Mx):Prop:=∃vs:Nat→Value,w.ownsRow base 23 1 v m ((List.range m).map vs)∧∀k,k < m→WA w (vs k) (Z7 n (M k))
theorem Zey.cols [Old] {base:Nat} {w:World} {v:Value} {m n:Nat} {M:Mx} (h:Zey base w v m n M):Znk w v m n M:=by
 obtain ⟨vs,h1,h2⟩:=h;exact ⟨vs,Vv.of_own h1,h2⟩
theorem Zey.nil [Old] (base:Nat) (w:World) (n:Nat) (M:Mx):Zey base w (.slice none 0 0) 0 n M:=⟨fun _=> .slice none 0 0,World.ownsRow_nil _ _ _ _,fun k hk=>absurd hk (by omega)⟩
theorem Zey.below [Old] {base:Nat} {w w':World} {v:Value} {m n:Nat} {M:Mx} (h:Zey base w v m n M) (hb:Below w.heap.size w w'):Zey base w' v m n M:=by
 obtain ⟨vs,h1,h2⟩:=h;exact ⟨vs,own_below h1 hb,fun k hk=>(h2 k hk).below hb⟩
theorem Zez [Old] {ops:Array Oper} {Q:Exit→Act→World→Prop} {S:World→Prop} {q:Nat} {i:Nat} {is:List Nat} {o:Oper} {a:Act} (hoi:ops[i]? =some o) (hfl:YY ops q i=false) (hgd:o.guard=none) (hl0:q≤i) (s x:Operand)
 (ho:o.op= .call { callee:= .builtin .append,args:=#[s,x],argTypes:=#[118,118] })
 (W:World) (base:Nat) (v:Value) (m n:Nat) (M:Mx) (hs:a.eval s=v) (hown:Zey base W v m n M) (A:Option Addr) (l c:Nat) (hf:WA W (.slice A l c) (Z7 n (M m)))
 (hx:a.eval x= .slice (some ⟨W.heap.size,0,none⟩) 1 1) (hn:m+1≤1099511627776) (hbase:base≤W.heap.size)
 (h:∀v' w',Zey base w' v' (m+1) n M→Ze 23 W w'→Below base W w'→XN Tryz.prog ops Q S q is (a.put o.dst v') w') (hO:Old.n≤base:=by first | assumption | exact Nat.zero_le _ | omega | ((first | with_reducible refine Zb.le ?_ | with_reducible refine Zb.le1 ?_ | with_reducible refine Zb.le2 ?_ | with_reducible refine Zb.le3 ?_);repeat (first | assumption | exact Zb.up (by assumption) hOl | exact Zb.up (Hid.out (by assumption)) hOl | with_reducible refine Zb.set ?_ _ _ | with_reducible refine Zb.mk_ ?_ _ | with_reducible refine Zb.dr ?_ | with_reducible refine Zb.drN ?_ | refine Zb.up (by assumption) ?_ | refine Zb.up (Hid.out (by assumption)) ?_))):
 XN Tryz.prog ops Q S q (i::is) a (W.alloc (.cells #[.slice A l c] 23)):=by
 obtain ⟨vs,h1,h2⟩:=hown;obtain ⟨i0,hi,b,d,f⟩:=info_parts info_rowT;refine Zfv hoi hfl hgd hl0 s x 118 ho 23 i0 _ 1 24 Tryz.underlying118 hi b d f rfl (by decide) W base v m _ [.slice A l c] hs h1 hx rfl (by intro u hu;simp at hu;subst hu;rfl) (by unfold maxLen;omega) (by omega) hbase fun v' w' g1 g2 g3=>h v' w' ⟨fun k=>if k=m then .slice A l c else vs k,?_,fun k hk=>?_⟩ g2 g3
 ·rw [List.range_succ,List.map_append];have:(List.range m).map (fun k=>if k=m then Value.slice A l c else vs k)=(List.range m).map vs:=List.map_congr_left fun k hk=>by
   have:k < m:=List.mem_range.1 hk;rw [if_neg (by omega)]
  rw [this];simpa using g1
 ·by_cases e:k=m
  ·subst e;simp only [if_true];exact hf.but g2 (by decide) (by decide)
  ·simp only [if_neg e];exact (h2 k (by omega)).but g2 (by decide) (by decide)
theorem Zby [Old] {ops:Array Oper} {rest:List Oper} {o:Oper} {a:Act} {Q:Exit→Act→World→Prop} (hgd:o.guard=none) (s x:Operand)
 (ho:o.op= .call { callee:= .builtin .append,args:=#[s,x],argTypes:=#[118,118] })
 (W:World) (base:Nat) (v:Value) (m n:Nat) (M:Mx) (G C:Nat→Nat) (hs:a.eval s=v) (hown:VS base W v m n M G C) (g c:Nat) (hf:Yd base W (.slice (some ⟨g,0,none⟩) n c) (Z7 n (M m))) (hne:∀r,r < m→G r≠g)
 (hx:a.eval x= .slice (some ⟨W.heap.size,0,none⟩) 1 1) (hn:m+1≤1099511627776) (hbase:base≤W.heap.size)
 (h:∀v' w',VS base w' v' (m+1) n M (fun r=>if r=m then g else G r) (fun r=>if r=m then c else C r)→Ze 23 W w'→Below base W w'→wpList Tryz.prog ops Q rest (a.put o.dst v') w') (hO:Old.n≤base:=by first | assumption | exact Nat.zero_le _ | omega | ((first | with_reducible refine Zb.le ?_ | with_reducible refine Zb.le1 ?_ | with_reducible refine Zb.le2 ?_ | with_reducible refine Zb.le3 ?_);repeat (first | assumption | exact Zb.up (by assumption) hOl | exact Zb.up (Hid.out (by assumption)) hOl | with_reducible refine Zb.set ?_ _ _ | with_reducible refine Zb.mk_ ?_ _ | with_reducible refine Zb.dr ?_ | with_reducible refine Zb.drN ?_ | refine Zb.up (by assumption) ?_ | refine Zb.up (Hid.out (by assumption)) ?_))):
 wpList Tryz.prog ops Q (o::rest) a (W.alloc (.cells #[.slice (some ⟨g,0,none⟩) n c] 23)):=by
 obtain ⟨h1,h2,h3⟩:=hown;have b:∀r,Xx n (fun r=>if r=m then g else G r) (fun r=>if r=m then c else C r) r=if r=m then .slice (some ⟨g,0,none⟩) n c else Xx n G C r:=fun r=>by
  unfold Xx;by_cases e:r=m
  ·simp only [if_pos e]
  ·simp only [if_neg e]
 refine U2 hgd s x ho W base v m _ hs h1 _ n c hx hn hbase fun v' w' g1 g2 g3=>h v' w' ⟨?_,fun r hr=>?_,fun r t hr ht e=>?_⟩ g2 g3
 ·have:Zbx (m+1) n (fun r=>if r=m then g else G r) (fun r=>if r=m then c else C r)=Zbx m n G C++[.slice (some ⟨g,0,none⟩) n c]:=by
   unfold Zbx;rw [List.range_succ,List.map_append];have e1:(List.range m).map (Xx n (fun r=>if r=m then g else G r) (fun r=>if r=m then c else C r))=(List.range m).map (Xx n G C):=List.map_congr_left fun k hk=>by
    have:k < m:=List.mem_range.1 hk;rw [b,if_neg (by omega)]
   rw [e1,List.map_cons,b,if_pos rfl,List.map_nil]
  rw [this];exact g1
 ·rw [b];split
  ·rename_i e;subst e;exact hf.but g2 (by decide) (by decide)
  ·exact (h2 r (by omega)).but g2 (by decide) (by decide)
 ·by_cases e1:r=m <;> by_cases e2:t=m
  ·omega
  ·simp only [if_pos e1,if_neg e2] at e;exact absurd e.symm (hne t (by omega))
  ·simp only [if_neg e1,if_pos e2] at e;exact absurd e (hne r (by omega))
  ·simp only [if_neg e1,if_neg e2] at e;exact h3 r t (by omega) (by omega) e
theorem Znp [Old] (v:Value) (p:LPd) (K r:Nat) (w:World) (h:LpM w v p) (ok:p.Ok K) (hK:K≤34359738368) (hr:r < p.right.length) (hm:p.right.length≤64) (hOl:Zb w:=by (repeat (first | assumption | exact Zb.up (by assumption) hOl | exact Zb.up (Hid.out (by assumption)) hOl | with_reducible refine Zb.set ?_ _ _ | with_reducible refine Zb.mk_ ?_ _ | with_reducible refine Zb.dr ?_ | with_reducible refine Zb.drN ?_ | refine Zb.up (by assumption) ?_ | refine Zb.up (Hid.out (by assumption)) ?_))):
 Calls Tryz.prog 44 #[v,.int .i64 (-1 - (r:Int))] w fun e w'=>∃v',e= .returned v'∧Yd w.heap.size w' v' (Z7 p.right.length (p.col (-1 - (r:Int))))∧Below w.heap.size w w':=by
 have ab:=hOl.le;obtain ⟨A,n,c,A',n',c',a0,a,a1,rfl,hc,hv,J⟩:=id h;obtain ⟨W,hW,hX,l⟩:=X9 w (.slice A n c) (.slice A' n' c') (.slice a0 a a1);obtain ⟨x0,x1,x2⟩:=hX.three;obtain ⟨r1,r2,r3⟩:=J.len;obtain ⟨f,hf⟩:=Yi (fs:=p.right) (i:=r) hr;have Y:=(ok.2.1 r f hf).sh hK;have HQ:=JZ (Yt hf);have F:Hid (p.col (-1 - (r:Int))=fun i=>if i=r then (if qs (qAt p.right i) < 0 then -1 else 1) else 0):=JZ LPd.col_neg;have HF:=JZ hf;rw [← r1];have d:r < a:=by omega
 have ac:(r:Int) < a:=by omega
 have aa:a≤64:=by omega
 generalize hj: -1 - (r:Int)=j at *;have ad:j < 0:=by omega
 have ae: -1 - j=(r:Int):=by omega
 clear hf hm r1 hr ok hc hv h hj;go_enter Tryz.func44,Tryz.ntmps44;go_wp2_with fail;clear hW;refine (Zkj a _ (by omega)).mono ?_;rw [Zkt];rintro _ w1 ⟨v1,rfl,e1,o⟩;obtain ⟨g,cg,rfl,af,ag,a2,ah⟩:=e1.shape (by rw [Zi];omega);rw [Zi] at e1 a2 ⊢;go_wp2_with fail;refine (WQ 1 _ (by omega) (by omega)).mono ?_;rw [show ((1:Int):Rat)=1 from rfl];rintro _ w2 ⟨v2,rfl,e2,s⟩;have u:=e1.below s;have x:=e2.frac;generalize D:canF 1=q1 at *;obtain ⟨E,l9,k9,E',L,M,rfl,_,_⟩:=id x;obtain ⟨_,_,_,_,⟨N,O,P,R⟩,⟨f0,f1,f2,f3⟩,_⟩:=u.at_ (ZC d)
 go_upto_region 6 with (fail)
 obtain ⟨B,S⟩:=u.set_ (k:=r) (by rw [Zi];exact d) x;rw [← D,XF d,D] at B;have t:=Za o s o.size;have m:=ZA (Za l t l.size) (show w.heap.size≤g by have:=l.size;omega) (r * 4) (r * 4+1) (r * 4+2) (r * 4+3) (.bool q1.num.neg) (.slice E l9 k9) (.bool q1.den.neg) (.slice E' L M);have G:=S.bk ((hX.later o).later s) (by decide);clear N O P R f0 f1 f2 f3 S u e1 o s t e2 x x0 x1 x2 hX D;generalize (((w2.setCell ⟨g,r * 4,none⟩ (.bool q1.num.neg)).setCell ⟨g,r * 4+1,none⟩ (.slice E l9 k9)).setCell ⟨g,r * 4+2,none⟩ (.bool q1.den.neg)).setCell ⟨g,r * 4+3,none⟩ (.slice E' L M)=W3 at *;obtain ⟨x0,x1,x2⟩:=G.three;obtain ⟨b,ai,B1,n1,k1,B2,n2,k2,rfl,aj,⟨a3,a4,a5,a6⟩,T⟩:=J.elem m HF.out;go_wp2_with fail;refine (Xv _ f _ T Y).mono ?_;rintro _ w4 ⟨rfl,C⟩;have y:=B.below C;have z:=Za m C m.size;clear a3 a4 a5 a6 T x0 x1 x2 G B m C;by_cases hq:qs f.q < 0
 ·have HC:Hid (∀i,i < a→(if i=r then (-1:Rat) else if i=r then 1 else 0)=p.col j i):=JZ fun i _=>by
   rw [F.out];by_cases e:i=r
   ·simp only [if_pos e];rw [e,HQ.out,if_pos hq]
   ·simp only [if_neg e]
  go_wp2_with fail;refine (WQ (-1) _ (by omega) (by omega)).mono ?_;rw [show ((-1:Int):Rat)= -1 from rfl];rintro _ w6 ⟨v6,rfl,e6,V⟩;have H:=y.below V;have I:=e6.frac;generalize X:canF (-1)=q6 at *;obtain ⟨E6,l6,k6,a7,a8,a9,rfl,_,_⟩:=id I;obtain ⟨_,_,_,_,⟨N,O,P,R⟩,⟨f0,f1,f2,f3⟩,_⟩:=H.at_ (ZC d);go_wp2;obtain ⟨U,ak⟩:=H.set_ (k:=r) (by rw [Zi];exact d) I;rw [← X,XF d,X,ZR HC.out] at U;have Z:=ZA (Za z V z.size) (show w.heap.size≤g by have:=l.size;omega) (r * 4) (r * 4+1) (r * 4+2) (r * 4+3) (.bool q6.num.neg) (.slice E6 l6 k6) (.bool q6.den.neg) (.slice a7 a8 a9);go_ret;obtain ⟨cs,ho,hf⟩:=U;exact ⟨_,rfl,⟨cs,Xe ho l.size,hf⟩,Z⟩
 ·have HC:Hid (∀i,i < a→(if i=r then (1:Rat) else 0)=p.col j i):=JZ fun i _=>by
   rw [F.out];by_cases e:i=r
   ·simp only [if_pos e];rw [e,HQ.out,if_neg hq]
   ·simp only [if_neg e]
  go_wp2;go_ret;rw [ZR HC.out] at y;obtain ⟨cs,ho,hf⟩:=y;exact ⟨_,rfl,⟨cs,Xe ho l.size,hf⟩,z⟩
theorem Znq [Old] (v:Value) (p:LPd) (K:Nat) (j:Int) (w:World) (h:LpM w v p) (ok:p.Ok K) (hK:K≤34359738368) (hin:p.In) (hj0: -(p.right.length:Int)≤j) (hj1:j < p.cols.length) (hm:p.right.length≤64) (hOl:Zb w:=by (repeat (first | assumption | exact Zb.up (by assumption) hOl | exact Zb.up (Hid.out (by assumption)) hOl | with_reducible refine Zb.set ?_ _ _ | with_reducible refine Zb.mk_ ?_ _ | with_reducible refine Zb.dr ?_ | with_reducible refine Zb.drN ?_ | refine Zb.up (by assumption) ?_ | refine Zb.up (Hid.out (by assumption)) ?_))):
 Calls Tryz.prog 44 #[v,.int .i64 j] w fun e w'=>∃v',e= .returned v'∧Yd w.heap.size w' v' (Z7 p.right.length (p.col j))∧Below w.heap.size w w':=by
 have a:=hOl.le;rcases Int.lt_or_le j 0 with h0 | h0
 ·obtain ⟨r,rfl⟩:∃r:Nat,j= -1 - (r:Int):=⟨(-1 - j).toNat,by omega⟩;exact Znp v p K r w h ok hK (by omega) hm
 ·obtain ⟨r,rfl⟩:=JT h0;exact Znd v p K r w h ok hK hin (by omega) hm
namespace Pl
structure LSt where
 phase:Int
 basis:List Int
 pivots:Int
def LSt.In (p:LPd) (s:LSt):Prop:=∀(i:Nat) (z:Int),s.basis[i]? =some z→ -(p.right.length:Int)≤z∧z < p.cols.length
def LSt.at_ (s:LSt) (i:Nat):Int:=s.basis.getD i 0
def LSt.mat (p:LPd) (s:LSt):Mx:=fun i=>p.col (s.at_ i)
theorem LSt.at_eq {s:LSt} {i:Nat} {z:Int} (h:s.basis[i]? =some z):s.at_ i=z:=by simp [LSt.at_,List.getD,h]
end Pl
def StM (w:World) (v:Value) (s:LSt):Prop:=∃A n c,v= .agg #[.int .i64 s.phase,.slice A n c,.int .i64 s.pivots]∧X6 w (.slice A n c) s.basis
theorem StM.below {w w':World} {v:Value} {s:LSt} (h:StM w v s) (hb:Below w.heap.size w w'):StM w' v s:=by
 obtain ⟨A,n,c,h1,h2⟩:=h;exact ⟨A,n,c,h1,h2.below hb⟩
theorem Xa (w:World) (x y z:Value):∃W,w.alloc (.cells #[x,y,z] 29)=W∧Bk W w.heap.size 29 [x,y,z]∧Below w.heap.size w W:=⟨_,rfl,Bk.new w _ [x,y,z],Zc w _⟩
theorem X6.len {w:World} {A:Option Addr} {n c:Nat} {zs:List Int} (h:X6 w (.slice A n c) zs):n=zs.length∧n≤c∧c≤9223372036854775807:=by
 obtain ⟨a,cap,h1,h2,h3⟩:=h.shape;injection h1 with e1 e2 e3;subst e2 e3;exact ⟨rfl,h2,h3⟩
theorem Znr [Old] (v1 v2:Value) (p:LPd) (s:LSt) (K:Nat) (w:World) (h:LpM w v1 p) (h2:StM w v2 s) (ok:p.Ok K) (hK:K≤34359738368) (hin:p.In) (hs:s.In p) (hm:p.right.length≤64) (hl:s.basis.length≤1000) (hOl:Zb w:=by (repeat (first | assumption | exact Zb.up (by assumption) hOl | exact Zb.up (Hid.out (by assumption)) hOl | with_reducible refine Zb.set ?_ _ _ | with_reducible refine Zb.mk_ ?_ _ | with_reducible refine Zb.dr ?_ | with_reducible refine Zb.drN ?_ | refine Zb.up (by assumption) ?_ | refine Zb.up (Hid.out (by assumption)) ?_))):
 Calls Tryz.prog 97 #[v1,v2] w fun e w'=>∃v',e= .returned v'∧Znk w' v' s.basis.length p.right.length (s.mat p)∧Below w.heap.size w w':=by
 have N:=hOl.le;obtain ⟨A,n,c,A',n',c',q,r,t,rfl,hc,hv,hr⟩:=id h;obtain ⟨Ab,nb,cb,rfl,hI⟩:=id h2;obtain ⟨W,hW,x,f⟩:=X9 w (.slice A n c) (.slice A' n' c') (.slice q r t);obtain ⟨W1,L,b,g⟩:=Xa W (.int .i64 s.phase) (.slice Ab nb cb) (.int .i64 s.pivots);have hX:=x.later g;have a:=Za f g f.size;obtain ⟨b1,b2,b3⟩:=hI.len;have C:W.heap.size=w.heap.size+1:=by rw [← hW];simp
 rw [C] at b;have D:=JZ h;have E:=JZ ok;have F:=JZ hin;have G:=JZ hs;have O:=JZ b1;rw [← b1];have P:nb≤1000:=by omega
 have HI:=JZ hI;obtain ⟨x0,x1,x2⟩:=hX.three;obtain ⟨y0,y1,y2⟩:=b.three;clear h h2 ok hin hs hc hv hr b1 hl hI x f g;go_enter Tryz.func97,Tryz.ntmps97;go_wp2;clear hW L x0 x1 x2 y0 y1 y2
 go_loopw [5,6] (fun u i wr=>∃k:Nat,k≤nb∧i= .int .i64 k∧Below w.heap.size w wr∧Bk wr w.heap.size 26 [.slice A n c,.slice A' n' c',.slice q r t]∧Bk wr (w.heap.size+1) 29 [.int .i64 s.phase,.slice Ab nb cb,.int .i64 s.pivots]∧Zey w.heap.size wr u k p.right.length (s.mat p)) (fun _ i _=>nb - (intOf i).toNat)
 case atStart=>exact ⟨0,by omega,rfl,a,hX,b,Zey.nil _ _ _ _⟩
 case round=>
  clear a hX b;obtain ⟨k,hk,rfl,a,hX,hS,hO⟩:=hrel;obtain ⟨x0,x1,x2⟩:=hX.three;obtain ⟨y0,y1,y2⟩:=hS.three;rcases JX k nb with hkl | hkl
  ·obtain ⟨bb,bo,z,rfl,hz,j,z0,z1⟩:=(HI.out.below a).at_ hkl;have HZ:Hid (s.mat p k=p.col z):=JZ (by unfold LSt.mat;rw [LSt.at_eq j]);obtain ⟨i0,i1⟩:=G.out k z j;have R:(k:Int) < nb:=(by omega);clear j;go_wp2_with fail;have C0:=Zm x0;have C1:=Zm x1;have C2:=Zm x2;have D1:=Zm y1;have E1:=Zm hz;have b:=Zf wr;clear x0 x1 x2 y0 y1 y2 hz;refine Zp 8 [0,1,2,3,4,5,6,7,8,9,10] (by kernel_rfl) (by kernel_rfl) ?_;repeat ((first | (refine Zd (v:=?_) rfl rfl rfl ?_ ?_;rotate_left;(· (intro _ M;go_simp;(try go_bits);(try with_reducible rfl)))) | (refine Zj (v:=?_) rfl rfl rfl ?_ ?_;rotate_left;(· (intro _ M;go_simp;(try go_bits);(try with_reducible rfl)))) | refine Zk rfl rfl rfl ?_);(try simp only [Act.put,pu1,pu2,pu3,pu4,pu5,pu6]))
   refine Zh rfl rfl (fun KR hKR=>?_);go_simp;(with_reducible refine (Znq _ p K z _ ((D.out.below a).below b) E.out hK F.out i0 i1 hm).mono ?_);rw [← HZ.out];rintro _ w5 ⟨v5,rfl,e5,y⟩;have d:=Za b y b.size;obtain ⟨Ae,ce,rfl,_,_⟩:=e5.frs.shape;have HF:=JZ e5.frs;have HO:=JZ (hO.below d);have H:w.heap.size≤w5.heap.size:=(by have:=a.size;have:=d.size;omega);clear e5;refine hKR.out _ _ (Or.inr d) ?_;clear hKR KR;(try simp only [Act.put,pu1,pu2,pu3,pu4,pu5,pu6]);refine Zh rfl rfl (fun KR hKR=>?_);go_simp;refine hKR.out _ _ (Or.inl (by decide)) ?_;clear hKR KR;(try simp only [Act.put,pu1,pu2,pu3,pu4,pu5,pu6]);refine Zez rfl rfl rfl (by decide) (.tmp 14) (.tmp 22) rfl w5 w.heap.size u5 k p.right.length (s.mat p) rfl HO.out Ae _ ce HF.out rfl (by omega) H ?_;intro v' w6 l m B;(try simp only [Act.put,pu1,pu2,pu3,pu4,pu5,pu6]);refine Zh rfl rfl (fun KR hKR=>?_);go_simp;refine hKR.out _ _ (Or.inl (by decide)) ?_;clear hKR KR;(try simp only [Act.put,pu1,pu2,pu3,pu4,pu5,pu6]);refine Zx ?_;have I:=m.bk (hX.later d) (by decide);have J:=m.bk (hS.later d) (by decide);have o:=(Za a d a.size).trans B;clear C0 C1 C2 D1 E1 hX hS a b d y hO HO HF m B;go_wp2;go_roundw
   case rel=>exact ⟨k+1,by omega,by go_num,o,I,J,l⟩
   case measure=>simp [intOf];omega
  ·obtain rfl:k=nb:=by omega
   go_wp2;go_ret;exact ⟨_,rfl,hO.cols,a⟩
namespace Pl
def Zim (m:Nat) (cols:Mx) (b:Nat→Rat):List RF:=match YK m cols b with | some x=>Z7 m x | none=>[]
theorem Zay {m:Nat} {cols:Mx} {b x:Nat→Rat} (h:YK m cols b=some x):Zim m cols b=Z7 m x:=by unfold Zim;rw [h]
theorem Zlj {m:Nat} {cols:Mx} {b:Nat→Rat} (h:YK m cols b=none):Zim m cols b=[]:=by unfold Zim;rw [h]
theorem Zvm {M:Mx} {m k:Nat} (h:gj M m k=none):∀d,gj M m (k+d)=none
 | 0=>h
 | d+1=>by rw [← Nat.add_assoc];unfold gj;rw [Zvm h d]
theorem Zns {m k:Nat} {cols:Mx} {b:Nat→Rat} {M:Mx} (hk:k < m) (h:gj (VN m cols b) m k=some M) (hf:Zap M k m=none):YK m cols b=none:=by
 have h1:gj (VN m cols b) m (k+1)=none:=by unfold gj;rw [h];show WB M k m=none;unfold WB;rw [hf]
 have h2:=Zvm h1 (m - (k+1));rw [show k+1+(m - (k+1))=m by omega] at h2;unfold YK;rw [h2];rfl
theorem Znt {m:Nat} {cols:Mx} {b:Nat→Rat} {M:Mx} (h:gj (VN m cols b) m m=some M):YK m cols b=some fun k=>M k m:=by unfold YK;rw [h];rfl
theorem Ydf {m k t:Nat} {A M:Mx} (h:gj A m k=some M) (hf:Zap M k m=some t):gj A m (k+1)=some (ZV (scaleTo (swapM M k t) k (m+1) (swapM M k t k k)) k m m):=by
 unfold gj;rw [h];show WB M k m=_;unfold WB;rw [hf]
theorem Ydg {k m K:Nat} (h:k < m):5 * (5^k * K)≤5^m * K:=by
 have h1:5^(k+1)≤5^m:=Nat.pow_le_pow_right (by decide) h;have h2:=JS K h1;rw [Nat.pow_succ] at h2;grind
end Pl
theorem Zsc [Old] (v1 v2:Value) (m:Nat) (cols:Mx) (rs:List RF) (K:Nat) (w:World) (h1:Znk w v1 m m cols) (h2:WA w v2 rs) (hl:rs.length=m) (hc:∀r c,r < m→c < m→Sz K (cols c r)) (hr:RsL K rs) (hK:1≤K) (hs:5^m * K≤8589934592) (hm:m≤1000) (hOl:Zb w:=by (repeat (first | assumption | exact Zb.up (by assumption) hOl | exact Zb.up (Hid.out (by assumption)) hOl | with_reducible refine Zb.set ?_ _ _ | with_reducible refine Zb.mk_ ?_ _ | with_reducible refine Zb.dr ?_ | with_reducible refine Zb.drN ?_ | refine Zb.up (by assumption) ?_ | refine Zb.up (Hid.out (by assumption)) ?_))):
 Calls Tryz.prog 96 #[v1,v2] w fun e w'=>∃v',e= .returned (.tuple #[v',.bool (YK m cols (qAt rs)).isSome])∧Yd w.heap.size w' v' (Zim m cols (qAt rs))∧Below w.heap.size w w':=by
 have e4:=hOl.le;obtain ⟨A,c,rfl,ec,ed⟩:=h1.shape;obtain ⟨Ar,cr,rfl,dk,ee⟩:=h2.shape;rw [hl] at dk h2 ⊢;have cy:Hid (MB m (m+1) K (VN m cols (qAt rs))):=JZ (Yew hc fun r _=>hr.qAt hK r);have cz:=JZ hr;have HL:=JZ hl;have HS:=JZ hs;have d0:Hid (K≤8589934592):=JZ (by have:=JS K (Nat.pow_le_pow_right (show 0 < 5 by decide) (Nat.zero_le m));simp at this;omega);have H1:=JZ h1;have H2:=JZ h2;clear hc hr hl hs h1 h2;generalize hb:qAt rs=b at *;have HB:=JZ hb;clear hb;go_enter Tryz.func96,Tryz.ntmps96;go_wp2
 go_loopw [7,8] (fun s i wr=>∃(r:Nat) (G C:Nat→Nat),r≤m∧i= .int .i64 r∧Below w.heap.size w wr∧VS w.heap.size wr s r (m+1) (VN m cols b) G C) (fun _ i _=>m - (intOf i).toNat)
 case atStart=>exact ⟨0,fun _=>0,fun _=>0,by omega,rfl,JR _ _,VS.nil _ _ _ _ _ _⟩
 case round=>
  obtain ⟨r,G,C,hr,rfl,d,hM⟩:=hrel;obtain ⟨wO,rfl⟩:∃x,x=wr:=⟨_,rfl⟩;rcases JX r m with hrm | hrm
  ·go_wp2
   go_loopw [9,10] (fun s i wx=>∃k:Nat,k≤m∧i= .int .i64 k∧Yd wO.heap.size wx s (Z7 k (VN m cols b r))∧Below wO.heap.size wO wx) (fun _ i _=>m - (intOf i).toNat)
   case atStart=>exact ⟨0,by omega,rfl,Yd.nil _ _,JR _ _⟩
   case round=>
    obtain ⟨k,hk,rfl,hF,l⟩:=hrel;have az:=l.size;rcases JX k m with aa | aa
    ·obtain ⟨bb,ef,B,cB,b',ch,A1,n1,c1,A2,n2,c2,rfl,eg,a4,e1,e2,_,⟨q0,q1,q2,q3⟩,al⟩:=H1.out.at_ (Za d l d.size) aa hrm;have HF:=JZ hF;have a9:=JZ al;have S:(Z7 k (VN m cols b r)).length+1≤1099511627776:=(by rw [Zi];omega);have HE:Hid (canF (cols k r)=canF (VN m cols b r k)):=JZ (by unfold VN;rw [if_pos aa]);have b0:(k:Int) < m:=(by omega);have d1:(r:Int) < m:=(by omega);clear hF al;go_wp2_with (at_builtin;refine YV rfl (.tmp 33) (.tmp 41) rfl wr wO.heap.size u9 (Z7 k (VN m cols b r)) rfl HF.out _ _ A1 A2 n1 c1 n2 c2 (canF (cols k r)) a9.out rfl S az ?_);intro v' w4 J du bi;rw [HE.out,Zee] at J;go_wp2;go_roundw
     case rel=>exact ⟨k+1,by omega,by go_num,J,l.trans bi⟩
     case measure=>simp [intOf];omega
    ·obtain rfl:k=m:=by omega
     obtain ⟨f,hf⟩:=Yi (fs:=rs) (i:=r) (by rw [HL.out];exact hrm);obtain ⟨b',ch,B1,n1,k1,B2,n2,k2,rfl,_,⟨q0,q1,q2,q3⟩,al⟩:=H2.out.elem (Za d l d.size) hf;have d2:f.Sh:=(cz.out r f hf).sh (by have:=d0.out;omega);have HE:Hid (canF f.q=canF (VN k cols b r k)):=JZ (by unfold VN;rw [if_neg (by omega),← HB.out,Yt hf]);have d1:(r:Int) < k:=(by omega);clear hf;go_wp2_with fail;refine (Xd _ f _ al d2).mono ?_;rw [HE.out];rintro _ w5 ⟨v5,rfl,e5,o⟩;have D:=Za l o l.size;have bk:=D.size;have HF:=JZ (hF.below o);have a9:=JZ e5.frac;have S:(Z7 k (VN k cols b r)).length+1≤1099511627776:=(by rw [Zi];omega);generalize hQ:canF (VN k cols b r k)=Q at *;obtain ⟨E,l9,k9,E',a5,a6,rfl,_,_⟩:=id a9.out;clear hF al q0 q1 q2 q3 e5 l;go_wp2_with (at_builtin;refine YV rfl (.tmp 44) (.tmp 50) rfl w5 wO.heap.size u9 (Z7 k (VN k cols b r)) rfl HF.out _ _ E E' l9 k9 a5 a6 Q a9.out rfl S bk ?_);intro v' w6 L dv ct;rw [← hQ,Zee] at L;clear hQ;have ad:=D.trans ct;obtain ⟨g,cg,rfl,eh,ei,dl,ej⟩:=L.shape (by rw [Zi];omega);rw [Zi] at L dl;have HM:=JZ (hM.below ad);have y:=Za d ad d.size;have bl:=y.size;have d3:Hid (Yd w.heap.size w6 (.slice (some ⟨g,0,none⟩) (k+1) cg) (Z7 (k+1) (VN k cols b r))):=JZ (by obtain ⟨cs,ho,hf⟩:=L;exact ⟨cs,Xe ho d.size,hf⟩);have d4:Hid (∀s,s < r→G s≠g):=JZ fun s hs=>by have:=(hM.lt hs (by omega)).2.1;omega
     clear hM L D ad o ct dv;rw [Zi];go_wp2_with (at_builtin;refine Zby rfl (.tmp 43) (.tmp 52) rfl w6 w.heap.size u7 r (k+1) (VN k cols b) G C rfl HM.out g cg d3.out d4.out rfl (by omega) bl ?_);intro v' w7 bj em dw;go_wp2;go_roundw
     case rel=>exact ⟨r+1,_,_,by omega,by go_num,y.trans dw,bj⟩
     case measure=>simp [intOf];omega
  ·obtain rfl:r=m:=by omega
   obtain ⟨Aa,ca,rfl,ci,e3⟩:=hM.shape;generalize dx:Value.slice Aa r ca=va at *;go_wp2
   go_loopw [11] (fun i wr=>∃(k:Nat) (M:Mx) (G C:Nat→Nat),k≤r∧i= .int .i64 k∧Below w.heap.size w wr∧gj (VN r cols b) r k=some M∧VS w.heap.size wr va r (r+1) M G C) (fun i _=>r - (intOf i).toNat)
   case atStart=>exact ⟨0,_,G,C,by omega,rfl,d,rfl,hM⟩
   case round=>
    clear d hM;obtain ⟨k,M,G,C,hk,rfl,d,cj,hM⟩:=hrel;have ae:=JZ cj;clear cj;subst dx;rcases JX k r with hkr | hkr
    ·obtain ⟨go,co,bf,am,ck,cl,cm,a4⟩:=hM.outer (by omega);injection bf with hv1 hv2 hv3;subst hv1 hv3;have b3:=JZ (Ygl cy.out hk ae.out);have hκ:5 * (5^k * K)≤8589934592:=JW (Ydg hkr) HS.out;generalize dy:5^k * K=κ at *;clear dy ci;obtain ⟨wP,rfl⟩:∃x,x=wr:=⟨_,rfl⟩;go_wp2
     go_loopw [12,13] (fun a i wx=>∃t:Nat,a= .int .i64 (-1)∧k≤t∧t≤r∧i= .int .i64 t∧Below wP.heap.size wP wx∧∀s,k≤s→s < t→M s k=0) (fun _ i _=>r - (intOf i).toNat)
     case atStart=>exact ⟨k,rfl,by omega,by omega,rfl,JR _ _,fun s h1 h2=>by omega⟩
     case round=>
      obtain ⟨t,rfl,dm,el,rfl,l,hz⟩:=hrel;have HZ:=JZ hz;clear hz;rcases JX t r with htl | htl
      ·have Z:=hM.below l;have y0:=(Z.cellAt htl).1;obtain ⟨A1,n1,c1,A2,n2,c2,⟨q0,q1,q2,q3⟩,hQ⟩:=Z.at_ htl (show k < r+1 by omega);have bm:(canF (M t k)).Sh:=(b3.out t k htl (by omega)).sh (by omega);simp only [Xx] at y0;generalize hq:M t k=q at *;have b4:=JZ hq;clear hq;have b0:(k:Int) < ((r+1:Nat):Int):=(by omega);have ap:(k:Int) < (r:Int)+1:=(by omega);have e6:(t:Int) < r:=(by omega);go_wp2_with fail;refine (Xv _ (canF q) _ hQ bm).mono ?_;rw [Zu];rintro _ w5 ⟨rfl,o⟩;clear y0 q0 q1 q2 q3 hQ Z;have D:=Za l o l.size;by_cases F:q=0
       ·have b5:(qs q !=0)=false:=(by rw [F];decide);have d5:Hid (∀s,k≤s→s < t+1→M s k=0):=JZ fun s h1 h2=>by
         rcases JX s t with h | h
         ·exact HZ.out s h1 h
         ·obtain rfl:s=t:=by omega
          rw [b4.out,F]
        clear F;go_wp2;go_roundw
        case rel=>exact ⟨t+1,rfl,by omega,by omega,by go_num,D,d5.out⟩
        case measure=>simp [intOf];omega
       ·have b5:(qs q !=0)=true:=(by simpa using fun e=>F (ZW.1 e));have bn:Hid (Zap M k r=some t):=JZ (Zrr dm htl (by rw [b4.out];exact F) HZ.out);have N:=hM.below D;have af:=N.below (Zf w5);obtain ⟨n,cn⟩:=af.swap hkr htl;obtain ⟨y1,cp,ay⟩:=af.swap1 (u:=Xx (r+1) G C t) htl (k:=k);obtain ⟨a1,dn⟩:=af.cellAt hkr;obtain ⟨a2,dp⟩:=af.cellAt htl;have b1:=(N.cellAt hkr).1;have b2:=(N.cellAt htl).1;have T:=JZ (b3.out.swap hkr htl);simp only [Xx] at n cn cp ay a1 a2 b1 b2;generalize cu:swapM M k t=M1 at *;generalize swapF G k t=G1 at *;generalize swapF C k t=C1 at *;have bo:=JZ cu;have H:=Za d D d.size;have ag:=H.drew;clear cu F af N hM l o D HZ b4 bm d;go_wp2_with fail;have C0:=Zm b1;have d6:=Zm b2;clear b1 b2;refine Zp 13 [0,1,2,3,4,5,6,7,8,9,10,11,12,13,14,15] (by kernel_rfl) (by kernel_rfl) ?_;generalize dz:w5.drew=wD at *;clear dz;repeat ((first | (refine Zd (v:=?_) rfl rfl rfl ?_ ?_;rotate_left;(· (intro _ n;go_simp;(try go_bits);(try with_reducible rfl)))) | (refine Zj (v:=?_) rfl rfl rfl ?_ ?_;rotate_left;(· (intro _ n;go_simp;(try go_bits);(try with_reducible rfl)))) | refine Zk rfl rfl rfl ?_);(try simp only [Act.put,pu1,pu2,pu3,pu4,pu5,pu6]))
        refine Zh rfl rfl (fun KR hKR=>?_);go_simp;refine hKR.out _ _ (Or.inl (by decide)) ?_;clear hKR KR;(try simp only [Act.put,pu1,pu2,pu3,pu4,pu5,pu6]);generalize cv:wD.setCell ⟨go,k,none⟩ (.slice (some ⟨G t,0,none⟩) (r+1) (C t))=W1 at *;refine Zh rfl rfl (fun KR hKR=>?_);go_simp;refine hKR.out _ _ (Or.inl (by decide)) ?_;clear hKR KR;(try simp only [Act.put,pu1,pu2,pu3,pu4,pu5,pu6]);refine Zh rfl rfl (fun KR hKR=>?_);go_simp;refine hKR.out _ _ (Or.inl (by decide)) ?_;clear hKR KR;(try simp only [Act.put,pu1,pu2,pu3,pu4,pu5,pu6]);refine Zx ?_;have ah:=(ag.setCell (p:=⟨go,k,none⟩) am (.slice (some ⟨G t,0,none⟩) (r+1) (C t)));rw [cv] at ah;have y:=ah.setCell (p:=⟨go,t,none⟩) am (.slice (some ⟨G k,0,none⟩) (r+1) (C k));clear C0 d6 ah H ag cn cp ay a1 a2 dn dp cv;generalize W1.setCell ⟨go,t,none⟩ (.slice (some ⟨G k,0,none⟩) (r+1) (C k))=W2 at *;have y0:=(n.cellAt hkr).1;obtain ⟨A1,n1,c1,A2,n2,c2,⟨q0,q1,q2,q3⟩,hQ⟩:=n.at_ hkr (show k < r+1 by omega);have bp:=T.out k k hkr (show k < r+1 by omega);simp only [Xx] at y0;generalize cw:M1 k k=qf at *;have bq:=JZ cw;have a8:=JZ bp;have d7:Hid (∀s,s < r→G1 s < W2.heap.size):=JZ fun s hs=>(n.lt hs (by omega)).2.1
        clear cw bp;obtain ⟨W3,dq,V,P⟩:=Y7 W2 (.bool (canF qf).num.neg) (.slice A1 n1 c1) (.bool (canF qf).den.neg) (.slice A2 n2 c2);have br:=n.below P;have bs:=hQ.below P;have aq:=Za y P y.size;have ar:VS w.heap.size W3 (.slice (some ⟨go,0,none⟩) r ca) r (r+1) (scaleTo M1 k k qf) G1 C1:=(by rw [Zht];exact br);have d8:W2.heap.size < W3.heap.size:=V.lt;go_wp2;clear dq y0 q0 q1 q2 q3 hQ n y P br
        go_loopw [15] (fun i wx=>∃c':Nat,k≤c'∧c'≤r+1∧i= .int .i64 c'∧Below w.heap.size w wx∧VS w.heap.size wx (.slice (some ⟨go,0,none⟩) r ca) r (r+1) (scaleTo M1 k c' qf) G1 C1∧Bk wx W2.heap.size 48 [.bool (canF qf).num.neg,.slice A1 n1 c1,.bool (canF qf).den.neg,.slice A2 n2 c2]∧Zt wx (.agg #[.bool (canF qf).num.neg,.slice A1 n1 c1,.bool (canF qf).den.neg,.slice A2 n2 c2]) (canF qf)) (fun i _=>r+1 - (intOf i).toNat)
        case atStart=>exact ⟨k,by omega,by omega,rfl,aq,ar,V,bs⟩
        case round=>
         clear aq ar V bs d8;obtain ⟨c',bg,ds,rfl,d,hM,V,ao⟩:=hrel;rcases JX c' (r+1) with hcm | hcm
         ·have y0:=(hM.cellAt hkr).1;obtain ⟨A3,n3,c3,A4,n4,c4,⟨q0,q1,q2,q3⟩,ab⟩:=hM.at_ hkr hcm;obtain ⟨z0,z1,z2,z3⟩:=V.four;have b6:(canF (scaleTo M1 k c' qf k c')).Sh:=(Zeb T.out a8.out hkr hcm).sh (by omega);have d9:(canF qf).Sh:=a8.out.sh (by omega);have ai:=JZ (Zkq (M:=M1) (f:=qf) bg);simp only [Xx] at y0;generalize e0:scaleTo M1 k c' qf k c'=qa at *;clear e0;have da:(c':Int) < ((r+1:Nat):Int):=(by omega);have bt:(c':Int) < (r:Int)+1:=(by omega);have bu:(c':Int)≤r:=(by omega);go_wp2_with fail;have Y0:=Zm y0;have Q0:=Zm q0;have Q1:=Zm q1;have Q2:=Zm q2;have Q3:=Zm q3;have Z0:=Zm z0;have Z1:=Zm z1;have Z2:=Zm z2;have Z3:=Zm z3;have I:=Zf wr;have aa:=hkr;clear y0 q0 q1 q2 q3 z0 z1 z2 z3;refine Zp 15 [0,1,2,3,4,5,6,7,8,9,10,11,12,13,14,15] (by kernel_rfl) (by kernel_rfl) ?_;repeat ((first | (refine Zd (v:=?_) rfl rfl rfl ?_ ?_;rotate_left;(· (intro _ n;go_simp;(try go_bits);(try with_reducible rfl)))) | (refine Zj (v:=?_) rfl rfl rfl ?_ ?_;rotate_left;(· (intro _ n;go_simp;(try go_bits);(try with_reducible rfl)))) | refine Zk rfl rfl rfl ?_);(try simp only [Act.put,pu1,pu2,pu3,pu4,pu5,pu6]))
          refine Zh rfl rfl (fun KR hKR=>?_);go_simp;(with_reducible refine (Zun _ _ (canF qa) (canF qf) _ (ab.below I) (ao.below I) b6 d9).mono ?_);rw [Zu,Zu];rintro _ w9 ⟨v9,rfl,e9,an⟩;have z:=Za I an I.size;have O:=hM.below z;have a0:=e9.frac;obtain ⟨E,l9,k9,E',a5,a6,rfl,_,_⟩:=id a0;obtain ⟨f0,f1,f2,f3⟩:=O.frozen aa hcm;obtain ⟨_,_,_,_,_,_,⟨t0,t1,t2,t3⟩,_⟩:=O.at_ aa hcm;refine hKR.out _ _ (Or.inr z) ?_;clear hKR KR;(try simp only [Act.put,pu1,pu2,pu3,pu4,pu5,pu6]);repeat ((first | (refine Zd (v:=?_) rfl rfl rfl ?_ ?_;rotate_left;(· (intro _ n;go_simp;(try go_bits);(try with_reducible rfl)))) | (refine Zj (v:=?_) rfl rfl rfl ?_ ?_;rotate_left;(· (intro _ n;go_simp;(try go_bits);(try with_reducible rfl)))) | refine Zk rfl rfl rfl ?_);(try simp only [Act.put,pu1,pu2,pu3,pu4,pu5,pu6]))
          refine Zh rfl rfl (fun KR hKR=>?_);go_simp;refine hKR.out _ _ (Or.inl (by decide)) ?_;clear hKR KR;(try simp only [Act.put,pu1,pu2,pu3,pu4,pu5,pu6]);refine Zx ?_;obtain ⟨X,Y⟩:=O.set_ hkr hcm a0;rw [ai.out] at X;have U:=Za d z d.size;have a3:=ZA U (show w.heap.size≤G1 k from (hM.lt hkr (by omega)).1) (c' * 4) (c' * 4+1) (c' * 4+2) (c' * 4+3) (.bool (canF (qa / qf)).num.neg) (.slice E l9 k9) (.bool (canF (qa / qf)).den.neg) (.slice E' a5 a6);have b7:=(V.later z).far4' (show W2.heap.size≠G1 k by have:=d7.out k hkr;omega) (c' * 4) (c' * 4+1) (c' * 4+2) (c' * 4+3) (.bool (canF (qa / qf)).num.neg) (.slice E l9 k9) (.bool (canF (qa / qf)).den.neg) (.slice E' a5 a6);have b8:=(ao.below z).keep (Y.keep (by decide));clear Y0 Q0 Q1 Q2 Q3 Z0 Z1 Z2 Z3 hM V ao O I z an a0 e9 f0 f1 f2 f3 t0 t1 t2 t3 ab d U Y;go_wp2;go_roundw
          case rel=>exact ⟨c'+1,by omega,by omega,by go_num,a3,X,b7,b8⟩
          case measure=>simp [intOf];omega
         ·have aj:c'=r+1:=(by omega);rw [aj] at hM;clear V ao aj;have au:Hid (∀s c,s < r→c < r+1→s≠k→Sz κ (scaleTo M1 k (r+1) qf s c)):=JZ fun s c h1 h2 h3=>Zea T.out h1 h2 h3
          have bv:Hid (∀c,c < r+1→Sz (2 * κ) (scaleTo M1 k (r+1) qf k c)):=JZ fun c h2=>Zeb T.out a8.out hkr h2
          have db:Hid (gj (VN r cols b) r (k+1)=some (ZV (scaleTo M1 k (r+1) qf) k r r)):=JZ (by rw [Ydf ae.out bn.out,bo.out,bq.out]);generalize scaleTo M1 k (r+1) qf=M2 at *;have bw:VS w.heap.size wr (.slice (some ⟨go,0,none⟩) r ca) r (r+1) (ZV M2 k 0 r) G1 C1:=(by rw [Zhu];exact hM);clear hM b3 T bq a8 ae bn bo;go_wp2;rw [show decide (c'≤r)=false from by simp;omega]
          go_loopw [16] (fun i wx=>∃s:Nat,s≤r∧i= .int .i64 s∧Below w.heap.size w wx∧VS w.heap.size wx (.slice (some ⟨go,0,none⟩) r ca) r (r+1) (ZV M2 k s r) G1 C1) (fun i _=>r - (intOf i).toNat)
          case atStart=>exact ⟨0,by omega,rfl,d,bw⟩
          case round=>
           clear d bw;obtain ⟨s,hs,rfl,d,hM⟩:=hrel;rcases JX s r with hsm | hsm
           ·by_cases ac:s=k
            ·have b9:=JZ (Zco (M:=M2) (m:=r) (Or.inl ac:s=k∨M2 s k=0));have bx:=hM;rw [b9.out] at bx;have bz:((s:Int)==(k:Int))=true:=(by simp;omega);go_wp2;go_roundw
             case rel=>exact ⟨s+1,by omega,by go_num,d,bx⟩
             case measure=>simp [intOf];omega
            ·have bz:((s:Int)==(k:Int))=false:=(by simp;omega);have y0:=(hM.cellAt hsm).1;obtain ⟨A3,n3,c3,A4,n4,c4,⟨q0,q1,q2,q3⟩,R⟩:=hM.at_ hsm (show k < r+1 by omega);have ba:=au.out s k hsm (by omega) ac;rw [Uu] at q0 q2 R;simp only [Xx] at y0;have av:=JZ (Zks (M:=M2) (m:=r) ac);rw [Uu] at av;generalize cx:M2 s k=qg at *;have dc:=JZ cx;clear cx;have c0:(canF qg).Sh:=ba.sh (by omega);have c9:=JZ ba;clear ba;have b0:(k:Int) < ((r+1:Nat):Int):=(by omega);have ap:(k:Int) < (r:Int)+1:=(by omega);have e7:(s:Int) < r:=(by omega);go_wp2_with fail;refine (Xv _ (canF qg) _ R c0).mono ?_;rw [Zu];rintro _ w5 ⟨rfl,o⟩;have N:=hM.below o;have H:=Za d o d.size;by_cases F:qg=0
             ·have b5:(qs qg==0)=true:=(by rw [F];decide);have b9:=JZ (Zco (M:=M2) (m:=r) (Or.inr (by rw [dc.out,F]):s=k∨M2 s k=0));rw [b9.out] at N;clear F;go_wp2;go_roundw
              case rel=>exact ⟨s+1,by omega,by go_num,H,N⟩
              case measure=>simp [intOf];omega
             ·have b5:(qs qg==0)=false:=(by simpa using fun e=>F (ZW.1 e));clear F;have aw:=R.below o;have dd:=cell_later o y0;have de:=cell_later o q0;have df:=cell_later o q1;have dg:=cell_later o q2;have dh:=cell_later o q3;have cb:Hid (∀s,s < r→G1 s < w5.heap.size):=JZ fun s hs=>(N.lt hs (by omega)).2.1
              clear y0 q0 q1 q2 q3 R hM d o;obtain ⟨W6,dt,a7,P⟩:=Y7 w5 (.bool (canF qg).num.neg) (.slice A3 n3 c3) (.bool (canF qg).den.neg) (.slice A4 n4 c4);have cc:=N.below P;have cd:=aw.below P;have y:=Za H P H.size;have ax:VS w.heap.size W6 (.slice (some ⟨go,0,none⟩) r ca) r (r+1) (X8 (ZV M2 k s r) k s k qg) G1 C1:=(by rw [Zkr];exact cc);go_wp2;clear dt dd de df dg dh aw N cc P H
              go_loopw [18] (fun i wx=>∃c':Nat,k≤c'∧c'≤r+1∧i= .int .i64 c'∧Below w.heap.size w wx∧VS w.heap.size wx (.slice (some ⟨go,0,none⟩) r ca) r (r+1) (X8 (ZV M2 k s r) k s c' qg) G1 C1∧Bk wx w5.heap.size 48 [.bool (canF qg).num.neg,.slice A3 n3 c3,.bool (canF qg).den.neg,.slice A4 n4 c4]∧Zt wx (.agg #[.bool (canF qg).num.neg,.slice A3 n3 c3,.bool (canF qg).den.neg,.slice A4 n4 c4]) (canF qg)) (fun i _=>r+1 - (intOf i).toNat)
              case atStart=>exact ⟨k,by omega,by omega,rfl,y,ax,a7,cd⟩
              case round=>
               clear y ax a7 cd;obtain ⟨c',bg,ds,rfl,d,hM,a7,R⟩:=hrel;rcases JX c' (r+1) with hcm | hcm
               ·have y0:=(hM.cellAt hsm).1;have x0:=(hM.cellAt hkr).1;obtain ⟨A5,n5,c5,A6,n6,c6,⟨q0,q1,q2,q3⟩,ab⟩:=hM.at_ hsm hcm;obtain ⟨A7,n7,c7,A8,n8,c8,⟨p0,p1,p2,p3⟩,bh⟩:=hM.at_ hkr hcm;obtain ⟨z0,z1,z2,z3⟩:=a7.four;have ai:=JZ (Znb (M:=ZV M2 k s r) (g:=qg) bg ac);have ea:X8 (ZV M2 k s r) k s c' qg s c'=M2 s c':=(by unfold X8;rw [if_neg (by omega),Uu]);have ek:X8 (ZV M2 k s r) k s c' qg k c'=M2 k c':=(by rw [Zge ac,Vw]);rw [ea] at q0 q2 ab ai;rw [ek] at p0 p2 bh ai;have ce:=au.out s c' hsm hcm ac;have bc:=bv.out c' hcm;have cf:=Wz c9.out bc;simp only [Xx] at y0 x0;generalize M2 s c'=qa at *;generalize M2 k c'=qk at *;have b6:(canF qa).Sh:=ce.sh (by omega);have di:(canF qk).Sh:=bc.sh (by omega);have dj:(canF (qg * qk)).Sh:=cf.sh (by omega);have da:(c':Int) < ((r+1:Nat):Int):=(by omega);have bt:(c':Int) < (r:Int)+1:=(by omega);have bu:(c':Int)≤r:=(by omega);clear ce bc cf ea ek;go_wp2_with fail;have Y0:=Zm y0;have X0:=Zm x0;have Q0:=Zm q0;have Q1:=Zm q1;have Q2:=Zm q2;have Q3:=Zm q3;have P0:=Zm p0;have P1:=Zm p1;have P2:=Zm p2;have P3:=Zm p3;have Z0:=Zm z0;have Z1:=Zm z1;have Z2:=Zm z2;have Z3:=Zm z3;have I:=Zf wr;clear y0 x0 q0 q1 q2 q3 p0 p1 p2 p3 z0 z1 z2 z3;refine Zp 23 [0,1,2,3,4,5,6,7,8,9,10,11,12,13,14,15,16,17,18,19,20,21,22,23] (by kernel_rfl) (by kernel_rfl) ?_;repeat ((first | (refine Zd (v:=?_) rfl rfl rfl ?_ ?_;rotate_left;(· (intro _ n;go_simp;(try go_bits);(try with_reducible rfl)))) | (refine Zj (v:=?_) rfl rfl rfl ?_ ?_;rotate_left;(· (intro _ n;go_simp;(try go_bits);(try with_reducible rfl)))) | refine Zk rfl rfl rfl ?_);(try simp only [Act.put,pu1,pu2,pu3,pu4,pu5,pu6]))
                refine Zh rfl rfl (fun KR hKR=>?_);go_simp;(with_reducible refine (Zum _ _ (canF qg) (canF qk) _ (R.below I) (bh.below I) c0 di).mono ?_);rw [Zu,Zu];rintro _ w8 ⟨v8,rfl,e8,cq⟩;have ak:=Za I cq I.size;refine hKR.out _ _ (Or.inr ak) ?_;clear hKR KR;(try simp only [Act.put,pu1,pu2,pu3,pu4,pu5,pu6]);repeat ((first | (refine Zd (v:=?_) rfl rfl rfl ?_ ?_;rotate_left;(· (intro _ n;go_simp;(try go_bits);(try with_reducible rfl)))) | (refine Zj (v:=?_) rfl rfl rfl ?_ ?_;rotate_left;(· (intro _ n;go_simp;(try go_bits);(try with_reducible rfl)))) | refine Zk rfl rfl rfl ?_);(try simp only [Act.put,pu1,pu2,pu3,pu4,pu5,pu6]))
                refine Zh rfl rfl (fun KR hKR=>?_);go_simp;(with_reducible refine (Zup _ _ (canF qa) (canF (qg * qk)) _ (ab.below ak) e8.frac b6 dj).mono ?_);rw [Zu,Zu];rintro _ w9 ⟨v9,rfl,e9,an⟩;have z:=Za ak an ak.size;have O:=hM.below z;have a0:=e9.frac;obtain ⟨E,l9,k9,E',a5,a6,rfl,_,_⟩:=id a0;obtain ⟨f0,f1,f2,f3⟩:=O.frozen hsm hcm;obtain ⟨_,_,_,_,_,_,⟨t0,t1,t2,t3⟩,_⟩:=O.at_ hsm hcm;refine hKR.out _ _ (Or.inr z) ?_;clear hKR KR;(try simp only [Act.put,pu1,pu2,pu3,pu4,pu5,pu6]);repeat ((first | (refine Zd (v:=?_) rfl rfl rfl ?_ ?_;rotate_left;(· (intro _ n;go_simp;(try go_bits);(try with_reducible rfl)))) | (refine Zj (v:=?_) rfl rfl rfl ?_ ?_;rotate_left;(· (intro _ n;go_simp;(try go_bits);(try with_reducible rfl)))) | refine Zk rfl rfl rfl ?_);(try simp only [Act.put,pu1,pu2,pu3,pu4,pu5,pu6]))
                refine Zh rfl rfl (fun KR hKR=>?_);go_simp;refine hKR.out _ _ (Or.inl (by decide)) ?_;clear hKR KR;(try simp only [Act.put,pu1,pu2,pu3,pu4,pu5,pu6]);refine Zx ?_;obtain ⟨X,Y⟩:=O.set_ hsm hcm a0;rw [ai.out] at X;have U:=Za d z d.size;have a3:=ZA U (show w.heap.size≤G1 s from (hM.lt hsm (by omega)).1) (c' * 4) (c' * 4+1) (c' * 4+2) (c' * 4+3) (.bool (canF (qa - qg * qk)).num.neg) (.slice E l9 k9) (.bool (canF (qa - qg * qk)).den.neg) (.slice E' a5 a6);have bd:=(a7.later z).far4' (show w5.heap.size≠G1 s by have:=cb.out s hsm;omega) (c' * 4) (c' * 4+1) (c' * 4+2) (c' * 4+3) (.bool (canF (qa - qg * qk)).num.neg) (.slice E l9 k9) (.bool (canF (qa - qg * qk)).den.neg) (.slice E' a5 a6);have be:=(R.below z).keep (Y.keep (by decide));clear Y0 X0 Q0 Q1 Q2 Q3 P0 P1 P2 P3 Z0 Z1 Z2 Z3 hM a7 R O I ak z cq an a0 e8 e9 f0 f1 f2 f3 t0 t1 t2 t3 ab bh d U Y;go_wp2;go_roundw
                case rel=>exact ⟨c'+1,by omega,by omega,by go_num,a3,X,bd,be⟩
                case measure=>simp [intOf];omega
               ·have aj:c'=r+1:=(by omega);rw [aj,av.out] at hM;clear a7 R aj;go_wp2;go_roundw
                case rel=>exact ⟨s+1,by omega,by go_num,d,hM⟩
                case measure=>simp [intOf];omega
           ·obtain rfl:s=r:=by omega
            go_wp2;go_roundw
            case rel=>exact ⟨k+1,_,G1,C1,by omega,by go_num,d,db.out,hM⟩
            case measure=>simp [intOf];omega
      ·obtain rfl:t=r:=by omega
       have HN:Hid (YK t cols b=none):=JZ (Zns hkr ae.out (Zrq HZ.out));go_wp2;go_ret2;exact ⟨_,by rw [HN.out];rfl,by rw [Zlj HN.out];exact Yd.nil _ _,Za d l d.size⟩
    ·obtain rfl:k=r:=by omega
     obtain ⟨wP,rfl⟩:∃x,x=wr:=⟨_,rfl⟩;have HD:=JZ (Znt ae.out);go_wp2
     go_loopw [19,20] (fun s i wx=>∃j:Nat,j≤k∧i= .int .i64 j∧Yd wP.heap.size wx s (Z7 j fun j=>M j k)∧Below wP.heap.size wP wx) (fun _ i _=>k - (intOf i).toNat)
     case atStart=>exact ⟨0,by omega,rfl,Yd.nil _ _,JR _ _⟩
     case round=>
      obtain ⟨j,hj,rfl,hF,l⟩:=hrel;have az:=l.size;rcases JX j k with hjk | hjk
      ·have Z:=hM.below l;obtain ⟨go,co,bf,am,ck,cl,cm,a4⟩:=Z.outer (by omega);injection bf with hv1 hv2 hv3;subst hv1 hv3;have y0:=(Z.cellAt hjk).1;obtain ⟨A1,n1,c1,A2,n2,c2,⟨q0,q1,q2,q3⟩,hQ⟩:=Z.at_ hjk (show k < k+1 by omega);simp only [Xx] at y0;have HF:=JZ hF;have a9:=JZ hQ;have S:(Z7 j fun j=>M j k).length+1≤1099511627776:=(by rw [Zi];omega);have eb:(j:Int) < k:=(by omega);have b0:(k:Int) < ((k+1:Nat):Int):=(by omega);have ap:(k:Int) < (k:Int)+1:=(by omega);clear hF hQ a4;go_wp2_with (at_builtin;refine YV rfl (.tmp 179) (.tmp 187) rfl wr wP.heap.size u19 (Z7 j fun j=>M j k) rfl HF.out _ _ A1 A2 n1 c1 n2 c2 (canF (M j k)) a9.out rfl S az ?_);intro v' w4 J du bi;rw [Zee j fun j=>M j k] at J;go_wp2;go_roundw
       case rel=>exact ⟨j+1,by omega,by go_num,J,l.trans bi⟩
       case measure=>simp [intOf];omega
      ·obtain rfl:j=k:=by omega
       go_wp2;go_ret2;refine ⟨_,by rw [HD.out];rfl,?_,Za d l d.size⟩;rw [Zay HD.out];obtain ⟨cs,ho,hf⟩:=hF;exact ⟨cs,Xe ho d.size,hf⟩
namespace Pl
def LPd.Fit (p:LPd) (K:Nat):Prop:=p.Ok K∧p.In∧p.right.length≤64∧p.cost.length=p.cols.length∧p.cols.length≤1200∧1≤K∧130 * (5^p.right.length * K)+200≤8589934592
theorem LPd.Fit.k1 {p:LPd} {K:Nat} (h:p.Fit K):1≤K:=h.2.2.2.2.2.1
theorem LPd.Fit.le {p:LPd} {K:Nat} (_h:p.Fit K):K≤5^p.right.length * K:=by
 have:=JS K (Nat.pow_le_pow_right (show 0 < 5 by decide) (Nat.zero_le p.right.length));simpa using this
theorem LPd.Fit.kb {p:LPd} {K:Nat} (h:p.Fit K):K≤34359738368:=by
 have h1:=h.le;have h2:=h.2.2.2.2.2.2;omega
theorem LPd.Fit.ks {p:LPd} {K:Nat} (h:p.Fit K):5^p.right.length * K≤8589934592:=by
 have h2:=h.2.2.2.2.2.2;omega
theorem LPd.Fit.ok {p:LPd} {K:Nat} (h:p.Fit K):p.Ok K:=h.1
theorem LPd.Fit.in_ {p:LPd} {K:Nat} (h:p.Fit K):p.In:=h.2.1
theorem LPd.Fit.rows {p:LPd} {K:Nat} (h:p.Fit K):p.right.length≤64:=h.2.2.1
theorem LPd.Fit.cl {p:LPd} {K:Nat} (h:p.Fit K):p.cost.length=p.cols.length:=h.2.2.2.1
theorem LPd.Fit.cols {p:LPd} {K:Nat} (h:p.Fit K):p.cols.length≤1200:=h.2.2.2.2.1
theorem LPd.Fit.rs {p:LPd} {K:Nat} (h:p.Fit K):RsL K p.right:=h.1.2.1
theorem LPd.Fit.cs {p:LPd} {K:Nat} (h:p.Fit K):RsL K p.cost:=h.1.1
def LSt.Fit (p:LPd) (s:LSt):Prop:=s.In p∧s.basis.length=p.right.length
theorem LSt.Fit.in_ {p:LPd} {s:LSt} (h:s.Fit p):s.In p:=h.1
theorem LSt.Fit.len {p:LPd} {s:LSt} (h:s.Fit p):s.basis.length=p.right.length:=h.2
theorem Yfd {p:LPd} {K:Nat} (h:p.Fit K) (s:LSt) (i r:Nat):Sz K (s.mat p i r):=LPd.Sz_col h.ok h.k1 _ _
def ordQ (p:LPd) (j:Int):Int:=if 0≤j then j else p.cols.length - 1 - j
def Vi (p:LPd) (ph j:Int):Rat:=if ph=1∧j < 0 then 1 else if ph=2∧0≤j then qAt p.cost j.toNat else 0
theorem Zvn {p:LPd} {j:Int} (h:j < 0):Vi p 1 j=1:=by unfold Vi;rw [if_pos ⟨rfl,h⟩]
theorem Zgr {p:LPd} {j:Int} (h:0≤j):Vi p 2 j=qAt p.cost j.toNat:=by unfold Vi;rw [if_neg (by omega),if_pos ⟨rfl,h⟩]
theorem Zgs {p:LPd} {ph j:Int} (h1:¬(ph=1∧j < 0)) (h2:¬(ph=2∧0≤j)):Vi p ph j=0:=by unfold Vi;rw [if_neg h1,if_neg h2]
theorem Zin {p:LPd} {K:Nat} (ok:p.Ok K) (hK:1≤K) (ph j:Int):Sz K (Vi p ph j):=by
 unfold Vi;split
 ·exact Sz_one.mono hK
 ·split
  ·exact ok.1.qAt hK _
  ·exact Sz_zero.mono hK
def U4 (s:LSt) (zs:List RF):Nat→Bool
 | 0=>false
 | k+1=>U4 s zs k || (decide (s.at_ k < 0) && decide (qAt zs k≠0))
theorem Zaz {s:LSt} {zs:List RF} {k:Nat} (h1:s.at_ k < 0) (h2:qAt zs k≠0):∀{n:Nat},k < n→U4 s zs n=true
 | 0,h=>by omega
 | n+1,h=>by
  unfold U4
  rcases JX k n with hk | hk
  ·rw [Zaz h1 h2 hk];rfl
  ·obtain rfl:k=n:=by omega
   simp [h1,h2]
theorem Zlk {s:LSt} {zs:List RF} {k:Nat} (h:U4 s zs k=false) (h2:¬s.at_ k < 0∨qAt zs k=0):U4 s zs (k+1)=false:=by
 unfold U4;rw [h];rcases h2 with e | e
 ·simp [e]
 ·simp [e]
def zL (p:LPd) (s:LSt):List RF:=Zim p.right.length (s.mat p) (qAt p.right)
def zOk (p:LPd) (s:LSt):Bool:=(YK p.right.length (s.mat p) (qAt p.right)).isSome
def VP (p:LPd) (s:LSt):List RF:=Zim p.right.length (fun r k=>s.mat p k r) (qAt (Z7 p.right.length fun i=>Vi p s.phase (s.at_ i)))
theorem Zvo {m K:Nat} {cols:Mx} {b:Nat→Rat} (h:∀r c,r < m→c < m→Sz K (cols c r)) (hb:∀r,r < m→Sz K (b r)):RsL (5^m * K) (Zim m cols b):=by
 unfold Zim
 cases e:YK m cols b with
 | none=>exact RsL.nil _
 | some x=>exact Zhv (Zpl h hb e)
theorem Yfe {p:LPd} {K:Nat} (F:p.Fit K) (s:LSt):RsL (5^p.right.length * K) (zL p s):=Zvo (fun _ _ _ _=>LPd.Sz_col F.1 F.k1 _ _) fun r _=>F.1.2.1.qAt F.k1 r
theorem Zvp {p:LPd} {K:Nat} (F:p.Fit K) (s:LSt):RsL (5^p.right.length * K) (VP p s):=Zvo (fun _ _ _ _=>LPd.Sz_col F.1 F.k1 _ _) fun r hr=>by rw [YX hr];exact Zin F.1 F.k1 _ _
theorem Zzf {m:Nat} {cols:Mx} {b:Nat→Rat}:(Zim m cols b).length≤m:=by
 unfold Zim;split
 ·rw [Zi];exact JY _
 ·simp
end Pl
theorem Zfa [Old] (v1 v2:Value) (s:LSt) (zs:List RF) (w:World) (h1:StM w v1 s) (h2:WA w v2 zs) (hl:zs.length≤s.basis.length) (hz:∀(i:Nat) (f:RF),zs[i]? =some f→f.Sh) (hOl:Zb w:=by (repeat (first | assumption | exact Zb.up (by assumption) hOl | exact Zb.up (Hid.out (by assumption)) hOl | with_reducible refine Zb.set ?_ _ _ | with_reducible refine Zb.mk_ ?_ _ | with_reducible refine Zb.dr ?_ | with_reducible refine Zb.drN ?_ | refine Zb.up (by assumption) ?_ | refine Zb.up (Hid.out (by assumption)) ?_))):
 Calls Tryz.prog 74 #[v1,v2] w fun e w'=>e= .returned (.bool (U4 s zs zs.length))∧Below w.heap.size w w':=by
 have r:=hOl.le;obtain ⟨Ab,nb,cb,rfl,hI⟩:=id h1;obtain ⟨W,hW,hS,a⟩:=Xa w (.int .i64 s.phase) (.slice Ab nb cb) (.int .i64 s.pivots);obtain ⟨b1,b2,b3⟩:=hI.len;obtain ⟨Az,cz,rfl,v,x⟩:=h2.shape;have HI:=JZ hI;have H2:=JZ h2;have HZ:=JZ hz;generalize hn:zs.length=N at *;have HN:=JZ hn;have t:N≤nb:=by omega
 clear h1 h2 hI hz hn hl b1;go_enter Tryz.func74,Tryz.ntmps74;go_wp2;clear hW
 go_loopw [5] (fun i wr=>∃k:Nat,k≤N∧i= .int .i64 k∧Below w.heap.size w wr∧Bk wr w.heap.size 29 [.int .i64 s.phase,.slice Ab nb cb,.int .i64 s.pivots]∧U4 s zs k=false) (fun i _=>N - (intOf i).toNat)
 case atStart=>exact ⟨0,by omega,rfl,a,hS,rfl⟩
 case round=>
  clear a hS;obtain ⟨k,hk,rfl,a,hS,ha⟩:=hrel;have HA:=JZ ha;clear ha;obtain ⟨y0,y1,y2⟩:=hS.three;rcases JX k N with hkl | hkl
  ·obtain ⟨bb,bo,z,rfl,y,g,z0,z1⟩:=(HI.out.below a).at_ (show k < nb by omega);obtain ⟨f,hf⟩:=Yi (fs:=zs) (i:=k) (by rw [HN.out];exact hkl);obtain ⟨b,A,B1,n1,k1,B2,n2,k2,rfl,B,⟨q0,q1,q2,q3⟩,o⟩:=H2.out.elem a hf;have l:=HZ.out k f hf;have h:=JZ (LSt.at_eq g);have HQ:=JZ (Yt hf);have u:(k:Int) < nb:=(by omega);have p:(k:Int) < N:=(by omega);clear g hf;rcases Int.lt_or_le z 0 with hz0 | hz0
   ·go_wp2_with fail;refine (Xv _ f _ o l).mono ?_;rintro _ w5 ⟨rfl,j⟩;have m:=hS.later j;have d:=Za a j a.size;by_cases hq:f.q=0
    ·have n:(qs f.q !=0)=false:=(by rw [hq];decide);have c:=JZ (Zlk HA.out (Or.inr (by rw [HQ.out,hq])));clear hq;go_wp2;go_roundw
     case rel=>exact ⟨k+1,by omega,by go_num,d,m,c.out⟩
     case measure=>simp [intOf];omega
    ·have n:(qs f.q !=0)=true:=(by simpa using fun e=>hq (ZW.1 e));have c:Hid (U4 s zs N=true):=JZ (Zaz (by rw [h.out];exact hz0) (by rw [HQ.out];exact hq) hkl);clear hq;go_wp2;go_ret;exact ⟨by rw [c.out];rfl,d⟩
   ·have c:=JZ (Zlk (zs:=zs) HA.out (Or.inl (by rw [h.out];omega)));go_wp2;go_roundw
    case rel=>exact ⟨k+1,by omega,by go_num,a,hS,c.out⟩
    case measure=>simp [intOf];omega
  ·obtain rfl:k=N:=by omega
   go_wp2;go_ret;exact ⟨by rw [HA.out];rfl,a⟩
theorem Zsd [Old] (v1 v2:Value) (p:LPd) (s:LSt) (K:Nat) (w:World) (h:LpM w v1 p) (h2:StM w v2 s) (F:p.Fit K) (S:s.Fit p) (hOl:Zb w:=by (repeat (first | assumption | exact Zb.up (by assumption) hOl | exact Zb.up (Hid.out (by assumption)) hOl | with_reducible refine Zb.set ?_ _ _ | with_reducible refine Zb.mk_ ?_ _ | with_reducible refine Zb.dr ?_ | with_reducible refine Zb.drN ?_ | refine Zb.up (by assumption) ?_ | refine Zb.up (Hid.out (by assumption)) ?_))):
 Calls Tryz.prog 60 #[v1,v2] w fun e w'=>∃v',e= .returned (.tuple #[v',.bool (zOk p s)])∧Yd w.heap.size w' v' (zL p s)∧Below w.heap.size w w':=by
 have L:=hOl.le;obtain ⟨A,n,c,A',n',c',D,E,G,rfl,hc,hv,hr⟩:=id h;obtain ⟨Ab,nb,cb,rfl,hI⟩:=id h2;obtain ⟨W,hW,m,g⟩:=X9 w (.slice A n c) (.slice A' n' c') (.slice D E G);obtain ⟨W1,H,b,i⟩:=Xa W (.int .i64 s.phase) (.slice Ab nb cb) (.int .i64 s.pivots);have hX:=m.later i;have d:=Za g i g.size;obtain ⟨b1,b2,b3⟩:=hI.len;have o:W.heap.size=w.heap.size+1:=by rw [← hW];simp
 rw [o] at b;have q:=JZ h;have t:=JZ h2;have HI:=JZ hI;have a:=JZ F;have k:=JZ S;have u:=JZ b1;have x:Hid (nb=p.right.length):=JZ (by rw [b1];exact S.2);have M:nb≤64:=by rw [x.out];exact F.2.2.1
 obtain ⟨x0,x1,x2⟩:=hX.three;obtain ⟨y0,y1,y2⟩:=b.three;have y:=JZ hr;clear h h2 hc hv hr b1 hI m g i F S;have z:Hid (s.basis.length≤1000):=JZ (by rw [← u.out];omega);have B:Hid (p.right.length≤1000):=JZ (by have:=a.out.rows;omega);go_enter Tryz.func60,Tryz.ntmps60;go_wp2_with fail;clear hW H;have C0:=Zm x0;have C1:=Zm x1;have C2:=Zm x2;have D0:=Zm y0;have D1:=Zm y1;have D2:=Zm y2;have b:=Zf W1;clear x0 x1 x2 y0 y1 y2;refine Zp 10 [0,1,3,4,2,5,6,7,8,9] (by kernel_rfl) (by kernel_rfl) ?_;repeat ((first | (refine Zd (v:=?_) rfl rfl rfl ?_ ?_;rotate_left;(· (intro _ j;go_simp;(try go_bits);(try with_reducible rfl)))) | (refine Zj (v:=?_) rfl rfl rfl ?_ ?_;rotate_left;(· (intro _ j;go_simp;(try go_bits);(try with_reducible rfl)))) | refine Zk rfl rfl rfl ?_);(try simp only [Act.put,pu1,pu2,pu3,pu4,pu5,pu6]))
 refine Zh rfl rfl (fun KR hKR=>?_);go_simp;with_reducible refine (Znr _ _ p s K _ ((q.out.below d).below b) ((t.out.below d).below b) a.out.ok a.out.kb a.out.in_ k.out.in_ a.out.rows z.out).mono ?_
 rw [k.out.len];rintro _ w5 ⟨v5,rfl,e5,I⟩;have f:=Za b I b.size;refine hKR.out _ _ (Or.inr f) ?_;clear hKR KR;(try simp only [Act.put,pu1,pu2,pu3,pu4,pu5,pu6]);repeat ((first | (refine Zd (v:=?_) rfl rfl rfl ?_ ?_;rotate_left;(· (intro _ j;go_simp;(try go_bits);(try with_reducible rfl)))) | (refine Zj (v:=?_) rfl rfl rfl ?_ ?_;rotate_left;(· (intro _ j;go_simp;(try go_bits);(try with_reducible rfl)))) | refine Zk rfl rfl rfl ?_);(try simp only [Act.put,pu1,pu2,pu3,pu4,pu5,pu6]))
 refine Zh rfl rfl (fun KR hKR=>?_);go_simp;with_reducible refine (Zsc _ _ p.right.length (s.mat p) p.right K _ e5 ((y.out.below d).below f) rfl (fun r c _ _=>Yfd a.out s c r) a.out.rs a.out.k1 a.out.ks B.out).mono ?_
 rintro _ w6 ⟨v6,rfl,e6,J⟩;have l:=Za f J f.size;refine hKR.out _ _ (Or.inr l) ?_;clear hKR KR;(try simp only [Act.put,pu1,pu2,pu3,pu4,pu5,pu6]);repeat ((first | (refine Zd (v:=?_) rfl rfl rfl ?_ ?_;rotate_left;(· (intro _ j;go_simp;(try go_bits);(try with_reducible rfl)))) | (refine Zj (v:=?_) rfl rfl rfl ?_ ?_;rotate_left;(· (intro _ j;go_simp;(try go_bits);(try with_reducible rfl)))) | refine Zk rfl rfl rfl ?_);(try simp only [Act.put,pu1,pu2,pu3,pu4,pu5,pu6]))
 refine Zx ?_;clear C0 C1 C2 D0 D1 D2;have C:=Za d l d.size;have N:=f.size;go_wp2;go_ret2;refine ⟨_,rfl,?_,C⟩;obtain ⟨cs,ho,hf⟩:=e6;exact ⟨cs,Xe ho (by have:=d.size;omega),hf⟩
def ZI (base:Nat) (w:World) (v:Value) (zs:List Int):Prop:=w.ownsRow base 3 1 v zs.length (zs.map fun z=>Value.int .i64 z)∧∀z∈zs,-9223372036854775808≤z∧z≤9223372036854775807
theorem ZI.below {base:Nat} {w w':World} {v:Value} {zs:List Int} (h:ZI base w v zs) (hb:Below w.heap.size w w'):ZI base w' v zs:=⟨own_below h.1 hb,h.2⟩
theorem ZI.nil (base:Nat) (w:World):ZI base w (.slice none 0 0) []:=⟨World.ownsRow_nil _ _ _ _,fun z hz=>by simp at hz⟩
theorem ZI.monoB {base base':Nat} {w:World} {v:Value} {zs:List Int} (h:ZI base w v zs) (hb:base'≤base):ZI base' w v zs:=⟨Xe h.1 hb,h.2⟩
theorem ZI.but [Old] {base:Nat} {w w':World} {e:TypeId} {v:Value} {zs:List Int} (h:ZI base w v zs) (hk:Ze e w w') (h1:3≠e):ZI base w' v zs:=⟨hk.own h.1 h1,h.2⟩
theorem ZI.ints {base:Nat} {w:World} {v:Value} {zs:List Int} (h:ZI base w v zs):X6 w v zs:=by
 letI:Old:=⟨0⟩
 obtain ⟨A,c,hv,hl,hc,hm,a⟩:=Vv.of_own h.1;refine ⟨A,c,hv,hc,hm,fun hp=>?_,h.2⟩;obtain ⟨b,d,cs,_,fz,hA,_,hb,hx⟩:=a hp;refine ⟨b,d,hA,fun i hi=>?_⟩;rw [cell_of_row w b (d+i) cs _ fz hb,hx i (.int .i64 (zs.getD i 0)) (by simp [List.getD,JQ hi])]
theorem ZI.sliceN {base:Nat} {w:World} {v:Value} {zs:List Int} (h:ZI base w v zs):∃A n c,v= .slice A n c:=by
 letI:Old:=⟨0⟩
 obtain ⟨A,c,hv,_⟩:=Vv.of_own h.1;exact ⟨A,_,c,hv⟩
theorem info_intT:(Tryz.prog.info? 3).map (fun i=>(i.zero,i.size,i.bytes))=some (some (.int .i64 0),1,8):=by kernel_rfl
theorem VK (ty:TypeId) (W:World) (v:Value) (zs:List Int) (h:X6 W v zs) (hn:zs.length≤1099511627776):
 ∃v' w',(Builtin.append_ #[22,22] ty #[.slice none 0 0,v]).run Tryz.prog W= .ok v' w'∧ZI W.heap.size w' v' zs∧Below W.heap.size W w':=by
 obtain ⟨A,c,rfl,hc,hm,a,i⟩:=h;obtain ⟨i0,hi,f,l,m⟩:=info_parts info_intT
 cases A with
 | none=>
  have h0:zs.length=0:=by
   rcases JV zs.length with e | e
   ·exact e
   ·obtain ⟨b,n,e1,_⟩:=a e;cases e1
  have g:zs=[]:=List.eq_nil_of_length_eq_zero h0;subst g;refine ⟨_,_,?_,ZI.nil _ _,JR _ _⟩;simp [Builtin.append_,run_underlying Tryz.underlying22,sizeOf,typeInfo,zeroValue,hi,f,Builtin.lenOf,run_firstCells_none]
 | some ad=>
  obtain ⟨v',w',hr,g1,g2,_,_⟩:=run_append_own_at (P:=Tryz.prog) W W.heap.size 22 ty 3 i0 _ 1 8 Tryz.underlying22 hi f l m rfl (by decide) (.slice none 0 0) 0 [] (World.ownsRow_nil _ _ _ _) ad zs.length c (zs.map fun z=>Value.int .i64 z) (by simp) (fun j u hj=>by
   have d:j < zs.length:=(by have h9:=(List.getElem?_eq_some_iff.1 hj).1;simpa using h9);obtain ⟨b,n,e,hx⟩:=a (by omega);have e:=Option.some.inj e;rw [e,Zll,hx j d];simp [JQ d] at hj;rw [← hj];simp [List.getD,JQ d]) (fun u hu=>by simp at hu;obtain ⟨z,_,rfl⟩:=hu;rfl) (by unfold maxLen;omega) (by omega) (JY _)
  refine ⟨v',w',hr,⟨by simpa using g1,i⟩,?_⟩;exact (JR _ _).grown g2 (JY _) (fun k hk=>by simp [Value.ownBlock] at hk)
theorem Zba {o:Oper} {a:Act} {w w':World} {v x y:Value} {K:Act→World→Prop} {Q:Exit→Act→World→Prop} {ops:Array Oper} {t:TypeId} (s1 s2:Operand) (hgd:o.guard=none) (ho:o.op= .call { callee:= .builtin .append,args:=#[s1,s2],argTypes:=#[t,t] }) (h1:a.eval s1=x) (h2:a.eval s2=y)
 (hrun:(Builtin.append_ #[t,t] o.type #[x,y]).run Tryz.prog w= .ok v w') (h:K (a.put o.dst v) w'):if Region.wanted o (yielded ops a.tmps)=true then Oper.wp Tryz.prog o a w K Q else K (a.put o.dst undef) w:=by
 rw [if_pos (by simp [Region.wanted,hgd])];unfold Oper.wp execOp;simp only [ho,resolve,invoke,builtin,Sem.run_bind,Sem.run_pure,Result.andThen_ok,List.map_toArray,List.map_cons,List.map_nil,h1,h2,hrun];exact h
def StO (base:Nat) (w:World) (v:Value) (s:LSt):Prop:=∃A n c,v= .agg #[.int .i64 s.phase,.slice A n c,.int .i64 s.pivots]∧ZI base w (.slice A n c) s.basis
namespace Pl
def Zy (p:LPd) (s:LSt):LSt:=⟨if U4 s (zL p s) (zL p s).length then s.phase else 2,s.basis,s.pivots⟩
theorem Zfb {p:LPd} {s:LSt} (h:s.Fit p):(Zy p s).Fit p:=h
end Pl
def Zvq (U:World) (s:LSt) (s7:Value) (wx:World):Prop:=
 ∃g A n c,s7= .pointer (some ⟨g,0,none⟩)∧U.heap.size≤g∧Bk wx g 29 [.int .i64 s.phase,.slice A n c,.int .i64 s.pivots]∧ZI U.heap.size wx (.slice A n c) s.basis∧Below U.heap.size U wx
theorem Zvq.mk {U w:World} {g:Nat} {s:LSt} {x y z:Value} {A:Option Addr} {n c:Nat} (hB:Bk w g 29 [x,y,z]) (hI:ZI U.heap.size w (.slice A n c) s.basis) (hb:Below U.heap.size U w) (hg:U.heap.size≤g):
 Zvq U s (.pointer (some ⟨g,0,none⟩)) (((w.setCell ⟨g,0,none⟩ (.int .i64 s.phase)).setCell ⟨g,1,none⟩ (.slice A n c)).setCell ⟨g,2,none⟩ (.int .i64 s.pivots)):=by
 letI:Old:=⟨0⟩
 have k1:=Ze.setCell hB 0 (.int .i64 s.phase);have k2:=Ze.setCell (hB.set_ 0 (.int .i64 s.phase)) 1 (.slice A n c);have k3:=Ze.setCell ((hB.set_ 0 (.int .i64 s.phase)).set_ 1 (.slice A n c)) 2 (.int .i64 s.pivots);have k4:=(k1.trans k2).trans k3;exact ⟨g,A,n,c,rfl,hg,((hB.set_ 0 _).set_ 1 _).set_ 2 _,hI.but k4 (by decide),((hb.setCell (p:=⟨g,0,none⟩) hg _).setCell (p:=⟨g,1,none⟩) hg _).setCell (p:=⟨g,2,none⟩) hg _⟩
theorem Znu [Old] (v1 v2:Value) (p:LPd) (s:LSt) (K:Nat) (w:World) (h:LpM w v1 p) (h2:StM w v2 s) (F:p.Fit K) (S:s.Fit p) (hOl:Zb w:=by (repeat (first | assumption | exact Zb.up (by assumption) hOl | exact Zb.up (Hid.out (by assumption)) hOl | with_reducible refine Zb.set ?_ _ _ | with_reducible refine Zb.mk_ ?_ _ | with_reducible refine Zb.dr ?_ | with_reducible refine Zb.drN ?_ | refine Zb.up (by assumption) ?_ | refine Zb.up (Hid.out (by assumption)) ?_))):
 Calls Tryz.prog 56 #[v1,v2] w fun e w'=>∃v',e= .returned v'∧StO w.heap.size w' v' (Zy p s)∧Below w.heap.size w w':=by
 have ap:=hOl.le;obtain ⟨A,n,c,A',n',c',al,am,an,rfl,hc,hv,hr⟩:=id h;obtain ⟨Ab,nb,cb,rfl,hI⟩:=id h2;obtain ⟨W,hW,aa,y⟩:=X9 w (.slice A n c) (.slice A' n' c') (.slice al am an);obtain ⟨W1,ab,a,z⟩:=Xa W (.int .i64 s.phase) (.slice Ab nb cb) (.int .i64 s.pivots);have hX:=aa.later z;have J:=Za y z y.size;obtain ⟨b1,b2,b3⟩:=hI.len;have Y:W.heap.size=w.heap.size+1:=by rw [← hW];simp
 rw [Y] at a;have ad:=JZ h;have Z:=JZ h2;have HI:=JZ hI;have L:=JZ F;have a0:=JZ S;have a1:=JZ b1;have ae:Hid (nb=p.right.length):=JZ (by rw [b1];exact S.2);have aq:nb≤64:=by rw [ae.out];exact F.2.2.1
 obtain ⟨x0,x1,x2⟩:=hX.three;obtain ⟨y0,y1,y2⟩:=a.three;clear h h2 hc hv hr b1 hI aa y z F S;obtain ⟨W2,ao,hR,l⟩:=Xa W1 (.int .i64 0) (.slice none 0 0) (.int .i64 0);have M:=hX.later l;have N:=a.later l;have r:=Za J l J.size;have a2:W1.heap.size=w.heap.size+1+1:=by rw [← ab];simp [Y]
 rw [a2] at hR;obtain ⟨x0,x1,x2⟩:=M.three;obtain ⟨y0,y1,y2⟩:=N.three;have af:Hid (∀(i:Nat) (f:RF),(zL p s)[i]? =some f→f.Sh):=JZ fun i f hf=>(Yfe L.out s i f hf).sh (by have:=L.out.ks;omega)
 have ag:Hid ((zL p s).length≤s.basis.length):=JZ (by rw [a0.out.len];exact Zzf);clear hX a J l;go_enter Tryz.func56,Tryz.ntmps56;go_wp2_with fail;clear hW ab ao;refine (Zsd _ _ p s K _ (ad.out.below r) (Z.out.below r) L.out a0.out).mono ?_;rintro _ w5 ⟨v5,rfl,e5,C⟩;have a3:=M.later C;have O:=N.later C;have P:=hR.later C;have t:=Za r C r.size;have a4:=e5.frs;obtain ⟨Az,nz,cz,rfl⟩:=e5.sliceN;clear e5 M N hR x0 x1 x2 y0 y1 y2 r C
 go_upto_region 2 with (fail)
 go_cut [7] (fun s7 wx=>Zvq w5 s s7 wx)
 case first=>
  obtain ⟨y0,y1,y2⟩:=O.three;have C0:=Zm y0;have C1:=Zm y1;have C2:=Zm y2;have a:=Zf w5;clear y0 y1 y2;refine YC 9 (.go 0 (.go 1 (.go 2 (.go 3 (.go 5 (.go 6 (.fork 4 (.go 7 (.go 8 (.go 9 .done))) 8 (.go 4 (.go 7 (.go 9 .done)))))))))) (by kernel_rfl) (by kernel_rfl) ?_;repeat ((first | (refine ZJ (v:=?_) rfl rfl rfl ?_ ?_;rotate_left;(· (intro _ E;go_simp;(try go_bits);(try with_reducible rfl)))) | (refine ZT (v:=?_) rfl rfl rfl ?_ ?_;rotate_left;(· (intro _ E;go_simp;(try go_bits);(try with_reducible rfl)))) | refine ZU rfl rfl rfl ?_ | refine ZK rfl rfl rfl (by assumption) ?_);(try simp only [Act.put,pu1,pu2,pu3,pu4,pu5,pu6]))
  refine WI rfl rfl (fun KR hKR=>?_) (fun KR hKR=>?_)
  ·obtain ⟨vc,wc,j,B,H⟩:=VK 22 w5.drew (.slice Ab nb cb) s.basis ((HI.out.below t).below a) (by rw [← a1.out];omega);obtain ⟨Ac,nc,cc,rfl⟩:=B.sliceN;have k:=Za a H a.size;refine Zba _ _ rfl rfl rfl rfl j ?_;refine hKR.out _ _ (Or.inr k) ?_;clear hKR KR j;(try simp only [Act.put,pu1,pu2,pu3,pu4,pu5,pu6]);have R:=B.monoB a.size;repeat ((first | (refine ZJ (v:=?_) rfl rfl rfl ?_ ?_;rotate_left;(· (intro _ E;go_simp;(try go_bits);(try with_reducible rfl)))) | (refine ZT (v:=?_) rfl rfl rfl ?_ ?_;rotate_left;(· (intro _ E;go_simp;(try go_bits);(try with_reducible rfl)))) | refine ZU rfl rfl rfl ?_ | refine ZK rfl rfl rfl (by assumption) ?_);(try simp only [Act.put,pu1,pu2,pu3,pu4,pu5,pu6]))
   obtain ⟨WG,X,o,I⟩:=Xa wc (.int .i64 0) (.slice none 0 0) (.int .i64 0);refine ZB rfl rfl (fun KR hKR=>?_);go_simp;have T:=k.size;have b:=Za k I k.size;refine hKR.out _ _ (Or.inr b) ?_;clear hKR KR X;(try simp only [Act.put,pu1,pu2,pu3,pu4,pu5,pu6]);have ah:=R.below I;obtain ⟨t0,t1,t2⟩:=o.three;obtain ⟨f0,f1,f2⟩:=o.threeF;refine ZB rfl rfl (fun KR hKR=>?_);go_simp;refine hKR.out _ _ (Or.inl (by decide)) ?_;clear hKR KR;(try simp only [Act.put,pu1,pu2,pu3,pu4,pu5,pu6]);refine Yl ?_;go_wp2_with fail
   go_meet
   exact Zvq.mk o ah b T
  ·obtain ⟨WG,X,o,I⟩:=Xa w5.drew (.int .i64 0) (.slice none 0 0) (.int .i64 0);go_simp;have T:=a.size;have b:=Za a I a.size;refine hKR.out _ _ (Or.inr b) ?_;clear hKR KR X;(try simp only [Act.put,pu1,pu2,pu3,pu4,pu5,pu6])
   change Bk WG w5.heap.size 29 _ at o
   obtain ⟨vc,wc,j,B,H⟩:=VK 22 WG (.slice Ab nb cb) s.basis ((HI.out.below t).below b) (by rw [← a1.out];omega);obtain ⟨Ac,nc,cc,rfl⟩:=B.sliceN;have k:=Za b H b.size;refine ZB rfl rfl (fun KR hKR=>?_);refine Zba _ _ rfl rfl rfl rfl j ?_;refine hKR.out _ _ (Or.inr k) ?_;clear hKR KR j;(try simp only [Act.put,pu1,pu2,pu3,pu4,pu5,pu6]);have R:=B.monoB b.size;have U:=o.later H;repeat ((first | (refine ZJ (v:=?_) rfl rfl rfl ?_ ?_;rotate_left;(· (intro _ E;go_simp;(try go_bits);(try with_reducible rfl)))) | (refine ZT (v:=?_) rfl rfl rfl ?_ ?_;rotate_left;(· (intro _ E;go_simp;(try go_bits);(try with_reducible rfl)))) | refine ZU rfl rfl rfl ?_ | refine ZK rfl rfl rfl (by assumption) ?_);(try simp only [Act.put,pu1,pu2,pu3,pu4,pu5,pu6]))
   obtain ⟨t0,t1,t2⟩:=U.three;obtain ⟨f0,f1,f2⟩:=U.threeF;refine ZB rfl rfl (fun KR hKR=>?_);go_simp;refine hKR.out _ _ (Or.inl (by decide)) ?_;clear hKR KR;(try simp only [Act.put,pu1,pu2,pu3,pu4,pu5,pu6]);refine Yl ?_;go_wp2_with fail
   go_meet
   exact Zvq.mk U R k T
 case rest=>
  obtain ⟨g,A1,n1,c1,rfl,hg,hB,ac,q⟩:=hcut;have ai:=a3.later q;have a5:=O.later q;have a6:=P.later q;have G:=Za t q t.size;have a7:=a4.below q;have ar:w.heap.size+1+1 < g:=by have:=P.lt;omega
  have a8:=t.size;obtain ⟨y0,y1,y2⟩:=a5.three;clear a3 O P a4;go_wp2_with fail;refine (Zfa _ _ s (zL p s) _ (Z.out.below G) a7 ag.out af.out).mono ?_;rintro _ w7 ⟨rfl,D⟩;have u:=hB.later D;have d:=a6.later D;have V:=ac.below D;have x:=Za G D G.size;clear y0 y1 y2 ai a5 a7 hB a6 ac G D q;obtain ⟨q0,q1,q2⟩:=u.three;obtain ⟨g0,g1,g2⟩:=u.threeF
  cases ha:U4 s (zL p s) (zL p s).length with
  | true=>
   have HQ:Hid (Zy p s=⟨s.phase,s.basis,s.pivots⟩):=JZ (by unfold Zy;rw [ha];rfl);obtain ⟨r0,r1,r2⟩:=d.three;obtain ⟨f0,f1,f2⟩:=d.threeF;go_wp2;refine Zq Tryz.results56 Tryz.underlying29 (by kernel_rfl) rfl (((d.set_ 0 _).set_ 1 _).set_ 2 _) rfl ?_;rw [HQ.out];have k4:=((Ze.setCell d 0 (.int .i64 s.phase)).trans (Ze.setCell (d.set_ 0 (.int .i64 s.phase)) 1 (.slice A1 n1 c1))).trans (Ze.setCell ((d.set_ 0 (.int .i64 s.phase)).set_ 1 (.slice A1 n1 c1)) 2 (.int .i64 s.pivots));exact ⟨_,rfl,⟨A1,n1,c1,rfl,(V.but k4 (by decide)).monoB a8⟩,((x.setCell (p:=⟨w.heap.size+1+1,0,none⟩) (by simp;omega) _).setCell (p:=⟨w.heap.size+1+1,1,none⟩) (by simp;omega) _).setCell (p:=⟨w.heap.size+1+1,2,none⟩) (by simp;omega) _⟩
  | false=>
   have HQ:Hid (Zy p s=⟨2,s.basis,s.pivots⟩):=JZ (by unfold Zy;rw [ha];rfl)
   go_upto_region 5 with (fail)
   have aj:Bk (w7.setCell ⟨g,0,none⟩ (.int .i64 2)) g 29 [.int .i64 2,.slice A1 n1 c1,.int .i64 s.pivots]:=u.set_ 0 (.int .i64 2);have ak:=V.but (Ze.setCell u 0 (.int .i64 2)) (by decide);have m:=d.far (p:=⟨g,0,none⟩) (show w.heap.size+1+1≠g by omega) (.int .i64 2);have a9:=x.setCell (p:=⟨g,0,none⟩) (show w.heap.size≤g by omega) (.int .i64 2);clear q0 q1 q2 g0 g1 g2 u V d x;generalize w7.setCell ⟨g,0,none⟩ (.int .i64 2)=W8 at *;obtain ⟨q0,q1,q2⟩:=aj.three;obtain ⟨r0,r1,r2⟩:=m.three;obtain ⟨f0,f1,f2⟩:=m.threeF;go_wp2;refine Zq Tryz.results56 Tryz.underlying29 (by kernel_rfl) rfl (((m.set_ 0 _).set_ 1 _).set_ 2 _) rfl ?_;rw [HQ.out];have k4:=((Ze.setCell m 0 (.int .i64 2)).trans (Ze.setCell (m.set_ 0 (.int .i64 2)) 1 (.slice A1 n1 c1))).trans (Ze.setCell ((m.set_ 0 (.int .i64 2)).set_ 1 (.slice A1 n1 c1)) 2 (.int .i64 s.pivots));exact ⟨_,rfl,⟨A1,n1,c1,rfl,(ak.but k4 (by decide)).monoB a8⟩,((a9.setCell (p:=⟨w.heap.size+1+1,0,none⟩) (by simp;omega) _).setCell (p:=⟨w.heap.size+1+1,1,none⟩) (by simp;omega) _).setCell (p:=⟨w.heap.size+1+1,2,none⟩) (by simp;omega) _⟩
theorem ZI.shape {base:Nat} {w:World} {v:Value} {zs:List Int} (h:ZI base w v zs) (hp:0 < zs.length):∃g c,v= .slice (some ⟨g,0,none⟩) zs.length c∧base≤g∧g < w.heap.size∧zs.length≤c∧c≤9223372036854775807:=by
 rcases h.1.2 with ⟨rfl,e⟩ | ⟨g,cap,cur,rfl,hb,hg,hnc,hcm,hcs,htake⟩
 ·omega
 ·unfold maxLen at hcm;exact ⟨g,cap,rfl,hb,Yo hg,hnc,by omega⟩
theorem ZI.len {base:Nat} {w:World} {A:Option Addr} {n c:Nat} {zs:List Int} (h:ZI base w (.slice A n c) zs):n=zs.length:=by
 letI:Old:=⟨0⟩
 exact (Vv.of_own h.1).len
theorem ZI.at_ {base:Nat} {w:World} {g n c:Nat} {zs:List Int} (h:ZI base w (.slice (some ⟨g,0,none⟩) n c) zs) {k:Nat} {z:Int} (hz:zs[k]? =some z):
 w.cell? ⟨g,k,none⟩=some (.int .i64 z)∧w.frozen? ⟨g,k,none⟩=false∧ -9223372036854775808≤z∧z≤9223372036854775807:=by
 have hn:=h.len;obtain ⟨h1,h2⟩:=h;subst hn;obtain ⟨c1,c2⟩:=ZP h1 (j:=k) (u:= .int .i64 z) (by simp [hz]);exact ⟨c1,c2,h2 z (List.mem_of_getElem? hz)⟩
theorem ZI.base {base:Nat} {w:World} {g n c:Nat} {zs:List Int} (h:ZI base w (.slice (some ⟨g,0,none⟩) n c) zs):base≤g:=by
 have hn:=h.len;obtain ⟨h1,h2⟩:=h;subst hn;obtain ⟨_,_,h3⟩:=Z8 h1;exact h3
theorem ZI.set_ [Old] {base:Nat} {w:World} {g n c:Nat} {zs:List Int} (h:ZI base w (.slice (some ⟨g,0,none⟩) n c) zs) {k:Nat} (hk:k < zs.length) {z:Int} (h0: -9223372036854775808≤z) (h1:z≤9223372036854775807) (hO:Old.n≤base:=by first | assumption | exact Nat.zero_le _ | omega | ((first | with_reducible refine Zb.le ?_ | with_reducible refine Zb.le1 ?_ | with_reducible refine Zb.le2 ?_ | with_reducible refine Zb.le3 ?_);repeat (first | assumption | exact Zb.up (by assumption) hOl | exact Zb.up (Hid.out (by assumption)) hOl | with_reducible refine Zb.set ?_ _ _ | with_reducible refine Zb.mk_ ?_ _ | with_reducible refine Zb.dr ?_ | with_reducible refine Zb.drN ?_ | refine Zb.up (by assumption) ?_ | refine Zb.up (Hid.out (by assumption)) ?_))):
 ZI base (w.setCell ⟨g,k,none⟩ (.int .i64 z)) (.slice (some ⟨g,0,none⟩) n c) (zs.set k z)∧Ze 3 w (w.setCell ⟨g,k,none⟩ (.int .i64 z)):=by
 have hn:=h.len;obtain ⟨g1,g2⟩:=h;subst hn;have o1:=Xi g1 k (.int .i64 z) (by simpa using hk);obtain ⟨_,b0,_⟩:=Z8 g1;refine ⟨⟨by rw [List.length_set,List.map_set];exact o1,fun y hy=>?_⟩,Ze.setCell b0 k _⟩;rcases List.mem_or_eq_of_mem_set hy with hy | rfl
 ·exact g2 y hy
 ·exact ⟨h0,h1⟩
theorem ZI.others {base:Nat} {w w':World} {g:Option Nat} {v:Value} {zs:List Int} (h:ZI base w v zs) (ho:Z6 g w w') (hne:∀b,v.ownBlock=some b→some b≠g):ZI base w' v zs:=by
 refine ⟨⟨h.1.1,?_⟩,h.2⟩;rcases h.1.2 with hn | ⟨b,cap,cur,rfl,hb',hgg,rest⟩
 ·exact .inl hn
 ·exact .inr ⟨b,cap,cur,rfl,hb',(ho.2 b (Yo hgg) (hne b rfl)).trans hgg,rest⟩
def zic (n:Nat):Array Value:=madeCells (Value.cells (.int .i64 0)) (n * 1)
theorem Yff {n k:Nat} (hk:k < n):(zic n)[k]? =some (.int .i64 0):=by
 unfold zic madeCells;simp [hk,Value.cells,Nat.mod_one]
theorem ZI.zeros (w:World) (n:Nat) (hn:n≤maxLen):ZI w.heap.size (w.alloc (.cells (zic n) 3)) (.slice (some ⟨w.heap.size,0,none⟩) n n) (List.replicate n 0):=by
 have a:(zic n).size=n * 1:=size_madeCells _ _;refine ⟨⟨by simp,.inr ⟨w.heap.size,n,zic n,by simp,JY _,heap_alloc_new w _,by simp,hn,by simpa using a,?_⟩⟩,fun z hz=>?_⟩
 ·refine List.ext_getElem? fun i=>?_
  rcases JX i n with e | e
  ·have:=Yff e;simp [List.getElem?_take,e,this]
  ·rw [JU (by simp [a];omega),JU (by simp;omega)]
 ·have:=List.eq_of_mem_replicate hz;omega
theorem Zfc (n:Nat) (hn:n≤1099511627776) (w:World):
 (Instr.makeSlice 22 (.int .i64 (n:Int)) (.int .i64 (n:Int))).run Tryz.prog w= .ok (.slice (some ⟨w.heap.size,0,none⟩) n n) (w.alloc (.cells (zic n) 3)):=by
 obtain ⟨i0,hi,a,b,c⟩:=info_parts info_intT;have hb:(i0.bytes:Int) * (n:Int)≤281474976710656:=by rw [c];omega
 have hr:=run_make (P:=Tryz.prog) w 22 3 i0 _ Tryz.underlying22 hi a .i64 .i64 n n (by omega) (by omega) hb (by omega);simp only [JP,b] at hr;exact hr
def ElM [Old] (base:Nat) (w:World) (ge n:Nat) (va vr vc:Value) (M:Nat→Nat→RF) (G D:Nat→Nat) (rp cp:List Int):Prop:=
 Bk w ge 160 [.int .i64 (n:Int),va,vr,vc]∧Zde base w va n n M G D∧ZI base w vr rp∧ZI base w vc cp∧rp.length=n∧cp.length=n
theorem ElM.below [Old] {base:Nat} {w w':World} {ge n:Nat} {va vr vc:Value} {M:Nat→Nat→RF} {G D:Nat→Nat} {rp cp:List Int} (h:ElM base w ge n va vr vc M G D rp cp) (hb:Below w.heap.size w w'):ElM base w' ge n va vr vc M G D rp cp:=
 ⟨h.1.later hb,h.2.1.below hb,h.2.2.1.below hb,h.2.2.2.1.below hb,h.2.2.2.2⟩
theorem Zt.numLen [Old] {w:World} {b b':Bool} {A A':Option Addr} {n c n' c':Nat} {f:RF} (h:Zt w (.agg #[.bool b,.slice A n c,.bool b',.slice A' n' c']) f):n=f.num.ds.length:=by
 obtain ⟨_,_,_,_,_,_,hv,h1,h2⟩:=h;simp at hv;obtain ⟨_,⟨rfl,rfl,rfl⟩,_,rfl,rfl,rfl⟩:=hv;obtain ⟨e1,e2,_,_⟩:=h1.len;omega
namespace Pl
def Zse (rp cp:List Int) (M:Nat→Nat→RF) (i j:Nat):Bool:=decide (rp.getD i 0 < 0) && (decide (cp.getD j 0 < 0) && decide (0 < (M i j).num.ds.length))
theorem Zfd {l:List Int} {i:Nat} {z:Int} (h:l[i]? =some z):l.getD i 0=z:=by simp [List.getD,h]
theorem Xm {l:List Int} {i:Nat} (h:i < l.length):∃z,l[i]? =some z:=⟨l[i],JQ h⟩
theorem Yfg {x y:Int} (h1: -100≤x) (h2:x≤100) (h3: -100≤y) (h4:y≤100): -10000≤x * y∧x * y≤10000:=by
 have a:=Int.mul_nonneg (show 0≤100 - x by omega) (show 0≤100 - y by omega);have b:=Int.mul_nonneg (show 0≤100 - x by omega) (show 0≤100+y by omega);have c:=Int.mul_nonneg (show 0≤100+x by omega) (show 0≤100 - y by omega);have d:=Int.mul_nonneg (show 0≤100+x by omega) (show 0≤100+y by omega);constructor <;> grind
end Pl
theorem Zgu [Old] (base ge n:Nat) (va vr vc:Value) (M:Nat→Nat→RF) (G D:Nat→Nat) (rp cp:List Int) (i j:Nat) (w:World) (h:ElM base w ge n va vr vc M G D rp cp) (hi:i < n) (hj:j < n) (hOl:Zb w:=by (repeat (first | assumption | exact Zb.up (by assumption) hOl | exact Zb.up (Hid.out (by assumption)) hOl | with_reducible refine Zb.set ?_ _ _ | with_reducible refine Zb.mk_ ?_ _ | with_reducible refine Zb.dr ?_ | with_reducible refine Zb.drN ?_ | refine Zb.up (by assumption) ?_ | refine Zb.up (Hid.out (by assumption)) ?_))) (hO:Old.n≤base:=by first | assumption | exact Nat.zero_le _ | omega | ((first | with_reducible refine Zb.le ?_ | with_reducible refine Zb.le1 ?_ | with_reducible refine Zb.le2 ?_ | with_reducible refine Zb.le3 ?_);repeat (first | assumption | exact Zb.up (by assumption) hOl | exact Zb.up (Hid.out (by assumption)) hOl | with_reducible refine Zb.set ?_ _ _ | with_reducible refine Zb.mk_ ?_ _ | with_reducible refine Zb.dr ?_ | with_reducible refine Zb.drN ?_ | refine Zb.up (by assumption) ?_ | refine Zb.up (Hid.out (by assumption)) ?_))):
 Calls Tryz.prog 160 #[.pointer (some ⟨ge,0,none⟩),.int .i64 (i:Int),.int .i64 (j:Int)] w fun o w'=>o= .returned (.bool (Zse rp cp M i j))∧Below w.heap.size w w':=by
 have r:=hOl.le;obtain ⟨hB,hM,hR,hC,f,g⟩:=h;obtain ⟨go,co,rfl,_,_,p,q,a⟩:=hM.outer (by omega);obtain ⟨m1,m2⟩:=a i hi;obtain ⟨A1,n1,c1,A2,n2,c2,⟨x0,x1,x2,x3⟩,hf⟩:=hM.at_ hi hj;obtain ⟨l1,l2,l3,l4⟩:=hM.lt hi (by omega);have e:=hf.numLen;obtain ⟨gr,cr,rfl,_,_,k,y⟩:=hR.shape (by omega);obtain ⟨gc,cc,rfl,_,_,m,z⟩:=hC.shape (by omega);obtain ⟨zi,c⟩:=Xm (l:=rp) (i:=i) (by omega);obtain ⟨zj,d⟩:=Xm (l:=cp) (i:=j) (by omega);obtain ⟨r0,_,_,_⟩:=hR.at_ c;obtain ⟨k0,_,_,_⟩:=hC.at_ d;obtain ⟨b0,b1,b2,b3⟩:=hB.four;have b:Zse rp cp M i j=(decide (zi < 0) && (decide (zj < 0) && decide (0 < n1))):=by unfold Zse;rw [Zfd c,Zfd d,e]
 rw [b];unfold Xx at m1;have s:(i:Int) < n:=by omega
 have t:(j:Int) < n:=by omega
 rw [f] at b2 k;rw [g] at b3 m;clear b e c d hf a hM hR hC hB m2 f g;generalize G i=gi at *;generalize D i=di at *;by_cases c1':zi < 0
 ·by_cases c2':zj < 0
  ·by_cases c3':0 < n1
   ·have u:(0:Int) < n1:=(by omega);go_enter Tryz.func160,Tryz.ntmps160;go_wp2;go_ret;exact ⟨by simp [c1',c2',c3'],JR _ _⟩
   ·obtain rfl:n1=0:=by omega
    go_enter Tryz.func160,Tryz.ntmps160;go_wp2;go_ret;exact ⟨by simp,JR _ _⟩
  ·have v:0≤zj:=(by omega);go_enter Tryz.func160,Tryz.ntmps160;go_wp2;go_ret;exact ⟨by simp;intro h;omega,JR _ _⟩
 ·have x:0≤zi:=by omega
  go_enter Tryz.func160,Tryz.ntmps160;go_wp2;go_ret;exact ⟨by simp;intro h;omega,JR _ _⟩
def Ygr (V:World) (n:Nat) (s5 s6:Value) (wx:World):Prop:=
 ∃g5 g6,s5= .slice (some ⟨g5,0,none⟩) n n∧s6= .slice (some ⟨g6,0,none⟩) n n∧g5≠g6∧ZI V.heap.size wx (.slice (some ⟨g5,0,none⟩) n n) (List.replicate n 0)∧ZI V.heap.size wx (.slice (some ⟨g6,0,none⟩) n n) (List.replicate n 0)∧Below V.heap.size V wx
def Zbz (w:World) (n g5 g6:Nat) (N:Int) (wr:World):Prop:=
 ∃zs ys:List Int,zs.length=n∧ys.length=n∧(∀z∈zs,0≤z∧z≤N)∧(∀z∈ys,0≤z∧z≤N)∧ZI w.heap.size wr (.slice (some ⟨g5,0,none⟩) n n) zs∧ZI w.heap.size wr (.slice (some ⟨g6,0,none⟩) n n) ys∧Below w.heap.size w wr
theorem Zbz.mono {w wr:World} {n g5 g6:Nat} {N N':Int} (h:Zbz w n g5 g6 N wr) (hn:N≤N'):Zbz w n g5 g6 N' wr:=by
 obtain ⟨zs,ys,h1,h2,h3,h4,h5⟩:=h;exact ⟨zs,ys,h1,h2,fun z hz=>⟨(h3 z hz).1,by have:=(h3 z hz).2;omega⟩,fun z hz=>⟨(h4 z hz).1,by have:=(h4 z hz).2;omega⟩,h5⟩
theorem Zbz.below {w wr w':World} {n g5 g6:Nat} {N:Int} (h:Zbz w n g5 g6 N wr) (hb:Below wr.heap.size wr w'):Zbz w n g5 g6 N w':=by
 obtain ⟨zs,ys,h1,h2,h3,h4,h5,h6,h7⟩:=h;exact ⟨zs,ys,h1,h2,h3,h4,h5.below hb,h6.below hb,Za h7 hb h7.size⟩
def Xh (n:Nat) (rp cp:List Int) (M:Nat→Nat→RF) (i j:Nat) (s2 s3 s4 s9:Value):Prop:=
 ∃(r c b:Int) (ok:Bool),s2= .int .i64 r∧s3= .int .i64 c∧s4= .bool ok∧s9= .int .i64 b∧(ok=true→∃r' c':Nat,r=r'∧c=c'∧r' < n∧c' < n∧Zse rp cp M r' c'=true)∧
  (ok=false→∀i' j',j' < n→(i' < i∨(i'=i∧j' < j))→Zse rp cp M i' j'=false)
theorem Xh.skip {n i j:Nat} {rp cp:List Int} {M:Nat→Nat→RF} {s2 s3 s4 s9:Value} (h:Xh n rp cp M i j s2 s3 s4 s9) (ha:Zse rp cp M i j=false):Xh n rp cp M i (j+1) s2 s3 s4 s9:=by
 obtain ⟨r,c,b,ok,e2,e3,e4,e9,h1,h2⟩:=h;refine ⟨r,c,b,ok,e2,e3,e4,e9,h1,fun ho i' j' hj hl=>?_⟩;by_cases e:i'=i∧j'=j
 ·rw [e.1,e.2];exact ha
 ·exact h2 ho i' j' hj (by omega)
theorem Xh.skipT {n i j:Nat} {rp cp:List Int} {M:Nat→Nat→RF} {r c b:Int} {ok:Bool} (h:Xh n rp cp M i j (.int .i64 r) (.int .i64 c) (.bool ok) (.int .i64 b)):ok=true→Xh n rp cp M i (j+1) (.int .i64 r) (.int .i64 c) (.bool ok) (.int .i64 b):=by
 intro ht;obtain ⟨r',c',b',a,e2,e3,e4,e9,h1,h2⟩:=h;injection e4 with e4;subst e4;exact ⟨r',c',b',ok,e2,e3,rfl,e9,h1,fun ho=>by rw [ht] at ho;cases ho⟩
theorem Xh.take {n i j:Nat} {rp cp:List Int} {M:Nat→Nat→RF} {m:Int} (hi:i < n) (hj:j < n) (ha:Zse rp cp M i j=true):Xh n rp cp M i (j+1) (.int .i64 i) (.int .i64 j) (.bool true) (.int .i64 m):=
 ⟨_,_,_,_,rfl,rfl,rfl,rfl,fun _=>⟨i,j,rfl,rfl,hi,hj,ha⟩,fun ho=>by cases ho⟩
theorem Xh.row {n i:Nat} {rp cp:List Int} {M:Nat→Nat→RF} {s2 s3 s4 s9:Value} (h:Xh n rp cp M i n s2 s3 s4 s9):Xh n rp cp M (i+1) 0 s2 s3 s4 s9:=by
 obtain ⟨r,c,b,ok,e2,e3,e4,e9,h1,h2⟩:=h;exact ⟨r,c,b,ok,e2,e3,e4,e9,h1,fun ho i' j' hj hl=>h2 ho i' j' hj (by omega)⟩
def Zsf (n:Nat) (rp cp:List Int) (M:Nat→Nat→RF) (w:World) (o:Ending) (w':World):Prop:=
 ∃(r c:Int) (ok:Bool),o= .returned (.tuple #[.int .i64 r,.int .i64 c,.bool ok])∧(ok=true→∃r' c':Nat,r=r'∧c=c'∧r' < n∧c' < n∧Zse rp cp M r' c'=true)∧
  (ok=false→∀i' j',i' < n→j' < n→Zse rp cp M i' j'=false)∧Below w.heap.size w w'
theorem Zsg [Old] (base ge n:Nat) (va vr vc:Value) (M:Nat→Nat→RF) (G D:Nat→Nat) (rp cp:List Int) (w:World) (h:ElM base w ge n va vr vc M G D rp cp) (hn:n≤7) (hOl:Zb w:=by (repeat (first | assumption | exact Zb.up (by assumption) hOl | exact Zb.up (Hid.out (by assumption)) hOl | with_reducible refine Zb.set ?_ _ _ | with_reducible refine Zb.mk_ ?_ _ | with_reducible refine Zb.dr ?_ | with_reducible refine Zb.drN ?_ | refine Zb.up (by assumption) ?_ | refine Zb.up (Hid.out (by assumption)) ?_))) (hO:Old.n≤base:=by first | assumption | exact Nat.zero_le _ | omega | ((first | with_reducible refine Zb.le ?_ | with_reducible refine Zb.le1 ?_ | with_reducible refine Zb.le2 ?_ | with_reducible refine Zb.le3 ?_);repeat (first | assumption | exact Zb.up (by assumption) hOl | exact Zb.up (Hid.out (by assumption)) hOl | with_reducible refine Zb.set ?_ _ _ | with_reducible refine Zb.mk_ ?_ _ | with_reducible refine Zb.dr ?_ | with_reducible refine Zb.drN ?_ | refine Zb.up (by assumption) ?_ | refine Zb.up (Hid.out (by assumption)) ?_))):
 Calls Tryz.prog 141 #[.pointer (some ⟨ge,0,none⟩)] w (Zsf n rp cp M w):=by
 have ar:=hOl.le;have HE:=JZ h;have HB:=JZ h.1;have ai:=Zfc n (by omega);obtain ⟨b0,b1,b2,b3⟩:=h.1.four;clear h b1 b2 b3;go_enter Tryz.func141,Tryz.ntmps141
 go_upto_region 1 with (fail)
 go_cut [5,6] (fun s5 s6 wx=>Ygr w n s5 s6 wx)
 case first=>
  have C0:=Zm b0;have C:=Zf w;clear b0;refine YC 12 (.go 0 (.go 1 (.go 2 (.go 3 (.go 5 (.go 6 (.go 7 (.go 8 (.fork 4 (.go 10 (.go 9 (.go 11 .done))) 9 (.go 4 (.go 10 (.go 11 .done)))))))))))) (by kernel_rfl) (by kernel_rfl) ?_;repeat ((first | (refine ZJ (v:=?_) rfl rfl rfl ?_ ?_;rotate_left;(· (intro _ u;go_simp;(try go_bits);(try with_reducible rfl)))) | (refine ZT (v:=?_) rfl rfl rfl ?_ ?_;rotate_left;(· (intro _ u;go_simp;(try go_bits);(try with_reducible rfl)))) | refine ZU rfl rfl rfl ?_ | refine ZK rfl rfl rfl (by assumption) ?_);(try simp only [Act.put,pu1,pu2,pu3,pu4,pu5,pu6]))
  refine WI rfl rfl (fun KR hKR=>?_) (fun KR hKR=>?_)
  ·have a:=ZI.zeros w.drew n (by unfold maxLen;omega);have s:=Zc w.drew (.cells (zic n) 3);obtain ⟨W5,H⟩:∃W5,w.drew.alloc (.cells (zic n) 3)=W5:=⟨_,rfl⟩;have V:W5.heap.size=w.drew.heap.size+1:=(by rw [← H];simp);rw [H] at a s;have E:=Za C s C.size;have L:=C.size;go_simp;refine hKR.out _ _ (Or.inr E) ?_;clear hKR KR H;(try simp only [Act.put,pu1,pu2,pu3,pu4,pu5,pu6]);replace a:=a.monoB L;repeat ((first | (refine ZJ (v:=?_) rfl rfl rfl ?_ ?_;rotate_left;(· (intro _ u;go_simp;(try go_bits);(try with_reducible rfl)))) | (refine ZT (v:=?_) rfl rfl rfl ?_ ?_;rotate_left;(· (intro _ u;go_simp;(try go_bits);(try with_reducible rfl)))) | refine ZU rfl rfl rfl ?_ | refine ZK rfl rfl rfl (by assumption) ?_);(try simp only [Act.put,pu1,pu2,pu3,pu4,pu5,pu6]))
   have f:=ZI.zeros W5 n (by unfold maxLen;omega);have t:=Zc W5 (.cells (zic n) 3);obtain ⟨W6,I⟩:∃W6,W5.alloc (.cells (zic n) 3)=W6:=⟨_,rfl⟩;have X:W6.heap.size=W5.heap.size+1:=(by rw [← I];simp);rw [I] at f t;have F:=Za E t E.size;have N:=E.size;refine ZB rfl rfl (fun KR hKR=>?_);go_simp;refine hKR.out _ _ (Or.inr F) ?_;clear hKR KR I;(try simp only [Act.put,pu1,pu2,pu3,pu4,pu5,pu6]);replace a:=a.below t;replace f:=f.monoB N;rw [V] at f;repeat ((first | (refine ZJ (v:=?_) rfl rfl rfl ?_ ?_;rotate_left;(· (intro _ u;go_simp;(try go_bits);(try with_reducible rfl)))) | (refine ZT (v:=?_) rfl rfl rfl ?_ ?_;rotate_left;(· (intro _ u;go_simp;(try go_bits);(try with_reducible rfl)))) | refine ZU rfl rfl rfl ?_ | refine ZK rfl rfl rfl (by assumption) ?_);(try simp only [Act.put,pu1,pu2,pu3,pu4,pu5,pu6]))
   refine Yl ?_;go_wp2_with fail
   go_meet
   exact ⟨_,_,rfl,rfl,by first | omega | (simp at *;omega),a,f,F⟩
  ·have f:=ZI.zeros w.drew n (by unfold maxLen;omega);have t:=Zc w.drew (.cells (zic n) 3);obtain ⟨W6,I⟩:∃W6,w.drew.alloc (.cells (zic n) 3)=W6:=⟨_,rfl⟩;have X:W6.heap.size=w.drew.heap.size+1:=(by rw [← I];simp);rw [I] at f t;have F:=Za C t C.size;have N:=C.size;go_simp;refine hKR.out _ _ (Or.inr F) ?_;clear hKR KR I;(try simp only [Act.put,pu1,pu2,pu3,pu4,pu5,pu6]);replace f:=f.monoB N;have a:=ZI.zeros W6 n (by unfold maxLen;omega);have s:=Zc W6 (.cells (zic n) 3);obtain ⟨W5,H⟩:∃W5,W6.alloc (.cells (zic n) 3)=W5:=⟨_,rfl⟩;have V:W5.heap.size=W6.heap.size+1:=(by rw [← H];simp);rw [H] at a s;have E:=Za F s F.size;have L:=F.size;refine ZB rfl rfl (fun KR hKR=>?_);go_simp;refine hKR.out _ _ (Or.inr E) ?_;clear hKR KR H;(try simp only [Act.put,pu1,pu2,pu3,pu4,pu5,pu6]);replace f:=f.below s;replace a:=a.monoB L;rw [X] at a;repeat ((first | (refine ZJ (v:=?_) rfl rfl rfl ?_ ?_;rotate_left;(· (intro _ u;go_simp;(try go_bits);(try with_reducible rfl)))) | (refine ZT (v:=?_) rfl rfl rfl ?_ ?_;rotate_left;(· (intro _ u;go_simp;(try go_bits);(try with_reducible rfl)))) | refine ZU rfl rfl rfl ?_ | refine ZK rfl rfl rfl (by assumption) ?_);(try simp only [Act.put,pu1,pu2,pu3,pu4,pu5,pu6]))
   refine Yl ?_;go_wp2_with fail
   go_meet
   exact ⟨_,_,rfl,rfl,by first | omega | (simp at *;omega),a,f,E⟩
 case rest=>
  clear ai b0;obtain ⟨g5,g6,rfl,rfl,au,a,f,hb⟩:=hcut;have a5:Zbz w n g5 g6 0 wc:=⟨_,_,by simp,by simp,fun z hz=>by have:=List.eq_of_mem_replicate hz;omega,fun z hz=>by have:=List.eq_of_mem_replicate hz;omega,a,f,hb⟩;obtain ⟨b0,_,_,_⟩:=(HB.out.later hb).four;clear a f hb;go_wp2;clear b0
  go_loopw [27] (fun x wr=>∃i:Nat,i≤n∧x= .int .i64 i∧Zbz w n g5 g6 (8 * i) wr) (fun x _=>n - (intOf x).toNat)
  case atStart=>exact ⟨0,by omega,rfl,a5⟩
  case round=>
   clear a5;obtain ⟨i,hi,rfl,hc⟩:=hrel;rcases JX i n with hil | hil
   ·have aj:(i:Int) < n:=(by omega);have d:Below w.heap.size w wr:=(by obtain ⟨_,_,_,_,_,_,_,_,h⟩:=hc;exact h);obtain ⟨b0,_,_,_⟩:=(HB.out.later d).four;clear d;go_wp2;clear b0
    go_loopw [34] (fun x wr=>∃j:Nat,j≤n∧x= .int .i64 j∧Zbz w n g5 g6 (8 * i+j) wr) (fun x _=>n - (intOf x).toNat)
    case atStart=>exact ⟨0,by omega,rfl,by simpa using hc⟩
    case round=>
     clear hc;obtain ⟨j,hj,rfl,hc⟩:=hrel;rcases JX j n with hjl | hjl
     ·have ak:(j:Int) < n:=(by omega);have d:Below w.heap.size w wr:=(by obtain ⟨_,_,_,_,_,_,_,_,h⟩:=hc;exact h);have O:=HE.out.below d;have al:=Zb.up d hOl;clear d;go_wp2_with fail;refine (Zgu base ge n va vr vc M G D rp cp i j _ O hil hjl).mono ?_;rintro _ w1 ⟨rfl,T⟩;have o:=hc.below T;clear hc T O
      cases hact:Zse rp cp M i j
      ·clear hact;go_wp2;go_roundw
       case rel=>exact ⟨j+1,by omega,by go_num,o.mono (by omega)⟩
       case measure=>simp [intOf];omega
      ·clear hact;obtain ⟨zs,ys,ag,ah,J,K,a,f,d⟩:=o;obtain ⟨z,hz⟩:=Xm (l:=zs) (i:=i) (by omega);obtain ⟨y,hy⟩:=Xm (l:=ys) (i:=j) (by omega);obtain ⟨x0,f0,_,_⟩:=a.at_ hz;have P:=J z (List.mem_of_getElem? hz);have R:=K y (List.mem_of_getElem? hy);obtain ⟨Z,_⟩:=a.set_ (k:=i) (z:=z+1) (by omega) (by omega) (by omega);have S:=f.others (Z6.of_set (g:=g5) (i:=i) (v:= .int .i64 (z+1)) (w:=w1)) (fun b hb e=>by simp [Value.ownBlock] at hb;injection e with e;omega);have am:=a.base;have an:=f.base;have Y:=d.setCell (p:=⟨g5,i,none⟩) am (.int .i64 (z+1));clear a f d;have a6:=P.1;have a7:=P.2;have a8:=R.1;have a9:=R.2;have aa:∀x∈zs.set i (z+1),0≤x∧x≤8 * (i:Int)+((j+1:Nat):Int):=fun x hx=>by
        rcases List.mem_or_eq_of_mem_set hx with hx | rfl
        ·have:=J x hx;omega
        ·omega
       have ab:∀x∈ys.set j (y+1),0≤x∧x≤8 * (i:Int)+((j+1:Nat):Int):=fun x hx=>by
        rcases List.mem_or_eq_of_mem_set hx with hx | rfl
        ·have:=K x hx;omega
        ·omega
       have ao:=JZ aa;have ap:=JZ ab;clear J K aa ab P R
       go_upto_region 10 with (fail)
       clear x0 f0;generalize w1.setCell ⟨g5,i,none⟩ (.int .i64 (z+1))=W9 at *;obtain ⟨x0,f0,_,_⟩:=S.at_ hy;obtain ⟨a4,_⟩:=S.set_ (k:=j) (z:=y+1) (by omega) (by omega) (by omega);have a0:=Z.others (Z6.of_set (g:=g6) (i:=j) (v:= .int .i64 (y+1)) (w:=W9)) (fun b hb e=>by simp [Value.ownBlock] at hb;injection e with e;omega);have a1:=Y.setCell (p:=⟨g6,j,none⟩) an (.int .i64 (y+1));clear Z S Y;go_wp2;go_roundw
       case rel=>exact ⟨j+1,by omega,by go_num,_,_,by rw [List.length_set];exact ag,by rw [List.length_set];exact ah,ao.out,ap.out,a0,a4,a1⟩
       case measure=>simp [intOf];omega
     ·obtain rfl:n=j:=by omega
      have o:Zbz w n g5 g6 (8 * ((i+1:Nat):Int)) wr:=hc.mono (by omega);clear hc;go_wp2;go_roundw
      case rel=>exact ⟨i+1,by omega,by go_num,o⟩
      case measure=>simp [intOf];omega
   ·obtain rfl:n=i:=by omega
    have o:Zbz w n g5 g6 100 wr:=hc.mono (by omega);have d:Below w.heap.size w wr:=(by obtain ⟨_,_,_,_,_,_,_,_,h⟩:=hc;exact h);obtain ⟨b0,_,_,_⟩:=(HB.out.later d).four;clear d hc;have q:Xh n rp cp M 0 0 (.int .i64 0) (.int .i64 0) (.bool false) (.int .i64 0):=⟨0,0,0,false,rfl,rfl,rfl,rfl,(fun h=>by cases h),fun _ i' j' _ h=>by omega⟩;go_wp2;clear b0
    go_loopw [2,3,4,9,59] (fun s2 s3 s4 s9 x wr=>∃i:Nat,i≤n∧x= .int .i64 i∧Xh n rp cp M i 0 s2 s3 s4 s9∧Zbz w n g5 g6 100 wr) (fun _ _ _ _ x _=>n - (intOf x).toNat)
    case atStart=>exact ⟨0,by omega,rfl,q,o⟩
    case round=>
     clear o q;obtain ⟨i,hi,rfl,q,hc⟩:=hrel;rcases JX i n with hil | hil
     ·have aj:(i:Int) < n:=(by omega);have d:Below w.heap.size w wr:=(by obtain ⟨_,_,_,_,_,_,_,_,h⟩:=hc;exact h);obtain ⟨b0,_,_,_⟩:=(HB.out.later d).four;clear d;go_wp2;clear b0
      go_loopw [2,3,4,9,66] (fun s2 s3 s4 s9 x wr=>∃j:Nat,j≤n∧x= .int .i64 j∧Xh n rp cp M i j s2 s3 s4 s9∧Zbz w n g5 g6 100 wr) (fun _ _ _ _ x _=>n - (intOf x).toNat)
      case atStart=>exact ⟨0,by omega,rfl,q,hc⟩
      case round=>
       clear hc q;obtain ⟨j,hj,rfl,q,hc⟩:=hrel;rcases JX j n with hjl | hjl
       ·have ak:(j:Int) < n:=(by omega);have d:Below w.heap.size w wr:=(by obtain ⟨_,_,_,_,_,_,_,_,h⟩:=hc;exact h);have O:=HE.out.below d;have al:=Zb.up d hOl;have ac:=JZ q;obtain ⟨r,c,b,ok,rfl,rfl,rfl,rfl,A,B⟩:=q;have ad:=JZ A;have ae:=JZ B;clear d A B;go_wp2_with fail;refine (Zgu base ge n va vr vc M G D rp cp i j _ O hil hjl).mono ?_;rintro _ w1 ⟨rfl,T⟩;have o:=hc.below T;clear hc T O
        cases hact:Zse rp cp M i j
        ·have U:Xh n rp cp M i (j+1) (.int .i64 r) (.int .i64 c) (.bool ok) (.int .i64 b):=Xh.skip ac.out hact;have a2:=JZ U;clear hact U;go_wp2;go_roundw
         case rel=>exact ⟨j+1,by omega,by go_num,a2.out,o⟩
         case measure=>simp [intOf];omega
        ·have aq:=JZ (Xh.skipT ac.out);have af:Hid (∀m,Xh n rp cp M i (j+1) (.int .i64 i) (.int .i64 j) (.bool true) (.int .i64 m)):=JZ fun m=>Xh.take hil hjl hact
         clear hact;have a3:=JZ o;obtain ⟨zs,ys,ag,ah,J,K,a,f,d⟩:=o;obtain ⟨z,hz⟩:=Xm (l:=zs) (i:=i) (by omega);obtain ⟨y,hy⟩:=Xm (l:=ys) (i:=j) (by omega);obtain ⟨x0,_,_,_⟩:=a.at_ hz;obtain ⟨y0,_,_,_⟩:=f.at_ hy;have P:=J z (List.mem_of_getElem? hz);have R:=K y (List.mem_of_getElem? hy);obtain ⟨a6,a7⟩:=P;obtain ⟨a8,a9⟩:=R;obtain ⟨av,aw⟩:=Yfg (x:=z - 1) (y:=y - 1) (by omega) (by omega) (by omega) (by omega);clear a f d J K hz hy
         go_upto_region 21 with (fail)
         have C0:=Zm x0;have C1:=Zm y0;have C:=Zf w1;clear x0 y0;refine Zp 12 [0,1,2,3,4,5,6,7,8,9,10,11] (by kernel_rfl) (by kernel_rfl) ?_;repeat ((first | (refine Zd (v:=?_) rfl rfl rfl ?_ ?_;rotate_left;(· (intro _ u;go_simp;(try go_bits);(try with_reducible rfl)))) | (refine Zj (v:=?_) rfl rfl rfl ?_ ?_;rotate_left;(· (intro _ u;go_simp;(try go_bits);(try with_reducible rfl)))) | refine Zk rfl rfl rfl ?_);(try simp only [Act.put,pu1,pu2,pu3,pu4,pu5,pu6]))
         refine Zx ?_;clear C0 C1;generalize (z - 1) * (y - 1)=mm at *
         cases ok
         ·go_wp2;go_roundw
          case rel=>exact ⟨j+1,by omega,by go_num,af.out _,a3.out.below (Zf _)⟩
          case measure=>simp [intOf];omega
         ·by_cases ax:mm < b
          ·go_wp2;go_roundw
           case rel=>exact ⟨j+1,by omega,by go_num,af.out _,a3.out.below (Zf _)⟩
           case measure=>simp [intOf];omega
          ·go_wp2;go_roundw
           case rel=>exact ⟨j+1,by omega,by go_num,aq.out rfl,a3.out.below (Zf _)⟩
           case measure=>simp [intOf];omega
       ·obtain rfl:n=j:=by omega
        have U:=Xh.row q;clear q;obtain ⟨r,c,b,ok,rfl,rfl,rfl,rfl,A,B⟩:=U;have a2:Hid (Xh n rp cp M (i+1) 0 (.int .i64 r) (.int .i64 c) (.bool ok) (.int .i64 b)):=JZ ⟨r,c,b,ok,rfl,rfl,rfl,rfl,A,B⟩;clear A B;go_wp2;go_roundw
        case rel=>exact ⟨i+1,by omega,by go_num,a2.out,hc⟩
        case measure=>simp [intOf];omega
     ·obtain rfl:n=i:=by omega
      obtain ⟨r,c,b,ok,rfl,rfl,rfl,rfl,A,B⟩:=q;have ad:=JZ A;have ae:=JZ B;have d:Below w.heap.size w wr:=(by obtain ⟨_,_,_,_,_,_,_,_,h⟩:=hc;exact h);clear A B hc;go_wp2;(try simp only [Exit.inBlock,Exit.then]);refine bodyPost_ret (results_tmp3 rfl _ _ _) rfl ?_;exact ⟨r,c,ok,rfl,ad.out,fun h i' j' h1 h2=>ae.out h i' j' h2 (.inl h1),d⟩
theorem Zpz (T:TypeId) (w:World) (n:Nat) (hn:n≤maxLen):(w.alloc (.cells (zvc n) T)).ownsRow w.heap.size T 1 (.slice (some ⟨w.heap.size,0,none⟩) n n) n (List.replicate n (.slice none 0 0)):=by
 have a:(zvc n).size=n * 1:=size_madeCells _ _;refine ⟨by simp,.inr ⟨w.heap.size,n,zvc n,by simp,JY _,heap_alloc_new w _,by simp,hn,by simpa using a,?_⟩⟩;refine List.ext_getElem? fun i=>?_
 rcases JX i n with e | e
 ·have:=Yau e;simp [List.getElem?_take,e,this]
 ·rw [JU (by simp [a];omega),JU (by simp;omega)]
theorem Zvr (n:Nat) (hn:n≤1099511627776) (w:World):
 (Instr.makeSlice 118 (.int .i64 (n:Int)) (.int .i64 (n:Int))).run Tryz.prog w= .ok (.slice (some ⟨w.heap.size,0,none⟩) n n) (w.alloc (.cells (zvc n) 23)):=by
 obtain ⟨i0,hi,a,b,c⟩:=info_parts info_rowT;have hb:(i0.bytes:Int) * (n:Int)≤281474976710656:=by rw [c];omega
 have hr:=run_make (P:=Tryz.prog) w 118 23 i0 _ Tryz.underlying118 hi a .i64 .i64 n n (by omega) (by omega) hb (by omega);simp only [JP,b] at hr;exact hr
def MkR (U:World) (n:Nat) (D:Nat→Prop) (s29 s31 s33 s34 s5:Value) (w:World):Prop:=
 Below U.heap.size U w∧(D 2→∃g,s29= .slice (some ⟨g,0,none⟩) n n∧w.ownsRow U.heap.size 23 1 (.slice (some ⟨g,0,none⟩) n n) n (List.replicate n (.slice none 0 0)))∧
  (D 4→∃g,s31= .slice (some ⟨g,0,none⟩) n n∧g < w.heap.size∧ZI U.heap.size w (.slice (some ⟨g,0,none⟩) n n) (List.replicate n 0))∧
  (D 6→∃g,s33= .slice (some ⟨g,0,none⟩) n n∧g < w.heap.size∧ZI U.heap.size w (.slice (some ⟨g,0,none⟩) n n) (List.replicate n 0))∧
  (D 7→(D 2∧D 4∧D 6)∧s34= .agg #[.int .i64 (n:Int),s29,s31,s33])∧(D 8→∃g,s5= .pointer (some ⟨g,0,none⟩)∧U.heap.size≤g∧Bk w g 160 [.int .i64 0,.slice none 0 0,.slice none 0 0,.slice none 0 0])∧(D 4→D 6→s31≠s33)
theorem MkR.later {U w w':World} {n:Nat} {D:Nat→Prop} {s1 s2 s3 s4 s5:Value} (h:MkR U n D s1 s2 s3 s4 s5 w) (hb:Below w.heap.size w w'):MkR U n D s1 s2 s3 s4 s5 w':=by
 obtain ⟨h0,h1,h2,h3,h4,h5,h6⟩:=h;have hs:=hb.size;refine ⟨Za h0 hb h0.size,fun d=>?_,fun d=>?_,fun d=>?_,h4,fun d=>?_,h6⟩
 ·obtain ⟨g,e,k⟩:=h1 d;exact ⟨g,e,own_below k hb⟩
 ·obtain ⟨g,e,k,l⟩:=h2 d;exact ⟨g,e,by omega,l.below hb⟩
 ·obtain ⟨g,e,k,l⟩:=h3 d;exact ⟨g,e,by omega,l.below hb⟩
 ·obtain ⟨g,e,k,l⟩:=h5 d;exact ⟨g,e,k,l.later hb⟩
theorem MkR.set2 {U w:World} {n:Nat} {D:Nat→Prop} {s1 s2 s3 s4 s5:Value} (h:MkR U n D s1 s2 s3 s4 s5 w) (hn:n≤maxLen) (hd:¬D 2):MkR U n (fun k=>D k∨k=2) (.slice (some ⟨w.heap.size,0,none⟩) n n) s2 s3 s4 s5 (w.alloc (.cells (zvc n) 23)):=by
 have hz:=Zpz 23 w n hn;obtain ⟨h0,h1,h2,h3,h4,h5,h6⟩:=h.later (Zc w (.cells (zvc n) 23));exact ⟨h0,fun _=>⟨_,rfl,Xe hz h.1.size⟩,fun d=>h2 (d.resolve_right (by decide)),fun d=>h3 (d.resolve_right (by decide)),fun d=>absurd (d.resolve_right (by decide)) (fun h7=>hd (h4 h7).1.1),fun d=>h5 (d.resolve_right (by decide)),fun d e=>h6 (d.resolve_right (by decide)) (e.resolve_right (by decide))⟩
theorem MkR.set4 {U w:World} {n:Nat} {D:Nat→Prop} {s1 s2 s3 s4 s5:Value} (h:MkR U n D s1 s2 s3 s4 s5 w) (hn:n≤maxLen) (hd:¬D 4):MkR U n (fun k=>D k∨k=4) s1 (.slice (some ⟨w.heap.size,0,none⟩) n n) s3 s4 s5 (w.alloc (.cells (zic n) 3)):=by
 have hz:=ZI.zeros w n hn;obtain ⟨h0,h1,h2,h3,h4,h5,h6⟩:=h.later (Zc w (.cells (zic n) 3));exact ⟨h0,fun d=>h1 (d.resolve_right (by decide)),fun _=>⟨_,rfl,by simp,hz.monoB h.1.size⟩,fun d=>h3 (d.resolve_right (by decide)),fun d=>absurd (d.resolve_right (by decide)) fun h7=>hd (h4 h7).1.2.1,fun d=>h5 (d.resolve_right (by decide)),fun _ e he=>by
  obtain ⟨g,e1,e2,_⟩:=h.2.2.2.1 (e.resolve_right (by decide));rw [e1] at he;injection he with he;injection he with he;injection he with he;omega⟩
theorem MkR.set6 {U w:World} {n:Nat} {D:Nat→Prop} {s1 s2 s3 s4 s5:Value} (h:MkR U n D s1 s2 s3 s4 s5 w) (hn:n≤maxLen) (hd:¬D 6):MkR U n (fun k=>D k∨k=6) s1 s2 (.slice (some ⟨w.heap.size,0,none⟩) n n) s4 s5 (w.alloc (.cells (zic n) 3)):=by
 have hz:=ZI.zeros w n hn;obtain ⟨h0,h1,h2,h3,h4,h5,h6⟩:=h.later (Zc w (.cells (zic n) 3));exact ⟨h0,fun d=>h1 (d.resolve_right (by decide)),fun d=>h2 (d.resolve_right (by decide)),fun _=>⟨_,rfl,by simp,hz.monoB h.1.size⟩,fun d=>absurd (d.resolve_right (by decide)) fun h7=>hd (h4 h7).1.2.2,fun d=>h5 (d.resolve_right (by decide)),fun e _ he=>by
  obtain ⟨g,e1,e2,_⟩:=h.2.2.1 (e.resolve_right (by decide));rw [e1] at he;injection he with he;injection he with he;injection he with he;omega⟩
theorem MkR.set8 {U w:World} {n:Nat} {D:Nat→Prop} {s1 s2 s3 s4 s5:Value} (h:MkR U n D s1 s2 s3 s4 s5 w):MkR U n (fun k=>D k∨k=8) s1 s2 s3 s4 (.pointer (some ⟨w.heap.size,0,none⟩)) (w.alloc (.cells #[.int .i64 0,.slice none 0 0,.slice none 0 0,.slice none 0 0] 160)):=by
 have hz:=Bk.new w 160 [.int .i64 0,.slice none 0 0,.slice none 0 0,.slice none 0 0];obtain ⟨h0,h1,h2,h3,h4,h5,h6⟩:=h.later (Zc w (.cells #[.int .i64 0,.slice none 0 0,.slice none 0 0,.slice none 0 0] 160));exact ⟨h0,fun d=>h1 (d.resolve_right (by decide)),fun d=>h2 (d.resolve_right (by decide)),fun d=>h3 (d.resolve_right (by decide)),fun d=>by
  obtain ⟨⟨a,b,c⟩,e⟩:=h4 (d.resolve_right (by decide));exact ⟨⟨.inl a,.inl b,.inl c⟩,e⟩,fun _=>⟨_,rfl,h.1.size,hz⟩,fun d e=>h6 (d.resolve_right (by decide)) (e.resolve_right (by decide))⟩
theorem MkR.set7 {U w:World} {n:Nat} {D:Nat→Prop} {s1 s2 s3 s4 s5:Value} (h:MkR U n D s1 s2 s3 s4 s5 w) (d2:D 2) (d4:D 4) (d6:D 6):MkR U n (fun k=>D k∨k=7) s1 s2 s3 (.agg #[.int .i64 (n:Int),s1,s2,s3]) s5 w:=by
 obtain ⟨h0,h1,h2,h3,h4,h5,h6⟩:=h;exact ⟨h0,fun d=>h1 (d.resolve_right (by decide)),fun d=>h2 (d.resolve_right (by decide)),fun d=>h3 (d.resolve_right (by decide)),fun _=>⟨⟨.inl d2,.inl d4,.inl d6⟩,rfl⟩,fun d=>h5 (d.resolve_right (by decide)),fun d e=>h6 (d.resolve_right (by decide)) (e.resolve_right (by decide))⟩
theorem Bk.but4 [Old] {w:World} {g:Nat} {t:TypeId} {a b c d:Value} (h:Bk w g t [a,b,c,d]) (x y z u:Value) (hg:Old.n≤g:=by first | assumption | exact Nat.zero_le _ | omega | ((first | with_reducible refine Zb.le ?_ | with_reducible refine Zb.le1 ?_ | with_reducible refine Zb.le2 ?_ | with_reducible refine Zb.le3 ?_);repeat (first | assumption | exact Zb.up (by assumption) hOl | exact Zb.up (Hid.out (by assumption)) hOl | with_reducible refine Zb.set ?_ _ _ | with_reducible refine Zb.mk_ ?_ _ | with_reducible refine Zb.dr ?_ | with_reducible refine Zb.drN ?_ | refine Zb.up (by assumption) ?_ | refine Zb.up (Hid.out (by assumption)) ?_))):Ze t w ((((w.setCell ⟨g,0,none⟩ x).setCell ⟨g,1,none⟩ y).setCell ⟨g,2,none⟩ z).setCell ⟨g,3,none⟩ u):=
 (((Ze.setCell (hg:=hg) h 0 x).trans (Ze.setCell (hg:=hg) (h.set_ 0 x) 1 y)).trans (Ze.setCell (hg:=hg) ((h.set_ 0 x).set_ 1 y) 2 z)).trans (Ze.setCell (hg:=hg) (((h.set_ 0 x).set_ 1 y).set_ 2 z) 3 u)
def Yfh (U:World) (n:Nat) (s5:Value) (wx:World):Prop:=
 ∃ge ga gr gc,s5= .pointer (some ⟨ge,0,none⟩)∧gr≠gc∧Bk wx ge 160 [.int .i64 (n:Int),.slice (some ⟨ga,0,none⟩) n n,.slice (some ⟨gr,0,none⟩) n n,.slice (some ⟨gc,0,none⟩) n n]∧
  wx.ownsRow U.heap.size 23 1 (.slice (some ⟨ga,0,none⟩) n n) n (List.replicate n (.slice none 0 0))∧ZI U.heap.size wx (.slice (some ⟨gr,0,none⟩) n n) (List.replicate n 0)∧ZI U.heap.size wx (.slice (some ⟨gc,0,none⟩) n n) (List.replicate n 0)∧Below U.heap.size U wx∧U.heap.size≤ge
namespace Pl
def Zmf (n i:Nat) (G D:Nat→Nat):List Value:=(List.range n).map fun r=>if r < i then Xx n G D r else .slice none 0 0
theorem Zln {n:Nat} {G D:Nat→Nat}:Zmf n 0 G D=List.replicate n (.slice none 0 0):=by
 refine List.ext_getElem? fun r=>?_
 rcases JX r n with e | e
 ·simp [Zmf,e]
 ·rw [JU (by simp [Zmf];exact e),JU (by simp;exact e)]
theorem XT {n i:Nat} {G D:Nat→Nat}:(Zmf n i G D).length=n:=by simp [Zmf]
theorem Zqa {n:Nat} {G D:Nat→Nat}:Zmf n n G D=Zbx n n G D:=by
 refine List.ext_getElem? fun r=>?_
 rcases JX r n with e | e
 ·rw [X3 e];simp [Zmf,e]
 ·rw [JU (by rw [XT];exact e),JU (by rw [YM];exact e)]
theorem Zqb {n i:Nat} {G D:Nat→Nat} (h:i < n):(Zmf n i G D)[i]? =some (.slice none 0 0):=by simp [Zmf,h]
theorem Zqc {n i g d:Nat} {G D:Nat→Nat} (h:i < n):(Zmf n i G D).set i (.slice (some ⟨g,0,none⟩) n d)=Zmf n (i+1) (WF G i g) (WF D i d):=by
 refine List.ext_getElem? fun r=>?_
 rcases JX r n with e | e
 ·rw [List.getElem?_set];by_cases g:i=r
  ·subst g;rw [if_pos rfl,if_pos (by rw [XT];exact e)];simp [Zmf,e,Xx,WF]
  ·rw [if_neg g];by_cases e2:r < i
   ·simp [Zmf,e,e2,show r < i+1 by omega,Xx,WF,show r≠i by omega]
   ·simp [Zmf,e,e2,show ¬r < i+1 by omega]
 ·rw [JU (by rw [List.length_set,XT];exact e),JU (by rw [XT];exact e)]
def Znv (n i:Nat):List Int:=(List.range n).map fun s=>if s < i then -1 else 0
theorem Xt {n i:Nat}:(Znv n i).length=n:=by simp [Znv]
theorem Zio {n i:Nat} (h:i < n):(Znv n i)[i]? =some 0:=by simp [Znv,h]
theorem Zlo {n:Nat}:Znv n 0=List.replicate n 0:=by
 refine List.ext_getElem? fun r=>?_
 rcases JX r n with e | e
 ·simp [Znv,e]
 ·rw [JU (by rw [Xt];exact e),JU (by simp;exact e)]
theorem Zzg {n i:Nat} (h:i < n):(Znv n i).set i (-1)=Znv n (i+1):=by
 refine List.ext_getElem? fun r=>?_
 rcases JX r n with e | e
 ·rw [List.getElem?_set];by_cases g:i=r
  ·subst g;rw [if_pos rfl,if_pos (by rw [Xt];exact e)];simp [Znv,e]
  ·rw [if_neg g];by_cases e2:r < i
   ·simp [Znv,e,e2,show r < i+1 by omega]
   ·simp [Znv,e,e2,show ¬r < i+1 by omega]
 ·rw [JU (by rw [List.length_set,Xt];exact e),JU (by rw [Xt];exact e)]
theorem Zzh {n:Nat}:Znv n n=List.replicate n (-1):=by
 refine List.ext_getElem? fun r=>?_
 rcases JX r n with e | e
 ·simp [Znv,e]
 ·rw [JU (by rw [Xt];exact e),JU (by simp;exact e)]
theorem Zbb {n:Nat}:List.replicate n zeroF=rfL n fun _=>zeroF:=by
 refine List.ext_getElem? fun i=>?_
 rcases JX i n with e | e
 ·rw [Yu e];simp [e]
 ·rw [JU (by simp;exact e),JU (by rw [Zw];exact e)]
end Pl
def Ydh [Old] (U:World) (ge ga gr gc n i:Nat) (wr:World):Prop:=
 ∃G D:Nat→Nat,Bk wr ge 160 [.int .i64 (n:Int),.slice (some ⟨ga,0,none⟩) n n,.slice (some ⟨gr,0,none⟩) n n,.slice (some ⟨gc,0,none⟩) n n]∧wr.ownsRow U.heap.size 23 1 (.slice (some ⟨ga,0,none⟩) n n) n (Zmf n i G D)∧
  (∀r,r < i→Yd U.heap.size wr (Xx n G D r) (rfL n fun _=>zeroF))∧(∀r s,r < i→s < i→G r=G s→r=s)∧ZI U.heap.size wr (.slice (some ⟨gr,0,none⟩) n n) (Znv n i)∧ZI U.heap.size wr (.slice (some ⟨gc,0,none⟩) n n) (Znv n i)∧Below U.heap.size U wr
end Go.Proofs.YtncmobkhenfhpaaGreat
