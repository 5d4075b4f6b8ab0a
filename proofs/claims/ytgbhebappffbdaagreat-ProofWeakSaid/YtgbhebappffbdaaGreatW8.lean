/- Lemmas of the claim; no condition. -/
import Derived.Test.YtgbhebappffbdaaGreatW6
set_option linter.all false
set_option maxRecDepth 100000
set_option maxHeartbeats 40000000
namespace Go.Proofs.YtgbhebappffbdaaGreat
open Go.RowKit
open Pl
attribute [local go_sem ↓] Go.wp_at_zero Go.wp_at_succ
theorem pz:(∀(α:Type) (l:List α) (i:Nat) (h:i < l.toArray.size),l.toArray[i]=l[i]'(by simpa using h))∧(∀(α:Type) (a:α) (xs:List α) (h:0 < (a::xs).length),(a::xs)[0]=a)∧∀(α:Type) (a:α) (xs:List α) (i:Nat) (h:i+1 < (a::xs).length),(a::xs)[i+1]=xs[i]'(by simpa using h):=⟨fun _ _ _ h=>pu4 h,fun _ _ _ h=>pu5 _ _ h,fun _ _ _ _ h=>pu6 _ _ _ h⟩
def qx:=And.intro pu pz
theorem info_rowT:(Tryz.prog.info? 23).map (fun i=>(i.zero,i.size,i.bytes))=some (some (.slice none 0 0),1,24):=by kernel_rfl
theorem Vz {ops:Array Oper} {rest:List Oper} {o:Oper} {a:Act} {Q:Exit→Act→World→Prop} (hgd:o.guard=none) (s x:Operand)
 (ho:o.op= .call { callee:= .builtin .append,args:=#[s,x],argTypes:=#[113,113] })
 (W:World) (base:Nat) (v:Value) (m:Nat) (xs:List Value) (hs:a.eval s=v) (hown:W.ownsRow base 23 1 v m xs) (A:Option Addr) (n c:Nat)
 (hx:a.eval x= .slice (some ⟨W.heap.size,0,none⟩) 1 1) (hn:m+1≤1099511627776) (hbase:base≤W.heap.size)
 (h:∀v' w',w'.ownsRow base 23 1 v' (m+1) (xs++[.slice A n c])→Zg 23 W w'→Below base W w'→wpList Tryz.prog ops Q rest (a.put o.dst v') w'):
 wpList Tryz.prog ops Q (o::rest) a (W.alloc (.cells #[.slice A n c] 23)):=by
 obtain ⟨i0,hi,b,d,e⟩:=info_parts info_rowT;exact XM hgd s x 113 ho 23 i0 _ 1 24 Tryz.underlying113 hi b d e rfl (by decide) W base v m xs [.slice A n c] hs hown hx rfl (by intro u hu;simp at hu;subst hu;rfl) (by unfold maxLen;omega) (by omega) hbase h
def Zcf (base:Nat) (w:World) (v:Value) (m n:Nat) (M:Mx):Prop:=∃vs:Nat→Value,w.ownsRow base 23 1 v m ((List.range m).map vs)∧∀k,k < m→Y1 w (vs k) (ZQ n (M k))
theorem Zcf.cols {base:Nat} {w:World} {v:Value} {m n:Nat} {M:Mx} (h:Zcf base w v m n M):Zgk w v m n M:=by
 obtain ⟨vs,h1,h2⟩:=h;exact ⟨vs,UD.of_own h1,h2⟩
theorem Zcf.nil (base:Nat) (w:World) (n:Nat) (M:Mx):Zcf base w (.slice none 0 0) 0 n M:=⟨fun _=> .slice none 0 0,World.ownsRow_nil _ _ _ _,fun k hk=>absurd hk (by omega)⟩
theorem Zcf.below {base:Nat} {w w':World} {v:Value} {m n:Nat} {M:Mx} (h:Zcf base w v m n M) (hb:Below w.heap.size w w'):Zcf base w' v m n M:=by
 obtain ⟨vs,h1,h2⟩:=h;exact ⟨vs,own_below h1 hb,fun k hk=>(h2 k hk).below hb⟩
theorem Zdy {ops:Array Oper} {rest:List Oper} {o:Oper} {a:Act} {Q:Exit→Act→World→Prop} (hgd:o.guard=none) (s x:Operand)
 (ho:o.op= .call { callee:= .builtin .append,args:=#[s,x],argTypes:=#[113,113] })
 (W:World) (base:Nat) (v:Value) (m n:Nat) (M:Mx) (hs:a.eval s=v) (hown:Zcf base W v m n M) (A:Option Addr) (l c:Nat) (hf:Y1 W (.slice A l c) (ZQ n (M m)))
 (hx:a.eval x= .slice (some ⟨W.heap.size,0,none⟩) 1 1) (hn:m+1≤1099511627776) (hbase:base≤W.heap.size)
 (h:∀v' w',Zcf base w' v' (m+1) n M→Zg 23 W w'→Below base W w'→wpList Tryz.prog ops Q rest (a.put o.dst v') w'):
 wpList Tryz.prog ops Q (o::rest) a (W.alloc (.cells #[.slice A l c] 23)):=by
 obtain ⟨vs,h1,h2⟩:=hown;refine Vz hgd s x ho W base v m _ hs h1 A l c hx hn hbase fun v' w' g1 g2 g3=>h v' w' ⟨fun k=>if k=m then .slice A l c else vs k,?_,fun k hk=>?_⟩ g2 g3
 ·rw [List.range_succ,List.map_append];have:(List.range m).map (fun k=>if k=m then Value.slice A l c else vs k)=(List.range m).map vs:=List.map_congr_left fun k hk=>by
   have:k < m:=List.mem_range.1 hk;rw [if_neg (by omega)]
  rw [this];simpa using g1
 ·by_cases e:k=m
  ·subst e;simp only [if_true];exact hf.but g2 (by decide) (by decide)
  ·simp only [if_neg e];exact (h2 k (by omega)).but g2 (by decide) (by decide)
theorem Ziy {ops:Array Oper} {Q:Exit→Act→World→Prop} {S:World→Prop} {q:Nat} {i:Nat} {is:List Nat} {o:Oper} {a:Act} (hoi:ops[i]? =some o) (hfl:XG ops q i=false) (hgd:o.guard=none) (hl0:q≤i) (s x:Operand)
 (ho:o.op= .call { callee:= .builtin .append,args:=#[s,x],argTypes:=#[113,113] })
 (W:World) (base:Nat) (v:Value) (m n:Nat) (M:Mx) (hs:a.eval s=v) (hown:Zcf base W v m n M) (A:Option Addr) (l c:Nat) (hf:Y1 W (.slice A l c) (ZQ n (M m)))
 (hx:a.eval x= .slice (some ⟨W.heap.size,0,none⟩) 1 1) (hn:m+1≤1099511627776) (hbase:base≤W.heap.size)
 (h:∀v' w',Zcf base w' v' (m+1) n M→Zg 23 W w'→Below base W w'→XP Tryz.prog ops Q S q is (a.put o.dst v') w'):
 XP Tryz.prog ops Q S q (i::is) a (W.alloc (.cells #[.slice A l c] 23)):=by
 obtain ⟨vs,h1,h2⟩:=hown;obtain ⟨i0,hi,b,d,f⟩:=info_parts info_rowT;refine VX hoi hfl hgd hl0 s x 113 ho 23 i0 _ 1 24 Tryz.underlying113 hi b d f rfl (by decide) W base v m _ [.slice A l c] hs h1 hx rfl (by intro u hu;simp at hu;subst hu;rfl) (by unfold maxLen;omega) (by omega) hbase fun v' w' g1 g2 g3=>h v' w' ⟨fun k=>if k=m then .slice A l c else vs k,?_,fun k hk=>?_⟩ g2 g3
 ·rw [List.range_succ,List.map_append];have:(List.range m).map (fun k=>if k=m then Value.slice A l c else vs k)=(List.range m).map vs:=List.map_congr_left fun k hk=>by
   have:k < m:=List.mem_range.1 hk;rw [if_neg (by omega)]
  rw [this];simpa using g1
 ·by_cases e:k=m
  ·subst e;simp only [if_true];exact hf.but g2 (by decide) (by decide)
  ·simp only [if_neg e];exact (h2 k (by omega)).but g2 (by decide) (by decide)
theorem Zfc {ops:Array Oper} {rest:List Oper} {o:Oper} {a:Act} {Q:Exit→Act→World→Prop} (hgd:o.guard=none) (s x:Operand)
 (ho:o.op= .call { callee:= .builtin .append,args:=#[s,x],argTypes:=#[113,113] })
 (W:World) (base:Nat) (v:Value) (m n:Nat) (M:Mx) (G C:Nat→Nat) (hs:a.eval s=v) (hown:UL base W v m n M G C) (g c:Nat) (hf:ZU base W (.slice (some ⟨g,0,none⟩) n c) (ZQ n (M m))) (hne:∀r,r < m→G r≠g)
 (hx:a.eval x= .slice (some ⟨W.heap.size,0,none⟩) 1 1) (hn:m+1≤1099511627776) (hbase:base≤W.heap.size)
 (h:∀v' w',UL base w' v' (m+1) n M (fun r=>if r=m then g else G r) (fun r=>if r=m then c else C r)→Zg 23 W w'→Below base W w'→wpList Tryz.prog ops Q rest (a.put o.dst v') w'):
 wpList Tryz.prog ops Q (o::rest) a (W.alloc (.cells #[.slice (some ⟨g,0,none⟩) n c] 23)):=by
 obtain ⟨h1,h2,h3⟩:=hown;have b:∀r,X7 n (fun r=>if r=m then g else G r) (fun r=>if r=m then c else C r) r=if r=m then .slice (some ⟨g,0,none⟩) n c else X7 n G C r:=fun r=>by
  unfold X7;by_cases e:r=m
  ·simp only [if_pos e]
  ·simp only [if_neg e]
 refine Vz hgd s x ho W base v m _ hs h1 _ n c hx hn hbase fun v' w' g1 g2 g3=>h v' w' ⟨?_,fun r hr=>?_,fun r t hr ht e=>?_⟩ g2 g3
 ·have:Zey (m+1) n (fun r=>if r=m then g else G r) (fun r=>if r=m then c else C r)=Zey m n G C++[.slice (some ⟨g,0,none⟩) n c]:=by
   unfold Zey;rw [List.range_succ,List.map_append];have e1:(List.range m).map (X7 n (fun r=>if r=m then g else G r) (fun r=>if r=m then c else C r))=(List.range m).map (X7 n G C):=List.map_congr_left fun k hk=>by
    have:k < m:=List.mem_range.1 hk;rw [b,if_neg (by omega)]
   rw [e1,List.map_cons,b,if_pos rfl,List.map_nil]
  rw [this];exact g1
 ·rw [b];split
  ·rename_i e;subst e;exact hf.but g2 (by decide) (by decide)
  ·exact (h2 r (by omega)).but g2 (by decide) (by decide)
 ·by_cases e1:r=m <;> by_cases e2:t=m
  ·omega
  ·simp only [if_pos e1,if_neg e2] at e;exact absurd e.symm (hne t (by omega))
  ·simp only [if_neg e1,if_pos e2] at e;exact absurd e (hne r (by omega))
  ·simp only [if_neg e1,if_neg e2] at e;exact h3 r t (by omega) (by omega) e
theorem Ybf (v:Value) (m:Nat) (M:Mx) (w:World) (h:Zgk w v m m M) (hm:m≤1000):
 Calls Tryz.prog 86 #[v] w fun e w'=>∃v',e= .returned v'∧Zgk w' v' m m (fun r k=>M k r)∧Below w.heap.size w w':=by
 obtain ⟨A,c,rfl,G,H⟩:=h.shape;go_enter Tryz.func86,Tryz.ntmps86;go_wp2
 go_loopw [3,4] (fun s i wr=>∃r:Nat,r≤m∧i= .int .i64 r∧Zcf w.heap.size wr s r m (fun r k=>M k r)∧Below w.heap.size w wr) (fun _ i _=>m - (intOf i).toNat)
 case atStart=>exact ⟨0,by omega,rfl,Zcf.nil _ _ _ _,JR _ _⟩
 case round=>
  obtain ⟨r,hr,rfl,hO,d⟩:=hrel;obtain ⟨wO,rfl⟩:∃x,x=wr:=⟨_,rfl⟩;rcases JX r m with hrm | hrm
  ·go_wp2
   go_loopw [5,6] (fun s i wx=>∃k:Nat,k≤m∧i= .int .i64 k∧ZU wO.heap.size wx s (ZQ k fun k=>M k r)∧Below wO.heap.size wO wx) (fun _ i _=>m - (intOf i).toNat)
   case atStart=>exact ⟨0,by omega,rfl,ZU.nil _ _,JR _ _⟩
   case round=>
    obtain ⟨k,hk,rfl,hF,f⟩:=hrel;have u:=f.size;rcases JX k m with hkm | hkm
    ·obtain ⟨b,I,B,cB,b',D,A1,n1,c1,A2,n2,c2,rfl,J,z,p,q,_,⟨q0,q1,q2,q3⟩,t⟩:=h.at_ (Za d f d.size) hkm hrm;have HF:=JZ hF;have y:=JZ t;have n:(ZQ k fun k=>M k r).length+1≤1099511627776:=(by rw [Zc];omega);have E:(k:Int) < m:=(by omega);have F:(r:Int) < m:=(by omega);clear hF t;go_wp2_with (at_builtin;refine Yw rfl (.tmp 19) (.tmp 27) rfl wr wO.heap.size u5 (ZQ k fun k=>M k r) rfl HF.out _ _ A1 A2 n1 c1 n2 c2 (canF (M k r)) y.out rfl n u ?_);intro v' w4 a C l;rw [V8 k fun k=>M k r] at a;go_wp2;go_roundw
     case rel=>exact ⟨k+1,by omega,by go_num,a,f.trans l⟩
     case measure=>simp [intOf];omega
    ·obtain rfl:k=m:=by omega
     have HO:=JZ (hO.below f);have j:=hF.frs;obtain ⟨B,cB,rfl,p,q⟩:=j.shape;have HF:=JZ j;have g:=Za d f d.size;have o:=g.size;clear hO hF j;go_wp2_with (at_builtin;refine Zdy rfl (.tmp 29) (.tmp 31) rfl wr w.heap.size u3 r k (fun r k=>M k r) rfl HO.out B _ cB HF.out rfl (by omega) o ?_);intro v' w4 a C l;go_wp2;go_roundw
     case rel=>exact ⟨r+1,by omega,by go_num,a,g.trans l⟩
     case measure=>simp [intOf];omega
  ·obtain rfl:r=m:=by omega
   go_wp2;go_ret;exact ⟨_,rfl,hO.cols,d⟩
theorem Zsi (v:Value) (p:LPd) (K r:Nat) (w:World) (h:LpM w v p) (ok:p.Ok K) (hK:K≤34359738368) (hr:r < p.right.length) (hm:p.right.length≤64):
 Calls Tryz.prog 60 #[v,.int .i64 (-1 - (r:Int))] w fun e w'=>∃v',e= .returned v'∧ZU w.heap.size w' v' (ZQ p.right.length (p.col (-1 - (r:Int))))∧Below w.heap.size w w':=by
 obtain ⟨A,n,c,A',n',c',a0,a,a1,rfl,hc,hv,J⟩:=id h;obtain ⟨W,hW,hX,l⟩:=Yc w (.slice A n c) (.slice A' n' c') (.slice a0 a a1);obtain ⟨x0,x1,x2⟩:=hX.three;obtain ⟨r1,r2,r3⟩:=J.len;obtain ⟨f,hf⟩:=ZH (fs:=p.right) (i:=r) hr;have Y:=(ok.2.1 r f hf).sh hK;have HQ:=JZ (ZF hf);have F:Hid (p.col (-1 - (r:Int))=fun i=>if i=r then (if qs (qAt p.right i) < 0 then -1 else 1) else 0):=JZ LPd.col_neg;have HF:=JZ hf;rw [← r1];have d:r < a:=by omega
 have ab:(r:Int) < a:=by omega
 have aa:a≤64:=by omega
 generalize hj: -1 - (r:Int)=j at *;have ac:j < 0:=by omega
 have ad: -1 - j=(r:Int):=by omega
 clear hf hm r1 hr ok hc hv h hj;go_enter Tryz.func60,Tryz.ntmps60;go_wp2_with fail;clear hW;refine (Zhv a _ (by omega)).mono ?_;rw [Zhy];rintro _ w1 ⟨v1,rfl,e1,o⟩;obtain ⟨g,cg,rfl,ae,af,a2,ag⟩:=e1.shape (by rw [Zc];omega);rw [Zc] at e1 a2 ⊢;go_wp2_with fail;refine (Yl 1 _ (by omega) (by omega)).mono ?_;rw [show ((1:Int):Rat)=1 from rfl];rintro _ w2 ⟨v2,rfl,e2,s⟩;have u:=e1.below s;have x:=e2.frac;generalize D:canF 1=q1 at *;obtain ⟨E,l9,k9,E',L,M,rfl,_,_⟩:=id x;obtain ⟨_,_,_,_,⟨N,O,P,R⟩,⟨f0,f1,f2,f3⟩,_⟩:=u.at_ (ZE d)
 go_upto_region 6 with (fail)
 obtain ⟨B,S⟩:=u.set_ (k:=r) (by rw [Zc];exact d) x;rw [← D,XT d,D] at B;have t:=Za o s o.size;have m:=Zx (Za l t l.size) (show w.heap.size≤g by have:=l.size;omega) (r * 4) (r * 4+1) (r * 4+2) (r * 4+3) (.bool q1.num.neg) (.slice E l9 k9) (.bool q1.den.neg) (.slice E' L M);have G:=S.bk ((hX.later o).later s) (by decide);clear N O P R f0 f1 f2 f3 S u e1 o s t e2 x x0 x1 x2 hX D;generalize (((w2.setCell ⟨g,r * 4,none⟩ (.bool q1.num.neg)).setCell ⟨g,r * 4+1,none⟩ (.slice E l9 k9)).setCell ⟨g,r * 4+2,none⟩ (.bool q1.den.neg)).setCell ⟨g,r * 4+3,none⟩ (.slice E' L M)=W3 at *;obtain ⟨x0,x1,x2⟩:=G.three;obtain ⟨b,ah,B1,n1,k1,B2,n2,k2,rfl,ai,⟨a3,a4,a5,a6⟩,T⟩:=J.elem m HF.out;go_wp2_with fail;refine (Z4 _ f _ T Y).mono ?_;rintro _ w4 ⟨rfl,C⟩;have y:=B.below C;have z:=Za m C m.size;clear a3 a4 a5 a6 T x0 x1 x2 G B m C;by_cases hq:qs f.q < 0
 ·have HC:Hid (∀i,i < a→(if i=r then (-1:Rat) else if i=r then 1 else 0)=p.col j i):=JZ fun i _=>by
   rw [F.out];by_cases e:i=r
   ·simp only [if_pos e];rw [e,HQ.out,if_pos hq]
   ·simp only [if_neg e]
  go_wp2_with fail;refine (Yl (-1) _ (by omega) (by omega)).mono ?_;rw [show ((-1:Int):Rat)= -1 from rfl];rintro _ w6 ⟨v6,rfl,e6,V⟩;have H:=y.below V;have I:=e6.frac;generalize X:canF (-1)=q6 at *;obtain ⟨E6,l6,k6,a7,a8,a9,rfl,_,_⟩:=id I;obtain ⟨_,_,_,_,⟨N,O,P,R⟩,⟨f0,f1,f2,f3⟩,_⟩:=H.at_ (ZE d);go_wp2;obtain ⟨U,aj⟩:=H.set_ (k:=r) (by rw [Zc];exact d) I;rw [← X,XT d,X,ZO HC.out] at U;have Z:=Zx (Za z V z.size) (show w.heap.size≤g by have:=l.size;omega) (r * 4) (r * 4+1) (r * 4+2) (r * 4+3) (.bool q6.num.neg) (.slice E6 l6 k6) (.bool q6.den.neg) (.slice a7 a8 a9);go_ret;obtain ⟨cs,ho,hf⟩:=U;exact ⟨_,rfl,⟨cs,Y4 ho l.size,hf⟩,Z⟩
 ·have HC:Hid (∀i,i < a→(if i=r then (1:Rat) else 0)=p.col j i):=JZ fun i _=>by
   rw [F.out];by_cases e:i=r
   ·simp only [if_pos e];rw [e,HQ.out,if_neg hq]
   ·simp only [if_neg e]
  go_wp2;go_ret;rw [ZO HC.out] at y;obtain ⟨cs,ho,hf⟩:=y;exact ⟨_,rfl,⟨cs,Y4 ho l.size,hf⟩,z⟩
theorem Zcg (v:Value) (p:LPd) (K:Nat) (j:Int) (w:World) (h:LpM w v p) (ok:p.Ok K) (hK:K≤34359738368) (hin:p.In) (hj0: -(p.right.length:Int)≤j) (hj1:j < p.cols.length) (hm:p.right.length≤64):
 Calls Tryz.prog 60 #[v,.int .i64 j] w fun e w'=>∃v',e= .returned v'∧ZU w.heap.size w' v' (ZQ p.right.length (p.col j))∧Below w.heap.size w w':=by
 rcases Int.lt_or_le j 0 with h0 | h0
 ·obtain ⟨r,rfl⟩:∃r:Nat,j= -1 - (r:Int):=⟨(-1 - j).toNat,by omega⟩;exact Zsi v p K r w h ok hK (by omega) hm
 ·obtain ⟨r,rfl⟩:=JT h0;exact Zia v p K r w h ok hK hin (by omega) hm
namespace Pl
structure LSt where
 phase:Int
 basis:List Int
 pivots:Int
def LSt.In (p:LPd) (s:LSt):Prop:=∀(i:Nat) (z:Int),s.basis[i]? =some z→ -(p.right.length:Int)≤z∧z < p.cols.length
def LSt.at_ (s:LSt) (i:Nat):Int:=s.basis.getD i 0
def LSt.mat (p:LPd) (s:LSt):Mx:=fun i=>p.col (s.at_ i)
theorem LSt.at_eq {s:LSt} {i:Nat} {z:Int} (h:s.basis[i]? =some z):s.at_ i=z:=by simp [LSt.at_,List.getD,h]
end Pl
def StM (w:World) (v:Value) (s:LSt):Prop:=∃A n c,v= .agg #[.int .i64 s.phase,.slice A n c,.int .i64 s.pivots]∧Xq w (.slice A n c) s.basis
theorem StM.below {w w':World} {v:Value} {s:LSt} (h:StM w v s) (hb:Below w.heap.size w w'):StM w' v s:=by
 obtain ⟨A,n,c,h1,h2⟩:=h;exact ⟨A,n,c,h1,h2.below hb⟩
theorem YT (w:World) (x y z:Value):∃W,w.alloc (.cells #[x,y,z] 29)=W∧Bk W w.heap.size 29 [x,y,z]∧Below w.heap.size w W:=⟨_,rfl,Bk.new w _ [x,y,z],Zi w _⟩
theorem Xq.len {w:World} {A:Option Addr} {n c:Nat} {zs:List Int} (h:Xq w (.slice A n c) zs):n=zs.length∧n≤c∧c≤9223372036854775807:=by
 obtain ⟨a,cap,h1,h2,h3⟩:=h.shape;injection h1 with e1 e2 e3;subst e2 e3;exact ⟨rfl,h2,h3⟩
theorem Zch (v1 v2:Value) (p:LPd) (s:LSt) (K:Nat) (w:World) (h:LpM w v1 p) (h2:StM w v2 s) (ok:p.Ok K) (hK:K≤34359738368) (hin:p.In) (hs:s.In p) (hm:p.right.length≤64) (hl:s.basis.length≤1000):
 Calls Tryz.prog 84 #[v1,v2] w fun e w'=>∃v',e= .returned v'∧Zgk w' v' s.basis.length p.right.length (s.mat p)∧Below w.heap.size w w':=by
 obtain ⟨A,n,c,A',n',c',q,r,t,rfl,hc,hv,hr⟩:=id h;obtain ⟨Ab,nb,cb,rfl,hI⟩:=id h2;obtain ⟨W,hW,v,f⟩:=Yc w (.slice A n c) (.slice A' n' c') (.slice q r t);obtain ⟨W1,J,b,g⟩:=YT W (.int .i64 s.phase) (.slice Ab nb cb) (.int .i64 s.pivots);have hX:=v.later g;have a:=Za f g f.size;obtain ⟨b1,b2,b3⟩:=hI.len;have B:W.heap.size=w.heap.size+1:=by rw [← hW];simp
 rw [B] at b;have C:=JZ h;have D:=JZ ok;have E:=JZ hin;have F:=JZ hs;have L:=JZ b1;rw [← b1];have M:nb≤1000:=by omega
 have HI:=JZ hI;obtain ⟨x0,x1,x2⟩:=hX.three;obtain ⟨y0,y1,y2⟩:=b.three;clear h h2 ok hin hs hc hv hr b1 hl hI v f g;go_enter Tryz.func84,Tryz.ntmps84;go_wp2;clear hW J x0 x1 x2 y0 y1 y2
 go_loopw [5,6] (fun u i wr=>∃k:Nat,k≤nb∧i= .int .i64 k∧Below w.heap.size w wr∧Bk wr w.heap.size 26 [.slice A n c,.slice A' n' c',.slice q r t]∧Bk wr (w.heap.size+1) 29 [.int .i64 s.phase,.slice Ab nb cb,.int .i64 s.pivots]∧Zcf w.heap.size wr u k p.right.length (s.mat p)) (fun _ i _=>nb - (intOf i).toNat)
 case atStart=>exact ⟨0,by omega,rfl,a,hX,b,Zcf.nil _ _ _ _⟩
 case round=>
  clear a hX b;obtain ⟨k,hk,rfl,a,hX,hS,hO⟩:=hrel;obtain ⟨x0,x1,x2⟩:=hX.three;obtain ⟨y0,y1,y2⟩:=hS.three;rcases JX k nb with hkl | hkl
  ·obtain ⟨bb,bo,z,rfl,hz,j,z0,z1⟩:=(HI.out.below a).at_ hkl;have HZ:Hid (s.mat p k=p.col z):=JZ (by unfold LSt.mat;rw [LSt.at_eq j]);obtain ⟨i0,i1⟩:=F.out k z j;have N:(k:Int) < nb:=(by omega);clear j;go_wp2_with fail;have C0:=Zl x0;have C1:=Zl x1;have C2:=Zl x2;have D1:=Zl y1;have E1:=Zl hz;have b:=Zj wr;clear x0 x1 x2 y0 y1 y2 hz;refine Zn 8 [0,1,2,3,4,5,6,7,8,9,10] (by kernel_rfl) (by kernel_rfl) ?_;repeat ((first|(first|refine Zb (v:=?_) rfl rfl rfl ?_ ?_ |refine Zd (v:=?_) rfl rfl rfl ?_ ?_);rotate_left;·(intro _ _;go_simp;(try go_bits);(try with_reducible rfl))|refine Ze rfl rfl rfl ?_);(try simp only [qx]))
   refine Zf rfl rfl (fun _ kq=>?_);go_simp;(with_reducible refine (Zcg _ p K z _ ((C.out.below a).below b) D.out hK E.out i0 i1 hm).mono ?_);rw [← HZ.out];rintro _ w5 ⟨v5,rfl,e5,x⟩;have d:=Za b x b.size;obtain ⟨Ae,ce,rfl,_,_⟩:=e5.frs.shape;have HF:=JZ e5.frs;have HO:=JZ (hO.below d);have G:w.heap.size≤w5.heap.size:=(by have:=a.size;have:=d.size;omega);clear e5;refine kq.out _ _ (.inr d) ?_;clear kq;(try simp only [qx]);refine Zf rfl rfl (fun _ kq=>?_);go_simp;refine kq.out _ _ (.inl (by decide)) ?_;clear kq;(try simp only [qx]);refine Ziy rfl rfl rfl (by decide) (.tmp 14) (.tmp 22) rfl w5 w.heap.size u5 k p.right.length (s.mat p) rfl HO.out Ae _ ce HF.out rfl (by omega) G ?_;intro v' w6 l m y;(try simp only [qx]);refine Zf rfl rfl (fun _ kq=>?_);go_simp;refine kq.out _ _ (.inl (by decide)) ?_;clear kq;(try simp only [qx]);refine Zv ?_;have H:=m.bk (hX.later d) (by decide);have I:=m.bk (hS.later d) (by decide);have o:=(Za a d a.size).trans y;clear C0 C1 C2 D1 E1 hX hS a b d x hO HO HF m y;go_wp2;go_roundw
   case rel=>exact ⟨k+1,by omega,by go_num,o,H,I,l⟩
   case measure=>simp [intOf];omega
  ·obtain rfl:k=nb:=by omega
   go_wp2;go_ret;exact ⟨_,rfl,hO.cols,a⟩
namespace Pl
def Zjy (m:Nat) (cols:Mx) (b:Nat→Rat):List RF:=match YS m cols b with | some x=>ZQ m x | none=>[]
theorem WR {m:Nat} {cols:Mx} {b x:Nat→Rat} (h:YS m cols b=some x):Zjy m cols b=ZQ m x:=by unfold Zjy;rw [h]
theorem Zdz {m:Nat} {cols:Mx} {b:Nat→Rat} (h:YS m cols b=none):Zjy m cols b=[]:=by unfold Zjy;rw [h]
theorem Ybg {M:Mx} {m k:Nat} (h:gj M m k=none):∀d,gj M m (k+d)=none
 | 0=>h
 | d+1=>by rw [← Nat.add_assoc];unfold gj;rw [Ybg h d]
theorem Zsj {m k:Nat} {cols:Mx} {b:Nat→Rat} {M:Mx} (hk:k < m) (h:gj (UH m cols b) m k=some M) (hf:Zdh M k m=none):YS m cols b=none:=by
 have h1:gj (UH m cols b) m (k+1)=none:=by unfold gj;rw [h];show Vt M k m=none;unfold Vt;rw [hf]
 have h2:=Ybg h1 (m - (k+1));rw [show k+1+(m - (k+1))=m by omega] at h2;unfold YS;rw [h2];rfl
theorem Zsk {m:Nat} {cols:Mx} {b:Nat→Rat} {M:Mx} (h:gj (UH m cols b) m m=some M):YS m cols b=some fun k=>M k m:=by unfold YS;rw [h];rfl
theorem Yki {m k t:Nat} {A M:Mx} (h:gj A m k=some M) (hf:Zdh M k m=some t):gj A m (k+1)=some (Yb (scaleTo (swapM M k t) k (m+1) (swapM M k t k k)) k m m):=by
 unfold gj;rw [h];show Vt M k m=_;unfold Vt;rw [hf]
theorem Ykj {k m K:Nat} (h:k < m):5 * (5^k * K)≤5^m * K:=by
 have h1:5^(k+1)≤5^m:=Nat.pow_le_pow_right (by decide) h;have h2:=JS K h1;rw [Nat.pow_succ] at h2;grind
end Pl
theorem Zfd (v1 v2:Value) (m:Nat) (cols:Mx) (rs:List RF) (K:Nat) (w:World) (h1:Zgk w v1 m m cols) (h2:Y1 w v2 rs) (hl:rs.length=m) (hc:∀r c,r < m→c < m→Sz K (cols c r)) (hr:RsL K rs) (hK:1≤K) (hs:5^m * K≤8589934592) (hm:m≤1000):
 Calls Tryz.prog 83 #[v1,v2] w fun e w'=>∃v',e= .returned (.tuple #[v',.bool (YS m cols (qAt rs)).isSome])∧ZU w.heap.size w' v' (Zjy m cols (qAt rs))∧Below w.heap.size w w':=by
 obtain ⟨A,c,rfl,e6,e7⟩:=h1.shape;obtain ⟨Ar,cr,rfl,dj,eb⟩:=h2.shape;rw [hl] at dj h2 ⊢;have cx:Hid (MB m (m+1) K (UH m cols (qAt rs))):=JZ (Yly hc fun r _=>hr.qAt hK r);have cy:=JZ hr;have HL:=JZ hl;have HS:=JZ hs;have cz:Hid (K≤8589934592):=JZ (by have:=JS K (Nat.pow_le_pow_right (show 0 < 5 by decide) (Nat.zero_le m));simp at this;omega);have H1:=JZ h1;have H2:=JZ h2;clear hc hr hl hs h1 h2;generalize hb:qAt rs=b at *;have HB:=JZ hb;clear hb;go_enter Tryz.func83,Tryz.ntmps83;go_wp2
 go_loopw [7,8] (fun s i wr=>∃(r:Nat) (G C:Nat→Nat),r≤m∧i= .int .i64 r∧Below w.heap.size w wr∧UL w.heap.size wr s r (m+1) (UH m cols b) G C) (fun _ i _=>m - (intOf i).toNat)
 case atStart=>exact ⟨0,fun _=>0,fun _=>0,by omega,rfl,JR _ _,UL.nil _ _ _ _ _ _⟩
 case round=>
  obtain ⟨r,G,C,hr,rfl,d,hM⟩:=hrel;obtain ⟨wO,rfl⟩:∃x,x=wr:=⟨_,rfl⟩;rcases JX r m with hrm | hrm
  ·go_wp2
   go_loopw [9,10] (fun s i wx=>∃k:Nat,k≤m∧i= .int .i64 k∧ZU wO.heap.size wx s (ZQ k (UH m cols b r))∧Below wO.heap.size wO wx) (fun _ i _=>m - (intOf i).toNat)
   case atStart=>exact ⟨0,by omega,rfl,ZU.nil _ _,JR _ _⟩
   case round=>
    obtain ⟨k,hk,rfl,hF,l⟩:=hrel;have ay:=l.size;rcases JX k m with a8 | a8
    ·obtain ⟨bb,ec,B,cB,b',cf,A1,n1,c1,A2,n2,c2,rfl,ed,a0,dz,e0,_,⟨q0,q1,q2,q3⟩,ak⟩:=H1.out.at_ (Za d l d.size) a8 hrm;have HF:=JZ hF;have a7:=JZ ak;have P:(ZQ k (UH m cols b r)).length+1≤1099511627776:=(by rw [Zc];omega);have HE:Hid (canF (cols k r)=canF (UH m cols b r k)):=JZ (by unfold UH;rw [if_pos a8]);have az:(k:Int) < m:=(by omega);have d0:(r:Int) < m:=(by omega);clear hF ak;go_wp2_with (at_builtin;refine Yw rfl (.tmp 33) (.tmp 41) rfl wr wO.heap.size u9 (ZQ k (UH m cols b r)) rfl HF.out _ _ A1 A2 n1 c1 n2 c2 (canF (cols k r)) a7.out rfl P ay ?_);intro v' w4 H ds bh;rw [HE.out,V8] at H;go_wp2;go_roundw
     case rel=>exact ⟨k+1,by omega,by go_num,H,l.trans bh⟩
     case measure=>simp [intOf];omega
    ·obtain rfl:k=m:=by omega
     obtain ⟨f,hf⟩:=ZH (fs:=rs) (i:=r) (by rw [HL.out];exact hrm);obtain ⟨b',cf,B1,n1,k1,B2,n2,k2,rfl,_,⟨q0,q1,q2,q3⟩,ak⟩:=H2.out.elem (Za d l d.size) hf;have d1:f.Sh:=(cy.out r f hf).sh (by have:=cz.out;omega);have HE:Hid (canF f.q=canF (UH k cols b r k)):=JZ (by unfold UH;rw [if_neg (by omega),← HB.out,ZF hf]);have d0:(r:Int) < k:=(by omega);clear hf;go_wp2_with fail;refine (Xn _ f _ ak d1).mono ?_;rw [HE.out];rintro _ w5 ⟨v5,rfl,e5,n⟩;have y:=Za l n l.size;have bj:=y.size;have HF:=JZ (hF.below n);have a7:=JZ e5.frac;have P:(ZQ k (UH k cols b r)).length+1≤1099511627776:=(by rw [Zc];omega);generalize hQ:canF (UH k cols b r k)=Q at *;obtain ⟨E,l9,k9,E',a3,a4,rfl,_,_⟩:=id a7.out;clear hF ak q0 q1 q2 q3 e5 l;go_wp2_with (at_builtin;refine Yw rfl (.tmp 44) (.tmp 50) rfl w5 wO.heap.size u9 (ZQ k (UH k cols b r)) rfl HF.out _ _ E E' l9 k9 a3 a4 Q a7.out rfl P bj ?_);intro v' w6 I dt cq;rw [← hQ,V8] at I;clear hQ;have ac:=y.trans cq;obtain ⟨g,cg,rfl,ee,ef,dk,eg⟩:=I.shape (by rw [Zc];omega);rw [Zc] at I dk;have HM:=JZ (hM.below ac);have o:=Za d ac d.size;have bk:=o.size;have d2:Hid (ZU w.heap.size w6 (.slice (some ⟨g,0,none⟩) (k+1) cg) (ZQ (k+1) (UH k cols b r))):=JZ (by obtain ⟨cs,ho,hf⟩:=I;exact ⟨cs,Y4 ho d.size,hf⟩);have d3:Hid (∀s,s < r→G s≠g):=JZ fun s hs=>by have:=(hM.lt hs (by omega)).2.1;omega
     clear hM I y ac n cq dt;rw [Zc];go_wp2_with (at_builtin;refine Zfc rfl (.tmp 43) (.tmp 52) rfl w6 w.heap.size u7 r (k+1) (UH k cols b) G C rfl HM.out g cg d2.out d3.out rfl (by omega) bk ?_);intro v' w7 bi ei du;go_wp2;go_roundw
     case rel=>exact ⟨r+1,_,_,by omega,by go_num,o.trans du,bi⟩
     case measure=>simp [intOf];omega
  ·obtain rfl:r=m:=by omega
   obtain ⟨Aa,ca,rfl,ch,e1⟩:=hM.shape;generalize dv:Value.slice Aa r ca=va at *;go_wp2
   go_loopw [11] (fun i wr=>∃(k:Nat) (M:Mx) (G C:Nat→Nat),k≤r∧i= .int .i64 k∧Below w.heap.size w wr∧gj (UH r cols b) r k=some M∧UL w.heap.size wr va r (r+1) M G C) (fun i _=>r - (intOf i).toNat)
   case atStart=>exact ⟨0,_,G,C,by omega,rfl,d,rfl,hM⟩
   case round=>
    clear d hM;obtain ⟨k,M,G,C,hk,rfl,d,ci,hM⟩:=hrel;have ad:=JZ ci;clear ci;subst dv;rcases JX k r with hkr | hkr
    ·obtain ⟨go,co,be,al,cj,ck,cl,a0⟩:=hM.outer (by omega);injection be with hv1 hv2 hv3;subst hv1 hv3;have b0:=JZ (Yoa cx.out hk ad.out);have hκ:5 * (5^k * K)≤8589934592:=JW (Ykj hkr) HS.out;generalize dw:5^k * K=κ at *;clear dw ch;obtain ⟨wP,rfl⟩:∃x,x=wr:=⟨_,rfl⟩;go_wp2
     go_loopw [12,13] (fun a i wx=>∃t:Nat,a= .int .i64 (-1)∧k≤t∧t≤r∧i= .int .i64 t∧Below wP.heap.size wP wx∧∀s,k≤s→s < t→M s k=0) (fun _ i _=>r - (intOf i).toNat)
     case atStart=>exact ⟨k,rfl,by omega,by omega,rfl,JR _ _,fun s h1 h2=>by omega⟩
     case round=>
      obtain ⟨t,rfl,dl,eh,rfl,l,hz⟩:=hrel;have HZ:=JZ hz;clear hz;rcases JX t r with htl | htl
      ·have X:=hM.below l;have y0:=(X.cellAt htl).1;obtain ⟨A1,n1,c1,A2,n2,c2,⟨q0,q1,q2,q3⟩,hQ⟩:=X.at_ htl (show k < r+1 by omega);have bl:(canF (M t k)).Sh:=(b0.out t k htl (by omega)).sh (by omega);simp only [X7] at y0;generalize hq:M t k=q at *;have b3:=JZ hq;clear hq;have az:(k:Int) < ((r+1:Nat):Int):=(by omega);have ao:(k:Int) < (r:Int)+1:=(by omega);have e2:(t:Int) < r:=(by omega);go_wp2_with fail;refine (Z4 _ (canF q) _ hQ bl).mono ?_;rw [Zr];rintro _ w5 ⟨rfl,n⟩;clear y0 q0 q1 q2 q3 hQ X;have y:=Za l n l.size;by_cases z:q=0
       ·have b4:(qs q !=0)=false:=(by rw [z];decide);have d4:Hid (∀s,k≤s→s < t+1→M s k=0):=JZ fun s h1 h2=>by
         rcases JX s t with h | h
         ·exact HZ.out s h1 h
         ·obtain rfl:s=t:=by omega
          rw [b3.out,z]
        clear z;go_wp2;go_roundw
        case rel=>exact ⟨t+1,rfl,by omega,by omega,by go_num,y,d4.out⟩
        case measure=>simp [intOf];omega
       ·have b4:(qs q !=0)=true:=(by simpa using fun e=>z (Z5.1 e));have bm:Hid (Zdh M k r=some t):=JZ (Zwn dl htl (by rw [b3.out];exact z) HZ.out);have J:=hM.below y;have ae:=J.below (Zj w5);obtain ⟨a9,cm⟩:=ae.swap hkr htl;obtain ⟨y1,cn,ax⟩:=ae.swap1 (u:=X7 (r+1) G C t) htl (k:=k);obtain ⟨a1,dm⟩:=ae.cellAt hkr;obtain ⟨a2,dn⟩:=ae.cellAt htl;have b1:=(J.cellAt hkr).1;have b2:=(J.cellAt htl).1;have R:=JZ (b0.out.swap hkr htl);simp only [X7] at a9 cm cn ax a1 a2 b1 b2;generalize ct:swapM M k t=M1 at *;generalize swapF G k t=G1 at *;generalize swapF C k t=C1 at *;have bn:=JZ ct;have D:=Za d y d.size;have af:=D.drew;clear ct z ae J hM l n y HZ b3 bl d;go_wp2_with fail;have C0:=Zl b1;have d5:=Zl b2;clear b1 b2;refine Zn 13 [0,1,2,3,4,5,6,7,8,9,10,11,12,13,14,15] (by kernel_rfl) (by kernel_rfl) ?_;generalize dx:w5.drew=wD at *;clear dx;repeat ((first|(first|refine Zb (v:=?_) rfl rfl rfl ?_ ?_ |refine Zd (v:=?_) rfl rfl rfl ?_ ?_);rotate_left;·(intro _ _;go_simp;(try go_bits);(try with_reducible rfl))|refine Ze rfl rfl rfl ?_);(try simp only [qx]))
        refine Zf rfl rfl (fun _ kq=>?_);go_simp;refine kq.out _ _ (.inl (by decide)) ?_;clear kq;(try simp only [qx]);generalize cu:wD.setCell ⟨go,k,none⟩ (.slice (some ⟨G t,0,none⟩) (r+1) (C t))=W1 at *;refine Zf rfl rfl (fun _ kq=>?_);go_simp;refine kq.out _ _ (.inl (by decide)) ?_;clear kq;(try simp only [qx]);refine Zf rfl rfl (fun _ kq=>?_);go_simp;refine kq.out _ _ (.inl (by decide)) ?_;clear kq;(try simp only [qx]);refine Zv ?_;have ag:=(af.setCell (p:=⟨go,k,none⟩) al (.slice (some ⟨G t,0,none⟩) (r+1) (C t)));rw [cu] at ag;have o:=ag.setCell (p:=⟨go,t,none⟩) al (.slice (some ⟨G k,0,none⟩) (r+1) (C k));clear C0 d5 ag D af cm cn ax a1 a2 dm dn cu;generalize W1.setCell ⟨go,t,none⟩ (.slice (some ⟨G k,0,none⟩) (r+1) (C k))=W2 at *;have y0:=(a9.cellAt hkr).1;obtain ⟨A1,n1,c1,A2,n2,c2,⟨q0,q1,q2,q3⟩,hQ⟩:=a9.at_ hkr (show k < r+1 by omega);have bo:=R.out k k hkr (show k < r+1 by omega);simp only [X7] at y0;generalize cv:M1 k k=qf at *;have bp:=JZ cv;have a6:=JZ bo;have d6:Hid (∀s,s < r→G1 s < W2.heap.size):=JZ fun s hs=>(a9.lt hs (by omega)).2.1
        clear cv bo;obtain ⟨W3,dp,T,N⟩:=YR W2 (.bool (canF qf).num.neg) (.slice A1 n1 c1) (.bool (canF qf).den.neg) (.slice A2 n2 c2);have bq:=a9.below N;have br:=hQ.below N;have ap:=Za o N o.size;have aq:UL w.heap.size W3 (.slice (some ⟨go,0,none⟩) r ca) r (r+1) (scaleTo M1 k k qf) G1 C1:=(by rw [Zly];exact bq);have d7:W2.heap.size < W3.heap.size:=T.lt;go_wp2;clear dp y0 q0 q1 q2 q3 hQ a9 o N bq
        go_loopw [15] (fun i wx=>∃c':Nat,k≤c'∧c'≤r+1∧i= .int .i64 c'∧Below w.heap.size w wx∧UL w.heap.size wx (.slice (some ⟨go,0,none⟩) r ca) r (r+1) (scaleTo M1 k c' qf) G1 C1∧Bk wx W2.heap.size 46 [.bool (canF qf).num.neg,.slice A1 n1 c1,.bool (canF qf).den.neg,.slice A2 n2 c2]∧Zw wx (.agg #[.bool (canF qf).num.neg,.slice A1 n1 c1,.bool (canF qf).den.neg,.slice A2 n2 c2]) (canF qf)) (fun i _=>r+1 - (intOf i).toNat)
        case atStart=>exact ⟨k,by omega,by omega,rfl,ap,aq,T,br⟩
        case round=>
         clear ap aq T br d7;obtain ⟨c',bf,dq,rfl,d,hM,T,an⟩:=hrel;rcases JX c' (r+1) with hcm | hcm
         ·have y0:=(hM.cellAt hkr).1;obtain ⟨A3,n3,c3,A4,n4,c4,⟨q0,q1,q2,q3⟩,aa⟩:=hM.at_ hkr hcm;obtain ⟨z0,z1,z2,z3⟩:=T.four;have b5:(canF (scaleTo M1 k c' qf k c')).Sh:=(Zhr R.out a6.out hkr hcm).sh (by omega);have d8:(canF qf).Sh:=a6.out.sh (by omega);have ah:=JZ (Zok (M:=M1) (f:=qf) bf);simp only [X7] at y0;generalize dy:scaleTo M1 k c' qf k c'=qa at *;clear dy;have d9:(c':Int) < ((r+1:Nat):Int):=(by omega);have bs:(c':Int) < (r:Int)+1:=(by omega);have bt:(c':Int)≤r:=(by omega);go_wp2_with fail;have Y0:=Zl y0;have Q0:=Zl q0;have Q1:=Zl q1;have Q2:=Zl q2;have Q3:=Zl q3;have Z0:=Zl z0;have Z1:=Zl z1;have Z2:=Zl z2;have Z3:=Zl z3;have F:=Zj wr;have a8:=hkr;clear y0 q0 q1 q2 q3 z0 z1 z2 z3;refine Zn 15 [0,1,2,3,4,5,6,7,8,9,10,11,12,13,14,15] (by kernel_rfl) (by kernel_rfl) ?_;repeat ((first|(first|refine Zb (v:=?_) rfl rfl rfl ?_ ?_ |refine Zd (v:=?_) rfl rfl rfl ?_ ?_);rotate_left;·(intro _ _;go_simp;(try go_bits);(try with_reducible rfl))|refine Ze rfl rfl rfl ?_);(try simp only [qx]))
          refine Zf rfl rfl (fun _ kq=>?_);go_simp;(with_reducible refine (V5 _ _ (canF qa) (canF qf) _ (aa.below F) (an.below F) b5 d8).mono ?_);rw [Zr,Zr];rintro _ w9 ⟨v9,rfl,e9,am⟩;have v:=Za F am F.size;have L:=hM.below v;have Y:=e9.frac;obtain ⟨E,l9,k9,E',a3,a4,rfl,_,_⟩:=id Y;obtain ⟨f0,f1,f2,f3⟩:=L.frozen a8 hcm;obtain ⟨_,_,_,_,_,_,⟨t0,t1,t2,t3⟩,_⟩:=L.at_ a8 hcm;refine kq.out _ _ (.inr v) ?_;clear kq;(try simp only [qx]);repeat ((first|(first|refine Zb (v:=?_) rfl rfl rfl ?_ ?_ |refine Zd (v:=?_) rfl rfl rfl ?_ ?_);rotate_left;·(intro _ _;go_simp;(try go_bits);(try with_reducible rfl))|refine Ze rfl rfl rfl ?_);(try simp only [qx]))
          refine Zf rfl rfl (fun _ kq=>?_);go_simp;refine kq.out _ _ (.inl (by decide)) ?_;clear kq;(try simp only [qx]);refine Zv ?_;obtain ⟨U,V⟩:=L.set_ hkr hcm Y;rw [ah.out] at U;have S:=Za d v d.size;have Z:=Zx S (show w.heap.size≤G1 k from (hM.lt hkr (by omega)).1) (c' * 4) (c' * 4+1) (c' * 4+2) (c' * 4+3) (.bool (canF (qa / qf)).num.neg) (.slice E l9 k9) (.bool (canF (qa / qf)).den.neg) (.slice E' a3 a4);have b6:=(T.later v).far4' (show W2.heap.size≠G1 k by have:=d6.out k hkr;omega) (c' * 4) (c' * 4+1) (c' * 4+2) (c' * 4+3) (.bool (canF (qa / qf)).num.neg) (.slice E l9 k9) (.bool (canF (qa / qf)).den.neg) (.slice E' a3 a4);have b7:=(an.below v).keep (V.keep (by decide));clear Y0 Q0 Q1 Q2 Q3 Z0 Z1 Z2 Z3 hM T an L F v am Y e9 f0 f1 f2 f3 t0 t1 t2 t3 aa d S V;go_wp2;go_roundw
          case rel=>exact ⟨c'+1,by omega,by omega,by go_num,Z,U,b6,b7⟩
          case measure=>simp [intOf];omega
         ·have ai:c'=r+1:=(by omega);rw [ai] at hM;clear T an ai;have ar:Hid (∀s c,s < r→c < r+1→s≠k→Sz κ (scaleTo M1 k (r+1) qf s c)):=JZ fun s c h1 h2 h3=>Zhq R.out h1 h2 h3
          have bu:Hid (∀c,c < r+1→Sz (2 * κ) (scaleTo M1 k (r+1) qf k c)):=JZ fun c h2=>Zhr R.out a6.out hkr h2
          have da:Hid (gj (UH r cols b) r (k+1)=some (Yb (scaleTo M1 k (r+1) qf) k r r)):=JZ (by rw [Yki ad.out bm.out,bn.out,bp.out]);generalize scaleTo M1 k (r+1) qf=M2 at *;have bv:UL w.heap.size wr (.slice (some ⟨go,0,none⟩) r ca) r (r+1) (Yb M2 k 0 r) G1 C1:=(by rw [Zlz];exact hM);clear hM b0 R bp a6 ad bm bn;go_wp2;rw [show decide (c'≤r)=false from by simp;omega]
          go_loopw [16] (fun i wx=>∃s:Nat,s≤r∧i= .int .i64 s∧Below w.heap.size w wx∧UL w.heap.size wx (.slice (some ⟨go,0,none⟩) r ca) r (r+1) (Yb M2 k s r) G1 C1) (fun i _=>r - (intOf i).toNat)
          case atStart=>exact ⟨0,by omega,rfl,d,bv⟩
          case round=>
           clear d bv;obtain ⟨s,hs,rfl,d,hM⟩:=hrel;rcases JX s r with hsm | hsm
           ·by_cases ab:s=k
            ·have b8:=JZ (Zfw (M:=M2) (m:=r) (Or.inl ab:s=k∨M2 s k=0));have bw:=hM;rw [b8.out] at bw;have bx:((s:Int)==(k:Int))=true:=(by simp;omega);go_wp2;go_roundw
             case rel=>exact ⟨s+1,by omega,by go_num,d,bw⟩
             case measure=>simp [intOf];omega
            ·have bx:((s:Int)==(k:Int))=false:=(by simp;omega);have y0:=(hM.cellAt hsm).1;obtain ⟨A3,n3,c3,A4,n4,c4,⟨q0,q1,q2,q3⟩,O⟩:=hM.at_ hsm (show k < r+1 by omega);have b9:=ar.out s k hsm (by omega) ab;rw [Zav] at q0 q2 O;simp only [X7] at y0;have au:=JZ (Zom (M:=M2) (m:=r) ab);rw [Zav] at au;generalize cw:M2 s k=qg at *;have db:=JZ cw;clear cw;have bz:(canF qg).Sh:=b9.sh (by omega);have c0:=JZ b9;clear b9;have az:(k:Int) < ((r+1:Nat):Int):=(by omega);have ao:(k:Int) < (r:Int)+1:=(by omega);have e3:(s:Int) < r:=(by omega);go_wp2_with fail;refine (Z4 _ (canF qg) _ O bz).mono ?_;rw [Zr];rintro _ w5 ⟨rfl,n⟩;have J:=hM.below n;have D:=Za d n d.size;by_cases z:qg=0
             ·have b4:(qs qg==0)=true:=(by rw [z];decide);have b8:=JZ (Zfw (M:=M2) (m:=r) (Or.inr (by rw [db.out,z]):s=k∨M2 s k=0));rw [b8.out] at J;clear z;go_wp2;go_roundw
              case rel=>exact ⟨s+1,by omega,by go_num,D,J⟩
              case measure=>simp [intOf];omega
             ·have b4:(qs qg==0)=false:=(by simpa using fun e=>z (Z5.1 e));clear z;have av:=O.below n;have dc:=cell_later n y0;have dd:=cell_later n q0;have de:=cell_later n q1;have df:=cell_later n q2;have dg:=cell_later n q3;have c9:Hid (∀s,s < r→G1 s < w5.heap.size):=JZ fun s hs=>(J.lt hs (by omega)).2.1
              clear y0 q0 q1 q2 q3 O hM d n;obtain ⟨W6,dr,a5,N⟩:=YR w5 (.bool (canF qg).num.neg) (.slice A3 n3 c3) (.bool (canF qg).den.neg) (.slice A4 n4 c4);have cb:=J.below N;have cc:=av.below N;have o:=Za D N D.size;have aw:UL w.heap.size W6 (.slice (some ⟨go,0,none⟩) r ca) r (r+1) (WY (Yb M2 k s r) k s k qg) G1 C1:=(by rw [Zol];exact cb);go_wp2;clear dr dc dd de df dg av J cb N D
              go_loopw [18] (fun i wx=>∃c':Nat,k≤c'∧c'≤r+1∧i= .int .i64 c'∧Below w.heap.size w wx∧UL w.heap.size wx (.slice (some ⟨go,0,none⟩) r ca) r (r+1) (WY (Yb M2 k s r) k s c' qg) G1 C1∧Bk wx w5.heap.size 46 [.bool (canF qg).num.neg,.slice A3 n3 c3,.bool (canF qg).den.neg,.slice A4 n4 c4]∧Zw wx (.agg #[.bool (canF qg).num.neg,.slice A3 n3 c3,.bool (canF qg).den.neg,.slice A4 n4 c4]) (canF qg)) (fun i _=>r+1 - (intOf i).toNat)
              case atStart=>exact ⟨k,by omega,by omega,rfl,o,aw,a5,cc⟩
              case round=>
               clear o aw a5 cc;obtain ⟨c',bf,dq,rfl,d,hM,a5,O⟩:=hrel;rcases JX c' (r+1) with hcm | hcm
               ·have y0:=(hM.cellAt hsm).1;have x0:=(hM.cellAt hkr).1;obtain ⟨A5,n5,c5,A6,n6,c6,⟨q0,q1,q2,q3⟩,aa⟩:=hM.at_ hsm hcm;obtain ⟨A7,n7,c7,A8,n8,c8,⟨p0,p1,p2,p3⟩,bg⟩:=hM.at_ hkr hcm;obtain ⟨z0,z1,z2,z3⟩:=a5.four;have ah:=JZ (Zrr (M:=Yb M2 k s r) (g:=qg) bf ab);have ea:WY (Yb M2 k s r) k s c' qg s c'=M2 s c':=(by unfold WY;rw [if_neg (by omega),Zav]);have ek:WY (Yb M2 k s r) k s c' qg k c'=M2 k c':=(by rw [Zkj ab,Uq]);rw [ea] at q0 q2 aa ah;rw [ek] at p0 p2 bg ah;have cd:=ar.out s c' hsm hcm ab;have ba:=bu.out c' hcm;have ce:=XO c0.out ba;simp only [X7] at y0 x0;generalize M2 s c'=qa at *;generalize M2 k c'=qk at *;have b5:(canF qa).Sh:=cd.sh (by omega);have dh:(canF qk).Sh:=ba.sh (by omega);have di:(canF (qg * qk)).Sh:=ce.sh (by omega);have d9:(c':Int) < ((r+1:Nat):Int):=(by omega);have bs:(c':Int) < (r:Int)+1:=(by omega);have bt:(c':Int)≤r:=(by omega);clear cd ba ce ea ek;go_wp2_with fail;have Y0:=Zl y0;have X0:=Zl x0;have Q0:=Zl q0;have Q1:=Zl q1;have Q2:=Zl q2;have Q3:=Zl q3;have P0:=Zl p0;have P1:=Zl p1;have P2:=Zl p2;have P3:=Zl p3;have Z0:=Zl z0;have Z1:=Zl z1;have Z2:=Zl z2;have Z3:=Zl z3;have F:=Zj wr;clear y0 x0 q0 q1 q2 q3 p0 p1 p2 p3 z0 z1 z2 z3;refine Zn 23 [0,1,2,3,4,5,6,7,8,9,10,11,12,13,14,15,16,17,18,19,20,21,22,23] (by kernel_rfl) (by kernel_rfl) ?_;repeat ((first|(first|refine Zb (v:=?_) rfl rfl rfl ?_ ?_ |refine Zd (v:=?_) rfl rfl rfl ?_ ?_);rotate_left;·(intro _ _;go_simp;(try go_bits);(try with_reducible rfl))|refine Ze rfl rfl rfl ?_);(try simp only [qx]))
                refine Zf rfl rfl (fun _ kq=>?_);go_simp;(with_reducible refine (Zhs _ _ (canF qg) (canF qk) _ (O.below F) (bg.below F) bz dh).mono ?_);rw [Zr,Zr];rintro _ w8 ⟨v8,rfl,e8,cp⟩;have aj:=Za F cp F.size;refine kq.out _ _ (.inr aj) ?_;clear kq;(try simp only [qx]);repeat ((first|(first|refine Zb (v:=?_) rfl rfl rfl ?_ ?_ |refine Zd (v:=?_) rfl rfl rfl ?_ ?_);rotate_left;·(intro _ _;go_simp;(try go_bits);(try with_reducible rfl))|refine Ze rfl rfl rfl ?_);(try simp only [qx]))
                refine Zf rfl rfl (fun _ kq=>?_);go_simp;(with_reducible refine (Zhu _ _ (canF qa) (canF (qg * qk)) _ (aa.below aj) e8.frac b5 di).mono ?_);rw [Zr,Zr];rintro _ w9 ⟨v9,rfl,e9,am⟩;have v:=Za aj am aj.size;have L:=hM.below v;have Y:=e9.frac;obtain ⟨E,l9,k9,E',a3,a4,rfl,_,_⟩:=id Y;obtain ⟨f0,f1,f2,f3⟩:=L.frozen hsm hcm;obtain ⟨_,_,_,_,_,_,⟨t0,t1,t2,t3⟩,_⟩:=L.at_ hsm hcm;refine kq.out _ _ (.inr v) ?_;clear kq;(try simp only [qx]);repeat ((first|(first|refine Zb (v:=?_) rfl rfl rfl ?_ ?_ |refine Zd (v:=?_) rfl rfl rfl ?_ ?_);rotate_left;·(intro _ _;go_simp;(try go_bits);(try with_reducible rfl))|refine Ze rfl rfl rfl ?_);(try simp only [qx]))
                refine Zf rfl rfl (fun _ kq=>?_);go_simp;refine kq.out _ _ (.inl (by decide)) ?_;clear kq;(try simp only [qx]);refine Zv ?_;obtain ⟨U,V⟩:=L.set_ hsm hcm Y;rw [ah.out] at U;have S:=Za d v d.size;have Z:=Zx S (show w.heap.size≤G1 s from (hM.lt hsm (by omega)).1) (c' * 4) (c' * 4+1) (c' * 4+2) (c' * 4+3) (.bool (canF (qa - qg * qk)).num.neg) (.slice E l9 k9) (.bool (canF (qa - qg * qk)).den.neg) (.slice E' a3 a4);have bc:=(a5.later v).far4' (show w5.heap.size≠G1 s by have:=c9.out s hsm;omega) (c' * 4) (c' * 4+1) (c' * 4+2) (c' * 4+3) (.bool (canF (qa - qg * qk)).num.neg) (.slice E l9 k9) (.bool (canF (qa - qg * qk)).den.neg) (.slice E' a3 a4);have bd:=(O.below v).keep (V.keep (by decide));clear Y0 X0 Q0 Q1 Q2 Q3 P0 P1 P2 P3 Z0 Z1 Z2 Z3 hM a5 O L F aj v cp am Y e8 e9 f0 f1 f2 f3 t0 t1 t2 t3 aa bg d S V;go_wp2;go_roundw
                case rel=>exact ⟨c'+1,by omega,by omega,by go_num,Z,U,bc,bd⟩
                case measure=>simp [intOf];omega
               ·have ai:c'=r+1:=(by omega);rw [ai,au.out] at hM;clear a5 O ai;go_wp2;go_roundw
                case rel=>exact ⟨s+1,by omega,by go_num,d,hM⟩
                case measure=>simp [intOf];omega
           ·obtain rfl:s=r:=by omega
            go_wp2;go_roundw
            case rel=>exact ⟨k+1,_,G1,C1,by omega,by go_num,d,da.out,hM⟩
            case measure=>simp [intOf];omega
      ·obtain rfl:t=r:=by omega
       have HN:Hid (YS t cols b=none):=JZ (Zsj hkr ad.out (Zwm HZ.out));go_wp2;go_ret2;exact ⟨_,by rw [HN.out];rfl,by rw [Zdz HN.out];exact ZU.nil _ _,Za d l d.size⟩
    ·obtain rfl:k=r:=by omega
     obtain ⟨wP,rfl⟩:∃x,x=wr:=⟨_,rfl⟩;have HD:=JZ (Zsk ad.out);go_wp2
     go_loopw [19,20] (fun s i wx=>∃j:Nat,j≤k∧i= .int .i64 j∧ZU wP.heap.size wx s (ZQ j fun j=>M j k)∧Below wP.heap.size wP wx) (fun _ i _=>k - (intOf i).toNat)
     case atStart=>exact ⟨0,by omega,rfl,ZU.nil _ _,JR _ _⟩
     case round=>
      obtain ⟨j,hj,rfl,hF,l⟩:=hrel;have ay:=l.size;rcases JX j k with hjk | hjk
      ·have X:=hM.below l;obtain ⟨go,co,be,al,cj,ck,cl,a0⟩:=X.outer (by omega);injection be with hv1 hv2 hv3;subst hv1 hv3;have y0:=(X.cellAt hjk).1;obtain ⟨A1,n1,c1,A2,n2,c2,⟨q0,q1,q2,q3⟩,hQ⟩:=X.at_ hjk (show k < k+1 by omega);simp only [X7] at y0;have HF:=JZ hF;have a7:=JZ hQ;have P:(ZQ j fun j=>M j k).length+1≤1099511627776:=(by rw [Zc];omega);have e4:(j:Int) < k:=(by omega);have az:(k:Int) < ((k+1:Nat):Int):=(by omega);have ao:(k:Int) < (k:Int)+1:=(by omega);clear hF hQ a0;go_wp2_with (at_builtin;refine Yw rfl (.tmp 179) (.tmp 187) rfl wr wP.heap.size u19 (ZQ j fun j=>M j k) rfl HF.out _ _ A1 A2 n1 c1 n2 c2 (canF (M j k)) a7.out rfl P ay ?_);intro v' w4 H ds bh;rw [V8 j fun j=>M j k] at H;go_wp2;go_roundw
       case rel=>exact ⟨j+1,by omega,by go_num,H,l.trans bh⟩
       case measure=>simp [intOf];omega
      ·obtain rfl:j=k:=by omega
       go_wp2;go_ret2;refine ⟨_,by rw [HD.out];rfl,?_,Za d l d.size⟩;rw [WR HD.out];obtain ⟨cs,ho,hf⟩:=hF;exact ⟨cs,Y4 ho d.size,hf⟩
namespace Pl
def LPd.Fit (p:LPd) (K:Nat):Prop:=p.Ok K∧p.In∧p.right.length≤64∧p.cost.length=p.cols.length∧p.cols.length≤1200∧1≤K∧130 * (5^p.right.length * K)+200≤8589934592
theorem LPd.Fit.k1 {p:LPd} {K:Nat} (h:p.Fit K):1≤K:=h.2.2.2.2.2.1
theorem LPd.Fit.le {p:LPd} {K:Nat} (_h:p.Fit K):K≤5^p.right.length * K:=by
 have:=JS K (Nat.pow_le_pow_right (show 0 < 5 by decide) (Nat.zero_le p.right.length));simpa using this
theorem LPd.Fit.kb {p:LPd} {K:Nat} (h:p.Fit K):K≤34359738368:=by
 have h1:=h.le;have h2:=h.2.2.2.2.2.2;omega
theorem LPd.Fit.ks {p:LPd} {K:Nat} (h:p.Fit K):5^p.right.length * K≤8589934592:=by
 have h2:=h.2.2.2.2.2.2;omega
theorem LPd.Fit.ok {p:LPd} {K:Nat} (h:p.Fit K):p.Ok K:=h.1
theorem LPd.Fit.in_ {p:LPd} {K:Nat} (h:p.Fit K):p.In:=h.2.1
theorem LPd.Fit.rows {p:LPd} {K:Nat} (h:p.Fit K):p.right.length≤64:=h.2.2.1
theorem LPd.Fit.cl {p:LPd} {K:Nat} (h:p.Fit K):p.cost.length=p.cols.length:=h.2.2.2.1
theorem LPd.Fit.cols {p:LPd} {K:Nat} (h:p.Fit K):p.cols.length≤1200:=h.2.2.2.2.1
theorem LPd.Fit.rs {p:LPd} {K:Nat} (h:p.Fit K):RsL K p.right:=h.1.2.1
theorem LPd.Fit.cs {p:LPd} {K:Nat} (h:p.Fit K):RsL K p.cost:=h.1.1
def LSt.Fit (p:LPd) (s:LSt):Prop:=s.In p∧s.basis.length=p.right.length
theorem LSt.Fit.in_ {p:LPd} {s:LSt} (h:s.Fit p):s.In p:=h.1
theorem LSt.Fit.len {p:LPd} {s:LSt} (h:s.Fit p):s.basis.length=p.right.length:=h.2
theorem Ybh {p:LPd} {K:Nat} (h:p.Fit K) (s:LSt) (i r:Nat):Sz K (s.mat p i r):=LPd.Sz_col h.ok h.k1 _ _
def Zqv (p:LPd) (j:Int):Int:=if 0≤j then j else p.cols.length - 1 - j
def Xa (p:LPd) (ph j:Int):Rat:=if ph=1∧j < 0 then 1 else if ph=2∧0≤j then qAt p.cost j.toNat else 0
theorem Zag {p:LPd} {j:Int} (h:j < 0):Xa p 1 j=1:=by unfold Xa;rw [if_pos ⟨rfl,h⟩]
theorem Vl {p:LPd} {j:Int} (h:0≤j):Xa p 2 j=qAt p.cost j.toNat:=by unfold Xa;rw [if_neg (by omega),if_pos ⟨rfl,h⟩]
theorem Xo {p:LPd} {ph j:Int} (h1:¬(ph=1∧j < 0)) (h2:¬(ph=2∧0≤j)):Xa p ph j=0:=by unfold Xa;rw [if_neg h1,if_neg h2]
theorem Zfe {p:LPd} {K:Nat} (ok:p.Ok K) (hK:1≤K) (ph j:Int):Sz K (Xa p ph j):=by
 unfold Xa;split
 ·exact Sz_one.mono hK
 ·split
  ·exact ok.1.qAt hK _
  ·exact Sz_zero.mono hK
def UE (s:LSt) (zs:List RF):Nat→Bool
 | 0=>false
 | k+1=>UE s zs k || (decide (s.at_ k < 0) && decide (qAt zs k≠0))
theorem Zea {s:LSt} {zs:List RF} {k:Nat} (h1:s.at_ k < 0) (h2:qAt zs k≠0):∀{n:Nat},k < n→UE s zs n=true
 | 0,h=>by omega
 | n+1,h=>by
  unfold UE
  rcases JX k n with hk | hk
  ·rw [Zea h1 h2 hk];rfl
  ·obtain rfl:k=n:=by omega
   simp [h1,h2]
theorem Zpn {s:LSt} {zs:List RF} {k:Nat} (h:UE s zs k=false) (h2:¬s.at_ k < 0∨qAt zs k=0):UE s zs (k+1)=false:=by
 unfold UE;rw [h];rcases h2 with e | e
 ·simp [e]
 ·simp [e]
def zL (p:LPd) (s:LSt):List RF:=Zjy p.right.length (s.mat p) (qAt p.right)
def zOk (p:LPd) (s:LSt):Bool:=(YS p.right.length (s.mat p) (qAt p.right)).isSome
def YH (p:LPd) (s:LSt):List RF:=Zjy p.right.length (fun r k=>s.mat p k r) (qAt (ZQ p.right.length fun i=>Xa p s.phase (s.at_ i)))
theorem Ybi {m K:Nat} {cols:Mx} {b:Nat→Rat} (h:∀r c,r < m→c < m→Sz K (cols c r)) (hb:∀r,r < m→Sz K (b r)):RsL (5^m * K) (Zjy m cols b):=by
 unfold Zjy
 cases e:YS m cols b with
 | none=>exact RsL.nil _
 | some x=>exact Vv (Zue h hb e)
theorem Ynq {p:LPd} {K:Nat} (F:p.Fit K) (s:LSt):RsL (5^p.right.length * K) (zL p s):=Ybi (fun _ _ _ _=>LPd.Sz_col F.1 F.k1 _ _) fun r _=>F.1.2.1.qAt F.k1 r
theorem Ziz {p:LPd} {K:Nat} (F:p.Fit K) (s:LSt):RsL (5^p.right.length * K) (YH p s):=Ybi (fun _ _ _ _=>LPd.Sz_col F.1 F.k1 _ _) fun r hr=>by rw [Yr hr];exact Zfe F.1 F.k1 _ _
theorem Zgt {m:Nat} {cols:Mx} {b:Nat→Rat}:(Zjy m cols b).length≤m:=by
 unfold Zjy;split
 ·rw [Zc];exact JY _
 ·simp
end Pl
theorem Zbb (v:Value) (p:LPd) (j:Int) (w:World) (h:LpM w v p) (h0: -1000000≤j) (h1:j≤1000000) (hn:p.cols.length≤1200):
 Calls Tryz.prog 120 #[v,.int .i64 j] w fun e w'=>e= .returned (.int .i64 (Zqv p j))∧Below w.heap.size w w':=by
 obtain ⟨A,n,c,A',n',c',b,d,f,rfl,hc,hv,hr⟩:=id h;obtain ⟨W,hW,hX,a⟩:=Yc w (.slice A n c) (.slice A' n' c') (.slice b d f);obtain ⟨x0,x1,x2⟩:=hX.three;obtain ⟨m1,m2,m3⟩:=hv.len;have g:n'≤1200:=by omega
 rcases Int.lt_or_le j 0 with hj | hj
 ·have HQ:Hid (Zqv p j=n' - 1 - j):=JZ (by unfold Zqv;rw [if_neg (by omega),m1]);rw [HQ.out];clear hc hv hr h m1 HQ;go_enter Tryz.func120,Tryz.ntmps120;go_wp2;go_ret;exact ⟨by go_num,a⟩
 ·have HQ:Hid (Zqv p j=j):=JZ (by unfold Zqv;rw [if_pos hj]);rw [HQ.out];clear hc hv hr h m1 HQ;go_enter Tryz.func120,Tryz.ntmps120;go_wp2;go_ret;exact ⟨rfl,a⟩
theorem Zpo (v:Value) (p:LPd) (K:Nat) (ph j:Int) (w:World) (h:LpM w v p) (F:p.Fit K) (hj:j < p.cost.length):
 Calls Tryz.prog 85 #[v,.int .i64 ph,.int .i64 j] w fun e w'=>∃v',e= .returned v'∧Wz w.heap.size w' v' (canF (Xa p ph j))∧Below w.heap.size w w':=by
 obtain ⟨A,n,c,A',n',c',x,y,z,rfl,hc,hv,hr⟩:=id h;obtain ⟨W0,l,s,o⟩:=Yc w (.slice A n c) (.slice A' n' c') (.slice x y z);obtain ⟨W,hW,hR,q⟩:=YR W0 (.bool false) (.slice none 0 0) (.bool false) (.slice none 0 0);have t:W0.heap.size=w.heap.size+1:=by rw [← l];simp
 rw [t] at hR;have hX:=s.later q;have g:=Za o q o.size;obtain ⟨x0,x1,x2⟩:=hX.three;clear s o q;by_cases h1:ph=1
 ·subst h1;rcases Int.lt_or_le j 0 with hj0 | hj0
  ·rw [Zag hj0];clear hc hv hr h F hj;go_enter Tryz.func85,Tryz.ntmps85;go_wp2_with fail;clear hW l;refine (Yl 1 _ (by omega) (by omega)).mono ?_;rw [show ((1:Int):Rat)=1 from rfl];rintro _ w1 ⟨v1,rfl,e1,k⟩;obtain ⟨B,m,d,B',m',d',rfl,_,_⟩:=id e1.frac;have a:=hR.later k;obtain ⟨c0,c1,c2,c3⟩:=a.four;obtain ⟨f0,f1,f2,f3⟩:=a.fourF;go_wp2;refine Zp Tryz.results85 Tryz.underlying46 (by kernel_rfl) rfl (a.set4 _ _ _ _) rfl ?_;exact YL a (e1.mono g.size) (Za g k g.size) (by omega)
  ·rw [Xo (by omega) (by omega)];clear hc hv hr h F hj;go_enter Tryz.func85,Tryz.ntmps85;go_wp2_with fail;clear hW l;refine (Yl 0 _ (by omega) (by omega)).mono ?_;rw [show ((0:Int):Rat)=0 from rfl];rintro _ w1 ⟨v1,rfl,e1,k⟩;obtain ⟨B,m,d,B',m',d',rfl,_,_⟩:=id e1.frac;have a:=hR.later k;obtain ⟨c0,c1,c2,c3⟩:=a.four;obtain ⟨f0,f1,f2,f3⟩:=a.fourF;go_wp2;refine Zp Tryz.results85 Tryz.underlying46 (by kernel_rfl) rfl (a.set4 _ _ _ _) rfl ?_;exact YL a (e1.mono g.size) (Za g k g.size) (by omega)
 ·have D:(ph==1)=false:=by simpa using h1
  by_cases h2:ph=2
  ·subst h2;rcases Int.lt_or_le j 0 with hj0 | hj0
   ·rw [Xo (by omega) (by omega)];clear hc hv hr h F hj;go_enter Tryz.func85,Tryz.ntmps85;go_wp2_with fail;clear hW l;refine (Yl 0 _ (by omega) (by omega)).mono ?_;rw [show ((0:Int):Rat)=0 from rfl];rintro _ w1 ⟨v1,rfl,e1,k⟩;obtain ⟨B,m,d,B',m',d',rfl,_,_⟩:=id e1.frac;have a:=hR.later k;obtain ⟨c0,c1,c2,c3⟩:=a.four;obtain ⟨f0,f1,f2,f3⟩:=a.fourF;go_wp2;refine Zp Tryz.results85 Tryz.underlying46 (by kernel_rfl) rfl (a.set4 _ _ _ _) rfl ?_;exact YL a (e1.mono g.size) (Za g k g.size) (by omega)
   ·rw [Vl hj0];obtain ⟨jn,rfl⟩:=JT hj0;rw [JP];have r:jn < p.cost.length:=(by omega);obtain ⟨f,hf⟩:=ZH (fs:=p.cost) (i:=jn) r;obtain ⟨r1,r2,r3⟩:=hc.len;obtain ⟨b,H,B1,n1,k1,B2,n2,k2,rfl,I,⟨q0,q1,q2,q3⟩,C⟩:=hc.elem g hf;have u:f.Sh:=(F.1.1 jn f hf).sh F.kb;rw [ZF hf];have E:(jn:Int) < n:=(by omega);clear hv hr h F hj hf r hc r1;go_enter Tryz.func85,Tryz.ntmps85;go_wp2_with fail;clear hW l;refine (Xn _ f _ C u).mono ?_;rintro _ w1 ⟨v1,rfl,e1,k⟩;obtain ⟨B,m,d,B',m',d',rfl,_,_⟩:=id e1.frac;have a:=hR.later k;obtain ⟨c0,c1,c2,c3⟩:=a.four;obtain ⟨f0,f1,f2,f3⟩:=a.fourF;go_wp2;refine Zp Tryz.results85 Tryz.underlying46 (by kernel_rfl) rfl (a.set4 _ _ _ _) rfl ?_;exact YL a (e1.mono g.size) (Za g k g.size) (by omega)
  ·have G:(ph==2)=false:=(by simpa using h2);rw [Xo (by omega) (by omega)];clear hc hv hr h F hj h1 h2;go_enter Tryz.func85,Tryz.ntmps85;go_wp2_with fail;clear hW l;refine (Yl 0 _ (by omega) (by omega)).mono ?_;rw [show ((0:Int):Rat)=0 from rfl];rintro _ w1 ⟨v1,rfl,e1,k⟩;obtain ⟨B,m,d,B',m',d',rfl,_,_⟩:=id e1.frac;have a:=hR.later k;obtain ⟨c0,c1,c2,c3⟩:=a.four;obtain ⟨f0,f1,f2,f3⟩:=a.fourF;go_wp2;refine Zp Tryz.results85 Tryz.underlying46 (by kernel_rfl) rfl (a.set4 _ _ _ _) rfl ?_;exact YL a (e1.mono g.size) (Za g k g.size) (by omega)
theorem Zah (v1 v2:Value) (s:LSt) (zs:List RF) (w:World) (h1:StM w v1 s) (h2:Y1 w v2 zs) (hl:zs.length≤s.basis.length) (hz:∀(i:Nat) (f:RF),zs[i]? =some f→f.Sh):
 Calls Tryz.prog 81 #[v1,v2] w fun e w'=>e= .returned (.bool (UE s zs zs.length))∧Below w.heap.size w w':=by
 obtain ⟨Ab,nb,cb,rfl,hI⟩:=id h1;obtain ⟨W,hW,hS,a⟩:=YT w (.int .i64 s.phase) (.slice Ab nb cb) (.int .i64 s.pivots);obtain ⟨b1,b2,b3⟩:=hI.len;obtain ⟨Az,cz,rfl,u,v⟩:=h2.shape;have HI:=JZ hI;have H2:=JZ h2;have HZ:=JZ hz;generalize hn:zs.length=N at *;have HN:=JZ hn;have r:N≤nb:=by omega
 clear h1 h2 hI hz hn hl b1;go_enter Tryz.func81,Tryz.ntmps81;go_wp2;clear hW
 go_loopw [5] (fun i wr=>∃k:Nat,k≤N∧i= .int .i64 k∧Below w.heap.size w wr∧Bk wr w.heap.size 29 [.int .i64 s.phase,.slice Ab nb cb,.int .i64 s.pivots]∧UE s zs k=false) (fun i _=>N - (intOf i).toNat)
 case atStart=>exact ⟨0,by omega,rfl,a,hS,rfl⟩
 case round=>
  clear a hS;obtain ⟨k,hk,rfl,a,hS,ha⟩:=hrel;have HA:=JZ ha;clear ha;obtain ⟨y0,y1,y2⟩:=hS.three;rcases JX k N with hkl | hkl
  ·obtain ⟨bb,bo,z,rfl,x,g,z0,z1⟩:=(HI.out.below a).at_ (show k < nb by omega);obtain ⟨f,hf⟩:=ZH (fs:=zs) (i:=k) (by rw [HN.out];exact hkl);obtain ⟨b,y,B1,n1,k1,B2,n2,k2,rfl,A,⟨q0,q1,q2,q3⟩,o⟩:=H2.out.elem a hf;have l:=HZ.out k f hf;have h:=JZ (LSt.at_eq g);have HQ:=JZ (ZF hf);have t:(k:Int) < nb:=(by omega);have p:(k:Int) < N:=(by omega);clear g hf;rcases Int.lt_or_le z 0 with hz0 | hz0
   ·go_wp2_with fail;refine (Z4 _ f _ o l).mono ?_;rintro _ w5 ⟨rfl,j⟩;have m:=hS.later j;have d:=Za a j a.size;by_cases hq:f.q=0
    ·have n:(qs f.q !=0)=false:=(by rw [hq];decide);have c:=JZ (Zpn HA.out (Or.inr (by rw [HQ.out,hq])));clear hq;go_wp2;go_roundw
     case rel=>exact ⟨k+1,by omega,by go_num,d,m,c.out⟩
     case measure=>simp [intOf];omega
    ·have n:(qs f.q !=0)=true:=(by simpa using fun e=>hq (Z5.1 e));have c:Hid (UE s zs N=true):=JZ (Zea (by rw [h.out];exact hz0) (by rw [HQ.out];exact hq) hkl);clear hq;go_wp2;go_ret;exact ⟨by rw [c.out];rfl,d⟩
   ·have c:=JZ (Zpn (zs:=zs) HA.out (Or.inl (by rw [h.out];omega)));go_wp2;go_roundw
    case rel=>exact ⟨k+1,by omega,by go_num,a,hS,c.out⟩
    case measure=>simp [intOf];omega
  ·obtain rfl:k=N:=by omega
   go_wp2;go_ret;exact ⟨by rw [HA.out];rfl,a⟩
theorem Zff (v1 v2:Value) (p:LPd) (s:LSt) (K:Nat) (w:World) (h:LpM w v1 p) (h2:StM w v2 s) (F:p.Fit K) (S:s.Fit p):
 Calls Tryz.prog 69 #[v1,v2] w fun e w'=>∃v',e= .returned (.tuple #[v',.bool (zOk p s)])∧ZU w.heap.size w' v' (zL p s)∧Below w.heap.size w w':=by
 obtain ⟨A,n,c,A',n',c',B,C,D,rfl,hc,hv,hr⟩:=id h;obtain ⟨Ab,nb,cb,rfl,hI⟩:=id h2;obtain ⟨W,hW,l,g⟩:=Yc w (.slice A n c) (.slice A' n' c') (.slice B C D);obtain ⟨W1,E,b,i⟩:=YT W (.int .i64 s.phase) (.slice Ab nb cb) (.int .i64 s.pivots);have hX:=l.later i;have d:=Za g i g.size;obtain ⟨b1,b2,b3⟩:=hI.len;have m:W.heap.size=w.heap.size+1:=by rw [← hW];simp
 rw [m] at b;have o:=JZ h;have q:=JZ h2;have HI:=JZ hI;have a:=JZ F;have j:=JZ S;have t:=JZ b1;have u:Hid (nb=p.right.length):=JZ (by rw [b1];exact S.2);have I:nb≤64:=by rw [u.out];exact F.2.2.1
 obtain ⟨x0,x1,x2⟩:=hX.three;obtain ⟨y0,y1,y2⟩:=b.three;have v:=JZ hr;clear h h2 hc hv hr b1 hI l g i F S;have x:Hid (s.basis.length≤1000):=JZ (by rw [← t.out];omega);have y:Hid (p.right.length≤1000):=JZ (by have:=a.out.rows;omega);go_enter Tryz.func69,Tryz.ntmps69;go_wp2_with fail;clear hW E;have C0:=Zl x0;have C1:=Zl x1;have C2:=Zl x2;have D0:=Zl y0;have D1:=Zl y1;have D2:=Zl y2;have b:=Zj W1;clear x0 x1 x2 y0 y1 y2;refine Zn 10 [0,1,3,4,2,5,6,7,8,9] (by kernel_rfl) (by kernel_rfl) ?_;repeat ((first|(first|refine Zb (v:=?_) rfl rfl rfl ?_ ?_ |refine Zd (v:=?_) rfl rfl rfl ?_ ?_);rotate_left;·(intro _ _;go_simp;(try go_bits);(try with_reducible rfl))|refine Ze rfl rfl rfl ?_);(try simp only [qx]))
 refine Zf rfl rfl (fun _ kq=>?_);go_simp;with_reducible refine (Zch _ _ p s K _ ((o.out.below d).below b) ((q.out.below d).below b) a.out.ok a.out.kb a.out.in_ j.out.in_ a.out.rows x.out).mono ?_
 rw [j.out.len];rintro _ w5 ⟨v5,rfl,e5,G⟩;have f:=Za b G b.size;refine kq.out _ _ (.inr f) ?_;clear kq;(try simp only [qx]);repeat ((first|(first|refine Zb (v:=?_) rfl rfl rfl ?_ ?_ |refine Zd (v:=?_) rfl rfl rfl ?_ ?_);rotate_left;·(intro _ _;go_simp;(try go_bits);(try with_reducible rfl))|refine Ze rfl rfl rfl ?_);(try simp only [qx]))
 refine Zf rfl rfl (fun _ kq=>?_);go_simp;with_reducible refine (Zfd _ _ p.right.length (s.mat p) p.right K _ e5 ((v.out.below d).below f) rfl (fun r c _ _=>Ybh a.out s c r) a.out.rs a.out.k1 a.out.ks y.out).mono ?_
 rintro _ w6 ⟨v6,rfl,e6,H⟩;have k:=Za f H f.size;refine kq.out _ _ (.inr k) ?_;clear kq;(try simp only [qx]);repeat ((first|(first|refine Zb (v:=?_) rfl rfl rfl ?_ ?_ |refine Zd (v:=?_) rfl rfl rfl ?_ ?_);rotate_left;·(intro _ _;go_simp;(try go_bits);(try with_reducible rfl))|refine Ze rfl rfl rfl ?_);(try simp only [qx]))
 refine Zv ?_;clear C0 C1 C2 D0 D1 D2;have z:=Za d k d.size;have J:=f.size;go_wp2;go_ret2;refine ⟨_,rfl,?_,z⟩;obtain ⟨cs,ho,hf⟩:=e6;exact ⟨cs,Y4 ho (by have:=d.size;omega),hf⟩
theorem Ybj (v1 v2:Value) (p:LPd) (s:LSt) (K:Nat) (w:World) (h:LpM w v1 p) (h2:StM w v2 s) (F:p.Fit K) (S:s.Fit p):
 Calls Tryz.prog 43 #[v1,v2] w fun e w'=>∃v',e= .returned v'∧ZU w.heap.size w' v' (YH p s)∧Below w.heap.size w w':=by
 obtain ⟨A,n,c,A',n',c',L,M,N,rfl,hc,hv,hr⟩:=id h;obtain ⟨Ab,nb,cb,rfl,hI⟩:=id h2;obtain ⟨W,hW,O,j⟩:=Yc w (.slice A n c) (.slice A' n' c') (.slice L M N);obtain ⟨W1,a2,d,l⟩:=YT W (.int .i64 s.phase) (.slice Ab nb cb) (.int .i64 s.pivots);have hX:=O.later l;have a:=Za j l j.size;obtain ⟨b1,b2,b3⟩:=hI.len;have P:W.heap.size=w.heap.size+1:=by rw [← hW];simp
 rw [P] at d;have D:=JZ h;have R:=JZ h2;have HI:=JZ hI;have b:=JZ F;have x:=JZ S;have T:=JZ b1;have G:Hid (nb=p.right.length):=JZ (by rw [b1];exact S.2);have a6:nb≤64:=by rw [G.out];exact F.2.2.1
 obtain ⟨x0,x1,x2⟩:=hX.three;obtain ⟨y0,y1,y2⟩:=d.three;clear h h2 hc hv hr b1 hI O j l F S;have U:Hid (s.basis.length≤1000):=JZ (by rw [← T.out];omega);have H:Hid (p.right.length≤1000):=JZ (by have:=b.out.rows;omega);have V:Hid (p.cost.length=p.cols.length):=JZ b.out.cl;go_enter Tryz.func43,Tryz.ntmps43;go_wp2;clear hW a2 x0 x1 x2 y0 y1 y2
 go_loopw [5,6] (fun u i wr=>∃k:Nat,k≤nb∧i= .int .i64 k∧Below w.heap.size w wr∧Bk wr w.heap.size 26 [.slice A n c,.slice A' n' c',.slice L M N]∧Bk wr (w.heap.size+1) 29 [.int .i64 s.phase,.slice Ab nb cb,.int .i64 s.pivots]∧ZU w.heap.size wr u (ZQ k fun i=>Xa p s.phase (s.at_ i))) (fun _ i _=>nb - (intOf i).toNat)
 case atStart=>exact ⟨0,by omega,rfl,a,hX,d,ZU.nil _ _⟩
 case round=>
  clear a hX d;obtain ⟨k,hk,rfl,a,hX,hS,hO⟩:=hrel;obtain ⟨x0,x1,x2⟩:=hX.three;obtain ⟨y0,y1,y2⟩:=hS.three;rcases JX k nb with hkl | hkl
  ·obtain ⟨bb,bo,z,rfl,hz,m,z0,z1⟩:=(HI.out.below a).at_ hkl;have HZ:Hid (s.at_ k=z):=JZ (LSt.at_eq m);obtain ⟨i0,i1⟩:=x.out.in_ k z m;have a7:(k:Int) < nb:=(by omega);have I:(ZQ k fun i=>Xa p s.phase (s.at_ i)).length+1≤1099511627776:=(by rw [Zc];omega);clear m;go_wp2_with fail;have C0:=Zl x0;have C1:=Zl x1;have C2:=Zl x2;have D0:=Zl y0;have D1:=Zl y1;have E1:=Zl hz;have d:=Zj wr;clear x0 x1 x2 y0 y1 y2 hz;refine Zn 10 [0,1,2,3,4,5,6,7,8,9,10,11,12] (by kernel_rfl) (by kernel_rfl) ?_;repeat ((first|(first|refine Zb (v:=?_) rfl rfl rfl ?_ ?_ |refine Zd (v:=?_) rfl rfl rfl ?_ ?_);rotate_left;·(intro _ _;go_simp;(try go_bits);(try with_reducible rfl))|refine Ze rfl rfl rfl ?_);(try simp only [qx]))
   refine Zf rfl rfl (fun _ kq=>?_);go_simp;(with_reducible refine (Zpo _ p K s.phase z _ ((D.out.below a).below d) b.out (V.out▸i1)).mono ?_);rw [← HZ.out];rintro _ w5 ⟨v5,rfl,e5,o⟩;have g:=Za d o d.size;obtain ⟨E,l9,k9,E',a3,a4,rfl,_,_⟩:=id e5.frac;have HF:=JZ e5.frac;have HO:=JZ (hO.below g);have X:w.heap.size≤w5.heap.size:=(by have:=a.size;have:=g.size;omega);clear e5;generalize hQ:canF (Xa p s.phase (s.at_ k))=Q at *;refine kq.out _ _ (.inr g) ?_;clear kq;(try simp only [qx]);refine Zf rfl rfl (fun _ kq=>?_);go_simp;refine kq.out _ _ (.inl (by decide)) ?_;clear kq;(try simp only [qx]);refine Wp rfl rfl rfl (by decide) (.tmp 16) (.tmp 26) rfl w5 w.heap.size u5 (ZQ k fun i=>Xa p s.phase (s.at_ i)) rfl HO.out _ _ E E' l9 k9 a3 a4 Q HF.out rfl I X ?_;intro v' w6 q C t;rw [← hQ,V8 k fun i=>Xa p s.phase (s.at_ i)] at q;(try simp only [qx]);refine Zf rfl rfl (fun _ kq=>?_);go_simp;refine kq.out _ _ (.inl (by decide)) ?_;clear kq;(try simp only [qx]);refine Zv ?_;have Y:=C.bk (hX.later g) (by decide);have Z:=C.bk (hS.later g) (by decide);have f:=(Za a g a.size).trans t;clear C0 C1 C2 D0 D1 E1 hX hS a d g o hO HO HF C t hQ;go_wp2;go_roundw
   case rel=>exact ⟨k+1,by omega,by go_num,f,Y,Z,q⟩
   case measure=>simp [intOf];omega
  ·obtain rfl:k=nb:=by omega
   have a0:=G;go_wp2_with fail;refine (Zch _ _ p s K _ (D.out.below a) (R.out.below a) b.out.ok b.out.kb b.out.in_ x.out.in_ b.out.rows U.out).mono ?_;rw [x.out.len];rintro _ w5 ⟨v5,rfl,e5,o⟩;go_wp2_with fail;refine (Ybf _ p.right.length (s.mat p) _ e5 H.out).mono ?_;rintro _ w6 ⟨v6,rfl,e6,t⟩;have v:=Za o t o.size;have y:=hO.below v;have f:=Za a v a.size;have a8:=JZ y.frs;have B:=y.frs;rw [a0.out] at B;have a1:=JZ B;clear x0 x1 x2 y0 y1 y2 hO y B e5 hX hS;go_wp2_with fail;refine (Zfd _ _ p.right.length (fun r k=>s.mat p k r) (ZQ p.right.length fun i=>Xa p s.phase (s.at_ i)) K _ e6 a1.out (Zc _ _) (fun r c _ _=>Ybh b.out s r c) (Vv fun i _=>Zfe b.out.ok b.out.k1 _ _) b.out.k1 b.out.ks H.out).mono ?_;rintro _ w7 ⟨v7,rfl,e7,a5⟩;have J:=Za f a5 f.size;go_wp2;go_ret;refine ⟨_,rfl,?_,J⟩;obtain ⟨cs,ho,hf⟩:=e7;exact ⟨cs,Y4 ho (by have:=f.size;omega),hf⟩
namespace Pl
def Wy (p:LPd) (s:LSt) (j:Int):Rat:=Xa p s.phase j - Xv (YH p s) (ZQ p.right.length (p.col j)) (min (YH p s).length p.right.length)
def Yog (p:LPd) (s:LSt):List RF:=ZQ p.cols.length fun j=>Wy p s (j:Int)
theorem Yfz {p:LPd} {K:Nat} (F:p.Fit K) (s:LSt):min (YH p s).length p.right.length≤64:=JW (Nat.min_le_right _ _) F.rows
theorem Zef {p:LPd} {K:Nat} (F:p.Fit K) (s:LSt):1+min (YH p s).length p.right.length * (2 * (5^p.right.length * K)+1)≤129 * (5^p.right.length * K)+65:=by
 have h:=JS (2 * (5^p.right.length * K)+1) (Yfz F s);omega
theorem Ymx {p:LPd} {K:Nat} (F:p.Fit K) (j:Int):RsL (5^p.right.length * K) (ZQ p.right.length (p.col j)):=Vv fun i _=>(LPd.Sz_col F.ok F.k1 j i).mono F.le
theorem Ymy {p:LPd} {K:Nat} (F:p.Fit K) (s:LSt) (j:Int):Sz (130 * (5^p.right.length * K)+100) (Wy p s j):=by
 have h1:=Zfe F.ok F.k1 s.phase j;have h2:=Zfx (n:=min (YH p s).length p.right.length) (Ziz F s) (Ymx F j) (JW F.k1 F.le);have:=Zef F s;have:=F.le;exact (Zdg h1 h2).mono (by omega)
end Pl
theorem Zqa (v1 v2:Value) (p:LPd) (s:LSt) (K:Nat) (w:World) (h:LpM w v1 p) (h2:StM w v2 s) (F:p.Fit K) (S:s.Fit p):
 Calls Tryz.prog 82 #[v1,v2] w fun e w'=>∃v',e= .returned v'∧ZU w.heap.size w' v' (Yog p s)∧Below w.heap.size w w':=by
 obtain ⟨A,n,c,A',n',c',a3,a4,a5,rfl,hc,hv,hr⟩:=id h;obtain ⟨Ab,nb,cb,rfl,hI⟩:=id h2;obtain ⟨W,hW,a6,q⟩:=Yc w (.slice A n c) (.slice A' n' c') (.slice a3 a4 a5);obtain ⟨W1,ak,d,r⟩:=YT W (.int .i64 s.phase) (.slice Ab nb cb) (.int .i64 s.pivots);have hX:=a6.later r;have b:=Za q r q.size;obtain ⟨b1,b2,b3⟩:=hI.len;have a9:W.heap.size=w.heap.size+1:=by rw [← hW];simp
 rw [a9] at d;have z:=JZ h;have aa:=JZ h2;have HI:=JZ hI;have a:=JZ F;have ab:=JZ S;have an:=JZ b1;have ac:Hid (nb=p.right.length):=JZ (by rw [b1];exact S.2);have ao:nb≤64:=by rw [ac.out];exact F.2.2.1
 obtain ⟨x0,x1,x2⟩:=hX.three;obtain ⟨y0,y1,y2⟩:=d.three;obtain ⟨m1,m2,m3⟩:=hv.len;have B:=JZ m1;clear h h2 hc hv hr b1 hI a6 q r F S;clear m1;have ap:n'≤1200:=by rw [B.out];exact a.out.cols
 have v:Hid (130 * (5^p.right.length * K)+200≤8589934592):=JZ a.out.2.2.2.2.2.2;have J:Hid (1≤5^p.right.length * K):=JZ (JW a.out.k1 a.out.le);have L:=JZ (Ziz a.out s);have M:Hid (1+min (YH p s).length (ZQ p.right.length (p.col 0)).length * (2 * (5^p.right.length * K)+1)≤34359738368):=JZ (by rw [Zc];have:=Zef a.out s;have:=v.out;omega);have ad:Hid (2 * (5^p.right.length * K)≤34359738368):=JZ (by have:=v.out;omega);go_enter Tryz.func82,Tryz.ntmps82;go_wp2_with fail;clear hW ak;refine (Ybj _ _ p s K _ (z.out.below b) (aa.out.below b) a.out ab.out).mono ?_;rintro _ w3 ⟨v3,rfl,e3,y⟩;have N:=hX.later y;have O:=d.later y;have l:=Za b y b.size;have HY:=JZ e3.frs;clear e3 y hX d x0 x1 x2 y0 y1 y2 b;go_wp2
 go_loopw [6,7] (fun u i wr=>∃k:Nat,k≤n'∧i= .int .i64 k∧Below w.heap.size w wr∧Below w3.heap.size w3 wr∧Bk wr w.heap.size 26 [.slice A n c,.slice A' n' c',.slice a3 a4 a5]∧Bk wr (w.heap.size+1) 29 [.int .i64 s.phase,.slice Ab nb cb,.int .i64 s.pivots]∧ZU w3.heap.size wr u (ZQ k fun j=>Wy p s (j:Int))) (fun _ i _=>n' - (intOf i).toNat)
 case atStart=>exact ⟨0,by omega,rfl,l,JR _ _,N,O,ZU.nil _ _⟩
 case round=>
  have P:=l.size;clear l N O;obtain ⟨k,hk,rfl,b,g,hX,hS,hO⟩:=hrel;obtain ⟨x0,x1,x2⟩:=hX.three;obtain ⟨y0,y1,y2⟩:=hS.three;rcases JX k n' with hkl | hkl
  ·have R:Hid ((k:Int) < p.cols.length):=JZ (by rw [← B.out];omega);have ae:Hid ((k:Int) < p.cost.length):=JZ (by rw [a.out.cl];exact R.out);have T:=JZ (Ymx a.out (k:Int));have M:Hid (1+min (YH p s).length (ZQ p.right.length (p.col (k:Int))).length * (2 * (5^p.right.length * K)+1)≤34359738368):=JZ (by rw [Zc];have:=Zef a.out s;have:=v.out;omega);have af:Hid (canF (Xa p s.phase (k:Int) - Xv (YH p s) (ZQ p.right.length (p.col (k:Int))) (min (YH p s).length p.right.length))=canF (Wy p s (k:Int))):=JZ rfl;have ag:Hid ((canF (Xa p s.phase (k:Int))).Sh):=JZ ((Zfe a.out.ok a.out.k1 _ _).sh a.out.kb);have U:Hid ((canF (Xv (YH p s) (ZQ p.right.length (p.col (k:Int))) (min (YH p s).length p.right.length))).Sh):=JZ ((Zfx L.out T.out J.out).sh (by have:=Zef a.out s;have:=v.out;omega));have aq:(k:Int) < n':=(by omega);have V:(ZQ k fun j=>Wy p s (j:Int)).length+1≤1099511627776:=(by rw [Zc];omega);go_wp2_with fail;have C0:=Zl x0;have C1:=Zl x1;have C2:=Zl x2;have D0:=Zl y0;have D1:=Zl y1;have d:=Zj wr;clear x0 x1 x2 y0 y1 y2;refine Zn 12 [0,1,2,3,4,6,7,8,5,9,10,11,12,13,14] (by kernel_rfl) (by kernel_rfl) ?_;repeat ((first|(first|refine Zb (v:=?_) rfl rfl rfl ?_ ?_ |refine Zd (v:=?_) rfl rfl rfl ?_ ?_);rotate_left;·(intro _ _;go_simp;(try go_bits);(try with_reducible rfl))|refine Ze rfl rfl rfl ?_);(try simp only [qx]))
   refine Zf rfl rfl (fun _ kq=>?_);go_simp;(with_reducible refine (Zpo _ p K s.phase (k:Int) _ ((z.out.below b).below d) a.out ae.out).mono ?_);rintro _ w5 ⟨v5,rfl,e5,a7⟩;have m:=Za d a7 d.size;have X:=e5.frac;clear e5;refine kq.out _ _ (.inr m) ?_;clear kq;(try simp only [qx]);repeat ((first|(first|refine Zb (v:=?_) rfl rfl rfl ?_ ?_ |refine Zd (v:=?_) rfl rfl rfl ?_ ?_);rotate_left;·(intro _ _;go_simp;(try go_bits);(try with_reducible rfl))|refine Ze rfl rfl rfl ?_);(try simp only [qx]))
   refine Zf rfl rfl (fun _ kq=>?_);go_simp;(with_reducible refine (Zcg _ p K (k:Int) _ ((z.out.below b).below m) a.out.ok a.out.kb a.out.in_ (by omega) R.out a.out.rows).mono ?_);rintro _ w6 ⟨v6,rfl,e6,D⟩;have o:=Za m D m.size;have Y:=X.below D;have Z:=e6.frs;clear e6 X;refine kq.out _ _ (.inr o) ?_;clear kq;(try simp only [qx]);repeat ((first|(first|refine Zb (v:=?_) rfl rfl rfl ?_ ?_ |refine Zd (v:=?_) rfl rfl rfl ?_ ?_);rotate_left;·(intro _ _;go_simp;(try go_bits);(try with_reducible rfl))|refine Ze rfl rfl rfl ?_);(try simp only [qx]))
   refine Zf rfl rfl (fun _ kq=>?_);go_simp;(with_reducible refine (Zug _ _ (YH p s) (ZQ p.right.length (p.col (k:Int))) (5^p.right.length * K) _ ((HY.out.below g).below o) Z J.out L.out T.out M.out ad.out).mono ?_);rw [Zc];rintro _ w7 ⟨v7,rfl,e7,G⟩;have x:=Za o G o.size;have a0:=Y.below G;have a1:=e7;clear e7 Y Z;refine kq.out _ _ (.inr x) ?_;clear kq;(try simp only [qx]);repeat ((first|(first|refine Zb (v:=?_) rfl rfl rfl ?_ ?_ |refine Zd (v:=?_) rfl rfl rfl ?_ ?_);rotate_left;·(intro _ _;go_simp;(try go_bits);(try with_reducible rfl))|refine Ze rfl rfl rfl ?_);(try simp only [qx]))
   refine Zf rfl rfl (fun _ kq=>?_);go_simp;(with_reducible refine (Zhu _ _ (canF (Xa p s.phase (k:Int))) (canF (Xv (YH p s) (ZQ p.right.length (p.col (k:Int))) (min (YH p s).length p.right.length))) _ a0 a1 ag.out U.out).mono ?_);rw [Zr,Zr,af.out];rintro _ w8 ⟨v8,rfl,e8,a8⟩;have f:=Za x a8 x.size;have HF:=JZ e8.frac;have HO:=JZ (hO.below f);have ah:w3.heap.size≤w8.heap.size:=(by have:=g.size;have:=f.size;omega);obtain ⟨E,l9,k9,E',al,am,rfl,_,_⟩:=id e8.frac;clear e8 a0 a1;generalize hQ:canF (Wy p s (k:Int))=Q at *;refine kq.out _ _ (.inr f) ?_;clear kq;(try simp only [qx]);refine Zf rfl rfl (fun _ kq=>?_);go_simp;refine kq.out _ _ (.inl (by decide)) ?_;clear kq;(try simp only [qx]);refine Wp rfl rfl rfl (by decide) (.tmp 18) (.tmp 30) rfl w8 w3.heap.size u6 (ZQ k fun j=>Wy p s (j:Int)) rfl HO.out _ _ E E' l9 k9 al am Q HF.out rfl V ah ?_;intro v' w9 t H I;rw [← hQ,V8 k fun j=>Wy p s (j:Int)] at t;(try simp only [qx]);refine Zf rfl rfl (fun _ kq=>?_);go_simp;refine kq.out _ _ (.inl (by decide)) ?_;clear kq;(try simp only [qx]);refine Zv ?_;have ai:=H.bk (hX.later f) (by decide);have aj:=H.bk (hS.later f) (by decide);have a2:=(Za b f b.size).trans (I.mono P);have C:=(Za g f g.size).trans I;clear C0 C1 C2 D0 D1 hX hS b g d m o x f a7 D G a8 hO HO HF H I hQ;go_wp2;go_roundw
   case rel=>exact ⟨k+1,by omega,by go_num,a2,C,ai,aj,t⟩
   case measure=>simp [intOf];omega
  ·obtain rfl:k=n':=by omega
   go_wp2;go_ret;refine ⟨_,rfl,?_,b⟩;unfold Yog;rw [← B.out];obtain ⟨cs,ho,hf⟩:=hO;exact ⟨cs,Y4 ho P,hf⟩
end Go.Proofs.YtgbhebappffbdaaGreat
