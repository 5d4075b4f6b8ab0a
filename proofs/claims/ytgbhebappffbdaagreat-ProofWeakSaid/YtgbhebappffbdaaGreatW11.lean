/- Lemmas of the claim; no condition. -/
import Derived.Test.YtgbhebappffbdaaGreatW10
import Derived.Test.YtgbhebappffbdaaGreatW9
set_option linter.all false
set_option maxRecDepth 100000
set_option maxHeartbeats 40000000
namespace Go.Proofs.YtgbhebappffbdaaGreat
open Go.RowKit
open Pl
attribute [local go_sem ↓] Go.wp_at_zero Go.wp_at_succ
theorem Zfl {ops:Array Oper} {rest:List Oper} {o:Oper} {a:Act} {Q:Exit→Act→World→Prop} (hgd:o.guard=none) (s x:Operand)
 (ho:o.op= .call { callee:= .builtin .append,args:=#[s,x],argTypes:=#[22,22] })
 (W:World) (base:Nat) (v:Value) (zs:List Int) (hs:a.eval s=v) (hown:ZP base W v zs) (z:Int) (hz: -9223372036854775808≤z∧z≤9223372036854775807)
 (hx:a.eval x= .slice (some ⟨W.heap.size,0,none⟩) 1 1) (hn:zs.length+1≤1099511627776) (hbase:base≤W.heap.size)
 (h:∀v' w',ZP base w' v' (zs++[z])→Zg 3 W w'→Below base W w'→wpList Tryz.prog ops Q rest (a.put o.dst v') w'):
 wpList Tryz.prog ops Q (o::rest) a (W.alloc (.cells #[.int .i64 z] 3)):=by
 obtain ⟨i0,hi,b,c,d⟩:=info_parts info_intT;refine XM hgd s x 22 ho 3 i0 _ 1 8 Tryz.underlying22 hi b c d rfl (by decide) W base v zs.length _ [.int .i64 z] hs hown.1 hx rfl (by intro u hu;simp at hu;subst hu;rfl) (by unfold maxLen;omega) (by omega) hbase fun v' w' g1 g2 g3=>h v' w' ⟨by simpa using g1,fun y hy=>?_⟩ g2 g3
 rcases List.mem_append.1 hy with e | e
 ·exact hown.2 y e
 ·simp at e;subst e;exact hz
namespace Pl
def Zsy (k:Nat):List Int:=(List.range k).map fun r:Nat=> -1 - (r:Int)
theorem Ycd (k:Nat):Zsy k++[-1 - (k:Int)]=Zsy (k+1):=by unfold Zsy;rw [List.range_succ,List.map_append];rfl
theorem UA (k:Nat):(Zsy k).length=k:=by simp [Zsy]
def XI (p:LPd):LSt:=⟨1,Zsy p.right.length,0⟩
theorem Zlf (p:LPd):(XI p).Fit p:=⟨fun i z hz=>by
 have hz':(Zsy p.right.length)[i]? =some z:=hz
 have hi:i < p.right.length:=by have:=(List.getElem?_eq_some_iff.1 hz').1;rwa [UA] at this
 simp [Zsy,hi] at hz'
 omega,UA _⟩
end Pl
theorem ZP.shapeG {base:Nat} {w:World} {v:Value} {zs:List Int} (h:ZP base w v zs) (hp:0 < zs.length):∃g c,v= .slice (some ⟨g,0,none⟩) zs.length c∧base≤g∧g < w.heap.size∧zs.length≤c∧c≤9223372036854775807:=by
 rcases h.1.2 with ⟨rfl,h0⟩ | ⟨g,cap,cur,rfl,hb,hg,hnc,hcm,hcs,htake⟩
 ·omega
 ·unfold maxLen at hcm;exact ⟨g,cap,rfl,hb,YA hg,hnc,by omega⟩
theorem ZP.cell_ {base:Nat} {w:World} {g n c:Nat} {zs:List Int} (h:ZP base w (.slice (some ⟨g,0,none⟩) n c) zs) {k:Nat} {z:Int} (hz:zs[k]? =some z):w.cell? ⟨g,k,none⟩=some (.int .i64 z)∧w.frozen? ⟨g,k,none⟩=false:=by
 have hn:n=zs.length:=(UD.of_own h.1).len;subst hn;exact ZV h.1 (by simp [hz])
theorem ZP.setG {base:Nat} {w:World} {g n c:Nat} {zs:List Int} (h:ZP base w (.slice (some ⟨g,0,none⟩) n c) zs) {k:Nat} (hk:k < zs.length) {z:Int} (h0: -9223372036854775808≤z) (h1:z≤9223372036854775807):
 ZP base (w.setCell ⟨g,k,none⟩ (.int .i64 z)) (.slice (some ⟨g,0,none⟩) n c) (zs.set k z)∧Zg 3 w (w.setCell ⟨g,k,none⟩ (.int .i64 z))∧base≤g:=by
 have hn:n=zs.length:=(UD.of_own h.1).len;subst hn;obtain ⟨_,b0,hb⟩:=Ye h.1;refine ⟨⟨by rw [List.length_set,List.map_set];exact XC h.1 k _ (by simpa using hk),fun y hy=>?_⟩,Zg.setCell b0 k _,hb⟩;rcases List.mem_or_eq_of_mem_set hy with e | e
 ·exact h.2 y e
 ·subst e;exact ⟨h0,h1⟩
theorem Ww {w w0:World} {B g:Nat} {x y z:Value} (hB:Bk w g 29 [x,y,z]) (hb:Below B w0 w) (hg:B≤g) (x' y' z':Value):
 Bk (((w.setCell ⟨g,0,none⟩ x').setCell ⟨g,1,none⟩ y').setCell ⟨g,2,none⟩ z') g 29 [x',y',z']∧Zg 29 w (((w.setCell ⟨g,0,none⟩ x').setCell ⟨g,1,none⟩ y').setCell ⟨g,2,none⟩ z')∧Below B w0 (((w.setCell ⟨g,0,none⟩ x').setCell ⟨g,1,none⟩ y').setCell ⟨g,2,none⟩ z')∧
 ∀(g':Nat) (t:TypeId) (cs:List Value),g'≠g→Bk w g' t cs→Bk (((w.setCell ⟨g,0,none⟩ x').setCell ⟨g,1,none⟩ y').setCell ⟨g,2,none⟩ z') g' t cs:=by
 refine ⟨((hB.set_ 0 x').set_ 1 y').set_ 2 z',((Zg.setCell hB 0 x').trans (Zg.setCell (hB.set_ 0 x') 1 y')).trans (Zg.setCell ((hB.set_ 0 x').set_ 1 y') 2 z'),((hb.setCell (p:=⟨g,0,none⟩) hg _).setCell (p:=⟨g,1,none⟩) hg _).setCell (p:=⟨g,2,none⟩) hg _,fun g' t cs hne h=>?_⟩;unfold Bk at h ⊢;rw [heap_setCell_other _ _ _ _ hne,heap_setCell_other _ _ _ _ hne,heap_setCell_other _ _ _ _ hne];exact h
theorem Bk.set_other {w:World} {g g':Nat} {t:TypeId} {cs:List Value} (h:Bk w g' t cs) (hne:g'≠g) (i:Nat) (u:Value):Bk (w.setCell ⟨g,i,none⟩ u) g' t cs:=by
 unfold Bk at h ⊢;rw [heap_setCell_other _ _ _ _ hne];exact h
theorem Bk.lt_ {w:World} {g:Nat} {t:TypeId} {cs:List Value} (h:Bk w g t cs):g < w.heap.size:=YA h
def Ykv (m:Nat) (w:World) (g:Nat) (cs:List Value) (i:Value) (wr:World):Prop:=
 ∃(k:Nat) (A:Option Addr) (l c:Nat),k≤m∧i= .int .i64 k∧Below w.heap.size w wr∧Bk wr w.heap.size 26 cs∧Bk wr (w.heap.size+1) 29 [.int .i64 0,.slice none 0 0,.int .i64 0]∧Bk wr g 29 [.int .i64 1,.slice A l c,.int .i64 0]∧ZP w.heap.size wr (.slice A l c) (Zsy k)
theorem Zxz (v1:Value) (p:LPd) (K:Nat) (w:World) (h:LpM w v1 p) (F:p.Fit K) (hz:lpErr p=0):
 Calls Tryz.prog 31 #[v1] w fun e w'=>∃v',e= .returned (.tuple #[v',.int .i64 0])∧StO w.heap.size w' v' (settleQ p (XI p))∧Below w.heap.size w w':=by
 obtain ⟨A,n,c,A',n',c',P,m,R,rfl,hc,hv,hr⟩:=id h;obtain ⟨W,hW,S,j⟩:=Yc w (.slice A n c) (.slice A' n' c') (.slice P m R);obtain ⟨W1,a5,C,o⟩:=YT W (.int .i64 0) (.slice none 0 0) (.int .i64 0);have hX:=S.later o;have a:=Za j o j.size;have U:W.heap.size=w.heap.size+1:=by rw [← hW];simp
 rw [U] at C;obtain ⟨r1,r2,r3⟩:=hr.len;have G:=JZ h;have y:=JZ F;have HZ:=JZ hz;have HM:=JZ r1;have hm:m≤64:=by rw [r1];exact F.rows
 obtain ⟨x0,x1,x2⟩:=hX.three;clear h hc hv hr r1 S j o F hz;go_enter Tryz.func31,Tryz.ntmps31;go_wp2_with fail;clear hW a5;refine (Zdp _ p K _ (G.out.below a) y.out.ok y.out.kb).mono ?_;rw [HZ.out];rintro _ w3 ⟨rfl,u⟩;have H:=hX.later u;have z:=C.later u;have b:=Za a u a.size;obtain ⟨W4,a6,r,s⟩:=YT w3 (.int .i64 0) (.slice none 0 0) (.int .i64 0);have I:=H.later s;have J:=z.later s;have x:=Za b s b.size;obtain ⟨y0,y1,y2⟩:=r.three;obtain ⟨f0,f1,f2⟩:=r.threeF;have a8:w.heap.size+1 < w3.heap.size:=z.lt_;clear x0 x1 x2 hX C a u H z s;go_wp2;obtain ⟨k1,k2,k3,k4⟩:=Ww (B:=w.heap.size) (w0:=w) r x b.size (.int .i64 1) (.slice none 0 0) (.int .i64 0);have L:=k4 _ _ _ (by omega) I;have M:=k4 _ _ _ (by omega) J;clear I J x r a6 y0 y1 y2 f0 f1 f2 k2 k4 b;generalize w3.heap.size=g at *;generalize ((W4.setCell ⟨g,0,none⟩ (.int .i64 1)).setCell ⟨g,1,none⟩ (.slice none 0 0)).setCell ⟨g,2,none⟩ (.int .i64 0)=W5 at *
 go_loopw [6] (fun i wr=>Ykv m w g [.slice A n c,.slice A' n' c',.slice P m R] i wr) (fun i _=>m - (intOf i).toNat)
 case atStart=>exact ⟨0,none,0,0,by omega,rfl,k3,L,M,k1,ZP.nil _ _⟩
 case round=>
  clear k1 k3 L M;obtain ⟨k,A3,l,c3,hk,rfl,a,hX,hR,hS,hI⟩:=hrel;obtain ⟨x0,x1,x2⟩:=hX.three;obtain ⟨y0,y1,y2⟩:=hS.three;obtain ⟨f0,f1,f2⟩:=hS.threeF;rcases JX k m with hkl | hkl
  ·have a9:(k:Int) < m:=(by omega);have V: -9223372036854775808≤(-1 - (k:Int))∧(-1 - (k:Int))≤9223372036854775807:=(by omega);have N:(Zsy k).length+1≤1099511627776:=(by rw [UA];omega);have X:=a.size;go_wp2_with (at_builtin;refine Zfl rfl (.tmp 22) (.tmp 25) rfl wr w.heap.size (.slice A3 l c3) (Zsy k) rfl hI (-1 - (k:Int)) V rfl N X ?_);intro v' w7 E v T;rw [Ycd] at E;obtain ⟨Av,nv,cv,rfl⟩:=E.sliceN;have Y:=v.bk hX (by decide);have Z:=v.bk hR (by decide);have q:=v.bk hS (by decide);have O:=a.trans T;have a0:=E.but (Zg.setCell q 1 (.slice Av nv cv)) (by decide);have a1:=Y.set_other (g:=g) (by omega) 1 (.slice Av nv cv);have d:=Z.set_other (g:=g) (by omega) 1 (.slice Av nv cv);have a2:=q.set_ 1 (.slice Av nv cv);have f:=O.setCell (p:=⟨g,1,none⟩) (by simp;omega) (.slice Av nv cv);clear x0 x1 x2 y0 y1 y2 f0 f1 f2 hX hR hS hI a v T;obtain ⟨y0,y1,y2⟩:=q.three;obtain ⟨f0,f1,f2⟩:=q.threeF;go_wp2;go_roundw
   case rel=>exact ⟨k+1,Av,nv,cv,by omega,by go_num,f,a1,d,a2,a0⟩
   case measure=>simp [intOf];omega
  ·obtain rfl:m=k:=by omega
   have a3:Hid (StM wr (.agg #[.int .i64 1,.slice A3 l c3,.int .i64 0]) (XI p)):=JZ ⟨A3,l,c3,rfl,by show Xq wr _ (Zsy p.right.length);rw [← HM.out];exact hI.ints⟩;go_wp2_with fail;refine (Zcl _ _ p (XI p) K _ (G.out.below a) a3.out y.out (Zlf p)).mono ?_;obtain ⟨t,ht⟩:∃t,settleQ p (XI p)=t:=⟨_,rfl⟩;rw [ht];rintro _ w8 ⟨v8,rfl,⟨A8,l8,c8,rfl,a7⟩,D⟩;have d:=hR.later D;have f:=Za a D a.size;have a4:=a.size;clear x0 x1 x2 y0 y1 y2 f0 f1 f2 hX hR hS hI a D;obtain ⟨r0,r1,r2⟩:=d.three;obtain ⟨f0,f1,f2⟩:=d.threeF;obtain ⟨k1,k2,k3,k4⟩:=Ww (B:=w.heap.size) (w0:=w) d f (by omega) (.int .i64 t.phase) (.slice A8 l8 c8) (.int .i64 t.pivots);go_wp2;refine YX Tryz.results31 Tryz.underlying29 (by kernel_rfl) rfl k1 rfl ?_;exact ⟨_,rfl,by rw [ht];exact ⟨A8,l8,c8,rfl,(a7.monoB a4).but k2 (by decide)⟩,k3⟩
namespace Pl
def Zco (p:LPd) (s:LSt):Option LSt:=if Yh p s=0 then (match WV p s (zL p s) (WS p s) with | none=>none | some i=>some (settleQ p ⟨s.phase,s.basis.set i (UJ p s),s.pivots+1⟩)) else none
theorem Ycf {p:LPd} {s:LSt} (h:Yh p s≠0):Zco p s=none:=by unfold Zco;rw [if_neg h]
theorem Ycg {p:LPd} {s:LSt} (h:WV p s (zL p s) (WS p s)=none):Zco p s=none:=by unfold Zco;rw [h];split <;> rfl
theorem Zvm {p:LPd} {s:LSt} {i:Nat} (h:Yh p s=0) (h2:WV p s (zL p s) (WS p s)=some i):Zco p s=some (settleQ p ⟨s.phase,s.basis.set i (UJ p s),s.pivots+1⟩):=by unfold Zco;rw [h2,if_pos h]
def VC (p:LPd):Nat→LSt→LSt
 | 0,s=>s
 | n+1,s=>match Zco p s with | none=>s | some t=>VC p n t
theorem XK {p:LPd} {s:LSt} (h:Zco p s=none) (n:Nat):VC p n s=s:=by cases n with | zero=>rfl | succ n=>rw [VC,h]
theorem Wx {p:LPd} {s t:LSt} (h:Zco p s=some t) (n:Nat):VC p (n+1) s=VC p n t:=by rw [VC,h]
theorem Zfm {p:LPd} {s:LSt} (h:Yh p s=0):∃j:Nat,Zle p s=some j∧j < p.cols.length∧UJ p s=(j:Int)∧WS p s=dirL p s (j:Int):=by
 cases he:Zle p s with
 | none=>rw [(XQ he).1] at h;split at h <;> omega
 | some j=>exact ⟨j,rfl,by have:=(YM he).2.1;omega,(Xb he).2.1,(Xb he).2.2⟩
theorem Zyd {m:Nat} {cols:Mx} (b b':Nat→Rat):(Zjy m cols b).length=(Zjy m cols b').length:=by
 have h:=Zbt (m:=m) (cols:=cols) b b'
 cases h1:YS m cols b with
 | none=>
  cases h2:YS m cols b' with
  | none=>rw [Zdz h1,Zdz h2]
  | some x=>rw [h1,h2] at h;simp at h
 | some x=>
  cases h2:YS m cols b' with
  | none=>rw [h1,h2] at h;simp at h
  | some y=>rw [WR h1,WR h2,Zc,Zc]
theorem Ych {p:LPd} {s:LSt} (h:Yh p s=0):(WS p s).length=(zL p s).length:=by
 obtain ⟨j,_,_,_,hd⟩:=Zfm h;rw [hd];exact Zyd _ _
theorem Ykw {p:LPd} {s:LSt} {K:Nat} (F:p.Fit K) (h:Yh p s=0):RsL (5^p.right.length * K) (WS p s):=by
 obtain ⟨j,_,_,_,hd⟩:=Zfm h;rw [hd];exact Zvl F s _
theorem Yci {p:LPd} {s:LSt} (S:s.Fit p) {j:Int} (h0:0≤j) (h1:j < p.cols.length) (i:Nat) (k:Int):(LSt.mk s.phase (s.basis.set i j) k).Fit p:=by
 refine ⟨fun i' z hz=>?_,by show (s.basis.set i j).length=_;rw [List.length_set];exact S.2⟩;have a:(s.basis.set i j)[i']? =some z:=hz;by_cases e:i=i'
 ·subst e;have hi:i < s.basis.length:=by have:=(List.getElem?_eq_some_iff.1 a).1;rwa [List.length_set] at this
  rw [List.getElem?_set_self hi] at a;injection a with a;omega
 ·rw [List.getElem?_set_ne e] at a;exact S.1 i' z a
end Pl
def Yoi (p:LPd) (w:World) (cs:List Value) (T:LSt) (N:Nat) (P:Int) (i:Value) (wr:World):Prop:=
 ∃(n:Nat) (t:LSt) (A:Option Addr) (l c:Nat),n≤N∧i= .int .i64 n∧Below w.heap.size w wr∧Bk wr w.heap.size 26 cs∧Bk wr (w.heap.size+1) 29 [.int .i64 t.phase,.slice A l c,.int .i64 t.pivots]∧Bk wr (w.heap.size+1+1) 29 [.int .i64 0,.slice none 0 0,.int .i64 0]∧ZP w.heap.size wr (.slice A l c) t.basis∧t.Fit p∧VC p (N - n) t=T∧t.pivots≤P+n∧0≤t.pivots
theorem Ygb (v1 v2:Value) (p:LPd) (s:LSt) (K N:Nat) (w:World) (h:LpM w v1 p) (h2:StM w v2 s) (F:p.Fit K) (hz:lpErr p=0) (hve:vsErr p s=0) (hN:N≤9223372036854775807) (hpv:s.pivots+N≤9223372036854775807):
 Calls Tryz.prog 32 #[v1,v2,.int .i64 (N:Int)] w fun e w'=>∃v',e= .returned (.tuple #[v',.int .i64 0])∧StO w.heap.size w' v' (VC p N (settleQ p s))∧Below w.heap.size w w':=by
 obtain ⟨S,c8,_⟩:=Ycb hve;have cl:0≤s.pivots:=by omega
 have bs:=JZ hve;have bt:=JZ hz;obtain ⟨TT,ai⟩:∃T,VC p N (settleQ p s)=T:=⟨_,rfl⟩;rw [ai];have bu:=JZ ai;clear hve hz c8 ai;obtain ⟨A,n,c,A',n',c',be,bf,bg,rfl,hc,hv,hr⟩:=id h;obtain ⟨Ab,nb,cb,rfl,hI⟩:=id h2;obtain ⟨W,hW,bh,L⟩:=Yc w (.slice A n c) (.slice A' n' c') (.slice be bf bg);obtain ⟨W1,bi,Y,M⟩:=YT W (.int .i64 s.phase) (.slice Ab nb cb) (.int .i64 s.pivots);have hX:=bh.later M;have b:=Za L M L.size;obtain ⟨b1,b2,b3⟩:=hI.len;have aj:W.heap.size=w.heap.size+1:=by rw [← hW];simp
 rw [aj] at Y;have v:=JZ h;have ak:=JZ h2;have HI:=JZ hI;have d:=JZ F;have al:=JZ S;have cm:=JZ b1;have bv:Hid (nb=p.right.length):=JZ (by rw [b1];exact S.2);have cn:nb≤64:=by rw [bv.out];exact F.2.2.1
 obtain ⟨x0,x1,x2⟩:=hX.three;obtain ⟨y0,y1,y2⟩:=Y.three;clear h h2 hc hv hr b1 hI bh L M F S;obtain ⟨W2,c9,hR,u⟩:=YT W1 (.int .i64 0) (.slice none 0 0) (.int .i64 0);have a3:=hX.later u;have a4:=Y.later u;have C:=Za b u b.size;have am:W1.heap.size=w.heap.size+1+1:=by rw [← bi];simp [aj]
 rw [am] at hR;clear x0 x1 x2 y0 y1 y2 hX Y b u;obtain ⟨x0,x1,x2⟩:=a3.three;obtain ⟨y0,y1,y2⟩:=a4.three;have co:0≤(N:Int):=by omega
 go_enter Tryz.func32,Tryz.ntmps32;go_wp2_with fail;clear hW bi c9;refine (VO _ _ p s K _ (v.out.below C) (ak.out.below C) d.out bt.out).mono ?_;rw [bs.out];rintro _ w3 ⟨rfl,O⟩;have a5:=a3.later O;have a6:=a4.later O;have an:=hR.later O;have a:=Za C O C.size;clear x0 x1 x2 y0 y1 y2 a3 a4 hR C O;obtain ⟨x0,x1,x2⟩:=a5.three;obtain ⟨y0,y1,y2⟩:=a6.three;go_wp2_with fail;refine (Zcl _ _ p s K _ (v.out.below a) (ak.out.below a) d.out al.out).mono ?_;have bw:=JZ (Zck al.out);have ao:Hid ((settleQ p s).pivots=s.pivots):=JZ rfl;generalize settleQ p s=t0 at *;rintro _ w4 ⟨v4,rfl,⟨A4,n4,c4,rfl,bn⟩,P⟩;have ap:=a5.later P;have R:=a6.later P;have aq:=an.later P;have a0:=Za a P a.size;have bx:=a.size;clear x0 x1 x2 y0 y1 y2 a5 a6 an a P;obtain ⟨y0,y1,y2⟩:=R.three;obtain ⟨f0,f1,f2⟩:=R.threeF;obtain ⟨k1,k2,k3,k4⟩:=Ww (B:=w.heap.size) (w0:=w) R a0 (by omega) (.int .i64 t0.phase) (.slice A4 n4 c4) (.int .i64 t0.pivots);go_wp2;generalize ((w4.setCell ⟨w.heap.size+1,0,none⟩ (.int .i64 t0.phase)).setCell ⟨w.heap.size+1,1,none⟩ (.slice A4 n4 c4)).setCell ⟨w.heap.size+1,2,none⟩ (.int .i64 t0.pivots)=W5 at *
 go_loopw [9] (fun i wr=>Yoi p w [.slice A n c,.slice A' n' c',.slice be bf bg] TT N s.pivots i wr) (fun i _=>N - (intOf i).toNat)
 case atStart=>exact ⟨0,t0,A4,n4,c4,by omega,rfl,k3,k4 _ _ _ (by omega) ap,k1,k4 _ _ _ (by omega) aq,(bn.monoB bx).but k2 (by decide),bw.out,bu.out,by have:=ao.out;omega,by have:=ao.out;omega⟩
 case round=>
  clear k1 k2 k3 k4 y0 y1 y2 f0 f1 f2 ap R aq a0 bn;obtain ⟨n,t,A,l,c,hn,rfl,b,hX,hT,hR,hI,hF,bj,cv,ck⟩:=hrel;have HF:=JZ hF;have U:=JZ bj;have a7:=hI.ints;have bz:Hid (StM wr (.agg #[.int .i64 t.phase,.slice A l c,.int .i64 t.pivots]) t):=JZ ⟨A,l,c,rfl,a7⟩;obtain ⟨l1,l2,l3⟩:=a7.len;have c0:=JZ l1;clear hF bj a7 l1;obtain ⟨x0,x1,x2⟩:=hX.three;obtain ⟨y0,y1,y2⟩:=hT.three;obtain ⟨r0,r1,r2⟩:=hR.three;obtain ⟨f0,f1,f2⟩:=hR.threeF;rcases JX n N with hnl | hnl;rotate_left
  ·obtain rfl:N=n:=by omega
   have HE:Hid (TT=t):=JZ (by rw [← U.out,Nat.sub_self];rfl);go_wp2;obtain ⟨k1,k2,k3,k4⟩:=Ww (B:=w.heap.size) (w0:=w) hR b (by omega) (.int .i64 t.phase) (.slice A l c) (.int .i64 t.pivots);refine YX Tryz.results32 Tryz.underlying29 (by kernel_rfl) rfl k1 rfl ?_;exact ⟨_,rfl,⟨A,l,c,by rw [HE.out],by rw [HE.out];exact hI.but k2 (by decide)⟩,k3⟩
  have cp:(n:Int) < N:=by omega
  clear r0 r1 r2 f0 f1 f2;go_wp2_with fail;refine (Zsx _ _ p t K _ (v.out.below b) bz.out d.out HF.out).mono ?_;generalize bp:Yh p t=q;generalize bq:UJ p t=j;have HQ:=JZ bp;have HJ:=JZ bq;clear bp bq;rintro _ w5 ⟨v5,rfl,e5,x⟩;have a8:=hX.later x;have V:=hT.later x;have D:=hR.later x;have X:=hI.below x;have f:=Za b x b.size;have ar:=e5.frs;obtain ⟨Ad,nd,cd,rfl⟩:=e5.sliceN;clear x0 x1 x2 y0 y1 y2 hX hT hR hI x e5 b;by_cases hq:q=0;rotate_left
  ·have cq:(q !=0)=true:=(by simpa using hq);have HE:Hid (TT=t):=JZ (by rw [← U.out];exact XK (Ycf (by rw [HQ.out];exact hq)) _);clear hq;obtain ⟨y0,y1,y2⟩:=V.three;obtain ⟨r0,r1,r2⟩:=D.three;obtain ⟨f0,f1,f2⟩:=D.threeF;go_wp2;obtain ⟨k1,k2,k3,k4⟩:=Ww (B:=w.heap.size) (w0:=w) D f (by omega) (.int .i64 t.phase) (.slice A l c) (.int .i64 t.pivots);refine YX Tryz.results32 Tryz.underlying29 (by kernel_rfl) rfl k1 rfl ?_;exact ⟨_,rfl,⟨A,l,c,by rw [HE.out],by rw [HE.out];exact X.but k2 (by decide)⟩,k3⟩
  subst hq;obtain ⟨jn,ca,cc,ce,_⟩:=Zfm HQ.out;have c1:0≤j:=by have:=HJ.out;omega
  have au:Hid (j < p.cols.length):=JZ (by have:=HJ.out;omega);have cr:j≤1200:=by have:=au.out;have:=d.out.cols;omega
  clear ca cc ce;obtain ⟨x0,x1,x2⟩:=a8.three;obtain ⟨y0,y1,y2⟩:=V.three;have c2:Hid (StM w5 (.agg #[.int .i64 t.phase,.slice A l c,.int .i64 t.pivots]) t):=JZ ⟨A,l,c,rfl,X.ints⟩;go_wp2_with fail;refine (Zff _ _ p t K _ (v.out.below f) c2.out d.out HF.out).mono ?_;rintro _ w6 ⟨v6,rfl,e6,o⟩;have a9:=a8.later o;have aa:=V.later o;have av:=D.later o;have ab:=X.below o;have r:=Za f o f.size;have aw:=ar.below o;have ax:=e6.frs;obtain ⟨Az,nz,cz,rfl⟩:=e6.sliceN;clear x0 x1 x2 y0 y1 y2 a8 V D X o e6 f ar;obtain ⟨x0,x1,x2⟩:=a9.three;obtain ⟨y0,y1,y2⟩:=aa.three;have c3:Hid (StM w6 (.agg #[.int .i64 t.phase,.slice A l c,.int .i64 t.pivots]) t):=JZ ⟨A,l,c,rfl,ab.ints⟩;have ac:=JZ (Ych HQ.out);have ay:Hid ((zL p t).length≤p.right.length):=JZ Zgt;go_wp2_with fail;refine (Zqb _ _ _ _ p t (zL p t) (WS p t) K _ (v.out.below r) c3.out ax aw d.out HF.out (by rw [ac.out];exact JY _) (by rw [ac.out];exact ay.out) (Ynq d.out t) (Ykw d.out HQ.out)).mono ?_;generalize br:WV p t (zL p t) (WS p t)=lo;have ad:=JZ br;clear br;rintro _ w7 ⟨rfl,y⟩;have az:=a9.later y;have ae:=aa.later y;have E:=av.later y;have G:=ab.below y;have H:=Za r y r.size;clear x0 x1 x2 y0 y1 y2 a9 aa av ab y r aw ax;obtain ⟨y0,y1,y2⟩:=ae.three;rcases lo with _ | i
  ·rw [show oi none= -1 from rfl];have HE:Hid (TT=t):=JZ (by rw [← U.out];exact XK (Ycg ad.out) _);obtain ⟨r0,r1,r2⟩:=E.three;obtain ⟨f0,f1,f2⟩:=E.threeF;go_wp2;obtain ⟨k1,k2,k3,k4⟩:=Ww (B:=w.heap.size) (w0:=w) E H (by omega) (.int .i64 t.phase) (.slice A l c) (.int .i64 t.pivots);refine YX Tryz.results32 Tryz.underlying29 (by kernel_rfl) rfl k1 rfl ?_;exact ⟨_,rfl,⟨A,l,c,by rw [HE.out],by rw [HE.out];exact G.but k2 (by decide)⟩,k3⟩
  rw [show oi (some i)=(i:Int) from rfl];have b0:i < t.basis.length:=by have:=Znh ad.out;have:=ac.out;have:=ay.out;have:=HF.out.len;omega
  have cs:(i:Int) < l:=by have:=c0.out;omega
  have ct:0≤(i:Int):=by omega
  obtain ⟨g,cg,cf,ch,cw,ci,cj⟩:=G.shapeG (by omega);injection cf with e1 e2 e3;subst e1;obtain ⟨z0,bl⟩:∃z,t.basis[i]? =some z:=⟨_,JQ b0⟩;obtain ⟨u0,u1⟩:=G.cell_ bl;obtain ⟨bm,Z,_⟩:=G.setG b0 (show -9223372036854775808≤j by omega) (show j≤9223372036854775807 by omega);have b4:=Z.bk az (by decide);have I:=Z.bk ae (by decide);have b5:=Z.bk E (by decide);have a1:=H.setCell (p:=⟨g,i,none⟩) ch (.int .i64 j);clear e2 e3 bl ci cj
  go_upto_region 16 with (fail)
  clear y0 y1 y2 u0 u1 az ae E G Z H;generalize w7.setCell ⟨g,i,none⟩ (.int .i64 j)=W8 at *;obtain ⟨y0,y1,y2⟩:=I.three;obtain ⟨f0,f1,f2⟩:=I.threeF;have b6:=bm.but (Zg.setCell I 2 (.int .i64 (t.pivots+1))) (by decide);have af:=b4.set_other (g:=w.heap.size+1) (by omega) 2 (.int .i64 (t.pivots+1));have b7:=b5.set_other (g:=w.heap.size+1) (by omega) 2 (.int .i64 (t.pivots+1));have ag:=I.set_ 2 (.int .i64 (t.pivots+1));have k:=a1.setCell (p:=⟨w.heap.size+1,2,none⟩) (by simp) (.int .i64 (t.pivots+1));have cu:t.pivots+1≤9223372036854775807:=by omega
  go_upto_region 17 with (fail)
  clear y0 y1 y2 f0 f1 f2 b4 I b5 bm a1;generalize W8.setCell ⟨w.heap.size+1,2,none⟩ (.int .i64 (t.pivots+1))=W9 at *;obtain ⟨x0,x1,x2⟩:=af.three;obtain ⟨y0,y1,y2⟩:=ag.three;have c6:Hid (StM W9 (.agg #[.int .i64 t.phase,.slice (some ⟨g,0,none⟩) l c,.int .i64 (t.pivots+1)]) ⟨t.phase,t.basis.set i j,t.pivots+1⟩):=JZ ⟨_,l,c,rfl,b6.ints⟩;have b8:Hid ((LSt.mk t.phase (t.basis.set i j) (t.pivots+1)).Fit p):=JZ (Yci HF.out c1 au.out i _);have b9:=JZ (Zvm HQ.out ad.out);rw [HJ.out] at b9;go_wp2_with fail;refine (Zcl _ _ p ⟨t.phase,t.basis.set i j,t.pivots+1⟩ K _ (v.out.below k) c6.out d.out b8.out).mono ?_;have ba:=JZ (Zck b8.out);have a2:Hid ((settleQ p ⟨t.phase,t.basis.set i j,t.pivots+1⟩).pivots=t.pivots+1):=JZ rfl;generalize settleQ p ⟨t.phase,t.basis.set i j,t.pivots+1⟩=t2 at *;rintro _ cx ⟨cy,rfl,⟨A5,n5,c5,rfl,bo⟩,m⟩;have bb:=af.later m;have J:=ag.later m;have bc:=b7.later m;have ah:=Za k m k.size;have c7:=k.size;clear x0 x1 x2 y0 y1 y2 af ag b7 k m b6;obtain ⟨y0,y1,y2⟩:=J.three;obtain ⟨f0,f1,f2⟩:=J.threeF;obtain ⟨k1,k2,k3,k4⟩:=Ww (B:=w.heap.size) (w0:=w) J ah (by omega) (.int .i64 t2.phase) (.slice A5 n5 c5) (.int .i64 t2.pivots);have bd:Hid (VC p (N - (n+1)) t2=TT):=JZ (by rw [← U.out,show N - n=(N - (n+1))+1 by omega,Wx b9.out]);go_wp2;go_roundw
  case rel=>exact ⟨n+1,t2,A5,n5,c5,by omega,by go_num,k3,k4 _ _ _ (by omega) bb,k1,k4 _ _ _ (by omega) bc,(bo.monoB c7).but k2 (by decide),ba.out,bd.out,by have:=a2.out;omega,by have:=a2.out;omega⟩
  case measure=>simp [intOf];omega
theorem Ygc (v1 v2:Value) (p:LPd) (s:LSt) (K:Nat) (N:Int) (w:World) (h:LpM w v1 p) (h2:StM w v2 s) (F:p.Fit K) (hz:lpErr p=0) (hve:vsErr p s≠0):
 Calls Tryz.prog 32 #[v1,v2,.int .i64 N] w fun e w'=>e= .returned (.tuple #[.agg #[.int .i64 0,.slice none 0 0,.int .i64 0],.int .i64 (vsErr p s)])∧Below w.heap.size w w':=by
 obtain ⟨A,n,c,A',n',c',E,G,H,rfl,hc,hv,hr⟩:=id h;obtain ⟨Ab,nb,cb,rfl,hI⟩:=id h2;obtain ⟨W,hW,u,d⟩:=Yc w (.slice A n c) (.slice A' n' c') (.slice E G H);obtain ⟨W1,v,j,f⟩:=YT W (.int .i64 s.phase) (.slice Ab nb cb) (.int .i64 s.pivots);have hX:=u.later f;have g:=Za d f d.size;have l:W.heap.size=w.heap.size+1:=by rw [← hW];simp
 rw [l] at j;obtain ⟨W2,I,hR,a⟩:=YT W1 (.int .i64 0) (.slice none 0 0) (.int .i64 0);have m:=hX.later a;have o:=j.later a;have b:=Za g a g.size;have r:W1.heap.size=w.heap.size+1+1:=by rw [← v];simp [l]
 rw [r] at hR;have x:=JZ h;have y:=JZ h2;have z:=JZ F;have C:=JZ hz;clear hX j g a h h2 hc hv hr hI u d f F hz;obtain ⟨x0,x1,x2⟩:=m.three;obtain ⟨y0,y1,y2⟩:=o.three;obtain ⟨q,hq⟩:∃q,vsErr p s=q:=⟨_,rfl⟩;rw [hq] at hve ⊢;have D:=JZ hq;clear hq;go_enter Tryz.func32,Tryz.ntmps32;go_wp2_with fail;clear hW v I;refine (VO _ _ p s K _ (x.out.below b) (y.out.below b) z.out C.out).mono ?_;rw [D.out];have J:(q !=0)=true:=by simpa using hve
 clear hve;rintro _ w3 ⟨rfl,k⟩;have i:=hR.later k;have t:=Za b k b.size;clear x0 x1 x2 y0 y1 y2 m o hR b k;obtain ⟨r0,r1,r2⟩:=i.three;obtain ⟨f0,f1,f2⟩:=i.threeF;go_wp2;obtain ⟨k1,k2,k3,k4⟩:=Ww (B:=w.heap.size) (w0:=w) i t (by omega) (.int .i64 0) (.slice none 0 0) (.int .i64 0);refine YX Tryz.results32 Tryz.underlying29 (by kernel_rfl) rfl k1 rfl ?_;exact ⟨rfl,k3⟩
section
namespace Pl
theorem Wm.tr {m:Nat} {cols:Mx} (h:Wm m cols):Wm m (trM cols):=by
 intro y hy r hr;obtain ⟨x,hx⟩:=Wn h fun i=>if i=r then 1 else 0
 have e:=(Vk hx x).2 fun k _=>rfl
 have h1:ZN (fun i=>y i * X6 m cols x i) m=y r:=by
  rw [Xj hr fun i hi hne=>by rw [e i hi,if_neg hne];grind,e r hr,if_pos rfl];grind
 have h2:ZN (fun i=>y i * X6 m cols x i) m=ZN (fun c=>X6 m (trM cols) y c * x c) m:=by
  unfold X6;rw [Zh (g:=fun i=>ZN (fun c=>y i * (cols c i * x c)) m) fun i _=>(YG _ _ _).symm,WO];exact Zh fun c _=>by
   unfold trM;rw [Rat.mul_comm,← YG];exact Zh fun i _=>by grind
 rw [← h1,h2];exact WP fun c hc=>by rw [hy c hc];grind
section
variable {p:LPd} {s:LSt}
def Reg (p:LPd) (s:LSt):Prop:=Wm p.right.length (s.mat p)
theorem Ycj (h:zOk p s=true):Reg p s:=by
 unfold zOk at h;obtain ⟨x,hx⟩:=Option.isSome_iff_exists.1 h;exact Zmf hx
theorem Yck (h:Reg p s):zOk p s=true:=by
 obtain ⟨x,hx⟩:=Wn h (qAt p.right);unfold zOk;rw [hx];rfl
theorem VD {m:Nat} {cols:Mx} (h:Wm m cols) (b:Nat→Rat):(Zjy m cols b).length=m∧∀r,r < m→X6 m cols (qAt (Zjy m cols b)) r=b r:=by
 obtain ⟨x,hx⟩:=Wn h b;rw [WR hx,Zc];refine ⟨rfl,fun r hr=>?_⟩;rw [← (Vk hx x).2 (fun k _=>rfl) r hr];exact Zh fun c hc=>by rw [Yr hc]
theorem Zqc {m:Nat} {cols:Mx} (h:Wm m cols) {b x:Nat→Rat} (hx:∀r,r < m→X6 m cols x r=b r):∀k,k < m→qAt (Zjy m cols b) k=x k:=by
 obtain ⟨z,hz,he⟩:=Zot h hx;intro k hk;rw [WR hz,Yr hk,he k hk]
theorem Ycl (h:Reg p s):∀r,r < p.right.length→X6 p.right.length (s.mat p) (qAt (zL p s)) r=qAt p.right r:=(VD h _).2
theorem Yht (h:Reg p s) {x:Nat→Rat} (hx:∀r,r < p.right.length→X6 p.right.length (s.mat p) x r=qAt p.right r):∀k,k < p.right.length→qAt (zL p s) k=x k:=Zqc h hx
theorem Zfn (h:Reg p s):(zL p s).length=p.right.length:=(VD h _).1
theorem Zeg (h:Reg p s) (j:Int):∀r,r < p.right.length→X6 p.right.length (s.mat p) (qAt (dirL p s j)) r=p.col j r:=fun r hr=>by
 unfold dirL
 rw [(VD h _).2 r hr,Yr hr]
theorem Zfo (h:Reg p s) (j:Int):(dirL p s j).length=p.right.length:=(VD h _).1
theorem UB (h:Reg p s):(YH p s).length=p.right.length:=(VD h.tr _).1
theorem Zqd (h:Reg p s):∀k,k < p.right.length→ZN (fun r=>s.mat p k r * qAt (YH p s) r) p.right.length=Xa p s.phase (s.at_ k):=fun k hk=>by
 have e:=(VD h.tr (qAt (ZQ p.right.length fun i=>Xa p s.phase (s.at_ i)))).2 k hk
 rw [Yr hk] at e
 exact e
theorem Zak (h:Reg p s) {k:Nat} (hk:k < p.right.length):Wy p s (s.at_ k)=0:=by
 unfold Wy;rw [UB h,Nat.min_self,Zig,← Zqd h k hk];have e:Zgf (YH p s) (p.col (s.at_ k)) p.right.length=ZN (fun r=>s.mat p k r * qAt (YH p s) r) p.right.length:=Zh fun r _=>by show _=p.col (s.at_ k) r * _;grind
 rw [e];grind
theorem Zfp {zs:List RF}:∀{n:Nat},UE s zs n=false→∀k,k < n→s.at_ k < 0→qAt zs k=0
 | 0,_,k,hk,_=>by omega
 | n+1,h,k,hk,ha=>by
  unfold UE at h
  rw [Bool.or_eq_false_iff] at h
  rcases JX k n with e | e
  ·exact Zfp h.1 k e ha
  ·obtain rfl:k=n:=by omega
   simpa [ha] using h.2
theorem Zfq {zs:List RF}:∀{n:Nat},(∀k,k < n→s.at_ k < 0→qAt zs k=0)→UE s zs n=false
 | 0,_=>rfl
 | n+1,h=>by
  unfold UE
  rw [Zfq fun k hk=>h k (by omega)]
  by_cases ha:s.at_ n < 0
  ·simp [ha,h n (by omega) ha]
  ·simp [ha]
structure Val (p:LPd) (s:LSt):Prop where
 fit:s.Fit p
 ph:s.phase=1∨s.phase=2
 pv:0≤s.pivots
 dup:∀i,i < p.right.length→∀k,k < i→s.at_ i≠s.at_ k
 reg:Reg p s
 pos:∀i,i < p.right.length→0≤qAt (zL p s) i
 art:s.phase=2→∀i,i < p.right.length→s.at_ i < 0→qAt (zL p s) i=0
theorem Zqe (h:vsErr p s=0):Val p s:=by
 obtain ⟨h1,h2,h3,h4,h5,h6⟩:=Ycb h;have hr:=Ycj h4;exact ⟨h1,by omega,by omega,h3,hr,fun i hi=>Rat.not_lt.1 (h5 i hi),fun e i hi ha=>by
  have:UE s (zL p s) (zL p s).length=false:=by
   cases hb:UE s (zL p s) (zL p s).length with
   | false=>rfl
   | true=>exact absurd ⟨e,hb⟩ h6
  exact Zfp this i (by rw [Zfn hr];exact hi) ha⟩
theorem Val.vs (h:Val p s):vsErr p s=0:=by
 have hb:=h.fit.len;refine Yga hb (by have:=h.ph;have:=h.pv;omega) (fun i hi=>?_) h.dup (Yck h.reg) (fun i hi=>Rat.not_lt.2 (h.pos i hi)) fun e=>?_
 ·have a:i < s.basis.length:=by omega
  have:=h.fit.in_ i _ (JQ a);rw [LSt.at_eq (JQ a)];exact this
 ·have:=Zfq (zs:=zL p s) (n:=(zL p s).length) fun k hk ha=>h.art e.1 k (by rw [← Zfn h.reg];exact hk) ha
  rw [this] at e;exact absurd e.2 (by decide)
theorem settle_zL:zL p (settleQ p s)=zL p s:=rfl
theorem Ycm (i:Nat):(settleQ p s).at_ i=s.at_ i:=rfl
theorem Val.settle (h:Val p s):Val p (settleQ p s):=by
 refine ⟨Zck h.fit,?_,h.pv,h.dup,h.reg,h.pos,fun e i hi ha=>?_⟩
 ·show (if UE s (zL p s) (zL p s).length=true then s.phase else 2)=1∨(if UE s (zL p s) (zL p s).length=true then s.phase else 2)=2;split
  ·exact h.ph
  ·exact .inr rfl
 ·have e':(if UE s (zL p s) (zL p s).length=true then s.phase else 2)=2:=e
  cases hb:UE s (zL p s) (zL p s).length with
  | false=>exact Zfp hb i (by rw [Zfn h.reg];exact hi) ha
  | true=>rw [hb,if_pos rfl] at e';exact h.art e' i hi ha
theorem settle_twice:settleQ p (settleQ p s)=settleQ p s:=by
 unfold settleQ;have e:∀ph,UE ⟨ph,s.basis,s.pivots⟩ (zL p ⟨ph,s.basis,s.pivots⟩) (zL p ⟨ph,s.basis,s.pivots⟩).length=UE s (zL p s) (zL p s).length:=fun ph=>by
  have e1:zL p ⟨ph,s.basis,s.pivots⟩=zL p s:=rfl;rw [e1];generalize (zL p s).length=n
  induction n with
  | zero=>rfl
  | succ n ih=>unfold UE;rw [ih];rfl
 simp only [e]
 cases UE s (zL p s) (zL p s).length <;> simp
end
theorem Ykx {k i:Nat} (h:i < k):(Zsy k)[i]? =some (-1 - (i:Int)):=by simp [Zsy,h]
theorem Zeh {p:LPd} {i:Nat} (h:i < p.right.length):(XI p).at_ i= -1 - (i:Int):=LSt.at_eq (Ykx h)
theorem Zjh (p:LPd):Val p (XI p):=by
 have hm:∀k,k < p.right.length→(XI p).mat p k=fun i=>if i=k then (if qs (qAt p.right i) < 0 then -1 else 1) else 0:=fun k hk=>by
  show p.col ((XI p).at_ k)=_;rw [Zeh hk];exact LPd.col_neg
 have a:∀y r,r < p.right.length→X6 p.right.length ((XI p).mat p) y r=(if qs (qAt p.right r) < 0 then -1 else 1) * y r:=fun y r hr=>by
  unfold X6;rw [Xj hr fun i hi hne=>by rw [hm i hi];simp only;rw [if_neg (fun e=>hne e.symm)];grind,hm r hr];simp
 have b:Reg p (XI p):=fun y hy k hk=>by
  have:=hy k hk;rw [a y k hk] at this;split at this <;> grind
 have hz:=Yht b (x:=fun i=>(if qs (qAt p.right i) < 0 then -1 else 1) * qAt p.right i) fun r hr=>by
  rw [a _ r hr];split <;> grind
 refine ⟨Zlf p,.inl rfl,Int.le_refl _,fun i hi k hk=>?_,b,fun i hi=>?_,fun e=>by cases e⟩
 ·rw [Zeh hi,Zeh (by omega)];omega
 ·rw [hz i hi];split
  ·rename_i h;have:=Wj.1 h;grind
  ·rename_i h
   have:¬qAt p.right i < 0:=fun g=>h (Wj.2 g)
   grind
theorem Zei {p:LPd} {s:LSt} {Z D:List RF}:∀{n t:Nat},XN p s Z D n=some t→∀k,k < n→0 < qAt D k→WC Z D t≤WC Z D k
 | 0,t,h,k,hk,_=>by omega
 | n+1,t,h,k,hk,hd=>by
  by_cases h0:0 < qAt D n
  ·cases hb:XN p s Z D n with
   | none=>
    rw [XJ hb h0] at h
    injection h with h
    subst h
    rcases JX k n with e | e
    ·exfalso
     have:∀{m:Nat},XN p s Z D m=none→∀k,k < m→¬0 < qAt D k:=fun {m}=>by
      induction m with
      | zero=>intro _ k hk;omega
      | succ m ih=>
       intro hm k hk
       by_cases hq:0 < qAt D m
       ·exfalso
        cases hb2:XN p s Z D m with
        | none=>rw [XJ hb2 hq] at hm;cases hm
        | some b=>
         by_cases g:better p s Z D m b
         ·rw [YK hb2 hq g] at hm;cases hm
         ·rw [Y5 hb2 hq g] at hm;cases hm
       ·rw [Xp hq] at hm
        rcases JX k m with e' | e'
        ·exact ih hm k e'
        ·obtain rfl:k=m:=by omega
         exact hq
     exact this hb k e hd
    ·obtain rfl:k=n:=by omega
     exact Rat.le_refl
   | some b=>
    have ih:=Zei hb
    by_cases g:better p s Z D n b
    ·rw [YK hb h0 g] at h
     injection h with h
     subst h
     rcases JX k n with e | e
     ·have h1:=ih k e hd
      have h2:WC Z D n≤WC Z D b:=by
       rcases g with g | ⟨g,_⟩
       ·exact Rat.le_of_lt g
       ·rw [g];exact Rat.le_refl
      grind
     ·obtain rfl:k=n:=by omega
      exact Rat.le_refl
    ·rw [Y5 hb h0 g] at h;injection h with h;subst h;rcases JX k n with e | e
     ·exact ih k e hd
     ·obtain rfl:k=n:=by omega
      have:¬WC Z D k < WC Z D b:=fun e=>g (.inl e)
      grind
  ·rw [Xp h0] at h;rcases JX k n with e | e
   ·exact Zei h k e hd
   ·obtain rfl:k=n:=by omega
    exact absurd hd h0
def Zlg (s:LSt) (i:Nat) (j:Int):LSt:=⟨s.phase,s.basis.set i j,s.pivots+1⟩
theorem WX {s:LSt} {i:Nat} {j:Int} (hi:i < s.basis.length) (k:Nat):(Zlg s i j).at_ k=if k=i then j else s.at_ k:=by
 unfold LSt.at_ Zlg;simp only [List.getD_eq_getElem?_getD];by_cases e:k=i
 ·subst e;rw [if_pos rfl,List.getElem?_set_self hi];rfl
 ·rw [if_neg e,List.getElem?_set_ne (fun h=>e h.symm)]
theorem Zvn {p:LPd} {s:LSt} {i:Nat} {j:Int} (hi:i < s.basis.length):(Zlg s i j).mat p=Zou (s.mat p) i (p.col j):=by
 funext k
 show p.col ((Zlg s i j).at_ k)=_;rw [WX hi k];unfold Zou;by_cases e:k=i
 ·rw [if_pos e,if_pos e]
 ·rw [if_neg e,if_neg e];rfl
structure Piv (p:LPd) (s:LSt) (i j:Nat):Prop where
 hi:i < p.right.length
 hj:j < p.cols.length
 red:Wy p s (j:Int) < 0
 d0:qAt (dirL p s (j:Int)) i≠0
 dz:0 < qAt (dirL p s (j:Int)) i∨qAt (zL p s) i=0
 rat:∀k,k < p.right.length→0 < qAt (dirL p s (j:Int)) k→qAt (zL p s) i=0∨WC (zL p s) (dirL p s (j:Int)) i≤WC (zL p s) (dirL p s (j:Int)) k
 art:s.phase=2→∀k,k < p.right.length→s.at_ k < 0→qAt (zL p s) i=0∨qAt (dirL p s (j:Int)) k=0
theorem Zvo {p:LPd} {s:LSt} (h:Val p s) {t:LSt} (e:Zco p s=some t):∃i j:Nat,Piv p s i j∧t=settleQ p (Zlg s i (j:Int)):=by
 by_cases hq:Yh p s=0
 ·cases hl:WV p s (zL p s) (WS p s) with
  | none=>rw [Ycg hl] at e;cases e
  | some i=>
   rw [Zvm hq hl] at e;injection e with e;obtain ⟨j,l,hj,hJ,hD⟩:=Zfm hq;rw [hJ] at e;rw [hD] at hl;have c:=Zfo h.reg (j:Int);have hi:i < p.right.length:=(by rw [← c];exact Znh hl);refine ⟨i,j,?_,e.symm⟩;have a:=(YM l).2.2.1;by_cases b:s.phase=2
   ·cases hf:YI (Zqy s (dirL p s (j:Int))) 0 (dirL p s (j:Int)).length with
    | some i'=>
     rw [Zjf b hf] at hl;injection hl with hl;subst hl;obtain ⟨_,_,f3,_⟩:=YM hf;have ha:s.at_ i' < 0∧qAt (dirL p s (j:Int)) i'≠0:=by
      unfold Zqy at f3;split at f3
      ·assumption
      ·exact absurd f3 (by decide)
     have hz:=h.art b i' hi ha.1;exact ⟨hi,hj,a,ha.2,.inr hz,fun _ _ _=> .inl hz,fun _ _ _ _=> .inl hz⟩
    | none=>
     rw [Zjg b hf] at hl;have hp:=(VP hl).2;refine ⟨hi,hj,a,fun e=>by rw [e] at hp;exact absurd hp (by decide),.inl hp,fun k hk hd=> .inr (Zei hl k (by rw [c];exact hk) hd),fun _ k hk ha=> .inr ?_⟩;by_cases e0:qAt (dirL p s (j:Int)) k=0
     ·exact e0
     ·exfalso;have d:∀(f:Nat→Rat) (n r:Nat),YI f r n=none→∀i,r≤i→i < r+n→¬f i < 0:=by
       intro f n
       induction n with
       | zero=>intro r _ i h1 h2;omega
       | succ n ih=>
        intro r hr i h1 h2;unfold YI at hr;split at hr
        ·cases hr
        ·rename_i g
         rcases Nat.eq_or_lt_of_le h1 with e | e
         ·subst e;exact g
         ·exact ih (r+1) hr i (by omega) (by omega)
      exact d _ _ _ hf k (Nat.zero_le _) (by rw [c];omega) (Zng ha e0)
   ·rw [Zje b] at hl;have hp:=(VP hl).2;exact ⟨hi,hj,a,fun e=>by rw [e] at hp;exact absurd hp (by decide),.inl hp,fun k hk hd=> .inr (Zei hl k (by rw [c];exact hk) hd),fun e=>absurd e b⟩
 ·rw [Ycf hq] at e;cases e
theorem Piv.z {p:LPd} {s:LSt} (h:Val p s) {i j:Nat} (c:Piv p s i j):Reg p (Zlg s i (j:Int))∧qAt (zL p (Zlg s i (j:Int))) i=qAt (zL p s) i / qAt (dirL p s (j:Int)) i∧
 ∀k,k < p.right.length→k≠i→qAt (zL p (Zlg s i (j:Int))) k=qAt (zL p s) k - qAt (dirL p s (j:Int)) k * (qAt (zL p s) i / qAt (dirL p s (j:Int)) i):=by
 have hb:i < s.basis.length:=by rw [h.fit.len];exact c.hi
 have a:Reg p (Zlg s i (j:Int)):=by
  unfold Reg;rw [Zvn hb];exact Zov c.hi h.reg (Zeg h.reg (j:Int)) c.d0
 have hx:=Yht a (x:=fun k=>if k=i then qAt (zL p s) i / qAt (dirL p s (j:Int)) i else qAt (zL p s) k - qAt (dirL p s (j:Int)) k * (qAt (zL p s) i / qAt (dirL p s (j:Int)) i)) (by
  rw [Zvn hb];exact Zum c.hi (Zeg h.reg (j:Int)) c.d0 (Ycl h.reg) (if_pos rfl) fun k _ hne=>by
   simp only [if_neg hne];simp)
 refine ⟨a,?_,fun k hk hne=>?_⟩
 ·rw [hx i c.hi,if_pos rfl]
 ·rw [hx k hk,if_neg hne]
theorem Piv.val {p:LPd} {s:LSt} (h:Val p s) {i j:Nat} (c:Piv p s i j):Val p (Zlg s i (j:Int)):=by
 have hb:i < s.basis.length:=by rw [h.fit.len];exact c.hi
 obtain ⟨n,q,o⟩:=c.z h;have d:0≤qAt (zL p s) i / qAt (dirL p s (j:Int)) i:=by
  rcases c.dz with e | e
  ·rw [Rat.div_def];exact Rat.mul_nonneg (h.pos i c.hi) (Rat.le_of_lt (Rat.inv_pos.2 e))
  ·rw [e];simp [Rat.div_def]
 have f:qAt (zL p s) i=0→qAt (zL p s) i / qAt (dirL p s (j:Int)) i=0:=fun e=>by rw [e];simp [Rat.div_def]
 refine ⟨Yci h.fit (by omega) (by have:=c.hj;omega) i _,h.ph,by have:=h.pv;show 0≤s.pivots+1;omega,fun a ha b hab=>?_,n,fun k hk=>?_,fun e k hk ha=>?_⟩
 ·rw [WX hb,WX hb];have m:∀l,l < p.right.length→(j:Int)≠s.at_ l:=fun l hl e=>by
   have h1:=c.red;rw [e,Zak h.reg hl] at h1;exact absurd h1 (by decide)
  by_cases e1:a=i
  ·rw [if_pos e1,if_neg (by omega)];exact m b (by omega)
  ·rw [if_neg e1];by_cases e2:b=i
   ·rw [if_pos e2];exact fun e=>m a ha e.symm
   ·rw [if_neg e2];exact h.dup a ha b hab
 ·by_cases e:k=i
  ·rw [e,q];exact d
  ·rw [o k hk e];have r:=h.pos k hk;by_cases hd:0 < qAt (dirL p s (j:Int)) k
   ·rcases c.rat k hk hd with g | g
    ·rw [f g];grind
    ·unfold WC at g;generalize qAt (zL p s) i / qAt (dirL p s (j:Int)) i=ρ at *;have h2:ρ * qAt (dirL p s (j:Int)) k≤qAt (zL p s) k / qAt (dirL p s (j:Int)) k * qAt (dirL p s (j:Int)) k:=Rat.mul_le_mul_of_nonneg_right g (Rat.le_of_lt hd);rw [Rat.div_mul_cancel (fun e=>by rw [e] at hd;exact absurd hd (by decide))] at h2;grind
   ·generalize qAt (zL p s) i / qAt (dirL p s (j:Int)) i=ρ at *;have h2:0≤ -qAt (dirL p s (j:Int)) k * ρ:=Rat.mul_nonneg (by grind) d;grind
 ·have e':s.phase=2:=e;rw [WX hb] at ha;by_cases e1:k=i
  ·rw [if_pos e1] at ha;omega
  ·rw [if_neg e1] at ha;rw [o k hk e1,h.art e' k hk ha];rcases c.art e' k hk ha with g | g
   ·rw [f g];grind
   ·rw [g];grind
theorem Zgw {p:LPd} {s t:LSt} (h:Val p s) (e:Zco p s=some t):Val p t:=by
 obtain ⟨i,j,c,rfl⟩:=Zvo h e;exact (c.val h).settle
theorem Zgx {p:LPd}:∀{n:Nat} {s:LSt},Val p s→Val p (VC p n s)
 | 0,_,h=>h
 | n+1,s,h=>by
  cases e:Zco p s with
  | none=>rw [XK e];exact h
  | some t=>rw [Wx e];exact Zgx (Zgw h e)
theorem Zgy {p:LPd}:∀{a b:Nat} {s:LSt},VC p (a+b) s=VC p b (VC p a s)
 | 0,b,s=>by rw [Nat.zero_add];rfl
 | a+1,b,s=>by
  cases e:Zco p s with
  | none=>rw [XK e,XK e,XK e]
  | some t=>rw [show a+1+b=(a+b)+1 by omega,Wx e,Wx e];exact Zgy
end Pl
end
section
namespace Pl
section
variable {p:LPd} {s:LSt}
def Zfr (p:LPd) (ph:Int) (s:LSt):Rat:=ZN (fun i=>Xa p ph (s.at_ i) * qAt (zL p s) i) p.right.length
def Yhu (p:LPd) (s:LSt) (j:Int):Rat:=ZN (fun r=>p.col j r * qAt (YH p s) r) p.right.length
theorem Zge (h:Reg p s) (j:Int):Wy p s j=Xa p s.phase j - Yhu p s j:=by
 unfold Wy;rw [UB h,Nat.min_self,Zig];have e:Zgf (YH p s) (p.col j) p.right.length=Yhu p s j:=Zh fun r _=>by grind
 rw [e]
theorem Zqf (h:Reg p s) {x b:Nat→Rat} (hx:∀r,r < p.right.length→X6 p.right.length (s.mat p) x r=b r):ZN (fun r=>b r * qAt (YH p s) r) p.right.length=ZN (fun i=>Xa p s.phase (s.at_ i) * x i) p.right.length:=by
 rw [Zh (g:=fun r=>ZN (fun i=>x i * (s.mat p i r * qAt (YH p s) r)) p.right.length) fun r hr=>by
  rw [← hx r hr];unfold X6;rw [Rat.mul_comm,← YG];exact Zh fun i _=>by grind]
 rw [WO];exact Zh fun i hi=>by rw [YG,Zqd h i hi];grind
theorem Ygd (h:Reg p s):ZN (fun r=>qAt p.right r * qAt (YH p s) r) p.right.length=Zfr p s.phase s:=Zqf h (Ycl h)
theorem Zgz (h:Reg p s) (j:Int):Yhu p s j=ZN (fun i=>Xa p s.phase (s.at_ i) * qAt (dirL p s j) i) p.right.length:=Zqf h (Zeg h j)
theorem Piv.obj (h:Val p s) {i j:Nat} (c:Piv p s i j):Zfr p s.phase (Zlg s i (j:Int))=Zfr p s.phase s+Wy p s (j:Int) * (qAt (zL p s) i / qAt (dirL p s (j:Int)) i):=by
 have hb:i < s.basis.length:=by rw [h.fit.len];exact c.hi
 obtain ⟨d,a,b⟩:=c.z h;rw [Zge h.reg,Zgz h.reg];unfold Zfr;obtain ⟨ρ,hρ⟩:∃ρ,ρ=qAt (zL p s) i / qAt (dirL p s (j:Int)) i:=⟨_,rfl⟩;have hd:ρ * qAt (dirL p s (j:Int)) i=qAt (zL p s) i:=by rw [hρ];exact Rat.div_mul_cancel c.d0
 rw [← hρ];rw [Zh (g:=fun k=>(Xa p s.phase (s.at_ k) * qAt (zL p s) k - ρ * (Xa p s.phase (s.at_ k) * qAt (dirL p s (j:Int)) k))+(if k=i then Xa p s.phase (j:Int) * ρ else 0)) fun k hk=>by
  rw [WX hb];by_cases e:k=i
  ·subst e;rw [if_pos rfl,if_pos rfl,a,← hρ];grind
  ·rw [if_neg e,if_neg e,b k hk e,← hρ];grind]
 rw [Wi,Zgq,YG,XU c.hi];grind
theorem Piv.ratio (h:Val p s) {i j:Nat} (c:Piv p s i j):0≤qAt (zL p s) i / qAt (dirL p s (j:Int)) i:=by
 rcases c.dz with e | e
 ·rw [Rat.div_def];exact Rat.mul_nonneg (h.pos i c.hi) (Rat.le_of_lt (Rat.inv_pos.2 e))
 ·rw [e];simp [Rat.div_def]
theorem Piv.obj_le (h:Val p s) {i j:Nat} (c:Piv p s i j):Zfr p s.phase (Zlg s i (j:Int))≤Zfr p s.phase s:=by
 rw [c.obj h];have h1:=c.ratio h;have h2:=c.red;have h3:0≤ -Wy p s (j:Int) * (qAt (zL p s) i / qAt (dirL p s (j:Int)) i):=Rat.mul_nonneg (by grind) h1;grind
theorem Zlh (ph:Int):Zfr p ph (settleQ p s)=Zfr p ph s:=rfl
def X4 (p:LPd) (s:LSt):Prop:=settleQ p s=s
theorem settled_settle:X4 p (settleQ p s):=settle_twice
theorem Zqg {t:LSt} (e:Zco p s=some t):X4 p t:=by
 unfold Zco at e;split at e
 ·split at e
  ·cases e
  ·injection e with e;subst e;exact settled_settle
 ·cases e
theorem runL_settled:∀{n:Nat} {s:LSt},X4 p s→X4 p (VC p n s)
 | 0,_,h=>h
 | n+1,s,h=>by
  cases e:Zco p s with
  | none=>rw [XK e];exact h
  | some t=>rw [Wx e];exact runL_settled (Zqg e)
theorem Zli (h:Val p s) {t:LSt} (e:Zco p s=some t):s.phase≤t.phase∧t.phase≤2∧t.pivots=s.pivots+1:=by
 obtain ⟨i,j,c,rfl⟩:=Zvo h e;have hp:=h.ph;refine ⟨?_,?_,rfl⟩
 ·show s.phase≤(if UE (Zlg s i (j:Int)) _ _=true then s.phase else 2);split <;> omega
 ·show (if UE (Zlg s i (j:Int)) _ _=true then s.phase else 2)≤2;split <;> omega
theorem runL_phase:∀{n:Nat} {s:LSt},Val p s→s.phase≤(VC p n s).phase
 | 0,s,_=>Int.le_refl _
 | n+1,s,h=>by
  cases e:Zco p s with
  | none=>rw [XK e];exact Int.le_refl _
  | some t=>rw [Wx e];exact Int.le_trans (Zli h e).1 (runL_phase (Zgw h e))
theorem runL_pivots:∀{n:Nat} {s:LSt},Val p s→(VC p n s).pivots≤s.pivots+n
 | 0,s,_=>by show s.pivots≤s.pivots+0;omega
 | n+1,s,h=>by
  cases e:Zco p s with
  | none=>rw [XK e];omega
  | some t=>
   rw [Wx e]
   have h1:=runL_pivots (n:=n) (Zgw h e)
   have h2:=(Zli h e).2.2
   omega
end
end Pl
end
namespace Pl
theorem cross {P:Nat→Prop}:∀{d x:Nat},P x→¬P (x+d)→∃k,x≤k∧k < x+d∧P k∧¬P (k+1)
 | 0,x,h1,h2=>absurd h1 h2
 | d+1,x,h1,h2=>by
  by_cases h:P (x+1)
  ·obtain ⟨k,a,b,c⟩:=cross (d:=d) (x:=x+1) h (by rw [show x+1+d=x+(d+1) by omega];exact h2)
   exact ⟨k,by omega,by omega,c⟩
  ·exact ⟨x,JY _,by omega,h1,h⟩
theorem Ycn {P:Nat→Prop} {x y:Nat} (hxy:x≤y) (h1:P x) (h2:¬P y):∃k,x≤k∧k < y∧P k∧¬P (k+1):=by
 obtain ⟨k,a,b,c⟩:=cross (P:=P) (d:=y - x) (x:=x) h1 (by rw [show x+(y - x)=y by omega];exact h2);exact ⟨k,a,by omega,c⟩
theorem Yhv {P:Nat→Prop} {a b x y:Nat} (hx:a≤x∧x≤b) (hy:a≤y∧y≤b) (hc:P a↔P b) (h1:P x) (h2:¬P y):∃k,a≤k∧k < b∧P k∧¬P (k+1):=by
 rcases JX y x with e | e
 ·by_cases hb:P b
  ·obtain ⟨k,c1,c2,c3⟩:=Ycn hy.1 (hc.2 hb) h2;exact ⟨k,c1,by omega,c3⟩
  ·obtain ⟨k,c1,c2,c3⟩:=Ycn hx.2 h1 hb;exact ⟨k,by omega,c2,c3⟩
 ·obtain ⟨k,c1,c2,c3⟩:=Ycn e h1 h2;exact ⟨k,by omega,by omega,c3⟩
theorem greatest (J:Nat→Nat) {a:Nat}:∀{d:Nat},∃k,a≤k∧k < a+d+1∧∀l,a≤l→l < a+d+1→J l≤J k
 | 0=>⟨a,JY _,by omega,fun l h1 h2=>by
  obtain rfl:l=a:=by omega
  exact JY _⟩
 | d+1=>by
  obtain ⟨k,h1,h2,h3⟩:=greatest J (a:=a) (d:=d)
  rcases JX (J k) (J (a+d+1)) with e | e
  ·refine ⟨a+d+1,by omega,by omega,fun l l1 l2=>?_⟩
   rcases JX l (a+d+1) with g | g
   ·exact JW (h3 l l1 g) (Nat.le_of_lt e)
   ·obtain rfl:l=a+d+1:=by omega
    exact JY _
  ·refine ⟨k,h1,by omega,fun l l1 l2=>?_⟩
   rcases JX l (a+d+1) with g | g
   ·exact h3 l l1 g
   ·obtain rfl:l=a+d+1:=by omega
    exact e
theorem Zbd {p:LPd} {s:LSt} {Z D:List RF}:∀{n t:Nat},XN p s Z D n=some t→∀k,k < n→0 < qAt D k→WC Z D t < WC Z D k∨(WC Z D t=WC Z D k∧Zqv p (s.at_ t)≤Zqv p (s.at_ k))
 | 0,t,h,k,hk,_=>by omega
 | n+1,t,h,k,hk,hd=>by
  by_cases h0:0 < qAt D n
  ·cases hb:XN p s Z D n with
   | none=>
    rw [XJ hb h0] at h
    injection h with h
    subst h
    rcases JX k n with e | e
    ·exfalso
     have:∀{m:Nat},XN p s Z D m=none→∀k,k < m→¬0 < qAt D k:=fun {m}=>by
      induction m with
      | zero=>intro _ k hk;omega
      | succ m ih=>
       intro hm k hk
       by_cases hq:0 < qAt D m
       ·exfalso
        cases hb2:XN p s Z D m with
        | none=>rw [XJ hb2 hq] at hm;cases hm
        | some b=>
         by_cases g:better p s Z D m b
         ·rw [YK hb2 hq g] at hm;cases hm
         ·rw [Y5 hb2 hq g] at hm;cases hm
       ·rw [Xp hq] at hm
        rcases JX k m with e' | e'
        ·exact ih hm k e'
        ·obtain rfl:k=m:=by omega
         exact hq
     exact this hb k e hd
    ·obtain rfl:k=n:=by omega
     exact .inr ⟨rfl,Int.le_refl _⟩
   | some b=>
    have ih:=Zbd hb
    by_cases g:better p s Z D n b
    ·rw [YK hb h0 g] at h
     injection h with h
     subst h
     rcases JX k n with e | e
     ·rcases ih k e hd with i1 | ⟨i1,i2⟩
      ·rcases g with g | ⟨g,_⟩
       ·left;grind
       ·left;rw [g];exact i1
      ·rcases g with g | ⟨g,g2⟩
       ·left;rw [← i1];exact g
       ·right;exact ⟨by rw [g,i1],by omega⟩
     ·obtain rfl:k=n:=by omega
      exact .inr ⟨rfl,Int.le_refl _⟩
    ·rw [Y5 hb h0 g] at h
     injection h with h
     subst h
     rcases JX k n with e | e
     ·exact ih k e hd
     ·obtain rfl:k=n:=by omega
      have h1:¬WC Z D k < WC Z D b:=fun e=>g (.inl e)
      by_cases h2:WC Z D b=WC Z D k
      ·right
       refine ⟨h2,Int.not_lt.1 fun e=>g (.inr ⟨h2.symm,e⟩)⟩
      ·left;grind
  ·rw [Xp h0] at h
   rcases JX k n with e | e
   ·exact Zbd h k e hd
   ·obtain rfl:k=n:=by omega
    exact absurd hd h0
structure Stp (p:LPd) (s t:LSt) (i j:Nat):Prop where
 piv:Piv p s i j
 ent:∀l:Nat,l < j→¬Wy p s (l:Int) < 0
 eq:t=settleQ p (Zlg s i (j:Int))
 lv:0≤s.at_ i→0 < qAt (dirL p s (j:Int)) i∧∀k,k < p.right.length→0 < qAt (dirL p s (j:Int)) k→WC (zL p s) (dirL p s (j:Int)) i < WC (zL p s) (dirL p s (j:Int)) k∨(WC (zL p s) (dirL p s (j:Int)) i=WC (zL p s) (dirL p s (j:Int)) k∧Zqv p (s.at_ i)≤Zqv p (s.at_ k))
theorem Yna {p:LPd} {s t:LSt} (h:Val p s) (e:Zco p s=some t):∃i j:Nat,Stp p s t i j:=by
 by_cases hq:Yh p s=0
 ·cases hl:WV p s (zL p s) (WS p s) with
  | none=>rw [Ycg hl] at e;cases e
  | some i=>
   obtain ⟨i',j',c,ht⟩:=Zvo h e;rw [Zvm hq hl] at e;injection e with e;obtain ⟨j,f,hj,hJ,hD⟩:=Zfm hq;rw [hJ] at e;rw [hD] at hl;have a:=Zfo h.reg (j:Int);have hi:i < p.right.length:=(by rw [← a];exact Znh hl);have hb:i < s.basis.length:=(by rw [h.fit.len];exact hi);have m:i' < s.basis.length:=by rw [h.fit.len];exact c.hi
   -- the same pivot
   have n:∀l,l < p.right.length→(j:Int)≠s.at_ l:=fun l hl2 e2=>by
    have h1:Wy p s (j:Int) < 0:=(YM f).2.2.1;rw [e2,Zak h.reg hl2] at h1;exact absurd h1 (by decide)
   have d:∀k,(Zlg s i (j:Int)).at_ k=(Zlg s i' (j':Int)).at_ k:=fun k=>by
    have:(settleQ p (Zlg s i (j:Int))).at_ k=(settleQ p (Zlg s i' (j':Int))).at_ k:=by rw [← ht,← e];rfl
    exact this
   have o:i=i':=by
    by_cases g:i=i'
    ·exact g
    ·exfalso;have h1:=d i;rw [WX hb,WX m,if_pos rfl,if_neg g] at h1;exact n i hi h1
   subst o;have q:j=j':=by
    have h1:=d i;rw [WX hb,WX hb,if_pos rfl,if_pos rfl] at h1;omega
   subst q;refine ⟨i,j,c,fun l hl2=>(YM f).2.2.2 l (Nat.zero_le _) hl2,ht,fun hr=>?_⟩;by_cases b:s.phase=2
   ·cases hf:YI (Zqy s (dirL p s (j:Int))) 0 (dirL p s (j:Int)).length with
    | some i2=>
     exfalso;rw [Zjf b hf] at hl;injection hl with hl;subst hl;have f3:=(YM hf).2.2.1;unfold Zqy at f3;split at f3
     ·rename_i g;omega
     ·exact absurd f3 (by decide)
    | none=>
     rw [Zjg b hf] at hl;exact ⟨(VP hl).2,fun k hk hd=>Zbd hl k (by rw [a];exact hk) hd⟩
   ·rw [Zje b] at hl;exact ⟨(VP hl).2,fun k hk hd=>Zbd hl k (by rw [a];exact hk) hd⟩
 ·rw [Ycf hq] at e;cases e
theorem Zej {s t:LSt} (h:s.basis=t.basis) (k:Nat):s.at_ k=t.at_ k:=by unfold LSt.at_;rw [h]
theorem Zvp {p:LPd} {s t:LSt} (h:s.basis=t.basis):zL p s=zL p t:=by
 have:s.mat p=t.mat p:=by funext k;show p.col (s.at_ k)=p.col (t.at_ k);rw [Zej h]
 unfold zL;rw [this]
theorem Yco {p:LPd} {s t:LSt} (ph:Int) (h:s.basis=t.basis):Zfr p ph s=Zfr p ph t:=by
 unfold Zfr;rw [Zvp h];exact Zh fun i _=>by rw [Zej h]
theorem Stp.at_ {p:LPd} {s t:LSt} {i j:Nat} (h:Val p s) (c:Stp p s t i j) (k:Nat):t.at_ k=if k=i then (j:Int) else s.at_ k:=by
 rw [c.eq,Ycm,WX (by rw [h.fit.len];exact c.piv.hi)]
theorem Yky {p:LPd} {S:Nat→LSt} {I J:Nat→Nat} {a b:Nat} {φ:Int} (hab:a < b) (hv:∀k,a≤k→k≤b→Val p (S k)) (hs:∀k,a≤k→k < b→Stp p (S k) (S (k+1)) (I k) (J k)) (hph:∀k,a≤k→k≤b→(S k).phase=φ) (heq:(S a).basis=(S b).basis):False:=by
 have v:∀k,a≤k→k < b→∀l,(S (k+1)).at_ l=if l=I k then (J k:Int) else (S k).at_ l:=fun k h1 h2 l=>(hs k h1 h2).at_ (hv k h1 (by omega)) l
 -- the objective stays
 have D:∀k,a≤k→k < b→Zfr p φ (S (k+1))=Zfr p φ (S k)+Wy p (S k) (J k:Int) * (qAt (zL p (S k)) (I k) / qAt (dirL p (S k) (J k:Int)) (I k)):=fun k h1 h2=>by
  have:=(hs k h1 h2).piv.obj (hv k h1 (by omega));rw [hph k h1 (by omega)] at this;rw [(hs k h1 h2).eq,Zlh];exact this
 have F:∀k,a≤k→k < b→Zfr p φ (S (k+1))≤Zfr p φ (S k):=fun k h1 h2=>by
  have:=(hs k h1 h2).piv.obj_le (hv k h1 (by omega));rw [hph k h1 (by omega)] at this;rw [(hs k h1 h2).eq,Zlh];exact this
 have o:∀d x,a≤x→x+d≤b→Zfr p φ (S (x+d))≤Zfr p φ (S x):=by
  intro d
  induction d with
  | zero=>intro x _ _;exact Rat.le_refl
  | succ d ih=>
   intro x h1 h2;have e1:=ih x h1 (by omega);have e2:=F (x+d) (by omega) (by omega);rw [show x+(d+1)=x+d+1 by omega];grind
 have M:Zfr p φ (S a)=Zfr p φ (S b):=Yco φ heq;have A:∀k,a≤k→k < b→Zfr p φ (S (k+1))=Zfr p φ (S k):=fun k h1 h2=>by
  have e1:=o (k - a) a (JY _) (by omega);rw [show a+(k - a)=k by omega] at e1;have e2:=o (b - (k+1)) (k+1) (by omega) (by omega);rw [show k+1+(b - (k+1))=b by omega] at e2;have e3:=F k h1 h2;grind
 have f:∀k,a≤k→k < b→qAt (zL p (S k)) (I k)=0:=fun k h1 h2=>by
  have e1:=D k h1 h2;rw [A k h1 h2] at e1;have hr:=(hs k h1 h2).piv.red;have e2:Wy p (S k) (J k:Int) * (qAt (zL p (S k)) (I k) / qAt (dirL p (S k) (J k:Int)) (I k))=0:=by grind
  have e3:qAt (zL p (S k)) (I k) / qAt (dirL p (S k) (J k:Int)) (I k)=0:=by
   rcases Rat.mul_eq_zero.1 e2 with g | g
   ·rw [g] at hr;exact absurd hr (by decide)
   ·exact g
  have e4:=Rat.div_mul_cancel (a:=qAt (zL p (S k)) (I k)) (hs k h1 h2).piv.d0;rw [e3] at e4;grind
 -- the basic values stay
 have hZ:∀k,a≤k→k < b→∀l,l < p.right.length→qAt (zL p (S (k+1))) l=qAt (zL p (S k)) l:=fun k h1 h2 l hl=>by
  obtain ⟨_,z1,z2⟩:=(hs k h1 h2).piv.z (hv k h1 (by omega));rw [(hs k h1 h2).eq,settle_zL];by_cases e:l=I k
  ·rw [e,z1,f k h1 h2];simp [Rat.div_def]
  ·rw [z2 l hl e,f k h1 h2];simp [Rat.div_def];grind
 have G:∀d x,a≤x→x+d≤b→∀l,l < p.right.length→qAt (zL p (S (x+d))) l=qAt (zL p (S x)) l:=by
  intro d
  induction d with
  | zero=>intro x _ _ l _;rfl
  | succ d ih=>
   intro x h1 h2 l hl;rw [show x+(d+1)=x+d+1 by omega,hZ (x+d) (by omega) (by omega) l hl];exact ih x h1 (by omega) l hl
 have N:∀x y,a≤x→x≤b→a≤y→y≤b→∀l,l < p.right.length→qAt (zL p (S x)) l=qAt (zL p (S y)) l:=fun x y h1 h2 h3 h4 l hl=>by
  have e1:=G (x - a) a (JY _) (by omega) l hl;have e2:=G (y - a) a (JY _) (by omega) l hl;rw [show a+(x - a)=x by omega] at e1;rw [show a+(y - a)=y by omega] at e2;rw [e1,e2]
 -- the greatest column that enters
 obtain ⟨k0,h,j,s⟩:=greatest J (a:=a) (d:=b - a - 1);rw [show a+(b - a - 1)+1=b by omega] at j s;have hc:∀l u,((S a).at_ l=u)↔((S b).at_ l=u):=fun l u=>by rw [Zej heq]
 have H:∀k,a≤k→k < b→∀l,l < p.right.length→(S k).at_ l≠(J k:Int):=fun k h1 h2 l hl e=>by
  have hr:=(hs k h1 h2).piv.red;rw [← e,Zak (hv k h1 (by omega)).reg hl] at hr;exact absurd hr (by decide)
 -- it leaves somewhere
 obtain ⟨k1,c,i,L,a0⟩:=Yhv (P:=fun k=>(S k).at_ (I k0)=(J k0:Int)) (a:=a) (b:=b) (x:=k0+1) (y:=k0) ⟨by omega,by omega⟩ ⟨by omega,by omega⟩ (hc _ _) (by
  show (S (k0+1)).at_ (I k0)=_;rw [v k0 h j,if_pos rfl]) (H k0 h j _ (hs k0 h j).piv.hi)
 have O:I k1=I k0:=by
  by_cases g:I k0=I k1
  ·exact g.symm
  ·exfalso;refine a0 ?_;show (S (k1+1)).at_ (I k0)=_;rw [v k1 c i,if_neg g];exact L
 have m:(S k1).at_ (I k1)=(J k0:Int):=by rw [O];exact L
 have R:J k1 < J k0:=by
  have e1:=s k1 c i;have e2:J k1≠J k0:=fun e=>H k1 c i (I k1) (hs k1 c i).piv.hi (by rw [m,e])
  omega
 have v0:=hv k0 h (by omega);have v1:=hv k1 c (by omega);have p0:=hph k0 h (by omega);have p1:=hph k1 c (by omega)
 -- the reduced costs of the one in the basis of the other
 have a4:Wy p (S k1) (J k1:Int)=Wy p (S k0) (J k1:Int) - ZN (fun k=>Wy p (S k0) ((S k1).at_ k) * qAt (dirL p (S k1) (J k1:Int)) k) p.right.length:=by
  rw [Zge v1.reg,Zge v0.reg,Zgz v1.reg,p0,p1];have e1:Yhu p (S k0) (J k1:Int)=ZN (fun k=>Yhu p (S k0) ((S k1).at_ k) * qAt (dirL p (S k1) (J k1:Int)) k) p.right.length:=by
   unfold Yhu;rw [Zh (g:=fun r=>ZN (fun k=>qAt (dirL p (S k1) (J k1:Int)) k * (p.col ((S k1).at_ k) r * qAt (YH p (S k0)) r)) p.right.length) fun r hr=>by
    rw [← Zeg v1.reg (J k1:Int) r hr];unfold X6;rw [Rat.mul_comm,← YG];exact Zh fun k _=>by show _ * (p.col ((S k1).at_ k) r * _)=_;grind]
   rw [WO];exact Zh fun k _=>by rw [YG];grind
  have e2:ZN (fun k=>Wy p (S k0) ((S k1).at_ k) * qAt (dirL p (S k1) (J k1:Int)) k) p.right.length=ZN (fun k=>Xa p φ ((S k1).at_ k) * qAt (dirL p (S k1) (J k1:Int)) k - Yhu p (S k0) ((S k1).at_ k) * qAt (dirL p (S k1) (J k1:Int)) k) p.right.length:=Zh fun k _=>by
   rw [Zge v0.reg,p0];grind
  rw [e2,Zgq,← e1];grind
 have T:∃k,k < p.right.length∧0 < Wy p (S k0) ((S k1).at_ k) * qAt (dirL p (S k1) (J k1:Int)) k:=by
  by_cases g:∃k,k < p.right.length∧0 < Wy p (S k0) ((S k1).at_ k) * qAt (dirL p (S k1) (J k1:Int)) k
  ·exact g
  ·exfalso;have h1:ZN (fun k=>Wy p (S k0) ((S k1).at_ k) * qAt (dirL p (S k1) (J k1:Int)) k) p.right.length≤ZN (fun _=>0) p.right.length:=Zif fun k hk=>Rat.not_lt.1 fun e=>g ⟨k,hk,e⟩
   rw [XY] at h1;have h2:=(hs k1 c i).piv.red;have h3:=(hs k0 h j).ent (J k1) R;grind
 obtain ⟨k,hk,n⟩:=T
 -- the column u at place k
 have hu:∀l,l < p.right.length→(S k0).at_ l≠(S k1).at_ k:=fun l hl e=>by
  rw [← e,Zak v0.reg hl] at n;simp at n
 obtain ⟨k2,t,C,a1,a2⟩:=Yhv (P:=fun x=>¬(S x).at_ k=(S k1).at_ k) (a:=a) (b:=b) (x:=k0) (y:=k1) ⟨h,by omega⟩ ⟨c,by omega⟩ (not_congr (hc _ _)) (hu k hk) (fun g=>g rfl);have q:(S (k2+1)).at_ k=(S k1).at_ k:=Classical.byContradiction a2;have K:k=I k2:=by
  by_cases g:k=I k2
  ·exact g
  ·exfalso;rw [v k2 t C,if_neg g] at q;exact a1 q
 have B:(S k1).at_ k=(J k2:Int):=by rw [← q,v k2 t C,if_pos K]
 have U:qAt (zL p (S k1)) k=0:=by
  rw [N k1 k2 c (by omega) t (by omega) k hk,K];exact f k2 t C
 obtain ⟨a3,E⟩:=(hs k1 c i).lv (by rw [m];omega);have V:=(hs k0 h j).piv.red;have X:J k2 < J k0:=by
  have e1:=s k2 t C;have e2:J k2≠J k0:=fun e=>by
   have Y:k=I k1:=by
    by_cases g:k=I k1
    ·exact g
    ·exfalso;have e3:(S k1).at_ k=(S k1).at_ (I k1):=(by rw [B,m,e]);rcases JX k (I k1) with g2 | g2
     ·exact v1.dup (I k1) (hs k1 c i).piv.hi k g2 e3.symm
     ·exact v1.dup k hk (I k1) (by omega) e3
   rw [B,e,Y] at n;have:0≤ -Wy p (S k0) (J k0:Int) * qAt (dirL p (S k1) (J k1:Int)) (I k1):=Rat.mul_nonneg (by grind) (Rat.le_of_lt a3);grind
  omega
 have a5:=(hs k0 h j).ent (J k2) X;rw [B] at n;have Z:0 < qAt (dirL p (S k1) (J k1:Int)) k:=by
  by_cases g:0 < qAt (dirL p (S k1) (J k1:Int)) k
  ·exact g
  ·exfalso;have:0≤Wy p (S k0) (J k2:Int) * -qAt (dirL p (S k1) (J k1:Int)) k:=Rat.mul_nonneg (by grind) (by grind);grind
 have r1:WC (zL p (S k1)) (dirL p (S k1) (J k1:Int)) (I k1)=0:=by unfold WC;rw [f k1 c i];simp [Rat.div_def]
 have r2:WC (zL p (S k1)) (dirL p (S k1) (J k1:Int)) k=0:=by unfold WC;rw [U];simp [Rat.div_def]
 rcases E k hk Z with g | ⟨_,g⟩
 ·rw [r1,r2] at g;exact absurd g (by decide)
 ·rw [m,B] at g;unfold Zqv at g;rw [if_pos (by omega),if_pos (by omega)] at g;omega
theorem Zsz {p:LPd} {s t:LSt} (hs:Val p s) (ht:Val p t) (ss:X4 p s) (st:X4 p t) (h:s.basis=t.basis):s.phase=t.phase:=by
 have a:∀u,Val p u→X4 p u→(u.phase=2↔∀i,i < p.right.length→u.at_ i < 0→qAt (zL p u) i=0):=fun u hu su=>by
  refine ⟨hu.art,fun e=>?_⟩;have h1:UE u (zL p u) (zL p u).length=false:=Zfq fun k hk ha=>e k (by rw [← Zfn hu.reg];exact hk) ha
  have h2:(settleQ p u).phase=u.phase:=congrArg LSt.phase su;rw [← h2];show (if UE u (zL p u) (zL p u).length=true then u.phase else 2)=2;rw [h1,if_neg (by decide)]
 have e1:=a s hs ss;have e2:=a t ht st;have e3:(∀i,i < p.right.length→s.at_ i < 0→qAt (zL p s) i=0)↔(∀i,i < p.right.length→t.at_ i < 0→qAt (zL p t) i=0):=by
  rw [Zvp h];exact ⟨fun g i hi ha=>g i hi (by rw [Zej h];exact ha),fun g i hi ha=>g i hi (by rw [← Zej h];exact ha)⟩
 have e4:s.phase=2↔t.phase=2:=by rw [e1,e2,e3]
 have:=hs.ph;have:=ht.ph;omega
theorem YV {p:LPd} {s:LSt} (h:Val p s) (ss:X4 p s) (k:Nat):Val p (VC p k s)∧X4 p (VC p k s):=⟨Zgx h,runL_settled ss⟩
theorem Yge {p:LPd} {s:LSt} (h:Val p s) (ss:X4 p s) {n:Nat} (hr:∀k,k < n→Zco p (VC p k s)≠none) {a b:Nat} (hab:a < b) (hb:b≤n):(VC p a s).basis≠(VC p b s).basis:=by
 intro o;have l:∀k,k < n→Zco p (VC p k s)=some (VC p (k+1) s):=fun k hk=>by
  cases e:Zco p (VC p k s) with
  | none=>exact absurd e (hr k hk)
  | some t=>rw [Zgy (a:=k) (b:=1),Wx e];rfl
 have m:∀k,∃i j:Nat,k < n→Stp p (VC p k s) (VC p (k+1) s) i j:=fun k=>by
  by_cases hk:k < n
  ·obtain ⟨i,j,c⟩:=Yna (YV h ss k).1 (l k hk);exact ⟨i,j,fun _=>c⟩
  ·exact ⟨0,0,fun g=>absurd g hk⟩
 have hI:∃I:Nat→Nat,∀k,∃j:Nat,k < n→Stp p (VC p k s) (VC p (k+1) s) (I k) j:=⟨fun k=>(m k).choose,fun k=>(m k).choose_spec⟩;obtain ⟨I,hI⟩:=hI;have hJ:∃J:Nat→Nat,∀k,k < n→Stp p (VC p k s) (VC p (k+1) s) (I k) (J k):=⟨fun k=>(hI k).choose,fun k=>(hI k).choose_spec⟩;obtain ⟨J,hJ⟩:=hJ;have f:∀d x,x+d≤n→(VC p x s).phase≤(VC p (x+d) s).phase:=fun d x _=>by
  rw [Zgy];exact runL_phase (YV h ss x).1
 have q:(VC p a s).phase=(VC p b s).phase:=Zsz (YV h ss a).1 (YV h ss b).1 (YV h ss a).2 (YV h ss b).2 o;refine Yky (p:=p) (S:=fun k=>VC p k s) (I:=I) (J:=J) (φ:=(VC p a s).phase) hab (fun k _ _=>(YV h ss k).1) (fun k h1 h2=>hJ k (by omega)) (fun k h1 h2=>?_) o;have e1:=f (k - a) a (by omega);have e2:=f (b - k) k (by omega);rw [show a+(k - a)=k by omega] at e1;rw [show k+(b - k)=b by omega] at e2;show (VC p k s).phase=_;omega
theorem Zye {p:LPd} {s:LSt} (h:Reg p s) (h1:s.phase=1) {j:Nat} (hr:Wy p s (j:Int) < 0):∃i,i < p.right.length∧0 < qAt (dirL p s (j:Int)) i:=by
 by_cases g:∃i,i < p.right.length∧0 < qAt (dirL p s (j:Int)) i
 ·exact g
 ·exfalso;rw [Zge h,Zgz h,h1] at hr;have hc:Xa p 1 (j:Int)=0:=Xo (by omega) (by omega);have hs:ZN (fun i=>Xa p 1 (s.at_ i) * qAt (dirL p s (j:Int)) i) p.right.length≤ZN (fun _=>0) p.right.length:=Zif fun i hi=>by
   have hd:qAt (dirL p s (j:Int)) i≤0:=Rat.not_lt.1 fun e=>g ⟨i,hi,e⟩
   by_cases ha:s.at_ i < 0
   ·rw [Zag ha];grind
   ·rw [Xo (by omega) (by omega)];grind
  rw [XY] at hs;rw [hc] at hr;grind
theorem Zfs {p:LPd} {s:LSt} {Z D:List RF}:∀{n k:Nat},k < n→0 < qAt D k→XN p s Z D n≠none
 | 0,k,h,_=>by omega
 | n+1,k,h,hd=>by
  by_cases h0:0 < qAt D n
  ·cases hb:XN p s Z D n with
   | none=>rw [XJ hb h0];simp
   | some b=>
    by_cases g:better p s Z D n b
    ·rw [YK hb h0 g];simp
    ·rw [Y5 hb h0 g];simp
  ·rw [Xp h0]
   exact Zfs (k:=k) (by
    rcases JX k n with e | e
    ·exact e
    ·obtain rfl:k=n:=by omega
     exact absurd hd h0) hd
theorem Zal {f:Nat→Rat}:∀{n r:Nat},YI f r n=none→∀i,r≤i→i < r+n→¬f i < 0
 | 0,r,_,i,h1,h2=>by omega
 | n+1,r,hr,i,h1,h2=>by
  unfold YI at hr
  split at hr
  ·cases hr
  ·rename_i g
   rcases Nat.eq_or_lt_of_le h1 with e | e
   ·subst e;exact g
   ·exact Zal hr i (by omega) (by omega)
theorem Zji {s:LSt} {D:List RF}:∀{n:Nat},s.phase=2→(∀k,k < n→¬(0 < qAt D k∨(s.at_ k < 0∧qAt D k≠0)))→YN s D n=true
 | 0,h,_=>by simp [YN,h]
 | n+1,h,hk=>by unfold YN;rw [if_neg (hk n (by omega))];exact Zji h fun k hk'=>hk k (by omega)
theorem Ykz {p:LPd} {s:LSt} (h:Val p s) (hq:Yh p s=0):Zco p s≠none:=by
 obtain ⟨j,d,hj,hJ,hD⟩:=Zfm hq;have b:=Zfo h.reg (j:Int);have c:Wy p s (j:Int) < 0:=(YM d).2.2.1;have hl:WV p s (zL p s) (WS p s)≠none:=by
  rw [hD];by_cases a:s.phase=2
  ·cases hf:YI (Zqy s (dirL p s (j:Int))) 0 (dirL p s (j:Int)).length with
   | some i=>rw [Zjf a hf];simp
   | none=>
    rw [Zjg a hf];by_cases g:∃i,i < p.right.length∧0 < qAt (dirL p s (j:Int)) i
    ·obtain ⟨i,hi,hd⟩:=g;exact Zfs (k:=i) (by rw [b];exact hi) hd
    ·exfalso;have f:=Zji (D:=dirL p s (j:Int)) (n:=(dirL p s (j:Int)).length) a fun k hk e=>by
      rcases e with e | ⟨e1,e2⟩
      ·exact g ⟨k,by rw [← b];exact hk,e⟩
      ·exact Zal hf k (Nat.zero_le _) (by omega) (Zng e1 e2)
     rw [(Xb d).1,f] at hq;exact absurd hq (by decide)
  ·have h1:s.phase=1:=(by have:=h.ph;omega);rw [Zje a];obtain ⟨i,hi,hd⟩:=Zye h.reg h1 c;exact Zfs (k:=i) (by rw [b];exact hi) hd
 cases e:WV p s (zL p s) (WS p s) with
 | none=>exact absurd e hl
 | some i=>rw [Zvm hq e];simp
end Pl
namespace Pl
def vc (c:Nat):Bool:=(c % 6==0 || (c % 6 !=c / 6 % 6 && c % 6 !=c / 36)) && (c / 6 % 6==0 || c / 6 % 6 !=c / 36)
def rk:Nat→Nat
 | 0=>0
 | c+1=>rk c+(if vc c then 1 else 0)
theorem rk_mono:∀(d c:Nat),rk c≤rk (c+d)
 | 0,c=>JY _
 | d+1,c=>JW (rk_mono d c) (by rw [← Nat.add_assoc];show rk (c+d)≤rk (c+d)+_;omega)
theorem Yla {c d:Nat} (h:c < d) (hc:vc c=true):rk c < rk d:=by
 have h1:=rk_mono (d - (c+1)) (c+1);rw [show c+1+(d - (c+1))=d by omega] at h1;have h2:rk (c+1)=rk c+1:=by show rk c+_=_;rw [if_pos hc]
 omega
theorem Ynb {c d:Nat} (hc:vc c=true) (hd:vc d=true) (h:rk c=rk d):c=d:=by
 rcases Nat.lt_trichotomy c d with e | e | e
 ·have:=Yla e hc;omega
 ·exact e
 ·have:=Yla e hd;omega
theorem rk_all:rk 216=136:=by decide
theorem Yoj {c:Nat} (h:c < 216) (hc:vc c=true):rk c < 136:=by have:=Yla h hc;rw [rk_all] at this;exact this
def Zbg (s:LSt) (i:Nat):Nat:=(s.at_ i+1).toNat
def Ygf (s:LSt):Nat:=Zbg s 0+6 * Zbg s 1+36 * Zbg s 2
structure Root (p:LPd) (s:LSt):Prop where
 at_:∀i,i < p.right.length→s.at_ i= -1 - (i:Int)∨0≤s.at_ i
 out:∀i,p.right.length≤i→s.at_ i=0
theorem Zyf (p:LPd):Root p (XI p):=⟨fun i hi=> .inl (Zeh hi),fun i hi=>by
 unfold LSt.at_
 have:(XI p).basis.length≤i:=by show (Zsy _).length≤i;rw [UA];exact hi
 simp [List.getD,JU this]⟩
theorem Root.settle {p:LPd} {s:LSt} (h:Root p s):Root p (settleQ p s):=⟨h.at_,h.out⟩
theorem Root.piv {p:LPd} {s t:LSt} (h:Root p s) (hv:Val p s) (e:Zco p s=some t):Root p t:=by
 obtain ⟨i,j,c,rfl⟩:=Zvo hv e;have hb:i < s.basis.length:=by rw [hv.fit.len];exact c.hi
 have:Root p (Zlg s i (j:Int)):=⟨fun k hk=>by
  rw [WX hb];by_cases g:k=i
  ·rw [if_pos g];right;omega
  ·rw [if_neg g];exact h.at_ k hk,fun k hk=>by
  rw [WX hb,if_neg (by have:=c.hi;omega)];exact h.out k hk⟩
 exact this.settle
theorem Root.run {p:LPd}:∀{n:Nat} {s:LSt},Root p s→Val p s→Root p (VC p n s)
 | 0,_,h,_=>h
 | n+1,s,h,hv=>by
  cases e:Zco p s with
  | none=>rw [XK e];exact h
  | some t=>rw [Wx e];exact (h.piv hv e).run (Zgw hv e)
theorem Zek {p:LPd} {s:LSt} (h:Root p s) (hv:Val p s) (hn:p.cols.length≤5) (i:Nat):Zbg s i < 6∧(i < p.right.length→(Zbg s i=0↔s.at_ i < 0)):=by
 unfold Zbg;rcases JX i p.right.length with hi | hi
 ·have a:i < s.basis.length:=by rw [hv.fit.len];exact hi
  have h1:=hv.fit.in_ i _ (JQ a);rw [← LSt.at_eq (JQ a)] at h1;have h2:=h.at_ i hi;exact ⟨by omega,fun _=>by omega⟩
 ·rw [h.out i hi];exact ⟨by decide,fun g=>by omega⟩
theorem code_inj {p:LPd} {s t:LSt} (h:Root p s) (hv:Val p s) (g:Root p t) (gv:Val p t) (hm:p.right.length≤3) (hn:p.cols.length≤5) (e:Ygf s=Ygf t):s.basis=t.basis:=by
 have a0:=(Zek h hv hn 0).1;have a1:=(Zek h hv hn 1).1;have b0:=(Zek g gv hn 0).1;have b1:=(Zek g gv hn 1).1;unfold Ygf at e;have e0:Zbg s 0=Zbg t 0:=by omega
 have e1:Zbg s 1=Zbg t 1:=by omega
 have e2:Zbg s 2=Zbg t 2:=by omega
 have a:∀i,i < p.right.length→Zbg s i=Zbg t i→s.at_ i=t.at_ i:=fun i hi hd=>by
  have h1:=h.at_ i hi;have h2:=g.at_ i hi;unfold Zbg at hd;omega
 refine List.ext_getElem? fun i=>?_
 rcases JX i p.right.length with hi | hi
 ·have hs:i < s.basis.length:=by rw [hv.fit.len];exact hi
  have ht:i < t.basis.length:=by rw [gv.fit.len];exact hi
  have:s.at_ i=t.at_ i:=by
   have:i=0∨i=1∨i=2:=by omega
   rcases this with rfl | rfl | rfl
   ·exact a 0 hi e0
   ·exact a 1 hi e1
   ·exact a 2 hi e2
  rw [LSt.at_eq (JQ hs),LSt.at_eq (JQ ht)] at this;rw [JQ hs,JQ ht,this]
 ·rw [JU (by rw [hv.fit.len];exact hi),JU (by rw [gv.fit.len];exact hi)]
def Zqh (p:LPd) (s:LSt):Nat:=(if 0 < p.right.length then Zbg s 0 else 0)+6 * (if 1 < p.right.length then Zbg s 1 else 0)+36 * (if 2 < p.right.length then Zbg s 2 else 0)
theorem Zni {p:LPd} {s:LSt} (h:Root p s) (hv:Val p s) (hn:p.cols.length≤5):Zqh p s < 216∧vc (Zqh p s)=true:=by
 have a0:=Zek h hv hn 0;have a1:=Zek h hv hn 1;have a2:=Zek h hv hn 2;obtain ⟨d0,h0⟩:∃d,d=(if 0 < p.right.length then Zbg s 0 else 0):=⟨_,rfl⟩;obtain ⟨d1,h1⟩:∃d,d=(if 1 < p.right.length then Zbg s 1 else 0):=⟨_,rfl⟩;obtain ⟨d2,h2⟩:∃d,d=(if 2 < p.right.length then Zbg s 2 else 0):=⟨_,rfl⟩;have l0:d0 < 6:=by rw [h0];split <;> omega
 have l1:d1 < 6:=by rw [h1];split <;> omega
 have l2:d2 < 6:=by rw [h2];split <;> omega
 have c:∀a b,a < b→b < p.right.length→Zbg s a≠0→Zbg s a≠Zbg s b:=fun a b hab hb h0' e=>by
  have c1:=h.at_ a (by omega);have c2:=h.at_ b hb;have c3:=hv.dup b hb a hab;unfold Zbg at h0' e;omega
 have f:d0=0∨d0≠d1:=by
  rw [h0,h1];by_cases g0:0 < p.right.length
  ·rw [if_pos g0];by_cases g1:1 < p.right.length
   ·rw [if_pos g1];by_cases z:Zbg s 0=0
    ·exact .inl z
    ·exact .inr (c 0 1 (by omega) g1 z)
   ·rw [if_neg g1];omega
  ·rw [if_neg g0];exact .inl rfl
 have g:d0=0∨d0≠d2:=by
  rw [h0,h2];by_cases g0:0 < p.right.length
  ·rw [if_pos g0];by_cases g1:2 < p.right.length
   ·rw [if_pos g1];by_cases z:Zbg s 0=0
    ·exact .inl z
    ·exact .inr (c 0 2 (by omega) g1 z)
   ·rw [if_neg g1];omega
  ·rw [if_neg g0];exact .inl rfl
 have i:d1=0∨d1≠d2:=by
  rw [h1,h2];by_cases g0:1 < p.right.length
  ·rw [if_pos g0];by_cases g1:2 < p.right.length
   ·rw [if_pos g1];by_cases z:Zbg s 1=0
    ·exact .inl z
    ·exact .inr (c 1 2 (by omega) g1 z)
   ·rw [if_neg g1];omega
  ·rw [if_neg g0];exact .inl rfl
 have e:Zqh p s=d0+6 * d1+36 * d2:=by unfold Zqh;rw [h0,h1,h2]
 rw [e];refine ⟨by omega,?_⟩;unfold vc;rw [show (d0+6 * d1+36 * d2) % 6=d0 by omega,show (d0+6 * d1+36 * d2) / 6 % 6=d1 by omega,show (d0+6 * d1+36 * d2) / 36=d2 by omega];simp only [Bool.and_eq_true,Bool.or_eq_true,beq_iff_eq,bne_iff_ne];exact ⟨by
  rcases f with z | z
  ·exact .inl z
  ·rcases g with y | y
   ·exact .inl y
   ·exact .inr ⟨z,y⟩,i⟩
theorem Ycp {p:LPd} {s t:LSt} (h:Root p s) (hv:Val p s) (g:Root p t) (gv:Val p t) (hm:p.right.length≤3) (hn:p.cols.length≤5) (e:Zqh p s=Zqh p t):s.basis=t.basis:=by
 refine code_inj h hv g gv hm hn ?_;have a:∀i,Zbg s i < 6:=fun i=>(Zek h hv hn i).1
 have b:∀i,Zbg t i < 6:=fun i=>(Zek g gv hn i).1
 have o:∀i,p.right.length≤i→Zbg s i=Zbg t i:=fun i hi=>by unfold Zbg;rw [h.out i hi,g.out i hi]
 have x0:=a 0;have x1:=a 1;have x2:=a 2;have y0:=b 0;have y1:=b 1;have y2:=b 2;unfold Zqh at e;unfold Ygf;have:p.right.length=0∨p.right.length=1∨p.right.length=2∨p.right.length=3:=by omega
 rcases this with q | q | q | q
 ·rw [o 0 (by omega),o 1 (by omega),o 2 (by omega)]
 ·rw [o 1 (by omega),o 2 (by omega)];rw [q] at e;simp at e;omega
 ·rw [o 2 (by omega)];rw [q] at e;simp at e;omega
 ·rw [q] at e;simp at e;omega
theorem Ygg {p:LPd} (hm:p.right.length≤3) (hn:p.cols.length≤5) {N:Nat} (hN:136≤N):Zco p (VC p N (settleQ p (XI p)))=none:=by
 have v0:=(Zjh p).settle;have s0:X4 p (settleQ p (XI p)):=settled_settle;have r0:=(Zyf p).settle;by_cases hr:∃k,k < N∧Zco p (VC p k (settleQ p (XI p)))=none
 ·obtain ⟨k,hk,e⟩:=hr;rw [show N=k+(N - k) by omega,Zgy,XK e];exact e
 ·exfalso;have a:∀k,k < N→Zco p (VC p k (settleQ p (XI p)))≠none:=fun k hk e=>hr ⟨k,hk,e⟩
  obtain ⟨i,j,b,hj,he⟩:=pigeon 136 (N+1) (fun k=>rk (Zqh p (VC p k (settleQ p (XI p))))) (by omega) fun k _=>by
   obtain ⟨c1,c2⟩:=Zni (r0.run (n:=k) v0) (YV v0 s0 k).1 hn;exact Yoj c1 c2
  have c1:=Zni (r0.run (n:=i) v0) (YV v0 s0 i).1 hn;have c2:=Zni (r0.run (n:=j) v0) (YV v0 s0 j).1 hn;have:=Ycp (r0.run (n:=i) v0) (YV v0 s0 i).1 (r0.run (n:=j) v0) (YV v0 s0 j).1 hm hn (Ynb c1.2 c2.2 he);exact Yge v0 s0 a b (by omega) this
end Pl
end Go.Proofs.YtgbhebappffbdaaGreat
namespace Go.Proofs.YtgbhebappffbdaaGreat
open Go.RowKit
open Pl
attribute [local go_sem ↓] Go.wp_at_zero Go.wp_at_succ
section
def Zpw (P:Nat→Prop) (w w':World):Prop:=w.heap.size≤w'.heap.size∧∀b,b < w.heap.size→¬P b→w'.heap[b]? =w.heap[b]?
theorem Zpw.trans {P:Nat→Prop} {a b c:World} (h:Zpw P a b) (k:Zpw P b c):Zpw P a c:=⟨JW h.1 k.1,fun x hx hne=>(k.2 x (Nat.lt_of_lt_of_le hx h.1) hne).trans (h.2 x hx hne)⟩
theorem Zpw.of_below {P:Nat→Prop} {w w':World} (h:Below w.heap.size w w'):Zpw P w w':=⟨h.size,fun b hb _=>h.block b hb⟩
theorem Zpw.of_others {P:Nat→Prop} {g:Nat} {w w':World} (h:Yi (some g) w w') (hp:g < w.heap.size→P g):Zpw P w w':=⟨h.1,fun b hb hn=>h.2 b hb fun e=>by injection e with e;subst e;exact hn (hp hb)⟩
theorem Zpw.below {P:Nat→Prop} {w w' w2:World} (h:Zpw P w w') (hb:Below w'.heap.size w' w2):Zpw P w w2:=h.trans (Zpw.of_below hb)
namespace Pl
def Tdy (f:RF) (q:Rat):Prop:=f=canF q∨(f=zeroF∧q=0)
theorem Tdy.q {f:RF} {q:Rat} (h:Tdy f q):f.q=q:=by
 rcases h with rfl | ⟨rfl,rfl⟩
 ·exact Zr _
 ·exact zeroF_q
theorem Tdy.rs {f:RF} {q:Rat} {J:Nat} (h:Tdy f q) (hs:Sz J q):f.Rs J:=by
 rcases h with rfl | ⟨rfl,rfl⟩
 ·exact hs.rs
 ·exact (VL 1).mono (Zkh hs)
theorem Tdy.len {f:RF} {q:Rat} (h:Tdy f q):0 < f.num.ds.length↔q≠0:=by
 rcases h with rfl | ⟨rfl,rfl⟩
 ·show 0 < (Zq q.num.natAbs).length↔q≠0;by_cases e:q=0
  ·subst e;rw [show (0:Rat).num.natAbs=0 from rfl,digs_zero];simp
  ·have h1:q.num.natAbs≠0:=by
    intro h;exact e (Rat.num_eq_zero.1 (Int.natAbs_eq_zero.1 h))
   constructor
   ·exact fun _=>e
   ·intro _;rcases JV (Zq q.num.natAbs).length with h2 | h2
    ·exfalso;have h3:=List.eq_nil_of_length_eq_zero h2;have h4:=Zm q.num.natAbs;rw [h3] at h4;exact h1 (by rw [← h4];rfl)
    ·exact h2
 ·simp [zeroF,canI_zero]
def elQ (rp cp:List Int) (a:Mx) (r c i j:Nat):Mx:=fun s k=>if (s < i∨(s=i∧k < j))∧rp.getD s 0 < 0∧cp.getD k 0 < 0 then a s k - a s c / a r c * a r k else a s k
def Znn (rp:List Int) (a:Mx) (r c i:Nat):Nat→Rat:=fun s=>if s < i∧rp.getD s 0 < 0 then a s c / a r c else 0
section
variable {rp cp:List Int} {a:Mx} {r c i j:Nat}
theorem elQ_start:elQ rp cp a r c 0 0=a:=by
 funext s k;unfold elQ;rw [if_neg (by omega)]
theorem Ybo {s k:Nat} (h:¬rp.getD s 0 < 0):elQ rp cp a r c i j s k=a s k:=by unfold elQ;rw [if_neg fun e=>h e.2.1]
theorem Zvc {n s k:Nat} (hn:¬rp.getD i 0 < 0∨a i c=0) (hk:k < n):elQ rp cp a r c i 0 s k=elQ rp cp a r c (i+1) 0 s k:=by
 unfold elQ;by_cases e:s=i
 ·subst e;rw [if_neg (by omega)];by_cases e2:rp.getD s 0 < 0∧cp.getD k 0 < 0
  ·rw [if_pos ⟨by omega,e2⟩];rcases hn with hn | hn
   ·exact absurd e2.1 hn
   ·rw [hn,show (0:Rat) / a r c=0 by rw [Rat.div_def];grind];grind
  ·rw [if_neg fun h=>e2 h.2]
 ·by_cases e2:(s < i∨(s=i∧k < 0))∧rp.getD s 0 < 0∧cp.getD k 0 < 0
  ·rw [if_pos e2,if_pos ⟨by omega,e2.2⟩]
  ·rw [if_neg e2,if_neg fun h=>e2 ⟨by omega,h.2⟩]
theorem Yfr {n s k:Nat} (hk:k < n):elQ rp cp a r c i n s k=elQ rp cp a r c (i+1) 0 s k:=by
 unfold elQ;by_cases e2:(s < i∨(s=i∧k < n))∧rp.getD s 0 < 0∧cp.getD k 0 < 0
 ·rw [if_pos e2,if_pos ⟨by omega,e2.2⟩]
 ·rw [if_neg e2,if_neg fun h=>e2 ⟨by omega,h.2⟩]
theorem Zvd {s k:Nat} (hn:¬cp.getD j 0 < 0∨a r j=0):elQ rp cp a r c i j s k=elQ rp cp a r c i (j+1) s k:=by
 unfold elQ;by_cases e:s=i∧k=j
 ·obtain ⟨rfl,rfl⟩:=e;rw [if_neg (by omega)];by_cases e2:rp.getD s 0 < 0∧cp.getD k 0 < 0
  ·rw [if_pos ⟨by omega,e2⟩];rcases hn with hn | hn
   ·exact absurd e2.2 hn
   ·rw [hn];grind
  ·rw [if_neg fun h=>e2 h.2]
 ·by_cases e2:(s < i∨(s=i∧k < j))∧rp.getD s 0 < 0∧cp.getD k 0 < 0
  ·rw [if_pos e2,if_pos ⟨by omega,e2.2⟩]
  ·rw [if_neg e2,if_neg fun h=>e2 ⟨by omega,h.2⟩]
theorem Yfs {s k:Nat} (h1:rp.getD i 0 < 0) (h2:cp.getD j 0 < 0):elQ rp cp a r c i (j+1) s k=if s=i∧k=j then a i j - a i c / a r c * a r j else elQ rp cp a r c i j s k:=by
 unfold elQ;by_cases e:s=i∧k=j
 ·rw [if_pos e];obtain ⟨rfl,rfl⟩:=e;rw [if_pos ⟨by omega,h1,h2⟩]
 ·rw [if_neg e];by_cases e2:(s < i∨(s=i∧k < j))∧rp.getD s 0 < 0∧cp.getD k 0 < 0
  ·rw [if_pos e2,if_pos ⟨by omega,e2.2⟩]
  ·rw [if_neg e2,if_neg fun h=>e2 ⟨by omega,h.2⟩]
theorem elQ_at:elQ rp cp a r c i j i j=a i j:=by unfold elQ;rw [if_neg (by omega)]
theorem Yko {k:Nat}:elQ rp cp a r c i 0 i k=a i k:=by unfold elQ;rw [if_neg (by omega)]
theorem Zpx (hn:¬rp.getD i 0 < 0∨a i c=0) (s:Nat):Znn rp a r c i s=Znn rp a r c (i+1) s:=by
 unfold Znn;by_cases e:s=i
 ·subst e;rw [if_neg (by omega)];by_cases e2:rp.getD s 0 < 0
  ·rw [if_pos ⟨by omega,e2⟩];rcases hn with hn | hn
   ·exact absurd e2 hn
   ·rw [hn,Rat.div_def];grind
  ·rw [if_neg fun h=>e2 h.2]
 ·by_cases e2:s < i∧rp.getD s 0 < 0
  ·rw [if_pos e2,if_pos ⟨by omega,e2.2⟩]
  ·rw [if_neg e2,if_neg fun h=>e2 ⟨by omega,h.2⟩]
theorem Ybp (h1:rp.getD i 0 < 0) (s:Nat):Znn rp a r c (i+1) s=if s=i then a i c / a r c else Znn rp a r c i s:=by
 unfold Znn;by_cases e:s=i
 ·subst e;rw [if_pos rfl,if_pos ⟨by omega,h1⟩]
 ·rw [if_neg e];by_cases e2:s < i∧rp.getD s 0 < 0
  ·rw [if_pos e2,if_pos ⟨by omega,e2.2⟩]
  ·rw [if_neg e2,if_neg fun h=>e2 ⟨by omega,h.2⟩]
end
end Pl
def Ybq (V:World) (f:RF) (s9:Value) (wx:World):Prop:=
 ∃(g:Nat) (A:Option Addr) (n c:Nat) (A':Option Addr) (n' c':Nat),s9= .pointer (some ⟨g,0,none⟩)∧V.heap.size≤g∧Bk wx g 46 [.bool f.num.neg,.slice A n c,.bool f.den.neg,.slice A' n' c']∧Zw wx (.agg #[.bool f.num.neg,.slice A n c,.bool f.den.neg,.slice A' n' c']) f∧Below V.heap.size V wx
theorem Ybq.mk {V w:World} {g:Nat} {f:RF} {x y z u:Value} {A A':Option Addr} {n c n' c':Nat} (hB:Bk w g 46 [x,y,z,u]) (hm:Zw w (.agg #[.bool f.num.neg,.slice A n c,.bool f.den.neg,.slice A' n' c']) f) (hb:Below V.heap.size V w) (hg:V.heap.size≤g):
 Ybq V f (.pointer (some ⟨g,0,none⟩)) ((((w.setCell ⟨g,0,none⟩ (.bool f.num.neg)).setCell ⟨g,1,none⟩ (.slice A n c)).setCell ⟨g,2,none⟩ (.bool f.den.neg)).setCell ⟨g,3,none⟩ (.slice A' n' c')):=
 ⟨g,A,n,c,A',n',c',rfl,hg,hB.set4 _ _ _ _,hm.keep (hB.keep4 (by decide) _ _ _ _),ZI hb hg _ _ _ _⟩
def Zqx (base:Nat) (w:World) (ge n:Nat) (va vr vc:Value) (G D:Nat→Nat) (rp cp:List Int) (Q:Mx) (f:Nat→Rat) (J:Nat) (vf:Value) (wr:World):Prop:=
 ∃(M:Nat→Nat→RF) (H:Nat→RF),ElM base wr ge n va vr vc M G D rp cp∧(∀i j,i < n→j < n→Tdy (M i j) (Q i j))∧ZU w.heap.size wr vf (rfL n H)∧(∀i,i < n→(H i).q=f i∧(H i).Rs J)∧
  Zg 46 w wr∧Zpw (fun b=>∃i,i < n∧b=G i) w wr∧Below base w wr
theorem Zqx.below {base:Nat} {w wr w':World} {ge n:Nat} {va vr vc:Value} {G D:Nat→Nat} {rp cp:List Int} {Q:Mx} {f:Nat→Rat} {J:Nat} {vf:Value} (h:Zqx base w ge n va vr vc G D rp cp Q f J vf wr) (hb:Below wr.heap.size wr w') (hw:base≤w.heap.size):Zqx base w ge n va vr vc G D rp cp Q f J vf w':=by
 obtain ⟨M,H,h1,h2,h3,h4,h5,h6,h7⟩:=h;exact ⟨M,H,h1.below hb,h2,h3.below hb,h4,h5.trans (Zg.of_below hb),h6.below hb,Za h7 hb (JW hw h6.1)⟩
theorem Zqx.congr {base:Nat} {w wr:World} {ge n:Nat} {va vr vc:Value} {G D:Nat→Nat} {rp cp:List Int} {Q Q':Mx} {f f':Nat→Rat} {J:Nat} {vf:Value} (h:Zqx base w ge n va vr vc G D rp cp Q f J vf wr) (hq:∀i j,i < n→j < n→Q i j=Q' i j) (hf:∀i,i < n→f i=f' i):Zqx base w ge n va vr vc G D rp cp Q' f' J vf wr:=by
 obtain ⟨M,H,h1,h2,h3,h4,h5⟩:=h;exact ⟨M,H,h1,fun i j hi hj=>by rw [← hq i j hi hj];exact h2 i j hi hj,h3,fun i hi=>by rw [← hf i hi];exact h4 i hi,h5⟩
theorem Zqx.setF {base:Nat} {w wr:World} {ge n:Nat} {va vr vc:Value} {G D:Nat→Nat} {rp cp:List Int} {Q:Mx} {f f':Nat→Rat} {J cf:Nat} (h:Zqx base w ge n va vr vc G D rp cp Q f J (.slice (some ⟨w.heap.size,0,none⟩) n cf) wr) (hw:base≤w.heap.size) (hG:∀i,i < n→G i < w.heap.size) {i:Nat} (hi:i < n) {x y z u:Value} {q:RF} (hq:Zw wr (.agg #[x,y,z,u]) q) (hr:q.Rs J) (hf:∀s,s < n→f' s=if s=i then q.q else f s):
 Zqx base w ge n va vr vc G D rp cp Q f' J (.slice (some ⟨w.heap.size,0,none⟩) n cf) ((((wr.setCell ⟨w.heap.size,i * 4,none⟩ x).setCell ⟨w.heap.size,i * 4+1,none⟩ y).setCell ⟨w.heap.size,i * 4+2,none⟩ z).setCell ⟨w.heap.size,i * 4+3,none⟩ u):=by
 obtain ⟨M,H,⟨e1,e2,e3,e4,e5⟩,h2,h3,h4,h5,h6,h7⟩:=h;obtain ⟨g1,g2⟩:=h3.set_ (k:=i) (by rw [Zz];exact hi) hq;rw [Uw hi] at g1;have ho:=YC (w:=wr) (g:=w.heap.size) (i:=i * 4) (j:=i * 4+1) (k:=i * 4+2) (l:=i * 4+3) (x:=x) (y:=y) (z:=z) (u:=u);refine ⟨M,fun s=>if s=i then q else H s,⟨g2.bk e1 (by decide),e2.far ho g2 fun r hr=>by have:=hG r hr;omega,e3.but g2 (by decide),e4.but g2 (by decide),e5⟩,h2,g1,fun s hs=>?_,h5.trans g2,⟨JW h6.1 ho.1,fun b hb hn=>(ho.2 b (Nat.lt_of_lt_of_le hb h6.1) fun e=>by injection e with e;omega).trans (h6.2 b hb hn)⟩,Zx h7 hw _ _ _ _ _ _ _ _⟩;rw [hf s hs];by_cases e:s=i
 ·simp only [if_pos e];exact ⟨trivial,hr⟩
 ·simp only [if_neg e];exact h4 s hs
theorem Zqx.setM {base:Nat} {w wr:World} {ge n:Nat} {va vr vc:Value} {G D:Nat→Nat} {rp cp:List Int} {Q Q':Mx} {f:Nat→Rat} {J cf:Nat} (h:Zqx base w ge n va vr vc G D rp cp Q f J (.slice (some ⟨w.heap.size,0,none⟩) n cf) wr) (hG:∀i,i < n→base≤G i∧G i < w.heap.size) {i j:Nat} (hi:i < n) (hj:j < n) {x y z u:Value} {q:Rat} (hq:Zw wr (.agg #[x,y,z,u]) (canF q)) (hf:∀s k,s < n→k < n→Q' s k=if s=i∧k=j then q else Q s k):
 Zqx base w ge n va vr vc G D rp cp Q' f J (.slice (some ⟨w.heap.size,0,none⟩) n cf) ((((wr.setCell ⟨G i,j * 4,none⟩ x).setCell ⟨G i,j * 4+1,none⟩ y).setCell ⟨G i,j * 4+2,none⟩ z).setCell ⟨G i,j * 4+3,none⟩ u):=by
 obtain ⟨M,H,⟨e1,e2,e3,e4,e5⟩,h2,h3,h4,h5,h6,h7⟩:=h;obtain ⟨g1,g2⟩:=e2.set_ hi hj hq;have ho:=YC (w:=wr) (g:=G i) (i:=j * 4) (j:=j * 4+1) (k:=j * 4+2) (l:=j * 4+3) (x:=x) (y:=y) (z:=z) (u:=u);have hg:=hG i hi;refine ⟨_,H,⟨g2.bk e1 (by decide),g1,e3.but g2 (by decide),e4.but g2 (by decide),e5⟩,fun s k hs hk=>?_,h3.others ho (g2.keep (by decide)) (fun b hb e=>by simp [Value.ownBlock] at hb;injection e with e;omega),h4,h5.trans g2,h6.trans (Zpw.of_others ho fun _=>⟨i,hi,rfl⟩),Zx h7 hg.1 _ _ _ _ _ _ _ _⟩;rw [hf s k hs hk];unfold Yjw;by_cases e:s=i∧k=j
 ·rw [if_pos e,if_pos e];exact .inl rfl
 ·rw [if_neg e,if_neg e];exact h2 s k hs hk
def Ymt (base:Nat) (w:World) (ge n:Nat) (va vr vc:Value) (G D:Nat→Nat) (rp cp:List Int) (Q:Mx) (f:Nat→Rat) (J:Nat) (o:Ending) (w':World):Prop:=
 ∃v',o= .returned v'∧Zqx base w ge n va vr vc G D rp cp Q f J v' w'
theorem Zna (base ge n:Nat) (va vr vc:Value) (M0:Nat→Nat→RF) (G D:Nat→Nat) (rp cp:List Int) (a:Mx) (r c J:Nat) (w:World) (h:ElM base w ge n va vr vc M0 G D rp cp) (ht:∀i j,i < n→j < n→Tdy (M0 i j) (a i j)) (hn:n≤7) (hr:r < n) (hc:c < n) (hrp:¬rp.getD r 0 < 0) (hp:a r c≠0) (hJ:∀i j,i < n→j < n→Sz J (a i j)) (hJ2:J≤4000000) (hb:base≤w.heap.size):
 Calls Tryz.prog 156 #[.pointer (some ⟨ge,0,none⟩),.int .i64 (r:Int),.int .i64 (c:Int)] w (Ymt base w ge n va vr vc G D rp cp (elQ rp cp a r c n 0) (Znn rp a r c n) (2 * J)):=by
 have b:0 < n:=by omega
 have cj:1≤J:=Zkh (hJ r c hr hc);have aj:Hid (∀i,i < n→base≤G i∧G i < w.heap.size):=JZ fun i hi=>by obtain ⟨h1,h2,_,_⟩:=h.2.1.lt hi b;exact ⟨h1,h2⟩
 obtain ⟨b0,b1,b2,b3⟩:=h.1.four;have HJ:=JZ hJ;have HP:=JZ hp;have bp:=XF n (by omega);have ak:=ZU.zeros w n (by unfold maxLen;omega);have L:=Zi w (.cells (zfc n) 46);have b6:=h.1.later L;obtain ⟨bz,_,_,_⟩:=b6.four;have b7:List.replicate n zeroF=rfL n fun _=>zeroF:=by
  refine List.ext_getElem? fun i=>?_
  rcases JX i n with e | e
  ·rw [YD e];simp [e]
  ·rw [JU (by simp;exact e),JU (by rw [Zz];exact e)]
 rw [b7] at ak;have a1:Zqx base w ge n va vr vc G D rp cp (elQ rp cp a r c 0 0) (Znn rp a r c 0) (2 * J) (.slice (some ⟨w.heap.size,0,none⟩) n n) (w.alloc (.cells (zfc n) 46)):=
  ⟨M0,fun _=>zeroF,h.below L,fun i j hi hj=>by rw [elQ_start];exact ht i j hi hj,ak,fun i _=>⟨by unfold Znn;rw [if_neg (by omega),zeroF_q],(VL 1).mono (by omega)⟩,Zg.of_below L,Zpw.of_below L,L.mono hb⟩
 obtain ⟨go,co,rfl,_,_,ch,ci,_⟩:=h.2.1.outer b;obtain ⟨gr,cr,rfl,_,_,c5,ct⟩:=h.2.2.1.shape (by rw [h.2.2.2.2.1];exact b);obtain ⟨gc,cc,rfl,_,_,c7,cu⟩:=h.2.2.2.1.shape (by rw [h.2.2.2.2.2];exact b);have b8:Hid (¬rp.getD r 0 < 0):=JZ hrp;have al:=JZ h.2.2.2.2.1;have am:=JZ h.2.2.2.2.2;rw [al.out] at c5 b2 a1;rw [am.out] at c7 b3 a1;rw [al.out,am.out];have ck:(c:Int) < n:=by omega
 have cl:(r:Int) < n:=by omega
 clear h ht hJ hp ak b7 b6 hrp;go_enter Tryz.func156,Tryz.ntmps156;go_wp2;clear b0 b1 b2 b3 bz bp L;generalize w.alloc (.cells (zfc n) 46)=W0 at *
 go_loopw [21] (fun x wr=>∃i:Nat,i≤n∧x= .int .i64 i∧Zqx base w ge n (.slice (some ⟨go,0,none⟩) n co) (.slice (some ⟨gr,0,none⟩) n cr) (.slice (some ⟨gc,0,none⟩) n cc) G D rp cp (elQ rp cp a r c i 0) (Znn rp a r c i) (2 * J) (.slice (some ⟨w.heap.size,0,none⟩) n n) wr) (fun x _=>n - (intOf x).toNat)
 case atStart=>exact ⟨0,by omega,rfl,a1⟩
 case round=>
  clear a1;obtain ⟨i,hi,rfl,hA⟩:=hrel;rcases JX i n with hil | hil
  ·have HA:=JZ hA;obtain ⟨M,H,⟨hB,hM,hR,hC,_,_⟩,hT,hF,hH,X,C,Y⟩:=hA;have cn:(i:Int) < n:=(by omega);obtain ⟨b0,b1,b2,b3⟩:=hB.four;obtain ⟨zi,a8⟩:=Wt (l:=rp) (i:=i) (by rw [al.out];exact hil);obtain ⟨r0,_,_,_⟩:=hR.at_ a8;have F:=Zjc a8;by_cases hz:zi < 0
   ·have an:=hT i c hil hc;rw [Yko] at an;have a2:=JZ an;have bq:=JZ hT;have S:Hid (rp.getD i 0 < 0):=JZ (by rw [F];exact hz);obtain ⟨m1,_⟩:=hM.cellAt hil;obtain ⟨A1,n1,c1,A2,n2,c2,⟨x0,x1,x2,x3⟩,o⟩:=hM.at_ hil hc;obtain ⟨l1,l2,l3,l4⟩:=hM.lt hil b;unfold X7 at m1;have T:qs (a i c)=0∨qs (a i c)=1∨qs (a i c)= -1:=(by have:=UY (a i c);omega);clear a8 F X C Y hT hF hH hR hC an;have HM:=JZ hM;have HB:=JZ hB;clear hM hB;by_cases A:qs (a i c)=0
    ·have a3:Hid (a i c=0):=JZ (Z5.1 A);go_wp2_with fail;refine (ZA _ (M i c) _ o).mono ?_;rw [a2.out.q,A];rintro _ w1 ⟨rfl,R⟩;have a4:=JZ (HA.out.below R hb);clear b0 b1 b2 b3 r0 m1 x0 x1 x2 x3 o T;go_wp2;go_roundw
     case rel=>exact ⟨i+1,by omega,by go_num,a4.out.congr (fun s k hs hk=>Zvc (.inr a3.out) hk) fun s hs=>Zpx (.inr a3.out) s⟩
     case measure=>simp [intOf];omega
    ·have ao:(qs (a i c)==0)=false:=(by simpa using A);clear T A;go_wp2_with fail;refine (ZA _ (M i c) _ o).mono ?_;rw [a2.out.q];rintro _ w1 ⟨rfl,R⟩;have a4:=JZ (HA.out.below R hb);have N:=HM.out.below R;have b9:=HB.out.later R;clear b0 b1 b2 b3 r0 m1 x0 x1 x2 x3 o R;obtain ⟨_,b1,_,_⟩:=b9.four;obtain ⟨m1,_⟩:=N.cellAt hil;obtain ⟨m2,_⟩:=N.cellAt hr;unfold X7 at m1 m2;obtain ⟨A1,n1,c1,A2,n2,c2,⟨x0,x1,x2,x3⟩,o⟩:=N.at_ hil hc;obtain ⟨A3,n3,c3,A4,n4,c4,⟨y0,y1,y2,y3⟩,p⟩:=N.at_ hr hc;obtain ⟨r1,r2,r3,r4⟩:=N.lt hr b;have ap:Hid (Tdy (M r c) (a r c)):=JZ (by have:=bq.out r c hr hc;rwa [Ybo (by have:=b8.out;omega)] at this);obtain ⟨q,hq⟩:∃q,q=a i c / a r c:=⟨_,rfl⟩;have HQ:=JZ hq;have ba:Hid ((M i c).q / (M r c).q=q):=JZ (by rw [a2.out.q,ap.out.q,hq]);have a5:(M i c).Sm:=(a2.out.rs (HJ.out i c hil hc)).sm (by omega);have a6:(M r c).Sm:=(ap.out.rs (HJ.out r c hr hc)).sm (by omega);have bb:(M r c).q≠0:=(by rw [ap.out.q];exact HP.out);have aq:Hid (Sz (2 * J) q):=JZ (by rw [hq];exact (Zdf (HJ.out i c hil hc) (HJ.out r c hr hc)).mono (by omega));clear hq
     go_upto_region 6 with (fail)
     clear ao
     go_cut [9] (fun s9 wx=>Ybq w1 (canF q) s9 wx)
     case first=>
      have C0:=Zl x0;have C1:=Zl x1;have C2:=Zl x2;have C3:=Zl x3;have E0:=Zl y0;have E1:=Zl y1;have E2:=Zl y2;have E3:=Zl y3;have D0:=Zl b1;have D1:=Zl m1;have D2:=Zl m2;have d:=Zj w1;clear x0 x1 x2 x3 y0 y1 y2 y3 b1 m1 m2;refine Xl 25 (.go 0 (.go 1 (.go 2 (.go 3 (.go 4 (.go 5 (.go 6 (.go 7 (.go 8 (.go 9 (.go 10 (.go 11 (.go 12 (.go 13 (.go 14 (.go 15 (.go 16 (.go 17 (.go 18 (.go 19 (.fork 20 (.go 21 (.go 22 (.go 23 (.go 24 (.go 25 (.go 26 .done)))))) 24 (.go 20 (.go 21 (.go 22 (.go 23 (.go 25 (.go 26 .done))))))))))))))))))))))))))) (by kernel_rfl) (by kernel_rfl) ?_;repeat ((first|(first|refine ZJ (v:=?_) rfl rfl rfl ?_ ?_ |refine ZW (v:=?_) rfl rfl rfl ?_ ?_);rotate_left;·(intro _ _;go_simp;(try go_bits);(try with_reducible rfl))|refine ZZ rfl rfl rfl ?_ |refine ZK rfl rfl rfl (by assumption) ?_);(try simp only [py]))
      refine XH rfl rfl (fun _ kq=>?_) (fun _ kq=>?_)
      ·go_simp;(with_reducible refine (Zay _ _ (M i c) (M r c) _ (o.below d) (p.below d) a5 a6 bb).mono ?_);rw [ba.out];rintro _ wA ⟨vA,rfl,eA,af⟩;have E:=Za d af d.size;obtain ⟨A6,n6,c6,B6,m6,d6,rfl,_,_⟩:=id eA;refine kq.out _ _ (.inr E) ?_;clear kq;(try simp only [py]);repeat ((first|(first|refine ZJ (v:=?_) rfl rfl rfl ?_ ?_ |refine ZW (v:=?_) rfl rfl rfl ?_ ?_);rotate_left;·(intro _ _;go_simp;(try go_bits);(try with_reducible rfl))|refine ZZ rfl rfl rfl ?_ |refine ZK rfl rfl rfl (by assumption) ?_);(try simp only [py]))
       obtain ⟨WG,az,P,a9⟩:=YR wA (.bool false) (.slice none 0 0) (.bool false) (.slice none 0 0);refine Zt rfl rfl (fun _ kq=>?_);go_simp;have ar:=E.size;have B:=Za E a9 E.size;refine kq.out _ _ (.inr B) ?_;clear kq az;(try simp only [py]);have br:=eA.below a9;obtain ⟨t0,t1,t2,t3⟩:=P.four;obtain ⟨f0,f1,f2,f3⟩:=P.fourF;refine Zt rfl rfl (fun _ kq=>?_);go_simp;refine kq.out _ _ (.inl (by decide)) ?_;clear kq;(try simp only [py]);refine Zt rfl rfl (fun _ kq=>?_);go_simp;refine kq.out _ _ (.inl (by decide)) ?_;clear kq;(try simp only [py]);refine Yf ?_;go_wp2_with fail
       go_meet
       exact Ybq.mk P br B ar
      ·obtain ⟨WG,az,P,a9⟩:=YR w1.drew (.bool false) (.slice none 0 0) (.bool false) (.slice none 0 0);go_simp;have ar:=d.size;have B:=Za d a9 d.size;refine kq.out _ _ (.inr B) ?_;clear kq az;(try simp only [py])
       change Bk WG w1.heap.size 46 _ at P
       refine Zt rfl rfl (fun _ kq=>?_);go_simp;(with_reducible refine (Zay _ _ (M i c) (M r c) _ (o.below B) (p.below B) a5 a6 bb).mono ?_);rw [ba.out];rintro _ wA ⟨vA,rfl,eA,af⟩;have E:=Za B af B.size;obtain ⟨A6,n6,c6,B6,m6,d6,rfl,_,_⟩:=id eA;refine kq.out _ _ (.inr E) ?_;clear kq;(try simp only [py]);have hG:=P.later af;repeat ((first|(first|refine ZJ (v:=?_) rfl rfl rfl ?_ ?_ |refine ZW (v:=?_) rfl rfl rfl ?_ ?_);rotate_left;·(intro _ _;go_simp;(try go_bits);(try with_reducible rfl))|refine ZZ rfl rfl rfl ?_ |refine ZK rfl rfl rfl (by assumption) ?_);(try simp only [py]))
       obtain ⟨t0,t1,t2,t3⟩:=hG.four;obtain ⟨f0,f1,f2,f3⟩:=hG.fourF;refine Zt rfl rfl (fun _ kq=>?_);go_simp;refine kq.out _ _ (.inl (by decide)) ?_;clear kq;(try simp only [py]);refine Zt rfl rfl (fun _ kq=>?_);go_simp;refine kq.out _ _ (.inl (by decide)) ?_;clear kq;(try simp only [py]);refine Yf ?_;go_wp2_with fail
       go_meet
       exact Ybq.mk hG eA E ar
     case rest=>
      obtain ⟨gm,Am,nm,cm,aa,ab,ac,rfl,cv,t,m,bl⟩:=hcut;have bc:=a4.out.below bl hb;have cq:w.heap.size < w1.heap.size:=by
       obtain ⟨_,H1,_,_,c8,_⟩:=a4.out;obtain ⟨g,_,e,_,h,_⟩:=c8.shape (by rw [Zz];exact b);injection e with e;injection e with e;injection e with e;omega
      clear x0 x1 x2 x3 y0 y1 y2 y3 b1 m1 m2 o p N b9 bl;have U:=JZ bc;obtain ⟨M2,H2,_,_,b4,_⟩:=bc;obtain ⟨_,_,_,_,⟨c0,c9,ca,cb⟩,⟨f0,f1,f2,f3⟩,_⟩:=b4.at_ (YD (f:=H2) hil);obtain ⟨_,bm⟩:=b4.set_ (k:=i) (by rw [Zz];exact hil) m;have au:=U.out.setF hb (fun s hs=>(aj.out s hs).2) hil m aq.out.rs (f':=Znn rp a r c (i+1)) (fun s hs=>by rw [Ybp S.out,Zr,HQ.out]);have ag:=(YC (w:=wc) (g:=w.heap.size) (i:=i * 4) (j:=i * 4+1) (k:=i * 4+2) (l:=i * 4+3) (x:= .bool (canF q).num.neg) (y:= .slice Am nm cm) (z:= .bool (canF q).den.neg) (u:= .slice aa ab ac)).bk t (by intro e;injection e with e;omega);have ah:=m.keep (bm.keep (by decide));obtain ⟨t0,t1,t2,t3⟩:=t.four;clear t m b4 bm
      go_upto_region 8 with (fail)
      clear t0 t1 t2 t3 c0 c9 ca cb f0 f1 f2 f3;generalize ((((wc.setCell ⟨w.heap.size,i * 4,none⟩ (.bool (canF q).num.neg)).setCell ⟨w.heap.size,i * 4+1,none⟩ (.slice Am nm cm)).setCell ⟨w.heap.size,i * 4+2,none⟩ (.bool (canF q).den.neg)).setCell ⟨w.heap.size,i * 4+3,none⟩ (.slice aa ab ac))=W3 at *;have b0:W3.cell? ⟨ge,0,none⟩=some (.int .i64 (n:Int)):=by
       obtain ⟨_,_,hE,_⟩:=au;exact hE.1.four.1
      go_wp2;clear b0
      go_loopw [78] (fun x wr=>∃j:Nat,j≤n∧x= .int .i64 j∧Zqx base w ge n (.slice (some ⟨go,0,none⟩) n co) (.slice (some ⟨gr,0,none⟩) n cr) (.slice (some ⟨gc,0,none⟩) n cc) G D rp cp (elQ rp cp a r c i j) (Znn rp a r c (i+1)) (2 * J) (.slice (some ⟨w.heap.size,0,none⟩) n n) wr∧Bk wr gm 46 [.bool (canF q).num.neg,.slice Am nm cm,.bool (canF q).den.neg,.slice aa ab ac]∧Zw wr (.agg #[.bool (canF q).num.neg,.slice Am nm cm,.bool (canF q).den.neg,.slice aa ab ac]) (canF q)) (fun x _=>n - (intOf x).toNat)
      case atStart=>exact ⟨0,by omega,rfl,au,ag,ah⟩
      case round=>
       clear au ag ah;obtain ⟨j,hj,rfl,hA,t,m⟩:=hrel;rcases JX j n with hjl | hjl
       ·have av:=JZ hA;obtain ⟨M,H,⟨hB,hM,hR,hC,_,_⟩,hT,hF,hH,X,C,Y⟩:=hA;have cs:(j:Int) < n:=(by omega);obtain ⟨b0,b1,b2,b3⟩:=hB.four;obtain ⟨zj,ad⟩:=Wt (l:=cp) (i:=j) (by rw [am.out];exact hjl);obtain ⟨k0,_,_,_⟩:=hC.at_ ad;have I:=Zjc ad;have aw:=JZ t;have ax:=JZ m;clear t m;by_cases b5:zj < 0
        ·have ay:Hid (cp.getD j 0 < 0):=JZ (by rw [I];exact b5);have K:Hid (Tdy (M r j) (a r j)):=JZ (by have:=hT r j hr hjl;rwa [Ybo (by have:=b8.out;omega)] at this);have ai:Hid (Tdy (M i j) (a i j)):=JZ (by have:=hT i j hil hjl;rwa [elQ_at] at this);obtain ⟨m2,_⟩:=hM.cellAt hr;obtain ⟨A3,n3,c3,A4,n4,c4,⟨y0,y1,y2,y3⟩,p⟩:=hM.at_ hr hjl;obtain ⟨r1,r2,r3,r4⟩:=hM.lt hr b;unfold X7 at m2;have HM:=JZ hM;have HB:=JZ hB;have T:qs (a r j)=0∨qs (a r j)=1∨qs (a r j)= -1:=(by have:=UY (a r j);omega);clear ad I X C Y hT hF hH hR hC hM hB;by_cases A:qs (a r j)=0
         ·have a3:Hid (a r j=0):=JZ (Z5.1 A);go_wp2_with fail;refine (ZA _ (M r j) _ p).mono ?_;rw [K.out.q,A];rintro _ w2 ⟨rfl,v⟩;have U:=JZ (av.out.below v hb);have bd:=aw.out.later v;have be:=ax.out.below v;clear b0 b1 b2 b3 k0 m2 y0 y1 y2 y3 p T;go_wp2;go_roundw
          case rel=>exact ⟨j+1,by omega,by go_num,U.out.congr (fun s k hs hk=>Zvd (.inr a3.out)) fun s hs=>rfl,bd,be⟩
          case measure=>simp [intOf];omega
         ·have ao:(qs (a r j) !=0)=true:=(by simpa using A);clear T A;go_wp2_with fail;refine (ZA _ (M r j) _ p).mono ?_;rw [K.out.q];rintro _ w2 ⟨rfl,v⟩;have U:=JZ (av.out.below v hb);have t:=aw.out.later v;have m:=ax.out.below v;have hM:=HM.out.below v;have hB:=HB.out.later v;clear b0 b1 b2 b3 k0 m2 y0 y1 y2 y3 p v;obtain ⟨_,b1,_,_⟩:=hB.four;obtain ⟨m1,_⟩:=hM.cellAt hil;obtain ⟨m2,_⟩:=hM.cellAt hr;unfold X7 at m1 m2;obtain ⟨l1,l2,l3,l4⟩:=hM.lt hil b;obtain ⟨A1,n1,c1,A2,n2,c2,⟨x0,x1,x2,x3⟩,o⟩:=hM.at_ hil hjl;obtain ⟨A3,n3,c3,A4,n4,c4,⟨y0,y1,y2,y3⟩,p⟩:=hM.at_ hr hjl;obtain ⟨t0,t1,t2,t3⟩:=t.four;obtain ⟨rj,ae⟩:∃rj,rj=a r j:=⟨_,rfl⟩;obtain ⟨Z,a0⟩:∃Z,Z=a i j:=⟨_,rfl⟩;have bf:=JZ ae;have bg:=JZ a0;have bs:Hid ((M r j).q=rj):=JZ (by rw [K.out.q,ae]);have bt:Hid ((M i j).q=Z):=JZ (by rw [ai.out.q,a0]);have bh:Sz J rj:=(by rw [ae];exact HJ.out r j hr hjl);have a5:(M i j).Sm:=(ai.out.rs (HJ.out i j hil hjl)).sm (by omega);have a6:(M r j).Sm:=(K.out.rs (HJ.out r j hr hjl)).sm (by omega);have bu:(canF q).Sm:=aq.out.rs.sm (by omega);have bv:(canF (q * rj)).Sm:=(XO aq.out bh).rs.sm (by omega);clear ae a0 bh hB
          go_upto_region 12 with (fail)
          clear ao;have C0:=Zl x0;have C1:=Zl x1;have C2:=Zl x2;have C3:=Zl x3;have E0:=Zl y0;have E1:=Zl y1;have E2:=Zl y2;have E3:=Zl y3;have T0:=Zl t0;have T1:=Zl t1;have T2:=Zl t2;have T3:=Zl t3;have D0:=Zl b1;have D1:=Zl m1;have D2:=Zl m2;have d:=Zj w2;clear x0 x1 x2 x3 y0 y1 y2 y3 t0 t1 t2 t3 b1 m1 m2;refine Zn 32 [0,1,2,3,4,5,6,7,8,9,10,11,12,13,14,15,16,17,18,19,20,21,22,23,24,25,26,27,28,29,30,31,32] (by kernel_rfl) (by kernel_rfl) ?_;repeat ((first|(first|refine Zb (v:=?_) rfl rfl rfl ?_ ?_ |refine Zd (v:=?_) rfl rfl rfl ?_ ?_);rotate_left;·(intro _ _;go_simp;(try go_bits);(try with_reducible rfl))|refine Ze rfl rfl rfl ?_);(try simp only [py]))
          refine Zf rfl rfl (fun _ kq=>?_);go_simp;(with_reducible refine (WL _ _ (canF q) (M r j) _ (m.below d) (p.below d) bu a6).mono ?_);rw [Zr,bs.out];rintro _ w6 ⟨v6,rfl,e6,bn⟩;have V:=Za d bn d.size;refine kq.out _ _ (.inr V) ?_;clear kq;(try simp only [py]);repeat ((first|(first|refine Zb (v:=?_) rfl rfl rfl ?_ ?_ |refine Zd (v:=?_) rfl rfl rfl ?_ ?_);rotate_left;·(intro _ _;go_simp;(try go_bits);(try with_reducible rfl))|refine Ze rfl rfl rfl ?_);(try simp only [py]))
          refine Zf rfl rfl (fun _ kq=>?_);go_simp;(with_reducible refine (Uv _ _ (M i j) (canF (q * rj)) _ (o.below V) e6 a5 bv).mono ?_);rw [Zr,bt.out];rintro _ w7 ⟨v7,rfl,e7,bo⟩;have O:=Za V bo V.size;obtain ⟨B9,l9,k9,cd,ce,cf,rfl,_,_⟩:=id e7;have a7:=hM.below O;obtain ⟨_,_,_,_,_,_,⟨c0,c1,c2,c3⟩,_⟩:=a7.at_ hil hjl;obtain ⟨f0,f1,f2,f3⟩:=a7.frozen hil hjl;refine kq.out _ _ (.inr O) ?_;clear kq;(try simp only [py]);repeat ((first|(first|refine Zb (v:=?_) rfl rfl rfl ?_ ?_ |refine Zd (v:=?_) rfl rfl rfl ?_ ?_);rotate_left;·(intro _ _;go_simp;(try go_bits);(try with_reducible rfl))|refine Ze rfl rfl rfl ?_);(try simp only [py]))
          refine Zf rfl rfl (fun _ kq=>?_);go_simp;refine kq.out _ _ (.inl (by decide)) ?_;clear kq;(try simp only [py]);refine Zv ?_;clear C0 C1 C2 C3 D0 D1 D2 E0 E1 E2 E3 T0 T1 T2 T3;obtain ⟨_,cg⟩:=a7.set_ hil hjl e7;have bw:=(U.out.below O hb).setM aj.out hil hjl e7 (Q':=elQ rp cp a r c i (j+1)) (fun s k hs hk=>by rw [Yfs S.out ay.out,HQ.out,bf.out,bg.out]);have bi:=(YC (w:=w7) (g:=G i) (i:=j * 4) (j:=j * 4+1) (k:=j * 4+2) (l:=j * 4+3) (x:= .bool (canF (Z - q * rj)).num.neg) (y:= .slice B9 l9 k9) (z:= .bool (canF (Z - q * rj)).den.neg) (u:= .slice cd ce cf)).bk (t.later O) (by intro e;injection e with e;have:=(aj.out i hil).2;omega);have bj:=(m.below O).keep (cg.keep (by decide));clear hM a7 t m o p e6 e7 bn bo d V O;go_wp2;go_roundw
          case rel=>exact ⟨j+1,by omega,by go_num,bw,bi,bj⟩
          case measure=>simp [intOf];omega
        ·have ay:Hid (¬cp.getD j 0 < 0):=JZ (by rw [I];exact b5);have bx:0≤zj:=(by omega);clear ad I X C Y hT hF hH hM hR hC hB b5;go_wp2;go_roundw
         case rel=>exact ⟨j+1,by omega,by go_num,av.out.congr (fun s k hs hk=>Zvd (.inl (by have:=ay.out;omega))) fun s hs=>rfl,aw.out,ax.out⟩
         case measure=>simp [intOf];omega
       ·obtain rfl:n=j:=by omega
        go_wp2;go_roundw
        case rel=>exact ⟨i+1,by omega,by go_num,hA.congr (fun s k hs hk=>Yfr hk) fun s hs=>rfl⟩
        case measure=>simp [intOf];omega
   ·have S:Hid (¬rp.getD i 0 < 0):=JZ (by rw [F];exact hz);have bx:0≤zi:=(by omega);clear a8 F X C Y hT hF hH hM hR hC hB hz;go_wp2;go_roundw
    case rel=>exact ⟨i+1,by omega,by go_num,HA.out.congr (fun s k hs hk=>Zvc (.inl (by have:=S.out;omega)) hk) fun s hs=>Zpx (.inl (by have:=S.out;omega)) s⟩
    case measure=>simp [intOf];omega
  ·obtain rfl:n=i:=by omega
   go_wp2;go_ret;exact ⟨_,rfl,hA⟩
end
namespace Pl
def Zbf (cols:List (List En)) (k t:Nat):Mx:=fun i j=>if j < k then Vj (cols.getD j []) i else if j=k then Vj ((cols.getD k []).take t) i else 0
theorem Zsq (cols:List (List En)) (i j:Nat):Zbf cols 0 0 i j=0:=by
 unfold Zbf;rw [if_neg (by omega)];split
 ·rfl
 ·rfl
theorem Ybr {es:List En} {t i:Nat} {e:En} (h:Inc none es) (he:es[t]? =some e):Vj (es.take (t+1)) i=if e.idx=(i:Int) then e.f.q else Vj (es.take t) i:=by
 rw [List.take_add_one,he];unfold Vj;simp only [Option.toList];rw [Zmd]
theorem Zxq {cols:List (List En)} {k t i0 i j:Nat} {es:List En} {e:En} (hc:cols[k]? =some es) (hinc:Inc none es) (he:es[t]? =some e) (hi:e.idx=(i0:Int)):Zbf cols k (t+1) i j=if i=i0∧j=k then e.f.q else Zbf cols k t i j:=by
 have hg:cols.getD k []=es:=by simp [List.getD,hc]
 unfold Zbf;by_cases e1:j < k
 ·rw [if_pos e1,if_pos e1,if_neg (by omega)]
 ·rw [if_neg e1,if_neg e1];by_cases e2:j=k
  ·rw [if_pos e2,if_pos e2,hg,Ybr hinc he,hi];by_cases e3:i=i0
   ·rw [if_pos (by omega),if_pos ⟨e3,e2⟩]
   ·rw [if_neg (by omega),if_neg (by omega)]
  ·rw [if_neg e2,if_neg e2,if_neg (by omega)]
theorem Zxr {cols:List (List En)} {k i j:Nat} {es:List En} (hc:cols[k]? =some es):Zbf cols k es.length i j=Zbf cols (k+1) 0 i j:=by
 have hg:cols.getD k []=es:=by simp [List.getD,hc]
 unfold Zbf;by_cases e1:j < k
 ·rw [if_pos e1,if_pos (by omega)]
 ·rw [if_neg e1];by_cases e2:j=k
  ·rw [if_pos e2,if_pos (by omega),hg,List.take_length,e2,hg]
  ·rw [if_neg e2,if_neg (by omega)];split
   ·rfl
   ·rfl
theorem Ybs {cols:List (List En)} {n i j:Nat} (hj:j < n):Zbf cols n 0 i j=Vj (cols.getD j []) i:=by unfold Zbf;rw [if_pos hj]
def Zsr (R:Nat→Nat) (i:Nat):Nat→Int
 | 0=> -1
 | s+1=>if R s=i then (s:Int) else Zsr R i s
def UG (n t:Nat) (R:Nat→Nat):List Int:=(List.range n).map fun i=>Zsr R i t
theorem WK {n t:Nat} {R:Nat→Nat}:(UG n t R).length=n:=by simp [UG]
theorem VN {n t i:Nat} {R:Nat→Nat} (h:i < n):(UG n t R)[i]? =some (Zsr R i t):=by simp [UG,h]
theorem Zai {n t i:Nat} {R:Nat→Nat} (h:i < n):(UG n t R).getD i 0=Zsr R i t:=Zjc (VN h)
theorem Zbc {R:Nat→Nat} {i:Nat}:∀{t:Nat},Zsr R i t < 0↔∀s,s < t→R s≠i
 | 0=>⟨fun _ s h=>absurd h (by omega),fun _=>by unfold Zsr;omega⟩
 | t+1=>by
  unfold Zsr
  by_cases e:R t=i
  ·rw [if_pos e]
   exact ⟨fun h=>by omega,fun h=>absurd e (h t (by omega))⟩
  ·rw [if_neg e,Zbc]
   exact ⟨fun h s hs=>by
    by_cases e2:s=t
    ·rw [e2];exact e
    ·exact h s (by omega),fun h s hs=>h s (by omega)⟩
theorem Ykp {R:Nat→Nat} {n s:Nat} (h:Inj n n R) (hs:s < n):Zsr R (R s) n=s:=by
 have a:∀t,s < t→t≤n→Zsr R (R s) t=s:=by
  intro t
  induction t with
  | zero=>intro h1;omega
  | succ t ih=>
   intro h1 h2;unfold Zsr;by_cases e:t=s
   ·subst e;rw [if_pos rfl]
   ·rw [if_neg fun g=>e (h.eq (by omega) hs g)];exact ih (by omega) (by omega)
 exact a n hs (JY _)
theorem Zlc {R R':Nat→Nat} {i:Nat}:∀{t:Nat},(∀s,s < t→R s=R' s)→Zsr R i t=Zsr R' i t
 | 0,_=>rfl
 | t+1,h=>by unfold Zsr;rw [h t (by omega),Zlc fun s hs=>h s (by omega)]
theorem Zve {n t r:Nat} {R:Nat→Nat} (hf:∀s,s < t→R s≠r):(UG n t R).set r (t:Int)=UG n (t+1) (Uf R t r):=by
 refine List.ext_getElem? fun i=>?_
 rcases JX i n with e | e
 ·rw [VN e,List.getElem?_set];unfold Zsr;rw [Yx];by_cases g:r=i
  ·subst g;rw [if_pos rfl,if_pos (by rw [WK];exact e),if_pos rfl]
  ·rw [if_neg g,if_neg g,VN e,Zlc (R':=Uf R t r) fun s hs=>(YQ hs).symm]
 ·rw [JU (by rw [List.length_set,WK];exact e),JU (by rw [WK];exact e)]
theorem Ybt {n:Nat} {R:Nat→Nat}:UG n 0 R=List.replicate n (-1):=by
 refine List.ext_getElem? fun i=>?_
 rcases JX i n with e | e
 ·rw [VN e];unfold Zsr;simp [e]
 ·rw [JU (by rw [WK];exact e),JU (by simp;exact e)]
theorem VA {R:Nat→Nat} {n t r i:Nat} (hi:i < n):((UG n (t+1) (Uf R t r)).getD i 0 < 0)↔((∀s,s < t→R s≠i)∧i≠r):=by
 rw [Zai hi,Zbc];constructor
 ·intro h;refine ⟨fun s hs=>?_,fun e=>?_⟩
  ·have:=h s (by omega);rwa [YQ hs] at this
  ·have:=h t (by omega);rw [Yx] at this;exact this e.symm
 ·rintro ⟨h1,h2⟩ s hs;by_cases e:s=t
  ·rw [e,Yx];exact fun g=>h2 g.symm
  ·rw [YQ (by omega)];exact h1 s (by omega)
theorem Yft {n t K:Nat} {A a:Mx} {R C:Nat→Nat} {m:Mx} (h:Zbw n t A a R C m) {r c:Nat} (hr:r < n) (hc:c < n) (hrf:∀s,s < t→R s≠r) (hcf:∀s,s < t→C s≠c) (hp:a r c≠0) (hK:1≤K) (hs:∀i j,i < n→j < n→Sz (5^t * K) (a i j)):
 Zbw n (t+1) A (elQ (UG n (t+1) (Uf R t r)) (UG n (t+1) (Uf C t c)) a r c n 0) (Uf R t r) (Uf C t c) (Uf m t (Znn (UG n (t+1) (Uf R t r)) a r c n))∧
 (∀i,i < n→Sz (2 * (5^t * K)) (Znn (UG n (t+1) (Uf R t r)) a r c n i))∧
 ∀i j,i < n→j < n→Sz (5^(t+1) * K) (elQ (UG n (t+1) (Uf R t r)) (UG n (t+1) (Uf C t c)) a r c n 0 i j):=by
 have b:∀i,i < n→Znn (UG n (t+1) (Uf R t r)) a r c n i=if (∀s,s < t→R s≠i)∧i≠r then a i c / a r c else 0:=fun i hi=>by
  unfold Znn;by_cases e:(∀s,s < t→R s≠i)∧i≠r
  ·rw [if_pos e,if_pos ⟨hi,(VA hi).2 e⟩]
  ·rw [if_neg e,if_neg fun g=>e ((VA hi).1 g.2)]
 have d:∀i j,i < n→j < n→elQ (UG n (t+1) (Uf R t r)) (UG n (t+1) (Uf C t c)) a r c n 0 i j=if ((∀s,s < t→R s≠i)∧i≠r)∧((∀s,s < t→C s≠j)∧j≠c) then a i j - Znn (UG n (t+1) (Uf R t r)) a r c n i * a r j else a i j:=fun i j hi hj=>by
  unfold elQ;by_cases e:((∀s,s < t→R s≠i)∧i≠r)∧((∀s,s < t→C s≠j)∧j≠c)
  ·rw [if_pos e,if_pos ⟨.inl hi,(VA hi).2 e.1,(VA hj).2 e.2⟩,b i hi,if_pos e.1]
  ·rw [if_neg e,if_neg fun g=>e ⟨(VA hi).1 g.2.1,(VA hj).1 g.2.2⟩]
 classical
 obtain ⟨b1,b2⟩:=Yml (m':=Uf m t (Znn (UG n (t+1) (Uf R t r)) a r c n)) (t:=t) (P:=fun i=>(∀s,s < t→R s≠i)∧i≠r) (Q:=fun j=>(∀s,s < t→C s≠j)∧j≠c) hK hr hc hs (fun i hi=>by rw [Yx,b i hi]) (a':=elQ (UG n (t+1) (Uf R t r)) (UG n (t+1) (Uf C t c)) a r c n 0) (fun i j hi hj=>by rw [d i j hi hj,Yx]);refine ⟨h.step hr hc hrf hcf hp (fun s hs=>YQ hs) Yx (fun s hs=>YQ hs) Yx (fun s i hs=>by rw [YQ hs]) (fun i hi=>by rw [Yx];exact b i hi) (fun i j hi hj=>by rw [Yx];exact d i j hi hj),fun i hi=>?_,b2⟩;have:=b1 i hi
 rwa [Yx] at this
def Zss (R:Nat→Nat) (m:Mx) (t k:Nat):Nat→Rat:=fun p=>if p=t then 1 else if R p < k then m t (R p) else 0
theorem Zxs {R:Nat→Nat} {m:Mx} {t:Nat} (p:Nat):Zss R m t 0 p=if p=t then 1 else 0:=by
 unfold Zss;split
 ·rfl
 ·rw [if_neg (by omega)]
theorem Ybu {n:Nat} {R:Nat→Nat} {m:Mx} {t k p:Nat} (h0:m t k=0):Zss R m t k p=Zss R m t (k+1) p:=by
 unfold Zss;split
 ·rfl
 ·by_cases e:R p=k
  ·rw [if_neg (by omega),if_pos (by omega),e,h0]
  ·by_cases e2:R p < k
   ·rw [if_pos e2,if_pos (by omega)]
   ·rw [if_neg e2,if_neg (by omega)]
theorem Ybv {n:Nat} {R:Nat→Nat} {m:Mx} {t k p s:Nat} (h:Inj n n R) (ht:t < n) (hp:p < n) (hs:s < n) (hk:R s=k) (h0:m t k≠0) (hm0:m t (R t)=0):Zss R m t (k+1) p=if p=s then m t k else Zss R m t k p:=by
 have a:s≠t:=fun e=>h0 (by rw [← hk,e];exact hm0)
 unfold Zss;by_cases e:p=s
 ·subst e;rw [if_pos rfl,if_neg a,if_pos (by omega),hk]
 ·rw [if_neg e];split
  ·rfl
  ·have:R p≠k:=fun g=>e (h.eq hp hs (by rw [g,hk]))
   by_cases e2:R p < k
   ·rw [if_pos e2,if_pos (by omega)]
   ·rw [if_neg e2,if_neg (by omega)]
theorem Yfu {n:Nat} {R:Nat→Nat} {m:Mx} {t p:Nat} (h:Inj n n R) (hp:p < n) (hm0:∀q,q≤t→m t (R q)=0):Zss R m t n p=luL R m t p:=by
 unfold Zss luL;split
 ·rfl
 ·rw [if_pos (h.1 p hp)];split
  ·rfl
  ·exact hm0 p (by omega)
def upP (R C:Nat→Nat) (a:Mx) (t k:Nat):Nat→Rat:=fun s=>if s < k then a (R s) (C t) else 0
theorem Yfv {R C:Nat→Nat} {a:Mx} {t k:Nat} (s:Nat):upP R C a t (k+1) s=if s=k then a (R k) (C t) else upP R C a t k s:=by
 unfold upP;by_cases e:s=k
 ·subst e;rw [if_pos rfl,if_pos (by omega)]
 ·rw [if_neg e];by_cases e2:s < k
  ·rw [if_pos e2,if_pos (by omega)]
  ·rw [if_neg e2,if_neg (by omega)]
theorem Ykq {R C:Nat→Nat} {a:Mx} {t:Nat} (s:Nat):upP R C a t (t+1) s=luU R C a t s:=by
 unfold upP luU;by_cases e:s≤t
 ·rw [if_pos e,if_pos (by omega)]
 ·rw [if_neg e,if_neg (by omega)]
end Pl
section
theorem Zst {P:Program} {Q:Exit→Act→World→Prop} {id:Nat} {l:List Oper} {a:Act} {w:World} (S:World→Prop) (h0:S w.drew) (n:Nat) (is:List Nat) (hm:P.follows .mixedOrders=true) (hok:Yfa .any l.toArray n is=true)
 (h:XP P l.toArray (NoPanic Q) S n is a w.drew):(Code.region id l.toArray true).wp P Q a w:=by
 simp only [Yfa,Bool.and_eq_true,decide_eq_true_eq] at hok;obtain ⟨hs,b,hl⟩:=hok;refine wp_region_noPanic (wp_region_any hm (AnyG.any _ _ _ _ (S:=S) (n:=n) ?_));rw [← hl];have:=AnyG.of_seq (P:=P) (Q:=NoPanic Q) (S:=S) (fun c a d v w h=>h) hs is _ a w.drew false b (fun _=>h0) h
 rwa [hl] at this ⊢
theorem ZU.othP {base:Nat} {w w':World} {P:Nat→Prop} {v:Value} {fs:List RF} (h:ZU base w v fs) (ho:Zpw P w w') (hk:ZG w w') (hne:∀b,v.ownBlock=some b→¬P b):ZU base w' v fs:=by
 obtain ⟨cs,h1,h2⟩:=h;refine ⟨cs,⟨h1.1,?_⟩,h2.keep hk⟩;rcases h1.2 with hn | ⟨g',cap,cur,rfl,hb',hgg,rest⟩
 ·exact .inl hn
 ·exact .inr ⟨g',cap,cur,rfl,hb',(ho.2 g' (YA hgg) (hne g' (by simp [Value.ownBlock]))).trans hgg,rest⟩
namespace Pl
def Zyo (n t:Nat) (R:Nat→Nat):List Int:=(List.range n).map fun s=>if s < t then (R s:Int) else 0
theorem Uz {n t:Nat} {R:Nat→Nat}:(Zyo n t R).length=n:=by simp [Zyo]
theorem Zgu {n t s:Nat} {R:Nat→Nat} (h:s < n):(Zyo n t R)[s]? =some (if s < t then (R s:Int) else 0):=by simp [Zyo,h]
theorem Znb {n t:Nat} {R:Nat→Nat} {l:List Int} (hl:l.length=n) (h:∀s,s < n→l[s]? =some (if s < t then (R s:Int) else 0)):l=Zyo n t R:=by
 refine List.ext_getElem? fun s=>?_
 rcases JX s n with e | e
 ·rw [h s e,Zgu e]
 ·rw [JU (by omega),JU (by rw [Uz];exact e)]
theorem Zpy {n:Nat} {R:Nat→Nat}:List.replicate n 0=Zyo n 0 R:=Znb (by simp) fun s hs=>by simp [hs]
theorem Zvf {n t r:Nat} {R:Nat→Nat} (ht:t < n):(Zyo n t R).set t (r:Int)=Zyo n (t+1) (Uf R t r):=Znb (by simp [Zyo]) fun s hs=>by
 rw [List.getElem?_set]
 by_cases e:t=s
 ·subst e
  rw [if_pos rfl,Uz,if_pos hs,if_pos (by omega),Yx]
 ·rw [if_neg e,Zgu hs]
  by_cases e2:s < t
  ·rw [if_pos e2,if_pos (by omega),YQ e2]
  ·rw [if_neg e2,if_neg (by omega)]
theorem Zvg {n:Nat} {R:Nat→Nat}:Zyo n n R=Zpi n R:=by
 refine (Znb (Ziw _ _) fun s hs=>?_).symm;rw [Zgs hs,if_pos hs]
def Zxv (n t:Nat) (L:Mx):List (List En):=(List.range n).map fun s=>if s < t then spV (L s) n else []
theorem VB {n t:Nat} {L:Mx}:(Zxv n t L).length=n:=by simp [Zxv]
theorem Zee {n t s:Nat} {L:Mx} (h:s < n):(Zxv n t L)[s]? =some (if s < t then spV (L s) n else []):=by simp [Zxv,h]
theorem Znc {n t:Nat} {L:Mx} {l:List (List En)} (hl:l.length=n) (h:∀s,s < n→l[s]? =some (if s < t then spV (L s) n else [])):l=Zxv n t L:=by
 refine List.ext_getElem? fun s=>?_
 rcases JX s n with e | e
 ·rw [h s e,Zee e]
 ·rw [JU (by omega),JU (by rw [VB];exact e)]
theorem Zjd {n:Nat} {L:Mx}:List.replicate n []=Zxv n 0 L:=Znc (by simp) fun s hs=>by simp [hs]
theorem Znd {n t:Nat} {L:Mx} (ht:t < n):(Zxv n t L).set t (spV (L t) n)=Zxv n (t+1) L:=Znc (by simp [Zxv]) fun s hs=>by
 rw [List.getElem?_set]
 by_cases e:t=s
 ·subst e
  rw [if_pos rfl,VB,if_pos hs,if_pos (by omega)]
 ·rw [if_neg e,Zee hs]
  by_cases e2:s < t
  ·rw [if_pos e2,if_pos (by omega)]
  ·rw [if_neg e2,if_neg (by omega)]
theorem Zvh {n:Nat} {L:Mx}:Zxv n n L=vcL n L:=by
 refine (Znc (Zfa _ _) fun s hs=>?_).symm;rw [Zix hs,if_pos hs]
end Pl
def X9 (U:World) (ge ga gr gc n:Nat) (G D:Nat→Nat) (rp cp:List Int) (Q:Mx) (wr:World):Prop:=
 ∃M,ElM U.heap.size wr ge n (.slice (some ⟨ga,0,none⟩) n n) (.slice (some ⟨gr,0,none⟩) n n) (.slice (some ⟨gc,0,none⟩) n n) M G D rp cp∧(∀i j,i < n→j < n→Tdy (M i j) (Q i j))∧Below U.heap.size U wr
section
variable {U wr w':World} {ge ga gr gc n:Nat} {G D:Nat→Nat} {rp cp:List Int} {Q Q':Mx}
theorem X9.below (h:X9 U ge ga gr gc n G D rp cp Q wr) (hb:Below wr.heap.size wr w'):X9 U ge ga gr gc n G D rp cp Q w':=by
 obtain ⟨M,h1,h2,h3⟩:=h;exact ⟨M,h1.below hb,h2,Za h3 hb h3.size⟩
theorem X9.congr (h:X9 U ge ga gr gc n G D rp cp Q wr) (e:∀i j,i < n→j < n→Q i j=Q' i j):X9 U ge ga gr gc n G D rp cp Q' wr:=by
 obtain ⟨M,h1,h2,h3⟩:=h;exact ⟨M,h1,fun i j hi hj=>by rw [← e i j hi hj];exact h2 i j hi hj,h3⟩
theorem X9.setM (h:X9 U ge ga gr gc n G D rp cp Q wr) {i j:Nat} (hi:i < n) (hj:j < n) {x y z u:Value} {q:Rat} (hq:Zw wr (.agg #[x,y,z,u]) (canF q)) (hf:∀s k,s < n→k < n→Q' s k=if s=i∧k=j then q else Q s k):
 X9 U ge ga gr gc n G D rp cp Q' ((((wr.setCell ⟨G i,j * 4,none⟩ x).setCell ⟨G i,j * 4+1,none⟩ y).setCell ⟨G i,j * 4+2,none⟩ z).setCell ⟨G i,j * 4+3,none⟩ u):=by
 obtain ⟨M,⟨e1,e2,e3,e4,e5⟩,h2,h3⟩:=h;obtain ⟨g1,g2⟩:=e2.set_ hi hj hq;obtain ⟨l1,_⟩:=e2.lt hi (by omega);refine ⟨_,⟨g2.bk e1 (by decide),g1,e3.but g2 (by decide),e4.but g2 (by decide),e5⟩,fun s k hs hk=>?_,Zx h3 l1 _ _ _ _ _ _ _ _⟩;rw [hf s k hs hk];unfold Yjw;by_cases e:s=i∧k=j
 ·rw [if_pos e,if_pos e];exact .inl rfl
 ·rw [if_neg e,if_neg e];exact h2 s k hs hk
theorem X9.farI (h:X9 U ge ga gr gc n G D rp cp Q wr) {g i:Nat} {v:Value} (hk:Zg 3 wr (wr.setCell ⟨g,i,none⟩ v)) (hg:U.heap.size≤g) (h1:g≠gr) (h2:g≠gc):X9 U ge ga gr gc n G D rp cp Q (wr.setCell ⟨g,i,none⟩ v):=by
 obtain ⟨M,⟨e1,e2,e3,e4,e5⟩,h4,h3⟩:=h;have ho:=Yi.of_set (g:=g) (i:=i) (v:=v) (w:=wr);exact ⟨M,⟨hk.bk e1 (by decide),e2.but hk (by decide) (by decide) (by decide),e3.others ho (fun b hb e=>by simp [Value.ownBlock] at hb;injection e with e;omega),e4.others ho (fun b hb e=>by simp [Value.ownBlock] at hb;injection e with e;omega),e5⟩,h4,h3.setCell (p:=⟨g,i,none⟩) hg v⟩
theorem X9.but (h:X9 U ge ga gr gc n G D rp cp Q wr) {e:TypeId} (hk:Zg e wr w') (hb:Below U.heap.size U w') (h1:174≠e) (h2:23≠e) (h3:46≠e) (h4:148≠e) (h5:3≠e):X9 U ge ga gr gc n G D rp cp Q w':=by
 obtain ⟨M,⟨e1,e2,e3,e4,e5⟩,g4,g3⟩:=h;exact ⟨M,⟨hk.bk e1 h1,e2.but hk h2 h3 h4,e3.but hk h5,e4.but hk h5,e5⟩,g4,hb⟩
theorem X9.setR (h:X9 U ge ga gr gc n G D rp cp Q wr) (hne:gr≠gc) {r:Nat} (hr:r < n) {z:Int} (h0: -9223372036854775808≤z) (h1:z≤9223372036854775807):
 X9 U ge ga gr gc n G D (rp.set r z) cp Q (wr.setCell ⟨gr,r,none⟩ (.int .i64 z))∧Zg 3 wr (wr.setCell ⟨gr,r,none⟩ (.int .i64 z)):=by
 obtain ⟨M,⟨e1,e2,e3,e4,e5,e6⟩,h4,h3⟩:=h;obtain ⟨g1,hk⟩:=e3.set_ (k:=r) (by omega) h0 h1;have ho:=Yi.of_set (g:=gr) (i:=r) (v:= .int .i64 z) (w:=wr);exact ⟨⟨M,⟨hk.bk e1 (by decide),e2.but hk (by decide) (by decide) (by decide),g1,e4.others ho (fun b hb e=>by simp [Value.ownBlock] at hb;injection e with e;omega),by rw [List.length_set];exact e5,e6⟩,h4,h3.setCell (p:=⟨gr,r,none⟩) e3.base _⟩,hk⟩
theorem X9.setC (h:X9 U ge ga gr gc n G D rp cp Q wr) (hne:gr≠gc) {c:Nat} (hc:c < n) {z:Int} (h0: -9223372036854775808≤z) (h1:z≤9223372036854775807):
 X9 U ge ga gr gc n G D rp (cp.set c z) Q (wr.setCell ⟨gc,c,none⟩ (.int .i64 z))∧Zg 3 wr (wr.setCell ⟨gc,c,none⟩ (.int .i64 z)):=by
 obtain ⟨M,⟨e1,e2,e3,e4,e5,e6⟩,h4,h3⟩:=h;obtain ⟨g1,hk⟩:=e4.set_ (k:=c) (by omega) h0 h1;have ho:=Yi.of_set (g:=gc) (i:=c) (v:= .int .i64 z) (w:=wr);exact ⟨⟨M,⟨hk.bk e1 (by decide),e2.but hk (by decide) (by decide) (by decide),e3.others ho (fun b hb e=>by simp [Value.ownBlock] at hb;injection e with e;omega),g1,e5,by rw [List.length_set];exact e6⟩,h4,h3.setCell (p:=⟨gc,c,none⟩) e4.base _⟩,hk⟩
end
def Ykr (base n t:Nat) (F E:Nat→Nat) (m:Mx) (J:Nat) (G:Nat→Nat) (w:World):Prop:=
 ∃H:Nat→Nat→RF,∀s,s < t→ZU base w (X7 n F E s) (rfL n (H s))∧(∀i,i < n→(H s i).q=m s i∧(H s i).Rs J)∧∀i,i < n→F s≠G i
def Wu (U:World) (gf g0 g1 gt n t J:Nat) (v2 v3:Value) (l0 l1:List Int) (F E:Nat→Nat) (m:Mx) (G:Nat→Nat) (w:World):Prop:=
 Bk w gf 158 [.slice (some ⟨g0,0,none⟩) n n,.slice (some ⟨g1,0,none⟩) n n,v2,v3]∧ZP U.heap.size w (.slice (some ⟨g0,0,none⟩) n n) l0∧ZP U.heap.size w (.slice (some ⟨g1,0,none⟩) n n) l1∧
  w.ownsRow U.heap.size 23 1 (.slice (some ⟨gt,0,none⟩) n n) n (Zqw n t F E)∧Ykr U.heap.size n t F E m J G w
section
variable {U w w':World} {gf g0 g1 gt n t J:Nat} {v2 v3:Value} {l0 l1:List Int} {F E G:Nat→Nat} {m:Mx}
theorem Ykr.below (h:Ykr U.heap.size n t F E m J G w) (hb:Below w.heap.size w w'):Ykr U.heap.size n t F E m J G w':=by
 obtain ⟨H,h⟩:=h;exact ⟨H,fun s hs=>⟨(h s hs).1.below hb,(h s hs).2⟩⟩
theorem Ykr.but {e:TypeId} (h:Ykr U.heap.size n t F E m J G w) (hk:Zg e w w') (h1:46≠e) (h2:148≠e):Ykr U.heap.size n t F E m J G w':=by
 obtain ⟨H,h⟩:=h;exact ⟨H,fun s hs=>⟨(h s hs).1.but hk h1 h2,(h s hs).2⟩⟩
theorem Wu.below (h:Wu U gf g0 g1 gt n t J v2 v3 l0 l1 F E m G w) (hb:Below w.heap.size w w'):Wu U gf g0 g1 gt n t J v2 v3 l0 l1 F E m G w':=
 ⟨h.1.later hb,h.2.1.below hb,h.2.2.1.below hb,own_below h.2.2.2.1 hb,h.2.2.2.2.below hb⟩
theorem Wu.but {e:TypeId} (h:Wu U gf g0 g1 gt n t J v2 v3 l0 l1 F E m G w) (hk:Zg e w w') (h1:158≠e) (h2:23≠e) (h3:46≠e) (h4:148≠e) (h5:3≠e):Wu U gf g0 g1 gt n t J v2 v3 l0 l1 F E m G w':=
 ⟨hk.bk h.1 h1,h.2.1.but hk h5,h.2.2.1.but hk h5,hk.own h.2.2.2.1 h2,h.2.2.2.2.but hk h3 h4⟩
theorem Wu.set0 (h:Wu U gf g0 g1 gt n t J v2 v3 l0 l1 F E m G w) (hne:g0≠g1) {k:Nat} (hk:k < l0.length) {z:Int} (z0: -9223372036854775808≤z) (z1:z≤9223372036854775807):
 Wu U gf g0 g1 gt n t J v2 v3 (l0.set k z) l1 F E m G (w.setCell ⟨g0,k,none⟩ (.int .i64 z))∧Zg 3 w (w.setCell ⟨g0,k,none⟩ (.int .i64 z)):=by
 obtain ⟨e1,e2,e3,e4,e5⟩:=h;obtain ⟨g,a⟩:=e2.set_ hk z0 z1;have ho:=Yi.of_set (g:=g0) (i:=k) (v:= .int .i64 z) (w:=w);exact ⟨⟨a.bk e1 (by decide),g,e3.others ho (fun b hb e=>by simp [Value.ownBlock] at hb;injection e with e;omega),a.own e4 (by decide),e5.but a (by decide) (by decide)⟩,a⟩
theorem Wu.set1 (h:Wu U gf g0 g1 gt n t J v2 v3 l0 l1 F E m G w) (hne:g0≠g1) {k:Nat} (hk:k < l1.length) {z:Int} (z0: -9223372036854775808≤z) (z1:z≤9223372036854775807):
 Wu U gf g0 g1 gt n t J v2 v3 l0 (l1.set k z) F E m G (w.setCell ⟨g1,k,none⟩ (.int .i64 z))∧Zg 3 w (w.setCell ⟨g1,k,none⟩ (.int .i64 z)):=by
 obtain ⟨e1,e2,e3,e4,e5⟩:=h;obtain ⟨g,a⟩:=e3.set_ hk z0 z1;have ho:=Yi.of_set (g:=g1) (i:=k) (v:= .int .i64 z) (w:=w);exact ⟨⟨a.bk e1 (by decide),e2.others ho (fun b hb e=>by simp [Value.ownBlock] at hb;injection e with e;omega),g,a.own e4 (by decide),e5.but a (by decide) (by decide)⟩,a⟩
theorem Wu.farI (h:Wu U gf g0 g1 gt n t J v2 v3 l0 l1 F E m G w) {g i:Nat} {v:Value} (hk:Zg 3 w (w.setCell ⟨g,i,none⟩ v)) (h1:g≠g0) (h2:g≠g1):Wu U gf g0 g1 gt n t J v2 v3 l0 l1 F E m G (w.setCell ⟨g,i,none⟩ v):=by
 obtain ⟨e1,e2,e3,e4,e5⟩:=h;have ho:=Yi.of_set (g:=g) (i:=i) (v:=v) (w:=w);exact ⟨hk.bk e1 (by decide),e2.others ho (fun b hb e=>by simp [Value.ownBlock] at hb;injection e with e;omega),e3.others ho (fun b hb e=>by simp [Value.ownBlock] at hb;injection e with e;omega),hk.own e4 (by decide),e5.but hk (by decide) (by decide)⟩
theorem Wu.othP (h:Wu U gf g0 g1 gt n t J v2 v3 l0 l1 F E m G w) (ho:Zpw (fun b=>∃i,i < n∧b=G i) w w') (hk:Zg 46 w w'):Wu U gf g0 g1 gt n t J v2 v3 l0 l1 F E m G w':=by
 obtain ⟨e1,e2,e3,e4,H,e5⟩:=h;refine ⟨hk.bk e1 (by decide),e2.but hk (by decide),e3.but hk (by decide),hk.own e4 (by decide),H,fun s hs=>⟨(e5 s hs).1.othP ho (hk.keep (by decide)) fun b hb=>?_,(e5 s hs).2⟩⟩;simp [X7,Value.ownBlock] at hb;subst hb;rintro ⟨i,hi,e⟩;exact (e5 s hs).2.2 i hi e
theorem Wu.push (h:Wu U gf g0 g1 gt n t J v2 v3 l0 l1 F E m G w) (ht:t < n) {g c:Nat} {H:Nat→RF} {f:Nat→Rat} (hO:ZU U.heap.size w (.slice (some ⟨g,0,none⟩) n c) (rfL n H)) (hq:∀i,i < n→(H i).q=f i∧(H i).Rs J) (hg:∀i,i < n→g≠G i):
 Wu U gf g0 g1 gt n (t+1) J v2 v3 l0 l1 (Uf F t g) (Uf E t c) (Uf m t f) G (w.setCell ⟨gt,t,none⟩ (.slice (some ⟨g,0,none⟩) n c))∧Zg 23 w (w.setCell ⟨gt,t,none⟩ (.slice (some ⟨g,0,none⟩) n c)):=by
 obtain ⟨e1,e2,e3,e4,K,e5⟩:=h;obtain ⟨_,hb,_⟩:=Ye e4;have hk:=Zg.setCell hb t (.slice (some ⟨g,0,none⟩) n c);have e6:=XC e4 t (.slice (some ⟨g,0,none⟩) n c) (by rw [WJ];exact ht);rw [Zvb ht] at e6;refine ⟨⟨hk.bk e1 (by decide),e2.but hk (by decide),e3.but hk (by decide),e6,Uf K t H,fun s hs=>?_⟩,hk⟩;by_cases e:s=t
 ·subst e;unfold X7;rw [Yx,Yx,Yx,Yx];exact ⟨hO.but hk (by decide) (by decide),hq,hg⟩
 ·unfold X7;rw [YQ (by omega),YQ (by omega),YQ (by omega),YQ (by omega)];exact ⟨(e5 s (by omega)).1.but hk (by decide) (by decide),(e5 s (by omega)).2⟩
end
def Yks (U:World) (ge ga gr gc gf g0 g1 gt n K t:Nat) (G D:Nat→Nat) (A:Mx) (wr:World):Prop:=
 ∃(a m:Mx) (R C F E:Nat→Nat),X9 U ge ga gr gc n G D (UG n t R) (UG n t C) a wr∧Zbw n t A a R C m∧(∀i j,i < n→j < n→Sz (5^t * K) (a i j))∧(∀s i,s < t→i < n→Sz (2 * (5^n * K)) (m s i))∧
  Wu U gf g0 g1 gt n t (2 * (5^n * K)) (.slice none 0 0) (.slice none 0 0) (Zyo n t R) (Zyo n t C) F E m G wr
def LuM (U:World) (ge ga gr gc gf g0 g1 gt gl gu go n J tl tu:Nat) (G D R C F E:Nat→Nat) (a m:Mx) (wr:World):Prop:=
 X9 U ge ga gr gc n G D (UG n n R) (UG n n C) a wr∧Wu U gf g0 g1 gt n n J (.slice (some ⟨gl,0,none⟩) n n) (.slice (some ⟨gu,0,none⟩) n n) (Zpi n R) (Zpi n C) F E m G wr∧
  (∃A k c A' k' c',Bk wr go 46 [.bool (canF 1).num.neg,.slice A k c,.bool (canF 1).den.neg,.slice A' k' c']∧Zw wr (.agg #[.bool (canF 1).num.neg,.slice A k c,.bool (canF 1).den.neg,.slice A' k' c']) (canF 1))∧
  YF U.heap.size wr (.slice (some ⟨gl,0,none⟩) n n) (Zxv n tl (luL R m))∧YF U.heap.size wr (.slice (some ⟨gu,0,none⟩) n n) (Zxv n tu (luU R C a))
section
variable {U wr w':World} {ge ga gr gc gf g0 g1 gt gl gu go n J tl tu:Nat} {G D R C F E:Nat→Nat} {a m:Mx}
theorem LuM.below (h:LuM U ge ga gr gc gf g0 g1 gt gl gu go n J tl tu G D R C F E a m wr) (hb:Below wr.heap.size wr w'):LuM U ge ga gr gc gf g0 g1 gt gl gu go n J tl tu G D R C F E a m w':=by
 obtain ⟨h1,h2,⟨A,k,c,A',k',c',h3,h4⟩,h5,h6⟩:=h;exact ⟨h1.below hb,h2.below hb,⟨A,k,c,A',k',c',h3.later hb,h4.below hb⟩,h5.below hb,h6.below hb⟩
theorem YF.others {base:Nat} {w w':World} {g:Option Nat} {v:Value} {cols:List (List En)} (h:YF base w v cols) (ho:Yi g w w') (hk:Zg 66 w w') (hne:∀b,v.ownBlock=some b→some b≠g):YF base w' v cols:=by
 obtain ⟨cs,h1,h2⟩:=h;exact ⟨cs,Zkz h1 ho hne,fun k c hc=>by
  obtain ⟨u,hu,hm⟩:=h2 k c hc;exact ⟨u,hu,hm.but hk (by decide) (by decide)⟩⟩
theorem YF.monoB {base base':Nat} {w:World} {v:Value} {cols:List (List En)} (h:YF base w v cols) (hb:base'≤base):YF base' w v cols:=by
 obtain ⟨cs,h1,h2⟩:=h;exact ⟨cs,Y4 h1 hb,h2⟩
theorem YF.base {base:Nat} {w:World} {g n c:Nat} {cols:List (List En)} (h:YF base w (.slice (some ⟨g,0,none⟩) n c) cols):base≤g:=by
 obtain ⟨cs,h1,_⟩:=h;have hn:n=cols.length:=(UD.of_own h1).len;subst hn;obtain ⟨_,_,h3⟩:=Ye h1;exact h3
theorem LuM.setL (h:LuM U ge ga gr gc gf g0 g1 gt gl gu go n J tl tu G D R C F E a m wr) (hne:gl≠gu) (ht:tl < n) {v:Value} (hv:V7 wr v (spV (luL R m tl) n)):
 LuM U ge ga gr gc gf g0 g1 gt gl gu go n J (tl+1) tu G D R C F E a m (wr.setCell ⟨gl,tl,none⟩ v):=by
 obtain ⟨h1,h2,⟨A,k,c,A',k',c',h3,h4⟩,h5,h6⟩:=h;obtain ⟨h7,hk⟩:=h5.set_ (k:=tl) (by rw [VB];exact ht) hv;rw [Znd ht] at h7;have ho:=Yi.of_set (g:=gl) (i:=tl) (v:=v) (w:=wr);have hb:Below U.heap.size U (wr.setCell ⟨gl,tl,none⟩ v):=by
  obtain ⟨_,_,_,hb⟩:=h1;exact hb.setCell (p:=⟨gl,tl,none⟩) h5.base v
 exact ⟨h1.but hk hb (by decide) (by decide) (by decide) (by decide) (by decide),h2.but hk (by decide) (by decide) (by decide) (by decide) (by decide),⟨A,k,c,A',k',c',hk.bk h3 (by decide),h4.keep (hk.keep (by decide))⟩,h7,h6.others ho hk fun b hb e=>by simp [Value.ownBlock] at hb;injection e with e;omega⟩
theorem LuM.setU (h:LuM U ge ga gr gc gf g0 g1 gt gl gu go n J tl tu G D R C F E a m wr) (hne:gl≠gu) (ht:tu < n) {v:Value} (hv:V7 wr v (spV (luU R C a tu) n)):
 LuM U ge ga gr gc gf g0 g1 gt gl gu go n J tl (tu+1) G D R C F E a m (wr.setCell ⟨gu,tu,none⟩ v):=by
 obtain ⟨h1,h2,⟨A,k,c,A',k',c',h3,h4⟩,h5,h6⟩:=h;obtain ⟨h7,hk⟩:=h6.set_ (k:=tu) (by rw [VB];exact ht) hv;rw [Znd ht] at h7;have ho:=Yi.of_set (g:=gu) (i:=tu) (v:=v) (w:=wr);have hb:Below U.heap.size U (wr.setCell ⟨gu,tu,none⟩ v):=by
  obtain ⟨_,_,_,hb⟩:=h1;exact hb.setCell (p:=⟨gu,tu,none⟩) h6.base v
 exact ⟨h1.but hk hb (by decide) (by decide) (by decide) (by decide) (by decide),h2.but hk (by decide) (by decide) (by decide) (by decide) (by decide),⟨A,k,c,A',k',c',hk.bk h3 (by decide),h4.keep (hk.keep (by decide))⟩,h5.others ho hk fun b hb e=>by simp [Value.ownBlock] at hb;injection e with e;omega,h7⟩
end
theorem X9.farT {U wr:World} {ge ga gr gc n:Nat} {G D:Nat→Nat} {rp cp:List Int} {Q:Mx} (h:X9 U ge ga gr gc n G D rp cp Q wr) {g i:Nat} {v:Value} (hk:Zg 23 wr (wr.setCell ⟨g,i,none⟩ v)) (hg:U.heap.size≤g) (h1:g≠ga):X9 U ge ga gr gc n G D rp cp Q (wr.setCell ⟨g,i,none⟩ v):=by
 obtain ⟨M,⟨e1,⟨m1,m2,m3⟩,e3,e4,e5⟩,h4,h3⟩:=h;have ho:=Yi.of_set (g:=g) (i:=i) (v:=v) (w:=wr);exact ⟨M,⟨hk.bk e1 (by decide),⟨Zkz m1 ho (fun b hb e=>by simp [Value.ownBlock] at hb;injection e with e;omega),fun r hr=>(m2 r hr).but hk (by decide) (by decide),m3⟩,e3.but hk (by decide),e4.but hk (by decide),e5⟩,h4,h3.setCell (p:=⟨g,i,none⟩) hg v⟩
section
variable {U w w':World} {gf g0 g1 gt n t J:Nat} {v2 v3:Value} {l0 l1:List Int} {F E G:Nat→Nat} {m:Mx}
theorem Wu.set2 (h:Wu U gf g0 g1 gt n t J v2 v3 l0 l1 F E m G w) (v:Value):Wu U gf g0 g1 gt n t J v v3 l0 l1 F E m G (w.setCell ⟨gf,2,none⟩ v)∧Zg 158 w (w.setCell ⟨gf,2,none⟩ v):=by
 obtain ⟨e1,e2,e3,e4,e5⟩:=h;have hk:=Zg.setCell e1 2 v;exact ⟨⟨e1.set_ 2 v,e2.but hk (by decide),e3.but hk (by decide),hk.own e4 (by decide),e5.but hk (by decide) (by decide)⟩,hk⟩
theorem Wu.set3 (h:Wu U gf g0 g1 gt n t J v2 v3 l0 l1 F E m G w) (v:Value):Wu U gf g0 g1 gt n t J v2 v l0 l1 F E m G (w.setCell ⟨gf,3,none⟩ v)∧Zg 158 w (w.setCell ⟨gf,3,none⟩ v):=by
 obtain ⟨e1,e2,e3,e4,e5⟩:=h;have hk:=Zg.setCell e1 3 v;exact ⟨⟨e1.set_ 3 v,e2.but hk (by decide),e3.but hk (by decide),hk.own e4 (by decide),e5.but hk (by decide) (by decide)⟩,hk⟩
end
theorem Zaj (w:World):Calls Tryz.prog 35 #[.int .i64 1,.int .i64 1] w fun e w'=>∃v',e= .returned (.tuple #[v',.int .i64 0])∧Zw w' v' (canF 1)∧Below w.heap.size w w':=by
 refine (VJ 1 1 w (by omega) (by omega) (by omega) (by omega)).mono ?_;rintro e w' ⟨v',h1,h2,h3⟩;rw [if_neg (by omega)] at h1 h2;rw [show Rat.divInt 1 1=1 from Rat.divInt_self' (by decide)] at h2;exact ⟨v',h1,h2,h3⟩
def MkF (U:World) (n:Nat) (D:Nat→Prop) (s1 s2 s3 s4 s5:Value) (w:World):Prop:=
 Below U.heap.size U w∧(D 1→∃g,s1= .slice (some ⟨g,0,none⟩) n n∧g < w.heap.size∧ZP U.heap.size w (.slice (some ⟨g,0,none⟩) n n) (List.replicate n 0))∧
  (D 3→∃g,s2= .slice (some ⟨g,0,none⟩) n n∧g < w.heap.size∧ZP U.heap.size w (.slice (some ⟨g,0,none⟩) n n) (List.replicate n 0))∧
  (D 4→(D 1∧D 3)∧s3= .agg #[s1,s2,.slice none 0 0,.slice none 0 0])∧(D 5→∃g,s4= .pointer (some ⟨g,0,none⟩)∧U.heap.size≤g∧Bk w g 158 [.slice none 0 0,.slice none 0 0,.slice none 0 0,.slice none 0 0])∧(D 1→D 3→s1≠s2)∧s5= .int .i64 (n:Int)
theorem MkF.later {U w w':World} {n:Nat} {D:Nat→Prop} {s1 s2 s3 s4 s5:Value} (h:MkF U n D s1 s2 s3 s4 s5 w) (hb:Below w.heap.size w w'):MkF U n D s1 s2 s3 s4 s5 w':=by
 obtain ⟨h0,h1,h2,h3,h4,h5⟩:=h;have hs:=hb.size;refine ⟨Za h0 hb h0.size,fun d=>?_,fun d=>?_,h3,fun d=>?_,h5⟩
 ·obtain ⟨g,e,k,l⟩:=h1 d;exact ⟨g,e,by omega,l.below hb⟩
 ·obtain ⟨g,e,k,l⟩:=h2 d;exact ⟨g,e,by omega,l.below hb⟩
 ·obtain ⟨g,e,k,l⟩:=h4 d;exact ⟨g,e,k,l.later hb⟩
theorem MkF.set1 {U w:World} {n:Nat} {D:Nat→Prop} {s1 s2 s3 s4 s5:Value} (h:MkF U n D s1 s2 s3 s4 s5 w) (hn:n≤maxLen) (hd:¬D 1):MkF U n (fun k=>D k∨k=1) (.slice (some ⟨w.heap.size,0,none⟩) n n) s2 s3 s4 s5 (w.alloc (.cells (zic n) 3)):=by
 have hz:=ZP.zeros w n hn;obtain ⟨h0,h1,h2,h3,h4,h5,h6⟩:=h.later (Zi w (.cells (zic n) 3));exact ⟨h0,fun _=>⟨_,rfl,by simp,hz.monoB h.1.size⟩,fun d=>h2 (d.resolve_right (by decide)),fun d=>absurd (d.resolve_right (by decide)) fun h7=>hd (h3 h7).1.1,fun d=>h4 (d.resolve_right (by decide)),fun _ e he=>by
  obtain ⟨g,e1,e2,_⟩:=h.2.2.1 (e.resolve_right (by decide));rw [e1] at he;injection he with he;injection he with he;injection he with he;omega,h6⟩
theorem MkF.set3 {U w:World} {n:Nat} {D:Nat→Prop} {s1 s2 s3 s4 s5:Value} (h:MkF U n D s1 s2 s3 s4 s5 w) (hn:n≤maxLen) (hd:¬D 3):MkF U n (fun k=>D k∨k=3) s1 (.slice (some ⟨w.heap.size,0,none⟩) n n) s3 s4 s5 (w.alloc (.cells (zic n) 3)):=by
 have hz:=ZP.zeros w n hn;obtain ⟨h0,h1,h2,h3,h4,h5,h6⟩:=h.later (Zi w (.cells (zic n) 3));exact ⟨h0,fun d=>h1 (d.resolve_right (by decide)),fun _=>⟨_,rfl,by simp,hz.monoB h.1.size⟩,fun d=>absurd (d.resolve_right (by decide)) fun h7=>hd (h3 h7).1.2,fun d=>h4 (d.resolve_right (by decide)),fun e _ he=>by
  obtain ⟨g,e1,e2,_⟩:=h.2.1 (e.resolve_right (by decide));rw [e1] at he;injection he with he;injection he with he;injection he with he;omega,h6⟩
theorem MkF.set4 {U w:World} {n:Nat} {D:Nat→Prop} {s1 s2 s3 s4 s5:Value} (h:MkF U n D s1 s2 s3 s4 s5 w) (d1:D 1) (d3:D 3):MkF U n (fun k=>D k∨k=4) s1 s2 (.agg #[s1,s2,.slice none 0 0,.slice none 0 0]) s4 s5 w:=by
 obtain ⟨h0,h1,h2,h3,h4,h5,h6⟩:=h;exact ⟨h0,fun d=>h1 (d.resolve_right (by decide)),fun d=>h2 (d.resolve_right (by decide)),fun _=>⟨⟨.inl d1,.inl d3⟩,rfl⟩,fun d=>h4 (d.resolve_right (by decide)),fun d e=>h5 (d.resolve_right (by decide)) (e.resolve_right (by decide)),h6⟩
theorem MkF.set5 {U w:World} {n:Nat} {D:Nat→Prop} {s1 s2 s3 s4 s5:Value} (h:MkF U n D s1 s2 s3 s4 s5 w):MkF U n (fun k=>D k∨k=5) s1 s2 s3 (.pointer (some ⟨w.heap.size,0,none⟩)) s5 (w.alloc (.cells #[.slice none 0 0,.slice none 0 0,.slice none 0 0,.slice none 0 0] 158)):=by
 have hz:=Bk.new w 158 [.slice none 0 0,.slice none 0 0,.slice none 0 0,.slice none 0 0];obtain ⟨h0,h1,h2,h3,h4,h5,h6⟩:=h.later (Zi w (.cells #[.slice none 0 0,.slice none 0 0,.slice none 0 0,.slice none 0 0] 158));exact ⟨h0,fun d=>h1 (d.resolve_right (by decide)),fun d=>h2 (d.resolve_right (by decide)),fun d=>by
  obtain ⟨⟨a,b⟩,e⟩:=h3 (d.resolve_right (by decide));exact ⟨⟨.inl a,.inl b⟩,e⟩,fun _=>⟨_,rfl,h.1.size,hz⟩,fun d e=>h5 (d.resolve_right (by decide)) (e.resolve_right (by decide)),h6⟩
def Ymu (U:World) (n:Nat) (s:Value) (wx:World):Prop:=
 ∃gf g0 g1,s= .pointer (some ⟨gf,0,none⟩)∧g0≠g1∧Bk wx gf 158 [.slice (some ⟨g0,0,none⟩) n n,.slice (some ⟨g1,0,none⟩) n n,.slice none 0 0,.slice none 0 0]∧
  ZP U.heap.size wx (.slice (some ⟨g0,0,none⟩) n n) (List.replicate n 0)∧ZP U.heap.size wx (.slice (some ⟨g1,0,none⟩) n n) (List.replicate n 0)∧Below U.heap.size U wx∧U.heap.size≤gf
def Ymv (n K:Nat) (Cs:Mx) (w:World) (o:Ending) (w':World):Prop:=
 Below w.heap.size w w'∧((∃(R C:Nat→Nat) (L Um:Mx) (s0 s1 s2 s3:Value),o= .returned (.tuple #[.agg #[s0,s1,s2,s3],.bool true])∧Zsg n (5^n * K) (trM Cs) R C L Um∧ZP w.heap.size w' s0 (Zpi n R)∧ZP w.heap.size w' s1 (Zpi n C)∧YF w.heap.size w' s2 (vcL n L)∧YF w.heap.size w' s3 (vcL n Um))∨
  (o= .returned (.tuple #[.agg #[.slice none 0 0,.slice none 0 0,.slice none 0 0,.slice none 0 0],.bool false])∧¬Wm n Cs))
end
section
attribute [local irreducible] Xr
theorem Zne (v:Value) (n K:Nat) (Cs:Mx) (w:World) (h:XW w v (vcL n Cs)) (hn:n≤7) (hK:1≤K) (hE:5^n * K≤4000000) (hs:∀r c,r < n→c < n→Sz K (Cs c r)):
 Calls Tryz.prog 139 #[v] w (Ymv n K Cs w):=by
 obtain ⟨A,c,rfl,gi,h7⟩:=h.shape;rw [Zfa] at h gi ⊢;have HV:=JZ h;have fp:=JZ hs;have HK:=JZ hK;have HE:=JZ hE;have gy:=Ybn n (by omega);have gz:=Zps n (by omega);obtain ⟨W,hW,az,S⟩:∃W,w.alloc (.cells #[.slice none 0 0,.slice none 0 0,.slice none 0 0,.slice none 0 0] 158)=W∧Bk W w.heap.size 158 [.slice none 0 0,.slice none 0 0,.slice none 0 0,.slice none 0 0]∧Below w.heap.size w W:=⟨_,rfl,Bk.new w _ _,Zi w _⟩;have dy:=JZ az;have bq:Hid (W.heap.size≤W.heap.size):=JZ (JY _);clear h hs az hK hE;go_enter Tryz.func139,Tryz.ntmps139
 go_upto_region 2 with (fail)
 clear hW
 go_cut [5] (fun s5 wx=>Yms W n s5 wx)
 case first=>
  refine Xl 9 (.go 0 (.go 1 (.go 3 (.go 5 (.bag [2,4,6,7,8] (.go 9 .done)))))) (by kernel_rfl) (by kernel_rfl) ?_;repeat ((first|(first|refine ZJ (v:=?_) rfl rfl rfl ?_ ?_ |refine ZW (v:=?_) rfl rfl rfl ?_ ?_);rotate_left;·(intro _ _;go_simp;(try go_bits);(try with_reducible rfl))|refine ZZ rfl rfl rfl ?_ |refine ZK rfl rfl rfl (by assumption) ?_);(try simp only [py]))
  refine Zpt 29 31 33 34 5 _ _ _ _ _ (MkR W n) rfl (by decide) ⟨Zj W,fun h=>h.elim,fun h=>h.elim,fun h=>h.elim,fun h=>h.elim,fun h=>h.elim,fun h=>h.elim⟩ (List.forall_mem_cons.2 ⟨?_,List.forall_mem_cons.2 ⟨?_,List.forall_mem_cons.2 ⟨?_,List.forall_mem_cons.2 ⟨?_,List.forall_mem_cons.2 ⟨?_,fun _ h=>absurd h List.not_mem_nil⟩⟩⟩⟩⟩) ?_
  ·refine WU.mk rfl fun D s1 s2 s3 s4 s5 wx b d hnd o hR _ kq=>?_
   simp only [Zjp,Act.put,List.setIfInBounds_toArray,List.set_cons_zero,List.set_cons_succ] at d;subst d;go_simp;have hN:=hR.set2 (by unfold maxLen;omega) hnd;exact kq.out _ _ (Or.inr hN.1) ⟨_,s2,s3,s4,s5,rfl,hN⟩
  ·refine WU.mk rfl fun D s1 s2 s3 s4 s5 wx b d hnd o hR _ kq=>?_
   simp only [Zjp,Act.put,List.setIfInBounds_toArray,List.set_cons_zero,List.set_cons_succ] at d;subst d;go_simp;have hN:=hR.set4 (by unfold maxLen;omega) hnd;exact kq.out _ _ (Or.inr hN.1) ⟨s1,_,s3,s4,s5,rfl,hN⟩
  ·refine WU.mk rfl fun D s1 s2 s3 s4 s5 wx b d hnd o hR _ kq=>?_
   simp only [Zjp,Act.put,List.setIfInBounds_toArray,List.set_cons_zero,List.set_cons_succ] at d;subst d;go_simp;have hN:=hR.set6 (by unfold maxLen;omega) hnd;exact kq.out _ _ (Or.inr hN.1) ⟨s1,s2,_,s4,s5,rfl,hN⟩
  ·refine WU.mk rfl fun D s1 s2 s3 s4 s5 wx b d hnd o hR _ kq=>?_
   have d2:D 2:=o 2 (by decide) (by kernel_rfl);have d4:D 4:=o 4 (by decide) (by kernel_rfl);have d6:D 6:=o 6 (by decide) (by kernel_rfl);clear o;obtain ⟨ga,rfl,_⟩:=hR.2.1 d2;obtain ⟨gr,rfl,_⟩:=hR.2.2.1 d4;obtain ⟨gc,rfl,_⟩:=hR.2.2.2.1 d6;simp only [Zjp,Act.put,List.setIfInBounds_toArray,List.set_cons_zero,List.set_cons_succ] at d;subst d;go_simp;have hN:=hR.set7 d2 d4 d6;exact kq.out _ _ (Or.inr hN.1) ⟨_,_,_,_,s5,rfl,hN⟩
  ·refine WU.mk rfl fun D s1 s2 s3 s4 s5 wx b d hnd o hR _ kq=>?_
   simp only [Zjp,Act.put,List.setIfInBounds_toArray,List.set_cons_zero,List.set_cons_succ] at d;subst d;go_simp;have hN:=hR.set8;exact kq.out _ _ (Or.inr hN.1) ⟨s1,s2,s3,s4,_,rfl,hN⟩
  ·intro D s1 s2 s3 s4 s5 wx y hR;obtain ⟨hb,p1,p2,p3,p4,p5,p6⟩:=hR;obtain ⟨ga,rfl,hA⟩:=p1 (y 2 (by decide));obtain ⟨gr,rfl,_,hI⟩:=p2 (y 4 (by decide));obtain ⟨gc,rfl,_,hJ⟩:=p3 (y 6 (by decide));obtain rfl:=(p4 (y 7 (by decide))).2;obtain ⟨ge,rfl,dg,hB⟩:=p5 (y 8 (by decide));have cv:=p6 (y 4 (by decide)) (y 6 (by decide));obtain ⟨t0,t1,t2,t3⟩:=hB.four;obtain ⟨f0,f1,f2,f3⟩:=hB.fourF;simp only [Zjp,Act.put,List.setIfInBounds_toArray,List.set_cons_zero,List.set_cons_succ];refine Zt rfl rfl (fun _ kq=>?_);go_simp;refine kq.out _ _ (.inl (by decide)) ?_;clear kq;refine Yf ?_;go_wp2_with fail
   go_meet
   have k1:=hB.but4 (.int .i64 (n:Int)) (.slice (some ⟨ga,0,none⟩) n n) (.slice (some ⟨gr,0,none⟩) n n) (.slice (some ⟨gc,0,none⟩) n n);exact ⟨ge,ga,gr,gc,rfl,fun e=>cv (by rw [e]),hB.set4 _ _ _ _,k1.own hA (by decide),hI.but k1 (by decide),hJ.but k1 (by decide),ZI hb dg _ _ _ _,dg⟩
 case rest=>
  obtain ⟨ge,ga,gr,gc,rfl,cn,hB,hA,hI,hJ,l,dg⟩:=hcut;have dz:Ykn W ge ga gr gc n 0 wc:=⟨fun _=>0,fun _=>0,hB,by rw [Zpu];exact hA,fun r hr=>absurd hr (by omega),fun r s hr=>absurd hr (by omega),by rw [Zpv];exact hI,by rw [Zpv];exact hJ,l⟩;have cf:=XF n (by omega);clear hB hA hI hJ l;go_wp2
  go_loopw [36] (fun x wr=>∃i:Nat,i≤n∧x= .int .i64 i∧Ykn W ge ga gr gc n i wr) (fun x _=>n - (intOf x).toNat)
  case atStart=>exact ⟨0,by omega,rfl,dz⟩
  case round=>
   clear dz;obtain ⟨i,hi,rfl,G,D,hB,hA,hR,ae,hI,hJ,l⟩:=hrel;rcases JX i n with hil | hil
   ·have fq:(i:Int) < n:=(by omega);obtain ⟨_,b1,_,_⟩:=hB.four;obtain ⟨_,_,gj⟩:=Ye hA;have HA:=JZ hA;have HB:=JZ hB;have e0:=JZ hR;have fr:=JZ ae;have HI:=JZ hI;have HJ:=JZ hJ;have B:=Zi wr.drew (.cells (zfc n) 46);have cw:=ZU.zeros wr.drew n (by unfold maxLen;omega);obtain ⟨W1,ca⟩:∃W1,wr.drew.alloc (.cells (zfc n) 46)=W1:=⟨_,rfl⟩;rw [ca] at B cw;have X:Below wr.heap.size wr W1:=Za (Zj wr) B (JY _);obtain ⟨m0,m1⟩:=ZV (own_below hA X) (Zva (G:=G) (D:=D) hil);clear hA hB hR ae hI hJ B
    go_upto_region 6 with (fail)
    have C1:=Zl b1;have u:=Zj wr;clear b1;refine Zn 6 [0,1,2,3,4,5,6] (by kernel_rfl) (by kernel_rfl) ?_;repeat ((first|(first|refine Zb (v:=?_) rfl rfl rfl ?_ ?_ |refine Zd (v:=?_) rfl rfl rfl ?_ ?_);rotate_left;·(intro _ _;go_simp;(try go_bits);(try with_reducible rfl))|refine Ze rfl rfl rfl ?_);(try simp only [py]))
    refine Zf rfl rfl (fun _ kq=>?_);go_simp;refine kq.out _ _ (.inr X) ?_;clear kq ca;repeat ((first|(first|refine Zb (v:=?_) rfl rfl rfl ?_ ?_ |refine Zd (v:=?_) rfl rfl rfl ?_ ?_);rotate_left;·(intro _ _;go_simp;(try go_bits);(try with_reducible rfl))|refine Ze rfl rfl rfl ?_);(try simp only [py]))
    refine Zf rfl rfl (fun _ kq=>?_);go_simp;refine kq.out _ _ (.inl (by decide)) ?_;clear kq;(try simp only [py]);refine Zv ?_;clear C1;have au:=own_below HA.out X;have av:=XC au i (.slice (some ⟨wr.heap.size,0,none⟩) n n) (by rw [WJ];exact hil);rw [Zvb hil] at av;obtain ⟨_,et,_⟩:=Ye au;have kb:=Zg.setCell et i (.slice (some ⟨wr.heap.size,0,none⟩) n n);have O:=kb.bk (HB.out.later X) (by decide);have br:=(HI.out.below X).but kb (by decide);have bs:=(HJ.out.below X).but kb (by decide);have I:=(Za l X l.size).setCell (p:=⟨ga,i,none⟩) gj (.slice (some ⟨wr.heap.size,0,none⟩) n n);have a4:∀r,r < i+1→ZU W.heap.size (W1.setCell ⟨ga,i,none⟩ (.slice (some ⟨wr.heap.size,0,none⟩) n n)) (X7 n (Uf G i wr.heap.size) (Uf D i n) r) (rfL n fun _=>zeroF):=fun r hr=>by
     by_cases e:r=i
     ·subst e;unfold X7;rw [Yx,Yx,← Zed];exact (ZU.monoB cw l.size).but kb (by decide) (by decide)
     ·unfold X7;rw [YQ (by omega),YQ (by omega)];exact ((e0.out r (by omega)).below X).but kb (by decide) (by decide)
    have ch:∀r s,r < i+1→s < i+1→Uf G i wr.heap.size r=Uf G i wr.heap.size s→r=s:=fun r s hr hs e=>by
     have e3:∀q,q < i→G q < wr.heap.size:=fun q hq=>by
      obtain ⟨g,c,hv,_,h2,_⟩:=(e0.out q hq).shape (by rw [Zz];omega);unfold X7 at hv;injection hv with e1;injection e1 with e1;injection e1 with e1;omega
     by_cases e1:r=i
     ·by_cases e2:s=i
      ·omega
      ·rw [e1,Yx,YQ (show s < i by omega)] at e;have:=e3 s (by omega);omega
     ·by_cases e2:s=i
      ·rw [e2,Yx,YQ (show r < i by omega)] at e;have:=e3 r (by omega);omega
      ·rw [YQ (show r < i by omega),YQ (show s < i by omega)] at e;exact fr.out r s (by omega) (by omega) e
    have fs:=JZ a4;have e4:=JZ ch;clear au et kb m0 m1 X cw a4 ch l;generalize W1.setCell ⟨ga,i,none⟩ (.slice (some ⟨wr.heap.size,0,none⟩) n n)=W3 at *;obtain ⟨_,_,b2,b3⟩:=O.four;obtain ⟨x0,x1,_,_⟩:=br.at_ (Zmz hil);obtain ⟨y0,y1,_,_⟩:=bs.at_ (Zmz hil);obtain ⟨eu,k3⟩:=br.set_ (k:=i) (z:= -1) (by rw [X3];exact hil) (by omega) (by omega);have cx:=bs.others (Yi.of_set (g:=gr) (i:=i) (v:= .int .i64 (-1)) (w:=W3)) (fun b hb e=>by simp [Value.ownBlock] at hb;injection e with e;omega);obtain ⟨ao,k4⟩:=cx.set_ (k:=i) (z:= -1) (by rw [X3];exact hil) (by omega) (by omega);have cy:=eu.others (Yi.of_set (g:=gc) (i:=i) (v:= .int .i64 (-1)) (w:=W3.setCell ⟨gr,i,none⟩ (.int .i64 (-1)))) (fun b hb e=>by simp [Value.ownBlock] at hb;injection e with e;omega);rw [Yfp hil] at cy ao;have k5:=k3.trans k4;have a1:=(I.setCell (p:=⟨gr,i,none⟩) br.base (.int .i64 (-1))).setCell (p:=⟨gc,i,none⟩) bs.base (.int .i64 (-1));have ft:Ykn W ge ga gr gc n (i+1) ((W3.setCell ⟨gr,i,none⟩ (.int .i64 (-1))).setCell ⟨gc,i,none⟩ (.int .i64 (-1))):=
     ⟨_,_,k5.bk O (by decide),k5.own av (by decide),fun r hr=>(fs.out r hr).but k5 (by decide) (by decide),e4.out,cy,ao,a1⟩
    obtain ⟨h8,h9,_,_⟩:=cx.at_ (Zmz hil);clear av br bs eu cx cy ao k3 k4 k5 I a1 O;go_wp2;go_roundw
    case rel=>exact ⟨i+1,by omega,by go_num,ft⟩
    case measure=>simp [intOf];omega
   ·obtain rfl:n=i:=by omega
    have hM:Zgr W.heap.size wr (.slice (some ⟨ga,0,none⟩) n n) n n (fun _ _=>zeroF) G D:=⟨by rw [← Zuz];exact hA,hR,ae⟩;rw [Yfq,← Ybt (R:=fun _=>0)] at hI hJ;have hF:X9 W ge ga gr gc n G D (UG n 0 fun _=>0) (UG n 0 fun _=>0) (Zbf (vcL n Cs) 0 0) wr:=⟨_,⟨hB,hM,hI,hJ,WK,WK⟩,fun i j _ _=> .inr ⟨rfl,Zsq _ _ _⟩,l⟩;clear hA hR ae hI hJ hM hB cf l;go_wp2
    go_loopw [56] (fun x wr=>∃k:Nat,k≤n∧x= .int .i64 k∧X9 W ge ga gr gc n G D (UG n 0 fun _=>0) (UG n 0 fun _=>0) (Zbf (vcL n Cs) k 0) wr) (fun x _=>n - (intOf x).toNat)
    case atStart=>exact ⟨0,by omega,rfl,hF⟩
    case round=>
     clear hF;obtain ⟨k,hk,rfl,hF⟩:=hrel;rcases JX k n with hkl | hkl
     ·obtain ⟨bc,oc,A1,c1,rfl,x0,hL⟩:=HV.out.vc (JR _ _) hkl;have F:=Za S hF.choose_spec.2.2 S.size;have y0:=Zk F x0;have e5:(k:Int) < n:=(by omega);have e7:0 < n:=(by omega);obtain ⟨ln,dh⟩:∃ln,ln=(spV (Cs k) n).length:=⟨_,rfl⟩;have e8:=JZ dh;rw [← dh] at x0 y0 hL;obtain ⟨-,ev,ew⟩:=hL.len;have HL:=JZ hL;clear hL dh F x0;go_wp2;clear y0
      go_loopw [63] (fun x wr=>∃t:Nat,t≤ln∧x= .int .i64 t∧X9 W ge ga gr gc n G D (UG n 0 fun _=>0) (UG n 0 fun _=>0) (Zbf (vcL n Cs) k t) wr) (fun x _=>ln - (intOf x).toNat)
      case atStart=>exact ⟨0,by omega,rfl,hF⟩
      case round=>
       clear hF;obtain ⟨t,ht,rfl,hF⟩:=hrel;rcases JX t ln with htl | htl
       ·obtain ⟨e,he⟩:=Y3 (es:=spV (Cs k) n) (i:=t) (by rw [← e8.out];exact htl);obtain ⟨i0,bb,ex,ey,ez⟩:=Zbx he;obtain ⟨b,ha,A2,n2,c2,A3,n3,c3,rfl,_,⟨x0,x1,x2,x3,x4⟩,f4⟩:=HL.out.elem (Za S hF.choose_spec.2.2 S.size) he;have fu:Hid (∀i j,i < n→j < n→Zbf (vcL n Cs) k (t+1) i j=if i=i0∧j=k then Cs k i0 else Zbf (vcL n Cs) k t i j):=JZ fun i j _ _=>by
         rw [Zxq (Zix hkl) (Zmh _ _) he ex,ey,Zr]
        obtain ⟨ei,f⟩:=e;simp only at *;subst ex ey;obtain ⟨W1,ca,hV,di⟩:=Zdo wr (.int .i64 (i0:Int)) (.bool (canF (Cs k i0)).num.neg) (.slice A2 n2 c2) (.bool (canF (Cs k i0)).den.neg) (.slice A3 n3 c3);obtain ⟨v0,v1,v2,v3,v4⟩:=hV.five;have Y:=hF.below di;have ea:=f4.below di;obtain ⟨M,⟨hB,hM,_⟩,_⟩:=id Y;obtain ⟨_,b1,_,_⟩:=hB.four;obtain ⟨m1,_⟩:=hM.cellAt bb;unfold X7 at m1;obtain ⟨l1,l2,l3,l4⟩:=hM.lt bb e7;obtain ⟨_,_,_,_,_,_,⟨c0,gk,gm,gn⟩,_⟩:=hM.at_ bb hkl;obtain ⟨f0,f1,f2,f3⟩:=hM.frozen bb hkl;have fq:(i0:Int) < n:=(by omega);clear hF f4 he ez hM hB hV di
        go_upto_region 15 with (fail)
        clear ca;have C0:=Zl v0;have C1:=Zl v1;have C2:=Zl v2;have C3:=Zl v3;have C4:=Zl v4;have D1:=Zl b1;have D2:=Zl m1;have u:=Zj W1;clear v0 v1 v2 v3 v4 x0 x1 x2 x3 x4 b1 m1;refine Zn 10 [0,1,2,3,4,5,6,7,8,9,10] (by kernel_rfl) (by kernel_rfl) ?_;repeat ((first|(first|refine Zb (v:=?_) rfl rfl rfl ?_ ?_ |refine Zd (v:=?_) rfl rfl rfl ?_ ?_);rotate_left;·(intro _ _;go_simp;(try go_bits);(try with_reducible rfl))|refine Ze rfl rfl rfl ?_);(try simp only [py]))
        refine Zf rfl rfl (fun _ kq=>?_);go_simp;refine kq.out _ _ (.inl (by decide)) ?_;clear kq;(try simp only [py]);refine Zv ?_;clear C0 C1 C2 C3 C4 D1 D2;have af:=(Y.below u).setM bb hkl (ea.below u) fu.out;clear Y ea u c0 gk gm gn f0 f1 f2 f3;go_wp2;go_roundw
        case rel=>exact ⟨t+1,by omega,by go_num,af⟩
        case measure=>simp [intOf];omega
       ·obtain rfl:ln=t:=by omega
        have af:=hF.congr (Q':=Zbf (vcL n Cs) (k+1) 0) fun i j _ _=>by rw [e8.out];exact Zxr (Zix hkl)
        clear hF;go_wp2;go_roundw
        case rel=>exact ⟨k+1,by omega,by go_num,af⟩
        case measure=>simp [intOf];omega
     ·obtain rfl:n=k:=by omega
      go_upto_region 18 with (fail)
      go_cut [11] (fun s11 wx=>Ymu wr n s11 wx)
      case first=>
       refine Xl 6 (.go 0 (.go 2 (.bag [1,3,4,5] (.go 6 .done)))) (by kernel_rfl) (by kernel_rfl) ?_;repeat ((first|(first|refine ZJ (v:=?_) rfl rfl rfl ?_ ?_ |refine ZW (v:=?_) rfl rfl rfl ?_ ?_);rotate_left;·(intro _ _;go_simp;(try go_bits);(try with_reducible rfl))|refine ZZ rfl rfl rfl ?_ |refine ZK rfl rfl rfl (by assumption) ?_);(try simp only [py]))
       refine Zpt 80 82 83 11 4 _ _ _ _ _ (MkF wr n) rfl (by decide) ⟨Zj wr,fun h=>h.elim,fun h=>h.elim,fun h=>h.elim,fun h=>h.elim,fun h=>h.elim,rfl⟩ (List.forall_mem_cons.2 ⟨?_,List.forall_mem_cons.2 ⟨?_,List.forall_mem_cons.2 ⟨?_,List.forall_mem_cons.2 ⟨?_,fun _ h=>absurd h List.not_mem_nil⟩⟩⟩⟩) ?_
       ·refine WU.mk rfl fun D s1 s2 s3 s4 s5 wx b d hnd o hR _ kq=>?_
        obtain rfl:=hR.2.2.2.2.2.2;simp only [Zjp,Act.put,List.setIfInBounds_toArray,List.set_cons_zero,List.set_cons_succ] at d;subst d;go_simp;have hN:=hR.set1 (by unfold maxLen;omega) hnd;exact kq.out _ _ (Or.inr hN.1) ⟨_,s2,s3,s4,_,rfl,hN⟩
       ·refine WU.mk rfl fun D s1 s2 s3 s4 s5 wx b d hnd o hR _ kq=>?_
        obtain rfl:=hR.2.2.2.2.2.2;simp only [Zjp,Act.put,List.setIfInBounds_toArray,List.set_cons_zero,List.set_cons_succ] at d;subst d;go_simp;have hN:=hR.set3 (by unfold maxLen;omega) hnd;exact kq.out _ _ (Or.inr hN.1) ⟨s1,_,s3,s4,_,rfl,hN⟩
       ·refine WU.mk rfl fun D s1 s2 s3 s4 s5 wx b d hnd o hR _ kq=>?_
        obtain rfl:=hR.2.2.2.2.2.2;have d1:D 1:=o 1 (by decide) (by kernel_rfl);have d3:D 3:=o 3 (by decide) (by kernel_rfl);clear o;obtain ⟨hd,rfl,_⟩:=hR.2.1 d1;obtain ⟨hg,rfl,_⟩:=hR.2.2.1 d3;simp only [Zjp,Act.put,List.setIfInBounds_toArray,List.set_cons_zero,List.set_cons_succ] at d;subst d;go_simp;have hN:=hR.set4 d1 d3;exact kq.out _ _ (Or.inr hN.1) ⟨_,_,_,s4,_,rfl,hN⟩
       ·refine WU.mk rfl fun D s1 s2 s3 s4 s5 wx b d hnd o hR _ kq=>?_
        obtain rfl:=hR.2.2.2.2.2.2;simp only [Zjp,Act.put,List.setIfInBounds_toArray,List.set_cons_zero,List.set_cons_succ] at d;subst d;go_simp;have hN:=hR.set5;exact kq.out _ _ (Or.inr hN.1) ⟨s1,s2,s3,_,_,rfl,hN⟩
       ·intro D s1 s2 s3 s4 s5 wx y hR;obtain ⟨hb,p1,p2,p3,p4,p5,rfl⟩:=hR;obtain ⟨g0,rfl,_,hI⟩:=p1 (y 1 (by decide));obtain ⟨g1,rfl,_,hJ⟩:=p2 (y 3 (by decide));obtain rfl:=(p3 (y 4 (by decide))).2;obtain ⟨gf,rfl,cb,hB⟩:=p4 (y 5 (by decide));have cv:=p5 (y 1 (by decide)) (y 3 (by decide));obtain ⟨t0,t1,t2,t3⟩:=hB.four;obtain ⟨f0,f1,f2,f3⟩:=hB.fourF;simp only [Zjp,Act.put,List.setIfInBounds_toArray,List.set_cons_zero,List.set_cons_succ];refine Zt rfl rfl (fun _ kq=>?_);go_simp;refine kq.out _ _ (.inl (by decide)) ?_;clear kq;refine Yf ?_;go_wp2_with fail
        go_meet
        have k1:=hB.but4 (.slice (some ⟨g0,0,none⟩) n n) (.slice (some ⟨g1,0,none⟩) n n) (.slice none 0 0) (.slice none 0 0);exact ⟨gf,g0,g1,rfl,fun e=>cv (by rw [e]),hB.set4 _ _ _ _,hI.but k1 (by decide),hJ.but k1 (by decide),ZI hb cb _ _ _ _,cb⟩
      case rest=>
       obtain ⟨gf,g0,g1,rfl,cp,hB,hI,hJ,l,cb⟩:=hcut;have Y:=hF.below l;obtain ⟨_,⟨bt,f5,a3,dj,ev,ew⟩,_,N⟩:=id hF;have ag:Hid (W.heap.size≤g0∧wr.heap.size≤g0∧gr < wr.heap.size∧gc < wr.heap.size):=JZ ⟨JW N.size hI.base,hI.base,Zci a3.1 gr rfl,Zci dj.1 gc rfl⟩;have ah:Hid (W.heap.size≤g1∧wr.heap.size≤g1∧gr < wr.heap.size∧gc < wr.heap.size):=JZ ⟨JW N.size hJ.base,hJ.base,Zci a3.1 gr rfl,Zci dj.1 gc rfl⟩;have fv:=Zci f5.1 ga rfl;have eb:Hid (W.heap.size≤gf):=JZ (JW N.size cb);have ec:=l.size;have ed:Hid (W.heap.size≤wc.heap.size∧ga < wc.heap.size):=JZ ⟨by have:=N.size;omega,by omega⟩;have hz:=Zuy 23 wc n (by unfold maxLen;omega);have B:=Zi wc (.cells (zvc n) 23);have aw:Yks W ge ga gr gc gf g0 g1 wc.heap.size n K 0 G D (trM Cs) (wc.alloc (.cells (zvc n) 23)):=by
        refine ⟨trM Cs,fun _ _=>0,fun _=>0,fun _=>0,fun _=>0,fun _=>0,(Y.below B).congr fun i j hi hj=>?_,Zbw.start _ _ _ _ _,fun i j hi hj=>by rw [Nat.pow_zero,Nat.one_mul];exact fp.out i j hi hj,fun s i hs=>absurd hs (by omega),hB.later B,?_,?_,?_,fun _ _=>zeroF,fun s hs=>absurd hs (by omega)⟩
        ·rw [Ybs hj,show (vcL n Cs).getD j []=spV (Cs j) n by simp [List.getD,Zix hj],Zij,if_pos hi];rfl
        ·rw [← Zpy];exact (hI.below B).monoB N.size
        ·rw [← Zpy];exact (hJ.below B).monoB N.size
        ·rw [Zpu];exact Y4 hz (JW N.size ec)
       clear hB hI hJ l Y bt f5 a3 dj ev ew N hz B hF fv ec;go_wp2;generalize wc.heap.size=gt at *;generalize wc.alloc (.cells (zvc n) 23)=W5 at *
       go_loopw [87] (fun x wr=>∃t:Nat,t≤n∧x= .int .i64 t∧Yks W ge ga gr gc gf g0 g1 gt n K t G D (trM Cs) wr) (fun x _=>n - (intOf x).toNat)
       case atStart=>exact ⟨0,by omega,rfl,aw⟩
       case round=>
        clear aw;obtain ⟨t,ht,rfl,hL⟩:=hrel;rcases JX t n with htl | htl
        ·obtain ⟨a,m,R,C,Ff,E,hF,bd,be,bf,hR⟩:=hL;obtain ⟨M,hE,hT,hb⟩:=id hF;have HF:=JZ hF;have HR:=JZ hR;have J:=JZ bd;have ax:=JZ be;have cz:=JZ bf;have HT:=JZ hT;have fw:Hid (∀i,i < n→G i < wr.heap.size):=JZ fun i hi=>(hE.2.1.lt hi (by omega)).2.1
         have a2:=Za S hb S.size;have fx:(t:Int) < n:=(by omega);clear hF bd be bf hR hT hb;go_wp2_with fail;refine (Zxp W.heap.size ge n _ _ _ M G D _ _ _ hE (by omega)).mono ?_;rintro _ w1 ⟨r0,c0,ok,rfl,dv,dw,ad⟩;clear hE
         cases ok with
         | false=>
          have o:¬Wm n Cs:=J.out.dep htl fun i j hi hj h1 h2=>by
           have hz:=dw rfl i j hi hj;unfold Zxn at hz;rw [Zai hi,Zai hj,decide_eq_true (Zbc.2 h1),decide_eq_true (Zbc.2 h2)] at hz;simp only [Bool.true_and,decide_eq_false_iff_not] at hz;by_cases e:a i j=0
           ·exact e
           ·exact absurd ((HT.out i j hi hj).len.2 e) hz
          have d0:=dy.out.later (Za (HF.out.choose_spec.2.2.mono bq.out) ad (JW bq.out HF.out.choose_spec.2.2.size));have B:=Za a2 ad a2.size;obtain ⟨t0,t1,t2,t3⟩:=d0.four;obtain ⟨f0,f1,f2,f3⟩:=d0.fourF;clear dv dw a2;go_wp2;refine YX Tryz.results139 Tryz.underlying158 (by kernel_rfl) rfl (d0.set4 _ _ _ _) rfl ?_;exact ⟨ZI B (JY _) _ _ _ _,.inr ⟨rfl,o⟩⟩
         | true=>
          obtain ⟨r,c,rfl,rfl,hr,hc,bg⟩:=dv rfl;unfold Zxn at bg;rw [Zai hr,Zai hc,Bool.and_eq_true,Bool.and_eq_true,decide_eq_true_eq,decide_eq_true_eq,decide_eq_true_eq] at bg;obtain ⟨f6,f7,f8⟩:=bg;have ee:=JZ (Zbc.1 f6);have ef:=JZ (Zbc.1 f7);have HP:=JZ ((HT.out r c hr hc).len.1 f8);have fy:(r:Int) < n:=(by omega);have g2:(c:Int) < n:=(by omega);clear f6 f7 f8 dv dw;have Y:=HF.out.below ad;have ai:=HR.out.below ad;obtain ⟨a4,k2⟩:=ai.set0 cp (k:=t) (z:=(r:Int)) (by rw [Uz];exact htl) (by omega) (by omega);obtain ⟨a5,k3⟩:=a4.set1 cp (k:=t) (z:=(c:Int)) (by rw [Uz];exact htl) (by omega) (by omega);rw [Zvf htl] at a4 a5;rw [Zvf htl] at a5;have af:=Y.farI k2 ag.out.1 (by have:=ag.out;omega) (by have:=ag.out;omega);have ay:=af.farI k3 ah.out.1 (by have:=ah.out;omega) (by have:=ah.out;omega);obtain ⟨y0,y1,_,_⟩:=ai.2.1.at_ (Zgu htl);obtain ⟨z0,z1,_,_⟩:=ai.2.2.1.at_ (Zgu htl);have eg:=ai.1;have bt:=a4.1;have az:=a5.1;obtain ⟨s0,s1,_,_⟩:=ai.1.four;have ay:=ay.below (Zj _);have a5:=a5.below (Zj _);clear Y ai a4 af k2 k3
          go_upto_region 26 with (fail)
          clear s0 s1;have C0:∀w',Bk w' gf 158 [.slice (some ⟨g0,0,none⟩) n n,.slice (some ⟨g1,0,none⟩) n n,.slice none 0 0,.slice none 0 0]→w'.cell? ⟨gf,0,none⟩=some (.slice (some ⟨g0,0,none⟩) n n):=fun w' h=>h.four.1
          have C1:∀w',Bk w' gf 158 [.slice (some ⟨g0,0,none⟩) n n,.slice (some ⟨g1,0,none⟩) n n,.slice none 0 0,.slice none 0 0]→w'.cell? ⟨gf,1,none⟩=some (.slice (some ⟨g1,0,none⟩) n n):=fun w' h=>h.four.2.1
          refine Zst (fun w'=>Bk w' gf 158 [.slice (some ⟨g0,0,none⟩) n n,.slice (some ⟨g1,0,none⟩) n n,.slice none 0 0,.slice none 0 0]) eg 12 [0,1,2,3,4,5,6,7,8,9,10,11] (by kernel_rfl) (by kernel_rfl) ?_;repeat ((first|(first|refine Zb (v:=?_) rfl rfl rfl ?_ ?_ |refine Zd (v:=?_) rfl rfl rfl ?_ ?_);rotate_left;·(intro _ _;go_simp;(try go_bits);(try with_reducible rfl))|refine Ze rfl rfl rfl ?_);(try simp only [py]))
          refine Zf rfl rfl (fun _ kq=>?_);go_simp;refine kq.out _ _ (.inr bt) ?_;clear kq;(try simp only [py]);repeat ((first|(first|refine Zb (v:=?_) rfl rfl rfl ?_ ?_ |refine Zd (v:=?_) rfl rfl rfl ?_ ?_);rotate_left;·(intro _ _;go_simp;(try go_bits);(try with_reducible rfl))|refine Ze rfl rfl rfl ?_);(try simp only [py]))
          refine Zf rfl rfl (fun _ kq=>?_);go_simp;refine kq.out _ _ (.inr az) ?_;clear kq;(try simp only [py]);refine Zv ?_;clear C0 C1 eg bt az y0 y1 z0 z1;have B:=Za a2 ad a2.size;have h3:=((B.setCell (p:=⟨g0,t,none⟩) (JW S.size ag.out.1) (.int .i64 (r:Int))).setCell (p:=⟨g1,t,none⟩) (JW S.size ah.out.1) (.int .i64 (c:Int))).drew;have eh:wr.heap.size≤((w1.setCell ⟨g0,t,none⟩ (.int .i64 (r:Int))).setCell ⟨g1,t,none⟩ (.int .i64 (c:Int))).drew.heap.size:=(by simpa using ad.size);clear ad a2 B;generalize ((w1.setCell ⟨g0,t,none⟩ (.int .i64 (r:Int))).setCell ⟨g1,t,none⟩ (.int .i64 (c:Int))).drew=W2 at *;obtain ⟨_,⟨⟨hB,_,hI,hJ,_,_⟩,_,_⟩⟩:=id ay;obtain ⟨_,_,b2,b3⟩:=hB.four;obtain ⟨cc,k4⟩:=ay.setR cn hr (z:=(t:Int)) (by omega) (by omega);obtain ⟨ak,k5⟩:=cc.setC cn hc (z:=(t:Int)) (by omega) (by omega);rw [Zve ee.out] at cc ak;rw [Zve ef.out] at ak;have ej:=a5.farI k4 (by have:=ag.out;omega) (by have:=ah.out;omega);have a6:=ej.farI k5 (by have:=ag.out;omega) (by have:=ah.out;omega);obtain ⟨y0,y1,_,_⟩:=hI.at_ (VN hr);obtain ⟨_,⟨⟨_,_,_,ao,_,_⟩,_,_⟩⟩:=id cc;obtain ⟨z0,z1,_,_⟩:=hJ.at_ (VN hc);obtain ⟨gp,gs,_,_⟩:=ao.at_ (VN hc);have h4:wr.heap.size≤((W2.setCell ⟨gr,r,none⟩ (.int .i64 (t:Int))).setCell ⟨gc,c,none⟩ (.int .i64 (t:Int))).heap.size:=(by simpa using eh);clear ay cc a5 ej k4 k5 hB hI hJ ao;go_wp2_with fail;clear b2 b3 y0 y1 z0 z1 gp gs;generalize (W2.setCell ⟨gr,r,none⟩ (.int .i64 (t:Int))).setCell ⟨gc,c,none⟩ (.int .i64 (t:Int))=W4 at *;obtain ⟨M4,f9,fa,cd⟩:=ak;have ek:5^t * K≤5^n * K:=JS K (Nat.pow_le_pow_right (by decide) (by omega));have el:¬(UG n (t+1) (Uf R t r)).getD r 0 < 0:=fun g=>((VA hr).1 g).2 rfl
          refine (Zna W.heap.size ge n _ _ _ M4 G D _ _ a r c (5^t * K) _ f9 fa (by omega) hr hc el HP.out ax.out (by have:=HE.out;omega) cd.size).mono ?_;rintro _ w5 ⟨v',rfl,M5,H,fl,fm,dx,hH,fn,fo,a1⟩;obtain ⟨cr,cs,cu⟩:=Yft J.out hr hc ee.out ef.out HP.out HK.out ax.out;obtain ⟨g,cg,fb,hh,hl,gv,hm⟩:=dx.shape (by rw [Zz];omega);rw [Zz] at fb gv;subst fb;have aj:X9 W ge ga gr gc n G D (UG n (t+1) (Uf R t r)) (UG n (t+1) (Uf C t c)) (elQ (UG n (t+1) (Uf R t r)) (UG n (t+1) (Uf C t c)) a r c n 0) w5:=⟨M5,fl,fm,cd.trans a1⟩;have a7:=a6.othP fo fn;obtain ⟨m0,m1⟩:=ZV a7.2.2.2.1 (Zva (G:=Ff) (D:=E) htl);obtain ⟨a8,k7⟩:=a7.push htl (ZU.monoB dx cd.size) (fun i hi=>⟨(hH i hi).1,(hH i hi).2.mono (by omega)⟩) (fun i hi=>by have:=fw.out i hi;omega);have b0:=aj.farT k7 (v:= .slice (some ⟨g,0,none⟩) n cg) ed.out.1 (by have:=ed.out;omega);have g3:Yks W ge ga gr gc gf g0 g1 gt n K (t+1) G D (trM Cs) (w5.setCell ⟨gt,t,none⟩ (.slice (some ⟨g,0,none⟩) n cg)):=⟨_,_,_,_,_,_,b0,cr,cu,fun s i hs hi=>by
           by_cases e:s=t
           ·subst e;rw [Yx];exact (cs i hi).mono (by omega)
           ·rw [YQ (by omega)];exact cz.out s i (by omega) hi,a8⟩
          clear f9 fa cd fl fm dx hH fn fo a1 cr cs cu aj a7 a8 k7 b0 a6 el ek;go_wp2;go_roundw
          case rel=>exact ⟨t+1,by omega,by go_num,g3⟩
          case measure=>simp [intOf];omega
        ·obtain rfl:n=t:=by omega
         obtain ⟨a,m,R,C,Ff,E,hF,bd,be,bf,hR⟩:=hL;rw [Zvg,Zvg] at hR;have J:=JZ bd;have ax:=JZ be;have cz:=JZ bf;have d5:Hid (1≤5^n * K):=JZ (Nat.mul_pos (Nat.pow_pos (by decide)) HK.out);have em:=Ziv n (by omega);have bu:=Zi wr (.cells (zvc n) 66);have en:=YF.zeros wr n (by unfold maxLen;omega);have ak:=hF.below bu;have a6:=hR.below bu;obtain ⟨a7,k6⟩:=a6.set2 (.slice (some ⟨wr.heap.size,0,none⟩) n n);obtain ⟨s0,s1,s2,s3⟩:=a6.1.four;obtain ⟨f0,f1,f2,f3⟩:=a6.1.fourF;have bv:=hF.choose_spec.2.2;have L:=(Za bv bu bv.size).setCell (p:=⟨gf,2,none⟩) eb.out (.slice (some ⟨wr.heap.size,0,none⟩) n n);have aj:=ak.but k6 L (by decide) (by decide) (by decide) (by decide) (by decide);have d7:=en.but k6 (by decide) (by decide) (by decide);have g4:=bv.size;obtain ⟨gl,dk⟩:∃gl,gl=wr.heap.size:=⟨_,rfl⟩;have eo:Hid (W.heap.size≤gl):=JZ (by omega);clear bd be bf hF hR ak a6 en k6 bv bu
         go_upto_region 31 with (fail)
         clear s0 s1 s2 s3 f0 f1 f2 f3;have b4:((wr.alloc (.cells (zvc n) 66)).setCell ⟨gf,2,none⟩ (.slice (some ⟨wr.heap.size,0,none⟩) n n)).heap.size=gl+1:=(by rw [dk];simp);rw [← dk] at a7 d7 L aj b4 ⊢;generalize (wr.alloc (.cells (zvc n) 66)).setCell ⟨gf,2,none⟩ (.slice (some ⟨gl,0,none⟩) n n)=W6 at *;have g5:=JZ b4;clear b4 dk g4;have b5:=Zi W6 (.cells (zvc n) 66);have ep:=YF.zeros W6 n (by unfold maxLen;omega);have b0:=aj.below b5;have a8:=a7.below b5;have cj:=d7.below b5;obtain ⟨dl,k8⟩:=a8.set3 (.slice (some ⟨W6.heap.size,0,none⟩) n n);obtain ⟨s0,s1,s2,s3⟩:=a8.1.four;obtain ⟨f0,f1,f2,f3⟩:=a8.1.fourF;have d8:=(Za L b5 L.size).setCell (p:=⟨gf,3,none⟩) eb.out (.slice (some ⟨W6.heap.size,0,none⟩) n n);have d9:=b0.but k8 d8 (by decide) (by decide) (by decide) (by decide) (by decide);have da:=(cj.but k8 (by decide) (by decide) (by decide)).monoB eo.out;have db:=(ep.but k8 (by decide) (by decide) (by decide)).monoB (show W.heap.size≤W6.heap.size from L.size);obtain ⟨gu,fc⟩:∃gu,gu=W6.heap.size:=⟨_,rfl⟩;have ck:gl≠gu:=(by have:=g5.out;omega);have g6:=JZ fc;clear fc;clear aj a7 d7 b0 a8 ep cj k8 L b5;go_wp2_with fail;clear s0 s1 s2 s3 f0 f1 f2 f3;rw [← g6.out] at dl db d9 d8 da ⊢;generalize (W6.alloc (.cells (zvc n) 66)).setCell ⟨gf,3,none⟩ (.slice (some ⟨gu,0,none⟩) n n)=W8 at *;refine (Zaj _).mono ?_;rintro _ w9 ⟨v9,rfl,e9,a0⟩;obtain ⟨Ao,ko,co,a9,aa,ab,rfl,_,_⟩:=id e9;have b6:=Bk.new w9 46 [.bool (canF 1).num.neg,.slice Ao ko co,.bool (canF 1).den.neg,.slice a9 aa ab];have al:=Zi w9 (.cells #[.bool (canF 1).num.neg,.slice Ao ko co,.bool (canF 1).den.neg,.slice a9 aa ab] 46);have d:=Za a0 al a0.size;have aw:LuM W ge ga gr gc gf g0 g1 gt gl gu w9.heap.size n (2 * (5^n * K)) 0 0 G D R C Ff E a m (w9.alloc (.cells #[.bool (canF 1).num.neg,.slice Ao ko co,.bool (canF 1).den.neg,.slice a9 aa ab] 46)):=
          ⟨d9.below d,dl.below d,⟨_,_,_,_,_,_,b6,e9.below al⟩,by rw [← Zjd];exact da.below d,by rw [← Zjd];exact db.below d⟩
         clear d9 dl da db b6 al d e9 a0 d8;go_wp2;generalize w9.heap.size=go at *;generalize w9.alloc (.cells #[.bool (canF 1).num.neg,.slice Ao ko co,.bool (canF 1).den.neg,.slice a9 aa ab] 46)=W9 at *;clear em
         go_loopw [136] (fun x wr=>∃t:Nat,t≤n∧x= .int .i64 t∧LuM W ge ga gr gc gf g0 g1 gt gl gu go n (2 * (5^n * K)) t t G D R C Ff E a m wr) (fun x _=>n - (intOf x).toNat)
         case atStart=>exact ⟨0,by omega,rfl,aw⟩
         case round=>
          clear aw;obtain ⟨t,ht,rfl,dm⟩:=hrel;rcases JX t n with htl | htl
          ·have bw:=JZ dm;obtain ⟨-,bh,⟨Ao,ko,co,a9,aa,ab,b6,fd⟩,-⟩:=dm;have cf:=XF n (by omega);have am:=ZU.zeros wr n (by unfold maxLen;omega);have P:=Zi wr (.cells (zfc n) 46);have al:=b6.later P;have cl:=fd.below P;obtain ⟨o0,o1,o2,o3⟩:=al.four;have fx:(t:Int) < n:=(by omega);obtain ⟨_,_,_,_,⟨c0,c1,c2,c3⟩,⟨f0,f1,f2,f3⟩,-⟩:=am.at_ (k:=t) (f:=zeroF) (by simp [htl]);obtain ⟨dn,k1⟩:=am.set_ (k:=t) (by simpa using htl) cl;rw [Zed,Uw htl] at dn;have b7:=Zx P (JY _) (t * 4) (t * 4+1) (t * 4+2) (t * 4+3) (.bool (canF 1).num.neg) (.slice Ao ko co) (.bool (canF 1).den.neg) (.slice a9 aa ab);obtain ⟨m0,_⟩:=ZV (own_below bh.2.2.2.1 b7) (by rw [Zuz];exact WQ htl);unfold X7 at m0;obtain ⟨_,bi⟩:=bh.2.2.2.2;obtain ⟨gq,cq,ap,-,-,fe,gw⟩:=(bi t htl).1.shape (by rw [Zz];omega);rw [Zz] at ap fe;unfold X7 at ap;injection ap with hv1 hv2 ap;clear hv1 hv2;rw [← ap] at fe gw;clear bh b6 fd al cl am bi ap
           go_upto_region 37 with (fail)
           generalize wr.alloc (.cells (zfc n) 46)=W6 at *
           go_upto_region 38 with (fail)
           clear o0 o1 o2 o3 c0 c1 c2 c3 f0 f1 f2 f3 k1 P;generalize (((W6.setCell ⟨wr.heap.size,t * 4,none⟩ (.bool (canF 1).num.neg)).setCell ⟨wr.heap.size,t * 4+1,none⟩ (.slice Ao ko co)).setCell ⟨wr.heap.size,t * 4+2,none⟩ (.bool (canF 1).den.neg)).setCell ⟨wr.heap.size,t * 4+3,none⟩ (.slice a9 aa ab)=W8 at *;go_wp2;clear m0;generalize wr=V at *
           go_loopw [150] (fun x wr=>∃k:Nat,k≤n∧x= .int .i64 k∧Below V.heap.size V wr∧∃L':Nat→RF,ZU V.heap.size wr (.slice (some ⟨V.heap.size,0,none⟩) n n) (rfL n L')∧∀p,p < n→(L' p).q=Zss R m t k p∧(L' p).Rs (2 * (5^n * K))) (fun x _=>n - (intOf x).toNat)
           case atStart=>exact ⟨0,by omega,rfl,b7,_,dn,fun p hp=>by
            rw [Zxs];by_cases e:p=t
            ·simp only [if_pos e];exact ⟨Zr _,Sz_one.rs.mono (by have:=d5.out;omega)⟩
            ·simp only [if_neg e];exact ⟨zeroF_q,(VL 1).mono (by have:=d5.out;omega)⟩⟩
           case round=>
            clear dn b7;obtain ⟨k,hk,rfl,l,L',hO,T⟩:=hrel;rcases JX k n with hkl | hkl
            ·obtain ⟨-,ff,-⟩:=bw.out;obtain ⟨H0,bi⟩:=ff.2.2.2.2;obtain ⟨fg,fh,-⟩:=bi t htl;obtain ⟨bj,bl⟩:=fh k hkl;obtain ⟨bz,oz,A5,n5,c5,A6,n6,c6,dp,_,⟨x0,x1,x2,x3⟩,aq⟩:=fg.frs.elem l (YD hkl);injection dp with dp;injection dp with au av;subst au;subst av;simp only [Nat.zero_add] at x0 x1 x2 x3;obtain ⟨sx,bm,dq⟩:=J.out.ri.onto hkl;obtain ⟨fz,fi⟩:∃fz,fz=H0 t k:=⟨_,rfl⟩;rw [← fi] at x0 x2 aq bj bl;have er:=JZ bj;have g7:=JZ bl;have e5:(k:Int) < n:=(by omega);have h5:(sx:Int) < n:=(by omega);have g8:Hid (m t k≠0→∀p,p < n→Zss R m t (k+1) p=if p=sx then m t k else Zss R m t k p):=JZ fun h0 p hp=>Ybv J.out.ri htl hp bm dq h0 (J.out.m0 t t htl (JY _))
             have g9:Hid (m t k=0→∀p,p < n→Zss R m t k p=Zss R m t (k+1) p):=JZ fun h0 p hp=>Ybu (n:=n) h0
             have gb:Hid ((UG n n R)[k]? =some (sx:Int)):=JZ (by rw [VN hkl,← dq,Ykp J.out.ri bm]);clear ff bi fg fh fi dq bj bl;obtain ⟨W9,gx,dr,a0⟩:=YR wr (.bool fz.num.neg) (.slice A5 n5 c5) (.bool fz.den.neg) (.slice A6 n6 c6);obtain ⟨v0,v1,v2,v3⟩:=dr.four;have dc:=aq.below a0;go_wp2_with fail;clear gx;refine (ZA _ fz _ dc).mono ?_;rw [er.out];rintro _ w2 ⟨rfl,bp⟩;have I:=Za (Za l a0 l.size) bp (JW l.size a0.size);have bx:=(hO.below a0).below bp;have dd:=dc.below bp;have O:=dr.later bp;clear hO aq dc dr l a0 bp v0 v1 v2 v3 x0 x1 x2 x3;by_cases ar:qs (m t k)=0
             ·have de:=JZ (Z5.1 ar);rw [ar];clear dd O ar;go_wp2;go_roundw
              case rel=>exact ⟨k+1,by omega,by go_num,I,L',bx,fun p hp=>⟨by rw [(T p hp).1,g9.out de.out p hp],(T p hp).2⟩⟩
              case measure=>simp [intOf];omega
             ·have de:Hid (m t k≠0):=JZ fun e=>ar (Z5.2 e)
              have gd:(qs (m t k) !=0)=true:=(by simpa using ar);clear ar;obtain ⟨v0,v1,v2,v3⟩:=O.four;obtain ⟨⟨M0,⟨bn,-,ac,-⟩,-⟩,-⟩:=bw.out.below I;obtain ⟨_,_,b2,_⟩:=bn.four;obtain ⟨p0,_,_,_⟩:=ac.at_ gb.out;obtain ⟨_,_,_,_,⟨c0,c1,c2,c3⟩,⟨f0,f1,f2,f3⟩,_⟩:=bx.at_ (YD (f:=L') bm);clear bn ac O
              go_upto_region 42 with (fail)
              clear gd;have C0:=Zl v0;have C1:=Zl v1;have C2:=Zl v2;have C3:=Zl v3;have D0:=Zl b2;have D1:=Zl p0;have u:=Zj w2;clear v0 v1 v2 v3 b2 p0;refine Zn 8 [0,1,2,3,4,5,6,7,8] (by kernel_rfl) (by kernel_rfl) ?_;repeat ((first|(first|refine Zb (v:=?_) rfl rfl rfl ?_ ?_ |refine Zd (v:=?_) rfl rfl rfl ?_ ?_);rotate_left;·(intro _ _;go_simp;(try go_bits);(try with_reducible rfl))|refine Ze rfl rfl rfl ?_);(try simp only [py]))
              refine Zf rfl rfl (fun _ kq=>?_);go_simp;refine kq.out _ _ (.inl (by decide)) ?_;clear kq;(try simp only [py]);refine Zv ?_;clear C0 C1 C2 C3 D0 D1;obtain ⟨bo,_⟩:=(bx.below u).set_ (k:=sx) (by rw [Zz];exact bm) (dd.below u);rw [Uw bm] at bo;have b8:=Zx (Za I u I.size) (JY _) (sx * 4) (sx * 4+1) (sx * 4+2) (sx * 4+3);clear bx dd I u c0 c1 c2 c3 f0 f1 f2 f3;go_wp2;go_roundw
              case rel=>
               refine ⟨k+1,by omega,by go_num,b8 _ _ _ _,_,bo,fun p hp=>?_⟩;rw [g8.out de.out p hp];by_cases e:p=sx
               ·simp only [if_pos e];exact ⟨er.out,g7.out⟩
               ·simp only [if_neg e];exact T p hp
              case measure=>simp [intOf];omega
            ·obtain rfl:n=k:=by omega
             have F:=bw.out.below l;obtain ⟨-,⟨U,-⟩,-,-,-⟩:=id F;obtain ⟨-,-,s2,-⟩:=U.four;have b9:RsL (2 * (5^n * K)) (rfL n L'):=fun i f hf=>by
              have hi:i < n:=(by have:=(List.getElem?_eq_some_iff.1 hf).1;rwa [Zz] at this);rw [YD hi] at hf;injection hf with hf;subst hf;exact (T i hi).2
             have df:Hid (spV (qAt (rfL n L')) (rfL n L').length=spV (luL R m t) n):=JZ (by
              rw [Zz];exact Vw fun i hi=>by rw [Zms hi,(T i hi).1,Yfu J.out.ri hi fun q hq=>J.out.m0 t q htl hq])
             clear T U
             go_upto_region 44 with (fail)
             have D0:=Zl s2;have u:=Zj wr;clear s2;refine Zn 9 [0,1,2,3,4,5,6,7,8,9] (by kernel_rfl) (by kernel_rfl) ?_;repeat ((first|(first|refine Zb (v:=?_) rfl rfl rfl ?_ ?_ |refine Zd (v:=?_) rfl rfl rfl ?_ ?_);rotate_left;·(intro _ _;go_simp;(try go_bits);(try with_reducible rfl))|refine Ze rfl rfl rfl ?_);(try simp only [py]))
             refine Zf rfl rfl (fun _ kq=>?_);go_simp;(with_reducible refine (Xk _ _ (2 * (5^n * K)) _ (hO.frs.below u) (by rw [Zz];omega) b9 (by have:=HE.out;omega)).mono ?_);rintro _ w6 ⟨v6,rfl,e6,L⟩;have Z:=Za u L u.size;rw [df.out] at e6;obtain ⟨A7,n7,c7,rfl⟩:∃A n c,v6= .slice A n c:=by obtain ⟨A,c,e,_⟩:=e6.vec.shape;exact ⟨A,_,c,e⟩
             obtain ⟨_,ds,dt,_⟩:=(F.below Z).2.2.2.1.at_ (Zee htl);refine kq.out _ _ (.inr Z) ?_;clear kq;(try simp only [py]);repeat ((first|(first|refine Zb (v:=?_) rfl rfl rfl ?_ ?_ |refine Zd (v:=?_) rfl rfl rfl ?_ ?_);rotate_left;·(intro _ _;go_simp;(try go_bits);(try with_reducible rfl))|refine Ze rfl rfl rfl ?_);(try simp only [py]))
             refine Zf rfl rfl (fun _ kq=>?_);go_simp;refine kq.out _ _ (.inl (by decide)) ?_;clear kq;(try simp only [py]);refine Zv ?_;clear D0;have B:=(F.below Z).setL ck htl e6.vec;clear F hO l u Z L e6 ds dt bw;generalize w6.setCell ⟨gl,t,none⟩ (.slice A7 n7 c7)=W7 at *;have am:=ZU.zeros W7 n (by unfold maxLen;omega);have P:=Zi W7 (.cells (zfc n) 46);have cm:=JZ B;clear B;go_wp2
             go_loopw [180] (fun x wr=>∃k:Nat,k≤t+1∧x= .int .i64 k∧Below W7.heap.size W7 wr∧∃L':Nat→RF,ZU W7.heap.size wr (.slice (some ⟨W7.heap.size,0,none⟩) n n) (rfL n L')∧∀p,p < n→(L' p).q=upP R C a t k p∧(L' p).Rs (2 * (5^n * K))) (fun x _=>t+1 - (intOf x).toNat)
             case atStart=>exact ⟨0,by omega,rfl,P,fun _=>zeroF,by rw [← Zed];exact am,fun p hp=>⟨by unfold upP;rw [if_neg (by omega)];exact zeroF_q,(VL 1).mono (by have:=d5.out;omega)⟩⟩
             case round=>
              clear am P;obtain ⟨k,hk,rfl,l,L',hO,T⟩:=hrel;rcases JX k (t+1) with hkl | hkl
              ·have F:=cm.out.below l;obtain ⟨⟨M0,⟨bn,ce,-⟩,du,-⟩,⟨U,ac,a3,-⟩,-⟩:=F;have ba:k < n:=(by omega);have an:R k < n:=J.out.ri.1 k ba;have c4:C t < n:=J.out.ci.1 t htl;obtain ⟨_,b1,_,_⟩:=bn.four;obtain ⟨s0,s1,_,_⟩:=U.four;obtain ⟨y0,_,_,_⟩:=ac.at_ (Zgs ba);obtain ⟨z0,_,_,_⟩:=a3.at_ (Zgs htl);obtain ⟨m1,_⟩:=ce.cellAt an;unfold X7 at m1;obtain ⟨l1,l2,l3,l4⟩:=ce.lt an (by omega);obtain ⟨A5,n5,c5,A6,n6,c6,⟨x0,x1,x2,x3⟩,aq⟩:=ce.at_ an c4;have gg:Hid ((M0 (R k) (C t)).q=a (R k) (C t)∧(M0 (R k) (C t)).Rs (2 * (5^n * K))):=JZ ⟨(du _ _ an c4).q,((du _ _ an c4).rs (ax.out _ _ an c4)).mono (by omega)⟩;have gh:Hid (∀p,upP R C a t (k+1) p=if p=k then a (R k) (C t) else upP R C a t k p):=JZ fun p=>Yfv p
               obtain ⟨_,_,_,_,⟨c0,c1,c2,c3⟩,⟨f0,f1,f2,f3⟩,_⟩:=hO.at_ (YD (f:=L') ba);generalize M0 (R k) (C t)=fz at *;generalize a (R k) (C t)=qz at *;generalize R k=rk at *;generalize C t=ct at *;have e5:(k:Int) < n:=(by omega);have fy:(rk:Int) < n:=(by omega);have g2:(ct:Int) < n:=(by omega);clear bn ce du U ac a3
               go_upto_region 49 with (fail)
               have C0:=Zl x0;have C1:=Zl x1;have C2:=Zl x2;have C3:=Zl x3;have D0:=Zl b1;have D1:=Zl s0;have D2:=Zl s1;have D3:=Zl y0;have D4:=Zl z0;have D5:=Zl m1;have u:=Zj wr;clear x0 x1 x2 x3 b1 s0 s1 y0 z0 m1;refine Zn 19 [0,1,2,3,4,5,6,7,8,9,10,11,12,13,14,15,16,17,18,19] (by kernel_rfl) (by kernel_rfl) ?_;repeat ((first|(first|refine Zb (v:=?_) rfl rfl rfl ?_ ?_ |refine Zd (v:=?_) rfl rfl rfl ?_ ?_);rotate_left;·(intro _ _;go_simp;(try go_bits);(try with_reducible rfl))|refine Ze rfl rfl rfl ?_);(try simp only [py]))
               refine Zf rfl rfl (fun _ kq=>?_);go_simp;refine kq.out _ _ (.inl (by decide)) ?_;clear kq;(try simp only [py]);refine Zv ?_;clear C0 C1 C2 C3 D0 D1 D2 D3 D4 D5;obtain ⟨bo,_⟩:=(hO.below u).set_ (k:=k) (by rw [Zz];exact ba) (aq.below u);rw [Uw ba] at bo;have b8:=Zx (Za l u l.size) (JY _) (k * 4) (k * 4+1) (k * 4+2) (k * 4+3);clear hO aq l u c0 c1 c2 c3 f0 f1 f2 f3;go_wp2;go_roundw
               case rel=>
                refine ⟨k+1,by omega,by go_num,b8 _ _ _ _,_,bo,fun p hp=>?_⟩;rw [gh.out p];by_cases e:p=k
                ·simp only [if_pos e];exact gg.out
                ·simp only [if_neg e];exact T p hp
               case measure=>simp [intOf];omega
              ·obtain rfl:k=t+1:=by omega
               have F:=cm.out.below l;obtain ⟨-,⟨U,-⟩,-,-,-⟩:=id F;obtain ⟨-,-,-,s3⟩:=U.four;have b9:RsL (2 * (5^n * K)) (rfL n L'):=fun i f hf=>by
                have hi:i < n:=(by have:=(List.getElem?_eq_some_iff.1 hf).1;rwa [Zz] at this);rw [YD hi] at hf;injection hf with hf;subst hf;exact (T i hi).2
               have df:Hid (spV (qAt (rfL n L')) (rfL n L').length=spV (luU R C a t) n):=JZ (by
                rw [Zz];exact Vw fun i hi=>by rw [Zms hi,(T i hi).1,Ykq])
               clear T U
               go_upto_region 51 with (fail)
               have D0:=Zl s3;have u:=Zj wr;clear s3;refine Zn 9 [0,1,2,3,4,5,6,7,8,9] (by kernel_rfl) (by kernel_rfl) ?_;repeat ((first|(first|refine Zb (v:=?_) rfl rfl rfl ?_ ?_ |refine Zd (v:=?_) rfl rfl rfl ?_ ?_);rotate_left;·(intro _ _;go_simp;(try go_bits);(try with_reducible rfl))|refine Ze rfl rfl rfl ?_);(try simp only [py]))
               refine Zf rfl rfl (fun _ kq=>?_);go_simp;(with_reducible refine (Xk _ _ (2 * (5^n * K)) _ (hO.frs.below u) (by rw [Zz];omega) b9 (by have:=HE.out;omega)).mono ?_);rintro _ w6 ⟨v6,rfl,e6,L⟩;have Z:=Za u L u.size;rw [df.out] at e6;obtain ⟨A7,n7,c7,rfl⟩:∃A n c,v6= .slice A n c:=by obtain ⟨A,c,e,_⟩:=e6.vec.shape;exact ⟨A,_,c,e⟩
               obtain ⟨_,ds,dt,_⟩:=(F.below Z).2.2.2.2.at_ (Zee htl);refine kq.out _ _ (.inr Z) ?_;clear kq;(try simp only [py]);repeat ((first|(first|refine Zb (v:=?_) rfl rfl rfl ?_ ?_ |refine Zd (v:=?_) rfl rfl rfl ?_ ?_);rotate_left;·(intro _ _;go_simp;(try go_bits);(try with_reducible rfl))|refine Ze rfl rfl rfl ?_);(try simp only [py]))
               refine Zf rfl rfl (fun _ kq=>?_);go_simp;refine kq.out _ _ (.inl (by decide)) ?_;clear kq;(try simp only [py]);refine Zv ?_;clear D0;have B:=(F.below Z).setU ck htl e6.vec;clear F hO l u Z L e6 ds dt;go_wp2;go_roundw
               case rel=>exact ⟨t+1,by omega,by go_num,B⟩
               case measure=>simp [intOf];omega
          ·obtain rfl:n=t:=by omega
           obtain ⟨⟨_,-,-,N⟩,⟨U,ac,a3,-,-⟩,-,fj,fk⟩:=dm;rw [Zvh] at fj fk;obtain ⟨s0,s1,s2,s3⟩:=U.four;have h6:=(N.mono bq.out);have c8:=dy.out.later (N.mono bq.out);have a2:=Za S N S.size;have c9:=S.size;obtain ⟨t0,t1,t2,t3⟩:=c8.four;obtain ⟨f0,f1,f2,f3⟩:=c8.fourF;go_wp2;have kk:=c8.but4 (.slice (some ⟨g0,0,none⟩) n n) (.slice (some ⟨g1,0,none⟩) n n) (.slice (some ⟨gl,0,none⟩) n n) (.slice (some ⟨gu,0,none⟩) n n);refine YX Tryz.results139 Tryz.underlying158 (by kernel_rfl) rfl (c8.set4 _ _ _ _) rfl ?_;exact ⟨ZI a2 (JY _) _ _ _ _,.inl ⟨R,C,luL R m,luU R C a,_,_,_,_,rfl,J.out.facS (by omega) HK.out HE.out ax.out cz.out,(ac.but kk (by decide)).monoB c9,(a3.but kk (by decide)).monoB c9,(fj.but kk (by decide) (by decide) (by decide)).monoB c9,(fk.but kk (by decide) (by decide) (by decide)).monoB c9⟩⟩
end
end Go.Proofs.YtgbhebappffbdaaGreat
