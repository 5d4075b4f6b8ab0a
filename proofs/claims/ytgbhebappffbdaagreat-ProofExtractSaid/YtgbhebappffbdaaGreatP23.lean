/- Lemmas of the claim; no condition. -/
import Derived.Test.YtgbhebappffbdaaGreatP21
import Derived.Test.YtgbhebappffbdaaGreatP24
set_option linter.all false
set_option maxRecDepth 100000
set_option maxHeartbeats 40000000
namespace Go.Proofs.YtgbhebappffbdaaGreat
open Go.RowKit
open Pl
attribute [local go_sem ↓] Go.wp_at_zero Go.wp_at_succ
theorem info_rowT:(Tryz.prog.info? 23).map (fun i=>(i.zero,i.size,i.bytes))=some (some (.slice none 0 0),1,24):=by kernel_rfl
namespace Pl
structure LSt where
 phase:Int
 basis:List Int
 pivots:Int
def LSt.In (p:LPd) (s:LSt):Prop:=∀(i:Nat) (z:Int),s.basis[i]? =some z→ -(p.right.length:Int)≤z∧z < p.cols.length
def LSt.at_ (s:LSt) (i:Nat):Int:=s.basis.getD i 0
def LSt.mat (p:LPd) (s:LSt):Mx:=fun i=>p.col (s.at_ i)
theorem LSt.at_eq {s:LSt} {i:Nat} {z:Int} (h:s.basis[i]? =some z):s.at_ i=z:=by simp [LSt.at_,List.getD,h]
end Pl
def StM (w:World) (v:Value) (s:LSt):Prop:=∃A n c,v= .agg #[.int .i64 s.phase,.slice A n c,.int .i64 s.pivots]∧XE w (.slice A n c) s.basis
theorem StM.below {w w':World} {v:Value} {s:LSt} (h:StM w v s) (hb:Below w.heap.size w w'):StM w' v s:=by
 obtain ⟨A,n,c,h1,h2⟩:=h;exact ⟨A,n,c,h1,h2.below hb⟩
theorem Zea (w:World) (x y z:Value):∃W,w.alloc (.cells #[x,y,z] 29)=W∧Bk W w.heap.size 29 [x,y,z]∧Below w.heap.size w W:=⟨_,rfl,Bk.new w _ [x,y,z],Zb w _⟩
theorem XE.len {w:World} {A:Option Addr} {n c:Nat} {zs:List Int} (h:XE w (.slice A n c) zs):n=zs.length∧n≤c∧c≤9223372036854775807:=by
 obtain ⟨a,cap,h1,h2,h3⟩:=h.shape;injection h1 with e1 e2 e3;subst e2 e3;exact ⟨rfl,h2,h3⟩
namespace Pl
def Zif (m:Nat) (cols:Mx) (b:Nat→Rat):List RF:=match Xa m cols b with | some x=>Yj m x | none=>[]
theorem Zeb {m:Nat} {cols:Mx} {b x:Nat→Rat} (h:Xa m cols b=some x):Zif m cols b=Yj m x:=by unfold Zif;rw [h]
theorem Zur {m:Nat} {cols:Mx} {b:Nat→Rat} (h:Xa m cols b=none):Zif m cols b=[]:=by unfold Zif;rw [h]
end Pl
namespace Pl
def LPd.Fit (p:LPd) (K:Nat):Prop:=p.Ok K∧p.In∧p.right.length≤64∧p.cost.length=p.cols.length∧p.cols.length≤1200∧1≤K∧130 * (5^p.right.length * K)+200≤8589934592
theorem LPd.Fit.k1 {p:LPd} {K:Nat} (h:p.Fit K):1≤K:=h.2.2.2.2.2.1
theorem LPd.Fit.le {p:LPd} {K:Nat} (_h:p.Fit K):K≤5^p.right.length * K:=by
 have:=JS K (Nat.pow_le_pow_right (show 0 < 5 by decide) (Nat.zero_le p.right.length));simpa using this
theorem LPd.Fit.kb {p:LPd} {K:Nat} (h:p.Fit K):K≤34359738368:=by
 have h1:=h.le;have h2:=h.2.2.2.2.2.2;omega
theorem LPd.Fit.ok {p:LPd} {K:Nat} (h:p.Fit K):p.Ok K:=h.1
theorem LPd.Fit.cl {p:LPd} {K:Nat} (h:p.Fit K):p.cost.length=p.cols.length:=h.2.2.2.1
theorem LPd.Fit.cols {p:LPd} {K:Nat} (h:p.Fit K):p.cols.length≤1200:=h.2.2.2.2.1
theorem LPd.Fit.rs {p:LPd} {K:Nat} (h:p.Fit K):RsL K p.right:=h.1.2.1
theorem LPd.Fit.cs {p:LPd} {K:Nat} (h:p.Fit K):RsL K p.cost:=h.1.1
def LSt.Fit (p:LPd) (s:LSt):Prop:=s.In p∧s.basis.length=p.right.length
theorem LSt.Fit.in_ {p:LPd} {s:LSt} (h:s.Fit p):s.In p:=h.1
theorem LSt.Fit.len {p:LPd} {s:LSt} (h:s.Fit p):s.basis.length=p.right.length:=h.2
def Ygt (p:LPd) (j:Int):Int:=if 0≤j then j else p.cols.length - 1 - j
def VL (p:LPd) (ph j:Int):Rat:=if ph=1∧j < 0 then 1 else if ph=2∧0≤j then qAt p.cost j.toNat else 0
theorem Zus {p:LPd} {j:Int} (h:j < 0):VL p 1 j=1:=by unfold VL;rw [if_pos ⟨rfl,h⟩]
theorem Zqx {p:LPd} {j:Int} (h:0≤j):VL p 2 j=qAt p.cost j.toNat:=by unfold VL;rw [if_neg (by omega),if_pos ⟨rfl,h⟩]
theorem Zqy {p:LPd} {ph j:Int} (h1:¬(ph=1∧j < 0)) (h2:¬(ph=2∧0≤j)):VL p ph j=0:=by unfold VL;rw [if_neg h1,if_neg h2]
theorem Zmn {p:LPd} {K:Nat} (ok:p.Ok K) (hK:1≤K) (ph j:Int):Sz K (VL p ph j):=by
 unfold VL;split
 ·exact Sz_one.mono hK
 ·split
  ·exact ok.1.qAt hK _
  ·exact Sz_zero.mono hK
def Zby (s:LSt) (zs:List RF):Nat→Bool
 | 0=>false
 | k+1=>Zby s zs k || (decide (s.at_ k < 0) && decide (qAt zs k≠0))
theorem Zec {s:LSt} {zs:List RF} {k:Nat} (h1:s.at_ k < 0) (h2:qAt zs k≠0):∀{n:Nat},k < n→Zby s zs n=true
 | 0,h=>by omega
 | n+1,h=>by
  unfold Zby
  rcases JX k n with hk | hk
  ·rw [Zec h1 h2 hk];rfl
  ·obtain rfl:k=n:=by omega
   simp [h1,h2]
def zL (p:LPd) (s:LSt):List RF:=Zif p.right.length (s.mat p) (qAt p.right)
def zOk (p:LPd) (s:LSt):Bool:=(Xa p.right.length (s.mat p) (qAt p.right)).isSome
def XU (p:LPd) (s:LSt):List RF:=Zif p.right.length (fun r k=>s.mat p k r) (qAt (Yj p.right.length fun i=>VL p s.phase (s.at_ i)))
theorem Zut {m K:Nat} {cols:Mx} {b:Nat→Rat} (h:∀r c,r < m→c < m→Sz K (cols c r)) (hb:∀r,r < m→Sz K (b r)):RsL (5^m * K) (Zif m cols b):=by
 unfold Zif
 cases e:Xa m cols b with
 | none=>exact RsL.nil _
 | some x=>exact Zbc (Zob h hb e)
theorem Ygw {p:LPd} {K:Nat} (F:p.Fit K) (s:LSt):RsL (5^p.right.length * K) (zL p s):=Zut (fun _ _ _ _=>LPd.Sz_col F.1 F.k1 _ _) fun r _=>F.1.2.1.qAt F.k1 r
theorem Zmo {p:LPd} {K:Nat} (F:p.Fit K) (s:LSt):RsL (5^p.right.length * K) (XU p s):=Zut (fun _ _ _ _=>LPd.Sz_col F.1 F.k1 _ _) fun r hr=>by rw [YH hr];exact Zmn F.1 F.k1 _ _
theorem Zyp {m:Nat} {cols:Mx} {b:Nat→Rat}:(Zif m cols b).length≤m:=by
 unfold Zif;split
 ·rw [Zm];exact JY _
 ·simp
end Pl
def ZN (base:Nat) (w:World) (v:Value) (zs:List Int):Prop:=w.ownsRow base 3 1 v zs.length (zs.map fun z=>Value.int .i64 z)∧∀z∈zs,-9223372036854775808≤z∧z≤9223372036854775807
theorem ZN.below {base:Nat} {w w':World} {v:Value} {zs:List Int} (h:ZN base w v zs) (hb:Below w.heap.size w w'):ZN base w' v zs:=⟨own_below h.1 hb,h.2⟩
theorem ZN.nil (base:Nat) (w:World):ZN base w (.slice none 0 0) []:=⟨World.ownsRow_nil _ _ _ _,fun z hz=>by simp at hz⟩
theorem ZN.monoB {base base':Nat} {w:World} {v:Value} {zs:List Int} (h:ZN base w v zs) (hb:base'≤base):ZN base' w v zs:=⟨Wy h.1 hb,h.2⟩
theorem ZN.but {base:Nat} {w w':World} {e:TypeId} {v:Value} {zs:List Int} (h:ZN base w v zs) (hk:Ze e w w') (h1:3≠e):ZN base w' v zs:=⟨hk.own h.1 h1,h.2⟩
theorem ZN.ints {base:Nat} {w:World} {v:Value} {zs:List Int} (h:ZN base w v zs):XE w v zs:=by
 obtain ⟨A,c,hv,hl,hc,hm,a⟩:=V7.of_own h.1;refine ⟨A,c,hv,hc,hm,fun hp=>?_,h.2⟩;obtain ⟨b,d,cs,fz,hA,hb,hx⟩:=a hp;refine ⟨b,d,hA,fun i hi=>?_⟩;rw [cell_of_row w b (d+i) cs _ fz hb,hx i (.int .i64 (zs.getD i 0)) (by simp [List.getD,JQ hi])]
theorem ZN.sliceN {base:Nat} {w:World} {v:Value} {zs:List Int} (h:ZN base w v zs):∃A n c,v= .slice A n c:=by
 obtain ⟨A,c,hv,_⟩:=V7.of_own h.1;exact ⟨A,_,c,hv⟩
theorem info_intT:(Tryz.prog.info? 3).map (fun i=>(i.zero,i.size,i.bytes))=some (some (.int .i64 0),1,8):=by kernel_rfl
def StO (base:Nat) (w:World) (v:Value) (s:LSt):Prop:=∃A n c,v= .agg #[.int .i64 s.phase,.slice A n c,.int .i64 s.pivots]∧ZN base w (.slice A n c) s.basis
namespace Pl
def ZB (p:LPd) (s:LSt):LSt:=⟨if Zby s (zL p s) (zL p s).length then s.phase else 2,s.basis,s.pivots⟩
theorem Zmu {p:LPd} {s:LSt} (h:s.Fit p):(ZB p s).Fit p:=h
end Pl
theorem ZN.shape {base:Nat} {w:World} {v:Value} {zs:List Int} (h:ZN base w v zs) (hp:0 < zs.length):∃g c,v= .slice (some ⟨g,0,none⟩) zs.length c∧base≤g∧g < w.heap.size∧zs.length≤c∧c≤9223372036854775807:=by
 rcases h.1.2 with ⟨rfl,e⟩ | ⟨g,cap,cur,rfl,hb,hg,hnc,hcm,hcs,htake⟩
 ·omega
 ·unfold maxLen at hcm;exact ⟨g,cap,rfl,hb,Yw hg,hnc,by omega⟩
theorem ZN.len {base:Nat} {w:World} {A:Option Addr} {n c:Nat} {zs:List Int} (h:ZN base w (.slice A n c) zs):n=zs.length:=(V7.of_own h.1).len
theorem ZN.at_ {base:Nat} {w:World} {g n c:Nat} {zs:List Int} (h:ZN base w (.slice (some ⟨g,0,none⟩) n c) zs) {k:Nat} {z:Int} (hz:zs[k]? =some z):
 w.cell? ⟨g,k,none⟩=some (.int .i64 z)∧w.frozen? ⟨g,k,none⟩=false∧ -9223372036854775808≤z∧z≤9223372036854775807:=by
 have hn:=h.len;obtain ⟨h1,h2⟩:=h;subst hn;obtain ⟨c1,c2⟩:=ZM h1 (j:=k) (u:= .int .i64 z) (by simp [hz]);exact ⟨c1,c2,h2 z (List.mem_of_getElem? hz)⟩
theorem ZN.base {base:Nat} {w:World} {g n c:Nat} {zs:List Int} (h:ZN base w (.slice (some ⟨g,0,none⟩) n c) zs):base≤g:=by
 have hn:=h.len;obtain ⟨h1,h2⟩:=h;subst hn;obtain ⟨_,_,h3⟩:=Yl h1;exact h3
theorem ZN.set_ {base:Nat} {w:World} {g n c:Nat} {zs:List Int} (h:ZN base w (.slice (some ⟨g,0,none⟩) n c) zs) {k:Nat} (hk:k < zs.length) {z:Int} (h0: -9223372036854775808≤z) (h1:z≤9223372036854775807):
 ZN base (w.setCell ⟨g,k,none⟩ (.int .i64 z)) (.slice (some ⟨g,0,none⟩) n c) (zs.set k z)∧Ze 3 w (w.setCell ⟨g,k,none⟩ (.int .i64 z)):=by
 have hn:=h.len;obtain ⟨g1,g2⟩:=h;subst hn;have o1:=XD g1 k (.int .i64 z) (by simpa using hk);obtain ⟨_,b0,_⟩:=Yl g1;refine ⟨⟨by rw [List.length_set,List.map_set];exact o1,fun y hy=>?_⟩,Ze.setCell b0 k _⟩;rcases List.mem_or_eq_of_mem_set hy with hy | rfl
 ·exact g2 y hy
 ·exact ⟨h0,h1⟩
theorem ZN.others {base:Nat} {w w':World} {g:Option Nat} {v:Value} {zs:List Int} (h:ZN base w v zs) (ho:ZW g w w') (hne:∀b,v.ownBlock=some b→some b≠g):ZN base w' v zs:=by
 refine ⟨⟨h.1.1,?_⟩,h.2⟩;rcases h.1.2 with hn | ⟨b,cap,cur,rfl,hb',hgg,rest⟩
 ·exact .inl hn
 ·exact .inr ⟨b,cap,cur,rfl,hb',(ho.2 b (Yw hgg) (hne b rfl)).trans hgg,rest⟩
def zic (n:Nat):Array Value:=madeCells (Value.cells (.int .i64 0)) (n * 1)
theorem Yex {n k:Nat} (hk:k < n):(zic n)[k]? =some (.int .i64 0):=by
 unfold zic madeCells;simp [hk,Value.cells,Nat.mod_one]
theorem ZN.zeros (w:World) (n:Nat) (hn:n≤maxLen):ZN w.heap.size (w.alloc (.cells (zic n) 3)) (.slice (some ⟨w.heap.size,0,none⟩) n n) (List.replicate n 0):=by
 have a:(zic n).size=n * 1:=size_madeCells _ _;refine ⟨⟨by simp,.inr ⟨w.heap.size,n,zic n,by simp,JY _,heap_alloc_new w _,by simp,hn,by simpa using a,?_⟩⟩,fun z hz=>?_⟩
 ·refine List.ext_getElem? fun i=>?_
  rcases JX i n with e | e
  ·have:=Yex e;simp [List.getElem?_take,e,this]
  ·rw [JU (by simp [a];omega),JU (by simp;omega)]
 ·have:=List.eq_of_mem_replicate hz;omega
theorem Zkl (n:Nat) (hn:n≤1099511627776) (w:World):
 (Instr.makeSlice 22 (.int .i64 (n:Int)) (.int .i64 (n:Int))).run Tryz.prog w= .ok (.slice (some ⟨w.heap.size,0,none⟩) n n) (w.alloc (.cells (zic n) 3)):=by
 obtain ⟨i0,hi,a,b,c⟩:=info_parts info_intT;have hb:(i0.bytes:Int) * (n:Int)≤281474976710656:=by rw [c];omega
 have hr:=run_make (P:=Tryz.prog) w 22 3 i0 _ Tryz.underlying22 hi a .i64 .i64 n n (by omega) (by omega) hb (by omega);simp only [JP,b] at hr;exact hr
def ElM (base:Nat) (w:World) (ge n:Nat) (va vr vc:Value) (M:Nat→Nat→RF) (G D:Nat→Nat) (rp cp:List Int):Prop:=
 Bk w ge 174 [.int .i64 (n:Int),va,vr,vc]∧Zcg base w va n n M G D∧ZN base w vr rp∧ZN base w vc cp∧rp.length=n∧cp.length=n
theorem ElM.below {base:Nat} {w w':World} {ge n:Nat} {va vr vc:Value} {M:Nat→Nat→RF} {G D:Nat→Nat} {rp cp:List Int} (h:ElM base w ge n va vr vc M G D rp cp) (hb:Below w.heap.size w w'):ElM base w' ge n va vr vc M G D rp cp:=
 ⟨h.1.later hb,h.2.1.below hb,h.2.2.1.below hb,h.2.2.2.1.below hb,h.2.2.2.2⟩
theorem Zt.numLen {w:World} {b b':Bool} {A A':Option Addr} {n c n' c':Nat} {f:RF} (h:Zt w (.agg #[.bool b,.slice A n c,.bool b',.slice A' n' c']) f):n=f.num.ds.length:=by
 obtain ⟨_,_,_,_,_,_,hv,h1,h2⟩:=h;simp at hv;obtain ⟨_,⟨rfl,rfl,rfl⟩,_,rfl,rfl,rfl⟩:=hv;obtain ⟨e1,e2,_,_⟩:=h1.len;omega
namespace Pl
def Zrd (rp cp:List Int) (M:Nat→Nat→RF) (i j:Nat):Bool:=decide (rp.getD i 0 < 0) && (decide (cp.getD j 0 < 0) && decide (0 < (M i j).num.ds.length))
theorem Zed {l:List Int} {i:Nat} {z:Int} (h:l[i]? =some z):l.getD i 0=z:=by simp [List.getD,h]
theorem Xx {l:List Int} {i:Nat} (h:i < l.length):∃z,l[i]? =some z:=⟨l[i],JQ h⟩
theorem Yey {x y:Int} (h1: -100≤x) (h2:x≤100) (h3: -100≤y) (h4:y≤100): -10000≤x * y∧x * y≤10000:=by
 have a:=Int.mul_nonneg (show 0≤100 - x by omega) (show 0≤100 - y by omega);have b:=Int.mul_nonneg (show 0≤100 - x by omega) (show 0≤100+y by omega);have c:=Int.mul_nonneg (show 0≤100+x by omega) (show 0≤100 - y by omega);have d:=Int.mul_nonneg (show 0≤100+x by omega) (show 0≤100+y by omega);constructor <;> grind
end Pl
theorem Zgd (base ge n:Nat) (va vr vc:Value) (M:Nat→Nat→RF) (G D:Nat→Nat) (rp cp:List Int) (i j:Nat) (w:World) (h:ElM base w ge n va vr vc M G D rp cp) (hi:i < n) (hj:j < n):
 Calls Tryz.prog 169 #[.pointer (some ⟨ge,0,none⟩),.int .i64 (i:Int),.int .i64 (j:Int)] w fun o w'=>o= .returned (.bool (Zrd rp cp M i j))∧Below w.heap.size w w':=by
 obtain ⟨hB,hM,hR,hC,f,g⟩:=h;obtain ⟨go,co,rfl,_,_,p,q,a⟩:=hM.outer (by omega);obtain ⟨m1,m2⟩:=a i hi;obtain ⟨A1,n1,c1,A2,n2,c2,⟨x0,x1,x2,x3⟩,hf⟩:=hM.at_ hi hj;obtain ⟨l1,l2,l3,l4⟩:=hM.lt hi (by omega);have e:=hf.numLen;obtain ⟨gr,cr,rfl,_,_,k,x⟩:=hR.shape (by omega);obtain ⟨gc,cc,rfl,_,_,m,y⟩:=hC.shape (by omega);obtain ⟨zi,c⟩:=Xx (l:=rp) (i:=i) (by omega);obtain ⟨zj,d⟩:=Xx (l:=cp) (i:=j) (by omega);obtain ⟨r0,_,_,_⟩:=hR.at_ c;obtain ⟨k0,_,_,_⟩:=hC.at_ d;obtain ⟨b0,b1,b2,b3⟩:=hB.four;have b:Zrd rp cp M i j=(decide (zi < 0) && (decide (zj < 0) && decide (0 < n1))):=by unfold Zrd;rw [Zed c,Zed d,e]
 rw [b];unfold Zai at m1;have r:(i:Int) < n:=by omega
 have s:(j:Int) < n:=by omega
 rw [f] at b2 k;rw [g] at b3 m;clear b e c d hf a hM hR hC hB m2 f g;generalize G i=gi at *;generalize D i=di at *;by_cases c1':zi < 0
 ·by_cases c2':zj < 0
  ·by_cases c3':0 < n1
   ·have t:(0:Int) < n1:=(by omega);go_enter Tryz.func169,Tryz.ntmps169;go_wp2;go_ret;exact ⟨by simp [c1',c2',c3'],JR _ _⟩
   ·obtain rfl:n1=0:=by omega
    go_enter Tryz.func169,Tryz.ntmps169;go_wp2;go_ret;exact ⟨by simp,JR _ _⟩
  ·have u:0≤zj:=(by omega);go_enter Tryz.func169,Tryz.ntmps169;go_wp2;go_ret;exact ⟨by simp;intro h;omega,JR _ _⟩
 ·have v:0≤zi:=by omega
  go_enter Tryz.func169,Tryz.ntmps169;go_wp2;go_ret;exact ⟨by simp;intro h;omega,JR _ _⟩
def Ygk (V:World) (n:Nat) (s5 s6:Value) (wx:World):Prop:=
 ∃g5 g6,s5= .slice (some ⟨g5,0,none⟩) n n∧s6= .slice (some ⟨g6,0,none⟩) n n∧g5≠g6∧ZN V.heap.size wx (.slice (some ⟨g5,0,none⟩) n n) (List.replicate n 0)∧ZN V.heap.size wx (.slice (some ⟨g6,0,none⟩) n n) (List.replicate n 0)∧Below V.heap.size V wx
def Zbj (w:World) (n g5 g6:Nat) (N:Int) (wr:World):Prop:=
 ∃zs ys:List Int,zs.length=n∧ys.length=n∧(∀z∈zs,0≤z∧z≤N)∧(∀z∈ys,0≤z∧z≤N)∧ZN w.heap.size wr (.slice (some ⟨g5,0,none⟩) n n) zs∧ZN w.heap.size wr (.slice (some ⟨g6,0,none⟩) n n) ys∧Below w.heap.size w wr
theorem Zbj.mono {w wr:World} {n g5 g6:Nat} {N N':Int} (h:Zbj w n g5 g6 N wr) (hn:N≤N'):Zbj w n g5 g6 N' wr:=by
 obtain ⟨zs,ys,h1,h2,h3,h4,h5⟩:=h;exact ⟨zs,ys,h1,h2,fun z hz=>⟨(h3 z hz).1,by have:=(h3 z hz).2;omega⟩,fun z hz=>⟨(h4 z hz).1,by have:=(h4 z hz).2;omega⟩,h5⟩
theorem Zbj.below {w wr w':World} {n g5 g6:Nat} {N:Int} (h:Zbj w n g5 g6 N wr) (hb:Below wr.heap.size wr w'):Zbj w n g5 g6 N w':=by
 obtain ⟨zs,ys,h1,h2,h3,h4,h5,h6,h7⟩:=h;exact ⟨zs,ys,h1,h2,h3,h4,h5.below hb,h6.below hb,Za h7 hb h7.size⟩
def Y8 (n:Nat) (rp cp:List Int) (M:Nat→Nat→RF) (i j:Nat) (s2 s3 s4 s9:Value):Prop:=
 ∃(r c b:Int) (ok:Bool),s2= .int .i64 r∧s3= .int .i64 c∧s4= .bool ok∧s9= .int .i64 b∧(ok=true→∃r' c':Nat,r=r'∧c=c'∧r' < n∧c' < n∧Zrd rp cp M r' c'=true)∧
  (ok=false→∀i' j',j' < n→(i' < i∨(i'=i∧j' < j))→Zrd rp cp M i' j'=false)
theorem Y8.skip {n i j:Nat} {rp cp:List Int} {M:Nat→Nat→RF} {s2 s3 s4 s9:Value} (h:Y8 n rp cp M i j s2 s3 s4 s9) (ha:Zrd rp cp M i j=false):Y8 n rp cp M i (j+1) s2 s3 s4 s9:=by
 obtain ⟨r,c,b,ok,e2,e3,e4,e9,h1,h2⟩:=h;refine ⟨r,c,b,ok,e2,e3,e4,e9,h1,fun ho i' j' hj hl=>?_⟩;by_cases e:i'=i∧j'=j
 ·rw [e.1,e.2];exact ha
 ·exact h2 ho i' j' hj (by omega)
theorem Y8.skipT {n i j:Nat} {rp cp:List Int} {M:Nat→Nat→RF} {r c b:Int} {ok:Bool} (h:Y8 n rp cp M i j (.int .i64 r) (.int .i64 c) (.bool ok) (.int .i64 b)):ok=true→Y8 n rp cp M i (j+1) (.int .i64 r) (.int .i64 c) (.bool ok) (.int .i64 b):=by
 intro ht;obtain ⟨r',c',b',a,e2,e3,e4,e9,h1,h2⟩:=h;injection e4 with e4;subst e4;exact ⟨r',c',b',ok,e2,e3,rfl,e9,h1,fun ho=>by rw [ht] at ho;cases ho⟩
theorem Y8.take {n i j:Nat} {rp cp:List Int} {M:Nat→Nat→RF} {m:Int} (hi:i < n) (hj:j < n) (ha:Zrd rp cp M i j=true):Y8 n rp cp M i (j+1) (.int .i64 i) (.int .i64 j) (.bool true) (.int .i64 m):=
 ⟨_,_,_,_,rfl,rfl,rfl,rfl,fun _=>⟨i,j,rfl,rfl,hi,hj,ha⟩,fun ho=>by cases ho⟩
theorem Y8.row {n i:Nat} {rp cp:List Int} {M:Nat→Nat→RF} {s2 s3 s4 s9:Value} (h:Y8 n rp cp M i n s2 s3 s4 s9):Y8 n rp cp M (i+1) 0 s2 s3 s4 s9:=by
 obtain ⟨r,c,b,ok,e2,e3,e4,e9,h1,h2⟩:=h;exact ⟨r,c,b,ok,e2,e3,e4,e9,h1,fun ho i' j' hj hl=>h2 ho i' j' hj (by omega)⟩
def Zre (n:Nat) (rp cp:List Int) (M:Nat→Nat→RF) (w:World) (o:Ending) (w':World):Prop:=
 ∃(r c:Int) (ok:Bool),o= .returned (.tuple #[.int .i64 r,.int .i64 c,.bool ok])∧(ok=true→∃r' c':Nat,r=r'∧c=c'∧r' < n∧c' < n∧Zrd rp cp M r' c'=true)∧
  (ok=false→∀i' j',i' < n→j' < n→Zrd rp cp M i' j'=false)∧Below w.heap.size w w'
theorem Zrf (base ge n:Nat) (va vr vc:Value) (M:Nat→Nat→RF) (G D:Nat→Nat) (rp cp:List Int) (w:World) (h:ElM base w ge n va vr vc M G D rp cp) (hn:n≤7):
 Calls Tryz.prog 155 #[.pointer (some ⟨ge,0,none⟩)] w (Zre n rp cp M w):=by
 have HE:=JZ h;have HB:=JZ h.1;have ai:=Zkl n (by omega);obtain ⟨b0,b1,b2,b3⟩:=h.1.four;clear h b1 b2 b3;go_enter Tryz.func155,Tryz.ntmps155
 go_upto_region 1 with (fail)
 go_cut [5,6] (fun s5 s6 wx=>Ygk w n s5 s6 wx)
 case first=>
  have C0:=Zp b0;have C:=Zj w;clear b0;refine XF 12 (.go 0 (.go 1 (.go 2 (.go 3 (.go 5 (.go 6 (.go 7 (.go 8 (.fork 4 (.go 10 (.go 9 (.go 11 .done))) 9 (.go 4 (.go 10 (.go 11 .done)))))))))))) (by kernel_rfl) (by kernel_rfl) ?_;repeat ((first | (refine Z6 (v:=?_) rfl rfl rfl ?_ ?_;rotate_left;(· (intro _ u;go_simp;(try go_bits);(try with_reducible rfl)))) | (refine Yr (v:=?_) rfl rfl rfl ?_ ?_;rotate_left;(· (intro _ u;go_simp;(try go_bits);(try with_reducible rfl)))) | refine Yt rfl rfl rfl ?_ | refine Z8 rfl rfl rfl (by assumption) ?_);(try simp only [Act.put,pu1,pu2,pu3,pu4,pu5,pu6]))
  refine WT rfl rfl (fun KR hKR=>?_) (fun KR hKR=>?_)
  ·have a:=ZN.zeros w.drew n (by unfold maxLen;omega);have s:=Zb w.drew (.cells (zic n) 3);obtain ⟨W5,H⟩:∃W5,w.drew.alloc (.cells (zic n) 3)=W5:=⟨_,rfl⟩;have V:W5.heap.size=w.drew.heap.size+1:=(by rw [← H];simp);rw [H] at a s;have E:=Za C s C.size;have L:=C.size;go_simp;refine hKR.out _ _ (Or.inr E) ?_;clear hKR KR H;(try simp only [Act.put,pu1,pu2,pu3,pu4,pu5,pu6]);replace a:=a.monoB L;repeat ((first | (refine Z6 (v:=?_) rfl rfl rfl ?_ ?_;rotate_left;(· (intro _ u;go_simp;(try go_bits);(try with_reducible rfl)))) | (refine Yr (v:=?_) rfl rfl rfl ?_ ?_;rotate_left;(· (intro _ u;go_simp;(try go_bits);(try with_reducible rfl)))) | refine Yt rfl rfl rfl ?_ | refine Z8 rfl rfl rfl (by assumption) ?_);(try simp only [Act.put,pu1,pu2,pu3,pu4,pu5,pu6]))
   have d:=ZN.zeros W5 n (by unfold maxLen;omega);have t:=Zb W5 (.cells (zic n) 3);obtain ⟨W6,I⟩:∃W6,W5.alloc (.cells (zic n) 3)=W6:=⟨_,rfl⟩;have X:W6.heap.size=W5.heap.size+1:=(by rw [← I];simp);rw [I] at d t;have F:=Za E t E.size;have N:=E.size;refine ZA rfl rfl (fun KR hKR=>?_);go_simp;refine hKR.out _ _ (Or.inr F) ?_;clear hKR KR I;(try simp only [Act.put,pu1,pu2,pu3,pu4,pu5,pu6]);replace a:=a.below t;replace d:=d.monoB N;rw [V] at d;repeat ((first | (refine Z6 (v:=?_) rfl rfl rfl ?_ ?_;rotate_left;(· (intro _ u;go_simp;(try go_bits);(try with_reducible rfl)))) | (refine Yr (v:=?_) rfl rfl rfl ?_ ?_;rotate_left;(· (intro _ u;go_simp;(try go_bits);(try with_reducible rfl)))) | refine Yt rfl rfl rfl ?_ | refine Z8 rfl rfl rfl (by assumption) ?_);(try simp only [Act.put,pu1,pu2,pu3,pu4,pu5,pu6]))
   refine YM ?_;go_wp2_with fail
   go_meet
   exact ⟨_,_,rfl,rfl,by first | omega | (simp at *;omega),a,d,F⟩
  ·have d:=ZN.zeros w.drew n (by unfold maxLen;omega);have t:=Zb w.drew (.cells (zic n) 3);obtain ⟨W6,I⟩:∃W6,w.drew.alloc (.cells (zic n) 3)=W6:=⟨_,rfl⟩;have X:W6.heap.size=w.drew.heap.size+1:=(by rw [← I];simp);rw [I] at d t;have F:=Za C t C.size;have N:=C.size;go_simp;refine hKR.out _ _ (Or.inr F) ?_;clear hKR KR I;(try simp only [Act.put,pu1,pu2,pu3,pu4,pu5,pu6]);replace d:=d.monoB N;have a:=ZN.zeros W6 n (by unfold maxLen;omega);have s:=Zb W6 (.cells (zic n) 3);obtain ⟨W5,H⟩:∃W5,W6.alloc (.cells (zic n) 3)=W5:=⟨_,rfl⟩;have V:W5.heap.size=W6.heap.size+1:=(by rw [← H];simp);rw [H] at a s;have E:=Za F s F.size;have L:=F.size;refine ZA rfl rfl (fun KR hKR=>?_);go_simp;refine hKR.out _ _ (Or.inr E) ?_;clear hKR KR H;(try simp only [Act.put,pu1,pu2,pu3,pu4,pu5,pu6]);replace d:=d.below s;replace a:=a.monoB L;rw [X] at a;repeat ((first | (refine Z6 (v:=?_) rfl rfl rfl ?_ ?_;rotate_left;(· (intro _ u;go_simp;(try go_bits);(try with_reducible rfl)))) | (refine Yr (v:=?_) rfl rfl rfl ?_ ?_;rotate_left;(· (intro _ u;go_simp;(try go_bits);(try with_reducible rfl)))) | refine Yt rfl rfl rfl ?_ | refine Z8 rfl rfl rfl (by assumption) ?_);(try simp only [Act.put,pu1,pu2,pu3,pu4,pu5,pu6]))
   refine YM ?_;go_wp2_with fail
   go_meet
   exact ⟨_,_,rfl,rfl,by first | omega | (simp at *;omega),a,d,E⟩
 case rest=>
  clear ai b0;obtain ⟨g5,g6,rfl,rfl,aq,a,d,hb⟩:=hcut;have a5:Zbj w n g5 g6 0 wc:=⟨_,_,by simp,by simp,fun z hz=>by have:=List.eq_of_mem_replicate hz;omega,fun z hz=>by have:=List.eq_of_mem_replicate hz;omega,a,d,hb⟩;obtain ⟨b0,_,_,_⟩:=(HB.out.later hb).four;clear a d hb;go_wp2;clear b0
  go_loopw [27] (fun x wr=>∃i:Nat,i≤n∧x= .int .i64 i∧Zbj w n g5 g6 (8 * i) wr) (fun x _=>n - (intOf x).toNat)
  case atStart=>exact ⟨0,by omega,rfl,a5⟩
  case round=>
   clear a5;obtain ⟨i,hi,rfl,hc⟩:=hrel;rcases JX i n with hil | hil
   ·have aj:(i:Int) < n:=(by omega);have f:Below w.heap.size w wr:=(by obtain ⟨_,_,_,_,_,_,_,_,h⟩:=hc;exact h);obtain ⟨b0,_,_,_⟩:=(HB.out.later f).four;clear f;go_wp2;clear b0
    go_loopw [34] (fun x wr=>∃j:Nat,j≤n∧x= .int .i64 j∧Zbj w n g5 g6 (8 * i+j) wr) (fun x _=>n - (intOf x).toNat)
    case atStart=>exact ⟨0,by omega,rfl,by simpa using hc⟩
    case round=>
     clear hc;obtain ⟨j,hj,rfl,hc⟩:=hrel;rcases JX j n with hjl | hjl
     ·have ak:(j:Int) < n:=(by omega);have f:Below w.heap.size w wr:=(by obtain ⟨_,_,_,_,_,_,_,_,h⟩:=hc;exact h);have O:=HE.out.below f;clear f;go_wp2_with fail;refine (Zgd base ge n va vr vc M G D rp cp i j _ O hil hjl).mono ?_;rintro _ w1 ⟨rfl,T⟩;have o:=hc.below T;clear hc T O
      cases hact:Zrd rp cp M i j
      ·clear hact;go_wp2;go_roundw
       case rel=>exact ⟨j+1,by omega,by go_num,o.mono (by omega)⟩
       case measure=>simp [intOf];omega
      ·clear hact;obtain ⟨zs,ys,ag,ah,J,K,a,d,f⟩:=o;obtain ⟨z,hz⟩:=Xx (l:=zs) (i:=i) (by omega);obtain ⟨y,hy⟩:=Xx (l:=ys) (i:=j) (by omega);obtain ⟨x0,f0,_,_⟩:=a.at_ hz;have P:=J z (List.mem_of_getElem? hz);have R:=K y (List.mem_of_getElem? hy);obtain ⟨Z,_⟩:=a.set_ (k:=i) (z:=z+1) (by omega) (by omega) (by omega);have S:=d.others (ZW.of_set (g:=g5) (i:=i) (v:= .int .i64 (z+1)) (w:=w1)) (fun b hb e=>by simp [Value.ownBlock] at hb;injection e with e;omega);have al:=a.base;have am:=d.base;have Y:=f.setCell (p:=⟨g5,i,none⟩) al (.int .i64 (z+1));clear a d f;have a6:=P.1;have a7:=P.2;have a8:=R.1;have a9:=R.2;have aa:∀x∈zs.set i (z+1),0≤x∧x≤8 * (i:Int)+((j+1:Nat):Int):=fun x hx=>by
        rcases List.mem_or_eq_of_mem_set hx with hx | rfl
        ·have:=J x hx;omega
        ·omega
       have ab:∀x∈ys.set j (y+1),0≤x∧x≤8 * (i:Int)+((j+1:Nat):Int):=fun x hx=>by
        rcases List.mem_or_eq_of_mem_set hx with hx | rfl
        ·have:=K x hx;omega
        ·omega
       have an:=JZ aa;have ao:=JZ ab;clear J K aa ab P R
       go_upto_region 10 with (fail)
       clear x0 f0;generalize w1.setCell ⟨g5,i,none⟩ (.int .i64 (z+1))=W9 at *;obtain ⟨x0,f0,_,_⟩:=S.at_ hy;obtain ⟨a4,_⟩:=S.set_ (k:=j) (z:=y+1) (by omega) (by omega) (by omega);have a0:=Z.others (ZW.of_set (g:=g6) (i:=j) (v:= .int .i64 (y+1)) (w:=W9)) (fun b hb e=>by simp [Value.ownBlock] at hb;injection e with e;omega);have a1:=Y.setCell (p:=⟨g6,j,none⟩) am (.int .i64 (y+1));clear Z S Y;go_wp2;go_roundw
       case rel=>exact ⟨j+1,by omega,by go_num,_,_,by rw [List.length_set];exact ag,by rw [List.length_set];exact ah,an.out,ao.out,a0,a4,a1⟩
       case measure=>simp [intOf];omega
     ·obtain rfl:n=j:=by omega
      have o:Zbj w n g5 g6 (8 * ((i+1:Nat):Int)) wr:=hc.mono (by omega);clear hc;go_wp2;go_roundw
      case rel=>exact ⟨i+1,by omega,by go_num,o⟩
      case measure=>simp [intOf];omega
   ·obtain rfl:n=i:=by omega
    have o:Zbj w n g5 g6 100 wr:=hc.mono (by omega);have f:Below w.heap.size w wr:=(by obtain ⟨_,_,_,_,_,_,_,_,h⟩:=hc;exact h);obtain ⟨b0,_,_,_⟩:=(HB.out.later f).four;clear f hc;have q:Y8 n rp cp M 0 0 (.int .i64 0) (.int .i64 0) (.bool false) (.int .i64 0):=⟨0,0,0,false,rfl,rfl,rfl,rfl,(fun h=>by cases h),fun _ i' j' _ h=>by omega⟩;go_wp2;clear b0
    go_loopw [2,3,4,9,59] (fun s2 s3 s4 s9 x wr=>∃i:Nat,i≤n∧x= .int .i64 i∧Y8 n rp cp M i 0 s2 s3 s4 s9∧Zbj w n g5 g6 100 wr) (fun _ _ _ _ x _=>n - (intOf x).toNat)
    case atStart=>exact ⟨0,by omega,rfl,q,o⟩
    case round=>
     clear o q;obtain ⟨i,hi,rfl,q,hc⟩:=hrel;rcases JX i n with hil | hil
     ·have aj:(i:Int) < n:=(by omega);have f:Below w.heap.size w wr:=(by obtain ⟨_,_,_,_,_,_,_,_,h⟩:=hc;exact h);obtain ⟨b0,_,_,_⟩:=(HB.out.later f).four;clear f;go_wp2;clear b0
      go_loopw [2,3,4,9,66] (fun s2 s3 s4 s9 x wr=>∃j:Nat,j≤n∧x= .int .i64 j∧Y8 n rp cp M i j s2 s3 s4 s9∧Zbj w n g5 g6 100 wr) (fun _ _ _ _ x _=>n - (intOf x).toNat)
      case atStart=>exact ⟨0,by omega,rfl,q,hc⟩
      case round=>
       clear hc q;obtain ⟨j,hj,rfl,q,hc⟩:=hrel;rcases JX j n with hjl | hjl
       ·have ak:(j:Int) < n:=(by omega);have f:Below w.heap.size w wr:=(by obtain ⟨_,_,_,_,_,_,_,_,h⟩:=hc;exact h);have O:=HE.out.below f;have ac:=JZ q;obtain ⟨r,c,b,ok,rfl,rfl,rfl,rfl,A,B⟩:=q;have ad:=JZ A;have ae:=JZ B;clear f A B;go_wp2_with fail;refine (Zgd base ge n va vr vc M G D rp cp i j _ O hil hjl).mono ?_;rintro _ w1 ⟨rfl,T⟩;have o:=hc.below T;clear hc T O
        cases hact:Zrd rp cp M i j
        ·have U:Y8 n rp cp M i (j+1) (.int .i64 r) (.int .i64 c) (.bool ok) (.int .i64 b):=Y8.skip ac.out hact;have a2:=JZ U;clear hact U;go_wp2;go_roundw
         case rel=>exact ⟨j+1,by omega,by go_num,a2.out,o⟩
         case measure=>simp [intOf];omega
        ·have ap:=JZ (Y8.skipT ac.out);have af:Hid (∀m,Y8 n rp cp M i (j+1) (.int .i64 i) (.int .i64 j) (.bool true) (.int .i64 m)):=JZ fun m=>Y8.take hil hjl hact
         clear hact;have a3:=JZ o;obtain ⟨zs,ys,ag,ah,J,K,a,d,f⟩:=o;obtain ⟨z,hz⟩:=Xx (l:=zs) (i:=i) (by omega);obtain ⟨y,hy⟩:=Xx (l:=ys) (i:=j) (by omega);obtain ⟨x0,_,_,_⟩:=a.at_ hz;obtain ⟨y0,_,_,_⟩:=d.at_ hy;have P:=J z (List.mem_of_getElem? hz);have R:=K y (List.mem_of_getElem? hy);obtain ⟨a6,a7⟩:=P;obtain ⟨a8,a9⟩:=R;obtain ⟨ar,au⟩:=Yey (x:=z - 1) (y:=y - 1) (by omega) (by omega) (by omega) (by omega);clear a d f J K hz hy
         go_upto_region 21 with (fail)
         have C0:=Zp x0;have C1:=Zp y0;have C:=Zj w1;clear x0 y0;refine Zq 12 [0,1,2,3,4,5,6,7,8,9,10,11] (by kernel_rfl) (by kernel_rfl) ?_;repeat ((first | (refine Zc (v:=?_) rfl rfl rfl ?_ ?_;rotate_left;(· (intro _ u;go_simp;(try go_bits);(try with_reducible rfl)))) | (refine Zg (v:=?_) rfl rfl rfl ?_ ?_;rotate_left;(· (intro _ u;go_simp;(try go_bits);(try with_reducible rfl)))) | refine Zh rfl rfl rfl ?_);(try simp only [Act.put,pu1,pu2,pu3,pu4,pu5,pu6]))
         refine Zz ?_;clear C0 C1;generalize (z - 1) * (y - 1)=mm at *
         cases ok
         ·go_wp2;go_roundw
          case rel=>exact ⟨j+1,by omega,by go_num,af.out _,a3.out.below (Zj _)⟩
          case measure=>simp [intOf];omega
         ·by_cases av:mm < b
          ·go_wp2;go_roundw
           case rel=>exact ⟨j+1,by omega,by go_num,af.out _,a3.out.below (Zj _)⟩
           case measure=>simp [intOf];omega
          ·go_wp2;go_roundw
           case rel=>exact ⟨j+1,by omega,by go_num,ap.out rfl,a3.out.below (Zj _)⟩
           case measure=>simp [intOf];omega
       ·obtain rfl:n=j:=by omega
        have U:=Y8.row q;clear q;obtain ⟨r,c,b,ok,rfl,rfl,rfl,rfl,A,B⟩:=U;have a2:Hid (Y8 n rp cp M (i+1) 0 (.int .i64 r) (.int .i64 c) (.bool ok) (.int .i64 b)):=JZ ⟨r,c,b,ok,rfl,rfl,rfl,rfl,A,B⟩;clear A B;go_wp2;go_roundw
        case rel=>exact ⟨i+1,by omega,by go_num,a2.out,hc⟩
        case measure=>simp [intOf];omega
     ·obtain rfl:n=i:=by omega
      obtain ⟨r,c,b,ok,rfl,rfl,rfl,rfl,A,B⟩:=q;have ad:=JZ A;have ae:=JZ B;have f:Below w.heap.size w wr:=(by obtain ⟨_,_,_,_,_,_,_,_,h⟩:=hc;exact h);clear A B hc;go_wp2;(try simp only [Exit.inBlock,Exit.then]);refine bodyPost_ret (results_tmp3 rfl _ _ _) rfl ?_;exact ⟨r,c,ok,rfl,ad.out,fun h i' j' h1 h2=>ae.out h i' j' h2 (.inl h1),f⟩
theorem Zoq (T:TypeId) (w:World) (n:Nat) (hn:n≤maxLen):(w.alloc (.cells (zvc n) T)).ownsRow w.heap.size T 1 (.slice (some ⟨w.heap.size,0,none⟩) n n) n (List.replicate n (.slice none 0 0)):=by
 have a:(zvc n).size=n * 1:=size_madeCells _ _;refine ⟨by simp,.inr ⟨w.heap.size,n,zvc n,by simp,JY _,heap_alloc_new w _,by simp,hn,by simpa using a,?_⟩⟩;refine List.ext_getElem? fun i=>?_
 rcases JX i n with e | e
 ·have:=Yab e;simp [List.getElem?_take,e,this]
 ·rw [JU (by simp [a];omega),JU (by simp;omega)]
theorem Zux (n:Nat) (hn:n≤1099511627776) (w:World):
 (Instr.makeSlice 113 (.int .i64 (n:Int)) (.int .i64 (n:Int))).run Tryz.prog w= .ok (.slice (some ⟨w.heap.size,0,none⟩) n n) (w.alloc (.cells (zvc n) 23)):=by
 obtain ⟨i0,hi,a,b,c⟩:=info_parts info_rowT;have hb:(i0.bytes:Int) * (n:Int)≤281474976710656:=by rw [c];omega
 have hr:=run_make (P:=Tryz.prog) w 113 23 i0 _ Tryz.underlying113 hi a .i64 .i64 n n (by omega) (by omega) hb (by omega);simp only [JP,b] at hr;exact hr
def MkR (U:World) (n:Nat) (D:Nat→Prop) (s29 s31 s33 s34 s5:Value) (w:World):Prop:=
 Below U.heap.size U w∧(D 2→∃g,s29= .slice (some ⟨g,0,none⟩) n n∧w.ownsRow U.heap.size 23 1 (.slice (some ⟨g,0,none⟩) n n) n (List.replicate n (.slice none 0 0)))∧
  (D 4→∃g,s31= .slice (some ⟨g,0,none⟩) n n∧g < w.heap.size∧ZN U.heap.size w (.slice (some ⟨g,0,none⟩) n n) (List.replicate n 0))∧
  (D 6→∃g,s33= .slice (some ⟨g,0,none⟩) n n∧g < w.heap.size∧ZN U.heap.size w (.slice (some ⟨g,0,none⟩) n n) (List.replicate n 0))∧
  (D 7→(D 2∧D 4∧D 6)∧s34= .agg #[.int .i64 (n:Int),s29,s31,s33])∧(D 8→∃g,s5= .pointer (some ⟨g,0,none⟩)∧U.heap.size≤g∧Bk w g 174 [.int .i64 0,.slice none 0 0,.slice none 0 0,.slice none 0 0])∧(D 4→D 6→s31≠s33)
theorem MkR.later {U w w':World} {n:Nat} {D:Nat→Prop} {s1 s2 s3 s4 s5:Value} (h:MkR U n D s1 s2 s3 s4 s5 w) (hb:Below w.heap.size w w'):MkR U n D s1 s2 s3 s4 s5 w':=by
 obtain ⟨h0,h1,h2,h3,h4,h5,h6⟩:=h;have hs:=hb.size;refine ⟨Za h0 hb h0.size,fun d=>?_,fun d=>?_,fun d=>?_,h4,fun d=>?_,h6⟩
 ·obtain ⟨g,e,k⟩:=h1 d;exact ⟨g,e,own_below k hb⟩
 ·obtain ⟨g,e,k,l⟩:=h2 d;exact ⟨g,e,by omega,l.below hb⟩
 ·obtain ⟨g,e,k,l⟩:=h3 d;exact ⟨g,e,by omega,l.below hb⟩
 ·obtain ⟨g,e,k,l⟩:=h5 d;exact ⟨g,e,k,l.later hb⟩
theorem MkR.set2 {U w:World} {n:Nat} {D:Nat→Prop} {s1 s2 s3 s4 s5:Value} (h:MkR U n D s1 s2 s3 s4 s5 w) (hn:n≤maxLen) (hd:¬D 2):MkR U n (fun k=>D k∨k=2) (.slice (some ⟨w.heap.size,0,none⟩) n n) s2 s3 s4 s5 (w.alloc (.cells (zvc n) 23)):=by
 have hz:=Zoq 23 w n hn;obtain ⟨h0,h1,h2,h3,h4,h5,h6⟩:=h.later (Zb w (.cells (zvc n) 23));exact ⟨h0,fun _=>⟨_,rfl,Wy hz h.1.size⟩,fun d=>h2 (d.resolve_right (by decide)),fun d=>h3 (d.resolve_right (by decide)),fun d=>absurd (d.resolve_right (by decide)) (fun h7=>hd (h4 h7).1.1),fun d=>h5 (d.resolve_right (by decide)),fun d e=>h6 (d.resolve_right (by decide)) (e.resolve_right (by decide))⟩
theorem MkR.set4 {U w:World} {n:Nat} {D:Nat→Prop} {s1 s2 s3 s4 s5:Value} (h:MkR U n D s1 s2 s3 s4 s5 w) (hn:n≤maxLen) (hd:¬D 4):MkR U n (fun k=>D k∨k=4) s1 (.slice (some ⟨w.heap.size,0,none⟩) n n) s3 s4 s5 (w.alloc (.cells (zic n) 3)):=by
 have hz:=ZN.zeros w n hn;obtain ⟨h0,h1,h2,h3,h4,h5,h6⟩:=h.later (Zb w (.cells (zic n) 3));exact ⟨h0,fun d=>h1 (d.resolve_right (by decide)),fun _=>⟨_,rfl,by simp,hz.monoB h.1.size⟩,fun d=>h3 (d.resolve_right (by decide)),fun d=>absurd (d.resolve_right (by decide)) fun h7=>hd (h4 h7).1.2.1,fun d=>h5 (d.resolve_right (by decide)),fun _ e he=>by
  obtain ⟨g,e1,e2,_⟩:=h.2.2.2.1 (e.resolve_right (by decide));rw [e1] at he;injection he with he;injection he with he;injection he with he;omega⟩
theorem MkR.set6 {U w:World} {n:Nat} {D:Nat→Prop} {s1 s2 s3 s4 s5:Value} (h:MkR U n D s1 s2 s3 s4 s5 w) (hn:n≤maxLen) (hd:¬D 6):MkR U n (fun k=>D k∨k=6) s1 s2 (.slice (some ⟨w.heap.size,0,none⟩) n n) s4 s5 (w.alloc (.cells (zic n) 3)):=by
 have hz:=ZN.zeros w n hn;obtain ⟨h0,h1,h2,h3,h4,h5,h6⟩:=h.later (Zb w (.cells (zic n) 3));exact ⟨h0,fun d=>h1 (d.resolve_right (by decide)),fun d=>h2 (d.resolve_right (by decide)),fun _=>⟨_,rfl,by simp,hz.monoB h.1.size⟩,fun d=>absurd (d.resolve_right (by decide)) fun h7=>hd (h4 h7).1.2.2,fun d=>h5 (d.resolve_right (by decide)),fun e _ he=>by
  obtain ⟨g,e1,e2,_⟩:=h.2.2.1 (e.resolve_right (by decide));rw [e1] at he;injection he with he;injection he with he;injection he with he;omega⟩
theorem MkR.set8 {U w:World} {n:Nat} {D:Nat→Prop} {s1 s2 s3 s4 s5:Value} (h:MkR U n D s1 s2 s3 s4 s5 w):MkR U n (fun k=>D k∨k=8) s1 s2 s3 s4 (.pointer (some ⟨w.heap.size,0,none⟩)) (w.alloc (.cells #[.int .i64 0,.slice none 0 0,.slice none 0 0,.slice none 0 0] 174)):=by
 have hz:=Bk.new w 174 [.int .i64 0,.slice none 0 0,.slice none 0 0,.slice none 0 0];obtain ⟨h0,h1,h2,h3,h4,h5,h6⟩:=h.later (Zb w (.cells #[.int .i64 0,.slice none 0 0,.slice none 0 0,.slice none 0 0] 174));exact ⟨h0,fun d=>h1 (d.resolve_right (by decide)),fun d=>h2 (d.resolve_right (by decide)),fun d=>h3 (d.resolve_right (by decide)),fun d=>by
  obtain ⟨⟨a,b,c⟩,e⟩:=h4 (d.resolve_right (by decide));exact ⟨⟨.inl a,.inl b,.inl c⟩,e⟩,fun _=>⟨_,rfl,h.1.size,hz⟩,fun d e=>h6 (d.resolve_right (by decide)) (e.resolve_right (by decide))⟩
theorem MkR.set7 {U w:World} {n:Nat} {D:Nat→Prop} {s1 s2 s3 s4 s5:Value} (h:MkR U n D s1 s2 s3 s4 s5 w) (d2:D 2) (d4:D 4) (d6:D 6):MkR U n (fun k=>D k∨k=7) s1 s2 s3 (.agg #[.int .i64 (n:Int),s1,s2,s3]) s5 w:=by
 obtain ⟨h0,h1,h2,h3,h4,h5,h6⟩:=h;exact ⟨h0,fun d=>h1 (d.resolve_right (by decide)),fun d=>h2 (d.resolve_right (by decide)),fun d=>h3 (d.resolve_right (by decide)),fun _=>⟨⟨.inl d2,.inl d4,.inl d6⟩,rfl⟩,fun d=>h5 (d.resolve_right (by decide)),fun d e=>h6 (d.resolve_right (by decide)) (e.resolve_right (by decide))⟩
theorem Bk.but4 {w:World} {g:Nat} {t:TypeId} {a b c d:Value} (h:Bk w g t [a,b,c,d]) (x y z u:Value):Ze t w ((((w.setCell ⟨g,0,none⟩ x).setCell ⟨g,1,none⟩ y).setCell ⟨g,2,none⟩ z).setCell ⟨g,3,none⟩ u):=
 (((Ze.setCell h 0 x).trans (Ze.setCell (h.set_ 0 x) 1 y)).trans (Ze.setCell ((h.set_ 0 x).set_ 1 y) 2 z)).trans (Ze.setCell (((h.set_ 0 x).set_ 1 y).set_ 2 z) 3 u)
def Yez (U:World) (n:Nat) (s5:Value) (wx:World):Prop:=
 ∃ge ga gr gc,s5= .pointer (some ⟨ge,0,none⟩)∧gr≠gc∧Bk wx ge 174 [.int .i64 (n:Int),.slice (some ⟨ga,0,none⟩) n n,.slice (some ⟨gr,0,none⟩) n n,.slice (some ⟨gc,0,none⟩) n n]∧
  wx.ownsRow U.heap.size 23 1 (.slice (some ⟨ga,0,none⟩) n n) n (List.replicate n (.slice none 0 0))∧ZN U.heap.size wx (.slice (some ⟨gr,0,none⟩) n n) (List.replicate n 0)∧ZN U.heap.size wx (.slice (some ⟨gc,0,none⟩) n n) (List.replicate n 0)∧Below U.heap.size U wx∧U.heap.size≤ge
namespace Pl
def Zlf (n i:Nat) (G D:Nat→Nat):List Value:=(List.range n).map fun r=>if r < i then Zai n G D r else .slice none 0 0
theorem Zkn {n:Nat} {G D:Nat→Nat}:Zlf n 0 G D=List.replicate n (.slice none 0 0):=by
 refine List.ext_getElem? fun r=>?_
 rcases JX r n with e | e
 ·simp [Zlf,e]
 ·rw [JU (by simp [Zlf];exact e),JU (by simp;exact e)]
theorem XG {n i:Nat} {G D:Nat→Nat}:(Zlf n i G D).length=n:=by simp [Zlf]
theorem Zor {n:Nat} {G D:Nat→Nat}:Zlf n n G D=Zqs n n G D:=by
 refine List.ext_getElem? fun r=>?_
 rcases JX r n with e | e
 ·rw [Zaj e];simp [Zlf,e]
 ·rw [JU (by rw [XG];exact e),JU (by rw [Zjy];exact e)]
theorem Zos {n i:Nat} {G D:Nat→Nat} (h:i < n):(Zlf n i G D)[i]? =some (.slice none 0 0):=by simp [Zlf,h]
theorem Zot {n i g d:Nat} {G D:Nat→Nat} (h:i < n):(Zlf n i G D).set i (.slice (some ⟨g,0,none⟩) n d)=Zlf n (i+1) (WY G i g) (WY D i d):=by
 refine List.ext_getElem? fun r=>?_
 rcases JX r n with e | e
 ·rw [List.getElem?_set];by_cases g:i=r
  ·subst g;rw [if_pos rfl,if_pos (by rw [XG];exact e)];simp [Zlf,e,Zai,WY]
  ·rw [if_neg g];by_cases e2:r < i
   ·simp [Zlf,e,e2,show r < i+1 by omega,Zai,WY,show r≠i by omega]
   ·simp [Zlf,e,e2,show ¬r < i+1 by omega]
 ·rw [JU (by rw [List.length_set,XG];exact e),JU (by rw [XG];exact e)]
def Zmv (n i:Nat):List Int:=(List.range n).map fun s=>if s < i then -1 else 0
theorem Xj {n i:Nat}:(Zmv n i).length=n:=by simp [Zmv]
theorem Zhs {n i:Nat} (h:i < n):(Zmv n i)[i]? =some 0:=by simp [Zmv,h]
theorem Zko {n:Nat}:Zmv n 0=List.replicate n 0:=by
 refine List.ext_getElem? fun r=>?_
 rcases JX r n with e | e
 ·simp [Zmv,e]
 ·rw [JU (by rw [Xj];exact e),JU (by simp;exact e)]
theorem Zyu {n i:Nat} (h:i < n):(Zmv n i).set i (-1)=Zmv n (i+1):=by
 refine List.ext_getElem? fun r=>?_
 rcases JX r n with e | e
 ·rw [List.getElem?_set];by_cases g:i=r
  ·subst g;rw [if_pos rfl,if_pos (by rw [Xj];exact e)];simp [Zmv,e]
  ·rw [if_neg g];by_cases e2:r < i
   ·simp [Zmv,e,e2,show r < i+1 by omega]
   ·simp [Zmv,e,e2,show ¬r < i+1 by omega]
 ·rw [JU (by rw [List.length_set,Xj];exact e),JU (by rw [Xj];exact e)]
theorem Zyv {n:Nat}:Zmv n n=List.replicate n (-1):=by
 refine List.ext_getElem? fun r=>?_
 rcases JX r n with e | e
 ·simp [Zmv,e]
 ·rw [JU (by rw [Xj];exact e),JU (by simp;exact e)]
theorem Zam {n:Nat}:List.replicate n zeroF=rfL n fun _=>zeroF:=by
 refine List.ext_getElem? fun i=>?_
 rcases JX i n with e | e
 ·rw [Yi e];simp [e]
 ·rw [JU (by simp;exact e),JU (by rw [Zr];exact e)]
end Pl
def Ycx (U:World) (ge ga gr gc n i:Nat) (wr:World):Prop:=
 ∃G D:Nat→Nat,Bk wr ge 174 [.int .i64 (n:Int),.slice (some ⟨ga,0,none⟩) n n,.slice (some ⟨gr,0,none⟩) n n,.slice (some ⟨gc,0,none⟩) n n]∧wr.ownsRow U.heap.size 23 1 (.slice (some ⟨ga,0,none⟩) n n) n (Zlf n i G D)∧
  (∀r,r < i→Z4 U.heap.size wr (Zai n G D r) (rfL n fun _=>zeroF))∧(∀r s,r < i→s < i→G r=G s→r=s)∧ZN U.heap.size wr (.slice (some ⟨gr,0,none⟩) n n) (Zmv n i)∧ZN U.heap.size wr (.slice (some ⟨gc,0,none⟩) n n) (Zmv n i)∧Below U.heap.size U wr
end Go.Proofs.YtgbhebappffbdaaGreat
