/- Contracts that the claim is built on; no condition. -/
import Derived.Test.YtncmobkhenfhpaaGreatFt2
set_option linter.unusedVariables false
set_option linter.unusedSimpArgs false
set_option maxRecDepth 100000
set_option maxHeartbeats 40000000
namespace Go.Proofs.YtncmobkhenfhpaaGreat
open Go.RowKit
open Pl
attribute [local go_sem ↓] Go.wp_at_zero Go.wp_at_succ
theorem wpList_append_int {ops:Array Oper} {rest:List Oper} {o:Oper} {a:Act} {Q:Exit→Act→World→Prop} (hgd:o.guard=none) (s x:Operand)
 (ho:o.op= .call { callee:= .builtin .append,args:=#[s,x],argTypes:=#[22,22] })
 (W:World) (base:Nat) (v:Value) (zs:List Int) (hs:a.eval s=v) (hown:ZI base W v zs) (z:Int) (hz: -9223372036854775808≤z∧z≤9223372036854775807)
 (hx:a.eval x= .slice (some ⟨W.heap.size,0,none⟩) 1 1) (hn:zs.length+1≤1099511627776) (hbase:base≤W.heap.size)
 (h:∀v' w',ZI base w' v' (zs++[z])→Zd 3 W w'→Below base W w'→wpList Tryz.prog ops Q rest (a.put o.dst v') w'):
 wpList Tryz.prog ops Q (o::rest) a (W.alloc (.cells #[.int .i64 z] 3)):=by
 obtain ⟨i0,hi,b,c,d⟩:=info_parts info_intT;refine WM hgd s x 22 ho 3 i0 _ 1 8 Tryz.underlying22 hi b c d rfl (by decide) W base v zs.length _ [.int .i64 z] hs hown.1 hx rfl (by intro u hu;simp at hu;subst hu;rfl) (by unfold maxLen;omega) (by omega) hbase fun v' w' g1 g2 g3=>h v' w' ⟨by simpa using g1,fun y hy=>?_⟩ g2 g3
 rcases List.mem_append.1 hy with e | e
 ·exact hown.2 y e
 ·simp at e;subst e;exact hz
theorem ZI.shapeG {base:Nat} {w:World} {v:Value} {zs:List Int} (h:ZI base w v zs) (hp:0 < zs.length):∃g c,v= .slice (some ⟨g,0,none⟩) zs.length c∧base≤g∧g < w.heap.size∧zs.length≤c∧c≤9223372036854775807:=by
 rcases h.1.2 with ⟨rfl,h0⟩ | ⟨g,cap,cur,rfl,hb,hg,hnc,hcm,hcs,htake⟩
 ·omega
 ·unfold maxLen at hcm;exact ⟨g,cap,rfl,hb,Yo hg,hnc,by omega⟩
theorem ZI.cell_ {base:Nat} {w:World} {g n c:Nat} {zs:List Int} (h:ZI base w (.slice (some ⟨g,0,none⟩) n c) zs) {k:Nat} {z:Int} (hz:zs[k]? =some z):w.cell? ⟨g,k,none⟩=some (.int .i64 z)∧w.frozen? ⟨g,k,none⟩=false:=by
 have hn:n=zs.length:=(Uq.of_own h.1).len;subst hn;exact ZP h.1 (by simp [hz])
theorem ZI.setG {base:Nat} {w:World} {g n c:Nat} {zs:List Int} (h:ZI base w (.slice (some ⟨g,0,none⟩) n c) zs) {k:Nat} (hk:k < zs.length) {z:Int} (h0: -9223372036854775808≤z) (h1:z≤9223372036854775807):
 ZI base (w.setCell ⟨g,k,none⟩ (.int .i64 z)) (.slice (some ⟨g,0,none⟩) n c) (zs.set k z)∧Zd 3 w (w.setCell ⟨g,k,none⟩ (.int .i64 z))∧base≤g:=by
 have hn:n=zs.length:=(Uq.of_own h.1).len;subst hn;obtain ⟨_,b0,hb⟩:=Yb h.1;refine ⟨⟨by rw [List.length_set,List.map_set];exact Xy h.1 k _ (by simpa using hk),fun y hy=>?_⟩,Zd.setCell b0 k _,hb⟩;rcases List.mem_or_eq_of_mem_set hy with e | e
 ·exact h.2 y e
 ·subst e;exact ⟨h0,h1⟩
theorem st_store {w w0:World} {B g:Nat} {x y z:Value} (hB:Bk w g 29 [x,y,z]) (hb:Below B w0 w) (hg:B≤g) (x' y' z':Value):
 Bk (((w.setCell ⟨g,0,none⟩ x').setCell ⟨g,1,none⟩ y').setCell ⟨g,2,none⟩ z') g 29 [x',y',z']∧Zd 29 w (((w.setCell ⟨g,0,none⟩ x').setCell ⟨g,1,none⟩ y').setCell ⟨g,2,none⟩ z')∧Below B w0 (((w.setCell ⟨g,0,none⟩ x').setCell ⟨g,1,none⟩ y').setCell ⟨g,2,none⟩ z')∧
 ∀(g':Nat) (t:TypeId) (cs:List Value),g'≠g→Bk w g' t cs→Bk (((w.setCell ⟨g,0,none⟩ x').setCell ⟨g,1,none⟩ y').setCell ⟨g,2,none⟩ z') g' t cs:=by
 refine ⟨((hB.set_ 0 x').set_ 1 y').set_ 2 z',((Zd.setCell hB 0 x').trans (Zd.setCell (hB.set_ 0 x') 1 y')).trans (Zd.setCell ((hB.set_ 0 x').set_ 1 y') 2 z'),((hb.setCell (p:=⟨g,0,none⟩) hg _).setCell (p:=⟨g,1,none⟩) hg _).setCell (p:=⟨g,2,none⟩) hg _,fun g' t cs hne h=>?_⟩;unfold Bk at h ⊢;rw [heap_setCell_other _ _ _ _ hne,heap_setCell_other _ _ _ _ hne,heap_setCell_other _ _ _ _ hne];exact h
theorem seq_append_int {ops:Array Oper} {Q:Exit→Act→World→Prop} {S:World→Prop} {m:Nat} {i:Nat} {is:List Nat} {o:Oper} {a:Act} (hoi:ops[i]? =some o) (hfl:YH ops m i=false) (hgd:o.guard=none) (hl0:m≤i) (s x:Operand)
 (ho:o.op= .call { callee:= .builtin .append,args:=#[s,x],argTypes:=#[22,22] })
 (W:World) (base:Nat) (v:Value) (zs:List Int) (hs:a.eval s=v) (hown:ZI base W v zs) (z:Int) (hz: -9223372036854775808≤z∧z≤9223372036854775807)
 (hx:a.eval x= .slice (some ⟨W.heap.size,0,none⟩) 1 1) (hn:zs.length+1≤1099511627776) (hbase:base≤W.heap.size)
 (h:∀v' w',ZI base w' v' (zs++[z])→Zd 3 W w'→Below base W w'→Xe Tryz.prog ops Q S m is (a.put o.dst v') w'):
 Xe Tryz.prog ops Q S m (i::is) a (W.alloc (.cells #[.int .i64 z] 3)):=by
 obtain ⟨i0,hi,b,c,d⟩:=info_parts info_intT;refine Uf hoi hfl hgd hl0 s x 22 ho 3 i0 _ 1 8 Tryz.underlying22 hi b c d rfl (by decide) W base v zs.length _ [.int .i64 z] hs hown.1 hx rfl (by intro u hu;simp at hu;subst hu;rfl) (by unfold maxLen;omega) (by omega) hbase fun v' w' g1 g2 g3=>h v' w' ⟨by simpa using g1,fun y hy=>?_⟩ g2 g3
 rcases List.mem_append.1 hy with e | e
 ·exact hown.2 y e
 ·simp at e;subst e;exact hz
def StatePost (w:World) (e:Ending) (w':World):Prop:=
 ∃v' s,e= .returned v'∧StM w' v' s∧s.basis.length≤4∧(∀z∈s.basis,-9223372036854775808≤z∧z≤9223372036854775807)∧ -1≤s.pivots∧s.pivots≤4∧ -9≤s.phase∧s.phase≤9∧Below w.heap.size w w'
theorem pstate_own (v1 v2:Value) (p:LPd) (zs:List Int) (w:World) (h:LpM w v1 p) (h2:Xu w v2 zs) (hm1:1≤p.right.length) (hm:p.right.length≤3) (hn':p.cols.length≤5):
 Calls Tryz.prog 37 #[v1,v2] w (StatePost w):=by
 obtain ⟨A0,n0,c0,A1,n,c1,A2,m,c2,rfl,hc,hv,hr⟩:=id h;obtain ⟨a,cap,rfl,ap,aq⟩:=h2.shape;generalize hn:zs.length=nl at *;clear hn;obtain ⟨r1,r2,r3⟩:=hr.len;obtain ⟨q1,q2,q3⟩:=hv.len;have ax:1≤m:=by rw [r1];exact hm1
 have ay:m≤3:=by rw [r1];exact hm
 have az:n≤5:=by rw [q1];exact hn'
 obtain ⟨W,hW,ab,L⟩:=UV w (.slice A0 n0 c0) (.slice A1 n c1) (.slice A2 m c2);obtain ⟨W1,ar,hR,P⟩:=Vu W (.int .i64 0) (.slice none 0 0) (.int .i64 0);have hX:=ab.later P;have b:=Za L P L.size;have M:w.heap.size≤W.heap.size:=L.size;have a3:W.heap.size < W1.heap.size:=hR.lt;have HI:=Lib.hid h2;clear h h2 hc hv hr r1 r2 r3 q1 q2 q3 ab L P hm1 hm hn' ap aq;go_enter Tryz.func37,Tryz.ntmps37;go_wp2_with fail;clear hW ar;obtain ⟨x0,x1,x2⟩:=hX.three;have C0:=Zm x0;have C1:=Zm x1;have C2:=Zm x2;clear x0 x1 x2;refine Zo 8 [0,1,2,3,4,5,6,7] (by kernel_rfl) (by kernel_rfl) ?_;repeat ((first | (refine Zc (v:=?_) rfl rfl rfl ?_ ?_;rotate_left;(· (intro _ S;go_simp;(try go_bits);(try with_reducible rfl)))) | (refine Zg (v:=?_) rfl rfl rfl ?_ ?_;rotate_left;(· (intro _ S;go_simp;(try go_bits);(try with_reducible rfl)))) | refine Zh rfl rfl rfl ?_);(try simp only [Act.put,pu1,pu2,pu3,pu4,pu5,pu6]))
 refine Zy ?_;clear C0 C1 C2;replace hX:=hX.drew;replace hR:=hR.drew;replace b:=b.drew;replace a3:W.heap.size < W1.drew.heap.size:=hR.lt;generalize W1.drew=w1 at *;generalize W.heap.size=gr at *;go_wp2_with fail;refine (Zyb _ zs 0 _ (HI.out.below b) (by decide) (by decide)).mono ?_;rintro _ w2 ⟨z,rfl,z0,z1,Y⟩;go_wp2_with fail;refine (Zyb _ zs 1 _ ((HI.out.below b).below Y) (by decide) (by decide)).mono ?_;rintro _ w3 ⟨y,rfl,y0,y1,ae⟩;have I:=Za Y ae Y.size;have ag:0≤z % 2:=by omega
 have ah:z % 2 < 2:=by omega
 have ai:0≤y % 5:=by omega
 have aj:y % 5 < 5:=by omega
 obtain ⟨W4,au,hS,ac⟩:=Vu w3 (.int .i64 (1+z % 2)) (.slice none 0 0) (.int .i64 (y % 5));have J:=Za I ac I.size;have a4:=hX.later J;have a5:=hR.later J;have N:=Za b J b.size;have b0:gr < w3.heap.size:=by have:=I.size;omega
 obtain ⟨t0,t1,t2⟩:=hS.three;obtain ⟨f0,f1,f2⟩:=hS.threeF;clear hX hR b Y ae I ac J a3
 go_upto_region 3 with (fail)
 clear au t0 t1 t2 f0 f1 f2;obtain ⟨ph,R⟩:∃ph,ph=1+z % 2:=⟨_,rfl⟩;obtain ⟨pv,a1⟩:∃pv,pv=y % 5:=⟨_,rfl⟩;rw [← R,← a1] at hS;simp only [← R,← a1];have c:Hid (-9≤ph∧ph≤9∧ -1≤pv∧pv≤4):=Lib.hid (by omega);clear R a1 ag ah ai aj z0 z1 y0 y1;generalize w3.heap.size=gs at *;have ak:w.heap.size≤W4.heap.size:=N.size;have K:w.heap.size≤gs:=by omega
 go_wp2
 go_loopw [8] (fun x wr=>∃(j:Nat) (vb:Value) (zl:List Int),j≤m∧x= .int .i64 j∧zl.length=j∧Below w.heap.size w wr∧Bk wr w.heap.size 26 [.slice A0 n0 c0,.slice A1 n c1,.slice A2 m c2]∧Bk wr gr 29 [.int .i64 0,.slice none 0 0,.int .i64 0]∧Bk wr gs 29 [.int .i64 ph,vb,.int .i64 pv]∧ZI w.heap.size wr vb zl) (fun x _=>m - (intOf x).toNat)
 case atStart=>exact ⟨0,_,[],by omega,rfl,rfl,N,a4,a5,hS,ZI.nil _ _⟩
 case round=>
  clear N a4 a5 hS ak;obtain ⟨j,vb,zl,hj,rfl,ad,b,hX,hR,hS,hO⟩:=hrel;obtain ⟨Ab,nb,cb,rfl⟩:=hO.sliceN;obtain ⟨s0,s1,s2⟩:=hS.three;rcases Nat.lt_or_ge j m with hjl | hjl
  ·have b1:(((n:Int)+(m:Int))==0)=false:=(by simp;omega);have b2:(j:Int) < m:=(by omega);go_wp2_with fail;have C0:=Zm s0;have C1:=Zm s1;have C2:=Zm s2;have U:=Ze wr;clear s0 s1 s2;generalize aw:Value.slice Ab nb cb=vb at *;clear aw;refine Zo 15 [0,1,2,3,4,6,8,9,10,12,5,7,11,13,14,15,16,17] (by kernel_rfl) (by kernel_rfl) ?_;repeat ((first | (refine Zc (v:=?_) rfl rfl rfl ?_ ?_;rotate_left;(· (intro _ S;go_simp;(try go_bits);(try with_reducible rfl)))) | (refine Zg (v:=?_) rfl rfl rfl ?_ ?_;rotate_left;(· (intro _ S;go_simp;(try go_bits);(try with_reducible rfl)))) | refine Zh rfl rfl rfl ?_);(try simp only [Act.put,pu1,pu2,pu3,pu4,pu5,pu6]))
   refine Zf rfl rfl (fun KR hKR=>?_);go_simp;(with_reducible refine (Zyb _ zs (2+(j:Int)) _ ((HI.out.below b).below U) (by omega) (by omega)).mono ?_);rintro _ w5 ⟨q,rfl,q0,q1,C⟩;have A:=Za U C U.size;obtain ⟨X,av⟩:∃X,q+(j:Int)=X:=⟨_,rfl⟩;have e0:0≤X:=(by omega);have a6:¬((n:Int)+(m:Int)=0):=(by omega);have al:X.tmod ((n:Int)+(m:Int))=X % ((n:Int)+(m:Int)):=Int.tmod_eq_emod_of_nonneg e0;have e1:0≤X % ((n:Int)+(m:Int)):=Int.emod_nonneg _ (by omega);have e2:X % ((n:Int)+(m:Int)) < (n:Int)+(m:Int):=Int.emod_lt_of_pos _ (by omega);refine hKR.out _ _ (Or.inr A) ?_;clear hKR KR;(try simp only [Act.put,pu1,pu2,pu3,pu4,pu5,pu6]);repeat ((first | (refine Zc (v:=?_) rfl rfl rfl ?_ ?_;rotate_left;(· (intro _ S;go_simp;(try go_bits);(try with_reducible rfl)))) | (refine Zg (v:=?_) rfl rfl rfl ?_ ?_;rotate_left;(· (intro _ S;go_simp;(try go_bits);(try with_reducible rfl)))) | refine Zh rfl rfl rfl ?_);(try simp only [Act.put,pu1,pu2,pu3,pu4,pu5,pu6]))
   obtain ⟨d,hd⟩:∃d,d=X % ((n:Int)+(m:Int)) - (m:Int):=⟨_,rfl⟩;have am: -9223372036854775808≤d∧d≤9223372036854775807:=(by omega);refine Zf rfl rfl (fun KR hKR=>?_);go_simp;try rw [← hd]
   refine hKR.out _ _ (Or.inr (Za A (Zb _ _) A.size)) ?_;clear hKR KR;(try simp only [Act.put,pu1,pu2,pu3,pu4,pu5,pu6]);clear e0 e1 e2 av hd a6 al;have HO:=Lib.hid (hO.below A);have V:w.heap.size≤w5.heap.size:=(by have:=b.size;have:=A.size;omega);have D:zl.length+1≤1099511627776:=(by omega);refine seq_append_int rfl rfl rfl (by decide) (.tmp 29) (.tmp 42) rfl w5 w.heap.size vb zl rfl HO.out d am rfl D V ?_;intro v' w6 T Z af;obtain ⟨A6,n6,c6,rfl⟩:=T.sliceN;(try simp only [Act.put,pu1,pu2,pu3,pu4,pu5,pu6]);have a7:=Z.bk (hX.later A) (by decide);have a8:=Z.bk (hR.later A) (by decide);have O:=Z.bk (hS.later A) (by decide);have a0:=(Za b A b.size).trans af;obtain ⟨t0,t1,t2⟩:=O.three;obtain ⟨f0,f1,f2⟩:=O.threeF;refine Zf rfl rfl (fun KR hKR=>?_);go_simp;refine hKR.out _ _ (Or.inl (by decide)) ?_;clear hKR KR;(try simp only [Act.put,pu1,pu2,pu3,pu4,pu5,pu6]);refine Zf rfl rfl (fun KR hKR=>?_);go_simp;refine hKR.out _ _ (Or.inl (by decide)) ?_;clear hKR KR;(try simp only [Act.put,pu1,pu2,pu3,pu4,pu5,pu6]);refine Zy ?_;generalize hv':Value.slice A6 n6 c6=v' at *;clear hv' C0 C1 C2 t0 t1 t2 f0 f1 f2;have kk:=Zd.setCell O 1 v';have f:=O.set_ 1 v';have an:=a7.set_other (g:=gs) (by omega) 1 v';have l:=a8.set_other (g:=gs) (by omega) 1 v';have o:=T.but kk (by decide);have i:=a0.setCell (p:=⟨gs,1,none⟩) K v';simp only [List.set_cons_zero,List.set_cons_succ] at f;generalize w6.setCell ⟨gs,1,none⟩ v'=w7 at *;clear hX hR hS hO HO b U A C Z af a7 a8 O a0 T kk;have a9:(zl++[d]).length=j+1:=(by rw [List.length_append,ad];rfl);clear ad D;go_wp2;go_roundw
   case rel=>exact ⟨j+1,v',zl++[d],by omega,by go_num,a9,i,an,l,f,o⟩
   case measure=>simp [intOf];omega
  ·obtain rfl:m=j:=by omega
   go_wp2_with fail;refine (Zyb _ zs 9 _ (HI.out.below b) (by decide) (by decide)).mono ?_;rintro _ w5 ⟨q,rfl,q0,q1,C⟩;replace hX:=hX.later C;replace hR:=hR.later C;replace hS:=hS.later C;replace hO:=hO.below C;replace b:=Za b C b.size;clear s0 s1 s2 C;have hq:q % 12=0∨q % 12=1∨q % 12=2∨q % 12=3∨q % 12=4∨(5≤q % 12∧q % 12 < 12):=(by omega);obtain ⟨Q,hQ⟩:∃Q,Q=q % 12:=⟨_,rfl⟩;rw [← hQ] at hq;have HQ:=Lib.hid hQ;rcases hq with hq | hq | hq | hq | hq | hq
   ·rw [HQ.out] at hq;have z0:(q % 12==0)=true:=(by simp [hq]);clear hq HQ hQ;obtain ⟨s0,s1,s2⟩:=hS.three;have D:zl.length+1≤1099511627776:=(by omega);have V:=b.size;go_wp2_with (at_builtin;refine wpList_append_int rfl (.tmp 51) (.tmp 52) rfl w5 w.heap.size (.slice Ab nb cb) zl rfl hO 0 (by omega) rfl D V ?_);intro v' w7 o u H;obtain ⟨Av,nv,cv,rfl⟩:=o.sliceN;have l:=u.bk hR (by decide);have f:=u.bk hS (by decide);have i:=b.trans H;clear s0 s1 s2 hR hS hO b u H hX D V;obtain ⟨s0,s1,s2⟩:=f.three;obtain ⟨f0,f1,f2⟩:=f.threeF
    go_upto_region 18 with (fail)
    clear s0 s1 s2 f0 f1 f2;have kk:=Zd.setCell f 1 (.slice Av nv cv);have E:=f.set_ 1 (.slice Av nv cv);have s:=l.set_other (g:=gs) (by omega) 1 (.slice Av nv cv);have F:=o.but kk (by decide);have G:=i.setCell (p:=⟨gs,1,none⟩) K (.slice Av nv cv);simp only [List.set_cons_zero,List.set_cons_succ] at E;generalize w7.setCell ⟨gs,1,none⟩ (.slice Av nv cv)=w8 at *;clear kk f l i o;obtain ⟨y0,y1,y2⟩:=E.three;obtain ⟨g0,g1,g2⟩:=s.threeF;obtain ⟨r0,r1,r2⟩:=s.three;go_wp2;obtain ⟨k1,k2,k3,k4⟩:=st_store (B:=w.heap.size) (w0:=w) s G M (.int .i64 (ph)) (.slice Av nv cv) (.int .i64 (pv))
    skip
    refine Zq Tryz.results37 Tryz.underlying29 (by kernel_rfl) rfl k1 rfl ?_;exact ⟨_,⟨ph,zl++[0],pv⟩,rfl,⟨_,_,_,rfl,(F.but k2 (by decide)).ints⟩,(by simp;omega),F.2,by show (-1:Int)≤pv;have:=c.out;omega,by show pv≤(4:Int);have:=c.out;omega,by show (-9:Int)≤ph;have:=c.out;omega,by show ph≤(9:Int);have:=c.out;omega,k3⟩
   ·rw [HQ.out] at hq;have z0:(q % 12==0)=false:=(by simp;omega);have z1:(q % 12==1)=true:=(by simp [hq]);clear hq HQ hQ;go_wp2_with fail;refine (Zyb _ zs 10 _ (HI.out.below b) (by decide) (by decide)).mono ?_;rintro _ w7 ⟨t,rfl,t0,t1,H⟩;have l:=hR.later H;have f:=hS.later H;have o:=hO.below H;have i:=Za b H b.size;clear hX hR hS hO b H;have e1:0≤t % 5:=(by omega);have e2:t % 5 < 5:=(by omega);obtain ⟨r,R⟩:∃r,t % 5 - 1=r:=⟨_,rfl⟩;replace c:Hid (-9≤r∧r≤9∧ -1≤pv∧pv≤4):=Lib.hid (by have:=c.out;omega);obtain ⟨s0,s1,s2⟩:=f.three;obtain ⟨f0,f1,f2⟩:=f.threeF
    go_upto_region 18 with (fail)
    clear s0 s1 s2 f0 f1 f2 R e1 e2 t0 t1;have kk:=Zd.setCell f 0 (.int .i64 r);have E:=f.set_ 0 (.int .i64 r);have s:=l.set_other (g:=gs) (by omega) 0 (.int .i64 r);have F:=o.but kk (by decide);have G:=i.setCell (p:=⟨gs,0,none⟩) K (.int .i64 r);simp only [List.set_cons_zero,List.set_cons_succ] at E;generalize w7.setCell ⟨gs,0,none⟩ (.int .i64 r)=w8 at *;clear kk f l i o;obtain ⟨y0,y1,y2⟩:=E.three;obtain ⟨g0,g1,g2⟩:=s.threeF;obtain ⟨r0,r1,r2⟩:=s.three;go_wp2;obtain ⟨k1,k2,k3,k4⟩:=st_store (B:=w.heap.size) (w0:=w) s G M (.int .i64 (r)) (.slice Ab nb cb) (.int .i64 (pv))
    skip
    refine Zq Tryz.results37 Tryz.underlying29 (by kernel_rfl) rfl k1 rfl ?_;exact ⟨_,⟨r,zl,pv⟩,rfl,⟨_,_,_,rfl,(F.but k2 (by decide)).ints⟩,(by simp;omega),F.2,by show (-1:Int)≤pv;have:=c.out;omega,by show pv≤(4:Int);have:=c.out;omega,by show (-9:Int)≤r;have:=c.out;omega,by show r≤(9:Int);have:=c.out;omega,k3⟩
   ·rw [HQ.out] at hq;have z0:(q % 12==0)=false:=(by simp;omega);have z1:(q % 12==1)=false:=(by simp;omega);have z2:(q % 12==2)=true:=(by simp [hq]);clear hq HQ hQ;have l:=hR;have f:=hS;have o:=hO;have i:=b;clear hX hR hS hO b;obtain ⟨s0,s1,s2⟩:=f.three;obtain ⟨f0,f1,f2⟩:=f.threeF
    go_upto_region 18 with (fail)
    clear s0 s1 s2 f0 f1 f2;have kk:=Zd.setCell f 2 (.int .i64 (-1));have E:=f.set_ 2 (.int .i64 (-1));have s:=l.set_other (g:=gs) (by omega) 2 (.int .i64 (-1));have F:=o.but kk (by decide);have G:=i.setCell (p:=⟨gs,2,none⟩) K (.int .i64 (-1));simp only [List.set_cons_zero,List.set_cons_succ] at E;generalize w5.setCell ⟨gs,2,none⟩ (.int .i64 (-1))=w8 at *;clear kk f l i o;obtain ⟨y0,y1,y2⟩:=E.three;obtain ⟨g0,g1,g2⟩:=s.threeF;obtain ⟨r0,r1,r2⟩:=s.three;go_wp2;obtain ⟨k1,k2,k3,k4⟩:=st_store (B:=w.heap.size) (w0:=w) s G M (.int .i64 (ph)) (.slice Ab nb cb) (.int .i64 ((-1)))
    skip
    refine Zq Tryz.results37 Tryz.underlying29 (by kernel_rfl) rfl k1 rfl ?_;exact ⟨_,⟨ph,zl,(-1)⟩,rfl,⟨_,_,_,rfl,(F.but k2 (by decide)).ints⟩,(by simp;omega),F.2,by show (-1:Int)≤(-1);have:=c.out;omega,by show (-1)≤(4:Int);have:=c.out;omega,by show (-9:Int)≤ph;have:=c.out;omega,by show ph≤(9:Int);have:=c.out;omega,k3⟩
   ·rw [HQ.out] at hq;have z0:(q % 12==0)=false:=(by simp;omega);have z1:(q % 12==1)=false:=(by simp;omega);have z2:(q % 12==2)=false:=(by simp;omega);have z3:(q % 12==3)=true:=(by simp [hq]);clear hq HQ hQ;obtain ⟨g,cg,e,a2,-,-,-⟩:=hO.shape (by omega);injection e with e1 e2 e3;subst e1 e3;clear e2;have ao:0 < nb:=(by have:=hO.len;omega);have aa:(0:Int) < (nb:Int):=(by omega);obtain ⟨u0,u1,-,-⟩:=hO.at_ (List.getElem?_eq_getElem (show 0 < zl.length by omega));obtain ⟨o,u⟩:=hO.set_ (k:=0) (z:=(n:Int)) (by omega) (by omega) (by omega);have l:=u.bk hR (by decide);have f:=u.bk hS (by decide);have i:=b.setCell (p:=⟨g,0,none⟩) a2 (.int .i64 ((n:Int)));obtain ⟨s0,s1,s2⟩:=hS.three
    go_upto_region 18 with (fail)
    clear s0 s1 s2 u0 u1 hR hS hO b hX u;generalize w5.setCell ⟨g,0,none⟩ (.int .i64 ((n:Int)))=w8 at *;obtain ⟨y0,y1,y2⟩:=f.three;obtain ⟨g0,g1,g2⟩:=l.threeF;obtain ⟨r0,r1,r2⟩:=l.three;go_wp2;obtain ⟨k1,k2,k3,k4⟩:=st_store (B:=w.heap.size) (w0:=w) l i M (.int .i64 (ph)) (.slice (some ⟨g,0,none⟩) nb cb) (.int .i64 (pv))
    skip
    refine Zq Tryz.results37 Tryz.underlying29 (by kernel_rfl) rfl k1 rfl ?_;exact ⟨_,⟨ph,zl.set 0 ((n:Int)),pv⟩,rfl,⟨_,_,_,rfl,(o.but k2 (by decide)).ints⟩,(by simp;omega),o.2,by show (-1:Int)≤pv;have:=c.out;omega,by show pv≤(4:Int);have:=c.out;omega,by show (-9:Int)≤ph;have:=c.out;omega,by show ph≤(9:Int);have:=c.out;omega,k3⟩
   ·rw [HQ.out] at hq;have z0:(q % 12==0)=false:=(by simp;omega);have z1:(q % 12==1)=false:=(by simp;omega);have z2:(q % 12==2)=false:=(by simp;omega);have z3:(q % 12==3)=false:=(by simp;omega);have z4:(q % 12==4)=true:=(by simp [hq]);clear hq HQ hQ;obtain ⟨g,cg,e,a2,-,-,-⟩:=hO.shape (by omega);injection e with e1 e2 e3;subst e1 e3;clear e2;have ao:0 < nb:=(by have:=hO.len;omega);have aa:(0:Int) < (nb:Int):=(by omega);obtain ⟨u0,u1,-,-⟩:=hO.at_ (List.getElem?_eq_getElem (show 0 < zl.length by omega));obtain ⟨o,u⟩:=hO.set_ (k:=0) (z:= -(m:Int) - 1) (by omega) (by omega) (by omega);have l:=u.bk hR (by decide);have f:=u.bk hS (by decide);have i:=b.setCell (p:=⟨g,0,none⟩) a2 (.int .i64 (-(m:Int) - 1));obtain ⟨s0,s1,s2⟩:=hS.three
    go_upto_region 18 with (fail)
    clear s0 s1 s2 u0 u1 hR hS hO b hX u;generalize w5.setCell ⟨g,0,none⟩ (.int .i64 (-(m:Int) - 1))=w8 at *;obtain ⟨y0,y1,y2⟩:=f.three;obtain ⟨g0,g1,g2⟩:=l.threeF;obtain ⟨r0,r1,r2⟩:=l.three;go_wp2;obtain ⟨k1,k2,k3,k4⟩:=st_store (B:=w.heap.size) (w0:=w) l i M (.int .i64 (ph)) (.slice (some ⟨g,0,none⟩) nb cb) (.int .i64 (pv))
    skip
    refine Zq Tryz.results37 Tryz.underlying29 (by kernel_rfl) rfl k1 rfl ?_;exact ⟨_,⟨ph,zl.set 0 (-(m:Int) - 1),pv⟩,rfl,⟨_,_,_,rfl,(o.but k2 (by decide)).ints⟩,(by simp;omega),o.2,by show (-1:Int)≤pv;have:=c.out;omega,by show pv≤(4:Int);have:=c.out;omega,by show (-9:Int)≤ph;have:=c.out;omega,by show ph≤(9:Int);have:=c.out;omega,k3⟩
   ·rw [HQ.out] at hq;obtain ⟨q5,q6⟩:=hq;have z0:(q % 12==0)=false:=(by simp;omega);have z1:(q % 12==1)=false:=(by simp;omega);have z2:(q % 12==2)=false:=(by simp;omega);have z3:(q % 12==3)=false:=(by simp;omega);have z4:(q % 12==4)=false:=(by simp;omega);obtain ⟨y0,y1,y2⟩:=hS.three;obtain ⟨g0,g1,g2⟩:=hR.threeF;obtain ⟨r0,r1,r2⟩:=hR.three;go_wp2;obtain ⟨k1,k2,k3,k4⟩:=st_store (B:=w.heap.size) (w0:=w) hR b M (.int .i64 (ph)) (.slice Ab nb cb) (.int .i64 (pv))
    skip
    refine Zq Tryz.results37 Tryz.underlying29 (by kernel_rfl) rfl k1 rfl ?_;exact ⟨_,⟨ph,zl,pv⟩,rfl,⟨_,_,_,rfl,(hO.but k2 (by decide)).ints⟩,(by simp;omega),hO.2,by show (-1:Int)≤pv;have:=c.out;omega,by show pv≤(4:Int);have:=c.out;omega,by show (-9:Int)≤ph;have:=c.out;omega,by show ph≤(9:Int);have:=c.out;omega,k3⟩
end Go.Proofs.YtncmobkhenfhpaaGreat
