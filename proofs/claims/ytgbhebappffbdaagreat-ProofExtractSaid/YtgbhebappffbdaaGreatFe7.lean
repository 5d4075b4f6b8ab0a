/- Lemmas of the claim; no condition. -/
import Derived.Test.YtgbhebappffbdaaGreatFe3
set_option linter.all false
set_option maxRecDepth 100000
set_option maxHeartbeats 40000000
namespace Go.Proofs.YtgbhebappffbdaaGreat
open Go.RowKit
open Pl
attribute [local go_sem ↓] Go.wp_at_zero Go.wp_at_succ
namespace Pl
theorem Y8.oi {p:LPd} {s:LSt} {Z D:List RF} {k:Nat} {z:Int} (h:Y8 p s Z D k z):oi (XQ p s Z D k)=z:=by
 rcases h with ⟨rfl,h⟩ | ⟨t,rfl,_,h⟩ <;> rw [h] <;> rfl
theorem at_range {p:LPd} {s:LSt} {K:Nat} (S:s.Fit p) (F:p.Fit K) (i:Nat): -1000000≤s.at_ i∧s.at_ i≤1000000:=by
 have h1:=F.rows;have h2:=F.cols;rcases JX i s.basis.length with h | h
 ·have h3:=S.in_ i _ (JQ h);rw [LSt.at_eq (JQ h)];omega
 ·have:s.at_ i=0:=by unfold LSt.at_;simp [List.getD,JU h]
  omega
end Pl
theorem Xh.elem2 {w wr:World} {A:Option Addr} {n c:Nat} {fs:List RF} (h:Xh w (.slice A n c) fs) (hb:Below w.heap.size w wr) {k l:Nat} {f g:RF} (hf:fs[k]? =some f) (hg:fs[l]? =some g):
 ∃b off A1 n1 c1 A2 n2 c2 A3 n3 c3 A4 n4 c4,A=some ⟨b,off,none⟩∧(wr.cell? ⟨b,off+k * 4,none⟩=some (.bool f.num.neg)∧wr.cell? ⟨b,off+k * 4+1,none⟩=some (.slice A1 n1 c1)∧wr.cell? ⟨b,off+k * 4+2,none⟩=some (.bool f.den.neg)∧wr.cell? ⟨b,off+k * 4+3,none⟩=some (.slice A2 n2 c2))∧
  Zt wr (.agg #[.bool f.num.neg,.slice A1 n1 c1,.bool f.den.neg,.slice A2 n2 c2]) f∧(wr.cell? ⟨b,off+l * 4,none⟩=some (.bool g.num.neg)∧wr.cell? ⟨b,off+l * 4+1,none⟩=some (.slice A3 n3 c3)∧wr.cell? ⟨b,off+l * 4+2,none⟩=some (.bool g.den.neg)∧wr.cell? ⟨b,off+l * 4+3,none⟩=some (.slice A4 n4 c4))∧
  Zt wr (.agg #[.bool g.num.neg,.slice A3 n3 c3,.bool g.den.neg,.slice A4 n4 c4]) g:=by
 obtain ⟨b,off,A1,n1,c1,A2,n2,c2,hA,_,q,hm⟩:=h.elem hb hf;obtain ⟨b',i,A3,n3,c3,A4,n4,c4,a,_,q',d⟩:=h.elem hb hg;rw [hA] at a;injection a with e;injection e with e1 e2 e3;subst e1 e2;exact ⟨b,off,A1,n1,c1,A2,n2,c2,A3,n3,c3,A4,n4,c4,hA,q,hm,q',d⟩
theorem cell_below {w w':World} {b i:Nat} {v:Value} (h:w.cell? ⟨b,i,none⟩=some v) (hb:Below w.heap.size w w'):w'.cell? ⟨b,i,none⟩=some v:=Zf hb h
theorem rleaving_0 (v1 v2 v3 v4:Value) (p:LPd) (s:LSt) (Z D:List RF) (K:Nat) (w:World) (h:LpM w v1 p) (h2:StM w v2 s) (h3:Xh w v3 Z) (h4:Xh w v4 D) (F:p.Fit K) (S:s.Fit p) (hzl:D.length≤Z.length) (hdl:D.length≤p.right.length) (hkz:RsL (5^p.right.length * K) Z) (hkd:RsL (5^p.right.length * K) D) (hN0:D=[]):
 Calls Tryz.prog 70 #[v1,v2,v3,v4] w fun e w'=>e= .returned (.int .i64 (oi (Zeh p s Z D)))∧Below w.heap.size w w':=by
 obtain ⟨A,n,c,A',n',c',t,u,v,rfl,hc,hv,hr⟩:=id h;obtain ⟨Ab,nb,cb,rfl,hI⟩:=id h2;obtain ⟨W,hW,l,d⟩:=Y6 w (.slice A n c) (.slice A' n' c') (.slice t u v);obtain ⟨W1,x,j,f⟩:=Zea W (.int .i64 s.phase) (.slice Ab nb cb) (.int .i64 s.pivots);have hX:=l.later f;have a:=Za d f d.size;obtain ⟨b1,b2,b3⟩:=hI.len;have o:W.heap.size=w.heap.size+1:=by rw [← hW];simp
 rw [o] at j;have y:=JZ h;have z:=JZ h2;have HI:=JZ hI;have g:=JZ F;have B:=JZ S;have C:=JZ b1;have k:Hid (nb=p.right.length):=JZ (by rw [b1];exact S.2);have E:nb≤64:=by rw [k.out];exact F.2.2.1
 obtain ⟨x0,x1,x2⟩:=hX.three;obtain ⟨y0,y1,y2⟩:=j.three;clear h h2 hc hv hr b1 hI l d f F S;obtain ⟨Az,cz,rfl,P,R⟩:=h3.shape;obtain ⟨Ad,cd,rfl,T,U⟩:=h4.shape;have H3:=JZ h3;have H4:=JZ h4;have G:=JZ hkz;have H:=JZ hkd;have I:Hid (5^p.right.length * K≤34359738368):=JZ (by have:=g.out.ks;omega);have J:Hid (1≤5^p.right.length * K):=JZ (JW g.out.k1 g.out.le);have L:Hid (5^p.right.length * K+5^p.right.length * K≤8589934592):=JZ (by have:=g.out.2.2.2.2.2.2;omega);have M:Hid (D.length≤Z.length):=JZ hzl;have hdl:D.length≤nb:=by rw [k.out];exact hdl
 generalize m:Z.length=LZ at *;have O:=JZ m;generalize hN:D.length=N at *;have q:=JZ hN;clear h3 h4 hkz hkd m hN;have r:=JZ hN0;have hN:N=0:=by rw [← q.out,hN0];rfl
 have HR:Hid (oi (Zeh p s Z D)= -1):=JZ (by rw [r.out];unfold Zeh;split <;> rfl);subst hN;clear hN0 hdl;go_enter Tryz.func70,Tryz.ntmps70;go_wp2;clear hW x
 go_loopw [9] (fun i wr=>i= .int .i64 0∧Below w.heap.size w wr) (fun _ _=>0)
 case atStart=>exact ⟨rfl,a⟩
 case round=>
  clear a x0 x1 x2 y0 y1 y2 hX j;obtain ⟨rfl,a⟩:=hrel;go_wp2
  go_loopw [10,11] (fun b i wr=>b= .int .i64 (-1)∧i= .int .i64 0∧Below w.heap.size w wr) (fun _ _ _=>0)
  case atStart=>exact ⟨rfl,rfl,a⟩
  case round=>
   clear a;obtain ⟨rfl,rfl,a⟩:=hrel;go_wp2;go_ret;exact ⟨Zak HR.out,a⟩
theorem rleaving_1 (v1 v2 v3 v4:Value) (p:LPd) (s:LSt) (Z D:List RF) (K:Nat) (w:World) (h:LpM w v1 p) (h2:StM w v2 s) (h3:Xh w v3 Z) (h4:Xh w v4 D) (F:p.Fit K) (S:s.Fit p) (hzl:D.length≤Z.length) (hdl:D.length≤p.right.length) (hkz:RsL (5^p.right.length * K) Z) (hkd:RsL (5^p.right.length * K) D) (hN0:0 < D.length) (hph:¬s.phase=2):
 Calls Tryz.prog 70 #[v1,v2,v3,v4] w fun e w'=>e= .returned (.int .i64 (oi (Zeh p s Z D)))∧Below w.heap.size w w':=by
 obtain ⟨A,n,c,A',n',c',aa,ab,ac,rfl,hc,hv,hr⟩:=id h;obtain ⟨Ab,nb,cb,rfl,hI⟩:=id h2;obtain ⟨W,hW,aw,J⟩:=Y6 w (.slice A n c) (.slice A' n' c') (.slice aa ab ac);obtain ⟨W1,c0,l,L⟩:=Zea W (.int .i64 s.phase) (.slice Ab nb cb) (.int .i64 s.pivots);have hX:=aw.later L;have j:=Za J L J.size;obtain ⟨b1,b2,b3⟩:=hI.len;have a4:W.heap.size=w.heap.size+1:=by rw [← hW];simp
 rw [a4] at l;have ae:=JZ h;have c4:=JZ h2;have HI:=JZ hI;have r:=JZ F;have af:=JZ S;have c5:=JZ b1;have ag:Hid (nb=p.right.length):=JZ (by rw [b1];exact S.2);have c6:nb≤64:=by rw [ag.out];exact F.2.2.1
 obtain ⟨x0,x1,x2⟩:=hX.three;obtain ⟨y0,y1,y2⟩:=l.three;clear h h2 hc hv hr b1 hI aw J L F S;obtain ⟨Az,cz,rfl,ci,cj⟩:=h3.shape;obtain ⟨Ad,cd,rfl,ck,cl⟩:=h4.shape;have H3:=JZ h3;have H4:=JZ h4;have O:=JZ hkz;have P:=JZ hkd;have R:Hid (5^p.right.length * K≤34359738368):=JZ (by have:=r.out.ks;omega);have T:Hid (1≤5^p.right.length * K):=JZ (JW r.out.k1 r.out.le);have ah:Hid (5^p.right.length * K+5^p.right.length * K≤8589934592):=JZ (by have:=r.out.2.2.2.2.2.2;omega);have c7:Hid (D.length≤Z.length):=JZ hzl;have hdl:D.length≤nb:=by rw [ag.out];exact hdl
 generalize b7:Z.length=LZ at *;have U:=JZ b7;generalize hN:D.length=N at *;have a5:=JZ hN;clear h3 h4 hkz hkd b7 hN;have bc:=JZ (Zvl (p:=p) (Z:=Z) (D:=D) hph);have c3:(s.phase==2)=false:=by simpa using hph
 have c8:0 < (N:Int):=by omega
 clear hph;go_enter Tryz.func70,Tryz.ntmps70;go_wp2;clear hW c0
 go_loopw [9] (fun i wr=>i= .int .i64 0∧Below w.heap.size w wr∧Bk wr w.heap.size 26 [.slice A n c,.slice A' n' c',.slice aa ab ac]∧Bk wr (w.heap.size+1) 29 [.int .i64 s.phase,.slice Ab nb cb,.int .i64 s.pivots]) (fun _ _=>0)
 case atStart=>exact ⟨rfl,j,hX,l⟩
 case round=>
  clear j hX l x0 x1 x2 y0 y1 y2;obtain ⟨rfl,j,hX,hS⟩:=hrel;obtain ⟨y0,y1,y2⟩:=hS.three;have a6:=y0;clear a6;go_wp2
  go_loopw [10,11] (fun b i wr=>∃(k:Nat) (z:Int),k≤N∧b= .int .i64 z∧i= .int .i64 k∧Below w.heap.size w wr∧Bk wr w.heap.size 26 [.slice A n c,.slice A' n' c',.slice aa ab ac]∧Bk wr (w.heap.size+1) 29 [.int .i64 s.phase,.slice Ab nb cb,.int .i64 s.pivots]∧Pl.Y8 p s Z D k z) (fun _ i _=>N - (intOf i).toNat)
  case atStart=>exact ⟨0,-1,by omega,rfl,rfl,j,hX,hS,Or.inl ⟨rfl,rfl⟩⟩
  case round=>
   clear j hX hS;obtain ⟨k,z,hk,rfl,rfl,j,hX,hS,hB⟩:=hrel;rcases JX k N with hkl | hkl
   ·obtain ⟨f,hf⟩:=Yb (fs:=D) (i:=k) (by rw [a5.out];exact hkl);have c9:(k:Int) < N:=(by omega);have HQ:=JZ (Yo hf);have a7:f.Sh:=(P.out k f hf).sh R.out;rcases hB with ⟨rfl,hB⟩ | ⟨t,rfl,htk,hB⟩
    ·obtain ⟨b',ax,B1,n1,k1,B2,n2,k2,rfl,cm,⟨q0,q1,q2,q3⟩,C⟩:=H4.out.elem j hf;have HB:=JZ hB;clear hB hf;go_wp2_with fail;refine (rsignF_any _ f _ C a7).mono ?_;rintro _ w5 ⟨rfl,a⟩;have x:=hX.later a;have y:=hS.later a;have o:=Za j a j.size;clear q0 q1 q2 q3 hX hS j a C;rcases Int.lt_or_le 0 (qs f.q) with hq | hq
     ·have HN:=JZ (UB HB.out (by rw [HQ.out];exact Zjo.1 hq));go_wp2;go_roundw
      case rel=>exact ⟨k+1,(k:Int),by omega,rfl,by go_num,o,x,y,Or.inr ⟨k,rfl,by omega,HN.out⟩⟩
      case measure=>simp [intOf];omega
     ·have HN:=JZ (Zbl (p:=p) (s:=s) (Z:=Z) (D:=D) (k:=k) (by rw [HQ.out];intro e;have:=Zjo.2 e;omega));go_wp2;go_roundw
      case rel=>exact ⟨k+1,-1,by omega,rfl,by go_num,o,x,y,Or.inl ⟨rfl,HN.out.trans HB.out⟩⟩
      case measure=>simp [intOf];omega
    ·obtain ⟨g,hg⟩:=Yb (fs:=D) (i:=t) (by rw [a5.out];omega);obtain ⟨fz,a0⟩:=Yb (fs:=Z) (i:=k) (by rw [U.out];omega);obtain ⟨gz,a1⟩:=Yb (fs:=Z) (i:=t) (by rw [U.out];omega);have bd:g.Sh:=(P.out t g hg).sh R.out;have a4:fz.Sh:=(O.out k fz a0).sh R.out;have be:gz.Sh:=(O.out t gz a1).sh R.out;have bf:Hid (fz.q / f.q=Zrq Z D k):=JZ (by unfold Zrq;rw [Yo hf,Yo a0]);have bg:Hid (gz.q / g.q=Zrq Z D t):=JZ (by unfold Zrq;rw [Yo hg,Yo a1]);have bh:Hid (ShH (canF (Zrq Z D k))):=JZ (Sz.shH (Zje (O.out.qAt T.out k) (P.out.qAt T.out k)) ah.out);have ai:Hid (ShH (canF (Zrq Z D t))):=JZ (Sz.shH (Zje (O.out.qAt T.out t) (P.out.qAt T.out t)) ah.out);obtain ⟨b',ax,B1,n1,k1,B2,n2,k2,B3,n3,k3,B4,n4,k4,rfl,⟨q0,q1,q2,q3⟩,C,⟨r0,r1,r2,r3⟩,ay⟩:=H4.out.elem2 j hf hg;obtain ⟨c',cn,C1,m1,l1,C2,m2,l2,C3,m3,l3,C4,m4,l4,rfl,⟨z0,z1,z2,z3⟩,az,⟨y0,y1,y2,y3⟩,b0⟩:=H3.out.elem2 j a0 a1;have aj:=q0;have ak:=q1;have al:=q2;have am:=q3;have HB:=JZ hB;have ca:(t:Int) < N:=(by omega);have cc:0≤(t:Int):=(by omega);have ce:(k:Int) < LZ:=(by have:=U.out;omega);have cf:(t:Int) < LZ:=(by have:=U.out;omega);clear hB hf hg a0 a1;go_wp2_with fail;clear aj ak al am;refine (rsignF_any _ f _ C a7).mono ?_;rintro _ w5 ⟨rfl,a⟩;have x:=hX.later a;have y:=hS.later a;have o:=Za j a j.size;rcases Int.lt_or_le 0 (qs f.q) with hq | hq;rotate_left
     ·have HN:=JZ (Zbl (p:=p) (s:=s) (Z:=Z) (D:=D) (k:=k) (by rw [HQ.out];intro e;have:=Zjo.2 e;omega));clear q0 q1 q2 q3 r0 r1 r2 r3 z0 z1 z2 z3 y0 y1 y2 y3;go_wp2;go_roundw
      case rel=>exact ⟨k+1,(t:Int),by omega,rfl,by go_num,o,x,y,Or.inr ⟨t,rfl,by omega,HN.out.trans HB.out⟩⟩
      case measure=>simp [intOf];omega
     have V:Hid (0 < qAt D k):=JZ (by rw [HQ.out];exact Zjo.1 hq);replace q0:=cell_below q0 a;replace q1:=cell_below q1 a;replace q2:=cell_below q2 a;replace q3:=cell_below q3 a;replace r0:=cell_below r0 a;replace r1:=cell_below r1 a;replace r2:=cell_below r2 a;replace r3:=cell_below r3 a;replace z0:=cell_below z0 a;replace z1:=cell_below z1 a;replace z2:=cell_below z2 a;replace z3:=cell_below z3 a;replace y0:=cell_below y0 a;replace y1:=cell_below y1 a;replace y2:=cell_below y2 a;replace y3:=cell_below y3 a;clear hX hS;go_wp2_with fail;have bi:=Zp q0;have bj:=Zp q1;have bk:=Zp q2;have bl:=Zp q3;have bm:=Zp r0;have bn:=Zp r1;have bp:=Zp r2;have bq:=Zp r3;have br:=Zp z0;have bs:=Zp z1;have bt:=Zp z2;have bu:=Zp z3;have bv:=Zp y0;have bw:=Zp y1;have bx:=Zp y2;have bz:=Zp y3;have l:=Zj w5;clear q0 q1 q2 q3 r0 r1 r2 r3 z0 z1 z2 z3 y0 y1 y2 y3 hq;refine Zq 20 [0,1,2,3,4,5,6,7,9,10,11,12,13,14,15,16,8,17,18,19] (by kernel_rfl) (by kernel_rfl) ?_;repeat ((first | (refine Zc (v:=?_) rfl rfl rfl ?_ ?_;rotate_left;(· (intro _ d;go_simp;(try go_bits);(try with_reducible rfl)))) | (refine Zg (v:=?_) rfl rfl rfl ?_ ?_;rotate_left;(· (intro _ d;go_simp;(try go_bits);(try with_reducible rfl)))) | refine Zh rfl rfl rfl ?_);(try simp only [Act.put,pu1,pu2,pu3,pu4,pu5,pu6]))
     refine Zd rfl rfl (fun KR hKR=>?_);go_simp;(with_reducible refine (Ztn _ _ fz f _ ((az.below a).below l) ((C.below a).below l) a4 a7).mono ?_);rw [bf.out];rintro _ w6 ⟨v6,rfl,e6,b4⟩;have B:=Za l b4 l.size;refine hKR.out _ _ (Or.inr B) ?_;clear hKR KR;(try simp only [Act.put,pu1,pu2,pu3,pu4,pu5,pu6]);repeat ((first | (refine Zc (v:=?_) rfl rfl rfl ?_ ?_;rotate_left;(· (intro _ d;go_simp;(try go_bits);(try with_reducible rfl)))) | (refine Zg (v:=?_) rfl rfl rfl ?_ ?_;rotate_left;(· (intro _ d;go_simp;(try go_bits);(try with_reducible rfl)))) | refine Zh rfl rfl rfl ?_);(try simp only [Act.put,pu1,pu2,pu3,pu4,pu5,pu6]))
     refine Zd rfl rfl (fun KR hKR=>?_);go_simp;(with_reducible refine (Ztn _ _ gz g _ ((b0.below a).below B) ((ay.below a).below B) be bd).mono ?_);rw [bg.out];rintro _ w7 ⟨v7,rfl,e7,ad⟩;have X:=Za B ad B.size;refine hKR.out _ _ (Or.inr X) ?_;clear hKR KR;(try simp only [Act.put,pu1,pu2,pu3,pu4,pu5,pu6]);repeat ((first | (refine Zc (v:=?_) rfl rfl rfl ?_ ?_;rotate_left;(· (intro _ d;go_simp;(try go_bits);(try with_reducible rfl)))) | (refine Zg (v:=?_) rfl rfl rfl ?_ ?_;rotate_left;(· (intro _ d;go_simp;(try go_bits);(try with_reducible rfl)))) | refine Zh rfl rfl rfl ?_);(try simp only [Act.put,pu1,pu2,pu3,pu4,pu5,pu6]))
     refine Zd rfl rfl (fun KR hKR=>?_);go_simp;(with_reducible refine (rcompareF_any _ _ (canF (Zrq Z D k)) (canF (Zrq Z D t)) _ (e6.frac.below ad) e7.frac bh.out ai.out).mono ?_);rw [Zu,Zu];generalize b8:qs (Zrq Z D k - Zrq Z D t)=sC;have Y:=JZ b8;clear b8;rintro _ w8 ⟨rfl,b5⟩;have E:=Za X b5 X.size;refine hKR.out _ _ (Or.inr E) ?_;clear hKR KR;(try simp only [Act.put,pu1,pu2,pu3,pu4,pu5,pu6]);repeat ((first | (refine Zc (v:=?_) rfl rfl rfl ?_ ?_;rotate_left;(· (intro _ d;go_simp;(try go_bits);(try with_reducible rfl)))) | (refine Zg (v:=?_) rfl rfl rfl ?_ ?_;rotate_left;(· (intro _ d;go_simp;(try go_bits);(try with_reducible rfl)))) | refine Zh rfl rfl rfl ?_);(try simp only [Act.put,pu1,pu2,pu3,pu4,pu5,pu6]))
     refine Zz ?_;have G:=x.later E;have H:=y.later E;have m:=Za o E o.size;clear bi bj bk bl bm bn bp bq br bs bt bu bv bw bx bz x y o l B X E a b4 ad b5 e6 e7 C ay az b0;obtain ⟨bb,bo,rfl,M⟩:=(HI.out.below m).all (show 0 < nb by omega);have c1:w8.cell? ⟨bb,bo+k,none⟩=some (.int .i64 (s.at_ k)):=M k (by omega);have c2:w8.cell? ⟨bb,bo+t,none⟩=some (.int .i64 (s.at_ t)):=M t (by omega);have cg:(k:Int) < nb:=(by omega);have ch:(t:Int) < nb:=(by omega);obtain ⟨x0,x1,x2⟩:=G.three;obtain ⟨p0,p1,p2⟩:=H.three;have an:=JZ (at_range af.out r.out k);have ao:=JZ (at_range af.out r.out t);clear M;go_wp2_with fail;have C0:=Zp x0;have a8:=Zp x1;have a9:=Zp x2;have D0:=Zp p0;have D1:=Zp p1;have D2:=Zp p2;have E1:=Zp c1;have E2:=Zp c2;have l:=Zj w8;clear x0 x1 x2 p0 p1 p2 c1 c2;refine Zq 23 [0,1,2,3,4,5,6,7,8,9,10,11,13,14,15,16,17,18,12,19,20,21,22] (by kernel_rfl) (by kernel_rfl) ?_;rcases Int.lt_trichotomy sC 0 with hc | hc | hc
     ·have HN:=JZ (VP HB.out V.out (Or.inl (by have h9:=Y.out;have:=Zjn.1 (h9▸hc);grind)));repeat ((first | (refine Zc (v:=?_) rfl rfl rfl ?_ ?_;rotate_left;(· (intro _ d;go_simp;(try go_bits);(try with_reducible rfl)))) | (refine Zg (v:=?_) rfl rfl rfl ?_ ?_;rotate_left;(· (intro _ d;go_simp;(try go_bits);(try with_reducible rfl)))) | refine Zh rfl rfl rfl ?_ | refine Yy rfl rfl rfl (by assumption) ?_);(try simp only [Act.put,pu1,pu2,pu3,pu4,pu5,pu6]))
      refine Zz ?_;clear C0 a8 a9 D0 D1 D2 E1 E2;go_wp2;go_roundw
      case rel=>exact ⟨k+1,(k:Int),by omega,rfl,by go_num,m.drew,G.drew,H.drew,Or.inr ⟨k,rfl,by omega,HN.out⟩⟩
      case measure=>simp [intOf];omega
     ·subst hc;have ap:Hid (Zrq Z D k=Zrq Z D t):=JZ (by have:=Yp.1 Y.out;grind);repeat ((first | (refine Zc (v:=?_) rfl rfl rfl ?_ ?_;rotate_left;(· (intro _ d;go_simp;(try go_bits);(try with_reducible rfl)))) | (refine Zg (v:=?_) rfl rfl rfl ?_ ?_;rotate_left;(· (intro _ d;go_simp;(try go_bits);(try with_reducible rfl)))) | refine Zh rfl rfl rfl ?_);(try simp only [Act.put,pu1,pu2,pu3,pu4,pu5,pu6]))
      refine Zd rfl rfl (fun KR hKR=>?_);go_simp;(with_reducible refine (rorder_any _ p (s.at_ k) _ ((ae.out.below m).below l) an.out.1 an.out.2 r.out.cols).mono ?_);generalize b9:Ygt p (s.at_ k)=ok;have aq:=JZ b9;clear b9;rintro _ w9 ⟨rfl,b6⟩;have I:=Za l b6 l.size;refine hKR.out _ _ (Or.inr I) ?_;clear hKR KR;(try simp only [Act.put,pu1,pu2,pu3,pu4,pu5,pu6]);repeat ((first | (refine Zc (v:=?_) rfl rfl rfl ?_ ?_;rotate_left;(· (intro _ d;go_simp;(try go_bits);(try with_reducible rfl)))) | (refine Zg (v:=?_) rfl rfl rfl ?_ ?_;rotate_left;(· (intro _ d;go_simp;(try go_bits);(try with_reducible rfl)))) | refine Zh rfl rfl rfl ?_);(try simp only [Act.put,pu1,pu2,pu3,pu4,pu5,pu6]))
      refine Zd rfl rfl (fun KR hKR=>?_);go_simp;(with_reducible refine (rorder_any _ p (s.at_ t) _ ((ae.out.below m).below I) ao.out.1 ao.out.2 r.out.cols).mono ?_);generalize ba:Ygt p (s.at_ t)=ot;have ar:=JZ ba;clear ba;rintro _ co ⟨rfl,a3⟩;have u:=Za I a3 I.size;refine hKR.out _ _ (Or.inr u) ?_;clear hKR KR;(try simp only [Act.put,pu1,pu2,pu3,pu4,pu5,pu6]);repeat ((first | (refine Zc (v:=?_) rfl rfl rfl ?_ ?_;rotate_left;(· (intro _ d;go_simp;(try go_bits);(try with_reducible rfl)))) | (refine Zg (v:=?_) rfl rfl rfl ?_ ?_;rotate_left;(· (intro _ d;go_simp;(try go_bits);(try with_reducible rfl)))) | refine Zh rfl rfl rfl ?_);(try simp only [Act.put,pu1,pu2,pu3,pu4,pu5,pu6]))
      refine Zz ?_;clear C0 a8 a9 D0 D1 D2 E1 E2;have au:=G.later u;have av:=H.later u;have a2:=Za m u m.size;clear G H m l I u b6 a3;rcases Int.lt_or_le ok ot with ho | ho
      ·have HN:=JZ (VP HB.out V.out (Or.inr ⟨ap.out,by rw [aq.out,ar.out];exact ho⟩));go_wp2;go_roundw
       case rel=>exact ⟨k+1,(k:Int),by omega,rfl,by go_num,a2,au,av,Or.inr ⟨k,rfl,by omega,HN.out⟩⟩
       case measure=>simp [intOf];omega
      ·have HN:=JZ (UC HB.out V.out (by intro e;rcases e with e | ⟨_,e⟩;(· rw [ap.out] at e;exact absurd e (by grind));(· rw [aq.out,ar.out] at e;omega)));go_wp2;go_roundw
       case rel=>exact ⟨k+1,(t:Int),by omega,rfl,by go_num,a2,au,av,Or.inr ⟨t,rfl,by omega,HN.out⟩⟩
       case measure=>simp [intOf];omega
     ·have HN:=JZ (UC (p:=p) (s:=s) HB.out V.out (by have h9:=Y.out;have:=Zjo.1 (h9▸hc);intro e;rcases e with e | ⟨e,_⟩ <;> grind));obtain rfl:sC=1:=by have h9:=Ul (Zrq Z D k - Zrq Z D t);rw [Y.out] at h9;omega
      repeat ((first | (refine Zc (v:=?_) rfl rfl rfl ?_ ?_;rotate_left;(· (intro _ d;go_simp;(try go_bits);(try with_reducible rfl)))) | (refine Zg (v:=?_) rfl rfl rfl ?_ ?_;rotate_left;(· (intro _ d;go_simp;(try go_bits);(try with_reducible rfl)))) | refine Zh rfl rfl rfl ?_ | refine Yy rfl rfl rfl (by assumption) ?_);(try simp only [Act.put,pu1,pu2,pu3,pu4,pu5,pu6]))
      refine Zz ?_;clear C0 a8 a9 D0 D1 D2 E1 E2;go_wp2;go_roundw
      case rel=>exact ⟨k+1,(t:Int),by omega,rfl,by go_num,m.drew,G.drew,H.drew,Or.inr ⟨t,rfl,by omega,HN.out⟩⟩
      case measure=>simp [intOf];omega
   ·obtain rfl:N=k:=by omega
    have HR:Hid (oi (Zeh p s Z D)=z):=JZ (by rw [bc.out,a5.out];exact hB.oi);clear hB;go_wp2;go_ret;exact ⟨Zak HR.out,j⟩
theorem rleaving_2 (v1 v2 v3 v4:Value) (p:LPd) (s:LSt) (Z D:List RF) (K:Nat) (w:World) (h:LpM w v1 p) (h2:StM w v2 s) (h3:Xh w v3 Z) (h4:Xh w v4 D) (F:p.Fit K) (S:s.Fit p) (hzl:D.length≤Z.length) (hdl:D.length≤p.right.length) (hkz:RsL (5^p.right.length * K) Z) (hkd:RsL (5^p.right.length * K) D) (hN0:0 < D.length) (hph:s.phase=2):
 Calls Tryz.prog 70 #[v1,v2,v3,v4] w fun e w'=>e= .returned (.int .i64 (oi (Zeh p s Z D)))∧Below w.heap.size w w':=by
 obtain ⟨A,n,c,A',n',c',ab,ac,ad,rfl,hc,hv,hr⟩:=id h;obtain ⟨Ab,nb,cb,rfl,hI⟩:=id h2;obtain ⟨W,hW,ay,R⟩:=Y6 w (.slice A n c) (.slice A' n' c') (.slice ab ac ad);obtain ⟨W1,c6,m,T⟩:=Zea W (.int .i64 s.phase) (.slice Ab nb cb) (.int .i64 s.pivots);have hX:=ay.later T;have d:=Za R T R.size;obtain ⟨b1,b2,b3⟩:=hI.len;have a7:W.heap.size=w.heap.size+1:=by rw [← hW];simp
 rw [a7] at m;have af:=JZ h;have c9:=JZ h2;have HI:=JZ hI;have u:=JZ F;have ag:=JZ S;have ca:=JZ b1;have ah:Hid (nb=p.right.length):=JZ (by rw [b1];exact S.2);have cc:nb≤64:=by rw [ah.out];exact F.2.2.1
 obtain ⟨x0,x1,x2⟩:=hX.three;obtain ⟨y0,y1,y2⟩:=m.three;clear h h2 hc hv hr b1 hI ay R T F S;obtain ⟨Az,cz,rfl,ck,cl⟩:=h3.shape;obtain ⟨Ad,cd,rfl,cm,cn⟩:=h4.shape;have H3:=JZ h3;have H4:=JZ h4;have U:=JZ hkz;have H:=JZ hkd;have I:Hid (5^p.right.length * K≤34359738368):=JZ (by have:=u.out.ks;omega);have V:Hid (1≤5^p.right.length * K):=JZ (JW u.out.k1 u.out.le);have ai:Hid (5^p.right.length * K+5^p.right.length * K≤8589934592):=JZ (by have:=u.out.2.2.2.2.2.2;omega);have ce:Hid (D.length≤Z.length):=JZ hzl;have hdl:D.length≤nb:=by rw [ah.out];exact hdl
 generalize b8:Z.length=LZ at *;have X:=JZ b8;generalize hN:D.length=N at *;have E:=JZ hN;clear h3 h4 hkz hkd b8 hN;have aj:=JZ hph;have c8:(s.phase==2)=true:=by simpa using hph
 clear hph;go_enter Tryz.func70,Tryz.ntmps70;go_wp2;clear hW c6
 go_loopw [9] (fun i wr=>∃k:Nat,k≤N∧i= .int .i64 k∧Below w.heap.size w wr∧Bk wr w.heap.size 26 [.slice A n c,.slice A' n' c',.slice ab ac ad]∧Bk wr (w.heap.size+1) 29 [.int .i64 s.phase,.slice Ab nb cb,.int .i64 s.pivots]∧∀i:Nat,i < k→¬Zwg s D i < 0) (fun i _=>N - (intOf i).toNat)
 case atStart=>exact ⟨0,by omega,rfl,d,hX,m,fun i hi=>by omega⟩
 case round=>
  clear d hX m x0 x1 x2 y0 y1 y2;obtain ⟨k,hk,rfl,d,hX,hS,hA⟩:=hrel;have HA:=JZ hA;clear hA;obtain ⟨y0,y1,y2⟩:=hS.three;rcases JX k N with hkl | hkl
  ·obtain ⟨bb,bo,rfl,r⟩:=(HI.out.below d).all (show 0 < nb by omega);have c1:wr.cell? ⟨bb,bo+k,none⟩=some (.int .i64 (s.at_ k)):=r k (by omega);obtain ⟨f,hf⟩:=Yb (fs:=D) (i:=k) (by rw [E.out];exact hkl);obtain ⟨b',a5,B1,n1,k1,B2,n2,k2,rfl,c7,⟨q0,q1,q2,q3⟩,C⟩:=H4.out.elem d hf;have bd:(k:Int) < N:=(by omega);have be:(k:Int) < nb:=(by omega);have HQ:=JZ (Yo hf);have J:f.Sh:=(H.out k f hf).sh I.out;clear r hf;generalize hz:s.at_ k=z at *;have HZ:=JZ hz;clear hz;rcases Int.lt_or_le z 0 with hz0 | hz0
   ·go_wp2_with fail;refine (rsignF_any _ f _ C J).mono ?_;rintro _ w5 ⟨rfl,a⟩;have x:=hX.later a;have y:=hS.later a;have l:=Za d a d.size;by_cases hq:f.q=0
    ·have bf:(qs f.q !=0)=false:=(by rw [hq];decide);have a8:Hid (∀i:Nat,i < k+1→¬Zwg s D i < 0):=JZ fun i hi=>by
      rcases Nat.lt_succ_iff_lt_or_eq.1 hi with e | e
      ·exact HA.out i e
      ·subst e;exact Ygm fun e=>e.2 (by rw [HQ.out,hq])
     clear hq;go_wp2;go_roundw
     case rel=>exact ⟨k+1,by omega,by go_num,l,x,y,a8.out⟩
     case measure=>simp [intOf];omega
    ·have bf:(qs f.q !=0)=true:=(by simpa using fun e=>hq (Yp.1 e));have HR:Hid (oi (Zeh p s Z D)=(k:Int)):=JZ (by rw [Zvm aj.out (Zap (Nat.zero_le k) (by rw [E.out];omega) (Zzf (by rw [HZ.out];exact hz0) (by rw [HQ.out];exact hq)) fun i _ hi=>HA.out i hi)];rfl);clear hq;go_wp2;go_ret;exact ⟨Zak HR.out,l⟩
   ·have a8:Hid (∀i:Nat,i < k+1→¬Zwg s D i < 0):=JZ fun i hi=>by
     rcases Nat.lt_succ_iff_lt_or_eq.1 hi with e | e
     ·exact HA.out i e
     ·subst e;exact Ygm fun e=>by have:=HZ.out;omega
    clear q0 q1 q2 q3;go_wp2;go_roundw
    case rel=>exact ⟨k+1,by omega,by go_num,d,hX,hS,a8.out⟩
    case measure=>simp [intOf];omega
  ·obtain rfl:N=k:=by omega
   have bg:Hid (Zeh p s Z D=XQ p s Z D D.length):=JZ (Zvn aj.out (Zao fun i _ hi=>HA.out i (by rw [E.out] at hi;omega)));clear HA;go_wp2
   go_loopw [10,11] (fun b i wr=>∃(k:Nat) (z:Int),k≤N∧b= .int .i64 z∧i= .int .i64 k∧Below w.heap.size w wr∧Bk wr w.heap.size 26 [.slice A n c,.slice A' n' c',.slice ab ac ad]∧Bk wr (w.heap.size+1) 29 [.int .i64 s.phase,.slice Ab nb cb,.int .i64 s.pivots]∧Pl.Y8 p s Z D k z) (fun _ i _=>N - (intOf i).toNat)
   case atStart=>exact ⟨0,-1,by omega,rfl,rfl,d,hX,hS,Or.inl ⟨rfl,rfl⟩⟩
   case round=>
    clear d hX hS;obtain ⟨k,z,hk,rfl,rfl,d,hX,hS,hB⟩:=hrel;rcases JX k N with hkl | hkl
    ·obtain ⟨f,hf⟩:=Yb (fs:=D) (i:=k) (by rw [E.out];exact hkl);have bd:(k:Int) < N:=(by omega);have HQ:=JZ (Yo hf);have J:f.Sh:=(H.out k f hf).sh I.out;rcases hB with ⟨rfl,hB⟩ | ⟨t,rfl,htk,hB⟩
     ·obtain ⟨b',a5,B1,n1,k1,B2,n2,k2,rfl,c7,⟨q0,q1,q2,q3⟩,C⟩:=H4.out.elem d hf;have HB:=JZ hB;clear hB hf;go_wp2_with fail;refine (rsignF_any _ f _ C J).mono ?_;rintro _ w5 ⟨rfl,a⟩;have x:=hX.later a;have y:=hS.later a;have l:=Za d a d.size;clear q0 q1 q2 q3 hX hS d a C;rcases Int.lt_or_le 0 (qs f.q) with hq | hq
      ·have HN:=JZ (UB HB.out (by rw [HQ.out];exact Zjo.1 hq));go_wp2;go_roundw
       case rel=>exact ⟨k+1,(k:Int),by omega,rfl,by go_num,l,x,y,Or.inr ⟨k,rfl,by omega,HN.out⟩⟩
       case measure=>simp [intOf];omega
      ·have HN:=JZ (Zbl (p:=p) (s:=s) (Z:=Z) (D:=D) (k:=k) (by rw [HQ.out];intro e;have:=Zjo.2 e;omega));go_wp2;go_roundw
       case rel=>exact ⟨k+1,-1,by omega,rfl,by go_num,l,x,y,Or.inl ⟨rfl,HN.out.trans HB.out⟩⟩
       case measure=>simp [intOf];omega
     ·obtain ⟨g,hg⟩:=Yb (fs:=D) (i:=t) (by rw [E.out];omega);obtain ⟨fz,a2⟩:=Yb (fs:=Z) (i:=k) (by rw [X.out];omega);obtain ⟨gz,a3⟩:=Yb (fs:=Z) (i:=t) (by rw [X.out];omega);have bh:g.Sh:=(H.out t g hg).sh I.out;have a7:fz.Sh:=(U.out k fz a2).sh I.out;have bi:gz.Sh:=(U.out t gz a3).sh I.out;have bj:Hid (fz.q / f.q=Zrq Z D k):=JZ (by unfold Zrq;rw [Yo hf,Yo a2]);have bk:Hid (gz.q / g.q=Zrq Z D t):=JZ (by unfold Zrq;rw [Yo hg,Yo a3]);have bl:Hid (ShH (canF (Zrq Z D k))):=JZ (Sz.shH (Zje (U.out.qAt V.out k) (H.out.qAt V.out k)) ai.out);have ak:Hid (ShH (canF (Zrq Z D t))):=JZ (Sz.shH (Zje (U.out.qAt V.out t) (H.out.qAt V.out t)) ai.out);obtain ⟨b',a5,B1,n1,k1,B2,n2,k2,B3,n3,k3,B4,n4,k4,rfl,⟨q0,q1,q2,q3⟩,C,⟨r0,r1,r2,r3⟩,az⟩:=H4.out.elem2 d hf hg;obtain ⟨c',co,C1,m1,l1,C2,m2,l2,C3,m3,l3,C4,m4,l4,rfl,⟨z0,z1,z2,z3⟩,b0,⟨y0,y1,y2,y3⟩,b4⟩:=H3.out.elem2 d a2 a3;have al:=q0;have am:=q1;have an:=q2;have ao:=q3;have HB:=JZ hB;have cf:(t:Int) < N:=(by omega);have cg:0≤(t:Int):=(by omega);have ch:(k:Int) < LZ:=(by have:=X.out;omega);have ci:(t:Int) < LZ:=(by have:=X.out;omega);clear hB hf hg a2 a3;go_wp2_with fail;clear al am an ao;refine (rsignF_any _ f _ C J).mono ?_;rintro _ w5 ⟨rfl,a⟩;have x:=hX.later a;have y:=hS.later a;have l:=Za d a d.size;rcases Int.lt_or_le 0 (qs f.q) with hq | hq;rotate_left
      ·have HN:=JZ (Zbl (p:=p) (s:=s) (Z:=Z) (D:=D) (k:=k) (by rw [HQ.out];intro e;have:=Zjo.2 e;omega));clear q0 q1 q2 q3 r0 r1 r2 r3 z0 z1 z2 z3 y0 y1 y2 y3;go_wp2;go_roundw
       case rel=>exact ⟨k+1,(t:Int),by omega,rfl,by go_num,l,x,y,Or.inr ⟨t,rfl,by omega,HN.out.trans HB.out⟩⟩
       case measure=>simp [intOf];omega
      have Y:Hid (0 < qAt D k):=JZ (by rw [HQ.out];exact Zjo.1 hq);replace q0:=cell_below q0 a;replace q1:=cell_below q1 a;replace q2:=cell_below q2 a;replace q3:=cell_below q3 a;replace r0:=cell_below r0 a;replace r1:=cell_below r1 a;replace r2:=cell_below r2 a;replace r3:=cell_below r3 a;replace z0:=cell_below z0 a;replace z1:=cell_below z1 a;replace z2:=cell_below z2 a;replace z3:=cell_below z3 a;replace y0:=cell_below y0 a;replace y1:=cell_below y1 a;replace y2:=cell_below y2 a;replace y3:=cell_below y3 a;clear hX hS;go_wp2_with fail;have bm:=Zp q0;have bn:=Zp q1;have bp:=Zp q2;have bq:=Zp q3;have br:=Zp r0;have bs:=Zp r1;have bt:=Zp r2;have bu:=Zp r3;have bv:=Zp z0;have bw:=Zp z1;have bx:=Zp z2;have bz:=Zp z3;have c0:=Zp y0;have c3:=Zp y1;have c4:=Zp y2;have c5:=Zp y3;have m:=Zj w5;clear q0 q1 q2 q3 r0 r1 r2 r3 z0 z1 z2 z3 y0 y1 y2 y3 hq;refine Zq 20 [0,1,2,3,4,5,6,7,9,10,11,12,13,14,15,16,8,17,18,19] (by kernel_rfl) (by kernel_rfl) ?_;repeat ((first | (refine Zc (v:=?_) rfl rfl rfl ?_ ?_;rotate_left;(· (intro _ j;go_simp;(try go_bits);(try with_reducible rfl)))) | (refine Zg (v:=?_) rfl rfl rfl ?_ ?_;rotate_left;(· (intro _ j;go_simp;(try go_bits);(try with_reducible rfl)))) | refine Zh rfl rfl rfl ?_);(try simp only [Act.put,pu1,pu2,pu3,pu4,pu5,pu6]))
      refine Zd rfl rfl (fun KR hKR=>?_);go_simp;(with_reducible refine (Ztn _ _ fz f _ ((b0.below a).below m) ((C.below a).below m) a7 J).mono ?_);rw [bj.out];rintro _ w6 ⟨v6,rfl,e6,b5⟩;have G:=Za m b5 m.size;refine hKR.out _ _ (Or.inr G) ?_;clear hKR KR;(try simp only [Act.put,pu1,pu2,pu3,pu4,pu5,pu6]);repeat ((first | (refine Zc (v:=?_) rfl rfl rfl ?_ ?_;rotate_left;(· (intro _ j;go_simp;(try go_bits);(try with_reducible rfl)))) | (refine Zg (v:=?_) rfl rfl rfl ?_ ?_;rotate_left;(· (intro _ j;go_simp;(try go_bits);(try with_reducible rfl)))) | refine Zh rfl rfl rfl ?_);(try simp only [Act.put,pu1,pu2,pu3,pu4,pu5,pu6]))
      refine Zd rfl rfl (fun KR hKR=>?_);go_simp;(with_reducible refine (Ztn _ _ gz g _ ((b4.below a).below G) ((az.below a).below G) bi bh).mono ?_);rw [bk.out];rintro _ w7 ⟨v7,rfl,e7,ae⟩;have a0:=Za G ae G.size;refine hKR.out _ _ (Or.inr a0) ?_;clear hKR KR;(try simp only [Act.put,pu1,pu2,pu3,pu4,pu5,pu6]);repeat ((first | (refine Zc (v:=?_) rfl rfl rfl ?_ ?_;rotate_left;(· (intro _ j;go_simp;(try go_bits);(try with_reducible rfl)))) | (refine Zg (v:=?_) rfl rfl rfl ?_ ?_;rotate_left;(· (intro _ j;go_simp;(try go_bits);(try with_reducible rfl)))) | refine Zh rfl rfl rfl ?_);(try simp only [Act.put,pu1,pu2,pu3,pu4,pu5,pu6]))
      refine Zd rfl rfl (fun KR hKR=>?_);go_simp;(with_reducible refine (rcompareF_any _ _ (canF (Zrq Z D k)) (canF (Zrq Z D t)) _ (e6.frac.below ae) e7.frac bl.out ak.out).mono ?_);rw [Zu,Zu];generalize b9:qs (Zrq Z D k - Zrq Z D t)=sC;have a1:=JZ b9;clear b9;rintro _ w8 ⟨rfl,b6⟩;have L:=Za a0 b6 a0.size;refine hKR.out _ _ (Or.inr L) ?_;clear hKR KR;(try simp only [Act.put,pu1,pu2,pu3,pu4,pu5,pu6]);repeat ((first | (refine Zc (v:=?_) rfl rfl rfl ?_ ?_;rotate_left;(· (intro _ j;go_simp;(try go_bits);(try with_reducible rfl)))) | (refine Zg (v:=?_) rfl rfl rfl ?_ ?_;rotate_left;(· (intro _ j;go_simp;(try go_bits);(try with_reducible rfl)))) | refine Zh rfl rfl rfl ?_);(try simp only [Act.put,pu1,pu2,pu3,pu4,pu5,pu6]))
      refine Zz ?_;have M:=x.later L;have O:=y.later L;have o:=Za l L l.size;clear bm bn bp bq br bs bt bu bv bw bx bz c0 c3 c4 c5 x y l m G a0 L a b5 ae b6 e6 e7 C az b0 b4;obtain ⟨bb,bo,rfl,r⟩:=(HI.out.below o).all (show 0 < nb by omega);have c1:w8.cell? ⟨bb,bo+k,none⟩=some (.int .i64 (s.at_ k)):=r k (by omega);have c2:w8.cell? ⟨bb,bo+t,none⟩=some (.int .i64 (s.at_ t)):=r t (by omega);have be:(k:Int) < nb:=(by omega);have cj:(t:Int) < nb:=(by omega);obtain ⟨x0,x1,x2⟩:=M.three;obtain ⟨p0,p1,p2⟩:=O.three;have ap:=JZ (at_range ag.out u.out k);have aq:=JZ (at_range ag.out u.out t);clear r;go_wp2_with fail;have C0:=Zp x0;have a9:=Zp x1;have aa:=Zp x2;have D0:=Zp p0;have D1:=Zp p1;have D2:=Zp p2;have E1:=Zp c1;have E2:=Zp c2;have m:=Zj w8;clear x0 x1 x2 p0 p1 p2 c1 c2;refine Zq 23 [0,1,2,3,4,5,6,7,8,9,10,11,13,14,15,16,17,18,12,19,20,21,22] (by kernel_rfl) (by kernel_rfl) ?_;rcases Int.lt_trichotomy sC 0 with hc | hc | hc
      ·have HN:=JZ (VP HB.out Y.out (Or.inl (by have h9:=a1.out;have:=Zjn.1 (h9▸hc);grind)));repeat ((first | (refine Zc (v:=?_) rfl rfl rfl ?_ ?_;rotate_left;(· (intro _ j;go_simp;(try go_bits);(try with_reducible rfl)))) | (refine Zg (v:=?_) rfl rfl rfl ?_ ?_;rotate_left;(· (intro _ j;go_simp;(try go_bits);(try with_reducible rfl)))) | refine Zh rfl rfl rfl ?_ | refine Yy rfl rfl rfl (by assumption) ?_);(try simp only [Act.put,pu1,pu2,pu3,pu4,pu5,pu6]))
       refine Zz ?_;clear C0 a9 aa D0 D1 D2 E1 E2;go_wp2;go_roundw
       case rel=>exact ⟨k+1,(k:Int),by omega,rfl,by go_num,o.drew,M.drew,O.drew,Or.inr ⟨k,rfl,by omega,HN.out⟩⟩
       case measure=>simp [intOf];omega
      ·subst hc;have ar:Hid (Zrq Z D k=Zrq Z D t):=JZ (by have:=Yp.1 a1.out;grind);repeat ((first | (refine Zc (v:=?_) rfl rfl rfl ?_ ?_;rotate_left;(· (intro _ j;go_simp;(try go_bits);(try with_reducible rfl)))) | (refine Zg (v:=?_) rfl rfl rfl ?_ ?_;rotate_left;(· (intro _ j;go_simp;(try go_bits);(try with_reducible rfl)))) | refine Zh rfl rfl rfl ?_);(try simp only [Act.put,pu1,pu2,pu3,pu4,pu5,pu6]))
       refine Zd rfl rfl (fun KR hKR=>?_);go_simp;(with_reducible refine (rorder_any _ p (s.at_ k) _ ((af.out.below o).below m) ap.out.1 ap.out.2 u.out.cols).mono ?_);generalize ba:Ygt p (s.at_ k)=ok;have au:=JZ ba;clear ba;rintro _ w9 ⟨rfl,b7⟩;have P:=Za m b7 m.size;refine hKR.out _ _ (Or.inr P) ?_;clear hKR KR;(try simp only [Act.put,pu1,pu2,pu3,pu4,pu5,pu6]);repeat ((first | (refine Zc (v:=?_) rfl rfl rfl ?_ ?_;rotate_left;(· (intro _ j;go_simp;(try go_bits);(try with_reducible rfl)))) | (refine Zg (v:=?_) rfl rfl rfl ?_ ?_;rotate_left;(· (intro _ j;go_simp;(try go_bits);(try with_reducible rfl)))) | refine Zh rfl rfl rfl ?_);(try simp only [Act.put,pu1,pu2,pu3,pu4,pu5,pu6]))
       refine Zd rfl rfl (fun KR hKR=>?_);go_simp;(with_reducible refine (rorder_any _ p (s.at_ t) _ ((af.out.below o).below P) aq.out.1 aq.out.2 u.out.cols).mono ?_);generalize bc:Ygt p (s.at_ t)=ot;have av:=JZ bc;clear bc;rintro _ cp ⟨rfl,a6⟩;have B:=Za P a6 P.size;refine hKR.out _ _ (Or.inr B) ?_;clear hKR KR;(try simp only [Act.put,pu1,pu2,pu3,pu4,pu5,pu6]);repeat ((first | (refine Zc (v:=?_) rfl rfl rfl ?_ ?_;rotate_left;(· (intro _ j;go_simp;(try go_bits);(try with_reducible rfl)))) | (refine Zg (v:=?_) rfl rfl rfl ?_ ?_;rotate_left;(· (intro _ j;go_simp;(try go_bits);(try with_reducible rfl)))) | refine Zh rfl rfl rfl ?_);(try simp only [Act.put,pu1,pu2,pu3,pu4,pu5,pu6]))
       refine Zz ?_;clear C0 a9 aa D0 D1 D2 E1 E2;have aw:=M.later B;have ax:=O.later B;have a4:=Za o B o.size;clear M O o m P B b7 a6;rcases Int.lt_or_le ok ot with ho | ho
       ·have HN:=JZ (VP HB.out Y.out (Or.inr ⟨ar.out,by rw [au.out,av.out];exact ho⟩));go_wp2;go_roundw
        case rel=>exact ⟨k+1,(k:Int),by omega,rfl,by go_num,a4,aw,ax,Or.inr ⟨k,rfl,by omega,HN.out⟩⟩
        case measure=>simp [intOf];omega
       ·have HN:=JZ (UC HB.out Y.out (by intro e;rcases e with e | ⟨_,e⟩;(· rw [ar.out] at e;exact absurd e (by grind));(· rw [au.out,av.out] at e;omega)));go_wp2;go_roundw
        case rel=>exact ⟨k+1,(t:Int),by omega,rfl,by go_num,a4,aw,ax,Or.inr ⟨t,rfl,by omega,HN.out⟩⟩
        case measure=>simp [intOf];omega
      ·have HN:=JZ (UC (p:=p) (s:=s) HB.out Y.out (by have h9:=a1.out;have:=Zjo.1 (h9▸hc);intro e;rcases e with e | ⟨e,_⟩ <;> grind));obtain rfl:sC=1:=by have h9:=Ul (Zrq Z D k - Zrq Z D t);rw [a1.out] at h9;omega
       repeat ((first | (refine Zc (v:=?_) rfl rfl rfl ?_ ?_;rotate_left;(· (intro _ j;go_simp;(try go_bits);(try with_reducible rfl)))) | (refine Zg (v:=?_) rfl rfl rfl ?_ ?_;rotate_left;(· (intro _ j;go_simp;(try go_bits);(try with_reducible rfl)))) | refine Zh rfl rfl rfl ?_ | refine Yy rfl rfl rfl (by assumption) ?_);(try simp only [Act.put,pu1,pu2,pu3,pu4,pu5,pu6]))
       refine Zz ?_;clear C0 a9 aa D0 D1 D2 E1 E2;go_wp2;go_roundw
       case rel=>exact ⟨k+1,(t:Int),by omega,rfl,by go_num,o.drew,M.drew,O.drew,Or.inr ⟨t,rfl,by omega,HN.out⟩⟩
       case measure=>simp [intOf];omega
    ·obtain rfl:N=k:=by omega
     have HR:Hid (oi (Zeh p s Z D)=z):=JZ (by rw [bg.out,E.out];exact hB.oi);clear hB;go_wp2;go_ret;exact ⟨Zak HR.out,d⟩
theorem rleaving_any (v1 v2 v3 v4:Value) (p:LPd) (s:LSt) (Z D:List RF) (K:Nat) (w:World) (h:LpM w v1 p) (h2:StM w v2 s) (h3:Xh w v3 Z) (h4:Xh w v4 D) (F:p.Fit K) (S:s.Fit p) (hzl:D.length≤Z.length) (hdl:D.length≤p.right.length) (hkz:RsL (5^p.right.length * K) Z) (hkd:RsL (5^p.right.length * K) D):
 Calls Tryz.prog 70 #[v1,v2,v3,v4] w fun e w'=>e= .returned (.int .i64 (oi (Zeh p s Z D)))∧Below w.heap.size w w':=by
 rcases JV D.length with e | e
 ·exact rleaving_0 v1 v2 v3 v4 p s Z D K w h h2 h3 h4 F S hzl hdl hkz hkd (List.eq_nil_of_length_eq_zero e)
 ·by_cases hp:s.phase=2
  ·exact rleaving_2 v1 v2 v3 v4 p s Z D K w h h2 h3 h4 F S hzl hdl hkz hkd e hp
  ·exact rleaving_1 v1 v2 v3 v4 p s Z D K w h h2 h3 h4 F S hzl hdl hkz hkd e hp
end Go.Proofs.YtgbhebappffbdaaGreat
